/- Declarations of the fixed program: a declaration under way; size and initial. And what hangs on it. -/
import Derived.Test.YtcjgfgkllmldpaaGreatDoorGRA
set_option linter.unusedSimpArgs false
set_option linter.unusedVariables false
set_option maxHeartbeats 40000000
set_option maxRecDepth 1000000
namespace Go.Proofs.YtcjgfgkllmldpaaGreatDoor
open Go.RowKit
open Md Pz
theorem az2 {x:List UInt8} {r:bL} (h:at' x r=true):need x r= .ok () r.tail:=by unfold need;rw[if_pos h]
theorem az1 {x:List UInt8} {r:bL} (h:at' x r=false):need x r= .no r:=by unfold need;rw[if_neg ah0]
structure Pd (R:Rp) (bd:Nat) (w:World) (d:De) (rest:bL):Prop where
 rd:eP w R rest
 ne:bd≠R.br
 b0:R.B0<=bd
 blk:w.heap[bd]? =some (.cells (sF d).toArray 118 (0,0))
 ok:d.Ok
section
variable {R:Rp} {bd:Nat} {w W W':World} {d:De} {rest rest':bL}
theorem Pd.lt (h:Pd R bd W d rest):bd<W.heap.size:=(aI h.blk)
theorem Pd.then (h:Pd R bd W d rest) (h1:eP W' R rest') (h2:W.grownBy W' (some R.br)):Pd R bd W' d rest':=
 ⟨h1,h.ne,h.b0,(h2.block _ h.lt (by simp;exact h.ne)).trans h.blk,h.ok⟩
theorem Pd.below (h:Pd R bd W d rest) (hb:Below W.heap.size W W'):Pd R bd W' d rest:=h.then (h.rd.below hb) (kD hb)
theorem Pd.put (h:Pd R bd W d rest) (j:Nat) (v:Value) {y:De} (hy:(sF d).toArray.setIfInBounds j v=(sF y).toArray) (hok:y.Ok):Pd R bd (W.setCell ⟨bd,j,none⟩ v) y rest:=
 ⟨wN h.rd _ v h.b0 h.ne,h.ne,h.b0,by rw[dQ h.blk,hy],hok⟩
theorem Pd.nm (h:Pd R bd W d rest) (s:ByteArray) (hs:s.size<=maxLen):Pd R bd (W.setCell ⟨bd,2,none⟩ (.string s)) {d with nm:=s} rest:=
 h.put 2 _ rfl ⟨h.ok.1,h.ok.2.1,hs,h.ok.2.2.2⟩
theorem Pd.size (h:Pd R bd W d rest) (n:Int) (hn:cO n):Pd R bd (W.setCell ⟨bd,3,none⟩ (.int .i64 n)) {d with size:=n} rest:=
 h.put 3 _ rfl ⟨h.ok.1,h.ok.2.1,h.ok.2.2.1,hn,h.ok.2.2.2.2⟩
theorem Pd.init (h:Pd R bd W d rest) (n:Int) (hn:cO n):Pd R bd (W.setCell ⟨bd,4,none⟩ (.int .i64 n)) {d with init:=n} rest:=
 h.put 4 _ rfl ⟨h.ok.1,h.ok.2.1,h.ok.2.2.1,h.ok.2.2.2.1,hn,h.ok.2.2.2.2.2⟩
theorem Pd.on (h:Pd R bd W d rest) (s:ByteArray) (hs:s.size<=maxLen):Pd R bd (W.setCell ⟨bd,5,none⟩ (.string s)) {d with on:=s} rest:=
 h.put 5 _ rfl ⟨h.ok.1,h.ok.2.1,h.ok.2.2.1,h.ok.2.2.2.1,h.ok.2.2.2.2.1,hs⟩
theorem Pd.cell (h:Pd R bd W d rest) {j:Nat} {u:Value} (hu:(sF d).toArray[j]? =some u):W.cell? ⟨bd,j,none⟩=some u:=aG h.blk hu
theorem Pd.free (h:Pd R bd W d rest) (j:Nat):W.frozen? ⟨bd,j,none⟩=false:=bG h.blk
end
def DmP (R:Rp) (bd:Nat) (w:World) (res:yw De) (e:Ending) (w':World):Prop:=
 match res with
 | .ok d r=>e= .returned (.bool true)∧Pd R bd w' d r∧Fr R.br bd w w'
 | .no r=>e= .returned (.bool false)∧(∃d,Pd R bd w' d r)∧Fr R.br bd w w'
theorem RV {R:Rp} {bd:Nat} {w W:World} {res:yw De} {d:De} {r:bL} (e:res= .ok d r) (h:Pd R bd W d r) (hf:Fr R.br bd w W):DmP R bd w res (.returned (.bool true)) W:=by subst e;exact⟨rfl,h,hf⟩
theorem Fr.gr' {br bs:Nat} {w w1 w2:World} (h:Fr br bs w w1) (k:w1.grownBy w2 (some br)):Fr br bs w w2:=h.trans (Fr.wX k)
theorem aB5 {d:De} {ts:bL} (h:at' [91] ts=false):Bw d ts= .ok d ts:=by unfold Bw;rw[if_neg ah0]
theorem aB4 {d:De} {ts:bL} (h:at' [91] ts=true) (h1:isNum ts.tail=false):Bw d ts= .no ts.tail:=by unfold Bw;rw[if_pos h,if_neg ahr]
theorem aP5 {d:De} {ts:bL} (h:at' [91] ts=true) (h1:isNum ts.tail=true) (h2:(Tk.val (bT ts.tail)==0)=true):Bw d ts= .no ts.tail:=by unfold Bw;rw[if_pos h,if_pos h1,if_pos h2]
theorem Ye {d:De} {ts:bL} (h:at' [91] ts=true) (h1:isNum ts.tail=true) (h2:(Tk.val (bT ts.tail)==0)=false):Bw d ts=(need [93] ts.tail.tail).map λ_=> {d with size:=(Tk.val (bT ts.tail):Nat)} :=by unfold Bw;rw[if_pos h,if_pos h1,if_neg ahz]
theorem aN3 {d:De} {ts:bL} (h:at' [61] ts=false):Fh d ts= .ok d ts:=by unfold Fh;rw[if_neg ah0]
theorem ax5 {d:De} {ts:bL} (h:at' [61] ts=true) (h1:at' [45] ts.tail=false) (h2:isNum ts.tail=false):Fh d ts= .no ts.tail:=by unfold Fh;rw[if_pos h,if_neg ahr,if_neg ahz]
theorem ax6 {d:De} {ts:bL} (h:at' [61] ts=true) (h1:at' [45] ts.tail=false) (h2:isNum ts.tail=true):Fh d ts= .ok {d with init:=(Tk.val (bT ts.tail):Nat)} ts.tail.tail:=by unfold Fh;rw[if_pos h,if_neg ahr,if_pos h2]
theorem aP6 (R:Rp) (bd:Nat) (ts r:bL) (d d':De) (w:World) (hp:Pd R bd w d ts) (h:Bw d ts= .ok d' r):
 Calls Tryz.prog 142 #[.pointer (some ⟨R.br,0,none⟩),.pointer (some ⟨bd,0,none⟩)] w (DmP R bd w (.ok d' r)):=by
 have HP:=ah hp;clear hp;cases h1:at' [91] ts
 ·rw[aB5 h1]at h;injection h with e1 e2;subst e1 e2;go_enter Tryz.func142,Tryz.ntmps142;go_wp2_with fail;refine(qm R _ _ ⟨#[91]⟩ rfl h1 HP.o.rd).mono ?_;rintro e w1 ⟨rfl,h2⟩;have mI:=ah (HP.o.below h2);have HF:=ah (Fr.wX (br:=R.br) (bs:=bd) (kD h2));clear h2;go_wp2_with fail;go_ret;exact RV rfl mI.o HF.o
 ·cases h2:isNum ts.tail
  ·rw[aB4 h1 h2]at h;cases h
  cases h3:(Tk.val (bT ts.tail)==0)
  case true=>rw[aP5 h1 h2 h3]at h;cases h
  cases h4:at' [93] ts.tail.tail
  ·rw[Ye h1 h2 h3,az1 h4]at h;cases h
  rw[Ye h1 h2 h3,az2 h4]at h;have HV:aj (cO ((Tk.val (bT ts.tail):Nat):Int)):=ah acd;have h3':(((Tk.val (bT ts.tail):Nat):Int)==0)=false:=by rw[beq_eq_false_iff_ne]at h3⊢;omega
  have h':yw.ok {d with size:=((Tk.val (bT ts.tail):Nat):Int)} ts.tail.tail.tail=yw.ok d' r:=h;injection h' with e1 e2;subst e1 e2;clear h;go_enter Tryz.func142,Tryz.ntmps142;go_wp2_with fail;refine(lM R _ _ ⟨#[91]⟩ rfl h1 HP.o.rd).mono ?_;rintro e w1 ⟨rfl,k2,k3⟩;have mI:=ah (HP.o.then k2 k3);have Av:=ah (Fr.wX (bs:=bd) k3);clear k2 k3;go_wp2_with fail;refine(XY R _ _ h2 mI.o.rd).mono ?_;rintro e w2 ⟨rfl,k2,k3⟩;have jC:=ah (mI.o.then k2 k3);have yj:=ah (Av.o.gr' k3);clear k2 k3;have c3:=jC.o.cell (j:=3) rfl;have f3:=jC.o.free 3;go_upto_region 10 with fail;generalize hW:World.setCell w2 _ _=W;have qC:aj (Pd R bd W {d with size:=(Tk.val (bT ts.tail):Nat)} ts.tail.tail):=ah (by rw[<- hW];exact jC.o.size _ HV.o);have tu:aj (Fr R.br bd w W):=ah (by rw[<- hW];exact yj.o.set _ _ (.inl rfl));clear hW c3 f3 jC yj;go_wp2_with fail;refine(lM R _ _ ⟨#[93]⟩ rfl h4 qC.o.rd).mono ?_;rintro e w4 ⟨rfl,k2,k3⟩;have xC:=ah (qC.o.then k2 k3);have Ck:=ah (tu.o.gr' k3);clear k2 k3;go_wp2_with fail;go_ret;exact RV rfl xC.o Ck.o
theorem Zj (R:Rp) (bd:Nat) (ts r:bL) (d d':De) (w:World) (hp:Pd R bd w d ts) (hm:at' [45] ts.tail=false) (h:Fh d ts= .ok d' r):
 Calls Tryz.prog 143 #[.pointer (some ⟨R.br,0,none⟩),.pointer (some ⟨bd,0,none⟩)] w (DmP R bd w (.ok d' r)):=by
 have HP:=ah hp;clear hp;cases h1:at' [61] ts
 ·rw[aN3 h1]at h;injection h with e1 e2;subst e1 e2;go_enter Tryz.func143,Tryz.ntmps143;go_wp2_with fail;refine(qm R _ _ ⟨#[61]⟩ rfl h1 HP.o.rd).mono ?_;rintro e w1 ⟨rfl,h2⟩;have mI:=ah (HP.o.below h2);have HF:=ah (Fr.wX (br:=R.br) (bs:=bd) (kD h2));clear h2;go_wp2_with fail;go_ret;exact RV rfl mI.o HF.o
 ·cases h2:isNum ts.tail
  ·rw[ax5 h1 hm h2]at h;cases h
  rw[ax6 h1 hm h2]at h;injection h with e1 e2;subst e1 e2;have HV:aj (cO ((Tk.val (bT ts.tail):Nat):Int)):=ah acd;go_enter Tryz.func143,Tryz.ntmps143;go_wp2_with fail;refine(lM R _ _ ⟨#[61]⟩ rfl h1 HP.o.rd).mono ?_;rintro e w1 ⟨rfl,k2,k3⟩;have mI:=ah (HP.o.then k2 k3);have Av:=ah (Fr.wX (bs:=bd) k3);clear k2 k3;go_wp2_with fail;refine(qm R _ _ ⟨#[45]⟩ rfl hm mI.o.rd).mono ?_;rintro e w1 ⟨rfl,k2⟩;have jC:=ah (mI.o.below k2);have yj:=ah (Av.o.gr' (kD k2));clear k2;go_wp2_with fail;refine(XY R _ _ h2 jC.o.rd).mono ?_;rintro e w2 ⟨rfl,k2,k3⟩;have qC:=ah (jC.o.then k2 k3);have tu:=ah (yj.o.gr' k3);clear k2 k3;have c4:=qC.o.cell (j:=4) rfl;have f4:=qC.o.free 4;go_wp2_with fail;go_ret;exact RV rfl (qC.o.init _ HV.o) (tu.o.set _ _ (.inl rfl))
theorem FK {w:World} {K:Act->Prop} {a:Act} (h:K a):eY w K [] a:=h
def dvV (d:De):Value:= .agg #[.int .i64 d.kind,.int .i64 d.line,.string d.nm,.int .i64 d.size,.int .i64 d.init,.string d.on]
def aR2 (R:Rp) (w:World) (d:De) (r:bL) (e:Ending) (w':World):Prop:=(d.Ok∧e= .returned (.tuple #[dvV d,.bool true]))∧eP w' R r∧w.grownBy w' (some R.br)
def KV:Array Value:= #[.int .i64 0,.int .i64 0,.string ⟨#[]⟩,.int .i64 0,.int .i64 0,.string ⟨#[]⟩]
theorem af2:(Tryz.prog.info? 118).map (·.size)=some 6:=ahe
theorem z6 {w:World} {b:Nat} {t:TypeId} (h:w.heap[b]? =some (.cells KV t (0,0))):
 (w.cell? ⟨b,0,none⟩=some (.int .i64 0)∧w.cell? ⟨b,1,none⟩=some (.int .i64 0)∧w.cell? ⟨b,2,none⟩=some (.string ⟨#[]⟩)∧w.cell? ⟨b,3,none⟩=some (.int .i64 0)∧w.cell? ⟨b,4,none⟩=some (.int .i64 0)∧w.cell? ⟨b,5,none⟩=some (.string ⟨#[]⟩))∧∀j,w.frozen? ⟨b,j,none⟩=false:=
 ⟨⟨aG h rfl,aG h rfl,aG h rfl,aG h rfl,aG h rfl,aG h rfl⟩,λ_=>bG h⟩
theorem ba6 {R:Rp} {w W:World} {d:De} {r:bL} (hok:d.Ok) (hr:eP W R r) (hg:w.grownBy W (some R.br)) (hl:R.br<w.heap.size):
 aR2 R w d r (.returned (.tuple #[dvV d,.bool true])) (W.setCells w.heap.size 0 (sF d)):=
 ⟨⟨hok,rfl⟩,ED hr (dZ _ _ _ _) agm ahf,yD hg _ _ _ (aD _)⟩
def KzR (d:De) (r:bL) (dz:De) (rz:bL):Prop:=
 ((d.kind==1)=true∧∃d2 q,Bw d r= .ok d2 q∧at' [45] q.tail=false∧Fh d2 q= .ok dz rz)∨(((d.kind==1)=false∧(d.kind==2)=false∧(d.kind==5)=true)∧isName r=true∧dz= {d with on:=tx (bT r)} ∧rz=r.tail)∨
 (((d.kind==1)=false∧(d.kind==2)=false∧(d.kind==5)=false)∧dz=d∧rz=r)
theorem ag2 {br bd:Nat} {w w1 w2:World} (h:w.grownBy w1 (some br)) (hf:Fr br bd w1 w2) (hb:w.heap.size<=bd):w.grownBy w2 (some br):=
 ⟨hf.os.trans h.os,hf.tape.trans h.tape,hf.output.trans h.output,aO h.size hf.size,λk hk hn=>(hf.block k (aV hk h.size) (by simpa using hn) ahf).trans (h.block k hk hn)⟩
def Aq (P Q S:World->Prop):List Bool->World->Prop
 | [x,y],w=>if y then S w else if x then Q w else P w
 |_,_=>False
section
variable {P Q S:World->Prop} {c:List Bool} {w w':World} {k l i:Nat}
theorem Aq.bits (h:Aq P Q S c w): ∃x y,c=[x,y]:=by
 match c,h with
 | [x,y],_=>exact⟨x,y,rfl⟩
 | [],h=>exact h.elim
 | [_],h=>exact h.elim
 |_::_::_::_,h=>exact h.elim
theorem Aq.skip (h1:(k==i)=false) (h2:(l==i)=false) (h:Aq P Q S c w):Aq P Q S (jA [k,l] c i) w:=by
 obtain⟨x,y,rfl⟩:=h.bits;simp only[jA,h1,h2,Bool.or_false];exact h
theorem Aq.fire (h1:(k==i)=true) (h2:(l==i)=false) (h:Q w):Aq P Q S (jA [k,l] [false,false] i) w:=by
 simp only[jA,h1,h2,Bool.or_false,Bool.or_true];exact h
theorem Aq.last (h1:(k==i)=false) (h2:(l==i)=true) (h:S w):Aq P Q S (jA [k,l] [true,false] i) w:=by
 simp only[jA,h1,h2,Bool.or_false,Bool.or_true];exact h
theorem Aq.gr {x:Bool} {T:World->Prop} (hp: ∀w,P w->T w) (hq: ∀w,Q w->T w) (h:Aq P Q S [x,false] w):T w:=by
 cases x
 ·exact hp w h
 ·exact hq w h
end
theorem PV (R:Rp) (ts rz:bL) (dz:De) (w:World) (hI:eP w R ts) (hk:isDecl ts=true) (hn:isName ts.tail=true) (hKR:KzR ⟨sS (bT ts),((gH ts:Nat):Int),tx (bT ts.tail),0,0,⟨#[]⟩⟩ ts.tail.tail dz rz) (h4:at' [59] rz=true):
 Calls Tryz.prog 116 #[.pointer (some ⟨R.br,0,none⟩)] w (aR2 R w dz rz.tail):=by
 have HKR:=ah hKR;clear hKR;have HI:=ah hI;have HL:=ah (Ir hI);have hlt:=hI.lt;have bV3:=ah hlt;obtain⟨t0,r0,hr⟩: ∃t r,ts=t::r:=by
  cases ts with
  |nil=>exact absurd hk (by simp[isDecl,nextK])
  |cons t r=>exact⟨t,r,rfl⟩
 have Qz:=ah hr;have hd0:(sS (bT ts)==0)=false:=by unfold isDecl at hk;simp only[aM,Bool.not_eq_true']at hk;exact hk.2
 have HKD:=ah (aM1 (bT ts) hd0);clear hk hr hd0;go_enter Tryz.func116,Tryz.ntmps116;go_upto_region 1 with fail;generalize hW:World.alloc w _=W0;have HB0:aj (Below w.heap.size w W0):=ah afd;have HZ0:aj (W0.heap[w.heap.size]? =some (.cells KV 118 (0,0))):=ah acC;have HN:=ah (rX R ts W0 (HI.o.below HB0.o));unfold yY at HN;clear hW hI;go_wp2_with fail;refine HN.o.mono ?_;rintro e w1 ⟨rfl,h2⟩;have HB1:=ah (HB0.o.trans (h2.mono HB0.o.size));have HZ1:=jq h2 HZ0;clear h2 HN HB0 HZ0;go_upto_region 2 with fail;generalize hW:World.alloc w1 _=W2;obtain⟨gt,hg,-,-,HT2,-⟩:=oJ hW;rw[hg];have HB2:aj (Below w.heap.size w W2):=ah acs;have HZ2:aj (W2.heap[w.heap.size]? =some (.cells KV 118 (0,0))):=ah aby;have kW:aj (R.br<w.heap.size∧w.heap.size<gt):=ah ⟨hlt,by rw[<- hg];exact(aI HZ1.o)⟩;obtain⟨pos,hp,q0,q1,fq,HX⟩:=(HI.o.below HB2.o).open;clear hW hg HB1 HZ1;go_upto_region 3 with fail;generalize hW:World.setCell W2 _ _=W3;have HQ:aj (eP W3 R ts.tail∧W2.grownBy W3 (some R.br)):=ah adg;have SK:aj (w.grownBy W3 (some R.br)):=ah (jD (kD HB2.o) HQ.o.2);have HT3:=ah ((HQ.o.2.block _ (aI HT2.o) afF).trans HT2.o);have HZ3:=ah ((HQ.o.2.block _ (aI HZ2.o) afF).trans HZ2.o);have aV5:=ah HQ.o.1;clear hW q0 q1 fq HX HB2 HT2 HZ2 HQ;have K1: ∀w',Below W3.heap.size W3 w'->w'.cell? ⟨gt,1,none⟩=some (.string (tx (bT ts))):=λw' h=>aG ((h.block _ (aI HT3.o)).trans HT3.o) rfl;have K2: ∀w',Below W3.heap.size W3 w'->w'.cell? ⟨gt,2,none⟩=some (.int .i64 ((gH ts:Nat):Int)):=λw' h=>aG ((h.block _ (aI HT3.o)).trans HT3.o) rfl;refine cK ahe rfl ?_;refine bW 0 7 [] [[],[0],[0,1],[],[3],[0,1,2,3,4],[],[0,1,2,3,4,5,6]] [[],[],[],[],[],[],[]] (λ_ w'=>Below W3.heap.size W3 w') (λw w'=>Below w.heap.size w w') [16,17,18,19,20,21,5] rfl rfl aix ahe ahe ahe ahe ahe aix (λ_=>ak _ _) aix (below_drewN (ak _ _) 1) ?_;simp only[gJ,kE]
 iterate 2
  apply bH.step
  case cu=>intro c A w' hok hC hO hD;have e4:=hO 4 aix;simp[Act.eval]at e4;simp[Act.eval]at hD;simp[go_sem,gd,Oper.wp,hD,e4,K1,hC];exact AbN
 apply bH.step
 case cu=>intro c A w' hok hC hO hD;simp[Act.eval]at hD;simp[go_sem,gd,Oper.wp,hD];refine(Ka (tx (bT ts)) (l:=bT ts) (Qg _) w').mono ?_;rintro e w2 ⟨rfl,rfl⟩;exact AbN
 iterate 3
  apply bH.step
  case cu=>intro c A w' hok hC hO hD;have e4:=hO 4 aix;simp[Act.eval]at e4;simp[Act.eval]at hD;simp[go_sem,gd,Oper.wp,hD,e4,K2,hC];exact AbN
  try simp only[dI]
 refine bH.some (λv w'=> ∃db,v= .pointer (some ⟨db,0,none⟩)∧W3.heap.size<=db∧w'.heap[db]? =some (.cells KV 118 (0,0))) ?_ ?_ ?_
 ·rintro v w1 w' hle ⟨g,h1,h2,h3⟩;exact⟨g,h1,h2,(hle.block g (aI h3)).trans h3⟩
 ·intro c A w' hok hC hO hD;simp[go_sem,gd,Oper.wp];exact aZ.mk (d:=_) (v:= .pointer (some ⟨_,0,none⟩)) (aA _ _) (hC.alloc hC.size _) ⟨_,rfl,hC.size,heap_alloc_new _ _⟩
 simp only[dI];refine bH.done ?_;intro wz dx;simp only[List.drop_zero];intro v0 h0 v1 h1 v2 h2 v3 h3 v4 h4 v5 h5 v6 h6;have h5':=Eq.symm (show v5=_ from h5);subst h5';obtain⟨bd,rfl,be9,Im⟩:=h6;clear h0 h1 h2 h3 h4 h5 K1 K2;have HD0:aj ((⟨sS (bT ts),((gH ts:Nat):Int),⟨#[]⟩,0,0,⟨#[]⟩⟩:De).Ok):=ah ⟨by have:=HKD.o;show cO (sS _);unfold cO;omega,HL.o,bC _,Fg,Fg,bC _⟩;have qN:aj (Below W3.heap.size W3 wz):=ah dx;have HDB:aj (W3.heap.size<=bd∧wz.heap[bd]? =some (.cells KV 118 (0,0))):=ah ⟨be9,Im⟩;clear dx be9;refine FK ?_;go_simp;refine dD 7 [[],[0],[0,1],[],[3],[0,1,2,3,4],[],[0,1,2,3,4,5,6]] rfl rfl rfl rfl rfl ahe ahe ahe ?_;refine wp_store_mid _ _ _ aix bd 0 (sF ⟨sS (bT ts),((gH ts:Nat):Int),⟨#[]⟩,0,0,⟨#[]⟩⟩).toArray aix aix (GV Im (aD 6)) af2 agy ?_;refine dH rfl ?_;generalize tT:World.setCells wz bd 0 _=W5;have rZ:aj (w.heap.size<bd∧R.br<bd):=ah (by have h1:=HDB.o.1;have h2:=(aI HZ3.o);have h3:=kW.o;omega);have Qr:aj (wz.grownBy W5 (some bd)):=ah (by rw[<- tT];exact dZ _ _ _ _);have Td:aj (Pd R bd W5 ⟨sS (bT ts),((gH ts:Nat):Int),⟨#[]⟩,0,0,⟨#[]⟩⟩ ts.tail):=ah ⟨ED (aV5.o.below qN.o) Qr.o (by have:=rZ.o;have:=R.b0;omega) agr,agr,by have:=rZ.o;have:=R.b0;omega,by rw[<- tT];exact mP HDB.o.2 rfl,HD0.o⟩;have Yw:aj (w.grownBy W5 (some R.br)):=ah (by rw[<- tT];exact yD (jD SK.o (kD qN.o)) _ _ _ (bg rZ.o.1));have gF:aj (W5.heap[w.heap.size]? =some (.cells KV 118 (0,0))):=ah ((Qr.o.block _ (aV (aI HZ3.o) qN.o.size) (by have:=rZ.o;simp;omega)).trans ((qN.o.block _ (aI HZ3.o)).trans HZ3.o));clear tT Qr qN HDB Im HD0 aV5 SK HT3 HZ3;go_simp;have zi:aj ((tx (bT ts.tail)).size<=maxLen):=ah (zy (zF Td.o.rd.ts hn));go_wp2_with fail;refine(wG R _ _ hn Td.o.rd).mono ?_;rintro e w6 ⟨rfl,h2,h3⟩;have vO:=ah (Td.o.then h2 h3);have aT2:=ah (jD Yw.o h3);have iN:=ah ((h3.block _ (aI gF.o) afF).trans gF.o);clear h2 h3 Td Yw gF;have c2:=vO.o.cell (j:=2) rfl;have f2:=vO.o.free 2;go_upto_region 6 with fail;generalize hW:World.setCell w6 _ _=W7;have EP:aj (Pd R bd W7 ⟨sS (bT ts),((gH ts:Nat):Int),tx (bT ts.tail),0,0,⟨#[]⟩⟩ ts.tail.tail):=ah (by rw[<- hW];exact vO.o.nm _ zi.o);have Yx:aj (w.grownBy W7 (some R.br)):=ah (by rw[<- hW];exact Ej aT2.o _ _ (bg rZ.o.1));have O1:aj (W7.heap[w.heap.size]? =some (.cells KV 118 (0,0))):=ah (by rw[<- hW];exact(bF w6 _ _ rfl aeJ).trans iN.o);clear hW vO aT2 iN c2 f2;obtain⟨dd,WI⟩: ∃dd,aj ((⟨sS (bT ts),((gH ts:Nat):Int),tx (bT ts.tail),0,0,⟨#[]⟩⟩:De)=dd):=⟨_,ah rfl⟩;have HKK:aj (dd.kind=sS (bT ts)):=ah (by rw[<- WI.o]);rw[WI.o]at EP HKR;obtain⟨r1,HR1⟩: ∃r1,aj (ts.tail.tail=r1):=⟨_,ah rfl⟩;rw[HR1.o]at EP HKR;have c0:W7.cell? ⟨bd,0,none⟩=some (.int .i64 dd.kind):=EP.o.cell rfl;go_upto_block 0 with fail;go_cut [6] (λs6 W'=>s6= .bool true∧Pd R bd W' dz rz∧w.grownBy W' (some R.br)∧W'.heap[w.heap.size]? =some (.cells KV 118 (0,0)))
 case first=>
  rcases HKR.o with⟨k1,d2,q,hs,hm,hi⟩|⟨⟨k1,k2,k5⟩,hm,hz,hr⟩|⟨⟨k1,k2,k5⟩,hz,hr⟩
  ·have HC:=ah (aP6 R bd r1 q dd d2 W7 EP.o hs);have IW:aj (∀W,Pd R bd W d2 q->Calls Tryz.prog 143 #[.pointer (some ⟨R.br,0,none⟩),.pointer (some ⟨bd,0,none⟩)] W (DmP R bd W (.ok dz rz))):=ah (λW h=>Zj R bd q rz d2 dz W h hm hi);clear hs hm hi;go_wp2_with fail;refine HC.o.mono ?_;rintro e w8 ⟨rfl,h2,h3⟩;have Az:=ah h2;have SN:=ah (ag2 Yx.o h3 (bg rZ.o.1));have QG:=ah (Lm h3 O1.o afn agr);clear h2 h3 HC;have HC:=ah (IW.o _ Az.o);clear IW;go_wp2_with fail;refine HC.o.mono ?_;rintro e w9 ⟨rfl,h2,h3⟩;have DK:=ah h2;have HF9:=ah h3;clear h2 h3;go_wp2_with fail;go_meet;exact⟨rfl,DK.o,ag2 SN.o HF9.o (bg rZ.o.1),Lm HF9.o QG.o afn agr⟩
  ·have YD:aj ((tx (bT r1)).size<=maxLen):=ah (zy (zF EP.o.rd.ts hm));subst hz hr;go_wp2_with fail;refine(wG R _ _ hm EP.o.rd).mono ?_;rintro e w8 ⟨rfl,h2,h3⟩;have Az:=ah (EP.o.then h2 h3);have SN:=ah (jD Yx.o h3);have QG:=ah ((h3.block _ (aI O1.o) afF).trans O1.o);clear h2 h3;have c5:=Az.o.cell (j:=5) rfl;have f5:=Az.o.free 5;go_wp2_with fail;go_meet;exact⟨rfl,Az.o.on _ YD.o,Ej SN.o _ _ (bg rZ.o.1),(bF w8 _ _ rfl aeJ).trans QG.o⟩
  ·subst hz hr;go_wp2_with fail;go_meet;exact⟨rfl,EP.o,Yx.o,O1.o⟩
 obtain⟨rfl,hPd,hGr,hZ⟩:=hcut;obtain⟨W8,rfl⟩: ∃W:World,W=wc:=⟨_,rfl⟩;have Az:=ah hPd;have SN:=ah hGr;have QG:=ah hZ;clear hPd hGr hZ EP Yx O1 c0 HKR;have KD: ∀w',W8.grownBy w' (some R.br)->(w'.cell? ⟨bd,0,none⟩=some (.int .i64 dz.kind)∧w'.cell? ⟨bd,1,none⟩=some (.int .i64 dz.line)∧w'.cell? ⟨bd,2,none⟩=some (.string dz.nm)∧w'.cell? ⟨bd,3,none⟩=some (.int .i64 dz.size)∧w'.cell? ⟨bd,4,none⟩=some (.int .i64 dz.init)∧w'.cell? ⟨bd,5,none⟩=some (.string dz.on)):=λw' h=>by have hb:=(h.block _ Az.o.lt (by simp;exact Az.o.ne)).trans Az.o.blk;exact⟨aG hb rfl,aG hb rfl,aG hb rfl,aG hb rfl,aG hb rfl,aG hb rfl⟩
 have HIP:aj (eP W8 R rz):=ah Az.o.rd;have e0: ∀w',W8.grownBy w' (some R.br)->w'.heap[w.heap.size]? =some (.cells KV 118 (0,0)):=λw' h=>(h.block _ (aI QG.o) afF).trans QG.o;have Sz:=ah e0;clear e0;go_upto_region 15 with fail;refine cK ahe rfl ?_;refine bW 0 8 [4,6] [[],[],[1],[1,2],[1,2,3],[1,2,3,4],[0,1,2,3,4],[0,1,2,3,4,5,6]] [[none,some false],[some false,some false],[some false,some false],[some false,some false],[some false,some false],[some true,none],[some true,some false],[some true,some true]] (Aq (λw'=>eP w' R rz∧W8.grownBy w' (some R.br)) (λw'=>eP w' R rz.tail∧W8.grownBy w' (some R.br)) (λw'=> ∃w2,(eP w2 R rz.tail∧W8.grownBy w2 (some R.br))∧w'=w2.setCells w.heap.size 0 (sF dz))) (λ_ _=>True) [53,54,55,56,57,58,3] rfl rfl aix ahe ahe ahe ahe ahe aix (λ_=>trivial) aix ⟨HIP.o.below (below_drewN (ak _ _) 1),kD (below_drewN (ak _ _) 1)⟩ ?_;simp only[gJ,kE];apply bH.step
 case cu=>intro c A w' hok hC hO hD;obtain⟨x,y,rfl⟩:=hC.bits;obtain⟨rfl,-⟩:=hok;obtain⟨d0,d1,d2,d3,d4,d5⟩:=KD w' (hC.gr (λ_ h=>h.2) (λ_ h=>h.2));have e5:=hO 5 aix;simp[Act.eval]at e5;simp[Act.eval]at hD;simp[go_sem,gd,Oper.wp,e5,d0,d1,d2,d3,d4,d5];exact aZ.mk trivial (Aq.skip aix aix hC) (dO.mk _ _)
 iterate 3
  apply bH.step
  case cu=>intro c A w' hok hC hO hD;have e6:=hO 6 aix;have e0:=hO 0 aix;simp[Act.eval]at e6 e0;simp[Act.eval]at hD;simp[go_sem,gd,Oper.wp,hD,e6,e0];exact aZ.mk trivial (Aq.skip aix aix hC) (dO.mk _ _)
 apply bH.step
 case cu=>intro c A w' hok hC hO hD;obtain⟨x,y,rfl⟩:=hC.bits;obtain⟨rfl,rfl,-⟩:=hok;simp[Act.eval]at hD;simp[go_sem,gd,Oper.wp,hD];refine(lM R _ _ ⟨#[59]⟩ rfl h4 hC.1).mono ?_;rintro e w3 ⟨rfl,k2,k3⟩;exact aZ.mk trivial (Aq.fire aix aix ⟨k2,jD hC.2 k3⟩) (dO.mk _ _)
 try simp only[dI]
 apply bH.step
 case cu=>intro c A w' hok hC hO hD;simp[Act.eval]at hD;simp[go_sem,gd,Oper.wp,hD];exact aZ.mk trivial (Aq.skip aix aix hC) (dO.mk _ _)
 refine bH.some (λ_ _=>True) (λ_ _ _ _ _=>trivial) ?_ ?_
 ·intro c A w' hok hC hO hD;obtain⟨x,y,rfl⟩:=hC.bits;obtain⟨rfl,rfl,-⟩:=hok;have e2:=hO 2 aix;simp[Act.eval]at e2;simp[Act.eval]at hD;simp only[gd,if_true];refine wp_store_mid _ _ _ aix w.heap.size 0 (sF dz).toArray (by simp[Act.eval,e2]) (by simp[Act.eval,hD,sF]) (GV (Sz.o w' hC.2) (aD 6)) af2 agy ?_;exact aZ.EA trivial (Aq.last aix aix ⟨w',hC,rfl⟩) trivial
 apply bH.step
 case cu=>intro c A w' hok hC hO hD;simp[Act.eval]at hD;simp[go_sem,gd,Oper.wp,hD];exact aZ.mk trivial (Aq.skip aix aix hC) (dO.mk _ _)
 try simp only[dI]
 refine bH.done ?_;intro w9 hC9
 try simp only[List.drop_succ_cons,List.drop_zero]
 intro x0 h0 x1 h1 x2 h2 x3 h3 x4 h4 x5 h5 x6 h6 x7 h7;have h7':=Eq.symm (show x7=_ from h7);subst h7';clear h0 h1 h2 h3 h4 h5 h6 h7;refine FK ?_;refine dH rfl ?_;obtain⟨w2,hw2,hw9⟩: ∃w2,(eP w2 R _∧W8.grownBy w2 (some R.br))∧w9=w2.setCells w.heap.size 0 (sF dz):=hC9;have yc:w9.heap[w.heap.size]? =some (.cells (sF dz).toArray 118 (0,0)):=by rw[hw9];exact mP (Sz.o w2 hw2.2) rfl
 have HW9:=ah hw9;obtain⟨y0,y1,y2,y3,y4,y5⟩:=zn yc;have HFN:=ah (ba6 (d:=dz) Az.o.ok hw2.1 (jD SN.o hw2.2) kW.o.1);rw[<- hw9]at HFN;clear hw9 yc KD;go_simp;go_wp2_with fail;exact bodyPost_ret (v:= .tuple #[dvV dz,.bool true]) (by simp[results,Tryz.results116,go_sem,dvV,y0,y1,y2,y3,y4,y5]) rfl HFN.o
theorem aN1:(Tryz.prog.info? 9).map (λi=>(i.zero,i.size,i.bytes))=some (some (.string ⟨#[]⟩),1,16):=ahe
theorem bg2: ∃i0,Tryz.prog.info? 9=some i0∧i0.zero=some (.string ⟨#[]⟩)∧i0.size=1∧i0.bytes=16:=info_parts aN1
theorem bI4 (k:Int) (s:ByteArray) (n:Int) (w:World):(Instr.field 164 (.agg #[.int .i64 k,.string s,.int .i64 n]) 0).run Tryz.prog w= .ok (.int .i64 k) w:=ahe
theorem bI5 (k:Int) (s:ByteArray) (n:Int) (w:World):(Instr.field 164 (.agg #[.int .i64 k,.string s,.int .i64 n]) 1).run Tryz.prog w= .ok (.string s) w:=ahe
theorem bI6 (k:Int) (s:ByteArray) (n:Int) (w:World):(Instr.field 164 (.agg #[.int .i64 k,.string s,.int .i64 n]) 2).run Tryz.prog w= .ok (.int .i64 n) w:=ahe
def aY9 (R:Rp) (w:World) (t:Th) (r:bL) (e:Ending) (w':World):Prop:=(∃x:fZ,x.t=t∧e= .returned (.tuple #[.agg (fZ.f x).toArray,.bool true])∧(x.t.Ok∧x.t.cZ.length<=x.eF)∧iH w.heap.size w' (fZ.I x))∧eP w' R r∧w.grownBy w' (some R.br)
def Yp:Array Value:= #[.string ⟨#[]⟩,.int .i64 0,.slice none 0 0,.slice none 0 0]
theorem z4t {w:World} {b:Nat} {t:TypeId} (h:w.heap[b]? =some (.cells Yp t (0,0))):
 (w.cell? ⟨b,0,none⟩=some (.string ⟨#[]⟩)∧w.cell? ⟨b,1,none⟩=some (.int .i64 0)∧w.cell? ⟨b,2,none⟩=some (.slice none 0 0)∧w.cell? ⟨b,3,none⟩=some (.slice none 0 0))∧∀j,w.frozen? ⟨b,j,none⟩=false:=
 ⟨⟨aG h rfl,aG h rfl,aG h rfl,aG h rfl⟩,λ_=>bG h⟩
structure Ps (R:Rp) (bt B:Nat) (w W:World) (nm:ByteArray) (line:Int) (v:Value) (l:List ByteArray) (rest:bL):Prop where
 rd:eP W R rest
 gr:w.grownBy W (some R.br)
 lt:R.br<w.heap.size∧w.heap.size<bt∧bt<B∧B<=W.heap.size
 z:W.heap[w.heap.size]? =some (.cells Yp 63 (0,0))
 blk:W.heap[bt]? =some (.cells #[.string nm,.int .i64 line,v,.slice none 0 0] 63 (0,0))
 row:kC B W v l
section
variable {R:Rp} {bt B:Nat} {w W W':World} {nm:ByteArray} {line:Int} {v:Value} {l:List ByteArray} {rest rest':bL}
theorem Ps.then (h:Ps R bt B w W nm line v l rest) (h1:eP W' R rest') (h2:W.grownBy W' (some R.br)):Ps R bt B w W' nm line v l rest':=
 ⟨h1,jD h.gr h2,⟨h.lt.1,h.lt.2.1,h.lt.2.2.1,aO h.lt.2.2.2 h2.size⟩,(h2.block _ (aI h.z) afG).trans h.z,(h2.block _ (aI h.blk) afG).trans h.blk,h.row.next (BJ h2 aff)⟩
theorem Ps.below (h:Ps R bt B w W nm line v l rest) (hb:Below W.heap.size W W'):Ps R bt B w W' nm line v l rest:=h.then (h.rd.below hb) (kD hb)
theorem Ps.cells (h:Ps R bt B w W nm line v l rest):W.cell? ⟨bt,0,none⟩=some (.string nm)∧W.cell? ⟨bt,1,none⟩=some (.int .i64 line)∧W.cell? ⟨bt,2,none⟩=some v∧W.cell? ⟨bt,3,none⟩=some (.slice none 0 0)∧∀j,W.frozen? ⟨bt,j,none⟩=false:=
 ⟨aG h.blk rfl,aG h.blk rfl,aG h.blk rfl,aG h.blk rfl,λ_=>bG h.blk⟩
theorem Ps.name (h:Ps R bt B w W nm line v l rest) (s:ByteArray):Ps R bt B w (W.setCell ⟨bt,0,none⟩ (.string s)) s line v l rest:=
 ⟨wN h.rd _ _ abh adq,Ej h.gr _ _ adA,by have:=h.lt;simpa[World.setCell]using this,(bF W _ _ rfl adu).trans h.z,agD,h.row.next (iM W ⟨bt,0,none⟩ _ h.lt.2.2.1)⟩
theorem Ps.cZ {v':Value} {l':List ByteArray} (h:Ps R bt B w W nm line v l rest) (hr:eP W' R rest) (hg:w.grownBy W' (some R.br)) (hB:Below B W W') (hrow:kC B W' v' l'):Ps R bt B w (W'.setCell ⟨bt,2,none⟩ v') nm line v' l' rest:=
 ⟨wN hr _ _ abh adq,Ej hg _ _ adA,abJ,(bF W' _ _ rfl adu).trans ((hB.block _ aff).trans h.z),by rw[dQ ((hB.block _ h.lt.2.2.1).trans h.blk)];rfl,hrow.next (iM W' ⟨bt,2,none⟩ _ h.lt.2.2.1)⟩
theorem Ps.Xl (h:Ps R bt B w W nm line v l rest) (b:Value): ∀W',W.setCell ⟨bt,3,none⟩ b=W'->eP W' R rest∧w.grownBy W' (some R.br)∧W'.heap[w.heap.size]? =some (.cells Yp 63 (0,0))∧W'.heap[bt]? =some (.cells #[.string nm,.int .i64 line,v,b] 63 (0,0)):=by
 intro W' hW;subst hW;exact⟨wN h.rd _ _ abh adq,Ej h.gr _ _ adA,(bF W _ _ rfl adu).trans h.z,agD⟩
end
theorem an3 {R:Rp} {w W:World} {x:fZ} {r:bL} {B:Nat} (hok:x.t.Ok∧x.t.cZ.length<=x.eF) (hst:iH B W (fZ.I x)) (hB:w.heap.size<B) (hr:eP W R r) (hg:w.grownBy W (some R.br)) (hl:R.br<w.heap.size):
 aY9 R w x.t r (.returned (.tuple #[.agg (fZ.f x).toArray,.bool true])) (W.setCells w.heap.size 0 (fZ.f x)):=
 ⟨⟨x,rfl,rfl,hok,(hst.next ⟨(dZ w.heap.size _ 0 W).size,λk h1 h2=>(dZ w.heap.size _ 0 W).block k h2 ahi⟩).mono (bg hB)⟩,ED hr (dZ _ _ _ _) agm ahf,yD hg _ _ _ (aD _)⟩
def LzR (r6:bL) (l:List ByteArray) (r:bL):Prop:=
 (at' [41] r6=true∧l=[]∧r=r6.tail)∨(at' [41] r6=false∧isName r6=true∧at' [44] r6.tail=false∧at' [41] r6.tail=true∧l=[tx (bT r6)]∧r=r6.tail.tail)
theorem an4 (R:Rp) (ts r q:bL) (l:List ByteArray) (b:bf) (w:World) (hI:eP w R ts) (hk:at' [116,104,114,101,97,100] ts=true) (hn:isName ts.tail=true) (h4:at' [40] ts.tail.tail=true) (hl:LzR ts.tail.tail.tail l r) (ZX:aj (wR R r b q)):
 Calls Tryz.prog 118 #[.pointer (some ⟨R.br,0,none⟩)] w (aY9 R w ⟨tx (bT ts.tail),gH ts,l,b⟩ q):=by
 have HLZ:=ah hl;clear hl;have HI:=ah hI;have HL:=ah (Ir hI);have hlt:=hI.lt;obtain⟨t0,r0,hr⟩:=ad6 hk;have Qz:=ah hr;clear hk hr;have hf2:=bI6;go_enter Tryz.func118,Tryz.ntmps118;go_upto_region 1 with fail;generalize hW:World.alloc w _=W0;have HB0:aj (Below w.heap.size w W0):=ah afd;have HZ0:aj (W0.heap[w.heap.size]? =some (.cells Yp 63 (0,0))):=ah acC;have HN:=ah (rX R ts W0 (HI.o.below HB0.o));unfold yY at HN;clear hW hI;go_wp2_with fail;refine HN.o.mono ?_;rintro e w1 ⟨rfl,h2⟩;have HB1:=ah (HB0.o.trans (h2.mono HB0.o.size));have HZ1:=jq h2 HZ0;clear h2 HN HB0 HZ0;go_upto_region 2 with fail;obtain⟨bt,hg⟩: ∃g,w1.heap.size=g:=⟨_,rfl⟩;rw[hg];generalize hW:World.alloc w1 _=W2;have HB2:aj (Below w.heap.size w W2):=ah acs;have kW:aj (R.br<w.heap.size∧w.heap.size<bt):=ah ⟨hlt,by rw[<- hg];exact(aI HZ1.o)⟩;have HS2:aj (Ps R bt (bt+1) w W2 ⟨#[]⟩ ((gH ts:Nat):Int) (.slice none 0 0) [] ts):=ah ⟨HI.o.below HB2.o,kD HB2.o,⟨hlt,kW.o.2,Nat.lt_succ_self _,agN⟩,aby,aa6,Grow.nil _ _ _ _ _ _⟩;obtain⟨pos,hp,q0,q1,fq,HX⟩:=HS2.o.rd.open;clear hW hg HB1 HZ1 HB2;go_upto_region 3 with fail;generalize hW:World.setCell W2 _ _=W3;have HQ:aj (eP W3 R ts.tail∧W2.grownBy W3 (some R.br)):=ah adg;have kH:=ah (HS2.o.then HQ.o.1 HQ.o.2);clear hW q0 q1 fq HX HQ HS2;have zi:aj ((tx (bT ts.tail)).size<=maxLen):=ah (zy (zF kH.o.rd.ts hn));go_wp2_with fail;refine(wG R _ _ hn kH.o.rd).mono ?_;rintro e w4 ⟨rfl,h2,h3⟩;have qj:=ah (kH.o.then h2 h3);clear h2 h3 kH;obtain⟨c0,c1,c2,c3,fc⟩:=qj.o.cells;have fc0:=fc 0;go_upto_region 5 with fail;generalize hW:World.setCell w4 _ _=W5;have HS5:aj (Ps R bt (bt+1) w W5 (tx (bT ts.tail)) ((gH ts:Nat):Int) (.slice none 0 0) [] ts.tail.tail):=ah (by rw[<- hW];exact qj.o.name _);clear hW c0 c1 c2 c3 fc fc0 qj;go_wp2_with fail;refine(lM R _ _ ⟨#[40]⟩ rfl h4 HS5.o.rd).mono ?_;rintro e w6 ⟨rfl,h2,h3⟩;have uU:=ah (HS5.o.then h2 h3);clear h2 h3 HS5;obtain⟨r6,uT⟩: ∃r6,aj (ts.tail.tail.tail=r6):=⟨_,ah rfl⟩;rw[uT.o]at uU HLZ;rcases HLZ.o with⟨h5,hl,hr⟩|⟨h5,hm,h6,h7,hl,hr⟩
 ·subst hl hr;clear HLZ;have IY:aj (([]:List ByteArray).length<=maxLen):=ah (bC _);have dN:aj (∀s∈([]:List ByteArray),s.size<=maxLen):=ah ahh;go_wp2_with fail;refine(lM R _ _ ⟨#[41]⟩ rfl h5 uU.o.rd).mono ?_;rintro e w7 ⟨rfl,h2,h3⟩;have NQ:=ah (uU.o.then h2 h3);clear h2 h3 uU;obtain⟨v',Tw⟩: ∃v',aj (Ps R bt (bt+1) w _ (tx (bT ts.tail)) ((gH ts:Nat):Int) v' ([]:List ByteArray) r6.tail):=⟨_,NQ⟩;clear NQ;go_wp2_with fail;refine(ZX.o _ Tw.o.rd).mono ?_;rintro e w8 ⟨⟨ao,cap,rfl,hl,hst⟩,h2,h3⟩;have AA:=ah (Tw.o.then h2 h3);have rA:aj (b.len<=maxLen∧iH (bt+1) w8 (λw2=>b.At w2 w2.heap.size ao 0)):=ah ⟨aO hl afa,hst.mono Tw.o.lt.2.2.2⟩;clear h2 h3 hl hst;obtain⟨iO,eF,hv,hcl,htx⟩:=AA.o.row.says dN.o;have HV:=ah hv;have AB:=ah (ay hcl htx);clear hv hcl htx;obtain⟨c0,c1,c2,c3,fc⟩:=AA.o.cells;have fc3:=fc 3;go_upto_region 16 with fail;generalize hW:World.setCell w8 _ _=W9;have G9:=ah (AA.o.Xl (.slice ao b.len cap) W9 hW);have LM:aj (kT (bt+1) w8 W9):=ah abl;clear hW c0 c1 c2 c3 fc fc3;obtain⟨e0,e1⟩:=uK G9.o.2.2.2;have e2:W9.cell? ⟨bt,2,none⟩=some (.slice iO (([]:List ByteArray)).length eF):=(aG G9.o.2.2.2 rfl).trans (congrArg some HV.o);have e3:W9.cell? ⟨bt,3,none⟩=some (.slice ao b.len cap):=aG G9.o.2.2.2 rfl;obtain⟨⟨y0,y1,y2,y3⟩,fz⟩:=z4t G9.o.2.2.1;have g0:=fz 0;have g1:=fz 1;have g2:=fz 2;have g3:=fz 3;clear fz;go_wp2_with fail;exact bodyPost_ret (v:= .tuple #[.agg (fZ.f ⟨⟨tx (bT ts.tail),((gH ts:Nat):Int),([]:List ByteArray),b⟩,iO,eF,ao,cap⟩).toArray,.bool true]) abD rfl (an3 (x:=⟨⟨tx (bT ts.tail),((gH ts:Nat):Int),([]:List ByteArray),b⟩,iO,eF,ao,cap⟩) (B:=bt+1) ⟨⟨zi.o,HL.o,IY.o,rA.o.1⟩,AB.o.1⟩ (λw2 h2=>⟨AB.o.2 w2 (LM.o.trans h2),rA.o.2 w2 (LM.o.trans h2)⟩) afn G9.o.1 G9.o.2.1 kW.o.1)
 ·subst hr;clear HLZ;obtain⟨i0,hi,hz0,hz1,hz2⟩:=bg2;have fF:=ah (ay hi (ay hz0 (ay hz1 hz2)));clear hi hz0 hz1 hz2;go_wp2_with fail;refine(qm R _ _ ⟨#[41]⟩ rfl h5 uU.o.rd).mono ?_;rintro e w7 ⟨rfl,h2⟩;have NQ:=ah (uU.o.below h2);clear h2 uU;go_wp2_with fail;go_loopw [6] (λ_ wr=>wr=w7) (λ_ _=>0)
  case atStart=>rfl
  case round=>
   subst hrel;have YD:aj ((tx (bT r6)).size<=maxLen):=ah (zy (zF NQ.o.rd.ts hm));go_wp2_with fail;refine(wG R _ _ hm NQ.o.rd).mono ?_;rintro e w8 ⟨rfl,h2,h3⟩;have AA:=ah (NQ.o.then h2 h3);clear h2 h3 NQ;obtain⟨c0,c1,c2,c3,fc⟩:=AA.o.cells;go_upto_region 11 with fail;obtain⟨s0,Tn⟩: ∃s0,aj (tx (bT r6)=s0):=⟨_,ah rfl⟩;rw[Tn.o]at hl YD⊢;have kV:=ah (AA.o.row.next (bR (aA w8 (.cells (uf s0).toArray 9))));have iV:=ah (gG (heap_alloc_new w8 (.cells (uf s0).toArray 9)));obtain⟨hi,hz0,hz1,hz2⟩:=fF.o;have hbs:bt+1<=w8.heap.size+1:=Nat.le_succ_of_le AA.o.lt.2.2.2;have hkl:0+1<=maxLen:=afc
   have UG:(0+1)*16<=140737488355328:=ahf
   have fc2:=fc 2;clear fc;go_wp2_with (at_builtin;refine wpList_append_lies _ rfl _ _ 26 rfl (bt+1) 9 i0 _ 1 16 Tryz.underlying26 hi hz0 hz1 hz2 rfl ahg _ _ _ rfl kV.o.own ⟨w8.heap.size,0,none⟩ 1 1 (uf s0) rfl rfl iV.o (by simp[uf,Value.oneCell']) ahg hkl UG afe _ rfl ?_);clear hi hz0 hz1 hz2;intro g cap w9 hown hgr hmv hlt2;have pO:aj (∀k,(Value.slice none 0 0).ownBlock=some k->bt+1<=k):=ah (λk hk=>(AA.o.row.lt k hk).1);have yc:aj (Below (bt+1) (w8.alloc (.cells (uf s0).toArray 9)) w9):=ah (yA hgr pO.o afe);have rA:aj (Below (bt+1) w8 w9):=ah (((aA w8 (.cells (uf s0).toArray 9)).mono AA.o.lt.2.2.2).trans yc.o);have JD:aj (qI (bt+1) (Value.slice none 0 0).ownBlock (w8.alloc (.cells (uf s0).toArray 9)) (λ_=>True)):=ah (λ_ _=>trivial);have xw:=ah (kV.o.push (x:=s0) JD.o rfl hown hgr afy);have QA:aj (eP w9 R r6.tail):=ah (P5 (Bo AA.o.rd _) hgr (λk hk=>by have h1:=pO.o k hk;have h2:=kW.o;have h3:=R.b0;omega));have Js:aj (w.grownBy w9 (some R.br)):=ah (Oj (Bj AA.o.gr _) (yc.o.mono afn));have Af:w9.heap[bt]? =some (.cells #[.string (tx (bT ts.tail)),.int .i64 ((gH ts:Nat):Int),.slice none 0 0,.slice none 0 0] 63 (0,0)):=(rA.o.block _ (Nat.lt_succ_self _)).trans AA.o.blk;have c2:w9.cell? ⟨bt,2,none⟩=some (.slice none 0 0):=aG Af rfl;have f2:w9.frozen? ⟨bt,2,none⟩=false:=bG Af;clear hown hgr hmv hlt2 hbs hkl UG JD iV kV yc Af fc2;go_upto_region 12 with fail;generalize hW:World.setCell w9 _ _=J4;have MK:aj (Ps R bt (bt+1) w J4 (tx (bT ts.tail)) ((gH ts:Nat):Int) (.slice (some ⟨g,0,none⟩) 1 cap) [s0] r6.tail):=ah (by rw[<- hW];exact AA.o.cZ QA.o Js.o rA.o xw.o);clear hW c2 f2 AA QA Js rA xw pO;subst hl;have dN:aj (∀s∈ [s0],s.size<=maxLen):=ah (λy hy=>by rw[List.mem_singleton.1 hy];exact YD.o);have IY:aj ([s0].length<=maxLen):=ah ah9;go_wp2_with fail;refine(qm R _ _ ⟨#[44]⟩ rfl h6 MK.o.rd).mono ?_;rintro e RB ⟨rfl,h2⟩;have as4:=ah (MK.o.below h2);clear h2 MK;go_wp2_with fail;refine(lM R _ _ ⟨#[41]⟩ rfl h7 as4.o.rd).mono ?_;rintro e VJ ⟨rfl,h2,h3⟩;have aW0:=ah (as4.o.then h2 h3);clear h2 h3 as4;obtain⟨v',Tw⟩: ∃v',aj (Ps R bt (bt+1) w _ (tx (bT ts.tail)) ((gH ts:Nat):Int) v' [s0] r6.tail.tail):=⟨_,aW0⟩;clear aW0;go_wp2_with fail;refine(ZX.o _ Tw.o.rd).mono ?_;rintro e w8 ⟨⟨ao,cap,rfl,hl,hst⟩,h2,h3⟩;have AA:=ah (Tw.o.then h2 h3);have rA:aj (b.len<=maxLen∧iH (bt+1) w8 (λw2=>b.At w2 w2.heap.size ao 0)):=ah ⟨aO hl afa,hst.mono Tw.o.lt.2.2.2⟩;clear h2 h3 hl hst;obtain⟨iO,eF,hv,hcl,htx⟩:=AA.o.row.says dN.o;have HV:=ah hv;have AB:=ah (ay hcl htx);clear hv hcl htx;obtain⟨c0,c1,c2,c3,fc⟩:=AA.o.cells;have fc3:=fc 3;go_upto_region 16 with fail;generalize hW:World.setCell w8 _ _=W9;have G9:=ah (AA.o.Xl (.slice ao b.len cap) W9 hW);have LM:aj (kT (bt+1) w8 W9):=ah abl;clear hW c0 c1 c2 c3 fc fc3;obtain⟨e0,e1⟩:=uK G9.o.2.2.2;have e2:W9.cell? ⟨bt,2,none⟩=some (.slice iO ([s0]).length eF):=(aG G9.o.2.2.2 rfl).trans (congrArg some HV.o);have e3:W9.cell? ⟨bt,3,none⟩=some (.slice ao b.len cap):=aG G9.o.2.2.2 rfl;obtain⟨⟨y0,y1,y2,y3⟩,fz⟩:=z4t G9.o.2.2.1;have g0:=fz 0;have g1:=fz 1;have g2:=fz 2;have g3:=fz 3;clear fz;go_wp2_with fail;exact bodyPost_ret (v:= .tuple #[.agg (fZ.f ⟨⟨tx (bT ts.tail),((gH ts:Nat):Int),[s0],b⟩,iO,eF,ao,cap⟩).toArray,.bool true]) abD rfl (an3 (x:=⟨⟨tx (bT ts.tail),((gH ts:Nat):Int),[s0],b⟩,iO,eF,ao,cap⟩) (B:=bt+1) ⟨⟨zi.o,HL.o,IY.o,rA.o.1⟩,AB.o.1⟩ (λw2 h2=>⟨AB.o.2 w2 (LM.o.trans h2),rA.o.2 w2 (LM.o.trans h2)⟩) afn G9.o.1 G9.o.2.1 kW.o.1)
theorem aM8:(Tryz.prog.info? 118).map (λi=>(i.zero,i.size,i.bytes))=some (some (.agg KV),6,64):=ahe
theorem bf9: ∃i0,Tryz.prog.info? 118=some i0∧i0.zero=some (.agg KV)∧i0.size=6∧i0.bytes=64:=info_parts aM8
theorem aN0:(Tryz.prog.info? 63).map (λi=>(i.zero,i.size,i.bytes))=some (some (.agg Yp),4,72):=ahe
theorem bg1: ∃i0,Tryz.prog.info? 63=some i0∧i0.zero=some (.agg Yp)∧i0.size=4∧i0.bytes=72:=info_parts aN0
def YL (R:Rp) (w:World) (res:yw Pr) (e:Ending) (w':World):Prop:=
 match res with
 | .ok p r=>(∃aQ aJ aR aH,e= .returned (.tuple #[.agg #[.slice aQ p.ds.length aJ,.slice aR p.ts.length aH],.bool (!p.ts.isEmpty)])∧(p.ds.length<=4096∧p.ts.length<=4096∧p.ds.length<=aJ∧p.ts.length<=aH)∧iH w.heap.size w' (λw2=>jG w2 w2.heap.size p.ds aQ 0∧iP w2 w2.heap.size p.ts aR 0))∧eP w' R r∧w.grownBy w' (some R.br)
 | .no r=>(∃a n c a' n' c',e= .returned (.tuple #[.agg #[.slice a n c,.slice a' n' c'],.bool false]))∧eP w' R r∧w.grownBy w' (some R.br)
def zP2:Array Value:= #[.slice none 0 0,.slice none 0 0]
structure Pg (R:Rp) (bp:Nat) (w W:World) (vD vT:Value) (rest:bL):Prop where
 rd:eP W R rest
 gr:w.grownBy W (some R.br)
 lt:R.br<w.heap.size∧w.heap.size<bp∧bp<W.heap.size
 z:W.heap[w.heap.size]? =some (.cells zP2 52 (0,0))
 blk:W.heap[bp]? =some (.cells #[vD,vT] 52 (0,0))
section
variable {R:Rp} {bp:Nat} {w W W':World} {vD vT:Value} {rest rest':bL}
theorem Pg.then (h:Pg R bp w W vD vT rest) (h1:eP W' R rest') (h2:W.grownBy W' (some R.br)):Pg R bp w W' vD vT rest':=
 ⟨h1,jD h.gr h2,⟨h.lt.1,h.lt.2.1,aV h.lt.2.2 h2.size⟩,(h2.block _ (aI h.z) afG).trans h.z,(h2.block _ (aI h.blk) afG).trans h.blk⟩
theorem Pg.below (h:Pg R bp w W vD vT rest) (hb:Below W.heap.size W W'):Pg R bp w W' vD vT rest:=h.then (h.rd.below hb) (kD hb)
theorem Pg.put (h:Pg R bp w W vD vT rest) (hr:eP W' R rest) (hg:w.grownBy W' (some R.br)) (hB:Below (bp+1) W W') (j:Nat) (v vD' vT':Value) (hy:(#[vD,vT]:Array Value).setIfInBounds j v= #[vD',vT']):Pg R bp w (W'.setCell ⟨bp,j,none⟩ v) vD' vT' rest:=
 ⟨wN hr _ _ (by have:=h.lt;have:=R.b0;show R.B0<=bp;omega) (by have:=h.lt;show bp≠R.br;omega),Ej hg _ _ (by have:=h.lt;show _<=bp;omega),abJ,(bF W' _ _ rfl (by have:=h.lt;show bp≠_;omega)).trans ((hB.block _ aff).trans h.z),by rw[dQ ((hB.block _ (Nat.lt_succ_self _)).trans h.blk),hy]⟩
theorem Pg.cells (h:Pg R bp w W vD vT rest):W.cell? ⟨bp,0,none⟩=some vD∧W.cell? ⟨bp,1,none⟩=some vT∧∀j,W.frozen? ⟨bp,j,none⟩=false:=
 ⟨aG h.blk rfl,aG h.blk rfl,λ_=>bG h.blk⟩
end
theorem aO5:(Tryz.prog.info? 52).map (·.size)=some 2:=ahe
theorem bk0 {R:Rp} {w W:World} {p:Pr} {aQ aR:Option Addr} {aJ aH:Nat} {r:bL} {res:yw Pr} {B:Nat} (e:res= .ok p r) (hl:p.ds.length<=4096∧p.ts.length<=4096∧p.ds.length<=aJ∧p.ts.length<=aH)
 (hst:iH B W (λw2=>jG w2 w2.heap.size p.ds aQ 0∧iP w2 w2.heap.size p.ts aR 0)) (hB:w.heap.size<B) (hr:eP W R r) (hg:w.grownBy W (some R.br)) (hlt:R.br<w.heap.size):
 YL R w res (.returned (.tuple #[.agg #[.slice aQ p.ds.length aJ,.slice aR p.ts.length aH],.bool (!p.ts.isEmpty)])) (W.setCells w.heap.size 0 [.slice aQ p.ds.length aJ,.slice aR p.ts.length aH]):=by
 subst e;exact⟨⟨aQ,aJ,aR,aH,rfl,hl,(hst.next ⟨(dZ w.heap.size _ 0 W).size,λk h1 h2=>(dZ w.heap.size _ 0 W).block k h2 ahi⟩).mono (bg hB)⟩,ED hr (dZ _ _ _ _) agm ahf,yD hg _ _ _ (aD _)⟩
def Cv (P S:World->Prop):List Bool->World->Prop
 | [x],w=>if x then S w else P w
 |_,_=>False
section
variable {P S:World->Prop} {c:List Bool} {w w':World} {k i:Nat}
theorem Cv.bits (h:Cv P S c w): ∃x,c=[x]:=by
 match c,h with
 | [x],_=>exact⟨x,rfl⟩
 | [],h=>exact h.elim
 |_::_::_,h=>exact h.elim
theorem Cv.skip (h1:(k==i)=false) (h:Cv P S c w):Cv P S (jA [k] c i) w:=by
 obtain⟨x,rfl⟩:=h.bits;simp only[jA,h1,Bool.or_false];exact h
theorem Cv.fire (h1:(k==i)=true) (h:S w):Cv P S (jA [k] [false] i) w:=by
 simp only[jA,h1,Bool.or_true];exact h
end
theorem aj1 (rest:bL):isDecl rest=((((nextK rest:Nat):Int)==3)&&(sS (bT rest) != 0)):=by
 unfold isDecl;rw[Ri 3];rfl
theorem kT.aZ7 {B:Nat} {w w1 w2:World} (h:kT B w w1) (hb:Below w.heap.size w1 w2):kT B w w2:=⟨aO h.1 hb.size,λk h1 h2=>(hb.block k h2).trans (h.2 k h1 h2)⟩
theorem aO3 {R:Rp} {w:World} {ts:bL} {bp:Nat} (hI:eP w R ts) (hg:w.heap.size+1=bp): ∀W,((w.alloc (.cells #[.slice none 0 0,.slice none 0 0] 52)).alloc (.cells #[.slice none 0 0,.slice none 0 0] 52))=W->Pg R bp w W (.slice none 0 0) (.slice none 0 0) ts:=by
 intro W hW;have hb1:Below w.heap.size w (w.alloc (.cells #[.slice none 0 0,.slice none 0 0] 52)):=aA _ _;have hz1:(w.alloc (.cells #[.slice none 0 0,.slice none 0 0] 52)).heap[w.heap.size]? =some (.cells zP2 52 (0,0)):=heap_alloc_new _ _;have hs1:(w.alloc (.cells #[.slice none 0 0,.slice none 0 0] 52)).heap.size=bp:=by simp[hg]
 generalize w.alloc (.cells #[.slice none 0 0,.slice none 0 0] 52)=W1 at *;have hb2:Below w.heap.size w W:=aee
 exact⟨hI.below hb2,kD hb2,⟨hI.lt,ahf,agN⟩,by rw[<- hW];exact(heap_alloc_old _ _ (aI hz1)).trans hz1,acw⟩
inductive Dz:bL->List De->bL->Prop
 |nil {ts:bL} :isDecl ts=false->Dz ts [] ts
 |cons {ts q r:bL} {d:De} {m:List De} :isDecl ts=true->isName ts.tail=true->KzR ⟨sS (bT ts),((gH ts:Nat):Int),tx (bT ts.tail),0,0,⟨#[]⟩⟩ ts.tail.tail d q->at' [59] q=true->Dz q.tail m r->Dz ts (d::m) r
inductive Tz (S:bL->bf->bL->Prop):bL->List Th->bL->Prop
 |nil {ts:bL} :at' [116,104,114,101,97,100] ts=false->Tz S ts [] ts
 |cons {ts r q r':bL} {l:List ByteArray} {b:bf} {m:List Th} :at' [116,104,114,101,97,100] ts=true->isName ts.tail=true->at' [40] ts.tail.tail=true->LzR ts.tail.tail.tail l r->S r b q->Tz S q m r'->Tz S ts (⟨tx (bT ts.tail),gH ts,l,b⟩::m) r'
theorem ZA (R:Rp) (S:bL->bf->bL->Prop) (Tv:aj (∀r b q,S r b q->wR R r b q)) (ts r1 r9:bL) (ds:List De) (th:List Th) (hD:Dz ts ds r1) (hT:Tz S r1 th r9) (hl:ds.length<=4096∧th.length<=4096) (w:World) (hI:eP w R ts):
 Calls Tryz.prog 76 #[.pointer (some ⟨R.br,0,none⟩)] w (YL R w (.ok ⟨ds,th⟩ r9)):=by
 have HI:=ah hI;have kW:=ah hI.lt;have HDT:=ah (ay hD hT);have IY:=ah hl;have hf0:=bI4;have hf1:=bI5;clear hI hD hT hl;go_enter Tryz.func76,Tryz.ntmps76;go_upto_block 0 with fail;obtain⟨bp,hg⟩: ∃g,w.heap.size+1=g:=⟨_,rfl⟩;rw[hg];generalize hW:World.alloc (World.alloc w _) _=W0;have Tc:aj (Pg R bp w W0 (.slice none 0 0) (.slice none 0 0) ts):=ah (aO3 HI.o hg W0 hW);clear hW hg;go_cut [] (λW'=> ∃vD,Pg R bp w W' vD (.slice none 0 0) r1∧He (bp+1) W' vD ds∧(∀d∈ds,d.Ok))
 case first=>
  obtain⟨i0,hi,hz0,hz1,hz2⟩:=bf9;have fF:=ah (ay hi (ay hz0 (ay hz1 hz2)));clear hi hz0 hz1 hz2;go_wp2_with fail;go_loopg [5,6] ds.length (λgk _ _ wr=> ∃(l m:List De) (rest:bL) (vD:Value),gk=m.length∧Dz rest m r1∧l++m=ds∧Pg R bp w wr vD (.slice none 0 0) rest∧He (bp+1) wr vD l∧(∀d∈l,d.Ok))
  case atStart=>exact⟨[],ds,ts,_,rfl,HDT.o.1,rfl,Tc.o,Grow.nil _ _ _ _ _ _,ahh⟩
  case round=>
   obtain⟨l,m,rest,vD,rfl,hz,hlm,hs,hg,hok⟩:=hrel;have NI:=ah hlm;have NJ:aj (l.length+m.length<=4096):=ah (by have h1:=congrArg List.length hlm;simp only[au]at h1;have:=IY.o;omega);have HS:=ah hs;have HG:=ah hg;have kK:=ah hok;have HDZ:=ah hz;obtain⟨av,cv,hv⟩:=hg.len;have dN:=ah (λw hI=>rX R rest w hI);unfold yY at dN;have WH:=ah (λw=>Ka (tx (bT rest)) (l:=bT rest) (Qg _) w);clear hlm hs hg hok hz Tc;subst hv;go_upto_region 2 with fail;go_cut [19] (λs19 W'=>s19= .bool (isDecl rest)∧Below wr.heap.size wr W')
   case first=>
    have HE:=ah (aj1 rest);generalize isDecl rest=b at *;generalize ((nextK rest:Nat):Int)=k at *;generalize tx (bT rest)=s at *;generalize sS (bT rest)=dc at *;cases hk:(k==3)
    ·go_wp2_with fail;refine(dN.o _ HS.o.rd).mono ?_;rintro e w1 ⟨rfl,h2⟩;have HB1:=ah h2;clear h2;go_wp2_with fail;go_meet;exact⟨by rw[HE.o,hk];rfl,HB1.o⟩
    ·go_wp2_with fail;refine(dN.o _ HS.o.rd).mono ?_;rintro e w1 ⟨rfl,h2⟩;have HB1:=ah h2;have HR1:=ah (HS.o.rd.below h2);clear h2;go_wp2_with fail;refine(dN.o _ HR1.o).mono ?_;rintro e w2 ⟨rfl,h2⟩;have HB2:=ah (HB1.o.trans (h2.mono HB1.o.size));clear h2;go_wp2_with fail;refine(WH.o _).mono ?_;rintro e w3 ⟨rfl,rfl⟩;go_wp2_with fail;go_meet;exact⟨by rw[HE.o,hk];rfl,HB2.o⟩
   obtain⟨rfl,hB⟩:=hcut;obtain⟨W1,rfl⟩: ∃W:World,W=wc:=⟨_,rfl⟩;have jX:=ah (HS.o.below hB);have rD:=ah (HG.o.next (bR hB));clear hB HS HG dN WH;cases HDZ.o with
   |nil hd=>have hq:l=ds:=aeT;subst hq;rw[hd];go_wp2_with fail;go_meet;exact⟨_,jX.o,rD.o,kK.o⟩
   | @cons _ q _ d m hd hn hk h4 hzz=>
     have HC:=ah (PV R rest q d W1 jX.o.rd hd hn hk h4);have QH:=ah hzz;obtain⟨r,HRQ⟩: ∃r,aj (q.tail=r):=⟨_,ah rfl⟩;rw[HRQ.o]at HC QH;rw[hd];clear hn hk h4 hzz HDZ hd;go_wp2_with fail;refine HC.o.mono ?_;clear HC;rintro e w2 ⟨⟨UC,rfl⟩,h2,h3⟩;have HDO:=ah UC;have HS2:=ah (jX.o.then h2 h3);have HG2:=ah (rD.o.next (BJ h3 (by have:=jX.o.lt;omega)));clear h2 h3 jX rD UC;unfold dvV;go_upto_region 4 with fail;generalize hW:World.alloc w2 _=W3;obtain⟨gd,hg,-,-,HB3,-⟩:=oJ hW;have kH:aj (Pg R bp w W3 _ _ r):=ah adU;have Cm:aj (He (bp+1) W3 _ l):=ah acr;rw[hg];clear hW hg HS2 HG2;obtain⟨e0,e1,e2,e3,e4,e5⟩:(W3.cell? ⟨gd,0,none⟩=some (.int .i64 d.kind)∧W3.cell? ⟨gd,1,none⟩=some (.int .i64 d.line)∧W3.cell? ⟨gd,2,none⟩=some (.string d.nm)∧W3.cell? ⟨gd,3,none⟩=some (.int .i64 d.size)∧W3.cell? ⟨gd,4,none⟩=some (.int .i64 d.init)∧W3.cell? ⟨gd,5,none⟩=some (.string d.on)):=⟨aG HB3.o rfl,aG HB3.o rfl,aG HB3.o rfl,aG HB3.o rfl,aG HB3.o rfl,aG HB3.o rfl⟩;obtain⟨c0,c1,fc⟩:=kH.o.cells;clear fc;have kV:=ah (Cm.o.next (bR (aA W3 (.cells (sF d).toArray 118))));have iV:=ah (gG (heap_alloc_new W3 (.cells (sF d).toArray 118)));obtain⟨hi,hz0,hz1,hz2⟩:=fF.o;have hbs:bp+1<=W3.heap.size+1:=(by have:=kH.o.lt;omega);have hkl:l.length+1<=maxLen:=abO;have bd9:(l.length+1)*64<=140737488355328:=adQ;go_wp2_with (at_builtin;refine wpList_append_lies _ rfl _ _ 49 rfl (bp+1) 118 i0 _ 6 64 Tryz.underlying49 hi hz0 hz1 hz2 rfl ahg _ _ _ rfl kV.o.own ⟨W3.heap.size,0,none⟩ 1 1 (sF d) rfl rfl iV.o agy ahg hkl bd9 afe _ rfl ?_);clear hi hz0 hz1 hz2;intro g cap w9 hown hgr hmv hlt2;have pO:aj (∀k,(Value.slice av (l).length cv).ownBlock=some k->bp+1<=k):=ah (λk hk=>(Cm.o.lt k hk).1);have yc:aj (Below (bp+1) (W3.alloc (.cells (sF d).toArray 118)) w9):=ah (yA hgr pO.o afe);have rA:aj (Below (bp+1) W3 w9):=ah (((aA W3 (.cells (sF d).toArray 118)).mono kH.o.lt.2.2).trans yc.o);have JD:aj (qI (bp+1) (Value.slice av (l).length cv).ownBlock (W3.alloc (.cells (sF d).toArray 118)) (λ_=>True)):=ah (λ_ _=>trivial);have QA:aj (eP w9 R r):=ah (P5 (Bo kH.o.rd _) hgr (λk hk=>by have h1:=pO.o k hk;have h2:=kH.o.lt;have h3:=R.b0;omega));have Js:aj (w.grownBy w9 (some R.br)):=ah (Oj (Bj kH.o.gr _) (yc.o.mono (by have:=kH.o.lt;omega)));have Af:w9.heap[bp]? =some (.cells _ 52 (0,0)):=(rA.o.block _ (Nat.lt_succ_self _)).trans kH.o.blk;have xw:=ah (kV.o.push (x:=d) JD.o rfl hown hgr afy);have c0:w9.cell? ⟨bp,0,none⟩=some (.slice av l.length cv):=aG Af rfl;have f0:w9.frozen? ⟨bp,0,none⟩=false:=bG Af;clear hown hgr hmv hlt2 hbs hkl bd9 JD iV kV yc Af e0 e1 e2 e3 e4 e5 c1;go_wp2_with fail;generalize hW:World.setCell w9 _ _=J4;have MK:aj (Pg R bp w J4 (.slice (some ⟨g,0,none⟩) (l.length+1) cap) (.slice none 0 0) r):=ah (by rw[<- hW];exact kH.o.put QA.o Js.o rA.o 0 _ _ _ rfl);have ar0:aj (He (bp+1) J4 (.slice (some ⟨g,0,none⟩) (l.length+1) cap) (l++[d])):=ah (by rw[<- hW];exact xw.o.next (iM w9 ⟨bp,0,none⟩ _ (Nat.lt_succ_self _)));have WV:aj (∀y∈l++[d],y.Ok):=ah (λy hy=>by
      rcases List.mem_append.1 hy with hy|hy
      ·exact kK.o y hy
      ·rw[List.mem_singleton.1 hy];exact HDO.o)
     clear hW c0 f0 kH QA Js rA xw pO Cm HB3;go_roundg m.length
     case measure=>simp
     case rel=>exact⟨l++[d],m,r,_,rfl,QH.o,by rw[<- NI.o];simp,MK.o,ar0.o,WV.o⟩
 obtain⟨vD,hP,hG,UC⟩:=hcut;obtain⟨W2,rfl⟩: ∃W:World,W=wc:=⟨_,rfl⟩;obtain⟨aQ,aJ,hv,Ep,bf0⟩:=hG.says UC;subst hv;have jC:=ah hP;have HD2:=ah (ay Ep bf0);clear hP hG UC Ep bf0 Tc;go_upto_block 2 with fail;go_cut [] (λW'=> ∃(lt:List fZ) (vT:Value),lt.map (·.t)=th∧Pg R bp w W' (.slice aQ ds.length aJ) vT r9∧kT (bp+1) W2 W'∧FY W2.heap.size W' vT lt∧(∀x∈lt,x.t.Ok∧x.t.cZ.length<=x.eF))
 case first=>
  obtain⟨i0,hi,hz0,hz1,hz2⟩:=bg1;have fF:=ah (ay hi (ay hz0 (ay hz1 hz2)));have Ay:aj (bp+1<=W2.heap.size∧R.br<bp):=ah (by have:=jC.o.lt;omega);clear hi hz0 hz1 hz2;go_wp2_with fail;go_loopg [7,8] th.length (λgk _ _ wr=> ∃(lt:List fZ) (m:List Th) (rs:bL) (vT:Value),gk=m.length∧Tz S rs m r9∧lt.map (·.t)++m=th∧Pg R bp w wr (.slice aQ ds.length aJ) vT rs∧kT (bp+1) W2 wr∧FY W2.heap.size wr vT lt∧(∀x∈lt,x.t.Ok∧x.t.cZ.length<=x.eF))
  case atStart=>exact⟨[],th,r1,_,rfl,HDT.o.2,rfl,jC.o,kT.refl _ _,Grow.nil _ _ _ _ _ _,ahh⟩
  case round=>
   obtain⟨lt,m,rs,vT,rfl,hz,hlm,hs,ha,hg,hok⟩:=hrel;have NI:=ah hlm;have NJ:aj (lt.length+m.length<=4096):=ah (by have h1:=congrArg List.length hlm;simp only[au,fM]at h1;have:=IY.o;omega);have HS:=ah hs;have HA:=ah ha;have HG:=ah hg;have kK:=ah hok;obtain⟨av,cv,hv⟩:=hg.len;clear hlm hs ha hg hok jC HD2;subst hv;cases hz with
   | @nil rs hd=>have hq:lt.map (·.t)=th:=aeT;go_wp2_with fail;refine(O7 R _ _ ⟨#[116,104,114,101,97,100]⟩ rfl HS.o.rd).mono ?_;rw[hd];rintro e w1 ⟨rfl,h2⟩;have jX:=ah (HS.o.below h2);have rD:=ah (HG.o.next (bR h2));have HA1:=ah (HA.o.trans (bR h2));clear h2;go_wp2_with fail;go_meet;exact⟨lt,_,hq,jX.o,HA1.o,rD.o,kK.o⟩
   | @cons _ rr r r' ll b m hd hn h4 hlz hb hzz=>
     have QH:=ah hzz;have vJ:=ah (Tv.o _ _ _ hb);have IZ:=ah (λw hI=>an4 R rs rr r ll b w hI hd hn h4 hlz vJ);obtain⟨tt,HTT⟩: ∃tt:Th,aj ((⟨tx (bT rs.tail),((gH rs:Nat):Int),ll,b⟩:Th)=tt):=⟨_,ah rfl⟩;rw[HTT.o]at IZ NI;clear hn h4 hlz hb hzz vJ HTT;go_wp2_with fail;refine(O7 R _ _ ⟨#[116,104,114,101,97,100]⟩ rfl HS.o.rd).mono ?_;rw[hd];rintro e w1 ⟨rfl,h2⟩;have jX:=ah (HS.o.below h2);have rD:=ah (HG.o.next (bR h2));have HA1:=ah (HA.o.trans (bR h2));clear h2 HS HG HA;have HC:=ah (IZ.o w1 jX.o.rd);clear IZ;go_wp2_with fail;refine HC.o.mono ?_;clear HC;rintro e w2 ⟨⟨x,hxt,rfl,UN,UO⟩,h2,h3⟩;have HXT:=ah hxt;clear hxt;have HXO:=ah UN;have ql:aj (W2.heap.size<=w1.heap.size):=ah HA1.o.1;have HS2:=ah (jX.o.then h2 h3);have HG2:=ah (rD.o.next (BJ h3 agU));have HA2:=ah (HA1.o.trans (BJ h3 agU));have bE7:=ah rD.o.lt;have jY:=ah UO;clear h2 h3 jX rD HA1 UN UO;unfold fZ.f;go_upto_region 9 with fail;generalize hW:World.alloc w2 _=W3;obtain⟨gd,hg,-,-,HB3,-⟩:=oJ hW;have kH:aj (Pg R bp w W3 _ _ r):=ah adU;have Cm:aj (FY W2.heap.size W3 _ lt):=ah acr;have ze:aj (kT (bp+1) W2 W3):=ah (by rw[<- hW];exact HA2.o.trans (bR (aA _ _)));have uV:aj (iH w1.heap.size W3 (fZ.I x)):=ah (by rw[<- hW];exact jY.o.next (bR (aA _ _)));rw[hg];clear hW hg HS2 HG2 HA2 jY;obtain⟨e0,e1,e2,e3⟩:(W3.cell? ⟨gd,0,none⟩=some (.string x.t.nm)∧W3.cell? ⟨gd,1,none⟩=some (.int .i64 x.t.line)∧W3.cell? ⟨gd,2,none⟩=some (.slice x.iO x.t.cZ.length x.eF)∧W3.cell? ⟨gd,3,none⟩=some (.slice x.dR x.t.body.len x.dA)):=⟨aG HB3.o rfl,aG HB3.o rfl,aG HB3.o rfl,aG HB3.o rfl⟩;obtain⟨c0,c1,fc⟩:=kH.o.cells;clear fc;have kV:=ah (Cm.o.next (bR (aA W3 (.cells (fZ.f x).toArray 63))));have iV:=ah (gG (heap_alloc_new W3 (.cells (fZ.f x).toArray 63)));obtain⟨hi,hz0,hz1,hz2⟩:=fF.o;have hbs:W2.heap.size<=W3.heap.size+1:=(by have:=ze.o.1;omega);have hkl:lt.length+1<=maxLen:=abO;have be0:(lt.length+1)*72<=140737488355328:=adQ;go_wp2_with (at_builtin;refine wpList_append_lies _ rfl _ _ 50 rfl W2.heap.size 63 i0 _ 4 72 Tryz.underlying50 hi hz0 hz1 hz2 rfl ahg _ _ _ rfl kV.o.own ⟨W3.heap.size,0,none⟩ 1 1 (fZ.f x) rfl rfl iV.o (by simp[fZ.f,Value.oneCell']) ahg hkl be0 afe _ rfl ?_);clear hi hz0 hz1 hz2;intro g cap w9 hown hgr hmv hlt2;have pO:aj (∀k,(Value.slice av lt.length cv).ownBlock=some k->W2.heap.size<=k):=ah (λk hk=>(Cm.o.lt k hk).1);have yc:aj (Below W2.heap.size (W3.alloc (.cells (fZ.f x).toArray 63)) w9):=ah (yA hgr pO.o afe);have rA:aj (Below W2.heap.size W3 w9):=ah (((aA W3 (.cells (fZ.f x).toArray 63)).mono ze.o.1).trans yc.o);have JD:aj (qI W2.heap.size (Value.slice av lt.length cv).ownBlock (W3.alloc (.cells (fZ.f x).toArray 63)) (fZ.I x)):=ah (Vu (uV.o.next (bR (aA _ _))) ql.o (λk hk=>(bE7.o k hk).2));have QA:aj (eP w9 R r):=ah (P5 (Bo kH.o.rd _) hgr (λk hk=>by have h1:=pO.o k hk;have h2:=Ay.o;have h3:=R.b0;omega));have Js:aj (w.grownBy w9 (some R.br)):=ah (Oj (Bj kH.o.gr _) (yc.o.mono (by have h1:=kH.o.lt;have h2:=Ay.o;omega)));have Af:w9.heap[bp]? =some (.cells _ 52 (0,0)):=(rA.o.block _ agU).trans kH.o.blk;have xw:=ah (kV.o.push (x:=x) JD.o rfl hown hgr afy);have LM:aj (kT (bp+1) W2 w9):=ah (ze.o.aZ7 rA.o);have c1:w9.cell? ⟨bp,1,none⟩=some (.slice av lt.length cv):=aG Af rfl;have f1:w9.frozen? ⟨bp,1,none⟩=false:=bG Af;clear hown hgr hmv hlt2 hbs hkl be0 JD iV kV yc Af e0 e1 e2 e3 c0;go_wp2_with fail;generalize hW:World.setCell w9 _ _=J4;have MK:aj (Pg R bp w J4 (.slice aQ ds.length aJ) (.slice (some ⟨g,0,none⟩) (lt.length+1) cap) r):=ah (by rw[<- hW];exact kH.o.put QA.o Js.o (rA.o.mono Ay.o.1) 1 _ _ _ rfl);have ar0:aj (FY W2.heap.size J4 (.slice (some ⟨g,0,none⟩) (lt.length+1) cap) (lt++[x])):=ah (by rw[<- hW];exact xw.o.next (iM w9 ⟨bp,1,none⟩ _ Ay.o.1));have bD0:aj (kT (bp+1) W2 J4):=ah (by rw[<- hW];exact LM.o.trans (iM w9 ⟨bp,1,none⟩ _ (Nat.lt_succ_self _)));have WV:aj (∀y∈lt++[x],y.t.Ok∧y.t.cZ.length<=y.eF):=ah (λy hy=>by
      rcases List.mem_append.1 hy with hy|hy
      ·exact kK.o y hy
      ·rw[List.mem_singleton.1 hy];exact HXO.o)
     clear hW c1 f1 kH QA Js rA xw pO Cm HB3 LM ze;go_roundg m.length
     case measure=>simp
     case rel=>exact⟨lt++[x],m,r,_,rfl,QH.o,by rw[<- NI.o,<- HXT.o];simp,MK.o,bD0.o,ar0.o,WV.o⟩
 obtain⟨lt,vT,hrt,hP,hA,hG,hok⟩:=hcut;obtain⟨W8,rfl⟩: ∃W:World,W=wc:=⟨_,rfl⟩;obtain⟨aR,aH,hv,GJ,ax0⟩:=hG.says hok;subst hv;have vM:aj (lt.length=th.length):=ah (by rw[<- hrt,fM]);rw[hrt]at ax0 hP;rw[vM.o]at GJ;have Az:=ah hP;have HST:aj (ds.length<=aJ∧th.length<=aH∧iH (bp+1) W8 (λw2=>jG w2 w2.heap.size ds aQ 0∧iP w2 w2.heap.size th aR 0)):=ah ⟨HD2.o.1,GJ,λw2 h2=>⟨HD2.o.2 w2 (hA.trans h2),ax0 w2 (h2.mono jC.o.lt.2.2)⟩⟩;have qh:=IY;clear hP hA hG hok GJ ax0 hrt HD2 vM IY jC;clear hf0 hf1;have HT0:aj (decide ((0:Int)<(th.length:Int))= !th.isEmpty):=ah (by cases th <;> simp);have HWD:aj (Below W8.heap.size W8 (W8.drewN 1)):=ah (below_drewN (ak _ _) 1);have NM:=ah (Az.o.below HWD.o);have KP: ∀(x:Bool) w',Cv (λw'=>w'=W8.drewN 1) (λw'=>w'=(W8.drewN 1).setCells w.heap.size 0 [.slice aQ ds.length aJ,.slice aR th.length aH]) [x] w'->w'.heap[bp]? =some (.cells #[.slice aQ ds.length aJ,.slice aR th.length aH] 52 (0,0)):=λx w' h=>by
  cases x
  ·have h:w'=_:=h;rw[h];exact NM.o.blk
  ·have h:w'=_:=h;rw[h];exact((dZ w.heap.size _ 0 (W8.drewN 1)).block _ NM.o.lt.2.2 (by have:=NM.o.lt;simp;omega)).trans NM.o.blk
 go_upto_region 12 with fail;refine cK ahe rfl ?_;refine bW 0 7 [5] [[],[],[1],[1,2],[1,2,3],[0],[0,1,2,3,4,5]] [[some false],[none],[none],[none],[none],[some false],[some true]] (Cv (λw'=>w'=W8.drewN 1) (λw'=>w'=(W8.drewN 1).setCells w.heap.size 0 [.slice aQ ds.length aJ,.slice aR th.length aH])) (λ_ _=>True) [50,51,52,53,54,3] rfl rfl aix ahe ahe ahe ahe ahe aix (λ_=>trivial) aix rfl ?_;simp only[gJ,kE];apply bH.step
 case cu=>intro c A w' hok hC hO hD;obtain⟨x,rfl⟩:=hC.bits;have hb:=KP x w' hC;obtain⟨k0,k1⟩:=uK hb;have e4:=hO 4 aix;simp[Act.eval]at e4;simp[Act.eval]at hD;simp[go_sem,gd,Oper.wp,e4,k0,k1];exact aZ.mk trivial (Cv.skip aix hC) (dO.mk _ _)
 apply bH.step
 case cu=>intro c A w' hok hC hO hD;have e4:=hO 4 aix;simp[Act.eval]at e4;simp[Act.eval]at hD;simp[go_sem,gd,Oper.wp,hD,e4];exact aZ.mk trivial (Cv.skip aix hC) (dO.mk _ _)
 apply bH.step
 case cu=>intro c A w' hok hC hO hD;obtain⟨x,rfl⟩:=hC.bits;have hb:=KP x w' hC;have k1:w'.cell? ⟨bp,1,none⟩=some (.slice aR th.length aH):=aG hb rfl;simp[Act.eval]at hD;simp[go_sem,gd,Oper.wp,hD,k1];exact aZ.mk trivial (Cv.skip aix hC) (dO.mk _ _)
 apply bH.step
 case cu=>intro c A w' hok hC hO hD;simp[Act.eval]at hD;simp[go_sem,gd,Oper.wp,hD];exact aZ.mk trivial (Cv.skip aix hC) (dO.mk _ _)
 try simp only[dI]
 refine bH.step (v:= .bool (!th.isEmpty)) ?_ ?_
 ·intro c A w' hok hC hO hD;simp[Act.eval]at hD;simp[go_sem,gd,Oper.wp,hD];exact aZ.mk trivial (Cv.skip aix hC) (show Value.bool _=_ by rw[<- HT0.o];simp)
 refine bH.some (λ_ _=>True) (λ_ _ _ _ _=>trivial) ?_ ?_
 ·intro c A w' hok hC hO hD;obtain⟨x,rfl⟩:=hC.bits;obtain⟨rfl,-⟩:=hok;have hC:w'=_:=hC;have e2:=hO 2 aix;simp[Act.eval]at e2;simp[Act.eval]at hD;simp only[gd,if_true];refine wp_store_mid _ _ _ aix w.heap.size 0 #[.slice aQ ds.length aJ,.slice aR th.length aH] (by simp[Act.eval,e2]) afA (by rw[hC];exact GV NM.o.z (aD 2)) aO5 afZ ?_;exact aZ.EA trivial (Cv.fire aix (by rw[hC])) trivial
 apply bH.step
 case cu=>intro c A w' hok hC hO hD;simp[Act.eval]at hD;simp[go_sem,gd,Oper.wp,hD];exact aZ.mk trivial (Cv.skip aix hC) (dO.mk _ _)
 try simp only[dI]
 refine bH.done ?_;intro w9 hC9
 try simp only[List.drop_succ_cons,List.drop_zero]
 intro x0 h0 x1 h1 x2 h2 x3 h3 x4 h4 x5 h5 x6 h6;have h6':=Eq.symm (show x6=_ from h6);subst h6';clear h0 h1 h2 h3 h4 h5 h6 KP;refine FK ?_;refine dH rfl ?_;have HW9:aj (w9=(W8.drewN 1).setCells w.heap.size 0 [.slice aQ ds.length aJ,.slice aR th.length aH]):=ah hC9;have yc:aj (w9.heap[w.heap.size]? =some (.cells #[.slice aQ ds.length aJ,.slice aR th.length aH] 52 (0,0))):=ah (by rw[HW9.o];exact mP NM.o.z rfl);clear hC9;obtain⟨y0,y1⟩:=uK yc.o;go_simp;go_wp2_with fail;exact bodyPost_ret (v:= .tuple #[.agg #[.slice aQ ds.length aJ,.slice aR th.length aH],.bool (!th.isEmpty)]) (by simp[results,Tryz.results76,go_sem,y0,y1]) rfl (by rw[HW9.o];exact bk0 rfl ⟨qh.o.1,qh.o.2,HST.o.1,HST.o.2.1⟩ (HST.o.2.2.next (bR HWD.o)) (by have:=NM.o.lt;omega) NM.o.rd NM.o.gr kW.o)
theorem aP8 (t:Tk.Tok):(Tk.Tok.cells t).length=3:=rfl
theorem Yk {w:World} {g B:Nat} {ts:bL} (hB:g<B): ∀(l:bL) (k:Nat),(∀i t,l[i]? =some t->∀j u,(Tk.Tok.cells t)[j]? =some u->w.cell? ⟨g,(k+i)*3+j,none⟩=some u)->yO w B l (some ⟨g,0,none⟩) k
 | [],_,_=>trivial
 |t::r,k,h=>by
  have h0:=h 0 t rfl;refine⟨⟨g,0,rfl,hB,?_,?_,?_⟩,Yk (ts:=ts) hB r (k+1) (λi t' ht j u hu=>by rw[show k+1+i=k+(i+1) by omega];exact h (i+1) t' (by simpa using ht) j u hu)⟩
  ·have:=h0 0 _ rfl;rw[aU];exact this
  ·have:=h0 1 _ rfl;rw[aU];exact this
  ·have:=h0 2 _ rfl;rw[aU];exact this
theorem an5 {w:World} {base:Nat} {v:Value} {ts:bL} (h:w.ownsRow base 164 3 v ts.length (Tk.cellsOf ts)): ∃ao cap,v= .slice ao ts.length cap∧yO w w.heap.size ts ao 0:=by
 rcases h.2 with⟨h1,h2⟩|⟨g,cap,cur,h1,hB,hg,hc,-,hs,ht⟩
 ·have:ts=[]:=by
   cases ts with
   |nil=>rfl
   |cons t r=>simp at h2
  subst this;exact⟨none,0,h1,trivial⟩
 ·refine⟨some ⟨g,0,none⟩,cap,h1,Yk (ts:=ts) (aI hg) ts 0 (λi t hi j u hu=> ?_)⟩;have hF:=flat_get aP8 ts i t j u hi hu;have hF':(Tk.cellsOf ts)[i*3+j]? =some u:=hF;rw[<- ht]at hF';have hlt:=(List.getElem?_eq_some_iff.1 hF').1;rw[List.getElem?_take_of_lt acI]at hF';rw[aU];exact aG hg (by rw[<- hF'];simp)
def ZB (w:World) (ao:Option Addr) (cap:Nat) (ts:bL):Rp:=⟨w.heap.size,w.heap.size,ao,cap,ts,aD _⟩
theorem bk6 {w W:World} {ao:Option Addr} {cap:Nat} {ts:bL} (hW:w.alloc (.cells #[.slice ao ts.length cap,.int .i64 0] 142)=W) (ht:yO w w.heap.size ts ao 0) (ok: ∀t∈ts,Gp t) (tl:(∀t∈ts,TL 4097 t)∧ts.length<=4096):eP W (ZB w ao cap ts) ts:=by
 subst hW;exact⟨⟨0,bC _,rfl,heap_alloc_new _ _⟩,ht.below (aA _ _),⟨ok,tl.2⟩,tl.1⟩
theorem au0 (s:ByteArray) (w:World) (fG:eD w) (hm:s.size<=maxLen) (p:Pr) (h0:(Tk.scan s.data.toList).2.1=0) (hsc: ∀t∈(Tk.scan s.data.toList).1,Gp t) (htl:(∀t∈(Tk.scan s.data.toList).1,TL 4097 t)∧(Tk.scan s.data.toList).1.length<=4096) (hpr: ∀(R:Rp) (wr:World),eP wr R (Tk.scan s.data.toList).1->Calls Tryz.prog 76 #[.pointer (some ⟨R.br,0,none⟩)] wr (YL R wr (.ok p []))) (hts:p.ts.isEmpty=false):
 Calls Tryz.prog 45 #[.string s] w λe w'=> ∃aQ aJ aR aH,e= .returned (.tuple #[.agg #[.slice aQ p.ds.length aJ,.slice aR p.ts.length aH],.int .i64 0,.int .i64 0])∧p.At w' aQ aR∧Below w.heap.size w w':=by
 have kG:=ah fG;have NR:=ah hsc;have X7:=ah htl;have HSN:aj (∀w,eD w->Calls Tryz.prog 75 #[.string s] w (TY w (Tk.scan s.data.toList))):=ah (λw h=>au3 s w h hm);have yt:=ah hpr;clear fG hm hpr hsc htl;generalize Tk.scan s.data.toList=sc at *;go_enter Tryz.func45,Tryz.ntmps45;go_upto_region 1 with fail;generalize hW:World.alloc w _=W0;have HB0:aj (Below w.heap.size w W0):=ah afd;have HZ0:aj (W0.heap[w.heap.size]? =some (.cells zP2 52 (0,0))):=ah acC;clear hW;go_wp2_with fail;refine(HSN.o _ (kG.o.same HB0.o)).mono ?_;rintro e w1 ⟨v,rfl,hown,hb⟩;obtain⟨ao,cap,rfl,htk⟩:=an5 hown;have X6:=ah htk;have HB1:=ah (HB0.o.trans (hb.mono HB0.o.size));have HZ1:=jq hb HZ0;clear hown hb htk HSN HB0 HZ0;obtain⟨y0,y1⟩:=uK HZ1.o;have f0:w1.frozen? ⟨w.heap.size,0,none⟩=false:=bG HZ1.o;have f1:w1.frozen? ⟨w.heap.size,1,none⟩=false:=bG HZ1.o;have hlt:w.heap.size<w1.heap.size:=(aI HZ1.o);have aW7:=X7;rw[h0];go_upto_region 5 with fail;generalize hW:World.alloc w1 _=W1;have HR1:=ah (bk6 hW X6.o NR.o aW7.o);have HB2:aj (Below w.heap.size w W1):=ah (by rw[<- hW];exact HB1.o.trans ((aA w1 _).mono HB1.o.size));have HZ2:aj (W1.heap[w.heap.size]? =some (.cells zP2 52 (0,0))):=ah (by rw[<- hW];exact((aA w1 _).block _ hlt).trans HZ1.o);clear hW y0 y1 f0 f1 X7 NR kG X6 aW7 HB1 HZ1;go_wp2_with fail;refine(yt.o _ _ HR1.o).mono ?_;rintro e w2 ⟨⟨a,c,a',c',rfl,hl,hst⟩,h1,h2⟩;rw[hts];obtain⟨r,HRN⟩: ∃r:bL,aj (([]:bL)=r):=⟨_,ah rfl⟩;rw[HRN.o]at h1;obtain⟨n,HN⟩: ∃n,aj (p.ds.length=n):=⟨_,ah rfl⟩;obtain⟨n',HN'⟩: ∃n,aj (p.ts.length=n):=⟨_,ah rfl⟩;rw[HN.o,HN'.o]at hl⊢;have HP:=ah (ay hl hst);go_upto_region 6 with fail;generalize hW:World.alloc w2 _=W3;have HG:=ah h2;have HB3:aj (Below w.heap.size w W3):=ah (by rw[<- hW];exact(HB2.o.trans (cB h2 (bg hlt) HB2.o.size)).trans ((aA w2 _).mono (aO HB2.o.size h2.size)));have Yt:aj (Below w2.heap.size w2 W3):=ah (by rw[<- hW];exact aA w2 _);have HR3:aj (eP W3 (ZB w1 ao cap sc.1) r):=ah (h1.below Yt.o);have HZ3:aj (W3.heap[w.heap.size]? =some (.cells zP2 52 (0,0))):=ah (by have k1:=(aI HZ2.o);exact(Yt.o.block _ (aV k1 h2.size)).trans ((h2.block _ k1 (by simp[ZB];omega)).trans HZ2.o));have HD3:aj (W3.heap[w2.heap.size]? =some (.cells #[.slice a n c,.slice a' n' c'] 52 (0,0))):=ah acC;obtain⟨pos,hpos,hdrop,c0,c1⟩:=HR3.o.pos;have c0:W3.cell? ⟨w1.heap.size,0,none⟩=some (.slice ao sc.1.length cap):=c0;have c1:W3.cell? ⟨w1.heap.size,1,none⟩=some (.int .i64 (pos:Int)):=c1;have hpos:pos<=sc.1.length:=hpos;have hdrop:sc.1.drop pos=r:=hdrop;have hlt3:w.heap.size<W3.heap.size:=(aI HZ3.o);have hq: ¬pos<sc.1.length:=by rw[<- HRN.o]at hdrop;have:=List.drop_eq_nil_iff.1 hdrop;omega
 have hltW:w.heap.size<W1.heap.size:=(aI HZ2.o);clear hW h1 h2 hl hst yt HR1 HZ2 hpos hdrop;go_quiet (fail);generalize uM:World.drewN W3 _=W4;have dL:aj (Below W3.heap.size W3 W4):=ah (by rw[<- uM];exact below_drewN (ak _ _) _);clear uM;have zX:=ah ((dL.o.block _ hlt3).trans HZ3.o);have HD4:=jq dL.o HD3;obtain⟨y0,y1⟩:=uK zX.o;have f0:W4.frozen? ⟨w.heap.size,0,none⟩=false:=bG zX.o;have f1:W4.frozen? ⟨w.heap.size,1,none⟩=false:=bG zX.o;obtain⟨d0,d1⟩:=uK HD4.o;have Er:w.heap.size<W4.heap.size:=(aI zX.o);go_wp2_with fail;obtain⟨hl,hst⟩:=HP.o;have hfin:kT W1.heap.size w2 ((W4.setCell ⟨w.heap.size,0,none⟩ (.slice a n c)).setCell ⟨w.heap.size,1,none⟩ (.slice a' n' c')):=
  ((bR (B:=W1.heap.size) (Yt.o.trans (dL.o.mono Yt.o.size))).trans (iM W4 _ _ hltW)).trans (iM _ _ _ hltW)
 have hat:=(hst.next hfin).now;exact bodyPost_ret (v:= .tuple #[.agg #[.slice a n c,.slice a' n' c'],.int .i64 0,.int .i64 0]) (by simp[results,Tryz.results45,go_sem,y0,y1,Er]) rfl ⟨a,c,a',c',by rw[HN.o,HN'.o],⟨by rw[HN.o];unfold maxLen;omega,by rw[HN'.o];unfold maxLen;omega,hat⟩,qo (qo (HB3.o.trans (dL.o.mono HB3.o.size)) _ _ (aD _)) _ _ (aD _)⟩
def Vp:List UInt8:=[118,97,114,32,120,32,61,32,50,59,32,118,97,114,32,113,91,50,93,59,32,109,117,116,101,120,32,109,59,32,99,111,110,100,32,99,32,109,59,32,114,119,108,111,99,107,32,114,59,32,102,117,116,117,114,101,32,102,59,32,116,104,114,101,97,100,32,116,40,97,41,32,123,32,108,111,99,107,32,109,32,123,32,120,32,61,32,113,91,97,93,59,32,125,32,125,32,116,104,114,101,97,100,32,117,40,41,32,123,32,125]
theorem src_ok: ∀t∈(Tk.scan Vp).1,Gp t:=by
 unfold Gp;decide+kernel
theorem bm1:(∀t∈(Tk.scan Vp).1,TL 4097 t)∧(Tk.scan Vp).1.length<=4096:=by
 unfold TL;decide+kernel
def K (k:Nat):bL:=(Tk.scan Vp).1.drop k
theorem fK (k:Nat):(K k).tail=K (k+1):=by unfold K;rw[List.tail_drop]
def nK (k:Nat):ByteArray:=tx (bT (K k))
def dK (k:Nat) (size init:Int) (on:ByteArray):De:=⟨sS (bT (K k)),((gH (K k):Nat):Int),nK (k+1),size,init,on⟩
theorem Lj (k j:Nat) {d:De} {m:List De} {r:bL} (h1:isDecl (K k)=true) (h2:isName (K (k+1))=true) (h3:KzR (dK k 0 0 ⟨#[]⟩) (K (k+2)) d (K j)) (h4:at' [59] (K j)=true) (h5:Dz (K (j+1)) m r):Dz (K k) (d::m) r:=
 Dz.cons h1 (by rw[fK];exact h2) (by rw[fK,fK];exact h3) h4 (by rw[fK];exact h5)
theorem bl9:Dz (K 0) [dK 0 0 2 ⟨#[]⟩,dK 5 2 0 ⟨#[]⟩,dK 11 0 0 ⟨#[]⟩,dK 14 0 0 (nK 16),dK 18 0 0 ⟨#[]⟩,dK 21 0 0 ⟨#[]⟩] (K 24):=
 Lj 0 4 ahe ahe (.inl ⟨ahe,dK 0 0 0 ⟨#[]⟩,K 2,ahe,ahe,ahe⟩) ahe <|
 Lj 5 10 ahe ahe (.inl ⟨ahe,dK 5 2 0 ⟨#[]⟩,K 10,ahe,ahe,ahe⟩) ahe <|
 Lj 11 13 ahe ahe (.inr (.inr ⟨⟨ahe,ahe,ahe⟩,rfl,rfl⟩)) ahe <|
 Lj 14 17 ahe ahe (.inr (.inl ⟨⟨ahe,ahe,ahe⟩,ahe,rfl,(fK 16).symm⟩)) ahe <|
 Lj 18 20 ahe ahe (.inr (.inr ⟨⟨ahe,ahe,ahe⟩,rfl,rfl⟩)) ahe <|
 Lj 21 23 ahe ahe (.inr (.inr ⟨⟨ahe,ahe,ahe⟩,rfl,rfl⟩)) ahe <|
 Dz.nil ahe
theorem noop {r:bL} (h:(nextK r==4&&(yH (bT r)).1 != 0)=false):TN r:=λlv=>by
 unfold opAt;split
 ·rename_i h2;simp only[aM]at h2;rw[h2.1,Bool.true_and]at h;simpa using h
 ·rfl
theorem bI3:Ez (K 37) ⟨2,0,nK 37,.nil⟩ (K 38):=by
 have h:=Ez.nm (ts:=K 37) ahe afr aec;rw[fK]at h;exact h
theorem bI2:Ez (K 35) (XM (nK 35) ⟨2,0,nK 37,.nil⟩) (K 39):=by
 have h:=Ez.ix (ts:=K 35) (r:=K 38) (x:=⟨2,0,nK 37,.nil⟩) ahe afr (by rw[fK,fK];exact bI3) ahe aec;rw[fK]at h;exact h
def sA:Sx:=⟨dM.ex {hd 1 ((gH (K 33):Nat):Int)with nm:=nK 33} (XM (nK 35) ⟨2,0,nK 37,.nil⟩),.nil,.nil⟩
def sL:Sx:=⟨{hd 4 ((gH (K 30):Nat):Int)with nm:=nK 31},CX [sA],.nil⟩
theorem bK9 (R:Rp):Gn R (K 33) sA (K 40):=by
 have h:=aP7 R (K 33) (K 39) (XM (nK 35) ⟨2,0,nK 37,.nil⟩) ahe afr afr (by rw[fK,fK];exact bI2) ahe;rw[fK]at h;exact h
theorem bH6 (R:Rp):wR R (K 32) (CX [sA]) (K 41):=
 MR R (λts y r=>ts=K 33∧y=sA∧r=K 40) (ah (λq y r ⟨e1,e2,e3⟩=>by subst e1 e2 e3;exact bK9 R)) (K 32) (K 41) [sA] ahe (by rw[fK];have h:=Lz.nil (S:=λts y r=>ts=K 33∧y=sA∧r=K 40) (ts:=K 40) ahe;rw[fK]at h;exact Lz.cons ahe ⟨rfl,rfl,rfl⟩ h) ahg
theorem bL0 (R:Rp):Gn R (K 30) sL (K 41):=by
 have h:=aB9 R (K 30) (K 41) (CX [sA]) ahe ahe afr (ah (by rw[fK,fK];exact bH6 R));rw[fK]at h;exact h
theorem bH7 (R:Rp):wR R (K 29) (CX [sL]) (K 42):=
 MR R (λts y r=>ts=K 30∧y=sL∧r=K 41) (ah (λq y r ⟨e1,e2,e3⟩=>by subst e1 e2 e3;exact bL0 R)) (K 29) (K 42) [sL] ahe (by rw[fK];have h:=Lz.nil (S:=λts y r=>ts=K 30∧y=sL∧r=K 41) (ts:=K 41) ahe;rw[fK]at h;exact Lz.cons ahe ⟨rfl,rfl,rfl⟩ h) ahg
theorem bH8 (R:Rp):wR R (K 46) (CX []) (K 48):=
 MR R (λ_ _ _=>False) (ah (λ_ _ _ h=>h.elim)) (K 46) (K 48) [] ahe (by rw[fK];have h:=Lz.nil (S:=λ_ _ _=>False) (ts:=K 47) ahe;rw[fK]at h;exact h) ahg
def ZM (r:bL) (b:bf) (q:bL):Prop:=(r=K 29∧b=CX [sL]∧q=K 42)∨(r=K 46∧b=CX []∧q=K 48)
def nE:Pr:=⟨[dK 0 0 2 ⟨#[]⟩,dK 5 2 0 ⟨#[]⟩,dK 11 0 0 ⟨#[]⟩,dK 14 0 0 (nK 16),dK 18 0 0 ⟨#[]⟩,dK 21 0 0 ⟨#[]⟩],[⟨nK 25,gH (K 24),[nK 27],CX [sL]⟩,⟨nK 43,gH (K 42),[],CX []⟩]⟩
theorem bm2:Tz ZM (K 24) nE.ts (K 48):=by
 have h2:=Tz.cons (S:=ZM) (ts:=K 42) (r:=K 46) (q:=K 48) (r':=K 48) (l:=[]) (b:=CX []) (m:=[]) ahe afr (by rw[fK,fK];kernel_rfl) (by rw[fK,fK,fK];exact .inl ⟨ahe,rfl,(fK 45).symm⟩) (.inr ⟨rfl,rfl,rfl⟩) (Tz.nil ahe);have h1:=Tz.cons (S:=ZM) (ts:=K 24) (r:=K 29) (q:=K 42) (r':=K 48) (l:=[nK 27]) (b:=CX [sL]) ahe afr (by rw[fK,fK];kernel_rfl) (by rw[fK,fK,fK];exact .inr ⟨ahe,ahe,afr,afr,rfl,by rw[fK,fK]⟩) (.inl ⟨rfl,rfl,rfl⟩) h2;rw[fK,fK]at h1;exact h1
theorem aA2 (R:Rp) (wr:World) (hI:eP wr R (Tk.scan Vp).1):Calls Tryz.prog 76 #[.pointer (some ⟨R.br,0,none⟩)] wr (YL R wr (.ok nE [])):=by
 have h:=ZA R ZM (ah (λr b q h=>by
  rcases h with⟨e1,e2,e3⟩|⟨e1,e2,e3⟩ <;> subst e1 e2 e3
  ·exact bH7 R
  ·exact bH8 R)) (K 0) (K 24) (K 48) nE.ds nE.ts bl9 bm2 ahg wr hI
 have e:K 48=[]:=ahe
 rw[e]at h;exact h
end Go.Proofs.YtcjgfgkllmldpaaGreatDoor
