/- Declarations of the fixed program: a declaration under way; size and initial. And what hangs on it. -/
import Derived.Test.YtldapdcphphodaaGreatDoorGRA
set_option linter.unusedSimpArgs false
set_option linter.unusedVariables false
set_option maxHeartbeats 40000000
set_option maxRecDepth 1000000
namespace Go.Proofs.YtldapdcphphodaaGreatDoor
open Go.RowKit
open Md Pz
theorem ae3 {x:List UInt8} {r:bL} (h:at' x r=true):need x r= .ok () r.tail:=by unfold need;rw[if_pos h]
theorem ae2 {x:List UInt8} {r:bL} (h:at' x r=false):need x r= .no r:=by unfold need;rw[if_neg ahS]
structure Pd (R:Rp) (bd:Nat) (w:World) (d:De) (rest:bL):Prop where
 rd:eP w R rest
 ne:bd≠R.br
 b0:R.B0<=bd
 blk:w.heap[bd]? =some (.cells (oD d).toArray 55 (0,0))
 ok:d.Ok
section
variable {R:Rp} {bd:Nat} {w W W':World} {d:De} {rest rest':bL}
theorem Pd.lt (h:Pd R bd W d rest):bd<W.heap.size:=(aU h.blk)
theorem Pd.then (h:Pd R bd W d rest) (h1:eP W' R rest') (h2:W.grownBy W' (some R.br)):Pd R bd W' d rest':=
 ⟨h1,h.ne,h.b0,(h2.block _ h.lt (by simp;exact h.ne)).trans h.blk,h.ok⟩
theorem Pd.below (h:Pd R bd W d rest) (hb:Below W.heap.size W W'):Pd R bd W' d rest:=h.then (h.rd.below hb) (jB hb)
theorem Pd.put (h:Pd R bd W d rest) (j:Nat) (v:Value) {y:De} (hy:(oD d).toArray.setIfInBounds j v=(oD y).toArray) (hok:y.Ok):Pd R bd (W.setCell ⟨bd,j,none⟩ v) y rest:=
 ⟨uT h.rd _ v h.b0 h.ne,h.ne,h.b0,by rw[dX h.blk,hy],hok⟩
theorem Pd.nm (h:Pd R bd W d rest) (s:ByteArray) (hs:s.size<=maxLen):Pd R bd (W.setCell ⟨bd,2,none⟩ (.string s)) {d with nm:=s} rest:=
 h.put 2 _ rfl ⟨h.ok.1,h.ok.2.1,hs,h.ok.2.2.2⟩
theorem Pd.size (h:Pd R bd W d rest) (n:Int) (hn:dD n):Pd R bd (W.setCell ⟨bd,3,none⟩ (.int .i64 n)) {d with size:=n} rest:=
 h.put 3 _ rfl ⟨h.ok.1,h.ok.2.1,h.ok.2.2.1,hn,h.ok.2.2.2.2⟩
theorem Pd.init (h:Pd R bd W d rest) (n:Int) (hn:dD n):Pd R bd (W.setCell ⟨bd,4,none⟩ (.int .i64 n)) {d with init:=n} rest:=
 h.put 4 _ rfl ⟨h.ok.1,h.ok.2.1,h.ok.2.2.1,h.ok.2.2.2.1,hn,h.ok.2.2.2.2.2⟩
theorem Pd.on (h:Pd R bd W d rest) (s:ByteArray) (hs:s.size<=maxLen):Pd R bd (W.setCell ⟨bd,5,none⟩ (.string s)) {d with on:=s} rest:=
 h.put 5 _ rfl ⟨h.ok.1,h.ok.2.1,h.ok.2.2.1,h.ok.2.2.2.1,h.ok.2.2.2.2.1,hs⟩
theorem Pd.cell (h:Pd R bd W d rest) {j:Nat} {u:Value} (hu:(oD d).toArray[j]? =some u):W.cell? ⟨bd,j,none⟩=some u:=aQ h.blk hu
theorem Pd.free (h:Pd R bd W d rest) (j:Nat):W.frozen? ⟨bd,j,none⟩=false:=bC h.blk
end
def DmP (R:Rp) (bd:Nat) (w:World) (res:oO De) (e:Ending) (w':World):Prop:=
 match res with
 | .ok d r=>e= .returned (.bool true)∧Pd R bd w' d r∧Fr R.br bd w w'
 | .no r=>e= .returned (.bool false)∧(∃d,Pd R bd w' d r)∧Fr R.br bd w w'
theorem Oq {R:Rp} {bd:Nat} {w W:World} {res:oO De} {d:De} {r:bL} (e:res= .ok d r) (h:Pd R bd W d r) (hf:Fr R.br bd w W):DmP R bd w res (.returned (.bool true)) W:=by subst e;exact⟨rfl,h,hf⟩
theorem Fr.gr' {br bs:Nat} {w w1 w2:World} (h:Fr br bs w w1) (k:w1.grownBy w2 (some br)):Fr br bs w w2:=h.trans (Fr.ug k)
theorem ag3 {d:De} {ts:bL} (h:at' [91] ts=false):yE d ts= .ok d ts:=by unfold yE;rw[if_neg ahS]
theorem ag2 {d:De} {ts:bL} (h:at' [91] ts=true) (h1:isNum ts.tail=false):yE d ts= .no ts.tail:=by unfold yE;rw[if_pos h,if_neg ahu]
theorem au6 {d:De} {ts:bL} (h:at' [91] ts=true) (h1:isNum ts.tail=true) (h2:(Tk.val (bU ts.tail)==0)=true):yE d ts= .no ts.tail:=by unfold yE;rw[if_pos h,if_pos h1,if_pos h2]
theorem Ue {d:De} {ts:bL} (h:at' [91] ts=true) (h1:isNum ts.tail=true) (h2:(Tk.val (bU ts.tail)==0)=false):yE d ts=(need [93] ts.tail.tail).map λ_=> {d with size:=(Tk.val (bU ts.tail):Nat)} :=by unfold yE;rw[if_pos h,if_pos h1,if_neg ahL]
theorem as8 {d:De} {ts:bL} (h:at' [61] ts=false):zK d ts= .ok d ts:=by unfold zK;rw[if_neg ahS]
theorem ac6 {d:De} {ts:bL} (h:at' [61] ts=true) (h1:at' [45] ts.tail=false) (h2:isNum ts.tail=false):zK d ts= .no ts.tail:=by unfold zK;rw[if_pos h,if_neg ahu,if_neg ahL]
theorem ac7 {d:De} {ts:bL} (h:at' [61] ts=true) (h1:at' [45] ts.tail=false) (h2:isNum ts.tail=true):zK d ts= .ok {d with init:=(Tk.val (bU ts.tail):Nat)} ts.tail.tail:=by unfold zK;rw[if_pos h,if_neg ahu,if_pos h2]
theorem au7 (R:Rp) (bd:Nat) (ts r:bL) (d d':De) (w:World) (hp:Pd R bd w d ts) (h:yE d ts= .ok d' r):
 Calls Tryz.prog 151 #[.pointer (some ⟨R.br,0,none⟩),.pointer (some ⟨bd,0,none⟩)] w (DmP R bd w (.ok d' r)):=by
 have HP:=ah hp;clear hp;cases h1:at' [91] ts
 ·rw[ag3 h1]at h;injection h with e1 e2;subst e1 e2;go_enter Tryz.func151,Tryz.ntmps151;go_wp2_with fail;refine(pQ R _ _ ⟨#[91]⟩ rfl h1 HP.o.rd).mono ?_;rintro e w1 ⟨rfl,h2⟩;have jG:=ah (HP.o.below h2);have HF:=ah (Fr.ug (br:=R.br) (bs:=bd) (jB h2));clear h2;go_wp2_with fail;go_ret;exact Oq rfl jG.o HF.o
 ·cases h2:isNum ts.tail
  ·rw[ag2 h1 h2]at h;cases h
  cases h3:(Tk.val (bU ts.tail)==0)
  case true=>rw[au6 h1 h2 h3]at h;cases h
  cases h4:at' [93] ts.tail.tail
  ·rw[Ue h1 h2 h3,ae2 h4]at h;cases h
  rw[Ue h1 h2 h3,ae3 h4]at h;have HV:aj (dD ((Tk.val (bU ts.tail):Nat):Int)):=ah acz;have h3':(((Tk.val (bU ts.tail):Nat):Int)==0)=false:=by rw[beq_eq_false_iff_ne]at h3⊢;omega
  have h':oO.ok {d with size:=((Tk.val (bU ts.tail):Nat):Int)} ts.tail.tail.tail=oO.ok d' r:=h;injection h' with e1 e2;subst e1 e2;clear h;go_enter Tryz.func151,Tryz.ntmps151;go_wp2_with fail;refine(kK R _ _ ⟨#[91]⟩ rfl h1 HP.o.rd).mono ?_;rintro e w1 ⟨rfl,k2,k3⟩;have jG:=ah (HP.o.then k2 k3);have zM:=ah (Fr.ug (bs:=bd) k3);clear k2 k3;go_wp2_with fail;refine(U9 R _ _ h2 jG.o.rd).mono ?_;rintro e w2 ⟨rfl,k2,k3⟩;have gX:=ah (jG.o.then k2 k3);have yN:=ah (zM.o.gr' k3);clear k2 k3;have c3:=gX.o.cell (j:=3) rfl;have f3:=gX.o.free 3;go_upto_region 10 with fail;generalize hW:World.setCell w2 _ _=W;have oz:aj (Pd R bd W {d with size:=(Tk.val (bU ts.tail):Nat)} ts.tail.tail):=ah (by rw[<- hW];exact gX.o.size _ HV.o);have Am:aj (Fr R.br bd w W):=ah (by rw[<- hW];exact yN.o.set _ _ (.inl rfl));clear hW c3 f3 gX yN;go_wp2_with fail;refine(kK R _ _ ⟨#[93]⟩ rfl h4 oz.o.rd).mono ?_;rintro e w4 ⟨rfl,k2,k3⟩;have qC:=ah (oz.o.then k2 k3);have OH:=ah (Am.o.gr' k3);clear k2 k3;go_wp2_with fail;go_ret;exact Oq rfl qC.o OH.o
theorem Va (R:Rp) (bd:Nat) (ts r:bL) (d d':De) (w:World) (hp:Pd R bd w d ts) (hm:at' [45] ts.tail=false) (h:zK d ts= .ok d' r):
 Calls Tryz.prog 152 #[.pointer (some ⟨R.br,0,none⟩),.pointer (some ⟨bd,0,none⟩)] w (DmP R bd w (.ok d' r)):=by
 have HP:=ah hp;clear hp;cases h1:at' [61] ts
 ·rw[as8 h1]at h;injection h with e1 e2;subst e1 e2;go_enter Tryz.func152,Tryz.ntmps152;go_wp2_with fail;refine(pQ R _ _ ⟨#[61]⟩ rfl h1 HP.o.rd).mono ?_;rintro e w1 ⟨rfl,h2⟩;have jG:=ah (HP.o.below h2);have HF:=ah (Fr.ug (br:=R.br) (bs:=bd) (jB h2));clear h2;go_wp2_with fail;go_ret;exact Oq rfl jG.o HF.o
 ·cases h2:isNum ts.tail
  ·rw[ac6 h1 hm h2]at h;cases h
  rw[ac7 h1 hm h2]at h;injection h with e1 e2;subst e1 e2;have HV:aj (dD ((Tk.val (bU ts.tail):Nat):Int)):=ah acz;go_enter Tryz.func152,Tryz.ntmps152;go_wp2_with fail;refine(kK R _ _ ⟨#[61]⟩ rfl h1 HP.o.rd).mono ?_;rintro e w1 ⟨rfl,k2,k3⟩;have jG:=ah (HP.o.then k2 k3);have zM:=ah (Fr.ug (bs:=bd) k3);clear k2 k3;go_wp2_with fail;refine(pQ R _ _ ⟨#[45]⟩ rfl hm jG.o.rd).mono ?_;rintro e w1 ⟨rfl,k2⟩;have gX:=ah (jG.o.below k2);have yN:=ah (zM.o.gr' (jB k2));clear k2;go_wp2_with fail;refine(U9 R _ _ h2 gX.o.rd).mono ?_;rintro e w2 ⟨rfl,k2,k3⟩;have oz:=ah (gX.o.then k2 k3);have Am:=ah (yN.o.gr' k3);clear k2 k3;have c4:=oz.o.cell (j:=4) rfl;have f4:=oz.o.free 4;go_wp2_with fail;go_ret;exact Oq rfl (oz.o.init _ HV.o) (Am.o.set _ _ (.inl rfl))
theorem Dn {w:World} {K:Act->Prop} {a:Act} (h:K a):dH w K [] a:=h
def Xd (d:De):Value:= .agg #[.int .i64 d.kind,.int .i64 d.line,.string d.nm,.int .i64 d.size,.int .i64 d.init,.string d.on]
def aw9 (R:Rp) (w:World) (d:De) (r:bL) (e:Ending) (w':World):Prop:=(d.Ok∧e= .returned (.tuple #[Xd d,.bool true]))∧eP w' R r∧w.grownBy w' (some R.br)
def I8:Array Value:= #[.int .i64 0,.int .i64 0,.string ⟨#[]⟩,.int .i64 0,.int .i64 0,.string ⟨#[]⟩]
theorem Xa:(Tryz.prog.info? 55).map (·.size)=some 6:=ahd
theorem z6 {w:World} {b:Nat} {t:TypeId} (h:w.heap[b]? =some (.cells I8 t (0,0))):
 (w.cell? ⟨b,0,none⟩=some (.int .i64 0)∧w.cell? ⟨b,1,none⟩=some (.int .i64 0)∧w.cell? ⟨b,2,none⟩=some (.string ⟨#[]⟩)∧w.cell? ⟨b,3,none⟩=some (.int .i64 0)∧w.cell? ⟨b,4,none⟩=some (.int .i64 0)∧w.cell? ⟨b,5,none⟩=some (.string ⟨#[]⟩))∧∀j,w.frozen? ⟨b,j,none⟩=false:=
 ⟨⟨aQ h rfl,aQ h rfl,aQ h rfl,aQ h rfl,aQ h rfl,aQ h rfl⟩,λ_=>bC h⟩
theorem aG2 {R:Rp} {w W:World} {d:De} {r:bL} (hok:d.Ok) (hr:eP W R r) (hg:w.grownBy W (some R.br)) (hl:R.br<w.heap.size):
 aw9 R w d r (.returned (.tuple #[Xd d,.bool true])) (W.setCells w.heap.size 0 (oD d)):=
 ⟨⟨hok,rfl⟩,Ck hr (dN _ _ _ _) agz ahe,wu hg _ _ _ (aH _)⟩
def KzR (d:De) (r:bL) (dz:De) (rz:bL):Prop:=
 ((d.kind==1)=true∧∃d2 q,yE d r= .ok d2 q∧at' [45] q.tail=false∧zK d2 q= .ok dz rz)∨(((d.kind==1)=false∧(d.kind==2)=false∧(d.kind==5)=true)∧isName r=true∧dz= {d with on:=tx (bU r)} ∧rz=r.tail)∨
 (((d.kind==1)=false∧(d.kind==2)=false∧(d.kind==5)=false)∧dz=d∧rz=r)
theorem Xk {br bd:Nat} {w w1 w2:World} (h:w.grownBy w1 (some br)) (hf:Fr br bd w1 w2) (hb:w.heap.size<=bd):w.grownBy w2 (some br):=
 ⟨hf.os.trans h.os,hf.tape.trans h.tape,hf.output.trans h.output,aR h.size hf.size,λk hk hn=>(hf.block k (aJ hk h.size) (by simpa using hn) ahe).trans (h.block k hk hn)⟩
def yM (P Q S:World->Prop):List Bool->World->Prop
 | [x,y],w=>if y then S w else if x then Q w else P w
 |_,_=>False
section
variable {P Q S:World->Prop} {c:List Bool} {w w':World} {k l i:Nat}
theorem yM.bits (h:yM P Q S c w): ∃x y,c=[x,y]:=by
 match c,h with
 | [x,y],_=>exact⟨x,y,rfl⟩
 | [],h=>exact h.elim
 | [_],h=>exact h.elim
 |_::_::_::_,h=>exact h.elim
theorem yM.skip (h1:(k==i)=false) (h2:(l==i)=false) (h:yM P Q S c w):yM P Q S (iE [k,l] c i) w:=by
 obtain⟨x,y,rfl⟩:=h.bits;simp only[iE,h1,h2,Bool.or_false];exact h
theorem yM.fire (h1:(k==i)=true) (h2:(l==i)=false) (h:Q w):yM P Q S (iE [k,l] [false,false] i) w:=by
 simp only[iE,h1,h2,Bool.or_false,Bool.or_true];exact h
theorem yM.last (h1:(k==i)=false) (h2:(l==i)=true) (h:S w):yM P Q S (iE [k,l] [true,false] i) w:=by
 simp only[iE,h1,h2,Bool.or_false,Bool.or_true];exact h
theorem yM.gr {x:Bool} {T:World->Prop} (hp: ∀w,P w->T w) (hq: ∀w,Q w->T w) (h:yM P Q S [x,false] w):T w:=by
 cases x
 ·exact hp w h
 ·exact hq w h
end
theorem Mi (R:Rp) (ts rz:bL) (dz:De) (w:World) (hI:eP w R ts) (hk:isDecl ts=true) (hn:isName ts.tail=true) (hKR:KzR ⟨qQ (bU ts),((fP ts:Nat):Int),tx (bU ts.tail),0,0,⟨#[]⟩⟩ ts.tail.tail dz rz) (h4:at' [59] rz=true):
 Calls Tryz.prog 112 #[.pointer (some ⟨R.br,0,none⟩)] w (aw9 R w dz rz.tail):=by
 have HKR:=ah hKR;clear hKR;have HI:=ah hI;have HL:=ah (EW hI);have hlt:=hI.lt;have bC0:=ah hlt;obtain⟨t0,r0,hr⟩: ∃t r,ts=t::r:=by
  cases ts with
  |nil=>exact absurd hk (by simp[isDecl,nextK])
  |cons t r=>exact⟨t,r,rfl⟩
 have Nc:=ah hr;have hd0:(qQ (bU ts)==0)=false:=by unfold isDecl at hk;simp only[aP,Bool.not_eq_true']at hk;exact hk.2
 have VP:=ah (aq9 (bU ts) hd0);clear hk hr hd0;go_enter Tryz.func112,Tryz.ntmps112;go_upto_region 1 with fail;generalize hW:World.alloc w _=W0;have HB0:aj (Below w.heap.size w W0):=ah aft;have HZ0:aj (W0.heap[w.heap.size]? =some (.cells I8 55 (0,0))):=ah acR;have HN:=ah (qU R ts W0 (HI.o.below HB0.o));unfold wR at HN;clear hW hI;go_wp2_with fail;refine HN.o.mono ?_;rintro e w1 ⟨rfl,h2⟩;have HB1:=ah (HB0.o.trans (h2.mono HB0.o.size));have HZ1:=gV h2 HZ0;clear h2 HN HB0 HZ0;go_upto_region 2 with fail;generalize hW:World.alloc w1 _=W2;obtain⟨gt,hg,-,-,HT2,-⟩:=nI hW;rw[hg];have HB2:aj (Below w.heap.size w W2):=ah acH;have HZ2:aj (W2.heap[w.heap.size]? =some (.cells I8 55 (0,0))):=ah abB;have oM:aj (R.br<w.heap.size∧w.heap.size<gt):=ah ⟨hlt,by rw[<- hg];exact(aU HZ1.o)⟩;obtain⟨pos,hp,q0,q1,fq,HX⟩:=(HI.o.below HB2.o).open;clear hW hg HB1 HZ1;go_upto_region 3 with fail;generalize hW:World.setCell W2 _ _=W3;have HQ:aj (eP W3 R ts.tail∧W2.grownBy W3 (some R.br)):=ah adu;have OM:aj (w.grownBy W3 (some R.br)):=ah (iQ (jB HB2.o) HQ.o.2);have HT3:=ah ((HQ.o.2.block _ (aU HT2.o) afU).trans HT2.o);have HZ3:=ah ((HQ.o.2.block _ (aU HZ2.o) afU).trans HZ2.o);have aB1:=ah HQ.o.1;clear hW q0 q1 fq HX HB2 HT2 HZ2 HQ;have K1: ∀w',Below W3.heap.size W3 w'->w'.cell? ⟨gt,1,none⟩=some (.string (tx (bU ts))):=λw' h=>aQ ((h.block _ (aU HT3.o)).trans HT3.o) rfl;have K2: ∀w',Below W3.heap.size W3 w'->w'.cell? ⟨gt,2,none⟩=some (.int .i64 ((fP ts:Nat):Int)):=λw' h=>aQ ((h.block _ (aU HT3.o)).trans HT3.o) rfl;refine bS ahd rfl ?_;refine bK 0 7 [] [[],[0],[0,1],[],[3],[0,1,2,3,4],[],[0,1,2,3,4,5,6]] [[],[],[],[],[],[],[]] (λ_ w'=>Below W3.heap.size W3 w') (λw w'=>Below w.heap.size w w') [16,17,18,19,20,21,5] rfl rfl aip ahd ahd ahd ahd ahd aip (λ_=>ak _ _) aip (below_drewN (ak _ _) 1) ?_;simp only[eB,iP]
 iterate 2
  apply bf.step
  case aZ=>intro c A w' hok hC hO hD;have e4:=hO 4 aip;simp[Act.eval]at e4;simp[Act.eval]at hD;simp[go_sem,gd,Oper.wp,hD,e4,K1,hC];exact aO.mk (ak _ _) hC (bT.mk _ _)
 apply bf.step
 case aZ=>intro c A w' hok hC hO hD;simp[Act.eval]at hD;simp[go_sem,gd,Oper.wp,hD];refine(Gu (tx (bU ts)) (l:=bU ts) (MK _) w').mono ?_;rintro e w2 ⟨rfl,rfl⟩;exact aO.mk (ak _ _) hC (bT.mk _ _)
 iterate 3
  apply bf.step
  case aZ=>intro c A w' hok hC hO hD;have e4:=hO 4 aip;simp[Act.eval]at e4;simp[Act.eval]at hD;simp[go_sem,gd,Oper.wp,hD,e4,K2,hC];exact aO.mk (ak _ _) hC (bT.mk _ _)
  try simp only[bP]
 refine bf.some (λv w'=> ∃db,v= .pointer (some ⟨db,0,none⟩)∧W3.heap.size<=db∧w'.heap[db]? =some (.cells I8 55 (0,0))) ?_ ?_ ?_
 ·rintro v w1 w' hle ⟨g,h1,h2,h3⟩;exact⟨g,h1,h2,(hle.block g (aU h3)).trans h3⟩
 ·intro c A w' hok hC hO hD;simp[go_sem,gd,Oper.wp];exact aO.mk (d:=_) (v:= .pointer (some ⟨_,0,none⟩)) (aA _ _) (hC.alloc hC.size _) ⟨_,rfl,hC.size,heap_alloc_new _ _⟩
 simp only[bP];refine bf.done ?_;intro wz bR;simp only[List.drop_zero];intro v0 h0 v1 h1 v2 h2 v3 h3 v4 h4 v5 h5 v6 h6;have h5':=Eq.symm (show v5=_ from h5);subst h5';obtain⟨bd,rfl,GX,rQ⟩:=h6;clear h0 h1 h2 h3 h4 h5 K1 K2;have HD0:aj ((⟨qQ (bU ts),((fP ts:Nat):Int),⟨#[]⟩,0,0,⟨#[]⟩⟩:De).Ok):=ah ⟨by have:=VP.o;show dD (qQ _);unfold dD;omega,HL.o,bF _,D8,D8,bF _⟩;have iO:aj (Below W3.heap.size W3 wz):=ah bR;have VN:aj (W3.heap.size<=bd∧wz.heap[bd]? =some (.cells I8 55 (0,0))):=ah ⟨GX,rQ⟩;clear bR GX;refine Dn ?_;go_simp;refine dA 7 [[],[0],[0,1],[],[3],[0,1,2,3,4],[],[0,1,2,3,4,5,6]] rfl rfl rfl rfl rfl ahd ahd ahd ?_;refine wp_store_mid _ _ _ aip bd 0 (oD ⟨qQ (bU ts),((fP ts:Nat):Int),⟨#[]⟩,0,0,⟨#[]⟩⟩).toArray aip aip (yH rQ (aH 6)) Xa agI ?_;refine cO rfl ?_;generalize rP:World.setCells wz bd 0 _=W5;have qW:aj (w.heap.size<bd∧R.br<bd):=ah (by have h1:=VN.o.1;have h2:=(aU HZ3.o);have h3:=oM.o;omega);have vQ:aj (wz.grownBy W5 (some bd)):=ah (by rw[<- rP];exact dN _ _ _ _);have Kl:aj (Pd R bd W5 ⟨qQ (bU ts),((fP ts:Nat):Int),⟨#[]⟩,0,0,⟨#[]⟩⟩ ts.tail):=ah ⟨Ck (aB1.o.below iO.o) vQ.o (by have:=qW.o;have:=R.b0;omega) agB,agB,by have:=qW.o;have:=R.b0;omega,by rw[<- rP];exact jE VN.o.2 rfl,HD0.o⟩;have Ur:aj (w.grownBy W5 (some R.br)):=ah (by rw[<- rP];exact wu (iQ OM.o (jB iO.o)) _ _ _ (bM qW.o.1));have SH:aj (W5.heap[w.heap.size]? =some (.cells I8 55 (0,0))):=ah ((vQ.o.block _ (aJ (aU HZ3.o) iO.o.size) (by have:=qW.o;simp;omega)).trans ((iO.o.block _ (aU HZ3.o)).trans HZ3.o));clear rP vQ iO VN rQ HD0 aB1 OM HT3 HZ3;go_simp;have wW:aj ((tx (bU ts.tail)).size<=maxLen):=ah (xC (xG Kl.o.rd.ts hn));go_wp2_with fail;refine(uP R _ _ hn Kl.o.rd).mono ?_;rintro e w6 ⟨rfl,h2,h3⟩;have IZ:=ah (Kl.o.then h2 h3);have ay8:=ah (iQ Ur.o h3);have HZ6:=ah ((h3.block _ (aU SH.o) afU).trans SH.o);clear h2 h3 Kl Ur SH;have c2:=IZ.o.cell (j:=2) rfl;have f2:=IZ.o.free 2;go_upto_region 6 with fail;generalize hW:World.setCell w6 _ _=W7;have Cx:aj (Pd R bd W7 ⟨qQ (bU ts),((fP ts:Nat):Int),tx (bU ts.tail),0,0,⟨#[]⟩⟩ ts.tail.tail):=ah (by rw[<- hW];exact IZ.o.nm _ wW.o);have Us:aj (w.grownBy W7 (some R.br)):=ah (by rw[<- hW];exact C8 ay8.o _ _ (bM qW.o.1));have Wx:aj (W7.heap[w.heap.size]? =some (.cells I8 55 (0,0))):=ah (by rw[<- hW];exact(dB w6 _ _ rfl aeW).trans HZ6.o);clear hW IZ ay8 HZ6 c2 f2;obtain⟨dd,Sw⟩: ∃dd,aj ((⟨qQ (bU ts),((fP ts:Nat):Int),tx (bU ts.tail),0,0,⟨#[]⟩⟩:De)=dd):=⟨_,ah rfl⟩;have HKK:aj (dd.kind=qQ (bU ts)):=ah (by rw[<- Sw.o]);rw[Sw.o]at Cx HKR;obtain⟨r1,HR1⟩: ∃r1,aj (ts.tail.tail=r1):=⟨_,ah rfl⟩;rw[HR1.o]at Cx HKR;have c0:W7.cell? ⟨bd,0,none⟩=some (.int .i64 dd.kind):=Cx.o.cell rfl;go_upto_block 0 with fail;go_cut [6] (λs6 W'=>s6= .bool true∧Pd R bd W' dz rz∧w.grownBy W' (some R.br)∧W'.heap[w.heap.size]? =some (.cells I8 55 (0,0)))
 case first=>
  rcases HKR.o with⟨k1,d2,q,hs,hm,hi⟩|⟨⟨k1,k2,k5⟩,hm,hz,hr⟩|⟨⟨k1,k2,k5⟩,hz,hr⟩
  ·have HC:=ah (au7 R bd r1 q dd d2 W7 Cx.o hs);have OD:aj (∀W,Pd R bd W d2 q->Calls Tryz.prog 152 #[.pointer (some ⟨R.br,0,none⟩),.pointer (some ⟨bd,0,none⟩)] W (DmP R bd W (.ok dz rz))):=ah (λW h=>Va R bd q rz d2 dz W h hm hi);clear hs hm hi;go_wp2_with fail;refine HC.o.mono ?_;rintro e w8 ⟨rfl,h2,h3⟩;have rD:=ah h2;have OO:=ah (Xk Us.o h3 (bM qW.o.1));have SK:=ah (Iq h3 Wx.o afx agB);clear h2 h3 HC;have HC:=ah (OD.o _ rD.o);clear OD;go_wp2_with fail;refine HC.o.mono ?_;rintro e w9 ⟨rfl,h2,h3⟩;have xS:=ah h2;have HF9:=ah h3;clear h2 h3;go_wp2_with fail;go_meet;exact⟨rfl,xS.o,Xk OO.o HF9.o (bM qW.o.1),Iq HF9.o SK.o afx agB⟩
  ·have Uv:aj ((tx (bU r1)).size<=maxLen):=ah (xC (xG Cx.o.rd.ts hm));subst hz hr;go_wp2_with fail;refine(uP R _ _ hm Cx.o.rd).mono ?_;rintro e w8 ⟨rfl,h2,h3⟩;have rD:=ah (Cx.o.then h2 h3);have OO:=ah (iQ Us.o h3);have SK:=ah ((h3.block _ (aU Wx.o) afU).trans Wx.o);clear h2 h3;have c5:=rD.o.cell (j:=5) rfl;have f5:=rD.o.free 5;go_wp2_with fail;go_meet;exact⟨rfl,rD.o.on _ Uv.o,C8 OO.o _ _ (bM qW.o.1),(dB w8 _ _ rfl aeW).trans SK.o⟩
  ·subst hz hr;go_wp2_with fail;go_meet;exact⟨rfl,Cx.o,Us.o,Wx.o⟩
 obtain⟨rfl,hPd,hGr,hZ⟩:=hcut;obtain⟨W8,rfl⟩: ∃W:World,W=wc:=⟨_,rfl⟩;have rD:=ah hPd;have OO:=ah hGr;have SK:=ah hZ;clear hPd hGr hZ Cx Us Wx c0 HKR;have KD: ∀w',W8.grownBy w' (some R.br)->(w'.cell? ⟨bd,0,none⟩=some (.int .i64 dz.kind)∧w'.cell? ⟨bd,1,none⟩=some (.int .i64 dz.line)∧w'.cell? ⟨bd,2,none⟩=some (.string dz.nm)∧w'.cell? ⟨bd,3,none⟩=some (.int .i64 dz.size)∧w'.cell? ⟨bd,4,none⟩=some (.int .i64 dz.init)∧w'.cell? ⟨bd,5,none⟩=some (.string dz.on)):=λw' h=>by have hb:=(h.block _ rD.o.lt (by simp;exact rD.o.ne)).trans rD.o.blk;exact⟨aQ hb rfl,aQ hb rfl,aQ hb rfl,aQ hb rfl,aQ hb rfl,aQ hb rfl⟩
 have HIP:aj (eP W8 R rz):=ah rD.o.rd;have e0: ∀w',W8.grownBy w' (some R.br)->w'.heap[w.heap.size]? =some (.cells I8 55 (0,0)):=λw' h=>(h.block _ (aU SK.o) afU).trans SK.o;have OG:=ah e0;clear e0;go_upto_region 15 with fail;refine bS ahd rfl ?_;refine bK 0 8 [4,6] [[],[],[1],[1,2],[1,2,3],[1,2,3,4],[0,1,2,3,4],[0,1,2,3,4,5,6]] [[none,some false],[some false,some false],[some false,some false],[some false,some false],[some false,some false],[some true,none],[some true,some false],[some true,some true]] (yM (λw'=>eP w' R rz∧W8.grownBy w' (some R.br)) (λw'=>eP w' R rz.tail∧W8.grownBy w' (some R.br)) (λw'=> ∃w2,(eP w2 R rz.tail∧W8.grownBy w2 (some R.br))∧w'=w2.setCells w.heap.size 0 (oD dz))) (λ_ _=>True) [53,54,55,56,57,58,3] rfl rfl aip ahd ahd ahd ahd ahd aip (λ_=>trivial) aip ⟨HIP.o.below (below_drewN (ak _ _) 1),jB (below_drewN (ak _ _) 1)⟩ ?_;simp only[eB,iP];apply bf.step
 case aZ=>intro c A w' hok hC hO hD;obtain⟨x,y,rfl⟩:=hC.bits;obtain⟨rfl,-⟩:=hok;obtain⟨d0,d1,d2,d3,d4,d5⟩:=KD w' (hC.gr (λ_ h=>h.2) (λ_ h=>h.2));have e5:=hO 5 aip;simp[Act.eval]at e5;simp[Act.eval]at hD;simp[go_sem,gd,Oper.wp,e5,d0,d1,d2,d3,d4,d5];exact aO.mk trivial (yM.skip aip aip hC) (bT.mk _ _)
 iterate 3
  apply bf.step
  case aZ=>intro c A w' hok hC hO hD;have e6:=hO 6 aip;have e0:=hO 0 aip;simp[Act.eval]at e6 e0;simp[Act.eval]at hD;simp[go_sem,gd,Oper.wp,hD,e6,e0];exact aO.mk trivial (yM.skip aip aip hC) (bT.mk _ _)
 apply bf.step
 case aZ=>intro c A w' hok hC hO hD;obtain⟨x,y,rfl⟩:=hC.bits;obtain⟨rfl,rfl,-⟩:=hok;simp[Act.eval]at hD;simp[go_sem,gd,Oper.wp,hD];refine(kK R _ _ ⟨#[59]⟩ rfl h4 hC.1).mono ?_;rintro e w3 ⟨rfl,k2,k3⟩;exact aO.mk trivial (yM.fire aip aip ⟨k2,iQ hC.2 k3⟩) (bT.mk _ _)
 try simp only[bP]
 apply bf.step
 case aZ=>intro c A w' hok hC hO hD;simp[Act.eval]at hD;simp[go_sem,gd,Oper.wp,hD];exact aO.mk trivial (yM.skip aip aip hC) (bT.mk _ _)
 refine bf.some (λ_ _=>True) (λ_ _ _ _ _=>trivial) ?_ ?_
 ·intro c A w' hok hC hO hD;obtain⟨x,y,rfl⟩:=hC.bits;obtain⟨rfl,rfl,-⟩:=hok;have e2:=hO 2 aip;simp[Act.eval]at e2;simp[Act.eval]at hD;simp only[gd,if_true];refine wp_store_mid _ _ _ aip w.heap.size 0 (oD dz).toArray (by simp[Act.eval,e2]) (by simp[Act.eval,hD,oD]) (yH (OG.o w' hC.2) (aH 6)) Xa agI ?_;exact aO.qK trivial (yM.last aip aip ⟨w',hC,rfl⟩) trivial
 apply bf.step
 case aZ=>intro c A w' hok hC hO hD;simp[Act.eval]at hD;simp[go_sem,gd,Oper.wp,hD];exact aO.mk trivial (yM.skip aip aip hC) (bT.mk _ _)
 try simp only[bP]
 refine bf.done ?_;intro w9 hC9
 try simp only[List.drop_succ_cons,List.drop_zero]
 intro x0 h0 x1 h1 x2 h2 x3 h3 x4 h4 x5 h5 x6 h6 x7 h7;have h7':=Eq.symm (show x7=_ from h7);subst h7';clear h0 h1 h2 h3 h4 h5 h6 h7;refine Dn ?_;refine cO rfl ?_;obtain⟨w2,hw2,hw9⟩: ∃w2,(eP w2 R _∧W8.grownBy w2 (some R.br))∧w9=w2.setCells w.heap.size 0 (oD dz):=hC9;have Aj:w9.heap[w.heap.size]? =some (.cells (oD dz).toArray 55 (0,0)):=by rw[hw9];exact jE (OG.o w2 hw2.2) rfl
 have HW9:=ah hw9;obtain⟨y0,y1,y2,y3,y4,y5⟩:=nJ Aj;have HFN:=ah (aG2 (d:=dz) rD.o.ok hw2.1 (iQ OO.o hw2.2) oM.o.1);rw[<- hw9]at HFN;clear hw9 Aj KD;go_simp;go_wp2_with fail;exact bodyPost_ret (v:= .tuple #[Xd dz,.bool true]) (by simp[results,Tryz.results112,go_sem,Xd,y0,y1,y2,y3,y4,y5]) rfl HFN.o
theorem as3:(Tryz.prog.info? 9).map (λi=>(i.zero,i.size,i.bytes))=some (some (.string ⟨#[]⟩),1,16):=ahd
theorem aM3: ∃i0,Tryz.prog.info? 9=some i0∧i0.zero=some (.string ⟨#[]⟩)∧i0.size=1∧i0.bytes=16:=info_parts as3
theorem bo4 (k:Int) (s:ByteArray) (n:Int) (w:World):(Instr.field 164 (.agg #[.int .i64 k,.string s,.int .i64 n]) 0).run Tryz.prog w= .ok (.int .i64 k) w:=ahd
theorem bo5 (k:Int) (s:ByteArray) (n:Int) (w:World):(Instr.field 164 (.agg #[.int .i64 k,.string s,.int .i64 n]) 1).run Tryz.prog w= .ok (.string s) w:=ahd
theorem bo6 (k:Int) (s:ByteArray) (n:Int) (w:World):(Instr.field 164 (.agg #[.int .i64 k,.string s,.int .i64 n]) 2).run Tryz.prog w= .ok (.int .i64 n) w:=ahd
def aE9 (R:Rp) (w:World) (t:Th) (r:bL) (e:Ending) (w':World):Prop:=(∃x:kF,x.t=t∧e= .returned (.tuple #[.agg (kF.f x).toArray,.bool true])∧(x.t.Ok∧x.t.cu.length<=x.dW)∧gB w.heap.size w' (kF.I x))∧eP w' R r∧w.grownBy w' (some R.br)
def Um:Array Value:= #[.string ⟨#[]⟩,.int .i64 0,.slice none 0 0,.slice none 0 0]
theorem z4t {w:World} {b:Nat} {t:TypeId} (h:w.heap[b]? =some (.cells Um t (0,0))):
 (w.cell? ⟨b,0,none⟩=some (.string ⟨#[]⟩)∧w.cell? ⟨b,1,none⟩=some (.int .i64 0)∧w.cell? ⟨b,2,none⟩=some (.slice none 0 0)∧w.cell? ⟨b,3,none⟩=some (.slice none 0 0))∧∀j,w.frozen? ⟨b,j,none⟩=false:=
 ⟨⟨aQ h rfl,aQ h rfl,aQ h rfl,aQ h rfl⟩,λ_=>bC h⟩
structure Ps (R:Rp) (bt B:Nat) (w W:World) (nm:ByteArray) (line:Int) (v:Value) (l:List ByteArray) (rest:bL):Prop where
 rd:eP W R rest
 gr:w.grownBy W (some R.br)
 lt:R.br<w.heap.size∧w.heap.size<bt∧bt<B∧B<=W.heap.size
 z:W.heap[w.heap.size]? =some (.cells Um 59 (0,0))
 blk:W.heap[bt]? =some (.cells #[.string nm,.int .i64 line,v,.slice none 0 0] 59 (0,0))
 row:mQ B W v l
section
variable {R:Rp} {bt B:Nat} {w W W':World} {nm:ByteArray} {line:Int} {v:Value} {l:List ByteArray} {rest rest':bL}
theorem Ps.then (h:Ps R bt B w W nm line v l rest) (h1:eP W' R rest') (h2:W.grownBy W' (some R.br)):Ps R bt B w W' nm line v l rest':=
 ⟨h1,iQ h.gr h2,⟨h.lt.1,h.lt.2.1,h.lt.2.2.1,aR h.lt.2.2.2 h2.size⟩,(h2.block _ (aU h.z) afV).trans h.z,(h2.block _ (aU h.blk) afV).trans h.blk,h.row.next (zT h2 agj)⟩
theorem Ps.below (h:Ps R bt B w W nm line v l rest) (hb:Below W.heap.size W W'):Ps R bt B w W' nm line v l rest:=h.then (h.rd.below hb) (jB hb)
theorem Ps.cells (h:Ps R bt B w W nm line v l rest):W.cell? ⟨bt,0,none⟩=some (.string nm)∧W.cell? ⟨bt,1,none⟩=some (.int .i64 line)∧W.cell? ⟨bt,2,none⟩=some v∧W.cell? ⟨bt,3,none⟩=some (.slice none 0 0)∧∀j,W.frozen? ⟨bt,j,none⟩=false:=
 ⟨aQ h.blk rfl,aQ h.blk rfl,aQ h.blk rfl,aQ h.blk rfl,λ_=>bC h.blk⟩
theorem Ps.name (h:Ps R bt B w W nm line v l rest) (s:ByteArray):Ps R bt B w (W.setCell ⟨bt,0,none⟩ (.string s)) s line v l rest:=
 ⟨uT h.rd _ _ abo adG,C8 h.gr _ _ adO,by have:=h.lt;simpa[World.setCell]using this,(dB W _ _ rfl adK).trans h.z,agL,h.row.next (gW W ⟨bt,0,none⟩ _ h.lt.2.2.1)⟩
theorem Ps.cu {v':Value} {l':List ByteArray} (h:Ps R bt B w W nm line v l rest) (hr:eP W' R rest) (hg:w.grownBy W' (some R.br)) (hB:Below B W W') (hrow:mQ B W' v' l'):Ps R bt B w (W'.setCell ⟨bt,2,none⟩ v') nm line v' l' rest:=
 ⟨uT hr _ _ abo adG,C8 hg _ _ adO,abL,(dB W' _ _ rfl adK).trans ((hB.block _ agj).trans h.z),by rw[dX ((hB.block _ h.lt.2.2.1).trans h.blk)];rfl,hrow.next (gW W' ⟨bt,2,none⟩ _ h.lt.2.2.1)⟩
theorem Ps.Td (h:Ps R bt B w W nm line v l rest) (b:Value): ∀W',W.setCell ⟨bt,3,none⟩ b=W'->eP W' R rest∧w.grownBy W' (some R.br)∧W'.heap[w.heap.size]? =some (.cells Um 59 (0,0))∧W'.heap[bt]? =some (.cells #[.string nm,.int .i64 line,v,b] 59 (0,0)):=by
 intro W' hW;subst hW;exact⟨uT h.rd _ _ abo adG,C8 h.gr _ _ adO,(dB W _ _ rfl adK).trans h.z,agL⟩
end
theorem YK {R:Rp} {w W:World} {x:kF} {r:bL} {B:Nat} (hok:x.t.Ok∧x.t.cu.length<=x.dW) (hst:gB B W (kF.I x)) (hB:w.heap.size<B) (hr:eP W R r) (hg:w.grownBy W (some R.br)) (hl:R.br<w.heap.size):
 aE9 R w x.t r (.returned (.tuple #[.agg (kF.f x).toArray,.bool true])) (W.setCells w.heap.size 0 (kF.f x)):=
 ⟨⟨x,rfl,rfl,hok,(hst.next ⟨(dN w.heap.size _ 0 W).size,λk h1 h2=>(dN w.heap.size _ 0 W).block k h2 ahh⟩).mono (bM hB)⟩,Ck hr (dN _ _ _ _) agz ahe,wu hg _ _ _ (aH _)⟩
def LzR (r6:bL) (l:List ByteArray) (r:bL):Prop:=
 (at' [41] r6=true∧l=[]∧r=r6.tail)∨(at' [41] r6=false∧isName r6=true∧at' [44] r6.tail=false∧at' [41] r6.tail=true∧l=[tx (bU r6)]∧r=r6.tail.tail)
theorem YL (R:Rp) (ts r q:bL) (l:List ByteArray) (b:aY) (w:World) (hI:eP w R ts) (hk:at' [116,104,114,101,97,100] ts=true) (hn:isName ts.tail=true) (h4:at' [40] ts.tail.tail=true) (hl:LzR ts.tail.tail.tail l r) (OE:aj (uW R r b q)):
 Calls Tryz.prog 114 #[.pointer (some ⟨R.br,0,none⟩)] w (aE9 R w ⟨tx (bU ts.tail),fP ts,l,b⟩ q):=by
 have HLZ:=ah hl;clear hl;have HI:=ah hI;have HL:=ah (EW hI);have hlt:=hI.lt;obtain⟨t0,r0,hr⟩:=WM hk;have Nc:=ah hr;clear hk hr;have hf2:=bo6;go_enter Tryz.func114,Tryz.ntmps114;go_upto_region 1 with fail;generalize hW:World.alloc w _=W0;have HB0:aj (Below w.heap.size w W0):=ah aft;have HZ0:aj (W0.heap[w.heap.size]? =some (.cells Um 59 (0,0))):=ah acR;have HN:=ah (qU R ts W0 (HI.o.below HB0.o));unfold wR at HN;clear hW hI;go_wp2_with fail;refine HN.o.mono ?_;rintro e w1 ⟨rfl,h2⟩;have HB1:=ah (HB0.o.trans (h2.mono HB0.o.size));have HZ1:=gV h2 HZ0;clear h2 HN HB0 HZ0;go_upto_region 2 with fail;obtain⟨bt,hg⟩: ∃g,w1.heap.size=g:=⟨_,rfl⟩;rw[hg];generalize hW:World.alloc w1 _=W2;have HB2:aj (Below w.heap.size w W2):=ah acH;have oM:aj (R.br<w.heap.size∧w.heap.size<bt):=ah ⟨hlt,by rw[<- hg];exact(aU HZ1.o)⟩;have HS2:aj (Ps R bt (bt+1) w W2 ⟨#[]⟩ ((fP ts:Nat):Int) (.slice none 0 0) [] ts):=ah ⟨HI.o.below HB2.o,jB HB2.o,⟨hlt,oM.o.2,Nat.lt_succ_self _,agP⟩,abB,by rw[<- hW,<- hg];exact heap_alloc_new _ _,Grow.nil _ _ _ _ _ _⟩;obtain⟨pos,hp,q0,q1,fq,HX⟩:=HS2.o.rd.open;clear hW hg HB1 HZ1 HB2;go_upto_region 3 with fail;generalize hW:World.setCell W2 _ _=W3;have HQ:aj (eP W3 R ts.tail∧W2.grownBy W3 (some R.br)):=ah adu;have kY:=ah (HS2.o.then HQ.o.1 HQ.o.2);clear hW q0 q1 fq HX HQ HS2;have wW:aj ((tx (bU ts.tail)).size<=maxLen):=ah (xC (xG kY.o.rd.ts hn));go_wp2_with fail;refine(uP R _ _ hn kY.o.rd).mono ?_;rintro e w4 ⟨rfl,h2,h3⟩;have CB:=ah (kY.o.then h2 h3);clear h2 h3 kY;obtain⟨c0,c1,c2,c3,fc⟩:=CB.o.cells;have fc0:=fc 0;go_upto_region 5 with fail;generalize hW:World.setCell w4 _ _=W5;have HS5:aj (Ps R bt (bt+1) w W5 (tx (bU ts.tail)) ((fP ts:Nat):Int) (.slice none 0 0) [] ts.tail.tail):=ah (by rw[<- hW];exact CB.o.name _);clear hW c0 c1 c2 c3 fc fc0 CB;go_wp2_with fail;refine(kK R _ _ ⟨#[40]⟩ rfl h4 HS5.o.rd).mono ?_;rintro e w6 ⟨rfl,h2,h3⟩;have oC:=ah (HS5.o.then h2 h3);clear h2 h3 HS5;obtain⟨r6,Kn⟩: ∃r6,aj (ts.tail.tail.tail=r6):=⟨_,ah rfl⟩;rw[Kn.o]at oC HLZ;rcases HLZ.o with⟨h5,hl,hr⟩|⟨h5,hm,h6,h7,hl,hr⟩
 ·subst hl hr;clear HLZ;have Fj:aj (([]:List ByteArray).length<=maxLen):=ah (bF _);have eH:aj (∀s∈([]:List ByteArray),s.size<=maxLen):=ah ahg;go_wp2_with fail;refine(kK R _ _ ⟨#[41]⟩ rfl h5 oC.o.rd).mono ?_;rintro e w7 ⟨rfl,h2,h3⟩;have yP:=ah (oC.o.then h2 h3);clear h2 h3 oC;obtain⟨v',Pb⟩: ∃v',aj (Ps R bt (bt+1) w _ (tx (bU ts.tail)) ((fP ts:Nat):Int) v' ([]:List ByteArray) r6.tail):=⟨_,yP⟩;clear yP;go_wp2_with fail;refine(OE.o _ Pb.o.rd).mono ?_;rintro e w8 ⟨⟨ao,cap,rfl,hl,hst⟩,h2,h3⟩;have pY:=ah (Pb.o.then h2 h3);have sS:aj (b.len<=maxLen∧gB (bt+1) w8 (λw2=>b.At w2 w2.heap.size ao 0)):=ah ⟨aR hl afA,hst.mono Pb.o.lt.2.2.2⟩;clear h2 h3 hl hst;obtain⟨gK,dW,hv,hcl,htx⟩:=pY.o.row.says eH.o;have HV:=ah hv;have BF:=ah (aB hcl htx);clear hv hcl htx;obtain⟨c0,c1,c2,c3,fc⟩:=pY.o.cells;have fc3:=fc 3;go_upto_region 16 with fail;generalize hW:World.setCell w8 _ _=W9;have DN:=ah (pY.o.Td (.slice ao b.len cap) W9 hW);have FJ:aj (jS (bt+1) w8 W9):=ah abr;clear hW c0 c1 c2 c3 fc fc3;obtain⟨e0,e1⟩:=nT DN.o.2.2.2;have e2:W9.cell? ⟨bt,2,none⟩=some (.slice gK (([]:List ByteArray)).length dW):=(aQ DN.o.2.2.2 rfl).trans (congrArg some HV.o);have e3:W9.cell? ⟨bt,3,none⟩=some (.slice ao b.len cap):=aQ DN.o.2.2.2 rfl;obtain⟨⟨y0,y1,y2,y3⟩,fz⟩:=z4t DN.o.2.2.1;have g0:=fz 0;have g1:=fz 1;have g2:=fz 2;have g3:=fz 3;clear fz;go_wp2_with fail;exact bodyPost_ret (v:= .tuple #[.agg (kF.f ⟨⟨tx (bU ts.tail),((fP ts:Nat):Int),([]:List ByteArray),b⟩,gK,dW,ao,cap⟩).toArray,.bool true]) abG rfl (YK (x:=⟨⟨tx (bU ts.tail),((fP ts:Nat):Int),([]:List ByteArray),b⟩,gK,dW,ao,cap⟩) (B:=bt+1) ⟨⟨wW.o,HL.o,Fj.o,sS.o.1⟩,BF.o.1⟩ (λw2 h2=>⟨BF.o.2 w2 (FJ.o.trans h2),sS.o.2 w2 (FJ.o.trans h2)⟩) afx DN.o.1 DN.o.2.1 oM.o.1)
 ·subst hr;clear HLZ;obtain⟨i0,hi,hz0,hz1,hz2⟩:=aM3;have fF:=ah (aB hi (aB hz0 (aB hz1 hz2)));clear hi hz0 hz1 hz2;go_wp2_with fail;refine(pQ R _ _ ⟨#[41]⟩ rfl h5 oC.o.rd).mono ?_;rintro e w7 ⟨rfl,h2⟩;have yP:=ah (oC.o.below h2);clear h2 oC;go_wp2_with fail;go_loopw [6] (λ_ wr=>wr=w7) (λ_ _=>0)
  case atStart=>rfl
  case round=>
   subst hrel;have Uv:aj ((tx (bU r6)).size<=maxLen):=ah (xC (xG yP.o.rd.ts hm));go_wp2_with fail;refine(uP R _ _ hm yP.o.rd).mono ?_;rintro e w8 ⟨rfl,h2,h3⟩;have pY:=ah (yP.o.then h2 h3);clear h2 h3 yP;obtain⟨c0,c1,c2,c3,fc⟩:=pY.o.cells;go_upto_region 11 with fail;obtain⟨s0,P8⟩: ∃s0,aj (tx (bU r6)=s0):=⟨_,ah rfl⟩;rw[P8.o]at hl Uv⊢;have nD:=ah (pY.o.row.next (dO (aA w8 (.cells (qo s0).toArray 9))));have jd:=ah (gG (heap_alloc_new w8 (.cells (qo s0).toArray 9)));obtain⟨hi,hz0,hz1,hz2⟩:=fF.o;have hbs:bt+1<=w8.heap.size+1:=Nat.le_succ_of_le pY.o.lt.2.2.2;have hkl:0+1<=maxLen:=afp
   have Qv:(0+1)*16<=140737488355328:=ahe
   have fc2:=fc 2;clear fc;go_wp2_with (at_builtin;refine wpList_append_lies _ rfl _ _ 31 rfl (bt+1) 9 i0 _ 1 16 Tryz.underlying31 hi hz0 hz1 hz2 rfl ahf _ _ _ rfl nD.o.own ⟨w8.heap.size,0,none⟩ 1 1 (qo s0) rfl rfl jd.o agH ahf hkl Qv afr _ rfl ?_);clear hi hz0 hz1 hz2;intro g cap w9 hown hgr hmv hlt2;have oW:aj (∀k,(Value.slice none 0 0).ownBlock=some k->bt+1<=k):=ah (λk hk=>(pY.o.row.lt k hk).1);have Aj:aj (Below (bt+1) (w8.alloc (.cells (qo s0).toArray 9)) w9):=ah (vX hgr oW.o afr);have sS:aj (Below (bt+1) w8 w9):=ah (((aA w8 (.cells (qo s0).toArray 9)).mono pY.o.lt.2.2.2).trans Aj.o);have BM:aj (nP (bt+1) (Value.slice none 0 0).ownBlock (w8.alloc (.cells (qo s0).toArray 9)) (λ_=>True)):=ah (λ_ _=>trivial);have vE:=ah (nD.o.push (x:=s0) BM.o rfl hown hgr afP);have Ng:aj (eP w9 R r6.tail):=ah (LH (zF pY.o.rd _) hgr (λk hk=>by have h1:=oW.o k hk;have h2:=oM.o;have h3:=R.b0;omega));have FN:aj (w.grownBy w9 (some R.br)):=ah (L9 (zC pY.o.gr _) (Aj.o.mono afx));have yt:w9.heap[bt]? =some (.cells #[.string (tx (bU ts.tail)),.int .i64 ((fP ts:Nat):Int),.slice none 0 0,.slice none 0 0] 59 (0,0)):=(sS.o.block _ (Nat.lt_succ_self _)).trans pY.o.blk;have c2:w9.cell? ⟨bt,2,none⟩=some (.slice none 0 0):=aQ yt rfl;have f2:w9.frozen? ⟨bt,2,none⟩=false:=bC yt;clear hown hgr hmv hlt2 hbs hkl Qv BM jd nD Aj yt fc2;go_upto_region 12 with fail;generalize hW:World.setCell w9 _ _=Nn;have Js:aj (Ps R bt (bt+1) w Nn (tx (bU ts.tail)) ((fP ts:Nat):Int) (.slice (some ⟨g,0,none⟩) 1 cap) [s0] r6.tail):=ah (by rw[<- hW];exact pY.o.cu Ng.o FN.o sS.o vE.o);clear hW c2 f2 pY Ng FN sS vE oW;subst hl;have eH:aj (∀s∈ [s0],s.size<=maxLen):=ah (λy hy=>by rw[List.mem_singleton.1 hy];exact Uv.o);have Fj:aj ([s0].length<=maxLen):=ah ahq;go_wp2_with fail;refine(pQ R _ _ ⟨#[44]⟩ rfl h6 Js.o.rd).mono ?_;rintro e w11 ⟨rfl,h2⟩;have Zw:=ah (Js.o.below h2);clear h2 Js;go_wp2_with fail;refine(kK R _ _ ⟨#[41]⟩ rfl h7 Zw.o.rd).mono ?_;rintro e w12 ⟨rfl,h2,h3⟩;have aB5:=ah (Zw.o.then h2 h3);clear h2 h3 Zw;obtain⟨v',Pb⟩: ∃v',aj (Ps R bt (bt+1) w _ (tx (bU ts.tail)) ((fP ts:Nat):Int) v' [s0] r6.tail.tail):=⟨_,aB5⟩;clear aB5;go_wp2_with fail;refine(OE.o _ Pb.o.rd).mono ?_;rintro e w8 ⟨⟨ao,cap,rfl,hl,hst⟩,h2,h3⟩;have pY:=ah (Pb.o.then h2 h3);have sS:aj (b.len<=maxLen∧gB (bt+1) w8 (λw2=>b.At w2 w2.heap.size ao 0)):=ah ⟨aR hl afA,hst.mono Pb.o.lt.2.2.2⟩;clear h2 h3 hl hst;obtain⟨gK,dW,hv,hcl,htx⟩:=pY.o.row.says eH.o;have HV:=ah hv;have BF:=ah (aB hcl htx);clear hv hcl htx;obtain⟨c0,c1,c2,c3,fc⟩:=pY.o.cells;have fc3:=fc 3;go_upto_region 16 with fail;generalize hW:World.setCell w8 _ _=W9;have DN:=ah (pY.o.Td (.slice ao b.len cap) W9 hW);have FJ:aj (jS (bt+1) w8 W9):=ah abr;clear hW c0 c1 c2 c3 fc fc3;obtain⟨e0,e1⟩:=nT DN.o.2.2.2;have e2:W9.cell? ⟨bt,2,none⟩=some (.slice gK ([s0]).length dW):=(aQ DN.o.2.2.2 rfl).trans (congrArg some HV.o);have e3:W9.cell? ⟨bt,3,none⟩=some (.slice ao b.len cap):=aQ DN.o.2.2.2 rfl;obtain⟨⟨y0,y1,y2,y3⟩,fz⟩:=z4t DN.o.2.2.1;have g0:=fz 0;have g1:=fz 1;have g2:=fz 2;have g3:=fz 3;clear fz;go_wp2_with fail;exact bodyPost_ret (v:= .tuple #[.agg (kF.f ⟨⟨tx (bU ts.tail),((fP ts:Nat):Int),[s0],b⟩,gK,dW,ao,cap⟩).toArray,.bool true]) abG rfl (YK (x:=⟨⟨tx (bU ts.tail),((fP ts:Nat):Int),[s0],b⟩,gK,dW,ao,cap⟩) (B:=bt+1) ⟨⟨wW.o,HL.o,Fj.o,sS.o.1⟩,BF.o.1⟩ (λw2 h2=>⟨BF.o.2 w2 (FJ.o.trans h2),sS.o.2 w2 (FJ.o.trans h2)⟩) afx DN.o.1 DN.o.2.1 oM.o.1)
theorem as0:(Tryz.prog.info? 55).map (λi=>(i.zero,i.size,i.bytes))=some (some (.agg I8),6,64):=ahd
theorem aM0: ∃i0,Tryz.prog.info? 55=some i0∧i0.zero=some (.agg I8)∧i0.size=6∧i0.bytes=64:=info_parts as0
theorem as2:(Tryz.prog.info? 59).map (λi=>(i.zero,i.size,i.bytes))=some (some (.agg Um),4,72):=ahd
theorem aM2: ∃i0,Tryz.prog.info? 59=some i0∧i0.zero=some (.agg Um)∧i0.size=4∧i0.bytes=72:=info_parts as2
def UC (R:Rp) (w:World) (res:oO Pr) (e:Ending) (w':World):Prop:=
 match res with
 | .ok p r=>(∃aK aG aM aD,e= .returned (.tuple #[.agg #[.slice aK p.ds.length aG,.slice aM p.ts.length aD],.bool (!p.ts.isEmpty)])∧(p.ds.length<=4096∧p.ts.length<=4096∧p.ds.length<=aG∧p.ts.length<=aD)∧gB w.heap.size w' (λw2=>iT w2 w2.heap.size p.ds aK 0∧gY w2 w2.heap.size p.ts aM 0))∧eP w' R r∧w.grownBy w' (some R.br)
 | .no r=>(∃a n c a' n' c',e= .returned (.tuple #[.agg #[.slice a n c,.slice a' n' c'],.bool false]))∧eP w' R r∧w.grownBy w' (some R.br)
def YZ:Array Value:= #[.slice none 0 0,.slice none 0 0]
structure Pg (R:Rp) (bp:Nat) (w W:World) (vD vT:Value) (rest:bL):Prop where
 rd:eP W R rest
 gr:w.grownBy W (some R.br)
 lt:R.br<w.heap.size∧w.heap.size<bp∧bp<W.heap.size
 z:W.heap[w.heap.size]? =some (.cells YZ 26 (0,0))
 blk:W.heap[bp]? =some (.cells #[vD,vT] 26 (0,0))
section
variable {R:Rp} {bp:Nat} {w W W':World} {vD vT:Value} {rest rest':bL}
theorem Pg.then (h:Pg R bp w W vD vT rest) (h1:eP W' R rest') (h2:W.grownBy W' (some R.br)):Pg R bp w W' vD vT rest':=
 ⟨h1,iQ h.gr h2,⟨h.lt.1,h.lt.2.1,aJ h.lt.2.2 h2.size⟩,(h2.block _ (aU h.z) afV).trans h.z,(h2.block _ (aU h.blk) afV).trans h.blk⟩
theorem Pg.below (h:Pg R bp w W vD vT rest) (hb:Below W.heap.size W W'):Pg R bp w W' vD vT rest:=h.then (h.rd.below hb) (jB hb)
theorem Pg.put (h:Pg R bp w W vD vT rest) (hr:eP W' R rest) (hg:w.grownBy W' (some R.br)) (hB:Below (bp+1) W W') (j:Nat) (v Ui vT':Value) (hy:(#[vD,vT]:Array Value).setIfInBounds j v= #[Ui,vT']):Pg R bp w (W'.setCell ⟨bp,j,none⟩ v) Ui vT' rest:=
 ⟨uT hr _ _ (by have:=h.lt;have:=R.b0;show R.B0<=bp;omega) (by have:=h.lt;show bp≠R.br;omega),C8 hg _ _ (by have:=h.lt;show _<=bp;omega),abL,(dB W' _ _ rfl (by have:=h.lt;show bp≠_;omega)).trans ((hB.block _ agj).trans h.z),by rw[dX ((hB.block _ (Nat.lt_succ_self _)).trans h.blk),hy]⟩
theorem Pg.cells (h:Pg R bp w W vD vT rest):W.cell? ⟨bp,0,none⟩=some vD∧W.cell? ⟨bp,1,none⟩=some vT∧∀j,W.frozen? ⟨bp,j,none⟩=false:=
 ⟨aQ h.blk rfl,aQ h.blk rfl,λ_=>bC h.blk⟩
end
theorem at6:(Tryz.prog.info? 26).map (·.size)=some 2:=ahd
theorem aO0 {R:Rp} {w W:World} {p:Pr} {aK aM:Option Addr} {aG aD:Nat} {r:bL} {res:oO Pr} {B:Nat} (e:res= .ok p r) (hl:p.ds.length<=4096∧p.ts.length<=4096∧p.ds.length<=aG∧p.ts.length<=aD)
 (hst:gB B W (λw2=>iT w2 w2.heap.size p.ds aK 0∧gY w2 w2.heap.size p.ts aM 0)) (hB:w.heap.size<B) (hr:eP W R r) (hg:w.grownBy W (some R.br)) (hlt:R.br<w.heap.size):
 UC R w res (.returned (.tuple #[.agg #[.slice aK p.ds.length aG,.slice aM p.ts.length aD],.bool (!p.ts.isEmpty)])) (W.setCells w.heap.size 0 [.slice aK p.ds.length aG,.slice aM p.ts.length aD]):=by
 subst e;exact⟨⟨aK,aG,aM,aD,rfl,hl,(hst.next ⟨(dN w.heap.size _ 0 W).size,λk h1 h2=>(dN w.heap.size _ 0 W).block k h2 ahh⟩).mono (bM hB)⟩,Ck hr (dN _ _ _ _) agz ahe,wu hg _ _ _ (aH _)⟩
def Ar (P S:World->Prop):List Bool->World->Prop
 | [x],w=>if x then S w else P w
 |_,_=>False
section
variable {P S:World->Prop} {c:List Bool} {w w':World} {k i:Nat}
theorem Ar.bits (h:Ar P S c w): ∃x,c=[x]:=by
 match c,h with
 | [x],_=>exact⟨x,rfl⟩
 | [],h=>exact h.elim
 |_::_::_,h=>exact h.elim
theorem Ar.skip (h1:(k==i)=false) (h:Ar P S c w):Ar P S (iE [k] c i) w:=by
 obtain⟨x,rfl⟩:=h.bits;simp only[iE,h1,Bool.or_false];exact h
theorem Ar.fire (h1:(k==i)=true) (h:S w):Ar P S (iE [k] [false] i) w:=by
 simp only[iE,h1,Bool.or_true];exact h
end
theorem XQ (rest:bL):isDecl rest=((((nextK rest:Nat):Int)==3)&&(qQ (bU rest) != 0)):=by
 unfold isDecl;rw[NV 3];rfl
theorem jS.aF4 {B:Nat} {w w1 w2:World} (h:jS B w w1) (hb:Below w.heap.size w1 w2):jS B w w2:=⟨aR h.1 hb.size,λk h1 h2=>(hb.block k h2).trans (h.2 k h1 h2)⟩
theorem at5 {R:Rp} {w:World} {ts:bL} {bp:Nat} (hI:eP w R ts) (hg:w.heap.size+1=bp): ∀W,((w.alloc (.cells #[.slice none 0 0,.slice none 0 0] 26)).alloc (.cells #[.slice none 0 0,.slice none 0 0] 26))=W->Pg R bp w W (.slice none 0 0) (.slice none 0 0) ts:=by
 intro W hW;have hb1:Below w.heap.size w (w.alloc (.cells #[.slice none 0 0,.slice none 0 0] 26)):=aA _ _;have hz1:(w.alloc (.cells #[.slice none 0 0,.slice none 0 0] 26)).heap[w.heap.size]? =some (.cells YZ 26 (0,0)):=heap_alloc_new _ _;have hs1:(w.alloc (.cells #[.slice none 0 0,.slice none 0 0] 26)).heap.size=bp:=by simp[hg]
 generalize w.alloc (.cells #[.slice none 0 0,.slice none 0 0] 26)=W1 at *;have hb2:Below w.heap.size w W:=aev
 exact⟨hI.below hb2,jB hb2,⟨hI.lt,ahe,agP⟩,by rw[<- hW];exact(heap_alloc_old _ _ (aU hz1)).trans hz1,acL⟩
inductive Dz:bL->List De->bL->Prop
 |nil {ts:bL} :isDecl ts=false->Dz ts [] ts
 |cons {ts q r:bL} {d:De} {m:List De} :isDecl ts=true->isName ts.tail=true->KzR ⟨qQ (bU ts),((fP ts:Nat):Int),tx (bU ts.tail),0,0,⟨#[]⟩⟩ ts.tail.tail d q->at' [59] q=true->Dz q.tail m r->Dz ts (d::m) r
inductive Tz (S:bL->aY->bL->Prop):bL->List Th->bL->Prop
 |nil {ts:bL} :at' [116,104,114,101,97,100] ts=false->Tz S ts [] ts
 |cons {ts r q r':bL} {l:List ByteArray} {b:aY} {m:List Th} :at' [116,104,114,101,97,100] ts=true->isName ts.tail=true->at' [40] ts.tail.tail=true->LzR ts.tail.tail.tail l r->S r b q->Tz S q m r'->Tz S ts (⟨tx (bU ts.tail),fP ts,l,b⟩::m) r'
theorem Vp (R:Rp) (S:bL->aY->bL->Prop) (Fp:aj (∀r b q,S r b q->uW R r b q)) (ts r1 r9:bL) (ds:List De) (th:List Th) (hD:Dz ts ds r1) (hT:Tz S r1 th r9) (hl:ds.length<=4096∧th.length<=4096) (w:World) (hI:eP w R ts):
 Calls Tryz.prog 81 #[.pointer (some ⟨R.br,0,none⟩)] w (UC R w (.ok ⟨ds,th⟩ r9)):=by
 have HI:=ah hI;have oM:=ah hI.lt;have HDT:=ah (aB hD hT);have Fj:=ah hl;have hf0:=bo4;have hf1:=bo5;clear hI hD hT hl;go_enter Tryz.func81,Tryz.ntmps81;go_upto_block 0 with fail;obtain⟨bp,hg⟩: ∃g,w.heap.size+1=g:=⟨_,rfl⟩;rw[hg];generalize hW:World.alloc (World.alloc w _) _=W0;have xR:aj (Pg R bp w W0 (.slice none 0 0) (.slice none 0 0) ts):=ah (at5 HI.o hg W0 hW);clear hW hg;go_cut [] (λW'=> ∃vD,Pg R bp w W' vD (.slice none 0 0) r1∧AQ (bp+1) W' vD ds∧(∀d∈ds,d.Ok))
 case first=>
  obtain⟨i0,hi,hz0,hz1,hz2⟩:=aM0;have fF:=ah (aB hi (aB hz0 (aB hz1 hz2)));clear hi hz0 hz1 hz2;go_wp2_with fail;go_loopg [5,6] ds.length (λgk _ _ wr=> ∃(l m:List De) (rest:bL) (vD:Value),gk=m.length∧Dz rest m r1∧l++m=ds∧Pg R bp w wr vD (.slice none 0 0) rest∧AQ (bp+1) wr vD l∧(∀d∈l,d.Ok))
  case atStart=>exact⟨[],ds,ts,_,rfl,HDT.o.1,rfl,xR.o,Grow.nil _ _ _ _ _ _,ahg⟩
  case round=>
   obtain⟨l,m,rest,vD,rfl,hz,hlm,hs,hg,hok⟩:=hrel;have Kk:=ah hlm;have VT:aj (l.length+m.length<=4096):=ah (by have h1:=congrArg List.length hlm;simp only[au]at h1;have:=Fj.o;omega);have HS:=ah hs;have HG:=ah hg;have je:=ah hok;have HDZ:=ah hz;obtain⟨av,cv,hv⟩:=hg.len;have eH:=ah (λw hI=>qU R rest w hI);unfold wR at eH;have Sv:=ah (λw=>Gu (tx (bU rest)) (l:=bU rest) (MK _) w);clear hlm hs hg hok hz xR;subst hv;go_upto_region 2 with fail;go_cut [19] (λs19 W'=>s19= .bool (isDecl rest)∧Below wr.heap.size wr W')
   case first=>
    have HE:=ah (XQ rest);generalize isDecl rest=b at *;generalize ((nextK rest:Nat):Int)=k at *;generalize tx (bU rest)=s at *;generalize qQ (bU rest)=dc at *;cases hk:(k==3)
    ·go_wp2_with fail;refine(eH.o _ HS.o.rd).mono ?_;rintro e w1 ⟨rfl,h2⟩;have HB1:=ah h2;clear h2;go_wp2_with fail;go_meet;exact⟨by rw[HE.o,hk];rfl,HB1.o⟩
    ·go_wp2_with fail;refine(eH.o _ HS.o.rd).mono ?_;rintro e w1 ⟨rfl,h2⟩;have HB1:=ah h2;have HR1:=ah (HS.o.rd.below h2);clear h2;go_wp2_with fail;refine(eH.o _ HR1.o).mono ?_;rintro e w2 ⟨rfl,h2⟩;have HB2:=ah (HB1.o.trans (h2.mono HB1.o.size));clear h2;go_wp2_with fail;refine(Sv.o _).mono ?_;rintro e w3 ⟨rfl,rfl⟩;go_wp2_with fail;go_meet;exact⟨by rw[HE.o,hk];rfl,HB2.o⟩
   obtain⟨rfl,hB⟩:=hcut;obtain⟨W1,rfl⟩: ∃W:World,W=wc:=⟨_,rfl⟩;have lJ:=ah (HS.o.below hB);have rZ:=ah (HG.o.next (dO hB));clear hB HS HG eH Sv;cases HDZ.o with
   |nil hd=>have hq:l=ds:=afg;subst hq;rw[hd];go_wp2_with fail;go_meet;exact⟨_,lJ.o,rZ.o,je.o⟩
   | @cons _ q _ d m hd hn hk h4 hzz=>
     have HC:=ah (Mi R rest q d W1 lJ.o.rd hd hn hk h4);have SL:=ah hzz;obtain⟨r,HRQ⟩: ∃r,aj (q.tail=r):=⟨_,ah rfl⟩;rw[HRQ.o]at HC SL;rw[hd];clear hn hk h4 hzz HDZ hd;go_wp2_with fail;refine HC.o.mono ?_;clear HC;rintro e w2 ⟨⟨GN,rfl⟩,h2,h3⟩;have HDO:=ah GN;have HS2:=ah (lJ.o.then h2 h3);have HG2:=ah (rZ.o.next (zT h3 (by have:=lJ.o.lt;omega)));clear h2 h3 lJ rZ GN;unfold Xd;go_upto_region 4 with fail;generalize hW:World.alloc w2 _=W3;obtain⟨gd,hg,-,-,HB3,-⟩:=nI hW;have kY:aj (Pg R bp w W3 _ _ r):=ah aeg;have Bu:aj (AQ (bp+1) W3 _ l):=ah acG;rw[hg];clear hW hg HS2 HG2;obtain⟨e0,e1,e2,e3,e4,e5⟩:(W3.cell? ⟨gd,0,none⟩=some (.int .i64 d.kind)∧W3.cell? ⟨gd,1,none⟩=some (.int .i64 d.line)∧W3.cell? ⟨gd,2,none⟩=some (.string d.nm)∧W3.cell? ⟨gd,3,none⟩=some (.int .i64 d.size)∧W3.cell? ⟨gd,4,none⟩=some (.int .i64 d.init)∧W3.cell? ⟨gd,5,none⟩=some (.string d.on)):=⟨aQ HB3.o rfl,aQ HB3.o rfl,aQ HB3.o rfl,aQ HB3.o rfl,aQ HB3.o rfl,aQ HB3.o rfl⟩;obtain⟨c0,c1,fc⟩:=kY.o.cells;clear fc;have nD:=ah (Bu.o.next (dO (aA W3 (.cells (oD d).toArray 55))));have jd:=ah (gG (heap_alloc_new W3 (.cells (oD d).toArray 55)));obtain⟨hi,hz0,hz1,hz2⟩:=fF.o;have hbs:bp+1<=W3.heap.size+1:=(by have:=kY.o.lt;omega);have hkl:l.length+1<=maxLen:=abS;have aK2:(l.length+1)*64<=140737488355328:=aee;go_wp2_with (at_builtin;refine wpList_append_lies _ rfl _ _ 23 rfl (bp+1) 55 i0 _ 6 64 Tryz.underlying23 hi hz0 hz1 hz2 rfl ahf _ _ _ rfl nD.o.own ⟨W3.heap.size,0,none⟩ 1 1 (oD d) rfl rfl jd.o agI ahf hkl aK2 afr _ rfl ?_);clear hi hz0 hz1 hz2;intro g cap w9 hown hgr hmv hlt2;have oW:aj (∀k,(Value.slice av (l).length cv).ownBlock=some k->bp+1<=k):=ah (λk hk=>(Bu.o.lt k hk).1);have Aj:aj (Below (bp+1) (W3.alloc (.cells (oD d).toArray 55)) w9):=ah (vX hgr oW.o afr);have sS:aj (Below (bp+1) W3 w9):=ah (((aA W3 (.cells (oD d).toArray 55)).mono kY.o.lt.2.2).trans Aj.o);have BM:aj (nP (bp+1) (Value.slice av (l).length cv).ownBlock (W3.alloc (.cells (oD d).toArray 55)) (λ_=>True)):=ah (λ_ _=>trivial);have Ng:aj (eP w9 R r):=ah (LH (zF kY.o.rd _) hgr (λk hk=>by have h1:=oW.o k hk;have h2:=kY.o.lt;have h3:=R.b0;omega));have FN:aj (w.grownBy w9 (some R.br)):=ah (L9 (zC kY.o.gr _) (Aj.o.mono (by have:=kY.o.lt;omega)));have yt:w9.heap[bp]? =some (.cells _ 26 (0,0)):=(sS.o.block _ (Nat.lt_succ_self _)).trans kY.o.blk;have vE:=ah (nD.o.push (x:=d) BM.o rfl hown hgr afP);have c0:w9.cell? ⟨bp,0,none⟩=some (.slice av l.length cv):=aQ yt rfl;have f0:w9.frozen? ⟨bp,0,none⟩=false:=bC yt;clear hown hgr hmv hlt2 hbs hkl aK2 BM jd nD Aj yt e0 e1 e2 e3 e4 e5 c1;go_wp2_with fail;generalize hW:World.setCell w9 _ _=Nn;have Js:aj (Pg R bp w Nn (.slice (some ⟨g,0,none⟩) (l.length+1) cap) (.slice none 0 0) r):=ah (by rw[<- hW];exact kY.o.put Ng.o FN.o sS.o 0 _ _ _ rfl);have Zg:aj (AQ (bp+1) Nn (.slice (some ⟨g,0,none⟩) (l.length+1) cap) (l++[d])):=ah (by rw[<- hW];exact vE.o.next (gW w9 ⟨bp,0,none⟩ _ (Nat.lt_succ_self _)));have SC:aj (∀y∈l++[d],y.Ok):=ah (λy hy=>by
      rcases List.mem_append.1 hy with hy|hy
      ·exact je.o y hy
      ·rw[List.mem_singleton.1 hy];exact HDO.o)
     clear hW c0 f0 kY Ng FN sS vE oW Bu HB3;go_roundg m.length
     case measure=>simp
     case rel=>exact⟨l++[d],m,r,_,rfl,SL.o,by rw[<- Kk.o];simp,Js.o,Zg.o,SC.o⟩
 obtain⟨vD,hP,hG,GN⟩:=hcut;obtain⟨W2,rfl⟩: ∃W:World,W=wc:=⟨_,rfl⟩;obtain⟨aK,aG,hv,yZ,aL1⟩:=hG.says GN;subst hv;have gX:=ah hP;have HD2:=ah (aB yZ aL1);clear hP hG GN yZ aL1 xR;go_upto_block 2 with fail;go_cut [] (λW'=> ∃(lt:List kF) (vT:Value),lt.map (·.t)=th∧Pg R bp w W' (.slice aK ds.length aG) vT r9∧jS (bp+1) W2 W'∧Bo W2.heap.size W' vT lt∧(∀x∈lt,x.t.Ok∧x.t.cu.length<=x.dW))
 case first=>
  obtain⟨i0,hi,hz0,hz1,hz2⟩:=aM2;have fF:=ah (aB hi (aB hz0 (aB hz1 hz2)));have zN:aj (bp+1<=W2.heap.size∧R.br<bp):=ah (by have:=gX.o.lt;omega);clear hi hz0 hz1 hz2;go_wp2_with fail;go_loopg [7,8] th.length (λgk _ _ wr=> ∃(lt:List kF) (m:List Th) (rs:bL) (vT:Value),gk=m.length∧Tz S rs m r9∧lt.map (·.t)++m=th∧Pg R bp w wr (.slice aK ds.length aG) vT rs∧jS (bp+1) W2 wr∧Bo W2.heap.size wr vT lt∧(∀x∈lt,x.t.Ok∧x.t.cu.length<=x.dW))
  case atStart=>exact⟨[],th,r1,_,rfl,HDT.o.2,rfl,gX.o,jS.refl _ _,Grow.nil _ _ _ _ _ _,ahg⟩
  case round=>
   obtain⟨lt,m,rs,vT,rfl,hz,hlm,hs,ha,hg,hok⟩:=hrel;have Kk:=ah hlm;have VT:aj (lt.length+m.length<=4096):=ah (by have h1:=congrArg List.length hlm;simp only[au,ji]at h1;have:=Fj.o;omega);have HS:=ah hs;have HA:=ah ha;have HG:=ah hg;have je:=ah hok;obtain⟨av,cv,hv⟩:=hg.len;clear hlm hs ha hg hok gX HD2;subst hv;cases hz with
   | @nil rs hd=>have hq:lt.map (·.t)=th:=afg;go_wp2_with fail;refine(KH R _ _ ⟨#[116,104,114,101,97,100]⟩ rfl HS.o.rd).mono ?_;rw[hd];rintro e w1 ⟨rfl,h2⟩;have lJ:=ah (HS.o.below h2);have rZ:=ah (HG.o.next (dO h2));have HA1:=ah (HA.o.trans (dO h2));clear h2;go_wp2_with fail;go_meet;exact⟨lt,_,hq,lJ.o,HA1.o,rZ.o,je.o⟩
   | @cons _ rr r r' ll b m hd hn h4 hlz hb hzz=>
     have SL:=ah hzz;have gT:=ah (Fp.o _ _ _ hb);have Kq:=ah (λw hI=>YL R rs rr r ll b w hI hd hn h4 hlz gT);obtain⟨tt,HTT⟩: ∃tt:Th,aj ((⟨tx (bU rs.tail),((fP rs:Nat):Int),ll,b⟩:Th)=tt):=⟨_,ah rfl⟩;rw[HTT.o]at Kq Kk;clear hn h4 hlz hb hzz gT HTT;go_wp2_with fail;refine(KH R _ _ ⟨#[116,104,114,101,97,100]⟩ rfl HS.o.rd).mono ?_;rw[hd];rintro e w1 ⟨rfl,h2⟩;have lJ:=ah (HS.o.below h2);have rZ:=ah (HG.o.next (dO h2));have HA1:=ah (HA.o.trans (dO h2));clear h2 HS HG HA;have HC:=ah (Kq.o w1 lJ.o.rd);clear Kq;go_wp2_with fail;refine HC.o.mono ?_;clear HC;rintro e w2 ⟨⟨x,hxt,rfl,aL6,aL7⟩,h2,h3⟩;have HXT:=ah hxt;clear hxt;have HXO:=ah aL6;have sj:aj (W2.heap.size<=w1.heap.size):=ah HA1.o.1;have HS2:=ah (lJ.o.then h2 h3);have HG2:=ah (rZ.o.next (zT h3 agS));have HA2:=ah (HA1.o.trans (zT h3 agS));have bh7:=ah rZ.o.lt;have vW:=ah aL7;clear h2 h3 lJ rZ HA1 aL6 aL7;unfold kF.f;go_upto_region 9 with fail;generalize hW:World.alloc w2 _=W3;obtain⟨gd,hg,-,-,HB3,-⟩:=nI hW;have kY:aj (Pg R bp w W3 _ _ r):=ah aeg;have Bu:aj (Bo W2.heap.size W3 _ lt):=ah acG;have qV:aj (jS (bp+1) W2 W3):=ah (by rw[<- hW];exact HA2.o.trans (dO (aA _ _)));have BK:aj (gB w1.heap.size W3 (kF.I x)):=ah (by rw[<- hW];exact vW.o.next (dO (aA _ _)));rw[hg];clear hW hg HS2 HG2 HA2 vW;obtain⟨e0,e1,e2,e3⟩:(W3.cell? ⟨gd,0,none⟩=some (.string x.t.nm)∧W3.cell? ⟨gd,1,none⟩=some (.int .i64 x.t.line)∧W3.cell? ⟨gd,2,none⟩=some (.slice x.gK x.t.cu.length x.dW)∧W3.cell? ⟨gd,3,none⟩=some (.slice x.dL x.t.body.len x.cK)):=⟨aQ HB3.o rfl,aQ HB3.o rfl,aQ HB3.o rfl,aQ HB3.o rfl⟩;obtain⟨c0,c1,fc⟩:=kY.o.cells;clear fc;have nD:=ah (Bu.o.next (dO (aA W3 (.cells (kF.f x).toArray 59))));have jd:=ah (gG (heap_alloc_new W3 (.cells (kF.f x).toArray 59)));obtain⟨hi,hz0,hz1,hz2⟩:=fF.o;have hbs:W2.heap.size<=W3.heap.size+1:=(by have:=qV.o.1;omega);have hkl:lt.length+1<=maxLen:=abS;have aK3:(lt.length+1)*72<=140737488355328:=aee;go_wp2_with (at_builtin;refine wpList_append_lies _ rfl _ _ 24 rfl W2.heap.size 59 i0 _ 4 72 Tryz.underlying24 hi hz0 hz1 hz2 rfl ahf _ _ _ rfl nD.o.own ⟨W3.heap.size,0,none⟩ 1 1 (kF.f x) rfl rfl jd.o (by simp[kF.f,Value.oneCell']) ahf hkl aK3 afr _ rfl ?_);clear hi hz0 hz1 hz2;intro g cap w9 hown hgr hmv hlt2;have oW:aj (∀k,(Value.slice av lt.length cv).ownBlock=some k->W2.heap.size<=k):=ah (λk hk=>(Bu.o.lt k hk).1);have Aj:aj (Below W2.heap.size (W3.alloc (.cells (kF.f x).toArray 59)) w9):=ah (vX hgr oW.o afr);have sS:aj (Below W2.heap.size W3 w9):=ah (((aA W3 (.cells (kF.f x).toArray 59)).mono qV.o.1).trans Aj.o);have BM:aj (nP W2.heap.size (Value.slice av lt.length cv).ownBlock (W3.alloc (.cells (kF.f x).toArray 59)) (kF.I x)):=ah (F5 (BK.o.next (dO (aA _ _))) sj.o (λk hk=>(bh7.o k hk).2));have Ng:aj (eP w9 R r):=ah (LH (zF kY.o.rd _) hgr (λk hk=>by have h1:=oW.o k hk;have h2:=zN.o;have h3:=R.b0;omega));have FN:aj (w.grownBy w9 (some R.br)):=ah (L9 (zC kY.o.gr _) (Aj.o.mono (by have h1:=kY.o.lt;have h2:=zN.o;omega)));have yt:w9.heap[bp]? =some (.cells _ 26 (0,0)):=(sS.o.block _ agS).trans kY.o.blk;have vE:=ah (nD.o.push (x:=x) BM.o rfl hown hgr afP);have FJ:aj (jS (bp+1) W2 w9):=ah (qV.o.aF4 sS.o);have c1:w9.cell? ⟨bp,1,none⟩=some (.slice av lt.length cv):=aQ yt rfl;have f1:w9.frozen? ⟨bp,1,none⟩=false:=bC yt;clear hown hgr hmv hlt2 hbs hkl aK3 BM jd nD Aj yt e0 e1 e2 e3 c0;go_wp2_with fail;generalize hW:World.setCell w9 _ _=Nn;have Js:aj (Pg R bp w Nn (.slice aK ds.length aG) (.slice (some ⟨g,0,none⟩) (lt.length+1) cap) r):=ah (by rw[<- hW];exact kY.o.put Ng.o FN.o (sS.o.mono zN.o.1) 1 _ _ _ rfl);have Zg:aj (Bo W2.heap.size Nn (.slice (some ⟨g,0,none⟩) (lt.length+1) cap) (lt++[x])):=ah (by rw[<- hW];exact vE.o.next (gW w9 ⟨bp,1,none⟩ _ zN.o.1));have bg5:aj (jS (bp+1) W2 Nn):=ah (by rw[<- hW];exact FJ.o.trans (gW w9 ⟨bp,1,none⟩ _ (Nat.lt_succ_self _)));have SC:aj (∀y∈lt++[x],y.t.Ok∧y.t.cu.length<=y.dW):=ah (λy hy=>by
      rcases List.mem_append.1 hy with hy|hy
      ·exact je.o y hy
      ·rw[List.mem_singleton.1 hy];exact HXO.o)
     clear hW c1 f1 kY Ng FN sS vE oW Bu HB3 FJ qV;go_roundg m.length
     case measure=>simp
     case rel=>exact⟨lt++[x],m,r,_,rfl,SL.o,by rw[<- Kk.o,<- HXT.o];simp,Js.o,bg5.o,Zg.o,SC.o⟩
 obtain⟨lt,vT,hrt,hP,hA,hG,hok⟩:=hcut;obtain⟨W8,rfl⟩: ∃W:World,W=wc:=⟨_,rfl⟩;obtain⟨aM,aD,hv,xu,ac1⟩:=hG.says hok;subst hv;have rC:aj (lt.length=th.length):=ah (by rw[<- hrt,ji]);rw[hrt]at ac1 hP;rw[rC.o]at xu;have rD:=ah hP;have HST:aj (ds.length<=aG∧th.length<=aD∧gB (bp+1) W8 (λw2=>iT w2 w2.heap.size ds aK 0∧gY w2 w2.heap.size th aM 0)):=ah ⟨HD2.o.1,xu,λw2 h2=>⟨HD2.o.2 w2 (hA.trans h2),ac1 w2 (h2.mono gX.o.lt.2.2)⟩⟩;have jV:=Fj;clear hP hA hG hok xu ac1 hrt HD2 rC Fj gX;clear hf0 hf1;have HT0:aj (decide ((0:Int)<(th.length:Int))= !th.isEmpty):=ah (by cases th <;> simp);have Wt:aj (Below W8.heap.size W8 (W8.drewN 1)):=ah (below_drewN (ak _ _) 1);have Cy:=ah (rD.o.below Wt.o);have KP: ∀(x:Bool) w',Ar (λw'=>w'=W8.drewN 1) (λw'=>w'=(W8.drewN 1).setCells w.heap.size 0 [.slice aK ds.length aG,.slice aM th.length aD]) [x] w'->w'.heap[bp]? =some (.cells #[.slice aK ds.length aG,.slice aM th.length aD] 26 (0,0)):=λx w' h=>by
  cases x
  ·have h:w'=_:=h;rw[h];exact Cy.o.blk
  ·have h:w'=_:=h;rw[h];exact((dN w.heap.size _ 0 (W8.drewN 1)).block _ Cy.o.lt.2.2 (by have:=Cy.o.lt;simp;omega)).trans Cy.o.blk
 go_upto_region 12 with fail;refine bS ahd rfl ?_;refine bK 0 7 [5] [[],[],[1],[1,2],[1,2,3],[0],[0,1,2,3,4,5]] [[some false],[none],[none],[none],[none],[some false],[some true]] (Ar (λw'=>w'=W8.drewN 1) (λw'=>w'=(W8.drewN 1).setCells w.heap.size 0 [.slice aK ds.length aG,.slice aM th.length aD])) (λ_ _=>True) [50,51,52,53,54,3] rfl rfl aip ahd ahd ahd ahd ahd aip (λ_=>trivial) aip rfl ?_;simp only[eB,iP];apply bf.step
 case aZ=>intro c A w' hok hC hO hD;obtain⟨x,rfl⟩:=hC.bits;have hb:=KP x w' hC;obtain⟨k0,k1⟩:=nT hb;have e4:=hO 4 aip;simp[Act.eval]at e4;simp[Act.eval]at hD;simp[go_sem,gd,Oper.wp,e4,k0,k1];exact aO.mk trivial (Ar.skip aip hC) (bT.mk _ _)
 apply bf.step
 case aZ=>intro c A w' hok hC hO hD;have e4:=hO 4 aip;simp[Act.eval]at e4;simp[Act.eval]at hD;simp[go_sem,gd,Oper.wp,hD,e4];exact aO.mk trivial (Ar.skip aip hC) (bT.mk _ _)
 apply bf.step
 case aZ=>intro c A w' hok hC hO hD;obtain⟨x,rfl⟩:=hC.bits;have hb:=KP x w' hC;have k1:w'.cell? ⟨bp,1,none⟩=some (.slice aM th.length aD):=aQ hb rfl;simp[Act.eval]at hD;simp[go_sem,gd,Oper.wp,hD,k1];exact aO.mk trivial (Ar.skip aip hC) (bT.mk _ _)
 apply bf.step
 case aZ=>intro c A w' hok hC hO hD;simp[Act.eval]at hD;simp[go_sem,gd,Oper.wp,hD];exact aO.mk trivial (Ar.skip aip hC) (bT.mk _ _)
 try simp only[bP]
 refine bf.step (v:= .bool (!th.isEmpty)) ?_ ?_
 ·intro c A w' hok hC hO hD;simp[Act.eval]at hD;simp[go_sem,gd,Oper.wp,hD];exact aO.mk trivial (Ar.skip aip hC) (show Value.bool _=_ by rw[<- HT0.o];simp)
 refine bf.some (λ_ _=>True) (λ_ _ _ _ _=>trivial) ?_ ?_
 ·intro c A w' hok hC hO hD;obtain⟨x,rfl⟩:=hC.bits;obtain⟨rfl,-⟩:=hok;have hC:w'=_:=hC;have e2:=hO 2 aip;simp[Act.eval]at e2;simp[Act.eval]at hD;simp only[gd,if_true];refine wp_store_mid _ _ _ aip w.heap.size 0 #[.slice aK ds.length aG,.slice aM th.length aD] (by simp[Act.eval,e2]) afN (by rw[hC];exact yH Cy.o.z (aH 2)) at6 afH ?_;exact aO.qK trivial (Ar.fire aip (by rw[hC])) trivial
 apply bf.step
 case aZ=>intro c A w' hok hC hO hD;simp[Act.eval]at hD;simp[go_sem,gd,Oper.wp,hD];exact aO.mk trivial (Ar.skip aip hC) (bT.mk _ _)
 try simp only[bP]
 refine bf.done ?_;intro w9 hC9
 try simp only[List.drop_succ_cons,List.drop_zero]
 intro x0 h0 x1 h1 x2 h2 x3 h3 x4 h4 x5 h5 x6 h6;have h6':=Eq.symm (show x6=_ from h6);subst h6';clear h0 h1 h2 h3 h4 h5 h6 KP;refine Dn ?_;refine cO rfl ?_;have HW9:aj (w9=(W8.drewN 1).setCells w.heap.size 0 [.slice aK ds.length aG,.slice aM th.length aD]):=ah hC9;have Aj:aj (w9.heap[w.heap.size]? =some (.cells #[.slice aK ds.length aG,.slice aM th.length aD] 26 (0,0))):=ah (by rw[HW9.o];exact jE Cy.o.z rfl);clear hC9;obtain⟨y0,y1⟩:=nT Aj.o;go_simp;go_wp2_with fail;exact bodyPost_ret (v:= .tuple #[.agg #[.slice aK ds.length aG,.slice aM th.length aD],.bool (!th.isEmpty)]) (by simp[results,Tryz.results81,go_sem,y0,y1]) rfl (by rw[HW9.o];exact aO0 rfl ⟨jV.o.1,jV.o.2,HST.o.1,HST.o.2.1⟩ (HST.o.2.2.next (dO Wt.o)) (by have:=Cy.o.lt;omega) Cy.o.rd Cy.o.gr oM.o)
theorem av5 (t:Tk.Tok):(Tk.Tok.cells t).length=3:=rfl
theorem Uh {w:World} {g B:Nat} {ts:bL} (hB:g<B): ∀(l:bL) (k:Nat),(∀i t,l[i]? =some t->∀j u,(Tk.Tok.cells t)[j]? =some u->w.cell? ⟨g,(k+i)*3+j,none⟩=some u)->wK w B l (some ⟨g,0,none⟩) k
 | [],_,_=>trivial
 |t::r,k,h=>by
  have h0:=h 0 t rfl;refine⟨⟨g,0,rfl,hB,?_,?_,?_⟩,Uh (ts:=ts) hB r (k+1) (λi t' ht j u hu=>by rw[show k+1+i=k+(i+1) by omega];exact h (i+1) t' (by simpa using ht) j u hu)⟩
  ·have:=h0 0 _ rfl;rw[aV];exact this
  ·have:=h0 1 _ rfl;rw[aV];exact this
  ·have:=h0 2 _ rfl;rw[aV];exact this
theorem YM {w:World} {base:Nat} {v:Value} {ts:bL} (h:w.ownsRow base 164 3 v ts.length (Tk.cellsOf ts)): ∃ao cap,v= .slice ao ts.length cap∧wK w w.heap.size ts ao 0:=by
 rcases h.2 with⟨h1,h2⟩|⟨g,cap,cur,h1,hB,hg,hc,-,hs,ht⟩
 ·have:ts=[]:=by
   cases ts with
   |nil=>rfl
   |cons t r=>simp at h2
  subst this;exact⟨none,0,h1,trivial⟩
 ·refine⟨some ⟨g,0,none⟩,cap,h1,Uh (ts:=ts) (aU hg) ts 0 (λi t hi j u hu=> ?_)⟩;have hF:=flat_get av5 ts i t j u hi hu;have hF':(Tk.cellsOf ts)[i*3+j]? =some u:=hF;rw[<- ht]at hF';have hlt:=(List.getElem?_eq_some_iff.1 hF').1;rw[List.getElem?_take_of_lt adl]at hF';rw[aV];exact aQ hg (by rw[<- hF'];simp)
def Vq (w:World) (ao:Option Addr) (cap:Nat) (ts:bL):Rp:=⟨w.heap.size,w.heap.size,ao,cap,ts,aH _⟩
theorem aO2 {w W:World} {ao:Option Addr} {cap:Nat} {ts:bL} (hW:w.alloc (.cells #[.slice ao ts.length cap,.int .i64 0] 140)=W) (ht:wK w w.heap.size ts ao 0) (ok: ∀t∈ts,WG t) (tl:(∀t∈ts,TL 4097 t)∧ts.length<=4096):eP W (Vq w ao cap ts) ts:=by
 subst hW;exact⟨⟨0,bF _,rfl,heap_alloc_new _ _⟩,ht.below (aA _ _),⟨ok,tl.2⟩,tl.1⟩
theorem ZI (s:ByteArray) (w:World) (eD:dZ w) (hm:s.size<=maxLen) (p:Pr) (h0:(Tk.scan s.data.toList).2.1=0) (hsc: ∀t∈(Tk.scan s.data.toList).1,WG t) (htl:(∀t∈(Tk.scan s.data.toList).1,TL 4097 t)∧(Tk.scan s.data.toList).1.length<=4096) (hpr: ∀(R:Rp) (wr:World),eP wr R (Tk.scan s.data.toList).1->Calls Tryz.prog 81 #[.pointer (some ⟨R.br,0,none⟩)] wr (UC R wr (.ok p []))) (hts:p.ts.isEmpty=false):
 Calls Tryz.prog 45 #[.string s] w λe w'=> ∃aK aG aM aD,e= .returned (.tuple #[.agg #[.slice aK p.ds.length aG,.slice aM p.ts.length aD],.int .i64 0,.int .i64 0])∧p.At w' aK aM∧Below w.heap.size w w':=by
 have jc:=ah eD;have Wd:=ah hsc;have HTL:=ah htl;have HSN:aj (∀w,dZ w->Calls Tryz.prog 80 #[.string s] w (PE w (Tk.scan s.data.toList))):=ah (λw h=>ZK s w h hm);have vU:=ah hpr;clear eD hm hpr hsc htl;generalize Tk.scan s.data.toList=sc at *;go_enter Tryz.func45,Tryz.ntmps45;go_upto_region 1 with fail;generalize hW:World.alloc w _=W0;have HB0:aj (Below w.heap.size w W0):=ah aft;have HZ0:aj (W0.heap[w.heap.size]? =some (.cells YZ 26 (0,0))):=ah acR;clear hW;go_wp2_with fail;refine(HSN.o _ (jc.o.same HB0.o)).mono ?_;rintro e w1 ⟨v,rfl,hown,hb⟩;obtain⟨ao,cap,rfl,htk⟩:=YM hown;have SG:=ah htk;have HB1:=ah (HB0.o.trans (hb.mono HB0.o.size));have HZ1:=gV hb HZ0;clear hown hb htk HSN HB0 HZ0;obtain⟨y0,y1⟩:=nT HZ1.o;have f0:w1.frozen? ⟨w.heap.size,0,none⟩=false:=bC HZ1.o;have f1:w1.frozen? ⟨w.heap.size,1,none⟩=false:=bC HZ1.o;have hlt:w.heap.size<w1.heap.size:=(aU HZ1.o);have aC3:=HTL;rw[h0];go_upto_region 5 with fail;generalize hW:World.alloc w1 _=W1;have HR1:=ah (aO2 hW SG.o Wd.o aC3.o);have HB2:aj (Below w.heap.size w W1):=ah (by rw[<- hW];exact HB1.o.trans ((aA w1 _).mono HB1.o.size));have HZ2:aj (W1.heap[w.heap.size]? =some (.cells YZ 26 (0,0))):=ah (by rw[<- hW];exact((aA w1 _).block _ hlt).trans HZ1.o);clear hW y0 y1 f0 f1 HTL Wd jc SG aC3 HB1 HZ1;go_wp2_with fail;refine(vU.o _ _ HR1.o).mono ?_;rintro e w2 ⟨⟨a,c,a',c',rfl,hl,hst⟩,h1,h2⟩;rw[hts];obtain⟨r,HRN⟩: ∃r:bL,aj (([]:bL)=r):=⟨_,ah rfl⟩;rw[HRN.o]at h1;obtain⟨n,HN⟩: ∃n,aj (p.ds.length=n):=⟨_,ah rfl⟩;obtain⟨n',HN'⟩: ∃n,aj (p.ts.length=n):=⟨_,ah rfl⟩;rw[HN.o,HN'.o]at hl⊢;have HP:=ah (aB hl hst);go_upto_region 6 with fail;generalize hW:World.alloc w2 _=W3;have HG:=ah h2;have HB3:aj (Below w.heap.size w W3):=ah (by rw[<- hW];exact(HB2.o.trans (cZ h2 (bM hlt) HB2.o.size)).trans ((aA w2 _).mono (aR HB2.o.size h2.size)));have Uq:aj (Below w2.heap.size w2 W3):=ah (by rw[<- hW];exact aA w2 _);have HR3:aj (eP W3 (Vq w1 ao cap sc.1) r):=ah (h1.below Uq.o);have HZ3:aj (W3.heap[w.heap.size]? =some (.cells YZ 26 (0,0))):=ah (by have k1:=(aU HZ2.o);exact(Uq.o.block _ (aJ k1 h2.size)).trans ((h2.block _ k1 (by simp[Vq];omega)).trans HZ2.o));have HD3:aj (W3.heap[w2.heap.size]? =some (.cells #[.slice a n c,.slice a' n' c'] 26 (0,0))):=ah acR;obtain⟨pos,hpos,hdrop,c0,c1⟩:=HR3.o.pos;have c0:W3.cell? ⟨w1.heap.size,0,none⟩=some (.slice ao sc.1.length cap):=c0;have c1:W3.cell? ⟨w1.heap.size,1,none⟩=some (.int .i64 (pos:Int)):=c1;have hpos:pos<=sc.1.length:=hpos;have hdrop:sc.1.drop pos=r:=hdrop;have hlt3:w.heap.size<W3.heap.size:=(aU HZ3.o);have hq: ¬pos<sc.1.length:=by rw[<- HRN.o]at hdrop;have:=List.drop_eq_nil_iff.1 hdrop;omega
 have hltW:w.heap.size<W1.heap.size:=(aU HZ2.o);clear hW h1 h2 hl hst vU HR1 HZ2 hpos hdrop;go_quiet (fail);generalize zU:World.drewN W3 _=W4;have eF:aj (Below W3.heap.size W3 W4):=ah (by rw[<- zU];exact below_drewN (ak _ _) _);clear zU;have BN:=ah ((eF.o.block _ hlt3).trans HZ3.o);have HD4:=gV eF.o HD3;obtain⟨y0,y1⟩:=nT BN.o;have f0:W4.frozen? ⟨w.heap.size,0,none⟩=false:=bC BN.o;have f1:W4.frozen? ⟨w.heap.size,1,none⟩=false:=bC BN.o;obtain⟨d0,d1⟩:=nT HD4.o;have yu:w.heap.size<W4.heap.size:=(aU BN.o);go_wp2_with fail;obtain⟨hl,hst⟩:=HP.o;have hfin:jS W1.heap.size w2 ((W4.setCell ⟨w.heap.size,0,none⟩ (.slice a n c)).setCell ⟨w.heap.size,1,none⟩ (.slice a' n' c')):=
  ((dO (B:=W1.heap.size) (Uq.o.trans (eF.o.mono Uq.o.size))).trans (gW W4 _ _ hltW)).trans (gW _ _ _ hltW)
 have hat:=(hst.next hfin).now;exact bodyPost_ret (v:= .tuple #[.agg #[.slice a n c,.slice a' n' c'],.int .i64 0,.int .i64 0]) (by simp[results,Tryz.results45,go_sem,y0,y1,yu]) rfl ⟨a,c,a',c',by rw[HN.o,HN'.o],⟨by rw[HN.o];unfold maxLen;omega,by rw[HN'.o];unfold maxLen;omega,hat⟩,pU (pU (HB3.o.trans (eF.o.mono HB3.o.size)) _ _ (aH _)) _ _ (aH _)⟩
def Rc:List UInt8:=[118,97,114,32,120,32,61,32,50,59,32,118,97,114,32,113,91,50,93,59,32,109,117,116,101,120,32,109,59,32,99,111,110,100,32,99,32,109,59,32,114,119,108,111,99,107,32,114,59,32,102,117,116,117,114,101,32,102,59,32,116,104,114,101,97,100,32,116,40,97,41,32,123,32,108,111,99,107,32,109,32,123,32,120,32,61,32,113,91,97,93,59,32,125,32,125,32,116,104,114,101,97,100,32,117,40,41,32,123,32,125]
theorem src_ok: ∀t∈(Tk.scan Rc).1,WG t:=by
 unfold WG;decide+kernel
theorem aP8:(∀t∈(Tk.scan Rc).1,TL 4097 t)∧(Tk.scan Rc).1.length<=4096:=by
 unfold TL;decide+kernel
def K (k:Nat):bL:=(Tk.scan Rc).1.drop k
theorem fJ (k:Nat):(K k).tail=K (k+1):=by unfold K;rw[List.tail_drop]
def nK (k:Nat):ByteArray:=tx (bU (K k))
def dK (k:Nat) (size init:Int) (on:ByteArray):De:=⟨qQ (bU (K k)),((fP (K k):Nat):Int),nK (k+1),size,init,on⟩
theorem Io (k j:Nat) {d:De} {m:List De} {r:bL} (h1:isDecl (K k)=true) (h2:isName (K (k+1))=true) (h3:KzR (dK k 0 0 ⟨#[]⟩) (K (k+2)) d (K j)) (h4:at' [59] (K j)=true) (h5:Dz (K (j+1)) m r):Dz (K k) (d::m) r:=
 Dz.cons h1 (by rw[fJ];exact h2) (by rw[fJ,fJ];exact h3) h4 (by rw[fJ];exact h5)
theorem aP7:Dz (K 0) [dK 0 0 2 ⟨#[]⟩,dK 5 2 0 ⟨#[]⟩,dK 11 0 0 ⟨#[]⟩,dK 14 0 0 (nK 16),dK 18 0 0 ⟨#[]⟩,dK 21 0 0 ⟨#[]⟩] (K 24):=
 Io 0 4 ahd ahd (.inl ⟨ahd,dK 0 0 0 ⟨#[]⟩,K 2,ahd,ahd,ahd⟩) ahd <|
 Io 5 10 ahd ahd (.inl ⟨ahd,dK 5 2 0 ⟨#[]⟩,K 10,ahd,ahd,ahd⟩) ahd <|
 Io 11 13 ahd ahd (.inr (.inr ⟨⟨ahd,ahd,ahd⟩,rfl,rfl⟩)) ahd <|
 Io 14 17 ahd ahd (.inr (.inl ⟨⟨ahd,ahd,ahd⟩,ahd,rfl,(fJ 16).symm⟩)) ahd <|
 Io 18 20 ahd ahd (.inr (.inr ⟨⟨ahd,ahd,ahd⟩,rfl,rfl⟩)) ahd <|
 Io 21 23 ahd ahd (.inr (.inr ⟨⟨ahd,ahd,ahd⟩,rfl,rfl⟩)) ahd <|
 Dz.nil ahd
theorem noop {r:bL} (h:(nextK r==4&&(wE (bU r)).1 != 0)=false):Pn r:=λlv=>by
 unfold opAt;split
 ·rename_i h2;simp only[aP]at h2;rw[h2.1,Bool.true_and]at h;simpa using h
 ·rfl
theorem bo3:Ez (K 37) ⟨2,0,nK 37,.nil⟩ (K 38):=by
 have h:=Ez.nm (ts:=K 37) ahd afE aes;rw[fJ]at h;exact h
theorem bo2:Ez (K 35) (TR (nK 35) ⟨2,0,nK 37,.nil⟩) (K 39):=by
 have h:=Ez.ix (ts:=K 35) (r:=K 38) (x:=⟨2,0,nK 37,.nil⟩) ahd afE (by rw[fJ,fJ];exact bo3) ahd aes;rw[fJ]at h;exact h
def sA:Sx:=⟨dM.ex {hd 1 ((fP (K 33):Nat):Int)with nm:=nK 33} (TR (nK 35) ⟨2,0,nK 37,.nil⟩),.nil,.nil⟩
def sL:Sx:=⟨{hd 4 ((fP (K 30):Nat):Int)with nm:=nK 31},AL [sA],.nil⟩
theorem br0 (R:Rp):E8 R (K 33) sA (K 40):=by
 have h:=au9 R (K 33) (K 39) (TR (nK 35) ⟨2,0,nK 37,.nil⟩) ahd afE afE (by rw[fJ,fJ];exact bo2) ahd;rw[fJ]at h;exact h
theorem bl7 (R:Rp):uW R (K 32) (AL [sA]) (K 41):=
 Jw R (λts y r=>ts=K 33∧y=sA∧r=K 40) (ah (λq y r ⟨e1,e2,e3⟩=>by subst e1 e2 e3;exact br0 R)) (K 32) (K 41) [sA] ahd (by rw[fJ];have h:=Lz.nil (S:=λts y r=>ts=K 33∧y=sA∧r=K 40) (ts:=K 40) ahd;rw[fJ]at h;exact Lz.cons ahd ⟨rfl,rfl,rfl⟩ h) ahf
theorem br1 (R:Rp):E8 R (K 30) sL (K 41):=by
 have h:=ag6 R (K 30) (K 41) (AL [sA]) ahd ahd afE (ah (by rw[fJ,fJ];exact bl7 R));rw[fJ]at h;exact h
theorem bl8 (R:Rp):uW R (K 29) (AL [sL]) (K 42):=
 Jw R (λts y r=>ts=K 30∧y=sL∧r=K 41) (ah (λq y r ⟨e1,e2,e3⟩=>by subst e1 e2 e3;exact br1 R)) (K 29) (K 42) [sL] ahd (by rw[fJ];have h:=Lz.nil (S:=λts y r=>ts=K 30∧y=sL∧r=K 41) (ts:=K 41) ahd;rw[fJ]at h;exact Lz.cons ahd ⟨rfl,rfl,rfl⟩ h) ahf
theorem bl9 (R:Rp):uW R (K 46) (AL []) (K 48):=
 Jw R (λ_ _ _=>False) (ah (λ_ _ _ h=>h.elim)) (K 46) (K 48) [] ahd (by rw[fJ];have h:=Lz.nil (S:=λ_ _ _=>False) (ts:=K 47) ahd;rw[fJ]at h;exact h) ahf
def Vv (r:bL) (b:aY) (q:bL):Prop:=(r=K 29∧b=AL [sL]∧q=K 42)∨(r=K 46∧b=AL []∧q=K 48)
def ny:Pr:=⟨[dK 0 0 2 ⟨#[]⟩,dK 5 2 0 ⟨#[]⟩,dK 11 0 0 ⟨#[]⟩,dK 14 0 0 (nK 16),dK 18 0 0 ⟨#[]⟩,dK 21 0 0 ⟨#[]⟩],[⟨nK 25,fP (K 24),[nK 27],AL [sL]⟩,⟨nK 43,fP (K 42),[],AL []⟩]⟩
theorem aP9:Tz Vv (K 24) ny.ts (K 48):=by
 have h2:=Tz.cons (S:=Vv) (ts:=K 42) (r:=K 46) (q:=K 48) (r':=K 48) (l:=[]) (b:=AL []) (m:=[]) ahd afE (by rw[fJ,fJ];kernel_rfl) (by rw[fJ,fJ,fJ];exact .inl ⟨ahd,rfl,(fJ 45).symm⟩) (.inr ⟨rfl,rfl,rfl⟩) (Tz.nil ahd);have h1:=Tz.cons (S:=Vv) (ts:=K 24) (r:=K 29) (q:=K 42) (r':=K 48) (l:=[nK 27]) (b:=AL [sL]) ahd afE (by rw[fJ,fJ];kernel_rfl) (by rw[fJ,fJ,fJ];exact .inr ⟨ahd,ahd,afE,afE,rfl,by rw[fJ,fJ]⟩) (.inl ⟨rfl,rfl,rfl⟩) h2;rw[fJ,fJ]at h1;exact h1
theorem af3 (R:Rp) (wr:World) (hI:eP wr R (Tk.scan Rc).1):Calls Tryz.prog 81 #[.pointer (some ⟨R.br,0,none⟩)] wr (UC R wr (.ok ny [])):=by
 have h:=Vp R Vv (ah (λr b q h=>by
  rcases h with⟨e1,e2,e3⟩|⟨e1,e2,e3⟩ <;> subst e1 e2 e3
  ·exact bl8 R
  ·exact bl9 R)) (K 0) (K 24) (K 48) ny.ds ny.ts aP7 aP9 ahf wr hI
 have e:K 48=[]:=ahd
 rw[e]at h;exact h
end Go.Proofs.YtldapdcphphodaaGreatDoor
