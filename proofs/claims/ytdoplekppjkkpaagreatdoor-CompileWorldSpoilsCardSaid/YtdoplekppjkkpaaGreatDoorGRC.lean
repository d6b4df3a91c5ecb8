/- Declarations of the fixed program: a declaration under way; size and initial. And what hangs on it. -/
import Derived.Test.YtdoplekppjkkpaaGreatDoorGRA
set_option linter.unusedSimpArgs false
set_option linter.unusedVariables false
set_option maxHeartbeats 40000000
set_option maxRecDepth 1000000
namespace Go.Proofs.YtdoplekppjkkpaaGreatDoor
open Go.RowKit
open Md Pz
theorem ae9 {x:List UInt8} {r:bG} (h:at' x r=true):need x r= .ok () r.tail:=by unfold need;rw[if_pos h]
theorem ae8 {x:List UInt8} {r:bG} (h:at' x r=false):need x r= .no r:=by unfold need;rw[if_neg ahz]
structure Pd (R:Rp) (bd:Nat) (w:World) (d:De) (rest:bG):Prop where
 rd:eP w R rest
 ne:bd≠R.br
 b0:R.B0<=bd
 blk:w.heap[bd]? =some (.cells (qK d).toArray 55 (0,0))
 ok:d.Ok
section
variable {R:Rp} {bd:Nat} {w W W':World} {d:De} {rest rest':bG}
theorem Pd.lt (h:Pd R bd W d rest):bd<W.heap.size:=(aO h.blk)
theorem Pd.then (h:Pd R bd W d rest) (h1:eP W' R rest') (h2:W.grownBy W' (some R.br)):Pd R bd W' d rest':=
 ⟨h1,h.ne,h.b0,(h2.block _ h.lt (by simp;exact h.ne)).trans h.blk,h.ok⟩
theorem Pd.below (h:Pd R bd W d rest) (hb:Below W.heap.size W W'):Pd R bd W' d rest:=h.then (h.rd.below hb) (jL hb)
theorem Pd.put (h:Pd R bd W d rest) (j:Nat) (v:Value) {y:De} (hy:(qK d).toArray.setIfInBounds j v=(qK y).toArray) (hok:y.Ok):Pd R bd (W.setCell ⟨bd,j,none⟩ v) y rest:=
 ⟨vY h.rd _ v h.b0 h.ne,h.ne,h.b0,by rw[dI h.blk,hy],hok⟩
theorem Pd.nm (h:Pd R bd W d rest) (s:ByteArray) (hs:s.size<=maxLen):Pd R bd (W.setCell ⟨bd,2,none⟩ (.string s)) {d with nm:=s} rest:=
 h.put 2 _ rfl ⟨h.ok.1,h.ok.2.1,hs,h.ok.2.2.2⟩
theorem Pd.size (h:Pd R bd W d rest) (n:Int) (hn:bY n):Pd R bd (W.setCell ⟨bd,3,none⟩ (.int .i64 n)) {d with size:=n} rest:=
 h.put 3 _ rfl ⟨h.ok.1,h.ok.2.1,h.ok.2.2.1,hn,h.ok.2.2.2.2⟩
theorem Pd.init (h:Pd R bd W d rest) (n:Int) (hn:bY n):Pd R bd (W.setCell ⟨bd,4,none⟩ (.int .i64 n)) {d with init:=n} rest:=
 h.put 4 _ rfl ⟨h.ok.1,h.ok.2.1,h.ok.2.2.1,h.ok.2.2.2.1,hn,h.ok.2.2.2.2.2⟩
theorem Pd.on (h:Pd R bd W d rest) (s:ByteArray) (hs:s.size<=maxLen):Pd R bd (W.setCell ⟨bd,5,none⟩ (.string s)) {d with on:=s} rest:=
 h.put 5 _ rfl ⟨h.ok.1,h.ok.2.1,h.ok.2.2.1,h.ok.2.2.2.1,h.ok.2.2.2.2.1,hs⟩
theorem Pd.cell (h:Pd R bd W d rest) {j:Nat} {u:Value} (hu:(qK d).toArray[j]? =some u):W.cell? ⟨bd,j,none⟩=some u:=aQ h.blk hu
theorem Pd.free (h:Pd R bd W d rest) (j:Nat):W.frozen? ⟨bd,j,none⟩=false:=bK h.blk
end
def DmP (R:Rp) (bd:Nat) (w:World) (res:oJ De) (e:Ending) (w':World):Prop:=
 match res with
 | .ok d r=>e= .returned (.bool true)∧Pd R bd w' d r∧Fr R.br bd w w'
 | .no r=>e= .returned (.bool false)∧(∃d,Pd R bd w' d r)∧Fr R.br bd w w'
theorem OW {R:Rp} {bd:Nat} {w W:World} {res:oJ De} {d:De} {r:bG} (e:res= .ok d r) (h:Pd R bd W d r) (hf:Fr R.br bd w W):DmP R bd w res (.returned (.bool true)) W:=by subst e;exact⟨rfl,h,hf⟩
theorem Fr.gr' {br bs:Nat} {w w1 w2:World} (h:Fr br bs w w1) (k:w1.grownBy w2 (some br)):Fr br bs w w2:=h.trans (Fr.uQ k)
theorem ah7 {d:De} {ts:bG} (h:at' [91] ts=false):zK d ts= .ok d ts:=by unfold zK;rw[if_neg ahz]
theorem ah6 {d:De} {ts:bG} (h:at' [91] ts=true) (h1:isNum ts.tail=false):zK d ts= .no ts.tail:=by unfold zK;rw[if_pos h,if_neg agW]
theorem ay8 {d:De} {ts:bG} (h:at' [91] ts=true) (h1:isNum ts.tail=true) (h2:(Tk.val (bM ts.tail)==0)=true):zK d ts= .no ts.tail:=by unfold zK;rw[if_pos h,if_pos h1,if_pos h2]
theorem Uy {d:De} {ts:bG} (h:at' [91] ts=true) (h1:isNum ts.tail=true) (h2:(Tk.val (bM ts.tail)==0)=false):zK d ts=(need [93] ts.tail.tail).map λ_=> {d with size:=(Tk.val (bM ts.tail):Nat)} :=by unfold zK;rw[if_pos h,if_pos h1,if_neg ahl]
theorem aw5 {d:De} {ts:bG} (h:at' [61] ts=false):Ar d ts= .ok d ts:=by unfold Ar;rw[if_neg ahz]
theorem ad2 {d:De} {ts:bG} (h:at' [61] ts=true) (h1:at' [45] ts.tail=false) (h2:isNum ts.tail=false):Ar d ts= .no ts.tail:=by unfold Ar;rw[if_pos h,if_neg agW,if_neg ahl]
theorem ad3 {d:De} {ts:bG} (h:at' [61] ts=true) (h1:at' [45] ts.tail=false) (h2:isNum ts.tail=true):Ar d ts= .ok {d with init:=(Tk.val (bM ts.tail):Nat)} ts.tail.tail:=by unfold Ar;rw[if_pos h,if_neg agW,if_pos h2]
theorem ay9 (R:Rp) (bd:Nat) (ts r:bG) (d d':De) (w:World) (hp:Pd R bd w d ts) (h:zK d ts= .ok d' r):
 Calls Tryz.prog 127 #[.pointer (some ⟨R.br,0,none⟩),.pointer (some ⟨bd,0,none⟩)] w (DmP R bd w (.ok d' r)):=by
 have HP:=ah hp;clear hp;cases h1:at' [91] ts
 ·rw[ah7 h1]at h;injection h with e1 e2;subst e1 e2;go_enter Tryz.func127,Tryz.ntmps127;go_wp2_with fail;refine(pQ R _ _ ⟨#[91]⟩ rfl h1 HP.o.rd).mono ?_;rintro e w1 ⟨rfl,h2⟩;have lZ:=ah (HP.o.below h2);have HF:=ah (Fr.uQ (br:=R.br) (bs:=bd) (jL h2));clear h2;go_wp2_with fail;go_ret;exact OW rfl lZ.o HF.o
 ·cases h2:isNum ts.tail
  ·rw[ah6 h1 h2]at h;cases h
  cases h3:(Tk.val (bM ts.tail)==0)
  case true=>rw[ay8 h1 h2 h3]at h;cases h
  cases h4:at' [93] ts.tail.tail
  ·rw[Uy h1 h2 h3,ae8 h4]at h;cases h
  rw[Uy h1 h2 h3,ae9 h4]at h;have HV:aj (bY ((Tk.val (bM ts.tail):Nat):Int)):=ah acf;have h3':(((Tk.val (bM ts.tail):Nat):Int)==0)=false:=by rw[beq_eq_false_iff_ne]at h3⊢;omega
  have h':oJ.ok {d with size:=((Tk.val (bM ts.tail):Nat):Int)} ts.tail.tail.tail=oJ.ok d' r:=h;injection h' with e1 e2;subst e1 e2;clear h;go_enter Tryz.func127,Tryz.ntmps127;go_wp2_with fail;refine(kX R _ _ ⟨#[91]⟩ rfl h1 HP.o.rd).mono ?_;rintro e w1 ⟨rfl,k2,k3⟩;have lZ:=ah (HP.o.then k2 k3);have Cn:=ah (Fr.uQ (bs:=bd) k3);clear k2 k3;go_wp2_with fail;refine(Uv R _ _ h2 lZ.o.rd).mono ?_;rintro e w2 ⟨rfl,k2,k3⟩;have jO:=ah (lZ.o.then k2 k3);have Bn:=ah (Cn.o.gr' k3);clear k2 k3;have c3:=jO.o.cell (j:=3) rfl;have f3:=jO.o.free 3;go_upto_region 10 with fail;generalize hW:World.setCell w2 _ _=W;have ql:aj (Pd R bd W {d with size:=(Tk.val (bM ts.tail):Nat)} ts.tail.tail):=ah (by rw[<- hW];exact jO.o.size _ HV.o);have Bo:aj (Fr R.br bd w W):=ah (by rw[<- hW];exact Bn.o.set _ _ (.inl rfl));clear hW c3 f3 jO Bn;go_wp2_with fail;refine(kX R _ _ ⟨#[93]⟩ rfl h4 ql.o.rd).mono ?_;rintro e w4 ⟨rfl,k2,k3⟩;have wP:=ah (ql.o.then k2 k3);have Pq:=ah (Bo.o.gr' k3);clear k2 k3;go_wp2_with fail;go_ret;exact OW rfl wP.o Pq.o
theorem VD (R:Rp) (bd:Nat) (ts r:bG) (d d':De) (w:World) (hp:Pd R bd w d ts) (hm:at' [45] ts.tail=false) (h:Ar d ts= .ok d' r):
 Calls Tryz.prog 128 #[.pointer (some ⟨R.br,0,none⟩),.pointer (some ⟨bd,0,none⟩)] w (DmP R bd w (.ok d' r)):=by
 have HP:=ah hp;clear hp;cases h1:at' [61] ts
 ·rw[aw5 h1]at h;injection h with e1 e2;subst e1 e2;go_enter Tryz.func128,Tryz.ntmps128;go_wp2_with fail;refine(pQ R _ _ ⟨#[61]⟩ rfl h1 HP.o.rd).mono ?_;rintro e w1 ⟨rfl,h2⟩;have lZ:=ah (HP.o.below h2);have HF:=ah (Fr.uQ (br:=R.br) (bs:=bd) (jL h2));clear h2;go_wp2_with fail;go_ret;exact OW rfl lZ.o HF.o
 ·cases h2:isNum ts.tail
  ·rw[ad2 h1 hm h2]at h;cases h
  rw[ad3 h1 hm h2]at h;injection h with e1 e2;subst e1 e2;have HV:aj (bY ((Tk.val (bM ts.tail):Nat):Int)):=ah acf;go_enter Tryz.func128,Tryz.ntmps128;go_wp2_with fail;refine(kX R _ _ ⟨#[61]⟩ rfl h1 HP.o.rd).mono ?_;rintro e w1 ⟨rfl,k2,k3⟩;have lZ:=ah (HP.o.then k2 k3);have Cn:=ah (Fr.uQ (bs:=bd) k3);clear k2 k3;go_wp2_with fail;refine(pQ R _ _ ⟨#[45]⟩ rfl hm lZ.o.rd).mono ?_;rintro e w1 ⟨rfl,k2⟩;have jO:=ah (lZ.o.below k2);have Bn:=ah (Cn.o.gr' (jL k2));clear k2;go_wp2_with fail;refine(Uv R _ _ h2 jO.o.rd).mono ?_;rintro e w2 ⟨rfl,k2,k3⟩;have ql:=ah (jO.o.then k2 k3);have Bo:=ah (Bn.o.gr' k3);clear k2 k3;have c4:=ql.o.cell (j:=4) rfl;have f4:=ql.o.free 4;go_wp2_with fail;go_ret;exact OW rfl (ql.o.init _ HV.o) (Bo.o.set _ _ (.inl rfl))
theorem Ei {w:World} {K:Act->Prop} {a:Act} (h:K a):eO w K [] a:=h
def Xw (d:De):Value:= .agg #[.int .i64 d.kind,.int .i64 d.line,.string d.nm,.int .i64 d.size,.int .i64 d.init,.string d.on]
def aA8 (R:Rp) (w:World) (d:De) (r:bG) (e:Ending) (w':World):Prop:=(d.Ok∧e= .returned (.tuple #[Xw d,.bool true]))∧eP w' R r∧w.grownBy w' (some R.br)
def IV:Array Value:= #[.int .i64 0,.int .i64 0,.string ⟨#[]⟩,.int .i64 0,.int .i64 0,.string ⟨#[]⟩]
theorem Xu:(Tryz.prog.info? 55).map (·.size)=some 6:=agG
theorem z6 {w:World} {b:Nat} {t:TypeId} (h:w.heap[b]? =some (.cells IV t (0,0))):
 (w.cell? ⟨b,0,none⟩=some (.int .i64 0)∧w.cell? ⟨b,1,none⟩=some (.int .i64 0)∧w.cell? ⟨b,2,none⟩=some (.string ⟨#[]⟩)∧w.cell? ⟨b,3,none⟩=some (.int .i64 0)∧w.cell? ⟨b,4,none⟩=some (.int .i64 0)∧w.cell? ⟨b,5,none⟩=some (.string ⟨#[]⟩))∧∀j,w.frozen? ⟨b,j,none⟩=false:=
 ⟨⟨aQ h rfl,aQ h rfl,aQ h rfl,aQ h rfl,aQ h rfl,aQ h rfl⟩,λ_=>bK h⟩
theorem aK6 {R:Rp} {w W:World} {d:De} {r:bG} (hok:d.Ok) (hr:eP W R r) (hg:w.grownBy W (some R.br)) (hl:R.br<w.heap.size):
 aA8 R w d r (.returned (.tuple #[Xw d,.bool true])) (W.setCells w.heap.size 0 (qK d)):=
 ⟨⟨hok,rfl⟩,Df hr (eD _ _ _ _) afS agH,xH hg _ _ _ (aB _)⟩
def KzR (d:De) (r:bG) (dz:De) (rz:bG):Prop:=
 ((d.kind==1)=true∧∃d2 q,zK d r= .ok d2 q∧at' [45] q.tail=false∧Ar d2 q= .ok dz rz)∨(((d.kind==1)=false∧(d.kind==2)=false∧(d.kind==5)=true)∧isName r=true∧dz= {d with on:=tx (bM r)} ∧rz=r.tail)∨
 (((d.kind==1)=false∧(d.kind==2)=false∧(d.kind==5)=false)∧dz=d∧rz=r)
theorem XF {br bd:Nat} {w w1 w2:World} (h:w.grownBy w1 (some br)) (hf:Fr br bd w1 w2) (hb:w.heap.size<=bd):w.grownBy w2 (some br):=
 ⟨hf.os.trans h.os,hf.tape.trans h.tape,hf.output.trans h.output,aJ h.size hf.size,λk hk hn=>(hf.block k (aR hk h.size) (by simpa using hn) agH).trans (h.block k hk hn)⟩
def zP (P Q S:World->Prop):List Bool->World->Prop
 | [x,y],w=>if y then S w else if x then Q w else P w
 |_,_=>False
section
variable {P Q S:World->Prop} {c:List Bool} {w w':World} {k l i:Nat}
theorem zP.bits (h:zP P Q S c w): ∃x y,c=[x,y]:=by
 match c,h with
 | [x,y],_=>exact⟨x,y,rfl⟩
 | [],h=>exact h.elim
 | [_],h=>exact h.elim
 |_::_::_::_,h=>exact h.elim
theorem zP.skip (h1:(k==i)=false) (h2:(l==i)=false) (h:zP P Q S c w):zP P Q S (jh [k,l] c i) w:=by
 obtain⟨x,y,rfl⟩:=h.bits;simp only[jh,h1,h2,Bool.or_false];exact h
theorem zP.fire (h1:(k==i)=true) (h2:(l==i)=false) (h:Q w):zP P Q S (jh [k,l] [false,false] i) w:=by
 simp only[jh,h1,h2,Bool.or_false,Bool.or_true];exact h
theorem zP.last (h1:(k==i)=false) (h2:(l==i)=true) (h:S w):zP P Q S (jh [k,l] [true,false] i) w:=by
 simp only[jh,h1,h2,Bool.or_false,Bool.or_true];exact h
theorem zP.gr {x:Bool} {T:World->Prop} (hp: ∀w,P w->T w) (hq: ∀w,Q w->T w) (h:zP P Q S [x,false] w):T w:=by
 cases x
 ·exact hp w h
 ·exact hq w h
end
theorem MU (R:Rp) (ts rz:bG) (dz:De) (w:World) (hI:eP w R ts) (hk:isDecl ts=true) (hn:isName ts.tail=true) (hKR:KzR ⟨qZ (bM ts),((fQ ts:Nat):Int),tx (bM ts.tail),0,0,⟨#[]⟩⟩ ts.tail.tail dz rz) (h4:at' [59] rz=true):
 Calls Tryz.prog 97 #[.pointer (some ⟨R.br,0,none⟩)] w (aA8 R w dz rz.tail):=by
 have HKR:=ah hKR;clear hKR;have HI:=ah hI;have HL:=ah (FL hI);have hlt:=hI.lt;have bM5:=ah hlt;obtain⟨t0,r0,hr⟩: ∃t r,ts=t::r:=by
  cases ts with
  |nil=>exact absurd hk (by simp[isDecl,nextK])
  |cons t r=>exact⟨t,r,rfl⟩
 have NP:=ah hr;have hd0:(qZ (bM ts)==0)=false:=by unfold isDecl at hk;simp only[aP,Bool.not_eq_true']at hk;exact hk.2
 have WG:=ah (av3 (bM ts) hd0);clear hk hr hd0;go_enter Tryz.func97,Tryz.ntmps97;go_upto_region 1 with fail;generalize hW:World.alloc w _=W0;have HB0:aj (Below w.heap.size w W0):=ah aeW;have HZ0:aj (W0.heap[w.heap.size]? =some (.cells IV 55 (0,0))):=ah acA;have HN:=ah (rC R ts W0 (HI.o.below HB0.o));unfold yg at HN;clear hW hI;go_wp2_with fail;refine HN.o.mono ?_;rintro e w1 ⟨rfl,h2⟩;have HB1:=ah (HB0.o.trans (h2.mono HB0.o.size));have HZ1:=jV h2 HZ0;clear h2 HN HB0 HZ0;go_upto_region 2 with fail;generalize hW:World.alloc w1 _=W2;obtain⟨gt,hg,-,-,HT2,-⟩:=qD hW;rw[hg];have HB2:aj (Below w.heap.size w W2):=ah aco;have HZ2:aj (W2.heap[w.heap.size]? =some (.cells IV 55 (0,0))):=ah abt;have kJ:aj (R.br<w.heap.size∧w.heap.size<gt):=ah ⟨hlt,by rw[<- hg];exact(aO HZ1.o)⟩;obtain⟨pos,hp,q0,q1,fq,HX⟩:=(HI.o.below HB2.o).open;clear hW hg HB1 HZ1;go_upto_region 3 with fail;generalize hW:World.setCell W2 _ _=W3;have HQ:aj (eP W3 R ts.tail∧W2.grownBy W3 (some R.br)):=ah acZ;have Px:aj (w.grownBy W3 (some R.br)):=ah (jC (jL HB2.o) HQ.o.2);have HT3:=ah ((HQ.o.2.block _ (aO HT2.o) afu).trans HT2.o);have HZ3:=ah ((HQ.o.2.block _ (aO HZ2.o) afu).trans HZ2.o);have aF5:=ah HQ.o.1;clear hW q0 q1 fq HX HB2 HT2 HZ2 HQ;have K1: ∀w',Below W3.heap.size W3 w'->w'.cell? ⟨gt,1,none⟩=some (.string (tx (bM ts))):=λw' h=>aQ ((h.block _ (aO HT3.o)).trans HT3.o) rfl;have K2: ∀w',Below W3.heap.size W3 w'->w'.cell? ⟨gt,2,none⟩=some (.int .i64 ((fQ ts:Nat):Int)):=λw' h=>aQ ((h.block _ (aO HT3.o)).trans HT3.o) rfl;refine eu agG rfl ?_;refine dD 0 7 [] [[],[0],[0,1],[],[3],[0,1,2,3,4],[],[0,1,2,3,4,5,6]] [[],[],[],[],[],[],[]] (λ_ w'=>Below W3.heap.size W3 w') (λw w'=>Below w.heap.size w w') [16,17,18,19,20,21,5] rfl rfl ahS agG agG agG agG agG ahS (λ_=>au _ _) ahS (below_drewN (au _ _) 1) ?_;simp only[jH,nY]
 iterate 2
  apply bZ.step
  case bL=>intro c A w' hok hC hO hD;have e4:=hO 4 ahS;simp[Act.eval]at e4;simp[Act.eval]at hD;simp[go_sem,gd,Oper.wp,hD,e4,K1,hC];exact AaH
 apply bZ.step
 case bL=>intro c A w' hok hC hO hD;simp[Act.eval]at hD;simp[go_sem,gd,Oper.wp,hD];refine(I8 (tx (bM ts)) (l:=bM ts) (Nh _) w').mono ?_;rintro e w2 ⟨rfl,rfl⟩;exact AaH
 iterate 3
  apply bZ.step
  case bL=>intro c A w' hok hC hO hD;have e4:=hO 4 ahS;simp[Act.eval]at e4;simp[Act.eval]at hD;simp[go_sem,gd,Oper.wp,hD,e4,K2,hC];exact AaH
  try simp only[dY]
 refine bZ.some (λv w'=> ∃db,v= .pointer (some ⟨db,0,none⟩)∧W3.heap.size<=db∧w'.heap[db]? =some (.cells IV 55 (0,0))) ?_ ?_ ?_
 ·rintro v w1 w' hle ⟨g,h1,h2,h3⟩;exact⟨g,h1,h2,(hle.block g (aO h3)).trans h3⟩
 ·intro c A w' hok hC hO hD;simp[go_sem,gd,Oper.wp];exact aV.mk (d:=_) (v:= .pointer (some ⟨_,0,none⟩)) (ak _ _) (hC.alloc hC.size _) ⟨_,rfl,hC.size,heap_alloc_new _ _⟩
 simp only[dY];refine bZ.done ?_;intro wz dL;simp only[List.drop_zero];intro v0 h0 v1 h1 v2 h2 v3 h3 v4 h4 v5 h5 v6 h6;have h5':=Eq.symm (show v5=_ from h5);subst h5';obtain⟨bd,rfl,aP7,FI⟩:=h6;clear h0 h1 h2 h3 h4 h5 K1 K2;have HD0:aj ((⟨qZ (bM ts),((fQ ts:Nat):Int),⟨#[]⟩,0,0,⟨#[]⟩⟩:De).Ok):=ah ⟨by have:=WG.o;show bY (qZ _);unfold bY;omega,HL.o,bF _,DT,DT,bF _⟩;have uF:aj (Below W3.heap.size W3 wz):=ah dL;have HDB:aj (W3.heap.size<=bd∧wz.heap[bd]? =some (.cells IV 55 (0,0))):=ah ⟨aP7,FI⟩;clear dL aP7;refine Ei ?_;go_simp;refine dZ 7 [[],[0],[0,1],[],[3],[0,1,2,3,4],[],[0,1,2,3,4,5,6]] rfl rfl rfl rfl rfl agG agG agG ?_;refine wp_store_mid _ _ _ ahS bd 0 (qK ⟨qZ (bM ts),((fQ ts:Nat):Int),⟨#[]⟩,0,0,⟨#[]⟩⟩).toArray ahS ahS (IK FI (aB 6)) Xu aga ?_;refine fU rfl ?_;generalize xI:World.setCells wz bd 0 _=W5;have uE:aj (w.heap.size<bd∧R.br<bd):=ah (by have h1:=HDB.o.1;have h2:=(aO HZ3.o);have h3:=kJ.o;omega);have NC:aj (wz.grownBy W5 (some bd)):=ah (by rw[<- xI];exact eD _ _ _ _);have PO:aj (Pd R bd W5 ⟨qZ (bM ts),((fQ ts:Nat):Int),⟨#[]⟩,0,0,⟨#[]⟩⟩ ts.tail):=ah ⟨Df (aF5.o.below uF.o) NC.o (by have:=uE.o;have:=R.b0;omega) afW,afW,by have:=uE.o;have:=R.b0;omega,by rw[<- xI];exact nC HDB.o.2 rfl,HD0.o⟩;have UO:aj (w.grownBy W5 (some R.br)):=ah (by rw[<- xI];exact xH (jC Px.o (jL uF.o)) _ _ _ (bH uE.o.1));have gI:aj (W5.heap[w.heap.size]? =some (.cells IV 55 (0,0))):=ah ((NC.o.block _ (aR (aO HZ3.o) uF.o.size) (by have:=uE.o;simp;omega)).trans ((uF.o.block _ (aO HZ3.o)).trans HZ3.o));clear xI NC uF HDB FI HD0 aF5 Px HT3 HZ3;go_simp;have yx:aj ((tx (bM ts.tail)).size<=maxLen):=ah (yJ (yO PO.o.rd.ts hn));go_wp2_with fail;refine(vR R _ _ hn PO.o.rd).mono ?_;rintro e w6 ⟨rfl,h2,h3⟩;have uY:=ah (PO.o.then h2 h3);have aC8:=ah (jC UO.o h3);have iF:=ah ((h3.block _ (aO gI.o) afu).trans gI.o);clear h2 h3 PO UO gI;have c2:=uY.o.cell (j:=2) rfl;have f2:=uY.o.free 2;go_upto_region 6 with fail;generalize hW:World.setCell w6 _ _=W7;have Dq:aj (Pd R bd W7 ⟨qZ (bM ts),((fQ ts:Nat):Int),tx (bM ts.tail),0,0,⟨#[]⟩⟩ ts.tail.tail):=ah (by rw[<- hW];exact uY.o.nm _ yx.o);have UQ:aj (w.grownBy W7 (some R.br)):=ah (by rw[<- hW];exact CW aC8.o _ _ (bH uE.o.1));have Lf:aj (W7.heap[w.heap.size]? =some (.cells IV 55 (0,0))):=ah (by rw[<- hW];exact(bg w6 _ _ rfl aew).trans iF.o);clear hW uY aC8 iF c2 f2;obtain⟨dd,Tg⟩: ∃dd,aj ((⟨qZ (bM ts),((fQ ts:Nat):Int),tx (bM ts.tail),0,0,⟨#[]⟩⟩:De)=dd):=⟨_,ah rfl⟩;have HKK:aj (dd.kind=qZ (bM ts)):=ah (by rw[<- Tg.o]);rw[Tg.o]at Dq HKR;obtain⟨r1,HR1⟩: ∃r1,aj (ts.tail.tail=r1):=⟨_,ah rfl⟩;rw[HR1.o]at Dq HKR;have c0:W7.cell? ⟨bd,0,none⟩=some (.int .i64 dd.kind):=Dq.o.cell rfl;go_upto_block 0 with fail;go_cut [6] (λs6 W'=>s6= .bool true∧Pd R bd W' dz rz∧w.grownBy W' (some R.br)∧W'.heap[w.heap.size]? =some (.cells IV 55 (0,0)))
 case first=>
  rcases HKR.o with⟨k1,d2,q,hs,hm,hi⟩|⟨⟨k1,k2,k5⟩,hm,hz,hr⟩|⟨⟨k1,k2,k5⟩,hz,hr⟩
  ·have HC:=ah (ay9 R bd r1 q dd d2 W7 Dq.o hs);have Nu:aj (∀W,Pd R bd W d2 q->Calls Tryz.prog 128 #[.pointer (some ⟨R.br,0,none⟩),.pointer (some ⟨bd,0,none⟩)] W (DmP R bd W (.ok dz rz))):=ah (λW h=>VD R bd q rz d2 dz W h hm hi);clear hs hm hi;go_wp2_with fail;refine HC.o.mono ?_;rintro e w8 ⟨rfl,h2,h3⟩;have zU:=ah h2;have Py:=ah (XF UQ.o h3 (bH uE.o.1));have NV:=ah (Ja h3 Lf.o afa afW);clear h2 h3 HC;have HC:=ah (Nu.o _ zU.o);clear Nu;go_wp2_with fail;refine HC.o.mono ?_;rintro e w9 ⟨rfl,h2,h3⟩;have AA:=ah h2;have HF9:=ah h3;clear h2 h3;go_wp2_with fail;go_meet;exact⟨rfl,AA.o,XF Py.o HF9.o (bH uE.o.1),Ja HF9.o NV.o afa afW⟩
  ·have UY:aj ((tx (bM r1)).size<=maxLen):=ah (yJ (yO Dq.o.rd.ts hm));subst hz hr;go_wp2_with fail;refine(vR R _ _ hm Dq.o.rd).mono ?_;rintro e w8 ⟨rfl,h2,h3⟩;have zU:=ah (Dq.o.then h2 h3);have Py:=ah (jC UQ.o h3);have NV:=ah ((h3.block _ (aO Lf.o) afu).trans Lf.o);clear h2 h3;have c5:=zU.o.cell (j:=5) rfl;have f5:=zU.o.free 5;go_wp2_with fail;go_meet;exact⟨rfl,zU.o.on _ UY.o,CW Py.o _ _ (bH uE.o.1),(bg w8 _ _ rfl aew).trans NV.o⟩
  ·subst hz hr;go_wp2_with fail;go_meet;exact⟨rfl,Dq.o,UQ.o,Lf.o⟩
 obtain⟨rfl,hPd,hGr,hZ⟩:=hcut;obtain⟨W8,rfl⟩: ∃W:World,W=wc:=⟨_,rfl⟩;have zU:=ah hPd;have Py:=ah hGr;have NV:=ah hZ;clear hPd hGr hZ Dq UQ Lf c0 HKR;have KD: ∀w',W8.grownBy w' (some R.br)->(w'.cell? ⟨bd,0,none⟩=some (.int .i64 dz.kind)∧w'.cell? ⟨bd,1,none⟩=some (.int .i64 dz.line)∧w'.cell? ⟨bd,2,none⟩=some (.string dz.nm)∧w'.cell? ⟨bd,3,none⟩=some (.int .i64 dz.size)∧w'.cell? ⟨bd,4,none⟩=some (.int .i64 dz.init)∧w'.cell? ⟨bd,5,none⟩=some (.string dz.on)):=λw' h=>by have hb:=(h.block _ zU.o.lt (by simp;exact zU.o.ne)).trans zU.o.blk;exact⟨aQ hb rfl,aQ hb rfl,aQ hb rfl,aQ hb rfl,aQ hb rfl,aQ hb rfl⟩
 have HIP:aj (eP W8 R rz):=ah zU.o.rd;have e0: ∀w',W8.grownBy w' (some R.br)->w'.heap[w.heap.size]? =some (.cells IV 55 (0,0)):=λw' h=>(h.block _ (aO NV.o) afu).trans NV.o;have Pp:=ah e0;clear e0;go_upto_region 15 with fail;refine eu agG rfl ?_;refine dD 0 8 [4,6] [[],[],[1],[1,2],[1,2,3],[1,2,3,4],[0,1,2,3,4],[0,1,2,3,4,5,6]] [[none,some false],[some false,some false],[some false,some false],[some false,some false],[some false,some false],[some true,none],[some true,some false],[some true,some true]] (zP (λw'=>eP w' R rz∧W8.grownBy w' (some R.br)) (λw'=>eP w' R rz.tail∧W8.grownBy w' (some R.br)) (λw'=> ∃w2,(eP w2 R rz.tail∧W8.grownBy w2 (some R.br))∧w'=w2.setCells w.heap.size 0 (qK dz))) (λ_ _=>True) [53,54,55,56,57,58,3] rfl rfl ahS agG agG agG agG agG ahS (λ_=>trivial) ahS ⟨HIP.o.below (below_drewN (au _ _) 1),jL (below_drewN (au _ _) 1)⟩ ?_;simp only[jH,nY];apply bZ.step
 case bL=>intro c A w' hok hC hO hD;obtain⟨x,y,rfl⟩:=hC.bits;obtain⟨rfl,-⟩:=hok;obtain⟨d0,d1,d2,d3,d4,d5⟩:=KD w' (hC.gr (λ_ h=>h.2) (λ_ h=>h.2));have e5:=hO 5 ahS;simp[Act.eval]at e5;simp[Act.eval]at hD;simp[go_sem,gd,Oper.wp,e5,d0,d1,d2,d3,d4,d5];exact aV.mk trivial (zP.skip ahS ahS hC) (cB.mk _ _)
 iterate 3
  apply bZ.step
  case bL=>intro c A w' hok hC hO hD;have e6:=hO 6 ahS;have e0:=hO 0 ahS;simp[Act.eval]at e6 e0;simp[Act.eval]at hD;simp[go_sem,gd,Oper.wp,hD,e6,e0];exact aV.mk trivial (zP.skip ahS ahS hC) (cB.mk _ _)
 apply bZ.step
 case bL=>intro c A w' hok hC hO hD;obtain⟨x,y,rfl⟩:=hC.bits;obtain⟨rfl,rfl,-⟩:=hok;simp[Act.eval]at hD;simp[go_sem,gd,Oper.wp,hD];refine(kX R _ _ ⟨#[59]⟩ rfl h4 hC.1).mono ?_;rintro e w3 ⟨rfl,k2,k3⟩;exact aV.mk trivial (zP.fire ahS ahS ⟨k2,jC hC.2 k3⟩) (cB.mk _ _)
 try simp only[dY]
 apply bZ.step
 case bL=>intro c A w' hok hC hO hD;simp[Act.eval]at hD;simp[go_sem,gd,Oper.wp,hD];exact aV.mk trivial (zP.skip ahS ahS hC) (cB.mk _ _)
 refine bZ.some (λ_ _=>True) (λ_ _ _ _ _=>trivial) ?_ ?_
 ·intro c A w' hok hC hO hD;obtain⟨x,y,rfl⟩:=hC.bits;obtain⟨rfl,rfl,-⟩:=hok;have e2:=hO 2 ahS;simp[Act.eval]at e2;simp[Act.eval]at hD;simp only[gd,if_true];refine wp_store_mid _ _ _ ahS w.heap.size 0 (qK dz).toArray (by simp[Act.eval,e2]) (by simp[Act.eval,hD,qK]) (IK (Pp.o w' hC.2) (aB 6)) Xu aga ?_;exact aV.DY trivial (zP.last ahS ahS ⟨w',hC,rfl⟩) trivial
 apply bZ.step
 case bL=>intro c A w' hok hC hO hD;simp[Act.eval]at hD;simp[go_sem,gd,Oper.wp,hD];exact aV.mk trivial (zP.skip ahS ahS hC) (cB.mk _ _)
 try simp only[dY]
 refine bZ.done ?_;intro w9 hC9
 try simp only[List.drop_succ_cons,List.drop_zero]
 intro x0 h0 x1 h1 x2 h2 x3 h3 x4 h4 x5 h5 x6 h6 x7 h7;have h7':=Eq.symm (show x7=_ from h7);subst h7';clear h0 h1 h2 h3 h4 h5 h6 h7;refine Ei ?_;refine fU rfl ?_;obtain⟨w2,hw2,hw9⟩: ∃w2,(eP w2 R _∧W8.grownBy w2 (some R.br))∧w9=w2.setCells w.heap.size 0 (qK dz):=hC9;have xA:w9.heap[w.heap.size]? =some (.cells (qK dz).toArray 55 (0,0)):=by rw[hw9];exact nC (Pp.o w2 hw2.2) rfl
 have HW9:=ah hw9;obtain⟨y0,y1,y2,y3,y4,y5⟩:=uj xA;have HFN:=ah (aK6 (d:=dz) zU.o.ok hw2.1 (jC Py.o hw2.2) kJ.o.1);rw[<- hw9]at HFN;clear hw9 xA KD;go_simp;go_wp2_with fail;exact bodyPost_ret (v:= .tuple #[Xw dz,.bool true]) (by simp[results,Tryz.results97,go_sem,Xw,y0,y1,y2,y3,y4,y5]) rfl HFN.o
theorem aw3:(Tryz.prog.info? 9).map (λi=>(i.zero,i.size,i.bytes))=some (some (.string ⟨#[]⟩),1,16):=agG
theorem aQ9: ∃i0,Tryz.prog.info? 9=some i0∧i0.zero=some (.string ⟨#[]⟩)∧i0.size=1∧i0.bytes=16:=info_parts aw3
theorem bw8 (k:Int) (s:ByteArray) (n:Int) (w:World):(Instr.field 158 (.agg #[.int .i64 k,.string s,.int .i64 n]) 0).run Tryz.prog w= .ok (.int .i64 k) w:=agG
theorem bw9 (k:Int) (s:ByteArray) (n:Int) (w:World):(Instr.field 158 (.agg #[.int .i64 k,.string s,.int .i64 n]) 1).run Tryz.prog w= .ok (.string s) w:=agG
theorem bx2 (k:Int) (s:ByteArray) (n:Int) (w:World):(Instr.field 158 (.agg #[.int .i64 k,.string s,.int .i64 n]) 2).run Tryz.prog w= .ok (.int .i64 n) w:=agG
def aJ0 (R:Rp) (w:World) (t:Th) (r:bG) (e:Ending) (w':World):Prop:=(∃x:fD,x.t=t∧e= .returned (.tuple #[.agg (fD.f x).toArray,.bool true])∧(x.t.Ok∧x.t.cZ.length<=x.eU)∧ig w.heap.size w' (fD.I x))∧eP w' R r∧w.grownBy w' (some R.br)
def UK:Array Value:= #[.string ⟨#[]⟩,.int .i64 0,.slice none 0 0,.slice none 0 0]
theorem z4t {w:World} {b:Nat} {t:TypeId} (h:w.heap[b]? =some (.cells UK t (0,0))):
 (w.cell? ⟨b,0,none⟩=some (.string ⟨#[]⟩)∧w.cell? ⟨b,1,none⟩=some (.int .i64 0)∧w.cell? ⟨b,2,none⟩=some (.slice none 0 0)∧w.cell? ⟨b,3,none⟩=some (.slice none 0 0))∧∀j,w.frozen? ⟨b,j,none⟩=false:=
 ⟨⟨aQ h rfl,aQ h rfl,aQ h rfl,aQ h rfl⟩,λ_=>bK h⟩
structure Ps (R:Rp) (bt B:Nat) (w W:World) (nm:ByteArray) (line:Int) (v:Value) (l:List ByteArray) (rest:bG):Prop where
 rd:eP W R rest
 gr:w.grownBy W (some R.br)
 lt:R.br<w.heap.size∧w.heap.size<bt∧bt<B∧B<=W.heap.size
 z:W.heap[w.heap.size]? =some (.cells UK 59 (0,0))
 blk:W.heap[bt]? =some (.cells #[.string nm,.int .i64 line,v,.slice none 0 0] 59 (0,0))
 row:jU B W v l
section
variable {R:Rp} {bt B:Nat} {w W W':World} {nm:ByteArray} {line:Int} {v:Value} {l:List ByteArray} {rest rest':bG}
theorem Ps.then (h:Ps R bt B w W nm line v l rest) (h1:eP W' R rest') (h2:W.grownBy W' (some R.br)):Ps R bt B w W' nm line v l rest':=
 ⟨h1,jC h.gr h2,⟨h.lt.1,h.lt.2.1,h.lt.2.2.1,aJ h.lt.2.2.2 h2.size⟩,(h2.block _ (aO h.z) afv).trans h.z,(h2.block _ (aO h.blk) afv).trans h.blk,h.row.next (AL h2 aeT)⟩
theorem Ps.below (h:Ps R bt B w W nm line v l rest) (hb:Below W.heap.size W W'):Ps R bt B w W' nm line v l rest:=h.then (h.rd.below hb) (jL hb)
theorem Ps.cells (h:Ps R bt B w W nm line v l rest):W.cell? ⟨bt,0,none⟩=some (.string nm)∧W.cell? ⟨bt,1,none⟩=some (.int .i64 line)∧W.cell? ⟨bt,2,none⟩=some v∧W.cell? ⟨bt,3,none⟩=some (.slice none 0 0)∧∀j,W.frozen? ⟨bt,j,none⟩=false:=
 ⟨aQ h.blk rfl,aQ h.blk rfl,aQ h.blk rfl,aQ h.blk rfl,λ_=>bK h.blk⟩
theorem Ps.name (h:Ps R bt B w W nm line v l rest) (s:ByteArray):Ps R bt B w (W.setCell ⟨bt,0,none⟩ (.string s)) s line v l rest:=
 ⟨vY h.rd _ _ abh adh,CW h.gr _ _ adt,by have:=h.lt;simpa[World.setCell]using this,(bg W _ _ rfl adn).trans h.z,agj,h.row.next (iL W ⟨bt,0,none⟩ _ h.lt.2.2.1)⟩
theorem Ps.cZ {v':Value} {l':List ByteArray} (h:Ps R bt B w W nm line v l rest) (hr:eP W' R rest) (hg:w.grownBy W' (some R.br)) (hB:Below B W W') (hrow:jU B W' v' l'):Ps R bt B w (W'.setCell ⟨bt,2,none⟩ v') nm line v' l' rest:=
 ⟨vY hr _ _ abh adh,CW hg _ _ adt,abC,(bg W' _ _ rfl adn).trans ((hB.block _ aeT).trans h.z),by rw[dI ((hB.block _ h.lt.2.2.1).trans h.blk)];rfl,hrow.next (iL W' ⟨bt,2,none⟩ _ h.lt.2.2.1)⟩
theorem Ps.TS (h:Ps R bt B w W nm line v l rest) (b:Value): ∀W',W.setCell ⟨bt,3,none⟩ b=W'->eP W' R rest∧w.grownBy W' (some R.br)∧W'.heap[w.heap.size]? =some (.cells UK 59 (0,0))∧W'.heap[bt]? =some (.cells #[.string nm,.int .i64 line,v,b] 59 (0,0)):=by
 intro W' hW;subst hW;exact⟨vY h.rd _ _ abh adh,CW h.gr _ _ adt,(bg W _ _ rfl adn).trans h.z,agj⟩
end
theorem YX {R:Rp} {w W:World} {x:fD} {r:bG} {B:Nat} (hok:x.t.Ok∧x.t.cZ.length<=x.eU) (hst:ig B W (fD.I x)) (hB:w.heap.size<B) (hr:eP W R r) (hg:w.grownBy W (some R.br)) (hl:R.br<w.heap.size):
 aJ0 R w x.t r (.returned (.tuple #[.agg (fD.f x).toArray,.bool true])) (W.setCells w.heap.size 0 (fD.f x)):=
 ⟨⟨x,rfl,rfl,hok,(hst.next ⟨(eD w.heap.size _ 0 W).size,λk h1 h2=>(eD w.heap.size _ 0 W).block k h2 agK⟩).mono (bH hB)⟩,Df hr (eD _ _ _ _) afS agH,xH hg _ _ _ (aB _)⟩
def LzR (r6:bG) (l:List ByteArray) (r:bG):Prop:=
 (at' [41] r6=true∧l=[]∧r=r6.tail)∨(at' [41] r6=false∧isName r6=true∧at' [44] r6.tail=false∧at' [41] r6.tail=true∧l=[tx (bM r6)]∧r=r6.tail.tail)
theorem YZ (R:Rp) (ts r q:bG) (l:List ByteArray) (b:aZ) (w:World) (hI:eP w R ts) (hk:at' [116,104,114,101,97,100] ts=true) (hn:isName ts.tail=true) (h4:at' [40] ts.tail.tail=true) (hl:LzR ts.tail.tail.tail l r) (WB:aj (wE R r b q)):
 Calls Tryz.prog 99 #[.pointer (some ⟨R.br,0,none⟩)] w (aJ0 R w ⟨tx (bM ts.tail),fQ ts,l,b⟩ q):=by
 have HLZ:=ah hl;clear hl;have HI:=ah hI;have HL:=ah (FL hI);have hlt:=hI.lt;obtain⟨t0,r0,hr⟩:=Xe hk;have NP:=ah hr;clear hk hr;have hf2:=bx2;go_enter Tryz.func99,Tryz.ntmps99;go_upto_region 1 with fail;generalize hW:World.alloc w _=W0;have HB0:aj (Below w.heap.size w W0):=ah aeW;have HZ0:aj (W0.heap[w.heap.size]? =some (.cells UK 59 (0,0))):=ah acA;have HN:=ah (rC R ts W0 (HI.o.below HB0.o));unfold yg at HN;clear hW hI;go_wp2_with fail;refine HN.o.mono ?_;rintro e w1 ⟨rfl,h2⟩;have HB1:=ah (HB0.o.trans (h2.mono HB0.o.size));have HZ1:=jV h2 HZ0;clear h2 HN HB0 HZ0;go_upto_region 2 with fail;obtain⟨bt,hg⟩: ∃g,w1.heap.size=g:=⟨_,rfl⟩;rw[hg];generalize hW:World.alloc w1 _=W2;have HB2:aj (Below w.heap.size w W2):=ah aco;have kJ:aj (R.br<w.heap.size∧w.heap.size<bt):=ah ⟨hlt,by rw[<- hg];exact(aO HZ1.o)⟩;have HS2:aj (Ps R bt (bt+1) w W2 ⟨#[]⟩ ((fQ ts:Nat):Int) (.slice none 0 0) [] ts):=ah ⟨HI.o.below HB2.o,jL HB2.o,⟨hlt,kJ.o.2,Nat.lt_succ_self _,ags⟩,abt,aaS,Grow.nil _ _ _ _ _ _⟩;obtain⟨pos,hp,q0,q1,fq,HX⟩:=HS2.o.rd.open;clear hW hg HB1 HZ1 HB2;go_upto_region 3 with fail;generalize hW:World.setCell W2 _ _=W3;have HQ:aj (eP W3 R ts.tail∧W2.grownBy W3 (some R.br)):=ah acZ;have lQ:=ah (HS2.o.then HQ.o.1 HQ.o.2);clear hW q0 q1 fq HX HQ HS2;have yx:aj ((tx (bM ts.tail)).size<=maxLen):=ah (yJ (yO lQ.o.rd.ts hn));go_wp2_with fail;refine(vR R _ _ hn lQ.o.rd).mono ?_;rintro e w4 ⟨rfl,h2,h3⟩;have GN:=ah (lQ.o.then h2 h3);clear h2 h3 lQ;obtain⟨c0,c1,c2,c3,fc⟩:=GN.o.cells;have fc0:=fc 0;go_upto_region 5 with fail;generalize hW:World.setCell w4 _ _=W5;have HS5:aj (Ps R bt (bt+1) w W5 (tx (bM ts.tail)) ((fQ ts:Nat):Int) (.slice none 0 0) [] ts.tail.tail):=ah (by rw[<- hW];exact GN.o.name _);clear hW c0 c1 c2 c3 fc fc0 GN;go_wp2_with fail;refine(kX R _ _ ⟨#[40]⟩ rfl h4 HS5.o.rd).mono ?_;rintro e w6 ⟨rfl,h2,h3⟩;have sH:=ah (HS5.o.then h2 h3);clear h2 h3 HS5;obtain⟨r6,uH⟩: ∃r6,aj (ts.tail.tail.tail=r6):=⟨_,ah rfl⟩;rw[uH.o]at sH HLZ;rcases HLZ.o with⟨h5,hl,hr⟩|⟨h5,hm,h6,h7,hl,hr⟩
 ·subst hl hr;clear HLZ;have G8:aj (([]:List ByteArray).length<=maxLen):=ah (bF _);have dh:aj (∀s∈([]:List ByteArray),s.size<=maxLen):=ah agJ;go_wp2_with fail;refine(kX R _ _ ⟨#[41]⟩ rfl h5 sH.o.rd).mono ?_;rintro e w7 ⟨rfl,h2,h3⟩;have L9:=ah (sH.o.then h2 h3);clear h2 h3 sH;obtain⟨v',PX⟩: ∃v',aj (Ps R bt (bt+1) w _ (tx (bM ts.tail)) ((fQ ts:Nat):Int) v' ([]:List ByteArray) r6.tail):=⟨_,L9⟩;clear L9;go_wp2_with fail;refine(WB.o _ PX.o.rd).mono ?_;rintro e w8 ⟨⟨ao,cap,rfl,hl,hst⟩,h2,h3⟩;have zV:=ah (PX.o.then h2 h3);have qH:aj (b.len<=maxLen∧ig (bt+1) w8 (λw2=>b.At w2 w2.heap.size ao 0)):=ah ⟨aJ hl aeP,hst.mono PX.o.lt.2.2.2⟩;clear h2 h3 hl hst;obtain⟨iU,eU,hv,hcl,htx⟩:=zV.o.row.says dh.o;have HV:=ah hv;have zW:=ah (aI hcl htx);clear hv hcl htx;obtain⟨c0,c1,c2,c3,fc⟩:=zV.o.cells;have fc3:=fc 3;go_upto_region 16 with fail;generalize hW:World.setCell w8 _ _=W9;have EA:=ah (zV.o.TS (.slice ao b.len cap) W9 hW);have KR:aj (kC (bt+1) w8 W9):=ah abl;clear hW c0 c1 c2 c3 fc fc3;obtain⟨e0,e1⟩:=rU EA.o.2.2.2;have e2:W9.cell? ⟨bt,2,none⟩=some (.slice iU (([]:List ByteArray)).length eU):=(aQ EA.o.2.2.2 rfl).trans (congrArg some HV.o);have e3:W9.cell? ⟨bt,3,none⟩=some (.slice ao b.len cap):=aQ EA.o.2.2.2 rfl;obtain⟨⟨y0,y1,y2,y3⟩,fz⟩:=z4t EA.o.2.2.1;have g0:=fz 0;have g1:=fz 1;have g2:=fz 2;have g3:=fz 3;clear fz;go_wp2_with fail;exact bodyPost_ret (v:= .tuple #[.agg (fD.f ⟨⟨tx (bM ts.tail),((fQ ts:Nat):Int),([]:List ByteArray),b⟩,iU,eU,ao,cap⟩).toArray,.bool true]) abA rfl (YX (x:=⟨⟨tx (bM ts.tail),((fQ ts:Nat):Int),([]:List ByteArray),b⟩,iU,eU,ao,cap⟩) (B:=bt+1) ⟨⟨yx.o,HL.o,G8.o,qH.o.1⟩,zW.o.1⟩ (λw2 h2=>⟨zW.o.2 w2 (KR.o.trans h2),qH.o.2 w2 (KR.o.trans h2)⟩) afa EA.o.1 EA.o.2.1 kJ.o.1)
 ·subst hr;clear HLZ;obtain⟨i0,hi,hz0,hz1,hz2⟩:=aQ9;have iA:=ah (aI hi (aI hz0 (aI hz1 hz2)));clear hi hz0 hz1 hz2;go_wp2_with fail;refine(pQ R _ _ ⟨#[41]⟩ rfl h5 sH.o.rd).mono ?_;rintro e w7 ⟨rfl,h2⟩;have L9:=ah (sH.o.below h2);clear h2 sH;go_wp2_with fail;go_loopw [6] (λ_ wr=>wr=w7) (λ_ _=>0)
  case atStart=>rfl
  case round=>
   subst hrel;have UY:aj ((tx (bM r6)).size<=maxLen):=ah (yJ (yO L9.o.rd.ts hm));go_wp2_with fail;refine(vR R _ _ hm L9.o.rd).mono ?_;rintro e w8 ⟨rfl,h2,h3⟩;have zV:=ah (L9.o.then h2 h3);clear h2 h3 L9;obtain⟨c0,c1,c2,c3,fc⟩:=zV.o.cells;go_upto_region 11 with fail;obtain⟨s0,PU⟩: ∃s0,aj (tx (bM r6)=s0):=⟨_,ah rfl⟩;rw[PU.o]at hl UY⊢;have nX:=ah (zV.o.row.next (bS (ak w8 (.cells (sD s0).toArray 9))));have iX:=ah (gP (heap_alloc_new w8 (.cells (sD s0).toArray 9)));obtain⟨hi,hz0,hz1,hz2⟩:=iA.o;have hbs:bt+1<=w8.heap.size+1:=Nat.le_succ_of_le zV.o.lt.2.2.2;have hkl:0+1<=maxLen:=aeS
   have QX:(0+1)*16<=140737488355328:=agH
   have fc2:=fc 2;clear fc;go_wp2_with (at_builtin;refine wpList_append_lies _ rfl _ _ 27 rfl (bt+1) 9 i0 _ 1 16 Tryz.underlying27 hi hz0 hz1 hz2 rfl agI _ _ _ rfl nX.o.own ⟨w8.heap.size,0,none⟩ 1 1 (sD s0) rfl rfl iX.o (by simp[sD,Value.oneCell']) agI hkl QX aeV _ rfl ?_);clear hi hz0 hz1 hz2;intro g cap w9 hown hgr hmv hlt2;have rH:aj (∀k,(Value.slice none 0 0).ownBlock=some k->bt+1<=k):=ah (λk hk=>(zV.o.row.lt k hk).1);have xA:aj (Below (bt+1) (w8.alloc (.cells (sD s0).toArray 9)) w9):=ah (xD hgr rH.o aeV);have qH:aj (Below (bt+1) w8 w9):=ah (((ak w8 (.cells (sD s0).toArray 9)).mono zV.o.lt.2.2.2).trans xA.o);have GR:aj (oK (bt+1) (Value.slice none 0 0).ownBlock (w8.alloc (.cells (sD s0).toArray 9)) (λ_=>True)):=ah (λ_ _=>trivial);have Et:=ah (nX.o.push (x:=s0) GR.o rfl hown hgr afm);have NQ:aj (eP w9 R r6.tail):=ah (Me (Ai zV.o.rd _) hgr (λk hk=>by have h1:=rH.o k hk;have h2:=kJ.o;have h3:=R.b0;omega));have GH:aj (w.grownBy w9 (some R.br)):=ah (LD (Af zV.o.gr _) (xA.o.mono afa));have zu:w9.heap[bt]? =some (.cells #[.string (tx (bM ts.tail)),.int .i64 ((fQ ts:Nat):Int),.slice none 0 0,.slice none 0 0] 59 (0,0)):=(qH.o.block _ (Nat.lt_succ_self _)).trans zV.o.blk;have c2:w9.cell? ⟨bt,2,none⟩=some (.slice none 0 0):=aQ zu rfl;have f2:w9.frozen? ⟨bt,2,none⟩=false:=bK zu;clear hown hgr hmv hlt2 hbs hkl QX GR iX nX xA zu fc2;go_upto_region 12 with fail;generalize hW:World.setCell w9 _ _=Gc;have K5:aj (Ps R bt (bt+1) w Gc (tx (bM ts.tail)) ((fQ ts:Nat):Int) (.slice (some ⟨g,0,none⟩) 1 cap) [s0] r6.tail):=ah (by rw[<- hW];exact zV.o.cZ NQ.o GH.o qH.o Et.o);clear hW c2 f2 zV NQ GH qH Et rH;subst hl;have dh:aj (∀s∈ [s0],s.size<=maxLen):=ah (λy hy=>by rw[List.mem_singleton.1 hy];exact UY.o);have G8:aj ([s0].length<=maxLen):=ah agU;go_wp2_with fail;refine(pQ R _ _ ⟨#[44]⟩ rfl h6 K5.o.rd).mono ?_;rintro e OG ⟨rfl,h2⟩;have ZF:=ah (K5.o.below h2);clear h2 K5;go_wp2_with fail;refine(kX R _ _ ⟨#[41]⟩ rfl h7 ZF.o.rd).mono ?_;rintro e RZ ⟨rfl,h2,h3⟩;have aF9:=ah (ZF.o.then h2 h3);clear h2 h3 ZF;obtain⟨v',PX⟩: ∃v',aj (Ps R bt (bt+1) w _ (tx (bM ts.tail)) ((fQ ts:Nat):Int) v' [s0] r6.tail.tail):=⟨_,aF9⟩;clear aF9;go_wp2_with fail;refine(WB.o _ PX.o.rd).mono ?_;rintro e w8 ⟨⟨ao,cap,rfl,hl,hst⟩,h2,h3⟩;have zV:=ah (PX.o.then h2 h3);have qH:aj (b.len<=maxLen∧ig (bt+1) w8 (λw2=>b.At w2 w2.heap.size ao 0)):=ah ⟨aJ hl aeP,hst.mono PX.o.lt.2.2.2⟩;clear h2 h3 hl hst;obtain⟨iU,eU,hv,hcl,htx⟩:=zV.o.row.says dh.o;have HV:=ah hv;have zW:=ah (aI hcl htx);clear hv hcl htx;obtain⟨c0,c1,c2,c3,fc⟩:=zV.o.cells;have fc3:=fc 3;go_upto_region 16 with fail;generalize hW:World.setCell w8 _ _=W9;have EA:=ah (zV.o.TS (.slice ao b.len cap) W9 hW);have KR:aj (kC (bt+1) w8 W9):=ah abl;clear hW c0 c1 c2 c3 fc fc3;obtain⟨e0,e1⟩:=rU EA.o.2.2.2;have e2:W9.cell? ⟨bt,2,none⟩=some (.slice iU ([s0]).length eU):=(aQ EA.o.2.2.2 rfl).trans (congrArg some HV.o);have e3:W9.cell? ⟨bt,3,none⟩=some (.slice ao b.len cap):=aQ EA.o.2.2.2 rfl;obtain⟨⟨y0,y1,y2,y3⟩,fz⟩:=z4t EA.o.2.2.1;have g0:=fz 0;have g1:=fz 1;have g2:=fz 2;have g3:=fz 3;clear fz;go_wp2_with fail;exact bodyPost_ret (v:= .tuple #[.agg (fD.f ⟨⟨tx (bM ts.tail),((fQ ts:Nat):Int),[s0],b⟩,iU,eU,ao,cap⟩).toArray,.bool true]) abA rfl (YX (x:=⟨⟨tx (bM ts.tail),((fQ ts:Nat):Int),[s0],b⟩,iU,eU,ao,cap⟩) (B:=bt+1) ⟨⟨yx.o,HL.o,G8.o,qH.o.1⟩,zW.o.1⟩ (λw2 h2=>⟨zW.o.2 w2 (KR.o.trans h2),qH.o.2 w2 (KR.o.trans h2)⟩) afa EA.o.1 EA.o.2.1 kJ.o.1)
theorem aw0:(Tryz.prog.info? 55).map (λi=>(i.zero,i.size,i.bytes))=some (some (.agg IV),6,64):=agG
theorem aQ6: ∃i0,Tryz.prog.info? 55=some i0∧i0.zero=some (.agg IV)∧i0.size=6∧i0.bytes=64:=info_parts aw0
theorem aw2:(Tryz.prog.info? 59).map (λi=>(i.zero,i.size,i.bytes))=some (some (.agg UK),4,72):=agG
theorem aQ8: ∃i0,Tryz.prog.info? 59=some i0∧i0.zero=some (.agg UK)∧i0.size=4∧i0.bytes=72:=info_parts aw2
def V9 (R:Rp) (w:World) (res:oJ Pr) (e:Ending) (w':World):Prop:=
 match res with
 | .ok p r=>(∃aK aH aM aG,e= .returned (.tuple #[.agg #[.slice aK p.ds.length aH,.slice aM p.ts.length aG],.bool (!p.ts.isEmpty)])∧(p.ds.length<=4096∧p.ts.length<=4096∧p.ds.length<=aH∧p.ts.length<=aG)∧ig w.heap.size w' (λw2=>jv w2 w2.heap.size p.ds aK 0∧iG w2 w2.heap.size p.ts aM 0))∧eP w' R r∧w.grownBy w' (some R.br)
 | .no r=>(∃a n c a' n' c',e= .returned (.tuple #[.agg #[.slice a n c,.slice a' n' c'],.bool false]))∧eP w' R r∧w.grownBy w' (some R.br)
def Ze:Array Value:= #[.slice none 0 0,.slice none 0 0]
structure Pg (R:Rp) (bp:Nat) (w W:World) (vD vT:Value) (rest:bG):Prop where
 rd:eP W R rest
 gr:w.grownBy W (some R.br)
 lt:R.br<w.heap.size∧w.heap.size<bp∧bp<W.heap.size
 z:W.heap[w.heap.size]? =some (.cells Ze 35 (0,0))
 blk:W.heap[bp]? =some (.cells #[vD,vT] 35 (0,0))
section
variable {R:Rp} {bp:Nat} {w W W':World} {vD vT:Value} {rest rest':bG}
theorem Pg.then (h:Pg R bp w W vD vT rest) (h1:eP W' R rest') (h2:W.grownBy W' (some R.br)):Pg R bp w W' vD vT rest':=
 ⟨h1,jC h.gr h2,⟨h.lt.1,h.lt.2.1,aR h.lt.2.2 h2.size⟩,(h2.block _ (aO h.z) afv).trans h.z,(h2.block _ (aO h.blk) afv).trans h.blk⟩
theorem Pg.below (h:Pg R bp w W vD vT rest) (hb:Below W.heap.size W W'):Pg R bp w W' vD vT rest:=h.then (h.rd.below hb) (jL hb)
theorem Pg.put (h:Pg R bp w W vD vT rest) (hr:eP W' R rest) (hg:w.grownBy W' (some R.br)) (hB:Below (bp+1) W W') (j:Nat) (v vD' vT':Value) (hy:(#[vD,vT]:Array Value).setIfInBounds j v= #[vD',vT']):Pg R bp w (W'.setCell ⟨bp,j,none⟩ v) vD' vT' rest:=
 ⟨vY hr _ _ (by have:=h.lt;have:=R.b0;show R.B0<=bp;omega) (by have:=h.lt;show bp≠R.br;omega),CW hg _ _ (by have:=h.lt;show _<=bp;omega),abC,(bg W' _ _ rfl (by have:=h.lt;show bp≠_;omega)).trans ((hB.block _ aeT).trans h.z),by rw[dI ((hB.block _ (Nat.lt_succ_self _)).trans h.blk),hy]⟩
theorem Pg.cells (h:Pg R bp w W vD vT rest):W.cell? ⟨bp,0,none⟩=some vD∧W.cell? ⟨bp,1,none⟩=some vT∧∀j,W.frozen? ⟨bp,j,none⟩=false:=
 ⟨aQ h.blk rfl,aQ h.blk rfl,λ_=>bK h.blk⟩
end
theorem ax6:(Tryz.prog.info? 35).map (·.size)=some 2:=agG
theorem aU2 {R:Rp} {w W:World} {p:Pr} {aK aM:Option Addr} {aH aG:Nat} {r:bG} {res:oJ Pr} {B:Nat} (e:res= .ok p r) (hl:p.ds.length<=4096∧p.ts.length<=4096∧p.ds.length<=aH∧p.ts.length<=aG)
 (hst:ig B W (λw2=>jv w2 w2.heap.size p.ds aK 0∧iG w2 w2.heap.size p.ts aM 0)) (hB:w.heap.size<B) (hr:eP W R r) (hg:w.grownBy W (some R.br)) (hlt:R.br<w.heap.size):
 V9 R w res (.returned (.tuple #[.agg #[.slice aK p.ds.length aH,.slice aM p.ts.length aG],.bool (!p.ts.isEmpty)])) (W.setCells w.heap.size 0 [.slice aK p.ds.length aH,.slice aM p.ts.length aG]):=by
 subst e;exact⟨⟨aK,aH,aM,aG,rfl,hl,(hst.next ⟨(eD w.heap.size _ 0 W).size,λk h1 h2=>(eD w.heap.size _ 0 W).block k h2 agK⟩).mono (bH hB)⟩,Df hr (eD _ _ _ _) afS agH,xH hg _ _ _ (aB _)⟩
def Bu (P S:World->Prop):List Bool->World->Prop
 | [x],w=>if x then S w else P w
 |_,_=>False
section
variable {P S:World->Prop} {c:List Bool} {w w':World} {k i:Nat}
theorem Bu.bits (h:Bu P S c w): ∃x,c=[x]:=by
 match c,h with
 | [x],_=>exact⟨x,rfl⟩
 | [],h=>exact h.elim
 |_::_::_,h=>exact h.elim
theorem Bu.skip (h1:(k==i)=false) (h:Bu P S c w):Bu P S (jh [k] c i) w:=by
 obtain⟨x,rfl⟩:=h.bits;simp only[jh,h1,Bool.or_false];exact h
theorem Bu.fire (h1:(k==i)=true) (h:S w):Bu P S (jh [k] [false] i) w:=by
 simp only[jh,h1,Bool.or_true];exact h
end
theorem Yk (rest:bG):isDecl rest=((((nextK rest:Nat):Int)==3)&&(qZ (bM rest) != 0)):=by
 unfold isDecl;rw[Ou 3];rfl
theorem kC.aJ9 {B:Nat} {w w1 w2:World} (h:kC B w w1) (hb:Below w.heap.size w1 w2):kC B w w2:=⟨aJ h.1 hb.size,λk h1 h2=>(hb.block k h2).trans (h.2 k h1 h2)⟩
theorem ax4 {R:Rp} {w:World} {ts:bG} {bp:Nat} (hI:eP w R ts) (hg:w.heap.size+1=bp): ∀W,((w.alloc (.cells #[.slice none 0 0,.slice none 0 0] 35)).alloc (.cells #[.slice none 0 0,.slice none 0 0] 35))=W->Pg R bp w W (.slice none 0 0) (.slice none 0 0) ts:=by
 intro W hW;have hb1:Below w.heap.size w (w.alloc (.cells #[.slice none 0 0,.slice none 0 0] 35)):=ak _ _;have hz1:(w.alloc (.cells #[.slice none 0 0,.slice none 0 0] 35)).heap[w.heap.size]? =some (.cells Ze 35 (0,0)):=heap_alloc_new _ _;have hs1:(w.alloc (.cells #[.slice none 0 0,.slice none 0 0] 35)).heap.size=bp:=by simp[hg]
 generalize w.alloc (.cells #[.slice none 0 0,.slice none 0 0] 35)=W1 at *;have hb2:Below w.heap.size w W:=aea
 exact⟨hI.below hb2,jL hb2,⟨hI.lt,agH,ags⟩,by rw[<- hW];exact(heap_alloc_old _ _ (aO hz1)).trans hz1,acu⟩
inductive Dz:bG->List De->bG->Prop
 |nil {ts:bG} :isDecl ts=false->Dz ts [] ts
 |cons {ts q r:bG} {d:De} {m:List De} :isDecl ts=true->isName ts.tail=true->KzR ⟨qZ (bM ts),((fQ ts:Nat):Int),tx (bM ts.tail),0,0,⟨#[]⟩⟩ ts.tail.tail d q->at' [59] q=true->Dz q.tail m r->Dz ts (d::m) r
inductive Tz (S:bG->aZ->bG->Prop):bG->List Th->bG->Prop
 |nil {ts:bG} :at' [116,104,114,101,97,100] ts=false->Tz S ts [] ts
 |cons {ts r q r':bG} {l:List ByteArray} {b:aZ} {m:List Th} :at' [116,104,114,101,97,100] ts=true->isName ts.tail=true->at' [40] ts.tail.tail=true->LzR ts.tail.tail.tail l r->S r b q->Tz S q m r'->Tz S ts (⟨tx (bM ts.tail),fQ ts,l,b⟩::m) r'
theorem VX (R:Rp) (S:bG->aZ->bG->Prop) (PW:aj (∀r b q,S r b q->wE R r b q)) (ts r1 r9:bG) (ds:List De) (th:List Th) (hD:Dz ts ds r1) (hT:Tz S r1 th r9) (hl:ds.length<=4096∧th.length<=4096) (w:World) (hI:eP w R ts):
 Calls Tryz.prog 68 #[.pointer (some ⟨R.br,0,none⟩)] w (V9 R w (.ok ⟨ds,th⟩ r9)):=by
 have HI:=ah hI;have kJ:=ah hI.lt;have HDT:=ah (aI hD hT);have G8:=ah hl;have hf0:=bw8;have hf1:=bw9;clear hI hD hT hl;go_enter Tryz.func68,Tryz.ntmps68;go_upto_block 0 with fail;obtain⟨bp,hg⟩: ∃g,w.heap.size+1=g:=⟨_,rfl⟩;rw[hg];generalize hW:World.alloc (World.alloc w _) _=W0;have WO:aj (Pg R bp w W0 (.slice none 0 0) (.slice none 0 0) ts):=ah (ax4 HI.o hg W0 hW);clear hW hg;go_cut [] (λW'=> ∃vD,Pg R bp w W' vD (.slice none 0 0) r1∧Fe (bp+1) W' vD ds∧(∀d∈ds,d.Ok))
 case first=>
  obtain⟨i0,hi,hz0,hz1,hz2⟩:=aQ6;have iA:=ah (aI hi (aI hz0 (aI hz1 hz2)));clear hi hz0 hz1 hz2;go_wp2_with fail;go_loopg [5,6] ds.length (λgk _ _ wr=> ∃(l m:List De) (rest:bG) (vD:Value),gk=m.length∧Dz rest m r1∧l++m=ds∧Pg R bp w wr vD (.slice none 0 0) rest∧Fe (bp+1) wr vD l∧(∀d∈l,d.Ok))
  case atStart=>exact⟨[],ds,ts,_,rfl,HDT.o.1,rfl,WO.o,Grow.nil _ _ _ _ _ _,agJ⟩
  case round=>
   obtain⟨l,m,rest,vD,rfl,hz,hlm,hs,hg,hok⟩:=hrel;have KV:=ah hlm;have KW:aj (l.length+m.length<=4096):=ah (by have h1:=congrArg List.length hlm;simp only[aA]at h1;have:=G8.o;omega);have HS:=ah hs;have HG:=ah hg;have kK:=ah hok;have HDZ:=ah hz;obtain⟨av,cv,hv⟩:=hg.len;have dh:=ah (λw hI=>rC R rest w hI);unfold yg at dh;have Tf:=ah (λw=>I8 (tx (bM rest)) (l:=bM rest) (Nh _) w);clear hlm hs hg hok hz WO;subst hv;go_upto_region 2 with fail;go_cut [19] (λs19 W'=>s19= .bool (isDecl rest)∧Below wr.heap.size wr W')
   case first=>
    have HE:=ah (Yk rest);generalize isDecl rest=b at *;generalize ((nextK rest:Nat):Int)=k at *;generalize tx (bM rest)=s at *;generalize qZ (bM rest)=dc at *;cases hk:(k==3)
    ·go_wp2_with fail;refine(dh.o _ HS.o.rd).mono ?_;rintro e w1 ⟨rfl,h2⟩;have HB1:=ah h2;clear h2;go_wp2_with fail;go_meet;exact⟨by rw[HE.o,hk];rfl,HB1.o⟩
    ·go_wp2_with fail;refine(dh.o _ HS.o.rd).mono ?_;rintro e w1 ⟨rfl,h2⟩;have HB1:=ah h2;have HR1:=ah (HS.o.rd.below h2);clear h2;go_wp2_with fail;refine(dh.o _ HR1.o).mono ?_;rintro e w2 ⟨rfl,h2⟩;have HB2:=ah (HB1.o.trans (h2.mono HB1.o.size));clear h2;go_wp2_with fail;refine(Tf.o _).mono ?_;rintro e w3 ⟨rfl,rfl⟩;go_wp2_with fail;go_meet;exact⟨by rw[HE.o,hk];rfl,HB2.o⟩
   obtain⟨rfl,hB⟩:=hcut;obtain⟨W1,rfl⟩: ∃W:World,W=wc:=⟨_,rfl⟩;have mU:=ah (HS.o.below hB);have qI:=ah (HG.o.next (bS hB));clear hB HS HG dh Tf;cases HDZ.o with
   |nil hd=>have hq:l=ds:=aeH;subst hq;rw[hd];go_wp2_with fail;go_meet;exact⟨_,mU.o,qI.o,kK.o⟩
   | @cons _ q _ d m hd hn hk h4 hzz=>
     have HC:=ah (MU R rest q d W1 mU.o.rd hd hn hk h4);have NW:=ah hzz;obtain⟨r,HRQ⟩: ∃r,aj (q.tail=r):=⟨_,ah rfl⟩;rw[HRQ.o]at HC NW;rw[hd];clear hn hk h4 hzz HDZ hd;go_wp2_with fail;refine HC.o.mono ?_;clear HC;rintro e w2 ⟨⟨QN,rfl⟩,h2,h3⟩;have HDO:=ah QN;have HS2:=ah (mU.o.then h2 h3);have HG2:=ah (qI.o.next (AL h3 (by have:=mU.o.lt;omega)));clear h2 h3 mU qI QN;unfold Xw;go_upto_region 4 with fail;generalize hW:World.alloc w2 _=W3;obtain⟨gd,hg,-,-,HB3,-⟩:=qD hW;have lQ:aj (Pg R bp w W3 _ _ r):=ah adJ;have Bp:aj (Fe (bp+1) W3 _ l):=ah acn;rw[hg];clear hW hg HS2 HG2;obtain⟨e0,e1,e2,e3,e4,e5⟩:(W3.cell? ⟨gd,0,none⟩=some (.int .i64 d.kind)∧W3.cell? ⟨gd,1,none⟩=some (.int .i64 d.line)∧W3.cell? ⟨gd,2,none⟩=some (.string d.nm)∧W3.cell? ⟨gd,3,none⟩=some (.int .i64 d.size)∧W3.cell? ⟨gd,4,none⟩=some (.int .i64 d.init)∧W3.cell? ⟨gd,5,none⟩=some (.string d.on)):=⟨aQ HB3.o rfl,aQ HB3.o rfl,aQ HB3.o rfl,aQ HB3.o rfl,aQ HB3.o rfl,aQ HB3.o rfl⟩;obtain⟨c0,c1,fc⟩:=lQ.o.cells;clear fc;have nX:=ah (Bp.o.next (bS (ak W3 (.cells (qK d).toArray 55))));have iX:=ah (gP (heap_alloc_new W3 (.cells (qK d).toArray 55)));obtain⟨hi,hz0,hz1,hz2⟩:=iA.o;have hbs:bp+1<=W3.heap.size+1:=(by have:=lQ.o.lt;omega);have hkl:l.length+1<=maxLen:=abI;have aO6:(l.length+1)*64<=140737488355328:=adH;go_wp2_with (at_builtin;refine wpList_append_lies _ rfl _ _ 32 rfl (bp+1) 55 i0 _ 6 64 Tryz.underlying32 hi hz0 hz1 hz2 rfl agI _ _ _ rfl nX.o.own ⟨W3.heap.size,0,none⟩ 1 1 (qK d) rfl rfl iX.o aga agI hkl aO6 aeV _ rfl ?_);clear hi hz0 hz1 hz2;intro g cap w9 hown hgr hmv hlt2;have rH:aj (∀k,(Value.slice av (l).length cv).ownBlock=some k->bp+1<=k):=ah (λk hk=>(Bp.o.lt k hk).1);have xA:aj (Below (bp+1) (W3.alloc (.cells (qK d).toArray 55)) w9):=ah (xD hgr rH.o aeV);have qH:aj (Below (bp+1) W3 w9):=ah (((ak W3 (.cells (qK d).toArray 55)).mono lQ.o.lt.2.2).trans xA.o);have GR:aj (oK (bp+1) (Value.slice av (l).length cv).ownBlock (W3.alloc (.cells (qK d).toArray 55)) (λ_=>True)):=ah (λ_ _=>trivial);have NQ:aj (eP w9 R r):=ah (Me (Ai lQ.o.rd _) hgr (λk hk=>by have h1:=rH.o k hk;have h2:=lQ.o.lt;have h3:=R.b0;omega));have GH:aj (w.grownBy w9 (some R.br)):=ah (LD (Af lQ.o.gr _) (xA.o.mono (by have:=lQ.o.lt;omega)));have zu:w9.heap[bp]? =some (.cells _ 35 (0,0)):=(qH.o.block _ (Nat.lt_succ_self _)).trans lQ.o.blk;have Et:=ah (nX.o.push (x:=d) GR.o rfl hown hgr afm);have c0:w9.cell? ⟨bp,0,none⟩=some (.slice av l.length cv):=aQ zu rfl;have f0:w9.frozen? ⟨bp,0,none⟩=false:=bK zu;clear hown hgr hmv hlt2 hbs hkl aO6 GR iX nX xA zu e0 e1 e2 e3 e4 e5 c1;go_wp2_with fail;generalize hW:World.setCell w9 _ _=Gc;have K5:aj (Pg R bp w Gc (.slice (some ⟨g,0,none⟩) (l.length+1) cap) (.slice none 0 0) r):=ah (by rw[<- hW];exact lQ.o.put NQ.o GH.o qH.o 0 _ _ _ rfl);have Zt:aj (Fe (bp+1) Gc (.slice (some ⟨g,0,none⟩) (l.length+1) cap) (l++[d])):=ah (by rw[<- hW];exact Et.o.next (iL w9 ⟨bp,0,none⟩ _ (Nat.lt_succ_self _)));have HNL:aj (∀y∈l++[d],y.Ok):=ah (λy hy=>by
      rcases List.mem_append.1 hy with hy|hy
      ·exact kK.o y hy
      ·rw[List.mem_singleton.1 hy];exact HDO.o)
     clear hW c0 f0 lQ NQ GH qH Et rH Bp HB3;go_roundg m.length
     case measure=>simp
     case rel=>exact⟨l++[d],m,r,_,rfl,NW.o,by rw[<- KV.o];simp,K5.o,Zt.o,HNL.o⟩
 obtain⟨vD,hP,hG,QN⟩:=hcut;obtain⟨W2,rfl⟩: ∃W:World,W=wc:=⟨_,rfl⟩;obtain⟨aK,aH,hv,Gh,aP8⟩:=hG.says QN;subst hv;have jO:=ah hP;have HD2:=ah (aI Gh aP8);clear hP hG QN Gh aP8 WO;go_upto_block 2 with fail;go_cut [] (λW'=> ∃(lt:List fD) (vT:Value),lt.map (·.t)=th∧Pg R bp w W' (.slice aK ds.length aH) vT r9∧kC (bp+1) W2 W'∧Es W2.heap.size W' vT lt∧(∀x∈lt,x.t.Ok∧x.t.cZ.length<=x.eU))
 case first=>
  obtain⟨i0,hi,hz0,hz1,hz2⟩:=aQ8;have iA:=ah (aI hi (aI hz0 (aI hz1 hz2)));have zT:aj (bp+1<=W2.heap.size∧R.br<bp):=ah (by have:=jO.o.lt;omega);clear hi hz0 hz1 hz2;go_wp2_with fail;go_loopg [7,8] th.length (λgk _ _ wr=> ∃(lt:List fD) (m:List Th) (rs:bG) (vT:Value),gk=m.length∧Tz S rs m r9∧lt.map (·.t)++m=th∧Pg R bp w wr (.slice aK ds.length aH) vT rs∧kC (bp+1) W2 wr∧Es W2.heap.size wr vT lt∧(∀x∈lt,x.t.Ok∧x.t.cZ.length<=x.eU))
  case atStart=>exact⟨[],th,r1,_,rfl,HDT.o.2,rfl,jO.o,kC.refl _ _,Grow.nil _ _ _ _ _ _,agJ⟩
  case round=>
   obtain⟨lt,m,rs,vT,rfl,hz,hlm,hs,ha,hg,hok⟩:=hrel;have KV:=ah hlm;have KW:aj (lt.length+m.length<=4096):=ah (by have h1:=congrArg List.length hlm;simp only[aA,gH]at h1;have:=G8.o;omega);have HS:=ah hs;have HA:=ah ha;have HG:=ah hg;have kK:=ah hok;obtain⟨av,cv,hv⟩:=hg.len;clear hlm hs ha hg hok jO HD2;subst hv;cases hz with
   | @nil rs hd=>have hq:lt.map (·.t)=th:=aeH;go_wp2_with fail;refine(Lm R _ _ ⟨#[116,104,114,101,97,100]⟩ rfl HS.o.rd).mono ?_;rw[hd];rintro e w1 ⟨rfl,h2⟩;have mU:=ah (HS.o.below h2);have qI:=ah (HG.o.next (bS h2));have HA1:=ah (HA.o.trans (bS h2));clear h2;go_wp2_with fail;go_meet;exact⟨lt,_,hq,mU.o,HA1.o,qI.o,kK.o⟩
   | @cons _ rr r r' ll b m hd hn h4 hlz hb hzz=>
     have NW:=ah hzz;have uS:=ah (PW.o _ _ _ hb);have jP:=ah (λw hI=>YZ R rs rr r ll b w hI hd hn h4 hlz uS);obtain⟨tt,HTT⟩: ∃tt:Th,aj ((⟨tx (bM rs.tail),((fQ rs:Nat):Int),ll,b⟩:Th)=tt):=⟨_,ah rfl⟩;rw[HTT.o]at jP KV;clear hn h4 hlz hb hzz uS HTT;go_wp2_with fail;refine(Lm R _ _ ⟨#[116,104,114,101,97,100]⟩ rfl HS.o.rd).mono ?_;rw[hd];rintro e w1 ⟨rfl,h2⟩;have mU:=ah (HS.o.below h2);have qI:=ah (HG.o.next (bS h2));have HA1:=ah (HA.o.trans (bS h2));clear h2 HS HG HA;have HC:=ah (jP.o w1 mU.o.rd);clear jP;go_wp2_with fail;refine HC.o.mono ?_;clear HC;rintro e w2 ⟨⟨x,hxt,rfl,R5,R6⟩,h2,h3⟩;have HXT:=ah hxt;clear hxt;have HXO:=ah R5;have sI:aj (W2.heap.size<=w1.heap.size):=ah HA1.o.1;have HS2:=ah (mU.o.then h2 h3);have HG2:=ah (qI.o.next (AL h3 agx));have HA2:=ah (HA1.o.trans (AL h3 agx));have bq1:=ah qI.o.lt;have oV:=ah R6;clear h2 h3 mU qI HA1 R5 R6;unfold fD.f;go_upto_region 9 with fail;generalize hW:World.alloc w2 _=W3;obtain⟨gd,hg,-,-,HB3,-⟩:=qD hW;have lQ:aj (Pg R bp w W3 _ _ r):=ah adJ;have Bp:aj (Es W2.heap.size W3 _ lt):=ah acn;have Bl:aj (kC (bp+1) W2 W3):=ah (by rw[<- hW];exact HA2.o.trans (bS (ak _ _)));have Cz:aj (ig w1.heap.size W3 (fD.I x)):=ah (by rw[<- hW];exact oV.o.next (bS (ak _ _)));rw[hg];clear hW hg HS2 HG2 HA2 oV;obtain⟨e0,e1,e2,e3⟩:(W3.cell? ⟨gd,0,none⟩=some (.string x.t.nm)∧W3.cell? ⟨gd,1,none⟩=some (.int .i64 x.t.line)∧W3.cell? ⟨gd,2,none⟩=some (.slice x.iU x.t.cZ.length x.eU)∧W3.cell? ⟨gd,3,none⟩=some (.slice x.dB x.t.body.len x.cu)):=⟨aQ HB3.o rfl,aQ HB3.o rfl,aQ HB3.o rfl,aQ HB3.o rfl⟩;obtain⟨c0,c1,fc⟩:=lQ.o.cells;clear fc;have nX:=ah (Bp.o.next (bS (ak W3 (.cells (fD.f x).toArray 59))));have iX:=ah (gP (heap_alloc_new W3 (.cells (fD.f x).toArray 59)));obtain⟨hi,hz0,hz1,hz2⟩:=iA.o;have hbs:W2.heap.size<=W3.heap.size+1:=(by have:=Bl.o.1;omega);have hkl:lt.length+1<=maxLen:=abI;have aO7:(lt.length+1)*72<=140737488355328:=adH;go_wp2_with (at_builtin;refine wpList_append_lies _ rfl _ _ 33 rfl W2.heap.size 59 i0 _ 4 72 Tryz.underlying33 hi hz0 hz1 hz2 rfl agI _ _ _ rfl nX.o.own ⟨W3.heap.size,0,none⟩ 1 1 (fD.f x) rfl rfl iX.o (by simp[fD.f,Value.oneCell']) agI hkl aO7 aeV _ rfl ?_);clear hi hz0 hz1 hz2;intro g cap w9 hown hgr hmv hlt2;have rH:aj (∀k,(Value.slice av lt.length cv).ownBlock=some k->W2.heap.size<=k):=ah (λk hk=>(Bp.o.lt k hk).1);have xA:aj (Below W2.heap.size (W3.alloc (.cells (fD.f x).toArray 59)) w9):=ah (xD hgr rH.o aeV);have qH:aj (Below W2.heap.size W3 w9):=ah (((ak W3 (.cells (fD.f x).toArray 59)).mono Bl.o.1).trans xA.o);have GR:aj (oK W2.heap.size (Value.slice av lt.length cv).ownBlock (W3.alloc (.cells (fD.f x).toArray 59)) (fD.I x)):=ah (RI (Cz.o.next (bS (ak _ _))) sI.o (λk hk=>(bq1.o k hk).2));have NQ:aj (eP w9 R r):=ah (Me (Ai lQ.o.rd _) hgr (λk hk=>by have h1:=rH.o k hk;have h2:=zT.o;have h3:=R.b0;omega));have GH:aj (w.grownBy w9 (some R.br)):=ah (LD (Af lQ.o.gr _) (xA.o.mono (by have h1:=lQ.o.lt;have h2:=zT.o;omega)));have zu:w9.heap[bp]? =some (.cells _ 35 (0,0)):=(qH.o.block _ agx).trans lQ.o.blk;have Et:=ah (nX.o.push (x:=x) GR.o rfl hown hgr afm);have KR:aj (kC (bp+1) W2 w9):=ah (Bl.o.aJ9 qH.o);have c1:w9.cell? ⟨bp,1,none⟩=some (.slice av lt.length cv):=aQ zu rfl;have f1:w9.frozen? ⟨bp,1,none⟩=false:=bK zu;clear hown hgr hmv hlt2 hbs hkl aO7 GR iX nX xA zu e0 e1 e2 e3 c0;go_wp2_with fail;generalize hW:World.setCell w9 _ _=Gc;have K5:aj (Pg R bp w Gc (.slice aK ds.length aH) (.slice (some ⟨g,0,none⟩) (lt.length+1) cap) r):=ah (by rw[<- hW];exact lQ.o.put NQ.o GH.o (qH.o.mono zT.o.1) 1 _ _ _ rfl);have Zt:aj (Es W2.heap.size Gc (.slice (some ⟨g,0,none⟩) (lt.length+1) cap) (lt++[x])):=ah (by rw[<- hW];exact Et.o.next (iL w9 ⟨bp,1,none⟩ _ zT.o.1));have bo3:aj (kC (bp+1) W2 Gc):=ah (by rw[<- hW];exact KR.o.trans (iL w9 ⟨bp,1,none⟩ _ (Nat.lt_succ_self _)));have HNL:aj (∀y∈lt++[x],y.t.Ok∧y.t.cZ.length<=y.eU):=ah (λy hy=>by
      rcases List.mem_append.1 hy with hy|hy
      ·exact kK.o y hy
      ·rw[List.mem_singleton.1 hy];exact HXO.o)
     clear hW c1 f1 lQ NQ GH qH Et rH Bp HB3 KR Bl;go_roundg m.length
     case measure=>simp
     case rel=>exact⟨lt++[x],m,r,_,rfl,NW.o,by rw[<- KV.o,<- HXT.o];simp,K5.o,bo3.o,Zt.o,HNL.o⟩
 obtain⟨lt,vT,hrt,hP,hA,hG,hok⟩:=hcut;obtain⟨W8,rfl⟩: ∃W:World,W=wc:=⟨_,rfl⟩;obtain⟨aM,aG,hv,JM,ac6⟩:=hG.says hok;subst hv;have uV:aj (lt.length=th.length):=ah (by rw[<- hrt,gH]);rw[hrt]at ac6 hP;rw[uV.o]at JM;have zU:=ah hP;have HST:aj (ds.length<=aH∧th.length<=aG∧ig (bp+1) W8 (λw2=>jv w2 w2.heap.size ds aK 0∧iG w2 w2.heap.size th aM 0)):=ah ⟨HD2.o.1,JM,λw2 h2=>⟨HD2.o.2 w2 (hA.trans h2),ac6 w2 (h2.mono jO.o.lt.2.2)⟩⟩;have uU:=G8;clear hP hA hG hok JM ac6 hrt HD2 uV G8 jO;clear hf0 hf1;have HT0:aj (decide ((0:Int)<(th.length:Int))= !th.isEmpty):=ah (by cases th <;> simp);have HWD:aj (Below W8.heap.size W8 (W8.drewN 1)):=ah (below_drewN (au _ _) 1);have KY:=ah (zU.o.below HWD.o);have KP: ∀(x:Bool) w',Bu (λw'=>w'=W8.drewN 1) (λw'=>w'=(W8.drewN 1).setCells w.heap.size 0 [.slice aK ds.length aH,.slice aM th.length aG]) [x] w'->w'.heap[bp]? =some (.cells #[.slice aK ds.length aH,.slice aM th.length aG] 35 (0,0)):=λx w' h=>by
  cases x
  ·have h:w'=_:=h;rw[h];exact KY.o.blk
  ·have h:w'=_:=h;rw[h];exact((eD w.heap.size _ 0 (W8.drewN 1)).block _ KY.o.lt.2.2 (by have:=KY.o.lt;simp;omega)).trans KY.o.blk
 go_upto_region 12 with fail;refine eu agG rfl ?_;refine dD 0 7 [5] [[],[],[1],[1,2],[1,2,3],[0],[0,1,2,3,4,5]] [[some false],[none],[none],[none],[none],[some false],[some true]] (Bu (λw'=>w'=W8.drewN 1) (λw'=>w'=(W8.drewN 1).setCells w.heap.size 0 [.slice aK ds.length aH,.slice aM th.length aG])) (λ_ _=>True) [50,51,52,53,54,3] rfl rfl ahS agG agG agG agG agG ahS (λ_=>trivial) ahS rfl ?_;simp only[jH,nY];apply bZ.step
 case bL=>intro c A w' hok hC hO hD;obtain⟨x,rfl⟩:=hC.bits;have hb:=KP x w' hC;obtain⟨k0,k1⟩:=rU hb;have e4:=hO 4 ahS;simp[Act.eval]at e4;simp[Act.eval]at hD;simp[go_sem,gd,Oper.wp,e4,k0,k1];exact aV.mk trivial (Bu.skip ahS hC) (cB.mk _ _)
 apply bZ.step
 case bL=>intro c A w' hok hC hO hD;have e4:=hO 4 ahS;simp[Act.eval]at e4;simp[Act.eval]at hD;simp[go_sem,gd,Oper.wp,hD,e4];exact aV.mk trivial (Bu.skip ahS hC) (cB.mk _ _)
 apply bZ.step
 case bL=>intro c A w' hok hC hO hD;obtain⟨x,rfl⟩:=hC.bits;have hb:=KP x w' hC;have k1:w'.cell? ⟨bp,1,none⟩=some (.slice aM th.length aG):=aQ hb rfl;simp[Act.eval]at hD;simp[go_sem,gd,Oper.wp,hD,k1];exact aV.mk trivial (Bu.skip ahS hC) (cB.mk _ _)
 apply bZ.step
 case bL=>intro c A w' hok hC hO hD;simp[Act.eval]at hD;simp[go_sem,gd,Oper.wp,hD];exact aV.mk trivial (Bu.skip ahS hC) (cB.mk _ _)
 try simp only[dY]
 refine bZ.step (v:= .bool (!th.isEmpty)) ?_ ?_
 ·intro c A w' hok hC hO hD;simp[Act.eval]at hD;simp[go_sem,gd,Oper.wp,hD];exact aV.mk trivial (Bu.skip ahS hC) (show Value.bool _=_ by rw[<- HT0.o];simp)
 refine bZ.some (λ_ _=>True) (λ_ _ _ _ _=>trivial) ?_ ?_
 ·intro c A w' hok hC hO hD;obtain⟨x,rfl⟩:=hC.bits;obtain⟨rfl,-⟩:=hok;have hC:w'=_:=hC;have e2:=hO 2 ahS;simp[Act.eval]at e2;simp[Act.eval]at hD;simp only[gd,if_true];refine wp_store_mid _ _ _ ahS w.heap.size 0 #[.slice aK ds.length aH,.slice aM th.length aG] (by simp[Act.eval,e2]) afp (by rw[hC];exact IK KY.o.z (aB 2)) ax6 agp ?_;exact aV.DY trivial (Bu.fire ahS (by rw[hC])) trivial
 apply bZ.step
 case bL=>intro c A w' hok hC hO hD;simp[Act.eval]at hD;simp[go_sem,gd,Oper.wp,hD];exact aV.mk trivial (Bu.skip ahS hC) (cB.mk _ _)
 try simp only[dY]
 refine bZ.done ?_;intro w9 hC9
 try simp only[List.drop_succ_cons,List.drop_zero]
 intro x0 h0 x1 h1 x2 h2 x3 h3 x4 h4 x5 h5 x6 h6;have h6':=Eq.symm (show x6=_ from h6);subst h6';clear h0 h1 h2 h3 h4 h5 h6 KP;refine Ei ?_;refine fU rfl ?_;have HW9:aj (w9=(W8.drewN 1).setCells w.heap.size 0 [.slice aK ds.length aH,.slice aM th.length aG]):=ah hC9;have xA:aj (w9.heap[w.heap.size]? =some (.cells #[.slice aK ds.length aH,.slice aM th.length aG] 35 (0,0))):=ah (by rw[HW9.o];exact nC KY.o.z rfl);clear hC9;obtain⟨y0,y1⟩:=rU xA.o;go_simp;go_wp2_with fail;exact bodyPost_ret (v:= .tuple #[.agg #[.slice aK ds.length aH,.slice aM th.length aG],.bool (!th.isEmpty)]) (by simp[results,Tryz.results68,go_sem,y0,y1]) rfl (by rw[HW9.o];exact aU2 rfl ⟨uU.o.1,uU.o.2,HST.o.1,HST.o.2.1⟩ (HST.o.2.2.next (bS HWD.o)) (by have:=KY.o.lt;omega) KY.o.rd KY.o.gr kJ.o)
theorem az3 (t:Tk.Tok):(Tk.Tok.cells t).length=3:=rfl
theorem UF {w:World} {g B:Nat} {ts:bG} (hB:g<B): ∀(l:bG) (k:Nat),(∀i t,l[i]? =some t->∀j u,(Tk.Tok.cells t)[j]? =some u->w.cell? ⟨g,(k+i)*3+j,none⟩=some u)->xU w B l (some ⟨g,0,none⟩) k
 | [],_,_=>trivial
 |t::r,k,h=>by
  have h0:=h 0 t rfl;refine⟨⟨g,0,rfl,hB,?_,?_,?_⟩,UF (ts:=ts) hB r (k+1) (λi t' ht j u hu=>by rw[show k+1+i=k+(i+1) by omega];exact h (i+1) t' (by simpa using ht) j u hu)⟩
  ·have:=h0 0 _ rfl;rw[aU];exact this
  ·have:=h0 1 _ rfl;rw[aU];exact this
  ·have:=h0 2 _ rfl;rw[aU];exact this
theorem Z5 {w:World} {base:Nat} {v:Value} {ts:bG} (h:w.ownsRow base 158 3 v ts.length (Tk.cellsOf ts)): ∃ao cap,v= .slice ao ts.length cap∧xU w w.heap.size ts ao 0:=by
 rcases h.2 with⟨h1,h2⟩|⟨g,cap,cur,h1,hB,hg,hc,-,hs,ht⟩
 ·have:ts=[]:=by
   cases ts with
   |nil=>rfl
   |cons t r=>simp at h2
  subst this;exact⟨none,0,h1,trivial⟩
 ·refine⟨some ⟨g,0,none⟩,cap,h1,UF (ts:=ts) (aO hg) ts 0 (λi t hi j u hu=> ?_)⟩;have hF:=flat_get az3 ts i t j u hi hu;have hF':(Tk.cellsOf ts)[i*3+j]? =some u:=hF;rw[<- ht]at hF';have hlt:=(List.getElem?_eq_some_iff.1 hF').1;rw[List.getElem?_take_of_lt acF]at hF';rw[aU];exact aQ hg (by rw[<- hF'];simp)
def VY (w:World) (ao:Option Addr) (cap:Nat) (ts:bG):Rp:=⟨w.heap.size,w.heap.size,ao,cap,ts,aB _⟩
theorem aU4 {w W:World} {ao:Option Addr} {cap:Nat} {ts:bG} (hW:w.alloc (.cells #[.slice ao ts.length cap,.int .i64 0] 137)=W) (ht:xU w w.heap.size ts ao 0) (ok: ∀t∈ts,EO t) (tl:(∀t∈ts,TL 4097 t)∧ts.length<=4096):eP W (VY w ao cap ts) ts:=by
 subst hW;exact⟨⟨0,bF _,rfl,heap_alloc_new _ _⟩,ht.below (ak _ _),⟨ok,tl.2⟩,tl.1⟩
theorem ZQ (s:ByteArray) (w:World) (eG:dW w) (hm:s.size<=maxLen) (p:Pr) (h0:(Tk.scan s.data.toList).2.1=0) (hsc: ∀t∈(Tk.scan s.data.toList).1,EO t) (htl:(∀t∈(Tk.scan s.data.toList).1,TL 4097 t)∧(Tk.scan s.data.toList).1.length<=4096) (hpr: ∀(R:Rp) (wr:World),eP wr R (Tk.scan s.data.toList).1->Calls Tryz.prog 68 #[.pointer (some ⟨R.br,0,none⟩)] wr (V9 R wr (.ok p []))) (hts:p.ts.isEmpty=false):
 Calls Tryz.prog 43 #[.string s] w λe w'=> ∃aK aH aM aG,e= .returned (.tuple #[.agg #[.slice aK p.ds.length aH,.slice aM p.ts.length aG],.int .i64 0,.int .i64 0])∧p.At w' aK aM∧Below w.heap.size w w':=by
 have jX:=ah eG;have HSC:=ah hsc;have HTL:=ah htl;have HSN:aj (∀w,dW w->Calls Tryz.prog 67 #[.string s] w (Qm w (Tk.scan s.data.toList))):=ah (λw h=>ZT s w h hm);have yY:=ah hpr;clear eG hm hpr hsc htl;generalize Tk.scan s.data.toList=sc at *;go_enter Tryz.func43,Tryz.ntmps43;go_upto_region 1 with fail;generalize hW:World.alloc w _=W0;have HB0:aj (Below w.heap.size w W0):=ah aeW;have HZ0:aj (W0.heap[w.heap.size]? =some (.cells Ze 35 (0,0))):=ah acA;clear hW;go_wp2_with fail;refine(HSN.o _ (jX.o.same HB0.o)).mono ?_;rintro e w1 ⟨v,rfl,hown,hb⟩;obtain⟨ao,cap,rfl,htk⟩:=Z5 hown;have TB:=ah htk;have HB1:=ah (HB0.o.trans (hb.mono HB0.o.size));have HZ1:=jV hb HZ0;clear hown hb htk HSN HB0 HZ0;obtain⟨y0,y1⟩:=rU HZ1.o;have f0:w1.frozen? ⟨w.heap.size,0,none⟩=false:=bK HZ1.o;have f1:w1.frozen? ⟨w.heap.size,1,none⟩=false:=bK HZ1.o;have hlt:w.heap.size<w1.heap.size:=(aO HZ1.o);have aG5:=HTL;rw[h0];go_upto_region 5 with fail;generalize hW:World.alloc w1 _=W1;have HR1:=ah (aU4 hW TB.o HSC.o aG5.o);have HB2:aj (Below w.heap.size w W1):=ah (by rw[<- hW];exact HB1.o.trans ((ak w1 _).mono HB1.o.size));have HZ2:aj (W1.heap[w.heap.size]? =some (.cells Ze 35 (0,0))):=ah (by rw[<- hW];exact((ak w1 _).block _ hlt).trans HZ1.o);clear hW y0 y1 f0 f1 HTL HSC jX TB aG5 HB1 HZ1;go_wp2_with fail;refine(yY.o _ _ HR1.o).mono ?_;rintro e w2 ⟨⟨a,c,a',c',rfl,hl,hst⟩,h1,h2⟩;rw[hts];obtain⟨r,HRN⟩: ∃r:bG,aj (([]:bG)=r):=⟨_,ah rfl⟩;rw[HRN.o]at h1;obtain⟨n,HN⟩: ∃n,aj (p.ds.length=n):=⟨_,ah rfl⟩;obtain⟨n',HN'⟩: ∃n,aj (p.ts.length=n):=⟨_,ah rfl⟩;rw[HN.o,HN'.o]at hl⊢;have HP:=ah (aI hl hst);go_upto_region 6 with fail;generalize hW:World.alloc w2 _=W3;have HG:=ah h2;have HB3:aj (Below w.heap.size w W3):=ah (by rw[<- hW];exact(HB2.o.trans (cK h2 (bH hlt) HB2.o.size)).trans ((ak w2 _).mono (aJ HB2.o.size h2.size)));have UM:aj (Below w2.heap.size w2 W3):=ah (by rw[<- hW];exact ak w2 _);have HR3:aj (eP W3 (VY w1 ao cap sc.1) r):=ah (h1.below UM.o);have HZ3:aj (W3.heap[w.heap.size]? =some (.cells Ze 35 (0,0))):=ah (by have k1:=(aO HZ2.o);exact(UM.o.block _ (aR k1 h2.size)).trans ((h2.block _ k1 (by simp[VY];omega)).trans HZ2.o));have HD3:aj (W3.heap[w2.heap.size]? =some (.cells #[.slice a n c,.slice a' n' c'] 35 (0,0))):=ah acA;obtain⟨pos,hpos,hdrop,c0,c1⟩:=HR3.o.pos;have c0:W3.cell? ⟨w1.heap.size,0,none⟩=some (.slice ao sc.1.length cap):=c0;have c1:W3.cell? ⟨w1.heap.size,1,none⟩=some (.int .i64 (pos:Int)):=c1;have hpos:pos<=sc.1.length:=hpos;have hdrop:sc.1.drop pos=r:=hdrop;have hlt3:w.heap.size<W3.heap.size:=(aO HZ3.o);have hq: ¬pos<sc.1.length:=by rw[<- HRN.o]at hdrop;have:=List.drop_eq_nil_iff.1 hdrop;omega
 have hltW:w.heap.size<W1.heap.size:=(aO HZ2.o);clear hW h1 h2 hl hst yY HR1 HZ2 hpos hdrop;go_quiet (fail);generalize um:World.drewN W3 _=W4;have dR:aj (Below W3.heap.size W3 W4):=ah (by rw[<- um];exact below_drewN (au _ _) _);clear um;have za:=ah ((dR.o.block _ hlt3).trans HZ3.o);have HD4:=jV dR.o HD3;obtain⟨y0,y1⟩:=rU za.o;have f0:W4.frozen? ⟨w.heap.size,0,none⟩=false:=bK za.o;have f1:W4.frozen? ⟨w.heap.size,1,none⟩=false:=bK za.o;obtain⟨d0,d1⟩:=rU HD4.o;have D7:w.heap.size<W4.heap.size:=(aO za.o);go_wp2_with fail;obtain⟨hl,hst⟩:=HP.o;have hfin:kC W1.heap.size w2 ((W4.setCell ⟨w.heap.size,0,none⟩ (.slice a n c)).setCell ⟨w.heap.size,1,none⟩ (.slice a' n' c')):=
  ((bS (B:=W1.heap.size) (UM.o.trans (dR.o.mono UM.o.size))).trans (iL W4 _ _ hltW)).trans (iL _ _ _ hltW)
 have hat:=(hst.next hfin).now;exact bodyPost_ret (v:= .tuple #[.agg #[.slice a n c,.slice a' n' c'],.int .i64 0,.int .i64 0]) (by simp[results,Tryz.results43,go_sem,y0,y1,D7]) rfl ⟨a,c,a',c',by rw[HN.o,HN'.o],⟨by rw[HN.o];unfold maxLen;omega,by rw[HN'.o];unfold maxLen;omega,hat⟩,pU (pU (HB3.o.trans (dR.o.mono HB3.o.size)) _ _ (aB _)) _ _ (aB _)⟩
def RB:List UInt8:=[118,97,114,32,120,32,61,32,50,59,32,118,97,114,32,113,91,50,93,59,32,109,117,116,101,120,32,109,59,32,99,111,110,100,32,99,32,109,59,32,114,119,108,111,99,107,32,114,59,32,102,117,116,117,114,101,32,102,59,32,116,104,114,101,97,100,32,116,40,97,41,32,123,32,108,111,99,107,32,109,32,123,32,120,32,61,32,113,91,97,93,59,32,125,32,125,32,116,104,114,101,97,100,32,117,40,41,32,123,32,125]
theorem src_ok: ∀t∈(Tk.scan RB).1,EO t:=by
 unfold EO;decide+kernel
theorem aV5:(∀t∈(Tk.scan RB).1,TL 4097 t)∧(Tk.scan RB).1.length<=4096:=by
 unfold TL;decide+kernel
def K (k:Nat):bG:=(Tk.scan RB).1.drop k
theorem fJ (k:Nat):(K k).tail=K (k+1):=by unfold K;rw[List.tail_drop]
def nK (k:Nat):ByteArray:=tx (bM (K k))
def dK (k:Nat) (size init:Int) (on:ByteArray):De:=⟨qZ (bM (K k)),((fQ (K k):Nat):Int),nK (k+1),size,init,on⟩
theorem J8 (k j:Nat) {d:De} {m:List De} {r:bG} (h1:isDecl (K k)=true) (h2:isName (K (k+1))=true) (h3:KzR (dK k 0 0 ⟨#[]⟩) (K (k+2)) d (K j)) (h4:at' [59] (K j)=true) (h5:Dz (K (j+1)) m r):Dz (K k) (d::m) r:=
 Dz.cons h1 (by rw[fJ];exact h2) (by rw[fJ,fJ];exact h3) h4 (by rw[fJ];exact h5)
theorem aV4:Dz (K 0) [dK 0 0 2 ⟨#[]⟩,dK 5 2 0 ⟨#[]⟩,dK 11 0 0 ⟨#[]⟩,dK 14 0 0 (nK 16),dK 18 0 0 ⟨#[]⟩,dK 21 0 0 ⟨#[]⟩] (K 24):=
 J8 0 4 agG agG (.inl ⟨agG,dK 0 0 0 ⟨#[]⟩,K 2,agG,agG,agG⟩) agG <|
 J8 5 10 agG agG (.inl ⟨agG,dK 5 2 0 ⟨#[]⟩,K 10,agG,agG,agG⟩) agG <|
 J8 11 13 agG agG (.inr (.inr ⟨⟨agG,agG,agG⟩,rfl,rfl⟩)) agG <|
 J8 14 17 agG agG (.inr (.inl ⟨⟨agG,agG,agG⟩,agG,rfl,(fJ 16).symm⟩)) agG <|
 J8 18 20 agG agG (.inr (.inr ⟨⟨agG,agG,agG⟩,rfl,rfl⟩)) agG <|
 J8 21 23 agG agG (.inr (.inr ⟨⟨agG,agG,agG⟩,rfl,rfl⟩)) agG <|
 Dz.nil agG
theorem noop {r:bG} (h:(nextK r==4&&(xQ (bM r)).1 != 0)=false):Qe r:=λlv=>by
 unfold opAt;split
 ·rename_i h2;simp only[aP]at h2;rw[h2.1,Bool.true_and]at h;simpa using h
 ·rfl
theorem bw7:Ez (K 37) ⟨2,0,nK 37,.nil⟩ (K 38):=by
 have h:=Ez.nm (ts:=K 37) agG afj adX;rw[fJ]at h;exact h
theorem bw6:Ez (K 35) (Ul (nK 35) ⟨2,0,nK 37,.nil⟩) (K 39):=by
 have h:=Ez.ix (ts:=K 35) (r:=K 38) (x:=⟨2,0,nK 37,.nil⟩) agG afj (by rw[fJ,fJ];exact bw7) agG adX;rw[fJ]at h;exact h
def sA:Sx:=⟨dF.ex {hd 1 ((fQ (K 33):Nat):Int)with nm:=nK 33} (Ul (nK 35) ⟨2,0,nK 37,.nil⟩),.nil,.nil⟩
def sL:Sx:=⟨{hd 4 ((fQ (K 30):Nat):Int)with nm:=nK 31},BK [sA],.nil⟩
theorem bA3 (R:Rp):EN R (K 33) sA (K 40):=by
 have h:=az0 R (K 33) (K 39) (Ul (nK 35) ⟨2,0,nK 37,.nil⟩) agG afj afj (by rw[fJ,fJ];exact bw6) agG;rw[fJ]at h;exact h
theorem bu0 (R:Rp):wE R (K 32) (BK [sA]) (K 41):=
 K8 R (λts y r=>ts=K 33∧y=sA∧r=K 40) (ah (λq y r ⟨e1,e2,e3⟩=>by subst e1 e2 e3;exact bA3 R)) (K 32) (K 41) [sA] agG (by rw[fJ];have h:=Lz.nil (S:=λts y r=>ts=K 33∧y=sA∧r=K 40) (ts:=K 40) agG;rw[fJ]at h;exact Lz.cons agG ⟨rfl,rfl,rfl⟩ h) agI
theorem bA4 (R:Rp):EN R (K 30) sL (K 41):=by
 have h:=ai1 R (K 30) (K 41) (BK [sA]) agG agG afj (ah (by rw[fJ,fJ];exact bu0 R));rw[fJ]at h;exact h
theorem bu1 (R:Rp):wE R (K 29) (BK [sL]) (K 42):=
 K8 R (λts y r=>ts=K 30∧y=sL∧r=K 41) (ah (λq y r ⟨e1,e2,e3⟩=>by subst e1 e2 e3;exact bA4 R)) (K 29) (K 42) [sL] agG (by rw[fJ];have h:=Lz.nil (S:=λts y r=>ts=K 30∧y=sL∧r=K 41) (ts:=K 41) agG;rw[fJ]at h;exact Lz.cons agG ⟨rfl,rfl,rfl⟩ h) agI
theorem bu2 (R:Rp):wE R (K 46) (BK []) (K 48):=
 K8 R (λ_ _ _=>False) (ah (λ_ _ _ h=>h.elim)) (K 46) (K 48) [] agG (by rw[fJ];have h:=Lz.nil (S:=λ_ _ _=>False) (ts:=K 47) agG;rw[fJ]at h;exact h) agI
def Ws (r:bG) (b:aZ) (q:bG):Prop:=(r=K 29∧b=BK [sL]∧q=K 42)∨(r=K 46∧b=BK []∧q=K 48)
def nO:Pr:=⟨[dK 0 0 2 ⟨#[]⟩,dK 5 2 0 ⟨#[]⟩,dK 11 0 0 ⟨#[]⟩,dK 14 0 0 (nK 16),dK 18 0 0 ⟨#[]⟩,dK 21 0 0 ⟨#[]⟩],[⟨nK 25,fQ (K 24),[nK 27],BK [sL]⟩,⟨nK 43,fQ (K 42),[],BK []⟩]⟩
theorem aV6:Tz Ws (K 24) nO.ts (K 48):=by
 have h2:=Tz.cons (S:=Ws) (ts:=K 42) (r:=K 46) (q:=K 48) (r':=K 48) (l:=[]) (b:=BK []) (m:=[]) agG afj (by rw[fJ,fJ];kernel_rfl) (by rw[fJ,fJ,fJ];exact .inl ⟨agG,rfl,(fJ 45).symm⟩) (.inr ⟨rfl,rfl,rfl⟩) (Tz.nil agG);have h1:=Tz.cons (S:=Ws) (ts:=K 24) (r:=K 29) (q:=K 42) (r':=K 48) (l:=[nK 27]) (b:=BK [sL]) agG afj (by rw[fJ,fJ];kernel_rfl) (by rw[fJ,fJ,fJ];exact .inr ⟨agG,agG,afj,afj,rfl,by rw[fJ,fJ]⟩) (.inl ⟨rfl,rfl,rfl⟩) h2;rw[fJ,fJ]at h1;exact h1
theorem ag5 (R:Rp) (wr:World) (hI:eP wr R (Tk.scan RB).1):Calls Tryz.prog 68 #[.pointer (some ⟨R.br,0,none⟩)] wr (V9 R wr (.ok nO [])):=by
 have h:=VX R Ws (ah (λr b q h=>by
  rcases h with⟨e1,e2,e3⟩|⟨e1,e2,e3⟩ <;> subst e1 e2 e3
  ·exact bu1 R
  ·exact bu2 R)) (K 0) (K 24) (K 48) nO.ds nO.ts aV4 aV6 agI wr hI
 have e:K 48=[]:=agG
 rw[e]at h;exact h
end Go.Proofs.YtdoplekppjkkpaaGreatDoor
