/- Declarations of the fixed program: a declaration under way; size and initial. And what hangs on it. -/
import Derived.Test.YtkmllehjemjgpaaGreatDoorGRB
import Derived.Test.YtkmllehjemjgpaaGreatDoorGMB
import Derived.Deep.MidRow
import Derived.Deep.CutBlock
set_option linter.unusedSimpArgs false
set_option linter.unusedVariables false
set_option maxHeartbeats 40000000
set_option maxRecDepth 1000000
namespace Go.Proofs.YtkmllehjemjgpaaGreatDoor
open Go.RowKit
open Md Pz
theorem Yn {x:List UInt8} {r:aO} (h:at' x r=true):need x r= .ok () r.tail:=by unfold need;rw[if_pos h]
theorem Ym {x:List UInt8} {r:aO} (h:at' x r=false):need x r= .no r:=by unfold need;rw[if_neg (by rw[h];decide)]
structure Pd (R:Rp) (bd:Nat) (w:World) (d:De) (rest:aO):Prop where
 rd:dM w R rest
 ne:bd≠R.br
 b0:R.B0<=bd
 blk:w.heap[bd]? =some (.cells (rV d).toArray 75 (0,0))
 ok:d.Ok
section
variable {R:Rp} {bd:Nat} {w W W':World} {d:De} {rest rest':aO}
theorem Pd.lt (h:Pd R bd W d rest):bd<W.heap.size:=(Array.getElem?_eq_some_iff.1 h.blk).1
theorem Pd.then (h:Pd R bd W d rest) (h1:dM W' R rest') (h2:W.grownBy W' (some R.br)):Pd R bd W' d rest':=
 ⟨h1,h.ne,h.b0,(h2.block _ h.lt (by simp;exact h.ne)).trans h.blk,h.ok⟩
theorem Pd.below (h:Pd R bd W d rest) (hb:Below W.heap.size W W'):Pd R bd W' d rest:=h.then (h.rd.below hb) (iR hb)
theorem Pd.put (h:Pd R bd W d rest) (j:Nat) (v:Value) {y:De} (hy:(rV d).toArray.setIfInBounds j v=(rV y).toArray) (hok:y.Ok):Pd R bd (W.setCell ⟨bd,j,none⟩ v) y rest:=
 ⟨tu h.rd _ v h.b0 h.ne,h.ne,h.b0,by rw[eZ h.blk,hy],hok⟩
theorem Pd.nm (h:Pd R bd W d rest) (s:ByteArray) (hs:s.size<=maxLen):Pd R bd (W.setCell ⟨bd,2,none⟩ (.string s)) {d with nm:=s} rest:=
 h.put 2 _ rfl ⟨h.ok.1,h.ok.2.1,hs,h.ok.2.2.2⟩
theorem Pd.size (h:Pd R bd W d rest) (n:Int) (hn:fD n):Pd R bd (W.setCell ⟨bd,3,none⟩ (.int .i64 n)) {d with size:=n} rest:=
 h.put 3 _ rfl ⟨h.ok.1,h.ok.2.1,h.ok.2.2.1,hn,h.ok.2.2.2.2⟩
theorem Pd.init (h:Pd R bd W d rest) (n:Int) (hn:fD n):Pd R bd (W.setCell ⟨bd,4,none⟩ (.int .i64 n)) {d with init:=n} rest:=
 h.put 4 _ rfl ⟨h.ok.1,h.ok.2.1,h.ok.2.2.1,h.ok.2.2.2.1,hn,h.ok.2.2.2.2.2⟩
theorem Pd.on (h:Pd R bd W d rest) (s:ByteArray) (hs:s.size<=maxLen):Pd R bd (W.setCell ⟨bd,5,none⟩ (.string s)) {d with on:=s} rest:=
 h.put 5 _ rfl ⟨h.ok.1,h.ok.2.1,h.ok.2.2.1,h.ok.2.2.2.1,h.ok.2.2.2.2.1,hs⟩
theorem Pd.cell (h:Pd R bd W d rest) {j:Nat} {u:Value} (hu:(rV d).toArray[j]? =some u):W.cell? ⟨bd,j,none⟩=some u:=au h.blk hu
theorem Pd.free (h:Pd R bd W d rest) (j:Nat):W.frozen? ⟨bd,j,none⟩=false:=bG h.blk
end
def Z5 (R:Rp) (bd:Nat) (w:World) (res:nE De) (e:Ending) (w':World):Prop:=
 match res with
 | .ok d r=>e= .returned (.bool true)∧Pd R bd w' d r∧Fr R.br bd w w'
 | .no r=>e= .returned (.bool false)∧(∃d,Pd R bd w' d r)∧Fr R.br bd w w'
theorem Me {R:Rp} {bd:Nat} {w W:World} {res:nE De} {d:De} {r:aO} (e:res= .ok d r) (h:Pd R bd W d r) (hf:Fr R.br bd w W):Z5 R bd w res (.returned (.bool true)) W:=by subst e;exact⟨rfl,h,hf⟩
theorem Fr.ZE {br bs:Nat} {w w1 w2:World} (h:Fr br bs w w1) (k:w1.grownBy w2 (some br)):Fr br bs w w2:=h.trans (Fr.rY k)
theorem YH {d:De} {ts:aO} (h:at' [91] ts=false):xq d ts= .ok d ts:=by unfold xq;rw[if_neg (by rw[h];decide)]
theorem YG {d:De} {ts:aO} (h:at' [91] ts=true) (h1:isNum ts.tail=false):xq d ts= .no ts.tail:=by unfold xq;rw[if_pos h,if_neg (by rw[h1];decide)]
theorem ae7 {d:De} {ts:aO} (h:at' [91] ts=true) (h1:isNum ts.tail=true) (h2:(Tk.val (aQ ts.tail)==0)=true):xq d ts= .no ts.tail:=by unfold xq;rw[if_pos h,if_pos h1,if_pos h2]
theorem Ri {d:De} {ts:aO} (h:at' [91] ts=true) (h1:isNum ts.tail=true) (h2:(Tk.val (aQ ts.tail)==0)=false):xq d ts=(need [93] ts.tail.tail).map λ_=> {d with size:=(Tk.val (aQ ts.tail):Nat)} :=by unfold xq;rw[if_pos h,if_pos h1,if_neg (by rw[h2];decide)]
theorem ad4 {d:De} {ts:aO} (h:at' [61] ts=false):yD d ts= .ok d ts:=by unfold yD;rw[if_neg (by rw[h];decide)]
theorem XZ {d:De} {ts:aO} (h:at' [61] ts=true) (h1:at' [45] ts.tail=false) (h2:isNum ts.tail=false):yD d ts= .no ts.tail:=by unfold yD;rw[if_pos h,if_neg (by rw[h1];decide),if_neg (by rw[h2];decide)]
theorem Ya {d:De} {ts:aO} (h:at' [61] ts=true) (h1:at' [45] ts.tail=false) (h2:isNum ts.tail=true):yD d ts= .ok {d with init:=(Tk.val (aQ ts.tail):Nat)} ts.tail.tail:=by unfold yD;rw[if_pos h,if_neg (by rw[h1];decide),if_pos h2]
theorem ae8 (R:Rp) (bd:Nat) (ts r:aO) (d d':De) (w:World) (hp:Pd R bd w d ts) (h:xq d ts= .ok d' r):
 Calls Tryz.prog 141 #[.pointer (some ⟨R.br,0,none⟩),.pointer (some ⟨bd,0,none⟩)] w (Z5 R bd w (.ok d' r)):=by
 have HP:=ah hp;clear hp;cases h1:at' [91] ts
 ·rw[YH h1]at h;injection h with e1 e2;subst e1 e2;go_enter Tryz.func141,Tryz.ntmps141;go_wp2_with fail;refine(ow R _ _ ⟨#[91]⟩ rfl h1 HP.o.rd).mono ?_;rintro e w1 ⟨rfl,h2⟩;have iW:=ah (HP.o.below h2);have HF:=ah (Fr.rY (br:=R.br) (bs:=bd) (iR h2));clear h2;go_wp2_with fail;go_ret;exact Me rfl iW.o HF.o
 ·cases h2:isNum ts.tail
  ·rw[YG h1 h2]at h;cases h
  cases h3:(Tk.val (aQ ts.tail)==0)
  case true=>rw[ae7 h1 h2 h3]at h;cases h
  cases h4:at' [93] ts.tail.tail
  ·rw[Ri h1 h2 h3,Ym h4]at h;cases h
  rw[Ri h1 h2 h3,Yn h4]at h;have HV:aj (fD ((Tk.val (aQ ts.tail):Nat):Int)):=ah (by have:=Vv HP.o.rd.ts.tail h2;unfold fD;omega);have h3':(((Tk.val (aQ ts.tail):Nat):Int)==0)=false:=by rw[beq_eq_false_iff_ne]at h3⊢;omega
  have h':nE.ok {d with size:=((Tk.val (aQ ts.tail):Nat):Int)} ts.tail.tail.tail=nE.ok d' r:=h;injection h' with e1 e2;subst e1 e2;clear h;go_enter Tryz.func141,Tryz.ntmps141;go_wp2_with fail;refine(jN R _ _ ⟨#[91]⟩ rfl h1 HP.o.rd).mono ?_;rintro e w1 ⟨rfl,k2,k3⟩;have iW:=ah (HP.o.then k2 k3);have yE:=ah (Fr.rY (bs:=bd) k3);clear k2 k3;go_wp2_with fail;refine(Ra R _ _ h2 iW.o.rd).mono ?_;rintro e w2 ⟨rfl,k2,k3⟩;have fU:=ah (iW.o.then k2 k3);have xI:=ah (yE.o.ZE k3);clear k2 k3;have c3:=fU.o.cell (j:=3) rfl;have f3:=fU.o.free 3;go_upto_region 10 with fail;generalize hW:World.setCell w2 _ _=W;have ng:aj (Pd R bd W {d with size:=(Tk.val (aQ ts.tail):Nat)} ts.tail.tail):=ah (by rw[<- hW];exact fU.o.size _ HV.o);have zi:aj (Fr R.br bd w W):=ah (by rw[<- hW];exact xI.o.set _ _ (.inl rfl));clear hW c3 f3 fU xI;go_wp2_with fail;refine(jN R _ _ ⟨#[93]⟩ rfl h4 ng.o.rd).mono ?_;rintro e w4 ⟨rfl,k2,k3⟩;have pE:=ah (ng.o.then k2 k3);have Mx:=ah (zi.o.ZE k3);clear k2 k3;go_wp2_with fail;go_ret;exact Me rfl pE.o Mx.o
theorem Sw (R:Rp) (bd:Nat) (ts r:aO) (d d':De) (w:World) (hp:Pd R bd w d ts) (hm:at' [45] ts.tail=false) (h:yD d ts= .ok d' r):
 Calls Tryz.prog 142 #[.pointer (some ⟨R.br,0,none⟩),.pointer (some ⟨bd,0,none⟩)] w (Z5 R bd w (.ok d' r)):=by
 have HP:=ah hp;clear hp;cases h1:at' [61] ts
 ·rw[ad4 h1]at h;injection h with e1 e2;subst e1 e2;go_enter Tryz.func142,Tryz.ntmps142;go_wp2_with fail;refine(ow R _ _ ⟨#[61]⟩ rfl h1 HP.o.rd).mono ?_;rintro e w1 ⟨rfl,h2⟩;have iW:=ah (HP.o.below h2);have HF:=ah (Fr.rY (br:=R.br) (bs:=bd) (iR h2));clear h2;go_wp2_with fail;go_ret;exact Me rfl iW.o HF.o
 ·cases h2:isNum ts.tail
  ·rw[XZ h1 hm h2]at h;cases h
  rw[Ya h1 hm h2]at h;injection h with e1 e2;subst e1 e2;have HV:aj (fD ((Tk.val (aQ ts.tail):Nat):Int)):=ah (by have:=Vv HP.o.rd.ts.tail h2;unfold fD;omega);go_enter Tryz.func142,Tryz.ntmps142;go_wp2_with fail;refine(jN R _ _ ⟨#[61]⟩ rfl h1 HP.o.rd).mono ?_;rintro e w1 ⟨rfl,k2,k3⟩;have iW:=ah (HP.o.then k2 k3);have yE:=ah (Fr.rY (bs:=bd) k3);clear k2 k3;go_wp2_with fail;refine(ow R _ _ ⟨#[45]⟩ rfl hm iW.o.rd).mono ?_;rintro e w1 ⟨rfl,k2⟩;have fU:=ah (iW.o.below k2);have xI:=ah (yE.o.ZE (iR k2));clear k2;go_wp2_with fail;refine(Ra R _ _ h2 fU.o.rd).mono ?_;rintro e w2 ⟨rfl,k2,k3⟩;have ng:=ah (fU.o.then k2 k3);have zi:=ah (xI.o.ZE k3);clear k2 k3;have c4:=ng.o.cell (j:=4) rfl;have f4:=ng.o.free 4;go_wp2_with fail;go_ret;exact Me rfl (ng.o.init _ HV.o) (zi.o.set _ _ (.inl rfl))
theorem BP {w:World} {K:Act->Prop} {a:Act} (h:K a):dA w K [] a:=h
def UC (d:De):Value:= .agg #[.int .i64 d.kind,.int .i64 d.line,.string d.nm,.int .i64 d.size,.int .i64 d.init,.string d.on]
def ag6 (R:Rp) (w:World) (d:De) (r:aO) (e:Ending) (w':World):Prop:=(d.Ok∧e= .returned (.tuple #[UC d,.bool true]))∧dM w' R r∧w.grownBy w' (some R.br)
def FL:Array Value:= #[.int .i64 0,.int .i64 0,.string ⟨#[]⟩,.int .i64 0,.int .i64 0,.string ⟨#[]⟩]
theorem Uz:(Tryz.prog.info? 75).map (·.size)=some 6:=by kernel_rfl
theorem z6 {w:World} {b:Nat} {t:TypeId} (h:w.heap[b]? =some (.cells FL t (0,0))):
 (w.cell? ⟨b,0,none⟩=some (.int .i64 0)∧w.cell? ⟨b,1,none⟩=some (.int .i64 0)∧w.cell? ⟨b,2,none⟩=some (.string ⟨#[]⟩)∧w.cell? ⟨b,3,none⟩=some (.int .i64 0)∧w.cell? ⟨b,4,none⟩=some (.int .i64 0)∧w.cell? ⟨b,5,none⟩=some (.string ⟨#[]⟩))∧∀j,w.frozen? ⟨b,j,none⟩=false:=
 ⟨⟨au h rfl,au h rfl,au h rfl,au h rfl,au h rfl,au h rfl⟩,λ_=>bG h⟩
theorem aq4 {R:Rp} {w W:World} {d:De} {r:aO} (hok:d.Ok) (hr:dM W R r) (hg:w.grownBy W (some R.br)) (hl:R.br<w.heap.size):
 ag6 R w d r (.returned (.tuple #[UC d,.bool true])) (W.setCells w.heap.size 0 (rV d)):=
 ⟨⟨hok,rfl⟩,AV hr (bU _ _ _ _) (by have:=R.b0;omega) (by omega),uQ hg _ _ _ (Nat.le_refl _)⟩
def KzR (d:De) (r:aO) (dz:De) (rz:aO):Prop:=
 ((d.kind==1)=true∧∃d2 q,xq d r= .ok d2 q∧at' [45] q.tail=false∧yD d2 q= .ok dz rz)∨(((d.kind==1)=false∧(d.kind==2)=false∧(d.kind==5)=true)∧isName r=true∧dz= {d with on:=tx (aQ r)} ∧rz=r.tail)∨
 (((d.kind==1)=false∧(d.kind==2)=false∧(d.kind==5)=false)∧dz=d∧rz=r)
theorem UK {br bd:Nat} {w w1 w2:World} (h:w.grownBy w1 (some br)) (hf:Fr br bd w1 w2) (hb:w.heap.size<=bd):w.grownBy w2 (some br):=
 ⟨hf.os.trans h.os,hf.tape.trans h.tape,hf.output.trans h.output,Nat.le_trans h.size hf.size,λk hk hn=>(hf.block k (Nat.lt_of_lt_of_le hk h.size) (by simpa using hn) (by omega)).trans (h.block k hk hn)⟩
def xD (P Q S:World->Prop):List Bool->World->Prop
 | [x,y],w=>if y then S w else if x then Q w else P w
 |_,_=>False
section
variable {P Q S:World->Prop} {c:List Bool} {w w':World} {k l i:Nat}
theorem xD.bits (h:xD P Q S c w): ∃x y,c=[x,y]:=by
 match c,h with
 | [x,y],_=>exact⟨x,y,rfl⟩
 | [],h=>exact h.elim
 | [_],h=>exact h.elim
 |_::_::_::_,h=>exact h.elim
theorem xD.skip (h1:(k==i)=false) (h2:(l==i)=false) (h:xD P Q S c w):xD P Q S (gJ [k,l] c i) w:=by
 obtain⟨x,y,rfl⟩:=h.bits;simp only[gJ,h1,h2,Bool.or_false];exact h
theorem xD.fire (h1:(k==i)=true) (h2:(l==i)=false) (h:Q w):xD P Q S (gJ [k,l] [false,false] i) w:=by
 simp only[gJ,h1,h2,Bool.or_false,Bool.or_true];exact h
theorem xD.last (h1:(k==i)=false) (h2:(l==i)=true) (h:S w):xD P Q S (gJ [k,l] [true,false] i) w:=by
 simp only[gJ,h1,h2,Bool.or_false,Bool.or_true];exact h
theorem xD.gr {x:Bool} {T:World->Prop} (hp: ∀w,P w->T w) (hq: ∀w,Q w->T w) (h:xD P Q S [x,false] w):T w:=by
 cases x
 ·exact hp w h
 ·exact hq w h
end
theorem Ka (R:Rp) (ts rz:aO) (dz:De) (w:World) (hI:dM w R ts) (hk:isDecl ts=true) (hn:isName ts.tail=true) (hKR:KzR ⟨pX (aQ ts),((dV ts:Nat):Int),tx (aQ ts.tail),0,0,⟨#[]⟩⟩ ts.tail.tail dz rz) (h4:at' [59] rz=true):
 Calls Tryz.prog 102 #[.pointer (some ⟨R.br,0,none⟩)] w (ag6 R w dz rz.tail):=by
 have Zc:=ah hKR;clear hKR;have HI:=ah hI;have HL:=ah (Dv hI);have hlt:=hI.lt;have bi2:=ah hlt;obtain⟨t0,r0,hr⟩: ∃t r,ts=t::r:=by
  cases ts with
  |nil=>exact absurd hk (by simp[isDecl,nextK])
  |cons t r=>exact⟨t,r,rfl⟩
 have KS:=ah hr;have hd0:(pX (aQ ts)==0)=false:=by unfold isDecl at hk;simp only[Bool.and_eq_true,Bool.not_eq_true']at hk;exact hk.2
 have TB:=ah (ab9 (aQ ts) hd0);clear hk hr hd0;go_enter Tryz.func102,Tryz.ntmps102;go_upto_region 1 with fail;generalize hW:World.alloc w _=W0;have HB0:aj (Below w.heap.size w W0):=ah (by rw[<- hW];exact ak _ _);have HZ0:aj (W0.heap[w.heap.size]? =some (.cells FL 75 (0,0))):=ah (by rw[<- hW];exact heap_alloc_new _ _);have HN:=ah (qb R ts W0 (HI.o.below HB0.o));unfold vE at HN;clear hW hI;go_wp2_with fail;refine HN.o.mono ?_;rintro e w1 ⟨rfl,h2⟩;have HB1:=ah (HB0.o.trans (h2.mono HB0.o.size));have HZ1:=ah ((h2.block _ (Array.getElem?_eq_some_iff.1 HZ0.o).1).trans HZ0.o);clear h2 HN HB0 HZ0;go_upto_region 2 with fail;obtain⟨gt,hg⟩: ∃g,w1.heap.size=g:=⟨_,rfl⟩;rw[hg];generalize hW:World.alloc w1 _=W2;have HB2:aj (Below w.heap.size w W2):=ah (by rw[<- hW];exact HB1.o.alloc HB1.o.size _);have HT2:aj (W2.heap[gt]? =some (.cells #[.int .i64 ((nextK ts:Nat):Int),.string (tx (aQ ts)),.int .i64 ((dV ts:Nat):Int)] 145 (0,0))):=ah (by rw[<- hW,<- hg];exact heap_alloc_new _ _);have HZ2:aj (W2.heap[w.heap.size]? =some (.cells FL 75 (0,0))):=ah (by rw[<- hW];exact(heap_alloc_old _ _ (Array.getElem?_eq_some_iff.1 HZ1.o).1).trans HZ1.o);have oH:aj (R.br<w.heap.size∧w.heap.size<gt):=ah ⟨hlt,by rw[<- hg];exact(Array.getElem?_eq_some_iff.1 HZ1.o).1⟩;obtain⟨pos,hp,q0,q1,fq,HX⟩:=(HI.o.below HB2.o).open;clear hW hg HB1 HZ1;go_upto_region 3 with fail;generalize hW:World.setCell W2 _ _=W3;have HQ:aj (dM W3 R ts.tail∧W2.grownBy W3 (some R.br)):=ah (by rw[<- hW,KS.o];exact HX.o t0 r0 KS.o);have MG:aj (w.grownBy W3 (some R.br)):=ah (gY (iR HB2.o) HQ.o.2);have HT3:=ah ((HQ.o.2.block _ (Array.getElem?_eq_some_iff.1 HT2.o).1 (by have:=oH.o;simp;omega)).trans HT2.o);have HZ3:=ah ((HQ.o.2.block _ (Array.getElem?_eq_some_iff.1 HZ2.o).1 (by have:=oH.o;simp;omega)).trans HZ2.o);have ak6:=ah HQ.o.1;clear hW q0 q1 fq HX HB2 HT2 HZ2 HQ;have K1: ∀w',Below W3.heap.size W3 w'->w'.cell? ⟨gt,1,none⟩=some (.string (tx (aQ ts))):=λw' h=>au ((h.block _ (Array.getElem?_eq_some_iff.1 HT3.o).1).trans HT3.o) rfl;have K2: ∀w',Below W3.heap.size W3 w'->w'.cell? ⟨gt,2,none⟩=some (.int .i64 ((dV ts:Nat):Int)):=λw' h=>au ((h.block _ (Array.getElem?_eq_some_iff.1 HT3.o).1).trans HT3.o) rfl;refine bf (by kernel_rfl) rfl ?_;refine aX 0 7 [] [[],[0],[0,1],[],[3],[0,1,2,3,4],[],[0,1,2,3,4,5,6]] [[],[],[],[],[],[],[]] (λ_ w'=>Below W3.heap.size W3 w') (λw w'=>Below w.heap.size w w') [16,17,18,19,20,21,5] rfl rfl (by rfl) (by kernel_rfl) (by kernel_rfl) (by kernel_rfl) (by kernel_rfl) (by kernel_rfl) (by rfl) (λ_=>Below.refl _ _) (by rfl) (below_drewN (Below.refl _ _) 1) ?_;simp only[eP,jq]
 iterate 2
  apply aR.step
  case aJ=>intro c A w' hok hC hO hD;have e4:=hO 4 (by rfl);simp[Act.eval]at e4;simp[Act.eval]at hD;simp[go_sem,gd,Oper.wp,hD,e4,K1,hC];exact aG.mk (Below.refl _ _) hC (aW.mk _ _)
 apply aR.step
 case aJ=>intro c A w' hok hC hO hD;simp[Act.eval]at hD;simp[go_sem,gd,Oper.wp,hD];refine(ET (tx (aQ ts)) (l:=aQ ts) (Ku _) w').mono ?_;rintro e w2 ⟨rfl,rfl⟩;exact aG.mk (Below.refl _ _) hC (aW.mk _ _)
 iterate 3
  apply aR.step
  case aJ=>intro c A w' hok hC hO hD;have e4:=hO 4 (by rfl);simp[Act.eval]at e4;simp[Act.eval]at hD;simp[go_sem,gd,Oper.wp,hD,e4,K2,hC];exact aG.mk (Below.refl _ _) hC (aW.mk _ _)
  try simp only[bP]
 refine aR.some (λv w'=> ∃db,v= .pointer (some ⟨db,0,none⟩)∧W3.heap.size<=db∧w'.heap[db]? =some (.cells FL 75 (0,0))) ?_ ?_ ?_
 ·rintro v w1 w' hle ⟨g,h1,h2,h3⟩;exact⟨g,h1,h2,(hle.block g (Array.getElem?_eq_some_iff.1 h3).1).trans h3⟩
 ·intro c A w' hok hC hO hD;simp[go_sem,gd,Oper.wp];exact aG.mk (d:=_) (v:= .pointer (some ⟨_,0,none⟩)) (ak _ _) (hC.alloc hC.size _) ⟨_,rfl,hC.size,heap_alloc_new _ _⟩
 simp only[bP];refine aR.done ?_;intro wz bH;simp only[List.drop_zero];intro v0 h0 v1 h1 v2 h2 v3 h3 v4 h4 v5 h5 v6 h6;have h5':=Eq.symm (show v5=_ from h5);subst h5';obtain⟨bd,rfl,av6,Dr⟩:=h6;clear h0 h1 h2 h3 h4 h5 K1 K2;have HD0:aj ((⟨pX (aQ ts),((dV ts:Nat):Int),⟨#[]⟩,0,0,⟨#[]⟩⟩:De).Ok):=ah ⟨by have:=TB.o;show fD (pX _);unfold fD;omega,HL.o,Nat.zero_le _,BA,BA,Nat.zero_le _⟩;have gX:aj (Below W3.heap.size W3 wz):=ah bH;have Tx:aj (W3.heap.size<=bd∧wz.heap[bd]? =some (.cells FL 75 (0,0))):=ah ⟨av6,Dr⟩;clear bH av6;refine BP ?_;go_simp;refine cK 7 [[],[0],[0,1],[],[3],[0,1,2,3,4],[],[0,1,2,3,4,5,6]] rfl rfl rfl rfl rfl (by kernel_rfl) (by kernel_rfl) (by kernel_rfl) ?_;refine wp_store_mid _ _ _ (by rfl) bd 0 (rV ⟨pX (aQ ts),((dV ts:Nat):Int),⟨#[]⟩,0,0,⟨#[]⟩⟩).toArray (by rfl) (by rfl) (CS Dr (Nat.le_refl 6)) Uz (by simp[rV,Value.oneCell']) ?_;refine bT rfl ?_;generalize AA:World.setCells wz bd 0 _=W5;have qg:aj (w.heap.size<bd∧R.br<bd):=ah (by have h1:=Tx.o.1;have h2:=(Array.getElem?_eq_some_iff.1 HZ3.o).1;have h3:=oH.o;omega);have KJ:aj (wz.grownBy W5 (some bd)):=ah (by rw[<- AA];exact bU _ _ _ _);have MS:aj (Pd R bd W5 ⟨pX (aQ ts),((dV ts:Nat):Int),⟨#[]⟩,0,0,⟨#[]⟩⟩ ts.tail):=ah ⟨AV (ak6.o.below gX.o) KJ.o (by have:=qg.o;have:=R.b0;omega) (by have:=qg.o;omega),by have:=qg.o;omega,by have:=qg.o;have:=R.b0;omega,by rw[<- AA];exact iE Tx.o.2 rfl,HD0.o⟩;have Ry:aj (w.grownBy W5 (some R.br)):=ah (by rw[<- AA];exact uQ (gY MG.o (iR gX.o)) _ _ _ (Nat.le_of_lt qg.o.1));have HZ5:aj (W5.heap[w.heap.size]? =some (.cells FL 75 (0,0))):=ah ((KJ.o.block _ (Nat.lt_of_lt_of_le (Array.getElem?_eq_some_iff.1 HZ3.o).1 gX.o.size) (by have:=qg.o;simp;omega)).trans ((gX.o.block _ (Array.getElem?_eq_some_iff.1 HZ3.o).1).trans HZ3.o));clear AA KJ gX Tx Dr HD0 ak6 MG HT3 HZ3;go_simp;have vJ:aj ((tx (aQ ts.tail)).size<=maxLen):=ah (vZ (wC MS.o.rd.ts hn));go_wp2_with fail;refine(sV R _ _ hn MS.o.rd).mono ?_;rintro e w6 ⟨rfl,h2,h3⟩;have KO:=ah (MS.o.then h2 h3);have ai4:=ah (gY Ry.o h3);have HZ6:=ah ((h3.block _ (Array.getElem?_eq_some_iff.1 HZ5.o).1 (by have:=oH.o;simp;omega)).trans HZ5.o);clear h2 h3 MS Ry HZ5;have c2:=KO.o.cell (j:=2) rfl;have f2:=KO.o.free 2;go_upto_region 6 with fail;generalize hW:World.setCell w6 _ _=W7;have Bg:aj (Pd R bd W7 ⟨pX (aQ ts),((dV ts:Nat):Int),tx (aQ ts.tail),0,0,⟨#[]⟩⟩ ts.tail.tail):=ah (by rw[<- hW];exact KO.o.nm _ vJ.o);have Rz:aj (w.grownBy W7 (some R.br)):=ah (by rw[<- hW];exact Ay ai4.o _ _ (Nat.le_of_lt qg.o.1));have U7:aj (W7.heap[w.heap.size]? =some (.cells FL 75 (0,0))):=ah (by rw[<- hW];exact(bY w6 _ _ rfl (by have:=qg.o;show bd≠_;omega)).trans HZ6.o);clear hW KO ai4 HZ6 c2 f2;obtain⟨dd,Qb⟩: ∃dd,aj ((⟨pX (aQ ts),((dV ts:Nat):Int),tx (aQ ts.tail),0,0,⟨#[]⟩⟩:De)=dd):=⟨_,ah rfl⟩;have HKK:aj (dd.kind=pX (aQ ts)):=ah (by rw[<- Qb.o]);rw[Qb.o]at Bg Zc;obtain⟨r1,HR1⟩: ∃r1,aj (ts.tail.tail=r1):=⟨_,ah rfl⟩;rw[HR1.o]at Bg Zc;have c0:W7.cell? ⟨bd,0,none⟩=some (.int .i64 dd.kind):=Bg.o.cell rfl;go_upto_block 0 with fail;go_cut [6] (λs6 W'=>s6= .bool true∧Pd R bd W' dz rz∧w.grownBy W' (some R.br)∧W'.heap[w.heap.size]? =some (.cells FL 75 (0,0)))
 case first=>
  rcases Zc.o with⟨k1,d2,q,hs,hm,hi⟩|⟨⟨k1,k2,k5⟩,hm,hz,hr⟩|⟨⟨k1,k2,k5⟩,hz,hr⟩
  ·have HC:=ah (ae8 R bd r1 q dd d2 W7 Bg.o hs);have Mt:aj (∀W,Pd R bd W d2 q->Calls Tryz.prog 142 #[.pointer (some ⟨R.br,0,none⟩),.pointer (some ⟨bd,0,none⟩)] W (Z5 R bd W (.ok dz rz))):=ah (λW h=>Sw R bd q rz d2 dz W h hm hi);clear hs hm hi;go_wp2_with fail;refine HC.o.mono ?_;rintro e w8 ⟨rfl,h2,h3⟩;have sH:=ah h2;have MH:=ah (UK Rz.o h3 (Nat.le_of_lt qg.o.1));have Qm:=ah (G8 h3 U7.o (by have:=oH.o;omega) (by have:=qg.o;omega));clear h2 h3 HC;have HC:=ah (Mt.o _ sH.o);clear Mt;go_wp2_with fail;refine HC.o.mono ?_;rintro e w9 ⟨rfl,h2,h3⟩;have yF:=ah h2;have HF9:=ah h3;clear h2 h3;go_wp2_with fail;go_meet;exact⟨rfl,yF.o,UK MH.o HF9.o (Nat.le_of_lt qg.o.1),G8 HF9.o Qm.o (by have:=oH.o;omega) (by have:=qg.o;omega)⟩
  ·have RD:aj ((tx (aQ r1)).size<=maxLen):=ah (vZ (wC Bg.o.rd.ts hm));subst hz hr;go_wp2_with fail;refine(sV R _ _ hm Bg.o.rd).mono ?_;rintro e w8 ⟨rfl,h2,h3⟩;have sH:=ah (Bg.o.then h2 h3);have MH:=ah (gY Rz.o h3);have Qm:=ah ((h3.block _ (Array.getElem?_eq_some_iff.1 U7.o).1 (by have:=oH.o;simp;omega)).trans U7.o);clear h2 h3;have c5:=sH.o.cell (j:=5) rfl;have f5:=sH.o.free 5;go_wp2_with fail;go_meet;exact⟨rfl,sH.o.on _ RD.o,Ay MH.o _ _ (Nat.le_of_lt qg.o.1),(bY w8 _ _ rfl (by have:=qg.o;show bd≠_;omega)).trans Qm.o⟩
  ·subst hz hr;go_wp2_with fail;go_meet;exact⟨rfl,Bg.o,Rz.o,U7.o⟩
 obtain⟨rfl,hPd,hGr,hZ⟩:=hcut;obtain⟨W8,rfl⟩: ∃W:World,W=wc:=⟨_,rfl⟩;have sH:=ah hPd;have MH:=ah hGr;have Qm:=ah hZ;clear hPd hGr hZ Bg Rz U7 c0 Zc;have KD: ∀w',W8.grownBy w' (some R.br)->(w'.cell? ⟨bd,0,none⟩=some (.int .i64 dz.kind)∧w'.cell? ⟨bd,1,none⟩=some (.int .i64 dz.line)∧w'.cell? ⟨bd,2,none⟩=some (.string dz.nm)∧w'.cell? ⟨bd,3,none⟩=some (.int .i64 dz.size)∧w'.cell? ⟨bd,4,none⟩=some (.int .i64 dz.init)∧w'.cell? ⟨bd,5,none⟩=some (.string dz.on)):=λw' h=>by have hb:=(h.block _ sH.o.lt (by simp;exact sH.o.ne)).trans sH.o.blk;exact⟨au hb rfl,au hb rfl,au hb rfl,au hb rfl,au hb rfl,au hb rfl⟩
 have HIP:aj (dM W8 R rz):=ah sH.o.rd;have e0: ∀w',W8.grownBy w' (some R.br)->w'.heap[w.heap.size]? =some (.cells FL 75 (0,0)):=λw' h=>(h.block _ (Array.getElem?_eq_some_iff.1 Qm.o).1 (by have:=oH.o;simp;omega)).trans Qm.o;have Mw:=ah e0;clear e0;go_upto_region 15 with fail;refine bf (by kernel_rfl) rfl ?_;refine aX 0 8 [4,6] [[],[],[1],[1,2],[1,2,3],[1,2,3,4],[0,1,2,3,4],[0,1,2,3,4,5,6]] [[none,some false],[some false,some false],[some false,some false],[some false,some false],[some false,some false],[some true,none],[some true,some false],[some true,some true]] (xD (λw'=>dM w' R rz∧W8.grownBy w' (some R.br)) (λw'=>dM w' R rz.tail∧W8.grownBy w' (some R.br)) (λw'=> ∃w2,(dM w2 R rz.tail∧W8.grownBy w2 (some R.br))∧w'=w2.setCells w.heap.size 0 (rV dz))) (λ_ _=>True) [53,54,55,56,57,58,3] rfl rfl (by rfl) (by kernel_rfl) (by kernel_rfl) (by kernel_rfl) (by kernel_rfl) (by kernel_rfl) (by rfl) (λ_=>trivial) (by rfl) ⟨HIP.o.below (below_drewN (Below.refl _ _) 1),iR (below_drewN (Below.refl _ _) 1)⟩ ?_;simp only[eP,jq];apply aR.step
 case aJ=>intro c A w' hok hC hO hD;obtain⟨x,y,rfl⟩:=hC.bits;obtain⟨rfl,-⟩:=hok;obtain⟨d0,d1,d2,d3,d4,d5⟩:=KD w' (hC.gr (λ_ h=>h.2) (λ_ h=>h.2));have e5:=hO 5 (by rfl);simp[Act.eval]at e5;simp[Act.eval]at hD;simp[go_sem,gd,Oper.wp,e5,d0,d1,d2,d3,d4,d5];exact aG.mk trivial (xD.skip (by rfl) (by rfl) hC) (aW.mk _ _)
 iterate 3
  apply aR.step
  case aJ=>intro c A w' hok hC hO hD;have e6:=hO 6 (by rfl);have e0:=hO 0 (by rfl);simp[Act.eval]at e6 e0;simp[Act.eval]at hD;simp[go_sem,gd,Oper.wp,hD,e6,e0];exact aG.mk trivial (xD.skip (by rfl) (by rfl) hC) (aW.mk _ _)
 apply aR.step
 case aJ=>intro c A w' hok hC hO hD;obtain⟨x,y,rfl⟩:=hC.bits;obtain⟨rfl,rfl,-⟩:=hok;simp[Act.eval]at hD;simp[go_sem,gd,Oper.wp,hD];refine(jN R _ _ ⟨#[59]⟩ rfl h4 hC.1).mono ?_;rintro e w3 ⟨rfl,k2,k3⟩;exact aG.mk trivial (xD.fire (by rfl) (by rfl) ⟨k2,gY hC.2 k3⟩) (aW.mk _ _)
 try simp only[bP]
 apply aR.step
 case aJ=>intro c A w' hok hC hO hD;simp[Act.eval]at hD;simp[go_sem,gd,Oper.wp,hD];exact aG.mk trivial (xD.skip (by rfl) (by rfl) hC) (aW.mk _ _)
 refine aR.some (λ_ _=>True) (λ_ _ _ _ _=>trivial) ?_ ?_
 ·intro c A w' hok hC hO hD;obtain⟨x,y,rfl⟩:=hC.bits;obtain⟨rfl,rfl,-⟩:=hok;have e2:=hO 2 (by rfl);simp[Act.eval]at e2;simp[Act.eval]at hD;simp only[gd,if_true];refine wp_store_mid _ _ _ (by rfl) w.heap.size 0 (rV dz).toArray (by simp[Act.eval,e2]) (by simp[Act.eval,hD,rV]) (CS (Mw.o w' hC.2) (Nat.le_refl 6)) Uz (by simp[rV,Value.oneCell']) ?_;exact aG.yQ trivial (xD.last (by rfl) (by rfl) ⟨w',hC,rfl⟩) trivial
 apply aR.step
 case aJ=>intro c A w' hok hC hO hD;simp[Act.eval]at hD;simp[go_sem,gd,Oper.wp,hD];exact aG.mk trivial (xD.skip (by rfl) (by rfl) hC) (aW.mk _ _)
 try simp only[bP]
 refine aR.done ?_;intro w9 ZF
 try simp only[List.drop_succ_cons,List.drop_zero]
 intro x0 h0 x1 h1 x2 h2 x3 h3 x4 h4 x5 h5 x6 h6 x7 h7;have h7':=Eq.symm (show x7=_ from h7);subst h7';clear h0 h1 h2 h3 h4 h5 h6 h7;refine BP ?_;refine bT rfl ?_;obtain⟨w2,hw2,ZK⟩: ∃w2,(dM w2 R _∧W8.grownBy w2 (some R.br))∧w9=w2.setCells w.heap.size 0 (rV dz):=ZF;have tV:w9.heap[w.heap.size]? =some (.cells (rV dz).toArray 75 (0,0)):=by rw[ZK];exact iE (Mw.o w2 hw2.2) rfl
 have HW9:=ah ZK;have y0:w9.cell? ⟨w.heap.size,0,none⟩=some (.int .i64 dz.kind):=au tV rfl;have y1:w9.cell? ⟨w.heap.size,1,none⟩=some (.int .i64 dz.line):=au tV rfl;have y2:w9.cell? ⟨w.heap.size,2,none⟩=some (.string dz.nm):=au tV rfl;have y3:w9.cell? ⟨w.heap.size,3,none⟩=some (.int .i64 dz.size):=au tV rfl;have y4:w9.cell? ⟨w.heap.size,4,none⟩=some (.int .i64 dz.init):=au tV rfl;have y5:w9.cell? ⟨w.heap.size,5,none⟩=some (.string dz.on):=au tV rfl;have Z9:=ah (aq4 (d:=dz) sH.o.ok hw2.1 (gY MH.o hw2.2) oH.o.1);rw[<- ZK]at Z9;clear ZK tV KD;go_simp;go_wp2_with fail;exact bodyPost_ret (v:= .tuple #[UC dz,.bool true]) (by simp[results,Tryz.results102,go_sem,UC,y0,y1,y2,y3,y4,y5]) rfl Z9.o
end Go.Proofs.YtkmllehjemjgpaaGreatDoor
