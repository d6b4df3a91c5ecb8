/- Declarations of the fixed program: a declaration under way; size and initial. And what hangs on it. -/
import Derived.Test.YtmildapbbcbbhaaGreatDoorGRA
set_option linter.unusedSimpArgs false
set_option linter.unusedVariables false
set_option maxHeartbeats 40000000
set_option maxRecDepth 1000000
namespace Go.Proofs.YtmildapbbcbbhaaGreatDoor
open Go.RowKit
open Md Pz
theorem ac4 {x:List UInt8} {r:bC} (h:at' x r=true):need x r= .ok () r.tail:=by unfold need;rw[if_pos h]
theorem ac1 {x:List UInt8} {r:bC} (h:at' x r=false):need x r= .no r:=by unfold need;rw[if_neg (by rw[h];decide)]
structure Pd (R:Rp) (bd:Nat) (w:World) (d:De) (rest:bC):Prop where
 rd:eP w R rest
 ne:bd≠R.br
 b0:R.B0<=bd
 blk:w.heap[bd]? =some (.cells (oF d).toArray 43 (0,0))
 ok:d.Ok
section
variable {R:Rp} {bd:Nat} {w W W':World} {d:De} {rest rest':bC}
theorem Pd.lt (h:Pd R bd W d rest):bd<W.heap.size:=(aO h.blk)
theorem Pd.then (h:Pd R bd W d rest) (h1:eP W' R rest') (h2:W.grownBy W' (some R.br)):Pd R bd W' d rest':=
 ⟨h1,h.ne,h.b0,(h2.block _ h.lt (by simp;exact h.ne)).trans h.blk,h.ok⟩
theorem Pd.below (h:Pd R bd W d rest) (hb:Below W.heap.size W W'):Pd R bd W' d rest:=h.then (h.rd.below hb) (jL hb)
theorem Pd.put (h:Pd R bd W d rest) (j:Nat) (v:Value) {y:De} (hy:(oF d).toArray.setIfInBounds j v=(oF y).toArray) (hok:y.Ok):Pd R bd (W.setCell ⟨bd,j,none⟩ v) y rest:=
 ⟨uQ h.rd _ v h.b0 h.ne,h.ne,h.b0,by rw[dh h.blk,hy],hok⟩
theorem Pd.nm (h:Pd R bd W d rest) (s:ByteArray) (hs:s.size<=maxLen):Pd R bd (W.setCell ⟨bd,2,none⟩ (.string s)) {d with nm:=s} rest:=
 h.put 2 _ rfl ⟨h.ok.1,h.ok.2.1,hs,h.ok.2.2.2⟩
theorem Pd.size (h:Pd R bd W d rest) (n:Int) (hn:bW n):Pd R bd (W.setCell ⟨bd,3,none⟩ (.int .i64 n)) {d with size:=n} rest:=
 h.put 3 _ rfl ⟨h.ok.1,h.ok.2.1,h.ok.2.2.1,hn,h.ok.2.2.2.2⟩
theorem Pd.init (h:Pd R bd W d rest) (n:Int) (hn:bW n):Pd R bd (W.setCell ⟨bd,4,none⟩ (.int .i64 n)) {d with init:=n} rest:=
 h.put 4 _ rfl ⟨h.ok.1,h.ok.2.1,h.ok.2.2.1,h.ok.2.2.2.1,hn,h.ok.2.2.2.2.2⟩
theorem Pd.on (h:Pd R bd W d rest) (s:ByteArray) (hs:s.size<=maxLen):Pd R bd (W.setCell ⟨bd,5,none⟩ (.string s)) {d with on:=s} rest:=
 h.put 5 _ rfl ⟨h.ok.1,h.ok.2.1,h.ok.2.2.1,h.ok.2.2.2.1,h.ok.2.2.2.2.1,hs⟩
theorem Pd.cell (h:Pd R bd W d rest) {j:Nat} {u:Value} (hu:(oF d).toArray[j]? =some u):W.cell? ⟨bd,j,none⟩=some u:=aQ h.blk hu
theorem Pd.free (h:Pd R bd W d rest) (j:Nat):W.frozen? ⟨bd,j,none⟩=false:=bH h.blk
end
def DmP (R:Rp) (bd:Nat) (w:World) (res:ow De) (e:Ending) (w':World):Prop:=
 match res with
 | .ok d r=>e= .returned (.bool true)∧Pd R bd w' d r∧Fr R.br bd w w'
 | .no r=>e= .returned (.bool false)∧(∃d,Pd R bd w' d r)∧Fr R.br bd w w'
theorem Og {R:Rp} {bd:Nat} {w W:World} {res:ow De} {d:De} {r:bC} (e:res= .ok d r) (h:Pd R bd W d r) (hf:Fr R.br bd w W):DmP R bd w res (.returned (.bool true)) W:=by subst e;exact⟨rfl,h,hf⟩
theorem Fr.gr' {br bs:Nat} {w w1 w2:World} (h:Fr br bs w w1) (k:w1.grownBy w2 (some br)):Fr br bs w w2:=h.trans (Fr.tT k)
theorem af2 {d:De} {ts:bC} (h:at' [91] ts=false):yF d ts= .ok d ts:=by unfold yF;rw[if_neg (by rw[h];decide)]
theorem af0 {d:De} {ts:bC} (h:at' [91] ts=true) (h1:isNum ts.tail=false):yF d ts= .no ts.tail:=by unfold yF;rw[if_pos h,if_neg (by rw[h1];decide)]
theorem av5 {d:De} {ts:bC} (h:at' [91] ts=true) (h1:isNum ts.tail=true) (h2:(Tk.val (bK ts.tail)==0)=true):yF d ts= .no ts.tail:=by unfold yF;rw[if_pos h,if_pos h1,if_pos h2]
theorem Uc {d:De} {ts:bC} (h:at' [91] ts=true) (h1:isNum ts.tail=true) (h2:(Tk.val (bK ts.tail)==0)=false):yF d ts=(need [93] ts.tail.tail).map λ_=> {d with size:=(Tk.val (bK ts.tail):Nat)} :=by unfold yF;rw[if_pos h,if_pos h1,if_neg (by rw[h2];decide)]
theorem as7 {d:De} {ts:bC} (h:at' [61] ts=false):zC d ts= .ok d ts:=by unfold zC;rw[if_neg (by rw[h];decide)]
theorem aa5 {d:De} {ts:bC} (h:at' [61] ts=true) (h1:at' [45] ts.tail=false) (h2:isNum ts.tail=false):zC d ts= .no ts.tail:=by unfold zC;rw[if_pos h,if_neg (by rw[h1];decide),if_neg (by rw[h2];decide)]
theorem aa6 {d:De} {ts:bC} (h:at' [61] ts=true) (h1:at' [45] ts.tail=false) (h2:isNum ts.tail=true):zC d ts= .ok {d with init:=(Tk.val (bK ts.tail):Nat)} ts.tail.tail:=by unfold zC;rw[if_pos h,if_neg (by rw[h1];decide),if_pos h2]
theorem av6 (R:Rp) (bd:Nat) (ts r:bC) (d d':De) (w:World) (hp:Pd R bd w d ts) (h:yF d ts= .ok d' r):
 Calls Tryz.prog 139 #[.pointer (some ⟨R.br,0,none⟩),.pointer (some ⟨bd,0,none⟩)] w (DmP R bd w (.ok d' r)):=by
 have HP:=ah hp;clear hp;cases h1:at' [91] ts
 ·rw[af2 h1]at h;injection h with e1 e2;subst e1 e2;go_enter Tryz.func139,Tryz.ntmps139;go_wp2_with fail;refine(pI R _ _ ⟨#[91]⟩ rfl h1 HP.o.rd).mono ?_;rintro e w1 ⟨rfl,h2⟩;have lU:=ah (HP.o.below h2);have HF:=ah (Fr.tT (br:=R.br) (bs:=bd) (jL h2));clear h2;go_wp2_with fail;go_ret;exact Og rfl lU.o HF.o
 ·cases h2:isNum ts.tail
  ·rw[af0 h1 h2]at h;cases h
  cases h3:(Tk.val (bK ts.tail)==0)
  case true=>rw[av5 h1 h2 h3]at h;cases h
  cases h4:at' [93] ts.tail.tail
  ·rw[Uc h1 h2 h3,ac1 h4]at h;cases h
  rw[Uc h1 h2 h3,ac4 h4]at h;have HV:aj (bW ((Tk.val (bK ts.tail):Nat):Int)):=ah (by have:=XZ HP.o.rd.ts.tail h2;unfold bW;omega);have h3':(((Tk.val (bK ts.tail):Nat):Int)==0)=false:=by rw[beq_eq_false_iff_ne]at h3⊢;omega
  have h':ow.ok {d with size:=((Tk.val (bK ts.tail):Nat):Int)} ts.tail.tail.tail=ow.ok d' r:=h;injection h' with e1 e2;subst e1 e2;clear h;go_enter Tryz.func139,Tryz.ntmps139;go_wp2_with fail;refine(kW R _ _ ⟨#[91]⟩ rfl h1 HP.o.rd).mono ?_;rintro e w1 ⟨rfl,k2,k3⟩;have lU:=ah (HP.o.then k2 k3);have zG:=ah (Fr.tT (bs:=bd) k3);clear k2 k3;go_wp2_with fail;refine(Ua R _ _ h2 lU.o.rd).mono ?_;rintro e w2 ⟨rfl,k2,k3⟩;have jO:=ah (lU.o.then k2 k3);have yN:=ah (zG.o.gr' k3);clear k2 k3;have c3:=jO.o.cell (j:=3) rfl;have f3:=jO.o.free 3;go_upto_region 10 with fail;generalize hW:World.setCell w2 _ _=W;have oM:aj (Pd R bd W {d with size:=(Tk.val (bK ts.tail):Nat)} ts.tail.tail):=ah (by rw[<- hW];exact jO.o.size _ HV.o);have Aq:aj (Fr R.br bd w W):=ah (by rw[<- hW];exact yN.o.set _ _ (.inl rfl));clear hW c3 f3 jO yN;go_wp2_with fail;refine(kW R _ _ ⟨#[93]⟩ rfl h4 oM.o.rd).mono ?_;rintro e w4 ⟨rfl,k2,k3⟩;have vk:=ah (oM.o.then k2 k3);have OO:=ah (Aq.o.gr' k3);clear k2 k3;go_wp2_with fail;go_ret;exact Og rfl vk.o OO.o
theorem Vh (R:Rp) (bd:Nat) (ts r:bC) (d d':De) (w:World) (hp:Pd R bd w d ts) (hm:at' [45] ts.tail=false) (h:zC d ts= .ok d' r):
 Calls Tryz.prog 140 #[.pointer (some ⟨R.br,0,none⟩),.pointer (some ⟨bd,0,none⟩)] w (DmP R bd w (.ok d' r)):=by
 have HP:=ah hp;clear hp;cases h1:at' [61] ts
 ·rw[as7 h1]at h;injection h with e1 e2;subst e1 e2;go_enter Tryz.func140,Tryz.ntmps140;go_wp2_with fail;refine(pI R _ _ ⟨#[61]⟩ rfl h1 HP.o.rd).mono ?_;rintro e w1 ⟨rfl,h2⟩;have lU:=ah (HP.o.below h2);have HF:=ah (Fr.tT (br:=R.br) (bs:=bd) (jL h2));clear h2;go_wp2_with fail;go_ret;exact Og rfl lU.o HF.o
 ·cases h2:isNum ts.tail
  ·rw[aa5 h1 hm h2]at h;cases h
  rw[aa6 h1 hm h2]at h;injection h with e1 e2;subst e1 e2;have HV:aj (bW ((Tk.val (bK ts.tail):Nat):Int)):=ah (by have:=XZ HP.o.rd.ts.tail h2;unfold bW;omega);go_enter Tryz.func140,Tryz.ntmps140;go_wp2_with fail;refine(kW R _ _ ⟨#[61]⟩ rfl h1 HP.o.rd).mono ?_;rintro e w1 ⟨rfl,k2,k3⟩;have lU:=ah (HP.o.then k2 k3);have zG:=ah (Fr.tT (bs:=bd) k3);clear k2 k3;go_wp2_with fail;refine(pI R _ _ ⟨#[45]⟩ rfl hm lU.o.rd).mono ?_;rintro e w1 ⟨rfl,k2⟩;have jO:=ah (lU.o.below k2);have yN:=ah (zG.o.gr' (jL k2));clear k2;go_wp2_with fail;refine(Ua R _ _ h2 jO.o.rd).mono ?_;rintro e w2 ⟨rfl,k2,k3⟩;have oM:=ah (jO.o.then k2 k3);have Aq:=ah (yN.o.gr' k3);clear k2 k3;have c4:=oM.o.cell (j:=4) rfl;have f4:=oM.o.free 4;go_wp2_with fail;go_ret;exact Og rfl (oM.o.init _ HV.o) (Aq.o.set _ _ (.inl rfl))
theorem DI {w:World} {K:Act->Prop} {a:Act} (h:K a):dP w K [] a:=h
def Xa (d:De):Value:= .agg #[.int .i64 d.kind,.int .i64 d.line,.string d.nm,.int .i64 d.size,.int .i64 d.init,.string d.on]
def ax3 (R:Rp) (w:World) (d:De) (r:bC) (e:Ending) (w':World):Prop:=(d.Ok∧e= .returned (.tuple #[Xa d,.bool true]))∧eP w' R r∧w.grownBy w' (some R.br)
def Hl:Array Value:= #[.int .i64 0,.int .i64 0,.string ⟨#[]⟩,.int .i64 0,.int .i64 0,.string ⟨#[]⟩]
theorem X8:(Tryz.prog.info? 43).map (·.size)=some 6:=by kernel_rfl
theorem z6 {w:World} {b:Nat} {t:TypeId} (h:w.heap[b]? =some (.cells Hl t (0,0))):
 (w.cell? ⟨b,0,none⟩=some (.int .i64 0)∧w.cell? ⟨b,1,none⟩=some (.int .i64 0)∧w.cell? ⟨b,2,none⟩=some (.string ⟨#[]⟩)∧w.cell? ⟨b,3,none⟩=some (.int .i64 0)∧w.cell? ⟨b,4,none⟩=some (.int .i64 0)∧w.cell? ⟨b,5,none⟩=some (.string ⟨#[]⟩))∧∀j,w.frozen? ⟨b,j,none⟩=false:=
 ⟨⟨aQ h rfl,aQ h rfl,aQ h rfl,aQ h rfl,aQ h rfl,aQ h rfl⟩,λ_=>bH h⟩
theorem aG4 {R:Rp} {w W:World} {d:De} {r:bC} (hok:d.Ok) (hr:eP W R r) (hg:w.grownBy W (some R.br)) (hl:R.br<w.heap.size):
 ax3 R w d r (.returned (.tuple #[Xa d,.bool true])) (W.setCells w.heap.size 0 (oF d)):=
 ⟨⟨hok,rfl⟩,CB hr (dX _ _ _ _) (by have:=R.b0;omega) (by omega),vX hg _ _ _ (aB _)⟩
def KzR (d:De) (r:bC) (dz:De) (rz:bC):Prop:=
 ((d.kind==1)=true∧∃d2 q,yF d r= .ok d2 q∧at' [45] q.tail=false∧zC d2 q= .ok dz rz)∨(((d.kind==1)=false∧(d.kind==2)=false∧(d.kind==5)=true)∧isName r=true∧dz= {d with on:=tx (bK r)} ∧rz=r.tail)∨
 (((d.kind==1)=false∧(d.kind==2)=false∧(d.kind==5)=false)∧dz=d∧rz=r)
theorem Xh {br bd:Nat} {w w1 w2:World} (h:w.grownBy w1 (some br)) (hf:Fr br bd w1 w2) (hb:w.heap.size<=bd):w.grownBy w2 (some br):=
 ⟨hf.os.trans h.os,hf.tape.trans h.tape,hf.output.trans h.output,aP h.size hf.size,λk hk hn=>(hf.block k (aG hk h.size) (by simpa using hn) (by omega)).trans (h.block k hk hn)⟩
def yL (P Q S:World->Prop):List Bool->World->Prop
 | [x,y],w=>if y then S w else if x then Q w else P w
 |_,_=>False
section
variable {P Q S:World->Prop} {c:List Bool} {w w':World} {k l i:Nat}
theorem yL.bits (h:yL P Q S c w): ∃x y,c=[x,y]:=by
 match c,h with
 | [x,y],_=>exact⟨x,y,rfl⟩
 | [],h=>exact h.elim
 | [_],h=>exact h.elim
 |_::_::_::_,h=>exact h.elim
theorem yL.skip (h1:(k==i)=false) (h2:(l==i)=false) (h:yL P Q S c w):yL P Q S (jw [k,l] c i) w:=by
 obtain⟨x,y,rfl⟩:=h.bits;simp only[jw,h1,h2,Bool.or_false];exact h
theorem yL.fire (h1:(k==i)=true) (h2:(l==i)=false) (h:Q w):yL P Q S (jw [k,l] [false,false] i) w:=by
 simp only[jw,h1,h2,Bool.or_false,Bool.or_true];exact h
theorem yL.last (h1:(k==i)=false) (h2:(l==i)=true) (h:S w):yL P Q S (jw [k,l] [true,false] i) w:=by
 simp only[jw,h1,h2,Bool.or_false,Bool.or_true];exact h
theorem yL.gr {x:Bool} {T:World->Prop} (hp: ∀w,P w->T w) (hq: ∀w,Q w->T w) (h:yL P Q S [x,false] w):T w:=by
 cases x
 ·exact hp w h
 ·exact hq w h
end
theorem M4 (R:Rp) (ts rz:bC) (dz:De) (w:World) (hI:eP w R ts) (hk:isDecl ts=true) (hn:isName ts.tail=true) (hKR:KzR ⟨qU (bK ts),((fP ts:Nat):Int),tx (bK ts.tail),0,0,⟨#[]⟩⟩ ts.tail.tail dz rz) (h4:at' [59] rz=true):
 Calls Tryz.prog 100 #[.pointer (some ⟨R.br,0,none⟩)] w (ax3 R w dz rz.tail):=by
 have HKR:=ah hKR;clear hKR;have HI:=ah hI;have HL:=ah (F6 hI);have hlt:=hI.lt;have bK5:=ah hlt;obtain⟨t0,r0,hr⟩: ∃t r,ts=t::r:=by
  cases ts with
  |nil=>exact absurd hk (by simp[isDecl,nextK])
  |cons t r=>exact⟨t,r,rfl⟩
 have MX:=ah hr;have hd0:(qU (bK ts)==0)=false:=by unfold isDecl at hk;simp only[aJ,Bool.not_eq_true']at hk;exact hk.2
 have HKD:=ah (ar4 (bK ts) hd0);clear hk hr hd0;go_enter Tryz.func100,Tryz.ntmps100;go_upto_region 1 with fail;generalize hW:World.alloc w _=W0;have HB0:aj (Below w.heap.size w W0):=ah (by rw[<- hW];exact au _ _);have HZ0:aj (W0.heap[w.heap.size]? =some (.cells Hl 43 (0,0))):=ah (by rw[<- hW];exact heap_alloc_new _ _);have HN:=ah (qW R ts W0 (HI.o.below HB0.o));unfold wL at HN;clear hW hI;go_wp2_with fail;refine HN.o.mono ?_;rintro e w1 ⟨rfl,h2⟩;have HB1:=ah (HB0.o.trans (h2.mono HB0.o.size));have HZ1:=jl h2 HZ0;clear h2 HN HB0 HZ0;go_upto_region 2 with fail;generalize hW:World.alloc w1 _=W2;obtain⟨gt,hg,-,-,HT2,-⟩:=oO hW;rw[hg];have HB2:aj (Below w.heap.size w W2):=ah (by rw[<- hW];exact HB1.o.alloc HB1.o.size _);have HZ2:aj (W2.heap[w.heap.size]? =some (.cells Hl 43 (0,0))):=ah (by rw[<- hW];exact(heap_alloc_old _ _ (aO HZ1.o)).trans HZ1.o);have kL:aj (R.br<w.heap.size∧w.heap.size<gt):=ah ⟨hlt,by rw[<- hg];exact(aO HZ1.o)⟩;obtain⟨pos,hp,q0,q1,fq,HX⟩:=(HI.o.below HB2.o).open;clear hW hg HB1 HZ1;go_upto_region 3 with fail;generalize hW:World.setCell W2 _ _=W3;have HQ:aj (eP W3 R ts.tail∧W2.grownBy W3 (some R.br)):=ah (by rw[<- hW,MX.o];exact HX.o t0 r0 MX.o);have OU:aj (w.grownBy W3 (some R.br)):=ah (jM (jL HB2.o) HQ.o.2);have HT3:=ah ((HQ.o.2.block _ (aO HT2.o) (by have:=kL.o;simp;omega)).trans HT2.o);have HZ3:=ah ((HQ.o.2.block _ (aO HZ2.o) (by have:=kL.o;simp;omega)).trans HZ2.o);have aB6:=ah HQ.o.1;clear hW q0 q1 fq HX HB2 HT2 HZ2 HQ;have K1: ∀w',Below W3.heap.size W3 w'->w'.cell? ⟨gt,1,none⟩=some (.string (tx (bK ts))):=λw' h=>aQ ((h.block _ (aO HT3.o)).trans HT3.o) rfl;have K2: ∀w',Below W3.heap.size W3 w'->w'.cell? ⟨gt,2,none⟩=some (.int .i64 ((fP ts:Nat):Int)):=λw' h=>aQ ((h.block _ (aO HT3.o)).trans HT3.o) rfl;refine dI (by kernel_rfl) rfl ?_;refine dw 0 7 [] [[],[0],[0,1],[],[3],[0,1,2,3,4],[],[0,1,2,3,4,5,6]] [[],[],[],[],[],[],[]] (λ_ w'=>Below W3.heap.size W3 w') (λw w'=>Below w.heap.size w w') [16,17,18,19,20,21,5] rfl rfl (by rfl) (by kernel_rfl) (by kernel_rfl) (by kernel_rfl) (by kernel_rfl) (by kernel_rfl) (by rfl) (λ_=>ak _ _) (by rfl) (below_drewN (ak _ _) 1) ?_;simp only[iW,mU]
 iterate 2
  apply bS.step
  case bg=>intro c A w' hok hC hO hD;have e4:=hO 4 (by rfl);simp[Act.eval]at e4;simp[Act.eval]at hD;simp[go_sem,gd,Oper.wp,hD,e4,K1,hC];exact aR.mk (ak _ _) hC (bZ.mk _ _)
 apply bS.step
 case bg=>intro c A w' hok hC hO hD;simp[Act.eval]at hD;simp[go_sem,gd,Oper.wp,hD];refine(Gw (tx (bK ts)) (l:=bK ts) (Mv _) w').mono ?_;rintro e w2 ⟨rfl,rfl⟩;exact aR.mk (ak _ _) hC (bZ.mk _ _)
 iterate 3
  apply bS.step
  case bg=>intro c A w' hok hC hO hD;have e4:=hO 4 (by rfl);simp[Act.eval]at e4;simp[Act.eval]at hD;simp[go_sem,gd,Oper.wp,hD,e4,K2,hC];exact aR.mk (ak _ _) hC (bZ.mk _ _)
  try simp only[dR]
 refine bS.some (λv w'=> ∃db,v= .pointer (some ⟨db,0,none⟩)∧W3.heap.size<=db∧w'.heap[db]? =some (.cells Hl 43 (0,0))) ?_ ?_ ?_
 ·rintro v w1 w' hle ⟨g,h1,h2,h3⟩;exact⟨g,h1,h2,(hle.block g (aO h3)).trans h3⟩
 ·intro c A w' hok hC hO hD;simp[go_sem,gd,Oper.wp];exact aR.mk (d:=_) (v:= .pointer (some ⟨_,0,none⟩)) (au _ _) (hC.alloc hC.size _) ⟨_,rfl,hC.size,heap_alloc_new _ _⟩
 simp only[dR];refine bS.done ?_;intro wz dF;simp only[List.drop_zero];intro v0 h0 v1 h1 v2 h2 v3 h3 v4 h4 v5 h5 v6 h6;have h5':=Eq.symm (show v5=_ from h5);subst h5';obtain⟨bd,rfl,aM1,F3⟩:=h6;clear h0 h1 h2 h3 h4 h5 K1 K2;have HD0:aj ((⟨qU (bK ts),((fP ts:Nat):Int),⟨#[]⟩,0,0,⟨#[]⟩⟩:De).Ok):=ah ⟨by have:=HKD.o;show bW (qU _);unfold bW;omega,HL.o,bT _,Di,Di,bT _⟩;have jH:aj (Below W3.heap.size W3 wz):=ah dF;have RU:aj (W3.heap.size<=bd∧wz.heap[bd]? =some (.cells Hl 43 (0,0))):=ah ⟨aM1,F3⟩;clear dF aM1;refine DI ?_;go_simp;refine fD 7 [[],[0],[0,1],[],[3],[0,1,2,3,4],[],[0,1,2,3,4,5,6]] rfl rfl rfl rfl rfl (by kernel_rfl) (by kernel_rfl) (by kernel_rfl) ?_;refine wp_store_mid _ _ _ (by rfl) bd 0 (oF ⟨qU (bK ts),((fP ts:Nat):Int),⟨#[]⟩,0,0,⟨#[]⟩⟩).toArray (by rfl) (by rfl) (CK F3 (aB 6)) X8 (by simp[oF,Value.oneCell']) ?_;refine eO rfl ?_;generalize Ew:World.setCells wz bd 0 _=W5;have vP:aj (w.heap.size<bd∧R.br<bd):=ah (by have h1:=RU.o.1;have h2:=(aO HZ3.o);have h3:=kL.o;omega);have MN:aj (wz.grownBy W5 (some bd)):=ah (by rw[<- Ew];exact dX _ _ _ _);have P5:aj (Pd R bd W5 ⟨qU (bK ts),((fP ts:Nat):Int),⟨#[]⟩,0,0,⟨#[]⟩⟩ ts.tail):=ah ⟨CB (aB6.o.below jH.o) MN.o (by have:=vP.o;have:=R.b0;omega) (by have:=vP.o;omega),by have:=vP.o;omega,by have:=vP.o;have:=R.b0;omega,by rw[<- Ew];exact ng RU.o.2 rfl,HD0.o⟩;have Us:aj (w.grownBy W5 (some R.br)):=ah (by rw[<- Ew];exact vX (jM OU.o (jL jH.o)) _ _ _ (cB vP.o.1));have gG:aj (W5.heap[w.heap.size]? =some (.cells Hl 43 (0,0))):=ah ((MN.o.block _ (aG (aO HZ3.o) jH.o.size) (by have:=vP.o;simp;omega)).trans ((jH.o.block _ (aO HZ3.o)).trans HZ3.o));clear Ew MN jH RU F3 HD0 aB6 OU HT3 HZ3;go_simp;have wQ:aj ((tx (bK ts.tail)).size<=maxLen):=ah (xA (xE P5.o.rd.ts hn));go_wp2_with fail;refine(uJ R _ _ hn P5.o.rd).mono ?_;rintro e w6 ⟨rfl,h2,h3⟩;have ug:=ah (P5.o.then h2 h3);have az0:=ah (jM Us.o h3);have iB:=ah ((h3.block _ (aO gG.o) (by have:=kL.o;simp;omega)).trans gG.o);clear h2 h3 P5 Us gG;have c2:=ug.o.cell (j:=2) rfl;have f2:=ug.o.free 2;go_upto_region 6 with fail;generalize hW:World.setCell w6 _ _=W7;have CV:aj (Pd R bd W7 ⟨qU (bK ts),((fP ts:Nat):Int),tx (bK ts.tail),0,0,⟨#[]⟩⟩ ts.tail.tail):=ah (by rw[<- hW];exact ug.o.nm _ wQ.o);have Ut:aj (w.grownBy W7 (some R.br)):=ah (by rw[<- hW];exact Ck az0.o _ _ (cB vP.o.1));have Kk:aj (W7.heap[w.heap.size]? =some (.cells Hl 43 (0,0))):=ah (by rw[<- hW];exact(bf w6 _ _ rfl (by have:=vP.o;show bd≠_;omega)).trans iB.o);clear hW ug az0 iB c2 f2;obtain⟨dd,RV⟩: ∃dd,aj ((⟨qU (bK ts),((fP ts:Nat):Int),tx (bK ts.tail),0,0,⟨#[]⟩⟩:De)=dd):=⟨_,ah rfl⟩;have HKK:aj (dd.kind=qU (bK ts)):=ah (by rw[<- RV.o]);rw[RV.o]at CV HKR;obtain⟨r1,HR1⟩: ∃r1,aj (ts.tail.tail=r1):=⟨_,ah rfl⟩;rw[HR1.o]at CV HKR;have c0:W7.cell? ⟨bd,0,none⟩=some (.int .i64 dd.kind):=CV.o.cell rfl;go_upto_block 0 with fail;go_cut [6] (λs6 W'=>s6= .bool true∧Pd R bd W' dz rz∧w.grownBy W' (some R.br)∧W'.heap[w.heap.size]? =some (.cells Hl 43 (0,0)))
 case first=>
  rcases HKR.o with⟨k1,d2,q,hs,hm,hi⟩|⟨⟨k1,k2,k5⟩,hm,hz,hr⟩|⟨⟨k1,k2,k5⟩,hz,hr⟩
  ·have HC:=ah (av6 R bd r1 q dd d2 W7 CV.o hs);have MH:aj (∀W,Pd R bd W d2 q->Calls Tryz.prog 140 #[.pointer (some ⟨R.br,0,none⟩),.pointer (some ⟨bd,0,none⟩)] W (DmP R bd W (.ok dz rz))):=ah (λW h=>Vh R bd q rz d2 dz W h hm hi);clear hs hm hi;go_wp2_with fail;refine HC.o.mono ?_;rintro e w8 ⟨rfl,h2,h3⟩;have vS:=ah h2;have OV:=ah (Xh Ut.o h3 (cB vP.o.1));have Ga:=ah (Ia h3 Kk.o (by have:=kL.o;omega) (by have:=vP.o;omega));clear h2 h3 HC;have HC:=ah (MH.o _ vS.o);clear MH;go_wp2_with fail;refine HC.o.mono ?_;rintro e w9 ⟨rfl,h2,h3⟩;have zI:=ah h2;have HF9:=ah h3;clear h2 h3;go_wp2_with fail;go_meet;exact⟨rfl,zI.o,Xh OV.o HF9.o (cB vP.o.1),Ia HF9.o Ga.o (by have:=kL.o;omega) (by have:=vP.o;omega)⟩
  ·have Ux:aj ((tx (bK r1)).size<=maxLen):=ah (xA (xE CV.o.rd.ts hm));subst hz hr;go_wp2_with fail;refine(uJ R _ _ hm CV.o.rd).mono ?_;rintro e w8 ⟨rfl,h2,h3⟩;have vS:=ah (CV.o.then h2 h3);have OV:=ah (jM Ut.o h3);have Ga:=ah ((h3.block _ (aO Kk.o) (by have:=kL.o;simp;omega)).trans Kk.o);clear h2 h3;have c5:=vS.o.cell (j:=5) rfl;have f5:=vS.o.free 5;go_wp2_with fail;go_meet;exact⟨rfl,vS.o.on _ Ux.o,Ck OV.o _ _ (cB vP.o.1),(bf w8 _ _ rfl (by have:=vP.o;show bd≠_;omega)).trans Ga.o⟩
  ·subst hz hr;go_wp2_with fail;go_meet;exact⟨rfl,CV.o,Ut.o,Kk.o⟩
 obtain⟨rfl,hPd,hGr,hZ⟩:=hcut;obtain⟨W8,rfl⟩: ∃W:World,W=wc:=⟨_,rfl⟩;have vS:=ah hPd;have OV:=ah hGr;have Ga:=ah hZ;clear hPd hGr hZ CV Ut Kk c0 HKR;have KD: ∀w',W8.grownBy w' (some R.br)->(w'.cell? ⟨bd,0,none⟩=some (.int .i64 dz.kind)∧w'.cell? ⟨bd,1,none⟩=some (.int .i64 dz.line)∧w'.cell? ⟨bd,2,none⟩=some (.string dz.nm)∧w'.cell? ⟨bd,3,none⟩=some (.int .i64 dz.size)∧w'.cell? ⟨bd,4,none⟩=some (.int .i64 dz.init)∧w'.cell? ⟨bd,5,none⟩=some (.string dz.on)):=λw' h=>by have hb:=(h.block _ vS.o.lt (by simp;exact vS.o.ne)).trans vS.o.blk;exact⟨aQ hb rfl,aQ hb rfl,aQ hb rfl,aQ hb rfl,aQ hb rfl,aQ hb rfl⟩
 have HIP:aj (eP W8 R rz):=ah vS.o.rd;have e0: ∀w',W8.grownBy w' (some R.br)->w'.heap[w.heap.size]? =some (.cells Hl 43 (0,0)):=λw' h=>(h.block _ (aO Ga.o) (by have:=kL.o;simp;omega)).trans Ga.o;have OM:=ah e0;clear e0;go_upto_region 15 with fail;refine dI (by kernel_rfl) rfl ?_;refine dw 0 8 [4,6] [[],[],[1],[1,2],[1,2,3],[1,2,3,4],[0,1,2,3,4],[0,1,2,3,4,5,6]] [[none,some false],[some false,some false],[some false,some false],[some false,some false],[some false,some false],[some true,none],[some true,some false],[some true,some true]] (yL (λw'=>eP w' R rz∧W8.grownBy w' (some R.br)) (λw'=>eP w' R rz.tail∧W8.grownBy w' (some R.br)) (λw'=> ∃w2,(eP w2 R rz.tail∧W8.grownBy w2 (some R.br))∧w'=w2.setCells w.heap.size 0 (oF dz))) (λ_ _=>True) [53,54,55,56,57,58,3] rfl rfl (by rfl) (by kernel_rfl) (by kernel_rfl) (by kernel_rfl) (by kernel_rfl) (by kernel_rfl) (by rfl) (λ_=>trivial) (by rfl) ⟨HIP.o.below (below_drewN (ak _ _) 1),jL (below_drewN (ak _ _) 1)⟩ ?_;simp only[iW,mU];apply bS.step
 case bg=>intro c A w' hok hC hO hD;obtain⟨x,y,rfl⟩:=hC.bits;obtain⟨rfl,-⟩:=hok;obtain⟨d0,d1,d2,d3,d4,d5⟩:=KD w' (hC.gr (λ_ h=>h.2) (λ_ h=>h.2));have e5:=hO 5 (by rfl);simp[Act.eval]at e5;simp[Act.eval]at hD;simp[go_sem,gd,Oper.wp,e5,d0,d1,d2,d3,d4,d5];exact aR.mk trivial (yL.skip (by rfl) (by rfl) hC) (bZ.mk _ _)
 iterate 3
  apply bS.step
  case bg=>intro c A w' hok hC hO hD;have e6:=hO 6 (by rfl);have e0:=hO 0 (by rfl);simp[Act.eval]at e6 e0;simp[Act.eval]at hD;simp[go_sem,gd,Oper.wp,hD,e6,e0];exact aR.mk trivial (yL.skip (by rfl) (by rfl) hC) (bZ.mk _ _)
 apply bS.step
 case bg=>intro c A w' hok hC hO hD;obtain⟨x,y,rfl⟩:=hC.bits;obtain⟨rfl,rfl,-⟩:=hok;simp[Act.eval]at hD;simp[go_sem,gd,Oper.wp,hD];refine(kW R _ _ ⟨#[59]⟩ rfl h4 hC.1).mono ?_;rintro e w3 ⟨rfl,k2,k3⟩;exact aR.mk trivial (yL.fire (by rfl) (by rfl) ⟨k2,jM hC.2 k3⟩) (bZ.mk _ _)
 try simp only[dR]
 apply bS.step
 case bg=>intro c A w' hok hC hO hD;simp[Act.eval]at hD;simp[go_sem,gd,Oper.wp,hD];exact aR.mk trivial (yL.skip (by rfl) (by rfl) hC) (bZ.mk _ _)
 refine bS.some (λ_ _=>True) (λ_ _ _ _ _=>trivial) ?_ ?_
 ·intro c A w' hok hC hO hD;obtain⟨x,y,rfl⟩:=hC.bits;obtain⟨rfl,rfl,-⟩:=hok;have e2:=hO 2 (by rfl);simp[Act.eval]at e2;simp[Act.eval]at hD;simp only[gd,if_true];refine wp_store_mid _ _ _ (by rfl) w.heap.size 0 (oF dz).toArray (by simp[Act.eval,e2]) (by simp[Act.eval,hD,oF]) (CK (OM.o w' hC.2) (aB 6)) X8 (by simp[oF,Value.oneCell']) ?_;exact aR.Cx trivial (yL.last (by rfl) (by rfl) ⟨w',hC,rfl⟩) trivial
 apply bS.step
 case bg=>intro c A w' hok hC hO hD;simp[Act.eval]at hD;simp[go_sem,gd,Oper.wp,hD];exact aR.mk trivial (yL.skip (by rfl) (by rfl) hC) (bZ.mk _ _)
 try simp only[dR]
 refine bS.done ?_;intro w9 hC9
 try simp only[List.drop_succ_cons,List.drop_zero]
 intro x0 h0 x1 h1 x2 h2 x3 h3 x4 h4 x5 h5 x6 h6 x7 h7;have h7':=Eq.symm (show x7=_ from h7);subst h7';clear h0 h1 h2 h3 h4 h5 h6 h7;refine DI ?_;refine eO rfl ?_;obtain⟨w2,hw2,hw9⟩: ∃w2,(eP w2 R _∧W8.grownBy w2 (some R.br))∧w9=w2.setCells w.heap.size 0 (oF dz):=hC9;have tC:w9.heap[w.heap.size]? =some (.cells (oF dz).toArray 43 (0,0)):=by rw[hw9];exact ng (OM.o w2 hw2.2) rfl
 have HW9:=ah hw9;obtain⟨y0,y1,y2,y3,y4,y5⟩:=rE tC;have HFN:=ah (aG4 (d:=dz) vS.o.ok hw2.1 (jM OV.o hw2.2) kL.o.1);rw[<- hw9]at HFN;clear hw9 tC KD;go_simp;go_wp2_with fail;exact bodyPost_ret (v:= .tuple #[Xa dz,.bool true]) (by simp[results,Tryz.results100,go_sem,Xa,y0,y1,y2,y3,y4,y5]) rfl HFN.o
theorem as5:(Tryz.prog.info? 9).map (λi=>(i.zero,i.size,i.bytes))=some (some (.string ⟨#[]⟩),1,16):=by kernel_rfl
theorem aN6: ∃i0,Tryz.prog.info? 9=some i0∧i0.zero=some (.string ⟨#[]⟩)∧i0.size=1∧i0.bytes=16:=info_parts as5
theorem bs7 (k:Int) (s:ByteArray) (n:Int) (w:World):(Instr.field 156 (.agg #[.int .i64 k,.string s,.int .i64 n]) 0).run Tryz.prog w= .ok (.int .i64 k) w:=by kernel_rfl
theorem bs8 (k:Int) (s:ByteArray) (n:Int) (w:World):(Instr.field 156 (.agg #[.int .i64 k,.string s,.int .i64 n]) 1).run Tryz.prog w= .ok (.string s) w:=by kernel_rfl
theorem bs9 (k:Int) (s:ByteArray) (n:Int) (w:World):(Instr.field 156 (.agg #[.int .i64 k,.string s,.int .i64 n]) 2).run Tryz.prog w= .ok (.int .i64 n) w:=by kernel_rfl
def aE8 (R:Rp) (w:World) (t:Th) (r:bC) (e:Ending) (w':World):Prop:=(∃x:dU,x.t=t∧e= .returned (.tuple #[.agg (dU.f x).toArray,.bool true])∧(x.t.Ok∧x.t.cO.length<=x.eX)∧gU w.heap.size w' (dU.I x))∧eP w' R r∧w.grownBy w' (some R.br)
def Un:Array Value:= #[.string ⟨#[]⟩,.int .i64 0,.slice none 0 0,.slice none 0 0]
theorem z4t {w:World} {b:Nat} {t:TypeId} (h:w.heap[b]? =some (.cells Un t (0,0))):
 (w.cell? ⟨b,0,none⟩=some (.string ⟨#[]⟩)∧w.cell? ⟨b,1,none⟩=some (.int .i64 0)∧w.cell? ⟨b,2,none⟩=some (.slice none 0 0)∧w.cell? ⟨b,3,none⟩=some (.slice none 0 0))∧∀j,w.frozen? ⟨b,j,none⟩=false:=
 ⟨⟨aQ h rfl,aQ h rfl,aQ h rfl,aQ h rfl⟩,λ_=>bH h⟩
structure Ps (R:Rp) (bt B:Nat) (w W:World) (nm:ByteArray) (line:Int) (v:Value) (l:List ByteArray) (rest:bC):Prop where
 rd:eP W R rest
 gr:w.grownBy W (some R.br)
 lt:R.br<w.heap.size∧w.heap.size<bt∧bt<B∧B<=W.heap.size
 z:W.heap[w.heap.size]? =some (.cells Un 57 (0,0))
 blk:W.heap[bt]? =some (.cells #[.string nm,.int .i64 line,v,.slice none 0 0] 57 (0,0))
 row:jZ B W v l
section
variable {R:Rp} {bt B:Nat} {w W W':World} {nm:ByteArray} {line:Int} {v:Value} {l:List ByteArray} {rest rest':bC}
theorem Ps.then (h:Ps R bt B w W nm line v l rest) (h1:eP W' R rest') (h2:W.grownBy W' (some R.br)):Ps R bt B w W' nm line v l rest':=
 ⟨h1,jM h.gr h2,⟨h.lt.1,h.lt.2.1,h.lt.2.2.1,aP h.lt.2.2.2 h2.size⟩,(h2.block _ (aO h.z) (by have:=h.lt;simp;omega)).trans h.z,(h2.block _ (aO h.blk) (by have:=h.lt;simp;omega)).trans h.blk,h.row.next (zP h2 (by have:=h.lt;omega))⟩
theorem Ps.below (h:Ps R bt B w W nm line v l rest) (hb:Below W.heap.size W W'):Ps R bt B w W' nm line v l rest:=h.then (h.rd.below hb) (jL hb)
theorem Ps.cells (h:Ps R bt B w W nm line v l rest):W.cell? ⟨bt,0,none⟩=some (.string nm)∧W.cell? ⟨bt,1,none⟩=some (.int .i64 line)∧W.cell? ⟨bt,2,none⟩=some v∧W.cell? ⟨bt,3,none⟩=some (.slice none 0 0)∧∀j,W.frozen? ⟨bt,j,none⟩=false:=
 ⟨aQ h.blk rfl,aQ h.blk rfl,aQ h.blk rfl,aQ h.blk rfl,λ_=>bH h.blk⟩
theorem Ps.name (h:Ps R bt B w W nm line v l rest) (s:ByteArray):Ps R bt B w (W.setCell ⟨bt,0,none⟩ (.string s)) s line v l rest:=
 ⟨uQ h.rd _ _ (by have:=h.lt;have:=R.b0;show R.B0<=bt;omega) (by have:=h.lt;show bt≠R.br;omega),Ck h.gr _ _ (by have:=h.lt;show _<=bt;omega),by have:=h.lt;simpa[World.setCell]using this,(bf W _ _ rfl (by have:=h.lt;show bt≠_;omega)).trans h.z,by rw[dh h.blk];rfl,h.row.next (iF W ⟨bt,0,none⟩ _ h.lt.2.2.1)⟩
theorem Ps.cO {v':Value} {l':List ByteArray} (h:Ps R bt B w W nm line v l rest) (hr:eP W' R rest) (hg:w.grownBy W' (some R.br)) (hB:Below B W W') (hrow:jZ B W' v' l'):Ps R bt B w (W'.setCell ⟨bt,2,none⟩ v') nm line v' l' rest:=
 ⟨uQ hr _ _ (by have:=h.lt;have:=R.b0;show R.B0<=bt;omega) (by have:=h.lt;show bt≠R.br;omega),Ck hg _ _ (by have:=h.lt;show _<=bt;omega),by have h1:=h.lt;have h2:=hB.size;simp[World.setCell];omega,(bf W' _ _ rfl (by have:=h.lt;show bt≠_;omega)).trans ((hB.block _ (by have:=h.lt;omega)).trans h.z),by rw[dh ((hB.block _ h.lt.2.2.1).trans h.blk)];rfl,hrow.next (iF W' ⟨bt,2,none⟩ _ h.lt.2.2.1)⟩
theorem Ps.SI (h:Ps R bt B w W nm line v l rest) (b:Value): ∀W',W.setCell ⟨bt,3,none⟩ b=W'->eP W' R rest∧w.grownBy W' (some R.br)∧W'.heap[w.heap.size]? =some (.cells Un 57 (0,0))∧W'.heap[bt]? =some (.cells #[.string nm,.int .i64 line,v,b] 57 (0,0)):=by
 intro W' hW;subst hW;exact⟨uQ h.rd _ _ (by have:=h.lt;have:=R.b0;show R.B0<=bt;omega) (by have:=h.lt;show bt≠R.br;omega),Ck h.gr _ _ (by have:=h.lt;show _<=bt;omega),(bf W _ _ rfl (by have:=h.lt;show bt≠_;omega)).trans h.z,by rw[dh h.blk];rfl⟩
end
theorem YA {R:Rp} {w W:World} {x:dU} {r:bC} {B:Nat} (hok:x.t.Ok∧x.t.cO.length<=x.eX) (hst:gU B W (dU.I x)) (hB:w.heap.size<B) (hr:eP W R r) (hg:w.grownBy W (some R.br)) (hl:R.br<w.heap.size):
 aE8 R w x.t r (.returned (.tuple #[.agg (dU.f x).toArray,.bool true])) (W.setCells w.heap.size 0 (dU.f x)):=
 ⟨⟨x,rfl,rfl,hok,(hst.next ⟨(dX w.heap.size _ 0 W).size,λk h1 h2=>(dX w.heap.size _ 0 W).block k h2 (by simp;omega)⟩).mono (cB hB)⟩,CB hr (dX _ _ _ _) (by have:=R.b0;omega) (by omega),vX hg _ _ _ (aB _)⟩
def LzR (r6:bC) (l:List ByteArray) (r:bC):Prop:=
 (at' [41] r6=true∧l=[]∧r=r6.tail)∨(at' [41] r6=false∧isName r6=true∧at' [44] r6.tail=false∧at' [41] r6.tail=true∧l=[tx (bK r6)]∧r=r6.tail.tail)
theorem YB (R:Rp) (ts r q:bC) (l:List ByteArray) (b:aY) (w:World) (hI:eP w R ts) (hk:at' [116,104,114,101,97,100] ts=true) (hn:isName ts.tail=true) (h4:at' [40] ts.tail.tail=true) (hl:LzR ts.tail.tail.tail l r) (OG:aj (uT R r b q)):
 Calls Tryz.prog 102 #[.pointer (some ⟨R.br,0,none⟩)] w (aE8 R w ⟨tx (bK ts.tail),fP ts,l,b⟩ q):=by
 have HLZ:=ah hl;clear hl;have HI:=ah hI;have HL:=ah (F6 hI);have hlt:=hI.lt;obtain⟨t0,r0,hr⟩:=WL hk;have MX:=ah hr;clear hk hr;have hf2:=bs9;go_enter Tryz.func102,Tryz.ntmps102;go_upto_region 1 with fail;generalize hW:World.alloc w _=W0;have HB0:aj (Below w.heap.size w W0):=ah (by rw[<- hW];exact au _ _);have HZ0:aj (W0.heap[w.heap.size]? =some (.cells Un 57 (0,0))):=ah (by rw[<- hW];exact heap_alloc_new _ _);have HN:=ah (qW R ts W0 (HI.o.below HB0.o));unfold wL at HN;clear hW hI;go_wp2_with fail;refine HN.o.mono ?_;rintro e w1 ⟨rfl,h2⟩;have HB1:=ah (HB0.o.trans (h2.mono HB0.o.size));have HZ1:=jl h2 HZ0;clear h2 HN HB0 HZ0;go_upto_region 2 with fail;obtain⟨bt,hg⟩: ∃g,w1.heap.size=g:=⟨_,rfl⟩;rw[hg];generalize hW:World.alloc w1 _=W2;have HB2:aj (Below w.heap.size w W2):=ah (by rw[<- hW];exact HB1.o.alloc HB1.o.size _);have kL:aj (R.br<w.heap.size∧w.heap.size<bt):=ah ⟨hlt,by rw[<- hg];exact(aO HZ1.o)⟩;have HS2:aj (Ps R bt (bt+1) w W2 ⟨#[]⟩ ((fP ts:Nat):Int) (.slice none 0 0) [] ts):=ah ⟨HI.o.below HB2.o,jL HB2.o,⟨hlt,kL.o.2,Nat.lt_succ_self _,by rw[<- hW];simp;omega⟩,by rw[<- hW];exact(heap_alloc_old _ _ (aO HZ1.o)).trans HZ1.o,by rw[<- hW,<- hg];exact heap_alloc_new _ _,Grow.nil _ _ _ _ _ _⟩;obtain⟨pos,hp,q0,q1,fq,HX⟩:=HS2.o.rd.open;clear hW hg HB1 HZ1 HB2;go_upto_region 3 with fail;generalize hW:World.setCell W2 _ _=W3;have HQ:aj (eP W3 R ts.tail∧W2.grownBy W3 (some R.br)):=ah (by rw[<- hW,MX.o];exact HX.o t0 r0 MX.o);have mZ:=ah (HS2.o.then HQ.o.1 HQ.o.2);clear hW q0 q1 fq HX HQ HS2;have wQ:aj ((tx (bK ts.tail)).size<=maxLen):=ah (xA (xE mZ.o.rd.ts hn));go_wp2_with fail;refine(uJ R _ _ hn mZ.o.rd).mono ?_;rintro e w4 ⟨rfl,h2,h3⟩;have CW:=ah (mZ.o.then h2 h3);clear h2 h3 mZ;obtain⟨c0,c1,c2,c3,fc⟩:=CW.o.cells;have fc0:=fc 0;go_upto_region 5 with fail;generalize hW:World.setCell w4 _ _=W5;have HS5:aj (Ps R bt (bt+1) w W5 (tx (bK ts.tail)) ((fP ts:Nat):Int) (.slice none 0 0) [] ts.tail.tail):=ah (by rw[<- hW];exact CW.o.name _);clear hW c0 c1 c2 c3 fc fc0 CW;go_wp2_with fail;refine(kW R _ _ ⟨#[40]⟩ rfl h4 HS5.o.rd).mono ?_;rintro e w6 ⟨rfl,h2,h3⟩;have yO:=ah (HS5.o.then h2 h3);clear h2 h3 HS5;obtain⟨r6,tK⟩: ∃r6,aj (ts.tail.tail.tail=r6):=⟨_,ah rfl⟩;rw[tK.o]at yO HLZ;rcases HLZ.o with⟨h5,hl,hr⟩|⟨h5,hm,h6,h7,hl,hr⟩
 ·subst hl hr;clear HLZ;have Fv:aj (([]:List ByteArray).length<=maxLen):=ah (bT _);have dB:aj (∀s∈([]:List ByteArray),s.size<=maxLen):=ah (by simp);go_wp2_with fail;refine(kW R _ _ ⟨#[41]⟩ rfl h5 yO.o.rd).mono ?_;rintro e w7 ⟨rfl,h2,h3⟩;have K8:=ah (yO.o.then h2 h3);clear h2 h3 yO;obtain⟨v',Pe⟩: ∃v',aj (Ps R bt (bt+1) w _ (tx (bK ts.tail)) ((fP ts:Nat):Int) v' ([]:List ByteArray) r6.tail):=⟨_,K8⟩;clear K8;go_wp2_with fail;refine(OG.o _ Pe.o.rd).mono ?_;rintro e w8 ⟨⟨ao,cap,rfl,hl,hst⟩,h2,h3⟩;have yP:=ah (Pe.o.then h2 h3);have pF:aj (b.len<=maxLen∧gU (bt+1) w8 (λw2=>b.At w2 w2.heap.size ao 0)):=ah ⟨aP hl (by unfold maxLen;decide),hst.mono Pe.o.lt.2.2.2⟩;clear h2 h3 hl hst;obtain⟨iR,eX,hv,hcl,htx⟩:=yP.o.row.says dB.o;have HV:=ah hv;have BU:=ah (aI hcl htx);clear hv hcl htx;obtain⟨c0,c1,c2,c3,fc⟩:=yP.o.cells;have fc3:=fc 3;go_upto_region 16 with fail;generalize hW:World.setCell w8 _ _=W9;have E5:=ah (yP.o.SI (.slice ao b.len cap) W9 hW);have JU:aj (kG (bt+1) w8 W9):=ah (by rw[<- hW];exact iF w8 ⟨bt,3,none⟩ _ (Nat.lt_succ_self _));clear hW c0 c1 c2 c3 fc fc3;obtain⟨e0,e1⟩:=pK E5.o.2.2.2;have e2:W9.cell? ⟨bt,2,none⟩=some (.slice iR (([]:List ByteArray)).length eX):=(aQ E5.o.2.2.2 rfl).trans (congrArg some HV.o);have e3:W9.cell? ⟨bt,3,none⟩=some (.slice ao b.len cap):=aQ E5.o.2.2.2 rfl;obtain⟨⟨y0,y1,y2,y3⟩,fz⟩:=z4t E5.o.2.2.1;have g0:=fz 0;have g1:=fz 1;have g2:=fz 2;have g3:=fz 3;clear fz;go_wp2_with fail;exact bodyPost_ret (v:= .tuple #[.agg (dU.f ⟨⟨tx (bK ts.tail),((fP ts:Nat):Int),([]:List ByteArray),b⟩,iR,eX,ao,cap⟩).toArray,.bool true]) (by simp[results,Tryz.results102,go_sem,dU.f,y0,y1,y2,y3]) rfl (YA (x:=⟨⟨tx (bK ts.tail),((fP ts:Nat):Int),([]:List ByteArray),b⟩,iR,eX,ao,cap⟩) (B:=bt+1) ⟨⟨wQ.o,HL.o,Fv.o,pF.o.1⟩,BU.o.1⟩ (λw2 h2=>⟨BU.o.2 w2 (JU.o.trans h2),pF.o.2 w2 (JU.o.trans h2)⟩) (by have:=kL.o;omega) E5.o.1 E5.o.2.1 kL.o.1)
 ·subst hr;clear HLZ;obtain⟨i0,hi,hz0,hz1,hz2⟩:=aN6;have iq:=ah (aI hi (aI hz0 (aI hz1 hz2)));clear hi hz0 hz1 hz2;go_wp2_with fail;refine(pI R _ _ ⟨#[41]⟩ rfl h5 yO.o.rd).mono ?_;rintro e w7 ⟨rfl,h2⟩;have K8:=ah (yO.o.below h2);clear h2 yO;go_wp2_with fail;go_loopw [6] (λ_ wr=>wr=w7) (λ_ _=>0)
  case atStart=>rfl
  case round=>
   subst hrel;have Ux:aj ((tx (bK r6)).size<=maxLen):=ah (xA (xE K8.o.rd.ts hm));go_wp2_with fail;refine(uJ R _ _ hm K8.o.rd).mono ?_;rintro e w8 ⟨rfl,h2,h3⟩;have yP:=ah (K8.o.then h2 h3);clear h2 h3 K8;obtain⟨c0,c1,c2,c3,fc⟩:=yP.o.cells;go_upto_region 11 with fail;obtain⟨s0,P8⟩: ∃s0,aj (tx (bK r6)=s0):=⟨_,ah rfl⟩;rw[P8.o]at hl Ux⊢;have nP:=ah (yP.o.row.next (bL (au w8 (.cells (rQ s0).toArray 9))));have jS:=ah (iM (heap_alloc_new w8 (.cells (rQ s0).toArray 9)));obtain⟨hi,hz0,hz1,hz2⟩:=iq.o;have hbs:bt+1<=w8.heap.size+1:=Nat.le_succ_of_le yP.o.lt.2.2.2;have hkl:0+1<=maxLen:=by unfold maxLen;omega
   have Qq:(0+1)*16<=140737488355328:=by omega
   have fc2:=fc 2;clear fc;go_wp2_with (at_builtin;refine wpList_append_lies _ rfl _ _ 31 rfl (bt+1) 9 i0 _ 1 16 Tryz.underlying31 hi hz0 hz1 hz2 rfl (by decide) _ _ _ rfl nP.o.own ⟨w8.heap.size,0,none⟩ 1 1 (rQ s0) rfl rfl jS.o (by simp[rQ,Value.oneCell']) (by decide) hkl Qq (by simpa using hbs) _ rfl ?_);clear hi hz0 hz1 hz2;intro g cap w9 hown hgr hmv hlt2;have tJ:aj (∀k,(Value.slice none 0 0).ownBlock=some k->bt+1<=k):=ah (λk hk=>(yP.o.row.lt k hk).1);have tC:aj (Below (bt+1) (w8.alloc (.cells (rQ s0).toArray 9)) w9):=ah (vU hgr tJ.o (by simpa using hbs));have pF:aj (Below (bt+1) w8 w9):=ah (((au w8 (.cells (rQ s0).toArray 9)).mono yP.o.lt.2.2.2).trans tC.o);have Fy:aj (oz (bt+1) (Value.slice none 0 0).ownBlock (w8.alloc (.cells (rQ s0).toArray 9)) (λ_=>True)):=ah (λ_ _=>trivial);have DX:=ah (nP.o.push (x:=s0) Fy.o rfl hown hgr (by simpa using hmv));have MZ:aj (eP w9 R r6.tail):=ah (Lf (zo yP.o.rd _) hgr (λk hk=>by have h1:=tJ.o k hk;have h2:=kL.o;have h3:=R.b0;omega));have FW:aj (w.grownBy w9 (some R.br)):=ah (KE (zn yP.o.gr _) (tC.o.mono (by have:=kL.o;omega)));have yc:w9.heap[bt]? =some (.cells #[.string (tx (bK ts.tail)),.int .i64 ((fP ts:Nat):Int),.slice none 0 0,.slice none 0 0] 57 (0,0)):=(pF.o.block _ (Nat.lt_succ_self _)).trans yP.o.blk;have c2:w9.cell? ⟨bt,2,none⟩=some (.slice none 0 0):=aQ yc rfl;have f2:w9.frozen? ⟨bt,2,none⟩=false:=bH yc;clear hown hgr hmv hlt2 hbs hkl Qq Fy jS nP tC yc fc2;go_upto_region 12 with fail;generalize hW:World.setCell w9 _ _=FB;have Ji:aj (Ps R bt (bt+1) w FB (tx (bK ts.tail)) ((fP ts:Nat):Int) (.slice (some ⟨g,0,none⟩) 1 cap) [s0] r6.tail):=ah (by rw[<- hW];exact yP.o.cO MZ.o FW.o pF.o DX.o);clear hW c2 f2 yP MZ FW pF DX tJ;subst hl;have dB:aj (∀s∈ [s0],s.size<=maxLen):=ah (λy hy=>by rw[List.mem_singleton.1 hy];exact Ux.o);have Fv:aj ([s0].length<=maxLen):=ah (by simp[maxLen]);go_wp2_with fail;refine(pI R _ _ ⟨#[44]⟩ rfl h6 Ji.o.rd).mono ?_;rintro e FN ⟨rfl,h2⟩;have Zd:=ah (Ji.o.below h2);clear h2 Ji;go_wp2_with fail;refine(kW R _ _ ⟨#[41]⟩ rfl h7 Zd.o.rd).mono ?_;rintro e Lp ⟨rfl,h2,h3⟩;have aC0:=ah (Zd.o.then h2 h3);clear h2 h3 Zd;obtain⟨v',Pe⟩: ∃v',aj (Ps R bt (bt+1) w _ (tx (bK ts.tail)) ((fP ts:Nat):Int) v' [s0] r6.tail.tail):=⟨_,aC0⟩;clear aC0;go_wp2_with fail;refine(OG.o _ Pe.o.rd).mono ?_;rintro e w8 ⟨⟨ao,cap,rfl,hl,hst⟩,h2,h3⟩;have yP:=ah (Pe.o.then h2 h3);have pF:aj (b.len<=maxLen∧gU (bt+1) w8 (λw2=>b.At w2 w2.heap.size ao 0)):=ah ⟨aP hl (by unfold maxLen;decide),hst.mono Pe.o.lt.2.2.2⟩;clear h2 h3 hl hst;obtain⟨iR,eX,hv,hcl,htx⟩:=yP.o.row.says dB.o;have HV:=ah hv;have BU:=ah (aI hcl htx);clear hv hcl htx;obtain⟨c0,c1,c2,c3,fc⟩:=yP.o.cells;have fc3:=fc 3;go_upto_region 16 with fail;generalize hW:World.setCell w8 _ _=W9;have E5:=ah (yP.o.SI (.slice ao b.len cap) W9 hW);have JU:aj (kG (bt+1) w8 W9):=ah (by rw[<- hW];exact iF w8 ⟨bt,3,none⟩ _ (Nat.lt_succ_self _));clear hW c0 c1 c2 c3 fc fc3;obtain⟨e0,e1⟩:=pK E5.o.2.2.2;have e2:W9.cell? ⟨bt,2,none⟩=some (.slice iR ([s0]).length eX):=(aQ E5.o.2.2.2 rfl).trans (congrArg some HV.o);have e3:W9.cell? ⟨bt,3,none⟩=some (.slice ao b.len cap):=aQ E5.o.2.2.2 rfl;obtain⟨⟨y0,y1,y2,y3⟩,fz⟩:=z4t E5.o.2.2.1;have g0:=fz 0;have g1:=fz 1;have g2:=fz 2;have g3:=fz 3;clear fz;go_wp2_with fail;exact bodyPost_ret (v:= .tuple #[.agg (dU.f ⟨⟨tx (bK ts.tail),((fP ts:Nat):Int),[s0],b⟩,iR,eX,ao,cap⟩).toArray,.bool true]) (by simp[results,Tryz.results102,go_sem,dU.f,y0,y1,y2,y3]) rfl (YA (x:=⟨⟨tx (bK ts.tail),((fP ts:Nat):Int),[s0],b⟩,iR,eX,ao,cap⟩) (B:=bt+1) ⟨⟨wQ.o,HL.o,Fv.o,pF.o.1⟩,BU.o.1⟩ (λw2 h2=>⟨BU.o.2 w2 (JU.o.trans h2),pF.o.2 w2 (JU.o.trans h2)⟩) (by have:=kL.o;omega) E5.o.1 E5.o.2.1 kL.o.1)
theorem as2:(Tryz.prog.info? 43).map (λi=>(i.zero,i.size,i.bytes))=some (some (.agg Hl),6,64):=by kernel_rfl
theorem aN3: ∃i0,Tryz.prog.info? 43=some i0∧i0.zero=some (.agg Hl)∧i0.size=6∧i0.bytes=64:=info_parts as2
theorem as4:(Tryz.prog.info? 57).map (λi=>(i.zero,i.size,i.bytes))=some (some (.agg Un),4,72):=by kernel_rfl
theorem aN5: ∃i0,Tryz.prog.info? 57=some i0∧i0.zero=some (.agg Un)∧i0.size=4∧i0.bytes=72:=info_parts as4
def UG (R:Rp) (w:World) (res:ow Pr) (e:Ending) (w':World):Prop:=
 match res with
 | .ok p r=>(∃aK aH aM aD,e= .returned (.tuple #[.agg #[.slice aK p.ds.length aH,.slice aM p.ts.length aD],.bool (!p.ts.isEmpty)])∧(p.ds.length<=4096∧p.ts.length<=4096∧p.ds.length<=aH∧p.ts.length<=aD)∧gU w.heap.size w' (λw2=>jo w2 w2.heap.size p.ds aK 0∧iJ w2 w2.heap.size p.ts aM 0))∧eP w' R r∧w.grownBy w' (some R.br)
 | .no r=>(∃a n c a' n' c',e= .returned (.tuple #[.agg #[.slice a n c,.slice a' n' c'],.bool false]))∧eP w' R r∧w.grownBy w' (some R.br)
def YP:Array Value:= #[.slice none 0 0,.slice none 0 0]
structure Pg (R:Rp) (bp:Nat) (w W:World) (vD vT:Value) (rest:bC):Prop where
 rd:eP W R rest
 gr:w.grownBy W (some R.br)
 lt:R.br<w.heap.size∧w.heap.size<bp∧bp<W.heap.size
 z:W.heap[w.heap.size]? =some (.cells YP 26 (0,0))
 blk:W.heap[bp]? =some (.cells #[vD,vT] 26 (0,0))
section
variable {R:Rp} {bp:Nat} {w W W':World} {vD vT:Value} {rest rest':bC}
theorem Pg.then (h:Pg R bp w W vD vT rest) (h1:eP W' R rest') (h2:W.grownBy W' (some R.br)):Pg R bp w W' vD vT rest':=
 ⟨h1,jM h.gr h2,⟨h.lt.1,h.lt.2.1,aG h.lt.2.2 h2.size⟩,(h2.block _ (aO h.z) (by have:=h.lt;simp;omega)).trans h.z,(h2.block _ (aO h.blk) (by have:=h.lt;simp;omega)).trans h.blk⟩
theorem Pg.below (h:Pg R bp w W vD vT rest) (hb:Below W.heap.size W W'):Pg R bp w W' vD vT rest:=h.then (h.rd.below hb) (jL hb)
theorem Pg.put (h:Pg R bp w W vD vT rest) (hr:eP W' R rest) (hg:w.grownBy W' (some R.br)) (hB:Below (bp+1) W W') (j:Nat) (v vD' vT':Value) (hy:(#[vD,vT]:Array Value).setIfInBounds j v= #[vD',vT']):Pg R bp w (W'.setCell ⟨bp,j,none⟩ v) vD' vT' rest:=
 ⟨uQ hr _ _ (by have:=h.lt;have:=R.b0;show R.B0<=bp;omega) (by have:=h.lt;show bp≠R.br;omega),Ck hg _ _ (by have:=h.lt;show _<=bp;omega),by have h1:=h.lt;have h2:=hB.size;simp[World.setCell];omega,(bf W' _ _ rfl (by have:=h.lt;show bp≠_;omega)).trans ((hB.block _ (by have:=h.lt;omega)).trans h.z),by rw[dh ((hB.block _ (Nat.lt_succ_self _)).trans h.blk),hy]⟩
theorem Pg.cells (h:Pg R bp w W vD vT rest):W.cell? ⟨bp,0,none⟩=some vD∧W.cell? ⟨bp,1,none⟩=some vT∧∀j,W.frozen? ⟨bp,j,none⟩=false:=
 ⟨aQ h.blk rfl,aQ h.blk rfl,λ_=>bH h.blk⟩
end
theorem au4:(Tryz.prog.info? 26).map (·.size)=some 2:=by kernel_rfl
theorem aR0 {R:Rp} {w W:World} {p:Pr} {aK aM:Option Addr} {aH aD:Nat} {r:bC} {res:ow Pr} {B:Nat} (e:res= .ok p r) (hl:p.ds.length<=4096∧p.ts.length<=4096∧p.ds.length<=aH∧p.ts.length<=aD)
 (hst:gU B W (λw2=>jo w2 w2.heap.size p.ds aK 0∧iJ w2 w2.heap.size p.ts aM 0)) (hB:w.heap.size<B) (hr:eP W R r) (hg:w.grownBy W (some R.br)) (hlt:R.br<w.heap.size):
 UG R w res (.returned (.tuple #[.agg #[.slice aK p.ds.length aH,.slice aM p.ts.length aD],.bool (!p.ts.isEmpty)])) (W.setCells w.heap.size 0 [.slice aK p.ds.length aH,.slice aM p.ts.length aD]):=by
 subst e;exact⟨⟨aK,aH,aM,aD,rfl,hl,(hst.next ⟨(dX w.heap.size _ 0 W).size,λk h1 h2=>(dX w.heap.size _ 0 W).block k h2 (by simp;omega)⟩).mono (cB hB)⟩,CB hr (dX _ _ _ _) (by have:=R.b0;omega) (by omega),vX hg _ _ _ (aB _)⟩
def Az (P S:World->Prop):List Bool->World->Prop
 | [x],w=>if x then S w else P w
 |_,_=>False
section
variable {P S:World->Prop} {c:List Bool} {w w':World} {k i:Nat}
theorem Az.bits (h:Az P S c w): ∃x,c=[x]:=by
 match c,h with
 | [x],_=>exact⟨x,rfl⟩
 | [],h=>exact h.elim
 |_::_::_,h=>exact h.elim
theorem Az.skip (h1:(k==i)=false) (h:Az P S c w):Az P S (jw [k] c i) w:=by
 obtain⟨x,rfl⟩:=h.bits;simp only[jw,h1,Bool.or_false];exact h
theorem Az.fire (h1:(k==i)=true) (h:S w):Az P S (jw [k] [false] i) w:=by
 simp only[jw,h1,Bool.or_true];exact h
end
theorem XH (rest:bC):isDecl rest=((((nextK rest:Nat):Int)==3)&&(qU (bK rest) != 0)):=by
 unfold isDecl;rw[NJ 3];rfl
theorem kG.aF4 {B:Nat} {w w1 w2:World} (h:kG B w w1) (hb:Below w.heap.size w1 w2):kG B w w2:=⟨aP h.1 hb.size,λk h1 h2=>(hb.block k h2).trans (h.2 k h1 h2)⟩
theorem au2 {R:Rp} {w:World} {ts:bC} {bp:Nat} (hI:eP w R ts) (hg:w.heap.size+1=bp): ∀W,((w.alloc (.cells #[.slice none 0 0,.slice none 0 0] 26)).alloc (.cells #[.slice none 0 0,.slice none 0 0] 26))=W->Pg R bp w W (.slice none 0 0) (.slice none 0 0) ts:=by
 intro W hW;have hb1:Below w.heap.size w (w.alloc (.cells #[.slice none 0 0,.slice none 0 0] 26)):=au _ _;have hz1:(w.alloc (.cells #[.slice none 0 0,.slice none 0 0] 26)).heap[w.heap.size]? =some (.cells YP 26 (0,0)):=heap_alloc_new _ _;have hs1:(w.alloc (.cells #[.slice none 0 0,.slice none 0 0] 26)).heap.size=bp:=by simp[hg]
 generalize w.alloc (.cells #[.slice none 0 0,.slice none 0 0] 26)=W1 at *;have hb2:Below w.heap.size w W:=by rw[<- hW];exact hb1.alloc hb1.size _
 exact⟨hI.below hb2,jL hb2,⟨hI.lt,by omega,by rw[<- hW];simp;omega⟩,by rw[<- hW];exact(heap_alloc_old _ _ (aO hz1)).trans hz1,by rw[<- hW,<- hs1];exact heap_alloc_new _ _⟩
inductive Dz:bC->List De->bC->Prop
 |nil {ts:bC} :isDecl ts=false->Dz ts [] ts
 |cons {ts q r:bC} {d:De} {m:List De} :isDecl ts=true->isName ts.tail=true->KzR ⟨qU (bK ts),((fP ts:Nat):Int),tx (bK ts.tail),0,0,⟨#[]⟩⟩ ts.tail.tail d q->at' [59] q=true->Dz q.tail m r->Dz ts (d::m) r
inductive Tz (S:bC->aY->bC->Prop):bC->List Th->bC->Prop
 |nil {ts:bC} :at' [116,104,114,101,97,100] ts=false->Tz S ts [] ts
 |cons {ts r q r':bC} {l:List ByteArray} {b:aY} {m:List Th} :at' [116,104,114,101,97,100] ts=true->isName ts.tail=true->at' [40] ts.tail.tail=true->LzR ts.tail.tail.tail l r->S r b q->Tz S q m r'->Tz S ts (⟨tx (bK ts.tail),fP ts,l,b⟩::m) r'
theorem VA (R:Rp) (S:bC->aY->bC->Prop) (Pb:aj (∀r b q,S r b q->uT R r b q)) (ts r1 r9:bC) (ds:List De) (th:List Th) (hD:Dz ts ds r1) (hT:Tz S r1 th r9) (hl:ds.length<=4096∧th.length<=4096) (w:World) (hI:eP w R ts):
 Calls Tryz.prog 72 #[.pointer (some ⟨R.br,0,none⟩)] w (UG R w (.ok ⟨ds,th⟩ r9)):=by
 have HI:=ah hI;have kL:=ah hI.lt;have HDT:=ah (aI hD hT);have Fv:=ah hl;have hf0:=bs7;have hf1:=bs8;clear hI hD hT hl;go_enter Tryz.func72,Tryz.ntmps72;go_upto_block 0 with fail;obtain⟨bp,hg⟩: ∃g,w.heap.size+1=g:=⟨_,rfl⟩;rw[hg];generalize hW:World.alloc (World.alloc w _) _=W0;have Wv:aj (Pg R bp w W0 (.slice none 0 0) (.slice none 0 0) ts):=ah (au2 HI.o hg W0 hW);clear hW hg;go_cut [] (λW'=> ∃vD,Pg R bp w W' vD (.slice none 0 0) r1∧EI (bp+1) W' vD ds∧(∀d∈ds,d.Ok))
 case first=>
  obtain⟨i0,hi,hz0,hz1,hz2⟩:=aN3;have iq:=ah (aI hi (aI hz0 (aI hz1 hz2)));clear hi hz0 hz1 hz2;go_wp2_with fail;go_loopg [5,6] ds.length (λgk _ _ wr=> ∃(l m:List De) (rest:bC) (vD:Value),gk=m.length∧Dz rest m r1∧l++m=ds∧Pg R bp w wr vD (.slice none 0 0) rest∧EI (bp+1) wr vD l∧(∀d∈l,d.Ok))
  case atStart=>exact⟨[],ds,ts,_,rfl,HDT.o.1,rfl,Wv.o,Grow.nil _ _ _ _ _ _,by simp⟩
  case round=>
   obtain⟨l,m,rest,vD,rfl,hz,hlm,hs,hg,hok⟩:=hrel;have K3:=ah hlm;have Wn:aj (l.length+m.length<=4096):=ah (by have h1:=congrArg List.length hlm;simp only[ay]at h1;have:=Fv.o;omega);have HS:=ah hs;have HG:=ah hg;have kU:=ah hok;have Wd:=ah hz;obtain⟨av,cv,hv⟩:=hg.len;have dB:=ah (λw hI=>qW R rest w hI);unfold wL at dB;have OL:=ah (λw=>Gw (tx (bK rest)) (l:=bK rest) (Mv _) w);clear hlm hs hg hok hz Wv;subst hv;go_upto_region 2 with fail;go_cut [19] (λs19 W'=>s19= .bool (isDecl rest)∧Below wr.heap.size wr W')
   case first=>
    have HE:=ah (XH rest);generalize isDecl rest=b at *;generalize ((nextK rest:Nat):Int)=k at *;generalize tx (bK rest)=s at *;generalize qU (bK rest)=dc at *;cases hk:(k==3)
    ·go_wp2_with fail;refine(dB.o _ HS.o.rd).mono ?_;rintro e w1 ⟨rfl,h2⟩;have HB1:=ah h2;clear h2;go_wp2_with fail;go_meet;exact⟨by rw[HE.o,hk];rfl,HB1.o⟩
    ·go_wp2_with fail;refine(dB.o _ HS.o.rd).mono ?_;rintro e w1 ⟨rfl,h2⟩;have HB1:=ah h2;have HR1:=ah (HS.o.rd.below h2);clear h2;go_wp2_with fail;refine(dB.o _ HR1.o).mono ?_;rintro e w2 ⟨rfl,h2⟩;have HB2:=ah (HB1.o.trans (h2.mono HB1.o.size));clear h2;go_wp2_with fail;refine(OL.o _).mono ?_;rintro e w3 ⟨rfl,rfl⟩;go_wp2_with fail;go_meet;exact⟨by rw[HE.o,hk];rfl,HB2.o⟩
   obtain⟨rfl,hB⟩:=hcut;obtain⟨W1,rfl⟩: ∃W:World,W=wc:=⟨_,rfl⟩;have mE:=ah (HS.o.below hB);have qD:=ah (HG.o.next (bL hB));clear hB HS HG dB OL;cases Wd.o with
   |nil hd=>have hq:l=ds:=(by rw[<- K3.o,List.append_nil]);subst hq;rw[hd];go_wp2_with fail;go_meet;exact⟨_,mE.o,qD.o,kU.o⟩
   | @cons _ q _ d m hd hn hk h4 hzz=>
     have HC:=ah (M4 R rest q d W1 mE.o.rd hd hn hk h4);have Sy:=ah hzz;obtain⟨r,HRQ⟩: ∃r,aj (q.tail=r):=⟨_,ah rfl⟩;rw[HRQ.o]at HC Sy;rw[hd];clear hn hk h4 hzz Wd hd;go_wp2_with fail;refine HC.o.mono ?_;clear HC;rintro e w2 ⟨⟨Qj,rfl⟩,h2,h3⟩;have HDO:=ah Qj;have HS2:=ah (mE.o.then h2 h3);have HG2:=ah (qD.o.next (zP h3 (by have:=mE.o.lt;omega)));clear h2 h3 mE qD Qj;unfold Xa;go_upto_region 4 with fail;generalize hW:World.alloc w2 _=W3;obtain⟨gd,hg,-,-,HB3,-⟩:=oO hW;have mZ:aj (Pg R bp w W3 _ _ r):=ah (by rw[<- hW];exact HS2.o.below (au _ _));have Ar:aj (EI (bp+1) W3 _ l):=ah (by rw[<- hW];exact HG2.o.next (bL (au _ _)));rw[hg];clear hW hg HS2 HG2;obtain⟨e0,e1,e2,e3,e4,e5⟩:(W3.cell? ⟨gd,0,none⟩=some (.int .i64 d.kind)∧W3.cell? ⟨gd,1,none⟩=some (.int .i64 d.line)∧W3.cell? ⟨gd,2,none⟩=some (.string d.nm)∧W3.cell? ⟨gd,3,none⟩=some (.int .i64 d.size)∧W3.cell? ⟨gd,4,none⟩=some (.int .i64 d.init)∧W3.cell? ⟨gd,5,none⟩=some (.string d.on)):=⟨aQ HB3.o rfl,aQ HB3.o rfl,aQ HB3.o rfl,aQ HB3.o rfl,aQ HB3.o rfl,aQ HB3.o rfl⟩;obtain⟨c0,c1,fc⟩:=mZ.o.cells;clear fc;have nP:=ah (Ar.o.next (bL (au W3 (.cells (oF d).toArray 43))));have jS:=ah (iM (heap_alloc_new W3 (.cells (oF d).toArray 43)));obtain⟨hi,hz0,hz1,hz2⟩:=iq.o;have hbs:bp+1<=W3.heap.size+1:=(by have:=mZ.o.lt;omega);have hkl:l.length+1<=maxLen:=(by have:=Wn.o;simp only[aA]at this;unfold maxLen;omega);have aK8:(l.length+1)*64<=140737488355328:=(by have:=Wn.o;simp only[aA]at this;omega);go_wp2_with (at_builtin;refine wpList_append_lies _ rfl _ _ 23 rfl (bp+1) 43 i0 _ 6 64 Tryz.underlying23 hi hz0 hz1 hz2 rfl (by decide) _ _ _ rfl nP.o.own ⟨W3.heap.size,0,none⟩ 1 1 (oF d) rfl rfl jS.o (by simp[oF,Value.oneCell']) (by decide) hkl aK8 (by simpa using hbs) _ rfl ?_);clear hi hz0 hz1 hz2;intro g cap w9 hown hgr hmv hlt2;have tJ:aj (∀k,(Value.slice av (l).length cv).ownBlock=some k->bp+1<=k):=ah (λk hk=>(Ar.o.lt k hk).1);have tC:aj (Below (bp+1) (W3.alloc (.cells (oF d).toArray 43)) w9):=ah (vU hgr tJ.o (by simpa using hbs));have pF:aj (Below (bp+1) W3 w9):=ah (((au W3 (.cells (oF d).toArray 43)).mono mZ.o.lt.2.2).trans tC.o);have Fy:aj (oz (bp+1) (Value.slice av (l).length cv).ownBlock (W3.alloc (.cells (oF d).toArray 43)) (λ_=>True)):=ah (λ_ _=>trivial);have MZ:aj (eP w9 R r):=ah (Lf (zo mZ.o.rd _) hgr (λk hk=>by have h1:=tJ.o k hk;have h2:=mZ.o.lt;have h3:=R.b0;omega));have FW:aj (w.grownBy w9 (some R.br)):=ah (KE (zn mZ.o.gr _) (tC.o.mono (by have:=mZ.o.lt;omega)));have yc:w9.heap[bp]? =some (.cells _ 26 (0,0)):=(pF.o.block _ (Nat.lt_succ_self _)).trans mZ.o.blk;have DX:=ah (nP.o.push (x:=d) Fy.o rfl hown hgr (by simpa using hmv));have c0:w9.cell? ⟨bp,0,none⟩=some (.slice av l.length cv):=aQ yc rfl;have f0:w9.frozen? ⟨bp,0,none⟩=false:=bH yc;clear hown hgr hmv hlt2 hbs hkl aK8 Fy jS nP tC yc e0 e1 e2 e3 e4 e5 c1;go_wp2_with fail;generalize hW:World.setCell w9 _ _=FB;have Ji:aj (Pg R bp w FB (.slice (some ⟨g,0,none⟩) (l.length+1) cap) (.slice none 0 0) r):=ah (by rw[<- hW];exact mZ.o.put MZ.o FW.o pF.o 0 _ _ _ rfl);have YX:aj (EI (bp+1) FB (.slice (some ⟨g,0,none⟩) (l.length+1) cap) (l++[d])):=ah (by rw[<- hW];exact DX.o.next (iF w9 ⟨bp,0,none⟩ _ (Nat.lt_succ_self _)));have HNL:aj (∀y∈l++[d],y.Ok):=ah (λy hy=>by
      rcases List.mem_append.1 hy with hy|hy
      ·exact kU.o y hy
      ·rw[List.mem_singleton.1 hy];exact HDO.o)
     clear hW c0 f0 mZ MZ FW pF DX tJ Ar HB3;go_roundg m.length
     case measure=>simp
     case rel=>exact⟨l++[d],m,r,_,rfl,Sy.o,by rw[<- K3.o];simp,Ji.o,YX.o,HNL.o⟩
 obtain⟨vD,hP,hG,Qj⟩:=hcut;obtain⟨W2,rfl⟩: ∃W:World,W=wc:=⟨_,rfl⟩;obtain⟨aK,aH,hv,KI,aM2⟩:=hG.says Qj;subst hv;have jO:=ah hP;have HD2:=ah (aI KI aM2);clear hP hG Qj KI aM2 Wv;go_upto_block 2 with fail;go_cut [] (λW'=> ∃(lt:List dU) (vT:Value),lt.map (·.t)=th∧Pg R bp w W' (.slice aK ds.length aH) vT r9∧kG (bp+1) W2 W'∧DV W2.heap.size W' vT lt∧(∀x∈lt,x.t.Ok∧x.t.cO.length<=x.eX))
 case first=>
  obtain⟨i0,hi,hz0,hz1,hz2⟩:=aN5;have iq:=ah (aI hi (aI hz0 (aI hz1 hz2)));have CQ:aj (bp+1<=W2.heap.size∧R.br<bp):=ah (by have:=jO.o.lt;omega);clear hi hz0 hz1 hz2;go_wp2_with fail;go_loopg [7,8] th.length (λgk _ _ wr=> ∃(lt:List dU) (m:List Th) (rs:bC) (vT:Value),gk=m.length∧Tz S rs m r9∧lt.map (·.t)++m=th∧Pg R bp w wr (.slice aK ds.length aH) vT rs∧kG (bp+1) W2 wr∧DV W2.heap.size wr vT lt∧(∀x∈lt,x.t.Ok∧x.t.cO.length<=x.eX))
  case atStart=>exact⟨[],th,r1,_,rfl,HDT.o.2,rfl,jO.o,kG.refl _ _,Grow.nil _ _ _ _ _ _,by simp⟩
  case round=>
   obtain⟨lt,m,rs,vT,rfl,hz,hlm,hs,ha,hg,hok⟩:=hrel;have K3:=ah hlm;have Wn:aj (lt.length+m.length<=4096):=ah (by have h1:=congrArg List.length hlm;simp only[ay,gX]at h1;have:=Fv.o;omega);have HS:=ah hs;have HA:=ah ha;have HG:=ah hg;have kU:=ah hok;obtain⟨av,cv,hv⟩:=hg.len;clear hlm hs ha hg hok jO HD2;subst hv;cases hz with
   | @nil rs hd=>have hq:lt.map (·.t)=th:=(by rw[<- K3.o,List.append_nil]);go_wp2_with fail;refine(Ko R _ _ ⟨#[116,104,114,101,97,100]⟩ rfl HS.o.rd).mono ?_;rw[hd];rintro e w1 ⟨rfl,h2⟩;have mE:=ah (HS.o.below h2);have qD:=ah (HG.o.next (bL h2));have HA1:=ah (HA.o.trans (bL h2));clear h2;go_wp2_with fail;go_meet;exact⟨lt,_,hq,mE.o,HA1.o,qD.o,kU.o⟩
   | @cons _ rr r r' ll b m hd hn h4 hlz hb hzz=>
     have Sy:=ah hzz;have iw:=ah (Pb.o _ _ _ hb);have jP:=ah (λw hI=>YB R rs rr r ll b w hI hd hn h4 hlz iw);obtain⟨tt,HTT⟩: ∃tt:Th,aj ((⟨tx (bK rs.tail),((fP rs:Nat):Int),ll,b⟩:Th)=tt):=⟨_,ah rfl⟩;rw[HTT.o]at jP K3;clear hn h4 hlz hb hzz iw HTT;go_wp2_with fail;refine(Ko R _ _ ⟨#[116,104,114,101,97,100]⟩ rfl HS.o.rd).mono ?_;rw[hd];rintro e w1 ⟨rfl,h2⟩;have mE:=ah (HS.o.below h2);have qD:=ah (HG.o.next (bL h2));have HA1:=ah (HA.o.trans (bL h2));clear h2 HS HG HA;have HC:=ah (jP.o w1 mE.o.rd);clear jP;go_wp2_with fail;refine HC.o.mono ?_;clear HC;rintro e w2 ⟨⟨x,hxt,rfl,Qv,Qw⟩,h2,h3⟩;have HXT:=ah hxt;clear hxt;have HXO:=ah Qv;have vo:aj (W2.heap.size<=w1.heap.size):=ah HA1.o.1;have HS2:=ah (mE.o.then h2 h3);have HG2:=ah (qD.o.next (zP h3 (by have:=CQ.o;omega)));have HA2:=ah (HA1.o.trans (zP h3 (by have:=CQ.o;omega)));have bl7:=ah qD.o.lt;have sO:=ah Qw;clear h2 h3 mE qD HA1 Qv Qw;unfold dU.f;go_upto_region 9 with fail;generalize hW:World.alloc w2 _=W3;obtain⟨gd,hg,-,-,HB3,-⟩:=oO hW;have mZ:aj (Pg R bp w W3 _ _ r):=ah (by rw[<- hW];exact HS2.o.below (au _ _));have Ar:aj (DV W2.heap.size W3 _ lt):=ah (by rw[<- hW];exact HG2.o.next (bL (au _ _)));have Al:aj (kG (bp+1) W2 W3):=ah (by rw[<- hW];exact HA2.o.trans (bL (au _ _)));have G7:aj (gU w1.heap.size W3 (dU.I x)):=ah (by rw[<- hW];exact sO.o.next (bL (au _ _)));rw[hg];clear hW hg HS2 HG2 HA2 sO;obtain⟨e0,e1,e2,e3⟩:(W3.cell? ⟨gd,0,none⟩=some (.string x.t.nm)∧W3.cell? ⟨gd,1,none⟩=some (.int .i64 x.t.line)∧W3.cell? ⟨gd,2,none⟩=some (.slice x.iR x.t.cO.length x.eX)∧W3.cell? ⟨gd,3,none⟩=some (.slice x.dH x.t.body.len x.cu)):=⟨aQ HB3.o rfl,aQ HB3.o rfl,aQ HB3.o rfl,aQ HB3.o rfl⟩;obtain⟨c0,c1,fc⟩:=mZ.o.cells;clear fc;have nP:=ah (Ar.o.next (bL (au W3 (.cells (dU.f x).toArray 57))));have jS:=ah (iM (heap_alloc_new W3 (.cells (dU.f x).toArray 57)));obtain⟨hi,hz0,hz1,hz2⟩:=iq.o;have hbs:W2.heap.size<=W3.heap.size+1:=(by have:=Al.o.1;omega);have hkl:lt.length+1<=maxLen:=(by have:=Wn.o;simp only[aA]at this;unfold maxLen;omega);have aK9:(lt.length+1)*72<=140737488355328:=(by have:=Wn.o;simp only[aA]at this;omega);go_wp2_with (at_builtin;refine wpList_append_lies _ rfl _ _ 24 rfl W2.heap.size 57 i0 _ 4 72 Tryz.underlying24 hi hz0 hz1 hz2 rfl (by decide) _ _ _ rfl nP.o.own ⟨W3.heap.size,0,none⟩ 1 1 (dU.f x) rfl rfl jS.o (by simp[dU.f,Value.oneCell']) (by decide) hkl aK9 (by simpa using hbs) _ rfl ?_);clear hi hz0 hz1 hz2;intro g cap w9 hown hgr hmv hlt2;have tJ:aj (∀k,(Value.slice av lt.length cv).ownBlock=some k->W2.heap.size<=k):=ah (λk hk=>(Ar.o.lt k hk).1);have tC:aj (Below W2.heap.size (W3.alloc (.cells (dU.f x).toArray 57)) w9):=ah (vU hgr tJ.o (by simpa using hbs));have pF:aj (Below W2.heap.size W3 w9):=ah (((au W3 (.cells (dU.f x).toArray 57)).mono Al.o.1).trans tC.o);have Fy:aj (oz W2.heap.size (Value.slice av lt.length cv).ownBlock (W3.alloc (.cells (dU.f x).toArray 57)) (dU.I x)):=ah (R5 (G7.o.next (bL (au _ _))) vo.o (λk hk=>(bl7.o k hk).2));have MZ:aj (eP w9 R r):=ah (Lf (zo mZ.o.rd _) hgr (λk hk=>by have h1:=tJ.o k hk;have h2:=CQ.o;have h3:=R.b0;omega));have FW:aj (w.grownBy w9 (some R.br)):=ah (KE (zn mZ.o.gr _) (tC.o.mono (by have h1:=mZ.o.lt;have h2:=CQ.o;omega)));have yc:w9.heap[bp]? =some (.cells _ 26 (0,0)):=(pF.o.block _ (by have:=CQ.o;omega)).trans mZ.o.blk;have DX:=ah (nP.o.push (x:=x) Fy.o rfl hown hgr (by simpa using hmv));have JU:aj (kG (bp+1) W2 w9):=ah (Al.o.aF4 pF.o);have c1:w9.cell? ⟨bp,1,none⟩=some (.slice av lt.length cv):=aQ yc rfl;have f1:w9.frozen? ⟨bp,1,none⟩=false:=bH yc;clear hown hgr hmv hlt2 hbs hkl aK9 Fy jS nP tC yc e0 e1 e2 e3 c0;go_wp2_with fail;generalize hW:World.setCell w9 _ _=FB;have Ji:aj (Pg R bp w FB (.slice aK ds.length aH) (.slice (some ⟨g,0,none⟩) (lt.length+1) cap) r):=ah (by rw[<- hW];exact mZ.o.put MZ.o FW.o (pF.o.mono CQ.o.1) 1 _ _ _ rfl);have YX:aj (DV W2.heap.size FB (.slice (some ⟨g,0,none⟩) (lt.length+1) cap) (lt++[x])):=ah (by rw[<- hW];exact DX.o.next (iF w9 ⟨bp,1,none⟩ _ CQ.o.1));have bk0:aj (kG (bp+1) W2 FB):=ah (by rw[<- hW];exact JU.o.trans (iF w9 ⟨bp,1,none⟩ _ (Nat.lt_succ_self _)));have HNL:aj (∀y∈lt++[x],y.t.Ok∧y.t.cO.length<=y.eX):=ah (λy hy=>by
      rcases List.mem_append.1 hy with hy|hy
      ·exact kU.o y hy
      ·rw[List.mem_singleton.1 hy];exact HXO.o)
     clear hW c1 f1 mZ MZ FW pF DX tJ Ar HB3 JU Al;go_roundg m.length
     case measure=>simp
     case rel=>exact⟨lt++[x],m,r,_,rfl,Sy.o,by rw[<- K3.o,<- HXT.o];simp,Ji.o,bk0.o,YX.o,HNL.o⟩
 obtain⟨lt,vT,hrt,hP,hA,hG,hok⟩:=hcut;obtain⟨W8,rfl⟩: ∃W:World,W=wc:=⟨_,rfl⟩;obtain⟨aM,aD,hv,Qi,aa0⟩:=hG.says hok;subst hv;have vR:aj (lt.length=th.length):=ah (by rw[<- hrt,gX]);rw[hrt]at aa0 hP;rw[vR.o]at Qi;have vS:=ah hP;have HST:aj (ds.length<=aH∧th.length<=aD∧gU (bp+1) W8 (λw2=>jo w2 w2.heap.size ds aK 0∧iJ w2 w2.heap.size th aM 0)):=ah ⟨HD2.o.1,Qi,λw2 h2=>⟨HD2.o.2 w2 (hA.trans h2),aa0 w2 (h2.mono jO.o.lt.2.2)⟩⟩;have tY:=Fv;clear hP hA hG hok Qi aa0 hrt HD2 vR Fv jO;clear hf0 hf1;have HT0:aj (decide ((0:Int)<(th.length:Int))= !th.isEmpty):=ah (by cases th <;> simp);have HWD:aj (Below W8.heap.size W8 (W8.drewN 1)):=ah (below_drewN (ak _ _) 1);have K5:=ah (vS.o.below HWD.o);have KP: ∀(x:Bool) w',Az (λw'=>w'=W8.drewN 1) (λw'=>w'=(W8.drewN 1).setCells w.heap.size 0 [.slice aK ds.length aH,.slice aM th.length aD]) [x] w'->w'.heap[bp]? =some (.cells #[.slice aK ds.length aH,.slice aM th.length aD] 26 (0,0)):=λx w' h=>by
  cases x
  ·have h:w'=_:=h;rw[h];exact K5.o.blk
  ·have h:w'=_:=h;rw[h];exact((dX w.heap.size _ 0 (W8.drewN 1)).block _ K5.o.lt.2.2 (by have:=K5.o.lt;simp;omega)).trans K5.o.blk
 go_upto_region 12 with fail;refine dI (by kernel_rfl) rfl ?_;refine dw 0 7 [5] [[],[],[1],[1,2],[1,2,3],[0],[0,1,2,3,4,5]] [[some false],[none],[none],[none],[none],[some false],[some true]] (Az (λw'=>w'=W8.drewN 1) (λw'=>w'=(W8.drewN 1).setCells w.heap.size 0 [.slice aK ds.length aH,.slice aM th.length aD])) (λ_ _=>True) [50,51,52,53,54,3] rfl rfl (by rfl) (by kernel_rfl) (by kernel_rfl) (by kernel_rfl) (by kernel_rfl) (by kernel_rfl) (by rfl) (λ_=>trivial) (by rfl) rfl ?_;simp only[iW,mU];apply bS.step
 case bg=>intro c A w' hok hC hO hD;obtain⟨x,rfl⟩:=hC.bits;have hb:=KP x w' hC;obtain⟨k0,k1⟩:=pK hb;have e4:=hO 4 (by rfl);simp[Act.eval]at e4;simp[Act.eval]at hD;simp[go_sem,gd,Oper.wp,e4,k0,k1];exact aR.mk trivial (Az.skip (by rfl) hC) (bZ.mk _ _)
 apply bS.step
 case bg=>intro c A w' hok hC hO hD;have e4:=hO 4 (by rfl);simp[Act.eval]at e4;simp[Act.eval]at hD;simp[go_sem,gd,Oper.wp,hD,e4];exact aR.mk trivial (Az.skip (by rfl) hC) (bZ.mk _ _)
 apply bS.step
 case bg=>intro c A w' hok hC hO hD;obtain⟨x,rfl⟩:=hC.bits;have hb:=KP x w' hC;have k1:w'.cell? ⟨bp,1,none⟩=some (.slice aM th.length aD):=aQ hb rfl;simp[Act.eval]at hD;simp[go_sem,gd,Oper.wp,hD,k1];exact aR.mk trivial (Az.skip (by rfl) hC) (bZ.mk _ _)
 apply bS.step
 case bg=>intro c A w' hok hC hO hD;simp[Act.eval]at hD;simp[go_sem,gd,Oper.wp,hD];exact aR.mk trivial (Az.skip (by rfl) hC) (bZ.mk _ _)
 try simp only[dR]
 refine bS.step (v:= .bool (!th.isEmpty)) ?_ ?_
 ·intro c A w' hok hC hO hD;simp[Act.eval]at hD;simp[go_sem,gd,Oper.wp,hD];exact aR.mk trivial (Az.skip (by rfl) hC) (show Value.bool _=_ by rw[<- HT0.o];simp)
 refine bS.some (λ_ _=>True) (λ_ _ _ _ _=>trivial) ?_ ?_
 ·intro c A w' hok hC hO hD;obtain⟨x,rfl⟩:=hC.bits;obtain⟨rfl,-⟩:=hok;have hC:w'=_:=hC;have e2:=hO 2 (by rfl);simp[Act.eval]at e2;simp[Act.eval]at hD;simp only[gd,if_true];refine wp_store_mid _ _ _ (by rfl) w.heap.size 0 #[.slice aK ds.length aH,.slice aM th.length aD] (by simp[Act.eval,e2]) (by simp[Act.eval,hD]) (by rw[hC];exact CK K5.o.z (aB 2)) au4 (by simp[Value.oneCell']) ?_;exact aR.Cx trivial (Az.fire (by rfl) (by rw[hC])) trivial
 apply bS.step
 case bg=>intro c A w' hok hC hO hD;simp[Act.eval]at hD;simp[go_sem,gd,Oper.wp,hD];exact aR.mk trivial (Az.skip (by rfl) hC) (bZ.mk _ _)
 try simp only[dR]
 refine bS.done ?_;intro w9 hC9
 try simp only[List.drop_succ_cons,List.drop_zero]
 intro x0 h0 x1 h1 x2 h2 x3 h3 x4 h4 x5 h5 x6 h6;have h6':=Eq.symm (show x6=_ from h6);subst h6';clear h0 h1 h2 h3 h4 h5 h6 KP;refine DI ?_;refine eO rfl ?_;have HW9:aj (w9=(W8.drewN 1).setCells w.heap.size 0 [.slice aK ds.length aH,.slice aM th.length aD]):=ah hC9;have tC:aj (w9.heap[w.heap.size]? =some (.cells #[.slice aK ds.length aH,.slice aM th.length aD] 26 (0,0))):=ah (by rw[HW9.o];exact ng K5.o.z rfl);clear hC9;obtain⟨y0,y1⟩:=pK tC.o;go_simp;go_wp2_with fail;exact bodyPost_ret (v:= .tuple #[.agg #[.slice aK ds.length aH,.slice aM th.length aD],.bool (!th.isEmpty)]) (by simp[results,Tryz.results72,go_sem,y0,y1]) rfl (by rw[HW9.o];exact aR0 rfl ⟨tY.o.1,tY.o.2,HST.o.1,HST.o.2.1⟩ (HST.o.2.2.next (bL HWD.o)) (by have:=K5.o.lt;omega) K5.o.rd K5.o.gr kL.o)
theorem aw0 (t:Tk.Tok):(Tk.Tok.cells t).length=3:=rfl
theorem Ui {w:World} {g B:Nat} {ts:bC} (hB:g<B): ∀(l:bC) (k:Nat),(∀i t,l[i]? =some t->∀j u,(Tk.Tok.cells t)[j]? =some u->w.cell? ⟨g,(k+i)*3+j,none⟩=some u)->wF w B l (some ⟨g,0,none⟩) k
 | [],_,_=>trivial
 |t::r,k,h=>by
  have h0:=h 0 t rfl;refine⟨⟨g,0,rfl,hB,?_,?_,?_⟩,Ui (ts:=ts) hB r (k+1) (λi t' ht j u hu=>by rw[show k+1+i=k+(i+1) by omega];exact h (i+1) t' (by simpa using ht) j u hu)⟩
  ·have:=h0 0 _ rfl;rw[aU];exact this
  ·have:=h0 1 _ rfl;rw[aU];exact this
  ·have:=h0 2 _ rfl;rw[aU];exact this
theorem YC {w:World} {base:Nat} {v:Value} {ts:bC} (h:w.ownsRow base 156 3 v ts.length (Tk.cellsOf ts)): ∃ao cap,v= .slice ao ts.length cap∧wF w w.heap.size ts ao 0:=by
 rcases h.2 with⟨h1,h2⟩|⟨g,cap,cur,h1,hB,hg,hc,-,hs,ht⟩
 ·have:ts=[]:=by
   cases ts with
   |nil=>rfl
   |cons t r=>simp at h2
  subst this;exact⟨none,0,h1,trivial⟩
 ·refine⟨some ⟨g,0,none⟩,cap,h1,Ui (ts:=ts) (aO hg) ts 0 (λi t hi j u hu=> ?_)⟩;have hF:=flat_get aw0 ts i t j u hi hu;have hF':(Tk.cellsOf ts)[i*3+j]? =some u:=hF;rw[<- ht]at hF';have hlt:=(List.getElem?_eq_some_iff.1 hF').1;rw[List.getElem?_take_of_lt (by rw[List.length_take]at hlt;omega)]at hF';rw[aU];exact aQ hg (by rw[<- hF'];simp)
def VB (w:World) (ao:Option Addr) (cap:Nat) (ts:bC):Rp:=⟨w.heap.size,w.heap.size,ao,cap,ts,aB _⟩
theorem aR2 {w W:World} {ao:Option Addr} {cap:Nat} {ts:bC} (hW:w.alloc (.cells #[.slice ao ts.length cap,.int .i64 0] 135)=W) (ht:wF w w.heap.size ts ao 0) (ok: ∀t∈ts,Ei t) (tl:(∀t∈ts,TL 4097 t)∧ts.length<=4096):eP W (VB w ao cap ts) ts:=by
 subst hW;exact⟨⟨0,bT _,rfl,heap_alloc_new _ _⟩,ht.below (au _ _),⟨ok,tl.2⟩,tl.1⟩
theorem Zp (s:ByteArray) (w:World) (eH:eG w) (hm:s.size<=maxLen) (p:Pr) (h0:(Tk.scan s.data.toList).2.1=0) (hsc: ∀t∈(Tk.scan s.data.toList).1,Ei t) (htl:(∀t∈(Tk.scan s.data.toList).1,TL 4097 t)∧(Tk.scan s.data.toList).1.length<=4096) (hpr: ∀(R:Rp) (wr:World),eP wr R (Tk.scan s.data.toList).1->Calls Tryz.prog 72 #[.pointer (some ⟨R.br,0,none⟩)] wr (UG R wr (.ok p []))) (hts:p.ts.isEmpty=false):
 Calls Tryz.prog 38 #[.string s] w λe w'=> ∃aK aH aM aD,e= .returned (.tuple #[.agg #[.slice aK p.ds.length aH,.slice aM p.ts.length aD],.int .i64 0,.int .i64 0])∧p.At w' aK aM∧Below w.heap.size w w':=by
 have jK:=ah eH;have Sm:=ah hsc;have N7:=ah htl;have HSN:aj (∀w,eG w->Calls Tryz.prog 71 #[.string s] w (PI w (Tk.scan s.data.toList))):=ah (λw h=>Zr s w h hm);have xM:=ah hpr;clear eH hm hpr hsc htl;generalize Tk.scan s.data.toList=sc at *;go_enter Tryz.func38,Tryz.ntmps38;go_upto_region 1 with fail;generalize hW:World.alloc w _=W0;have HB0:aj (Below w.heap.size w W0):=ah (by rw[<- hW];exact au _ _);have HZ0:aj (W0.heap[w.heap.size]? =some (.cells YP 26 (0,0))):=ah (by rw[<- hW];exact heap_alloc_new _ _);clear hW;go_wp2_with fail;refine(HSN.o _ (jK.o.same HB0.o)).mono ?_;rintro e w1 ⟨v,rfl,hown,hb⟩;obtain⟨ao,cap,rfl,htk⟩:=YC hown;have Sn:=ah htk;have HB1:=ah (HB0.o.trans (hb.mono HB0.o.size));have HZ1:=jl hb HZ0;clear hown hb htk HSN HB0 HZ0;obtain⟨y0,y1⟩:=pK HZ1.o;have f0:w1.frozen? ⟨w.heap.size,0,none⟩=false:=bH HZ1.o;have f1:w1.frozen? ⟨w.heap.size,1,none⟩=false:=bH HZ1.o;have hlt:w.heap.size<w1.heap.size:=(aO HZ1.o);have UC:=N7;rw[h0];go_upto_region 5 with fail;generalize hW:World.alloc w1 _=W1;have HR1:=ah (aR2 hW Sn.o Sm.o UC.o);have HB2:aj (Below w.heap.size w W1):=ah (by rw[<- hW];exact HB1.o.trans ((au w1 _).mono HB1.o.size));have HZ2:aj (W1.heap[w.heap.size]? =some (.cells YP 26 (0,0))):=ah (by rw[<- hW];exact((au w1 _).block _ hlt).trans HZ1.o);clear hW y0 y1 f0 f1 N7 Sm jK Sn UC HB1 HZ1;go_wp2_with fail;refine(xM.o _ _ HR1.o).mono ?_;rintro e w2 ⟨⟨a,c,a',c',rfl,hl,hst⟩,h1,h2⟩;rw[hts];obtain⟨r,HRN⟩: ∃r:bC,aj (([]:bC)=r):=⟨_,ah rfl⟩;rw[HRN.o]at h1;obtain⟨n,HN⟩: ∃n,aj (p.ds.length=n):=⟨_,ah rfl⟩;obtain⟨n',HN'⟩: ∃n,aj (p.ts.length=n):=⟨_,ah rfl⟩;rw[HN.o,HN'.o]at hl⊢;have HP:=ah (aI hl hst);go_upto_region 6 with fail;generalize hW:World.alloc w2 _=W3;have HG:=ah h2;have HB3:aj (Below w.heap.size w W3):=ah (by rw[<- hW];exact(HB2.o.trans (cZ h2 (cB hlt) HB2.o.size)).trans ((au w2 _).mono (aP HB2.o.size h2.size)));have Du:aj (Below w2.heap.size w2 W3):=ah (by rw[<- hW];exact au w2 _);have HR3:aj (eP W3 (VB w1 ao cap sc.1) r):=ah (h1.below Du.o);have HZ3:aj (W3.heap[w.heap.size]? =some (.cells YP 26 (0,0))):=ah (by have k1:=(aO HZ2.o);exact(Du.o.block _ (aG k1 h2.size)).trans ((h2.block _ k1 (by simp[VB];omega)).trans HZ2.o));have HD3:aj (W3.heap[w2.heap.size]? =some (.cells #[.slice a n c,.slice a' n' c'] 26 (0,0))):=ah (by rw[<- hW];exact heap_alloc_new _ _);obtain⟨pos,hpos,hdrop,c0,c1⟩:=HR3.o.pos;have c0:W3.cell? ⟨w1.heap.size,0,none⟩=some (.slice ao sc.1.length cap):=c0;have c1:W3.cell? ⟨w1.heap.size,1,none⟩=some (.int .i64 (pos:Int)):=c1;have hpos:pos<=sc.1.length:=hpos;have hdrop:sc.1.drop pos=r:=hdrop;have hlt3:w.heap.size<W3.heap.size:=(aO HZ3.o);have hq: ¬pos<sc.1.length:=by rw[<- HRN.o]at hdrop;have:=List.drop_eq_nil_iff.1 hdrop;omega
 have hltW:w.heap.size<W1.heap.size:=(aO HZ2.o);clear hW h1 h2 hl hst xM HR1 HZ2 hpos hdrop;go_quiet (fail);generalize vY:World.drewN W3 _=W4;have eF:aj (Below W3.heap.size W3 W4):=ah (by rw[<- vY];exact below_drewN (ak _ _) _);clear vY;have xP:=ah ((eF.o.block _ hlt3).trans HZ3.o);have HD4:=jl eF.o HD3;obtain⟨y0,y1⟩:=pK xP.o;have f0:W4.frozen? ⟨w.heap.size,0,none⟩=false:=bH xP.o;have f1:W4.frozen? ⟨w.heap.size,1,none⟩=false:=bH xP.o;obtain⟨d0,d1⟩:=pK HD4.o;have Ct:w.heap.size<W4.heap.size:=(aO xP.o);go_wp2_with fail;obtain⟨hl,hst⟩:=HP.o;have hfin:kG W1.heap.size w2 ((W4.setCell ⟨w.heap.size,0,none⟩ (.slice a n c)).setCell ⟨w.heap.size,1,none⟩ (.slice a' n' c')):=
  ((bL (B:=W1.heap.size) (Du.o.trans (eF.o.mono Du.o.size))).trans (iF W4 _ _ hltW)).trans (iF _ _ _ hltW)
 have hat:=(hst.next hfin).now;exact bodyPost_ret (v:= .tuple #[.agg #[.slice a n c,.slice a' n' c'],.int .i64 0,.int .i64 0]) (by simp[results,Tryz.results38,go_sem,y0,y1,Ct]) rfl ⟨a,c,a',c',by rw[HN.o,HN'.o],⟨by rw[HN.o];unfold maxLen;omega,by rw[HN'.o];unfold maxLen;omega,hat⟩,pJ (pJ (HB3.o.trans (eF.o.mono HB3.o.size)) _ _ (aB _)) _ _ (aB _)⟩
def QY:List UInt8:=[118,97,114,32,120,32,61,32,50,59,32,118,97,114,32,113,91,50,93,59,32,109,117,116,101,120,32,109,59,32,99,111,110,100,32,99,32,109,59,32,114,119,108,111,99,107,32,114,59,32,102,117,116,117,114,101,32,102,59,32,116,104,114,101,97,100,32,116,40,97,41,32,123,32,108,111,99,107,32,109,32,123,32,120,32,61,32,113,91,97,93,59,32,125,32,125,32,116,104,114,101,97,100,32,117,40,41,32,123,32,125]
theorem src_ok: ∀t∈(Tk.scan QY).1,Ei t:=by
 unfold Ei;decide+kernel
theorem aS3:(∀t∈(Tk.scan QY).1,TL 4097 t)∧(Tk.scan QY).1.length<=4096:=by
 unfold TL;decide+kernel
def K (k:Nat):bC:=(Tk.scan QY).1.drop k
theorem fH (k:Nat):(K k).tail=K (k+1):=by unfold K;rw[List.tail_drop]
def nK (k:Nat):ByteArray:=tx (bK (K k))
def dK (k:Nat) (size init:Int) (on:ByteArray):De:=⟨qU (bK (K k)),((fP (K k):Nat):Int),nK (k+1),size,init,on⟩
theorem I8 (k j:Nat) {d:De} {m:List De} {r:bC} (h1:isDecl (K k)=true) (h2:isName (K (k+1))=true) (h3:KzR (dK k 0 0 ⟨#[]⟩) (K (k+2)) d (K j)) (h4:at' [59] (K j)=true) (h5:Dz (K (j+1)) m r):Dz (K k) (d::m) r:=
 Dz.cons h1 (by rw[fH];exact h2) (by rw[fH,fH];exact h3) h4 (by rw[fH];exact h5)
theorem aS2:Dz (K 0) [dK 0 0 2 ⟨#[]⟩,dK 5 2 0 ⟨#[]⟩,dK 11 0 0 ⟨#[]⟩,dK 14 0 0 (nK 16),dK 18 0 0 ⟨#[]⟩,dK 21 0 0 ⟨#[]⟩] (K 24):=
 I8 0 4 (by kernel_rfl) (by kernel_rfl) (.inl ⟨by kernel_rfl,dK 0 0 0 ⟨#[]⟩,K 2,by kernel_rfl,by kernel_rfl,by kernel_rfl⟩) (by kernel_rfl) <|
 I8 5 10 (by kernel_rfl) (by kernel_rfl) (.inl ⟨by kernel_rfl,dK 5 2 0 ⟨#[]⟩,K 10,by kernel_rfl,by kernel_rfl,by kernel_rfl⟩) (by kernel_rfl) <|
 I8 11 13 (by kernel_rfl) (by kernel_rfl) (.inr (.inr ⟨⟨by kernel_rfl,by kernel_rfl,by kernel_rfl⟩,rfl,rfl⟩)) (by kernel_rfl) <|
 I8 14 17 (by kernel_rfl) (by kernel_rfl) (.inr (.inl ⟨⟨by kernel_rfl,by kernel_rfl,by kernel_rfl⟩,by kernel_rfl,rfl,(fH 16).symm⟩)) (by kernel_rfl) <|
 I8 18 20 (by kernel_rfl) (by kernel_rfl) (.inr (.inr ⟨⟨by kernel_rfl,by kernel_rfl,by kernel_rfl⟩,rfl,rfl⟩)) (by kernel_rfl) <|
 I8 21 23 (by kernel_rfl) (by kernel_rfl) (.inr (.inr ⟨⟨by kernel_rfl,by kernel_rfl,by kernel_rfl⟩,rfl,rfl⟩)) (by kernel_rfl) <|
 Dz.nil (by kernel_rfl)
theorem noop {r:bC} (h:(nextK r==4&&(wD (bK r)).1 != 0)=false):Pt r:=λlv=>by
 unfold opAt;split
 ·rename_i h2;simp only[aJ]at h2;rw[h2.1,Bool.true_and]at h;simpa using h
 ·rfl
theorem bs6:Ez (K 37) ⟨2,0,nK 37,.nil⟩ (K 38):=by
 have h:=Ez.nm (ts:=K 37) (by kernel_rfl) (by rw[fH];kernel_rfl) (by rw[fH];exact noop (by kernel_rfl));rw[fH]at h;exact h
theorem bs5:Ez (K 35) (TR (nK 35) ⟨2,0,nK 37,.nil⟩) (K 39):=by
 have h:=Ez.ix (ts:=K 35) (r:=K 38) (x:=⟨2,0,nK 37,.nil⟩) (by kernel_rfl) (by rw[fH];kernel_rfl) (by rw[fH,fH];exact bs6) (by kernel_rfl) (by rw[fH];exact noop (by kernel_rfl));rw[fH]at h;exact h
def sA:Sx:=⟨dD.ex {hd 1 ((fP (K 33):Nat):Int)with nm:=nK 33} (TR (nK 35) ⟨2,0,nK 37,.nil⟩),.nil,.nil⟩
def sL:Sx:=⟨{hd 4 ((fP (K 30):Nat):Int)with nm:=nK 31},Ba [sA],.nil⟩
theorem bw1 (R:Rp):Eh R (K 33) sA (K 40):=by
 have h:=av7 R (K 33) (K 39) (TR (nK 35) ⟨2,0,nK 37,.nil⟩) (by kernel_rfl) (by rw[fH];kernel_rfl) (by rw[fH];kernel_rfl) (by rw[fH,fH];exact bs5) (by kernel_rfl);rw[fH]at h;exact h
theorem bq0 (R:Rp):uT R (K 32) (Ba [sA]) (K 41):=
 Jl R (λts y r=>ts=K 33∧y=sA∧r=K 40) (ah (λq y r ⟨e1,e2,e3⟩=>by subst e1 e2 e3;exact bw1 R)) (K 32) (K 41) [sA] (by kernel_rfl) (by rw[fH];have h:=Lz.nil (S:=λts y r=>ts=K 33∧y=sA∧r=K 40) (ts:=K 40) (by kernel_rfl);rw[fH]at h;exact Lz.cons (by kernel_rfl) ⟨rfl,rfl,rfl⟩ h) (by decide)
theorem bw2 (R:Rp):Eh R (K 30) sL (K 41):=by
 have h:=af6 R (K 30) (K 41) (Ba [sA]) (by kernel_rfl) (by kernel_rfl) (by rw[fH];kernel_rfl) (ah (by rw[fH,fH];exact bq0 R));rw[fH]at h;exact h
theorem bq1 (R:Rp):uT R (K 29) (Ba [sL]) (K 42):=
 Jl R (λts y r=>ts=K 30∧y=sL∧r=K 41) (ah (λq y r ⟨e1,e2,e3⟩=>by subst e1 e2 e3;exact bw2 R)) (K 29) (K 42) [sL] (by kernel_rfl) (by rw[fH];have h:=Lz.nil (S:=λts y r=>ts=K 30∧y=sL∧r=K 41) (ts:=K 41) (by kernel_rfl);rw[fH]at h;exact Lz.cons (by kernel_rfl) ⟨rfl,rfl,rfl⟩ h) (by decide)
theorem bq2 (R:Rp):uT R (K 46) (Ba []) (K 48):=
 Jl R (λ_ _ _=>False) (ah (λ_ _ _ h=>h.elim)) (K 46) (K 48) [] (by kernel_rfl) (by rw[fH];have h:=Lz.nil (S:=λ_ _ _=>False) (ts:=K 47) (by kernel_rfl);rw[fH]at h;exact h) (by decide)
def VK (r:bC) (b:aY) (q:bC):Prop:=(r=K 29∧b=Ba [sL]∧q=K 42)∨(r=K 46∧b=Ba []∧q=K 48)
def nk:Pr:=⟨[dK 0 0 2 ⟨#[]⟩,dK 5 2 0 ⟨#[]⟩,dK 11 0 0 ⟨#[]⟩,dK 14 0 0 (nK 16),dK 18 0 0 ⟨#[]⟩,dK 21 0 0 ⟨#[]⟩],[⟨nK 25,fP (K 24),[nK 27],Ba [sL]⟩,⟨nK 43,fP (K 42),[],Ba []⟩]⟩
theorem aS4:Tz VK (K 24) nk.ts (K 48):=by
 have h2:=Tz.cons (S:=VK) (ts:=K 42) (r:=K 46) (q:=K 48) (r':=K 48) (l:=[]) (b:=Ba []) (m:=[]) (by kernel_rfl) (by rw[fH];kernel_rfl) (by rw[fH,fH];kernel_rfl) (by rw[fH,fH,fH];exact .inl ⟨by kernel_rfl,rfl,(fH 45).symm⟩) (.inr ⟨rfl,rfl,rfl⟩) (Tz.nil (by kernel_rfl));have h1:=Tz.cons (S:=VK) (ts:=K 24) (r:=K 29) (q:=K 42) (r':=K 48) (l:=[nK 27]) (b:=Ba [sL]) (by kernel_rfl) (by rw[fH];kernel_rfl) (by rw[fH,fH];kernel_rfl) (by rw[fH,fH,fH];exact .inr ⟨by kernel_rfl,by kernel_rfl,by rw[fH];kernel_rfl,by rw[fH];kernel_rfl,rfl,by rw[fH,fH]⟩) (.inl ⟨rfl,rfl,rfl⟩) h2;rw[fH,fH]at h1;exact h1
theorem ad9 (R:Rp) (wr:World) (hI:eP wr R (Tk.scan QY).1):Calls Tryz.prog 72 #[.pointer (some ⟨R.br,0,none⟩)] wr (UG R wr (.ok nk [])):=by
 have h:=VA R VK (ah (λr b q h=>by
  rcases h with⟨e1,e2,e3⟩|⟨e1,e2,e3⟩ <;> subst e1 e2 e3
  ·exact bq1 R
  ·exact bq2 R)) (K 0) (K 24) (K 48) nk.ds nk.ts aS2 aS4 (by decide) wr hI
 have e:K 48=[]:=by kernel_rfl
 rw[e]at h;exact h
end Go.Proofs.YtmildapbbcbbhaaGreatDoor
