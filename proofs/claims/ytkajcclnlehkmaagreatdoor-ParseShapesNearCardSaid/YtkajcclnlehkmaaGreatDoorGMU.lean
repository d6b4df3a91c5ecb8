/- What makes programs of numbers: its state as data, what is kept. And what hangs on it. -/
import Derived.Test.YtkajcclnlehkmaaGreatDoorGMT
import Derived.Deep.RegionWith
set_option linter.unusedSimpArgs false
set_option linter.unusedVariables false
set_option maxHeartbeats 40000000
set_option maxRecDepth 1000000
namespace Go.Proofs.YtkajcclnlehkmaaGreatDoor
open Go.RowKit
open Md
structure bP (w:World) (T:Tp):Prop where
 tape:lu w T
 qp: ∃line left:Int,aD line∧0<=left∧left<=100∧w.heap[T.bm]? =some (.cells #[.pointer (some ⟨T.bt,0,none⟩),.int .i64 line,.int .i64 left] 38 (0,0))
theorem bP.lt {w:World} {T:Tp} (h:bP w T):T.bm < w.heap.size:=by obtain ⟨a,b,-,-,-,h⟩:=h.qp; exact (Array.getElem?_eq_some_iff.1 h).1
structure Mk (T:Tp) (w w':World):Prop where
 os:w'.os=w.os
 tape:w'.tape=w.tape
 output:w'.output=w.output
 size:w.heap.size<=w'.heap.size
 block: ∀k,k < w.heap.size->k≠T.bt->k≠T.bm->w'.heap[k]? =w.heap[k]?
theorem Mk.refl (T:Tp) (w:World):Mk T w w:=⟨rfl,rfl,rfl,Nat.le_refl _,fun _ _ _ _=>rfl⟩
theorem Mk.trans {T:Tp} {w w1 w2:World} (h:Mk T w w1) (k:Mk T w1 w2):Mk T w w2:=
 ⟨k.os.trans h.os,k.tape.trans h.tape,k.output.trans h.output,Nat.le_trans h.size k.size,fun j hj h1 h2=>(k.block j (Nat.lt_of_lt_of_le hj h.size) h1 h2).trans (h.block j hj h1 h2)⟩
theorem Mk.of_below {T:Tp} {w w':World} (h:Below w.heap.size w w'):Mk T w w':=⟨h.os,h.tape,h.output,h.size,fun k hk _ _=>h.block k hk⟩
theorem Mk.Tn {T:Tp} {w w':World} (h:w.grownBy w' (some T.bt)):Mk T w w':=⟨h.os,h.tape,h.output,h.size,fun k hk h1 _=>h.block k hk (by simp; exact h1)⟩
theorem Mk.Tj {T:Tp} {w w':World} (h:w.grownBy w' (some T.bm)):Mk T w w':=⟨h.os,h.tape,h.output,h.size,fun k hk _ h1=>h.block k hk (by simp; exact h1)⟩
theorem Mk.below {T:Tp} {w w':World} (h:Mk T w w') (hB:T.B0<=w.heap.size):Below T.B0 w w':=
 ⟨h.os,h.tape,h.output,h.size,fun k hk=>h.block k (by omega) (by have:=T.t0; omega) (by have:=T.m0; omega)⟩
theorem bP.below {T:Tp} {w w':World} (h:bP w T) (hb:Below w.heap.size w w'):bP w' T:=by
 obtain ⟨a,h1,h2⟩:=h.tape.blk;obtain ⟨l,m,h3,h4,h5,h6⟩:=h.qp;exact ⟨⟨⟨a,h1,(hb.block _ h.tape.lt).trans h2⟩,h.tape.Aq.below (hb.mono h.tape.b0),h.tape.len⟩,⟨l,m,h3,h4,h5,(hb.block _ h.lt).trans h6⟩⟩
theorem Mk.sF {T:Tp} {w w':World} {B:Nat} (h:Mk T w w') (ht:T.bt < B) (hm:T.bm < B):dH B w w':=⟨h.size,fun k h1 h2=>h.block k h2 (by omega) (by omega)⟩
theorem Mk.set {T:Tp} {w w':World} (h:Mk T w w') (a:Addr) (v:Value) (hb:w.heap.size<=a.block):Mk T w (w'.setCell a v):=
 ⟨h.os,h.tape,h.output,by have:=h.size; simpa [World.setCell] using this,fun k hk h1 h2=>(aW w' a v rfl (by omega)).trans (h.block k hk h1 h2)⟩
theorem bP.set {T:Tp} {w:World} (h:bP w T) (a:Addr) (v:Value) (h0:T.B0<=a.block) (h1:a.block≠T.bt) (h2:a.block≠T.bm):bP (w.setCell a v) T:=by
 obtain ⟨x,k1,k2⟩:=h.tape.blk;obtain ⟨l,m,k3,k4,k5,k6⟩:=h.qp;have hg:=dD w a v;exact ⟨⟨⟨x,k1,(aW w a v rfl h1).trans k2⟩,h.tape.Aq.below (dL hg h0 h.tape.b0),h.tape.len⟩,⟨l,m,k3,k4,k5,(aW w a v rfl h2).trans k6⟩⟩
def nJ (q:Nat) (op n:Int) (nm:ByteArray) (kids:aG):Prop:=fT op n nm kids=true∧xg nm kids<=q
def Ei (q:Nat) (l:aG):Prop:=fD l=true∧uD l<=q
theorem nJ.mono {q q':Nat} {op n:Int} {nm:ByteArray} {kids:aG} (h:nJ q op n nm kids) (hq:q<=q'):nJ q' op n nm kids:=⟨h.1,Nat.le_trans h.2 hq⟩
def MP (q:Nat) (op n:Int) (nm:ByteArray) (kids:aG):Prop:=lZ op n nm kids∧nJ q op n nm kids
theorem tT {q:Nat} {op n:Int} {nm:ByteArray} {kids:aG} (h:nJ q op n nm kids):Ei q (.cons op n nm kids .nil):=
 ⟨by show (fT op n nm kids && fD .nil)=true; rw [h.1]; rfl,h.2⟩
theorem Dj {q q':Nat} {op n op' n':Int} {nm nm':ByteArray} {kids bM:aG} (h:nJ q op n nm kids) (h':nJ q' op' n' nm' bM):Ei (q + q') (.cons op n nm kids (.cons op' n' nm' bM .nil)):=
 ⟨by show (fT op n nm kids && fD _)=true; rw [h.1,(tT h').1]; rfl,by have h1:=h.2; have h2:=h'.2; unfold xg at h1 h2; simp only [uD]; omega⟩
theorem PL {q:Nat} {a op n:Int} {nm:ByteArray} {kids:aG} (ha:a=4∨a=5) (h:nJ q op n nm kids):nJ (q + 60) a 0 ⟨#[]⟩ (.cons op n nm kids .nil):=
 ⟨by unfold fT; rw [(tT h).1]; rcases ha with rfl | rfl <;> rfl,by have h1:=h.2; unfold xg at h1 ⊢; simp only [uD]; show 40 + 0 + _<=_; omega⟩
theorem Mx {q q':Nat} {r op n op' n':Int} {nm nm':ByteArray} {kids bM:aG} (h0:0<=r) (h1:r < 13) (h:nJ q op n nm kids) (h':nJ q' op' n' nm' bM):nJ (q + q' + 60) (6 + r) 0 ⟨#[]⟩ (.cons op n nm kids (.cons op' n' nm' bM .nil)):=by
 refine ⟨?_,by have h1:=(Dj h h').2; unfold xg; show 40 + 0 + _<=_; omega⟩;unfold fT; rw [(Dj h h').1];have:r=0∨r=1∨r=2∨r=3∨r=4∨r=5∨r=6∨r=7∨r=8∨r=9∨r=10∨r=11∨r=12:=by omega
 rcases this with rfl | rfl | rfl | rfl | rfl | rfl | rfl | rfl | rfl | rfl | rfl | rfl | rfl <;> rfl
theorem MC {z:Int} (hz:0<=z):nJ 60 1 z ⟨#[]⟩ .nil:=
 ⟨by unfold fT rR; rw [decide_eq_false (by omega)]; cases (z == 0) <;> rfl,by decide⟩
theorem PK {s:ByteArray} (hs:Tk.cO s.data.toList=true):nJ 60 2 0 s .nil:=
 ⟨by unfold fT rR dV named; simp [hs,aG.len,opsOf,fD],by have:=xO hs; unfold xg; simp only [uD]; omega⟩
theorem MB {q:Nat} {s:ByteArray} {l:aG} (hs:Tk.cO s.data.toList=true) (hl:l.len=1) (h:Ei q l):nJ (q + 60) 3 0 s l:=
 ⟨by unfold fT rR dV named; simp [hs,hl,opsOf,h.1],by have:=xO hs; have:=h.2; unfold xg; omega⟩
def GE (d:Nat):Nat:=64 * 3 ^ d
theorem BD (d:Nat):64<=GE d:=by unfold GE; have:0 < 3 ^ d:=Nat.pow_pos (by decide); omega
theorem Q6 (d:Nat):GE d + GE d + 60<=GE (d + 1):=by have:=BD d; unfold GE at *; rw [Nat.pow_succ]; omega
def G8 (T:Tp) (q:Nat) (w:World) (e:Ending) (w':World):Prop:= ∃op n nm kids ao cap,e= .returned (exV op n nm kids ao cap)∧MP q op n nm kids∧Mk T w w'∧bP w' T∧kids.Sy w.heap.size w' ao cap
def EX (q B:Nat) (v:Value) (w:World):Prop:= ∃op n nm kids ao cap,v=exV op n nm kids ao cap∧MP q op n nm kids∧kids.Sy B w ao cap
theorem EX.next {q B:Nat} {v:Value} {w w':World} (h:EX q B v w) (ha:dH B w w'):EX q B v w':=by
 obtain ⟨op,n,nm,kids,ao,cap,h1,h2,h3⟩:=h;exact ⟨op,n,nm,kids,ao,cap,h1,h2,h3.next ha⟩
theorem EX.mono {q B B':Nat} {v:Value} {w:World} (h:EX q B' v w) (hB:B<=B'):EX q B v w:=by
 obtain ⟨op,n,nm,kids,ao,cap,h1,h2,h3⟩:=h;exact ⟨op,n,nm,kids,ao,cap,h1,h2,h3.mono hB⟩
def XS (q B m:Nat) (v:Value) (w:World):Prop:= ∃l ao cap,v= .slice ao (aG.len l) cap∧(aG.len l=m∧Ei q l)∧l.Sy B w ao cap
theorem XS.next {q B m:Nat} {v:Value} {w w':World} (h:XS q B m v w) (ha:dH B w w'):XS q B m v w':=by
 obtain ⟨l,ao,cap,h1,h2,h3⟩:=h;exact ⟨l,ao,cap,h1,h2,h3.next ha⟩
theorem vo {T:Tp} {q:Nat} {w w':World} {v:Value} (hM:Mk T w w') (hI:bP w' T) (h:EX q w.heap.size v w'):G8 T q w (.returned v) w':=by
 obtain ⟨op,n,nm,kids,ao,cap,rfl,h2,h3⟩:=h;exact ⟨op,n,nm,kids,ao,cap,rfl,h2,hM,hI,h3⟩
theorem mR {T:Tp} {q:Nat} {w w':World} {e:Ending} (h:G8 T q w e w'): ∃v,e= .returned v∧EX q w.heap.size v w'∧Mk T w w'∧bP w' T:=by
 obtain ⟨op,n,nm,kids,ao,cap,h1,h2,h3,h4,h5⟩:=h;exact ⟨_,h1,⟨op,n,nm,kids,ao,cap,rfl,h2,h5⟩,h3,h4⟩
theorem Cw {T:Tp} {w w4:World} (a b c d:Value) (hM:Mk T w w4) (hI:bP w4 T) (h0:T.bt < w.heap.size∧T.bm < w.heap.size∧T.B0<=w.heap.size):
 Mk T w ((((w4.setCell ⟨w.heap.size,0,none⟩ a).setCell ⟨w.heap.size,1,none⟩ b).setCell ⟨w.heap.size,2,none⟩ c).setCell ⟨w.heap.size,3,none⟩ d)∧
 bP ((((w4.setCell ⟨w.heap.size,0,none⟩ a).setCell ⟨w.heap.size,1,none⟩ b).setCell ⟨w.heap.size,2,none⟩ c).setCell ⟨w.heap.size,3,none⟩ d) T∧
 dH (w.heap.size + 1) w4 ((((w4.setCell ⟨w.heap.size,0,none⟩ a).setCell ⟨w.heap.size,1,none⟩ b).setCell ⟨w.heap.size,2,none⟩ c).setCell ⟨w.heap.size,3,none⟩ d):=by
 have h1:w.heap.size≠T.bt:=by omega
 have h2:w.heap.size≠T.bm:=by omega
 have m1:=hM.set ⟨w.heap.size,0,none⟩ a (Nat.le_refl _);have m2:=m1.set ⟨w.heap.size,1,none⟩ b (Nat.le_refl _);have m3:=m2.set ⟨w.heap.size,2,none⟩ c (Nat.le_refl _);have m4:=m3.set ⟨w.heap.size,3,none⟩ d (Nat.le_refl _);have i1:=hI.set ⟨w.heap.size,0,none⟩ a h0.2.2 h1 h2;have i2:=i1.set ⟨w.heap.size,1,none⟩ b h0.2.2 h1 h2;have i3:=i2.set ⟨w.heap.size,2,none⟩ c h0.2.2 h1 h2;have i4:=i3.set ⟨w.heap.size,3,none⟩ d h0.2.2 h1 h2;have x1:dH (w.heap.size + 1) w4 _:=bH w4 ⟨w.heap.size,0,none⟩ a (Nat.lt_succ_self _);have x2:=x1.trans (bH _ ⟨w.heap.size,1,none⟩ b (Nat.lt_succ_self _));have x3:=x2.trans (bH _ ⟨w.heap.size,2,none⟩ c (Nat.lt_succ_self _));have x4:=x3.trans (bH _ ⟨w.heap.size,3,none⟩ d (Nat.lt_succ_self _));exact ⟨m4,i4,x4⟩
theorem Qf {T:Tp} {q q':Nat} (hq:q + 60<=q') {w w4:World} {a op n:Int} {nm:ByteArray} {kids:aG} {ao:Option Addr} {cap:Nat}(hM:Mk T w w4) (hI:bP w4 T) (h0:T.bt < w.heap.size∧T.bm < w.heap.size∧T.B0<=w.heap.size) (ha:a=4∨a=5) (hok:MP q op n nm kids) (hst:kids.Sy (w.heap.size + 1) w4 ao cap) (hs:w.heap.size + 1<=w4.heap.size):
 G8 T q' w (.returned (exV a 0 ⟨#[]⟩ (.cons op n nm kids .nil) (some ⟨w4.heap.size,0,none⟩) 1)) (((((w4.setCell ⟨w.heap.size,0,none⟩ (.int .i64 a)).setCell ⟨w.heap.size,1,none⟩ (.int .i64 0)).setCell ⟨w.heap.size,2,none⟩ (.string ⟨#[]⟩)).setCell ⟨w.heap.size,3,none⟩ (.slice (some ⟨w4.heap.size,0,none⟩) 1 1)).alloc (.cells #[.int .i64 op,.int .i64 n,.string nm,.slice ao kids.len cap] 57)):=by
 obtain ⟨q1,q2,q3⟩:=Cw (.int .i64 a) (.int .i64 0) (.string ⟨#[]⟩) (.slice (some ⟨w4.heap.size,0,none⟩) 1 1) hM hI h0;generalize hW:World.setCell (World.setCell (World.setCell (World.setCell w4 _ _) _ _) _ _) _ _=W at *;have hsz:W.heap.size=w4.heap.size:=by rw [<- hW]; simp [World.setCell]
 refine vo (q1.trans (Mk.of_below (ak _ _))) (q2.below (ak _ _)) ⟨a,0,⟨#[]⟩,.cons op n nm kids .nil,_,1,rfl,⟨⟨by unfold aD; omega,by unfold aD; decide,by unfold maxLen; decide,by simp [aG.len,maxLen]⟩,(PL ha hok.2).mono hq⟩,?_⟩;rw [<- hsz];exact Dp (heap_alloc_new _ _) (by omega) hok.1 (((hst.next q3).next (aO (ak _ _))).mono (Nat.le_succ _))
def Q8 (T:Tp) (n:Int) (w:World) (e:Ending) (w':World):Prop:= ∃r:Int,e= .returned (.int .i64 r)∧0<=r∧(0 < n->r < n)∧r<=255∧Mk T w w'∧bP w' T
theorem bW (T:Tp) (n:Int) (w:World) (hn:aD n) (hI:bP w T):
 Calls Tryz.prog 9 #[.pointer (some ⟨T.bt,0,none⟩),.int .i64 n] w (Q8 T n w):=
 (Jb T n w hn hI.tape).mono fun e w' ⟨r,h1,h2,h3,h4,h5,h6⟩=>⟨r,h1,h2,h3,h4,Mk.Tn h5,h6,by obtain ⟨l,m,k1,k2,k3,k4⟩:=hI.qp;exact ⟨l,m,k1,k2,k3,(h5.block _ hI.lt (by simp; exact T.tm.symm)).trans k4⟩⟩
theorem bP.ptr {w:World} {T:Tp} (h:bP w T):w.cell? ⟨T.bm,0,none⟩=some (.pointer (some ⟨T.bt,0,none⟩)):=by
 obtain ⟨l,m,-,-,-,k⟩:=h.qp;exact (bK k (j:=0) rfl).2
theorem Jf {T:Tp} {w w2 W:World} (hb:Below w.heap.size w w2) (hm:Mk T w2 W) (h1:w.heap.size<=T.bt) (h2:w.heap.size<=T.bm):Below w.heap.size w W:=
 ⟨hm.os.trans hb.os,hm.tape.trans hb.tape,hm.output.trans hb.output,Nat.le_trans hb.size hm.size,fun k hk=>(hm.block k (Nat.lt_of_lt_of_le hk hb.size) (by omega) (by omega)).trans (hb.block k hk)⟩
def JJ:Array Value:= #[.string ⟨#[120]⟩,.string ⟨#[121]⟩,.string ⟨#[97]⟩,.string ⟨#[98]⟩,.string ⟨#[118]⟩,.string ⟨#[113]⟩,.string ⟨#[109]⟩,.string ⟨#[116]⟩,.string ⟨#[122,122]⟩,.string ⟨#[102]⟩]
def n8:Array Value:= #[.int .i64 0,.int .i64 1,.int .i64 2,.int .i64 3,.int .i64 7,.int .i64 10,.int .i64 100,.int .i64 9223372036854775807]
theorem Qk: ∀j,j < 8-> ∃z,n8[j]? =some (.int .i64 z)∧aD z∧0<=z:=fun j hj=>by
 have:j=0∨j=1∨j=2∨j=3∨j=4∨j=5∨j=6∨j=7:=by omega
 rcases this with rfl | rfl | rfl | rfl | rfl | rfl | rfl | rfl <;> exact ⟨_,rfl,by unfold aD; decide,by decide⟩
theorem Ma: ∀j,j < 10-> ∃s,JJ[j]? =some (.string s)∧kH s:=fun j hj=>by
 have:j=0∨j=1∨j=2∨j=3∨j=4∨j=5∨j=6∨j=7∨j=8∨j=9:=by omega
 rcases this with rfl | rfl | rfl | rfl | rfl | rfl | rfl | rfl | rfl | rfl <;> exact ⟨_,rfl,by unfold maxLen; decide,by rfl⟩
def OY:Array Value:= #[.string ⟨#[113]⟩,.string ⟨#[113]⟩,.string ⟨#[113]⟩,.string ⟨#[120]⟩,.string ⟨#[109]⟩]
theorem OZ: ∀j,j < 5-> ∃s,OY[j]? =some (.string s)∧kH s:=fun j hj=>by
 have:j=0∨j=1∨j=2∨j=3∨j=4:=by omega
 rcases this with rfl | rfl | rfl | rfl | rfl <;> exact ⟨_,rfl,by unfold maxLen; decide,by rfl⟩
def pY (T:Tp) (d:Int):Prop:= ∀w,bP w T->Calls Tryz.prog 36 #[.pointer (some ⟨T.bm,0,none⟩),.int .i64 d] w (G8 T (GE d.toNat) w)
theorem Aw (T:Tp) (d:Nat) (hd:d<=100) (ih: ∀d':Nat,d=d' + 1->pY T (d':Int)):pY T (d:Int):=by
 unfold pY;rw [Int.toNat_natCast];intro w hI;have HI0:=ah hI;have jk:=ah ih;clear hI ih;go_enter Tryz.func36,Tryz.ntmps36;go_upto_region 2 with fail;generalize hW:World.alloc (World.alloc w _) _=W;have HB:aj (Below w.heap.size w W):=ah (by rw [<- hW]; exact (ak _ _).alloc (by simp) _);have HZ:aj (W.heap[w.heap.size]? =some (.cells vV 57 (0,0))):=ah (by rw [<- hW,heap_alloc_old _ _ (by simp)]; exact heap_alloc_new _ _);have HN:aj (W.heap[w.heap.size + 1]? =some (.cells JJ 9 (0,0))):=ah (by
  rw [<- hW];have e:(World.alloc w (.cells vV 57)).heap.size=w.heap.size + 1:=by simp
  rw [<- e]; exact heap_alloc_new _ _)
 have HI:=ah (HI0.o.below HB.o);have bR:aj (T.bt < w.heap.size∧T.bm < w.heap.size∧T.B0<=w.heap.size):=ah ⟨HI0.o.tape.lt,HI0.o.lt,HI0.o.tape.b0⟩;clear hW;have c0:=HI.o.ptr;go_wp2_with fail;refine (bW T 20 _ (by unfold aD; decide) HI.o).mono ?_;rintro e w2 ⟨k,rfl,hk0,hk1,hk2,hM,hI2⟩;have HM:=ah ((Mk.of_below (T:=T) HB.o).trans hM);have HZ2:aj (w2.heap[w.heap.size]? =some (.cells vV 57 (0,0))):=ah ((hM.block _ (Array.getElem?_eq_some_iff.1 HZ.o).1 (by have:=bR.o; omega) (by have:=bR.o; omega)).trans HZ.o);have Nr:aj (w2.heap[w.heap.size + 1]? =some (.cells JJ 9 (0,0))):=ah ((hM.block _ (Array.getElem?_eq_some_iff.1 HN.o).1 (by have:=bR.o; omega) (by have:=bR.o; omega)).trans HN.o);have HI2:=ah hI2;have Uv:k < 20:=hk1 (by decide);clear hM hI2 HZ HN HI c0 HB hk1;have hcase:(k < 4∨(4<=k∧d=0∧k < 10))∨(4<=k∧ ¬ (d=0∧k < 10))∧(k < 8∨d=0)∨(8<=k∧d≠0):=by omega
 rcases hcase with hA | hB | hC
 ·have hA':k < 4∨(4<=k∧((d:Int) == 0)=true∧k < 10):=by
   rcases hA with hA | ⟨h1,h2,h3⟩
   ·exact .inl hA
   ·exact .inr ⟨h1,by simp [h2],h3⟩
  clear hA jk;rcases hA' with hA | ⟨hA1,hA2,hA3⟩
  all_goals
   go_upto_region 5 with fail;obtain ⟨g,hg⟩: ∃g,w2.heap.size=g:=⟨_,rfl⟩;generalize hW3:World.alloc w2 _=W3;have HB3:aj (Below w2.heap.size w2 W3):=ah (by rw [<- hW3]; exact ak _ _);have oQ:aj (W3.heap[g]? =some (.cells n8 2 (0,0))):=ah (by rw [<- hW3,<- hg]; exact heap_alloc_new _ _);have HI3:=ah (HI2.o.below HB3.o);have QI:aj (w.heap.size < g):=ah (by rw [<- hg]; exact (Array.getElem?_eq_some_iff.1 HZ2.o).1);rw [hg];have c0:=HI3.o.ptr;clear hW3 hg;go_wp2_with fail;refine (bW T 8 _ (by unfold aD; decide) HI3.o).mono ?_;rintro e w4 ⟨r,rfl,hr0,hr1,hr2,uw,AO⟩;obtain ⟨r',rfl⟩:=Int.eq_ofNat_of_zero_le hr0;have CK:r' < 8:=by have:=hr1 (by decide); omega
   have dG:aj (w4.heap[w.heap.size]? =some (.cells vV 57 (0,0))):=ah ((uw.block _ (Nat.lt_of_lt_of_le (Array.getElem?_eq_some_iff.1 HZ2.o).1 HB3.o.size) (by have:=bR.o; omega) (by have:=bR.o; omega)).trans ((HB3.o.block _ (Array.getElem?_eq_some_iff.1 HZ2.o).1).trans HZ2.o));have N8:aj (w4.heap[g]? =some (.cells n8 2 (0,0))):=ah ((uw.block _ (Array.getElem?_eq_some_iff.1 oQ.o).1 (by have:=bR.o; have:=QI.o; omega) (by have:=bR.o; have:=QI.o; omega)).trans oQ.o);obtain ⟨z,hz,RH⟩:=Qk r' CK;have cz:w4.cell? ⟨g,r',none⟩=some (.int .i64 z):=(bK N8.o hz).2;obtain ⟨⟨y0,y1,y2,y3⟩,fz⟩:=vW dG.o;have f0:=fz 0;have f1:=fz 1;have f2:=fz 2;have f3:=fz 3;have E5:=ah ((HM.o.trans (Mk.of_below HB3.o)).trans uw);have HI4:=ah AO;have R3:=ah RH;have Uz:(0:Int)<=(r':Int):=by omega
   have UA:(r':Int) < 8:=by omega
   clear uw AO hz RH fz c0 hr0 hr1 hr2;go_wp2_with fail;obtain ⟨q1,q2,q3⟩:=Cw (.int .i64 1) (.int .i64 z) (.string ⟨#[]⟩) (.slice none 0 0) E5.o HI4.o bR.o;exact bodyPost_ret (v:=exV 1 z ⟨#[]⟩ .nil none 0) (by simp [results,Tryz.results36,go_sem,exV,aG.len,y0,y1,y2,y3]) rfl (vo q1 q2 ⟨1,z,⟨#[]⟩,.nil,none,0,rfl,⟨⟨by unfold aD; decide,R3.o.1,by unfold maxLen; decide,by unfold maxLen; decide⟩,(MC R3.o.2).mono (Nat.le_trans (by decide) (BD _))⟩,aG.Sy.nil _ _⟩)
 ·have hB':(4<=k∧k < 8∧((d:Int) == 0)=false)∨(10<=k∧((d:Int) == 0)=true):=by
   rcases hB with ⟨⟨h1,h2⟩,h3 | h3⟩
   ·exact .inl ⟨h1,h3,by rw [beq_eq_false_iff_ne]; omega⟩
   ·exact .inr ⟨by omega,by simp [h3]⟩
  clear hB jk;have K0: ∀w',bP w' T->w'.cell? ⟨T.bm,0,none⟩=some (.pointer (some ⟨T.bt,0,none⟩)):=fun w' h=>h.ptr;have KN: ∀w',Mk T w2 w'-> ∀j,j < 10-> ∃s,w'.cell? ⟨w.heap.size + 1,j,none⟩=some (.string s)∧kH s:=fun w' h j hj=>by have hb:=(h.block _ (Array.getElem?_eq_some_iff.1 Nr.o).1 (by have:=bR.o; omega) (by have:=bR.o; omega)).trans Nr.o;obtain ⟨s,h1,h2⟩:=Ma j hj;exact ⟨s,(bK hb h1).2,h2⟩
  rcases hB' with ⟨hB1,hB2,hB3⟩ | ⟨hB1,hB2⟩
  all_goals
   go_upto_region 7 with fail;have hd1:Mk T w2 (w2.drewN 1):=Mk.of_below (below_drewN (Below.refl _ _) 1);have hd2:bP (w2.drewN 1) T:=HI2.o.below (below_drewN (Below.refl _ _) 1);refine dB (by kernel_rfl) rfl ?_;refine bS 0 18 [] [[],[],[1],[1,2],[1,2,3],[],[5],[1,2,3,4,5,6],[],[8],[8,9],[8,9,10],[1,2,3,4,5,6,7,8,9,10,11],[1,2,3,4,5,6,7,8,9,10,11,12],[1,2,3,4,5,6,7,8,9,10,11,12,13],[0,1,2,3,4,5,6,7,8,9,10,11,12,13,14],[0,1,2,3,4,5,6,7,8,9,10,11,12,13,14,15],[0,1,2,3,4,5,6,7,8,9,10,11,12,13,14,15,16],[0,1,2,3,4,5,6,7,8,9,10,11,12,13,14,15,16,17]] [[],[],[],[],[],[],[],[],[],[],[],[],[],[],[],[],[],[]] (fun _ w'=>Mk T w2 w'∧bP w' T) (fun w w'=>Mk T w w') [46,47,48,49,50,51,52,53,54,55,56,57,58,59,60,61,62,63] rfl rfl (by rfl) (by kernel_rfl) (by kernel_rfl) (by kernel_rfl) (by kernel_rfl) (by kernel_rfl) (by rfl) (fun _=>Mk.refl _ _) (by rfl) ⟨hd1,hd2⟩ ?_;simp only [jm,kX]
   iterate 7
    apply aJ.step
    case bU=>intro c A w' hok hC hO hD;have e5:=hO 5 (by rfl);have e0:=hO 0 (by rfl);simp [Act.eval] at e5 e0;simp [Act.eval] at hD;simp [go_sem,gd,Oper.wp,hD,e5,e0,K0,hC.2];exact aC.mk (Mk.refl _ _) hC (dh.mk _ _)
    try simp only [bV]
   refine aJ.some (fun v _=> ∃r:Nat,v= .int .i64 (r:Int)∧r < 10) (fun _ _ _ _ h=>h) ?_ ?_
   ·intro c A w' hok hC hO hD;simp [Act.eval] at hD;simp [go_sem,gd,Oper.wp,hD];refine (bW T 10 w' (by unfold aD; decide) hC.2).mono ?_;rintro e w2 ⟨r,rfl,h0,h1,-,hM,hI⟩;obtain ⟨r',rfl⟩:=Int.eq_ofNat_of_zero_le h0;exact aC.mk hM ⟨hC.1.trans hM,hI⟩ ⟨r',rfl,by have:=h1 (by decide); omega⟩
   try simp only [bV]
   iterate 4
    apply aJ.step
    case bU=>intro c A w' hok hC hO hD;have e0:=hO 0 (by rfl);simp [Act.eval] at e0;simp [Act.eval] at hD;simp [go_sem,gd,Oper.wp,hD,e0,K0,hC.2];exact aC.mk (Mk.refl _ _) hC (dh.mk _ _)
    try simp only [bV]
   refine aJ.some (fun v _=> ∃r:Nat,v= .int .i64 (r:Int)∧r < 8) (fun _ _ _ _ h=>h) ?_ ?_
   ·intro c A w' hok hC hO hD;simp [Act.eval] at hD;simp [go_sem,gd,Oper.wp,hD];refine (bW T 8 w' (by unfold aD; decide) hC.2).mono ?_;rintro e w2 ⟨r,rfl,h0,h1,-,hM,hI⟩;obtain ⟨r',rfl⟩:=Int.eq_ofNat_of_zero_le h0;exact aC.mk hM ⟨hC.1.trans hM,hI⟩ ⟨r',rfl,by have:=h1 (by decide); omega⟩
   try simp only [bV]
   refine aJ.some (fun v w'=> ∃r:Nat,v= .int .i64 (r:Int)∧3<=r∧r<=10) (fun _ _ _ _ h=>h) ?_ ?_
   ·intro c A w' hok hC hO hD;simp [Act.eval] at hD;obtain ⟨r,hr,CK⟩:=hD;have hw:IntKind.i64.wrap (3 + (r:Int))=3 + r:=IntWalk.i64_in _ (by omega);simp [go_sem,gd,Oper.wp,hr,hw];exact aC.mk (Mk.refl _ _) hC (⟨3 + r,by simp,by omega,by omega⟩)
   try simp only [bV]
   refine aJ.some (fun v w'=> ∃r:Nat,v= .int .i64 (r:Int)∧r < 10) (fun _ _ _ _ h=>h) ?_ ?_
   ·intro c A w' hok hC hO hD;simp [Act.eval] at hD;obtain ⟨⟨r,hr,h1⟩,s,hs,h2,h3⟩:=hD;have hs2:s≠0:=(by omega);simp [go_sem,gd,Oper.wp,hr,hs,hs2];exact aC.mk (Mk.refl _ _) hC (⟨r % s,rfl,Nat.lt_of_le_of_lt (Nat.mod_le _ _) h1⟩)
   refine aJ.some (fun v w'=> ∃r:Nat,v= .pointer (some ⟨w.heap.size + 1,r,none⟩)∧r < 10) (fun _ _ _ _ h=>h) ?_ ?_
   ·intro c A w' hok hC hO hD;simp [Act.eval] at hD;obtain ⟨h46,r,hr,h1⟩:=hD;have hb0:(0:Int)<=(r:Int):=(by omega);have hb1:(r:Int) < 10:=(by omega);simp [go_sem,gd,Oper.wp,h46,hr,hb0,hb1];exact aC.mk (Mk.refl _ _) hC (⟨r,rfl,h1⟩)
   try simp only [bV]
   refine aJ.some (fun v w'=> ∃s:ByteArray,v= .string s∧kH s) (fun _ _ _ _ h=>h) ?_ ?_
   ·intro c A w' hok hC hO hD;simp [Act.eval] at hD;obtain ⟨r,hr,h1⟩:=hD;obtain ⟨s,hs,hsz⟩:=KN w' hC.1 r h1;simp [go_sem,gd,Oper.wp,hr,hs];exact aC.mk (Mk.refl _ _) hC (⟨s,rfl,hsz⟩)
   refine aJ.some (fun v _=> ∃s:ByteArray,v=exV 2 0 s .nil none 0∧kH s) (fun _ _ _ _ h=>h) ?_ ?_
   ·intro c A w' hok hC hO hD;simp [Act.eval] at hD;obtain ⟨⟨s,hs,hsz⟩,-⟩:=hD;simp [go_sem,gd,Oper.wp,hs];refine (JH s w').mono ?_;rintro e w3 ⟨rfl,hb⟩;exact aC.mk (Mk.of_below hb) ⟨hC.1.trans (Mk.of_below hb),hC.2.below hb⟩ ⟨s,rfl,hsz⟩
   simp only [bV];refine aJ.done ?_;intro wz dK;simp only [List.drop_zero];intro v0 h0 v1 h1 v2 h2 v3 h3 v4 h4 v5 h5 v6 h6 v7 h7 v8 h8 v9 h9 v10 h10 v11 h11 v12 h12 v13 AB v14 Ez v15 vv v16 h16 v17 Hf;obtain ⟨s,rfl,hsz⟩:=Hf;clear h0 h1 h2 h3 h4 h5 h6 h7 h8 h9 h10 h11 h12 AB Ez vv h16 K0 KN hd1 hd2;refine cK.nil ?_;go_simp;have Gv:aj (wz.heap[w.heap.size]? =some (.cells vV 57 (0,0))):=ah ((dK.1.block _ (Array.getElem?_eq_some_iff.1 HZ2.o).1 (by have:=bR.o; omega) (by have:=bR.o; omega)).trans HZ2.o);obtain ⟨⟨y0,y1,y2,y3⟩,fz⟩:=vW Gv.o;have f0:=fz 0;have f1:=fz 1;have f2:=fz 2;have f3:=fz 3;have Gi:=ah (HM.o.trans dK.1);have Gf:=ah dK.2;clear fz dK;unfold exV;refine fu 18 [[],[],[1],[1,2],[1,2,3],[],[5],[1,2,3,4,5,6],[],[8],[8,9],[8,9,10],[1,2,3,4,5,6,7,8,9,10,11],[1,2,3,4,5,6,7,8,9,10,11,12],[1,2,3,4,5,6,7,8,9,10,11,12,13],[0,1,2,3,4,5,6,7,8,9,10,11,12,13,14],[0,1,2,3,4,5,6,7,8,9,10,11,12,13,14,15],[0,1,2,3,4,5,6,7,8,9,10,11,12,13,14,15,16],[0,1,2,3,4,5,6,7,8,9,10,11,12,13,14,15,16,17]] rfl rfl rfl rfl rfl (by kernel_rfl) (by kernel_rfl) (by kernel_rfl) ?_;simp [go_sem,Oper.wp,y0,y1,y2,y3,f0,f1,f2,f3,aG.len];refine eB rfl ?_;go_simp;go_wp2_with fail;obtain ⟨q1,q2,q3⟩:=Cw (.int .i64 2) (.int .i64 0) (.string s) (.slice none 0 0) Gi.o Gf.o bR.o;exact bodyPost_ret (v:=exV 2 0 s .nil none 0) (by simp [results,Tryz.results36,go_sem,exV,aG.len,y0,y1,y2,y3]) rfl (vo q1 q2 ⟨2,0,s,.nil,none,0,rfl,⟨⟨by unfold aD; decide,by unfold aD; decide,hsz.1,by unfold maxLen; decide⟩,(PK hsz.2).mono (Nat.le_trans (by decide) (BD _))⟩,aG.Sy.nil _ _⟩)
 ·have N9:aj (GE (d - 1) + GE (d - 1) + 60<=GE d):=ah (by obtain ⟨d',rfl⟩: ∃d',d=d' + 1:=⟨d - 1,by omega⟩;exact Q6 d');have HX:aj (∀w,bP w T->Calls Tryz.prog 36 #[.pointer (some ⟨T.bm,0,none⟩),.int .i64 ((d:Int) - 1)] w (G8 T (GE (d - 1)) w)):=ah (by obtain ⟨d',rfl⟩: ∃d',d=d' + 1:=⟨d - 1,by omega⟩;have:=jk.o d' rfl;unfold pY at this;rw [Int.toNat_natCast] at this;rw [show ((d' + 1:Nat):Int) - 1=(d':Int) by omega]; exact this);have hdz:((d:Int) == 0)=false:=by rw [beq_eq_false_iff_ne]; omega
  have hd0:0 < d:=by omega
  have HW2:aj (w.heap.size + 1<=w2.heap.size):=ah (by have:=(Array.getElem?_eq_some_iff.1 HZ2.o).1; omega);have HC:=ah hC;clear hC jk Nr;have K0: ∀w',bP w' T->w'.cell? ⟨T.bm,0,none⟩=some (.pointer (some ⟨T.bt,0,none⟩)):=fun w' h=>h.ptr;have hwd:IntKind.i64.wrap ((d:Int) - 1)=(d:Int) - 1:=IntWalk.i64_in _ (by omega);have Oq:k=8∨(9<=k∧k < 11)∨11<=k:=by have:=HC.o; omega
  rcases Oq with rfl | ⟨U9,hk10⟩ | Uu
  ·go_upto_region 9 with fail;have hd1:Mk T w2 (w2.drewN 1):=Mk.of_below (below_drewN (Below.refl _ _) 1);have hd2:bP (w2.drewN 1) T:=HI2.o.below (below_drewN (Below.refl _ _) 1);refine dB (by kernel_rfl) rfl ?_;refine bS 0 14 [] [[],[],[1],[1,2],[1,2,3],[1,2,3,4],[0,1,2,3,4,5],[0,1,2,3,4,5,6],[],[],[9],[1,2,3,4,5,8,9,10],[1,2,3,4,5,8,9,10,11],[0,1,2,3,4,5,6,7,8,9,10,11,12],[0,1,2,3,4,5,6,7,8,9,10,11,12,13]] [[],[],[],[],[],[],[],[],[],[],[],[],[],[]] (fun _ w'=>Mk T w2 w'∧bP w' T) (fun w w'=>Mk T w w') [67,68,69,70,71,72,73,74,75,76,77,78,79,80] rfl rfl (by rfl) (by kernel_rfl) (by kernel_rfl) (by kernel_rfl) (by kernel_rfl) (by kernel_rfl) (by rfl) (fun _=>Mk.refl _ _) (by rfl) ⟨hd1,hd2⟩ ?_;simp only [jm,kX];refine aJ.some (fun v w'=> ∃g,v= .slice (some ⟨g,0,none⟩) 5 5∧w2.heap.size<=g∧w'.heap[g]? =some (.cells OY 9 (0,0))) ?_ ?_ ?_
   ·rintro v w1 w' hle ⟨g,h1,h2,h3⟩;exact ⟨g,h1,h2,(hle.block g (Array.getElem?_eq_some_iff.1 h3).1 (by have:=bR.o; have:=HW2.o; omega) (by have:=bR.o; have:=HW2.o; omega)).trans h3⟩
   ·intro c A w' hok hC hO hD;simp [go_sem,gd,Oper.wp];exact aC.mk (d:=_) (v:= .slice (some ⟨_,0,none⟩) 5 5) (Mk.of_below (ak _ _)) ⟨hC.1.trans (Mk.of_below (ak _ _)),hC.2.below (ak _ _)⟩ ⟨_,rfl,hC.1.size,heap_alloc_new _ _⟩
   try simp only [bV]
   iterate 4
    apply aJ.step
    case bU=>intro c A w' hok hC hO hD;have e0:=hO 0 (by rfl);simp [Act.eval] at e0;simp [Act.eval] at hD;simp [go_sem,gd,Oper.wp,hD,e0,K0,hC.2];exact aC.mk (Mk.refl _ _) hC (dh.mk _ _)
    try simp only [bV]
   refine aJ.some (fun v _=> ∃r:Nat,v= .int .i64 (r:Int)∧r < 5) (fun _ _ _ _ h=>h) ?_ ?_
   ·intro c A w' hok hC hO hD;simp [Act.eval] at hD;simp [go_sem,gd,Oper.wp,hD];refine (bW T 5 w' (by unfold aD; decide) hC.2).mono ?_;rintro e w2 ⟨r,rfl,h0,h1,-,hM,hI⟩;obtain ⟨r',rfl⟩:=Int.eq_ofNat_of_zero_le h0;exact aC.mk hM ⟨hC.1.trans hM,hI⟩ ⟨r',rfl,by have:=h1 (by decide); omega⟩
   try simp only [bV]
   refine aJ.some (fun v w'=> ∃(g r:Nat),v= .pointer (some ⟨g,r,none⟩)∧r < 5∧w2.heap.size<=g∧w'.heap[g]? =some (.cells OY 9 (0,0))) (fun v w1 w' hle ⟨g,r,h1,h1',h2,h3⟩=>⟨g,r,h1,h1',h2,(hle.block g (Array.getElem?_eq_some_iff.1 h3).1 (by have:=bR.o; have:=HW2.o; omega) (by have:=bR.o; have:=HW2.o; omega)).trans h3⟩) ?_ ?_
   ·intro c A w' hok hC hO hD;simp [Act.eval] at hD;obtain ⟨⟨g,hg,hg1,hg2⟩,r,hr,h1⟩:=hD;have hb0:(0:Int)<=(r:Int):=(by omega);have hb1:(r:Int) < 5:=(by omega);simp [go_sem,gd,Oper.wp,hg,hr,hb0,hb1];exact aC.mk (Mk.refl _ _) hC (⟨g,r,rfl,h1,hg1,hg2⟩)
   try simp only [bV]
   refine aJ.some (fun v w'=> ∃s:ByteArray,v= .string s∧kH s) (fun _ _ _ _ h=>h) ?_ ?_
   ·intro c A w' hok hC hO hD;simp [Act.eval] at hD;obtain ⟨g,r,hr,h1,hg1,hg2⟩:=hD;obtain ⟨s,hs,hsz⟩:=OZ r h1;simp [go_sem,gd,Oper.wp,hr,(bK hg2 hs).2];exact aC.mk (Mk.refl _ _) hC (⟨s,rfl,hsz⟩)
   iterate 3
    apply aJ.step
    case bU=>intro c A w' hok hC hO hD;have e0:=hO 0 (by rfl);have e1:=hO 1 (by rfl);simp [Act.eval] at e0 e1;simp [Act.eval] at hD;simp [go_sem,gd,Oper.wp,hD,e0,e1,hwd];exact aC.mk (Mk.refl _ _) hC (dh.mk _ _)
    try simp only [bV]
   refine aJ.some (fun v w'=>EX (GE (d - 1)) w2.heap.size v w') (fun v w1 w' hle h=>h.next (hle.sF (by have:=bR.o; have:=HW2.o; omega) (by have:=bR.o; have:=HW2.o; omega))) ?_ ?_
   ·intro c A w' hok hC hO hD;simp [Act.eval] at hD;simp [go_sem,gd,Oper.wp,hD];refine (HX.o w' hC.2).mono ?_;intro e w3 hp;obtain ⟨v,rfl,h1,h2,h3⟩:=mR hp;exact aC.mk h2 ⟨hC.1.trans h2,h3⟩ (h1.mono hC.1.size)
   try simp only [bV]
   refine aJ.some (fun v w'=>XS (GE (d - 1)) w2.heap.size 1 v w') (fun v w1 w' hle h=>h.next (hle.sF (by have:=bR.o; have:=HW2.o; omega) (by have:=bR.o; have:=HW2.o; omega))) ?_ ?_
   ·intro c A w' hok hC hO hD;simp [Act.eval] at hD;obtain ⟨op,n,nm,kids,ao,cap,hv,hok',hst⟩:=hD;unfold exV at hv;simp [go_sem,gd,Oper.wp,hv];exact aC.mk (d:=_) (v:= .slice (some ⟨_,0,none⟩) 1 1) (Mk.of_below (ak _ _)) ⟨hC.1.trans (Mk.of_below (ak _ _)),hC.2.below (ak _ _)⟩ ⟨.cons op n nm kids .nil,some ⟨_,0,none⟩,1,rfl,⟨rfl,tT hok'.2⟩,Dp (heap_alloc_new _ _) hC.1.size hok'.1 (hst.next (aO (ak _ _)))⟩
   refine aJ.some (fun v w'=>EX (GE d) w2.heap.size v w') (fun v w1 w' hle h=>h.next (hle.sF (by have:=bR.o; have:=HW2.o; omega) (by have:=bR.o; have:=HW2.o; omega))) ?_ ?_
   ·intro c A w' hok hC hO hD;simp [Act.eval] at hD;obtain ⟨⟨s,hs,hsz⟩,l,ao,cap,hv,hl,hst⟩:=hD;simp [go_sem,gd,Oper.wp,hs,hv];exact aC.mk (Mk.refl _ _) hC ⟨3,0,s,l,ao,cap,rfl,⟨⟨by unfold aD; decide,by unfold aD; decide,hsz.1,by rw [hl.1]; unfold maxLen; decide⟩,(MB hsz.2 hl.1 hl.2).mono (by have:=N9.o; omega)⟩,hst⟩
   simp only [bV];refine aJ.done ?_;intro wz dK;simp only [List.drop_zero];intro v0 h0 v1 h1 v2 h2 v3 h3 v4 h4 v5 h5 v6 h6 v7 h7 v8 h8 v9 h9 v10 h10 v11 h11 v12 h12 v13 AB;obtain ⟨op,n,nm,kids,ao,cap,rfl,hok,hst⟩:=AB;clear h0 h1 h2 h3 h4 h5 h6 h7 h8 h9 h10 h11 h12 K0 hd1 hd2 hwd;refine cK.nil ?_;go_simp;have Gv:aj (wz.heap[w.heap.size]? =some (.cells vV 57 (0,0))):=ah ((dK.1.block _ (Array.getElem?_eq_some_iff.1 HZ2.o).1 (by have:=bR.o; omega) (by have:=bR.o; omega)).trans HZ2.o);obtain ⟨⟨y0,y1,y2,y3⟩,fz⟩:=vW Gv.o;have f0:=fz 0;have f1:=fz 1;have f2:=fz 2;have f3:=fz 3;have Gi:=ah (HM.o.trans dK.1);have Gf:=ah dK.2;have eO:=ah hok;have HST:=ah (aG.Sy.mono hst HW2.o);clear fz dK hok hst;unfold exV;refine fu 14 [[],[],[1],[1,2],[1,2,3],[1,2,3,4],[0,1,2,3,4,5],[0,1,2,3,4,5,6],[],[],[9],[1,2,3,4,5,8,9,10],[1,2,3,4,5,8,9,10,11],[0,1,2,3,4,5,6,7,8,9,10,11,12],[0,1,2,3,4,5,6,7,8,9,10,11,12,13]] rfl rfl rfl rfl rfl (by kernel_rfl) (by kernel_rfl) (by kernel_rfl) ?_;simp [go_sem,Oper.wp,y0,y1,y2,y3,f0,f1,f2,f3];refine eB rfl ?_;go_simp;go_wp2_with fail;obtain ⟨q1,q2,q3⟩:=Cw (.int .i64 op) (.int .i64 n) (.string nm) (.slice ao kids.len cap) Gi.o Gf.o bR.o;exact bodyPost_ret (v:=exV op n nm kids ao cap) (by simp [results,Tryz.results36,go_sem,exV,y0,y1,y2,y3]) rfl (vo q1 q2 ⟨op,n,nm,kids,ao,cap,rfl,eO.o,(HST.o.next q3).mono (Nat.le_succ _)⟩)
  ·have Tc:(k == 8)=false:=by rw [beq_eq_false_iff_ne]; omega
   have c0:=HI2.o.ptr;clear K0 hwd;go_wp2_with fail;refine (bW T 2 _ (by unfold aD; decide) HI2.o).mono ?_;rintro e w3 ⟨r,rfl,hr0,hr1,hr2,qw,vw⟩;have hr3:r < 2:=hr1 (by decide);have HI3:=ah vw;have Nn:=ah (HM.o.trans qw);have BN:=ah qw;clear qw vw hr1 hr2 c0;go_wp2_with fail;refine (HX.o _ HI3.o).mono ?_;intro e w4 hp;obtain ⟨v,rfl,hex,uw,AO⟩:=mR hp;obtain ⟨op,n,nm,kids,ao,cap,rfl,hok,hst⟩:=hex;have E5:=ah (Nn.o.trans uw);have eO:=ah hok;have HST:=ah (hst.mono (Nat.le_trans HW2.o BN.o.size));have HI4:=ah AO;have dG:aj (w4.heap[w.heap.size]? =some (.cells vV 57 (0,0))):=ah (((BN.o.trans uw).block _ (Array.getElem?_eq_some_iff.1 HZ2.o).1 (by have:=bR.o; omega) (by have:=bR.o; omega)).trans HZ2.o);have QV:aj (w.heap.size + 1<=w4.heap.size):=ah (by have:=(Array.getElem?_eq_some_iff.1 dG.o).1; omega);clear hp hok hst uw AO;obtain ⟨⟨y0,y1,y2,y3⟩,fz⟩:=vW dG.o;have f0:=fz 0;have f1:=fz 1;have f2:=fz 2;have f3:=fz 3;have CG:w.heap.size < w4.heap.size:=QV.o;clear fz;unfold exV;go_wp2_with fail;have HF:=ah (Qf (q':=GE d) (by have:=N9.o; omega) (a:=4 + r) (cap:=cap) E5.o HI4.o bR.o (show 4 + r=4∨4 + r=5 by omega) eO.o HST.o QV.o);exact bodyPost_ret (v:=exV (4 + r) 0 ⟨#[]⟩ (.cons op n nm kids .nil) (some ⟨w4.heap.size,0,none⟩) 1) (by simp [results,Tryz.results36,go_sem,exV,aG.len,y0,y1,y2,y3,CG]) rfl HF.o
  ·have Tc:(k == 8)=false:=by rw [beq_eq_false_iff_ne]; omega
   have c0:=HI2.o.ptr;go_wp2_with fail;refine (bW T 13 _ (by unfold aD; decide) HI2.o).mono ?_;rintro e w3 ⟨r,rfl,hr0,hr1,hr2,qw,vw⟩;have hr3:r < 13:=hr1 (by decide);have HI3:=ah vw;have Nn:=ah (HM.o.trans qw);have BN:=ah qw;clear qw vw hr1 hr2 c0;go_wp2_with fail;refine (HX.o _ HI3.o).mono ?_;intro e w4 hp;obtain ⟨v,rfl,hex,uw,AO⟩:=mR hp;obtain ⟨op,n,nm,kids,ao,cap,rfl,hok,hst⟩:=hex;have E5:=ah (Nn.o.trans uw);have eO:=ah hok;have HST:=ah (hst.mono (Nat.le_trans HW2.o BN.o.size));have HI4:=ah AO;have dG:aj (w4.heap[w.heap.size]? =some (.cells vV 57 (0,0))):=ah (((BN.o.trans uw).block _ (Array.getElem?_eq_some_iff.1 HZ2.o).1 (by have:=bR.o; omega) (by have:=bR.o; omega)).trans HZ2.o);clear hp hok hst uw AO;unfold exV;go_upto_region 14 with fail;obtain ⟨ga,hga⟩: ∃g,w4.heap.size=g:=⟨_,rfl⟩;generalize mJ:World.alloc w4 _=W5;have iq:aj (Below w4.heap.size w4 W5):=ah (by rw [<- mJ]; exact ak _ _);have QB:aj (W5.heap[ga]? =some (.cells #[.int .i64 op,.int .i64 n,.string nm,.slice ao kids.len cap] 57 (0,0))):=ah (by rw [<- mJ,<- hga]; exact heap_alloc_new _ _);have Kt:=ah (HI4.o.below iq.o);have Kw:=ah (E5.o.trans (Mk.of_below iq.o));have eP:aj (W5.heap[w.heap.size]? =some (.cells vV 57 (0,0))):=ah ((iq.o.block _ (Array.getElem?_eq_some_iff.1 dG.o).1).trans dG.o);have Sq:=ah (HST.o.next (aO iq.o));have lG:aj (w.heap.size < ga):=ah (by rw [<- hga]; exact (Array.getElem?_eq_some_iff.1 dG.o).1);have Ai:aj (w.heap.size + 1<=W5.heap.size):=ah (by have:=(Array.getElem?_eq_some_iff.1 eP.o).1; omega);rw [hga];clear mJ hga iq dG HST E5 HI4;have KA: ∀w',Mk T W5 w'->w'.heap[ga]? =some (.cells #[.int .i64 op,.int .i64 n,.string nm,.slice ao kids.len cap] 57 (0,0)):=fun w' h=>(h.block _ (Array.getElem?_eq_some_iff.1 QB.o).1 (by have:=bR.o; have:=lG.o; omega) (by have:=bR.o; have:=lG.o; omega)).trans QB.o;have R4: ∀w',Mk T W5 w'->w'.cell? ⟨ga,0,none⟩=some (.int .i64 op):=fun w' h=>(bK (KA w' h) (j:=0) rfl).2;have R5: ∀w',Mk T W5 w'->w'.cell? ⟨ga,1,none⟩=some (.int .i64 n):=fun w' h=>(bK (KA w' h) (j:=1) rfl).2;have R6: ∀w',Mk T W5 w'->w'.cell? ⟨ga,2,none⟩=some (.string nm):=fun w' h=>(bK (KA w' h) (j:=2) rfl).2;have R7: ∀w',Mk T W5 w'->w'.cell? ⟨ga,3,none⟩=some (.slice ao kids.len cap):=fun w' h=>(bK (KA w' h) (j:=3) rfl).2;have hd1:Mk T W5 (W5.drewN 1):=Mk.of_below (below_drewN (Below.refl _ _) 1);have hd2:bP (W5.drewN 1) T:=Kt.o.below (below_drewN (Below.refl _ _) 1);clear KA;refine dB (by kernel_rfl) rfl ?_;refine bS 0 7 [] [[],[],[],[],[3],[2,3,4],[0,1,2,3,4,5],[0,1,2,3,4,5,6]] [[],[],[],[],[],[],[]] (fun _ w'=>Mk T W5 w'∧bP w' T) (fun w w'=>Mk T w w') [106,107,108,109,110,111,112] rfl rfl (by rfl) (by kernel_rfl) (by kernel_rfl) (by kernel_rfl) (by kernel_rfl) (by kernel_rfl) (by rfl) (fun _=>Mk.refl _ _) (by rfl) ⟨hd1,hd2⟩ ?_;simp only [jm,kX]
   iterate 5
    apply aJ.step
    case bU=>intro c A w' hok hC hO hD;have e8:=hO 8 (by rfl);have e9:=hO 9 (by rfl);have e0:=hO 0 (by rfl);have e1:=hO 1 (by rfl);simp [Act.eval] at e8 e9 e0 e1;simp [Act.eval] at hD;simp [go_sem,gd,Oper.wp,hD,e8,e9,e0,e1,R4,R5,R6,R7,hC.1,hwd];exact aC.mk (Mk.refl _ _) hC (dh.mk _ _)
    try simp only [bV]
   refine aJ.some (fun v w'=>EX (GE (d - 1)) (w.heap.size + 1) v w') (fun v w1 w' hle h=>h.next (hle.sF (by have:=bR.o; omega) (by have:=bR.o; omega))) ?_ ?_
   ·intro c A w' hok hC hO hD;simp [Act.eval] at hD;simp [go_sem,gd,Oper.wp,hD];refine (HX.o w' hC.2).mono ?_;intro e w3 hp;obtain ⟨v,rfl,h1,h2,h3⟩:=mR hp;exact aC.mk h2 ⟨hC.1.trans h2,h3⟩ (h1.mono (Nat.le_trans Ai.o hC.1.size))
   try simp only [bV]
   refine aJ.some (fun v w'=>EX (GE d) (w.heap.size + 1) v w') (fun v w1 w' hle h=>h.next (hle.sF (by have:=bR.o; omega) (by have:=bR.o; omega))) ?_ ?_
   ·intro c A w' hok hC hO hD;simp [Act.eval] at hD;obtain ⟨SL,SN,op',n',nm',bM,dY,cap',hv,hok',hst'⟩:=hD;unfold exV at hv;simp [go_sem,gd,Oper.wp,SL,SN,hv];refine (Fp (6 + r) op n nm kids ao cap op' n' nm' bM dY cap' w').mono ?_;rintro e w6 ⟨g,rfl,hg,hcell,hb⟩;refine aC.mk (Mk.of_below hb) ⟨hC.1.trans (Mk.of_below hb),hC.2.below hb⟩ ⟨6 + r,0,⟨#[]⟩,.cons op n nm kids (.cons op' n' nm' bM .nil),some ⟨g,0,none⟩,2,rfl,⟨⟨by unfold aD; omega,by unfold aD; decide,by unfold maxLen; decide,by simp [aG.len,maxLen]⟩,(Mx hr0 hr3 eO.o.2 hok'.2).mono N9.o⟩,PO hcell (Nat.le_trans (Nat.le_trans Ai.o hC.1.size) hg) eO.o.1 ?_ hok'.1 (hst'.next (aO hb))⟩;exact Sq.o.next (((hC.1).sF (by have:=bR.o; omega) (by have:=bR.o; omega)).trans (aO hb))
   simp only [bV];refine aJ.done ?_;intro wz dK;simp only [List.drop_zero];intro v0 h0 v1 h1 v2 h2 v3 h3 v4 h4 v5 h5 v6 h6;obtain ⟨op',n',nm',bM,dY,cap',rfl,hok,hst⟩:=h6;clear h0 h1 h2 h3 h4 h5 K0 hd1 hd2 hwd R4 R5 R6 R7;refine cK.nil ?_;go_simp;have Gv:aj (wz.heap[w.heap.size]? =some (.cells vV 57 (0,0))):=ah ((dK.1.block _ (Array.getElem?_eq_some_iff.1 eP.o).1 (by have:=bR.o; omega) (by have:=bR.o; omega)).trans eP.o);obtain ⟨⟨y0,y1,y2,y3⟩,fz⟩:=vW Gv.o;have f0:=fz 0;have f1:=fz 1;have f2:=fz 2;have f3:=fz 3;have Gi:=ah (Kw.o.trans dK.1);have Gf:=ah dK.2;have Sn:=ah hok;have Sv:=ah hst;clear fz dK hok hst;unfold exV;refine fu 7 [[],[],[],[],[3],[2,3,4],[0,1,2,3,4,5],[0,1,2,3,4,5,6]] rfl rfl rfl rfl rfl (by kernel_rfl) (by kernel_rfl) (by kernel_rfl) ?_;simp [go_sem,Oper.wp,y0,y1,y2,y3,f0,f1,f2,f3];refine eB rfl ?_;go_simp;go_wp2_with fail;obtain ⟨q1,q2,q3⟩:=Cw (.int .i64 op') (.int .i64 n') (.string nm') (.slice dY bM.len cap') Gi.o Gf.o bR.o;exact bodyPost_ret (v:=exV op' n' nm' bM dY cap') (by simp [results,Tryz.results36,go_sem,exV,y0,y1,y2,y3]) rfl (vo q1 q2 ⟨op',n',nm',bM,dY,cap',rfl,Sn.o,(Sv.o.next q3).mono (Nat.le_succ _)⟩)
theorem xC (T:Tp): ∀d:Nat,d<=100->pY T (d:Int)
 | 0,h=>Aw T 0 h (fun d' e=>by omega)
 | d + 1,h=>Aw T (d + 1) h (fun d' e=>by
   obtain rfl:d=d':=by omega
   exact xC T d (by omega))
def R8 (T:Tp) (w:World) (e:Ending) (w':World):Prop:= ∃s:ByteArray,e= .returned (.string s)∧kH s∧Mk T w w'∧bP w' T
theorem Ij {T:Tp} {w w':World} {s:ByteArray} (h1:kH s) (h2:Mk T w w') (h3:bP w' T):R8 T w (.returned (.string s)) w':=⟨s,rfl,h1,h2,h3⟩
def Li:Array Value:= #[.string ⟨#[120]⟩,.string ⟨#[113]⟩,.string ⟨#[97]⟩,.string ⟨#[109]⟩,.string ⟨#[114]⟩,.string ⟨#[99]⟩,.string ⟨#[102]⟩,.string ⟨#[116]⟩,.string ⟨#[122,122]⟩]
def uj (n:Nat) (cs:Array Value):Prop:= ∀j,j < n-> ∃s:ByteArray,cs[j]? =some (.string s)∧kH s
theorem P5:uj 9 Li:=fun j hj=>by
 have:j=0∨j=1∨j=2∨j=3∨j=4∨j=5∨j=6∨j=7∨j=8:=by omega
 rcases this with rfl | rfl | rfl | rfl | rfl | rfl | rfl | rfl | rfl <;> exact ⟨_,rfl,by unfold maxLen; decide,by rfl⟩
theorem iU (T:Tp) (w:World) (g n:Nat) (cs:Array Value) (hI:bP w T) (hg:w.heap[g]? =some (.cells cs 9 (0,0))) (hn:0 < n) (hn2:n<=1000) (hs:uj n cs) (hgt:g≠T.bt) (hgm:g≠T.bm):
 Calls Tryz.prog 35 #[.pointer (some ⟨T.bm,0,none⟩),.slice (some ⟨g,0,none⟩) n n] w (R8 T w):=by
 have HI:=ah hI;have HG:=ah hg;have HS:=ah hs;have Kr:=ah (And.intro hgt hgm);clear hI hg hs hgt hgm;have c0:=HI.o.ptr;go_enter Tryz.func35,Tryz.ntmps35;go_wp2_with fail;refine (bW T 8 _ (by unfold aD; decide) HI.o).mono ?_;rintro e w2 ⟨k,rfl,hk0,hk1,hk2,hM,hI2⟩;have HM:=ah hM;have HI2:=ah hI2;have HG2:aj (w2.heap[g]? =some (.cells cs 9 (0,0))):=ah ((hM.block g (Array.getElem?_eq_some_iff.1 HG.o).1 Kr.o.1 Kr.o.2).trans HG.o);clear hM hI2 c0 hk1 hk2;have c0:=HI2.o.ptr;cases UK:(k == 7)
 ·go_wp2_with fail;refine (bW T n _ (by unfold aD; omega) HI2.o).mono ?_;rintro e w3 ⟨r,rfl,hr0,hr1,hr2,qw,vw⟩;obtain ⟨r',rfl⟩:=Int.eq_ofNat_of_zero_le hr0;have hrn:r' < n:=by have:=hr1 (by omega); omega
  obtain ⟨s,hs,hsz⟩:=HS.o r' hrn;have cz:w3.cell? ⟨g,r',none⟩=some (.string s):=(bK ((qw.block g (Array.getElem?_eq_some_iff.1 HG2.o).1 Kr.o.1 Kr.o.2).trans HG2.o) hs).2;have HF:=ah (Ij hsz (HM.o.trans qw) vw);clear qw vw hs hsz hr0 hr1 hr2 c0;go_wp2_with fail;go_ret;exact HF.o
 ·have hlt:=HI2.o.lt;go_wp2_with fail;have HB3:aj (Below w2.heap.size w2 (w2.alloc (.cells Li 9))):=ah (ak _ _);have oQ:aj ((w2.alloc (.cells Li 9)).heap[w2.heap.size]? =some (.cells Li 9 (0,0))):=ah (heap_alloc_new _ _);have HI3:=ah (HI2.o.below HB3.o);have bR:aj (T.bt < w2.heap.size∧T.bm < w2.heap.size):=ah ⟨HI2.o.tape.lt,HI2.o.lt⟩;refine (bW T 9 _ (by unfold aD; decide) HI3.o).mono ?_;rintro e w3 ⟨r,rfl,hr0,hr1,hr2,qw,vw⟩;obtain ⟨r',rfl⟩:=Int.eq_ofNat_of_zero_le hr0;have hrn:r' < 9:=by have:=hr1 (by decide); omega
  obtain ⟨s,hs,hsz⟩:=P5 r' hrn;have cz:w3.cell? ⟨w2.heap.size,r',none⟩=some (.string s):=(bK ((qw.block _ (Array.getElem?_eq_some_iff.1 oQ.o).1 (by have:=bR.o; omega) (by have:=bR.o; omega)).trans oQ.o) hs).2;have HF:=ah (Ij hsz ((HM.o.trans (Mk.of_below HB3.o)).trans qw) vw);have hb0:(0:Int)<=(r':Int):=by omega
  have hb1:(r':Int) < 9:=by omega
  clear qw vw hs hsz hr0 hr1 hr2 c0;go_wp2_with fail;go_ret;exact HF.o
end Go.Proofs.YtkajcclnlehkmaaGreatDoor
