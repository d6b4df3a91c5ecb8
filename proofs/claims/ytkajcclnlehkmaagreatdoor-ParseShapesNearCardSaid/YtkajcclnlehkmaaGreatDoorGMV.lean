/- Contracts of the maker's stmt and stmts: they return statements that lie in new memory. -/
import Derived.Test.YtkajcclnlehkmaaGreatDoorGMU
import Derived.Deep.CutBlock
import Derived.Deep.DeepCutAuto
import Derived.StillTailTactics
import Derived.IntWalk
set_option linter.unusedSimpArgs false
set_option linter.unusedVariables false
set_option maxHeartbeats 40000000
set_option maxRecDepth 1000000
namespace Go.Proofs.YtkajcclnlehkmaaGreatDoor
open Go.RowKit
open Md
theorem tX (x:Int):aD (wrap64 x):=by unfold aD wrap64; omega
def wS (B:Nat) (w:World) (h:bD) (b e:aL) (s:Sl):Prop:=kS h b e∧wR B w h b e s
theorem wS.next {B:Nat} {w w':World} {h:bD} {b e:aL} {s:Sl} (hs:wS B w h b e s) (ha:dH B w w'):wS B w' h b e s:=⟨hs.1,hs.2.next ha⟩
theorem wS.mono {B B':Nat} {w:World} {h:bD} {b e:aL} {s:Sl} (hs:wS B' w h b e s) (hB:B<=B'):wS B w h b e s:=⟨hs.1,hs.2.mono hB⟩
def Al (h:bD):Prop:=kQ h 0 0=true∧zm h<=1000
def qm (q:Nat) (h:bD) (b e:aL):Prop:=mE h b e=true∧zm h + 2 * lX b + 2 * lX e<=q
def ql (q:Nat) (l:aL):Prop:=dX l=true∧lX l<=q
theorem ql.mono {q q':Nat} {l:aL} (h:ql q l) (hq:q<=q'):ql q' l:=⟨h.1,Nat.le_trans h.2 hq⟩
theorem qm.mono {q q':Nat} {h:bD} {b e:aL} (hs:qm q h b e) (hq:q<=q'):qm q' h b e:=⟨hs.1,Nat.le_trans hs.2 hq⟩
theorem xU:ql 0 .nil:=⟨rfl,Nat.le_refl _⟩
def GS (d:Nat):Nat:=2000 * 9 ^ d
theorem G9 (d:Nat):2000<=GS d:=by unfold GS; have:0 < 9 ^ d:=Nat.pow_pos (by decide); omega
theorem Q7 (d:Nat):1000 + 2 * (3 * GS d) + 2 * GS d<=GS (d + 1):=by have:=G9 d; unfold GS at *; rw [Nat.pow_succ]; omega
def TU (T:Tp) (q:Nat) (w:World) (e':Ending) (w':World):Prop:= ∃h b e s,e'= .returned (eY h b e s)∧qm q h b e∧wS w.heap.size w' h b e s∧Mk T w w'∧bP w' T
def R9 (T:Tp) (q:Nat) (w:World) (e':Ending) (w':World):Prop:= ∃l ao cap,e'= .returned (.slice ao (aL.len l) cap)∧(aL.len l<=1000∧ql q l)∧l.Sy w.heap.size w' ao cap∧Mk T w w'∧bP w' T
def Left (w:World) (T:Tp):Prop:= ∃line left:Int,aD line∧1<=left∧left<=100∧w.heap[T.bm]? =some (.cells #[.pointer (some ⟨T.bt,0,none⟩),.int .i64 line,.int .i64 left] 38 (0,0))
def yD (T:Tp) (d:Int):Prop:= ∀w,bP w T->Left w T->Calls Tryz.prog 22 #[.pointer (some ⟨T.bm,0,none⟩),.int .i64 d] w (TU T (GS d.toNat) w)
def sD (T:Tp) (d:Int):Prop:= ∀w (n:Int),bP w T->aD n->n<=1000->Calls Tryz.prog 12 #[.pointer (some ⟨T.bm,0,none⟩),.int .i64 d,.int .i64 n] w (R9 T (n.toNat * GS d.toNat) w)
def J6 (w:World) (sb:Nat) (h:bD) (b e:aL) (s:Sl):Prop:=w.heap[sb]? =some (.cells (EP h b e s).toArray 59 (0,0))
def lK (op line:Int):bD:=⟨op,line,⟨#[]⟩,⟨#[]⟩,.nil,0,0,⟨#[]⟩,.nil⟩
def Bd:Sl:=⟨none,0,none,0,none,0,none,0⟩
theorem C8:aD 0:=by unfold aD; decide
theorem Oe (B:Nat) (w:World) {op line:Int} (h1:aD op) (h2:aD line):wS B w (lK op line) .nil .nil Bd:=
 ⟨⟨h1,h2,Nat.zero_le _,Nat.zero_le _,Nat.zero_le _,⟨C8,C8,Nat.zero_le _,Nat.zero_le _⟩,Nat.zero_le _,Nat.zero_le _⟩,fun _ _=>⟨⟨.inl ⟨rfl,rfl,rfl⟩,trivial⟩,⟨.inl ⟨rfl,rfl,rfl⟩,trivial⟩,⟨.inl ⟨rfl,rfl,rfl⟩,trivial⟩,⟨.inl ⟨rfl,rfl,rfl⟩,trivial⟩⟩⟩
theorem bP.line {w:World} {T:Tp} {l':Int} (h:bP w T) (hl:aD l'):bP (w.setCell ⟨T.bm,1,none⟩ (.int .i64 l')) T:=by
 obtain ⟨x,k1,k2⟩:=h.tape.blk;obtain ⟨l,m,k3,k4,k5,k6⟩:=h.qp;exact ⟨⟨⟨x,k1,(aW w _ _ rfl T.tm.symm).trans k2⟩,h.tape.Aq.below (dL (dD w _ _) T.m0 h.tape.b0),h.tape.len⟩,⟨l',m,hl,k4,k5,by rw [aY k6]; rfl⟩⟩
theorem bP.left {w:World} {T:Tp} {m':Int} (h:bP w T) (h0:0<=m') (h1:m'<=100):bP (w.setCell ⟨T.bm,2,none⟩ (.int .i64 m')) T:=by
 obtain ⟨x,k1,k2⟩:=h.tape.blk;obtain ⟨l,m,k3,k4,k5,k6⟩:=h.qp;exact ⟨⟨⟨x,k1,(aW w _ _ rfl T.tm.symm).trans k2⟩,h.tape.Aq.below (dL (dD w _ _) T.m0 h.tape.b0),h.tape.len⟩,⟨l,m',k3,h0,h1,by rw [aY k6]; rfl⟩⟩
theorem Mk.Dh {T:Tp} {w w':World} (h:Mk T w w') (j:Nat) (v:Value):Mk T w (w'.setCell ⟨T.bm,j,none⟩ v):=h.trans (Mk.Tj (dD w' ⟨T.bm,j,none⟩ v))
theorem bP.ln {w:World} {T:Tp} (h:bP w T): ∃line:Int,w.cell? ⟨T.bm,1,none⟩=some (.int .i64 line)∧aD line:=by
 obtain ⟨l,m,k1,-,-,k⟩:=h.qp;exact ⟨l,(bK k (j:=1) rfl).2,k1⟩
theorem Mk.sets {T:Tp} {w w':World} (h:Mk T w w') (g o:Nat) (vs:List Value) (hb:w.heap.size<=g):Mk T w (w'.setCells g o vs):=by
 have hg:=aQ g vs o w';exact ⟨hg.os.trans h.os,hg.tape.trans h.tape,hg.output.trans h.output,Nat.le_trans h.size hg.size,fun k hk h1 h2=>(hg.block k (Nat.lt_of_lt_of_le hk h.size) (by simp; omega)).trans (h.block k hk h1 h2)⟩
theorem bP.sets {T:Tp} {w:World} (h:bP w T) (g o:Nat) (vs:List Value) (h0:T.B0<=g) (h1:g≠T.bt) (h2:g≠T.bm):bP (w.setCells g o vs) T:=by
 obtain ⟨x,k1,k2⟩:=h.tape.blk;obtain ⟨l,m,k3,k4,k5,k6⟩:=h.qp;have hg:=aQ g vs o w;exact ⟨⟨⟨x,k1,(hg.block _ h.tape.lt (by simp; exact fun e=>h1 e.symm)).trans k2⟩,h.tape.Aq.below (dL hg h0 h.tape.b0),h.tape.len⟩,⟨l,m,k3,k4,k5,(hg.block _ h.lt (by simp; exact fun e=>h2 e.symm)).trans k6⟩⟩
def na:Array Value:= #[.string ⟨#[120]⟩,.string ⟨#[121]⟩,.string ⟨#[97]⟩,.string ⟨#[118]⟩,.string ⟨#[113]⟩]
theorem Ql:uj 5 na:=fun j hj=>by
 have:j=0∨j=1∨j=2∨j=3∨j=4:=by omega
 rcases this with rfl | rfl | rfl | rfl | rfl <;> exact ⟨_,rfl,by unfold maxLen; decide,by rfl⟩
def nb:Array Value:= #[.string ⟨#[109]⟩,.string ⟨#[110]⟩]
theorem Qm:uj 2 nb:=fun j hj=>by
 have:j=0∨j=1:=by omega
 rcases this with rfl | rfl <;> exact ⟨_,rfl,by unfold maxLen; decide,by rfl⟩
def nc:Array Value:= #[.string ⟨#[114]⟩]
theorem Lf:uj 1 nc:=fun j hj=>by
 obtain rfl:j=0:=by omega
 exact ⟨_,rfl,by unfold maxLen; decide,by rfl⟩
def nd:Array Value:= #[.string ⟨#[99]⟩]
theorem FK:uj 1 nd:=fun j hj=>by
 obtain rfl:j=0:=by omega
 exact ⟨_,rfl,by unfold maxLen; decide,by rfl⟩
def ne:Array Value:= #[.string ⟨#[116]⟩,.string ⟨#[117]⟩,.string ⟨#[119]⟩]
theorem Lg:uj 3 ne:=fun j hj=>by
 have:j=0∨j=1∨j=2:=by omega
 rcases this with rfl | rfl | rfl <;> exact ⟨_,rfl,by unfold maxLen; decide,by rfl⟩
def nf:Array Value:= #[.string ⟨#[102]⟩]
theorem Lh:uj 1 nf:=fun j hj=>by
 obtain rfl:j=0:=by omega
 exact ⟨_,rfl,by unfold maxLen; decide,by rfl⟩
def ng:Array Value:= #[.string ⟨#[97]⟩]
theorem Qn:uj 1 ng:=fun j hj=>by
 obtain rfl:j=0:=by omega
 exact ⟨_,rfl,by unfold maxLen; decide,by rfl⟩
theorem Bf {r:Nat} {l:Int} (hr:r=7∨r=8):Al (lK r l):=
 ⟨by rcases hr with rfl | rfl <;> simp [kQ,lK,fO,fN,fA,fI,fX,fB,fE,dV,fD,aG.len,jB],(by decide:200 + 0 + 0 + 0 + (40 + 0 + 0)<=1000)⟩
theorem Di {r:Nat} {l xo xn:Int} {xm:ByteArray} {xk:aG} (hr:r=2∨r=3) (hx:nJ (GE 2) xo xn xm xk):Al {lK r l with iJ:=xo,xn:=xn,iP:=xm,dn:=xk} :=
 ⟨by rcases hr with rfl | rfl <;> simp [kQ,lK,fO,fN,fA,fI,fX,fB,fE,dV,fD,aG.len,hx.1],by have h:=hx.2; have e:GE 2=576:=rfl; show 200 + 0 + 0 + 0 + xg xm xk<=1000; omega⟩
theorem kZ {r:Nat} {l:Int} {s:ByteArray} (hr:r=4∨r=5∨r=6∨r=9∨r=10∨r=11∨r=12∨r=13) (hs:Tk.cO s.data.toList=true):Al {lK r l with nm:=s} :=
 ⟨by rcases hr with rfl | rfl | rfl | rfl | rfl | rfl | rfl | rfl <;> simp [kQ,lK,fO,fN,fA,fI,fX,fB,fE,dV,fD,aG.len,jB,hs],by have h:=xO hs; show 200 + s.size + 0 + 0 + (40 + 0 + 0)<=1000; omega⟩
theorem Mt {r:Nat} {l xo xn:Int} {xm s:ByteArray} {xk:aG} (hr:r=14) (hs:Tk.cO s.data.toList=true) (hx:nJ (GE 1) xo xn xm xk):Al {lK r l with nm:=s,iJ:=xo,xn:=xn,iP:=xm,dn:=xk} :=
 ⟨by subst hr; simp [kQ,lK,fO,fN,fA,fI,fX,fB,fE,dV,fD,aG.len,hs,hx.1],by have h:=hx.2; have e:GE 1=192:=rfl; have h2:=xO hs; show 200 + s.size + 0 + 0 + xg xm xk<=1000; omega⟩
theorem Ms {r:Nat} {l:Int} {s s':ByteArray} (hr:r=15) (hs:Tk.cO s.data.toList=true) (hs':Tk.cO s'.data.toList=true):Al {lK r l with nm:=s,arg:=s'} :=
 ⟨by subst hr; simp [kQ,lK,fO,fN,fA,fI,fX,fB,fE,dV,fD,aG.len,jB,hs,hs'],by have h:=xO hs; have h2:=xO hs'; show 200 + s.size + s'.size + 0 + (40 + 0 + 0)<=1000; omega⟩
theorem Mr {r:Nat} {l xo xn:Int} {xm s:ByteArray} {xk ix:aG} (hr:r=1) (hs:Tk.cO s.data.toList=true) (hi:ix.len<=1∧Ei (GE 1) ix) (hx:nJ (GE 2) xo xn xm xk):Al {lK r l with nm:=s,idx:=ix,iJ:=xo,xn:=xn,iP:=xm,dn:=xk} :=
 ⟨by subst hr; simp [kQ,lK,fO,fN,fA,fI,fX,fB,fE,dV,hs,hx.1,hi.1,hi.2.1],by have h:=hx.2; have e:GE 2=576:=rfl; have e':GE 1=192:=rfl; have h2:=xO hs; have h3:=hi.2.2; show 200 + s.size + 0 + uD ix + xg xm xk<=1000; omega⟩
theorem JZ {h:bD} {bl el:Nat} (hs:kQ h 0 0=true) (hb:bl=0∨fB h.op=true) (he:el=0∨h.op=2):kQ h bl el=true:=by
 unfold kQ at *;have hE:h.op=2->fE h.op=true:=fun e=>by rw [e]; rfl
 rcases hb with rfl | hb <;> rcases he with rfl | he <;> simp_all
theorem zQ {q q1 q2:Nat} {h:bD} {b e:aL} (hs:Al h) (hb:b= .nil∨fB h.op=true) (he:e= .nil∨h.op=2) (h1:ql q1 b) (h2:ql q2 e) (hq:1000 + 2 * q1 + 2 * q2<=q):qm q h b e:=by
 refine ⟨?_,by have:=hs.2; have:=h1.2; have:=h2.2; omega⟩;unfold mE;rw [h1.1,h2.1,JZ hs.1 (hb.imp (fun x=>by rw [x]; rfl) id) (he.imp (fun x=>by rw [x]; rfl) id)]; rfl
structure SI (T:Tp) (w:World) (sb:Nat) (W:World) (h:bD) (b e:aL) (s:Sl):Prop where
 box:J6 W sb h b e s
 st:wS (sb + 1) W h b e s
 mi:bP W T
 km:Mk T w W
 z:W.heap[w.heap.size]? =some (.cells Dr 59 (0,0))
 lt:w.heap.size < sb
 tb:T.bt < w.heap.size∧T.bm < w.heap.size∧T.B0<=w.heap.size
section
variable {T:Tp} {w W W':World} {sb:Nat} {h:bD} {b e:aL} {s:Sl}
theorem SI.sz (hS:SI T w sb W h b e s):sb + 1<=W.heap.size:=(Array.getElem?_eq_some_iff.1 hS.box).1
theorem SI.go (hS:SI T w sb W h b e s) (hM:Mk T W W') (hI:bP W' T):SI T w sb W' h b e s where
 box:=(hM.block sb hS.sz (by have:=hS.tb; have:=hS.lt; omega) (by have:=hS.tb; have:=hS.lt; omega)).trans hS.box
 st:=hS.st.next (hM.sF (by have:=hS.tb; have:=hS.lt; omega) (by have:=hS.tb; have:=hS.lt; omega))
 mi:=hI
 km:=hS.km.trans hM
 z:=(hM.block _ (Array.getElem?_eq_some_iff.1 hS.z).1 (by have:=hS.tb; omega) (by have:=hS.tb; omega)).trans hS.z
 lt:=hS.lt
 tb:=hS.tb
theorem SI.put {h':bD} {b' e':aL} {s':Sl} (hS:SI T w sb W h b e s) (j:Nat) (v:Value) (hv:(EP h b e s).toArray.setIfInBounds j v=(EP h' b' e' s').toArray) (hs:wS (sb + 1) W h' b' e' s'):SI T w sb (W.setCell ⟨sb,j,none⟩ v) h' b' e' s' where
 box:=by unfold J6; rw [aY hS.box,hv]
 st:=hs.next (bH _ _ _ (Nat.lt_succ_self _))
 mi:=hS.mi.set _ _ (by have:=hS.tb; have:=hS.lt; show T.B0<=sb; omega) (by have:=hS.tb; have:=hS.lt; show sb≠_; omega) (by have:=hS.tb; have:=hS.lt; show sb≠_; omega)
 km:=hS.km.set _ _ (by have:=hS.lt; show _<=sb; omega)
 z:=(aW W _ _ rfl (by have:=hS.lt; show sb≠_; omega)).trans hS.z
 lt:=hS.lt
 tb:=hS.tb
theorem SI.op (hS:SI T w sb W h b e s) (k:Int) (hk:aD k):SI T w sb (W.setCell ⟨sb,0,none⟩ (.int .i64 k)) {h with op:=k} b e s:=
 hS.put 0 _ rfl ⟨⟨hk,hS.st.1.2⟩,hS.st.2⟩
theorem SI.nm (hS:SI T w sb W h b e s) (x:ByteArray) (hx:x.size<=maxLen):SI T w sb (W.setCell ⟨sb,2,none⟩ (.string x)) {h with nm:=x} b e s:=
 hS.put 2 _ rfl ⟨⟨hS.st.1.1,hS.st.1.2.1,hx,hS.st.1.2.2.2⟩,hS.st.2⟩
theorem SI.arg (hS:SI T w sb W h b e s) (x:ByteArray) (hx:x.size<=maxLen):SI T w sb (W.setCell ⟨sb,3,none⟩ (.string x)) {h with arg:=x} b e s:=
 hS.put 3 _ rfl ⟨⟨hS.st.1.1,hS.st.1.2.1,hS.st.1.2.2.1,hx,hS.st.1.2.2.2.2⟩,hS.st.2⟩
theorem SI.idx (hS:SI T w sb W h b e s) (l:aG) (ao:Option Addr) (cap:Nat) (hl:l.len<=maxLen) (hst:l.Sy (sb + 1) W ao cap):SI T w sb (W.setCell ⟨sb,4,none⟩ (.slice ao l.len cap)) {h with idx:=l} b e {s with eT:=ao,dO:=cap} :=
 hS.put 4 _ rfl ⟨⟨hS.st.1.1,hS.st.1.2.1,hS.st.1.2.2.1,hS.st.1.2.2.2.1,hl,hS.st.1.2.2.2.2.2⟩,fun w2 h2=>⟨hst w2 h2,(hS.st.2 w2 h2).2⟩⟩
theorem SI.body (hS:SI T w sb W h b e s) (l:aL) (ao:Option Addr) (cap:Nat) (hl:l.len<=maxLen) (hst:l.Sy (sb + 1) W ao cap):SI T w sb (W.setCell ⟨sb,9,none⟩ (.slice ao l.len cap)) h l e {s with bg:=ao,aU:=cap} :=
 hS.put 9 _ rfl ⟨⟨hS.st.1.1,hS.st.1.2.1,hS.st.1.2.2.1,hS.st.1.2.2.2.1,hS.st.1.2.2.2.2.1,hS.st.1.2.2.2.2.2.1,hl,hS.st.1.2.2.2.2.2.2.2⟩,fun w2 h2=>⟨(hS.st.2 w2 h2).1,(hS.st.2 w2 h2).2.1,(hst w2 h2).1,(hS.st.2 w2 h2).2.2.2⟩⟩
theorem SI.els (hS:SI T w sb W h b e s) (l:aL) (ao:Option Addr) (cap:Nat) (hl:l.len<=maxLen) (hst:l.Sy (sb + 1) W ao cap):SI T w sb (W.setCell ⟨sb,10,none⟩ (.slice ao l.len cap)) h b l {s with fG:=ao,dZ:=cap} :=
 hS.put 10 _ rfl ⟨⟨hS.st.1.1,hS.st.1.2.1,hS.st.1.2.2.1,hS.st.1.2.2.2.1,hS.st.1.2.2.2.2.1,hS.st.1.2.2.2.2.2.1,hS.st.1.2.2.2.2.2.2.1,hl⟩,fun w2 h2=>⟨(hS.st.2 w2 h2).1,(hS.st.2 w2 h2).2.1,(hS.st.2 w2 h2).2.2.1,(hst w2 h2).1⟩⟩
theorem SI.x (hS:SI T w sb W h b e s) (op n:Int) (nm:ByteArray) (kids:aG) (ao:Option Addr) (cap:Nat) (hok:lZ op n nm kids) (hst:kids.Sy (sb + 1) W ao cap):SI T w sb ((((W.setCell ⟨sb,5,none⟩ (.int .i64 op)).setCell ⟨sb,6,none⟩ (.int .i64 n)).setCell ⟨sb,7,none⟩ (.string nm)).setCell ⟨sb,8,none⟩ (.slice ao kids.len cap)) {h with iJ:=op,xn:=n,iP:=nm,dn:=kids} b e {s with eZ:=ao,dS:=cap} :=by
 have hx:=hS.st.1.2.2.2.2.2.1;have k:=hS.st.1;have S1:=hS.put (h':= {h with iJ:=op}) (b':=b) (e':=e) (s':=s) 5 (.int .i64 op) rfl ⟨⟨k.1,k.2.1,k.2.2.1,k.2.2.2.1,k.2.2.2.2.1,⟨hok.1,hx.2⟩,k.2.2.2.2.2.2⟩,hS.st.2⟩;have S2:=S1.put (h':= {h with iJ:=op,xn:=n}) (b':=b) (e':=e) (s':=s) 6 (.int .i64 n) rfl ⟨⟨k.1,k.2.1,k.2.2.1,k.2.2.2.1,k.2.2.2.2.1,⟨hok.1,hok.2.1,hx.2.2⟩,k.2.2.2.2.2.2⟩,S1.st.2⟩;have S3:=S2.put (h':= {h with iJ:=op,xn:=n,iP:=nm}) (b':=b) (e':=e) (s':=s) 7 (.string nm) rfl ⟨⟨k.1,k.2.1,k.2.2.1,k.2.2.2.1,k.2.2.2.2.1,⟨hok.1,hok.2.1,hok.2.2.1,hx.2.2.2⟩,k.2.2.2.2.2.2⟩,S2.st.2⟩;refine S3.put 8 _ rfl ⟨⟨k.1,k.2.1,k.2.2.1,k.2.2.2.1,k.2.2.2.2.1,hok,k.2.2.2.2.2.2⟩,fun w2 h2=> ?_⟩;have ha:dH (sb + 1) W w2:=(((bH W ⟨sb,5,none⟩ (.int .i64 op) (Nat.lt_succ_self _)).trans (bH _ ⟨sb,6,none⟩ (.int .i64 n) (Nat.lt_succ_self _))).trans (bH _ ⟨sb,7,none⟩ (.string nm) (Nat.lt_succ_self _))).trans h2;exact ⟨(S3.st.2 w2 h2).1,hst w2 ha,(S3.st.2 w2 h2).2.2⟩
theorem SI.ex {q:Nat} {v:Value} (hS:SI T w sb W h b e s) (hx:EX q W.heap.size v W):EX q (sb + 1) v W:=hx.mono hS.sz
end
theorem fM {T:Tp} {w W8 W:World} (h0:T.bt < w.heap.size∧T.bm < w.heap.size∧T.B0<=w.heap.size) (h:Mk T w W∧bP W T∧dH (w.heap.size + 1) W8 W) (j:Nat) (v:Value):
 Mk T w (W.setCell ⟨w.heap.size,j,none⟩ v)∧bP (W.setCell ⟨w.heap.size,j,none⟩ v) T∧dH (w.heap.size + 1) W8 (W.setCell ⟨w.heap.size,j,none⟩ v):=
 ⟨h.1.set _ _ (Nat.le_refl _),h.2.1.set _ _ h0.2.2 (by show w.heap.size≠_; omega) (by show w.heap.size≠_; omega),h.2.2.trans (bH _ _ _ (Nat.lt_succ_self _))⟩
theorem Bh (T:Tp) (d:Nat) (hd:d<=100) (ih: ∀d':Nat,d=d' + 1->sD T (d':Int)):yD T (d:Int):=by
 unfold yD;rw [Int.toNat_natCast];intro w hI hL;obtain ⟨line,left,hl1,hl2,hl3,hblk⟩:=hL;have HI0:=ah hI;have jk:=ah ih;have Tw:=ah hblk;have Kv:=ah hl1;have bR:aj (T.bt < w.heap.size∧T.bm < w.heap.size∧T.B0<=w.heap.size):=ah ⟨HI0.o.tape.lt,HI0.o.lt,HI0.o.tape.b0⟩;have yP:=hI.lt;have c1:w.cell? ⟨T.bm,1,none⟩=some (.int .i64 line):=(bK hblk (j:=1) rfl).2;have c2:w.cell? ⟨T.bm,2,none⟩=some (.int .i64 left):=(bK hblk (j:=2) rfl).2;have f1:w.frozen? ⟨T.bm,1,none⟩=false:=aB hblk;have f2:w.frozen? ⟨T.bm,2,none⟩=false:=aB hblk;clear hI ih hblk hl1;go_enter Tryz.func22,Tryz.ntmps22;go_upto_region 3 with fail;generalize hW:World.alloc (World.setCell (World.setCell w _ _) _ _) _=W;have HM:aj (Mk T w W):=ah (by rw [<- hW]; exact (((Mk.refl T w).Dh _ _).Dh _ _).trans (Mk.of_below (ak _ _)));have HI:aj (bP W T):=ah (by rw [<- hW]; exact ((HI0.o.line (tX _)).left (by omega) (by omega)).below (ak _ _));have HZ:aj (W.heap[w.heap.size]? =some (.cells Dr 59 (0,0))):=ah (by
  rw [<- hW];have e:(World.setCell (World.setCell w ⟨T.bm,1,none⟩ (.int .i64 (wrap64 (line + 1)))) ⟨T.bm,2,none⟩ (.int .i64 (left - 1))).heap.size=w.heap.size:=by simp [World.setCell]
  rw [<- e]; exact heap_alloc_new _ _)
 clear hW c1 c2 f1 f2 yP Tw Kv hl2 hl3;have K0: ∀w',bP w' T->w'.cell? ⟨T.bm,0,none⟩=some (.pointer (some ⟨T.bt,0,none⟩)):=fun w' h=>h.ptr;have hd1:Mk T W (W.drewN 1):=Mk.of_below (below_drewN (Below.refl _ _) 1);have hd2:bP (W.drewN 1) T:=HI.o.below (below_drewN (Below.refl _ _) 1);have mM:aj (w.heap.size < W.heap.size):=ah (Array.getElem?_eq_some_iff.1 HZ.o).1;refine dB (by kernel_rfl) rfl ?_;refine bS 0 12 [] [[],[0],[0,1],[0,1,2],[0,1,2,3],[0,1,2,3,4],[],[6],[6,7],[6,7,8],[0,1,2,3,4,5,6,7,8,9],[],[0,1,2,3,4,5,6,7,8,9,10,11]] [[],[],[],[],[],[],[],[],[],[],[],[]] (fun _ w'=>Mk T W w'∧bP w' T) (fun w w'=>Mk T w w') [20,21,22,23,24,25,26,27,28,29,30,5] rfl rfl (by rfl) (by kernel_rfl) (by kernel_rfl) (by kernel_rfl) (by kernel_rfl) (by kernel_rfl) (by rfl) (fun _=>Mk.refl _ _) (by rfl) ⟨hd1,hd2⟩ ?_;simp only [jm,kX]
 iterate 4
  apply aJ.step
  case bU=>intro c A w' hok hC hO hD;have e0:=hO 0 (by rfl);simp [Act.eval] at e0;simp [Act.eval] at hD;simp [go_sem,gd,Oper.wp,hD,e0,K0,hC.2];exact aC.mk (Mk.refl _ _) hC (dh.mk _ _)
  try simp only [bV]
 refine aJ.some (fun v _=> ∃r:Nat,v= .int .i64 (r:Int)∧r < 15) (fun _ _ _ _ h=>h) ?_ ?_
 ·intro c A w' hok hC hO hD;simp [Act.eval] at hD;simp [go_sem,gd,Oper.wp,hD];refine (bW T 15 w' (by unfold aD; decide) hC.2).mono ?_;rintro e w2 ⟨r,rfl,h0,h1,-,hM,hI⟩;obtain ⟨r',rfl⟩:=Int.eq_ofNat_of_zero_le h0;exact aC.mk hM ⟨hC.1.trans hM,hI⟩ ⟨r',rfl,by have:=h1 (by decide); omega⟩
 try simp only [bV]
 refine aJ.some (fun v w'=> ∃r:Nat,v= .int .i64 (r:Int)∧1<=r∧r<=15) (fun _ _ _ _ h=>h) ?_ ?_
 ·intro c A w' hok hC hO hD;simp [Act.eval] at hD;obtain ⟨r,hr,CK⟩:=hD;have hw:IntKind.i64.wrap (1 + (r:Int))=1 + r:=IntWalk.i64_in _ (by omega);simp [go_sem,gd,Oper.wp,hr,hw];exact aC.mk (Mk.refl _ _) hC (⟨1 + r,by simp,by omega,by omega⟩)
 try simp only [bV]
 iterate 3
  apply aJ.step
  case bU=>intro c A w' hok hC hO hD;have e0:=hO 0 (by rfl);simp [Act.eval] at e0;simp [Act.eval] at hD;simp [go_sem,gd,Oper.wp,hD,e0];exact aC.mk (Mk.refl _ _) hC (dh.mk _ _)
  try simp only [bV]
 refine aJ.some (fun v w'=> ∃l:Int,v= .int .i64 l∧aD l) (fun _ _ _ _ h=>h) ?_ ?_
 ·intro c A w' hok hC hO hD;simp [Act.eval] at hD;obtain ⟨l,hc,hl⟩:=hC.2.ln;simp [go_sem,gd,Oper.wp,hD,hc];exact aC.mk (Mk.refl _ _) hC (⟨l,rfl,hl⟩)
 try simp only [bV]
 refine aJ.some (fun v w'=> ∃(r:Nat) (l:Int),v=eY (lK r l) .nil .nil Bd∧1<=r∧r<=15∧aD l) (fun _ _ _ _ h=>h) ?_ ?_
 ·intro c A w' hok hC hO hD;simp [Act.eval] at hD;obtain ⟨⟨r,hr,h1,h2⟩,l,hl,h3⟩:=hD;simp [go_sem,gd,Oper.wp,hr,hl];exact aC.mk (Mk.refl _ _) hC (⟨r,l,rfl,h1,h2,h3⟩)
 try simp only [bV]
 refine aJ.some (fun v w'=> ∃sb,v= .pointer (some ⟨sb,0,none⟩)∧W.heap.size<=sb∧w'.heap[sb]? =some (.cells Dr 59 (0,0))) ?_ ?_ ?_
 ·rintro v w1 w' hle ⟨g,h1,h2,h3⟩;exact ⟨g,h1,h2,(hle.block g (Array.getElem?_eq_some_iff.1 h3).1 (by have:=bR.o; have:=mM.o; omega) (by have:=bR.o; have:=mM.o; omega)).trans h3⟩
 ·intro c A w' hok hC hO hD;simp [go_sem,gd,Oper.wp];exact aC.mk (d:=_) (v:= .pointer (some ⟨_,0,none⟩)) (Mk.of_below (ak _ _)) ⟨hC.1.trans (Mk.of_below (ak _ _)),hC.2.below (ak _ _)⟩ ⟨_,rfl,hC.1.size,heap_alloc_new _ _⟩
 simp only [bV];refine aJ.done ?_;intro wz dK;simp only [List.drop_zero];intro v0 h0 v1 h1 v2 h2 v3 h3 v4 h4 v5 h5 v6 h6 v7 h7 v8 h8 v9 h9 v10 h10 v11 h11;obtain ⟨r,l,rfl,hr1,hr2,sM⟩:=h10;obtain ⟨sb,rfl,vF,qx⟩:=h11;clear h0 h1 h2 h3 h4 h5 h6 h7 h8 h9 K0 hd1 hd2;refine cK.nil ?_;go_simp;refine fu 12 [[],[0],[0,1],[0,1,2],[0,1,2,3],[0,1,2,3,4],[],[6],[6,7],[6,7,8],[0,1,2,3,4,5,6,7,8,9],[],[0,1,2,3,4,5,6,7,8,9,10,11]] rfl rfl rfl rfl rfl (by kernel_rfl) (by kernel_rfl) (by kernel_rfl) ?_;have Gn:=ah vF;have Gg:=ah sM;refine wp_store_mid _ _ _ (by rfl) sb 0 (EP (lK r l) .nil .nil Bd).toArray (by rfl) (by rfl) (oF qx (Nat.le_refl 11)) zV (by simp [EP,lK,Bd,Value.oneCell']) ?_;refine eB rfl ?_;generalize mJ:World.setCells wz sb 0 _=W5;have iM:aj (J6 W5 sb (lK r l) .nil .nil Bd):=ah (by rw [<- mJ]; exact iI qx rfl);have Kt:aj (bP W5 T):=ah (by rw [<- mJ]; exact dK.2.sets _ _ _ (by have:=bR.o; have:=mM.o; omega) (by have:=bR.o; have:=mM.o; omega) (by have:=bR.o; have:=mM.o; omega));have Kw:aj (Mk T w W5):=ah (by rw [<- mJ]; exact (HM.o.trans dK.1).sets _ _ _ (by have:=mM.o; omega));have eP:aj (W5.heap[w.heap.size]? =some (.cells Dr 59 (0,0))):=ah (by rw [<- mJ,(aQ sb _ _ wz).block _ (Nat.lt_of_lt_of_le mM.o dK.1.size) (by have:=mM.o; simp; omega)];exact (dK.1.block _ mM.o (by have:=bR.o; omega) (by have:=bR.o; omega)).trans HZ.o);clear mJ dK qx vF sM HZ HI HM;go_simp;have y0:W5.cell? ⟨sb,0,none⟩=some (.int .i64 (r:Int)):=(bK iM.o (j:=0) rfl).2;have f0:W5.frozen? ⟨sb,0,none⟩=false:=aB iM.o;have Nz:aj (SI T w sb W5 (lK r l) .nil .nil Bd):=ah ⟨iM.o,Oe _ _ (by unfold aD; omega) Gg.o,Kt.o,Kw.o,eP.o,by have:=Gn.o; have:=mM.o; omega,bR.o⟩;clear iM Kt Kw eP;go_upto_region 4 with fail;go_cut [42] (fun s' W'=>W5=W'∧ ∃q,s'= .bool q∧decide (d=0∧2<=r∧r<=8)=q)
 case first=>
  cases hdz:((d:Int) == 0)
  ·have hdn:d≠0:=by simpa using hdz
   go_wp2_with fail;go_meet;exact ⟨rfl,_,rfl,by go_light; grind⟩
  ·have hdn:d=0:=by simpa using hdz
   have Tx:=ah hdn;clear hdn;go_wp2_with fail
   all_goals go_meet
   all_goals exact ⟨rfl,_,rfl,by have:=Tx.o; go_light; grind⟩
 obtain ⟨rfl,q,rfl,hq⟩:=hcut;have HQ:=ah hq;clear hq
 go_upto_if 42 with fail
 go_cut [5] (fun s5 W'=>s5= .pointer (some ⟨sb,0,none⟩)∧ ∃r':Nat,1<=r'∧r'<=15∧(d=0->r' < 2∨8 < r')∧SI T w sb W' (lK r' l) .nil .nil Bd)
 case first=>
  cases q
  ·have hq: ¬ (d=0∧2<=r∧r<=8):=by simpa using HQ.o
   have Ec:aj (d=0->r < 2∨8 < r):=ah (fun e=>by omega);clear hq;go_wp2_with fail;go_meet;exact ⟨rfl,r,hr1,hr2,Ec.o,Nz.o⟩
  ·go_wp2_with fail;go_meet;exact ⟨rfl,1,by decide,by decide,fun _=> .inl (by decide),Nz.o.op 1 (by unfold aD; decide)⟩
 obtain ⟨rfl,r',hr1',hr2',Ox,hS⟩:=hcut;obtain ⟨W6,rfl⟩: ∃W:World,W=wc:=⟨_,rfl⟩;have cZ:=ah hS;have HR3:=ah Ox;clear hS Ox Nz HQ y0 f0 hr1 hr2;have y0:W6.cell? ⟨sb,0,none⟩=some (.int .i64 (r':Int)):=(bK cZ.o.box (j:=0) rfl).2;go_upto_block 0 with fail;go_cut [5] (fun s5 W'=>s5= .pointer (some ⟨sb,0,none⟩)∧ ∃h s,h.op=(r':Int)∧Al h∧SI T w sb W' h .nil .nil s)
 case first=>
  have HRR:aj ((lK r' l).op=(r':Int)):=ah rfl;have E1:aj (pY T 1):=ah (xC T 1 (by decide));have E2:aj (pY T 2):=ah (xC T 2 (by decide));clear y0;have hc:r'=1∨r'=2∨r'=3∨r'=4∨r'=5∨r'=6∨r'=7∨r'=8∨r'=9∨r'=10∨r'=11∨r'=12∨r'=13∨r'=14∨r'=15:=by omega
  clear hr1' hr2';rcases hc with hop | hop | hop | hop | hop | hop | hop | hop | hop | hop | hop | hop | hop | hop | hop
  ·skip;have dF:=ah hop;clear hop;have hop:=dF.o;have g1:((r':Int) == 1)=true:=by rw [hop]; rfl
   have g2:((r':Int) == 2)=false:=by rw [hop]; rfl
   have g3:((r':Int) == 3)=false:=by rw [hop]; rfl
   have g4:((r':Int) == 4)=false:=by rw [hop]; rfl
   have g5:((r':Int) == 5)=false:=by rw [hop]; rfl
   have g6:((r':Int) == 6)=false:=by rw [hop]; rfl
   have g7:((r':Int) == 7)=false:=by rw [hop]; rfl
   have g8:((r':Int) == 8)=false:=by rw [hop]; rfl
   have g9:((r':Int) == 9)=false:=by rw [hop]; rfl
   have g10:((r':Int) == 10)=false:=by rw [hop]; rfl
   have g11:((r':Int) == 11)=false:=by rw [hop]; rfl
   have g12:((r':Int) == 12)=false:=by rw [hop]; rfl
   have g13:((r':Int) == 13)=false:=by rw [hop]; rfl
   have g14:((r':Int) == 14)=false:=by rw [hop]; rfl
   have g15:((r':Int) == 15)=false:=by rw [hop]; rfl
   clear hop;go_wp2_with fail;refine (iU T _ _ 5 na (cZ.o.mi.below (ak _ _)) (heap_alloc_new _ _) (by decide) (by decide) Ql (Nat.ne_of_gt cZ.o.mi.tape.lt) (Nat.ne_of_gt cZ.o.mi.lt)).mono ?_;rintro e wa ⟨sa,rfl,hsa,gW,gV⟩;have dQ:=ah (cZ.o.go ((Mk.of_below (ak _ _)).trans gW) gV);have iZ:=ah hsa;clear gW gV hsa;obtain ⟨-,-,y2,-,-,-,-,-,-,-,-⟩:=lU dQ.o.box;have f2:wa.frozen? ⟨sb,2,none⟩=false:=aB dQ.o.box;go_upto_region 9 with fail;generalize qX:World.setCell wa _ _=wb;have jS:=ah (dQ.o.nm sa iZ.o.1);rw [qX] at jS;clear qX y2 f2 dQ;go_cut [62] (fun s' W'=>(∃q,s'= .bool q)∧SI T w sb W' {lK r' l with nm:=sa} .nil .nil Bd)
   case first=>
    obtain ⟨-,-,y2,-,-,-,-,-,-,-,-⟩:=lU jS.o.box;have c0:=jS.o.mi.ptr;go_wp2_with (first | (go_at_call 9; refine (bW T 6 _ (by unfold aD; decide) jS.o.mi).mono ?_; rintro e wn ⟨kn,rfl,hn1,hn2,Lb,Hw,hIn⟩; have NC:=ah (jS.o.go Hw hIn); clear Hw hIn))
    all_goals go_meet
    all_goals first | exact ⟨⟨_,rfl⟩,NC.o⟩ | exact ⟨⟨_,rfl⟩,jS.o⟩
   obtain ⟨⟨q,rfl⟩,AQ⟩:=hcut;obtain ⟨wd,rfl⟩: ∃W:World,W=wc:=⟨_,rfl⟩;have wM:=ah AQ;clear AQ jS
   go_upto_if 62 with fail
   go_cut [5] (fun s5 W'=>s5= .pointer (some ⟨sb,0,none⟩)∧ ∃ix s,(ix.len<=1∧Ei (GE 1) ix)∧SI T w sb W' {lK r' l with nm:=sa,idx:=ix} .nil .nil s)
   case first=>
    cases q
    ·go_wp2_with fail;go_meet;exact ⟨rfl,.nil,_,⟨by decide,rfl,Nat.zero_le _⟩,wM.o⟩
    ·go_wp2_with fail;refine (E1.o _ wM.o.mi).mono ?_;intro e wf hp;obtain ⟨v,rfl,hex,Hu,Hq⟩:=mR hp;have yw:=ah (wM.o.go Hu Hq);obtain ⟨xo,xn,xm,xk,xa,xc,rfl,hok,hst⟩:=hex;have eO:=ah hok;have HST:=ah (hst.mono wM.o.sz);clear hp hok hst Hu Hq;unfold exV;obtain ⟨-,-,-,-,y4,-,-,-,-,-,-⟩:=lU yw.o.box;have f4:wf.frozen? ⟨sb,4,none⟩=false:=aB yw.o.box;have hlt:sb < wf.heap.size:=yw.o.sz;go_wp2_with fail;go_meet;have HR:=yw.o.go (Mk.of_below (ak _ (.cells #[.int .i64 xo,.int .i64 xn,.string xm,.slice xa xk.len xc] 57))) (yw.o.mi.below (ak _ _));have qc:=HR.idx (.cons xo xn xm xk .nil) (some ⟨wf.heap.size,0,none⟩) 1 (by simp [aG.len,maxLen]) (Dp (heap_alloc_new _ _) hlt eO.o.1 ((HST.o).next (aO (ak _ _))));rw [World.setCell_alloc_past _ _ _ _ (show (Addr.mk sb 4 none).block < _ from hlt)] at qc;have TS:=ah (tT eO.o.2);have Nv:=ah qc;clear qc HR;refine ⟨rfl,?_⟩;exact ⟨.cons xo xn xm xk .nil,_,⟨Nat.le_refl 1,TS.o⟩,Nv.o⟩
   obtain ⟨rfl,ix,s2,hix,AQ⟩:=hcut;have BM:=ah hix;clear hix;obtain ⟨wg,rfl⟩: ∃W:World,W=wc:=⟨_,rfl⟩;have NA:=ah AQ;clear AQ wM;go_wp2_with fail;refine (E2.o _ NA.o.mi).mono ?_;intro e wi hp;obtain ⟨v,rfl,hex,Rn,Rj⟩:=mR hp;have Ed:=ah (NA.o.go Rn Rj);obtain ⟨xo,xn,xm,xk,xa,xc,rfl,hok,hst⟩:=hex;have eO:=ah hok;have HST:=ah (hst.mono NA.o.sz);clear hp hok hst Rn Rj;unfold exV;obtain ⟨-,-,-,-,-,y5,y6,y7,y8,-,-⟩:=lU Ed.o.box;have f5:wi.frozen? ⟨sb,5,none⟩=false:=aB Ed.o.box;have f6:wi.frozen? ⟨sb,6,none⟩=false:=aB Ed.o.box;have f7:wi.frozen? ⟨sb,7,none⟩=false:=aB Ed.o.box;have f8:wi.frozen? ⟨sb,8,none⟩=false:=aB Ed.o.box;go_wp2_with fail;go_meet;refine ⟨rfl,_,_,?_,Mr dF.o iZ.o.2 BM.o eO.o.2,Ed.o.x xo xn xm xk xa xc eO.o.1 HST.o⟩;exact HRR.o
  ·as_aux_lemma=>have dF:=ah hop;clear hop;have hop:=dF.o;have g1:((r':Int) == 1)=false:=(by rw [hop]; rfl);have g2:((r':Int) == 2)=true:=(by rw [hop]; rfl);have g3:((r':Int) == 3)=false:=(by rw [hop]; rfl);have g4:((r':Int) == 4)=false:=(by rw [hop]; rfl);have g5:((r':Int) == 5)=false:=(by rw [hop]; rfl);have g6:((r':Int) == 6)=false:=(by rw [hop]; rfl);have g7:((r':Int) == 7)=false:=(by rw [hop]; rfl);have g8:((r':Int) == 8)=false:=(by rw [hop]; rfl);have g9:((r':Int) == 9)=false:=(by rw [hop]; rfl);have g10:((r':Int) == 10)=false:=(by rw [hop]; rfl);have g11:((r':Int) == 11)=false:=(by rw [hop]; rfl);have g12:((r':Int) == 12)=false:=(by rw [hop]; rfl);have g13:((r':Int) == 13)=false:=(by rw [hop]; rfl);have g14:((r':Int) == 14)=false:=(by rw [hop]; rfl);have g15:((r':Int) == 15)=false:=(by rw [hop]; rfl);clear hop;go_wp2_with fail;refine (E2.o _ cZ.o.mi).mono ?_;intro e wa hp;obtain ⟨v,rfl,hex,gW,gV⟩:=mR hp;have dQ:=ah (cZ.o.go gW gV);obtain ⟨xo,xn,xm,xk,xa,xc,rfl,hok,hst⟩:=hex;have eO:=ah hok;have HST:=ah (hst.mono cZ.o.sz);clear hp hok hst gW gV;unfold exV;obtain ⟨-,-,-,-,-,y5,y6,y7,y8,-,-⟩:=lU dQ.o.box;have f5:wa.frozen? ⟨sb,5,none⟩=false:=aB dQ.o.box;have f6:wa.frozen? ⟨sb,6,none⟩=false:=aB dQ.o.box;have f7:wa.frozen? ⟨sb,7,none⟩=false:=aB dQ.o.box;have f8:wa.frozen? ⟨sb,8,none⟩=false:=aB dQ.o.box;go_wp2_with fail;go_meet;refine ⟨rfl,_,_,?_,Di (by have:=dF.o; omega) eO.o.2,dQ.o.x xo xn xm xk xa xc eO.o.1 HST.o⟩;exact HRR.o
  ·as_aux_lemma=>have dF:=ah hop;clear hop;have hop:=dF.o;have g1:((r':Int) == 1)=false:=(by rw [hop]; rfl);have g2:((r':Int) == 2)=false:=(by rw [hop]; rfl);have g3:((r':Int) == 3)=true:=(by rw [hop]; rfl);have g4:((r':Int) == 4)=false:=(by rw [hop]; rfl);have g5:((r':Int) == 5)=false:=(by rw [hop]; rfl);have g6:((r':Int) == 6)=false:=(by rw [hop]; rfl);have g7:((r':Int) == 7)=false:=(by rw [hop]; rfl);have g8:((r':Int) == 8)=false:=(by rw [hop]; rfl);have g9:((r':Int) == 9)=false:=(by rw [hop]; rfl);have g10:((r':Int) == 10)=false:=(by rw [hop]; rfl);have g11:((r':Int) == 11)=false:=(by rw [hop]; rfl);have g12:((r':Int) == 12)=false:=(by rw [hop]; rfl);have g13:((r':Int) == 13)=false:=(by rw [hop]; rfl);have g14:((r':Int) == 14)=false:=(by rw [hop]; rfl);have g15:((r':Int) == 15)=false:=(by rw [hop]; rfl);clear hop;go_wp2_with fail;refine (E2.o _ cZ.o.mi).mono ?_;intro e wa hp;obtain ⟨v,rfl,hex,gW,gV⟩:=mR hp;have dQ:=ah (cZ.o.go gW gV);obtain ⟨xo,xn,xm,xk,xa,xc,rfl,hok,hst⟩:=hex;have eO:=ah hok;have HST:=ah (hst.mono cZ.o.sz);clear hp hok hst gW gV;unfold exV;obtain ⟨-,-,-,-,-,y5,y6,y7,y8,-,-⟩:=lU dQ.o.box;have f5:wa.frozen? ⟨sb,5,none⟩=false:=aB dQ.o.box;have f6:wa.frozen? ⟨sb,6,none⟩=false:=aB dQ.o.box;have f7:wa.frozen? ⟨sb,7,none⟩=false:=aB dQ.o.box;have f8:wa.frozen? ⟨sb,8,none⟩=false:=aB dQ.o.box;go_wp2_with fail;go_meet;refine ⟨rfl,_,_,?_,Di (by have:=dF.o; omega) eO.o.2,dQ.o.x xo xn xm xk xa xc eO.o.1 HST.o⟩;exact HRR.o
  ·as_aux_lemma=>have dF:=ah hop;clear hop;have hop:=dF.o;have g1:((r':Int) == 1)=false:=(by rw [hop]; rfl);have g2:((r':Int) == 2)=false:=(by rw [hop]; rfl);have g3:((r':Int) == 3)=false:=(by rw [hop]; rfl);have g4:((r':Int) == 4)=true:=(by rw [hop]; rfl);have g5:((r':Int) == 5)=false:=(by rw [hop]; rfl);have g6:((r':Int) == 6)=false:=(by rw [hop]; rfl);have g7:((r':Int) == 7)=false:=(by rw [hop]; rfl);have g8:((r':Int) == 8)=false:=(by rw [hop]; rfl);have g9:((r':Int) == 9)=false:=(by rw [hop]; rfl);have g10:((r':Int) == 10)=false:=(by rw [hop]; rfl);have g11:((r':Int) == 11)=false:=(by rw [hop]; rfl);have g12:((r':Int) == 12)=false:=(by rw [hop]; rfl);have g13:((r':Int) == 13)=false:=(by rw [hop]; rfl);have g14:((r':Int) == 14)=false:=(by rw [hop]; rfl);have g15:((r':Int) == 15)=false:=(by rw [hop]; rfl);clear hop;go_wp2_with fail;refine (iU T _ _ 2 nb (cZ.o.mi.below (ak _ _)) (heap_alloc_new _ _) (by decide) (by decide) Qm (Nat.ne_of_gt cZ.o.mi.tape.lt) (Nat.ne_of_gt cZ.o.mi.lt)).mono ?_;rintro e wa ⟨sa,rfl,hsa,gW,gV⟩;have dQ:=ah (cZ.o.go ((Mk.of_below (ak _ _)).trans gW) gV);have iZ:=ah hsa;clear gW gV hsa;obtain ⟨-,-,y2,-,-,-,-,-,-,-,-⟩:=lU dQ.o.box;have f2:wa.frozen? ⟨sb,2,none⟩=false:=aB dQ.o.box;go_wp2_with fail;go_meet;refine ⟨rfl,_,_,?_,kZ (by have:=dF.o; omega) iZ.o.2,dQ.o.nm sa iZ.o.1⟩;exact HRR.o
  ·as_aux_lemma=>have dF:=ah hop;clear hop;have hop:=dF.o;have g1:((r':Int) == 1)=false:=(by rw [hop]; rfl);have g2:((r':Int) == 2)=false:=(by rw [hop]; rfl);have g3:((r':Int) == 3)=false:=(by rw [hop]; rfl);have g4:((r':Int) == 4)=false:=(by rw [hop]; rfl);have g5:((r':Int) == 5)=true:=(by rw [hop]; rfl);have g6:((r':Int) == 6)=false:=(by rw [hop]; rfl);have g7:((r':Int) == 7)=false:=(by rw [hop]; rfl);have g8:((r':Int) == 8)=false:=(by rw [hop]; rfl);have g9:((r':Int) == 9)=false:=(by rw [hop]; rfl);have g10:((r':Int) == 10)=false:=(by rw [hop]; rfl);have g11:((r':Int) == 11)=false:=(by rw [hop]; rfl);have g12:((r':Int) == 12)=false:=(by rw [hop]; rfl);have g13:((r':Int) == 13)=false:=(by rw [hop]; rfl);have g14:((r':Int) == 14)=false:=(by rw [hop]; rfl);have g15:((r':Int) == 15)=false:=(by rw [hop]; rfl);clear hop;go_wp2_with fail;refine (iU T _ _ 1 nc (cZ.o.mi.below (ak _ _)) (heap_alloc_new _ _) (by decide) (by decide) Lf (Nat.ne_of_gt cZ.o.mi.tape.lt) (Nat.ne_of_gt cZ.o.mi.lt)).mono ?_;rintro e wa ⟨sa,rfl,hsa,gW,gV⟩;have dQ:=ah (cZ.o.go ((Mk.of_below (ak _ _)).trans gW) gV);have iZ:=ah hsa;clear gW gV hsa;obtain ⟨-,-,y2,-,-,-,-,-,-,-,-⟩:=lU dQ.o.box;have f2:wa.frozen? ⟨sb,2,none⟩=false:=aB dQ.o.box;go_wp2_with fail;go_meet;refine ⟨rfl,_,_,?_,kZ (by have:=dF.o; omega) iZ.o.2,dQ.o.nm sa iZ.o.1⟩;exact HRR.o
  ·as_aux_lemma=>have dF:=ah hop;clear hop;have hop:=dF.o;have g1:((r':Int) == 1)=false:=(by rw [hop]; rfl);have g2:((r':Int) == 2)=false:=(by rw [hop]; rfl);have g3:((r':Int) == 3)=false:=(by rw [hop]; rfl);have g4:((r':Int) == 4)=false:=(by rw [hop]; rfl);have g5:((r':Int) == 5)=false:=(by rw [hop]; rfl);have g6:((r':Int) == 6)=true:=(by rw [hop]; rfl);have g7:((r':Int) == 7)=false:=(by rw [hop]; rfl);have g8:((r':Int) == 8)=false:=(by rw [hop]; rfl);have g9:((r':Int) == 9)=false:=(by rw [hop]; rfl);have g10:((r':Int) == 10)=false:=(by rw [hop]; rfl);have g11:((r':Int) == 11)=false:=(by rw [hop]; rfl);have g12:((r':Int) == 12)=false:=(by rw [hop]; rfl);have g13:((r':Int) == 13)=false:=(by rw [hop]; rfl);have g14:((r':Int) == 14)=false:=(by rw [hop]; rfl);have g15:((r':Int) == 15)=false:=(by rw [hop]; rfl);clear hop;go_wp2_with fail;refine (iU T _ _ 1 nc (cZ.o.mi.below (ak _ _)) (heap_alloc_new _ _) (by decide) (by decide) Lf (Nat.ne_of_gt cZ.o.mi.tape.lt) (Nat.ne_of_gt cZ.o.mi.lt)).mono ?_;rintro e wa ⟨sa,rfl,hsa,gW,gV⟩;have dQ:=ah (cZ.o.go ((Mk.of_below (ak _ _)).trans gW) gV);have iZ:=ah hsa;clear gW gV hsa;obtain ⟨-,-,y2,-,-,-,-,-,-,-,-⟩:=lU dQ.o.box;have f2:wa.frozen? ⟨sb,2,none⟩=false:=aB dQ.o.box;go_wp2_with fail;go_meet;refine ⟨rfl,_,_,?_,kZ (by have:=dF.o; omega) iZ.o.2,dQ.o.nm sa iZ.o.1⟩;exact HRR.o
  ·as_aux_lemma=>have dF:=ah hop;clear hop;have hop:=dF.o;have g1:((r':Int) == 1)=false:=(by rw [hop]; rfl);have g2:((r':Int) == 2)=false:=(by rw [hop]; rfl);have g3:((r':Int) == 3)=false:=(by rw [hop]; rfl);have g4:((r':Int) == 4)=false:=(by rw [hop]; rfl);have g5:((r':Int) == 5)=false:=(by rw [hop]; rfl);have g6:((r':Int) == 6)=false:=(by rw [hop]; rfl);have g7:((r':Int) == 7)=true:=(by rw [hop]; rfl);have g8:((r':Int) == 8)=false:=(by rw [hop]; rfl);have g9:((r':Int) == 9)=false:=(by rw [hop]; rfl);have g10:((r':Int) == 10)=false:=(by rw [hop]; rfl);have g11:((r':Int) == 11)=false:=(by rw [hop]; rfl);have g12:((r':Int) == 12)=false:=(by rw [hop]; rfl);have g13:((r':Int) == 13)=false:=(by rw [hop]; rfl);have g14:((r':Int) == 14)=false:=(by rw [hop]; rfl);have g15:((r':Int) == 15)=false:=(by rw [hop]; rfl);clear hop;go_wp2_with fail;go_meet;exact ⟨rfl,_,_,HRR.o,Bf (by have:=dF.o; omega),cZ.o⟩
  ·as_aux_lemma=>have dF:=ah hop;clear hop;have hop:=dF.o;have g1:((r':Int) == 1)=false:=(by rw [hop]; rfl);have g2:((r':Int) == 2)=false:=(by rw [hop]; rfl);have g3:((r':Int) == 3)=false:=(by rw [hop]; rfl);have g4:((r':Int) == 4)=false:=(by rw [hop]; rfl);have g5:((r':Int) == 5)=false:=(by rw [hop]; rfl);have g6:((r':Int) == 6)=false:=(by rw [hop]; rfl);have g7:((r':Int) == 7)=false:=(by rw [hop]; rfl);have g8:((r':Int) == 8)=true:=(by rw [hop]; rfl);have g9:((r':Int) == 9)=false:=(by rw [hop]; rfl);have g10:((r':Int) == 10)=false:=(by rw [hop]; rfl);have g11:((r':Int) == 11)=false:=(by rw [hop]; rfl);have g12:((r':Int) == 12)=false:=(by rw [hop]; rfl);have g13:((r':Int) == 13)=false:=(by rw [hop]; rfl);have g14:((r':Int) == 14)=false:=(by rw [hop]; rfl);have g15:((r':Int) == 15)=false:=(by rw [hop]; rfl);clear hop;go_wp2_with fail;go_meet;exact ⟨rfl,_,_,HRR.o,Bf (by have:=dF.o; omega),cZ.o⟩
  ·as_aux_lemma=>have dF:=ah hop;clear hop;have hop:=dF.o;have g1:((r':Int) == 1)=false:=(by rw [hop]; rfl);have g2:((r':Int) == 2)=false:=(by rw [hop]; rfl);have g3:((r':Int) == 3)=false:=(by rw [hop]; rfl);have g4:((r':Int) == 4)=false:=(by rw [hop]; rfl);have g5:((r':Int) == 5)=false:=(by rw [hop]; rfl);have g6:((r':Int) == 6)=false:=(by rw [hop]; rfl);have g7:((r':Int) == 7)=false:=(by rw [hop]; rfl);have g8:((r':Int) == 8)=false:=(by rw [hop]; rfl);have g9:((r':Int) == 9)=true:=(by rw [hop]; rfl);have g10:((r':Int) == 10)=false:=(by rw [hop]; rfl);have g11:((r':Int) == 11)=false:=(by rw [hop]; rfl);have g12:((r':Int) == 12)=false:=(by rw [hop]; rfl);have g13:((r':Int) == 13)=false:=(by rw [hop]; rfl);have g14:((r':Int) == 14)=false:=(by rw [hop]; rfl);have g15:((r':Int) == 15)=false:=(by rw [hop]; rfl);clear hop;go_wp2_with fail;refine (iU T _ _ 1 nd (cZ.o.mi.below (ak _ _)) (heap_alloc_new _ _) (by decide) (by decide) FK (Nat.ne_of_gt cZ.o.mi.tape.lt) (Nat.ne_of_gt cZ.o.mi.lt)).mono ?_;rintro e wa ⟨sa,rfl,hsa,gW,gV⟩;have dQ:=ah (cZ.o.go ((Mk.of_below (ak _ _)).trans gW) gV);have iZ:=ah hsa;clear gW gV hsa;obtain ⟨-,-,y2,-,-,-,-,-,-,-,-⟩:=lU dQ.o.box;have f2:wa.frozen? ⟨sb,2,none⟩=false:=aB dQ.o.box;go_wp2_with fail;go_meet;refine ⟨rfl,_,_,?_,kZ (by have:=dF.o; omega) iZ.o.2,dQ.o.nm sa iZ.o.1⟩;exact HRR.o
  ·as_aux_lemma=>have dF:=ah hop;clear hop;have hop:=dF.o;have g1:((r':Int) == 1)=false:=(by rw [hop]; rfl);have g2:((r':Int) == 2)=false:=(by rw [hop]; rfl);have g3:((r':Int) == 3)=false:=(by rw [hop]; rfl);have g4:((r':Int) == 4)=false:=(by rw [hop]; rfl);have g5:((r':Int) == 5)=false:=(by rw [hop]; rfl);have g6:((r':Int) == 6)=false:=(by rw [hop]; rfl);have g7:((r':Int) == 7)=false:=(by rw [hop]; rfl);have g8:((r':Int) == 8)=false:=(by rw [hop]; rfl);have g9:((r':Int) == 9)=false:=(by rw [hop]; rfl);have g10:((r':Int) == 10)=true:=(by rw [hop]; rfl);have g11:((r':Int) == 11)=false:=(by rw [hop]; rfl);have g12:((r':Int) == 12)=false:=(by rw [hop]; rfl);have g13:((r':Int) == 13)=false:=(by rw [hop]; rfl);have g14:((r':Int) == 14)=false:=(by rw [hop]; rfl);have g15:((r':Int) == 15)=false:=(by rw [hop]; rfl);clear hop;go_wp2_with fail;refine (iU T _ _ 1 nd (cZ.o.mi.below (ak _ _)) (heap_alloc_new _ _) (by decide) (by decide) FK (Nat.ne_of_gt cZ.o.mi.tape.lt) (Nat.ne_of_gt cZ.o.mi.lt)).mono ?_;rintro e wa ⟨sa,rfl,hsa,gW,gV⟩;have dQ:=ah (cZ.o.go ((Mk.of_below (ak _ _)).trans gW) gV);have iZ:=ah hsa;clear gW gV hsa;obtain ⟨-,-,y2,-,-,-,-,-,-,-,-⟩:=lU dQ.o.box;have f2:wa.frozen? ⟨sb,2,none⟩=false:=aB dQ.o.box;go_wp2_with fail;go_meet;refine ⟨rfl,_,_,?_,kZ (by have:=dF.o; omega) iZ.o.2,dQ.o.nm sa iZ.o.1⟩;exact HRR.o
  ·as_aux_lemma=>have dF:=ah hop;clear hop;have hop:=dF.o;have g1:((r':Int) == 1)=false:=(by rw [hop]; rfl);have g2:((r':Int) == 2)=false:=(by rw [hop]; rfl);have g3:((r':Int) == 3)=false:=(by rw [hop]; rfl);have g4:((r':Int) == 4)=false:=(by rw [hop]; rfl);have g5:((r':Int) == 5)=false:=(by rw [hop]; rfl);have g6:((r':Int) == 6)=false:=(by rw [hop]; rfl);have g7:((r':Int) == 7)=false:=(by rw [hop]; rfl);have g8:((r':Int) == 8)=false:=(by rw [hop]; rfl);have g9:((r':Int) == 9)=false:=(by rw [hop]; rfl);have g10:((r':Int) == 10)=false:=(by rw [hop]; rfl);have g11:((r':Int) == 11)=true:=(by rw [hop]; rfl);have g12:((r':Int) == 12)=false:=(by rw [hop]; rfl);have g13:((r':Int) == 13)=false:=(by rw [hop]; rfl);have g14:((r':Int) == 14)=false:=(by rw [hop]; rfl);have g15:((r':Int) == 15)=false:=(by rw [hop]; rfl);clear hop;go_wp2_with fail;refine (iU T _ _ 1 nd (cZ.o.mi.below (ak _ _)) (heap_alloc_new _ _) (by decide) (by decide) FK (Nat.ne_of_gt cZ.o.mi.tape.lt) (Nat.ne_of_gt cZ.o.mi.lt)).mono ?_;rintro e wa ⟨sa,rfl,hsa,gW,gV⟩;have dQ:=ah (cZ.o.go ((Mk.of_below (ak _ _)).trans gW) gV);have iZ:=ah hsa;clear gW gV hsa;obtain ⟨-,-,y2,-,-,-,-,-,-,-,-⟩:=lU dQ.o.box;have f2:wa.frozen? ⟨sb,2,none⟩=false:=aB dQ.o.box;go_wp2_with fail;go_meet;refine ⟨rfl,_,_,?_,kZ (by have:=dF.o; omega) iZ.o.2,dQ.o.nm sa iZ.o.1⟩;exact HRR.o
  ·as_aux_lemma=>have dF:=ah hop;clear hop;have hop:=dF.o;have g1:((r':Int) == 1)=false:=(by rw [hop]; rfl);have g2:((r':Int) == 2)=false:=(by rw [hop]; rfl);have g3:((r':Int) == 3)=false:=(by rw [hop]; rfl);have g4:((r':Int) == 4)=false:=(by rw [hop]; rfl);have g5:((r':Int) == 5)=false:=(by rw [hop]; rfl);have g6:((r':Int) == 6)=false:=(by rw [hop]; rfl);have g7:((r':Int) == 7)=false:=(by rw [hop]; rfl);have g8:((r':Int) == 8)=false:=(by rw [hop]; rfl);have g9:((r':Int) == 9)=false:=(by rw [hop]; rfl);have g10:((r':Int) == 10)=false:=(by rw [hop]; rfl);have g11:((r':Int) == 11)=false:=(by rw [hop]; rfl);have g12:((r':Int) == 12)=true:=(by rw [hop]; rfl);have g13:((r':Int) == 13)=false:=(by rw [hop]; rfl);have g14:((r':Int) == 14)=false:=(by rw [hop]; rfl);have g15:((r':Int) == 15)=false:=(by rw [hop]; rfl);clear hop;go_wp2_with fail;refine (iU T _ _ 3 ne (cZ.o.mi.below (ak _ _)) (heap_alloc_new _ _) (by decide) (by decide) Lg (Nat.ne_of_gt cZ.o.mi.tape.lt) (Nat.ne_of_gt cZ.o.mi.lt)).mono ?_;rintro e wa ⟨sa,rfl,hsa,gW,gV⟩;have dQ:=ah (cZ.o.go ((Mk.of_below (ak _ _)).trans gW) gV);have iZ:=ah hsa;clear gW gV hsa;obtain ⟨-,-,y2,-,-,-,-,-,-,-,-⟩:=lU dQ.o.box;have f2:wa.frozen? ⟨sb,2,none⟩=false:=aB dQ.o.box;go_wp2_with fail;go_meet;refine ⟨rfl,_,_,?_,kZ (by have:=dF.o; omega) iZ.o.2,dQ.o.nm sa iZ.o.1⟩;exact HRR.o
  ·as_aux_lemma=>have dF:=ah hop;clear hop;have hop:=dF.o;have g1:((r':Int) == 1)=false:=(by rw [hop]; rfl);have g2:((r':Int) == 2)=false:=(by rw [hop]; rfl);have g3:((r':Int) == 3)=false:=(by rw [hop]; rfl);have g4:((r':Int) == 4)=false:=(by rw [hop]; rfl);have g5:((r':Int) == 5)=false:=(by rw [hop]; rfl);have g6:((r':Int) == 6)=false:=(by rw [hop]; rfl);have g7:((r':Int) == 7)=false:=(by rw [hop]; rfl);have g8:((r':Int) == 8)=false:=(by rw [hop]; rfl);have g9:((r':Int) == 9)=false:=(by rw [hop]; rfl);have g10:((r':Int) == 10)=false:=(by rw [hop]; rfl);have g11:((r':Int) == 11)=false:=(by rw [hop]; rfl);have g12:((r':Int) == 12)=false:=(by rw [hop]; rfl);have g13:((r':Int) == 13)=true:=(by rw [hop]; rfl);have g14:((r':Int) == 14)=false:=(by rw [hop]; rfl);have g15:((r':Int) == 15)=false:=(by rw [hop]; rfl);clear hop;go_wp2_with fail;refine (iU T _ _ 3 ne (cZ.o.mi.below (ak _ _)) (heap_alloc_new _ _) (by decide) (by decide) Lg (Nat.ne_of_gt cZ.o.mi.tape.lt) (Nat.ne_of_gt cZ.o.mi.lt)).mono ?_;rintro e wa ⟨sa,rfl,hsa,gW,gV⟩;have dQ:=ah (cZ.o.go ((Mk.of_below (ak _ _)).trans gW) gV);have iZ:=ah hsa;clear gW gV hsa;obtain ⟨-,-,y2,-,-,-,-,-,-,-,-⟩:=lU dQ.o.box;have f2:wa.frozen? ⟨sb,2,none⟩=false:=aB dQ.o.box;go_wp2_with fail;go_meet;refine ⟨rfl,_,_,?_,kZ (by have:=dF.o; omega) iZ.o.2,dQ.o.nm sa iZ.o.1⟩;exact HRR.o
  ·as_aux_lemma=>have dF:=ah hop;clear hop;have hop:=dF.o;have g1:((r':Int) == 1)=false:=(by rw [hop]; rfl);have g2:((r':Int) == 2)=false:=(by rw [hop]; rfl);have g3:((r':Int) == 3)=false:=(by rw [hop]; rfl);have g4:((r':Int) == 4)=false:=(by rw [hop]; rfl);have g5:((r':Int) == 5)=false:=(by rw [hop]; rfl);have g6:((r':Int) == 6)=false:=(by rw [hop]; rfl);have g7:((r':Int) == 7)=false:=(by rw [hop]; rfl);have g8:((r':Int) == 8)=false:=(by rw [hop]; rfl);have g9:((r':Int) == 9)=false:=(by rw [hop]; rfl);have g10:((r':Int) == 10)=false:=(by rw [hop]; rfl);have g11:((r':Int) == 11)=false:=(by rw [hop]; rfl);have g12:((r':Int) == 12)=false:=(by rw [hop]; rfl);have g13:((r':Int) == 13)=false:=(by rw [hop]; rfl);have g14:((r':Int) == 14)=true:=(by rw [hop]; rfl);have g15:((r':Int) == 15)=false:=(by rw [hop]; rfl);clear hop;go_wp2_with fail;refine (iU T _ _ 1 nf (cZ.o.mi.below (ak _ _)) (heap_alloc_new _ _) (by decide) (by decide) Lh (Nat.ne_of_gt cZ.o.mi.tape.lt) (Nat.ne_of_gt cZ.o.mi.lt)).mono ?_;rintro e wa ⟨sa,rfl,hsa,gW,gV⟩;have dQ:=ah (cZ.o.go ((Mk.of_below (ak _ _)).trans gW) gV);have iZ:=ah hsa;clear gW gV hsa;obtain ⟨-,-,y2,-,-,-,-,-,-,-,-⟩:=lU dQ.o.box;have f2:wa.frozen? ⟨sb,2,none⟩=false:=aB dQ.o.box;go_upto_region 31 with fail;generalize qX:World.setCell wa _ _=wb;have jS:=ah (dQ.o.nm sa iZ.o.1);rw [qX] at jS;clear qX y2 f2 dQ;go_wp2_with fail;refine (E1.o _ jS.o.mi).mono ?_;intro e wc hp;obtain ⟨v,rfl,hex,Ht,Ho⟩:=mR hp;have HSc:=ah (jS.o.go Ht Ho);obtain ⟨xo,xn,xm,xk,xa,xc,rfl,hok,hst⟩:=hex;have eO:=ah hok;have HST:=ah (hst.mono jS.o.sz);clear hp hok hst Ht Ho;unfold exV;obtain ⟨-,-,-,-,-,y5,y6,y7,y8,-,-⟩:=lU HSc.o.box;have f5:wc.frozen? ⟨sb,5,none⟩=false:=aB HSc.o.box;have f6:wc.frozen? ⟨sb,6,none⟩=false:=aB HSc.o.box;have f7:wc.frozen? ⟨sb,7,none⟩=false:=aB HSc.o.box;have f8:wc.frozen? ⟨sb,8,none⟩=false:=aB HSc.o.box;go_wp2_with fail;go_meet;refine ⟨rfl,_,_,?_,Mt dF.o iZ.o.2 eO.o.2,HSc.o.x xo xn xm xk xa xc eO.o.1 HST.o⟩;exact HRR.o
  ·as_aux_lemma=>have dF:=ah hop;clear hop;have hop:=dF.o;have g1:((r':Int) == 1)=false:=(by rw [hop]; rfl);have g2:((r':Int) == 2)=false:=(by rw [hop]; rfl);have g3:((r':Int) == 3)=false:=(by rw [hop]; rfl);have g4:((r':Int) == 4)=false:=(by rw [hop]; rfl);have g5:((r':Int) == 5)=false:=(by rw [hop]; rfl);have g6:((r':Int) == 6)=false:=(by rw [hop]; rfl);have g7:((r':Int) == 7)=false:=(by rw [hop]; rfl);have g8:((r':Int) == 8)=false:=(by rw [hop]; rfl);have g9:((r':Int) == 9)=false:=(by rw [hop]; rfl);have g10:((r':Int) == 10)=false:=(by rw [hop]; rfl);have g11:((r':Int) == 11)=false:=(by rw [hop]; rfl);have g12:((r':Int) == 12)=false:=(by rw [hop]; rfl);have g13:((r':Int) == 13)=false:=(by rw [hop]; rfl);have g14:((r':Int) == 14)=false:=(by rw [hop]; rfl);have g15:((r':Int) == 15)=true:=(by rw [hop]; rfl);clear hop;go_wp2_with fail;refine (iU T _ _ 1 ng (cZ.o.mi.below (ak _ _)) (heap_alloc_new _ _) (by decide) (by decide) Qn (Nat.ne_of_gt cZ.o.mi.tape.lt) (Nat.ne_of_gt cZ.o.mi.lt)).mono ?_;rintro e wa ⟨sa,rfl,hsa,gW,gV⟩;have dQ:=ah (cZ.o.go ((Mk.of_below (ak _ _)).trans gW) gV);have iZ:=ah hsa;clear gW gV hsa;obtain ⟨-,-,y2,-,-,-,-,-,-,-,-⟩:=lU dQ.o.box;have f2:wa.frozen? ⟨sb,2,none⟩=false:=aB dQ.o.box;go_upto_region 34 with fail;generalize qX:World.setCell wa _ _=wb;have jS:=ah (dQ.o.nm sa iZ.o.1);rw [qX] at jS;clear qX y2 f2 dQ;go_wp2_with fail;refine (iU T _ _ 1 nf (jS.o.mi.below (ak _ _)) (heap_alloc_new _ _) (by decide) (by decide) Lh (Nat.ne_of_gt jS.o.mi.tape.lt) (Nat.ne_of_gt jS.o.mi.lt)).mono ?_;rintro e wc ⟨sc,rfl,hsc,Ht,Ho⟩;have HSc:=ah (jS.o.go ((Mk.of_below (ak _ _)).trans Ht) Ho);have QO:=ah hsc;clear Ht Ho hsc;obtain ⟨-,-,-,y3,-,-,-,-,-,-,-⟩:=lU HSc.o.box;have f3:wc.frozen? ⟨sb,3,none⟩=false:=aB HSc.o.box;go_wp2_with fail;go_meet;refine ⟨rfl,_,_,?_,Ms dF.o iZ.o.2 QO.o.2,HSc.o.arg sc QO.o.1⟩;exact HRR.o
 obtain ⟨rfl,h,s,hop,vG,hS⟩:=hcut;obtain ⟨W7,rfl⟩: ∃W:World,W=wc:=⟨_,rfl⟩;have qg:=ah hS;have dF:=ah hop;have Fa:=ah vG;clear hS hop vG cZ y0;have y0:W7.cell? ⟨sb,0,none⟩=some (.int .i64 (r':Int)):=by rw [<- dF.o]; exact (bK qg.o.box (j:=0) rfl).2
 go_upto_region 35 with fail;go_cut [133] (fun s' W'=>W7=W'∧ ∃q,s'= .bool q∧decide (2<=r'∧r'<=8)=q)
 case first=>
  go_wp2_with fail
  all_goals go_meet
  all_goals exact ⟨rfl,_,rfl,by go_light; grind⟩
 obtain ⟨rfl,q,rfl,hq⟩:=hcut;have HQ:=ah hq;clear hq
 go_upto_if 133 with fail
 go_cut [5] (fun s5 W'=>s5= .pointer (some ⟨sb,0,none⟩)∧ ∃b e s,qm (GS d) h b e∧SI T w sb W' h b e s)
 case first=>
  cases q
  ·go_wp2_with fail;go_meet;have HF:aj (qm (GS d) h .nil .nil):=ah (zQ Fa.o (.inl rfl) (.inl rfl) xU xU (by have:=G9 d; omega));exact ⟨rfl,.nil,.nil,s,HF.o,qg.o⟩
  ·have hq:2<=r'∧r'<=8:=by simpa using HQ.o
   have iE:aj (fB h.op=true):=ah (by rw [dF.o]; unfold fB; simp; omega);have hdd: ∃d',d=d' + 1:=⟨d - 1,by have:=HR3.o; omega⟩;have QK:aj (1000 + 2 * (3 * GS (d - 1)) + 2 * GS (d - 1)<=GS d):=ah (by obtain ⟨d',rfl⟩:=hdd;exact Q7 d');have HSL:aj (∀w (n:Int),bP w T->aD n->n<=1000->Calls Tryz.prog 12 #[.pointer (some ⟨T.bm,0,none⟩),.int .i64 ((d:Int) - 1),.int .i64 n] w (R9 T (n.toNat * GS (d - 1)) w)):=ah (by obtain ⟨d',rfl⟩:=hdd;have:=jk.o d' rfl;unfold sD at this;rw [Int.toNat_natCast] at this;rw [show ((d' + 1:Nat):Int) - 1=(d':Int) by omega]; exact this);have UD:=ah hq;have hd0:0 < d:=by obtain ⟨d',rfl⟩:=hdd; omega
   have c0:=qg.o.mi.ptr;clear hq hdd;go_wp2_with fail;refine (bW T 3 _ (by unfold aD; decide) qg.o.mi).mono ?_;rintro e w8 ⟨k,rfl,hk0,hk1,hk2,Rl,Rh⟩;have hk3:k < 3:=hk1 (by decide);have eD:=ah (qg.o.go Rl Rh);clear Rl Rh hk1 hk2 c0 y0;go_wp2_with fail;refine (HSL.o _ _ eD.o.mi (by unfold aD; omega) (by omega)).mono ?_;rintro e w9 ⟨lb,ao,cap,rfl,hln,hst,Rm,Ri⟩;have qM:=ah (eD.o.go Rm Ri);have uL:aj (aL.len lb<=1000∧ql (3 * GS (d - 1)) lb):=ah ⟨hln.1,hln.2.mono (Nat.mul_le_mul_right _ (by omega))⟩;have HST:=ah (hst.mono eD.o.sz);clear Rm Ri hln hst hk0 hk3;obtain ⟨-,-,-,-,-,-,-,-,-,y9,-⟩:=lU qM.o.box;have f9:w9.frozen? ⟨sb,9,none⟩=false:=aB qM.o.box;go_upto_region 37 with fail;generalize qX:World.setCell w9 _ _=wb;have jS:=ah (qM.o.body lb ao cap (by have:=uL.o.1; unfold maxLen; omega) HST.o);rw [qX] at jS;clear qX y9 f9 qM;have y0:wb.cell? ⟨sb,0,none⟩=some (.int .i64 (r':Int)):=by rw [<- dF.o]; exact (bK jS.o.box (j:=0) rfl).2
   have c0:=jS.o.mi.ptr;go_cut [155] (fun s' W'=>(∃q,s'= .bool q∧(q=true->r'=2))∧SI T w sb W' h lb .nil {s with bg:=ao,aU:=cap})
   case first=>
    cases h2:((r':Int) == 2)
    ·go_wp2_with fail;go_meet;exact ⟨⟨_,rfl,fun e=>by cases e⟩,jS.o⟩
    ·have HR2:aj (r'=2):=ah (by have:=of_decide_eq_true h2; omega);go_wp2_with (first | (go_at_call 9; refine (bW T 3 _ (by unfold aD; decide) jS.o.mi).mono ?_; rintro e wn ⟨kn,rfl,hn1,hn2,Lb,Hw,hIn⟩; have NC:=ah (jS.o.go Hw hIn); clear Hw hIn))
     all_goals go_meet
     all_goals exact ⟨⟨_,rfl,fun _=>HR2.o⟩,NC.o⟩
   obtain ⟨⟨q,rfl,hq2⟩,AQ⟩:=hcut;obtain ⟨wd,rfl⟩: ∃W:World,W=wc:=⟨_,rfl⟩;have wM:=ah AQ;have Ec:=ah hq2;clear AQ jS hq2 y0 c0;cases q
   ·go_wp2_with fail;go_meet;have HF:aj (qm (GS d) h lb .nil):=ah (zQ Fa.o (.inr iE.o) (.inl rfl) uL.o.2 xU (by have:=QK.o; omega));exact ⟨rfl,lb,.nil,_,HF.o,wM.o⟩
   ·go_wp2_with fail;refine (HSL.o _ _ wM.o.mi (by unfold aD; decide) (by decide)).mono ?_;rintro e wf ⟨le,fG,dZ,rfl,hln,hst,Hu,Hq⟩;have yw:=ah (wM.o.go Hu Hq);have DZ:aj (aL.len le<=1000∧ql (GS (d - 1)) le):=ah ⟨hln.1,hln.2.mono (Nat.le_of_eq (Nat.one_mul _))⟩;have Sr:=ah (hst.mono wM.o.sz);clear Hu Hq hln hst;obtain ⟨-,-,-,-,-,-,-,-,-,-,gN⟩:=lU yw.o.box;have f10:wf.frozen? ⟨sb,10,none⟩=false:=aB yw.o.box;go_wp2_with fail;go_meet;have HF:aj (qm (GS d) h lb le):=ah (zQ Fa.o (.inr iE.o) (.inr (by rw [dF.o,Ec.o trivial]; rfl)) uL.o.2 DZ.o.2 (by have:=QK.o; omega));exact ⟨rfl,lb,le,_,HF.o,yw.o.els le fG dZ (by have:=DZ.o.1; unfold maxLen; omega) Sr.o⟩
 obtain ⟨rfl,b,e,s',vG,hS⟩:=hcut;obtain ⟨W8,rfl⟩: ∃W:World,W=wc:=⟨_,rfl⟩;have eD:=ah hS;have wL:=ah vG;clear hS vG qg HQ Fa dF y0;obtain ⟨y0,y1,y2,y3,y4,y5,y6,y7,y8,y9,gN⟩:=lU eD.o.box;have f: ∀j,W8.frozen? ⟨w.heap.size,j,none⟩=false:=fun j=>aB eD.o.z;have z: ∀j,j < 11-> ∃v,W8.cell? ⟨w.heap.size,j,none⟩=some v:=fun j hj=>by rw [cell_of_row W8 w.heap.size j _ _ (0,0) eD.o.z];exact ⟨_,Array.getElem?_eq_getElem (by simpa [Dr] using hj)⟩
 obtain ⟨x0,z0⟩:=z 0 (by decide);obtain ⟨x1,z1⟩:=z 1 (by decide);obtain ⟨x2,z2⟩:=z 2 (by decide);obtain ⟨x3,z3⟩:=z 3 (by decide);obtain ⟨x4,z4⟩:=z 4 (by decide);obtain ⟨x5,z5⟩:=z 5 (by decide);obtain ⟨x6,z6⟩:=z 6 (by decide);obtain ⟨x7,z7⟩:=z 7 (by decide);obtain ⟨x8,z8⟩:=z 8 (by decide);obtain ⟨x9,z9⟩:=z 9 (by decide);obtain ⟨x10,nA⟩:=z 10 (by decide);clear z;go_wp2_with fail;clear f;have HP:=ah (fM eD.o.tb (fM eD.o.tb (fM eD.o.tb (fM eD.o.tb (fM eD.o.tb (fM eD.o.tb (fM eD.o.tb (fM eD.o.tb (fM eD.o.tb (fM eD.o.tb (fM eD.o.tb ⟨eD.o.km,eD.o.mi,dH.refl _ _⟩ 0 (.int .i64 h.op)) 1 (.int .i64 h.line)) 2 (.string h.nm)) 3 (.string h.arg)) 4 (.slice s'.eT h.idx.len s'.dO)) 5 (.int .i64 h.iJ)) 6 (.int .i64 h.xn)) 7 (.string h.iP)) 8 (.slice s'.eZ h.dn.len s'.dS)) 9 (.slice s'.bg b.len s'.aU)) 10 (.slice s'.fG e.len s'.dZ));exact bodyPost_ret (v:=eY h b e s') (by simp [results,Tryz.results22,go_sem,eY,z0,z1,z2,z3,z4,z5,z6,z7,z8,z9,nA]) rfl ⟨h,b,e,s',rfl,wL.o,(eD.o.st.next (HP.o.2.2.mono (by have:=eD.o.lt; omega))).mono (by have:=eD.o.lt; omega),HP.o.1,HP.o.2.1⟩
end Go.Proofs.YtkajcclnlehkmaaGreatDoor
