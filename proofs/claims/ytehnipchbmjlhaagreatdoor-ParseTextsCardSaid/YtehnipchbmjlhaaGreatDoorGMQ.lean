/-
  Contract of the maker's lock: it returns a name.
  Contracts of the maker's stmt and stmts: they return statements that lie in new memory.
-/
import Derived.Test.YtehnipchbmjlhaaGreatDoorGMP
import Derived.Test.YtehnipchbmjlhaaGreatDoorGMK
section
set_option linter.unusedSimpArgs false
set_option linter.unusedVariables false
namespace Go.Proofs.YtehnipchbmjlhaaGreatDoor
open Go.RowKit
open Md
def LkP (T:Tp) (w:World) (e:Ending) (w':World):Prop:= ∃s:ByteArray,e= .returned (.string s)∧ny s∧Mk T w w'∧dx w' T
theorem Po {T:Tp} {w w':World} {s:ByteArray} (h1:ny s) (h2:Mk T w w') (h3:dx w' T):LkP T w (.returned (.string s)) w':=⟨s,rfl,h1,h2,h3⟩
def TN:Array Value:= #[.string ⟨#[120]⟩,.string ⟨#[113]⟩,.string ⟨#[97]⟩,.string ⟨#[109]⟩,.string ⟨#[114]⟩,.string ⟨#[99]⟩,.string ⟨#[102]⟩,.string ⟨#[116]⟩,.string ⟨#[122,122]⟩]
def zM (n:Nat) (cs:Array Value):Prop:= ∀j,j < n→ ∃s:ByteArray,cs[j]? =some (.string s)∧ny s
theorem X6:zM 9 TN:=fun j hj=>by
 have:j=0∨j=1∨j=2∨j=3∨j=4∨j=5∨j=6∨j=7∨j=8:=by omega
 rcases this with rfl | rfl | rfl | rfl | rfl | rfl | rfl | rfl | rfl <;> exact ⟨_,rfl,by unfold maxLen; decide,by rfl⟩
set_option maxHeartbeats 2000000 in
set_option maxRecDepth 100000 in
theorem ko (T:Tp) (w:World) (g n:Nat) (cs:Array Value) (hI:dx w T) (hg:w.heap[g]? =some (.cells cs 9 (0,0))) (hn:0 < n) (hn2:n≤1000) (hs:zM n cs) (hgt:g≠T.bt) (hgm:g≠T.bm):
 Calls Tryz.prog 96 #[.pointer (some ⟨T.bm,0,none⟩),.slice (some ⟨g,0,none⟩) n n] w (LkP T w):=by
 have HI:=Lib.hid hI
 have HG:=Lib.hid hg
 have HS:=Lib.hid hs
 have Ub:=Lib.hid (And.intro hgt hgm)
 clear hI hg hs hgt hgm
 have c0:=HI.out.ptr
 go_enter Tryz.func96,Tryz.ntmps96
 go_wp2_with fail
 refine (dH T 8 _ (by unfold aV; decide) HI.out).mono ?_
 rintro e w2 ⟨k,rfl,hk0,hk1,hk2,hM,hI2⟩
 have HM:=Lib.hid hM
 have HI2:=Lib.hid hI2
 have HG2:Hid (w2.heap[g]? =some (.cells cs 9 (0,0))):=Lib.hid ((hM.block g (Array.getElem?_eq_some_iff.1 HG.out).1 Ub.out.1 Ub.out.2).trans HG.out)
 clear hM hI2 c0 hk1 hk2
 have c0:=HI2.out.ptr
 cases hk7:(k == 7)
 ·go_wp2_with fail
  refine (dH T n _ (by unfold aV; omega) HI2.out).mono ?_
  rintro e w3 ⟨r,rfl,hr0,hr1,hr2,vV,Bg⟩
  obtain ⟨r',rfl⟩:=Int.eq_ofNat_of_zero_le hr0
  have hrn:r' < n:=by have:=hr1 (by omega); omega
  obtain ⟨s,hs,hsz⟩:=HS.out r' hrn
  have cz:w3.cell? ⟨g,r',none⟩=some (.string s):=(cZ ((vV.block g (Array.getElem?_eq_some_iff.1 HG2.out).1 Ub.out.1 Ub.out.2).trans HG2.out) hs).2
  have HF:=Lib.hid (Po hsz (HM.out.trans vV) Bg)
  clear vV Bg hs hsz hr0 hr1 hr2 c0
  go_wp2_with fail
  go_ret
  exact HF.out
 ·have hlt:=HI2.out.lt
  go_wp2_with fail
  have HB3:Hid (Below w2.heap.size w2 (w2.alloc (.cells TN 9))):=Lib.hid (ah _ _)
  have tY:Hid ((w2.alloc (.cells TN 9)).heap[w2.heap.size]? =some (.cells TN 9 (0,0))):=Lib.hid (heap_alloc_new _ _)
  have HI3:=Lib.hid (HI2.out.below HB3.out)
  have dh:Hid (T.bt < w2.heap.size∧T.bm < w2.heap.size):=Lib.hid ⟨HI2.out.tape.lt,HI2.out.lt⟩
  refine (dH T 9 _ (by unfold aV; decide) HI3.out).mono ?_
  rintro e w3 ⟨r,rfl,hr0,hr1,hr2,vV,Bg⟩
  obtain ⟨r',rfl⟩:=Int.eq_ofNat_of_zero_le hr0
  have hrn:r' < 9:=by have:=hr1 (by decide); omega
  obtain ⟨s,hs,hsz⟩:=X6 r' hrn
  have cz:w3.cell? ⟨w2.heap.size,r',none⟩=some (.string s):=(cZ ((vV.block _ (Array.getElem?_eq_some_iff.1 tY.out).1 (by have:=dh.out; omega) (by have:=dh.out; omega)).trans tY.out) hs).2
  have HF:=Lib.hid (Po hsz ((HM.out.trans (Mk.of_below HB3.out)).trans vV) Bg)
  have hb0:(0:Int)≤(r':Int):=by omega
  have hb1:(r':Int) < 9:=by omega
  clear vV Bg hs hsz hr0 hr1 hr2 c0
  go_wp2_with fail
  go_ret
  exact HF.out
end Go.Proofs.YtehnipchbmjlhaaGreatDoor
end
section
set_option linter.unusedSimpArgs false
set_option linter.unusedVariables false
namespace Go.Proofs.YtehnipchbmjlhaaGreatDoor
open Go.RowKit
open Md
theorem zy (x:Int):aV (wrap64 x):=by unfold aV wrap64; omega
def Cn (B:Nat) (w:World) (h:aW) (b e:aI) (s:Sl):Prop:=oD h b e∧bD B w (fun w2=>h.idx.At w2 w2.heap.size s.eP 0∧h.aJ.At w2 w2.heap.size s.dJ 0∧b.At w2 w2.heap.size s.bR 0∧e.At w2 w2.heap.size s.dY 0)
theorem Cn.next {B:Nat} {w w':World} {h:aW} {b e:aI} {s:Sl} (hs:Cn B w h b e s) (ha:fM B w w'):Cn B w' h b e s:=⟨hs.1,hs.2.next ha⟩
theorem Cn.mono {B B':Nat} {w:World} {h:aW} {b e:aI} {s:Sl} (hs:Cn B' w h b e s) (hB:B≤B'):Cn B w h b e s:=⟨hs.1,hs.2.mono hB⟩
def Gm (h:aW):Prop:=iy h 0 0=true∧vG h≤1000
def vM (q:Nat) (h:aW) (b e:aI):Prop:=tu h b e=true∧vG h + 2 * jw b + 2 * jw e≤q
def vF (q:Nat) (l:aI):Prop:=gy l=true∧jw l≤q
theorem vF.mono {q q':Nat} {l:aI} (h:vF q l) (hq:q≤q'):vF q' l:=⟨h.1,Nat.le_trans h.2 hq⟩
theorem vM.mono {q q':Nat} {h:aW} {b e:aI} (hs:vM q h b e) (hq:q≤q'):vM q' h b e:=⟨hs.1,Nat.le_trans hs.2 hq⟩
theorem CP:vF 0 .nil:=⟨rfl,Nat.le_refl _⟩
def GS (d:Nat):Nat:=2000 * 9 ^ d
theorem O7 (d:Nat):2000≤GS d:=by unfold GS; have:0 < 9 ^ d:=Nat.pow_pos (by decide); omega
theorem Zr (d:Nat):1000 + 2 * (3 * GS d) + 2 * GS d≤GS (d + 1):=by have:=O7 d; unfold GS at *; rw [Nat.pow_succ]; omega
def StP (T:Tp) (q:Nat) (w:World) (e':Ending) (w':World):Prop:= ∃h b e s,e'= .returned (eB h b e s)∧vM q h b e∧Cn w.heap.size w' h b e s∧Mk T w w'∧dx w' T
def SlP (T:Tp) (q:Nat) (w:World) (e':Ending) (w':World):Prop:= ∃l ao cap,e'= .returned (.slice ao (aI.len l) cap)∧(aI.len l≤1000∧vF q l)∧bD w.heap.size w' (fun w2=>l.At w2 w2.heap.size ao 0)∧Mk T w w'∧dx w' T
def Left (w:World) (T:Tp):Prop:= ∃line left:Int,aV line∧1≤left∧left≤100∧w.heap[T.bm]? =some (.cells #[.pointer (some ⟨T.bt,0,none⟩),.int .i64 line,.int .i64 left] 58 (0,0))
def Dw (T:Tp) (d:Int):Prop:= ∀w,dx w T→Left w T→Calls Tryz.prog 59 #[.pointer (some ⟨T.bm,0,none⟩),.int .i64 d] w (StP T (GS d.toNat) w)
def yA (T:Tp) (d:Int):Prop:= ∀w (n:Int),dx w T→aV n→n≤1000→Calls Tryz.prog 29 #[.pointer (some ⟨T.bm,0,none⟩),.int .i64 d,.int .i64 n] w (SlP T (n.toNat * GS d.toNat) w)
def RQ (w:World) (sb:Nat) (h:aW) (b e:aI) (s:Sl):Prop:=w.heap[sb]? =some (.cells (yO h b e s).toArray 89 (0,0))
def oq (op line:Int):aW:=⟨op,line,⟨#[]⟩,⟨#[]⟩,.nil,0,0,⟨#[]⟩,.nil⟩
def FN:Sl:=⟨none,0,none,0,none,0,none,0⟩
theorem I4:aV 0:=by unfold aV; decide
theorem Z6 (B:Nat) (w:World) {op line:Int} (h1:aV op) (h2:aV line):Cn B w (oq op line) .nil .nil FN:=
 ⟨⟨h1,h2,Nat.zero_le _,Nat.zero_le _,Nat.zero_le _,⟨I4,I4,Nat.zero_le _,Nat.zero_le _⟩,Nat.zero_le _,Nat.zero_le _⟩,fun _ _=>⟨trivial,trivial,trivial,trivial⟩⟩
theorem dx.line {w:World} {T:Tp} {l':Int} (h:dx w T) (hl:aV l'):dx (w.setCell ⟨T.bm,1,none⟩ (.int .i64 l')) T:=by
 obtain ⟨x,k1,k2⟩:=h.tape.blk
 obtain ⟨l,m,k3,k4,k5,k6⟩:=h.vw
 exact ⟨⟨⟨x,k1,(aM w _ _ rfl T.tm.symm).trans k2⟩,h.tape.GJ.below (dX (bU w _ _) T.m0 h.tape.b0),h.tape.len⟩,⟨l',m,hl,k4,k5,by rw [aR k6]; rfl⟩⟩
theorem dx.left {w:World} {T:Tp} {m':Int} (h:dx w T) (h0:0≤m') (h1:m'≤100):dx (w.setCell ⟨T.bm,2,none⟩ (.int .i64 m')) T:=by
 obtain ⟨x,k1,k2⟩:=h.tape.blk
 obtain ⟨l,m,k3,k4,k5,k6⟩:=h.vw
 exact ⟨⟨⟨x,k1,(aM w _ _ rfl T.tm.symm).trans k2⟩,h.tape.GJ.below (dX (bU w _ _) T.m0 h.tape.b0),h.tape.len⟩,⟨l,m',k3,h0,h1,by rw [aR k6]; rfl⟩⟩
theorem Mk.JR {T:Tp} {w w':World} (h:Mk T w w') (j:Nat) (v:Value):Mk T w (w'.setCell ⟨T.bm,j,none⟩ v):=h.trans (Mk.an4 (bU w' ⟨T.bm,j,none⟩ v))
theorem dx.ln {w:World} {T:Tp} (h:dx w T): ∃line:Int,w.cell? ⟨T.bm,1,none⟩=some (.int .i64 line)∧aV line:=by
 obtain ⟨l,m,k1,-,-,k⟩:=h.vw
 exact ⟨l,(cZ k (j:=1) rfl).2,k1⟩
theorem Mk.sets {T:Tp} {w w':World} (h:Mk T w w') (g o:Nat) (vs:List Value) (hb:w.heap.size≤g):Mk T w (w'.setCells g o vs):=by
 have hg:=aO g vs o w'
 exact ⟨hg.os.trans h.os,hg.tape.trans h.tape,hg.output.trans h.output,Nat.le_trans h.size hg.size,fun k hk h1 h2=>(hg.block k (Nat.lt_of_lt_of_le hk h.size) (by simp; omega)).trans (h.block k hk h1 h2)⟩
theorem dx.sets {T:Tp} {w:World} (h:dx w T) (g o:Nat) (vs:List Value) (h0:T.B0≤g) (h1:g≠T.bt) (h2:g≠T.bm):dx (w.setCells g o vs) T:=by
 obtain ⟨x,k1,k2⟩:=h.tape.blk
 obtain ⟨l,m,k3,k4,k5,k6⟩:=h.vw
 have hg:=aO g vs o w
 exact ⟨⟨⟨x,k1,(hg.block _ h.tape.lt (by simp; exact fun e=>h1 e.symm)).trans k2⟩,h.tape.GJ.below (dX hg h0 h.tape.b0),h.tape.len⟩,⟨l,m,k3,k4,k5,(hg.block _ h.lt (by simp; exact fun e=>h2 e.symm)).trans k6⟩⟩
def na:Array Value:= #[.string ⟨#[120]⟩,.string ⟨#[121]⟩,.string ⟨#[97]⟩,.string ⟨#[118]⟩,.string ⟨#[113]⟩]
theorem ZF:zM 5 na:=fun j hj=>by
 have:j=0∨j=1∨j=2∨j=3∨j=4:=by omega
 rcases this with rfl | rfl | rfl | rfl | rfl <;> exact ⟨_,rfl,by unfold maxLen; decide,by rfl⟩
def nb:Array Value:= #[.string ⟨#[109]⟩,.string ⟨#[110]⟩]
theorem ZW:zM 2 nb:=fun j hj=>by
 have:j=0∨j=1:=by omega
 rcases this with rfl | rfl <;> exact ⟨_,rfl,by unfold maxLen; decide,by rfl⟩
def nc:Array Value:= #[.string ⟨#[114]⟩]
theorem SQ:zM 1 nc:=fun j hj=>by
 obtain rfl:j=0:=by omega
 exact ⟨_,rfl,by unfold maxLen; decide,by rfl⟩
def nd:Array Value:= #[.string ⟨#[99]⟩]
theorem NC:zM 1 nd:=fun j hj=>by
 obtain rfl:j=0:=by omega
 exact ⟨_,rfl,by unfold maxLen; decide,by rfl⟩
def ne:Array Value:= #[.string ⟨#[116]⟩,.string ⟨#[117]⟩,.string ⟨#[119]⟩]
theorem TS:zM 3 ne:=fun j hj=>by
 have:j=0∨j=1∨j=2:=by omega
 rcases this with rfl | rfl | rfl <;> exact ⟨_,rfl,by unfold maxLen; decide,by rfl⟩
def nf:Array Value:= #[.string ⟨#[102]⟩]
theorem Uq:zM 1 nf:=fun j hj=>by
 obtain rfl:j=0:=by omega
 exact ⟨_,rfl,by unfold maxLen; decide,by rfl⟩
def ng:Array Value:= #[.string ⟨#[97]⟩]
theorem ZN:zM 1 ng:=fun j hj=>by
 obtain rfl:j=0:=by omega
 exact ⟨_,rfl,by unfold maxLen; decide,by rfl⟩
theorem FE {r:Nat} {l:Int} (hr:r=7∨r=8):Gm (oq r l):=
 ⟨by rcases hr with rfl | rfl <;> simp [iy,oq,fO,fN,fA,fI,fX,fB,fE,iT,gZ,aH.len,oL],(by decide:200 + 0 + 0 + 0 + (40 + 0 + 0)≤1000)⟩
theorem J6 {r:Nat} {l xo xn:Int} {xm:ByteArray} {xk:aH} (hr:r=2∨r=3) (hx:qQ (GE 2) xo xn xm xk):Gm {oq r l with bM:=xo,xn:=xn,bP:=xm,aJ:=xk} :=
 ⟨by rcases hr with rfl | rfl <;> simp [iy,oq,fO,fN,fA,fI,fX,fB,fE,iT,gZ,aH.len,hx.1],by have h:=hx.2; have e:GE 2=576:=rfl; show 200 + 0 + 0 + 0 + lD xm xk≤1000; omega⟩
theorem nR {r:Nat} {l:Int} {s:ByteArray} (hr:r=4∨r=5∨r=6∨r=9∨r=10∨r=11∨r=12∨r=13) (hs:Tk.dQ s.data.toList=true):Gm {oq r l with nm:=s} :=
 ⟨by rcases hr with rfl | rfl | rfl | rfl | rfl | rfl | rfl | rfl <;> simp [iy,oq,fO,fN,fA,fI,fX,fB,fE,iT,gZ,aH.len,oL,hs],by have h:=CV hs; show 200 + s.size + 0 + 0 + (40 + 0 + 0)≤1000; omega⟩
theorem UD {r:Nat} {l xo xn:Int} {xm s:ByteArray} {xk:aH} (hr:r=14) (hs:Tk.dQ s.data.toList=true) (hx:qQ (GE 1) xo xn xm xk):Gm {oq r l with nm:=s,bM:=xo,xn:=xn,bP:=xm,aJ:=xk} :=
 ⟨by subst hr; simp [iy,oq,fO,fN,fA,fI,fX,fB,fE,iT,gZ,aH.len,hs,hx.1],by have h:=hx.2; have e:GE 1=192:=rfl; have h2:=CV hs; show 200 + s.size + 0 + 0 + lD xm xk≤1000; omega⟩
theorem VR {r:Nat} {l:Int} {s s':ByteArray} (hr:r=15) (hs:Tk.dQ s.data.toList=true) (hs':Tk.dQ s'.data.toList=true):Gm {oq r l with nm:=s,arg:=s'} :=
 ⟨by subst hr; simp [iy,oq,fO,fN,fA,fI,fX,fB,fE,iT,gZ,aH.len,oL,hs,hs'],by have h:=CV hs; have h2:=CV hs'; show 200 + s.size + s'.size + 0 + (40 + 0 + 0)≤1000; omega⟩
theorem V6 {r:Nat} {l xo xn:Int} {xm s:ByteArray} {xk ix:aH} (hr:r=1) (hs:Tk.dQ s.data.toList=true) (hi:ix.len≤1∧KY (GE 1) ix) (hx:qQ (GE 2) xo xn xm xk):Gm {oq r l with nm:=s,idx:=ix,bM:=xo,xn:=xn,bP:=xm,aJ:=xk} :=
 ⟨by subst hr; simp [iy,oq,fO,fN,fA,fI,fX,fB,fE,iT,hs,hx.1,hi.1,hi.2.1],by have h:=hx.2; have e:GE 2=576:=rfl; have e':GE 1=192:=rfl; have h2:=CV hs; have h3:=hi.2.2; show 200 + s.size + 0 + pX ix + lD xm xk≤1000; omega⟩
theorem Rx {h:aW} {bl el:Nat} (hs:iy h 0 0=true) (hb:bl=0∨fB h.op=true) (he:el=0∨h.op=2):iy h bl el=true:=by
 unfold iy at *
 have hE:h.op=2→fE h.op=true:=fun e=>by rw [e]; rfl
 rcases hb with rfl | hb <;> rcases he with rfl | he <;> simp_all
theorem F6 {q q1 q2:Nat} {h:aW} {b e:aI} (hs:Gm h) (hb:b= .nil∨fB h.op=true) (he:e= .nil∨h.op=2) (h1:vF q1 b) (h2:vF q2 e) (hq:1000 + 2 * q1 + 2 * q2≤q):vM q h b e:=by
 refine ⟨?_,by have:=hs.2; have:=h1.2; have:=h2.2; omega⟩
 unfold tu
 rw [h1.1,h2.1,Rx hs.1 (hb.imp (fun x=>by rw [x]; rfl) id) (he.imp (fun x=>by rw [x]; rfl) id)]; rfl
structure SI (T:Tp) (w:World) (sb:Nat) (W:World) (h:aW) (b e:aI) (s:Sl):Prop where
 box:RQ W sb h b e s
 st:Cn (sb + 1) W h b e s
 mi:dx W T
 km:Mk T w W
 z:W.heap[w.heap.size]? =some (.cells KZ 89 (0,0))
 lt:w.heap.size < sb
 tb:T.bt < w.heap.size∧T.bm < w.heap.size∧T.B0≤w.heap.size
section
variable {T:Tp} {w W W':World} {sb:Nat} {h:aW} {b e:aI} {s:Sl}
theorem SI.sz (hS:SI T w sb W h b e s):sb + 1≤W.heap.size:=(Array.getElem?_eq_some_iff.1 hS.box).1
theorem SI.go (hS:SI T w sb W h b e s) (hM:Mk T W W') (hI:dx W' T):SI T w sb W' h b e s where
 box:=(hM.block sb hS.sz (by have:=hS.tb; have:=hS.lt; omega) (by have:=hS.tb; have:=hS.lt; omega)).trans hS.box
 st:=hS.st.next (hM.xY (by have:=hS.tb; have:=hS.lt; omega) (by have:=hS.tb; have:=hS.lt; omega))
 mi:=hI
 km:=hS.km.trans hM
 z:=(hM.block _ (Array.getElem?_eq_some_iff.1 hS.z).1 (by have:=hS.tb; omega) (by have:=hS.tb; omega)).trans hS.z
 lt:=hS.lt
 tb:=hS.tb
theorem SI.put {h':aW} {b' e':aI} {s':Sl} (hS:SI T w sb W h b e s) (j:Nat) (v:Value) (hv:(yO h b e s).toArray.setIfInBounds j v=(yO h' b' e' s').toArray) (hs:Cn (sb + 1) W h' b' e' s'):SI T w sb (W.setCell ⟨sb,j,none⟩ v) h' b' e' s' where
 box:=by unfold RQ; rw [aR hS.box,hv]
 st:=hs.next (bC _ _ _ (Nat.lt_succ_self _))
 mi:=hS.mi.set _ _ (by have:=hS.tb; have:=hS.lt; show T.B0≤sb; omega) (by have:=hS.tb; have:=hS.lt; show sb≠_; omega) (by have:=hS.tb; have:=hS.lt; show sb≠_; omega)
 km:=hS.km.set _ _ (by have:=hS.lt; show _≤sb; omega)
 z:=(aM W _ _ rfl (by have:=hS.lt; show sb≠_; omega)).trans hS.z
 lt:=hS.lt
 tb:=hS.tb
theorem SI.op (hS:SI T w sb W h b e s) (k:Int) (hk:aV k):SI T w sb (W.setCell ⟨sb,0,none⟩ (.int .i64 k)) {h with op:=k} b e s:=
 hS.put 0 _ rfl ⟨⟨hk,hS.st.1.2⟩,hS.st.2⟩
theorem SI.nm (hS:SI T w sb W h b e s) (x:ByteArray) (hx:x.size≤maxLen):SI T w sb (W.setCell ⟨sb,2,none⟩ (.string x)) {h with nm:=x} b e s:=
 hS.put 2 _ rfl ⟨⟨hS.st.1.1,hS.st.1.2.1,hx,hS.st.1.2.2.2⟩,hS.st.2⟩
theorem SI.arg (hS:SI T w sb W h b e s) (x:ByteArray) (hx:x.size≤maxLen):SI T w sb (W.setCell ⟨sb,3,none⟩ (.string x)) {h with arg:=x} b e s:=
 hS.put 3 _ rfl ⟨⟨hS.st.1.1,hS.st.1.2.1,hS.st.1.2.2.1,hx,hS.st.1.2.2.2.2⟩,hS.st.2⟩
theorem SI.idx (hS:SI T w sb W h b e s) (l:aH) (ao:Option Addr) (cap:Nat) (hl:l.len≤maxLen) (hst:bD (sb + 1) W (fun w2=>l.At w2 w2.heap.size ao 0)):SI T w sb (W.setCell ⟨sb,4,none⟩ (.slice ao l.len cap)) {h with idx:=l} b e {s with eP:=ao,dK:=cap} :=
 hS.put 4 _ rfl ⟨⟨hS.st.1.1,hS.st.1.2.1,hS.st.1.2.2.1,hS.st.1.2.2.2.1,hl,hS.st.1.2.2.2.2.2⟩,fun w2 h2=>⟨hst w2 h2,(hS.st.2 w2 h2).2⟩⟩
theorem SI.body (hS:SI T w sb W h b e s) (l:aI) (ao:Option Addr) (cap:Nat) (hl:l.len≤maxLen) (hst:bD (sb + 1) W (fun w2=>l.At w2 w2.heap.size ao 0)):SI T w sb (W.setCell ⟨sb,9,none⟩ (.slice ao l.len cap)) h l e {s with bR:=ao,aZ:=cap} :=
 hS.put 9 _ rfl ⟨⟨hS.st.1.1,hS.st.1.2.1,hS.st.1.2.2.1,hS.st.1.2.2.2.1,hS.st.1.2.2.2.2.1,hS.st.1.2.2.2.2.2.1,hl,hS.st.1.2.2.2.2.2.2.2⟩,fun w2 h2=>⟨(hS.st.2 w2 h2).1,(hS.st.2 w2 h2).2.1,hst w2 h2,(hS.st.2 w2 h2).2.2.2⟩⟩
theorem SI.els (hS:SI T w sb W h b e s) (l:aI) (ao:Option Addr) (cap:Nat) (hl:l.len≤maxLen) (hst:bD (sb + 1) W (fun w2=>l.At w2 w2.heap.size ao 0)):SI T w sb (W.setCell ⟨sb,10,none⟩ (.slice ao l.len cap)) h b l {s with dY:=ao,dA:=cap} :=
 hS.put 10 _ rfl ⟨⟨hS.st.1.1,hS.st.1.2.1,hS.st.1.2.2.1,hS.st.1.2.2.2.1,hS.st.1.2.2.2.2.1,hS.st.1.2.2.2.2.2.1,hS.st.1.2.2.2.2.2.2.1,hl⟩,fun w2 h2=>⟨(hS.st.2 w2 h2).1,(hS.st.2 w2 h2).2.1,(hS.st.2 w2 h2).2.2.1,hst w2 h2⟩⟩
theorem SI.x (hS:SI T w sb W h b e s) (op n:Int) (nm:ByteArray) (kids:aH) (ao:Option Addr) (cap:Nat) (hok:qK op n nm kids) (hst:bD (sb + 1) W (fun w2=>kids.At w2 w2.heap.size ao 0)):SI T w sb ((((W.setCell ⟨sb,5,none⟩ (.int .i64 op)).setCell ⟨sb,6,none⟩ (.int .i64 n)).setCell ⟨sb,7,none⟩ (.string nm)).setCell ⟨sb,8,none⟩ (.slice ao kids.len cap)) {h with bM:=op,xn:=n,bP:=nm,aJ:=kids} b e {s with dJ:=ao,bS:=cap} :=by
 have hx:=hS.st.1.2.2.2.2.2.1
 have k:=hS.st.1
 have S1:=hS.put (h':= {h with bM:=op}) (b':=b) (e':=e) (s':=s) 5 (.int .i64 op) rfl ⟨⟨k.1,k.2.1,k.2.2.1,k.2.2.2.1,k.2.2.2.2.1,⟨hok.1,hx.2⟩,k.2.2.2.2.2.2⟩,hS.st.2⟩
 have S2:=S1.put (h':= {h with bM:=op,xn:=n}) (b':=b) (e':=e) (s':=s) 6 (.int .i64 n) rfl ⟨⟨k.1,k.2.1,k.2.2.1,k.2.2.2.1,k.2.2.2.2.1,⟨hok.1,hok.2.1,hx.2.2⟩,k.2.2.2.2.2.2⟩,S1.st.2⟩
 have S3:=S2.put (h':= {h with bM:=op,xn:=n,bP:=nm}) (b':=b) (e':=e) (s':=s) 7 (.string nm) rfl ⟨⟨k.1,k.2.1,k.2.2.1,k.2.2.2.1,k.2.2.2.2.1,⟨hok.1,hok.2.1,hok.2.2.1,hx.2.2.2⟩,k.2.2.2.2.2.2⟩,S2.st.2⟩
 refine S3.put 8 _ rfl ⟨⟨k.1,k.2.1,k.2.2.1,k.2.2.2.1,k.2.2.2.2.1,hok,k.2.2.2.2.2.2⟩,fun w2 h2=> ?_⟩
 have ha:fM (sb + 1) W w2:=(((bC W ⟨sb,5,none⟩ (.int .i64 op) (Nat.lt_succ_self _)).trans (bC _ ⟨sb,6,none⟩ (.int .i64 n) (Nat.lt_succ_self _))).trans (bC _ ⟨sb,7,none⟩ (.string nm) (Nat.lt_succ_self _))).trans h2
 exact ⟨(S3.st.2 w2 h2).1,hst w2 ha,(S3.st.2 w2 h2).2.2⟩
theorem SI.ex {q:Nat} {v:Value} (hS:SI T w sb W h b e s) (hx:EX q W.heap.size v W):EX q (sb + 1) v W:=hx.mono hS.sz
end
theorem iA {T:Tp} {w W8 W:World} (h0:T.bt < w.heap.size∧T.bm < w.heap.size∧T.B0≤w.heap.size) (h:Mk T w W∧dx W T∧fM (w.heap.size + 1) W8 W) (j:Nat) (v:Value):
 Mk T w (W.setCell ⟨w.heap.size,j,none⟩ v)∧dx (W.setCell ⟨w.heap.size,j,none⟩ v) T∧fM (w.heap.size + 1) W8 (W.setCell ⟨w.heap.size,j,none⟩ v):=
 ⟨h.1.set _ _ (Nat.le_refl _),h.2.1.set _ _ h0.2.2 (by show w.heap.size≠_; omega) (by show w.heap.size≠_; omega),h.2.2.trans (bC _ _ _ (Nat.lt_succ_self _))⟩
set_option maxHeartbeats 4000000 in
set_option maxRecDepth 100000 in
theorem G9 (T:Tp) (d:Nat) (hd:d≤100) (ih: ∀d':Nat,d=d' + 1→yA T (d':Int)):Dw T (d:Int):=by
 unfold Dw
 rw [Int.toNat_natCast]
 intro w hI hL
 obtain ⟨line,left,hl1,hl2,hl3,hblk⟩:=hL
 have HI0:=Lib.hid hI
 have iN:=Lib.hid ih
 have HBK:=Lib.hid hblk
 have TK:=Lib.hid hl1
 have dh:Hid (T.bt < w.heap.size∧T.bm < w.heap.size∧T.B0≤w.heap.size):=Lib.hid ⟨HI0.out.tape.lt,HI0.out.lt,HI0.out.tape.b0⟩
 have Et:=hI.lt
 have c1:w.cell? ⟨T.bm,1,none⟩=some (.int .i64 line):=(cZ hblk (j:=1) rfl).2
 have c2:w.cell? ⟨T.bm,2,none⟩=some (.int .i64 left):=(cZ hblk (j:=2) rfl).2
 have f1:w.frozen? ⟨T.bm,1,none⟩=false:=aD hblk
 have f2:w.frozen? ⟨T.bm,2,none⟩=false:=aD hblk
 clear hI ih hblk hl1
 go_enter Tryz.func59,Tryz.ntmps59
 go_upto_region 3 with fail
 generalize hW:World.alloc (World.setCell (World.setCell w _ _) _ _) _=W
 have HM:Hid (Mk T w W):=Lib.hid (by rw [← hW]; exact (((Mk.refl T w).JR _ _).JR _ _).trans (Mk.of_below (ah _ _)))
 have HI:Hid (dx W T):=Lib.hid (by rw [← hW]; exact ((HI0.out.line (zy _)).left (by omega) (by omega)).below (ah _ _))
 have HZ:Hid (W.heap[w.heap.size]? =some (.cells KZ 89 (0,0))):=Lib.hid (by
  rw [← hW]
  have e:(World.setCell (World.setCell w ⟨T.bm,1,none⟩ (.int .i64 (wrap64 (line + 1)))) ⟨T.bm,2,none⟩ (.int .i64 (left - 1))).heap.size=w.heap.size:=by simp [World.setCell]
  rw [← e]; exact heap_alloc_new _ _)
 clear hW c1 c2 f1 f2 Et HBK TK hl2 hl3
 have K0: ∀w',dx w' T→w'.cell? ⟨T.bm,0,none⟩=some (.pointer (some ⟨T.bt,0,none⟩)):=fun w' h=>h.ptr
 have hd1:Mk T W (W.drewN 1):=Mk.of_below (below_drewN (Below.refl _ _) 1)
 have hd2:dx (W.drewN 1) T:=HI.out.below (below_drewN (Below.refl _ _) 1)
 have qG:Hid (w.heap.size < W.heap.size):=Lib.hid (Array.getElem?_eq_some_iff.1 HZ.out).1
 refine eG (by kernel_rfl) rfl ?_
 refine dS 0 12 [] [[],[0],[0,1],[0,1,2],[0,1,2,3],[0,1,2,3,4],[],[6],[6,7],[6,7,8],[0,1,2,3,4,5,6,7,8,9],[],[0,1,2,3,4,5,6,7,8,9,10,11]] [[],[],[],[],[],[],[],[],[],[],[],[]] (fun _ w'=>Mk T W w'∧dx w' T) (fun w w'=>Mk T w w') [20,21,22,23,24,25,26,27,28,29,30,5] rfl rfl (by rfl) (by kernel_rfl) (by kernel_rfl) (by kernel_rfl) (by kernel_rfl) (by kernel_rfl) (by rfl) (fun _=>Mk.refl _ _) (by rfl) ⟨hd1,hd2⟩ ?_
 simp only [List.take_succ_cons,List.take_zero,List.drop_zero,List.drop_succ_cons,jW,List.map_cons,List.map_nil]
 apply aG.step
 case aF=>
  intro c A w' hok hC hO hD
  have e0:=hO 0 (by rfl)
  simp [Act.eval] at e0
  simp [aC,aB,au,Act.eval,Region.binds] at hD
  simp [go_sem,gd,Oper.wp,hD,e0]
  exact aA.mk (Mk.refl _ _) hC (aB.mk _ _)
 apply aG.step
 case aF=>
  intro c A w' hok hC hO hD
  simp [aC,aB,au,Act.eval,Region.binds] at hD
  simp [go_sem,gd,Oper.wp,hD]
  exact aA.mk (Mk.refl _ _) hC (aB.mk _ _)
 apply aG.step
 case aF=>
  intro c A w' hok hC hO hD
  simp [aC,aB,au,Act.eval,Region.binds] at hD
  simp [go_sem,gd,Oper.wp,hD]
  exact aA.mk (Mk.refl _ _) hC (aB.mk _ _)
 apply aG.step
 case aF=>
  intro c A w' hok hC hO hD
  simp [aC,aB,au,Act.eval,Region.binds] at hD
  simp [go_sem,gd,Oper.wp,hD,K0,hC.2]
  exact aA.mk (Mk.refl _ _) hC (aB.mk _ _)
 simp only [List.nil_append,List.cons_append]
 refine aG.some (fun v _=> ∃r:Nat,v= .int .i64 (r:Int)∧r < 15) (fun _ _ _ _ h=>h) ?_ ?_
 ·intro c A w' hok hC hO hD
  simp [aC,aB,au,Act.eval,Region.binds] at hD
  simp [go_sem,gd,Oper.wp,hD]
  refine (dH T 15 w' (by unfold aV; decide) hC.2).mono ?_
  rintro e w2 ⟨r,rfl,h0,h1,-,hM,hI⟩
  obtain ⟨r',rfl⟩:=Int.eq_ofNat_of_zero_le h0
  exact aA.mk hM ⟨hC.1.trans hM,hI⟩ ⟨r',rfl,by have:=h1 (by decide); omega⟩
 simp only [List.nil_append,List.cons_append]
 refine aG.some (fun v w'=> ∃r:Nat,v= .int .i64 (r:Int)∧1≤r∧r≤15) (fun _ _ _ _ h=>h) ?_ ?_
 ·intro c A w' hok hC hO hD
  simp [aC,aB,au,Act.eval,Region.binds] at hD
  obtain ⟨r,hr,Jq⟩:=hD
  have hw:IntKind.i64.wrap (1 + (r:Int))=1 + r:=IntWalk.i64_in _ (by omega)
  simp [go_sem,gd,Oper.wp,hr,hw]
  exact aA.mk (Mk.refl _ _) hC (⟨1 + r,by simp,by omega,by omega⟩)
 simp only [List.nil_append,List.cons_append]
 apply aG.step
 case aF=>
  intro c A w' hok hC hO hD
  have e0:=hO 0 (by rfl)
  simp [Act.eval] at e0
  simp [aC,aB,au,Act.eval,Region.binds] at hD
  simp [go_sem,gd,Oper.wp,hD,e0]
  exact aA.mk (Mk.refl _ _) hC (aB.mk _ _)
 apply aG.step
 case aF=>
  intro c A w' hok hC hO hD
  simp [aC,aB,au,Act.eval,Region.binds] at hD
  simp [go_sem,gd,Oper.wp,hD]
  exact aA.mk (Mk.refl _ _) hC (aB.mk _ _)
 apply aG.step
 case aF=>
  intro c A w' hok hC hO hD
  simp [aC,aB,au,Act.eval,Region.binds] at hD
  simp [go_sem,gd,Oper.wp,hD]
  exact aA.mk (Mk.refl _ _) hC (aB.mk _ _)
 simp only [List.nil_append,List.cons_append]
 refine aG.some (fun v w'=> ∃l:Int,v= .int .i64 l∧aV l) (fun _ _ _ _ h=>h) ?_ ?_
 ·intro c A w' hok hC hO hD
  simp [aC,aB,au,Act.eval,Region.binds] at hD
  obtain ⟨l,hc,hl⟩:=hC.2.ln
  simp [go_sem,gd,Oper.wp,hD,hc]
  exact aA.mk (Mk.refl _ _) hC (⟨l,rfl,hl⟩)
 simp only [List.nil_append,List.cons_append]
 refine aG.some (fun v w'=> ∃(r:Nat) (l:Int),v=eB (oq r l) .nil .nil FN∧1≤r∧r≤15∧aV l) (fun _ _ _ _ h=>h) ?_ ?_
 ·intro c A w' hok hC hO hD
  simp [aC,aB,au,Act.eval,Region.binds] at hD
  obtain ⟨⟨r,hr,h1,h2⟩,l,hl,h3⟩:=hD
  simp [go_sem,gd,Oper.wp,hr,hl]
  exact aA.mk (Mk.refl _ _) hC (⟨r,l,rfl,h1,h2,h3⟩)
 simp only [List.nil_append,List.cons_append]
 refine aG.some (fun v w'=> ∃sb,v= .pointer (some ⟨sb,0,none⟩)∧W.heap.size≤sb∧w'.heap[sb]? =some (.cells KZ 89 (0,0))) ?_ ?_ ?_
 ·rintro v w1 w' hle ⟨g,h1,h2,h3⟩
  exact ⟨g,h1,h2,(hle.block g (Array.getElem?_eq_some_iff.1 h3).1 (by have:=dh.out; have:=qG.out; omega) (by have:=dh.out; have:=qG.out; omega)).trans h3⟩
 ·intro c A w' hok hC hO hD
  simp [go_sem,gd,Oper.wp]
  exact aA.mk (d:=_) (v:= .pointer (some ⟨_,0,none⟩)) (Mk.of_below (ah _ _)) ⟨hC.1.trans (Mk.of_below (ah _ _)),hC.2.below (ah _ _)⟩ ⟨_,rfl,hC.1.size,heap_alloc_new _ _⟩
 simp only [List.nil_append,List.cons_append]
 refine aG.done ?_
 intro wz fT
 simp only [List.drop_zero]
 intro v0 h0 v1 h1 v2 h2 v3 h3 v4 h4 v5 h5 v6 h6 v7 h7 v8 h8 v9 h9 v10 h10 v11 h11
 obtain ⟨r,l,rfl,hr1,hr2,yI⟩:=h10
 obtain ⟨sb,rfl,Ar,uM⟩:=h11
 clear h0 h1 h2 h3 h4 h5 h6 h7 h8 h9 K0 hd1 hd2
 refine dU.nil ?_
 go_simp
 refine iW 12 [[],[0],[0,1],[0,1,2],[0,1,2,3],[0,1,2,3,4],[],[6],[6,7],[6,7,8],[0,1,2,3,4,5,6,7,8,9],[],[0,1,2,3,4,5,6,7,8,9,10,11]] rfl rfl rfl rfl rfl (by kernel_rfl) (by kernel_rfl) (by kernel_rfl) ?_
 have vk:=Lib.hid Ar
 have NU:=Lib.hid yI
 refine wp_store_mid _ _ _ (by rfl) sb 0 (yO (oq r l) .nil .nil FN).toArray (by rfl) (by rfl) (mo uM (Nat.le_refl 11)) Vh (by simp [yO,oq,FN,Value.oneCell']) ?_
 refine fU rfl ?_
 generalize pW:World.setCells wz sb 0 _=W5
 have eY:Hid (RQ W5 sb (oq r l) .nil .nil FN):=Lib.hid (by rw [← pW]; exact gG uM rfl)
 have Tx:Hid (dx W5 T):=Lib.hid (by rw [← pW]; exact fT.2.sets _ _ _ (by have:=dh.out; have:=qG.out; omega) (by have:=dh.out; have:=qG.out; omega) (by have:=dh.out; have:=qG.out; omega))
 have Uo:Hid (Mk T w W5):=Lib.hid (by rw [← pW]; exact (HM.out.trans fT.1).sets _ _ _ (by have:=qG.out; omega))
 have gK:Hid (W5.heap[w.heap.size]? =some (.cells KZ 89 (0,0))):=Lib.hid (by
  rw [← pW,(aO sb _ _ wz).block _ (Nat.lt_of_lt_of_le qG.out fT.1.size) (by have:=qG.out; simp; omega)]
  exact (fT.1.block _ qG.out (by have:=dh.out; omega) (by have:=dh.out; omega)).trans HZ.out)
 clear pW fT uM Ar yI HZ HI HM
 go_simp
 have y0:W5.cell? ⟨sb,0,none⟩=some (.int .i64 (r:Int)):=(cZ eY.out (j:=0) rfl).2
 have f0:W5.frozen? ⟨sb,0,none⟩=false:=aD eY.out
 have Yu:Hid (SI T w sb W5 (oq r l) .nil .nil FN):=Lib.hid ⟨eY.out,Z6 _ _ (by unfold aV; omega) NU.out,Tx.out,Uo.out,gK.out,by have:=vk.out; have:=qG.out; omega,dh.out⟩
 clear eY Tx Uo gK
 go_upto_region 4 with fail
 go_cut [42] (fun s' W'=>W5=W'∧ ∃q,s'= .bool q∧decide (d=0∧2≤r∧r≤8)=q)
 case first=>
  cases hdz:((d:Int) == 0)
  ·have hdn:d≠0:=by simpa using hdz
   go_wp2_with fail
   go_meet
   exact ⟨rfl,_,rfl,by go_light; grind⟩
  ·have hdn:d=0:=by simpa using hdz
   have HDN:=Lib.hid hdn
   clear hdn
   go_wp2_with fail
   all_goals go_meet
   all_goals exact ⟨rfl,_,rfl,by have:=HDN.out; go_light; grind⟩
 obtain ⟨rfl,q,rfl,hq⟩:=hcut
 have HQ:=Lib.hid hq
 clear hq
 go_upto_if 42 with fail
 go_cut [5] (fun s5 W'=>s5= .pointer (some ⟨sb,0,none⟩)∧ ∃r':Nat,1≤r'∧r'≤15∧(d=0→r' < 2∨8 < r')∧SI T w sb W' (oq r' l) .nil .nil FN)
 case first=>
  cases q
  ·have hq: ¬ (d=0∧2≤r∧r≤8):=by simpa using HQ.out
   have Cb:Hid (d=0→r < 2∨8 < r):=Lib.hid (fun e=>by omega)
   clear hq
   go_wp2_with fail
   go_meet
   exact ⟨rfl,r,hr1,hr2,Cb.out,Yu.out⟩
  ·go_wp2_with fail
   go_meet
   exact ⟨rfl,1,by decide,by decide,fun _=> .inl (by decide),Yu.out.op 1 (by unfold aV; decide)⟩
 obtain ⟨rfl,r',hr1',hr2',Yw,hS⟩:=hcut
 obtain ⟨W6,rfl⟩: ∃W:World,W=wc:=⟨_,rfl⟩
 have dR:=Lib.hid hS
 have HR3:=Lib.hid Yw
 clear hS Yw Yu HQ y0 f0 hr1 hr2
 have y0:W6.cell? ⟨sb,0,none⟩=some (.int .i64 (r':Int)):=(cZ dR.out.box (j:=0) rfl).2
 go_upto_block 0 with fail
 go_cut [5] (fun s5 W'=>s5= .pointer (some ⟨sb,0,none⟩)∧ ∃h s,h.op=(r':Int)∧Gm h∧SI T w sb W' h .nil .nil s)
 case first=>
  have HRR:Hid ((oq r' l).op=(r':Int)):=Lib.hid rfl
  have E1:Hid (vP T 1):=Lib.hid (zl T 1 (by decide))
  have E2:Hid (vP T 2):=Lib.hid (zl T 2 (by decide))
  clear y0
  have hc:r'=1∨r'=2∨r'=3∨r'=4∨r'=5∨r'=6∨r'=7∨r'=8∨r'=9∨r'=10∨r'=11∨r'=12∨r'=13∨r'=14∨r'=15:=by omega
  clear hr1' hr2'
  rcases hc with hop | hop | hop | hop | hop | hop | hop | hop | hop | hop | hop | hop | hop | hop | hop
  ·skip
   have eF:=Lib.hid hop
   clear hop
   have hop:=eF.out
   have g1:((r':Int) == 1)=true:=by rw [hop]; rfl
   have g2:((r':Int) == 2)=false:=by rw [hop]; rfl
   have g3:((r':Int) == 3)=false:=by rw [hop]; rfl
   have g4:((r':Int) == 4)=false:=by rw [hop]; rfl
   have g5:((r':Int) == 5)=false:=by rw [hop]; rfl
   have g6:((r':Int) == 6)=false:=by rw [hop]; rfl
   have g7:((r':Int) == 7)=false:=by rw [hop]; rfl
   have g8:((r':Int) == 8)=false:=by rw [hop]; rfl
   have g9:((r':Int) == 9)=false:=by rw [hop]; rfl
   have g10:((r':Int) == 10)=false:=by rw [hop]; rfl
   have g11:((r':Int) == 11)=false:=by rw [hop]; rfl
   have g12:((r':Int) == 12)=false:=by rw [hop]; rfl
   have g13:((r':Int) == 13)=false:=by rw [hop]; rfl
   have g14:((r':Int) == 14)=false:=by rw [hop]; rfl
   have g15:((r':Int) == 15)=false:=by rw [hop]; rfl
   clear hop
   go_wp2_with fail
   refine (ko T _ _ 5 na (dR.out.mi.below (ah _ _)) (heap_alloc_new _ _) (by decide) (by decide) ZF (Nat.ne_of_gt dR.out.mi.tape.lt) (Nat.ne_of_gt dR.out.mi.lt)).mono ?_
   rintro e wa ⟨sa,rfl,hsa,jl,ji⟩
   have fJ:=Lib.hid (dR.out.go ((Mk.of_below (ah _ _)).trans jl) ji)
   have kK:=Lib.hid hsa
   clear jl ji hsa
   obtain ⟨-,-,y2,-,-,-,-,-,-,-,-⟩:=oI fJ.out.box
   have f2:wa.frozen? ⟨sb,2,none⟩=false:=aD fJ.out.box
   go_upto_region 9 with fail
   generalize wW:World.setCell wa _ _=wb
   have mG:=Lib.hid (fJ.out.nm sa kK.out.1)
   rw [wW] at mG
   clear wW y2 f2 fJ
   go_cut [62] (fun s' W'=>(∃q,s'= .bool q)∧SI T w sb W' {oq r' l with nm:=sa} .nil .nil FN)
   case first=>
    obtain ⟨-,-,y2,-,-,-,-,-,-,-,-⟩:=oI mG.out.box
    have c0:=mG.out.mi.ptr
    go_wp2_with (first | (go_at_call 26; refine (dH T 6 _ (by unfold aV; decide) mG.out.mi).mono ?_; rintro e wn ⟨kn,rfl,hn1,hn2,U9,OX,hIn⟩; have Yj:=Lib.hid (mG.out.go OX hIn); clear OX hIn))
    all_goals go_meet
    all_goals first | exact ⟨⟨_,rfl⟩,Yj.out⟩ | exact ⟨⟨_,rfl⟩,mG.out⟩
   obtain ⟨⟨q,rfl⟩,Gw⟩:=hcut
   obtain ⟨wd,rfl⟩: ∃W:World,W=wc:=⟨_,rfl⟩
   have Ca:=Lib.hid Gw
   clear Gw mG
   go_upto_if 62 with fail
   go_cut [5] (fun s5 W'=>s5= .pointer (some ⟨sb,0,none⟩)∧ ∃ix s,(ix.len≤1∧KY (GE 1) ix)∧SI T w sb W' {oq r' l with nm:=sa,idx:=ix} .nil .nil s)
   case first=>
    cases q
    ·go_wp2_with fail
     go_meet
     exact ⟨rfl,.nil,_,⟨by decide,rfl,Nat.zero_le _⟩,Ca.out⟩
    ·go_wp2_with fail
     refine (E1.out _ Ca.out.mi).mono ?_
     intro e wf hp
     obtain ⟨v,rfl,hex,Q9,OI⟩:=pY hp
     have Em:=Lib.hid (Ca.out.go Q9 OI)
     obtain ⟨xo,xn,xm,xk,xa,xc,rfl,hok,hst⟩:=hex
     have fH:=Lib.hid hok
     have HST:=Lib.hid (hst.mono Ca.out.sz)
     clear hp hok hst Q9 OI
     unfold exV
     obtain ⟨-,-,-,-,y4,-,-,-,-,-,-⟩:=oI Em.out.box
     have f4:wf.frozen? ⟨sb,4,none⟩=false:=aD Em.out.box
     have hlt:sb < wf.heap.size:=Em.out.sz
     go_wp2_with fail
     go_meet
     have HR:=Em.out.go (Mk.of_below (ah _ (.cells #[.int .i64 xo,.int .i64 xn,.string xm,.slice xa xk.len xc] 45))) (Em.out.mi.below (ah _ _))
     have uF:=HR.idx (.cons xo xn xm xk .nil) (some ⟨wf.heap.size,0,none⟩) 1 (by simp [aH.len,maxLen]) (nO (heap_alloc_new _ _) hlt fH.out.1 ((HST.out).next (aK (ah _ _))))
     rw [World.setCell_alloc_past _ _ _ _ (show (Addr.mk sb 4 none).block < _ from hlt)] at uF
     have HXL:=Lib.hid (ze fH.out.2)
     have Wu:=Lib.hid uF
     clear uF HR
     refine ⟨rfl,?_⟩
     exact ⟨.cons xo xn xm xk .nil,_,⟨Nat.le_refl 1,HXL.out⟩,Wu.out⟩
   obtain ⟨rfl,ix,s2,hix,Gw⟩:=hcut
   have TG:=Lib.hid hix
   clear hix
   obtain ⟨wg,rfl⟩: ∃W:World,W=wc:=⟨_,rfl⟩
   have YW:=Lib.hid Gw
   clear Gw Ca
   go_wp2_with fail
   refine (E2.out _ YW.out.mi).mono ?_
   intro e wi hp
   obtain ⟨v,rfl,hex,hMi,hIi⟩:=pY hp
   have Mc:=Lib.hid (YW.out.go hMi hIi)
   obtain ⟨xo,xn,xm,xk,xa,xc,rfl,hok,hst⟩:=hex
   have fH:=Lib.hid hok
   have HST:=Lib.hid (hst.mono YW.out.sz)
   clear hp hok hst hMi hIi
   unfold exV
   obtain ⟨-,-,-,-,-,y5,y6,y7,y8,-,-⟩:=oI Mc.out.box
   have f5:wi.frozen? ⟨sb,5,none⟩=false:=aD Mc.out.box
   have f6:wi.frozen? ⟨sb,6,none⟩=false:=aD Mc.out.box
   have f7:wi.frozen? ⟨sb,7,none⟩=false:=aD Mc.out.box
   have f8:wi.frozen? ⟨sb,8,none⟩=false:=aD Mc.out.box
   go_wp2_with fail
   go_meet
   refine ⟨rfl,_,_,?_,V6 eF.out kK.out.2 TG.out fH.out.2,Mc.out.x xo xn xm xk xa xc fH.out.1 HST.out⟩
   exact HRR.out
  ·as_aux_lemma=>
    have eF:=Lib.hid hop
    clear hop
    have hop:=eF.out
    have g1:((r':Int) == 1)=false:=by rw [hop]; rfl
    have g2:((r':Int) == 2)=true:=by rw [hop]; rfl
    have g3:((r':Int) == 3)=false:=by rw [hop]; rfl
    have g4:((r':Int) == 4)=false:=by rw [hop]; rfl
    have g5:((r':Int) == 5)=false:=by rw [hop]; rfl
    have g6:((r':Int) == 6)=false:=by rw [hop]; rfl
    have g7:((r':Int) == 7)=false:=by rw [hop]; rfl
    have g8:((r':Int) == 8)=false:=by rw [hop]; rfl
    have g9:((r':Int) == 9)=false:=by rw [hop]; rfl
    have g10:((r':Int) == 10)=false:=by rw [hop]; rfl
    have g11:((r':Int) == 11)=false:=by rw [hop]; rfl
    have g12:((r':Int) == 12)=false:=by rw [hop]; rfl
    have g13:((r':Int) == 13)=false:=by rw [hop]; rfl
    have g14:((r':Int) == 14)=false:=by rw [hop]; rfl
    have g15:((r':Int) == 15)=false:=by rw [hop]; rfl
    clear hop
    go_wp2_with fail
    refine (E2.out _ dR.out.mi).mono ?_
    intro e wa hp
    obtain ⟨v,rfl,hex,jl,ji⟩:=pY hp
    have fJ:=Lib.hid (dR.out.go jl ji)
    obtain ⟨xo,xn,xm,xk,xa,xc,rfl,hok,hst⟩:=hex
    have fH:=Lib.hid hok
    have HST:=Lib.hid (hst.mono dR.out.sz)
    clear hp hok hst jl ji
    unfold exV
    obtain ⟨-,-,-,-,-,y5,y6,y7,y8,-,-⟩:=oI fJ.out.box
    have f5:wa.frozen? ⟨sb,5,none⟩=false:=aD fJ.out.box
    have f6:wa.frozen? ⟨sb,6,none⟩=false:=aD fJ.out.box
    have f7:wa.frozen? ⟨sb,7,none⟩=false:=aD fJ.out.box
    have f8:wa.frozen? ⟨sb,8,none⟩=false:=aD fJ.out.box
    go_wp2_with fail
    go_meet
    refine ⟨rfl,_,_,?_,J6 (by have:=eF.out; omega) fH.out.2,fJ.out.x xo xn xm xk xa xc fH.out.1 HST.out⟩
    exact HRR.out
  ·as_aux_lemma=>
    have eF:=Lib.hid hop
    clear hop
    have hop:=eF.out
    have g1:((r':Int) == 1)=false:=by rw [hop]; rfl
    have g2:((r':Int) == 2)=false:=by rw [hop]; rfl
    have g3:((r':Int) == 3)=true:=by rw [hop]; rfl
    have g4:((r':Int) == 4)=false:=by rw [hop]; rfl
    have g5:((r':Int) == 5)=false:=by rw [hop]; rfl
    have g6:((r':Int) == 6)=false:=by rw [hop]; rfl
    have g7:((r':Int) == 7)=false:=by rw [hop]; rfl
    have g8:((r':Int) == 8)=false:=by rw [hop]; rfl
    have g9:((r':Int) == 9)=false:=by rw [hop]; rfl
    have g10:((r':Int) == 10)=false:=by rw [hop]; rfl
    have g11:((r':Int) == 11)=false:=by rw [hop]; rfl
    have g12:((r':Int) == 12)=false:=by rw [hop]; rfl
    have g13:((r':Int) == 13)=false:=by rw [hop]; rfl
    have g14:((r':Int) == 14)=false:=by rw [hop]; rfl
    have g15:((r':Int) == 15)=false:=by rw [hop]; rfl
    clear hop
    go_wp2_with fail
    refine (E2.out _ dR.out.mi).mono ?_
    intro e wa hp
    obtain ⟨v,rfl,hex,jl,ji⟩:=pY hp
    have fJ:=Lib.hid (dR.out.go jl ji)
    obtain ⟨xo,xn,xm,xk,xa,xc,rfl,hok,hst⟩:=hex
    have fH:=Lib.hid hok
    have HST:=Lib.hid (hst.mono dR.out.sz)
    clear hp hok hst jl ji
    unfold exV
    obtain ⟨-,-,-,-,-,y5,y6,y7,y8,-,-⟩:=oI fJ.out.box
    have f5:wa.frozen? ⟨sb,5,none⟩=false:=aD fJ.out.box
    have f6:wa.frozen? ⟨sb,6,none⟩=false:=aD fJ.out.box
    have f7:wa.frozen? ⟨sb,7,none⟩=false:=aD fJ.out.box
    have f8:wa.frozen? ⟨sb,8,none⟩=false:=aD fJ.out.box
    go_wp2_with fail
    go_meet
    refine ⟨rfl,_,_,?_,J6 (by have:=eF.out; omega) fH.out.2,fJ.out.x xo xn xm xk xa xc fH.out.1 HST.out⟩
    exact HRR.out
  ·as_aux_lemma=>
    have eF:=Lib.hid hop
    clear hop
    have hop:=eF.out
    have g1:((r':Int) == 1)=false:=by rw [hop]; rfl
    have g2:((r':Int) == 2)=false:=by rw [hop]; rfl
    have g3:((r':Int) == 3)=false:=by rw [hop]; rfl
    have g4:((r':Int) == 4)=true:=by rw [hop]; rfl
    have g5:((r':Int) == 5)=false:=by rw [hop]; rfl
    have g6:((r':Int) == 6)=false:=by rw [hop]; rfl
    have g7:((r':Int) == 7)=false:=by rw [hop]; rfl
    have g8:((r':Int) == 8)=false:=by rw [hop]; rfl
    have g9:((r':Int) == 9)=false:=by rw [hop]; rfl
    have g10:((r':Int) == 10)=false:=by rw [hop]; rfl
    have g11:((r':Int) == 11)=false:=by rw [hop]; rfl
    have g12:((r':Int) == 12)=false:=by rw [hop]; rfl
    have g13:((r':Int) == 13)=false:=by rw [hop]; rfl
    have g14:((r':Int) == 14)=false:=by rw [hop]; rfl
    have g15:((r':Int) == 15)=false:=by rw [hop]; rfl
    clear hop
    go_wp2_with fail
    refine (ko T _ _ 2 nb (dR.out.mi.below (ah _ _)) (heap_alloc_new _ _) (by decide) (by decide) ZW (Nat.ne_of_gt dR.out.mi.tape.lt) (Nat.ne_of_gt dR.out.mi.lt)).mono ?_
    rintro e wa ⟨sa,rfl,hsa,jl,ji⟩
    have fJ:=Lib.hid (dR.out.go ((Mk.of_below (ah _ _)).trans jl) ji)
    have kK:=Lib.hid hsa
    clear jl ji hsa
    obtain ⟨-,-,y2,-,-,-,-,-,-,-,-⟩:=oI fJ.out.box
    have f2:wa.frozen? ⟨sb,2,none⟩=false:=aD fJ.out.box
    go_wp2_with fail
    go_meet
    refine ⟨rfl,_,_,?_,nR (by have:=eF.out; omega) kK.out.2,fJ.out.nm sa kK.out.1⟩
    exact HRR.out
  ·as_aux_lemma=>
    have eF:=Lib.hid hop
    clear hop
    have hop:=eF.out
    have g1:((r':Int) == 1)=false:=by rw [hop]; rfl
    have g2:((r':Int) == 2)=false:=by rw [hop]; rfl
    have g3:((r':Int) == 3)=false:=by rw [hop]; rfl
    have g4:((r':Int) == 4)=false:=by rw [hop]; rfl
    have g5:((r':Int) == 5)=true:=by rw [hop]; rfl
    have g6:((r':Int) == 6)=false:=by rw [hop]; rfl
    have g7:((r':Int) == 7)=false:=by rw [hop]; rfl
    have g8:((r':Int) == 8)=false:=by rw [hop]; rfl
    have g9:((r':Int) == 9)=false:=by rw [hop]; rfl
    have g10:((r':Int) == 10)=false:=by rw [hop]; rfl
    have g11:((r':Int) == 11)=false:=by rw [hop]; rfl
    have g12:((r':Int) == 12)=false:=by rw [hop]; rfl
    have g13:((r':Int) == 13)=false:=by rw [hop]; rfl
    have g14:((r':Int) == 14)=false:=by rw [hop]; rfl
    have g15:((r':Int) == 15)=false:=by rw [hop]; rfl
    clear hop
    go_wp2_with fail
    refine (ko T _ _ 1 nc (dR.out.mi.below (ah _ _)) (heap_alloc_new _ _) (by decide) (by decide) SQ (Nat.ne_of_gt dR.out.mi.tape.lt) (Nat.ne_of_gt dR.out.mi.lt)).mono ?_
    rintro e wa ⟨sa,rfl,hsa,jl,ji⟩
    have fJ:=Lib.hid (dR.out.go ((Mk.of_below (ah _ _)).trans jl) ji)
    have kK:=Lib.hid hsa
    clear jl ji hsa
    obtain ⟨-,-,y2,-,-,-,-,-,-,-,-⟩:=oI fJ.out.box
    have f2:wa.frozen? ⟨sb,2,none⟩=false:=aD fJ.out.box
    go_wp2_with fail
    go_meet
    refine ⟨rfl,_,_,?_,nR (by have:=eF.out; omega) kK.out.2,fJ.out.nm sa kK.out.1⟩
    exact HRR.out
  ·as_aux_lemma=>
    have eF:=Lib.hid hop
    clear hop
    have hop:=eF.out
    have g1:((r':Int) == 1)=false:=by rw [hop]; rfl
    have g2:((r':Int) == 2)=false:=by rw [hop]; rfl
    have g3:((r':Int) == 3)=false:=by rw [hop]; rfl
    have g4:((r':Int) == 4)=false:=by rw [hop]; rfl
    have g5:((r':Int) == 5)=false:=by rw [hop]; rfl
    have g6:((r':Int) == 6)=true:=by rw [hop]; rfl
    have g7:((r':Int) == 7)=false:=by rw [hop]; rfl
    have g8:((r':Int) == 8)=false:=by rw [hop]; rfl
    have g9:((r':Int) == 9)=false:=by rw [hop]; rfl
    have g10:((r':Int) == 10)=false:=by rw [hop]; rfl
    have g11:((r':Int) == 11)=false:=by rw [hop]; rfl
    have g12:((r':Int) == 12)=false:=by rw [hop]; rfl
    have g13:((r':Int) == 13)=false:=by rw [hop]; rfl
    have g14:((r':Int) == 14)=false:=by rw [hop]; rfl
    have g15:((r':Int) == 15)=false:=by rw [hop]; rfl
    clear hop
    go_wp2_with fail
    refine (ko T _ _ 1 nc (dR.out.mi.below (ah _ _)) (heap_alloc_new _ _) (by decide) (by decide) SQ (Nat.ne_of_gt dR.out.mi.tape.lt) (Nat.ne_of_gt dR.out.mi.lt)).mono ?_
    rintro e wa ⟨sa,rfl,hsa,jl,ji⟩
    have fJ:=Lib.hid (dR.out.go ((Mk.of_below (ah _ _)).trans jl) ji)
    have kK:=Lib.hid hsa
    clear jl ji hsa
    obtain ⟨-,-,y2,-,-,-,-,-,-,-,-⟩:=oI fJ.out.box
    have f2:wa.frozen? ⟨sb,2,none⟩=false:=aD fJ.out.box
    go_wp2_with fail
    go_meet
    refine ⟨rfl,_,_,?_,nR (by have:=eF.out; omega) kK.out.2,fJ.out.nm sa kK.out.1⟩
    exact HRR.out
  ·as_aux_lemma=>
    have eF:=Lib.hid hop
    clear hop
    have hop:=eF.out
    have g1:((r':Int) == 1)=false:=by rw [hop]; rfl
    have g2:((r':Int) == 2)=false:=by rw [hop]; rfl
    have g3:((r':Int) == 3)=false:=by rw [hop]; rfl
    have g4:((r':Int) == 4)=false:=by rw [hop]; rfl
    have g5:((r':Int) == 5)=false:=by rw [hop]; rfl
    have g6:((r':Int) == 6)=false:=by rw [hop]; rfl
    have g7:((r':Int) == 7)=true:=by rw [hop]; rfl
    have g8:((r':Int) == 8)=false:=by rw [hop]; rfl
    have g9:((r':Int) == 9)=false:=by rw [hop]; rfl
    have g10:((r':Int) == 10)=false:=by rw [hop]; rfl
    have g11:((r':Int) == 11)=false:=by rw [hop]; rfl
    have g12:((r':Int) == 12)=false:=by rw [hop]; rfl
    have g13:((r':Int) == 13)=false:=by rw [hop]; rfl
    have g14:((r':Int) == 14)=false:=by rw [hop]; rfl
    have g15:((r':Int) == 15)=false:=by rw [hop]; rfl
    clear hop
    go_wp2_with fail
    go_meet
    exact ⟨rfl,_,_,HRR.out,FE (by have:=eF.out; omega),dR.out⟩
  ·as_aux_lemma=>
    have eF:=Lib.hid hop
    clear hop
    have hop:=eF.out
    have g1:((r':Int) == 1)=false:=by rw [hop]; rfl
    have g2:((r':Int) == 2)=false:=by rw [hop]; rfl
    have g3:((r':Int) == 3)=false:=by rw [hop]; rfl
    have g4:((r':Int) == 4)=false:=by rw [hop]; rfl
    have g5:((r':Int) == 5)=false:=by rw [hop]; rfl
    have g6:((r':Int) == 6)=false:=by rw [hop]; rfl
    have g7:((r':Int) == 7)=false:=by rw [hop]; rfl
    have g8:((r':Int) == 8)=true:=by rw [hop]; rfl
    have g9:((r':Int) == 9)=false:=by rw [hop]; rfl
    have g10:((r':Int) == 10)=false:=by rw [hop]; rfl
    have g11:((r':Int) == 11)=false:=by rw [hop]; rfl
    have g12:((r':Int) == 12)=false:=by rw [hop]; rfl
    have g13:((r':Int) == 13)=false:=by rw [hop]; rfl
    have g14:((r':Int) == 14)=false:=by rw [hop]; rfl
    have g15:((r':Int) == 15)=false:=by rw [hop]; rfl
    clear hop
    go_wp2_with fail
    go_meet
    exact ⟨rfl,_,_,HRR.out,FE (by have:=eF.out; omega),dR.out⟩
  ·as_aux_lemma=>
    have eF:=Lib.hid hop
    clear hop
    have hop:=eF.out
    have g1:((r':Int) == 1)=false:=by rw [hop]; rfl
    have g2:((r':Int) == 2)=false:=by rw [hop]; rfl
    have g3:((r':Int) == 3)=false:=by rw [hop]; rfl
    have g4:((r':Int) == 4)=false:=by rw [hop]; rfl
    have g5:((r':Int) == 5)=false:=by rw [hop]; rfl
    have g6:((r':Int) == 6)=false:=by rw [hop]; rfl
    have g7:((r':Int) == 7)=false:=by rw [hop]; rfl
    have g8:((r':Int) == 8)=false:=by rw [hop]; rfl
    have g9:((r':Int) == 9)=true:=by rw [hop]; rfl
    have g10:((r':Int) == 10)=false:=by rw [hop]; rfl
    have g11:((r':Int) == 11)=false:=by rw [hop]; rfl
    have g12:((r':Int) == 12)=false:=by rw [hop]; rfl
    have g13:((r':Int) == 13)=false:=by rw [hop]; rfl
    have g14:((r':Int) == 14)=false:=by rw [hop]; rfl
    have g15:((r':Int) == 15)=false:=by rw [hop]; rfl
    clear hop
    go_wp2_with fail
    refine (ko T _ _ 1 nd (dR.out.mi.below (ah _ _)) (heap_alloc_new _ _) (by decide) (by decide) NC (Nat.ne_of_gt dR.out.mi.tape.lt) (Nat.ne_of_gt dR.out.mi.lt)).mono ?_
    rintro e wa ⟨sa,rfl,hsa,jl,ji⟩
    have fJ:=Lib.hid (dR.out.go ((Mk.of_below (ah _ _)).trans jl) ji)
    have kK:=Lib.hid hsa
    clear jl ji hsa
    obtain ⟨-,-,y2,-,-,-,-,-,-,-,-⟩:=oI fJ.out.box
    have f2:wa.frozen? ⟨sb,2,none⟩=false:=aD fJ.out.box
    go_wp2_with fail
    go_meet
    refine ⟨rfl,_,_,?_,nR (by have:=eF.out; omega) kK.out.2,fJ.out.nm sa kK.out.1⟩
    exact HRR.out
  ·as_aux_lemma=>
    have eF:=Lib.hid hop
    clear hop
    have hop:=eF.out
    have g1:((r':Int) == 1)=false:=by rw [hop]; rfl
    have g2:((r':Int) == 2)=false:=by rw [hop]; rfl
    have g3:((r':Int) == 3)=false:=by rw [hop]; rfl
    have g4:((r':Int) == 4)=false:=by rw [hop]; rfl
    have g5:((r':Int) == 5)=false:=by rw [hop]; rfl
    have g6:((r':Int) == 6)=false:=by rw [hop]; rfl
    have g7:((r':Int) == 7)=false:=by rw [hop]; rfl
    have g8:((r':Int) == 8)=false:=by rw [hop]; rfl
    have g9:((r':Int) == 9)=false:=by rw [hop]; rfl
    have g10:((r':Int) == 10)=true:=by rw [hop]; rfl
    have g11:((r':Int) == 11)=false:=by rw [hop]; rfl
    have g12:((r':Int) == 12)=false:=by rw [hop]; rfl
    have g13:((r':Int) == 13)=false:=by rw [hop]; rfl
    have g14:((r':Int) == 14)=false:=by rw [hop]; rfl
    have g15:((r':Int) == 15)=false:=by rw [hop]; rfl
    clear hop
    go_wp2_with fail
    refine (ko T _ _ 1 nd (dR.out.mi.below (ah _ _)) (heap_alloc_new _ _) (by decide) (by decide) NC (Nat.ne_of_gt dR.out.mi.tape.lt) (Nat.ne_of_gt dR.out.mi.lt)).mono ?_
    rintro e wa ⟨sa,rfl,hsa,jl,ji⟩
    have fJ:=Lib.hid (dR.out.go ((Mk.of_below (ah _ _)).trans jl) ji)
    have kK:=Lib.hid hsa
    clear jl ji hsa
    obtain ⟨-,-,y2,-,-,-,-,-,-,-,-⟩:=oI fJ.out.box
    have f2:wa.frozen? ⟨sb,2,none⟩=false:=aD fJ.out.box
    go_wp2_with fail
    go_meet
    refine ⟨rfl,_,_,?_,nR (by have:=eF.out; omega) kK.out.2,fJ.out.nm sa kK.out.1⟩
    exact HRR.out
  ·as_aux_lemma=>
    have eF:=Lib.hid hop
    clear hop
    have hop:=eF.out
    have g1:((r':Int) == 1)=false:=by rw [hop]; rfl
    have g2:((r':Int) == 2)=false:=by rw [hop]; rfl
    have g3:((r':Int) == 3)=false:=by rw [hop]; rfl
    have g4:((r':Int) == 4)=false:=by rw [hop]; rfl
    have g5:((r':Int) == 5)=false:=by rw [hop]; rfl
    have g6:((r':Int) == 6)=false:=by rw [hop]; rfl
    have g7:((r':Int) == 7)=false:=by rw [hop]; rfl
    have g8:((r':Int) == 8)=false:=by rw [hop]; rfl
    have g9:((r':Int) == 9)=false:=by rw [hop]; rfl
    have g10:((r':Int) == 10)=false:=by rw [hop]; rfl
    have g11:((r':Int) == 11)=true:=by rw [hop]; rfl
    have g12:((r':Int) == 12)=false:=by rw [hop]; rfl
    have g13:((r':Int) == 13)=false:=by rw [hop]; rfl
    have g14:((r':Int) == 14)=false:=by rw [hop]; rfl
    have g15:((r':Int) == 15)=false:=by rw [hop]; rfl
    clear hop
    go_wp2_with fail
    refine (ko T _ _ 1 nd (dR.out.mi.below (ah _ _)) (heap_alloc_new _ _) (by decide) (by decide) NC (Nat.ne_of_gt dR.out.mi.tape.lt) (Nat.ne_of_gt dR.out.mi.lt)).mono ?_
    rintro e wa ⟨sa,rfl,hsa,jl,ji⟩
    have fJ:=Lib.hid (dR.out.go ((Mk.of_below (ah _ _)).trans jl) ji)
    have kK:=Lib.hid hsa
    clear jl ji hsa
    obtain ⟨-,-,y2,-,-,-,-,-,-,-,-⟩:=oI fJ.out.box
    have f2:wa.frozen? ⟨sb,2,none⟩=false:=aD fJ.out.box
    go_wp2_with fail
    go_meet
    refine ⟨rfl,_,_,?_,nR (by have:=eF.out; omega) kK.out.2,fJ.out.nm sa kK.out.1⟩
    exact HRR.out
  ·as_aux_lemma=>
    have eF:=Lib.hid hop
    clear hop
    have hop:=eF.out
    have g1:((r':Int) == 1)=false:=by rw [hop]; rfl
    have g2:((r':Int) == 2)=false:=by rw [hop]; rfl
    have g3:((r':Int) == 3)=false:=by rw [hop]; rfl
    have g4:((r':Int) == 4)=false:=by rw [hop]; rfl
    have g5:((r':Int) == 5)=false:=by rw [hop]; rfl
    have g6:((r':Int) == 6)=false:=by rw [hop]; rfl
    have g7:((r':Int) == 7)=false:=by rw [hop]; rfl
    have g8:((r':Int) == 8)=false:=by rw [hop]; rfl
    have g9:((r':Int) == 9)=false:=by rw [hop]; rfl
    have g10:((r':Int) == 10)=false:=by rw [hop]; rfl
    have g11:((r':Int) == 11)=false:=by rw [hop]; rfl
    have g12:((r':Int) == 12)=true:=by rw [hop]; rfl
    have g13:((r':Int) == 13)=false:=by rw [hop]; rfl
    have g14:((r':Int) == 14)=false:=by rw [hop]; rfl
    have g15:((r':Int) == 15)=false:=by rw [hop]; rfl
    clear hop
    go_wp2_with fail
    refine (ko T _ _ 3 ne (dR.out.mi.below (ah _ _)) (heap_alloc_new _ _) (by decide) (by decide) TS (Nat.ne_of_gt dR.out.mi.tape.lt) (Nat.ne_of_gt dR.out.mi.lt)).mono ?_
    rintro e wa ⟨sa,rfl,hsa,jl,ji⟩
    have fJ:=Lib.hid (dR.out.go ((Mk.of_below (ah _ _)).trans jl) ji)
    have kK:=Lib.hid hsa
    clear jl ji hsa
    obtain ⟨-,-,y2,-,-,-,-,-,-,-,-⟩:=oI fJ.out.box
    have f2:wa.frozen? ⟨sb,2,none⟩=false:=aD fJ.out.box
    go_wp2_with fail
    go_meet
    refine ⟨rfl,_,_,?_,nR (by have:=eF.out; omega) kK.out.2,fJ.out.nm sa kK.out.1⟩
    exact HRR.out
  ·as_aux_lemma=>
    have eF:=Lib.hid hop
    clear hop
    have hop:=eF.out
    have g1:((r':Int) == 1)=false:=by rw [hop]; rfl
    have g2:((r':Int) == 2)=false:=by rw [hop]; rfl
    have g3:((r':Int) == 3)=false:=by rw [hop]; rfl
    have g4:((r':Int) == 4)=false:=by rw [hop]; rfl
    have g5:((r':Int) == 5)=false:=by rw [hop]; rfl
    have g6:((r':Int) == 6)=false:=by rw [hop]; rfl
    have g7:((r':Int) == 7)=false:=by rw [hop]; rfl
    have g8:((r':Int) == 8)=false:=by rw [hop]; rfl
    have g9:((r':Int) == 9)=false:=by rw [hop]; rfl
    have g10:((r':Int) == 10)=false:=by rw [hop]; rfl
    have g11:((r':Int) == 11)=false:=by rw [hop]; rfl
    have g12:((r':Int) == 12)=false:=by rw [hop]; rfl
    have g13:((r':Int) == 13)=true:=by rw [hop]; rfl
    have g14:((r':Int) == 14)=false:=by rw [hop]; rfl
    have g15:((r':Int) == 15)=false:=by rw [hop]; rfl
    clear hop
    go_wp2_with fail
    refine (ko T _ _ 3 ne (dR.out.mi.below (ah _ _)) (heap_alloc_new _ _) (by decide) (by decide) TS (Nat.ne_of_gt dR.out.mi.tape.lt) (Nat.ne_of_gt dR.out.mi.lt)).mono ?_
    rintro e wa ⟨sa,rfl,hsa,jl,ji⟩
    have fJ:=Lib.hid (dR.out.go ((Mk.of_below (ah _ _)).trans jl) ji)
    have kK:=Lib.hid hsa
    clear jl ji hsa
    obtain ⟨-,-,y2,-,-,-,-,-,-,-,-⟩:=oI fJ.out.box
    have f2:wa.frozen? ⟨sb,2,none⟩=false:=aD fJ.out.box
    go_wp2_with fail
    go_meet
    refine ⟨rfl,_,_,?_,nR (by have:=eF.out; omega) kK.out.2,fJ.out.nm sa kK.out.1⟩
    exact HRR.out
  ·as_aux_lemma=>
    have eF:=Lib.hid hop
    clear hop
    have hop:=eF.out
    have g1:((r':Int) == 1)=false:=by rw [hop]; rfl
    have g2:((r':Int) == 2)=false:=by rw [hop]; rfl
    have g3:((r':Int) == 3)=false:=by rw [hop]; rfl
    have g4:((r':Int) == 4)=false:=by rw [hop]; rfl
    have g5:((r':Int) == 5)=false:=by rw [hop]; rfl
    have g6:((r':Int) == 6)=false:=by rw [hop]; rfl
    have g7:((r':Int) == 7)=false:=by rw [hop]; rfl
    have g8:((r':Int) == 8)=false:=by rw [hop]; rfl
    have g9:((r':Int) == 9)=false:=by rw [hop]; rfl
    have g10:((r':Int) == 10)=false:=by rw [hop]; rfl
    have g11:((r':Int) == 11)=false:=by rw [hop]; rfl
    have g12:((r':Int) == 12)=false:=by rw [hop]; rfl
    have g13:((r':Int) == 13)=false:=by rw [hop]; rfl
    have g14:((r':Int) == 14)=true:=by rw [hop]; rfl
    have g15:((r':Int) == 15)=false:=by rw [hop]; rfl
    clear hop
    go_wp2_with fail
    refine (ko T _ _ 1 nf (dR.out.mi.below (ah _ _)) (heap_alloc_new _ _) (by decide) (by decide) Uq (Nat.ne_of_gt dR.out.mi.tape.lt) (Nat.ne_of_gt dR.out.mi.lt)).mono ?_
    rintro e wa ⟨sa,rfl,hsa,jl,ji⟩
    have fJ:=Lib.hid (dR.out.go ((Mk.of_below (ah _ _)).trans jl) ji)
    have kK:=Lib.hid hsa
    clear jl ji hsa
    obtain ⟨-,-,y2,-,-,-,-,-,-,-,-⟩:=oI fJ.out.box
    have f2:wa.frozen? ⟨sb,2,none⟩=false:=aD fJ.out.box
    go_upto_region 31 with fail
    generalize wW:World.setCell wa _ _=wb
    have mG:=Lib.hid (fJ.out.nm sa kK.out.1)
    rw [wW] at mG
    clear wW y2 f2 fJ
    go_wp2_with fail
    refine (E1.out _ mG.out.mi).mono ?_
    intro e wc hp
    obtain ⟨v,rfl,hex,Og,Qd⟩:=pY hp
    have HSc:=Lib.hid (mG.out.go Og Qd)
    obtain ⟨xo,xn,xm,xk,xa,xc,rfl,hok,hst⟩:=hex
    have fH:=Lib.hid hok
    have HST:=Lib.hid (hst.mono mG.out.sz)
    clear hp hok hst Og Qd
    unfold exV
    obtain ⟨-,-,-,-,-,y5,y6,y7,y8,-,-⟩:=oI HSc.out.box
    have f5:wc.frozen? ⟨sb,5,none⟩=false:=aD HSc.out.box
    have f6:wc.frozen? ⟨sb,6,none⟩=false:=aD HSc.out.box
    have f7:wc.frozen? ⟨sb,7,none⟩=false:=aD HSc.out.box
    have f8:wc.frozen? ⟨sb,8,none⟩=false:=aD HSc.out.box
    go_wp2_with fail
    go_meet
    refine ⟨rfl,_,_,?_,UD eF.out kK.out.2 fH.out.2,HSc.out.x xo xn xm xk xa xc fH.out.1 HST.out⟩
    exact HRR.out
  ·as_aux_lemma=>
    have eF:=Lib.hid hop
    clear hop
    have hop:=eF.out
    have g1:((r':Int) == 1)=false:=by rw [hop]; rfl
    have g2:((r':Int) == 2)=false:=by rw [hop]; rfl
    have g3:((r':Int) == 3)=false:=by rw [hop]; rfl
    have g4:((r':Int) == 4)=false:=by rw [hop]; rfl
    have g5:((r':Int) == 5)=false:=by rw [hop]; rfl
    have g6:((r':Int) == 6)=false:=by rw [hop]; rfl
    have g7:((r':Int) == 7)=false:=by rw [hop]; rfl
    have g8:((r':Int) == 8)=false:=by rw [hop]; rfl
    have g9:((r':Int) == 9)=false:=by rw [hop]; rfl
    have g10:((r':Int) == 10)=false:=by rw [hop]; rfl
    have g11:((r':Int) == 11)=false:=by rw [hop]; rfl
    have g12:((r':Int) == 12)=false:=by rw [hop]; rfl
    have g13:((r':Int) == 13)=false:=by rw [hop]; rfl
    have g14:((r':Int) == 14)=false:=by rw [hop]; rfl
    have g15:((r':Int) == 15)=true:=by rw [hop]; rfl
    clear hop
    go_wp2_with fail
    refine (ko T _ _ 1 ng (dR.out.mi.below (ah _ _)) (heap_alloc_new _ _) (by decide) (by decide) ZN (Nat.ne_of_gt dR.out.mi.tape.lt) (Nat.ne_of_gt dR.out.mi.lt)).mono ?_
    rintro e wa ⟨sa,rfl,hsa,jl,ji⟩
    have fJ:=Lib.hid (dR.out.go ((Mk.of_below (ah _ _)).trans jl) ji)
    have kK:=Lib.hid hsa
    clear jl ji hsa
    obtain ⟨-,-,y2,-,-,-,-,-,-,-,-⟩:=oI fJ.out.box
    have f2:wa.frozen? ⟨sb,2,none⟩=false:=aD fJ.out.box
    go_upto_region 34 with fail
    generalize wW:World.setCell wa _ _=wb
    have mG:=Lib.hid (fJ.out.nm sa kK.out.1)
    rw [wW] at mG
    clear wW y2 f2 fJ
    go_wp2_with fail
    refine (ko T _ _ 1 nf (mG.out.mi.below (ah _ _)) (heap_alloc_new _ _) (by decide) (by decide) Uq (Nat.ne_of_gt mG.out.mi.tape.lt) (Nat.ne_of_gt mG.out.mi.lt)).mono ?_
    rintro e wc ⟨sc,rfl,hsc,Og,Qd⟩
    have HSc:=Lib.hid (mG.out.go ((Mk.of_below (ah _ _)).trans Og) Qd)
    have HNc:=Lib.hid hsc
    clear Og Qd hsc
    obtain ⟨-,-,-,y3,-,-,-,-,-,-,-⟩:=oI HSc.out.box
    have f3:wc.frozen? ⟨sb,3,none⟩=false:=aD HSc.out.box
    go_wp2_with fail
    go_meet
    refine ⟨rfl,_,_,?_,VR eF.out kK.out.2 HNc.out.2,HSc.out.arg sc HNc.out.1⟩
    exact HRR.out
 obtain ⟨rfl,h,s,hop,Aw,hS⟩:=hcut
 obtain ⟨W7,rfl⟩: ∃W:World,W=wc:=⟨_,rfl⟩
 have uJ:=Lib.hid hS
 have eF:=Lib.hid hop
 have MZ:=Lib.hid Aw
 clear hS hop Aw dR y0
 have y0:W7.cell? ⟨sb,0,none⟩=some (.int .i64 (r':Int)):=by rw [← eF.out]; exact (cZ uJ.out.box (j:=0) rfl).2
 go_upto_region 35 with fail
 go_cut [133] (fun s' W'=>W7=W'∧ ∃q,s'= .bool q∧decide (2≤r'∧r'≤8)=q)
 case first=>
  go_wp2_with fail
  all_goals go_meet
  all_goals exact ⟨rfl,_,rfl,by go_light; grind⟩
 obtain ⟨rfl,q,rfl,hq⟩:=hcut
 have HQ:=Lib.hid hq
 clear hq
 go_upto_if 133 with fail
 go_cut [5] (fun s5 W'=>s5= .pointer (some ⟨sb,0,none⟩)∧ ∃b e s,vM (GS d) h b e∧SI T w sb W' h b e s)
 case first=>
  cases q
  ·go_wp2_with fail
   go_meet
   have HF:Hid (vM (GS d) h .nil .nil):=Lib.hid (F6 MZ.out (.inl rfl) (.inl rfl) CP CP (by have:=O7 d; omega))
   exact ⟨rfl,.nil,.nil,s,HF.out,uJ.out⟩
  ·have hq:2≤r'∧r'≤8:=by simpa using HQ.out
   have Ep:Hid (fB h.op=true):=Lib.hid (by rw [eF.out]; unfold fB; simp; omega)
   have hdd: ∃d',d=d' + 1:=⟨d - 1,by have:=HR3.out; omega⟩
   have HGS:Hid (1000 + 2 * (3 * GS (d - 1)) + 2 * GS (d - 1)≤GS d):=Lib.hid (by
    obtain ⟨d',rfl⟩:=hdd
    exact Zr d')
   have HSL:Hid (∀w (n:Int),dx w T→aV n→n≤1000→Calls Tryz.prog 29 #[.pointer (some ⟨T.bm,0,none⟩),.int .i64 ((d:Int) - 1),.int .i64 n] w (SlP T (n.toNat * GS (d - 1)) w)):=Lib.hid (by
    obtain ⟨d',rfl⟩:=hdd
    have:=iN.out d' rfl
    unfold yA at this
    rw [Int.toNat_natCast] at this
    rw [show ((d' + 1:Nat):Int) - 1=(d':Int) by omega]; exact this)
   have HQQ:=Lib.hid hq
   have hd0:0 < d:=by obtain ⟨d',rfl⟩:=hdd; omega
   have c0:=uJ.out.mi.ptr
   clear hq hdd
   go_wp2_with fail
   refine (dH T 3 _ (by unfold aV; decide) uJ.out.mi).mono ?_
   rintro e w8 ⟨k,rfl,hk0,hk1,hk2,hM8,hI8⟩
   have hk3:k < 3:=hk1 (by decide)
   have gH:=Lib.hid (uJ.out.go hM8 hI8)
   clear hM8 hI8 hk1 hk2 c0 y0
   go_wp2_with fail
   refine (HSL.out _ _ gH.out.mi (by unfold aV; omega) (by omega)).mono ?_
   rintro e w9 ⟨lb,ao,cap,rfl,hln,hst,hM9,hI9⟩
   have vY:=Lib.hid (gH.out.go hM9 hI9)
   have sF:Hid (aI.len lb≤1000∧vF (3 * GS (d - 1)) lb):=Lib.hid ⟨hln.1,hln.2.mono (Nat.mul_le_mul_right _ (by omega))⟩
   have HST:=Lib.hid (hst.mono gH.out.sz)
   clear hM9 hI9 hln hst hk0 hk3
   obtain ⟨-,-,-,-,-,-,-,-,-,y9,-⟩:=oI vY.out.box
   have f9:w9.frozen? ⟨sb,9,none⟩=false:=aD vY.out.box
   go_upto_region 37 with fail
   generalize wW:World.setCell w9 _ _=wb
   have mG:=Lib.hid (vY.out.body lb ao cap (by have:=sF.out.1; unfold maxLen; omega) HST.out)
   rw [wW] at mG
   clear wW y9 f9 vY
   have y0:wb.cell? ⟨sb,0,none⟩=some (.int .i64 (r':Int)):=by rw [← eF.out]; exact (cZ mG.out.box (j:=0) rfl).2
   have c0:=mG.out.mi.ptr
   go_cut [155] (fun s' W'=>(∃q,s'= .bool q∧(q=true→r'=2))∧SI T w sb W' h lb .nil {s with bR:=ao,aZ:=cap})
   case first=>
    cases h2:((r':Int) == 2)
    ·go_wp2_with fail
     go_meet
     exact ⟨⟨_,rfl,fun e=>by cases e⟩,mG.out⟩
    ·have HR2:Hid (r'=2):=Lib.hid (by have:=of_decide_eq_true h2; omega)
     go_wp2_with (first | (go_at_call 26; refine (dH T 3 _ (by unfold aV; decide) mG.out.mi).mono ?_; rintro e wn ⟨kn,rfl,hn1,hn2,U9,OX,hIn⟩; have Yj:=Lib.hid (mG.out.go OX hIn); clear OX hIn))
     all_goals go_meet
     all_goals exact ⟨⟨_,rfl,fun _=>HR2.out⟩,Yj.out⟩
   obtain ⟨⟨q,rfl,hq2⟩,Gw⟩:=hcut
   obtain ⟨wd,rfl⟩: ∃W:World,W=wc:=⟨_,rfl⟩
   have Ca:=Lib.hid Gw
   have Cb:=Lib.hid hq2
   clear Gw mG hq2 y0 c0
   cases q
   ·go_wp2_with fail
    go_meet
    have HF:Hid (vM (GS d) h lb .nil):=Lib.hid (F6 MZ.out (.inr Ep.out) (.inl rfl) sF.out.2 CP (by have:=HGS.out; omega))
    exact ⟨rfl,lb,.nil,_,HF.out,Ca.out⟩
   ·go_wp2_with fail
    refine (HSL.out _ _ Ca.out.mi (by unfold aV; decide) (by decide)).mono ?_
    rintro e wf ⟨le,dY,dA,rfl,hln,hst,Q9,OI⟩
    have Em:=Lib.hid (Ca.out.go Q9 OI)
    have qp:Hid (aI.len le≤1000∧vF (GS (d - 1)) le):=Lib.hid ⟨hln.1,hln.2.mono (Nat.le_of_eq (Nat.one_mul _))⟩
    have aj7:=Lib.hid (hst.mono Ca.out.sz)
    clear Q9 OI hln hst
    obtain ⟨-,-,-,-,-,-,-,-,-,-,iP⟩:=oI Em.out.box
    have f10:wf.frozen? ⟨sb,10,none⟩=false:=aD Em.out.box
    go_wp2_with fail
    go_meet
    have HF:Hid (vM (GS d) h lb le):=Lib.hid (F6 MZ.out (.inr Ep.out) (.inr (by rw [eF.out,Cb.out trivial]; rfl)) sF.out.2 qp.out.2 (by have:=HGS.out; omega))
    exact ⟨rfl,lb,le,_,HF.out,Em.out.els le dY dA (by have:=qp.out.1; unfold maxLen; omega) aj7.out⟩
 obtain ⟨rfl,b,e,s',Aw,hS⟩:=hcut
 obtain ⟨W8,rfl⟩: ∃W:World,W=wc:=⟨_,rfl⟩
 have gH:=Lib.hid hS
 have xX:=Lib.hid Aw
 clear hS Aw uJ HQ MZ eF y0
 obtain ⟨y0,y1,y2,y3,y4,y5,y6,y7,y8,y9,iP⟩:=oI gH.out.box
 have f: ∀j,W8.frozen? ⟨w.heap.size,j,none⟩=false:=fun j=>aD gH.out.z
 have z: ∀j,j < 11→ ∃v,W8.cell? ⟨w.heap.size,j,none⟩=some v:=fun j hj=>by
  rw [cell_of_row W8 w.heap.size j _ _ (0,0) gH.out.z]
  exact ⟨_,Array.getElem?_eq_getElem (by simpa [KZ] using hj)⟩
 obtain ⟨x0,z0⟩:=z 0 (by decide)
 obtain ⟨x1,z1⟩:=z 1 (by decide)
 obtain ⟨x2,z2⟩:=z 2 (by decide)
 obtain ⟨x3,z3⟩:=z 3 (by decide)
 obtain ⟨x4,z4⟩:=z 4 (by decide)
 obtain ⟨x5,z5⟩:=z 5 (by decide)
 obtain ⟨x6,z6⟩:=z 6 (by decide)
 obtain ⟨x7,z7⟩:=z 7 (by decide)
 obtain ⟨x8,z8⟩:=z 8 (by decide)
 obtain ⟨x9,z9⟩:=z 9 (by decide)
 obtain ⟨x10,nW⟩:=z 10 (by decide)
 clear z
 go_wp2_with fail
 clear f
 have HP:=Lib.hid (iA gH.out.tb (iA gH.out.tb (iA gH.out.tb (iA gH.out.tb (iA gH.out.tb (iA gH.out.tb (iA gH.out.tb (iA gH.out.tb (iA gH.out.tb (iA gH.out.tb (iA gH.out.tb ⟨gH.out.km,gH.out.mi,fM.refl _ _⟩ 0 (.int .i64 h.op)) 1 (.int .i64 h.line)) 2 (.string h.nm)) 3 (.string h.arg)) 4 (.slice s'.eP h.idx.len s'.dK)) 5 (.int .i64 h.bM)) 6 (.int .i64 h.xn)) 7 (.string h.bP)) 8 (.slice s'.dJ h.aJ.len s'.bS)) 9 (.slice s'.bR b.len s'.aZ)) 10 (.slice s'.dY e.len s'.dA))
 exact bodyPost_ret (v:=eB h b e s') (by simp [results,Tryz.results59,go_sem,eB,z0,z1,z2,z3,z4,z5,z6,z7,z8,z9,nW]) rfl ⟨h,b,e,s',rfl,xX.out,(gH.out.st.next (HP.out.2.2.mono (by have:=gH.out.lt; omega))).mono (by have:=gH.out.lt; omega),HP.out.1,HP.out.2.1⟩
end Go.Proofs.YtehnipchbmjlhaaGreatDoor
end
