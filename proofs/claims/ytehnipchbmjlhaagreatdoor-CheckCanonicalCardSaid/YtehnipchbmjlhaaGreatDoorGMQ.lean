/-
  Contract of the maker's lock: it returns a name.
  Contracts of the maker's stmt and stmts: they return statements that lie in new memory.
-/
import Derived.Test.YtehnipchbmjlhaaGreatDoorGMP
import Derived.Test.YtehnipchbmjlhaaGreatDoorGMK
set_option linter.unusedSimpArgs false
set_option linter.unusedVariables false
set_option maxHeartbeats 40000000
set_option maxRecDepth 1000000
section
namespace Go.Proofs.YtehnipchbmjlhaaGreatDoor
open Go.RowKit
open Md
def LkP (T:Tp) (w:World) (e:Ending) (w':World):Prop:= ∃s:ByteArray,e= .returned (.string s)∧nK s∧Mk T w w'∧dJ w' T
theorem Ov {T:Tp} {w w':World} {s:ByteArray} (h1:nK s) (h2:Mk T w w') (h3:dJ w' T):LkP T w (.returned (.string s)) w':=⟨s,rfl,h1,h2,h3⟩
def Tx:Array Value:= #[.string ⟨#[120]⟩,.string ⟨#[113]⟩,.string ⟨#[97]⟩,.string ⟨#[109]⟩,.string ⟨#[114]⟩,.string ⟨#[99]⟩,.string ⟨#[102]⟩,.string ⟨#[116]⟩,.string ⟨#[122,122]⟩]
def zo (n:Nat) (cs:Array Value):Prop:= ∀j,j < n→ ∃s:ByteArray,cs[j]? =some (.string s)∧nK s
theorem VX:zo 9 Tx:=fun j hj=>by
 have:j=0∨j=1∨j=2∨j=3∨j=4∨j=5∨j=6∨j=7∨j=8:=by omega
 rcases this with rfl | rfl | rfl | rfl | rfl | rfl | rfl | rfl | rfl <;> exact ⟨_,rfl,by unfold maxLen; decide,by rfl⟩
theorem ku (T:Tp) (w:World) (g n:Nat) (cs:Array Value) (hI:dJ w T) (hg:w.heap[g]? =some (.cells cs 9 (0,0))) (hn:0 < n) (hn2:n≤1000) (hs:zo n cs) (hgt:g≠T.bt) (hgm:g≠T.bm):
 Calls Tryz.prog 96 #[.pointer (some ⟨T.bm,0,none⟩),.slice (some ⟨g,0,none⟩) n n] w (LkP T w):=by
 have HI:=Lib.hid hI
 have HG:=Lib.hid hg
 have HS:=Lib.hid hs
 have Sb:=Lib.hid (And.intro hgt hgm)
 clear hI hg hs hgt hgm
 have c0:=HI.out.ptr
 go_enter Tryz.func96,Tryz.ntmps96
 go_wp2_with fail
 refine (dQ T 8 _ (by unfold aU; decide) HI.out).mono ?_
 rintro e w2 ⟨k,rfl,hk0,hk1,hk2,hM,hI2⟩
 have HM:=Lib.hid hM
 have HI2:=Lib.hid hI2
 have HG2:Hid (w2.heap[g]? =some (.cells cs 9 (0,0))):=Lib.hid ((hM.block g (Array.getElem?_eq_some_iff.1 HG.out).1 Sb.out.1 Sb.out.2).trans HG.out)
 clear hM hI2 c0 hk1 hk2
 have c0:=HI2.out.ptr
 cases hk7:(k == 7)
 ·go_wp2_with fail
  refine (dQ T n _ (by unfold aU; omega) HI2.out).mono ?_
  rintro e w3 ⟨r,rfl,hr0,hr1,hr2,vH,uY⟩
  obtain ⟨r',rfl⟩:=Int.eq_ofNat_of_zero_le hr0
  have hrn:r' < n:=by have:=hr1 (by omega); omega
  obtain ⟨s,hs,hsz⟩:=HS.out r' hrn
  have cz:w3.cell? ⟨g,r',none⟩=some (.string s):=(bL ((vH.block g (Array.getElem?_eq_some_iff.1 HG2.out).1 Sb.out.1 Sb.out.2).trans HG2.out) hs).2
  have HF:=Lib.hid (Ov hsz (HM.out.trans vH) uY)
  clear vH uY hs hsz hr0 hr1 hr2 c0
  go_wp2_with fail
  go_ret
  exact HF.out
 ·have hlt:=HI2.out.lt
  go_wp2_with fail
  have HB3:Hid (Below w2.heap.size w2 (w2.alloc (.cells Tx 9))):=Lib.hid (ah _ _)
  have tZ:Hid ((w2.alloc (.cells Tx 9)).heap[w2.heap.size]? =some (.cells Tx 9 (0,0))):=Lib.hid (heap_alloc_new _ _)
  have HI3:=Lib.hid (HI2.out.below HB3.out)
  have dR:Hid (T.bt < w2.heap.size∧T.bm < w2.heap.size):=Lib.hid ⟨HI2.out.tape.lt,HI2.out.lt⟩
  refine (dQ T 9 _ (by unfold aU; decide) HI3.out).mono ?_
  rintro e w3 ⟨r,rfl,hr0,hr1,hr2,vH,uY⟩
  obtain ⟨r',rfl⟩:=Int.eq_ofNat_of_zero_le hr0
  have hrn:r' < 9:=by have:=hr1 (by decide); omega
  obtain ⟨s,hs,hsz⟩:=VX r' hrn
  have cz:w3.cell? ⟨w2.heap.size,r',none⟩=some (.string s):=(bL ((vH.block _ (Array.getElem?_eq_some_iff.1 tZ.out).1 (by have:=dR.out; omega) (by have:=dR.out; omega)).trans tZ.out) hs).2
  have HF:=Lib.hid (Ov hsz ((HM.out.trans (Mk.of_below HB3.out)).trans vH) uY)
  have hb0:(0:Int)≤(r':Int):=by omega
  have hb1:(r':Int) < 9:=by omega
  clear vH uY hs hsz hr0 hr1 hr2 c0
  go_wp2_with fail
  go_ret
  exact HF.out
end Go.Proofs.YtehnipchbmjlhaaGreatDoor
end
section
namespace Go.Proofs.YtehnipchbmjlhaaGreatDoor
open Go.RowKit
open Md
theorem za (x:Int):aU (wrap64 x):=by unfold aU wrap64; omega
def BP (B:Nat) (w:World) (h:aV) (b e:aN) (s:Sl):Prop:=oW h b e∧dB B w (fun w2=>h.idx.At w2 w2.heap.size s.dF 0∧h.aL.At w2 w2.heap.size s.bS 0∧b.At w2 w2.heap.size s.bG 0∧e.At w2 w2.heap.size s.dw 0)
theorem BP.next {B:Nat} {w w':World} {h:aV} {b e:aN} {s:Sl} (hs:BP B w h b e s) (ha:gK B w w'):BP B w' h b e s:=⟨hs.1,hs.2.next ha⟩
theorem BP.mono {B B':Nat} {w:World} {h:aV} {b e:aN} {s:Sl} (hs:BP B' w h b e s) (hB:B≤B'):BP B w h b e s:=⟨hs.1,hs.2.mono hB⟩
def EO (h:aV):Prop:=iq h 0 0=true∧vE h≤1000
def Aq (q:Nat) (h:aV) (b e:aN):Prop:=tH h b e=true∧vE h + 2 * jr b + 2 * jr e≤q
def uJ (q:Nat) (l:aN):Prop:=fK l=true∧jr l≤q
theorem uJ.mono {q q':Nat} {l:aN} (h:uJ q l) (hq:q≤q'):uJ q' l:=⟨h.1,Nat.le_trans h.2 hq⟩
theorem Co:uJ 0 .nil:=⟨rfl,Nat.le_refl _⟩
def GS (d:Nat):Nat:=2000 * 9 ^ d
theorem Om (d:Nat):2000≤GS d:=by unfold GS; have:0 < 9 ^ d:=Nat.pow_pos (by decide); omega
theorem YT (d:Nat):1000 + 2 * (3 * GS d) + 2 * GS d≤GS (d + 1):=by have:=Om d; unfold GS at *; rw [Nat.pow_succ]; omega
def StP (T:Tp) (q:Nat) (w:World) (e':Ending) (w':World):Prop:= ∃h b e s,e'= .returned (dx h b e s)∧Aq q h b e∧BP w.heap.size w' h b e s∧Mk T w w'∧dJ w' T
def ZV (T:Tp) (q:Nat) (w:World) (e':Ending) (w':World):Prop:= ∃l ao cap,e'= .returned (.slice ao (aN.len l) cap)∧(aN.len l≤1000∧uJ q l)∧dB w.heap.size w' (fun w2=>l.At w2 w2.heap.size ao 0)∧Mk T w w'∧dJ w' T
def Left (w:World) (T:Tp):Prop:= ∃line left:Int,aU line∧1≤left∧left≤100∧w.heap[T.bm]? =some (.cells #[.pointer (some ⟨T.bt,0,none⟩),.int .i64 line,.int .i64 left] 58 (0,0))
def DF (T:Tp) (d:Int):Prop:= ∀w,dJ w T→Left w T→Calls Tryz.prog 59 #[.pointer (some ⟨T.bm,0,none⟩),.int .i64 d] w (StP T (GS d.toNat) w)
def yg (T:Tp) (d:Int):Prop:= ∀w (n:Int),dJ w T→aU n→n≤1000→Calls Tryz.prog 29 #[.pointer (some ⟨T.bm,0,none⟩),.int .i64 d,.int .i64 n] w (ZV T (n.toNat * GS d.toNat) w)
def Qq (w:World) (sb:Nat) (h:aV) (b e:aN) (s:Sl):Prop:=w.heap[sb]? =some (.cells (mE h b e s).toArray 89 (0,0))
def oU (op line:Int):aV:=⟨op,line,⟨#[]⟩,⟨#[]⟩,.nil,0,0,⟨#[]⟩,.nil⟩
def F7:Sl:=⟨none,0,none,0,none,0,none,0⟩
theorem Ii:aU 0:=by unfold aU; decide
theorem YB (B:Nat) (w:World) {op line:Int} (h1:aU op) (h2:aU line):BP B w (oU op line) .nil .nil F7:=
 ⟨⟨h1,h2,Nat.zero_le _,Nat.zero_le _,Nat.zero_le _,⟨Ii,Ii,Nat.zero_le _,Nat.zero_le _⟩,Nat.zero_le _,Nat.zero_le _⟩,fun _ _=>⟨trivial,trivial,trivial,trivial⟩⟩
theorem dJ.line {w:World} {T:Tp} {l':Int} (h:dJ w T) (hl:aU l'):dJ (w.setCell ⟨T.bm,1,none⟩ (.int .i64 l')) T:=by
 obtain ⟨x,k1,k2⟩:=h.tape.blk
 obtain ⟨l,m,k3,k4,k5,k6⟩:=h.vG
 exact ⟨⟨⟨x,k1,(bJ w _ _ rfl T.tm.symm).trans k2⟩,h.tape.FT.below (dW (eF w _ _) T.m0 h.tape.b0),h.tape.len⟩,⟨l',m,hl,k4,k5,by rw [bQ k6]; rfl⟩⟩
theorem dJ.left {w:World} {T:Tp} {m':Int} (h:dJ w T) (h0:0≤m') (h1:m'≤100):dJ (w.setCell ⟨T.bm,2,none⟩ (.int .i64 m')) T:=by
 obtain ⟨x,k1,k2⟩:=h.tape.blk
 obtain ⟨l,m,k3,k4,k5,k6⟩:=h.vG
 exact ⟨⟨⟨x,k1,(bJ w _ _ rfl T.tm.symm).trans k2⟩,h.tape.FT.below (dW (eF w _ _) T.m0 h.tape.b0),h.tape.len⟩,⟨l,m',k3,h0,h1,by rw [bQ k6]; rfl⟩⟩
theorem Mk.Jo {T:Tp} {w w':World} (h:Mk T w w') (j:Nat) (v:Value):Mk T w (w'.setCell ⟨T.bm,j,none⟩ v):=h.trans (Mk.ai4 (eF w' ⟨T.bm,j,none⟩ v))
theorem dJ.ln {w:World} {T:Tp} (h:dJ w T): ∃line:Int,w.cell? ⟨T.bm,1,none⟩=some (.int .i64 line)∧aU line:=by
 obtain ⟨l,m,k1,-,-,k⟩:=h.vG
 exact ⟨l,(bL k (j:=1) rfl).2,k1⟩
theorem Mk.sets {T:Tp} {w w':World} (h:Mk T w w') (g o:Nat) (vs:List Value) (hb:w.heap.size≤g):Mk T w (w'.setCells g o vs):=by
 have hg:=bP g vs o w'
 exact ⟨hg.os.trans h.os,hg.tape.trans h.tape,hg.output.trans h.output,Nat.le_trans h.size hg.size,fun k hk h1 h2=>(hg.block k (Nat.lt_of_lt_of_le hk h.size) (by simp; omega)).trans (h.block k hk h1 h2)⟩
theorem dJ.sets {T:Tp} {w:World} (h:dJ w T) (g o:Nat) (vs:List Value) (h0:T.B0≤g) (h1:g≠T.bt) (h2:g≠T.bm):dJ (w.setCells g o vs) T:=by
 obtain ⟨x,k1,k2⟩:=h.tape.blk
 obtain ⟨l,m,k3,k4,k5,k6⟩:=h.vG
 have hg:=bP g vs o w
 exact ⟨⟨⟨x,k1,(hg.block _ h.tape.lt (by simp; exact fun e=>h1 e.symm)).trans k2⟩,h.tape.FT.below (dW hg h0 h.tape.b0),h.tape.len⟩,⟨l,m,k3,k4,k5,(hg.block _ h.lt (by simp; exact fun e=>h2 e.symm)).trans k6⟩⟩
def na:Array Value:= #[.string ⟨#[120]⟩,.string ⟨#[121]⟩,.string ⟨#[97]⟩,.string ⟨#[118]⟩,.string ⟨#[113]⟩]
theorem Z8:zo 5 na:=fun j hj=>by
 have:j=0∨j=1∨j=2∨j=3∨j=4:=by omega
 rcases this with rfl | rfl | rfl | rfl | rfl <;> exact ⟨_,rfl,by unfold maxLen; decide,by rfl⟩
def nb:Array Value:= #[.string ⟨#[109]⟩,.string ⟨#[110]⟩]
theorem Zq:zo 2 nb:=fun j hj=>by
 have:j=0∨j=1:=by omega
 rcases this with rfl | rfl <;> exact ⟨_,rfl,by unfold maxLen; decide,by rfl⟩
def nc:Array Value:= #[.string ⟨#[114]⟩]
theorem TD:zo 1 nc:=fun j hj=>by
 obtain rfl:j=0:=by omega
 exact ⟨_,rfl,by unfold maxLen; decide,by rfl⟩
def nd:Array Value:= #[.string ⟨#[99]⟩]
theorem Mc:zo 1 nd:=fun j hj=>by
 obtain rfl:j=0:=by omega
 exact ⟨_,rfl,by unfold maxLen; decide,by rfl⟩
def ne:Array Value:= #[.string ⟨#[116]⟩,.string ⟨#[117]⟩,.string ⟨#[119]⟩]
theorem RY:zo 3 ne:=fun j hj=>by
 have:j=0∨j=1∨j=2:=by omega
 rcases this with rfl | rfl | rfl <;> exact ⟨_,rfl,by unfold maxLen; decide,by rfl⟩
def nf:Array Value:= #[.string ⟨#[102]⟩]
theorem RO:zo 1 nf:=fun j hj=>by
 obtain rfl:j=0:=by omega
 exact ⟨_,rfl,by unfold maxLen; decide,by rfl⟩
def ng:Array Value:= #[.string ⟨#[97]⟩]
theorem Zr:zo 1 ng:=fun j hj=>by
 obtain rfl:j=0:=by omega
 exact ⟨_,rfl,by unfold maxLen; decide,by rfl⟩
theorem EW {r:Nat} {l:Int} (hr:r=7∨r=8):EO (oU r l):=
 ⟨by rcases hr with rfl | rfl <;> simp [iq,oU,fO,fN,fA,fI,fX,fB,fE,iU,iy,aP.len,pR],(by decide:200 + 0 + 0 + 0 + (40 + 0 + 0)≤1000)⟩
theorem Jd {r:Nat} {l xo xn:Int} {xm:ByteArray} {xk:aP} (hr:r=2∨r=3) (hx:qW (GE 2) xo xn xm xk):EO {oU r l with bD:=xo,xn:=xn,bC:=xm,aL:=xk} :=
 ⟨by rcases hr with rfl | rfl <;> simp [iq,oU,fO,fN,fA,fI,fX,fB,fE,iU,iy,aP.len,hx.1],by have h:=hx.2; have e:GE 2=576:=rfl; show 200 + 0 + 0 + 0 + lI xm xk≤1000; omega⟩
theorem oq {r:Nat} {l:Int} {s:ByteArray} (hr:r=4∨r=5∨r=6∨r=9∨r=10∨r=11∨r=12∨r=13) (hs:Tk.dZ s.data.toList=true):EO {oU r l with nm:=s} :=
 ⟨by rcases hr with rfl | rfl | rfl | rfl | rfl | rfl | rfl | rfl <;> simp [iq,oU,fO,fN,fA,fI,fX,fB,fE,iU,iy,aP.len,pR,hs],by have h:=Ci hs; show 200 + s.size + 0 + 0 + (40 + 0 + 0)≤1000; omega⟩
theorem V4 {r:Nat} {l xo xn:Int} {xm s:ByteArray} {xk:aP} (hr:r=14) (hs:Tk.dZ s.data.toList=true) (hx:qW (GE 1) xo xn xm xk):EO {oU r l with nm:=s,bD:=xo,xn:=xn,bC:=xm,aL:=xk} :=
 ⟨by subst hr; simp [iq,oU,fO,fN,fA,fI,fX,fB,fE,iU,iy,aP.len,hs,hx.1],by have h:=hx.2; have e:GE 1=192:=rfl; have h2:=Ci hs; show 200 + s.size + 0 + 0 + lI xm xk≤1000; omega⟩
theorem V7 {r:Nat} {l:Int} {s s':ByteArray} (hr:r=15) (hs:Tk.dZ s.data.toList=true) (hs':Tk.dZ s'.data.toList=true):EO {oU r l with nm:=s,arg:=s'} :=
 ⟨by subst hr; simp [iq,oU,fO,fN,fA,fI,fX,fB,fE,iU,iy,aP.len,pR,hs,hs'],by have h:=Ci hs; have h2:=Ci hs'; show 200 + s.size + s'.size + 0 + (40 + 0 + 0)≤1000; omega⟩
theorem U7 {r:Nat} {l xo xn:Int} {xm s:ByteArray} {xk ix:aP} (hr:r=1) (hs:Tk.dZ s.data.toList=true) (hi:ix.len≤1∧K3 (GE 1) ix) (hx:qW (GE 2) xo xn xm xk):EO {oU r l with nm:=s,idx:=ix,bD:=xo,xn:=xn,bC:=xm,aL:=xk} :=
 ⟨by subst hr; simp [iq,oU,fO,fN,fA,fI,fX,fB,fE,iU,hs,hx.1,hi.1,hi.2.1],by have h:=hx.2; have e:GE 2=576:=rfl; have e':GE 1=192:=rfl; have h2:=Ci hs; have h3:=hi.2.2; show 200 + s.size + 0 + qR ix + lI xm xk≤1000; omega⟩
theorem RF {h:aV} {bl el:Nat} (hs:iq h 0 0=true) (hb:bl=0∨fB h.op=true) (he:el=0∨h.op=2):iq h bl el=true:=by
 unfold iq at *
 have hE:h.op=2→fE h.op=true:=fun e=>by rw [e]; rfl
 rcases hb with rfl | hb <;> rcases he with rfl | he <;> simp_all
theorem Ep {q q1 q2:Nat} {h:aV} {b e:aN} (hs:EO h) (hb:b= .nil∨fB h.op=true) (he:e= .nil∨h.op=2) (h1:uJ q1 b) (h2:uJ q2 e) (hq:1000 + 2 * q1 + 2 * q2≤q):Aq q h b e:=by
 refine ⟨?_,by have:=hs.2; have:=h1.2; have:=h2.2; omega⟩
 unfold tH
 rw [h1.1,h2.1,RF hs.1 (hb.imp (fun x=>by rw [x]; rfl) id) (he.imp (fun x=>by rw [x]; rfl) id)]; rfl
structure SI (T:Tp) (w:World) (sb:Nat) (W:World) (h:aV) (b e:aN) (s:Sl):Prop where
 box:Qq W sb h b e s
 st:BP (sb + 1) W h b e s
 mi:dJ W T
 km:Mk T w W
 z:W.heap[w.heap.size]? =some (.cells FM 89 (0,0))
 lt:w.heap.size < sb
 tb:T.bt < w.heap.size∧T.bm < w.heap.size∧T.B0≤w.heap.size
section
variable {T:Tp} {w W W':World} {sb:Nat} {h:aV} {b e:aN} {s:Sl}
theorem SI.sz (hS:SI T w sb W h b e s):sb + 1≤W.heap.size:=(Array.getElem?_eq_some_iff.1 hS.box).1
theorem SI.go (hS:SI T w sb W h b e s) (hM:Mk T W W') (hI:dJ W' T):SI T w sb W' h b e s where
 box:=(hM.block sb hS.sz (by have:=hS.tb; have:=hS.lt; omega) (by have:=hS.tb; have:=hS.lt; omega)).trans hS.box
 st:=hS.st.next (hM.xA (by have:=hS.tb; have:=hS.lt; omega) (by have:=hS.tb; have:=hS.lt; omega))
 mi:=hI
 km:=hS.km.trans hM
 z:=(hM.block _ (Array.getElem?_eq_some_iff.1 hS.z).1 (by have:=hS.tb; omega) (by have:=hS.tb; omega)).trans hS.z
 lt:=hS.lt
 tb:=hS.tb
theorem SI.put {h':aV} {b' e':aN} {s':Sl} (hS:SI T w sb W h b e s) (j:Nat) (v:Value) (hv:(mE h b e s).toArray.setIfInBounds j v=(mE h' b' e' s').toArray) (hs:BP (sb + 1) W h' b' e' s'):SI T w sb (W.setCell ⟨sb,j,none⟩ v) h' b' e' s' where
 box:=by unfold Qq; rw [bQ hS.box,hv]
 st:=hs.next (dO _ _ _ (Nat.lt_succ_self _))
 mi:=hS.mi.set _ _ (by have:=hS.tb; have:=hS.lt; show T.B0≤sb; omega) (by have:=hS.tb; have:=hS.lt; show sb≠_; omega) (by have:=hS.tb; have:=hS.lt; show sb≠_; omega)
 km:=hS.km.set _ _ (by have:=hS.lt; show _≤sb; omega)
 z:=(bJ W _ _ rfl (by have:=hS.lt; show sb≠_; omega)).trans hS.z
 lt:=hS.lt
 tb:=hS.tb
theorem SI.op (hS:SI T w sb W h b e s) (k:Int) (hk:aU k):SI T w sb (W.setCell ⟨sb,0,none⟩ (.int .i64 k)) {h with op:=k} b e s:=
 hS.put 0 _ rfl ⟨⟨hk,hS.st.1.2⟩,hS.st.2⟩
theorem SI.nm (hS:SI T w sb W h b e s) (x:ByteArray) (hx:x.size≤maxLen):SI T w sb (W.setCell ⟨sb,2,none⟩ (.string x)) {h with nm:=x} b e s:=
 hS.put 2 _ rfl ⟨⟨hS.st.1.1,hS.st.1.2.1,hx,hS.st.1.2.2.2⟩,hS.st.2⟩
theorem SI.arg (hS:SI T w sb W h b e s) (x:ByteArray) (hx:x.size≤maxLen):SI T w sb (W.setCell ⟨sb,3,none⟩ (.string x)) {h with arg:=x} b e s:=
 hS.put 3 _ rfl ⟨⟨hS.st.1.1,hS.st.1.2.1,hS.st.1.2.2.1,hx,hS.st.1.2.2.2.2⟩,hS.st.2⟩
theorem SI.idx (hS:SI T w sb W h b e s) (l:aP) (ao:Option Addr) (cap:Nat) (hl:l.len≤maxLen) (hst:dB (sb + 1) W (fun w2=>l.At w2 w2.heap.size ao 0)):SI T w sb (W.setCell ⟨sb,4,none⟩ (.slice ao l.len cap)) {h with idx:=l} b e {s with dF:=ao,bT:=cap} :=
 hS.put 4 _ rfl ⟨⟨hS.st.1.1,hS.st.1.2.1,hS.st.1.2.2.1,hS.st.1.2.2.2.1,hl,hS.st.1.2.2.2.2.2⟩,fun w2 h2=>⟨hst w2 h2,(hS.st.2 w2 h2).2⟩⟩
theorem SI.body (hS:SI T w sb W h b e s) (l:aN) (ao:Option Addr) (cap:Nat) (hl:l.len≤maxLen) (hst:dB (sb + 1) W (fun w2=>l.At w2 w2.heap.size ao 0)):SI T w sb (W.setCell ⟨sb,9,none⟩ (.slice ao l.len cap)) h l e {s with bG:=ao,aS:=cap} :=
 hS.put 9 _ rfl ⟨⟨hS.st.1.1,hS.st.1.2.1,hS.st.1.2.2.1,hS.st.1.2.2.2.1,hS.st.1.2.2.2.2.1,hS.st.1.2.2.2.2.2.1,hl,hS.st.1.2.2.2.2.2.2.2⟩,fun w2 h2=>⟨(hS.st.2 w2 h2).1,(hS.st.2 w2 h2).2.1,hst w2 h2,(hS.st.2 w2 h2).2.2.2⟩⟩
theorem SI.els (hS:SI T w sb W h b e s) (l:aN) (ao:Option Addr) (cap:Nat) (hl:l.len≤maxLen) (hst:dB (sb + 1) W (fun w2=>l.At w2 w2.heap.size ao 0)):SI T w sb (W.setCell ⟨sb,10,none⟩ (.slice ao l.len cap)) h b l {s with dw:=ao,bR:=cap} :=
 hS.put 10 _ rfl ⟨⟨hS.st.1.1,hS.st.1.2.1,hS.st.1.2.2.1,hS.st.1.2.2.2.1,hS.st.1.2.2.2.2.1,hS.st.1.2.2.2.2.2.1,hS.st.1.2.2.2.2.2.2.1,hl⟩,fun w2 h2=>⟨(hS.st.2 w2 h2).1,(hS.st.2 w2 h2).2.1,(hS.st.2 w2 h2).2.2.1,hst w2 h2⟩⟩
theorem SI.x (hS:SI T w sb W h b e s) (op n:Int) (nm:ByteArray) (kids:aP) (ao:Option Addr) (cap:Nat) (hok:oz op n nm kids) (hst:dB (sb + 1) W (fun w2=>kids.At w2 w2.heap.size ao 0)):SI T w sb ((((W.setCell ⟨sb,5,none⟩ (.int .i64 op)).setCell ⟨sb,6,none⟩ (.int .i64 n)).setCell ⟨sb,7,none⟩ (.string nm)).setCell ⟨sb,8,none⟩ (.slice ao kids.len cap)) {h with bD:=op,xn:=n,bC:=nm,aL:=kids} b e {s with bS:=ao,bf:=cap} :=by
 have hx:=hS.st.1.2.2.2.2.2.1
 have k:=hS.st.1
 have S1:=hS.put (h':= {h with bD:=op}) (b':=b) (e':=e) (s':=s) 5 (.int .i64 op) rfl ⟨⟨k.1,k.2.1,k.2.2.1,k.2.2.2.1,k.2.2.2.2.1,⟨hok.1,hx.2⟩,k.2.2.2.2.2.2⟩,hS.st.2⟩
 have S2:=S1.put (h':= {h with bD:=op,xn:=n}) (b':=b) (e':=e) (s':=s) 6 (.int .i64 n) rfl ⟨⟨k.1,k.2.1,k.2.2.1,k.2.2.2.1,k.2.2.2.2.1,⟨hok.1,hok.2.1,hx.2.2⟩,k.2.2.2.2.2.2⟩,S1.st.2⟩
 have S3:=S2.put (h':= {h with bD:=op,xn:=n,bC:=nm}) (b':=b) (e':=e) (s':=s) 7 (.string nm) rfl ⟨⟨k.1,k.2.1,k.2.2.1,k.2.2.2.1,k.2.2.2.2.1,⟨hok.1,hok.2.1,hok.2.2.1,hx.2.2.2⟩,k.2.2.2.2.2.2⟩,S2.st.2⟩
 refine S3.put 8 _ rfl ⟨⟨k.1,k.2.1,k.2.2.1,k.2.2.2.1,k.2.2.2.2.1,hok,k.2.2.2.2.2.2⟩,fun w2 h2=> ?_⟩
 have ha:gK (sb + 1) W w2:=(((dO W ⟨sb,5,none⟩ (.int .i64 op) (Nat.lt_succ_self _)).trans (dO _ ⟨sb,6,none⟩ (.int .i64 n) (Nat.lt_succ_self _))).trans (dO _ ⟨sb,7,none⟩ (.string nm) (Nat.lt_succ_self _))).trans h2
 exact ⟨(S3.st.2 w2 h2).1,hst w2 ha,(S3.st.2 w2 h2).2.2⟩
end
theorem iJ {T:Tp} {w W8 W:World} (h0:T.bt < w.heap.size∧T.bm < w.heap.size∧T.B0≤w.heap.size) (h:Mk T w W∧dJ W T∧gK (w.heap.size + 1) W8 W) (j:Nat) (v:Value):
 Mk T w (W.setCell ⟨w.heap.size,j,none⟩ v)∧dJ (W.setCell ⟨w.heap.size,j,none⟩ v) T∧gK (w.heap.size + 1) W8 (W.setCell ⟨w.heap.size,j,none⟩ v):=
 ⟨h.1.set _ _ (Nat.le_refl _),h.2.1.set _ _ h0.2.2 (by show w.heap.size≠_; omega) (by show w.heap.size≠_; omega),h.2.2.trans (dO _ _ _ (Nat.lt_succ_self _))⟩
theorem F6 (T:Tp) (d:Nat) (hd:d≤100) (ih: ∀d':Nat,d=d' + 1→yg T (d':Int)):DF T (d:Int):=by
 unfold DF
 rw [Int.toNat_natCast]
 intro w hI hL
 obtain ⟨line,left,hl1,hl2,hl3,hblk⟩:=hL
 have HI0:=Lib.hid hI
 have iY:=Lib.hid ih
 have HBK:=Lib.hid hblk
 have HL1:=Lib.hid hl1
 have dR:Hid (T.bt < w.heap.size∧T.bm < w.heap.size∧T.B0≤w.heap.size):=Lib.hid ⟨HI0.out.tape.lt,HI0.out.lt,HI0.out.tape.b0⟩
 have DT:=hI.lt
 have c1:w.cell? ⟨T.bm,1,none⟩=some (.int .i64 line):=(bL hblk (j:=1) rfl).2
 have c2:w.cell? ⟨T.bm,2,none⟩=some (.int .i64 left):=(bL hblk (j:=2) rfl).2
 have f1:w.frozen? ⟨T.bm,1,none⟩=false:=aK hblk
 have f2:w.frozen? ⟨T.bm,2,none⟩=false:=aK hblk
 clear hI ih hblk hl1
 go_enter Tryz.func59,Tryz.ntmps59
 go_upto_region 3 with fail
 generalize hW:World.alloc (World.setCell (World.setCell w _ _) _ _) _=W
 have HM:Hid (Mk T w W):=Lib.hid (by rw [← hW]; exact (((Mk.refl T w).Jo _ _).Jo _ _).trans (Mk.of_below (ah _ _)))
 have HI:Hid (dJ W T):=Lib.hid (by rw [← hW]; exact ((HI0.out.line (za _)).left (by omega) (by omega)).below (ah _ _))
 have HZ:Hid (W.heap[w.heap.size]? =some (.cells FM 89 (0,0))):=Lib.hid (by
  rw [← hW]
  have e:(World.setCell (World.setCell w ⟨T.bm,1,none⟩ (.int .i64 (wrap64 (line + 1)))) ⟨T.bm,2,none⟩ (.int .i64 (left - 1))).heap.size=w.heap.size:=by simp [World.setCell]
  rw [← e]; exact heap_alloc_new _ _)
 clear hW c1 c2 f1 f2 DT HBK HL1 hl2 hl3
 have K0: ∀w',dJ w' T→w'.cell? ⟨T.bm,0,none⟩=some (.pointer (some ⟨T.bt,0,none⟩)):=fun w' h=>h.ptr
 have hd1:Mk T W (W.drewN 1):=Mk.of_below (below_drewN (Below.refl _ _) 1)
 have hd2:dJ (W.drewN 1) T:=HI.out.below (below_drewN (Below.refl _ _) 1)
 have qF:Hid (w.heap.size < W.heap.size):=Lib.hid (Array.getElem?_eq_some_iff.1 HZ.out).1
 refine eY (by kernel_rfl) rfl ?_
 refine eB 0 12 [] [[],[0],[0,1],[0,1,2],[0,1,2,3],[0,1,2,3,4],[],[6],[6,7],[6,7,8],[0,1,2,3,4,5,6,7,8,9],[],[0,1,2,3,4,5,6,7,8,9,10,11]] [[],[],[],[],[],[],[],[],[],[],[],[]] (fun _ w'=>Mk T W w'∧dJ w' T) (fun w w'=>Mk T w w') [20,21,22,23,24,25,26,27,28,29,30,5] rfl rfl (by rfl) (by kernel_rfl) (by kernel_rfl) (by kernel_rfl) (by kernel_rfl) (by kernel_rfl) (by rfl) (fun _=>Mk.refl _ _) (by rfl) ⟨hd1,hd2⟩ ?_
 simp only [List.take_succ_cons,List.take_zero,List.drop_zero,List.drop_succ_cons,jY,List.map_cons,List.map_nil]
 apply aO.step
 case aB=>
  intro c A w' hok hC hO hD
  have e0:=hO 0 (by rfl)
  simp [Act.eval] at e0
  simp [au,aj,ak,Act.eval,Region.binds] at hD
  simp [go_sem,gd,Oper.wp,hD,e0]
  exact ay.mk (Mk.refl _ _) hC (aj.mk _ _)
 apply aO.step
 case aB=>
  intro c A w' hok hC hO hD
  simp [au,aj,ak,Act.eval,Region.binds] at hD
  simp [go_sem,gd,Oper.wp,hD]
  exact ay.mk (Mk.refl _ _) hC (aj.mk _ _)
 apply aO.step
 case aB=>
  intro c A w' hok hC hO hD
  simp [au,aj,ak,Act.eval,Region.binds] at hD
  simp [go_sem,gd,Oper.wp,hD]
  exact ay.mk (Mk.refl _ _) hC (aj.mk _ _)
 apply aO.step
 case aB=>
  intro c A w' hok hC hO hD
  simp [au,aj,ak,Act.eval,Region.binds] at hD
  simp [go_sem,gd,Oper.wp,hD,K0,hC.2]
  exact ay.mk (Mk.refl _ _) hC (aj.mk _ _)
 simp only [List.nil_append,List.cons_append]
 refine aO.some (fun v _=> ∃r:Nat,v= .int .i64 (r:Int)∧r < 15) (fun _ _ _ _ h=>h) ?_ ?_
 ·intro c A w' hok hC hO hD
  simp [au,aj,ak,Act.eval,Region.binds] at hD
  simp [go_sem,gd,Oper.wp,hD]
  refine (dQ T 15 w' (by unfold aU; decide) hC.2).mono ?_
  rintro e w2 ⟨r,rfl,h0,h1,-,hM,hI⟩
  obtain ⟨r',rfl⟩:=Int.eq_ofNat_of_zero_le h0
  exact ay.mk hM ⟨hC.1.trans hM,hI⟩ ⟨r',rfl,by have:=h1 (by decide); omega⟩
 simp only [List.nil_append,List.cons_append]
 refine aO.some (fun v w'=> ∃r:Nat,v= .int .i64 (r:Int)∧1≤r∧r≤15) (fun _ _ _ _ h=>h) ?_ ?_
 ·intro c A w' hok hC hO hD
  simp [au,aj,ak,Act.eval,Region.binds] at hD
  obtain ⟨r,hr,Gn⟩:=hD
  have hw:IntKind.i64.wrap (1 + (r:Int))=1 + r:=IntWalk.i64_in _ (by omega)
  simp [go_sem,gd,Oper.wp,hr,hw]
  exact ay.mk (Mk.refl _ _) hC (⟨1 + r,by simp,by omega,by omega⟩)
 simp only [List.nil_append,List.cons_append]
 apply aO.step
 case aB=>
  intro c A w' hok hC hO hD
  have e0:=hO 0 (by rfl)
  simp [Act.eval] at e0
  simp [au,aj,ak,Act.eval,Region.binds] at hD
  simp [go_sem,gd,Oper.wp,hD,e0]
  exact ay.mk (Mk.refl _ _) hC (aj.mk _ _)
 apply aO.step
 case aB=>
  intro c A w' hok hC hO hD
  simp [au,aj,ak,Act.eval,Region.binds] at hD
  simp [go_sem,gd,Oper.wp,hD]
  exact ay.mk (Mk.refl _ _) hC (aj.mk _ _)
 apply aO.step
 case aB=>
  intro c A w' hok hC hO hD
  simp [au,aj,ak,Act.eval,Region.binds] at hD
  simp [go_sem,gd,Oper.wp,hD]
  exact ay.mk (Mk.refl _ _) hC (aj.mk _ _)
 simp only [List.nil_append,List.cons_append]
 refine aO.some (fun v w'=> ∃l:Int,v= .int .i64 l∧aU l) (fun _ _ _ _ h=>h) ?_ ?_
 ·intro c A w' hok hC hO hD
  simp [au,aj,ak,Act.eval,Region.binds] at hD
  obtain ⟨l,hc,hl⟩:=hC.2.ln
  simp [go_sem,gd,Oper.wp,hD,hc]
  exact ay.mk (Mk.refl _ _) hC (⟨l,rfl,hl⟩)
 simp only [List.nil_append,List.cons_append]
 refine aO.some (fun v w'=> ∃(r:Nat) (l:Int),v=dx (oU r l) .nil .nil F7∧1≤r∧r≤15∧aU l) (fun _ _ _ _ h=>h) ?_ ?_
 ·intro c A w' hok hC hO hD
  simp [au,aj,ak,Act.eval,Region.binds] at hD
  obtain ⟨⟨r,hr,h1,h2⟩,l,hl,h3⟩:=hD
  simp [go_sem,gd,Oper.wp,hr,hl]
  exact ay.mk (Mk.refl _ _) hC (⟨r,l,rfl,h1,h2,h3⟩)
 simp only [List.nil_append,List.cons_append]
 refine aO.some (fun v w'=> ∃sb,v= .pointer (some ⟨sb,0,none⟩)∧W.heap.size≤sb∧w'.heap[sb]? =some (.cells FM 89 (0,0))) ?_ ?_ ?_
 ·rintro v w1 w' hle ⟨g,h1,h2,h3⟩
  exact ⟨g,h1,h2,(hle.block g (Array.getElem?_eq_some_iff.1 h3).1 (by have:=dR.out; have:=qF.out; omega) (by have:=dR.out; have:=qF.out; omega)).trans h3⟩
 ·intro c A w' hok hC hO hD
  simp [go_sem,gd,Oper.wp]
  exact ay.mk (d:=_) (v:= .pointer (some ⟨_,0,none⟩)) (Mk.of_below (ah _ _)) ⟨hC.1.trans (Mk.of_below (ah _ _)),hC.2.below (ah _ _)⟩ ⟨_,rfl,hC.1.size,heap_alloc_new _ _⟩
 simp only [List.nil_append,List.cons_append]
 refine aO.done ?_
 intro wz dP
 simp only [List.drop_zero]
 intro v0 h0 v1 h1 v2 h2 v3 h3 v4 h4 v5 h5 v6 h6 v7 h7 v8 h8 v9 h9 v10 h10 v11 h11
 obtain ⟨r,l,rfl,hr1,hr2,yh⟩:=h10
 obtain ⟨sb,rfl,Au,qO⟩:=h11
 clear h0 h1 h2 h3 h4 h5 h6 h7 h8 h9 K0 hd1 hd2
 refine dG.nil ?_
 go_simp
 refine iD 12 [[],[0],[0,1],[0,1,2],[0,1,2,3],[0,1,2,3,4],[],[6],[6,7],[6,7,8],[0,1,2,3,4,5,6,7,8,9],[],[0,1,2,3,4,5,6,7,8,9,10,11]] rfl rfl rfl rfl rfl (by kernel_rfl) (by kernel_rfl) (by kernel_rfl) ?_
 have Ai:=Lib.hid Au
 have Ol:=Lib.hid yh
 refine wp_store_mid _ _ _ (by rfl) sb 0 (mE (oU r l) .nil .nil F7).toArray (by rfl) (by rfl) (sZ qO (Nat.le_refl 11)) Kh (by simp [mE,oU,F7,Value.oneCell']) ?_
 refine gL rfl ?_
 generalize qB:World.setCells wz sb 0 _=W5
 have kZ:Hid (Qq W5 sb (oU r l) .nil .nil F7):=Lib.hid (by rw [← qB]; exact jS qO rfl)
 have IL:Hid (dJ W5 T):=Lib.hid (by rw [← qB]; exact dP.2.sets _ _ _ (by have:=dR.out; have:=qF.out; omega) (by have:=dR.out; have:=qF.out; omega) (by have:=dR.out; have:=qF.out; omega))
 have CV:Hid (Mk T w W5):=Lib.hid (by rw [← qB]; exact (HM.out.trans dP.1).sets _ _ _ (by have:=qF.out; omega))
 have kJ:Hid (W5.heap[w.heap.size]? =some (.cells FM 89 (0,0))):=Lib.hid (by
  rw [← qB,(bP sb _ _ wz).block _ (Nat.lt_of_lt_of_le qF.out dP.1.size) (by have:=qF.out; simp; omega)]
  exact (dP.1.block _ qF.out (by have:=dR.out; omega) (by have:=dR.out; omega)).trans HZ.out)
 clear qB dP qO Au yh HZ HI HM
 go_simp
 have y0:W5.cell? ⟨sb,0,none⟩=some (.int .i64 (r:Int)):=(bL kZ.out (j:=0) rfl).2
 have f0:W5.frozen? ⟨sb,0,none⟩=false:=aK kZ.out
 have vX:Hid (SI T w sb W5 (oU r l) .nil .nil F7):=Lib.hid ⟨kZ.out,YB _ _ (by unfold aU; omega) Ol.out,IL.out,CV.out,kJ.out,by have:=Ai.out; have:=qF.out; omega,dR.out⟩
 clear kZ IL CV kJ
 go_upto_region 4 with fail
 go_cut [42] (fun s' W'=>W5=W'∧ ∃q,s'= .bool q∧decide (d=0∧2≤r∧r≤8)=q)
 case first=>
  cases hdz:((d:Int) == 0)
  ·have hdn:d≠0:=by simpa using hdz
   go_wp2_with fail
   go_meet
   exact ⟨rfl,_,rfl,by go_light; grind⟩
  ·have hdn:d=0:=by simpa using hdz
   have HDN:=Lib.hid hdn
   clear hdn
   go_wp2_with fail
   all_goals go_meet
   all_goals exact ⟨rfl,_,rfl,by have:=HDN.out; go_light; grind⟩
 obtain ⟨rfl,q,rfl,hq⟩:=hcut
 have HQ:=Lib.hid hq
 clear hq
 go_upto_if 42 with fail
 go_cut [5] (fun s5 W'=>s5= .pointer (some ⟨sb,0,none⟩)∧ ∃r':Nat,1≤r'∧r'≤15∧(d=0→r' < 2∨8 < r')∧SI T w sb W' (oU r' l) .nil .nil F7)
 case first=>
  cases q
  ·have hq: ¬ (d=0∧2≤r∧r≤8):=by simpa using HQ.out
   have qp:Hid (d=0→r < 2∨8 < r):=Lib.hid (fun e=>by omega)
   clear hq
   go_wp2_with fail
   go_meet
   exact ⟨rfl,r,hr1,hr2,qp.out,vX.out⟩
  ·go_wp2_with fail
   go_meet
   exact ⟨rfl,1,by decide,by decide,fun _=> .inl (by decide),vX.out.op 1 (by unfold aU; decide)⟩
 obtain ⟨rfl,r',hr1',hr2',Xt,hS⟩:=hcut
 obtain ⟨W6,rfl⟩: ∃W:World,W=wc:=⟨_,rfl⟩
 have eu:=Lib.hid hS
 have HR3:=Lib.hid Xt
 clear hS Xt vX HQ y0 f0 hr1 hr2
 have y0:W6.cell? ⟨sb,0,none⟩=some (.int .i64 (r':Int)):=(bL eu.out.box (j:=0) rfl).2
 go_upto_block 0 with fail
 go_cut [5] (fun s5 W'=>s5= .pointer (some ⟨sb,0,none⟩)∧ ∃h s,h.op=(r':Int)∧EO h∧SI T w sb W' h .nil .nil s)
 case first=>
  have HRR:Hid ((oU r' l).op=(r':Int)):=Lib.hid rfl
  have E1:Hid (uP T 1):=Lib.hid (Cm T 1 (by decide))
  have E2:Hid (uP T 2):=Lib.hid (Cm T 2 (by decide))
  clear y0
  have hc:r'=1∨r'=2∨r'=3∨r'=4∨r'=5∨r'=6∨r'=7∨r'=8∨r'=9∨r'=10∨r'=11∨r'=12∨r'=13∨r'=14∨r'=15:=by omega
  clear hr1' hr2'
  rcases hc with hop | hop | hop | hop | hop | hop | hop | hop | hop | hop | hop | hop | hop | hop | hop
  ·skip
   have dH:=Lib.hid hop
   clear hop
   have hop:=dH.out
   have g1:((r':Int) == 1)=true:=by rw [hop]; rfl
   have g2:((r':Int) == 2)=false:=by rw [hop]; rfl
   have g3:((r':Int) == 3)=false:=by rw [hop]; rfl
   have g4:((r':Int) == 4)=false:=by rw [hop]; rfl
   have g5:((r':Int) == 5)=false:=by rw [hop]; rfl
   have g6:((r':Int) == 6)=false:=by rw [hop]; rfl
   have g7:((r':Int) == 7)=false:=by rw [hop]; rfl
   have g8:((r':Int) == 8)=false:=by rw [hop]; rfl
   have g9:((r':Int) == 9)=false:=by rw [hop]; rfl
   have g10:((r':Int) == 10)=false:=by rw [hop]; rfl
   have g11:((r':Int) == 11)=false:=by rw [hop]; rfl
   have g12:((r':Int) == 12)=false:=by rw [hop]; rfl
   have g13:((r':Int) == 13)=false:=by rw [hop]; rfl
   have g14:((r':Int) == 14)=false:=by rw [hop]; rfl
   have g15:((r':Int) == 15)=false:=by rw [hop]; rfl
   clear hop
   go_wp2_with fail
   refine (ku T _ _ 5 na (eu.out.mi.below (ah _ _)) (heap_alloc_new _ _) (by decide) (by decide) Z8 (Nat.ne_of_gt eu.out.mi.tape.lt) (Nat.ne_of_gt eu.out.mi.lt)).mono ?_
   rintro e wa ⟨sa,rfl,hsa,jk,jl⟩
   have fV:=Lib.hid (eu.out.go ((Mk.of_below (ah _ _)).trans jk) jl)
   have kI:=Lib.hid hsa
   clear jk jl hsa
   obtain ⟨-,-,y2,-,-,-,-,-,-,-,-⟩:=nY fV.out.box
   have f2:wa.frozen? ⟨sb,2,none⟩=false:=aK fV.out.box
   go_upto_region 9 with fail
   generalize wO:World.setCell wa _ _=wb
   have mV:=Lib.hid (fV.out.nm sa kI.out.1)
   rw [wO] at mV
   clear wO y2 f2 fV
   go_cut [62] (fun s' W'=>(∃q,s'= .bool q)∧SI T w sb W' {oU r' l with nm:=sa} .nil .nil F7)
   case first=>
    obtain ⟨-,-,y2,-,-,-,-,-,-,-,-⟩:=nY mV.out.box
    have c0:=mV.out.mi.ptr
    go_wp2_with (first | (go_at_call 26; refine (dQ T 6 _ (by unfold aU; decide) mV.out.mi).mono ?_; rintro e wn ⟨kn,rfl,hn1,hn2,Tv,Ou,hIn⟩; have VJ:=Lib.hid (mV.out.go Ou hIn); clear Ou hIn))
    all_goals go_meet
    all_goals first | exact ⟨⟨_,rfl⟩,VJ.out⟩ | exact ⟨⟨_,rfl⟩,mV.out⟩
   obtain ⟨⟨q,rfl⟩,FQ⟩:=hcut
   obtain ⟨wd,rfl⟩: ∃W:World,W=wc:=⟨_,rfl⟩
   have BM:=Lib.hid FQ
   clear FQ mV
   go_upto_if 62 with fail
   go_cut [5] (fun s5 W'=>s5= .pointer (some ⟨sb,0,none⟩)∧ ∃ix s,(ix.len≤1∧K3 (GE 1) ix)∧SI T w sb W' {oU r' l with nm:=sa,idx:=ix} .nil .nil s)
   case first=>
    cases q
    ·go_wp2_with fail
     go_meet
     exact ⟨rfl,.nil,_,⟨by decide,rfl,Nat.zero_le _⟩,BM.out⟩
    ·go_wp2_with fail
     refine (E1.out _ BM.out.mi).mono ?_
     intro e wf hp
     obtain ⟨v,rfl,hex,Nq,MV⟩:=qH hp
     have Dw:=Lib.hid (BM.out.go Nq MV)
     obtain ⟨xo,xn,xm,xk,xa,xc,rfl,hok,hst⟩:=hex
     have gV:=Lib.hid hok
     have HST:=Lib.hid (hst.mono BM.out.sz)
     clear hp hok hst Nq MV
     unfold exV
     obtain ⟨-,-,-,-,y4,-,-,-,-,-,-⟩:=nY Dw.out.box
     have f4:wf.frozen? ⟨sb,4,none⟩=false:=aK Dw.out.box
     have hlt:sb < wf.heap.size:=Dw.out.sz
     go_wp2_with fail
     go_meet
     have HR:=Dw.out.go (Mk.of_below (ah _ (.cells #[.int .i64 xo,.int .i64 xn,.string xm,.slice xa xk.len xc] 45))) (Dw.out.mi.below (ah _ _))
     have vK:=HR.idx (.cons xo xn xm xk .nil) (some ⟨wf.heap.size,0,none⟩) 1 (by simp [aP.len,maxLen]) (rE (heap_alloc_new _ _) hlt gV.out.1 ((HST.out).next (aY (ah _ _))))
     rw [World.setCell_alloc_past _ _ _ _ (show (Addr.mk sb 4 none).block < _ from hlt)] at vK
     have HXL:=Lib.hid (yM gV.out.2)
     have XB:=Lib.hid vK
     clear vK HR
     refine ⟨rfl,?_⟩
     exact ⟨.cons xo xn xm xk .nil,_,⟨Nat.le_refl 1,HXL.out⟩,XB.out⟩
   obtain ⟨rfl,ix,s2,hix,FQ⟩:=hcut
   have RS:=Lib.hid hix
   clear hix
   obtain ⟨wg,rfl⟩: ∃W:World,W=wc:=⟨_,rfl⟩
   have WT:=Lib.hid FQ
   clear FQ BM
   go_wp2_with fail
   refine (E2.out _ WT.out.mi).mono ?_
   intro e wi hp
   obtain ⟨v,rfl,hex,ZR,hIi⟩:=qH hp
   have KG:=Lib.hid (WT.out.go ZR hIi)
   obtain ⟨xo,xn,xm,xk,xa,xc,rfl,hok,hst⟩:=hex
   have gV:=Lib.hid hok
   have HST:=Lib.hid (hst.mono WT.out.sz)
   clear hp hok hst ZR hIi
   unfold exV
   obtain ⟨-,-,-,-,-,y5,y6,y7,y8,-,-⟩:=nY KG.out.box
   have f5:wi.frozen? ⟨sb,5,none⟩=false:=aK KG.out.box
   have f6:wi.frozen? ⟨sb,6,none⟩=false:=aK KG.out.box
   have f7:wi.frozen? ⟨sb,7,none⟩=false:=aK KG.out.box
   have f8:wi.frozen? ⟨sb,8,none⟩=false:=aK KG.out.box
   go_wp2_with fail
   go_meet
   refine ⟨rfl,_,_,?_,U7 dH.out kI.out.2 RS.out gV.out.2,KG.out.x xo xn xm xk xa xc gV.out.1 HST.out⟩
   exact HRR.out
  ·as_aux_lemma=>
    have dH:=Lib.hid hop
    clear hop
    have hop:=dH.out
    have g1:((r':Int) == 1)=false:=by rw [hop]; rfl
    have g2:((r':Int) == 2)=true:=by rw [hop]; rfl
    have g3:((r':Int) == 3)=false:=by rw [hop]; rfl
    have g4:((r':Int) == 4)=false:=by rw [hop]; rfl
    have g5:((r':Int) == 5)=false:=by rw [hop]; rfl
    have g6:((r':Int) == 6)=false:=by rw [hop]; rfl
    have g7:((r':Int) == 7)=false:=by rw [hop]; rfl
    have g8:((r':Int) == 8)=false:=by rw [hop]; rfl
    have g9:((r':Int) == 9)=false:=by rw [hop]; rfl
    have g10:((r':Int) == 10)=false:=by rw [hop]; rfl
    have g11:((r':Int) == 11)=false:=by rw [hop]; rfl
    have g12:((r':Int) == 12)=false:=by rw [hop]; rfl
    have g13:((r':Int) == 13)=false:=by rw [hop]; rfl
    have g14:((r':Int) == 14)=false:=by rw [hop]; rfl
    have g15:((r':Int) == 15)=false:=by rw [hop]; rfl
    clear hop
    go_wp2_with fail
    refine (E2.out _ eu.out.mi).mono ?_
    intro e wa hp
    obtain ⟨v,rfl,hex,jk,jl⟩:=qH hp
    have fV:=Lib.hid (eu.out.go jk jl)
    obtain ⟨xo,xn,xm,xk,xa,xc,rfl,hok,hst⟩:=hex
    have gV:=Lib.hid hok
    have HST:=Lib.hid (hst.mono eu.out.sz)
    clear hp hok hst jk jl
    unfold exV
    obtain ⟨-,-,-,-,-,y5,y6,y7,y8,-,-⟩:=nY fV.out.box
    have f5:wa.frozen? ⟨sb,5,none⟩=false:=aK fV.out.box
    have f6:wa.frozen? ⟨sb,6,none⟩=false:=aK fV.out.box
    have f7:wa.frozen? ⟨sb,7,none⟩=false:=aK fV.out.box
    have f8:wa.frozen? ⟨sb,8,none⟩=false:=aK fV.out.box
    go_wp2_with fail
    go_meet
    refine ⟨rfl,_,_,?_,Jd (by have:=dH.out; omega) gV.out.2,fV.out.x xo xn xm xk xa xc gV.out.1 HST.out⟩
    exact HRR.out
  ·as_aux_lemma=>
    have dH:=Lib.hid hop
    clear hop
    have hop:=dH.out
    have g1:((r':Int) == 1)=false:=by rw [hop]; rfl
    have g2:((r':Int) == 2)=false:=by rw [hop]; rfl
    have g3:((r':Int) == 3)=true:=by rw [hop]; rfl
    have g4:((r':Int) == 4)=false:=by rw [hop]; rfl
    have g5:((r':Int) == 5)=false:=by rw [hop]; rfl
    have g6:((r':Int) == 6)=false:=by rw [hop]; rfl
    have g7:((r':Int) == 7)=false:=by rw [hop]; rfl
    have g8:((r':Int) == 8)=false:=by rw [hop]; rfl
    have g9:((r':Int) == 9)=false:=by rw [hop]; rfl
    have g10:((r':Int) == 10)=false:=by rw [hop]; rfl
    have g11:((r':Int) == 11)=false:=by rw [hop]; rfl
    have g12:((r':Int) == 12)=false:=by rw [hop]; rfl
    have g13:((r':Int) == 13)=false:=by rw [hop]; rfl
    have g14:((r':Int) == 14)=false:=by rw [hop]; rfl
    have g15:((r':Int) == 15)=false:=by rw [hop]; rfl
    clear hop
    go_wp2_with fail
    refine (E2.out _ eu.out.mi).mono ?_
    intro e wa hp
    obtain ⟨v,rfl,hex,jk,jl⟩:=qH hp
    have fV:=Lib.hid (eu.out.go jk jl)
    obtain ⟨xo,xn,xm,xk,xa,xc,rfl,hok,hst⟩:=hex
    have gV:=Lib.hid hok
    have HST:=Lib.hid (hst.mono eu.out.sz)
    clear hp hok hst jk jl
    unfold exV
    obtain ⟨-,-,-,-,-,y5,y6,y7,y8,-,-⟩:=nY fV.out.box
    have f5:wa.frozen? ⟨sb,5,none⟩=false:=aK fV.out.box
    have f6:wa.frozen? ⟨sb,6,none⟩=false:=aK fV.out.box
    have f7:wa.frozen? ⟨sb,7,none⟩=false:=aK fV.out.box
    have f8:wa.frozen? ⟨sb,8,none⟩=false:=aK fV.out.box
    go_wp2_with fail
    go_meet
    refine ⟨rfl,_,_,?_,Jd (by have:=dH.out; omega) gV.out.2,fV.out.x xo xn xm xk xa xc gV.out.1 HST.out⟩
    exact HRR.out
  ·as_aux_lemma=>
    have dH:=Lib.hid hop
    clear hop
    have hop:=dH.out
    have g1:((r':Int) == 1)=false:=by rw [hop]; rfl
    have g2:((r':Int) == 2)=false:=by rw [hop]; rfl
    have g3:((r':Int) == 3)=false:=by rw [hop]; rfl
    have g4:((r':Int) == 4)=true:=by rw [hop]; rfl
    have g5:((r':Int) == 5)=false:=by rw [hop]; rfl
    have g6:((r':Int) == 6)=false:=by rw [hop]; rfl
    have g7:((r':Int) == 7)=false:=by rw [hop]; rfl
    have g8:((r':Int) == 8)=false:=by rw [hop]; rfl
    have g9:((r':Int) == 9)=false:=by rw [hop]; rfl
    have g10:((r':Int) == 10)=false:=by rw [hop]; rfl
    have g11:((r':Int) == 11)=false:=by rw [hop]; rfl
    have g12:((r':Int) == 12)=false:=by rw [hop]; rfl
    have g13:((r':Int) == 13)=false:=by rw [hop]; rfl
    have g14:((r':Int) == 14)=false:=by rw [hop]; rfl
    have g15:((r':Int) == 15)=false:=by rw [hop]; rfl
    clear hop
    go_wp2_with fail
    refine (ku T _ _ 2 nb (eu.out.mi.below (ah _ _)) (heap_alloc_new _ _) (by decide) (by decide) Zq (Nat.ne_of_gt eu.out.mi.tape.lt) (Nat.ne_of_gt eu.out.mi.lt)).mono ?_
    rintro e wa ⟨sa,rfl,hsa,jk,jl⟩
    have fV:=Lib.hid (eu.out.go ((Mk.of_below (ah _ _)).trans jk) jl)
    have kI:=Lib.hid hsa
    clear jk jl hsa
    obtain ⟨-,-,y2,-,-,-,-,-,-,-,-⟩:=nY fV.out.box
    have f2:wa.frozen? ⟨sb,2,none⟩=false:=aK fV.out.box
    go_wp2_with fail
    go_meet
    refine ⟨rfl,_,_,?_,oq (by have:=dH.out; omega) kI.out.2,fV.out.nm sa kI.out.1⟩
    exact HRR.out
  ·as_aux_lemma=>
    have dH:=Lib.hid hop
    clear hop
    have hop:=dH.out
    have g1:((r':Int) == 1)=false:=by rw [hop]; rfl
    have g2:((r':Int) == 2)=false:=by rw [hop]; rfl
    have g3:((r':Int) == 3)=false:=by rw [hop]; rfl
    have g4:((r':Int) == 4)=false:=by rw [hop]; rfl
    have g5:((r':Int) == 5)=true:=by rw [hop]; rfl
    have g6:((r':Int) == 6)=false:=by rw [hop]; rfl
    have g7:((r':Int) == 7)=false:=by rw [hop]; rfl
    have g8:((r':Int) == 8)=false:=by rw [hop]; rfl
    have g9:((r':Int) == 9)=false:=by rw [hop]; rfl
    have g10:((r':Int) == 10)=false:=by rw [hop]; rfl
    have g11:((r':Int) == 11)=false:=by rw [hop]; rfl
    have g12:((r':Int) == 12)=false:=by rw [hop]; rfl
    have g13:((r':Int) == 13)=false:=by rw [hop]; rfl
    have g14:((r':Int) == 14)=false:=by rw [hop]; rfl
    have g15:((r':Int) == 15)=false:=by rw [hop]; rfl
    clear hop
    go_wp2_with fail
    refine (ku T _ _ 1 nc (eu.out.mi.below (ah _ _)) (heap_alloc_new _ _) (by decide) (by decide) TD (Nat.ne_of_gt eu.out.mi.tape.lt) (Nat.ne_of_gt eu.out.mi.lt)).mono ?_
    rintro e wa ⟨sa,rfl,hsa,jk,jl⟩
    have fV:=Lib.hid (eu.out.go ((Mk.of_below (ah _ _)).trans jk) jl)
    have kI:=Lib.hid hsa
    clear jk jl hsa
    obtain ⟨-,-,y2,-,-,-,-,-,-,-,-⟩:=nY fV.out.box
    have f2:wa.frozen? ⟨sb,2,none⟩=false:=aK fV.out.box
    go_wp2_with fail
    go_meet
    refine ⟨rfl,_,_,?_,oq (by have:=dH.out; omega) kI.out.2,fV.out.nm sa kI.out.1⟩
    exact HRR.out
  ·as_aux_lemma=>
    have dH:=Lib.hid hop
    clear hop
    have hop:=dH.out
    have g1:((r':Int) == 1)=false:=by rw [hop]; rfl
    have g2:((r':Int) == 2)=false:=by rw [hop]; rfl
    have g3:((r':Int) == 3)=false:=by rw [hop]; rfl
    have g4:((r':Int) == 4)=false:=by rw [hop]; rfl
    have g5:((r':Int) == 5)=false:=by rw [hop]; rfl
    have g6:((r':Int) == 6)=true:=by rw [hop]; rfl
    have g7:((r':Int) == 7)=false:=by rw [hop]; rfl
    have g8:((r':Int) == 8)=false:=by rw [hop]; rfl
    have g9:((r':Int) == 9)=false:=by rw [hop]; rfl
    have g10:((r':Int) == 10)=false:=by rw [hop]; rfl
    have g11:((r':Int) == 11)=false:=by rw [hop]; rfl
    have g12:((r':Int) == 12)=false:=by rw [hop]; rfl
    have g13:((r':Int) == 13)=false:=by rw [hop]; rfl
    have g14:((r':Int) == 14)=false:=by rw [hop]; rfl
    have g15:((r':Int) == 15)=false:=by rw [hop]; rfl
    clear hop
    go_wp2_with fail
    refine (ku T _ _ 1 nc (eu.out.mi.below (ah _ _)) (heap_alloc_new _ _) (by decide) (by decide) TD (Nat.ne_of_gt eu.out.mi.tape.lt) (Nat.ne_of_gt eu.out.mi.lt)).mono ?_
    rintro e wa ⟨sa,rfl,hsa,jk,jl⟩
    have fV:=Lib.hid (eu.out.go ((Mk.of_below (ah _ _)).trans jk) jl)
    have kI:=Lib.hid hsa
    clear jk jl hsa
    obtain ⟨-,-,y2,-,-,-,-,-,-,-,-⟩:=nY fV.out.box
    have f2:wa.frozen? ⟨sb,2,none⟩=false:=aK fV.out.box
    go_wp2_with fail
    go_meet
    refine ⟨rfl,_,_,?_,oq (by have:=dH.out; omega) kI.out.2,fV.out.nm sa kI.out.1⟩
    exact HRR.out
  ·as_aux_lemma=>
    have dH:=Lib.hid hop
    clear hop
    have hop:=dH.out
    have g1:((r':Int) == 1)=false:=by rw [hop]; rfl
    have g2:((r':Int) == 2)=false:=by rw [hop]; rfl
    have g3:((r':Int) == 3)=false:=by rw [hop]; rfl
    have g4:((r':Int) == 4)=false:=by rw [hop]; rfl
    have g5:((r':Int) == 5)=false:=by rw [hop]; rfl
    have g6:((r':Int) == 6)=false:=by rw [hop]; rfl
    have g7:((r':Int) == 7)=true:=by rw [hop]; rfl
    have g8:((r':Int) == 8)=false:=by rw [hop]; rfl
    have g9:((r':Int) == 9)=false:=by rw [hop]; rfl
    have g10:((r':Int) == 10)=false:=by rw [hop]; rfl
    have g11:((r':Int) == 11)=false:=by rw [hop]; rfl
    have g12:((r':Int) == 12)=false:=by rw [hop]; rfl
    have g13:((r':Int) == 13)=false:=by rw [hop]; rfl
    have g14:((r':Int) == 14)=false:=by rw [hop]; rfl
    have g15:((r':Int) == 15)=false:=by rw [hop]; rfl
    clear hop
    go_wp2_with fail
    go_meet
    exact ⟨rfl,_,_,HRR.out,EW (by have:=dH.out; omega),eu.out⟩
  ·as_aux_lemma=>
    have dH:=Lib.hid hop
    clear hop
    have hop:=dH.out
    have g1:((r':Int) == 1)=false:=by rw [hop]; rfl
    have g2:((r':Int) == 2)=false:=by rw [hop]; rfl
    have g3:((r':Int) == 3)=false:=by rw [hop]; rfl
    have g4:((r':Int) == 4)=false:=by rw [hop]; rfl
    have g5:((r':Int) == 5)=false:=by rw [hop]; rfl
    have g6:((r':Int) == 6)=false:=by rw [hop]; rfl
    have g7:((r':Int) == 7)=false:=by rw [hop]; rfl
    have g8:((r':Int) == 8)=true:=by rw [hop]; rfl
    have g9:((r':Int) == 9)=false:=by rw [hop]; rfl
    have g10:((r':Int) == 10)=false:=by rw [hop]; rfl
    have g11:((r':Int) == 11)=false:=by rw [hop]; rfl
    have g12:((r':Int) == 12)=false:=by rw [hop]; rfl
    have g13:((r':Int) == 13)=false:=by rw [hop]; rfl
    have g14:((r':Int) == 14)=false:=by rw [hop]; rfl
    have g15:((r':Int) == 15)=false:=by rw [hop]; rfl
    clear hop
    go_wp2_with fail
    go_meet
    exact ⟨rfl,_,_,HRR.out,EW (by have:=dH.out; omega),eu.out⟩
  ·as_aux_lemma=>
    have dH:=Lib.hid hop
    clear hop
    have hop:=dH.out
    have g1:((r':Int) == 1)=false:=by rw [hop]; rfl
    have g2:((r':Int) == 2)=false:=by rw [hop]; rfl
    have g3:((r':Int) == 3)=false:=by rw [hop]; rfl
    have g4:((r':Int) == 4)=false:=by rw [hop]; rfl
    have g5:((r':Int) == 5)=false:=by rw [hop]; rfl
    have g6:((r':Int) == 6)=false:=by rw [hop]; rfl
    have g7:((r':Int) == 7)=false:=by rw [hop]; rfl
    have g8:((r':Int) == 8)=false:=by rw [hop]; rfl
    have g9:((r':Int) == 9)=true:=by rw [hop]; rfl
    have g10:((r':Int) == 10)=false:=by rw [hop]; rfl
    have g11:((r':Int) == 11)=false:=by rw [hop]; rfl
    have g12:((r':Int) == 12)=false:=by rw [hop]; rfl
    have g13:((r':Int) == 13)=false:=by rw [hop]; rfl
    have g14:((r':Int) == 14)=false:=by rw [hop]; rfl
    have g15:((r':Int) == 15)=false:=by rw [hop]; rfl
    clear hop
    go_wp2_with fail
    refine (ku T _ _ 1 nd (eu.out.mi.below (ah _ _)) (heap_alloc_new _ _) (by decide) (by decide) Mc (Nat.ne_of_gt eu.out.mi.tape.lt) (Nat.ne_of_gt eu.out.mi.lt)).mono ?_
    rintro e wa ⟨sa,rfl,hsa,jk,jl⟩
    have fV:=Lib.hid (eu.out.go ((Mk.of_below (ah _ _)).trans jk) jl)
    have kI:=Lib.hid hsa
    clear jk jl hsa
    obtain ⟨-,-,y2,-,-,-,-,-,-,-,-⟩:=nY fV.out.box
    have f2:wa.frozen? ⟨sb,2,none⟩=false:=aK fV.out.box
    go_wp2_with fail
    go_meet
    refine ⟨rfl,_,_,?_,oq (by have:=dH.out; omega) kI.out.2,fV.out.nm sa kI.out.1⟩
    exact HRR.out
  ·as_aux_lemma=>
    have dH:=Lib.hid hop
    clear hop
    have hop:=dH.out
    have g1:((r':Int) == 1)=false:=by rw [hop]; rfl
    have g2:((r':Int) == 2)=false:=by rw [hop]; rfl
    have g3:((r':Int) == 3)=false:=by rw [hop]; rfl
    have g4:((r':Int) == 4)=false:=by rw [hop]; rfl
    have g5:((r':Int) == 5)=false:=by rw [hop]; rfl
    have g6:((r':Int) == 6)=false:=by rw [hop]; rfl
    have g7:((r':Int) == 7)=false:=by rw [hop]; rfl
    have g8:((r':Int) == 8)=false:=by rw [hop]; rfl
    have g9:((r':Int) == 9)=false:=by rw [hop]; rfl
    have g10:((r':Int) == 10)=true:=by rw [hop]; rfl
    have g11:((r':Int) == 11)=false:=by rw [hop]; rfl
    have g12:((r':Int) == 12)=false:=by rw [hop]; rfl
    have g13:((r':Int) == 13)=false:=by rw [hop]; rfl
    have g14:((r':Int) == 14)=false:=by rw [hop]; rfl
    have g15:((r':Int) == 15)=false:=by rw [hop]; rfl
    clear hop
    go_wp2_with fail
    refine (ku T _ _ 1 nd (eu.out.mi.below (ah _ _)) (heap_alloc_new _ _) (by decide) (by decide) Mc (Nat.ne_of_gt eu.out.mi.tape.lt) (Nat.ne_of_gt eu.out.mi.lt)).mono ?_
    rintro e wa ⟨sa,rfl,hsa,jk,jl⟩
    have fV:=Lib.hid (eu.out.go ((Mk.of_below (ah _ _)).trans jk) jl)
    have kI:=Lib.hid hsa
    clear jk jl hsa
    obtain ⟨-,-,y2,-,-,-,-,-,-,-,-⟩:=nY fV.out.box
    have f2:wa.frozen? ⟨sb,2,none⟩=false:=aK fV.out.box
    go_wp2_with fail
    go_meet
    refine ⟨rfl,_,_,?_,oq (by have:=dH.out; omega) kI.out.2,fV.out.nm sa kI.out.1⟩
    exact HRR.out
  ·as_aux_lemma=>
    have dH:=Lib.hid hop
    clear hop
    have hop:=dH.out
    have g1:((r':Int) == 1)=false:=by rw [hop]; rfl
    have g2:((r':Int) == 2)=false:=by rw [hop]; rfl
    have g3:((r':Int) == 3)=false:=by rw [hop]; rfl
    have g4:((r':Int) == 4)=false:=by rw [hop]; rfl
    have g5:((r':Int) == 5)=false:=by rw [hop]; rfl
    have g6:((r':Int) == 6)=false:=by rw [hop]; rfl
    have g7:((r':Int) == 7)=false:=by rw [hop]; rfl
    have g8:((r':Int) == 8)=false:=by rw [hop]; rfl
    have g9:((r':Int) == 9)=false:=by rw [hop]; rfl
    have g10:((r':Int) == 10)=false:=by rw [hop]; rfl
    have g11:((r':Int) == 11)=true:=by rw [hop]; rfl
    have g12:((r':Int) == 12)=false:=by rw [hop]; rfl
    have g13:((r':Int) == 13)=false:=by rw [hop]; rfl
    have g14:((r':Int) == 14)=false:=by rw [hop]; rfl
    have g15:((r':Int) == 15)=false:=by rw [hop]; rfl
    clear hop
    go_wp2_with fail
    refine (ku T _ _ 1 nd (eu.out.mi.below (ah _ _)) (heap_alloc_new _ _) (by decide) (by decide) Mc (Nat.ne_of_gt eu.out.mi.tape.lt) (Nat.ne_of_gt eu.out.mi.lt)).mono ?_
    rintro e wa ⟨sa,rfl,hsa,jk,jl⟩
    have fV:=Lib.hid (eu.out.go ((Mk.of_below (ah _ _)).trans jk) jl)
    have kI:=Lib.hid hsa
    clear jk jl hsa
    obtain ⟨-,-,y2,-,-,-,-,-,-,-,-⟩:=nY fV.out.box
    have f2:wa.frozen? ⟨sb,2,none⟩=false:=aK fV.out.box
    go_wp2_with fail
    go_meet
    refine ⟨rfl,_,_,?_,oq (by have:=dH.out; omega) kI.out.2,fV.out.nm sa kI.out.1⟩
    exact HRR.out
  ·as_aux_lemma=>
    have dH:=Lib.hid hop
    clear hop
    have hop:=dH.out
    have g1:((r':Int) == 1)=false:=by rw [hop]; rfl
    have g2:((r':Int) == 2)=false:=by rw [hop]; rfl
    have g3:((r':Int) == 3)=false:=by rw [hop]; rfl
    have g4:((r':Int) == 4)=false:=by rw [hop]; rfl
    have g5:((r':Int) == 5)=false:=by rw [hop]; rfl
    have g6:((r':Int) == 6)=false:=by rw [hop]; rfl
    have g7:((r':Int) == 7)=false:=by rw [hop]; rfl
    have g8:((r':Int) == 8)=false:=by rw [hop]; rfl
    have g9:((r':Int) == 9)=false:=by rw [hop]; rfl
    have g10:((r':Int) == 10)=false:=by rw [hop]; rfl
    have g11:((r':Int) == 11)=false:=by rw [hop]; rfl
    have g12:((r':Int) == 12)=true:=by rw [hop]; rfl
    have g13:((r':Int) == 13)=false:=by rw [hop]; rfl
    have g14:((r':Int) == 14)=false:=by rw [hop]; rfl
    have g15:((r':Int) == 15)=false:=by rw [hop]; rfl
    clear hop
    go_wp2_with fail
    refine (ku T _ _ 3 ne (eu.out.mi.below (ah _ _)) (heap_alloc_new _ _) (by decide) (by decide) RY (Nat.ne_of_gt eu.out.mi.tape.lt) (Nat.ne_of_gt eu.out.mi.lt)).mono ?_
    rintro e wa ⟨sa,rfl,hsa,jk,jl⟩
    have fV:=Lib.hid (eu.out.go ((Mk.of_below (ah _ _)).trans jk) jl)
    have kI:=Lib.hid hsa
    clear jk jl hsa
    obtain ⟨-,-,y2,-,-,-,-,-,-,-,-⟩:=nY fV.out.box
    have f2:wa.frozen? ⟨sb,2,none⟩=false:=aK fV.out.box
    go_wp2_with fail
    go_meet
    refine ⟨rfl,_,_,?_,oq (by have:=dH.out; omega) kI.out.2,fV.out.nm sa kI.out.1⟩
    exact HRR.out
  ·as_aux_lemma=>
    have dH:=Lib.hid hop
    clear hop
    have hop:=dH.out
    have g1:((r':Int) == 1)=false:=by rw [hop]; rfl
    have g2:((r':Int) == 2)=false:=by rw [hop]; rfl
    have g3:((r':Int) == 3)=false:=by rw [hop]; rfl
    have g4:((r':Int) == 4)=false:=by rw [hop]; rfl
    have g5:((r':Int) == 5)=false:=by rw [hop]; rfl
    have g6:((r':Int) == 6)=false:=by rw [hop]; rfl
    have g7:((r':Int) == 7)=false:=by rw [hop]; rfl
    have g8:((r':Int) == 8)=false:=by rw [hop]; rfl
    have g9:((r':Int) == 9)=false:=by rw [hop]; rfl
    have g10:((r':Int) == 10)=false:=by rw [hop]; rfl
    have g11:((r':Int) == 11)=false:=by rw [hop]; rfl
    have g12:((r':Int) == 12)=false:=by rw [hop]; rfl
    have g13:((r':Int) == 13)=true:=by rw [hop]; rfl
    have g14:((r':Int) == 14)=false:=by rw [hop]; rfl
    have g15:((r':Int) == 15)=false:=by rw [hop]; rfl
    clear hop
    go_wp2_with fail
    refine (ku T _ _ 3 ne (eu.out.mi.below (ah _ _)) (heap_alloc_new _ _) (by decide) (by decide) RY (Nat.ne_of_gt eu.out.mi.tape.lt) (Nat.ne_of_gt eu.out.mi.lt)).mono ?_
    rintro e wa ⟨sa,rfl,hsa,jk,jl⟩
    have fV:=Lib.hid (eu.out.go ((Mk.of_below (ah _ _)).trans jk) jl)
    have kI:=Lib.hid hsa
    clear jk jl hsa
    obtain ⟨-,-,y2,-,-,-,-,-,-,-,-⟩:=nY fV.out.box
    have f2:wa.frozen? ⟨sb,2,none⟩=false:=aK fV.out.box
    go_wp2_with fail
    go_meet
    refine ⟨rfl,_,_,?_,oq (by have:=dH.out; omega) kI.out.2,fV.out.nm sa kI.out.1⟩
    exact HRR.out
  ·as_aux_lemma=>
    have dH:=Lib.hid hop
    clear hop
    have hop:=dH.out
    have g1:((r':Int) == 1)=false:=by rw [hop]; rfl
    have g2:((r':Int) == 2)=false:=by rw [hop]; rfl
    have g3:((r':Int) == 3)=false:=by rw [hop]; rfl
    have g4:((r':Int) == 4)=false:=by rw [hop]; rfl
    have g5:((r':Int) == 5)=false:=by rw [hop]; rfl
    have g6:((r':Int) == 6)=false:=by rw [hop]; rfl
    have g7:((r':Int) == 7)=false:=by rw [hop]; rfl
    have g8:((r':Int) == 8)=false:=by rw [hop]; rfl
    have g9:((r':Int) == 9)=false:=by rw [hop]; rfl
    have g10:((r':Int) == 10)=false:=by rw [hop]; rfl
    have g11:((r':Int) == 11)=false:=by rw [hop]; rfl
    have g12:((r':Int) == 12)=false:=by rw [hop]; rfl
    have g13:((r':Int) == 13)=false:=by rw [hop]; rfl
    have g14:((r':Int) == 14)=true:=by rw [hop]; rfl
    have g15:((r':Int) == 15)=false:=by rw [hop]; rfl
    clear hop
    go_wp2_with fail
    refine (ku T _ _ 1 nf (eu.out.mi.below (ah _ _)) (heap_alloc_new _ _) (by decide) (by decide) RO (Nat.ne_of_gt eu.out.mi.tape.lt) (Nat.ne_of_gt eu.out.mi.lt)).mono ?_
    rintro e wa ⟨sa,rfl,hsa,jk,jl⟩
    have fV:=Lib.hid (eu.out.go ((Mk.of_below (ah _ _)).trans jk) jl)
    have kI:=Lib.hid hsa
    clear jk jl hsa
    obtain ⟨-,-,y2,-,-,-,-,-,-,-,-⟩:=nY fV.out.box
    have f2:wa.frozen? ⟨sb,2,none⟩=false:=aK fV.out.box
    go_upto_region 31 with fail
    generalize wO:World.setCell wa _ _=wb
    have mV:=Lib.hid (fV.out.nm sa kI.out.1)
    rw [wO] at mV
    clear wO y2 f2 fV
    go_wp2_with fail
    refine (E1.out _ mV.out.mi).mono ?_
    intro e wc hp
    obtain ⟨v,rfl,hex,Nv,Oa⟩:=qH hp
    have HSc:=Lib.hid (mV.out.go Nv Oa)
    obtain ⟨xo,xn,xm,xk,xa,xc,rfl,hok,hst⟩:=hex
    have gV:=Lib.hid hok
    have HST:=Lib.hid (hst.mono mV.out.sz)
    clear hp hok hst Nv Oa
    unfold exV
    obtain ⟨-,-,-,-,-,y5,y6,y7,y8,-,-⟩:=nY HSc.out.box
    have f5:wc.frozen? ⟨sb,5,none⟩=false:=aK HSc.out.box
    have f6:wc.frozen? ⟨sb,6,none⟩=false:=aK HSc.out.box
    have f7:wc.frozen? ⟨sb,7,none⟩=false:=aK HSc.out.box
    have f8:wc.frozen? ⟨sb,8,none⟩=false:=aK HSc.out.box
    go_wp2_with fail
    go_meet
    refine ⟨rfl,_,_,?_,V4 dH.out kI.out.2 gV.out.2,HSc.out.x xo xn xm xk xa xc gV.out.1 HST.out⟩
    exact HRR.out
  ·as_aux_lemma=>
    have dH:=Lib.hid hop
    clear hop
    have hop:=dH.out
    have g1:((r':Int) == 1)=false:=by rw [hop]; rfl
    have g2:((r':Int) == 2)=false:=by rw [hop]; rfl
    have g3:((r':Int) == 3)=false:=by rw [hop]; rfl
    have g4:((r':Int) == 4)=false:=by rw [hop]; rfl
    have g5:((r':Int) == 5)=false:=by rw [hop]; rfl
    have g6:((r':Int) == 6)=false:=by rw [hop]; rfl
    have g7:((r':Int) == 7)=false:=by rw [hop]; rfl
    have g8:((r':Int) == 8)=false:=by rw [hop]; rfl
    have g9:((r':Int) == 9)=false:=by rw [hop]; rfl
    have g10:((r':Int) == 10)=false:=by rw [hop]; rfl
    have g11:((r':Int) == 11)=false:=by rw [hop]; rfl
    have g12:((r':Int) == 12)=false:=by rw [hop]; rfl
    have g13:((r':Int) == 13)=false:=by rw [hop]; rfl
    have g14:((r':Int) == 14)=false:=by rw [hop]; rfl
    have g15:((r':Int) == 15)=true:=by rw [hop]; rfl
    clear hop
    go_wp2_with fail
    refine (ku T _ _ 1 ng (eu.out.mi.below (ah _ _)) (heap_alloc_new _ _) (by decide) (by decide) Zr (Nat.ne_of_gt eu.out.mi.tape.lt) (Nat.ne_of_gt eu.out.mi.lt)).mono ?_
    rintro e wa ⟨sa,rfl,hsa,jk,jl⟩
    have fV:=Lib.hid (eu.out.go ((Mk.of_below (ah _ _)).trans jk) jl)
    have kI:=Lib.hid hsa
    clear jk jl hsa
    obtain ⟨-,-,y2,-,-,-,-,-,-,-,-⟩:=nY fV.out.box
    have f2:wa.frozen? ⟨sb,2,none⟩=false:=aK fV.out.box
    go_upto_region 34 with fail
    generalize wO:World.setCell wa _ _=wb
    have mV:=Lib.hid (fV.out.nm sa kI.out.1)
    rw [wO] at mV
    clear wO y2 f2 fV
    go_wp2_with fail
    refine (ku T _ _ 1 nf (mV.out.mi.below (ah _ _)) (heap_alloc_new _ _) (by decide) (by decide) RO (Nat.ne_of_gt mV.out.mi.tape.lt) (Nat.ne_of_gt mV.out.mi.lt)).mono ?_
    rintro e wc ⟨sc,rfl,hsc,Nv,Oa⟩
    have HSc:=Lib.hid (mV.out.go ((Mk.of_below (ah _ _)).trans Nv) Oa)
    have HNc:=Lib.hid hsc
    clear Nv Oa hsc
    obtain ⟨-,-,-,y3,-,-,-,-,-,-,-⟩:=nY HSc.out.box
    have f3:wc.frozen? ⟨sb,3,none⟩=false:=aK HSc.out.box
    go_wp2_with fail
    go_meet
    refine ⟨rfl,_,_,?_,V7 dH.out kI.out.2 HNc.out.2,HSc.out.arg sc HNc.out.1⟩
    exact HRR.out
 obtain ⟨rfl,h,s,hop,Am,hS⟩:=hcut
 obtain ⟨W7,rfl⟩: ∃W:World,W=wc:=⟨_,rfl⟩
 have uX:=Lib.hid hS
 have dH:=Lib.hid hop
 have Lc:=Lib.hid Am
 clear hS hop Am eu y0
 have y0:W7.cell? ⟨sb,0,none⟩=some (.int .i64 (r':Int)):=by rw [← dH.out]; exact (bL uX.out.box (j:=0) rfl).2
 go_upto_region 35 with fail
 go_cut [133] (fun s' W'=>W7=W'∧ ∃q,s'= .bool q∧decide (2≤r'∧r'≤8)=q)
 case first=>
  go_wp2_with fail
  all_goals go_meet
  all_goals exact ⟨rfl,_,rfl,by go_light; grind⟩
 obtain ⟨rfl,q,rfl,hq⟩:=hcut
 have HQ:=Lib.hid hq
 clear hq
 go_upto_if 133 with fail
 go_cut [5] (fun s5 W'=>s5= .pointer (some ⟨sb,0,none⟩)∧ ∃b e s,Aq (GS d) h b e∧SI T w sb W' h b e s)
 case first=>
  cases q
  ·go_wp2_with fail
   go_meet
   have HF:Hid (Aq (GS d) h .nil .nil):=Lib.hid (Ep Lc.out (.inl rfl) (.inl rfl) Co Co (by have:=Om d; omega))
   exact ⟨rfl,.nil,.nil,s,HF.out,uX.out⟩
  ·have hq:2≤r'∧r'≤8:=by simpa using HQ.out
   have MK:Hid (fB h.op=true):=Lib.hid (by rw [dH.out]; unfold fB; simp; omega)
   have hdd: ∃d',d=d' + 1:=⟨d - 1,by have:=HR3.out; omega⟩
   have HGS:Hid (1000 + 2 * (3 * GS (d - 1)) + 2 * GS (d - 1)≤GS d):=Lib.hid (by
    obtain ⟨d',rfl⟩:=hdd
    exact YT d')
   have HSL:Hid (∀w (n:Int),dJ w T→aU n→n≤1000→Calls Tryz.prog 29 #[.pointer (some ⟨T.bm,0,none⟩),.int .i64 ((d:Int) - 1),.int .i64 n] w (ZV T (n.toNat * GS (d - 1)) w)):=Lib.hid (by
    obtain ⟨d',rfl⟩:=hdd
    have:=iY.out d' rfl
    unfold yg at this
    rw [Int.toNat_natCast] at this
    rw [show ((d' + 1:Nat):Int) - 1=(d':Int) by omega]; exact this)
   have HQQ:=Lib.hid hq
   have hd0:0 < d:=by obtain ⟨d',rfl⟩:=hdd; omega
   have c0:=uX.out.mi.ptr
   clear hq hdd
   go_wp2_with fail
   refine (dQ T 3 _ (by unfold aU; decide) uX.out.mi).mono ?_
   rintro e w8 ⟨k,rfl,hk0,hk1,hk2,ZM,hI8⟩
   have hk3:k < 3:=hk1 (by decide)
   have gI:=Lib.hid (uX.out.go ZM hI8)
   clear ZM hI8 hk1 hk2 c0 y0
   go_wp2_with fail
   refine (HSL.out _ _ gI.out.mi (by unfold aU; omega) (by omega)).mono ?_
   rintro e w9 ⟨lb,ao,cap,rfl,hln,hst,ZE,ZY⟩
   have vM:=Lib.hid (gI.out.go ZE ZY)
   have Il:Hid (aN.len lb≤1000∧uJ (3 * GS (d - 1)) lb):=Lib.hid ⟨hln.1,hln.2.mono (Nat.mul_le_mul_right _ (by omega))⟩
   have HST:=Lib.hid (hst.mono gI.out.sz)
   clear ZE ZY hln hst hk0 hk3
   obtain ⟨-,-,-,-,-,-,-,-,-,y9,-⟩:=nY vM.out.box
   have f9:w9.frozen? ⟨sb,9,none⟩=false:=aK vM.out.box
   go_upto_region 37 with fail
   generalize wO:World.setCell w9 _ _=wb
   have mV:=Lib.hid (vM.out.body lb ao cap (by have:=Il.out.1; unfold maxLen; omega) HST.out)
   rw [wO] at mV
   clear wO y9 f9 vM
   have y0:wb.cell? ⟨sb,0,none⟩=some (.int .i64 (r':Int)):=by rw [← dH.out]; exact (bL mV.out.box (j:=0) rfl).2
   have c0:=mV.out.mi.ptr
   go_cut [155] (fun s' W'=>(∃q,s'= .bool q∧(q=true→r'=2))∧SI T w sb W' h lb .nil {s with bG:=ao,aS:=cap})
   case first=>
    cases h2:((r':Int) == 2)
    ·go_wp2_with fail
     go_meet
     exact ⟨⟨_,rfl,fun e=>by cases e⟩,mV.out⟩
    ·have HR2:Hid (r'=2):=Lib.hid (by have:=of_decide_eq_true h2; omega)
     go_wp2_with (first | (go_at_call 26; refine (dQ T 3 _ (by unfold aU; decide) mV.out.mi).mono ?_; rintro e wn ⟨kn,rfl,hn1,hn2,Tv,Ou,hIn⟩; have VJ:=Lib.hid (mV.out.go Ou hIn); clear Ou hIn))
     all_goals go_meet
     all_goals exact ⟨⟨_,rfl,fun _=>HR2.out⟩,VJ.out⟩
   obtain ⟨⟨q,rfl,hq2⟩,FQ⟩:=hcut
   obtain ⟨wd,rfl⟩: ∃W:World,W=wc:=⟨_,rfl⟩
   have BM:=Lib.hid FQ
   have qp:=Lib.hid hq2
   clear FQ mV hq2 y0 c0
   cases q
   ·go_wp2_with fail
    go_meet
    have HF:Hid (Aq (GS d) h lb .nil):=Lib.hid (Ep Lc.out (.inr MK.out) (.inl rfl) Il.out.2 Co (by have:=HGS.out; omega))
    exact ⟨rfl,lb,.nil,_,HF.out,BM.out⟩
   ·go_wp2_with fail
    refine (HSL.out _ _ BM.out.mi (by unfold aU; decide) (by decide)).mono ?_
    rintro e wf ⟨le,dw,bR,rfl,hln,hst,Nq,MV⟩
    have Dw:=Lib.hid (BM.out.go Nq MV)
    have Kz:Hid (aN.len le≤1000∧uJ (GS (d - 1)) le):=Lib.hid ⟨hln.1,hln.2.mono (Nat.le_of_eq (Nat.one_mul _))⟩
    have aj3:=Lib.hid (hst.mono BM.out.sz)
    clear Nq MV hln hst
    obtain ⟨-,-,-,-,-,-,-,-,-,-,iN⟩:=nY Dw.out.box
    have f10:wf.frozen? ⟨sb,10,none⟩=false:=aK Dw.out.box
    go_wp2_with fail
    go_meet
    have HF:Hid (Aq (GS d) h lb le):=Lib.hid (Ep Lc.out (.inr MK.out) (.inr (by rw [dH.out,qp.out trivial]; rfl)) Il.out.2 Kz.out.2 (by have:=HGS.out; omega))
    exact ⟨rfl,lb,le,_,HF.out,Dw.out.els le dw bR (by have:=Kz.out.1; unfold maxLen; omega) aj3.out⟩
 obtain ⟨rfl,b,e,s',Am,hS⟩:=hcut
 obtain ⟨W8,rfl⟩: ∃W:World,W=wc:=⟨_,rfl⟩
 have gI:=Lib.hid hS
 have uR:=Lib.hid Am
 clear hS Am uX HQ Lc dH y0
 obtain ⟨y0,y1,y2,y3,y4,y5,y6,y7,y8,y9,iN⟩:=nY gI.out.box
 have f: ∀j,W8.frozen? ⟨w.heap.size,j,none⟩=false:=fun j=>aK gI.out.z
 have z: ∀j,j < 11→ ∃v,W8.cell? ⟨w.heap.size,j,none⟩=some v:=fun j hj=>by
  rw [cell_of_row W8 w.heap.size j _ _ (0,0) gI.out.z]
  exact ⟨_,Array.getElem?_eq_getElem (by simpa [FM] using hj)⟩
 obtain ⟨x0,z0⟩:=z 0 (by decide)
 obtain ⟨x1,z1⟩:=z 1 (by decide)
 obtain ⟨x2,z2⟩:=z 2 (by decide)
 obtain ⟨x3,z3⟩:=z 3 (by decide)
 obtain ⟨x4,z4⟩:=z 4 (by decide)
 obtain ⟨x5,z5⟩:=z 5 (by decide)
 obtain ⟨x6,z6⟩:=z 6 (by decide)
 obtain ⟨x7,z7⟩:=z 7 (by decide)
 obtain ⟨x8,z8⟩:=z 8 (by decide)
 obtain ⟨x9,z9⟩:=z 9 (by decide)
 obtain ⟨x10,qE⟩:=z 10 (by decide)
 clear z
 go_wp2_with fail
 clear f
 have HP:=Lib.hid (iJ gI.out.tb (iJ gI.out.tb (iJ gI.out.tb (iJ gI.out.tb (iJ gI.out.tb (iJ gI.out.tb (iJ gI.out.tb (iJ gI.out.tb (iJ gI.out.tb (iJ gI.out.tb (iJ gI.out.tb ⟨gI.out.km,gI.out.mi,gK.refl _ _⟩ 0 (.int .i64 h.op)) 1 (.int .i64 h.line)) 2 (.string h.nm)) 3 (.string h.arg)) 4 (.slice s'.dF h.idx.len s'.bT)) 5 (.int .i64 h.bD)) 6 (.int .i64 h.xn)) 7 (.string h.bC)) 8 (.slice s'.bS h.aL.len s'.bf)) 9 (.slice s'.bG b.len s'.aS)) 10 (.slice s'.dw e.len s'.bR))
 exact bodyPost_ret (v:=dx h b e s') (by simp [results,Tryz.results59,go_sem,dx,z0,z1,z2,z3,z4,z5,z6,z7,z8,z9,qE]) rfl ⟨h,b,e,s',rfl,uR.out,(gI.out.st.next (HP.out.2.2.mono (by have:=gI.out.lt; omega))).mono (by have:=gI.out.lt; omega),HP.out.1,HP.out.2.1⟩
end Go.Proofs.YtehnipchbmjlhaaGreatDoor
end
