/-
  Contract of the maker's lock: it returns a name.
  Contracts of the maker's stmt and stmts: they return statements that lie in new memory.
-/
import Derived.Test.YtehnipchbmjlhaaGreatDoorGMP
import Derived.Test.YtehnipchbmjlhaaGreatDoorGMK
set_option linter.unusedSimpArgs false
set_option linter.unusedVariables false
set_option maxHeartbeats 40000000
set_option maxRecDepth 1000000
section
namespace Go.Proofs.YtehnipchbmjlhaaGreatDoor
open Go.RowKit
open Md
def LkP (T:Tp) (w:World) (e:Ending) (w':World):Prop:= ∃s:ByteArray,e= .returned (.string s)∧nU s∧Mk T w w'∧dI w' T
theorem OG {T:Tp} {w w':World} {s:ByteArray} (h1:nU s) (h2:Mk T w w') (h3:dI w' T):LkP T w (.returned (.string s)) w':=⟨s,rfl,h1,h2,h3⟩
def UM:Array Value:= #[.string ⟨#[120]⟩,.string ⟨#[113]⟩,.string ⟨#[97]⟩,.string ⟨#[109]⟩,.string ⟨#[114]⟩,.string ⟨#[99]⟩,.string ⟨#[102]⟩,.string ⟨#[116]⟩,.string ⟨#[122,122]⟩]
def Aa (n:Nat) (cs:Array Value):Prop:= ∀j,j < n→ ∃s:ByteArray,cs[j]? =some (.string s)∧nU s
theorem WV:Aa 9 UM:=fun j hj=>by
 have:j=0∨j=1∨j=2∨j=3∨j=4∨j=5∨j=6∨j=7∨j=8:=by omega
 rcases this with rfl | rfl | rfl | rfl | rfl | rfl | rfl | rfl | rfl <;> exact ⟨_,rfl,by unfold maxLen; decide,by rfl⟩
theorem lq (T:Tp) (w:World) (g n:Nat) (cs:Array Value) (hI:dI w T) (hg:w.heap[g]? =some (.cells cs 9 (0,0))) (hn:0 < n) (hn2:n≤1000) (hs:Aa n cs) (hgt:g≠T.bt) (hgm:g≠T.bm):
 Calls Tryz.prog 96 #[.pointer (some ⟨T.bm,0,none⟩),.slice (some ⟨g,0,none⟩) n n] w (LkP T w):=by
 have HI:=Lib.hid hI
 have HG:=Lib.hid hg
 have HS:=Lib.hid hs
 have U6:=Lib.hid (And.intro hgt hgm)
 clear hI hg hs hgt hgm
 have c0:=HI.out.ptr
 go_enter Tryz.func96,Tryz.ntmps96
 go_wp2_with fail
 refine (dR T 8 _ (by unfold aM; decide) HI.out).mono ?_
 rintro e w2 ⟨k,rfl,hk0,hk1,hk2,hM,hI2⟩
 have HM:=Lib.hid hM
 have HI2:=Lib.hid hI2
 have HG2:Hid (w2.heap[g]? =some (.cells cs 9 (0,0))):=Lib.hid ((hM.block g (Array.getElem?_eq_some_iff.1 HG.out).1 U6.out.1 U6.out.2).trans HG.out)
 clear hM hI2 c0 hk1 hk2
 have c0:=HI2.out.ptr
 cases hk7:(k == 7)
 ·go_wp2_with fail
  refine (dR T n _ (by unfold aM; omega) HI2.out).mono ?_
  rintro e w3 ⟨r,rfl,hr0,hr1,hr2,wD,BH⟩
  obtain ⟨r',rfl⟩:=Int.eq_ofNat_of_zero_le hr0
  have hrn:r' < n:=by have:=hr1 (by omega); omega
  obtain ⟨s,hs,hsz⟩:=HS.out r' hrn
  have cz:w3.cell? ⟨g,r',none⟩=some (.string s):=(dB ((wD.block g (Array.getElem?_eq_some_iff.1 HG2.out).1 U6.out.1 U6.out.2).trans HG2.out) hs).2
  have HF:=Lib.hid (OG hsz (HM.out.trans wD) BH)
  clear wD BH hs hsz hr0 hr1 hr2 c0
  go_wp2_with fail
  go_ret
  exact HF.out
 ·have hlt:=HI2.out.lt
  go_wp2_with fail
  have HB3:Hid (Below w2.heap.size w2 (w2.alloc (.cells UM 9))):=Lib.hid (ah _ _)
  have rT:Hid ((w2.alloc (.cells UM 9)).heap[w2.heap.size]? =some (.cells UM 9 (0,0))):=Lib.hid (heap_alloc_new _ _)
  have HI3:=Lib.hid (HI2.out.below HB3.out)
  have bq:Hid (T.bt < w2.heap.size∧T.bm < w2.heap.size):=Lib.hid ⟨HI2.out.tape.lt,HI2.out.lt⟩
  refine (dR T 9 _ (by unfold aM; decide) HI3.out).mono ?_
  rintro e w3 ⟨r,rfl,hr0,hr1,hr2,wD,BH⟩
  obtain ⟨r',rfl⟩:=Int.eq_ofNat_of_zero_le hr0
  have hrn:r' < 9:=by have:=hr1 (by decide); omega
  obtain ⟨s,hs,hsz⟩:=WV r' hrn
  have cz:w3.cell? ⟨w2.heap.size,r',none⟩=some (.string s):=(dB ((wD.block _ (Array.getElem?_eq_some_iff.1 rT.out).1 (by have:=bq.out; omega) (by have:=bq.out; omega)).trans rT.out) hs).2
  have HF:=Lib.hid (OG hsz ((HM.out.trans (Mk.of_below HB3.out)).trans wD) BH)
  have hb0:(0:Int)≤(r':Int):=by omega
  have hb1:(r':Int) < 9:=by omega
  clear wD BH hs hsz hr0 hr1 hr2 c0
  go_wp2_with fail
  go_ret
  exact HF.out
end Go.Proofs.YtehnipchbmjlhaaGreatDoor
end
section
namespace Go.Proofs.YtehnipchbmjlhaaGreatDoor
open Go.RowKit
open Md
theorem zG (x:Int):aM (wrap64 x):=by unfold aM wrap64; omega
def Cw (B:Nat) (w:World) (h:bf) (b e:aS) (s:Sl):Prop:=mO h b e∧bJ B w (fun w2=>h.idx.At w2 w2.heap.size s.fH 0∧h.aO.At w2 w2.heap.size s.cB 0∧b.At w2 w2.heap.size s.bC 0∧e.At w2 w2.heap.size s.eZ 0)
theorem Cw.next {B:Nat} {w w':World} {h:bf} {b e:aS} {s:Sl} (hs:Cw B w h b e s) (ha:dO B w w'):Cw B w' h b e s:=⟨hs.1,hs.2.next ha⟩
theorem Cw.mono {B B':Nat} {w:World} {h:bf} {b e:aS} {s:Sl} (hs:Cw B' w h b e s) (hB:B≤B'):Cw B w h b e s:=⟨hs.1,hs.2.mono hB⟩
def Gy (h:bf):Prop:=kG h 0 0=true∧vJ h≤1000
def AB (q:Nat) (h:bf) (b e:aS):Prop:=uq h b e=true∧vJ h + 2 * jU b + 2 * jU e≤q
def vg (q:Nat) (l:aS):Prop:=jd l=true∧jU l≤q
theorem vg.mono {q q':Nat} {l:aS} (h:vg q l) (hq:q≤q'):vg q' l:=⟨h.1,Nat.le_trans h.2 hq⟩
theorem Dh:vg 0 .nil:=⟨rfl,Nat.le_refl _⟩
def GS (d:Nat):Nat:=2000 * 9 ^ d
theorem QV (d:Nat):2000≤GS d:=by unfold GS; have:0 < 9 ^ d:=Nat.pow_pos (by decide); omega
theorem ab8 (d:Nat):1000 + 2 * (3 * GS d) + 2 * GS d≤GS (d + 1):=by have:=QV d; unfold GS at *; rw [Nat.pow_succ]; omega
def StP (T:Tp) (q:Nat) (w:World) (e':Ending) (w':World):Prop:= ∃h b e s,e'= .returned (bP h b e s)∧AB q h b e∧Cw w.heap.size w' h b e s∧Mk T w w'∧dI w' T
def SlP (T:Tp) (q:Nat) (w:World) (e':Ending) (w':World):Prop:= ∃l ao cap,e'= .returned (.slice ao (aS.len l) cap)∧(aS.len l≤1000∧vg q l)∧bJ w.heap.size w' (fun w2=>l.At w2 w2.heap.size ao 0)∧Mk T w w'∧dI w' T
def Left (w:World) (T:Tp):Prop:= ∃line left:Int,aM line∧1≤left∧left≤100∧w.heap[T.bm]? =some (.cells #[.pointer (some ⟨T.bt,0,none⟩),.int .i64 line,.int .i64 left] 58 (0,0))
def Ee (T:Tp) (d:Int):Prop:= ∀w,dI w T→Left w T→Calls Tryz.prog 59 #[.pointer (some ⟨T.bm,0,none⟩),.int .i64 d] w (StP T (GS d.toNat) w)
def zk (T:Tp) (d:Int):Prop:= ∀w (n:Int),dI w T→aM n→n≤1000→Calls Tryz.prog 29 #[.pointer (some ⟨T.bm,0,none⟩),.int .i64 d,.int .i64 n] w (SlP T (n.toNat * GS d.toNat) w)
def Si (w:World) (sb:Nat) (h:bf) (b e:aS) (s:Sl):Prop:=w.heap[sb]? =some (.cells (LX h b e s).toArray 89 (0,0))
def pz (op line:Int):bf:=⟨op,line,⟨#[]⟩,⟨#[]⟩,.nil,0,0,⟨#[]⟩,.nil⟩
def FW:Sl:=⟨none,0,none,0,none,0,none,0⟩
theorem IW:aM 0:=by unfold aM; decide
theorem Ya (B:Nat) (w:World) {op line:Int} (h1:aM op) (h2:aM line):Cw B w (pz op line) .nil .nil FW:=
 ⟨⟨h1,h2,Nat.zero_le _,Nat.zero_le _,Nat.zero_le _,⟨IW,IW,Nat.zero_le _,Nat.zero_le _⟩,Nat.zero_le _,Nat.zero_le _⟩,fun _ _=>⟨trivial,trivial,trivial,trivial⟩⟩
theorem dI.line {w:World} {T:Tp} {l':Int} (h:dI w T) (hl:aM l'):dI (w.setCell ⟨T.bm,1,none⟩ (.int .i64 l')) T:=by
 obtain ⟨x,k1,k2⟩:=h.tape.blk
 obtain ⟨l,m,k3,k4,k5,k6⟩:=h.uX
 exact ⟨⟨⟨x,k1,(aN w _ _ rfl T.tm.symm).trans k2⟩,h.tape.GV.below (fu (cu w _ _) T.m0 h.tape.b0),h.tape.len⟩,⟨l',m,hl,k4,k5,by rw [aW k6]; rfl⟩⟩
theorem dI.left {w:World} {T:Tp} {m':Int} (h:dI w T) (h0:0≤m') (h1:m'≤100):dI (w.setCell ⟨T.bm,2,none⟩ (.int .i64 m')) T:=by
 obtain ⟨x,k1,k2⟩:=h.tape.blk
 obtain ⟨l,m,k3,k4,k5,k6⟩:=h.uX
 exact ⟨⟨⟨x,k1,(aN w _ _ rfl T.tm.symm).trans k2⟩,h.tape.GV.below (fu (cu w _ _) T.m0 h.tape.b0),h.tape.len⟩,⟨l,m',k3,h0,h1,by rw [aW k6]; rfl⟩⟩
theorem Mk.Ic {T:Tp} {w w':World} (h:Mk T w w') (j:Nat) (v:Value):Mk T w (w'.setCell ⟨T.bm,j,none⟩ v):=h.trans (Mk.aq2 (cu w' ⟨T.bm,j,none⟩ v))
theorem dI.ln {w:World} {T:Tp} (h:dI w T): ∃line:Int,w.cell? ⟨T.bm,1,none⟩=some (.int .i64 line)∧aM line:=by
 obtain ⟨l,m,k1,-,-,k⟩:=h.uX
 exact ⟨l,(dB k (j:=1) rfl).2,k1⟩
theorem Mk.sets {T:Tp} {w w':World} (h:Mk T w w') (g o:Nat) (vs:List Value) (hb:w.heap.size≤g):Mk T w (w'.setCells g o vs):=by
 have hg:=aP g vs o w'
 exact ⟨hg.os.trans h.os,hg.tape.trans h.tape,hg.output.trans h.output,Nat.le_trans h.size hg.size,fun k hk h1 h2=>(hg.block k (Nat.lt_of_lt_of_le hk h.size) (by simp; omega)).trans (h.block k hk h1 h2)⟩
theorem dI.sets {T:Tp} {w:World} (h:dI w T) (g o:Nat) (vs:List Value) (h0:T.B0≤g) (h1:g≠T.bt) (h2:g≠T.bm):dI (w.setCells g o vs) T:=by
 obtain ⟨x,k1,k2⟩:=h.tape.blk
 obtain ⟨l,m,k3,k4,k5,k6⟩:=h.uX
 have hg:=aP g vs o w
 exact ⟨⟨⟨x,k1,(hg.block _ h.tape.lt (by simp; exact fun e=>h1 e.symm)).trans k2⟩,h.tape.GV.below (fu hg h0 h.tape.b0),h.tape.len⟩,⟨l,m,k3,k4,k5,(hg.block _ h.lt (by simp; exact fun e=>h2 e.symm)).trans k6⟩⟩
def na:Array Value:= #[.string ⟨#[120]⟩,.string ⟨#[121]⟩,.string ⟨#[97]⟩,.string ⟨#[118]⟩,.string ⟨#[113]⟩]
theorem ZK:Aa 5 na:=fun j hj=>by
 have:j=0∨j=1∨j=2∨j=3∨j=4:=by omega
 rcases this with rfl | rfl | rfl | rfl | rfl <;> exact ⟨_,rfl,by unfold maxLen; decide,by rfl⟩
def nb:Array Value:= #[.string ⟨#[109]⟩,.string ⟨#[110]⟩]
theorem ZV:Aa 2 nb:=fun j hj=>by
 have:j=0∨j=1:=by omega
 rcases this with rfl | rfl <;> exact ⟨_,rfl,by unfold maxLen; decide,by rfl⟩
def nc:Array Value:= #[.string ⟨#[114]⟩]
theorem Uc:Aa 1 nc:=fun j hj=>by
 obtain rfl:j=0:=by omega
 exact ⟨_,rfl,by unfold maxLen; decide,by rfl⟩
def nd:Array Value:= #[.string ⟨#[99]⟩]
theorem MP:Aa 1 nd:=fun j hj=>by
 obtain rfl:j=0:=by omega
 exact ⟨_,rfl,by unfold maxLen; decide,by rfl⟩
def ne:Array Value:= #[.string ⟨#[116]⟩,.string ⟨#[117]⟩,.string ⟨#[119]⟩]
theorem U8:Aa 3 ne:=fun j hj=>by
 have:j=0∨j=1∨j=2:=by omega
 rcases this with rfl | rfl | rfl <;> exact ⟨_,rfl,by unfold maxLen; decide,by rfl⟩
def nf:Array Value:= #[.string ⟨#[102]⟩]
theorem UC:Aa 1 nf:=fun j hj=>by
 obtain rfl:j=0:=by omega
 exact ⟨_,rfl,by unfold maxLen; decide,by rfl⟩
def ng:Array Value:= #[.string ⟨#[97]⟩]
theorem ab5:Aa 1 ng:=fun j hj=>by
 obtain rfl:j=0:=by omega
 exact ⟨_,rfl,by unfold maxLen; decide,by rfl⟩
theorem Gq {r:Nat} {l:Int} (hr:r=7∨r=8):Gy (pz r l):=
 ⟨by rcases hr with rfl | rfl <;> simp [kG,pz,fO,fN,fA,fI,fX,fB,fE,jw,jo,aZ.len,sV],(by decide:200 + 0 + 0 + 0 + (40 + 0 + 0)≤1000)⟩
theorem JV {r:Nat} {l xo xn:Int} {xm:ByteArray} {xk:aZ} (hr:r=2∨r=3) (hx:rZ (GE 2) xo xn xm xk):Gy {pz r l with bV:=xo,xn:=xn,bU:=xm,aO:=xk} :=
 ⟨by rcases hr with rfl | rfl <;> simp [kG,pz,fO,fN,fA,fI,fX,fB,fE,jw,jo,aZ.len,hx.1],by have h:=hx.2; have e:GE 2=576:=rfl; show 200 + 0 + 0 + 0 + mF xm xk≤1000; omega⟩
theorem oK {r:Nat} {l:Int} {s:ByteArray} (hr:r=4∨r=5∨r=6∨r=9∨r=10∨r=11∨r=12∨r=13) (hs:Tk.gM s.data.toList=true):Gy {pz r l with nm:=s} :=
 ⟨by rcases hr with rfl | rfl | rfl | rfl | rfl | rfl | rfl | rfl <;> simp [kG,pz,fO,fN,fA,fI,fX,fB,fE,jw,jo,aZ.len,sV,hs],by have h:=CP hs; show 200 + s.size + 0 + 0 + (40 + 0 + 0)≤1000; omega⟩
theorem VX {r:Nat} {l xo xn:Int} {xm s:ByteArray} {xk:aZ} (hr:r=14) (hs:Tk.gM s.data.toList=true) (hx:rZ (GE 1) xo xn xm xk):Gy {pz r l with nm:=s,bV:=xo,xn:=xn,bU:=xm,aO:=xk} :=
 ⟨by subst hr; simp [kG,pz,fO,fN,fA,fI,fX,fB,fE,jw,jo,aZ.len,hs,hx.1],by have h:=hx.2; have e:GE 1=192:=rfl; have h2:=CP hs; show 200 + s.size + 0 + 0 + mF xm xk≤1000; omega⟩
theorem VT {r:Nat} {l:Int} {s s':ByteArray} (hr:r=15) (hs:Tk.gM s.data.toList=true) (hs':Tk.gM s'.data.toList=true):Gy {pz r l with nm:=s,arg:=s'} :=
 ⟨by subst hr; simp [kG,pz,fO,fN,fA,fI,fX,fB,fE,jw,jo,aZ.len,sV,hs,hs'],by have h:=CP hs; have h2:=CP hs'; show 200 + s.size + s'.size + 0 + (40 + 0 + 0)≤1000; omega⟩
theorem WC {r:Nat} {l xo xn:Int} {xm s:ByteArray} {xk ix:aZ} (hr:r=1) (hs:Tk.gM s.data.toList=true) (hi:ix.len≤1∧M5 (GE 1) ix) (hx:rZ (GE 2) xo xn xm xk):Gy {pz r l with nm:=s,idx:=ix,bV:=xo,xn:=xn,bU:=xm,aO:=xk} :=
 ⟨by subst hr; simp [kG,pz,fO,fN,fA,fI,fX,fB,fE,jw,hs,hx.1,hi.1,hi.2.1],by have h:=hx.2; have e:GE 2=576:=rfl; have e':GE 1=192:=rfl; have h2:=CP hs; have h3:=hi.2.2; show 200 + s.size + 0 + rD ix + mF xm xk≤1000; omega⟩
theorem Tg {h:bf} {bl el:Nat} (hs:kG h 0 0=true) (hb:bl=0∨fB h.op=true) (he:el=0∨h.op=2):kG h bl el=true:=by
 unfold kG at *
 have hE:h.op=2→fE h.op=true:=fun e=>by rw [e]; rfl
 rcases hb with rfl | hb <;> rcases he with rfl | he <;> simp_all
theorem Fv {q q1 q2:Nat} {h:bf} {b e:aS} (hs:Gy h) (hb:b= .nil∨fB h.op=true) (he:e= .nil∨h.op=2) (h1:vg q1 b) (h2:vg q2 e) (hq:1000 + 2 * q1 + 2 * q2≤q):AB q h b e:=by
 refine ⟨?_,by have:=hs.2; have:=h1.2; have:=h2.2; omega⟩
 unfold uq
 rw [h1.1,h2.1,Tg hs.1 (hb.imp (fun x=>by rw [x]; rfl) id) (he.imp (fun x=>by rw [x]; rfl) id)]; rfl
structure SI (T:Tp) (w:World) (sb:Nat) (W:World) (h:bf) (b e:aS) (s:Sl):Prop where
 box:Si W sb h b e s
 st:Cw (sb + 1) W h b e s
 mi:dI W T
 km:Mk T w W
 z:W.heap[w.heap.size]? =some (.cells Mg 89 (0,0))
 lt:w.heap.size < sb
 tb:T.bt < w.heap.size∧T.bm < w.heap.size∧T.B0≤w.heap.size
section
variable {T:Tp} {w W W':World} {sb:Nat} {h:bf} {b e:aS} {s:Sl}
theorem SI.sz (hS:SI T w sb W h b e s):sb + 1≤W.heap.size:=(Array.getElem?_eq_some_iff.1 hS.box).1
theorem SI.go (hS:SI T w sb W h b e s) (hM:Mk T W W') (hI:dI W' T):SI T w sb W' h b e s where
 box:=(hM.block sb hS.sz (by have:=hS.tb; have:=hS.lt; omega) (by have:=hS.tb; have:=hS.lt; omega)).trans hS.box
 st:=hS.st.next (hM.zm (by have:=hS.tb; have:=hS.lt; omega) (by have:=hS.tb; have:=hS.lt; omega))
 mi:=hI
 km:=hS.km.trans hM
 z:=(hM.block _ (Array.getElem?_eq_some_iff.1 hS.z).1 (by have:=hS.tb; omega) (by have:=hS.tb; omega)).trans hS.z
 lt:=hS.lt
 tb:=hS.tb
theorem SI.put {h':bf} {b' e':aS} {s':Sl} (hS:SI T w sb W h b e s) (j:Nat) (v:Value) (hv:(LX h b e s).toArray.setIfInBounds j v=(LX h' b' e' s').toArray) (hs:Cw (sb + 1) W h' b' e' s'):SI T w sb (W.setCell ⟨sb,j,none⟩ v) h' b' e' s' where
 box:=by unfold Si; rw [aW hS.box,hv]
 st:=hs.next (bH _ _ _ (Nat.lt_succ_self _))
 mi:=hS.mi.set _ _ (by have:=hS.tb; have:=hS.lt; show T.B0≤sb; omega) (by have:=hS.tb; have:=hS.lt; show sb≠_; omega) (by have:=hS.tb; have:=hS.lt; show sb≠_; omega)
 km:=hS.km.set _ _ (by have:=hS.lt; show _≤sb; omega)
 z:=(aN W _ _ rfl (by have:=hS.lt; show sb≠_; omega)).trans hS.z
 lt:=hS.lt
 tb:=hS.tb
theorem SI.op (hS:SI T w sb W h b e s) (k:Int) (hk:aM k):SI T w sb (W.setCell ⟨sb,0,none⟩ (.int .i64 k)) {h with op:=k} b e s:=
 hS.put 0 _ rfl ⟨⟨hk,hS.st.1.2⟩,hS.st.2⟩
theorem SI.nm (hS:SI T w sb W h b e s) (x:ByteArray) (hx:x.size≤maxLen):SI T w sb (W.setCell ⟨sb,2,none⟩ (.string x)) {h with nm:=x} b e s:=
 hS.put 2 _ rfl ⟨⟨hS.st.1.1,hS.st.1.2.1,hx,hS.st.1.2.2.2⟩,hS.st.2⟩
theorem SI.arg (hS:SI T w sb W h b e s) (x:ByteArray) (hx:x.size≤maxLen):SI T w sb (W.setCell ⟨sb,3,none⟩ (.string x)) {h with arg:=x} b e s:=
 hS.put 3 _ rfl ⟨⟨hS.st.1.1,hS.st.1.2.1,hS.st.1.2.2.1,hx,hS.st.1.2.2.2.2⟩,hS.st.2⟩
theorem SI.idx (hS:SI T w sb W h b e s) (l:aZ) (ao:Option Addr) (cap:Nat) (hl:l.len≤maxLen) (hst:bJ (sb + 1) W (fun w2=>l.At w2 w2.heap.size ao 0)):SI T w sb (W.setCell ⟨sb,4,none⟩ (.slice ao l.len cap)) {h with idx:=l} b e {s with fH:=ao,dW:=cap} :=
 hS.put 4 _ rfl ⟨⟨hS.st.1.1,hS.st.1.2.1,hS.st.1.2.2.1,hS.st.1.2.2.2.1,hl,hS.st.1.2.2.2.2.2⟩,fun w2 h2=>⟨hst w2 h2,(hS.st.2 w2 h2).2⟩⟩
theorem SI.body (hS:SI T w sb W h b e s) (l:aS) (ao:Option Addr) (cap:Nat) (hl:l.len≤maxLen) (hst:bJ (sb + 1) W (fun w2=>l.At w2 w2.heap.size ao 0)):SI T w sb (W.setCell ⟨sb,9,none⟩ (.slice ao l.len cap)) h l e {s with bC:=ao,aV:=cap} :=
 hS.put 9 _ rfl ⟨⟨hS.st.1.1,hS.st.1.2.1,hS.st.1.2.2.1,hS.st.1.2.2.2.1,hS.st.1.2.2.2.2.1,hS.st.1.2.2.2.2.2.1,hl,hS.st.1.2.2.2.2.2.2.2⟩,fun w2 h2=>⟨(hS.st.2 w2 h2).1,(hS.st.2 w2 h2).2.1,hst w2 h2,(hS.st.2 w2 h2).2.2.2⟩⟩
theorem SI.els (hS:SI T w sb W h b e s) (l:aS) (ao:Option Addr) (cap:Nat) (hl:l.len≤maxLen) (hst:bJ (sb + 1) W (fun w2=>l.At w2 w2.heap.size ao 0)):SI T w sb (W.setCell ⟨sb,10,none⟩ (.slice ao l.len cap)) h b l {s with eZ:=ao,dL:=cap} :=
 hS.put 10 _ rfl ⟨⟨hS.st.1.1,hS.st.1.2.1,hS.st.1.2.2.1,hS.st.1.2.2.2.1,hS.st.1.2.2.2.2.1,hS.st.1.2.2.2.2.2.1,hS.st.1.2.2.2.2.2.2.1,hl⟩,fun w2 h2=>⟨(hS.st.2 w2 h2).1,(hS.st.2 w2 h2).2.1,(hS.st.2 w2 h2).2.2.1,hst w2 h2⟩⟩
theorem SI.x (hS:SI T w sb W h b e s) (op n:Int) (nm:ByteArray) (kids:aZ) (ao:Option Addr) (cap:Nat) (hok:qO op n nm kids) (hst:bJ (sb + 1) W (fun w2=>kids.At w2 w2.heap.size ao 0)):SI T w sb ((((W.setCell ⟨sb,5,none⟩ (.int .i64 op)).setCell ⟨sb,6,none⟩ (.int .i64 n)).setCell ⟨sb,7,none⟩ (.string nm)).setCell ⟨sb,8,none⟩ (.slice ao kids.len cap)) {h with bV:=op,xn:=n,bU:=nm,aO:=kids} b e {s with cB:=ao,bF:=cap} :=by
 have hx:=hS.st.1.2.2.2.2.2.1
 have k:=hS.st.1
 have S1:=hS.put (h':= {h with bV:=op}) (b':=b) (e':=e) (s':=s) 5 (.int .i64 op) rfl ⟨⟨k.1,k.2.1,k.2.2.1,k.2.2.2.1,k.2.2.2.2.1,⟨hok.1,hx.2⟩,k.2.2.2.2.2.2⟩,hS.st.2⟩
 have S2:=S1.put (h':= {h with bV:=op,xn:=n}) (b':=b) (e':=e) (s':=s) 6 (.int .i64 n) rfl ⟨⟨k.1,k.2.1,k.2.2.1,k.2.2.2.1,k.2.2.2.2.1,⟨hok.1,hok.2.1,hx.2.2⟩,k.2.2.2.2.2.2⟩,S1.st.2⟩
 have S3:=S2.put (h':= {h with bV:=op,xn:=n,bU:=nm}) (b':=b) (e':=e) (s':=s) 7 (.string nm) rfl ⟨⟨k.1,k.2.1,k.2.2.1,k.2.2.2.1,k.2.2.2.2.1,⟨hok.1,hok.2.1,hok.2.2.1,hx.2.2.2⟩,k.2.2.2.2.2.2⟩,S2.st.2⟩
 refine S3.put 8 _ rfl ⟨⟨k.1,k.2.1,k.2.2.1,k.2.2.2.1,k.2.2.2.2.1,hok,k.2.2.2.2.2.2⟩,fun w2 h2=> ?_⟩
 have ha:dO (sb + 1) W w2:=(((bH W ⟨sb,5,none⟩ (.int .i64 op) (Nat.lt_succ_self _)).trans (bH _ ⟨sb,6,none⟩ (.int .i64 n) (Nat.lt_succ_self _))).trans (bH _ ⟨sb,7,none⟩ (.string nm) (Nat.lt_succ_self _))).trans h2
 exact ⟨(S3.st.2 w2 h2).1,hst w2 ha,(S3.st.2 w2 h2).2.2⟩
end
theorem iV {T:Tp} {w W8 W:World} (h0:T.bt < w.heap.size∧T.bm < w.heap.size∧T.B0≤w.heap.size) (h:Mk T w W∧dI W T∧dO (w.heap.size + 1) W8 W) (j:Nat) (v:Value):
 Mk T w (W.setCell ⟨w.heap.size,j,none⟩ v)∧dI (W.setCell ⟨w.heap.size,j,none⟩ v) T∧dO (w.heap.size + 1) W8 (W.setCell ⟨w.heap.size,j,none⟩ v):=
 ⟨h.1.set _ _ (Nat.le_refl _),h.2.1.set _ _ h0.2.2 (by show w.heap.size≠_; omega) (by show w.heap.size≠_; omega),h.2.2.trans (bH _ _ _ (Nat.lt_succ_self _))⟩
theorem GK (T:Tp) (d:Nat) (hd:d≤100) (ih: ∀d':Nat,d=d' + 1→zk T (d':Int)):Ee T (d:Int):=by
 unfold Ee
 rw [Int.toNat_natCast]
 intro w hI hL
 obtain ⟨line,left,hl1,hl2,hl3,hblk⟩:=hL
 have HI0:=Lib.hid hI
 have fD:=Lib.hid ih
 have rG:=Lib.hid hblk
 have Uy:=Lib.hid hl1
 have bq:Hid (T.bt < w.heap.size∧T.bm < w.heap.size∧T.B0≤w.heap.size):=Lib.hid ⟨HI0.out.tape.lt,HI0.out.lt,HI0.out.tape.b0⟩
 have Ez:=hI.lt
 have c1:w.cell? ⟨T.bm,1,none⟩=some (.int .i64 line):=(dB hblk (j:=1) rfl).2
 have c2:w.cell? ⟨T.bm,2,none⟩=some (.int .i64 left):=(dB hblk (j:=2) rfl).2
 have f1:w.frozen? ⟨T.bm,1,none⟩=false:=aF hblk
 have f2:w.frozen? ⟨T.bm,2,none⟩=false:=aF hblk
 clear hI ih hblk hl1
 go_enter Tryz.func59,Tryz.ntmps59
 go_upto_region 3 with fail
 generalize hW:World.alloc (World.setCell (World.setCell w _ _) _ _) _=W
 have HM:Hid (Mk T w W):=Lib.hid (by rw [← hW]; exact (((Mk.refl T w).Ic _ _).Ic _ _).trans (Mk.of_below (ah _ _)))
 have HI:Hid (dI W T):=Lib.hid (by rw [← hW]; exact ((HI0.out.line (zG _)).left (by omega) (by omega)).below (ah _ _))
 have HZ:Hid (W.heap[w.heap.size]? =some (.cells Mg 89 (0,0))):=Lib.hid (by
  rw [← hW]
  have e:(World.setCell (World.setCell w ⟨T.bm,1,none⟩ (.int .i64 (wrap64 (line + 1)))) ⟨T.bm,2,none⟩ (.int .i64 (left - 1))).heap.size=w.heap.size:=by simp [World.setCell]
  rw [← e]; exact heap_alloc_new _ _)
 clear hW c1 c2 f1 f2 Ez rG Uy hl2 hl3
 have K0: ∀w',dI w' T→w'.cell? ⟨T.bm,0,none⟩=some (.pointer (some ⟨T.bt,0,none⟩)):=fun w' h=>h.ptr
 have hd1:Mk T W (W.drewN 1):=Mk.of_below (below_drewN (Below.refl _ _) 1)
 have hd2:dI (W.drewN 1) T:=HI.out.below (below_drewN (Below.refl _ _) 1)
 have oD:Hid (w.heap.size < W.heap.size):=Lib.hid (Array.getElem?_eq_some_iff.1 HZ.out).1
 refine dY (by kernel_rfl) rfl ?_
 refine dN 0 12 [] [[],[0],[0,1],[0,1,2],[0,1,2,3],[0,1,2,3,4],[],[6],[6,7],[6,7,8],[0,1,2,3,4,5,6,7,8,9],[],[0,1,2,3,4,5,6,7,8,9,10,11]] [[],[],[],[],[],[],[],[],[],[],[],[]] (fun _ w'=>Mk T W w'∧dI w' T) (fun w w'=>Mk T w w') [20,21,22,23,24,25,26,27,28,29,30,5] rfl rfl (by rfl) (by kernel_rfl) (by kernel_rfl) (by kernel_rfl) (by kernel_rfl) (by kernel_rfl) (by rfl) (fun _=>Mk.refl _ _) (by rfl) ⟨hd1,hd2⟩ ?_
 simp only [List.take_succ_cons,List.take_zero,List.drop_zero,List.drop_succ_cons,jR,List.map_cons,List.map_nil]
 apply aI.step
 case aG=>
  intro c A w' hok hC hO hD
  have e0:=hO 0 (by rfl)
  simp [Act.eval] at e0
  simp [aC,aB,au,Act.eval,Region.binds] at hD
  simp [go_sem,gd,Oper.wp,hD,e0]
  exact aA.mk (Mk.refl _ _) hC (aB.mk _ _)
 apply aI.step
 case aG=>
  intro c A w' hok hC hO hD
  simp [aC,aB,au,Act.eval,Region.binds] at hD
  simp [go_sem,gd,Oper.wp,hD]
  exact aA.mk (Mk.refl _ _) hC (aB.mk _ _)
 apply aI.step
 case aG=>
  intro c A w' hok hC hO hD
  simp [aC,aB,au,Act.eval,Region.binds] at hD
  simp [go_sem,gd,Oper.wp,hD]
  exact aA.mk (Mk.refl _ _) hC (aB.mk _ _)
 apply aI.step
 case aG=>
  intro c A w' hok hC hO hD
  simp [aC,aB,au,Act.eval,Region.binds] at hD
  simp [go_sem,gd,Oper.wp,hD,K0,hC.2]
  exact aA.mk (Mk.refl _ _) hC (aB.mk _ _)
 simp only [List.nil_append,List.cons_append]
 refine aI.some (fun v _=> ∃r:Nat,v= .int .i64 (r:Int)∧r < 15) (fun _ _ _ _ h=>h) ?_ ?_
 ·intro c A w' hok hC hO hD
  simp [aC,aB,au,Act.eval,Region.binds] at hD
  simp [go_sem,gd,Oper.wp,hD]
  refine (dR T 15 w' (by unfold aM; decide) hC.2).mono ?_
  rintro e w2 ⟨r,rfl,h0,h1,-,hM,hI⟩
  obtain ⟨r',rfl⟩:=Int.eq_ofNat_of_zero_le h0
  exact aA.mk hM ⟨hC.1.trans hM,hI⟩ ⟨r',rfl,by have:=h1 (by decide); omega⟩
 simp only [List.nil_append,List.cons_append]
 refine aI.some (fun v w'=> ∃r:Nat,v= .int .i64 (r:Int)∧1≤r∧r≤15) (fun _ _ _ _ h=>h) ?_ ?_
 ·intro c A w' hok hC hO hD
  simp [aC,aB,au,Act.eval,Region.binds] at hD
  obtain ⟨r,hr,Ip⟩:=hD
  have hw:IntKind.i64.wrap (1 + (r:Int))=1 + r:=IntWalk.i64_in _ (by omega)
  simp [go_sem,gd,Oper.wp,hr,hw]
  exact aA.mk (Mk.refl _ _) hC (⟨1 + r,by simp,by omega,by omega⟩)
 simp only [List.nil_append,List.cons_append]
 apply aI.step
 case aG=>
  intro c A w' hok hC hO hD
  have e0:=hO 0 (by rfl)
  simp [Act.eval] at e0
  simp [aC,aB,au,Act.eval,Region.binds] at hD
  simp [go_sem,gd,Oper.wp,hD,e0]
  exact aA.mk (Mk.refl _ _) hC (aB.mk _ _)
 apply aI.step
 case aG=>
  intro c A w' hok hC hO hD
  simp [aC,aB,au,Act.eval,Region.binds] at hD
  simp [go_sem,gd,Oper.wp,hD]
  exact aA.mk (Mk.refl _ _) hC (aB.mk _ _)
 apply aI.step
 case aG=>
  intro c A w' hok hC hO hD
  simp [aC,aB,au,Act.eval,Region.binds] at hD
  simp [go_sem,gd,Oper.wp,hD]
  exact aA.mk (Mk.refl _ _) hC (aB.mk _ _)
 simp only [List.nil_append,List.cons_append]
 refine aI.some (fun v w'=> ∃l:Int,v= .int .i64 l∧aM l) (fun _ _ _ _ h=>h) ?_ ?_
 ·intro c A w' hok hC hO hD
  simp [aC,aB,au,Act.eval,Region.binds] at hD
  obtain ⟨l,hc,hl⟩:=hC.2.ln
  simp [go_sem,gd,Oper.wp,hD,hc]
  exact aA.mk (Mk.refl _ _) hC (⟨l,rfl,hl⟩)
 simp only [List.nil_append,List.cons_append]
 refine aI.some (fun v w'=> ∃(r:Nat) (l:Int),v=bP (pz r l) .nil .nil FW∧1≤r∧r≤15∧aM l) (fun _ _ _ _ h=>h) ?_ ?_
 ·intro c A w' hok hC hO hD
  simp [aC,aB,au,Act.eval,Region.binds] at hD
  obtain ⟨⟨r,hr,h1,h2⟩,l,hl,h3⟩:=hD
  simp [go_sem,gd,Oper.wp,hr,hl]
  exact aA.mk (Mk.refl _ _) hC (⟨r,l,rfl,h1,h2,h3⟩)
 simp only [List.nil_append,List.cons_append]
 refine aI.some (fun v w'=> ∃sb,v= .pointer (some ⟨sb,0,none⟩)∧W.heap.size≤sb∧w'.heap[sb]? =some (.cells Mg 89 (0,0))) ?_ ?_ ?_
 ·rintro v w1 w' hle ⟨g,h1,h2,h3⟩
  exact ⟨g,h1,h2,(hle.block g (Array.getElem?_eq_some_iff.1 h3).1 (by have:=bq.out; have:=oD.out; omega) (by have:=bq.out; have:=oD.out; omega)).trans h3⟩
 ·intro c A w' hok hC hO hD
  simp [go_sem,gd,Oper.wp]
  exact aA.mk (d:=_) (v:= .pointer (some ⟨_,0,none⟩)) (Mk.of_below (ah _ _)) ⟨hC.1.trans (Mk.of_below (ah _ _)),hC.2.below (ah _ _)⟩ ⟨_,rfl,hC.1.size,heap_alloc_new _ _⟩
 simp only [List.nil_append,List.cons_append]
 refine aI.done ?_
 intro wz eY
 simp only [List.drop_zero]
 intro v0 h0 v1 h1 v2 h2 v3 h3 v4 h4 v5 h5 v6 h6 v7 h7 v8 h8 v9 h9 v10 h10 v11 h11
 obtain ⟨r,l,rfl,hr1,hr2,zh⟩:=h10
 obtain ⟨sb,rfl,BO,vX⟩:=h11
 clear h0 h1 h2 h3 h4 h5 h6 h7 h8 h9 K0 hd1 hd2
 refine eD.nil ?_
 go_simp
 refine eu 12 [[],[0],[0,1],[0,1,2],[0,1,2,3],[0,1,2,3,4],[],[6],[6,7],[6,7,8],[0,1,2,3,4,5,6,7,8,9],[],[0,1,2,3,4,5,6,7,8,9,10,11]] rfl rfl rfl rfl rfl (by kernel_rfl) (by kernel_rfl) (by kernel_rfl) ?_
 have vV:=Lib.hid BO
 have Qs:=Lib.hid zh
 refine wp_store_mid _ _ _ (by rfl) sb 0 (LX (pz r l) .nil .nil FW).toArray (by rfl) (by rfl) (nW vX (Nat.le_refl 11)) Vz (by simp [LX,pz,FW,Value.oneCell']) ?_
 refine fM rfl ?_
 generalize qF:World.setCells wz sb 0 _=W5
 have fT:Hid (Si W5 sb (pz r l) .nil .nil FW):=Lib.hid (by rw [← qF]; exact iw vX rfl)
 have TM:Hid (dI W5 T):=Lib.hid (by rw [← qF]; exact eY.2.sets _ _ _ (by have:=bq.out; have:=oD.out; omega) (by have:=bq.out; have:=oD.out; omega) (by have:=bq.out; have:=oD.out; omega))
 have TV:Hid (Mk T w W5):=Lib.hid (by rw [← qF]; exact (HM.out.trans eY.1).sets _ _ _ (by have:=oD.out; omega))
 have iq:Hid (W5.heap[w.heap.size]? =some (.cells Mg 89 (0,0))):=Lib.hid (by
  rw [← qF,(aP sb _ _ wz).block _ (Nat.lt_of_lt_of_le oD.out eY.1.size) (by have:=oD.out; simp; omega)]
  exact (eY.1.block _ oD.out (by have:=bq.out; omega) (by have:=bq.out; omega)).trans HZ.out)
 clear qF eY vX BO zh HZ HI HM
 go_simp
 have y0:W5.cell? ⟨sb,0,none⟩=some (.int .i64 (r:Int)):=(dB fT.out (j:=0) rfl).2
 have f0:W5.frozen? ⟨sb,0,none⟩=false:=aF fT.out
 have Zp:Hid (SI T w sb W5 (pz r l) .nil .nil FW):=Lib.hid ⟨fT.out,Ya _ _ (by unfold aM; omega) Qs.out,TM.out,TV.out,iq.out,by have:=vV.out; have:=oD.out; omega,bq.out⟩
 clear fT TM TV iq
 go_upto_region 4 with fail
 go_cut [42] (fun s' W'=>W5=W'∧ ∃q,s'= .bool q∧decide (d=0∧2≤r∧r≤8)=q)
 case first=>
  cases hdz:((d:Int) == 0)
  ·have hdn:d≠0:=by simpa using hdz
   go_wp2_with fail
   go_meet
   exact ⟨rfl,_,rfl,by go_light; grind⟩
  ·have hdn:d=0:=by simpa using hdz
   have HDN:=Lib.hid hdn
   clear hdn
   go_wp2_with fail
   all_goals go_meet
   all_goals exact ⟨rfl,_,rfl,by have:=HDN.out; go_light; grind⟩
 obtain ⟨rfl,q,rfl,hq⟩:=hcut
 have HQ:=Lib.hid hq
 clear hq
 go_upto_if 42 with fail
 go_cut [5] (fun s5 W'=>s5= .pointer (some ⟨sb,0,none⟩)∧ ∃r':Nat,1≤r'∧r'≤15∧(d=0→r' < 2∨8 < r')∧SI T w sb W' (pz r' l) .nil .nil FW)
 case first=>
  cases q
  ·have hq: ¬ (d=0∧2≤r∧r≤8):=by simpa using HQ.out
   have rJ:Hid (d=0→r < 2∨8 < r):=Lib.hid (fun e=>by omega)
   clear hq
   go_wp2_with fail
   go_meet
   exact ⟨rfl,r,hr1,hr2,rJ.out,Zp.out⟩
  ·go_wp2_with fail
   go_meet
   exact ⟨rfl,1,by decide,by decide,fun _=> .inl (by decide),Zp.out.op 1 (by unfold aM; decide)⟩
 obtain ⟨rfl,r',hr1',hr2',ZE,hS⟩:=hcut
 obtain ⟨W6,rfl⟩: ∃W:World,W=wc:=⟨_,rfl⟩
 have eB:=Lib.hid hS
 have HR3:=Lib.hid ZE
 clear hS ZE Zp HQ y0 f0 hr1 hr2
 have y0:W6.cell? ⟨sb,0,none⟩=some (.int .i64 (r':Int)):=(dB eB.out.box (j:=0) rfl).2
 go_upto_block 0 with fail
 go_cut [5] (fun s5 W'=>s5= .pointer (some ⟨sb,0,none⟩)∧ ∃h s,h.op=(r':Int)∧Gy h∧SI T w sb W' h .nil .nil s)
 case first=>
  have HRR:Hid ((pz r' l).op=(r':Int)):=Lib.hid rfl
  have E1:Hid (vS T 1):=Lib.hid (Dc T 1 (by decide))
  have E2:Hid (vS T 2):=Lib.hid (Dc T 2 (by decide))
  clear y0
  have hc:r'=1∨r'=2∨r'=3∨r'=4∨r'=5∨r'=6∨r'=7∨r'=8∨r'=9∨r'=10∨r'=11∨r'=12∨r'=13∨r'=14∨r'=15:=by omega
  clear hr1' hr2'
  rcases hc with hop | hop | hop | hop | hop | hop | hop | hop | hop | hop | hop | hop | hop | hop | hop
  ·skip
   have cO:=Lib.hid hop
   clear hop
   have hop:=cO.out
   have g1:((r':Int) == 1)=true:=by rw [hop]; rfl
   have g2:((r':Int) == 2)=false:=by rw [hop]; rfl
   have g3:((r':Int) == 3)=false:=by rw [hop]; rfl
   have g4:((r':Int) == 4)=false:=by rw [hop]; rfl
   have g5:((r':Int) == 5)=false:=by rw [hop]; rfl
   have g6:((r':Int) == 6)=false:=by rw [hop]; rfl
   have g7:((r':Int) == 7)=false:=by rw [hop]; rfl
   have g8:((r':Int) == 8)=false:=by rw [hop]; rfl
   have g9:((r':Int) == 9)=false:=by rw [hop]; rfl
   have g10:((r':Int) == 10)=false:=by rw [hop]; rfl
   have g11:((r':Int) == 11)=false:=by rw [hop]; rfl
   have g12:((r':Int) == 12)=false:=by rw [hop]; rfl
   have g13:((r':Int) == 13)=false:=by rw [hop]; rfl
   have g14:((r':Int) == 14)=false:=by rw [hop]; rfl
   have g15:((r':Int) == 15)=false:=by rw [hop]; rfl
   clear hop
   go_wp2_with fail
   refine (lq T _ _ 5 na (eB.out.mi.below (ah _ _)) (heap_alloc_new _ _) (by decide) (by decide) ZK (Nat.ne_of_gt eB.out.mi.tape.lt) (Nat.ne_of_gt eB.out.mi.lt)).mono ?_
   rintro e wa ⟨sa,rfl,hsa,jM,jP⟩
   have gB:=Lib.hid (eB.out.go ((Mk.of_below (ah _ _)).trans jM) jP)
   have lI:=Lib.hid hsa
   clear jM jP hsa
   obtain ⟨-,-,y2,-,-,-,-,-,-,-,-⟩:=pX gB.out.box
   have f2:wa.frozen? ⟨sb,2,none⟩=false:=aF gB.out.box
   go_upto_region 9 with fail
   generalize wK:World.setCell wa _ _=wb
   have nk:=Lib.hid (gB.out.nm sa lI.out.1)
   rw [wK] at nk
   clear wK y2 f2 gB
   go_cut [62] (fun s' W'=>(∃q,s'= .bool q)∧SI T w sb W' {pz r' l with nm:=sa} .nil .nil FW)
   case first=>
    obtain ⟨-,-,y2,-,-,-,-,-,-,-,-⟩:=pX nk.out.box
    have c0:=nk.out.mi.ptr
    go_wp2_with (first | (go_at_call 26; refine (dR T 6 _ (by unfold aM; decide) nk.out.mi).mono ?_; rintro e wn ⟨kn,rfl,hn1,hn2,Ub,Pb,hIn⟩; have Za:=Lib.hid (nk.out.go Pb hIn); clear Pb hIn))
    all_goals go_meet
    all_goals first | exact ⟨⟨_,rfl⟩,Za.out⟩ | exact ⟨⟨_,rfl⟩,nk.out⟩
   obtain ⟨⟨q,rfl⟩,Gg⟩:=hcut
   obtain ⟨wd,rfl⟩: ∃W:World,W=wc:=⟨_,rfl⟩
   have Cz:=Lib.hid Gg
   clear Gg nk
   go_upto_if 62 with fail
   go_cut [5] (fun s5 W'=>s5= .pointer (some ⟨sb,0,none⟩)∧ ∃ix s,(ix.len≤1∧M5 (GE 1) ix)∧SI T w sb W' {pz r' l with nm:=sa,idx:=ix} .nil .nil s)
   case first=>
    cases q
    ·go_wp2_with fail
     go_meet
     exact ⟨rfl,.nil,_,⟨by decide,rfl,Nat.zero_le _⟩,Cz.out⟩
    ·go_wp2_with fail
     refine (E1.out _ Cz.out.mi).mono ?_
     intro e wf hp
     obtain ⟨v,rfl,hex,QI,Oz⟩:=rO hp
     have DK:=Lib.hid (Cz.out.go QI Oz)
     obtain ⟨xo,xn,xm,xk,xa,xc,rfl,hok,hst⟩:=hex
     have gq:=Lib.hid hok
     have HST:=Lib.hid (hst.mono Cz.out.sz)
     clear hp hok hst QI Oz
     unfold exV
     obtain ⟨-,-,-,-,y4,-,-,-,-,-,-⟩:=pX DK.out.box
     have f4:wf.frozen? ⟨sb,4,none⟩=false:=aF DK.out.box
     have hlt:sb < wf.heap.size:=DK.out.sz
     go_wp2_with fail
     go_meet
     have HR:=DK.out.go (Mk.of_below (ah _ (.cells #[.int .i64 xo,.int .i64 xn,.string xm,.slice xa xk.len xc] 45))) (DK.out.mi.below (ah _ _))
     have vP:=HR.idx (.cons xo xn xm xk .nil) (some ⟨wf.heap.size,0,none⟩) 1 (by simp [aZ.len,maxLen]) (oO (heap_alloc_new _ _) hlt gq.out.1 ((HST.out).next (aL (ah _ _))))
     rw [World.setCell_alloc_past _ _ _ _ (show (Addr.mk sb 4 none).block < _ from hlt)] at vP
     have HXL:=Lib.hid (zT gq.out.2)
     have XI:=Lib.hid vP
     clear vP HR
     refine ⟨rfl,?_⟩
     exact ⟨.cons xo xn xm xk .nil,_,⟨Nat.le_refl 1,HXL.out⟩,XI.out⟩
   obtain ⟨rfl,ix,s2,hix,Gg⟩:=hcut
   have UL:=Lib.hid hix
   clear hix
   obtain ⟨wg,rfl⟩: ∃W:World,W=wc:=⟨_,rfl⟩
   have YQ:=Lib.hid Gg
   clear Gg Cz
   go_wp2_with fail
   refine (E2.out _ YQ.out.mi).mono ?_
   intro e wi hp
   obtain ⟨v,rfl,hex,hMi,hIi⟩:=rO hp
   have LM:=Lib.hid (YQ.out.go hMi hIi)
   obtain ⟨xo,xn,xm,xk,xa,xc,rfl,hok,hst⟩:=hex
   have gq:=Lib.hid hok
   have HST:=Lib.hid (hst.mono YQ.out.sz)
   clear hp hok hst hMi hIi
   unfold exV
   obtain ⟨-,-,-,-,-,y5,y6,y7,y8,-,-⟩:=pX LM.out.box
   have f5:wi.frozen? ⟨sb,5,none⟩=false:=aF LM.out.box
   have f6:wi.frozen? ⟨sb,6,none⟩=false:=aF LM.out.box
   have f7:wi.frozen? ⟨sb,7,none⟩=false:=aF LM.out.box
   have f8:wi.frozen? ⟨sb,8,none⟩=false:=aF LM.out.box
   go_wp2_with fail
   go_meet
   refine ⟨rfl,_,_,?_,WC cO.out lI.out.2 UL.out gq.out.2,LM.out.x xo xn xm xk xa xc gq.out.1 HST.out⟩
   exact HRR.out
  ·as_aux_lemma=>
    have cO:=Lib.hid hop
    clear hop
    have hop:=cO.out
    have g1:((r':Int) == 1)=false:=by rw [hop]; rfl
    have g2:((r':Int) == 2)=true:=by rw [hop]; rfl
    have g3:((r':Int) == 3)=false:=by rw [hop]; rfl
    have g4:((r':Int) == 4)=false:=by rw [hop]; rfl
    have g5:((r':Int) == 5)=false:=by rw [hop]; rfl
    have g6:((r':Int) == 6)=false:=by rw [hop]; rfl
    have g7:((r':Int) == 7)=false:=by rw [hop]; rfl
    have g8:((r':Int) == 8)=false:=by rw [hop]; rfl
    have g9:((r':Int) == 9)=false:=by rw [hop]; rfl
    have g10:((r':Int) == 10)=false:=by rw [hop]; rfl
    have g11:((r':Int) == 11)=false:=by rw [hop]; rfl
    have g12:((r':Int) == 12)=false:=by rw [hop]; rfl
    have g13:((r':Int) == 13)=false:=by rw [hop]; rfl
    have g14:((r':Int) == 14)=false:=by rw [hop]; rfl
    have g15:((r':Int) == 15)=false:=by rw [hop]; rfl
    clear hop
    go_wp2_with fail
    refine (E2.out _ eB.out.mi).mono ?_
    intro e wa hp
    obtain ⟨v,rfl,hex,jM,jP⟩:=rO hp
    have gB:=Lib.hid (eB.out.go jM jP)
    obtain ⟨xo,xn,xm,xk,xa,xc,rfl,hok,hst⟩:=hex
    have gq:=Lib.hid hok
    have HST:=Lib.hid (hst.mono eB.out.sz)
    clear hp hok hst jM jP
    unfold exV
    obtain ⟨-,-,-,-,-,y5,y6,y7,y8,-,-⟩:=pX gB.out.box
    have f5:wa.frozen? ⟨sb,5,none⟩=false:=aF gB.out.box
    have f6:wa.frozen? ⟨sb,6,none⟩=false:=aF gB.out.box
    have f7:wa.frozen? ⟨sb,7,none⟩=false:=aF gB.out.box
    have f8:wa.frozen? ⟨sb,8,none⟩=false:=aF gB.out.box
    go_wp2_with fail
    go_meet
    refine ⟨rfl,_,_,?_,JV (by have:=cO.out; omega) gq.out.2,gB.out.x xo xn xm xk xa xc gq.out.1 HST.out⟩
    exact HRR.out
  ·as_aux_lemma=>
    have cO:=Lib.hid hop
    clear hop
    have hop:=cO.out
    have g1:((r':Int) == 1)=false:=by rw [hop]; rfl
    have g2:((r':Int) == 2)=false:=by rw [hop]; rfl
    have g3:((r':Int) == 3)=true:=by rw [hop]; rfl
    have g4:((r':Int) == 4)=false:=by rw [hop]; rfl
    have g5:((r':Int) == 5)=false:=by rw [hop]; rfl
    have g6:((r':Int) == 6)=false:=by rw [hop]; rfl
    have g7:((r':Int) == 7)=false:=by rw [hop]; rfl
    have g8:((r':Int) == 8)=false:=by rw [hop]; rfl
    have g9:((r':Int) == 9)=false:=by rw [hop]; rfl
    have g10:((r':Int) == 10)=false:=by rw [hop]; rfl
    have g11:((r':Int) == 11)=false:=by rw [hop]; rfl
    have g12:((r':Int) == 12)=false:=by rw [hop]; rfl
    have g13:((r':Int) == 13)=false:=by rw [hop]; rfl
    have g14:((r':Int) == 14)=false:=by rw [hop]; rfl
    have g15:((r':Int) == 15)=false:=by rw [hop]; rfl
    clear hop
    go_wp2_with fail
    refine (E2.out _ eB.out.mi).mono ?_
    intro e wa hp
    obtain ⟨v,rfl,hex,jM,jP⟩:=rO hp
    have gB:=Lib.hid (eB.out.go jM jP)
    obtain ⟨xo,xn,xm,xk,xa,xc,rfl,hok,hst⟩:=hex
    have gq:=Lib.hid hok
    have HST:=Lib.hid (hst.mono eB.out.sz)
    clear hp hok hst jM jP
    unfold exV
    obtain ⟨-,-,-,-,-,y5,y6,y7,y8,-,-⟩:=pX gB.out.box
    have f5:wa.frozen? ⟨sb,5,none⟩=false:=aF gB.out.box
    have f6:wa.frozen? ⟨sb,6,none⟩=false:=aF gB.out.box
    have f7:wa.frozen? ⟨sb,7,none⟩=false:=aF gB.out.box
    have f8:wa.frozen? ⟨sb,8,none⟩=false:=aF gB.out.box
    go_wp2_with fail
    go_meet
    refine ⟨rfl,_,_,?_,JV (by have:=cO.out; omega) gq.out.2,gB.out.x xo xn xm xk xa xc gq.out.1 HST.out⟩
    exact HRR.out
  ·as_aux_lemma=>
    have cO:=Lib.hid hop
    clear hop
    have hop:=cO.out
    have g1:((r':Int) == 1)=false:=by rw [hop]; rfl
    have g2:((r':Int) == 2)=false:=by rw [hop]; rfl
    have g3:((r':Int) == 3)=false:=by rw [hop]; rfl
    have g4:((r':Int) == 4)=true:=by rw [hop]; rfl
    have g5:((r':Int) == 5)=false:=by rw [hop]; rfl
    have g6:((r':Int) == 6)=false:=by rw [hop]; rfl
    have g7:((r':Int) == 7)=false:=by rw [hop]; rfl
    have g8:((r':Int) == 8)=false:=by rw [hop]; rfl
    have g9:((r':Int) == 9)=false:=by rw [hop]; rfl
    have g10:((r':Int) == 10)=false:=by rw [hop]; rfl
    have g11:((r':Int) == 11)=false:=by rw [hop]; rfl
    have g12:((r':Int) == 12)=false:=by rw [hop]; rfl
    have g13:((r':Int) == 13)=false:=by rw [hop]; rfl
    have g14:((r':Int) == 14)=false:=by rw [hop]; rfl
    have g15:((r':Int) == 15)=false:=by rw [hop]; rfl
    clear hop
    go_wp2_with fail
    refine (lq T _ _ 2 nb (eB.out.mi.below (ah _ _)) (heap_alloc_new _ _) (by decide) (by decide) ZV (Nat.ne_of_gt eB.out.mi.tape.lt) (Nat.ne_of_gt eB.out.mi.lt)).mono ?_
    rintro e wa ⟨sa,rfl,hsa,jM,jP⟩
    have gB:=Lib.hid (eB.out.go ((Mk.of_below (ah _ _)).trans jM) jP)
    have lI:=Lib.hid hsa
    clear jM jP hsa
    obtain ⟨-,-,y2,-,-,-,-,-,-,-,-⟩:=pX gB.out.box
    have f2:wa.frozen? ⟨sb,2,none⟩=false:=aF gB.out.box
    go_wp2_with fail
    go_meet
    refine ⟨rfl,_,_,?_,oK (by have:=cO.out; omega) lI.out.2,gB.out.nm sa lI.out.1⟩
    exact HRR.out
  ·as_aux_lemma=>
    have cO:=Lib.hid hop
    clear hop
    have hop:=cO.out
    have g1:((r':Int) == 1)=false:=by rw [hop]; rfl
    have g2:((r':Int) == 2)=false:=by rw [hop]; rfl
    have g3:((r':Int) == 3)=false:=by rw [hop]; rfl
    have g4:((r':Int) == 4)=false:=by rw [hop]; rfl
    have g5:((r':Int) == 5)=true:=by rw [hop]; rfl
    have g6:((r':Int) == 6)=false:=by rw [hop]; rfl
    have g7:((r':Int) == 7)=false:=by rw [hop]; rfl
    have g8:((r':Int) == 8)=false:=by rw [hop]; rfl
    have g9:((r':Int) == 9)=false:=by rw [hop]; rfl
    have g10:((r':Int) == 10)=false:=by rw [hop]; rfl
    have g11:((r':Int) == 11)=false:=by rw [hop]; rfl
    have g12:((r':Int) == 12)=false:=by rw [hop]; rfl
    have g13:((r':Int) == 13)=false:=by rw [hop]; rfl
    have g14:((r':Int) == 14)=false:=by rw [hop]; rfl
    have g15:((r':Int) == 15)=false:=by rw [hop]; rfl
    clear hop
    go_wp2_with fail
    refine (lq T _ _ 1 nc (eB.out.mi.below (ah _ _)) (heap_alloc_new _ _) (by decide) (by decide) Uc (Nat.ne_of_gt eB.out.mi.tape.lt) (Nat.ne_of_gt eB.out.mi.lt)).mono ?_
    rintro e wa ⟨sa,rfl,hsa,jM,jP⟩
    have gB:=Lib.hid (eB.out.go ((Mk.of_below (ah _ _)).trans jM) jP)
    have lI:=Lib.hid hsa
    clear jM jP hsa
    obtain ⟨-,-,y2,-,-,-,-,-,-,-,-⟩:=pX gB.out.box
    have f2:wa.frozen? ⟨sb,2,none⟩=false:=aF gB.out.box
    go_wp2_with fail
    go_meet
    refine ⟨rfl,_,_,?_,oK (by have:=cO.out; omega) lI.out.2,gB.out.nm sa lI.out.1⟩
    exact HRR.out
  ·as_aux_lemma=>
    have cO:=Lib.hid hop
    clear hop
    have hop:=cO.out
    have g1:((r':Int) == 1)=false:=by rw [hop]; rfl
    have g2:((r':Int) == 2)=false:=by rw [hop]; rfl
    have g3:((r':Int) == 3)=false:=by rw [hop]; rfl
    have g4:((r':Int) == 4)=false:=by rw [hop]; rfl
    have g5:((r':Int) == 5)=false:=by rw [hop]; rfl
    have g6:((r':Int) == 6)=true:=by rw [hop]; rfl
    have g7:((r':Int) == 7)=false:=by rw [hop]; rfl
    have g8:((r':Int) == 8)=false:=by rw [hop]; rfl
    have g9:((r':Int) == 9)=false:=by rw [hop]; rfl
    have g10:((r':Int) == 10)=false:=by rw [hop]; rfl
    have g11:((r':Int) == 11)=false:=by rw [hop]; rfl
    have g12:((r':Int) == 12)=false:=by rw [hop]; rfl
    have g13:((r':Int) == 13)=false:=by rw [hop]; rfl
    have g14:((r':Int) == 14)=false:=by rw [hop]; rfl
    have g15:((r':Int) == 15)=false:=by rw [hop]; rfl
    clear hop
    go_wp2_with fail
    refine (lq T _ _ 1 nc (eB.out.mi.below (ah _ _)) (heap_alloc_new _ _) (by decide) (by decide) Uc (Nat.ne_of_gt eB.out.mi.tape.lt) (Nat.ne_of_gt eB.out.mi.lt)).mono ?_
    rintro e wa ⟨sa,rfl,hsa,jM,jP⟩
    have gB:=Lib.hid (eB.out.go ((Mk.of_below (ah _ _)).trans jM) jP)
    have lI:=Lib.hid hsa
    clear jM jP hsa
    obtain ⟨-,-,y2,-,-,-,-,-,-,-,-⟩:=pX gB.out.box
    have f2:wa.frozen? ⟨sb,2,none⟩=false:=aF gB.out.box
    go_wp2_with fail
    go_meet
    refine ⟨rfl,_,_,?_,oK (by have:=cO.out; omega) lI.out.2,gB.out.nm sa lI.out.1⟩
    exact HRR.out
  ·as_aux_lemma=>
    have cO:=Lib.hid hop
    clear hop
    have hop:=cO.out
    have g1:((r':Int) == 1)=false:=by rw [hop]; rfl
    have g2:((r':Int) == 2)=false:=by rw [hop]; rfl
    have g3:((r':Int) == 3)=false:=by rw [hop]; rfl
    have g4:((r':Int) == 4)=false:=by rw [hop]; rfl
    have g5:((r':Int) == 5)=false:=by rw [hop]; rfl
    have g6:((r':Int) == 6)=false:=by rw [hop]; rfl
    have g7:((r':Int) == 7)=true:=by rw [hop]; rfl
    have g8:((r':Int) == 8)=false:=by rw [hop]; rfl
    have g9:((r':Int) == 9)=false:=by rw [hop]; rfl
    have g10:((r':Int) == 10)=false:=by rw [hop]; rfl
    have g11:((r':Int) == 11)=false:=by rw [hop]; rfl
    have g12:((r':Int) == 12)=false:=by rw [hop]; rfl
    have g13:((r':Int) == 13)=false:=by rw [hop]; rfl
    have g14:((r':Int) == 14)=false:=by rw [hop]; rfl
    have g15:((r':Int) == 15)=false:=by rw [hop]; rfl
    clear hop
    go_wp2_with fail
    go_meet
    exact ⟨rfl,_,_,HRR.out,Gq (by have:=cO.out; omega),eB.out⟩
  ·as_aux_lemma=>
    have cO:=Lib.hid hop
    clear hop
    have hop:=cO.out
    have g1:((r':Int) == 1)=false:=by rw [hop]; rfl
    have g2:((r':Int) == 2)=false:=by rw [hop]; rfl
    have g3:((r':Int) == 3)=false:=by rw [hop]; rfl
    have g4:((r':Int) == 4)=false:=by rw [hop]; rfl
    have g5:((r':Int) == 5)=false:=by rw [hop]; rfl
    have g6:((r':Int) == 6)=false:=by rw [hop]; rfl
    have g7:((r':Int) == 7)=false:=by rw [hop]; rfl
    have g8:((r':Int) == 8)=true:=by rw [hop]; rfl
    have g9:((r':Int) == 9)=false:=by rw [hop]; rfl
    have g10:((r':Int) == 10)=false:=by rw [hop]; rfl
    have g11:((r':Int) == 11)=false:=by rw [hop]; rfl
    have g12:((r':Int) == 12)=false:=by rw [hop]; rfl
    have g13:((r':Int) == 13)=false:=by rw [hop]; rfl
    have g14:((r':Int) == 14)=false:=by rw [hop]; rfl
    have g15:((r':Int) == 15)=false:=by rw [hop]; rfl
    clear hop
    go_wp2_with fail
    go_meet
    exact ⟨rfl,_,_,HRR.out,Gq (by have:=cO.out; omega),eB.out⟩
  ·as_aux_lemma=>
    have cO:=Lib.hid hop
    clear hop
    have hop:=cO.out
    have g1:((r':Int) == 1)=false:=by rw [hop]; rfl
    have g2:((r':Int) == 2)=false:=by rw [hop]; rfl
    have g3:((r':Int) == 3)=false:=by rw [hop]; rfl
    have g4:((r':Int) == 4)=false:=by rw [hop]; rfl
    have g5:((r':Int) == 5)=false:=by rw [hop]; rfl
    have g6:((r':Int) == 6)=false:=by rw [hop]; rfl
    have g7:((r':Int) == 7)=false:=by rw [hop]; rfl
    have g8:((r':Int) == 8)=false:=by rw [hop]; rfl
    have g9:((r':Int) == 9)=true:=by rw [hop]; rfl
    have g10:((r':Int) == 10)=false:=by rw [hop]; rfl
    have g11:((r':Int) == 11)=false:=by rw [hop]; rfl
    have g12:((r':Int) == 12)=false:=by rw [hop]; rfl
    have g13:((r':Int) == 13)=false:=by rw [hop]; rfl
    have g14:((r':Int) == 14)=false:=by rw [hop]; rfl
    have g15:((r':Int) == 15)=false:=by rw [hop]; rfl
    clear hop
    go_wp2_with fail
    refine (lq T _ _ 1 nd (eB.out.mi.below (ah _ _)) (heap_alloc_new _ _) (by decide) (by decide) MP (Nat.ne_of_gt eB.out.mi.tape.lt) (Nat.ne_of_gt eB.out.mi.lt)).mono ?_
    rintro e wa ⟨sa,rfl,hsa,jM,jP⟩
    have gB:=Lib.hid (eB.out.go ((Mk.of_below (ah _ _)).trans jM) jP)
    have lI:=Lib.hid hsa
    clear jM jP hsa
    obtain ⟨-,-,y2,-,-,-,-,-,-,-,-⟩:=pX gB.out.box
    have f2:wa.frozen? ⟨sb,2,none⟩=false:=aF gB.out.box
    go_wp2_with fail
    go_meet
    refine ⟨rfl,_,_,?_,oK (by have:=cO.out; omega) lI.out.2,gB.out.nm sa lI.out.1⟩
    exact HRR.out
  ·as_aux_lemma=>
    have cO:=Lib.hid hop
    clear hop
    have hop:=cO.out
    have g1:((r':Int) == 1)=false:=by rw [hop]; rfl
    have g2:((r':Int) == 2)=false:=by rw [hop]; rfl
    have g3:((r':Int) == 3)=false:=by rw [hop]; rfl
    have g4:((r':Int) == 4)=false:=by rw [hop]; rfl
    have g5:((r':Int) == 5)=false:=by rw [hop]; rfl
    have g6:((r':Int) == 6)=false:=by rw [hop]; rfl
    have g7:((r':Int) == 7)=false:=by rw [hop]; rfl
    have g8:((r':Int) == 8)=false:=by rw [hop]; rfl
    have g9:((r':Int) == 9)=false:=by rw [hop]; rfl
    have g10:((r':Int) == 10)=true:=by rw [hop]; rfl
    have g11:((r':Int) == 11)=false:=by rw [hop]; rfl
    have g12:((r':Int) == 12)=false:=by rw [hop]; rfl
    have g13:((r':Int) == 13)=false:=by rw [hop]; rfl
    have g14:((r':Int) == 14)=false:=by rw [hop]; rfl
    have g15:((r':Int) == 15)=false:=by rw [hop]; rfl
    clear hop
    go_wp2_with fail
    refine (lq T _ _ 1 nd (eB.out.mi.below (ah _ _)) (heap_alloc_new _ _) (by decide) (by decide) MP (Nat.ne_of_gt eB.out.mi.tape.lt) (Nat.ne_of_gt eB.out.mi.lt)).mono ?_
    rintro e wa ⟨sa,rfl,hsa,jM,jP⟩
    have gB:=Lib.hid (eB.out.go ((Mk.of_below (ah _ _)).trans jM) jP)
    have lI:=Lib.hid hsa
    clear jM jP hsa
    obtain ⟨-,-,y2,-,-,-,-,-,-,-,-⟩:=pX gB.out.box
    have f2:wa.frozen? ⟨sb,2,none⟩=false:=aF gB.out.box
    go_wp2_with fail
    go_meet
    refine ⟨rfl,_,_,?_,oK (by have:=cO.out; omega) lI.out.2,gB.out.nm sa lI.out.1⟩
    exact HRR.out
  ·as_aux_lemma=>
    have cO:=Lib.hid hop
    clear hop
    have hop:=cO.out
    have g1:((r':Int) == 1)=false:=by rw [hop]; rfl
    have g2:((r':Int) == 2)=false:=by rw [hop]; rfl
    have g3:((r':Int) == 3)=false:=by rw [hop]; rfl
    have g4:((r':Int) == 4)=false:=by rw [hop]; rfl
    have g5:((r':Int) == 5)=false:=by rw [hop]; rfl
    have g6:((r':Int) == 6)=false:=by rw [hop]; rfl
    have g7:((r':Int) == 7)=false:=by rw [hop]; rfl
    have g8:((r':Int) == 8)=false:=by rw [hop]; rfl
    have g9:((r':Int) == 9)=false:=by rw [hop]; rfl
    have g10:((r':Int) == 10)=false:=by rw [hop]; rfl
    have g11:((r':Int) == 11)=true:=by rw [hop]; rfl
    have g12:((r':Int) == 12)=false:=by rw [hop]; rfl
    have g13:((r':Int) == 13)=false:=by rw [hop]; rfl
    have g14:((r':Int) == 14)=false:=by rw [hop]; rfl
    have g15:((r':Int) == 15)=false:=by rw [hop]; rfl
    clear hop
    go_wp2_with fail
    refine (lq T _ _ 1 nd (eB.out.mi.below (ah _ _)) (heap_alloc_new _ _) (by decide) (by decide) MP (Nat.ne_of_gt eB.out.mi.tape.lt) (Nat.ne_of_gt eB.out.mi.lt)).mono ?_
    rintro e wa ⟨sa,rfl,hsa,jM,jP⟩
    have gB:=Lib.hid (eB.out.go ((Mk.of_below (ah _ _)).trans jM) jP)
    have lI:=Lib.hid hsa
    clear jM jP hsa
    obtain ⟨-,-,y2,-,-,-,-,-,-,-,-⟩:=pX gB.out.box
    have f2:wa.frozen? ⟨sb,2,none⟩=false:=aF gB.out.box
    go_wp2_with fail
    go_meet
    refine ⟨rfl,_,_,?_,oK (by have:=cO.out; omega) lI.out.2,gB.out.nm sa lI.out.1⟩
    exact HRR.out
  ·as_aux_lemma=>
    have cO:=Lib.hid hop
    clear hop
    have hop:=cO.out
    have g1:((r':Int) == 1)=false:=by rw [hop]; rfl
    have g2:((r':Int) == 2)=false:=by rw [hop]; rfl
    have g3:((r':Int) == 3)=false:=by rw [hop]; rfl
    have g4:((r':Int) == 4)=false:=by rw [hop]; rfl
    have g5:((r':Int) == 5)=false:=by rw [hop]; rfl
    have g6:((r':Int) == 6)=false:=by rw [hop]; rfl
    have g7:((r':Int) == 7)=false:=by rw [hop]; rfl
    have g8:((r':Int) == 8)=false:=by rw [hop]; rfl
    have g9:((r':Int) == 9)=false:=by rw [hop]; rfl
    have g10:((r':Int) == 10)=false:=by rw [hop]; rfl
    have g11:((r':Int) == 11)=false:=by rw [hop]; rfl
    have g12:((r':Int) == 12)=true:=by rw [hop]; rfl
    have g13:((r':Int) == 13)=false:=by rw [hop]; rfl
    have g14:((r':Int) == 14)=false:=by rw [hop]; rfl
    have g15:((r':Int) == 15)=false:=by rw [hop]; rfl
    clear hop
    go_wp2_with fail
    refine (lq T _ _ 3 ne (eB.out.mi.below (ah _ _)) (heap_alloc_new _ _) (by decide) (by decide) U8 (Nat.ne_of_gt eB.out.mi.tape.lt) (Nat.ne_of_gt eB.out.mi.lt)).mono ?_
    rintro e wa ⟨sa,rfl,hsa,jM,jP⟩
    have gB:=Lib.hid (eB.out.go ((Mk.of_below (ah _ _)).trans jM) jP)
    have lI:=Lib.hid hsa
    clear jM jP hsa
    obtain ⟨-,-,y2,-,-,-,-,-,-,-,-⟩:=pX gB.out.box
    have f2:wa.frozen? ⟨sb,2,none⟩=false:=aF gB.out.box
    go_wp2_with fail
    go_meet
    refine ⟨rfl,_,_,?_,oK (by have:=cO.out; omega) lI.out.2,gB.out.nm sa lI.out.1⟩
    exact HRR.out
  ·as_aux_lemma=>
    have cO:=Lib.hid hop
    clear hop
    have hop:=cO.out
    have g1:((r':Int) == 1)=false:=by rw [hop]; rfl
    have g2:((r':Int) == 2)=false:=by rw [hop]; rfl
    have g3:((r':Int) == 3)=false:=by rw [hop]; rfl
    have g4:((r':Int) == 4)=false:=by rw [hop]; rfl
    have g5:((r':Int) == 5)=false:=by rw [hop]; rfl
    have g6:((r':Int) == 6)=false:=by rw [hop]; rfl
    have g7:((r':Int) == 7)=false:=by rw [hop]; rfl
    have g8:((r':Int) == 8)=false:=by rw [hop]; rfl
    have g9:((r':Int) == 9)=false:=by rw [hop]; rfl
    have g10:((r':Int) == 10)=false:=by rw [hop]; rfl
    have g11:((r':Int) == 11)=false:=by rw [hop]; rfl
    have g12:((r':Int) == 12)=false:=by rw [hop]; rfl
    have g13:((r':Int) == 13)=true:=by rw [hop]; rfl
    have g14:((r':Int) == 14)=false:=by rw [hop]; rfl
    have g15:((r':Int) == 15)=false:=by rw [hop]; rfl
    clear hop
    go_wp2_with fail
    refine (lq T _ _ 3 ne (eB.out.mi.below (ah _ _)) (heap_alloc_new _ _) (by decide) (by decide) U8 (Nat.ne_of_gt eB.out.mi.tape.lt) (Nat.ne_of_gt eB.out.mi.lt)).mono ?_
    rintro e wa ⟨sa,rfl,hsa,jM,jP⟩
    have gB:=Lib.hid (eB.out.go ((Mk.of_below (ah _ _)).trans jM) jP)
    have lI:=Lib.hid hsa
    clear jM jP hsa
    obtain ⟨-,-,y2,-,-,-,-,-,-,-,-⟩:=pX gB.out.box
    have f2:wa.frozen? ⟨sb,2,none⟩=false:=aF gB.out.box
    go_wp2_with fail
    go_meet
    refine ⟨rfl,_,_,?_,oK (by have:=cO.out; omega) lI.out.2,gB.out.nm sa lI.out.1⟩
    exact HRR.out
  ·as_aux_lemma=>
    have cO:=Lib.hid hop
    clear hop
    have hop:=cO.out
    have g1:((r':Int) == 1)=false:=by rw [hop]; rfl
    have g2:((r':Int) == 2)=false:=by rw [hop]; rfl
    have g3:((r':Int) == 3)=false:=by rw [hop]; rfl
    have g4:((r':Int) == 4)=false:=by rw [hop]; rfl
    have g5:((r':Int) == 5)=false:=by rw [hop]; rfl
    have g6:((r':Int) == 6)=false:=by rw [hop]; rfl
    have g7:((r':Int) == 7)=false:=by rw [hop]; rfl
    have g8:((r':Int) == 8)=false:=by rw [hop]; rfl
    have g9:((r':Int) == 9)=false:=by rw [hop]; rfl
    have g10:((r':Int) == 10)=false:=by rw [hop]; rfl
    have g11:((r':Int) == 11)=false:=by rw [hop]; rfl
    have g12:((r':Int) == 12)=false:=by rw [hop]; rfl
    have g13:((r':Int) == 13)=false:=by rw [hop]; rfl
    have g14:((r':Int) == 14)=true:=by rw [hop]; rfl
    have g15:((r':Int) == 15)=false:=by rw [hop]; rfl
    clear hop
    go_wp2_with fail
    refine (lq T _ _ 1 nf (eB.out.mi.below (ah _ _)) (heap_alloc_new _ _) (by decide) (by decide) UC (Nat.ne_of_gt eB.out.mi.tape.lt) (Nat.ne_of_gt eB.out.mi.lt)).mono ?_
    rintro e wa ⟨sa,rfl,hsa,jM,jP⟩
    have gB:=Lib.hid (eB.out.go ((Mk.of_below (ah _ _)).trans jM) jP)
    have lI:=Lib.hid hsa
    clear jM jP hsa
    obtain ⟨-,-,y2,-,-,-,-,-,-,-,-⟩:=pX gB.out.box
    have f2:wa.frozen? ⟨sb,2,none⟩=false:=aF gB.out.box
    go_upto_region 31 with fail
    generalize wK:World.setCell wa _ _=wb
    have nk:=Lib.hid (gB.out.nm sa lI.out.1)
    rw [wK] at nk
    clear wK y2 f2 gB
    go_wp2_with fail
    refine (E1.out _ nk.out.mi).mono ?_
    intro e wc hp
    obtain ⟨v,rfl,hex,Qq,Qw⟩:=rO hp
    have HSc:=Lib.hid (nk.out.go Qq Qw)
    obtain ⟨xo,xn,xm,xk,xa,xc,rfl,hok,hst⟩:=hex
    have gq:=Lib.hid hok
    have HST:=Lib.hid (hst.mono nk.out.sz)
    clear hp hok hst Qq Qw
    unfold exV
    obtain ⟨-,-,-,-,-,y5,y6,y7,y8,-,-⟩:=pX HSc.out.box
    have f5:wc.frozen? ⟨sb,5,none⟩=false:=aF HSc.out.box
    have f6:wc.frozen? ⟨sb,6,none⟩=false:=aF HSc.out.box
    have f7:wc.frozen? ⟨sb,7,none⟩=false:=aF HSc.out.box
    have f8:wc.frozen? ⟨sb,8,none⟩=false:=aF HSc.out.box
    go_wp2_with fail
    go_meet
    refine ⟨rfl,_,_,?_,VX cO.out lI.out.2 gq.out.2,HSc.out.x xo xn xm xk xa xc gq.out.1 HST.out⟩
    exact HRR.out
  ·as_aux_lemma=>
    have cO:=Lib.hid hop
    clear hop
    have hop:=cO.out
    have g1:((r':Int) == 1)=false:=by rw [hop]; rfl
    have g2:((r':Int) == 2)=false:=by rw [hop]; rfl
    have g3:((r':Int) == 3)=false:=by rw [hop]; rfl
    have g4:((r':Int) == 4)=false:=by rw [hop]; rfl
    have g5:((r':Int) == 5)=false:=by rw [hop]; rfl
    have g6:((r':Int) == 6)=false:=by rw [hop]; rfl
    have g7:((r':Int) == 7)=false:=by rw [hop]; rfl
    have g8:((r':Int) == 8)=false:=by rw [hop]; rfl
    have g9:((r':Int) == 9)=false:=by rw [hop]; rfl
    have g10:((r':Int) == 10)=false:=by rw [hop]; rfl
    have g11:((r':Int) == 11)=false:=by rw [hop]; rfl
    have g12:((r':Int) == 12)=false:=by rw [hop]; rfl
    have g13:((r':Int) == 13)=false:=by rw [hop]; rfl
    have g14:((r':Int) == 14)=false:=by rw [hop]; rfl
    have g15:((r':Int) == 15)=true:=by rw [hop]; rfl
    clear hop
    go_wp2_with fail
    refine (lq T _ _ 1 ng (eB.out.mi.below (ah _ _)) (heap_alloc_new _ _) (by decide) (by decide) ab5 (Nat.ne_of_gt eB.out.mi.tape.lt) (Nat.ne_of_gt eB.out.mi.lt)).mono ?_
    rintro e wa ⟨sa,rfl,hsa,jM,jP⟩
    have gB:=Lib.hid (eB.out.go ((Mk.of_below (ah _ _)).trans jM) jP)
    have lI:=Lib.hid hsa
    clear jM jP hsa
    obtain ⟨-,-,y2,-,-,-,-,-,-,-,-⟩:=pX gB.out.box
    have f2:wa.frozen? ⟨sb,2,none⟩=false:=aF gB.out.box
    go_upto_region 34 with fail
    generalize wK:World.setCell wa _ _=wb
    have nk:=Lib.hid (gB.out.nm sa lI.out.1)
    rw [wK] at nk
    clear wK y2 f2 gB
    go_wp2_with fail
    refine (lq T _ _ 1 nf (nk.out.mi.below (ah _ _)) (heap_alloc_new _ _) (by decide) (by decide) UC (Nat.ne_of_gt nk.out.mi.tape.lt) (Nat.ne_of_gt nk.out.mi.lt)).mono ?_
    rintro e wc ⟨sc,rfl,hsc,Qq,Qw⟩
    have HSc:=Lib.hid (nk.out.go ((Mk.of_below (ah _ _)).trans Qq) Qw)
    have HNc:=Lib.hid hsc
    clear Qq Qw hsc
    obtain ⟨-,-,-,y3,-,-,-,-,-,-,-⟩:=pX HSc.out.box
    have f3:wc.frozen? ⟨sb,3,none⟩=false:=aF HSc.out.box
    go_wp2_with fail
    go_meet
    refine ⟨rfl,_,_,?_,VT cO.out lI.out.2 HNc.out.2,HSc.out.arg sc HNc.out.1⟩
    exact HRR.out
 obtain ⟨rfl,h,s,hop,Ba,hS⟩:=hcut
 obtain ⟨W7,rfl⟩: ∃W:World,W=wc:=⟨_,rfl⟩
 have wG:=Lib.hid hS
 have cO:=Lib.hid hop
 have Np:=Lib.hid Ba
 clear hS hop Ba eB y0
 have y0:W7.cell? ⟨sb,0,none⟩=some (.int .i64 (r':Int)):=by rw [← cO.out]; exact (dB wG.out.box (j:=0) rfl).2
 go_upto_region 35 with fail
 go_cut [133] (fun s' W'=>W7=W'∧ ∃q,s'= .bool q∧decide (2≤r'∧r'≤8)=q)
 case first=>
  go_wp2_with fail
  all_goals go_meet
  all_goals exact ⟨rfl,_,rfl,by go_light; grind⟩
 obtain ⟨rfl,q,rfl,hq⟩:=hcut
 have HQ:=Lib.hid hq
 clear hq
 go_upto_if 133 with fail
 go_cut [5] (fun s5 W'=>s5= .pointer (some ⟨sb,0,none⟩)∧ ∃b e s,AB (GS d) h b e∧SI T w sb W' h b e s)
 case first=>
  cases q
  ·go_wp2_with fail
   go_meet
   have HF:Hid (AB (GS d) h .nil .nil):=Lib.hid (Fv Np.out (.inl rfl) (.inl rfl) Dh Dh (by have:=QV d; omega))
   exact ⟨rfl,.nil,.nil,s,HF.out,wG.out⟩
  ·have hq:2≤r'∧r'≤8:=by simpa using HQ.out
   have Bz:Hid (fB h.op=true):=Lib.hid (by rw [cO.out]; unfold fB; simp; omega)
   have hdd: ∃d',d=d' + 1:=⟨d - 1,by have:=HR3.out; omega⟩
   have HGS:Hid (1000 + 2 * (3 * GS (d - 1)) + 2 * GS (d - 1)≤GS d):=Lib.hid (by
    obtain ⟨d',rfl⟩:=hdd
    exact ab8 d')
   have HSL:Hid (∀w (n:Int),dI w T→aM n→n≤1000→Calls Tryz.prog 29 #[.pointer (some ⟨T.bm,0,none⟩),.int .i64 ((d:Int) - 1),.int .i64 n] w (SlP T (n.toNat * GS (d - 1)) w)):=Lib.hid (by
    obtain ⟨d',rfl⟩:=hdd
    have:=fD.out d' rfl
    unfold zk at this
    rw [Int.toNat_natCast] at this
    rw [show ((d' + 1:Nat):Int) - 1=(d':Int) by omega]; exact this)
   have HQQ:=Lib.hid hq
   have hd0:0 < d:=by obtain ⟨d',rfl⟩:=hdd; omega
   have c0:=wG.out.mi.ptr
   clear hq hdd
   go_wp2_with fail
   refine (dR T 3 _ (by unfold aM; decide) wG.out.mi).mono ?_
   rintro e w8 ⟨k,rfl,hk0,hk1,hk2,hM8,hI8⟩
   have hk3:k < 3:=hk1 (by decide)
   have gV:=Lib.hid (wG.out.go hM8 hI8)
   clear hM8 hI8 hk1 hk2 c0 y0
   go_wp2_with fail
   refine (HSL.out _ _ gV.out.mi (by unfold aM; omega) (by omega)).mono ?_
   rintro e w9 ⟨lb,ao,cap,rfl,hln,hst,hM9,hI9⟩
   have wV:=Lib.hid (gV.out.go hM9 hI9)
   have iY:Hid (aS.len lb≤1000∧vg (3 * GS (d - 1)) lb):=Lib.hid ⟨hln.1,hln.2.mono (Nat.mul_le_mul_right _ (by omega))⟩
   have HST:=Lib.hid (hst.mono gV.out.sz)
   clear hM9 hI9 hln hst hk0 hk3
   obtain ⟨-,-,-,-,-,-,-,-,-,y9,-⟩:=pX wV.out.box
   have f9:w9.frozen? ⟨sb,9,none⟩=false:=aF wV.out.box
   go_upto_region 37 with fail
   generalize wK:World.setCell w9 _ _=wb
   have nk:=Lib.hid (wV.out.body lb ao cap (by have:=iY.out.1; unfold maxLen; omega) HST.out)
   rw [wK] at nk
   clear wK y9 f9 wV
   have y0:wb.cell? ⟨sb,0,none⟩=some (.int .i64 (r':Int)):=by rw [← cO.out]; exact (dB nk.out.box (j:=0) rfl).2
   have c0:=nk.out.mi.ptr
   go_cut [155] (fun s' W'=>(∃q,s'= .bool q∧(q=true→r'=2))∧SI T w sb W' h lb .nil {s with bC:=ao,aV:=cap})
   case first=>
    cases h2:((r':Int) == 2)
    ·go_wp2_with fail
     go_meet
     exact ⟨⟨_,rfl,fun e=>by cases e⟩,nk.out⟩
    ·have HR2:Hid (r'=2):=Lib.hid (by have:=of_decide_eq_true h2; omega)
     go_wp2_with (first | (go_at_call 26; refine (dR T 3 _ (by unfold aM; decide) nk.out.mi).mono ?_; rintro e wn ⟨kn,rfl,hn1,hn2,Ub,Pb,hIn⟩; have Za:=Lib.hid (nk.out.go Pb hIn); clear Pb hIn))
     all_goals go_meet
     all_goals exact ⟨⟨_,rfl,fun _=>HR2.out⟩,Za.out⟩
   obtain ⟨⟨q,rfl,hq2⟩,Gg⟩:=hcut
   obtain ⟨wd,rfl⟩: ∃W:World,W=wc:=⟨_,rfl⟩
   have Cz:=Lib.hid Gg
   have rJ:=Lib.hid hq2
   clear Gg nk hq2 y0 c0
   cases q
   ·go_wp2_with fail
    go_meet
    have HF:Hid (AB (GS d) h lb .nil):=Lib.hid (Fv Np.out (.inr Bz.out) (.inl rfl) iY.out.2 Dh (by have:=HGS.out; omega))
    exact ⟨rfl,lb,.nil,_,HF.out,Cz.out⟩
   ·go_wp2_with fail
    refine (HSL.out _ _ Cz.out.mi (by unfold aM; decide) (by decide)).mono ?_
    rintro e wf ⟨le,eZ,dL,rfl,hln,hst,QI,Oz⟩
    have DK:=Lib.hid (Cz.out.go QI Oz)
    have eP:Hid (aS.len le≤1000∧vg (GS (d - 1)) le):=Lib.hid ⟨hln.1,hln.2.mono (Nat.le_of_eq (Nat.one_mul _))⟩
    have al5:=Lib.hid (hst.mono Cz.out.sz)
    clear QI Oz hln hst
    obtain ⟨-,-,-,-,-,-,-,-,-,-,dZ⟩:=pX DK.out.box
    have f10:wf.frozen? ⟨sb,10,none⟩=false:=aF DK.out.box
    go_wp2_with fail
    go_meet
    have HF:Hid (AB (GS d) h lb le):=Lib.hid (Fv Np.out (.inr Bz.out) (.inr (by rw [cO.out,rJ.out trivial]; rfl)) iY.out.2 eP.out.2 (by have:=HGS.out; omega))
    exact ⟨rfl,lb,le,_,HF.out,DK.out.els le eZ dL (by have:=eP.out.1; unfold maxLen; omega) al5.out⟩
 obtain ⟨rfl,b,e,s',Ba,hS⟩:=hcut
 obtain ⟨W8,rfl⟩: ∃W:World,W=wc:=⟨_,rfl⟩
 have gV:=Lib.hid hS
 have Az:=Lib.hid Ba
 clear hS Ba wG HQ Np cO y0
 obtain ⟨y0,y1,y2,y3,y4,y5,y6,y7,y8,y9,dZ⟩:=pX gV.out.box
 have f: ∀j,W8.frozen? ⟨w.heap.size,j,none⟩=false:=fun j=>aF gV.out.z
 have z: ∀j,j < 11→ ∃v,W8.cell? ⟨w.heap.size,j,none⟩=some v:=fun j hj=>by
  rw [cell_of_row W8 w.heap.size j _ _ (0,0) gV.out.z]
  exact ⟨_,Array.getElem?_eq_getElem (by simpa [Mg] using hj)⟩
 obtain ⟨x0,z0⟩:=z 0 (by decide)
 obtain ⟨x1,z1⟩:=z 1 (by decide)
 obtain ⟨x2,z2⟩:=z 2 (by decide)
 obtain ⟨x3,z3⟩:=z 3 (by decide)
 obtain ⟨x4,z4⟩:=z 4 (by decide)
 obtain ⟨x5,z5⟩:=z 5 (by decide)
 obtain ⟨x6,z6⟩:=z 6 (by decide)
 obtain ⟨x7,z7⟩:=z 7 (by decide)
 obtain ⟨x8,z8⟩:=z 8 (by decide)
 obtain ⟨x9,z9⟩:=z 9 (by decide)
 obtain ⟨x10,jD⟩:=z 10 (by decide)
 clear z
 go_wp2_with fail
 clear f
 have HP:=Lib.hid (iV gV.out.tb (iV gV.out.tb (iV gV.out.tb (iV gV.out.tb (iV gV.out.tb (iV gV.out.tb (iV gV.out.tb (iV gV.out.tb (iV gV.out.tb (iV gV.out.tb (iV gV.out.tb ⟨gV.out.km,gV.out.mi,dO.refl _ _⟩ 0 (.int .i64 h.op)) 1 (.int .i64 h.line)) 2 (.string h.nm)) 3 (.string h.arg)) 4 (.slice s'.fH h.idx.len s'.dW)) 5 (.int .i64 h.bV)) 6 (.int .i64 h.xn)) 7 (.string h.bU)) 8 (.slice s'.cB h.aO.len s'.bF)) 9 (.slice s'.bC b.len s'.aV)) 10 (.slice s'.eZ e.len s'.dL))
 exact bodyPost_ret (v:=bP h b e s') (by simp [results,Tryz.results59,go_sem,bP,z0,z1,z2,z3,z4,z5,z6,z7,z8,z9,jD]) rfl ⟨h,b,e,s',rfl,Az.out,(gV.out.st.next (HP.out.2.2.mono (by have:=gV.out.lt; omega))).mono (by have:=gV.out.lt; omega),HP.out.1,HP.out.2.1⟩
end Go.Proofs.YtehnipchbmjlhaaGreatDoor
end
