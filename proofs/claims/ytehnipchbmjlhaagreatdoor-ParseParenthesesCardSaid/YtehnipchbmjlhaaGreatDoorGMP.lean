/-
  The tape that programs are made of: contracts of Tape.Next, name and binary.
  What makes programs of numbers: its state as data, what is kept.
  Contract of the maker's expr: it returns an expression that lies in new memory.
-/
import Derived.Test.YtehnipchbmjlhaaGreatDoorGMB
import Derived.Test.YtehnipchbmjlhaaGreatDoorGMA
import Derived.IntWalk
import Derived.Outline
import Derived.StillTailTactics
import Derived.Test.YtehnipchbmjlhaaGreatDoorGMJ
import Derived.Test.YtehnipchbmjlhaaGreatDoorGMO
import Derived.Deep.RegionWith
section
set_option linter.unusedSimpArgs false
set_option linter.unusedVariables false
namespace Go.Proofs.YtehnipchbmjlhaaGreatDoor
open Go.RowKit
open Md
theorem uq {w:World} {b j:Nat} {cs:Array Value} {t:TypeId} {fr:Nat × Nat} {u:Value} (h:w.heap[b]? =some (.cells cs t fr)) (hu:cs[j]? =some u):b < w.heap.size∧w.cell? ⟨b,j,none⟩=some u:=
 ⟨(Array.getElem?_eq_some_iff.1 h).1,ak h hu⟩
theorem Ta {b:Nat} {w1 w2 w3:World} (h:w1.grownBy w2 (some b)) (k:w2.grownBy w3 (some b)):w1.grownBy w3 (some b):=
 ⟨k.os.trans h.os,k.tape.trans h.tape,k.output.trans h.output,Nat.le_trans h.size k.size,fun j hj hne=>(k.block j (Nat.lt_of_lt_of_le hj h.size) hne).trans (h.block j hj hne)⟩
theorem aa4 {b:Nat} {w w':World} (h:Below w.heap.size w w'):w.grownBy w' (some b):=⟨h.os,h.tape,h.output,h.size,fun k hk _=>h.block k hk⟩
structure Tp where
 B0:Nat
 bt:Nat
 bm:Nat
 ao:Option Addr
 cap:Nat
 zs:List Int
 t0:B0≤bt
 m0:B0≤bm
 tm:bt≠bm
def Ac (w:World) (B:Nat) (zs:List Int) (ao:Option Addr):Prop:= ∀(k:Nat) (hk:k < zs.length),∃b off,ao=some ⟨b,off,none⟩∧b < B∧w.cell? ⟨b,off + k,none⟩=some (.int .u8 zs[k])∧0≤zs[k]∧zs[k]≤255
theorem Ac.below {w w':World} {B:Nat} {zs:List Int} {ao:Option Addr} (h:Ac w B zs ao) (hb:Below B w w'):Ac w' B zs ao:=fun k hk=>by
 obtain ⟨b,off,e,hB,hc,hz⟩:=h k hk
 exact ⟨b,off,e,hB,(hb.cell hB).trans hc,hz⟩
structure oh (w:World) (T:Tp):Prop where
 blk: ∃at':Nat,at'≤T.zs.length∧w.heap[T.bt]? =some (.cells #[.slice T.ao T.zs.length T.cap,.int .i64 at'] 56 (0,0))
 GJ:Ac w T.B0 T.zs T.ao
 len:T.zs.length≤9223372036854775807
theorem oh.lt {w:World} {T:Tp} (h:oh w T):T.bt < w.heap.size:=by obtain ⟨a,-,h⟩:=h.blk; exact (Array.getElem?_eq_some_iff.1 h).1
theorem oh.b0 {w:World} {T:Tp} (h:oh w T):T.B0≤w.heap.size:=by have:=h.lt; have:=T.t0; omega
def U6 (T:Tp) (n:Int) (w:World) (e:Ending) (w':World):Prop:= ∃r:Int,e= .returned (.int .i64 r)∧0≤r∧(0 < n→r < n)∧r≤255∧w.grownBy w' (some T.bt)∧oh w' T
theorem CX {T:Tp} {n r:Int} {w w':World} (h0:0≤r) (h1:0 < n→r < n) (h2:r≤255) (h3:w.grownBy w' (some T.bt)) (h4:oh w' T):U6 T n w (.returned (.int .i64 r)) w':=⟨r,rfl,h0,h1,h2,h3,h4⟩
theorem rV {b:Nat} (w:World) (n:Nat):w.grownBy (w.drewN n) (some b):=aa4 (below_drewN (Below.refl _ _) n)
theorem oh.draws {w:World} {T:Tp} (h:oh w T) (n:Nat):oh (w.drewN n) T:=by
 obtain ⟨a,h1,h2⟩:=h.blk
 have hb:=below_drewN (Below.refl w.heap.size w) n
 exact ⟨⟨a,h1,(hb.block _ h.lt).trans h2⟩,h.GJ.below (hb.mono h.b0),h.len⟩
set_option maxHeartbeats 2000000 in
set_option maxRecDepth 100000 in
theorem Sb (T:Tp) (n:Int) (w:World) (hn:aV n) (hI:oh w T):
 Calls Tryz.prog 26 #[.pointer (some ⟨T.bt,0,none⟩),.int .i64 n] w (U6 T n w):=by
 obtain ⟨a,ha,hblk⟩:=hI.blk
 have HI:=Lib.hid hI
 have HB:=Lib.hid hblk
 have hlen:=hI.len
 obtain ⟨hn1,hn2⟩:=hn
 have c0:w.cell? ⟨T.bt,0,none⟩=some (.slice T.ao T.zs.length T.cap):=(uq hblk (j:=0) rfl).2
 have c1:w.cell? ⟨T.bt,1,none⟩=some (.int .i64 (a:Int)):=(uq hblk (j:=1) rfl).2
 clear hI hblk
 by_cases h1:T.zs.length≤a
 ·have hd:decide ((T.zs.length:Int)≤(a:Int))=true:=by rw [decide_eq_true_iff]; omega
  go_enter Tryz.func26,Tryz.ntmps26
  go_wp2_with fail
  go_quiet (fail)
  go_wp2_with fail
  go_ret
  exact CX (by omega) (by omega) (by omega) (rV _ _) (HI.out.draws _)
 ·have hd:decide ((T.zs.length:Int)≤(a:Int))=false:=by rw [decide_eq_false_iff_not]; omega
  by_cases h2:n < 1
  ·have hd2:decide (n < 1)=true:=by rw [decide_eq_true_iff]; omega
   go_enter Tryz.func26,Tryz.ntmps26
   go_wp2_with fail
   go_quiet (fail)
   go_wp2_with fail
   go_ret
   exact CX (by omega) (by omega) (by omega) (rV _ _) (HI.out.draws _)
  ·have hd2:decide (n < 1)=false:=by rw [decide_eq_false_iff_not]; omega
   go_enter Tryz.func26,Tryz.ntmps26
   go_wp2_with fail
   go_quiet (fail)
   generalize hW:World.drewN w _=W1
   have HI1:Hid (oh W1 T):=Lib.hid (by rw [← hW]; exact HI.out.draws _)
   have tX:Hid (w.grownBy W1 (some T.bt)):=Lib.hid (by rw [← hW]; exact rV _ _)
   have HB1:Hid (W1.heap[T.bt]? =some (.cells #[.slice T.ao T.zs.length T.cap,.int .i64 (a:Int)] 56 (0,0))):=Lib.hid (by rw [← hW]; exact ((below_drewN (Below.refl w.heap.size w) _).block _ HI.out.lt).trans HB.out)
   clear hW c0 c1 HI HB hd hd2
   have c1:W1.cell? ⟨T.bt,1,none⟩=some (.int .i64 (a:Int)):=(uq HB1.out (j:=1) rfl).2
   have f1:W1.frozen? ⟨T.bt,1,none⟩=false:=aD HB1.out
   go_upto_region 4 with fail
   generalize hW2:World.setCell W1 _ _=W2
   have HB2:Hid (W2.heap[T.bt]? =some (.cells #[.slice T.ao T.zs.length T.cap,.int .i64 ((a:Int) + 1)] 56 (0,0))):=Lib.hid (by rw [← hW2,aR HB1.out]; rfl)
   have HG2:Hid (W1.grownBy W2 (some T.bt)):=Lib.hid (by rw [← hW2]; exact bU _ _ _)
   have HBY:Hid (Ac W2 T.B0 T.zs T.ao):=Lib.hid (HI1.out.GJ.below (dX HG2.out T.t0 HI1.out.b0))
   have HI2:Hid (oh W2 T):=Lib.hid ⟨⟨a + 1,by omega,by rw [HB2.out]; rfl⟩,HBY.out,HI1.out.len⟩
   have HG:=Lib.hid (Ta tX.out HG2.out)
   clear hW2 c1 f1 tX HG2 HB1
   have ha:a < T.zs.length:=by omega
   obtain ⟨bb,off,hao,hbb,hcell,hz0,hz1⟩:=HBY.out a ha
   have c0:W2.cell? ⟨T.bt,0,none⟩=some (.slice T.ao T.zs.length T.cap):=(uq HB2.out (j:=0) rfl).2
   have c1:W2.cell? ⟨T.bt,1,none⟩=some (.int .i64 ((a:Int) + 1)):=(uq HB2.out (j:=1) rfl).2
   rw [hao] at c0
   generalize T.zs[a]=z at *
   have hw1:(a:Int) + 1 - 1=(a:Int):=by omega
   have hw2:IntKind.i64.wrap (a:Int)=(a:Int):=IntWalk.i64_in _ (by omega)
   have hb0:(0:Int)≤(a:Int):=by omega
   have hb1:(a:Int) < (T.zs.length:Int):=by omega
   have TR:=Lib.hid hao
   clear hao HI1
   go_quiet (fail)
   go_wp2_with fail
   go_ret
   have e1:=Int.emod_nonneg z (show n≠0 by omega)
   have e2:=Int.emod_lt_of_pos z (show 0 < n by omega)
   have e3:z % n≤255:=by
    by_cases hzn:z < n
    ·rw [Int.emod_eq_of_lt hz0 hzn]; exact hz1
    ·omega
   exact CX e1 (fun _=>e2) e3 (Ta HG.out (rV _ _)) (HI2.out.draws _)
def ny (s:ByteArray):Prop:=s.size≤maxLen∧Tk.dQ s.data.toList=true
theorem CV {s:ByteArray} (h:Tk.dQ s.data.toList=true):s.size≤12:=by
 unfold Tk.dQ at h
 simp only [Bool.and_eq_true,decide_eq_true_eq] at h
 rw [Lib.size_eq]; exact h.1.1.2
def tL:Array Value:= #[.int .i64 0,.int .i64 0,.string ⟨#[]⟩,.slice none 0 0]
theorem xW {w:World} {b:Nat} {t:TypeId} (h:w.heap[b]? =some (.cells tL t (0,0))):(w.cell? ⟨b,0,none⟩=some (.int .i64 0)∧w.cell? ⟨b,1,none⟩=some (.int .i64 0)∧w.cell? ⟨b,2,none⟩=some (.string ⟨#[]⟩)∧w.cell? ⟨b,3,none⟩=some (.slice none 0 0))∧(∀j,w.frozen? ⟨b,j,none⟩=false):=
 ⟨⟨(uq h (j:=0) rfl).2,(uq h (j:=1) rfl).2,(uq h (j:=2) rfl).2,(uq h (j:=3) rfl).2⟩,fun j=>aD h⟩
theorem QH (s:ByteArray) (w:World):
 Calls Tryz.prog 89 #[.string s] w fun e w'=>e= .returned (exV 2 0 s .nil none 0)∧Below w.heap.size w w':=by
 go_enter Tryz.func89,Tryz.ntmps89
 go_wp2
 exact bodyPost_ret (v:=exV 2 0 s .nil none 0) (by simp [results,Tryz.results89,go_sem,exV,aH.len]) rfl ⟨rfl,ah _ _⟩
theorem ND (op:Int) (o1 n1:Int) (m1:ByteArray) (k1:aH) (a1:Option Addr) (c1:Nat) (o2 n2:Int) (m2:ByteArray) (k2:aH) (a2:Option Addr) (c2:Nat) (w:World):
 Calls Tryz.prog 90 #[.int .i64 op,exV o1 n1 m1 k1 a1 c1,exV o2 n2 m2 k2 a2 c2] w fun e w'=> ∃g,e= .returned (.agg #[.int .i64 op,.int .i64 0,.string ⟨#[]⟩,.slice (some ⟨g,0,none⟩) 2 2])∧w.heap.size≤g∧w'.heap[g]? =some (.cells (om o1 n1 m1 k1 a1 c1++om o2 n2 m2 k2 a2 c2).toArray 45 (0,0))∧Below w.heap.size w w':=by
 unfold exV
 go_enter Tryz.func90,Tryz.ntmps90
 go_wp2
 refine bodyPost_ret (v:= .agg #[.int .i64 op,.int .i64 0,.string ⟨#[]⟩,.slice (some ⟨w.heap.size + 1 + 1 + 1,0,none⟩) 2 2]) (by simp [results,Tryz.results90,go_sem]) rfl ⟨w.heap.size + 1 + 1 + 1,rfl,by omega,?_,?_⟩
 ·generalize hW:World.alloc (World.alloc (World.alloc w _) _) _=W
  have e:W.heap.size=w.heap.size + 1 + 1 + 1:=by rw [← hW]; simp
  rw [← e]; exact heap_alloc_new _ _
 ·exact (((ah _ _).alloc (by simp) _).alloc (by simp; omega) _).alloc (by simp; omega) _
end Go.Proofs.YtehnipchbmjlhaaGreatDoor
end
section
set_option linter.unusedSimpArgs false
set_option linter.unusedVariables false
namespace Go.Proofs.YtehnipchbmjlhaaGreatDoor
open Go.RowKit
open Md
structure dx (w:World) (T:Tp):Prop where
 tape:oh w T
 vw: ∃line left:Int,aV line∧0≤left∧left≤100∧w.heap[T.bm]? =some (.cells #[.pointer (some ⟨T.bt,0,none⟩),.int .i64 line,.int .i64 left] 58 (0,0))
theorem dx.lt {w:World} {T:Tp} (h:dx w T):T.bm < w.heap.size:=by obtain ⟨a,b,-,-,-,h⟩:=h.vw; exact (Array.getElem?_eq_some_iff.1 h).1
structure Mk (T:Tp) (w w':World):Prop where
 os:w'.os=w.os
 tape:w'.tape=w.tape
 output:w'.output=w.output
 size:w.heap.size≤w'.heap.size
 block: ∀k,k < w.heap.size→k≠T.bt→k≠T.bm→w'.heap[k]? =w.heap[k]?
theorem Mk.refl (T:Tp) (w:World):Mk T w w:=⟨rfl,rfl,rfl,Nat.le_refl _,fun _ _ _ _=>rfl⟩
theorem Mk.trans {T:Tp} {w w1 w2:World} (h:Mk T w w1) (k:Mk T w1 w2):Mk T w w2:=
 ⟨k.os.trans h.os,k.tape.trans h.tape,k.output.trans h.output,Nat.le_trans h.size k.size,fun j hj h1 h2=>(k.block j (Nat.lt_of_lt_of_le hj h.size) h1 h2).trans (h.block j hj h1 h2)⟩
theorem Mk.of_below {T:Tp} {w w':World} (h:Below w.heap.size w w'):Mk T w w':=⟨h.os,h.tape,h.output,h.size,fun k hk _ _=>h.block k hk⟩
theorem Mk.am7 {T:Tp} {w w':World} (h:w.grownBy w' (some T.bt)):Mk T w w':=⟨h.os,h.tape,h.output,h.size,fun k hk h1 _=>h.block k hk (by simp; exact h1)⟩
theorem Mk.an4 {T:Tp} {w w':World} (h:w.grownBy w' (some T.bm)):Mk T w w':=⟨h.os,h.tape,h.output,h.size,fun k hk _ h1=>h.block k hk (by simp; exact h1)⟩
theorem Mk.below {T:Tp} {w w':World} (h:Mk T w w') (hB:T.B0≤w.heap.size):Below T.B0 w w':=
 ⟨h.os,h.tape,h.output,h.size,fun k hk=>h.block k (by omega) (by have:=T.t0; omega) (by have:=T.m0; omega)⟩
theorem dx.below {T:Tp} {w w':World} (h:dx w T) (hb:Below w.heap.size w w'):dx w' T:=by
 obtain ⟨a,h1,h2⟩:=h.tape.blk
 obtain ⟨l,m,h3,h4,h5,h6⟩:=h.vw
 exact ⟨⟨⟨a,h1,(hb.block _ h.tape.lt).trans h2⟩,h.tape.GJ.below (hb.mono h.tape.b0),h.tape.len⟩,⟨l,m,h3,h4,h5,(hb.block _ h.lt).trans h6⟩⟩
theorem Mk.xY {T:Tp} {w w':World} {B:Nat} (h:Mk T w w') (ht:T.bt < B) (hm:T.bm < B):fM B w w':=⟨h.size,fun k h1 h2=>h.block k h2 (by omega) (by omega)⟩
theorem Mk.set {T:Tp} {w w':World} (h:Mk T w w') (a:Addr) (v:Value) (hb:w.heap.size≤a.block):Mk T w (w'.setCell a v):=
 ⟨h.os,h.tape,h.output,by have:=h.size; simpa [World.setCell] using this,fun k hk h1 h2=>(aM w' a v rfl (by omega)).trans (h.block k hk h1 h2)⟩
theorem dx.set {T:Tp} {w:World} (h:dx w T) (a:Addr) (v:Value) (h0:T.B0≤a.block) (h1:a.block≠T.bt) (h2:a.block≠T.bm):dx (w.setCell a v) T:=by
 obtain ⟨x,k1,k2⟩:=h.tape.blk
 obtain ⟨l,m,k3,k4,k5,k6⟩:=h.vw
 have hg:=bU w a v
 exact ⟨⟨⟨x,k1,(aM w a v rfl h1).trans k2⟩,h.tape.GJ.below (dX hg h0 h.tape.b0),h.tape.len⟩,⟨l,m,k3,k4,k5,(aM w a v rfl h2).trans k6⟩⟩
def qQ (q:Nat) (op n:Int) (nm:ByteArray) (kids:aH):Prop:=dI op n nm kids=true∧lD nm kids≤q
def KY (q:Nat) (l:aH):Prop:=gZ l=true∧pX l≤q
theorem qQ.mono {q q':Nat} {op n:Int} {nm:ByteArray} {kids:aH} (h:qQ q op n nm kids) (hq:q≤q'):qQ q' op n nm kids:=⟨h.1,Nat.le_trans h.2 hq⟩
def Tt (q:Nat) (op n:Int) (nm:ByteArray) (kids:aH):Prop:=qK op n nm kids∧qQ q op n nm kids
theorem ze {q:Nat} {op n:Int} {nm:ByteArray} {kids:aH} (h:qQ q op n nm kids):KY q (.cons op n nm kids .nil):=
 ⟨by show (dI op n nm kids && gZ .nil)=true; rw [h.1]; rfl,h.2⟩
theorem JO {q q':Nat} {op n op' n':Int} {nm nm':ByteArray} {kids fP:aH} (h:qQ q op n nm kids) (h':qQ q' op' n' nm' fP):KY (q + q') (.cons op n nm kids (.cons op' n' nm' fP .nil)):=
 ⟨by show (dI op n nm kids && gZ _)=true; rw [h.1,(ze h').1]; rfl,by have h1:=h.2; have h2:=h'.2; unfold lD at h1 h2; simp only [pX]; omega⟩
theorem XI {q:Nat} {a op n:Int} {nm:ByteArray} {kids:aH} (ha:a=4∨a=5) (h:qQ q op n nm kids):qQ (q + 60) a 0 ⟨#[]⟩ (.cons op n nm kids .nil):=
 ⟨by unfold dI; rw [(ze h).1]; rcases ha with rfl | rfl <;> rfl,by have h1:=h.2; unfold lD at h1 ⊢; simp only [pX]; show 40 + 0 + _≤_; omega⟩
theorem Vd {q q':Nat} {r op n op' n':Int} {nm nm':ByteArray} {kids fP:aH} (h0:0≤r) (h1:r < 13) (h:qQ q op n nm kids) (h':qQ q' op' n' nm' fP):qQ (q + q' + 60) (6 + r) 0 ⟨#[]⟩ (.cons op n nm kids (.cons op' n' nm' fP .nil)):=by
 refine ⟨?_,by have h1:=(JO h h').2; unfold lD; show 40 + 0 + _≤_; omega⟩
 unfold dI; rw [(JO h h').1]
 have:r=0∨r=1∨r=2∨r=3∨r=4∨r=5∨r=6∨r=7∨r=8∨r=9∨r=10∨r=11∨r=12:=by omega
 rcases this with rfl | rfl | rfl | rfl | rfl | rfl | rfl | rfl | rfl | rfl | rfl | rfl | rfl <;> rfl
theorem V8 {z:Int} (hz:0≤z):qQ 60 1 z ⟨#[]⟩ .nil:=
 ⟨by unfold dI uK; rw [decide_eq_false (by omega)]; cases (z == 0) <;> rfl,by decide⟩
theorem Y3 {s:ByteArray} (hs:Tk.dQ s.data.toList=true):qQ 60 2 0 s .nil:=
 ⟨by unfold dI uK iT named; simp [hs,aH.len,opsOf,gZ],by have:=CV hs; unfold lD; simp only [pX]; omega⟩
theorem V7 {q:Nat} {s:ByteArray} {l:aH} (hs:Tk.dQ s.data.toList=true) (hl:l.len=1) (h:KY q l):qQ (q + 60) 3 0 s l:=
 ⟨by unfold dI uK iT named; simp [hs,hl,opsOf,h.1],by have:=CV hs; have:=h.2; unfold lD; omega⟩
def GE (d:Nat):Nat:=64 * 3 ^ d
theorem I8 (d:Nat):64≤GE d:=by unfold GE; have:0 < 3 ^ d:=Nat.pow_pos (by decide); omega
theorem ZA (d:Nat):GE d + GE d + 60≤GE (d + 1):=by have:=I8 d; unfold GE at *; rw [Nat.pow_succ]; omega
def LZ (T:Tp) (q:Nat) (w:World) (e:Ending) (w':World):Prop:= ∃op n nm kids ao cap,e= .returned (exV op n nm kids ao cap)∧Tt q op n nm kids∧Mk T w w'∧dx w' T∧bD w.heap.size w' (fun w2=>kids.At w2 w2.heap.size ao 0)
def EX (q B:Nat) (v:Value) (w:World):Prop:= ∃op n nm kids ao cap,v=exV op n nm kids ao cap∧Tt q op n nm kids∧bD B w (fun w2=>kids.At w2 w2.heap.size ao 0)
theorem EX.next {q B:Nat} {v:Value} {w w':World} (h:EX q B v w) (ha:fM B w w'):EX q B v w':=by
 obtain ⟨op,n,nm,kids,ao,cap,h1,h2,h3⟩:=h
 exact ⟨op,n,nm,kids,ao,cap,h1,h2,h3.next ha⟩
theorem EX.mono {q B B':Nat} {v:Value} {w:World} (h:EX q B' v w) (hB:B≤B'):EX q B v w:=by
 obtain ⟨op,n,nm,kids,ao,cap,h1,h2,h3⟩:=h
 exact ⟨op,n,nm,kids,ao,cap,h1,h2,h3.mono hB⟩
def XS (q B m:Nat) (v:Value) (w:World):Prop:= ∃l ao cap,v= .slice ao (aH.len l) cap∧(aH.len l=m∧KY q l)∧bD B w (fun w2=>l.At w2 w2.heap.size ao 0)
theorem XS.next {q B m:Nat} {v:Value} {w w':World} (h:XS q B m v w) (ha:fM B w w'):XS q B m v w':=by
 obtain ⟨l,ao,cap,h1,h2,h3⟩:=h
 exact ⟨l,ao,cap,h1,h2,h3.next ha⟩
theorem AB {T:Tp} {q:Nat} {w w':World} {v:Value} (hM:Mk T w w') (hI:dx w' T) (h:EX q w.heap.size v w'):LZ T q w (.returned v) w':=by
 obtain ⟨op,n,nm,kids,ao,cap,rfl,h2,h3⟩:=h
 exact ⟨op,n,nm,kids,ao,cap,rfl,h2,hM,hI,h3⟩
theorem pY {T:Tp} {q:Nat} {w w':World} {e:Ending} (h:LZ T q w e w'): ∃v,e= .returned v∧EX q w.heap.size v w'∧Mk T w w'∧dx w' T:=by
 obtain ⟨op,n,nm,kids,ao,cap,h1,h2,h3,h4,h5⟩:=h
 exact ⟨_,h1,⟨op,n,nm,kids,ao,cap,rfl,h2,h5⟩,h3,h4⟩
theorem Jk {T:Tp} {w w4:World} (a b c d:Value) (hM:Mk T w w4) (hI:dx w4 T) (h0:T.bt < w.heap.size∧T.bm < w.heap.size∧T.B0≤w.heap.size):
 Mk T w ((((w4.setCell ⟨w.heap.size,0,none⟩ a).setCell ⟨w.heap.size,1,none⟩ b).setCell ⟨w.heap.size,2,none⟩ c).setCell ⟨w.heap.size,3,none⟩ d)∧
 dx ((((w4.setCell ⟨w.heap.size,0,none⟩ a).setCell ⟨w.heap.size,1,none⟩ b).setCell ⟨w.heap.size,2,none⟩ c).setCell ⟨w.heap.size,3,none⟩ d) T∧
 fM (w.heap.size + 1) w4 ((((w4.setCell ⟨w.heap.size,0,none⟩ a).setCell ⟨w.heap.size,1,none⟩ b).setCell ⟨w.heap.size,2,none⟩ c).setCell ⟨w.heap.size,3,none⟩ d):=by
 have h1:w.heap.size≠T.bt:=by omega
 have h2:w.heap.size≠T.bm:=by omega
 have m1:=hM.set ⟨w.heap.size,0,none⟩ a (Nat.le_refl _)
 have m2:=m1.set ⟨w.heap.size,1,none⟩ b (Nat.le_refl _)
 have m3:=m2.set ⟨w.heap.size,2,none⟩ c (Nat.le_refl _)
 have m4:=m3.set ⟨w.heap.size,3,none⟩ d (Nat.le_refl _)
 have i1:=hI.set ⟨w.heap.size,0,none⟩ a h0.2.2 h1 h2
 have i2:=i1.set ⟨w.heap.size,1,none⟩ b h0.2.2 h1 h2
 have i3:=i2.set ⟨w.heap.size,2,none⟩ c h0.2.2 h1 h2
 have i4:=i3.set ⟨w.heap.size,3,none⟩ d h0.2.2 h1 h2
 have x1:fM (w.heap.size + 1) w4 _:=bC w4 ⟨w.heap.size,0,none⟩ a (Nat.lt_succ_self _)
 have x2:=x1.trans (bC _ ⟨w.heap.size,1,none⟩ b (Nat.lt_succ_self _))
 have x3:=x2.trans (bC _ ⟨w.heap.size,2,none⟩ c (Nat.lt_succ_self _))
 have x4:=x3.trans (bC _ ⟨w.heap.size,3,none⟩ d (Nat.lt_succ_self _))
 exact ⟨m4,i4,x4⟩
theorem aa0 {T:Tp} {q q':Nat} (hq:q + 60≤q') {w w4:World} {a op n:Int} {nm:ByteArray} {kids:aH} {ao:Option Addr} {cap:Nat} {t:TypeId} (hM:Mk T w w4) (hI:dx w4 T) (h0:T.bt < w.heap.size∧T.bm < w.heap.size∧T.B0≤w.heap.size) (ha:a=4∨a=5) (hok:Tt q op n nm kids) (hst:bD (w.heap.size + 1) w4 (fun w2=>kids.At w2 w2.heap.size ao 0)) (hs:w.heap.size + 1≤w4.heap.size):
 LZ T q' w (.returned (exV a 0 ⟨#[]⟩ (.cons op n nm kids .nil) (some ⟨w4.heap.size,0,none⟩) 1)) (((((w4.setCell ⟨w.heap.size,0,none⟩ (.int .i64 a)).setCell ⟨w.heap.size,1,none⟩ (.int .i64 0)).setCell ⟨w.heap.size,2,none⟩ (.string ⟨#[]⟩)).setCell ⟨w.heap.size,3,none⟩ (.slice (some ⟨w4.heap.size,0,none⟩) 1 1)).alloc (.cells #[.int .i64 op,.int .i64 n,.string nm,.slice ao kids.len cap] t)):=by
 obtain ⟨q1,q2,q3⟩:=Jk (.int .i64 a) (.int .i64 0) (.string ⟨#[]⟩) (.slice (some ⟨w4.heap.size,0,none⟩) 1 1) hM hI h0
 generalize hW:World.setCell (World.setCell (World.setCell (World.setCell w4 _ _) _ _) _ _) _ _=W at *
 have hsz:W.heap.size=w4.heap.size:=by rw [← hW]; simp [World.setCell]
 refine AB (q1.trans (Mk.of_below (ah _ _))) (q2.below (ah _ _)) ⟨a,0,⟨#[]⟩,.cons op n nm kids .nil,_,1,rfl,⟨⟨by unfold aV; omega,by unfold aV; decide,by unfold maxLen; decide,by simp [aH.len,maxLen]⟩,(XI ha hok.2).mono hq⟩,?_⟩
 rw [← hsz]
 exact nO (heap_alloc_new _ _) (by omega) hok.1 (((hst.next q3).next (aK (ah _ _))).mono (Nat.le_succ _))
def ZB (T:Tp) (n:Int) (w:World) (e:Ending) (w':World):Prop:= ∃r:Int,e= .returned (.int .i64 r)∧0≤r∧(0 < n→r < n)∧r≤255∧Mk T w w'∧dx w' T
theorem dH (T:Tp) (n:Int) (w:World) (hn:aV n) (hI:dx w T):
 Calls Tryz.prog 26 #[.pointer (some ⟨T.bt,0,none⟩),.int .i64 n] w (ZB T n w):=
 (Sb T n w hn hI.tape).mono fun e w' ⟨r,h1,h2,h3,h4,h5,h6⟩=>⟨r,h1,h2,h3,h4,Mk.am7 h5,h6,by
  obtain ⟨l,m,k1,k2,k3,k4⟩:=hI.vw
  exact ⟨l,m,k1,k2,k3,(h5.block _ hI.lt (by simp; exact T.tm.symm)).trans k4⟩⟩
theorem dx.ptr {w:World} {T:Tp} (h:dx w T):w.cell? ⟨T.bm,0,none⟩=some (.pointer (some ⟨T.bt,0,none⟩)):=by
 obtain ⟨l,m,-,-,-,k⟩:=h.vw
 exact (cZ k (j:=0) rfl).2
theorem Js {T:Tp} {w w2 W:World} (hb:Below w.heap.size w w2) (hm:Mk T w2 W) (h1:w.heap.size≤T.bt) (h2:w.heap.size≤T.bm):Below w.heap.size w W:=
 ⟨hm.os.trans hb.os,hm.tape.trans hb.tape,hm.output.trans hb.output,Nat.le_trans hb.size hm.size,fun k hk=>(hm.block k (Nat.lt_of_lt_of_le hk hb.size) (by omega) (by omega)).trans (hb.block k hk)⟩
end Go.Proofs.YtehnipchbmjlhaaGreatDoor
end
section
set_option linter.unusedSimpArgs false
set_option linter.unusedVariables false
namespace Go.Proofs.YtehnipchbmjlhaaGreatDoor
open Go.RowKit
open Md
def Sk:Array Value:= #[.string ⟨#[120]⟩,.string ⟨#[121]⟩,.string ⟨#[97]⟩,.string ⟨#[98]⟩,.string ⟨#[118]⟩,.string ⟨#[113]⟩,.string ⟨#[109]⟩,.string ⟨#[116]⟩,.string ⟨#[122,122]⟩,.string ⟨#[102]⟩]
def n8:Array Value:= #[.int .i64 0,.int .i64 1,.int .i64 2,.int .i64 3,.int .i64 7,.int .i64 10,.int .i64 100,.int .i64 9223372036854775807]
theorem ZK: ∀j,j < 8→ ∃z,n8[j]? =some (.int .i64 z)∧aV z∧0≤z:=fun j hj=>by
 have:j=0∨j=1∨j=2∨j=3∨j=4∨j=5∨j=6∨j=7:=by omega
 rcases this with rfl | rfl | rfl | rfl | rfl | rfl | rfl | rfl <;> exact ⟨_,rfl,by unfold aV; decide,by decide⟩
theorem VG: ∀j,j < 10→ ∃s,Sk[j]? =some (.string s)∧ny s:=fun j hj=>by
 have:j=0∨j=1∨j=2∨j=3∨j=4∨j=5∨j=6∨j=7∨j=8∨j=9:=by omega
 rcases this with rfl | rfl | rfl | rfl | rfl | rfl | rfl | rfl | rfl | rfl <;> exact ⟨_,rfl,by unfold maxLen; decide,by rfl⟩
def Z9:Array Value:= #[.string ⟨#[113]⟩,.string ⟨#[113]⟩,.string ⟨#[113]⟩,.string ⟨#[120]⟩,.string ⟨#[109]⟩]
theorem Ye: ∀j,j < 5→ ∃s,Z9[j]? =some (.string s)∧ny s:=fun j hj=>by
 have:j=0∨j=1∨j=2∨j=3∨j=4:=by omega
 rcases this with rfl | rfl | rfl | rfl | rfl <;> exact ⟨_,rfl,by unfold maxLen; decide,by rfl⟩
def vP (T:Tp) (d:Int):Prop:= ∀w,dx w T→Calls Tryz.prog 51 #[.pointer (some ⟨T.bm,0,none⟩),.int .i64 d] w (LZ T (GE d.toNat) w)
set_option maxHeartbeats 4000000 in
set_option maxRecDepth 100000 in
theorem GH (T:Tp) (d:Nat) (hd:d≤100) (ih: ∀d':Nat,d=d' + 1→vP T (d':Int)):vP T (d:Int):=by
 unfold vP
 rw [Int.toNat_natCast]
 intro w hI
 have HI0:=Lib.hid hI
 have iN:=Lib.hid ih
 clear hI ih
 go_enter Tryz.func51,Tryz.ntmps51
 go_upto_region 2 with fail
 generalize hW:World.alloc (World.alloc w _) _=W
 have HB:Hid (Below w.heap.size w W):=Lib.hid (by rw [← hW]; exact (ah _ _).alloc (by simp) _)
 have HZ:Hid (W.heap[w.heap.size]? =some (.cells tL 45 (0,0))):=Lib.hid (by rw [← hW,heap_alloc_old _ _ (by simp)]; exact heap_alloc_new _ _)
 have HN:Hid (W.heap[w.heap.size + 1]? =some (.cells Sk 9 (0,0))):=Lib.hid (by
  rw [← hW]
  have e:(World.alloc w (.cells tL 45)).heap.size=w.heap.size + 1:=by simp
  rw [← e]; exact heap_alloc_new _ _)
 have HI:=Lib.hid (HI0.out.below HB.out)
 have dh:Hid (T.bt < w.heap.size∧T.bm < w.heap.size∧T.B0≤w.heap.size):=Lib.hid ⟨HI0.out.tape.lt,HI0.out.lt,HI0.out.tape.b0⟩
 clear hW
 have c0:=HI.out.ptr
 go_wp2_with fail
 refine (dH T 20 _ (by unfold aV; decide) HI.out).mono ?_
 rintro e w2 ⟨k,rfl,hk0,hk1,hk2,hM,hI2⟩
 have HM:=Lib.hid ((Mk.of_below (T:=T) HB.out).trans hM)
 have HZ2:Hid (w2.heap[w.heap.size]? =some (.cells tL 45 (0,0))):=Lib.hid ((hM.block _ (Array.getElem?_eq_some_iff.1 HZ.out).1 (by have:=dh.out; omega) (by have:=dh.out; omega)).trans HZ.out)
 have Xa:Hid (w2.heap[w.heap.size + 1]? =some (.cells Sk 9 (0,0))):=Lib.hid ((hM.block _ (Array.getElem?_eq_some_iff.1 HN.out).1 (by have:=dh.out; omega) (by have:=dh.out; omega)).trans HN.out)
 have HI2:=Lib.hid hI2
 have av2:k < 20:=hk1 (by decide)
 clear hM hI2 HZ HN HI c0 HB hk1
 have hcase:(k < 4∨(4≤k∧d=0∧k < 10))∨(4≤k∧ ¬ (d=0∧k < 10))∧(k < 8∨d=0)∨(8≤k∧d≠0):=by omega
 rcases hcase with hA | hB | hC
 ·have hA':k < 4∨(4≤k∧((d:Int) == 0)=true∧k < 10):=by
   rcases hA with hA | ⟨h1,h2,h3⟩
   ·exact .inl hA
   ·exact .inr ⟨h1,by simp [h2],h3⟩
  clear hA iN
  rcases hA' with hA | ⟨hA1,hA2,hA3⟩
  all_goals
   go_upto_region 5 with fail
   obtain ⟨g,hg⟩: ∃g,w2.heap.size=g:=⟨_,rfl⟩
   generalize hW3:World.alloc w2 _=W3
   have HB3:Hid (Below w2.heap.size w2 W3):=Lib.hid (by rw [← hW3]; exact ah _ _)
   have tY:Hid (W3.heap[g]? =some (.cells n8 2 (0,0))):=Lib.hid (by rw [← hW3,← hg]; exact heap_alloc_new _ _)
   have HI3:=Lib.hid (HI2.out.below HB3.out)
   have HGB:Hid (w.heap.size < g):=Lib.hid (by rw [← hg]; exact (Array.getElem?_eq_some_iff.1 HZ2.out).1)
   rw [hg]
   have c0:=HI3.out.ptr
   clear hW3 hg
   go_wp2_with fail
   refine (dH T 8 _ (by unfold aV; decide) HI3.out).mono ?_
   rintro e w4 ⟨r,rfl,hr0,hr1,hr2,zG,Gh⟩
   obtain ⟨r',rfl⟩:=Int.eq_ofNat_of_zero_le hr0
   have Jq:r' < 8:=by have:=hr1 (by decide); omega
   have eO:Hid (w4.heap[w.heap.size]? =some (.cells tL 45 (0,0))):=Lib.hid ((zG.block _ (Nat.lt_of_lt_of_le (Array.getElem?_eq_some_iff.1 HZ2.out).1 HB3.out.size) (by have:=dh.out; omega) (by have:=dh.out; omega)).trans ((HB3.out.block _ (Array.getElem?_eq_some_iff.1 HZ2.out).1).trans HZ2.out))
   have Wi:Hid (w4.heap[g]? =some (.cells n8 2 (0,0))):=Lib.hid ((zG.block _ (Array.getElem?_eq_some_iff.1 tY.out).1 (by have:=dh.out; have:=HGB.out; omega) (by have:=dh.out; have:=HGB.out; omega)).trans tY.out)
   obtain ⟨z,hz,hzI⟩:=ZK r' Jq
   have cz:w4.cell? ⟨g,r',none⟩=some (.int .i64 z):=(cZ Wi.out hz).2
   obtain ⟨⟨y0,y1,y2,y3⟩,fz⟩:=xW eO.out
   have f0:=fz 0
   have f1:=fz 1
   have f2:=fz 2
   have f3:=fz 3
   have LG:=Lib.hid ((HM.out.trans (Mk.of_below HB3.out)).trans zG)
   have HI4:=Lib.hid Gh
   have HZI:=Lib.hid hzI
   have av4:(0:Int)≤(r':Int):=by omega
   have av6:(r':Int) < 8:=by omega
   clear zG Gh hz hzI fz c0 hr0 hr1 hr2
   go_wp2_with fail
   obtain ⟨q1,q2,q3⟩:=Jk (.int .i64 1) (.int .i64 z) (.string ⟨#[]⟩) (.slice none 0 0) LG.out HI4.out dh.out
   exact bodyPost_ret (v:=exV 1 z ⟨#[]⟩ .nil none 0) (by simp [results,Tryz.results51,go_sem,exV,aH.len,y0,y1,y2,y3]) rfl (AB q1 q2 ⟨1,z,⟨#[]⟩,.nil,none,0,rfl,⟨⟨by unfold aV; decide,HZI.out.1,by unfold maxLen; decide,by unfold maxLen; decide⟩,(V8 HZI.out.2).mono (Nat.le_trans (by decide) (I8 _))⟩,fun _ _=>trivial⟩)
 ·have hB':(4≤k∧k < 8∧((d:Int) == 0)=false)∨(10≤k∧((d:Int) == 0)=true):=by
   rcases hB with ⟨⟨h1,h2⟩,h3 | h3⟩
   ·exact .inl ⟨h1,h3,by rw [beq_eq_false_iff_ne]; omega⟩
   ·exact .inr ⟨by omega,by simp [h3]⟩
  clear hB iN
  have K0: ∀w',dx w' T→w'.cell? ⟨T.bm,0,none⟩=some (.pointer (some ⟨T.bt,0,none⟩)):=fun w' h=>h.ptr
  have KN: ∀w',Mk T w2 w'→ ∀j,j < 10→ ∃s,w'.cell? ⟨w.heap.size + 1,j,none⟩=some (.string s)∧ny s:=fun w' h j hj=>by
   have hb:=(h.block _ (Array.getElem?_eq_some_iff.1 Xa.out).1 (by have:=dh.out; omega) (by have:=dh.out; omega)).trans Xa.out
   obtain ⟨s,h1,h2⟩:=VG j hj
   exact ⟨s,(cZ hb h1).2,h2⟩
  rcases hB' with ⟨hB1,hB2,hB3⟩ | ⟨hB1,hB2⟩
  all_goals
   go_upto_region 7 with fail
   have hd1:Mk T w2 (w2.drewN 1):=Mk.of_below (below_drewN (Below.refl _ _) 1)
   have hd2:dx (w2.drewN 1) T:=HI2.out.below (below_drewN (Below.refl _ _) 1)
   refine eG (by kernel_rfl) rfl ?_
   refine dS 0 18 [] [[],[],[1],[1,2],[1,2,3],[],[5],[1,2,3,4,5,6],[],[8],[8,9],[8,9,10],[1,2,3,4,5,6,7,8,9,10,11],[1,2,3,4,5,6,7,8,9,10,11,12],[1,2,3,4,5,6,7,8,9,10,11,12,13],[0,1,2,3,4,5,6,7,8,9,10,11,12,13,14],[0,1,2,3,4,5,6,7,8,9,10,11,12,13,14,15],[0,1,2,3,4,5,6,7,8,9,10,11,12,13,14,15,16],[0,1,2,3,4,5,6,7,8,9,10,11,12,13,14,15,16,17]] [[],[],[],[],[],[],[],[],[],[],[],[],[],[],[],[],[],[]] (fun _ w'=>Mk T w2 w'∧dx w' T) (fun w w'=>Mk T w w') [46,47,48,49,50,51,52,53,54,55,56,57,58,59,60,61,62,63] rfl rfl (by rfl) (by kernel_rfl) (by kernel_rfl) (by kernel_rfl) (by kernel_rfl) (by kernel_rfl) (by rfl) (fun _=>Mk.refl _ _) (by rfl) ⟨hd1,hd2⟩ ?_
   simp only [List.take_succ_cons,List.take_zero,List.drop_zero,List.drop_succ_cons,jW,List.map_cons,List.map_nil]
   apply aG.step
   case aF=>
    intro c A w' hok hC hO hD
    have e5:=hO 5 (by rfl)
    simp [Act.eval] at e5
    simp [aC,aB,au,Act.eval,Region.binds] at hD
    simp [go_sem,gd,Oper.wp,hD,e5]
    exact aA.mk (Mk.refl _ _) hC (aB.mk _ _)
   apply aG.step
   case aF=>
    intro c A w' hok hC hO hD
    have e0:=hO 0 (by rfl)
    simp [Act.eval] at e0
    simp [aC,aB,au,Act.eval,Region.binds] at hD
    simp [go_sem,gd,Oper.wp,hD,e0]
    exact aA.mk (Mk.refl _ _) hC (aB.mk _ _)
   apply aG.step
   case aF=>
    intro c A w' hok hC hO hD
    simp [aC,aB,au,Act.eval,Region.binds] at hD
    simp [go_sem,gd,Oper.wp,hD]
    exact aA.mk (Mk.refl _ _) hC (aB.mk _ _)
   apply aG.step
   case aF=>
    intro c A w' hok hC hO hD
    simp [aC,aB,au,Act.eval,Region.binds] at hD
    simp [go_sem,gd,Oper.wp,hD]
    exact aA.mk (Mk.refl _ _) hC (aB.mk _ _)
   simp only [List.nil_append,List.cons_append]
   apply aG.step
   case aF=>
    intro c A w' hok hC hO hD
    simp [aC,aB,au,Act.eval,Region.binds] at hD
    simp [go_sem,gd,Oper.wp,hD,K0,hC.2]
    exact aA.mk (Mk.refl _ _) hC (aB.mk _ _)
   apply aG.step
   case aF=>
    intro c A w' hok hC hO hD
    have e5:=hO 5 (by rfl)
    simp [Act.eval] at e5
    simp [aC,aB,au,Act.eval,Region.binds] at hD
    simp [go_sem,gd,Oper.wp,hD,e5]
    exact aA.mk (Mk.refl _ _) hC (aB.mk _ _)
   apply aG.step
   case aF=>
    intro c A w' hok hC hO hD
    simp [aC,aB,au,Act.eval,Region.binds] at hD
    simp [go_sem,gd,Oper.wp,hD]
    exact aA.mk (Mk.refl _ _) hC (aB.mk _ _)
   simp only [List.nil_append,List.cons_append]
   refine aG.some (fun v _=> ∃r:Nat,v= .int .i64 (r:Int)∧r < 10) (fun _ _ _ _ h=>h) ?_ ?_
   ·intro c A w' hok hC hO hD
    simp [aC,aB,au,Act.eval,Region.binds] at hD
    simp [go_sem,gd,Oper.wp,hD]
    refine (dH T 10 w' (by unfold aV; decide) hC.2).mono ?_
    rintro e w2 ⟨r,rfl,h0,h1,-,hM,hI⟩
    obtain ⟨r',rfl⟩:=Int.eq_ofNat_of_zero_le h0
    exact aA.mk hM ⟨hC.1.trans hM,hI⟩ ⟨r',rfl,by have:=h1 (by decide); omega⟩
   simp only [List.nil_append,List.cons_append]
   apply aG.step
   case aF=>
    intro c A w' hok hC hO hD
    have e0:=hO 0 (by rfl)
    simp [Act.eval] at e0
    simp [aC,aB,au,Act.eval,Region.binds] at hD
    simp [go_sem,gd,Oper.wp,hD,e0]
    exact aA.mk (Mk.refl _ _) hC (aB.mk _ _)
   apply aG.step
   case aF=>
    intro c A w' hok hC hO hD
    simp [aC,aB,au,Act.eval,Region.binds] at hD
    simp [go_sem,gd,Oper.wp,hD]
    exact aA.mk (Mk.refl _ _) hC (aB.mk _ _)
   apply aG.step
   case aF=>
    intro c A w' hok hC hO hD
    simp [aC,aB,au,Act.eval,Region.binds] at hD
    simp [go_sem,gd,Oper.wp,hD]
    exact aA.mk (Mk.refl _ _) hC (aB.mk _ _)
   simp only [List.nil_append,List.cons_append]
   apply aG.step
   case aF=>
    intro c A w' hok hC hO hD
    simp [aC,aB,au,Act.eval,Region.binds] at hD
    simp [go_sem,gd,Oper.wp,hD,K0,hC.2]
    exact aA.mk (Mk.refl _ _) hC (aB.mk _ _)
   refine aG.some (fun v _=> ∃r:Nat,v= .int .i64 (r:Int)∧r < 8) (fun _ _ _ _ h=>h) ?_ ?_
   ·intro c A w' hok hC hO hD
    simp [aC,aB,au,Act.eval,Region.binds] at hD
    simp [go_sem,gd,Oper.wp,hD]
    refine (dH T 8 w' (by unfold aV; decide) hC.2).mono ?_
    rintro e w2 ⟨r,rfl,h0,h1,-,hM,hI⟩
    obtain ⟨r',rfl⟩:=Int.eq_ofNat_of_zero_le h0
    exact aA.mk hM ⟨hC.1.trans hM,hI⟩ ⟨r',rfl,by have:=h1 (by decide); omega⟩
   simp only [List.nil_append,List.cons_append]
   refine aG.some (fun v w'=> ∃r:Nat,v= .int .i64 (r:Int)∧3≤r∧r≤10) (fun _ _ _ _ h=>h) ?_ ?_
   ·intro c A w' hok hC hO hD
    simp [aC,aB,au,Act.eval,Region.binds] at hD
    obtain ⟨r,hr,Jq⟩:=hD
    have hw:IntKind.i64.wrap (3 + (r:Int))=3 + r:=IntWalk.i64_in _ (by omega)
    simp [go_sem,gd,Oper.wp,hr,hw]
    exact aA.mk (Mk.refl _ _) hC (⟨3 + r,by simp,by omega,by omega⟩)
   simp only [List.nil_append,List.cons_append]
   refine aG.some (fun v w'=> ∃r:Nat,v= .int .i64 (r:Int)∧r < 10) (fun _ _ _ _ h=>h) ?_ ?_
   ·intro c A w' hok hC hO hD
    simp [aC,aB,au,Act.eval,Region.binds] at hD
    obtain ⟨⟨r,hr,h1⟩,s,hs,h2,h3⟩:=hD
    have hs2:s≠0:=by omega
    simp [go_sem,gd,Oper.wp,hr,hs,hs2]
    exact aA.mk (Mk.refl _ _) hC (⟨r % s,rfl,Nat.lt_of_le_of_lt (Nat.mod_le _ _) h1⟩)
   refine aG.some (fun v w'=> ∃r:Nat,v= .pointer (some ⟨w.heap.size + 1,r,none⟩)∧r < 10) (fun _ _ _ _ h=>h) ?_ ?_
   ·intro c A w' hok hC hO hD
    simp [aC,aB,au,Act.eval,Region.binds] at hD
    obtain ⟨h46,r,hr,h1⟩:=hD
    have hb0:(0:Int)≤(r:Int):=by omega
    have hb1:(r:Int) < 10:=by omega
    simp [go_sem,gd,Oper.wp,h46,hr,hb0,hb1]
    exact aA.mk (Mk.refl _ _) hC (⟨r,rfl,h1⟩)
   simp only [List.nil_append,List.cons_append]
   refine aG.some (fun v w'=> ∃s:ByteArray,v= .string s∧ny s) (fun _ _ _ _ h=>h) ?_ ?_
   ·intro c A w' hok hC hO hD
    simp [aC,aB,au,Act.eval,Region.binds] at hD
    obtain ⟨r,hr,h1⟩:=hD
    obtain ⟨s,hs,hsz⟩:=KN w' hC.1 r h1
    simp [go_sem,gd,Oper.wp,hr,hs]
    exact aA.mk (Mk.refl _ _) hC (⟨s,rfl,hsz⟩)
   refine aG.some (fun v _=> ∃s:ByteArray,v=exV 2 0 s .nil none 0∧ny s) (fun _ _ _ _ h=>h) ?_ ?_
   ·intro c A w' hok hC hO hD
    simp [aC,aB,au,Act.eval,Region.binds] at hD
    obtain ⟨⟨s,hs,hsz⟩,-⟩:=hD
    simp [go_sem,gd,Oper.wp,hs]
    refine (QH s w').mono ?_
    rintro e w3 ⟨rfl,hb⟩
    exact aA.mk (Mk.of_below hb) ⟨hC.1.trans (Mk.of_below hb),hC.2.below hb⟩ ⟨s,rfl,hsz⟩
   simp only [List.nil_append,List.cons_append]
   refine aG.done ?_
   intro wz fT
   simp only [List.drop_zero]
   intro v0 h0 v1 h1 v2 h2 v3 h3 v4 h4 v5 h5 v6 h6 v7 h7 v8 h8 v9 h9 v10 h10 v11 h11 v12 h12 v13 BU v14 Gj v15 Ma v16 h16 v17 OE
   obtain ⟨s,rfl,hsz⟩:=OE
   clear h0 h1 h2 h3 h4 h5 h6 h7 h8 h9 h10 h11 h12 BU Gj Ma h16 K0 KN hd1 hd2
   refine dU.nil ?_
   go_simp
   have Qc:Hid (wz.heap[w.heap.size]? =some (.cells tL 45 (0,0))):=Lib.hid ((fT.1.block _ (Array.getElem?_eq_some_iff.1 HZ2.out).1 (by have:=dh.out; omega) (by have:=dh.out; omega)).trans HZ2.out)
   obtain ⟨⟨y0,y1,y2,y3⟩,fz⟩:=xW Qc.out
   have f0:=fz 0
   have f1:=fz 1
   have f2:=fz 2
   have f3:=fz 3
   have OB:=Lib.hid (HM.out.trans fT.1)
   have Pb:=Lib.hid fT.2
   clear fz fT
   unfold exV
   refine iW 18 [[],[],[1],[1,2],[1,2,3],[],[5],[1,2,3,4,5,6],[],[8],[8,9],[8,9,10],[1,2,3,4,5,6,7,8,9,10,11],[1,2,3,4,5,6,7,8,9,10,11,12],[1,2,3,4,5,6,7,8,9,10,11,12,13],[0,1,2,3,4,5,6,7,8,9,10,11,12,13,14],[0,1,2,3,4,5,6,7,8,9,10,11,12,13,14,15],[0,1,2,3,4,5,6,7,8,9,10,11,12,13,14,15,16],[0,1,2,3,4,5,6,7,8,9,10,11,12,13,14,15,16,17]] rfl rfl rfl rfl rfl (by kernel_rfl) (by kernel_rfl) (by kernel_rfl) ?_
   simp [go_sem,Oper.wp,y0,y1,y2,y3,f0,f1,f2,f3,aH.len]
   refine fU rfl ?_
   go_simp
   go_wp2_with fail
   obtain ⟨q1,q2,q3⟩:=Jk (.int .i64 2) (.int .i64 0) (.string s) (.slice none 0 0) OB.out Pb.out dh.out
   exact bodyPost_ret (v:=exV 2 0 s .nil none 0) (by simp [results,Tryz.results51,go_sem,exV,aH.len,y0,y1,y2,y3]) rfl (AB q1 q2 ⟨2,0,s,.nil,none,0,rfl,⟨⟨by unfold aV; decide,by unfold aV; decide,hsz.1,by unfold maxLen; decide⟩,(Y3 hsz.2).mono (Nat.le_trans (by decide) (I8 _))⟩,fun _ _=>trivial⟩)
 ·have Za:Hid (GE (d - 1) + GE (d - 1) + 60≤GE d):=Lib.hid (by
   obtain ⟨d',rfl⟩: ∃d',d=d' + 1:=⟨d - 1,by omega⟩
   exact ZA d')
  have HX:Hid (∀w,dx w T→Calls Tryz.prog 51 #[.pointer (some ⟨T.bm,0,none⟩),.int .i64 ((d:Int) - 1)] w (LZ T (GE (d - 1)) w)):=Lib.hid (by
   obtain ⟨d',rfl⟩: ∃d',d=d' + 1:=⟨d - 1,by omega⟩
   have:=iN.out d' rfl
   unfold vP at this
   rw [Int.toNat_natCast] at this
   rw [show ((d' + 1:Nat):Int) - 1=(d':Int) by omega]; exact this)
  have hdz:((d:Int) == 0)=false:=by rw [beq_eq_false_iff_ne]; omega
  have hd0:0 < d:=by omega
  have HW2:Hid (w.heap.size + 1≤w2.heap.size):=Lib.hid (by have:=(Array.getElem?_eq_some_iff.1 HZ2.out).1; omega)
  have HC:=Lib.hid hC
  clear hC iN Xa
  have K0: ∀w',dx w' T→w'.cell? ⟨T.bm,0,none⟩=some (.pointer (some ⟨T.bt,0,none⟩)):=fun w' h=>h.ptr
  have hwd:IntKind.i64.wrap ((d:Int) - 1)=(d:Int) - 1:=IntWalk.i64_in _ (by omega)
  have Wd:k=8∨(9≤k∧k < 11)∨11≤k:=by have:=HC.out; omega
  rcases Wd with rfl | ⟨hk9,hk10⟩ | av8
  ·go_upto_region 9 with fail
   have hd1:Mk T w2 (w2.drewN 1):=Mk.of_below (below_drewN (Below.refl _ _) 1)
   have hd2:dx (w2.drewN 1) T:=HI2.out.below (below_drewN (Below.refl _ _) 1)
   refine eG (by kernel_rfl) rfl ?_
   refine dS 0 14 [] [[],[],[1],[1,2],[1,2,3],[1,2,3,4],[0,1,2,3,4,5],[0,1,2,3,4,5,6],[],[],[9],[1,2,3,4,5,8,9,10],[1,2,3,4,5,8,9,10,11],[0,1,2,3,4,5,6,7,8,9,10,11,12],[0,1,2,3,4,5,6,7,8,9,10,11,12,13]] [[],[],[],[],[],[],[],[],[],[],[],[],[],[]] (fun _ w'=>Mk T w2 w'∧dx w' T) (fun w w'=>Mk T w w') [67,68,69,70,71,72,73,74,75,76,77,78,79,80] rfl rfl (by rfl) (by kernel_rfl) (by kernel_rfl) (by kernel_rfl) (by kernel_rfl) (by kernel_rfl) (by rfl) (fun _=>Mk.refl _ _) (by rfl) ⟨hd1,hd2⟩ ?_
   simp only [List.take_succ_cons,List.take_zero,List.drop_zero,List.drop_succ_cons,jW,List.map_cons,List.map_nil]
   refine aG.some (fun v w'=> ∃g,v= .slice (some ⟨g,0,none⟩) 5 5∧w2.heap.size≤g∧w'.heap[g]? =some (.cells Z9 9 (0,0))) ?_ ?_ ?_
   ·rintro v w1 w' hle ⟨g,h1,h2,h3⟩
    exact ⟨g,h1,h2,(hle.block g (Array.getElem?_eq_some_iff.1 h3).1 (by have:=dh.out; have:=HW2.out; omega) (by have:=dh.out; have:=HW2.out; omega)).trans h3⟩
   ·intro c A w' hok hC hO hD
    simp [go_sem,gd,Oper.wp]
    exact aA.mk (d:=_) (v:= .slice (some ⟨_,0,none⟩) 5 5) (Mk.of_below (ah _ _)) ⟨hC.1.trans (Mk.of_below (ah _ _)),hC.2.below (ah _ _)⟩ ⟨_,rfl,hC.1.size,heap_alloc_new _ _⟩
   simp only [List.nil_append,List.cons_append]
   apply aG.step
   case aF=>
    intro c A w' hok hC hO hD
    have e0:=hO 0 (by rfl)
    simp [Act.eval] at e0
    simp [aC,aB,au,Act.eval,Region.binds] at hD
    simp [go_sem,gd,Oper.wp,hD,e0]
    exact aA.mk (Mk.refl _ _) hC (aB.mk _ _)
   apply aG.step
   case aF=>
    intro c A w' hok hC hO hD
    simp [aC,aB,au,Act.eval,Region.binds] at hD
    simp [go_sem,gd,Oper.wp,hD]
    exact aA.mk (Mk.refl _ _) hC (aB.mk _ _)
   apply aG.step
   case aF=>
    intro c A w' hok hC hO hD
    simp [aC,aB,au,Act.eval,Region.binds] at hD
    simp [go_sem,gd,Oper.wp,hD]
    exact aA.mk (Mk.refl _ _) hC (aB.mk _ _)
   simp only [List.nil_append,List.cons_append]
   apply aG.step
   case aF=>
    intro c A w' hok hC hO hD
    simp [aC,aB,au,Act.eval,Region.binds] at hD
    simp [go_sem,gd,Oper.wp,hD,K0,hC.2]
    exact aA.mk (Mk.refl _ _) hC (aB.mk _ _)
   refine aG.some (fun v _=> ∃r:Nat,v= .int .i64 (r:Int)∧r < 5) (fun _ _ _ _ h=>h) ?_ ?_
   ·intro c A w' hok hC hO hD
    simp [aC,aB,au,Act.eval,Region.binds] at hD
    simp [go_sem,gd,Oper.wp,hD]
    refine (dH T 5 w' (by unfold aV; decide) hC.2).mono ?_
    rintro e w2 ⟨r,rfl,h0,h1,-,hM,hI⟩
    obtain ⟨r',rfl⟩:=Int.eq_ofNat_of_zero_le h0
    exact aA.mk hM ⟨hC.1.trans hM,hI⟩ ⟨r',rfl,by have:=h1 (by decide); omega⟩
   simp only [List.nil_append,List.cons_append]
   refine aG.some (fun v w'=> ∃(g r:Nat),v= .pointer (some ⟨g,r,none⟩)∧r < 5∧w2.heap.size≤g∧w'.heap[g]? =some (.cells Z9 9 (0,0))) (fun v w1 w' hle ⟨g,r,h1,h1',h2,h3⟩=>⟨g,r,h1,h1',h2,(hle.block g (Array.getElem?_eq_some_iff.1 h3).1 (by have:=dh.out; have:=HW2.out; omega) (by have:=dh.out; have:=HW2.out; omega)).trans h3⟩) ?_ ?_
   ·intro c A w' hok hC hO hD
    simp [aC,aB,au,Act.eval,Region.binds] at hD
    obtain ⟨⟨g,hg,hg1,hg2⟩,r,hr,h1⟩:=hD
    have hb0:(0:Int)≤(r:Int):=by omega
    have hb1:(r:Int) < 5:=by omega
    simp [go_sem,gd,Oper.wp,hg,hr,hb0,hb1]
    exact aA.mk (Mk.refl _ _) hC (⟨g,r,rfl,h1,hg1,hg2⟩)
   simp only [List.nil_append,List.cons_append]
   refine aG.some (fun v w'=> ∃s:ByteArray,v= .string s∧ny s) (fun _ _ _ _ h=>h) ?_ ?_
   ·intro c A w' hok hC hO hD
    simp [aC,aB,au,Act.eval,Region.binds] at hD
    obtain ⟨g,r,hr,h1,hg1,hg2⟩:=hD
    obtain ⟨s,hs,hsz⟩:=Ye r h1
    simp [go_sem,gd,Oper.wp,hr,(cZ hg2 hs).2]
    exact aA.mk (Mk.refl _ _) hC (⟨s,rfl,hsz⟩)
   apply aG.step
   case aF=>
    intro c A w' hok hC hO hD
    have e0:=hO 0 (by rfl)
    simp [Act.eval] at e0
    simp [aC,aB,au,Act.eval,Region.binds] at hD
    simp [go_sem,gd,Oper.wp,hD,e0]
    exact aA.mk (Mk.refl _ _) hC (aB.mk _ _)
   apply aG.step
   case aF=>
    intro c A w' hok hC hO hD
    have e1:=hO 1 (by rfl)
    simp [Act.eval] at e1
    simp [aC,aB,au,Act.eval,Region.binds] at hD
    simp [go_sem,gd,Oper.wp,hD,e1]
    exact aA.mk (Mk.refl _ _) hC (aB.mk _ _)
   simp only [List.nil_append,List.cons_append]
   apply aG.step
   case aF=>
    intro c A w' hok hC hO hD
    simp [aC,aB,au,Act.eval,Region.binds] at hD
    simp [go_sem,gd,Oper.wp,hD,hwd]
    exact aA.mk (Mk.refl _ _) hC (aB.mk _ _)
   refine aG.some (fun v w'=>EX (GE (d - 1)) w2.heap.size v w') (fun v w1 w' hle h=>h.next (hle.xY (by have:=dh.out; have:=HW2.out; omega) (by have:=dh.out; have:=HW2.out; omega))) ?_ ?_
   ·intro c A w' hok hC hO hD
    simp [aC,aB,au,Act.eval,Region.binds] at hD
    simp [go_sem,gd,Oper.wp,hD]
    refine (HX.out w' hC.2).mono ?_
    intro e w3 hp
    obtain ⟨v,rfl,h1,h2,h3⟩:=pY hp
    exact aA.mk h2 ⟨hC.1.trans h2,h3⟩ (h1.mono hC.1.size)
   simp only [List.nil_append,List.cons_append]
   refine aG.some (fun v w'=>XS (GE (d - 1)) w2.heap.size 1 v w') (fun v w1 w' hle h=>h.next (hle.xY (by have:=dh.out; have:=HW2.out; omega) (by have:=dh.out; have:=HW2.out; omega))) ?_ ?_
   ·intro c A w' hok hC hO hD
    simp [aC,aB,au,Act.eval,Region.binds] at hD
    obtain ⟨op,n,nm,kids,ao,cap,hv,hok',hst⟩:=hD
    unfold exV at hv
    simp [go_sem,gd,Oper.wp,hv]
    exact aA.mk (d:=_) (v:= .slice (some ⟨_,0,none⟩) 1 1) (Mk.of_below (ah _ _)) ⟨hC.1.trans (Mk.of_below (ah _ _)),hC.2.below (ah _ _)⟩ ⟨.cons op n nm kids .nil,some ⟨_,0,none⟩,1,rfl,⟨rfl,ze hok'.2⟩,nO (heap_alloc_new _ _) hC.1.size hok'.1 (hst.next (aK (ah _ _)))⟩
   refine aG.some (fun v w'=>EX (GE d) w2.heap.size v w') (fun v w1 w' hle h=>h.next (hle.xY (by have:=dh.out; have:=HW2.out; omega) (by have:=dh.out; have:=HW2.out; omega))) ?_ ?_
   ·intro c A w' hok hC hO hD
    simp [aC,aB,au,Act.eval,Region.binds] at hD
    obtain ⟨⟨s,hs,hsz⟩,l,ao,cap,hv,hl,hst⟩:=hD
    simp [go_sem,gd,Oper.wp,hs,hv]
    exact aA.mk (Mk.refl _ _) hC ⟨3,0,s,l,ao,cap,rfl,⟨⟨by unfold aV; decide,by unfold aV; decide,hsz.1,by rw [hl.1]; unfold maxLen; decide⟩,(V7 hsz.2 hl.1 hl.2).mono (by have:=Za.out; omega)⟩,hst⟩
   simp only [List.nil_append,List.cons_append]
   refine aG.done ?_
   intro wz fT
   simp only [List.drop_zero]
   intro v0 h0 v1 h1 v2 h2 v3 h3 v4 h4 v5 h5 v6 h6 v7 h7 v8 h8 v9 h9 v10 h10 v11 h11 v12 h12 v13 BU
   obtain ⟨op,n,nm,kids,ao,cap,rfl,hok,hst⟩:=BU
   clear h0 h1 h2 h3 h4 h5 h6 h7 h8 h9 h10 h11 h12 K0 hd1 hd2 hwd
   refine dU.nil ?_
   go_simp
   have Qc:Hid (wz.heap[w.heap.size]? =some (.cells tL 45 (0,0))):=Lib.hid ((fT.1.block _ (Array.getElem?_eq_some_iff.1 HZ2.out).1 (by have:=dh.out; omega) (by have:=dh.out; omega)).trans HZ2.out)
   obtain ⟨⟨y0,y1,y2,y3⟩,fz⟩:=xW Qc.out
   have f0:=fz 0
   have f1:=fz 1
   have f2:=fz 2
   have f3:=fz 3
   have OB:=Lib.hid (HM.out.trans fT.1)
   have Pb:=Lib.hid fT.2
   have fH:=Lib.hid hok
   have HST:=Lib.hid (bD.mono hst HW2.out)
   clear fz fT hok hst
   unfold exV
   refine iW 14 [[],[],[1],[1,2],[1,2,3],[1,2,3,4],[0,1,2,3,4,5],[0,1,2,3,4,5,6],[],[],[9],[1,2,3,4,5,8,9,10],[1,2,3,4,5,8,9,10,11],[0,1,2,3,4,5,6,7,8,9,10,11,12],[0,1,2,3,4,5,6,7,8,9,10,11,12,13]] rfl rfl rfl rfl rfl (by kernel_rfl) (by kernel_rfl) (by kernel_rfl) ?_
   simp [go_sem,Oper.wp,y0,y1,y2,y3,f0,f1,f2,f3]
   refine fU rfl ?_
   go_simp
   go_wp2_with fail
   obtain ⟨q1,q2,q3⟩:=Jk (.int .i64 op) (.int .i64 n) (.string nm) (.slice ao kids.len cap) OB.out Pb.out dh.out
   exact bodyPost_ret (v:=exV op n nm kids ao cap) (by simp [results,Tryz.results51,go_sem,exV,y0,y1,y2,y3]) rfl (AB q1 q2 ⟨op,n,nm,kids,ao,cap,rfl,fH.out,(HST.out.next q3).mono (Nat.le_succ _)⟩)
  ·have al3:(k == 8)=false:=by rw [beq_eq_false_iff_ne]; omega
   have c0:=HI2.out.ptr
   clear K0 hwd
   go_wp2_with fail
   refine (dH T 2 _ (by unfold aV; decide) HI2.out).mono ?_
   rintro e w3 ⟨r,rfl,hr0,hr1,hr2,vV,Bg⟩
   have hr3:r < 2:=hr1 (by decide)
   have HI3:=Lib.hid Bg
   have Wz:=Lib.hid (HM.out.trans vV)
   have JY:=Lib.hid vV
   clear vV Bg hr1 hr2 c0
   go_wp2_with fail
   refine (HX.out _ HI3.out).mono ?_
   intro e w4 hp
   obtain ⟨v,rfl,hex,zG,Gh⟩:=pY hp
   obtain ⟨op,n,nm,kids,ao,cap,rfl,hok,hst⟩:=hex
   have LG:=Lib.hid (Wz.out.trans zG)
   have fH:=Lib.hid hok
   have HST:=Lib.hid (hst.mono (Nat.le_trans HW2.out JY.out.size))
   have HI4:=Lib.hid Gh
   have eO:Hid (w4.heap[w.heap.size]? =some (.cells tL 45 (0,0))):=Lib.hid (((JY.out.trans zG).block _ (Array.getElem?_eq_some_iff.1 HZ2.out).1 (by have:=dh.out; omega) (by have:=dh.out; omega)).trans HZ2.out)
   have HW4:Hid (w.heap.size + 1≤w4.heap.size):=Lib.hid (by have:=(Array.getElem?_eq_some_iff.1 eO.out).1; omega)
   clear hp hok hst zG Gh
   obtain ⟨⟨y0,y1,y2,y3⟩,fz⟩:=xW eO.out
   have f0:=fz 0
   have f1:=fz 1
   have f2:=fz 2
   have f3:=fz 3
   have Ik:w.heap.size < w4.heap.size:=HW4.out
   clear fz
   unfold exV
   go_wp2_with fail
   have HF:=Lib.hid (aa0 (q':=GE d) (by have:=Za.out; omega) (a:=4 + r) (cap:=cap) (t:=45) LG.out HI4.out dh.out (show 4 + r=4∨4 + r=5 by omega) fH.out HST.out HW4.out)
   exact bodyPost_ret (v:=exV (4 + r) 0 ⟨#[]⟩ (.cons op n nm kids .nil) (some ⟨w4.heap.size,0,none⟩) 1) (by simp [results,Tryz.results51,go_sem,exV,aH.len,y0,y1,y2,y3,Ik]) rfl HF.out
  ·have al3:(k == 8)=false:=by rw [beq_eq_false_iff_ne]; omega
   have c0:=HI2.out.ptr
   go_wp2_with fail
   refine (dH T 13 _ (by unfold aV; decide) HI2.out).mono ?_
   rintro e w3 ⟨r,rfl,hr0,hr1,hr2,vV,Bg⟩
   have hr3:r < 13:=hr1 (by decide)
   have HI3:=Lib.hid Bg
   have Wz:=Lib.hid (HM.out.trans vV)
   have JY:=Lib.hid vV
   clear vV Bg hr1 hr2 c0
   go_wp2_with fail
   refine (HX.out _ HI3.out).mono ?_
   intro e w4 hp
   obtain ⟨v,rfl,hex,zG,Gh⟩:=pY hp
   obtain ⟨op,n,nm,kids,ao,cap,rfl,hok,hst⟩:=hex
   have LG:=Lib.hid (Wz.out.trans zG)
   have fH:=Lib.hid hok
   have HST:=Lib.hid (hst.mono (Nat.le_trans HW2.out JY.out.size))
   have HI4:=Lib.hid Gh
   have eO:Hid (w4.heap[w.heap.size]? =some (.cells tL 45 (0,0))):=Lib.hid (((JY.out.trans zG).block _ (Array.getElem?_eq_some_iff.1 HZ2.out).1 (by have:=dh.out; omega) (by have:=dh.out; omega)).trans HZ2.out)
   clear hp hok hst zG Gh
   unfold exV
   go_upto_region 14 with fail
   obtain ⟨ga,hga⟩: ∃g,w4.heap.size=g:=⟨_,rfl⟩
   generalize pW:World.alloc w4 _=W5
   have jg:Hid (Below w4.heap.size w4 W5):=Lib.hid (by rw [← pW]; exact ah _ _)
   have HA5:Hid (W5.heap[ga]? =some (.cells #[.int .i64 op,.int .i64 n,.string nm,.slice ao kids.len cap] 45 (0,0))):=Lib.hid (by rw [← pW,← hga]; exact heap_alloc_new _ _)
   have Tx:=Lib.hid (HI4.out.below jg.out)
   have Uo:=Lib.hid (LG.out.trans (Mk.of_below jg.out))
   have gK:Hid (W5.heap[w.heap.size]? =some (.cells tL 45 (0,0))):=Lib.hid ((jg.out.block _ (Array.getElem?_eq_some_iff.1 eO.out).1).trans eO.out)
   have ao6:=Lib.hid (HST.out.next (aK jg.out))
   have ou:Hid (w.heap.size < ga):=Lib.hid (by rw [← hga]; exact (Array.getElem?_eq_some_iff.1 eO.out).1)
   have HW5:Hid (w.heap.size + 1≤W5.heap.size):=Lib.hid (by have:=(Array.getElem?_eq_some_iff.1 gK.out).1; omega)
   rw [hga]
   clear pW hga jg eO HST LG HI4
   have KA: ∀w',Mk T W5 w'→w'.heap[ga]? =some (.cells #[.int .i64 op,.int .i64 n,.string nm,.slice ao kids.len cap] 45 (0,0)):=fun w' h=>(h.block _ (Array.getElem?_eq_some_iff.1 HA5.out).1 (by have:=dh.out; have:=ou.out; omega) (by have:=dh.out; have:=ou.out; omega)).trans HA5.out
   have KA0: ∀w',Mk T W5 w'→w'.cell? ⟨ga,0,none⟩=some (.int .i64 op):=fun w' h=>(cZ (KA w' h) (j:=0) rfl).2
   have KA1: ∀w',Mk T W5 w'→w'.cell? ⟨ga,1,none⟩=some (.int .i64 n):=fun w' h=>(cZ (KA w' h) (j:=1) rfl).2
   have KA2: ∀w',Mk T W5 w'→w'.cell? ⟨ga,2,none⟩=some (.string nm):=fun w' h=>(cZ (KA w' h) (j:=2) rfl).2
   have KA3: ∀w',Mk T W5 w'→w'.cell? ⟨ga,3,none⟩=some (.slice ao kids.len cap):=fun w' h=>(cZ (KA w' h) (j:=3) rfl).2
   have hd1:Mk T W5 (W5.drewN 1):=Mk.of_below (below_drewN (Below.refl _ _) 1)
   have hd2:dx (W5.drewN 1) T:=Tx.out.below (below_drewN (Below.refl _ _) 1)
   clear KA
   refine eG (by kernel_rfl) rfl ?_
   refine dS 0 7 [] [[],[],[],[],[3],[2,3,4],[0,1,2,3,4,5],[0,1,2,3,4,5,6]] [[],[],[],[],[],[],[]] (fun _ w'=>Mk T W5 w'∧dx w' T) (fun w w'=>Mk T w w') [106,107,108,109,110,111,112] rfl rfl (by rfl) (by kernel_rfl) (by kernel_rfl) (by kernel_rfl) (by kernel_rfl) (by kernel_rfl) (by rfl) (fun _=>Mk.refl _ _) (by rfl) ⟨hd1,hd2⟩ ?_
   simp only [List.take_succ_cons,List.take_zero,List.drop_zero,List.drop_succ_cons,jW,List.map_cons,List.map_nil]
   apply aG.step
   case aF=>
    intro c A w' hok hC hO hD
    have e8:=hO 8 (by rfl)
    simp [Act.eval] at e8
    simp [aC,aB,au,Act.eval,Region.binds] at hD
    simp [go_sem,gd,Oper.wp,hD,e8]
    exact aA.mk (Mk.refl _ _) hC (aB.mk _ _)
   apply aG.step
   case aF=>
    intro c A w' hok hC hO hD
    have e9:=hO 9 (by rfl)
    simp [Act.eval] at e9
    simp [aC,aB,au,Act.eval,Region.binds] at hD
    simp [go_sem,gd,Oper.wp,hD,e9,KA0,KA1,KA2,KA3,hC.1]
    exact aA.mk (Mk.refl _ _) hC (aB.mk _ _)
   apply aG.step
   case aF=>
    intro c A w' hok hC hO hD
    have e0:=hO 0 (by rfl)
    simp [Act.eval] at e0
    simp [aC,aB,au,Act.eval,Region.binds] at hD
    simp [go_sem,gd,Oper.wp,hD,e0]
    exact aA.mk (Mk.refl _ _) hC (aB.mk _ _)
   apply aG.step
   case aF=>
    intro c A w' hok hC hO hD
    have e1:=hO 1 (by rfl)
    simp [Act.eval] at e1
    simp [aC,aB,au,Act.eval,Region.binds] at hD
    simp [go_sem,gd,Oper.wp,hD,e1]
    exact aA.mk (Mk.refl _ _) hC (aB.mk _ _)
   simp only [List.nil_append,List.cons_append]
   apply aG.step
   case aF=>
    intro c A w' hok hC hO hD
    simp [aC,aB,au,Act.eval,Region.binds] at hD
    simp [go_sem,gd,Oper.wp,hD,hwd]
    exact aA.mk (Mk.refl _ _) hC (aB.mk _ _)
   refine aG.some (fun v w'=>EX (GE (d - 1)) (w.heap.size + 1) v w') (fun v w1 w' hle h=>h.next (hle.xY (by have:=dh.out; omega) (by have:=dh.out; omega))) ?_ ?_
   ·intro c A w' hok hC hO hD
    simp [aC,aB,au,Act.eval,Region.binds] at hD
    simp [go_sem,gd,Oper.wp,hD]
    refine (HX.out w' hC.2).mono ?_
    intro e w3 hp
    obtain ⟨v,rfl,h1,h2,h3⟩:=pY hp
    exact aA.mk h2 ⟨hC.1.trans h2,h3⟩ (h1.mono (Nat.le_trans HW5.out hC.1.size))
   simp only [List.nil_append,List.cons_append]
   refine aG.some (fun v w'=>EX (GE d) (w.heap.size + 1) v w') (fun v w1 w' hle h=>h.next (hle.xY (by have:=dh.out; omega) (by have:=dh.out; omega))) ?_ ?_
   ·intro c A w' hok hC hO hD
    simp [aC,aB,au,Act.eval,Region.binds] at hD
    obtain ⟨an6,al5,op',n',nm',fP,gM,cap',hv,hok',hst'⟩:=hD
    unfold exV at hv
    simp [go_sem,gd,Oper.wp,an6,al5,hv]
    refine (ND (6 + r) op n nm kids ao cap op' n' nm' fP gM cap' w').mono ?_
    rintro e w6 ⟨g,rfl,hg,hcell,hb⟩
    refine aA.mk (Mk.of_below hb) ⟨hC.1.trans (Mk.of_below hb),hC.2.below hb⟩ ⟨6 + r,0,⟨#[]⟩,.cons op n nm kids (.cons op' n' nm' fP .nil),some ⟨g,0,none⟩,2,rfl,⟨⟨by unfold aV; omega,by unfold aV; decide,by unfold maxLen; decide,by simp [aH.len,maxLen]⟩,(Vd hr0 hr3 fH.out.2 hok'.2).mono Za.out⟩,Ru hcell (Nat.le_trans (Nat.le_trans HW5.out hC.1.size) hg) fH.out.1 ?_ hok'.1 (hst'.next (aK hb))⟩
    exact ao6.out.next (((hC.1).xY (by have:=dh.out; omega) (by have:=dh.out; omega)).trans (aK hb))
   simp only [List.nil_append,List.cons_append]
   refine aG.done ?_
   intro wz fT
   simp only [List.drop_zero]
   intro v0 h0 v1 h1 v2 h2 v3 h3 v4 h4 v5 h5 v6 h6
   obtain ⟨op',n',nm',fP,gM,cap',rfl,hok,hst⟩:=h6
   clear h0 h1 h2 h3 h4 h5 K0 hd1 hd2 hwd KA0 KA1 KA2 KA3
   refine dU.nil ?_
   go_simp
   have Qc:Hid (wz.heap[w.heap.size]? =some (.cells tL 45 (0,0))):=Lib.hid ((fT.1.block _ (Array.getElem?_eq_some_iff.1 gK.out).1 (by have:=dh.out; omega) (by have:=dh.out; omega)).trans gK.out)
   obtain ⟨⟨y0,y1,y2,y3⟩,fz⟩:=xW Qc.out
   have f0:=fz 0
   have f1:=fz 1
   have f2:=fz 2
   have f3:=fz 3
   have OB:=Lib.hid (Uo.out.trans fT.1)
   have Pb:=Lib.hid fT.2
   have am4:=Lib.hid hok
   have ap2:=Lib.hid hst
   clear fz fT hok hst
   unfold exV
   refine iW 7 [[],[],[],[],[3],[2,3,4],[0,1,2,3,4,5],[0,1,2,3,4,5,6]] rfl rfl rfl rfl rfl (by kernel_rfl) (by kernel_rfl) (by kernel_rfl) ?_
   simp [go_sem,Oper.wp,y0,y1,y2,y3,f0,f1,f2,f3]
   refine fU rfl ?_
   go_simp
   go_wp2_with fail
   obtain ⟨q1,q2,q3⟩:=Jk (.int .i64 op') (.int .i64 n') (.string nm') (.slice gM fP.len cap') OB.out Pb.out dh.out
   exact bodyPost_ret (v:=exV op' n' nm' fP gM cap') (by simp [results,Tryz.results51,go_sem,exV,y0,y1,y2,y3]) rfl (AB q1 q2 ⟨op',n',nm',fP,gM,cap',rfl,am4.out,(ap2.out.next q3).mono (Nat.le_succ _)⟩)
theorem zl (T:Tp): ∀d:Nat,d≤100→vP T (d:Int)
 | 0,h=>GH T 0 h (fun d' e=>by omega)
 | d + 1,h=>GH T (d + 1) h (fun d' e=>by
   obtain rfl:d=d':=by omega
   exact zl T d (by omega))
end Go.Proofs.YtehnipchbmjlhaaGreatDoor
end
