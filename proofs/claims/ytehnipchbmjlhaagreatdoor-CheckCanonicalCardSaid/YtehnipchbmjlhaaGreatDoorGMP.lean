/-
  The tape that programs are made of: contracts of Tape.Next, name and binary.
  What makes programs of numbers: its state as data, what is kept.
  Contract of the maker's expr: it returns an expression that lies in new memory.
-/
import Derived.Test.YtehnipchbmjlhaaGreatDoorGMB
import Derived.Test.YtehnipchbmjlhaaGreatDoorGMA
import Derived.IntWalk
import Derived.Outline
import Derived.StillTailTactics
import Derived.Test.YtehnipchbmjlhaaGreatDoorGMJ
import Derived.Test.YtehnipchbmjlhaaGreatDoorGMO
import Derived.Deep.RegionWith
set_option linter.unusedSimpArgs false
set_option linter.unusedVariables false
set_option maxHeartbeats 40000000
set_option maxRecDepth 1000000
section
namespace Go.Proofs.YtehnipchbmjlhaaGreatDoor
open Go.RowKit
open Md
theorem uo {w:World} {b j:Nat} {cs:Array Value} {t:TypeId} {fr:Nat × Nat} {u:Value} (h:w.heap[b]? =some (.cells cs t fr)) (hu:cs[j]? =some u):b < w.heap.size∧w.cell? ⟨b,j,none⟩=some u:=
 ⟨(Array.getElem?_eq_some_iff.1 h).1,aG h hu⟩
theorem SN {b:Nat} {w1 w2 w3:World} (h:w1.grownBy w2 (some b)) (k:w2.grownBy w3 (some b)):w1.grownBy w3 (some b):=
 ⟨k.os.trans h.os,k.tape.trans h.tape,k.output.trans h.output,Nat.le_trans h.size k.size,fun j hj hne=>(k.block j (Nat.lt_of_lt_of_le hj h.size) hne).trans (h.block j hj hne)⟩
theorem Zi {b:Nat} {w w':World} (h:Below w.heap.size w w'):w.grownBy w' (some b):=⟨h.os,h.tape,h.output,h.size,fun k hk _=>h.block k hk⟩
structure Tp where
 B0:Nat
 bt:Nat
 bm:Nat
 ao:Option Addr
 cap:Nat
 zs:List Int
 t0:B0≤bt
 m0:B0≤bm
 tm:bt≠bm
def Fq (w:World) (B:Nat) (zs:List Int) (ao:Option Addr):Prop:= ∀(k:Nat) (hk:k < zs.length),∃b off,ao=some ⟨b,off,none⟩∧b < B∧w.cell? ⟨b,off + k,none⟩=some (.int .u8 zs[k])∧0≤zs[k]∧zs[k]≤255
theorem Fq.below {w w':World} {B:Nat} {zs:List Int} {ao:Option Addr} (h:Fq w B zs ao) (hb:Below B w w'):Fq w' B zs ao:=fun k hk=>by
 obtain ⟨b,off,e,hB,hc,hz⟩:=h k hk
 exact ⟨b,off,e,hB,(hb.cell hB).trans hc,hz⟩
structure oK (w:World) (T:Tp):Prop where
 blk: ∃at':Nat,at'≤T.zs.length∧w.heap[T.bt]? =some (.cells #[.slice T.ao T.zs.length T.cap,.int .i64 at'] 56 (0,0))
 FT:Fq w T.B0 T.zs T.ao
 len:T.zs.length≤9223372036854775807
theorem oK.lt {w:World} {T:Tp} (h:oK w T):T.bt < w.heap.size:=by obtain ⟨a,-,h⟩:=h.blk; exact (Array.getElem?_eq_some_iff.1 h).1
theorem oK.b0 {w:World} {T:Tp} (h:oK w T):T.B0≤w.heap.size:=by have:=h.lt; have:=T.t0; omega
def Tg (T:Tp) (n:Int) (w:World) (e:Ending) (w':World):Prop:= ∃r:Int,e= .returned (.int .i64 r)∧0≤r∧(0 < n→r < n)∧r≤255∧w.grownBy w' (some T.bt)∧oK w' T
theorem BZ {T:Tp} {n r:Int} {w w':World} (h0:0≤r) (h1:0 < n→r < n) (h2:r≤255) (h3:w.grownBy w' (some T.bt)) (h4:oK w' T):Tg T n w (.returned (.int .i64 r)) w':=⟨r,rfl,h0,h1,h2,h3,h4⟩
theorem sj {b:Nat} (w:World) (n:Nat):w.grownBy (w.drewN n) (some b):=Zi (below_drewN (Below.refl _ _) n)
theorem oK.draws {w:World} {T:Tp} (h:oK w T) (n:Nat):oK (w.drewN n) T:=by
 obtain ⟨a,h1,h2⟩:=h.blk
 have hb:=below_drewN (Below.refl w.heap.size w) n
 exact ⟨⟨a,h1,(hb.block _ h.lt).trans h2⟩,h.FT.below (hb.mono h.b0),h.len⟩
theorem Ru (T:Tp) (n:Int) (w:World) (hn:aU n) (hI:oK w T):
 Calls Tryz.prog 26 #[.pointer (some ⟨T.bt,0,none⟩),.int .i64 n] w (Tg T n w):=by
 obtain ⟨a,ha,hblk⟩:=hI.blk
 have HI:=Lib.hid hI
 have HB:=Lib.hid hblk
 have hlen:=hI.len
 obtain ⟨hn1,hn2⟩:=hn
 have c0:w.cell? ⟨T.bt,0,none⟩=some (.slice T.ao T.zs.length T.cap):=(uo hblk (j:=0) rfl).2
 have c1:w.cell? ⟨T.bt,1,none⟩=some (.int .i64 (a:Int)):=(uo hblk (j:=1) rfl).2
 clear hI hblk
 by_cases h1:T.zs.length≤a
 ·have hd:decide ((T.zs.length:Int)≤(a:Int))=true:=by rw [decide_eq_true_iff]; omega
  go_enter Tryz.func26,Tryz.ntmps26
  go_wp2_with fail
  go_quiet (fail)
  go_wp2_with fail
  go_ret
  exact BZ (by omega) (by omega) (by omega) (sj _ _) (HI.out.draws _)
 ·have hd:decide ((T.zs.length:Int)≤(a:Int))=false:=by rw [decide_eq_false_iff_not]; omega
  by_cases h2:n < 1
  ·have hd2:decide (n < 1)=true:=by rw [decide_eq_true_iff]; omega
   go_enter Tryz.func26,Tryz.ntmps26
   go_wp2_with fail
   go_quiet (fail)
   go_wp2_with fail
   go_ret
   exact BZ (by omega) (by omega) (by omega) (sj _ _) (HI.out.draws _)
  ·have hd2:decide (n < 1)=false:=by rw [decide_eq_false_iff_not]; omega
   go_enter Tryz.func26,Tryz.ntmps26
   go_wp2_with fail
   go_quiet (fail)
   generalize hW:World.drewN w _=W1
   have HI1:Hid (oK W1 T):=Lib.hid (by rw [← hW]; exact HI.out.draws _)
   have oM:Hid (w.grownBy W1 (some T.bt)):=Lib.hid (by rw [← hW]; exact sj _ _)
   have HB1:Hid (W1.heap[T.bt]? =some (.cells #[.slice T.ao T.zs.length T.cap,.int .i64 (a:Int)] 56 (0,0))):=Lib.hid (by rw [← hW]; exact ((below_drewN (Below.refl w.heap.size w) _).block _ HI.out.lt).trans HB.out)
   clear hW c0 c1 HI HB hd hd2
   have c1:W1.cell? ⟨T.bt,1,none⟩=some (.int .i64 (a:Int)):=(uo HB1.out (j:=1) rfl).2
   have f1:W1.frozen? ⟨T.bt,1,none⟩=false:=aK HB1.out
   go_upto_region 4 with fail
   generalize hW2:World.setCell W1 _ _=W2
   have HB2:Hid (W2.heap[T.bt]? =some (.cells #[.slice T.ao T.zs.length T.cap,.int .i64 ((a:Int) + 1)] 56 (0,0))):=Lib.hid (by rw [← hW2,bQ HB1.out]; rfl)
   have HG2:Hid (W1.grownBy W2 (some T.bt)):=Lib.hid (by rw [← hW2]; exact eF _ _ _)
   have HBY:Hid (Fq W2 T.B0 T.zs T.ao):=Lib.hid (HI1.out.FT.below (dW HG2.out T.t0 HI1.out.b0))
   have HI2:Hid (oK W2 T):=Lib.hid ⟨⟨a + 1,by omega,by rw [HB2.out]; rfl⟩,HBY.out,HI1.out.len⟩
   have HG:=Lib.hid (SN oM.out HG2.out)
   clear hW2 c1 f1 oM HG2 HB1
   have ha:a < T.zs.length:=by omega
   obtain ⟨bb,off,hao,hbb,hcell,hz0,hz1⟩:=HBY.out a ha
   have c0:W2.cell? ⟨T.bt,0,none⟩=some (.slice T.ao T.zs.length T.cap):=(uo HB2.out (j:=0) rfl).2
   have c1:W2.cell? ⟨T.bt,1,none⟩=some (.int .i64 ((a:Int) + 1)):=(uo HB2.out (j:=1) rfl).2
   rw [hao] at c0
   generalize T.zs[a]=z at *
   have hw1:(a:Int) + 1 - 1=(a:Int):=by omega
   have hw2:IntKind.i64.wrap (a:Int)=(a:Int):=IntWalk.i64_in _ (by omega)
   have hb0:(0:Int)≤(a:Int):=by omega
   have hb1:(a:Int) < (T.zs.length:Int):=by omega
   have Sv:=Lib.hid hao
   clear hao HI1
   go_quiet (fail)
   go_wp2_with fail
   go_ret
   have e1:=Int.emod_nonneg z (show n≠0 by omega)
   have e2:=Int.emod_lt_of_pos z (show 0 < n by omega)
   have e3:z % n≤255:=by
    by_cases hzn:z < n
    ·rw [Int.emod_eq_of_lt hz0 hzn]; exact hz1
    ·omega
   exact BZ e1 (fun _=>e2) e3 (SN HG.out (sj _ _)) (HI2.out.draws _)
def nK (s:ByteArray):Prop:=s.size≤maxLen∧Tk.dZ s.data.toList=true
theorem Ci {s:ByteArray} (h:Tk.dZ s.data.toList=true):s.size≤12:=by
 unfold Tk.dZ at h
 simp only [Bool.and_eq_true,decide_eq_true_eq] at h
 rw [Lib.size_eq]; exact h.1.1.2
def zK:Array Value:= #[.int .i64 0,.int .i64 0,.string ⟨#[]⟩,.slice none 0 0]
theorem AX {w:World} {b:Nat} {t:TypeId} (h:w.heap[b]? =some (.cells zK t (0,0))):(w.cell? ⟨b,0,none⟩=some (.int .i64 0)∧w.cell? ⟨b,1,none⟩=some (.int .i64 0)∧w.cell? ⟨b,2,none⟩=some (.string ⟨#[]⟩)∧w.cell? ⟨b,3,none⟩=some (.slice none 0 0))∧(∀j,w.frozen? ⟨b,j,none⟩=false):=
 ⟨⟨(uo h (j:=0) rfl).2,(uo h (j:=1) rfl).2,(uo h (j:=2) rfl).2,(uo h (j:=3) rfl).2⟩,fun j=>aK h⟩
theorem QT (s:ByteArray) (w:World):
 Calls Tryz.prog 89 #[.string s] w fun e w'=>e= .returned (exV 2 0 s .nil none 0)∧Below w.heap.size w w':=by
 go_enter Tryz.func89,Tryz.ntmps89
 go_wp2
 exact bodyPost_ret (v:=exV 2 0 s .nil none 0) (by simp [results,Tryz.results89,go_sem,exV,aP.len]) rfl ⟨rfl,ah _ _⟩
theorem LG (op:Int) (o1 n1:Int) (m1:ByteArray) (k1:aP) (a1:Option Addr) (c1:Nat) (o2 n2:Int) (m2:ByteArray) (k2:aP) (a2:Option Addr) (c2:Nat) (w:World):
 Calls Tryz.prog 90 #[.int .i64 op,exV o1 n1 m1 k1 a1 c1,exV o2 n2 m2 k2 a2 c2] w fun e w'=> ∃g,e= .returned (.agg #[.int .i64 op,.int .i64 0,.string ⟨#[]⟩,.slice (some ⟨g,0,none⟩) 2 2])∧w.heap.size≤g∧w'.heap[g]? =some (.cells (wM o1 n1 m1 k1 a1 c1++wM o2 n2 m2 k2 a2 c2).toArray 45 (0,0))∧Below w.heap.size w w':=by
 unfold exV
 go_enter Tryz.func90,Tryz.ntmps90
 go_wp2
 refine bodyPost_ret (v:= .agg #[.int .i64 op,.int .i64 0,.string ⟨#[]⟩,.slice (some ⟨w.heap.size + 1 + 1 + 1,0,none⟩) 2 2]) (by simp [results,Tryz.results90,go_sem]) rfl ⟨w.heap.size + 1 + 1 + 1,rfl,by omega,?_,?_⟩
 ·generalize hW:World.alloc (World.alloc (World.alloc w _) _) _=W
  have e:W.heap.size=w.heap.size + 1 + 1 + 1:=by rw [← hW]; simp
  rw [← e]; exact heap_alloc_new _ _
 ·exact (((ah _ _).alloc (by simp) _).alloc (by simp; omega) _).alloc (by simp; omega) _
end Go.Proofs.YtehnipchbmjlhaaGreatDoor
end
section
namespace Go.Proofs.YtehnipchbmjlhaaGreatDoor
open Go.RowKit
open Md
structure dJ (w:World) (T:Tp):Prop where
 tape:oK w T
 vG: ∃line left:Int,aU line∧0≤left∧left≤100∧w.heap[T.bm]? =some (.cells #[.pointer (some ⟨T.bt,0,none⟩),.int .i64 line,.int .i64 left] 58 (0,0))
theorem dJ.lt {w:World} {T:Tp} (h:dJ w T):T.bm < w.heap.size:=by obtain ⟨a,b,-,-,-,h⟩:=h.vG; exact (Array.getElem?_eq_some_iff.1 h).1
structure Mk (T:Tp) (w w':World):Prop where
 os:w'.os=w.os
 tape:w'.tape=w.tape
 output:w'.output=w.output
 size:w.heap.size≤w'.heap.size
 block: ∀k,k < w.heap.size→k≠T.bt→k≠T.bm→w'.heap[k]? =w.heap[k]?
theorem Mk.refl (T:Tp) (w:World):Mk T w w:=⟨rfl,rfl,rfl,Nat.le_refl _,fun _ _ _ _=>rfl⟩
theorem Mk.trans {T:Tp} {w w1 w2:World} (h:Mk T w w1) (k:Mk T w1 w2):Mk T w w2:=
 ⟨k.os.trans h.os,k.tape.trans h.tape,k.output.trans h.output,Nat.le_trans h.size k.size,fun j hj h1 h2=>(k.block j (Nat.lt_of_lt_of_le hj h.size) h1 h2).trans (h.block j hj h1 h2)⟩
theorem Mk.of_below {T:Tp} {w w':World} (h:Below w.heap.size w w'):Mk T w w':=⟨h.os,h.tape,h.output,h.size,fun k hk _ _=>h.block k hk⟩
theorem Mk.aj4 {T:Tp} {w w':World} (h:w.grownBy w' (some T.bt)):Mk T w w':=⟨h.os,h.tape,h.output,h.size,fun k hk h1 _=>h.block k hk (by simp; exact h1)⟩
theorem Mk.ai4 {T:Tp} {w w':World} (h:w.grownBy w' (some T.bm)):Mk T w w':=⟨h.os,h.tape,h.output,h.size,fun k hk _ h1=>h.block k hk (by simp; exact h1)⟩
theorem dJ.below {T:Tp} {w w':World} (h:dJ w T) (hb:Below w.heap.size w w'):dJ w' T:=by
 obtain ⟨a,h1,h2⟩:=h.tape.blk
 obtain ⟨l,m,h3,h4,h5,h6⟩:=h.vG
 exact ⟨⟨⟨a,h1,(hb.block _ h.tape.lt).trans h2⟩,h.tape.FT.below (hb.mono h.tape.b0),h.tape.len⟩,⟨l,m,h3,h4,h5,(hb.block _ h.lt).trans h6⟩⟩
theorem Mk.xA {T:Tp} {w w':World} {B:Nat} (h:Mk T w w') (ht:T.bt < B) (hm:T.bm < B):gK B w w':=⟨h.size,fun k h1 h2=>h.block k h2 (by omega) (by omega)⟩
theorem Mk.set {T:Tp} {w w':World} (h:Mk T w w') (a:Addr) (v:Value) (hb:w.heap.size≤a.block):Mk T w (w'.setCell a v):=
 ⟨h.os,h.tape,h.output,by have:=h.size; simpa [World.setCell] using this,fun k hk h1 h2=>(bJ w' a v rfl (by omega)).trans (h.block k hk h1 h2)⟩
theorem dJ.set {T:Tp} {w:World} (h:dJ w T) (a:Addr) (v:Value) (h0:T.B0≤a.block) (h1:a.block≠T.bt) (h2:a.block≠T.bm):dJ (w.setCell a v) T:=by
 obtain ⟨x,k1,k2⟩:=h.tape.blk
 obtain ⟨l,m,k3,k4,k5,k6⟩:=h.vG
 have hg:=eF w a v
 exact ⟨⟨⟨x,k1,(bJ w a v rfl h1).trans k2⟩,h.tape.FT.below (dW hg h0 h.tape.b0),h.tape.len⟩,⟨l,m,k3,k4,k5,(bJ w a v rfl h2).trans k6⟩⟩
def qW (q:Nat) (op n:Int) (nm:ByteArray) (kids:aP):Prop:=dS op n nm kids=true∧lI nm kids≤q
def K3 (q:Nat) (l:aP):Prop:=iy l=true∧qR l≤q
theorem qW.mono {q q':Nat} {op n:Int} {nm:ByteArray} {kids:aP} (h:qW q op n nm kids) (hq:q≤q'):qW q' op n nm kids:=⟨h.1,Nat.le_trans h.2 hq⟩
def Xi (q:Nat) (op n:Int) (nm:ByteArray) (kids:aP):Prop:=oz op n nm kids∧qW q op n nm kids
theorem yM {q:Nat} {op n:Int} {nm:ByteArray} {kids:aP} (h:qW q op n nm kids):K3 q (.cons op n nm kids .nil):=
 ⟨by show (dS op n nm kids && iy .nil)=true; rw [h.1]; rfl,h.2⟩
theorem IB {q q':Nat} {op n op' n':Int} {nm nm':ByteArray} {kids eD:aP} (h:qW q op n nm kids) (h':qW q' op' n' nm' eD):K3 (q + q') (.cons op n nm kids (.cons op' n' nm' eD .nil)):=
 ⟨by show (dS op n nm kids && iy _)=true; rw [h.1,(yM h').1]; rfl,by have h1:=h.2; have h2:=h'.2; unfold lI at h1 h2; simp only [qR]; omega⟩
theorem Vr {q:Nat} {a op n:Int} {nm:ByteArray} {kids:aP} (ha:a=4∨a=5) (h:qW q op n nm kids):qW (q + 60) a 0 ⟨#[]⟩ (.cons op n nm kids .nil):=
 ⟨by unfold dS; rw [(yM h).1]; rcases ha with rfl | rfl <;> rfl,by have h1:=h.2; unfold lI at h1 ⊢; simp only [qR]; show 40 + 0 + _≤_; omega⟩
theorem V3 {q q':Nat} {r op n op' n':Int} {nm nm':ByteArray} {kids eD:aP} (h0:0≤r) (h1:r < 13) (h:qW q op n nm kids) (h':qW q' op' n' nm' eD):qW (q + q' + 60) (6 + r) 0 ⟨#[]⟩ (.cons op n nm kids (.cons op' n' nm' eD .nil)):=by
 refine ⟨?_,by have h1:=(IB h h').2; unfold lI; show 40 + 0 + _≤_; omega⟩
 unfold dS; rw [(IB h h').1]
 have:r=0∨r=1∨r=2∨r=3∨r=4∨r=5∨r=6∨r=7∨r=8∨r=9∨r=10∨r=11∨r=12:=by omega
 rcases this with rfl | rfl | rfl | rfl | rfl | rfl | rfl | rfl | rfl | rfl | rfl | rfl | rfl <;> rfl
theorem UH {z:Int} (hz:0≤z):qW 60 1 z ⟨#[]⟩ .nil:=
 ⟨by unfold dS uO; rw [decide_eq_false (by omega)]; cases (z == 0) <;> rfl,by decide⟩
theorem Ym {s:ByteArray} (hs:Tk.dZ s.data.toList=true):qW 60 2 0 s .nil:=
 ⟨by unfold dS uO iU named; simp [hs,aP.len,opsOf,iy],by have:=Ci hs; unfold lI; simp only [qR]; omega⟩
theorem Un {q:Nat} {s:ByteArray} {l:aP} (hs:Tk.dZ s.data.toList=true) (hl:l.len=1) (h:K3 q l):qW (q + 60) 3 0 s l:=
 ⟨by unfold dS uO iU named; simp [hs,hl,opsOf,h.1],by have:=Ci hs; have:=h.2; unfold lI; omega⟩
def GE (d:Nat):Nat:=64 * 3 ^ d
theorem GD (d:Nat):64≤GE d:=by unfold GE; have:0 < 3 ^ d:=Nat.pow_pos (by decide); omega
theorem Zf (d:Nat):GE d + GE d + 60≤GE (d + 1):=by have:=GD d; unfold GE at *; rw [Nat.pow_succ]; omega
def MQ (T:Tp) (q:Nat) (w:World) (e:Ending) (w':World):Prop:= ∃op n nm kids ao cap,e= .returned (exV op n nm kids ao cap)∧Xi q op n nm kids∧Mk T w w'∧dJ w' T∧dB w.heap.size w' (fun w2=>kids.At w2 w2.heap.size ao 0)
def EX (q B:Nat) (v:Value) (w:World):Prop:= ∃op n nm kids ao cap,v=exV op n nm kids ao cap∧Xi q op n nm kids∧dB B w (fun w2=>kids.At w2 w2.heap.size ao 0)
theorem EX.next {q B:Nat} {v:Value} {w w':World} (h:EX q B v w) (ha:gK B w w'):EX q B v w':=by
 obtain ⟨op,n,nm,kids,ao,cap,h1,h2,h3⟩:=h
 exact ⟨op,n,nm,kids,ao,cap,h1,h2,h3.next ha⟩
theorem EX.mono {q B B':Nat} {v:Value} {w:World} (h:EX q B' v w) (hB:B≤B'):EX q B v w:=by
 obtain ⟨op,n,nm,kids,ao,cap,h1,h2,h3⟩:=h
 exact ⟨op,n,nm,kids,ao,cap,h1,h2,h3.mono hB⟩
def XS (q B m:Nat) (v:Value) (w:World):Prop:= ∃l ao cap,v= .slice ao (aP.len l) cap∧(aP.len l=m∧K3 q l)∧dB B w (fun w2=>l.At w2 w2.heap.size ao 0)
theorem XS.next {q B m:Nat} {v:Value} {w w':World} (h:XS q B m v w) (ha:gK B w w'):XS q B m v w':=by
 obtain ⟨l,ao,cap,h1,h2,h3⟩:=h
 exact ⟨l,ao,cap,h1,h2,h3.next ha⟩
theorem zY {T:Tp} {q:Nat} {w w':World} {v:Value} (hM:Mk T w w') (hI:dJ w' T) (h:EX q w.heap.size v w'):MQ T q w (.returned v) w':=by
 obtain ⟨op,n,nm,kids,ao,cap,rfl,h2,h3⟩:=h
 exact ⟨op,n,nm,kids,ao,cap,rfl,h2,hM,hI,h3⟩
theorem qH {T:Tp} {q:Nat} {w w':World} {e:Ending} (h:MQ T q w e w'): ∃v,e= .returned v∧EX q w.heap.size v w'∧Mk T w w'∧dJ w' T:=by
 obtain ⟨op,n,nm,kids,ao,cap,h1,h2,h3,h4,h5⟩:=h
 exact ⟨_,h1,⟨op,n,nm,kids,ao,cap,rfl,h2,h5⟩,h3,h4⟩
theorem Jl {T:Tp} {w w4:World} (a b c d:Value) (hM:Mk T w w4) (hI:dJ w4 T) (h0:T.bt < w.heap.size∧T.bm < w.heap.size∧T.B0≤w.heap.size):
 Mk T w ((((w4.setCell ⟨w.heap.size,0,none⟩ a).setCell ⟨w.heap.size,1,none⟩ b).setCell ⟨w.heap.size,2,none⟩ c).setCell ⟨w.heap.size,3,none⟩ d)∧
 dJ ((((w4.setCell ⟨w.heap.size,0,none⟩ a).setCell ⟨w.heap.size,1,none⟩ b).setCell ⟨w.heap.size,2,none⟩ c).setCell ⟨w.heap.size,3,none⟩ d) T∧
 gK (w.heap.size + 1) w4 ((((w4.setCell ⟨w.heap.size,0,none⟩ a).setCell ⟨w.heap.size,1,none⟩ b).setCell ⟨w.heap.size,2,none⟩ c).setCell ⟨w.heap.size,3,none⟩ d):=by
 have h1:w.heap.size≠T.bt:=by omega
 have h2:w.heap.size≠T.bm:=by omega
 have m1:=hM.set ⟨w.heap.size,0,none⟩ a (Nat.le_refl _)
 have m2:=m1.set ⟨w.heap.size,1,none⟩ b (Nat.le_refl _)
 have m3:=m2.set ⟨w.heap.size,2,none⟩ c (Nat.le_refl _)
 have m4:=m3.set ⟨w.heap.size,3,none⟩ d (Nat.le_refl _)
 have i1:=hI.set ⟨w.heap.size,0,none⟩ a h0.2.2 h1 h2
 have i2:=i1.set ⟨w.heap.size,1,none⟩ b h0.2.2 h1 h2
 have i3:=i2.set ⟨w.heap.size,2,none⟩ c h0.2.2 h1 h2
 have i4:=i3.set ⟨w.heap.size,3,none⟩ d h0.2.2 h1 h2
 have x1:gK (w.heap.size + 1) w4 _:=dO w4 ⟨w.heap.size,0,none⟩ a (Nat.lt_succ_self _)
 have x2:=x1.trans (dO _ ⟨w.heap.size,1,none⟩ b (Nat.lt_succ_self _))
 have x3:=x2.trans (dO _ ⟨w.heap.size,2,none⟩ c (Nat.lt_succ_self _))
 have x4:=x3.trans (dO _ ⟨w.heap.size,3,none⟩ d (Nat.lt_succ_self _))
 exact ⟨m4,i4,x4⟩
theorem Z7 {T:Tp} {q q':Nat} (hq:q + 60≤q') {w w4:World} {a op n:Int} {nm:ByteArray} {kids:aP} {ao:Option Addr} {cap:Nat} {t:TypeId} (hM:Mk T w w4) (hI:dJ w4 T) (h0:T.bt < w.heap.size∧T.bm < w.heap.size∧T.B0≤w.heap.size) (ha:a=4∨a=5) (hok:Xi q op n nm kids) (hst:dB (w.heap.size + 1) w4 (fun w2=>kids.At w2 w2.heap.size ao 0)) (hs:w.heap.size + 1≤w4.heap.size):
 MQ T q' w (.returned (exV a 0 ⟨#[]⟩ (.cons op n nm kids .nil) (some ⟨w4.heap.size,0,none⟩) 1)) (((((w4.setCell ⟨w.heap.size,0,none⟩ (.int .i64 a)).setCell ⟨w.heap.size,1,none⟩ (.int .i64 0)).setCell ⟨w.heap.size,2,none⟩ (.string ⟨#[]⟩)).setCell ⟨w.heap.size,3,none⟩ (.slice (some ⟨w4.heap.size,0,none⟩) 1 1)).alloc (.cells #[.int .i64 op,.int .i64 n,.string nm,.slice ao kids.len cap] t)):=by
 obtain ⟨q1,q2,q3⟩:=Jl (.int .i64 a) (.int .i64 0) (.string ⟨#[]⟩) (.slice (some ⟨w4.heap.size,0,none⟩) 1 1) hM hI h0
 generalize hW:World.setCell (World.setCell (World.setCell (World.setCell w4 _ _) _ _) _ _) _ _=W at *
 have hsz:W.heap.size=w4.heap.size:=by rw [← hW]; simp [World.setCell]
 refine zY (q1.trans (Mk.of_below (ah _ _))) (q2.below (ah _ _)) ⟨a,0,⟨#[]⟩,.cons op n nm kids .nil,_,1,rfl,⟨⟨by unfold aU; omega,by unfold aU; decide,by unfold maxLen; decide,by simp [aP.len,maxLen]⟩,(Vr ha hok.2).mono hq⟩,?_⟩
 rw [← hsz]
 exact rE (heap_alloc_new _ _) (by omega) hok.1 (((hst.next q3).next (aY (ah _ _))).mono (Nat.le_succ _))
def Zt (T:Tp) (n:Int) (w:World) (e:Ending) (w':World):Prop:= ∃r:Int,e= .returned (.int .i64 r)∧0≤r∧(0 < n→r < n)∧r≤255∧Mk T w w'∧dJ w' T
theorem dQ (T:Tp) (n:Int) (w:World) (hn:aU n) (hI:dJ w T):
 Calls Tryz.prog 26 #[.pointer (some ⟨T.bt,0,none⟩),.int .i64 n] w (Zt T n w):=
 (Ru T n w hn hI.tape).mono fun e w' ⟨r,h1,h2,h3,h4,h5,h6⟩=>⟨r,h1,h2,h3,h4,Mk.aj4 h5,h6,by
  obtain ⟨l,m,k1,k2,k3,k4⟩:=hI.vG
  exact ⟨l,m,k1,k2,k3,(h5.block _ hI.lt (by simp; exact T.tm.symm)).trans k4⟩⟩
theorem dJ.ptr {w:World} {T:Tp} (h:dJ w T):w.cell? ⟨T.bm,0,none⟩=some (.pointer (some ⟨T.bt,0,none⟩)):=by
 obtain ⟨l,m,-,-,-,k⟩:=h.vG
 exact (bL k (j:=0) rfl).2
theorem Rb {T:Tp} {w w2 W:World} (hb:Below w.heap.size w w2) (hm:Mk T w2 W) (h1:w.heap.size≤T.bt) (h2:w.heap.size≤T.bm):Below w.heap.size w W:=
 ⟨hm.os.trans hb.os,hm.tape.trans hb.tape,hm.output.trans hb.output,Nat.le_trans hb.size hm.size,fun k hk=>(hm.block k (Nat.lt_of_lt_of_le hk hb.size) (by omega) (by omega)).trans (hb.block k hk)⟩
end Go.Proofs.YtehnipchbmjlhaaGreatDoor
end
section
namespace Go.Proofs.YtehnipchbmjlhaaGreatDoor
open Go.RowKit
open Md
def QN:Array Value:= #[.string ⟨#[120]⟩,.string ⟨#[121]⟩,.string ⟨#[97]⟩,.string ⟨#[98]⟩,.string ⟨#[118]⟩,.string ⟨#[113]⟩,.string ⟨#[109]⟩,.string ⟨#[116]⟩,.string ⟨#[122,122]⟩,.string ⟨#[102]⟩]
def n8:Array Value:= #[.int .i64 0,.int .i64 1,.int .i64 2,.int .i64 3,.int .i64 7,.int .i64 10,.int .i64 100,.int .i64 9223372036854775807]
theorem Zn: ∀j,j < 8→ ∃z,n8[j]? =some (.int .i64 z)∧aU z∧0≤z:=fun j hj=>by
 have:j=0∨j=1∨j=2∨j=3∨j=4∨j=5∨j=6∨j=7:=by omega
 rcases this with rfl | rfl | rfl | rfl | rfl | rfl | rfl | rfl <;> exact ⟨_,rfl,by unfold aU; decide,by decide⟩
theorem TY: ∀j,j < 10→ ∃s,QN[j]? =some (.string s)∧nK s:=fun j hj=>by
 have:j=0∨j=1∨j=2∨j=3∨j=4∨j=5∨j=6∨j=7∨j=8∨j=9:=by omega
 rcases this with rfl | rfl | rfl | rfl | rfl | rfl | rfl | rfl | rfl | rfl <;> exact ⟨_,rfl,by unfold maxLen; decide,by rfl⟩
def VK:Array Value:= #[.string ⟨#[113]⟩,.string ⟨#[113]⟩,.string ⟨#[113]⟩,.string ⟨#[120]⟩,.string ⟨#[109]⟩]
theorem WE: ∀j,j < 5→ ∃s,VK[j]? =some (.string s)∧nK s:=fun j hj=>by
 have:j=0∨j=1∨j=2∨j=3∨j=4:=by omega
 rcases this with rfl | rfl | rfl | rfl | rfl <;> exact ⟨_,rfl,by unfold maxLen; decide,by rfl⟩
def uP (T:Tp) (d:Int):Prop:= ∀w,dJ w T→Calls Tryz.prog 51 #[.pointer (some ⟨T.bm,0,none⟩),.int .i64 d] w (MQ T (GE d.toNat) w)
theorem EU (T:Tp) (d:Nat) (hd:d≤100) (ih: ∀d':Nat,d=d' + 1→uP T (d':Int)):uP T (d:Int):=by
 unfold uP
 rw [Int.toNat_natCast]
 intro w hI
 have HI0:=Lib.hid hI
 have iY:=Lib.hid ih
 clear hI ih
 go_enter Tryz.func51,Tryz.ntmps51
 go_upto_region 2 with fail
 generalize hW:World.alloc (World.alloc w _) _=W
 have HB:Hid (Below w.heap.size w W):=Lib.hid (by rw [← hW]; exact (ah _ _).alloc (by simp) _)
 have HZ:Hid (W.heap[w.heap.size]? =some (.cells zK 45 (0,0))):=Lib.hid (by rw [← hW,heap_alloc_old _ _ (by simp)]; exact heap_alloc_new _ _)
 have HN:Hid (W.heap[w.heap.size + 1]? =some (.cells QN 9 (0,0))):=Lib.hid (by
  rw [← hW]
  have e:(World.alloc w (.cells zK 45)).heap.size=w.heap.size + 1:=by simp
  rw [← e]; exact heap_alloc_new _ _)
 have HI:=Lib.hid (HI0.out.below HB.out)
 have dR:Hid (T.bt < w.heap.size∧T.bm < w.heap.size∧T.B0≤w.heap.size):=Lib.hid ⟨HI0.out.tape.lt,HI0.out.lt,HI0.out.tape.b0⟩
 clear hW
 have c0:=HI.out.ptr
 go_wp2_with fail
 refine (dQ T 20 _ (by unfold aU; decide) HI.out).mono ?_
 rintro e w2 ⟨k,rfl,hk0,hk1,hk2,hM,hI2⟩
 have HM:=Lib.hid ((Mk.of_below (T:=T) HB.out).trans hM)
 have HZ2:Hid (w2.heap[w.heap.size]? =some (.cells zK 45 (0,0))):=Lib.hid ((hM.block _ (Array.getElem?_eq_some_iff.1 HZ.out).1 (by have:=dR.out; omega) (by have:=dR.out; omega)).trans HZ.out)
 have VB:Hid (w2.heap[w.heap.size + 1]? =some (.cells QN 9 (0,0))):=Lib.hid ((hM.block _ (Array.getElem?_eq_some_iff.1 HN.out).1 (by have:=dR.out; omega) (by have:=dR.out; omega)).trans HN.out)
 have HI2:=Lib.hid hI2
 have ar2:k < 20:=hk1 (by decide)
 clear hM hI2 HZ HN HI c0 HB hk1
 have hcase:(k < 4∨(4≤k∧d=0∧k < 10))∨(4≤k∧ ¬ (d=0∧k < 10))∧(k < 8∨d=0)∨(8≤k∧d≠0):=by omega
 rcases hcase with hA | hB | hC
 ·have hA':k < 4∨(4≤k∧((d:Int) == 0)=true∧k < 10):=by
   rcases hA with hA | ⟨h1,h2,h3⟩
   ·exact .inl hA
   ·exact .inr ⟨h1,by simp [h2],h3⟩
  clear hA iY
  rcases hA' with hA | ⟨hA1,hA2,hA3⟩
  all_goals
   go_upto_region 5 with fail
   obtain ⟨g,hg⟩: ∃g,w2.heap.size=g:=⟨_,rfl⟩
   generalize hW3:World.alloc w2 _=W3
   have HB3:Hid (Below w2.heap.size w2 W3):=Lib.hid (by rw [← hW3]; exact ah _ _)
   have tZ:Hid (W3.heap[g]? =some (.cells n8 2 (0,0))):=Lib.hid (by rw [← hW3,← hg]; exact heap_alloc_new _ _)
   have HI3:=Lib.hid (HI2.out.below HB3.out)
   have HGB:Hid (w.heap.size < g):=Lib.hid (by rw [← hg]; exact (Array.getElem?_eq_some_iff.1 HZ2.out).1)
   rw [hg]
   have c0:=HI3.out.ptr
   clear hW3 hg
   go_wp2_with fail
   refine (dQ T 8 _ (by unfold aU; decide) HI3.out).mono ?_
   rintro e w4 ⟨r,rfl,hr0,hr1,hr2,zG,FC⟩
   obtain ⟨r',rfl⟩:=Int.eq_ofNat_of_zero_le hr0
   have Gn:r' < 8:=by have:=hr1 (by decide); omega
   have gG:Hid (w4.heap[w.heap.size]? =some (.cells zK 45 (0,0))):=Lib.hid ((zG.block _ (Nat.lt_of_lt_of_le (Array.getElem?_eq_some_iff.1 HZ2.out).1 HB3.out.size) (by have:=dR.out; omega) (by have:=dR.out; omega)).trans ((HB3.out.block _ (Array.getElem?_eq_some_iff.1 HZ2.out).1).trans HZ2.out))
   have Xk:Hid (w4.heap[g]? =some (.cells n8 2 (0,0))):=Lib.hid ((zG.block _ (Array.getElem?_eq_some_iff.1 tZ.out).1 (by have:=dR.out; have:=HGB.out; omega) (by have:=dR.out; have:=HGB.out; omega)).trans tZ.out)
   obtain ⟨z,hz,hzI⟩:=Zn r' Gn
   have cz:w4.cell? ⟨g,r',none⟩=some (.int .i64 z):=(bL Xk.out hz).2
   obtain ⟨⟨y0,y1,y2,y3⟩,fz⟩:=AX gG.out
   have f0:=fz 0
   have f1:=fz 1
   have f2:=fz 2
   have f3:=fz 3
   have oN:=Lib.hid ((HM.out.trans (Mk.of_below HB3.out)).trans zG)
   have HI4:=Lib.hid FC
   have HZI:=Lib.hid hzI
   have as4:(0:Int)≤(r':Int):=by omega
   have ar6:(r':Int) < 8:=by omega
   clear zG FC hz hzI fz c0 hr0 hr1 hr2
   go_wp2_with fail
   obtain ⟨q1,q2,q3⟩:=Jl (.int .i64 1) (.int .i64 z) (.string ⟨#[]⟩) (.slice none 0 0) oN.out HI4.out dR.out
   exact bodyPost_ret (v:=exV 1 z ⟨#[]⟩ .nil none 0) (by simp [results,Tryz.results51,go_sem,exV,aP.len,y0,y1,y2,y3]) rfl (zY q1 q2 ⟨1,z,⟨#[]⟩,.nil,none,0,rfl,⟨⟨by unfold aU; decide,HZI.out.1,by unfold maxLen; decide,by unfold maxLen; decide⟩,(UH HZI.out.2).mono (Nat.le_trans (by decide) (GD _))⟩,fun _ _=>trivial⟩)
 ·have hB':(4≤k∧k < 8∧((d:Int) == 0)=false)∨(10≤k∧((d:Int) == 0)=true):=by
   rcases hB with ⟨⟨h1,h2⟩,h3 | h3⟩
   ·exact .inl ⟨h1,h3,by rw [beq_eq_false_iff_ne]; omega⟩
   ·exact .inr ⟨by omega,by simp [h3]⟩
  clear hB iY
  have K0: ∀w',dJ w' T→w'.cell? ⟨T.bm,0,none⟩=some (.pointer (some ⟨T.bt,0,none⟩)):=fun w' h=>h.ptr
  have KN: ∀w',Mk T w2 w'→ ∀j,j < 10→ ∃s,w'.cell? ⟨w.heap.size + 1,j,none⟩=some (.string s)∧nK s:=fun w' h j hj=>by
   have hb:=(h.block _ (Array.getElem?_eq_some_iff.1 VB.out).1 (by have:=dR.out; omega) (by have:=dR.out; omega)).trans VB.out
   obtain ⟨s,h1,h2⟩:=TY j hj
   exact ⟨s,(bL hb h1).2,h2⟩
  rcases hB' with ⟨hB1,hB2,hB3⟩ | ⟨hB1,hB2⟩
  all_goals
   go_upto_region 7 with fail
   have hd1:Mk T w2 (w2.drewN 1):=Mk.of_below (below_drewN (Below.refl _ _) 1)
   have hd2:dJ (w2.drewN 1) T:=HI2.out.below (below_drewN (Below.refl _ _) 1)
   refine eY (by kernel_rfl) rfl ?_
   refine eB 0 18 [] [[],[],[1],[1,2],[1,2,3],[],[5],[1,2,3,4,5,6],[],[8],[8,9],[8,9,10],[1,2,3,4,5,6,7,8,9,10,11],[1,2,3,4,5,6,7,8,9,10,11,12],[1,2,3,4,5,6,7,8,9,10,11,12,13],[0,1,2,3,4,5,6,7,8,9,10,11,12,13,14],[0,1,2,3,4,5,6,7,8,9,10,11,12,13,14,15],[0,1,2,3,4,5,6,7,8,9,10,11,12,13,14,15,16],[0,1,2,3,4,5,6,7,8,9,10,11,12,13,14,15,16,17]] [[],[],[],[],[],[],[],[],[],[],[],[],[],[],[],[],[],[]] (fun _ w'=>Mk T w2 w'∧dJ w' T) (fun w w'=>Mk T w w') [46,47,48,49,50,51,52,53,54,55,56,57,58,59,60,61,62,63] rfl rfl (by rfl) (by kernel_rfl) (by kernel_rfl) (by kernel_rfl) (by kernel_rfl) (by kernel_rfl) (by rfl) (fun _=>Mk.refl _ _) (by rfl) ⟨hd1,hd2⟩ ?_
   simp only [List.take_succ_cons,List.take_zero,List.drop_zero,List.drop_succ_cons,jY,List.map_cons,List.map_nil]
   apply aO.step
   case aB=>
    intro c A w' hok hC hO hD
    have e5:=hO 5 (by rfl)
    simp [Act.eval] at e5
    simp [au,aj,ak,Act.eval,Region.binds] at hD
    simp [go_sem,gd,Oper.wp,hD,e5]
    exact ay.mk (Mk.refl _ _) hC (aj.mk _ _)
   apply aO.step
   case aB=>
    intro c A w' hok hC hO hD
    have e0:=hO 0 (by rfl)
    simp [Act.eval] at e0
    simp [au,aj,ak,Act.eval,Region.binds] at hD
    simp [go_sem,gd,Oper.wp,hD,e0]
    exact ay.mk (Mk.refl _ _) hC (aj.mk _ _)
   apply aO.step
   case aB=>
    intro c A w' hok hC hO hD
    simp [au,aj,ak,Act.eval,Region.binds] at hD
    simp [go_sem,gd,Oper.wp,hD]
    exact ay.mk (Mk.refl _ _) hC (aj.mk _ _)
   apply aO.step
   case aB=>
    intro c A w' hok hC hO hD
    simp [au,aj,ak,Act.eval,Region.binds] at hD
    simp [go_sem,gd,Oper.wp,hD]
    exact ay.mk (Mk.refl _ _) hC (aj.mk _ _)
   simp only [List.nil_append,List.cons_append]
   apply aO.step
   case aB=>
    intro c A w' hok hC hO hD
    simp [au,aj,ak,Act.eval,Region.binds] at hD
    simp [go_sem,gd,Oper.wp,hD,K0,hC.2]
    exact ay.mk (Mk.refl _ _) hC (aj.mk _ _)
   apply aO.step
   case aB=>
    intro c A w' hok hC hO hD
    have e5:=hO 5 (by rfl)
    simp [Act.eval] at e5
    simp [au,aj,ak,Act.eval,Region.binds] at hD
    simp [go_sem,gd,Oper.wp,hD,e5]
    exact ay.mk (Mk.refl _ _) hC (aj.mk _ _)
   apply aO.step
   case aB=>
    intro c A w' hok hC hO hD
    simp [au,aj,ak,Act.eval,Region.binds] at hD
    simp [go_sem,gd,Oper.wp,hD]
    exact ay.mk (Mk.refl _ _) hC (aj.mk _ _)
   simp only [List.nil_append,List.cons_append]
   refine aO.some (fun v _=> ∃r:Nat,v= .int .i64 (r:Int)∧r < 10) (fun _ _ _ _ h=>h) ?_ ?_
   ·intro c A w' hok hC hO hD
    simp [au,aj,ak,Act.eval,Region.binds] at hD
    simp [go_sem,gd,Oper.wp,hD]
    refine (dQ T 10 w' (by unfold aU; decide) hC.2).mono ?_
    rintro e w2 ⟨r,rfl,h0,h1,-,hM,hI⟩
    obtain ⟨r',rfl⟩:=Int.eq_ofNat_of_zero_le h0
    exact ay.mk hM ⟨hC.1.trans hM,hI⟩ ⟨r',rfl,by have:=h1 (by decide); omega⟩
   simp only [List.nil_append,List.cons_append]
   apply aO.step
   case aB=>
    intro c A w' hok hC hO hD
    have e0:=hO 0 (by rfl)
    simp [Act.eval] at e0
    simp [au,aj,ak,Act.eval,Region.binds] at hD
    simp [go_sem,gd,Oper.wp,hD,e0]
    exact ay.mk (Mk.refl _ _) hC (aj.mk _ _)
   apply aO.step
   case aB=>
    intro c A w' hok hC hO hD
    simp [au,aj,ak,Act.eval,Region.binds] at hD
    simp [go_sem,gd,Oper.wp,hD]
    exact ay.mk (Mk.refl _ _) hC (aj.mk _ _)
   apply aO.step
   case aB=>
    intro c A w' hok hC hO hD
    simp [au,aj,ak,Act.eval,Region.binds] at hD
    simp [go_sem,gd,Oper.wp,hD]
    exact ay.mk (Mk.refl _ _) hC (aj.mk _ _)
   simp only [List.nil_append,List.cons_append]
   apply aO.step
   case aB=>
    intro c A w' hok hC hO hD
    simp [au,aj,ak,Act.eval,Region.binds] at hD
    simp [go_sem,gd,Oper.wp,hD,K0,hC.2]
    exact ay.mk (Mk.refl _ _) hC (aj.mk _ _)
   refine aO.some (fun v _=> ∃r:Nat,v= .int .i64 (r:Int)∧r < 8) (fun _ _ _ _ h=>h) ?_ ?_
   ·intro c A w' hok hC hO hD
    simp [au,aj,ak,Act.eval,Region.binds] at hD
    simp [go_sem,gd,Oper.wp,hD]
    refine (dQ T 8 w' (by unfold aU; decide) hC.2).mono ?_
    rintro e w2 ⟨r,rfl,h0,h1,-,hM,hI⟩
    obtain ⟨r',rfl⟩:=Int.eq_ofNat_of_zero_le h0
    exact ay.mk hM ⟨hC.1.trans hM,hI⟩ ⟨r',rfl,by have:=h1 (by decide); omega⟩
   simp only [List.nil_append,List.cons_append]
   refine aO.some (fun v w'=> ∃r:Nat,v= .int .i64 (r:Int)∧3≤r∧r≤10) (fun _ _ _ _ h=>h) ?_ ?_
   ·intro c A w' hok hC hO hD
    simp [au,aj,ak,Act.eval,Region.binds] at hD
    obtain ⟨r,hr,Gn⟩:=hD
    have hw:IntKind.i64.wrap (3 + (r:Int))=3 + r:=IntWalk.i64_in _ (by omega)
    simp [go_sem,gd,Oper.wp,hr,hw]
    exact ay.mk (Mk.refl _ _) hC (⟨3 + r,by simp,by omega,by omega⟩)
   simp only [List.nil_append,List.cons_append]
   refine aO.some (fun v w'=> ∃r:Nat,v= .int .i64 (r:Int)∧r < 10) (fun _ _ _ _ h=>h) ?_ ?_
   ·intro c A w' hok hC hO hD
    simp [au,aj,ak,Act.eval,Region.binds] at hD
    obtain ⟨⟨r,hr,h1⟩,s,hs,h2,h3⟩:=hD
    have hs2:s≠0:=by omega
    simp [go_sem,gd,Oper.wp,hr,hs,hs2]
    exact ay.mk (Mk.refl _ _) hC (⟨r % s,rfl,Nat.lt_of_le_of_lt (Nat.mod_le _ _) h1⟩)
   refine aO.some (fun v w'=> ∃r:Nat,v= .pointer (some ⟨w.heap.size + 1,r,none⟩)∧r < 10) (fun _ _ _ _ h=>h) ?_ ?_
   ·intro c A w' hok hC hO hD
    simp [au,aj,ak,Act.eval,Region.binds] at hD
    obtain ⟨h46,r,hr,h1⟩:=hD
    have hb0:(0:Int)≤(r:Int):=by omega
    have hb1:(r:Int) < 10:=by omega
    simp [go_sem,gd,Oper.wp,h46,hr,hb0,hb1]
    exact ay.mk (Mk.refl _ _) hC (⟨r,rfl,h1⟩)
   simp only [List.nil_append,List.cons_append]
   refine aO.some (fun v w'=> ∃s:ByteArray,v= .string s∧nK s) (fun _ _ _ _ h=>h) ?_ ?_
   ·intro c A w' hok hC hO hD
    simp [au,aj,ak,Act.eval,Region.binds] at hD
    obtain ⟨r,hr,h1⟩:=hD
    obtain ⟨s,hs,hsz⟩:=KN w' hC.1 r h1
    simp [go_sem,gd,Oper.wp,hr,hs]
    exact ay.mk (Mk.refl _ _) hC (⟨s,rfl,hsz⟩)
   refine aO.some (fun v _=> ∃s:ByteArray,v=exV 2 0 s .nil none 0∧nK s) (fun _ _ _ _ h=>h) ?_ ?_
   ·intro c A w' hok hC hO hD
    simp [au,aj,ak,Act.eval,Region.binds] at hD
    obtain ⟨⟨s,hs,hsz⟩,-⟩:=hD
    simp [go_sem,gd,Oper.wp,hs]
    refine (QT s w').mono ?_
    rintro e w3 ⟨rfl,hb⟩
    exact ay.mk (Mk.of_below hb) ⟨hC.1.trans (Mk.of_below hb),hC.2.below hb⟩ ⟨s,rfl,hsz⟩
   simp only [List.nil_append,List.cons_append]
   refine aO.done ?_
   intro wz dP
   simp only [List.drop_zero]
   intro v0 h0 v1 h1 v2 h2 v3 h3 v4 h4 v5 h5 v6 h6 v7 h7 v8 h8 v9 h9 v10 h10 v11 h11 v12 h12 v13 mM v14 nW v15 oO v16 h16 v17 qx
   obtain ⟨s,rfl,hsz⟩:=qx
   clear h0 h1 h2 h3 h4 h5 h6 h7 h8 h9 h10 h11 h12 mM nW oO h16 K0 KN hd1 hd2
   refine dG.nil ?_
   go_simp
   have Oz:Hid (wz.heap[w.heap.size]? =some (.cells zK 45 (0,0))):=Lib.hid ((dP.1.block _ (Array.getElem?_eq_some_iff.1 HZ2.out).1 (by have:=dR.out; omega) (by have:=dR.out; omega)).trans HZ2.out)
   obtain ⟨⟨y0,y1,y2,y3⟩,fz⟩:=AX Oz.out
   have f0:=fz 0
   have f1:=fz 1
   have f2:=fz 2
   have f3:=fz 3
   have Na:=Lib.hid (HM.out.trans dP.1)
   have zH:=Lib.hid dP.2
   clear fz dP
   unfold exV
   refine iD 18 [[],[],[1],[1,2],[1,2,3],[],[5],[1,2,3,4,5,6],[],[8],[8,9],[8,9,10],[1,2,3,4,5,6,7,8,9,10,11],[1,2,3,4,5,6,7,8,9,10,11,12],[1,2,3,4,5,6,7,8,9,10,11,12,13],[0,1,2,3,4,5,6,7,8,9,10,11,12,13,14],[0,1,2,3,4,5,6,7,8,9,10,11,12,13,14,15],[0,1,2,3,4,5,6,7,8,9,10,11,12,13,14,15,16],[0,1,2,3,4,5,6,7,8,9,10,11,12,13,14,15,16,17]] rfl rfl rfl rfl rfl (by kernel_rfl) (by kernel_rfl) (by kernel_rfl) ?_
   simp [go_sem,Oper.wp,y0,y1,y2,y3,f0,f1,f2,f3,aP.len]
   refine gL rfl ?_
   go_simp
   go_wp2_with fail
   obtain ⟨q1,q2,q3⟩:=Jl (.int .i64 2) (.int .i64 0) (.string s) (.slice none 0 0) Na.out zH.out dR.out
   exact bodyPost_ret (v:=exV 2 0 s .nil none 0) (by simp [results,Tryz.results51,go_sem,exV,aP.len,y0,y1,y2,y3]) rfl (zY q1 q2 ⟨2,0,s,.nil,none,0,rfl,⟨⟨by unfold aU; decide,by unfold aU; decide,hsz.1,by unfold maxLen; decide⟩,(Ym hsz.2).mono (Nat.le_trans (by decide) (GD _))⟩,fun _ _=>trivial⟩)
 ·have Ye:Hid (GE (d - 1) + GE (d - 1) + 60≤GE d):=Lib.hid (by
   obtain ⟨d',rfl⟩: ∃d',d=d' + 1:=⟨d - 1,by omega⟩
   exact Zf d')
  have HX:Hid (∀w,dJ w T→Calls Tryz.prog 51 #[.pointer (some ⟨T.bm,0,none⟩),.int .i64 ((d:Int) - 1)] w (MQ T (GE (d - 1)) w)):=Lib.hid (by
   obtain ⟨d',rfl⟩: ∃d',d=d' + 1:=⟨d - 1,by omega⟩
   have:=iY.out d' rfl
   unfold uP at this
   rw [Int.toNat_natCast] at this
   rw [show ((d' + 1:Nat):Int) - 1=(d':Int) by omega]; exact this)
  have hdz:((d:Int) == 0)=false:=by rw [beq_eq_false_iff_ne]; omega
  have hd0:0 < d:=by omega
  have HW2:Hid (w.heap.size + 1≤w2.heap.size):=Lib.hid (by have:=(Array.getElem?_eq_some_iff.1 HZ2.out).1; omega)
  have HC:=Lib.hid hC
  clear hC iY VB
  have K0: ∀w',dJ w' T→w'.cell? ⟨T.bm,0,none⟩=some (.pointer (some ⟨T.bt,0,none⟩)):=fun w' h=>h.ptr
  have hwd:IntKind.i64.wrap ((d:Int) - 1)=(d:Int) - 1:=IntWalk.i64_in _ (by omega)
  have YI:k=8∨(9≤k∧k < 11)∨11≤k:=by have:=HC.out; omega
  rcases YI with rfl | ⟨hk9,hk10⟩ | ar8
  ·go_upto_region 9 with fail
   have hd1:Mk T w2 (w2.drewN 1):=Mk.of_below (below_drewN (Below.refl _ _) 1)
   have hd2:dJ (w2.drewN 1) T:=HI2.out.below (below_drewN (Below.refl _ _) 1)
   refine eY (by kernel_rfl) rfl ?_
   refine eB 0 14 [] [[],[],[1],[1,2],[1,2,3],[1,2,3,4],[0,1,2,3,4,5],[0,1,2,3,4,5,6],[],[],[9],[1,2,3,4,5,8,9,10],[1,2,3,4,5,8,9,10,11],[0,1,2,3,4,5,6,7,8,9,10,11,12],[0,1,2,3,4,5,6,7,8,9,10,11,12,13]] [[],[],[],[],[],[],[],[],[],[],[],[],[],[]] (fun _ w'=>Mk T w2 w'∧dJ w' T) (fun w w'=>Mk T w w') [67,68,69,70,71,72,73,74,75,76,77,78,79,80] rfl rfl (by rfl) (by kernel_rfl) (by kernel_rfl) (by kernel_rfl) (by kernel_rfl) (by kernel_rfl) (by rfl) (fun _=>Mk.refl _ _) (by rfl) ⟨hd1,hd2⟩ ?_
   simp only [List.take_succ_cons,List.take_zero,List.drop_zero,List.drop_succ_cons,jY,List.map_cons,List.map_nil]
   refine aO.some (fun v w'=> ∃g,v= .slice (some ⟨g,0,none⟩) 5 5∧w2.heap.size≤g∧w'.heap[g]? =some (.cells VK 9 (0,0))) ?_ ?_ ?_
   ·rintro v w1 w' hle ⟨g,h1,h2,h3⟩
    exact ⟨g,h1,h2,(hle.block g (Array.getElem?_eq_some_iff.1 h3).1 (by have:=dR.out; have:=HW2.out; omega) (by have:=dR.out; have:=HW2.out; omega)).trans h3⟩
   ·intro c A w' hok hC hO hD
    simp [go_sem,gd,Oper.wp]
    exact ay.mk (d:=_) (v:= .slice (some ⟨_,0,none⟩) 5 5) (Mk.of_below (ah _ _)) ⟨hC.1.trans (Mk.of_below (ah _ _)),hC.2.below (ah _ _)⟩ ⟨_,rfl,hC.1.size,heap_alloc_new _ _⟩
   simp only [List.nil_append,List.cons_append]
   apply aO.step
   case aB=>
    intro c A w' hok hC hO hD
    have e0:=hO 0 (by rfl)
    simp [Act.eval] at e0
    simp [au,aj,ak,Act.eval,Region.binds] at hD
    simp [go_sem,gd,Oper.wp,hD,e0]
    exact ay.mk (Mk.refl _ _) hC (aj.mk _ _)
   apply aO.step
   case aB=>
    intro c A w' hok hC hO hD
    simp [au,aj,ak,Act.eval,Region.binds] at hD
    simp [go_sem,gd,Oper.wp,hD]
    exact ay.mk (Mk.refl _ _) hC (aj.mk _ _)
   apply aO.step
   case aB=>
    intro c A w' hok hC hO hD
    simp [au,aj,ak,Act.eval,Region.binds] at hD
    simp [go_sem,gd,Oper.wp,hD]
    exact ay.mk (Mk.refl _ _) hC (aj.mk _ _)
   simp only [List.nil_append,List.cons_append]
   apply aO.step
   case aB=>
    intro c A w' hok hC hO hD
    simp [au,aj,ak,Act.eval,Region.binds] at hD
    simp [go_sem,gd,Oper.wp,hD,K0,hC.2]
    exact ay.mk (Mk.refl _ _) hC (aj.mk _ _)
   refine aO.some (fun v _=> ∃r:Nat,v= .int .i64 (r:Int)∧r < 5) (fun _ _ _ _ h=>h) ?_ ?_
   ·intro c A w' hok hC hO hD
    simp [au,aj,ak,Act.eval,Region.binds] at hD
    simp [go_sem,gd,Oper.wp,hD]
    refine (dQ T 5 w' (by unfold aU; decide) hC.2).mono ?_
    rintro e w2 ⟨r,rfl,h0,h1,-,hM,hI⟩
    obtain ⟨r',rfl⟩:=Int.eq_ofNat_of_zero_le h0
    exact ay.mk hM ⟨hC.1.trans hM,hI⟩ ⟨r',rfl,by have:=h1 (by decide); omega⟩
   simp only [List.nil_append,List.cons_append]
   refine aO.some (fun v w'=> ∃(g r:Nat),v= .pointer (some ⟨g,r,none⟩)∧r < 5∧w2.heap.size≤g∧w'.heap[g]? =some (.cells VK 9 (0,0))) (fun v w1 w' hle ⟨g,r,h1,h1',h2,h3⟩=>⟨g,r,h1,h1',h2,(hle.block g (Array.getElem?_eq_some_iff.1 h3).1 (by have:=dR.out; have:=HW2.out; omega) (by have:=dR.out; have:=HW2.out; omega)).trans h3⟩) ?_ ?_
   ·intro c A w' hok hC hO hD
    simp [au,aj,ak,Act.eval,Region.binds] at hD
    obtain ⟨⟨g,hg,hg1,hg2⟩,r,hr,h1⟩:=hD
    have hb0:(0:Int)≤(r:Int):=by omega
    have hb1:(r:Int) < 5:=by omega
    simp [go_sem,gd,Oper.wp,hg,hr,hb0,hb1]
    exact ay.mk (Mk.refl _ _) hC (⟨g,r,rfl,h1,hg1,hg2⟩)
   simp only [List.nil_append,List.cons_append]
   refine aO.some (fun v w'=> ∃s:ByteArray,v= .string s∧nK s) (fun _ _ _ _ h=>h) ?_ ?_
   ·intro c A w' hok hC hO hD
    simp [au,aj,ak,Act.eval,Region.binds] at hD
    obtain ⟨g,r,hr,h1,hg1,hg2⟩:=hD
    obtain ⟨s,hs,hsz⟩:=WE r h1
    simp [go_sem,gd,Oper.wp,hr,(bL hg2 hs).2]
    exact ay.mk (Mk.refl _ _) hC (⟨s,rfl,hsz⟩)
   apply aO.step
   case aB=>
    intro c A w' hok hC hO hD
    have e0:=hO 0 (by rfl)
    simp [Act.eval] at e0
    simp [au,aj,ak,Act.eval,Region.binds] at hD
    simp [go_sem,gd,Oper.wp,hD,e0]
    exact ay.mk (Mk.refl _ _) hC (aj.mk _ _)
   apply aO.step
   case aB=>
    intro c A w' hok hC hO hD
    have e1:=hO 1 (by rfl)
    simp [Act.eval] at e1
    simp [au,aj,ak,Act.eval,Region.binds] at hD
    simp [go_sem,gd,Oper.wp,hD,e1]
    exact ay.mk (Mk.refl _ _) hC (aj.mk _ _)
   simp only [List.nil_append,List.cons_append]
   apply aO.step
   case aB=>
    intro c A w' hok hC hO hD
    simp [au,aj,ak,Act.eval,Region.binds] at hD
    simp [go_sem,gd,Oper.wp,hD,hwd]
    exact ay.mk (Mk.refl _ _) hC (aj.mk _ _)
   refine aO.some (fun v w'=>EX (GE (d - 1)) w2.heap.size v w') (fun v w1 w' hle h=>h.next (hle.xA (by have:=dR.out; have:=HW2.out; omega) (by have:=dR.out; have:=HW2.out; omega))) ?_ ?_
   ·intro c A w' hok hC hO hD
    simp [au,aj,ak,Act.eval,Region.binds] at hD
    simp [go_sem,gd,Oper.wp,hD]
    refine (HX.out w' hC.2).mono ?_
    intro e w3 hp
    obtain ⟨v,rfl,h1,h2,h3⟩:=qH hp
    exact ay.mk h2 ⟨hC.1.trans h2,h3⟩ (h1.mono hC.1.size)
   simp only [List.nil_append,List.cons_append]
   refine aO.some (fun v w'=>XS (GE (d - 1)) w2.heap.size 1 v w') (fun v w1 w' hle h=>h.next (hle.xA (by have:=dR.out; have:=HW2.out; omega) (by have:=dR.out; have:=HW2.out; omega))) ?_ ?_
   ·intro c A w' hok hC hO hD
    simp [au,aj,ak,Act.eval,Region.binds] at hD
    obtain ⟨op,n,nm,kids,ao,cap,hv,hok',hst⟩:=hD
    unfold exV at hv
    simp [go_sem,gd,Oper.wp,hv]
    exact ay.mk (d:=_) (v:= .slice (some ⟨_,0,none⟩) 1 1) (Mk.of_below (ah _ _)) ⟨hC.1.trans (Mk.of_below (ah _ _)),hC.2.below (ah _ _)⟩ ⟨.cons op n nm kids .nil,some ⟨_,0,none⟩,1,rfl,⟨rfl,yM hok'.2⟩,rE (heap_alloc_new _ _) hC.1.size hok'.1 (hst.next (aY (ah _ _)))⟩
   refine aO.some (fun v w'=>EX (GE d) w2.heap.size v w') (fun v w1 w' hle h=>h.next (hle.xA (by have:=dR.out; have:=HW2.out; omega) (by have:=dR.out; have:=HW2.out; omega))) ?_ ?_
   ·intro c A w' hok hC hO hD
    simp [au,aj,ak,Act.eval,Region.binds] at hD
    obtain ⟨⟨s,hs,hsz⟩,l,ao,cap,hv,hl,hst⟩:=hD
    simp [go_sem,gd,Oper.wp,hs,hv]
    exact ay.mk (Mk.refl _ _) hC ⟨3,0,s,l,ao,cap,rfl,⟨⟨by unfold aU; decide,by unfold aU; decide,hsz.1,by rw [hl.1]; unfold maxLen; decide⟩,(Un hsz.2 hl.1 hl.2).mono (by have:=Ye.out; omega)⟩,hst⟩
   simp only [List.nil_append,List.cons_append]
   refine aO.done ?_
   intro wz dP
   simp only [List.drop_zero]
   intro v0 h0 v1 h1 v2 h2 v3 h3 v4 h4 v5 h5 v6 h6 v7 h7 v8 h8 v9 h9 v10 h10 v11 h11 v12 h12 v13 mM
   obtain ⟨op,n,nm,kids,ao,cap,rfl,hok,hst⟩:=mM
   clear h0 h1 h2 h3 h4 h5 h6 h7 h8 h9 h10 h11 h12 K0 hd1 hd2 hwd
   refine dG.nil ?_
   go_simp
   have Oz:Hid (wz.heap[w.heap.size]? =some (.cells zK 45 (0,0))):=Lib.hid ((dP.1.block _ (Array.getElem?_eq_some_iff.1 HZ2.out).1 (by have:=dR.out; omega) (by have:=dR.out; omega)).trans HZ2.out)
   obtain ⟨⟨y0,y1,y2,y3⟩,fz⟩:=AX Oz.out
   have f0:=fz 0
   have f1:=fz 1
   have f2:=fz 2
   have f3:=fz 3
   have Na:=Lib.hid (HM.out.trans dP.1)
   have zH:=Lib.hid dP.2
   have gV:=Lib.hid hok
   have HST:=Lib.hid (dB.mono hst HW2.out)
   clear fz dP hok hst
   unfold exV
   refine iD 14 [[],[],[1],[1,2],[1,2,3],[1,2,3,4],[0,1,2,3,4,5],[0,1,2,3,4,5,6],[],[],[9],[1,2,3,4,5,8,9,10],[1,2,3,4,5,8,9,10,11],[0,1,2,3,4,5,6,7,8,9,10,11,12],[0,1,2,3,4,5,6,7,8,9,10,11,12,13]] rfl rfl rfl rfl rfl (by kernel_rfl) (by kernel_rfl) (by kernel_rfl) ?_
   simp [go_sem,Oper.wp,y0,y1,y2,y3,f0,f1,f2,f3]
   refine gL rfl ?_
   go_simp
   go_wp2_with fail
   obtain ⟨q1,q2,q3⟩:=Jl (.int .i64 op) (.int .i64 n) (.string nm) (.slice ao kids.len cap) Na.out zH.out dR.out
   exact bodyPost_ret (v:=exV op n nm kids ao cap) (by simp [results,Tryz.results51,go_sem,exV,y0,y1,y2,y3]) rfl (zY q1 q2 ⟨op,n,nm,kids,ao,cap,rfl,gV.out,(HST.out.next q3).mono (Nat.le_succ _)⟩)
  ·have ag8:(k == 8)=false:=by rw [beq_eq_false_iff_ne]; omega
   have c0:=HI2.out.ptr
   clear K0 hwd
   go_wp2_with fail
   refine (dQ T 2 _ (by unfold aU; decide) HI2.out).mono ?_
   rintro e w3 ⟨r,rfl,hr0,hr1,hr2,vH,uY⟩
   have hr3:r < 2:=hr1 (by decide)
   have HI3:=Lib.hid uY
   have zQ:=Lib.hid (HM.out.trans vH)
   have Im:=Lib.hid vH
   clear vH uY hr1 hr2 c0
   go_wp2_with fail
   refine (HX.out _ HI3.out).mono ?_
   intro e w4 hp
   obtain ⟨v,rfl,hex,zG,FC⟩:=qH hp
   obtain ⟨op,n,nm,kids,ao,cap,rfl,hok,hst⟩:=hex
   have oN:=Lib.hid (zQ.out.trans zG)
   have gV:=Lib.hid hok
   have HST:=Lib.hid (hst.mono (Nat.le_trans HW2.out Im.out.size))
   have HI4:=Lib.hid FC
   have gG:Hid (w4.heap[w.heap.size]? =some (.cells zK 45 (0,0))):=Lib.hid (((Im.out.trans zG).block _ (Array.getElem?_eq_some_iff.1 HZ2.out).1 (by have:=dR.out; omega) (by have:=dR.out; omega)).trans HZ2.out)
   have HW4:Hid (w.heap.size + 1≤w4.heap.size):=Lib.hid (by have:=(Array.getElem?_eq_some_iff.1 gG.out).1; omega)
   clear hp hok hst zG FC
   obtain ⟨⟨y0,y1,y2,y3⟩,fz⟩:=AX gG.out
   have f0:=fz 0
   have f1:=fz 1
   have f2:=fz 2
   have f3:=fz 3
   have I9:w.heap.size < w4.heap.size:=HW4.out
   clear fz
   unfold exV
   go_wp2_with fail
   have HF:=Lib.hid (Z7 (q':=GE d) (by have:=Ye.out; omega) (a:=4 + r) (cap:=cap) (t:=45) oN.out HI4.out dR.out (show 4 + r=4∨4 + r=5 by omega) gV.out HST.out HW4.out)
   exact bodyPost_ret (v:=exV (4 + r) 0 ⟨#[]⟩ (.cons op n nm kids .nil) (some ⟨w4.heap.size,0,none⟩) 1) (by simp [results,Tryz.results51,go_sem,exV,aP.len,y0,y1,y2,y3,I9]) rfl HF.out
  ·have ag8:(k == 8)=false:=by rw [beq_eq_false_iff_ne]; omega
   have c0:=HI2.out.ptr
   go_wp2_with fail
   refine (dQ T 13 _ (by unfold aU; decide) HI2.out).mono ?_
   rintro e w3 ⟨r,rfl,hr0,hr1,hr2,vH,uY⟩
   have hr3:r < 13:=hr1 (by decide)
   have HI3:=Lib.hid uY
   have zQ:=Lib.hid (HM.out.trans vH)
   have Im:=Lib.hid vH
   clear vH uY hr1 hr2 c0
   go_wp2_with fail
   refine (HX.out _ HI3.out).mono ?_
   intro e w4 hp
   obtain ⟨v,rfl,hex,zG,FC⟩:=qH hp
   obtain ⟨op,n,nm,kids,ao,cap,rfl,hok,hst⟩:=hex
   have oN:=Lib.hid (zQ.out.trans zG)
   have gV:=Lib.hid hok
   have HST:=Lib.hid (hst.mono (Nat.le_trans HW2.out Im.out.size))
   have HI4:=Lib.hid FC
   have gG:Hid (w4.heap[w.heap.size]? =some (.cells zK 45 (0,0))):=Lib.hid (((Im.out.trans zG).block _ (Array.getElem?_eq_some_iff.1 HZ2.out).1 (by have:=dR.out; omega) (by have:=dR.out; omega)).trans HZ2.out)
   clear hp hok hst zG FC
   unfold exV
   go_upto_region 14 with fail
   obtain ⟨ga,hga⟩: ∃g,w4.heap.size=g:=⟨_,rfl⟩
   generalize qB:World.alloc w4 _=W5
   have jE:Hid (Below w4.heap.size w4 W5):=Lib.hid (by rw [← qB]; exact ah _ _)
   have Zy:Hid (W5.heap[ga]? =some (.cells #[.int .i64 op,.int .i64 n,.string nm,.slice ao kids.len cap] 45 (0,0))):=Lib.hid (by rw [← qB,← hga]; exact heap_alloc_new _ _)
   have IL:=Lib.hid (HI4.out.below jE.out)
   have CV:=Lib.hid (oN.out.trans (Mk.of_below jE.out))
   have kJ:Hid (W5.heap[w.heap.size]? =some (.cells zK 45 (0,0))):=Lib.hid ((jE.out.block _ (Array.getElem?_eq_some_iff.1 gG.out).1).trans gG.out)
   have ad7:=Lib.hid (HST.out.next (aY jE.out))
   have oQ:Hid (w.heap.size < ga):=Lib.hid (by rw [← hga]; exact (Array.getElem?_eq_some_iff.1 gG.out).1)
   have OQ:Hid (w.heap.size + 1≤W5.heap.size):=Lib.hid (by have:=(Array.getElem?_eq_some_iff.1 kJ.out).1; omega)
   rw [hga]
   clear qB hga jE gG HST oN HI4
   have KA: ∀w',Mk T W5 w'→w'.heap[ga]? =some (.cells #[.int .i64 op,.int .i64 n,.string nm,.slice ao kids.len cap] 45 (0,0)):=fun w' h=>(h.block _ (Array.getElem?_eq_some_iff.1 Zy.out).1 (by have:=dR.out; have:=oQ.out; omega) (by have:=dR.out; have:=oQ.out; omega)).trans Zy.out
   have KA0: ∀w',Mk T W5 w'→w'.cell? ⟨ga,0,none⟩=some (.int .i64 op):=fun w' h=>(bL (KA w' h) (j:=0) rfl).2
   have Zx: ∀w',Mk T W5 w'→w'.cell? ⟨ga,1,none⟩=some (.int .i64 n):=fun w' h=>(bL (KA w' h) (j:=1) rfl).2
   have KA2: ∀w',Mk T W5 w'→w'.cell? ⟨ga,2,none⟩=some (.string nm):=fun w' h=>(bL (KA w' h) (j:=2) rfl).2
   have Zz: ∀w',Mk T W5 w'→w'.cell? ⟨ga,3,none⟩=some (.slice ao kids.len cap):=fun w' h=>(bL (KA w' h) (j:=3) rfl).2
   have hd1:Mk T W5 (W5.drewN 1):=Mk.of_below (below_drewN (Below.refl _ _) 1)
   have hd2:dJ (W5.drewN 1) T:=IL.out.below (below_drewN (Below.refl _ _) 1)
   clear KA
   refine eY (by kernel_rfl) rfl ?_
   refine eB 0 7 [] [[],[],[],[],[3],[2,3,4],[0,1,2,3,4,5],[0,1,2,3,4,5,6]] [[],[],[],[],[],[],[]] (fun _ w'=>Mk T W5 w'∧dJ w' T) (fun w w'=>Mk T w w') [106,107,108,109,110,111,112] rfl rfl (by rfl) (by kernel_rfl) (by kernel_rfl) (by kernel_rfl) (by kernel_rfl) (by kernel_rfl) (by rfl) (fun _=>Mk.refl _ _) (by rfl) ⟨hd1,hd2⟩ ?_
   simp only [List.take_succ_cons,List.take_zero,List.drop_zero,List.drop_succ_cons,jY,List.map_cons,List.map_nil]
   apply aO.step
   case aB=>
    intro c A w' hok hC hO hD
    have e8:=hO 8 (by rfl)
    simp [Act.eval] at e8
    simp [au,aj,ak,Act.eval,Region.binds] at hD
    simp [go_sem,gd,Oper.wp,hD,e8]
    exact ay.mk (Mk.refl _ _) hC (aj.mk _ _)
   apply aO.step
   case aB=>
    intro c A w' hok hC hO hD
    have e9:=hO 9 (by rfl)
    simp [Act.eval] at e9
    simp [au,aj,ak,Act.eval,Region.binds] at hD
    simp [go_sem,gd,Oper.wp,hD,e9,KA0,Zx,KA2,Zz,hC.1]
    exact ay.mk (Mk.refl _ _) hC (aj.mk _ _)
   apply aO.step
   case aB=>
    intro c A w' hok hC hO hD
    have e0:=hO 0 (by rfl)
    simp [Act.eval] at e0
    simp [au,aj,ak,Act.eval,Region.binds] at hD
    simp [go_sem,gd,Oper.wp,hD,e0]
    exact ay.mk (Mk.refl _ _) hC (aj.mk _ _)
   apply aO.step
   case aB=>
    intro c A w' hok hC hO hD
    have e1:=hO 1 (by rfl)
    simp [Act.eval] at e1
    simp [au,aj,ak,Act.eval,Region.binds] at hD
    simp [go_sem,gd,Oper.wp,hD,e1]
    exact ay.mk (Mk.refl _ _) hC (aj.mk _ _)
   simp only [List.nil_append,List.cons_append]
   apply aO.step
   case aB=>
    intro c A w' hok hC hO hD
    simp [au,aj,ak,Act.eval,Region.binds] at hD
    simp [go_sem,gd,Oper.wp,hD,hwd]
    exact ay.mk (Mk.refl _ _) hC (aj.mk _ _)
   refine aO.some (fun v w'=>EX (GE (d - 1)) (w.heap.size + 1) v w') (fun v w1 w' hle h=>h.next (hle.xA (by have:=dR.out; omega) (by have:=dR.out; omega))) ?_ ?_
   ·intro c A w' hok hC hO hD
    simp [au,aj,ak,Act.eval,Region.binds] at hD
    simp [go_sem,gd,Oper.wp,hD]
    refine (HX.out w' hC.2).mono ?_
    intro e w3 hp
    obtain ⟨v,rfl,h1,h2,h3⟩:=qH hp
    exact ay.mk h2 ⟨hC.1.trans h2,h3⟩ (h1.mono (Nat.le_trans OQ.out hC.1.size))
   simp only [List.nil_append,List.cons_append]
   refine aO.some (fun v w'=>EX (GE d) (w.heap.size + 1) v w') (fun v w1 w' hle h=>h.next (hle.xA (by have:=dR.out; omega) (by have:=dR.out; omega))) ?_ ?_
   ·intro c A w' hok hC hO hD
    simp [au,aj,ak,Act.eval,Region.binds] at hD
    obtain ⟨aj7,aj8,op',n',nm',eD,gQ,cap',hv,hok',hst'⟩:=hD
    unfold exV at hv
    simp [go_sem,gd,Oper.wp,aj7,aj8,hv]
    refine (LG (6 + r) op n nm kids ao cap op' n' nm' eD gQ cap' w').mono ?_
    rintro e w6 ⟨g,rfl,hg,hcell,hb⟩
    refine ay.mk (Mk.of_below hb) ⟨hC.1.trans (Mk.of_below hb),hC.2.below hb⟩ ⟨6 + r,0,⟨#[]⟩,.cons op n nm kids (.cons op' n' nm' eD .nil),some ⟨g,0,none⟩,2,rfl,⟨⟨by unfold aU; omega,by unfold aU; decide,by unfold maxLen; decide,by simp [aP.len,maxLen]⟩,(V3 hr0 hr3 gV.out.2 hok'.2).mono Ye.out⟩,Qb hcell (Nat.le_trans (Nat.le_trans OQ.out hC.1.size) hg) gV.out.1 ?_ hok'.1 (hst'.next (aY hb))⟩
    exact ad7.out.next (((hC.1).xA (by have:=dR.out; omega) (by have:=dR.out; omega)).trans (aY hb))
   simp only [List.nil_append,List.cons_append]
   refine aO.done ?_
   intro wz dP
   simp only [List.drop_zero]
   intro v0 h0 v1 h1 v2 h2 v3 h3 v4 h4 v5 h5 v6 h6
   obtain ⟨op',n',nm',eD,gQ,cap',rfl,hok,hst⟩:=h6
   clear h0 h1 h2 h3 h4 h5 K0 hd1 hd2 hwd KA0 Zx KA2 Zz
   refine dG.nil ?_
   go_simp
   have Oz:Hid (wz.heap[w.heap.size]? =some (.cells zK 45 (0,0))):=Lib.hid ((dP.1.block _ (Array.getElem?_eq_some_iff.1 kJ.out).1 (by have:=dR.out; omega) (by have:=dR.out; omega)).trans kJ.out)
   obtain ⟨⟨y0,y1,y2,y3⟩,fz⟩:=AX Oz.out
   have f0:=fz 0
   have f1:=fz 1
   have f2:=fz 2
   have f3:=fz 3
   have Na:=Lib.hid (CV.out.trans dP.1)
   have zH:=Lib.hid dP.2
   have ag7:=Lib.hid hok
   have ah2:=Lib.hid hst
   clear fz dP hok hst
   unfold exV
   refine iD 7 [[],[],[],[],[3],[2,3,4],[0,1,2,3,4,5],[0,1,2,3,4,5,6]] rfl rfl rfl rfl rfl (by kernel_rfl) (by kernel_rfl) (by kernel_rfl) ?_
   simp [go_sem,Oper.wp,y0,y1,y2,y3,f0,f1,f2,f3]
   refine gL rfl ?_
   go_simp
   go_wp2_with fail
   obtain ⟨q1,q2,q3⟩:=Jl (.int .i64 op') (.int .i64 n') (.string nm') (.slice gQ eD.len cap') Na.out zH.out dR.out
   exact bodyPost_ret (v:=exV op' n' nm' eD gQ cap') (by simp [results,Tryz.results51,go_sem,exV,y0,y1,y2,y3]) rfl (zY q1 q2 ⟨op',n',nm',eD,gQ,cap',rfl,ag7.out,(ah2.out.next q3).mono (Nat.le_succ _)⟩)
theorem Cm (T:Tp): ∀d:Nat,d≤100→uP T (d:Int)
 | 0,h=>EU T 0 h (fun d' e=>by omega)
 | d + 1,h=>EU T (d + 1) h (fun d' e=>by
   obtain rfl:d=d':=by omega
   exact Cm T d (by omega))
end Go.Proofs.YtehnipchbmjlhaaGreatDoor
end
