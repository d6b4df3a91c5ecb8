/-
  The tape that programs are made of: contracts of Tape.Next, name and binary.
  What makes programs of numbers: its state as data, what is kept.
  Contract of the maker's expr: it returns an expression that lies in new memory.
-/
import Derived.Test.YtehnipchbmjlhaaGreatDoorGMB
import Derived.Test.YtehnipchbmjlhaaGreatDoorGMA
import Derived.IntWalk
import Derived.Outline
import Derived.StillTailTactics
import Derived.Test.YtehnipchbmjlhaaGreatDoorGMJ
import Derived.Test.YtehnipchbmjlhaaGreatDoorGMO
import Derived.Deep.RegionWith
set_option linter.unusedSimpArgs false
set_option linter.unusedVariables false
set_option maxHeartbeats 40000000
set_option maxRecDepth 1000000
section
namespace Go.Proofs.YtehnipchbmjlhaaGreatDoor
open Go.RowKit
open Md
theorem uP {w:World} {b j:Nat} {cs:Array Value} {t:TypeId} {fr:Nat × Nat} {u:Value} (h:w.heap[b]? =some (.cells cs t fr)) (hu:cs[j]? =some u):b < w.heap.size∧w.cell? ⟨b,j,none⟩=some u:=
 ⟨(Array.getElem?_eq_some_iff.1 h).1,aj h hu⟩
theorem Ud {b:Nat} {w1 w2 w3:World} (h:w1.grownBy w2 (some b)) (k:w2.grownBy w3 (some b)):w1.grownBy w3 (some b):=
 ⟨k.os.trans h.os,k.tape.trans h.tape,k.output.trans h.output,Nat.le_trans h.size k.size,fun j hj hne=>(k.block j (Nat.lt_of_lt_of_le hj h.size) hne).trans (h.block j hj hne)⟩
theorem aa3 {b:Nat} {w w':World} (h:Below w.heap.size w w'):w.grownBy w' (some b):=⟨h.os,h.tape,h.output,h.size,fun k hk _=>h.block k hk⟩
structure Tp where
 B0:Nat
 bt:Nat
 bm:Nat
 ao:Option Addr
 cap:Nat
 zs:List Int
 t0:B0≤bt
 m0:B0≤bm
 tm:bt≠bm
def GY (w:World) (B:Nat) (zs:List Int) (ao:Option Addr):Prop:= ∀(k:Nat) (hk:k < zs.length),∃b off,ao=some ⟨b,off,none⟩∧b < B∧w.cell? ⟨b,off + k,none⟩=some (.int .u8 zs[k])∧0≤zs[k]∧zs[k]≤255
theorem GY.below {w w':World} {B:Nat} {zs:List Int} {ao:Option Addr} (h:GY w B zs ao) (hb:Below B w w'):GY w' B zs ao:=fun k hk=>by
 obtain ⟨b,off,e,hB,hc,hz⟩:=h k hk
 exact ⟨b,off,e,hB,(hb.cell hB).trans hc,hz⟩
structure oZ (w:World) (T:Tp):Prop where
 blk: ∃at':Nat,at'≤T.zs.length∧w.heap[T.bt]? =some (.cells #[.slice T.ao T.zs.length T.cap,.int .i64 at'] 56 (0,0))
 GV:GY w T.B0 T.zs T.ao
 len:T.zs.length≤9223372036854775807
theorem oZ.lt {w:World} {T:Tp} (h:oZ w T):T.bt < w.heap.size:=by obtain ⟨a,-,h⟩:=h.blk; exact (Array.getElem?_eq_some_iff.1 h).1
theorem oZ.b0 {w:World} {T:Tp} (h:oZ w T):T.B0≤w.heap.size:=by have:=h.lt; have:=T.t0; omega
def Um (T:Tp) (n:Int) (w:World) (e:Ending) (w':World):Prop:= ∃r:Int,e= .returned (.int .i64 r)∧0≤r∧(0 < n→r < n)∧r≤255∧w.grownBy w' (some T.bt)∧oZ w' T
theorem CV {T:Tp} {n r:Int} {w w':World} (h0:0≤r) (h1:0 < n→r < n) (h2:r≤255) (h3:w.grownBy w' (some T.bt)) (h4:oZ w' T):Um T n w (.returned (.int .i64 r)) w':=⟨r,rfl,h0,h1,h2,h3,h4⟩
theorem sZ {b:Nat} (w:World) (n:Nat):w.grownBy (w.drewN n) (some b):=aa3 (below_drewN (Below.refl _ _) n)
theorem oZ.draws {w:World} {T:Tp} (h:oZ w T) (n:Nat):oZ (w.drewN n) T:=by
 obtain ⟨a,h1,h2⟩:=h.blk
 have hb:=below_drewN (Below.refl w.heap.size w) n
 exact ⟨⟨a,h1,(hb.block _ h.lt).trans h2⟩,h.GV.below (hb.mono h.b0),h.len⟩
theorem Rj (T:Tp) (n:Int) (w:World) (hn:aM n) (hI:oZ w T):
 Calls Tryz.prog 26 #[.pointer (some ⟨T.bt,0,none⟩),.int .i64 n] w (Um T n w):=by
 obtain ⟨a,ha,hblk⟩:=hI.blk
 have HI:=Lib.hid hI
 have HB:=Lib.hid hblk
 have hlen:=hI.len
 obtain ⟨hn1,hn2⟩:=hn
 have c0:w.cell? ⟨T.bt,0,none⟩=some (.slice T.ao T.zs.length T.cap):=(uP hblk (j:=0) rfl).2
 have c1:w.cell? ⟨T.bt,1,none⟩=some (.int .i64 (a:Int)):=(uP hblk (j:=1) rfl).2
 clear hI hblk
 by_cases h1:T.zs.length≤a
 ·have hd:decide ((T.zs.length:Int)≤(a:Int))=true:=by rw [decide_eq_true_iff]; omega
  go_enter Tryz.func26,Tryz.ntmps26
  go_wp2_with fail
  go_quiet (fail)
  go_wp2_with fail
  go_ret
  exact CV (by omega) (by omega) (by omega) (sZ _ _) (HI.out.draws _)
 ·have hd:decide ((T.zs.length:Int)≤(a:Int))=false:=by rw [decide_eq_false_iff_not]; omega
  by_cases h2:n < 1
  ·have hd2:decide (n < 1)=true:=by rw [decide_eq_true_iff]; omega
   go_enter Tryz.func26,Tryz.ntmps26
   go_wp2_with fail
   go_quiet (fail)
   go_wp2_with fail
   go_ret
   exact CV (by omega) (by omega) (by omega) (sZ _ _) (HI.out.draws _)
  ·have hd2:decide (n < 1)=false:=by rw [decide_eq_false_iff_not]; omega
   go_enter Tryz.func26,Tryz.ntmps26
   go_wp2_with fail
   go_quiet (fail)
   generalize hW:World.drewN w _=W1
   have HI1:Hid (oZ W1 T):=Lib.hid (by rw [← hW]; exact HI.out.draws _)
   have uM:Hid (w.grownBy W1 (some T.bt)):=Lib.hid (by rw [← hW]; exact sZ _ _)
   have HB1:Hid (W1.heap[T.bt]? =some (.cells #[.slice T.ao T.zs.length T.cap,.int .i64 (a:Int)] 56 (0,0))):=Lib.hid (by rw [← hW]; exact ((below_drewN (Below.refl w.heap.size w) _).block _ HI.out.lt).trans HB.out)
   clear hW c0 c1 HI HB hd hd2
   have c1:W1.cell? ⟨T.bt,1,none⟩=some (.int .i64 (a:Int)):=(uP HB1.out (j:=1) rfl).2
   have f1:W1.frozen? ⟨T.bt,1,none⟩=false:=aF HB1.out
   go_upto_region 4 with fail
   generalize hW2:World.setCell W1 _ _=W2
   have HB2:Hid (W2.heap[T.bt]? =some (.cells #[.slice T.ao T.zs.length T.cap,.int .i64 ((a:Int) + 1)] 56 (0,0))):=Lib.hid (by rw [← hW2,aW HB1.out]; rfl)
   have HG2:Hid (W1.grownBy W2 (some T.bt)):=Lib.hid (by rw [← hW2]; exact cu _ _ _)
   have HBY:Hid (GY W2 T.B0 T.zs T.ao):=Lib.hid (HI1.out.GV.below (fu HG2.out T.t0 HI1.out.b0))
   have HI2:Hid (oZ W2 T):=Lib.hid ⟨⟨a + 1,by omega,by rw [HB2.out]; rfl⟩,HBY.out,HI1.out.len⟩
   have HG:=Lib.hid (Ud uM.out HG2.out)
   clear hW2 c1 f1 uM HG2 HB1
   have ha:a < T.zs.length:=by omega
   obtain ⟨bb,off,hao,hbb,hcell,hz0,hz1⟩:=HBY.out a ha
   have c0:W2.cell? ⟨T.bt,0,none⟩=some (.slice T.ao T.zs.length T.cap):=(uP HB2.out (j:=0) rfl).2
   have c1:W2.cell? ⟨T.bt,1,none⟩=some (.int .i64 ((a:Int) + 1)):=(uP HB2.out (j:=1) rfl).2
   rw [hao] at c0
   generalize T.zs[a]=z at *
   have hw1:(a:Int) + 1 - 1=(a:Int):=by omega
   have hw2:IntKind.i64.wrap (a:Int)=(a:Int):=IntWalk.i64_in _ (by omega)
   have hb0:(0:Int)≤(a:Int):=by omega
   have hb1:(a:Int) < (T.zs.length:Int):=by omega
   have TN:=Lib.hid hao
   clear hao HI1
   go_quiet (fail)
   go_wp2_with fail
   go_ret
   have e1:=Int.emod_nonneg z (show n≠0 by omega)
   have e2:=Int.emod_lt_of_pos z (show 0 < n by omega)
   have e3:z % n≤255:=by
    by_cases hzn:z < n
    ·rw [Int.emod_eq_of_lt hz0 hzn]; exact hz1
    ·omega
   exact CV e1 (fun _=>e2) e3 (Ud HG.out (sZ _ _)) (HI2.out.draws _)
def nU (s:ByteArray):Prop:=s.size≤maxLen∧Tk.gM s.data.toList=true
theorem CP {s:ByteArray} (h:Tk.gM s.data.toList=true):s.size≤12:=by
 unfold Tk.gM at h
 simp only [Bool.and_eq_true,decide_eq_true_eq] at h
 rw [Lib.size_eq]; exact h.1.1.2
def Bg:Array Value:= #[.int .i64 0,.int .i64 0,.string ⟨#[]⟩,.slice none 0 0]
theorem BR {w:World} {b:Nat} {t:TypeId} (h:w.heap[b]? =some (.cells Bg t (0,0))):(w.cell? ⟨b,0,none⟩=some (.int .i64 0)∧w.cell? ⟨b,1,none⟩=some (.int .i64 0)∧w.cell? ⟨b,2,none⟩=some (.string ⟨#[]⟩)∧w.cell? ⟨b,3,none⟩=some (.slice none 0 0))∧(∀j,w.frozen? ⟨b,j,none⟩=false):=
 ⟨⟨(uP h (j:=0) rfl).2,(uP h (j:=1) rfl).2,(uP h (j:=2) rfl).2,(uP h (j:=3) rfl).2⟩,fun j=>aF h⟩
theorem RH (s:ByteArray) (w:World):
 Calls Tryz.prog 89 #[.string s] w fun e w'=>e= .returned (exV 2 0 s .nil none 0)∧Below w.heap.size w w':=by
 go_enter Tryz.func89,Tryz.ntmps89
 go_wp2
 exact bodyPost_ret (v:=exV 2 0 s .nil none 0) (by simp [results,Tryz.results89,go_sem,exV,aZ.len]) rfl ⟨rfl,ah _ _⟩
theorem MQ (op:Int) (o1 n1:Int) (m1:ByteArray) (k1:aZ) (a1:Option Addr) (c1:Nat) (o2 n2:Int) (m2:ByteArray) (k2:aZ) (a2:Option Addr) (c2:Nat) (w:World):
 Calls Tryz.prog 90 #[.int .i64 op,exV o1 n1 m1 k1 a1 c1,exV o2 n2 m2 k2 a2 c2] w fun e w'=> ∃g,e= .returned (.agg #[.int .i64 op,.int .i64 0,.string ⟨#[]⟩,.slice (some ⟨g,0,none⟩) 2 2])∧w.heap.size≤g∧w'.heap[g]? =some (.cells (pE o1 n1 m1 k1 a1 c1++pE o2 n2 m2 k2 a2 c2).toArray 45 (0,0))∧Below w.heap.size w w':=by
 unfold exV
 go_enter Tryz.func90,Tryz.ntmps90
 go_wp2
 refine bodyPost_ret (v:= .agg #[.int .i64 op,.int .i64 0,.string ⟨#[]⟩,.slice (some ⟨w.heap.size + 1 + 1 + 1,0,none⟩) 2 2]) (by simp [results,Tryz.results90,go_sem]) rfl ⟨w.heap.size + 1 + 1 + 1,rfl,by omega,?_,?_⟩
 ·generalize hW:World.alloc (World.alloc (World.alloc w _) _) _=W
  have e:W.heap.size=w.heap.size + 1 + 1 + 1:=by rw [← hW]; simp
  rw [← e]; exact heap_alloc_new _ _
 ·exact (((ah _ _).alloc (by simp) _).alloc (by simp; omega) _).alloc (by simp; omega) _
end Go.Proofs.YtehnipchbmjlhaaGreatDoor
end
section
namespace Go.Proofs.YtehnipchbmjlhaaGreatDoor
open Go.RowKit
open Md
structure dI (w:World) (T:Tp):Prop where
 tape:oZ w T
 uX: ∃line left:Int,aM line∧0≤left∧left≤100∧w.heap[T.bm]? =some (.cells #[.pointer (some ⟨T.bt,0,none⟩),.int .i64 line,.int .i64 left] 58 (0,0))
theorem dI.lt {w:World} {T:Tp} (h:dI w T):T.bm < w.heap.size:=by obtain ⟨a,b,-,-,-,h⟩:=h.uX; exact (Array.getElem?_eq_some_iff.1 h).1
structure Mk (T:Tp) (w w':World):Prop where
 os:w'.os=w.os
 tape:w'.tape=w.tape
 output:w'.output=w.output
 size:w.heap.size≤w'.heap.size
 block: ∀k,k < w.heap.size→k≠T.bt→k≠T.bm→w'.heap[k]? =w.heap[k]?
theorem Mk.refl (T:Tp) (w:World):Mk T w w:=⟨rfl,rfl,rfl,Nat.le_refl _,fun _ _ _ _=>rfl⟩
theorem Mk.trans {T:Tp} {w w1 w2:World} (h:Mk T w w1) (k:Mk T w1 w2):Mk T w w2:=
 ⟨k.os.trans h.os,k.tape.trans h.tape,k.output.trans h.output,Nat.le_trans h.size k.size,fun j hj h1 h2=>(k.block j (Nat.lt_of_lt_of_le hj h.size) h1 h2).trans (h.block j hj h1 h2)⟩
theorem Mk.of_below {T:Tp} {w w':World} (h:Below w.heap.size w w'):Mk T w w':=⟨h.os,h.tape,h.output,h.size,fun k hk _ _=>h.block k hk⟩
theorem Mk.ap9 {T:Tp} {w w':World} (h:w.grownBy w' (some T.bt)):Mk T w w':=⟨h.os,h.tape,h.output,h.size,fun k hk h1 _=>h.block k hk (by simp; exact h1)⟩
theorem Mk.aq2 {T:Tp} {w w':World} (h:w.grownBy w' (some T.bm)):Mk T w w':=⟨h.os,h.tape,h.output,h.size,fun k hk _ h1=>h.block k hk (by simp; exact h1)⟩
theorem dI.below {T:Tp} {w w':World} (h:dI w T) (hb:Below w.heap.size w w'):dI w' T:=by
 obtain ⟨a,h1,h2⟩:=h.tape.blk
 obtain ⟨l,m,h3,h4,h5,h6⟩:=h.uX
 exact ⟨⟨⟨a,h1,(hb.block _ h.tape.lt).trans h2⟩,h.tape.GV.below (hb.mono h.tape.b0),h.tape.len⟩,⟨l,m,h3,h4,h5,(hb.block _ h.lt).trans h6⟩⟩
theorem Mk.zm {T:Tp} {w w':World} {B:Nat} (h:Mk T w w') (ht:T.bt < B) (hm:T.bm < B):dO B w w':=⟨h.size,fun k h1 h2=>h.block k h2 (by omega) (by omega)⟩
theorem Mk.set {T:Tp} {w w':World} (h:Mk T w w') (a:Addr) (v:Value) (hb:w.heap.size≤a.block):Mk T w (w'.setCell a v):=
 ⟨h.os,h.tape,h.output,by have:=h.size; simpa [World.setCell] using this,fun k hk h1 h2=>(aN w' a v rfl (by omega)).trans (h.block k hk h1 h2)⟩
theorem dI.set {T:Tp} {w:World} (h:dI w T) (a:Addr) (v:Value) (h0:T.B0≤a.block) (h1:a.block≠T.bt) (h2:a.block≠T.bm):dI (w.setCell a v) T:=by
 obtain ⟨x,k1,k2⟩:=h.tape.blk
 obtain ⟨l,m,k3,k4,k5,k6⟩:=h.uX
 have hg:=cu w a v
 exact ⟨⟨⟨x,k1,(aN w a v rfl h1).trans k2⟩,h.tape.GV.below (fu hg h0 h.tape.b0),h.tape.len⟩,⟨l,m,k3,k4,k5,(aN w a v rfl h2).trans k6⟩⟩
def rZ (q:Nat) (op n:Int) (nm:ByteArray) (kids:aZ):Prop:=gW op n nm kids=true∧mF nm kids≤q
def M5 (q:Nat) (l:aZ):Prop:=jo l=true∧rD l≤q
theorem rZ.mono {q q':Nat} {op n:Int} {nm:ByteArray} {kids:aZ} (h:rZ q op n nm kids) (hq:q≤q'):rZ q' op n nm kids:=⟨h.1,Nat.le_trans h.2 hq⟩
def Yb (q:Nat) (op n:Int) (nm:ByteArray) (kids:aZ):Prop:=qO op n nm kids∧rZ q op n nm kids
theorem zT {q:Nat} {op n:Int} {nm:ByteArray} {kids:aZ} (h:rZ q op n nm kids):M5 q (.cons op n nm kids .nil):=
 ⟨by show (gW op n nm kids && jo .nil)=true; rw [h.1]; rfl,h.2⟩
theorem Jt {q q':Nat} {op n op' n':Int} {nm nm':ByteArray} {kids gJ:aZ} (h:rZ q op n nm kids) (h':rZ q' op' n' nm' gJ):M5 (q + q') (.cons op n nm kids (.cons op' n' nm' gJ .nil)):=
 ⟨by show (gW op n nm kids && jo _)=true; rw [h.1,(zT h').1]; rfl,by have h1:=h.2; have h2:=h'.2; unfold mF at h1 h2; simp only [rD]; omega⟩
theorem WI {q:Nat} {a op n:Int} {nm:ByteArray} {kids:aZ} (ha:a=4∨a=5) (h:rZ q op n nm kids):rZ (q + 60) a 0 ⟨#[]⟩ (.cons op n nm kids .nil):=
 ⟨by unfold gW; rw [(zT h).1]; rcases ha with rfl | rfl <;> rfl,by have h1:=h.2; unfold mF at h1 ⊢; simp only [rD]; show 40 + 0 + _≤_; omega⟩
theorem VE {q q':Nat} {r op n op' n':Int} {nm nm':ByteArray} {kids gJ:aZ} (h0:0≤r) (h1:r < 13) (h:rZ q op n nm kids) (h':rZ q' op' n' nm' gJ):rZ (q + q' + 60) (6 + r) 0 ⟨#[]⟩ (.cons op n nm kids (.cons op' n' nm' gJ .nil)):=by
 refine ⟨?_,by have h1:=(Jt h h').2; unfold mF; show 40 + 0 + _≤_; omega⟩
 unfold gW; rw [(Jt h h').1]
 have:r=0∨r=1∨r=2∨r=3∨r=4∨r=5∨r=6∨r=7∨r=8∨r=9∨r=10∨r=11∨r=12:=by omega
 rcases this with rfl | rfl | rfl | rfl | rfl | rfl | rfl | rfl | rfl | rfl | rfl | rfl | rfl <;> rfl
theorem Vw {z:Int} (hz:0≤z):rZ 60 1 z ⟨#[]⟩ .nil:=
 ⟨by unfold gW yh; rw [decide_eq_false (by omega)]; cases (z == 0) <;> rfl,by decide⟩
theorem YU {s:ByteArray} (hs:Tk.gM s.data.toList=true):rZ 60 2 0 s .nil:=
 ⟨by unfold gW yh jw named; simp [hs,aZ.len,opsOf,jo],by have:=CP hs; unfold mF; simp only [rD]; omega⟩
theorem V4 {q:Nat} {s:ByteArray} {l:aZ} (hs:Tk.gM s.data.toList=true) (hl:l.len=1) (h:M5 q l):rZ (q + 60) 3 0 s l:=
 ⟨by unfold gW yh jw named; simp [hs,hl,opsOf,h.1],by have:=CP hs; have:=h.2; unfold mF; omega⟩
def GE (d:Nat):Nat:=64 * 3 ^ d
theorem J4 (d:Nat):64≤GE d:=by unfold GE; have:0 < 3 ^ d:=Nat.pow_pos (by decide); omega
theorem ZN (d:Nat):GE d + GE d + 60≤GE (d + 1):=by have:=J4 d; unfold GE at *; rw [Nat.pow_succ]; omega
def O6 (T:Tp) (q:Nat) (w:World) (e:Ending) (w':World):Prop:= ∃op n nm kids ao cap,e= .returned (exV op n nm kids ao cap)∧Yb q op n nm kids∧Mk T w w'∧dI w' T∧bJ w.heap.size w' (fun w2=>kids.At w2 w2.heap.size ao 0)
def EX (q B:Nat) (v:Value) (w:World):Prop:= ∃op n nm kids ao cap,v=exV op n nm kids ao cap∧Yb q op n nm kids∧bJ B w (fun w2=>kids.At w2 w2.heap.size ao 0)
theorem EX.next {q B:Nat} {v:Value} {w w':World} (h:EX q B v w) (ha:dO B w w'):EX q B v w':=by
 obtain ⟨op,n,nm,kids,ao,cap,h1,h2,h3⟩:=h
 exact ⟨op,n,nm,kids,ao,cap,h1,h2,h3.next ha⟩
theorem EX.mono {q B B':Nat} {v:Value} {w:World} (h:EX q B' v w) (hB:B≤B'):EX q B v w:=by
 obtain ⟨op,n,nm,kids,ao,cap,h1,h2,h3⟩:=h
 exact ⟨op,n,nm,kids,ao,cap,h1,h2,h3.mono hB⟩
def XS (q B m:Nat) (v:Value) (w:World):Prop:= ∃l ao cap,v= .slice ao (aZ.len l) cap∧(aZ.len l=m∧M5 q l)∧bJ B w (fun w2=>l.At w2 w2.heap.size ao 0)
theorem XS.next {q B m:Nat} {v:Value} {w w':World} (h:XS q B m v w) (ha:dO B w w'):XS q B m v w':=by
 obtain ⟨l,ao,cap,h1,h2,h3⟩:=h
 exact ⟨l,ao,cap,h1,h2,h3.next ha⟩
theorem BP {T:Tp} {q:Nat} {w w':World} {v:Value} (hM:Mk T w w') (hI:dI w' T) (h:EX q w.heap.size v w'):O6 T q w (.returned v) w':=by
 obtain ⟨op,n,nm,kids,ao,cap,rfl,h2,h3⟩:=h
 exact ⟨op,n,nm,kids,ao,cap,rfl,h2,hM,hI,h3⟩
theorem rO {T:Tp} {q:Nat} {w w':World} {e:Ending} (h:O6 T q w e w'): ∃v,e= .returned v∧EX q w.heap.size v w'∧Mk T w w'∧dI w' T:=by
 obtain ⟨op,n,nm,kids,ao,cap,h1,h2,h3,h4,h5⟩:=h
 exact ⟨_,h1,⟨op,n,nm,kids,ao,cap,rfl,h2,h5⟩,h3,h4⟩
theorem Je {T:Tp} {w w4:World} (a b c d:Value) (hM:Mk T w w4) (hI:dI w4 T) (h0:T.bt < w.heap.size∧T.bm < w.heap.size∧T.B0≤w.heap.size):
 Mk T w ((((w4.setCell ⟨w.heap.size,0,none⟩ a).setCell ⟨w.heap.size,1,none⟩ b).setCell ⟨w.heap.size,2,none⟩ c).setCell ⟨w.heap.size,3,none⟩ d)∧
 dI ((((w4.setCell ⟨w.heap.size,0,none⟩ a).setCell ⟨w.heap.size,1,none⟩ b).setCell ⟨w.heap.size,2,none⟩ c).setCell ⟨w.heap.size,3,none⟩ d) T∧
 dO (w.heap.size + 1) w4 ((((w4.setCell ⟨w.heap.size,0,none⟩ a).setCell ⟨w.heap.size,1,none⟩ b).setCell ⟨w.heap.size,2,none⟩ c).setCell ⟨w.heap.size,3,none⟩ d):=by
 have h1:w.heap.size≠T.bt:=by omega
 have h2:w.heap.size≠T.bm:=by omega
 have m1:=hM.set ⟨w.heap.size,0,none⟩ a (Nat.le_refl _)
 have m2:=m1.set ⟨w.heap.size,1,none⟩ b (Nat.le_refl _)
 have m3:=m2.set ⟨w.heap.size,2,none⟩ c (Nat.le_refl _)
 have m4:=m3.set ⟨w.heap.size,3,none⟩ d (Nat.le_refl _)
 have i1:=hI.set ⟨w.heap.size,0,none⟩ a h0.2.2 h1 h2
 have i2:=i1.set ⟨w.heap.size,1,none⟩ b h0.2.2 h1 h2
 have i3:=i2.set ⟨w.heap.size,2,none⟩ c h0.2.2 h1 h2
 have i4:=i3.set ⟨w.heap.size,3,none⟩ d h0.2.2 h1 h2
 have x1:dO (w.heap.size + 1) w4 _:=bH w4 ⟨w.heap.size,0,none⟩ a (Nat.lt_succ_self _)
 have x2:=x1.trans (bH _ ⟨w.heap.size,1,none⟩ b (Nat.lt_succ_self _))
 have x3:=x2.trans (bH _ ⟨w.heap.size,2,none⟩ c (Nat.lt_succ_self _))
 have x4:=x3.trans (bH _ ⟨w.heap.size,3,none⟩ d (Nat.lt_succ_self _))
 exact ⟨m4,i4,x4⟩
theorem ZI {T:Tp} {q q':Nat} (hq:q + 60≤q') {w w4:World} {a op n:Int} {nm:ByteArray} {kids:aZ} {ao:Option Addr} {cap:Nat} {t:TypeId} (hM:Mk T w w4) (hI:dI w4 T) (h0:T.bt < w.heap.size∧T.bm < w.heap.size∧T.B0≤w.heap.size) (ha:a=4∨a=5) (hok:Yb q op n nm kids) (hst:bJ (w.heap.size + 1) w4 (fun w2=>kids.At w2 w2.heap.size ao 0)) (hs:w.heap.size + 1≤w4.heap.size):
 O6 T q' w (.returned (exV a 0 ⟨#[]⟩ (.cons op n nm kids .nil) (some ⟨w4.heap.size,0,none⟩) 1)) (((((w4.setCell ⟨w.heap.size,0,none⟩ (.int .i64 a)).setCell ⟨w.heap.size,1,none⟩ (.int .i64 0)).setCell ⟨w.heap.size,2,none⟩ (.string ⟨#[]⟩)).setCell ⟨w.heap.size,3,none⟩ (.slice (some ⟨w4.heap.size,0,none⟩) 1 1)).alloc (.cells #[.int .i64 op,.int .i64 n,.string nm,.slice ao kids.len cap] t)):=by
 obtain ⟨q1,q2,q3⟩:=Je (.int .i64 a) (.int .i64 0) (.string ⟨#[]⟩) (.slice (some ⟨w4.heap.size,0,none⟩) 1 1) hM hI h0
 generalize hW:World.setCell (World.setCell (World.setCell (World.setCell w4 _ _) _ _) _ _) _ _=W at *
 have hsz:W.heap.size=w4.heap.size:=by rw [← hW]; simp [World.setCell]
 refine BP (q1.trans (Mk.of_below (ah _ _))) (q2.below (ah _ _)) ⟨a,0,⟨#[]⟩,.cons op n nm kids .nil,_,1,rfl,⟨⟨by unfold aM; omega,by unfold aM; decide,by unfold maxLen; decide,by simp [aZ.len,maxLen]⟩,(WI ha hok.2).mono hq⟩,?_⟩
 rw [← hsz]
 exact oO (heap_alloc_new _ _) (by omega) hok.1 (((hst.next q3).next (aL (ah _ _))).mono (Nat.le_succ _))
def ab3 (T:Tp) (n:Int) (w:World) (e:Ending) (w':World):Prop:= ∃r:Int,e= .returned (.int .i64 r)∧0≤r∧(0 < n→r < n)∧r≤255∧Mk T w w'∧dI w' T
theorem dR (T:Tp) (n:Int) (w:World) (hn:aM n) (hI:dI w T):
 Calls Tryz.prog 26 #[.pointer (some ⟨T.bt,0,none⟩),.int .i64 n] w (ab3 T n w):=
 (Rj T n w hn hI.tape).mono fun e w' ⟨r,h1,h2,h3,h4,h5,h6⟩=>⟨r,h1,h2,h3,h4,Mk.ap9 h5,h6,by
  obtain ⟨l,m,k1,k2,k3,k4⟩:=hI.uX
  exact ⟨l,m,k1,k2,k3,(h5.block _ hI.lt (by simp; exact T.tm.symm)).trans k4⟩⟩
theorem dI.ptr {w:World} {T:Tp} (h:dI w T):w.cell? ⟨T.bm,0,none⟩=some (.pointer (some ⟨T.bt,0,none⟩)):=by
 obtain ⟨l,m,-,-,-,k⟩:=h.uX
 exact (dB k (j:=0) rfl).2
theorem Rx {T:Tp} {w w2 W:World} (hb:Below w.heap.size w w2) (hm:Mk T w2 W) (h1:w.heap.size≤T.bt) (h2:w.heap.size≤T.bm):Below w.heap.size w W:=
 ⟨hm.os.trans hb.os,hm.tape.trans hb.tape,hm.output.trans hb.output,Nat.le_trans hb.size hm.size,fun k hk=>(hm.block k (Nat.lt_of_lt_of_le hk hb.size) (by omega) (by omega)).trans (hb.block k hk)⟩
end Go.Proofs.YtehnipchbmjlhaaGreatDoor
end
section
namespace Go.Proofs.YtehnipchbmjlhaaGreatDoor
open Go.RowKit
open Md
def Sq:Array Value:= #[.string ⟨#[120]⟩,.string ⟨#[121]⟩,.string ⟨#[97]⟩,.string ⟨#[98]⟩,.string ⟨#[118]⟩,.string ⟨#[113]⟩,.string ⟨#[109]⟩,.string ⟨#[116]⟩,.string ⟨#[122,122]⟩,.string ⟨#[102]⟩]
def n8:Array Value:= #[.int .i64 0,.int .i64 1,.int .i64 2,.int .i64 3,.int .i64 7,.int .i64 10,.int .i64 100,.int .i64 9223372036854775807]
theorem ZT: ∀j,j < 8→ ∃z,n8[j]? =some (.int .i64 z)∧aM z∧0≤z:=fun j hj=>by
 have:j=0∨j=1∨j=2∨j=3∨j=4∨j=5∨j=6∨j=7:=by omega
 rcases this with rfl | rfl | rfl | rfl | rfl | rfl | rfl | rfl <;> exact ⟨_,rfl,by unfold aM; decide,by decide⟩
theorem WE: ∀j,j < 10→ ∃s,Sq[j]? =some (.string s)∧nU s:=fun j hj=>by
 have:j=0∨j=1∨j=2∨j=3∨j=4∨j=5∨j=6∨j=7∨j=8∨j=9:=by omega
 rcases this with rfl | rfl | rfl | rfl | rfl | rfl | rfl | rfl | rfl | rfl <;> exact ⟨_,rfl,by unfold maxLen; decide,by rfl⟩
def Yp:Array Value:= #[.string ⟨#[113]⟩,.string ⟨#[113]⟩,.string ⟨#[113]⟩,.string ⟨#[120]⟩,.string ⟨#[109]⟩]
theorem XT: ∀j,j < 5→ ∃s,Yp[j]? =some (.string s)∧nU s:=fun j hj=>by
 have:j=0∨j=1∨j=2∨j=3∨j=4:=by omega
 rcases this with rfl | rfl | rfl | rfl | rfl <;> exact ⟨_,rfl,by unfold maxLen; decide,by rfl⟩
def vS (T:Tp) (d:Int):Prop:= ∀w,dI w T→Calls Tryz.prog 51 #[.pointer (some ⟨T.bm,0,none⟩),.int .i64 d] w (O6 T (GE d.toNat) w)
theorem GZ (T:Tp) (d:Nat) (hd:d≤100) (ih: ∀d':Nat,d=d' + 1→vS T (d':Int)):vS T (d:Int):=by
 unfold vS
 rw [Int.toNat_natCast]
 intro w hI
 have HI0:=Lib.hid hI
 have fD:=Lib.hid ih
 clear hI ih
 go_enter Tryz.func51,Tryz.ntmps51
 go_upto_region 2 with fail
 generalize hW:World.alloc (World.alloc w _) _=W
 have HB:Hid (Below w.heap.size w W):=Lib.hid (by rw [← hW]; exact (ah _ _).alloc (by simp) _)
 have HZ:Hid (W.heap[w.heap.size]? =some (.cells Bg 45 (0,0))):=Lib.hid (by rw [← hW,heap_alloc_old _ _ (by simp)]; exact heap_alloc_new _ _)
 have HN:Hid (W.heap[w.heap.size + 1]? =some (.cells Sq 9 (0,0))):=Lib.hid (by
  rw [← hW]
  have e:(World.alloc w (.cells Bg 45)).heap.size=w.heap.size + 1:=by simp
  rw [← e]; exact heap_alloc_new _ _)
 have HI:=Lib.hid (HI0.out.below HB.out)
 have bq:Hid (T.bt < w.heap.size∧T.bm < w.heap.size∧T.B0≤w.heap.size):=Lib.hid ⟨HI0.out.tape.lt,HI0.out.lt,HI0.out.tape.b0⟩
 clear hW
 have c0:=HI.out.ptr
 go_wp2_with fail
 refine (dR T 20 _ (by unfold aM; decide) HI.out).mono ?_
 rintro e w2 ⟨k,rfl,hk0,hk1,hk2,hM,hI2⟩
 have HM:=Lib.hid ((Mk.of_below (T:=T) HB.out).trans hM)
 have HZ2:Hid (w2.heap[w.heap.size]? =some (.cells Bg 45 (0,0))):=Lib.hid ((hM.block _ (Array.getElem?_eq_some_iff.1 HZ.out).1 (by have:=bq.out; omega) (by have:=bq.out; omega)).trans HZ.out)
 have Yk:Hid (w2.heap[w.heap.size + 1]? =some (.cells Sq 9 (0,0))):=Lib.hid ((hM.block _ (Array.getElem?_eq_some_iff.1 HN.out).1 (by have:=bq.out; omega) (by have:=bq.out; omega)).trans HN.out)
 have HI2:=Lib.hid hI2
 have ax1:k < 20:=hk1 (by decide)
 clear hM hI2 HZ HN HI c0 HB hk1
 have hcase:(k < 4∨(4≤k∧d=0∧k < 10))∨(4≤k∧ ¬ (d=0∧k < 10))∧(k < 8∨d=0)∨(8≤k∧d≠0):=by omega
 rcases hcase with hA | hB | hC
 ·have hA':k < 4∨(4≤k∧((d:Int) == 0)=true∧k < 10):=by
   rcases hA with hA | ⟨h1,h2,h3⟩
   ·exact .inl hA
   ·exact .inr ⟨h1,by simp [h2],h3⟩
  clear hA fD
  rcases hA' with hA | ⟨hA1,hA2,hA3⟩
  all_goals
   go_upto_region 5 with fail
   obtain ⟨g,hg⟩: ∃g,w2.heap.size=g:=⟨_,rfl⟩
   generalize hW3:World.alloc w2 _=W3
   have HB3:Hid (Below w2.heap.size w2 W3):=Lib.hid (by rw [← hW3]; exact ah _ _)
   have rT:Hid (W3.heap[g]? =some (.cells n8 2 (0,0))):=Lib.hid (by rw [← hW3,← hg]; exact heap_alloc_new _ _)
   have HI3:=Lib.hid (HI2.out.below HB3.out)
   have HGB:Hid (w.heap.size < g):=Lib.hid (by rw [← hg]; exact (Array.getElem?_eq_some_iff.1 HZ2.out).1)
   rw [hg]
   have c0:=HI3.out.ptr
   clear hW3 hg
   go_wp2_with fail
   refine (dR T 8 _ (by unfold aM; decide) HI3.out).mono ?_
   rintro e w4 ⟨r,rfl,hr0,hr1,hr2,Ah,G8⟩
   obtain ⟨r',rfl⟩:=Int.eq_ofNat_of_zero_le hr0
   have Ip:r' < 8:=by have:=hr1 (by decide); omega
   have fK:Hid (w4.heap[w.heap.size]? =some (.cells Bg 45 (0,0))):=Lib.hid ((Ah.block _ (Nat.lt_of_lt_of_le (Array.getElem?_eq_some_iff.1 HZ2.out).1 HB3.out.size) (by have:=bq.out; omega) (by have:=bq.out; omega)).trans ((HB3.out.block _ (Array.getElem?_eq_some_iff.1 HZ2.out).1).trans HZ2.out))
   have wJ:Hid (w4.heap[g]? =some (.cells n8 2 (0,0))):=Lib.hid ((Ah.block _ (Array.getElem?_eq_some_iff.1 rT.out).1 (by have:=bq.out; have:=HGB.out; omega) (by have:=bq.out; have:=HGB.out; omega)).trans rT.out)
   obtain ⟨z,hz,hzI⟩:=ZT r' Ip
   have cz:w4.cell? ⟨g,r',none⟩=some (.int .i64 z):=(dB wJ.out hz).2
   obtain ⟨⟨y0,y1,y2,y3⟩,fz⟩:=BR fK.out
   have f0:=fz 0
   have f1:=fz 1
   have f2:=fz 2
   have f3:=fz 3
   have Me:=Lib.hid ((HM.out.trans (Mk.of_below HB3.out)).trans Ah)
   have HI4:=Lib.hid G8
   have HZI:=Lib.hid hzI
   have ax3:(0:Int)≤(r':Int):=by omega
   have ax6:(r':Int) < 8:=by omega
   clear Ah G8 hz hzI fz c0 hr0 hr1 hr2
   go_wp2_with fail
   obtain ⟨q1,q2,q3⟩:=Je (.int .i64 1) (.int .i64 z) (.string ⟨#[]⟩) (.slice none 0 0) Me.out HI4.out bq.out
   exact bodyPost_ret (v:=exV 1 z ⟨#[]⟩ .nil none 0) (by simp [results,Tryz.results51,go_sem,exV,aZ.len,y0,y1,y2,y3]) rfl (BP q1 q2 ⟨1,z,⟨#[]⟩,.nil,none,0,rfl,⟨⟨by unfold aM; decide,HZI.out.1,by unfold maxLen; decide,by unfold maxLen; decide⟩,(Vw HZI.out.2).mono (Nat.le_trans (by decide) (J4 _))⟩,fun _ _=>trivial⟩)
 ·have hB':(4≤k∧k < 8∧((d:Int) == 0)=false)∨(10≤k∧((d:Int) == 0)=true):=by
   rcases hB with ⟨⟨h1,h2⟩,h3 | h3⟩
   ·exact .inl ⟨h1,h3,by rw [beq_eq_false_iff_ne]; omega⟩
   ·exact .inr ⟨by omega,by simp [h3]⟩
  clear hB fD
  have K0: ∀w',dI w' T→w'.cell? ⟨T.bm,0,none⟩=some (.pointer (some ⟨T.bt,0,none⟩)):=fun w' h=>h.ptr
  have KN: ∀w',Mk T w2 w'→ ∀j,j < 10→ ∃s,w'.cell? ⟨w.heap.size + 1,j,none⟩=some (.string s)∧nU s:=fun w' h j hj=>by
   have hb:=(h.block _ (Array.getElem?_eq_some_iff.1 Yk.out).1 (by have:=bq.out; omega) (by have:=bq.out; omega)).trans Yk.out
   obtain ⟨s,h1,h2⟩:=WE j hj
   exact ⟨s,(dB hb h1).2,h2⟩
  rcases hB' with ⟨hB1,hB2,hB3⟩ | ⟨hB1,hB2⟩
  all_goals
   go_upto_region 7 with fail
   have hd1:Mk T w2 (w2.drewN 1):=Mk.of_below (below_drewN (Below.refl _ _) 1)
   have hd2:dI (w2.drewN 1) T:=HI2.out.below (below_drewN (Below.refl _ _) 1)
   refine dY (by kernel_rfl) rfl ?_
   refine dN 0 18 [] [[],[],[1],[1,2],[1,2,3],[],[5],[1,2,3,4,5,6],[],[8],[8,9],[8,9,10],[1,2,3,4,5,6,7,8,9,10,11],[1,2,3,4,5,6,7,8,9,10,11,12],[1,2,3,4,5,6,7,8,9,10,11,12,13],[0,1,2,3,4,5,6,7,8,9,10,11,12,13,14],[0,1,2,3,4,5,6,7,8,9,10,11,12,13,14,15],[0,1,2,3,4,5,6,7,8,9,10,11,12,13,14,15,16],[0,1,2,3,4,5,6,7,8,9,10,11,12,13,14,15,16,17]] [[],[],[],[],[],[],[],[],[],[],[],[],[],[],[],[],[],[]] (fun _ w'=>Mk T w2 w'∧dI w' T) (fun w w'=>Mk T w w') [46,47,48,49,50,51,52,53,54,55,56,57,58,59,60,61,62,63] rfl rfl (by rfl) (by kernel_rfl) (by kernel_rfl) (by kernel_rfl) (by kernel_rfl) (by kernel_rfl) (by rfl) (fun _=>Mk.refl _ _) (by rfl) ⟨hd1,hd2⟩ ?_
   simp only [List.take_succ_cons,List.take_zero,List.drop_zero,List.drop_succ_cons,jR,List.map_cons,List.map_nil]
   apply aI.step
   case aG=>
    intro c A w' hok hC hO hD
    have e5:=hO 5 (by rfl)
    simp [Act.eval] at e5
    simp [aC,aB,au,Act.eval,Region.binds] at hD
    simp [go_sem,gd,Oper.wp,hD,e5]
    exact aA.mk (Mk.refl _ _) hC (aB.mk _ _)
   apply aI.step
   case aG=>
    intro c A w' hok hC hO hD
    have e0:=hO 0 (by rfl)
    simp [Act.eval] at e0
    simp [aC,aB,au,Act.eval,Region.binds] at hD
    simp [go_sem,gd,Oper.wp,hD,e0]
    exact aA.mk (Mk.refl _ _) hC (aB.mk _ _)
   apply aI.step
   case aG=>
    intro c A w' hok hC hO hD
    simp [aC,aB,au,Act.eval,Region.binds] at hD
    simp [go_sem,gd,Oper.wp,hD]
    exact aA.mk (Mk.refl _ _) hC (aB.mk _ _)
   apply aI.step
   case aG=>
    intro c A w' hok hC hO hD
    simp [aC,aB,au,Act.eval,Region.binds] at hD
    simp [go_sem,gd,Oper.wp,hD]
    exact aA.mk (Mk.refl _ _) hC (aB.mk _ _)
   simp only [List.nil_append,List.cons_append]
   apply aI.step
   case aG=>
    intro c A w' hok hC hO hD
    simp [aC,aB,au,Act.eval,Region.binds] at hD
    simp [go_sem,gd,Oper.wp,hD,K0,hC.2]
    exact aA.mk (Mk.refl _ _) hC (aB.mk _ _)
   apply aI.step
   case aG=>
    intro c A w' hok hC hO hD
    have e5:=hO 5 (by rfl)
    simp [Act.eval] at e5
    simp [aC,aB,au,Act.eval,Region.binds] at hD
    simp [go_sem,gd,Oper.wp,hD,e5]
    exact aA.mk (Mk.refl _ _) hC (aB.mk _ _)
   apply aI.step
   case aG=>
    intro c A w' hok hC hO hD
    simp [aC,aB,au,Act.eval,Region.binds] at hD
    simp [go_sem,gd,Oper.wp,hD]
    exact aA.mk (Mk.refl _ _) hC (aB.mk _ _)
   simp only [List.nil_append,List.cons_append]
   refine aI.some (fun v _=> ∃r:Nat,v= .int .i64 (r:Int)∧r < 10) (fun _ _ _ _ h=>h) ?_ ?_
   ·intro c A w' hok hC hO hD
    simp [aC,aB,au,Act.eval,Region.binds] at hD
    simp [go_sem,gd,Oper.wp,hD]
    refine (dR T 10 w' (by unfold aM; decide) hC.2).mono ?_
    rintro e w2 ⟨r,rfl,h0,h1,-,hM,hI⟩
    obtain ⟨r',rfl⟩:=Int.eq_ofNat_of_zero_le h0
    exact aA.mk hM ⟨hC.1.trans hM,hI⟩ ⟨r',rfl,by have:=h1 (by decide); omega⟩
   simp only [List.nil_append,List.cons_append]
   apply aI.step
   case aG=>
    intro c A w' hok hC hO hD
    have e0:=hO 0 (by rfl)
    simp [Act.eval] at e0
    simp [aC,aB,au,Act.eval,Region.binds] at hD
    simp [go_sem,gd,Oper.wp,hD,e0]
    exact aA.mk (Mk.refl _ _) hC (aB.mk _ _)
   apply aI.step
   case aG=>
    intro c A w' hok hC hO hD
    simp [aC,aB,au,Act.eval,Region.binds] at hD
    simp [go_sem,gd,Oper.wp,hD]
    exact aA.mk (Mk.refl _ _) hC (aB.mk _ _)
   apply aI.step
   case aG=>
    intro c A w' hok hC hO hD
    simp [aC,aB,au,Act.eval,Region.binds] at hD
    simp [go_sem,gd,Oper.wp,hD]
    exact aA.mk (Mk.refl _ _) hC (aB.mk _ _)
   simp only [List.nil_append,List.cons_append]
   apply aI.step
   case aG=>
    intro c A w' hok hC hO hD
    simp [aC,aB,au,Act.eval,Region.binds] at hD
    simp [go_sem,gd,Oper.wp,hD,K0,hC.2]
    exact aA.mk (Mk.refl _ _) hC (aB.mk _ _)
   refine aI.some (fun v _=> ∃r:Nat,v= .int .i64 (r:Int)∧r < 8) (fun _ _ _ _ h=>h) ?_ ?_
   ·intro c A w' hok hC hO hD
    simp [aC,aB,au,Act.eval,Region.binds] at hD
    simp [go_sem,gd,Oper.wp,hD]
    refine (dR T 8 w' (by unfold aM; decide) hC.2).mono ?_
    rintro e w2 ⟨r,rfl,h0,h1,-,hM,hI⟩
    obtain ⟨r',rfl⟩:=Int.eq_ofNat_of_zero_le h0
    exact aA.mk hM ⟨hC.1.trans hM,hI⟩ ⟨r',rfl,by have:=h1 (by decide); omega⟩
   simp only [List.nil_append,List.cons_append]
   refine aI.some (fun v w'=> ∃r:Nat,v= .int .i64 (r:Int)∧3≤r∧r≤10) (fun _ _ _ _ h=>h) ?_ ?_
   ·intro c A w' hok hC hO hD
    simp [aC,aB,au,Act.eval,Region.binds] at hD
    obtain ⟨r,hr,Ip⟩:=hD
    have hw:IntKind.i64.wrap (3 + (r:Int))=3 + r:=IntWalk.i64_in _ (by omega)
    simp [go_sem,gd,Oper.wp,hr,hw]
    exact aA.mk (Mk.refl _ _) hC (⟨3 + r,by simp,by omega,by omega⟩)
   simp only [List.nil_append,List.cons_append]
   refine aI.some (fun v w'=> ∃r:Nat,v= .int .i64 (r:Int)∧r < 10) (fun _ _ _ _ h=>h) ?_ ?_
   ·intro c A w' hok hC hO hD
    simp [aC,aB,au,Act.eval,Region.binds] at hD
    obtain ⟨⟨r,hr,h1⟩,s,hs,h2,h3⟩:=hD
    have hs2:s≠0:=by omega
    simp [go_sem,gd,Oper.wp,hr,hs,hs2]
    exact aA.mk (Mk.refl _ _) hC (⟨r % s,rfl,Nat.lt_of_le_of_lt (Nat.mod_le _ _) h1⟩)
   refine aI.some (fun v w'=> ∃r:Nat,v= .pointer (some ⟨w.heap.size + 1,r,none⟩)∧r < 10) (fun _ _ _ _ h=>h) ?_ ?_
   ·intro c A w' hok hC hO hD
    simp [aC,aB,au,Act.eval,Region.binds] at hD
    obtain ⟨h46,r,hr,h1⟩:=hD
    have hb0:(0:Int)≤(r:Int):=by omega
    have hb1:(r:Int) < 10:=by omega
    simp [go_sem,gd,Oper.wp,h46,hr,hb0,hb1]
    exact aA.mk (Mk.refl _ _) hC (⟨r,rfl,h1⟩)
   simp only [List.nil_append,List.cons_append]
   refine aI.some (fun v w'=> ∃s:ByteArray,v= .string s∧nU s) (fun _ _ _ _ h=>h) ?_ ?_
   ·intro c A w' hok hC hO hD
    simp [aC,aB,au,Act.eval,Region.binds] at hD
    obtain ⟨r,hr,h1⟩:=hD
    obtain ⟨s,hs,hsz⟩:=KN w' hC.1 r h1
    simp [go_sem,gd,Oper.wp,hr,hs]
    exact aA.mk (Mk.refl _ _) hC (⟨s,rfl,hsz⟩)
   refine aI.some (fun v _=> ∃s:ByteArray,v=exV 2 0 s .nil none 0∧nU s) (fun _ _ _ _ h=>h) ?_ ?_
   ·intro c A w' hok hC hO hD
    simp [aC,aB,au,Act.eval,Region.binds] at hD
    obtain ⟨⟨s,hs,hsz⟩,-⟩:=hD
    simp [go_sem,gd,Oper.wp,hs]
    refine (RH s w').mono ?_
    rintro e w3 ⟨rfl,hb⟩
    exact aA.mk (Mk.of_below hb) ⟨hC.1.trans (Mk.of_below hb),hC.2.below hb⟩ ⟨s,rfl,hsz⟩
   simp only [List.nil_append,List.cons_append]
   refine aI.done ?_
   intro wz eY
   simp only [List.drop_zero]
   intro v0 h0 v1 h1 v2 h2 v3 h3 v4 h4 v5 h5 v6 h6 v7 h7 v8 h8 v9 h9 v10 h10 v11 h11 v12 h12 v13 Cv v14 M9 v15 Mj v16 h16 v17 OO
   obtain ⟨s,rfl,hsz⟩:=OO
   clear h0 h1 h2 h3 h4 h5 h6 h7 h8 h9 h10 h11 h12 Cv M9 Mj h16 K0 KN hd1 hd2
   refine eD.nil ?_
   go_simp
   have OE:Hid (wz.heap[w.heap.size]? =some (.cells Bg 45 (0,0))):=Lib.hid ((eY.1.block _ (Array.getElem?_eq_some_iff.1 HZ2.out).1 (by have:=bq.out; omega) (by have:=bq.out; omega)).trans HZ2.out)
   obtain ⟨⟨y0,y1,y2,y3⟩,fz⟩:=BR OE.out
   have f0:=fz 0
   have f1:=fz 1
   have f2:=fz 2
   have f3:=fz 3
   have Ph:=Lib.hid (HM.out.trans eY.1)
   have Oh:=Lib.hid eY.2
   clear fz eY
   unfold exV
   refine eu 18 [[],[],[1],[1,2],[1,2,3],[],[5],[1,2,3,4,5,6],[],[8],[8,9],[8,9,10],[1,2,3,4,5,6,7,8,9,10,11],[1,2,3,4,5,6,7,8,9,10,11,12],[1,2,3,4,5,6,7,8,9,10,11,12,13],[0,1,2,3,4,5,6,7,8,9,10,11,12,13,14],[0,1,2,3,4,5,6,7,8,9,10,11,12,13,14,15],[0,1,2,3,4,5,6,7,8,9,10,11,12,13,14,15,16],[0,1,2,3,4,5,6,7,8,9,10,11,12,13,14,15,16,17]] rfl rfl rfl rfl rfl (by kernel_rfl) (by kernel_rfl) (by kernel_rfl) ?_
   simp [go_sem,Oper.wp,y0,y1,y2,y3,f0,f1,f2,f3,aZ.len]
   refine fM rfl ?_
   go_simp
   go_wp2_with fail
   obtain ⟨q1,q2,q3⟩:=Je (.int .i64 2) (.int .i64 0) (.string s) (.slice none 0 0) Ph.out Oh.out bq.out
   exact bodyPost_ret (v:=exV 2 0 s .nil none 0) (by simp [results,Tryz.results51,go_sem,exV,aZ.len,y0,y1,y2,y3]) rfl (BP q1 q2 ⟨2,0,s,.nil,none,0,rfl,⟨⟨by unfold aM; decide,by unfold aM; decide,hsz.1,by unfold maxLen; decide⟩,(YU hsz.2).mono (Nat.le_trans (by decide) (J4 _))⟩,fun _ _=>trivial⟩)
 ·have Zf:Hid (GE (d - 1) + GE (d - 1) + 60≤GE d):=Lib.hid (by
   obtain ⟨d',rfl⟩: ∃d',d=d' + 1:=⟨d - 1,by omega⟩
   exact ZN d')
  have HX:Hid (∀w,dI w T→Calls Tryz.prog 51 #[.pointer (some ⟨T.bm,0,none⟩),.int .i64 ((d:Int) - 1)] w (O6 T (GE (d - 1)) w)):=Lib.hid (by
   obtain ⟨d',rfl⟩: ∃d',d=d' + 1:=⟨d - 1,by omega⟩
   have:=fD.out d' rfl
   unfold vS at this
   rw [Int.toNat_natCast] at this
   rw [show ((d' + 1:Nat):Int) - 1=(d':Int) by omega]; exact this)
  have hdz:((d:Int) == 0)=false:=by rw [beq_eq_false_iff_ne]; omega
  have hd0:0 < d:=by omega
  have HW2:Hid (w.heap.size + 1≤w2.heap.size):=Lib.hid (by have:=(Array.getElem?_eq_some_iff.1 HZ2.out).1; omega)
  have HC:=Lib.hid hC
  clear hC fD Yk
  have K0: ∀w',dI w' T→w'.cell? ⟨T.bm,0,none⟩=some (.pointer (some ⟨T.bt,0,none⟩)):=fun w' h=>h.ptr
  have hwd:IntKind.i64.wrap ((d:Int) - 1)=(d:Int) - 1:=IntWalk.i64_in _ (by omega)
  have YB:k=8∨(9≤k∧k < 11)∨11≤k:=by have:=HC.out; omega
  rcases YB with rfl | ⟨hk9,hk10⟩ | ax4
  ·go_upto_region 9 with fail
   have hd1:Mk T w2 (w2.drewN 1):=Mk.of_below (below_drewN (Below.refl _ _) 1)
   have hd2:dI (w2.drewN 1) T:=HI2.out.below (below_drewN (Below.refl _ _) 1)
   refine dY (by kernel_rfl) rfl ?_
   refine dN 0 14 [] [[],[],[1],[1,2],[1,2,3],[1,2,3,4],[0,1,2,3,4,5],[0,1,2,3,4,5,6],[],[],[9],[1,2,3,4,5,8,9,10],[1,2,3,4,5,8,9,10,11],[0,1,2,3,4,5,6,7,8,9,10,11,12],[0,1,2,3,4,5,6,7,8,9,10,11,12,13]] [[],[],[],[],[],[],[],[],[],[],[],[],[],[]] (fun _ w'=>Mk T w2 w'∧dI w' T) (fun w w'=>Mk T w w') [67,68,69,70,71,72,73,74,75,76,77,78,79,80] rfl rfl (by rfl) (by kernel_rfl) (by kernel_rfl) (by kernel_rfl) (by kernel_rfl) (by kernel_rfl) (by rfl) (fun _=>Mk.refl _ _) (by rfl) ⟨hd1,hd2⟩ ?_
   simp only [List.take_succ_cons,List.take_zero,List.drop_zero,List.drop_succ_cons,jR,List.map_cons,List.map_nil]
   refine aI.some (fun v w'=> ∃g,v= .slice (some ⟨g,0,none⟩) 5 5∧w2.heap.size≤g∧w'.heap[g]? =some (.cells Yp 9 (0,0))) ?_ ?_ ?_
   ·rintro v w1 w' hle ⟨g,h1,h2,h3⟩
    exact ⟨g,h1,h2,(hle.block g (Array.getElem?_eq_some_iff.1 h3).1 (by have:=bq.out; have:=HW2.out; omega) (by have:=bq.out; have:=HW2.out; omega)).trans h3⟩
   ·intro c A w' hok hC hO hD
    simp [go_sem,gd,Oper.wp]
    exact aA.mk (d:=_) (v:= .slice (some ⟨_,0,none⟩) 5 5) (Mk.of_below (ah _ _)) ⟨hC.1.trans (Mk.of_below (ah _ _)),hC.2.below (ah _ _)⟩ ⟨_,rfl,hC.1.size,heap_alloc_new _ _⟩
   simp only [List.nil_append,List.cons_append]
   apply aI.step
   case aG=>
    intro c A w' hok hC hO hD
    have e0:=hO 0 (by rfl)
    simp [Act.eval] at e0
    simp [aC,aB,au,Act.eval,Region.binds] at hD
    simp [go_sem,gd,Oper.wp,hD,e0]
    exact aA.mk (Mk.refl _ _) hC (aB.mk _ _)
   apply aI.step
   case aG=>
    intro c A w' hok hC hO hD
    simp [aC,aB,au,Act.eval,Region.binds] at hD
    simp [go_sem,gd,Oper.wp,hD]
    exact aA.mk (Mk.refl _ _) hC (aB.mk _ _)
   apply aI.step
   case aG=>
    intro c A w' hok hC hO hD
    simp [aC,aB,au,Act.eval,Region.binds] at hD
    simp [go_sem,gd,Oper.wp,hD]
    exact aA.mk (Mk.refl _ _) hC (aB.mk _ _)
   simp only [List.nil_append,List.cons_append]
   apply aI.step
   case aG=>
    intro c A w' hok hC hO hD
    simp [aC,aB,au,Act.eval,Region.binds] at hD
    simp [go_sem,gd,Oper.wp,hD,K0,hC.2]
    exact aA.mk (Mk.refl _ _) hC (aB.mk _ _)
   refine aI.some (fun v _=> ∃r:Nat,v= .int .i64 (r:Int)∧r < 5) (fun _ _ _ _ h=>h) ?_ ?_
   ·intro c A w' hok hC hO hD
    simp [aC,aB,au,Act.eval,Region.binds] at hD
    simp [go_sem,gd,Oper.wp,hD]
    refine (dR T 5 w' (by unfold aM; decide) hC.2).mono ?_
    rintro e w2 ⟨r,rfl,h0,h1,-,hM,hI⟩
    obtain ⟨r',rfl⟩:=Int.eq_ofNat_of_zero_le h0
    exact aA.mk hM ⟨hC.1.trans hM,hI⟩ ⟨r',rfl,by have:=h1 (by decide); omega⟩
   simp only [List.nil_append,List.cons_append]
   refine aI.some (fun v w'=> ∃(g r:Nat),v= .pointer (some ⟨g,r,none⟩)∧r < 5∧w2.heap.size≤g∧w'.heap[g]? =some (.cells Yp 9 (0,0))) (fun v w1 w' hle ⟨g,r,h1,h1',h2,h3⟩=>⟨g,r,h1,h1',h2,(hle.block g (Array.getElem?_eq_some_iff.1 h3).1 (by have:=bq.out; have:=HW2.out; omega) (by have:=bq.out; have:=HW2.out; omega)).trans h3⟩) ?_ ?_
   ·intro c A w' hok hC hO hD
    simp [aC,aB,au,Act.eval,Region.binds] at hD
    obtain ⟨⟨g,hg,hg1,hg2⟩,r,hr,h1⟩:=hD
    have hb0:(0:Int)≤(r:Int):=by omega
    have hb1:(r:Int) < 5:=by omega
    simp [go_sem,gd,Oper.wp,hg,hr,hb0,hb1]
    exact aA.mk (Mk.refl _ _) hC (⟨g,r,rfl,h1,hg1,hg2⟩)
   simp only [List.nil_append,List.cons_append]
   refine aI.some (fun v w'=> ∃s:ByteArray,v= .string s∧nU s) (fun _ _ _ _ h=>h) ?_ ?_
   ·intro c A w' hok hC hO hD
    simp [aC,aB,au,Act.eval,Region.binds] at hD
    obtain ⟨g,r,hr,h1,hg1,hg2⟩:=hD
    obtain ⟨s,hs,hsz⟩:=XT r h1
    simp [go_sem,gd,Oper.wp,hr,(dB hg2 hs).2]
    exact aA.mk (Mk.refl _ _) hC (⟨s,rfl,hsz⟩)
   apply aI.step
   case aG=>
    intro c A w' hok hC hO hD
    have e0:=hO 0 (by rfl)
    simp [Act.eval] at e0
    simp [aC,aB,au,Act.eval,Region.binds] at hD
    simp [go_sem,gd,Oper.wp,hD,e0]
    exact aA.mk (Mk.refl _ _) hC (aB.mk _ _)
   apply aI.step
   case aG=>
    intro c A w' hok hC hO hD
    have e1:=hO 1 (by rfl)
    simp [Act.eval] at e1
    simp [aC,aB,au,Act.eval,Region.binds] at hD
    simp [go_sem,gd,Oper.wp,hD,e1]
    exact aA.mk (Mk.refl _ _) hC (aB.mk _ _)
   simp only [List.nil_append,List.cons_append]
   apply aI.step
   case aG=>
    intro c A w' hok hC hO hD
    simp [aC,aB,au,Act.eval,Region.binds] at hD
    simp [go_sem,gd,Oper.wp,hD,hwd]
    exact aA.mk (Mk.refl _ _) hC (aB.mk _ _)
   refine aI.some (fun v w'=>EX (GE (d - 1)) w2.heap.size v w') (fun v w1 w' hle h=>h.next (hle.zm (by have:=bq.out; have:=HW2.out; omega) (by have:=bq.out; have:=HW2.out; omega))) ?_ ?_
   ·intro c A w' hok hC hO hD
    simp [aC,aB,au,Act.eval,Region.binds] at hD
    simp [go_sem,gd,Oper.wp,hD]
    refine (HX.out w' hC.2).mono ?_
    intro e w3 hp
    obtain ⟨v,rfl,h1,h2,h3⟩:=rO hp
    exact aA.mk h2 ⟨hC.1.trans h2,h3⟩ (h1.mono hC.1.size)
   simp only [List.nil_append,List.cons_append]
   refine aI.some (fun v w'=>XS (GE (d - 1)) w2.heap.size 1 v w') (fun v w1 w' hle h=>h.next (hle.zm (by have:=bq.out; have:=HW2.out; omega) (by have:=bq.out; have:=HW2.out; omega))) ?_ ?_
   ·intro c A w' hok hC hO hD
    simp [aC,aB,au,Act.eval,Region.binds] at hD
    obtain ⟨op,n,nm,kids,ao,cap,hv,hok',hst⟩:=hD
    unfold exV at hv
    simp [go_sem,gd,Oper.wp,hv]
    exact aA.mk (d:=_) (v:= .slice (some ⟨_,0,none⟩) 1 1) (Mk.of_below (ah _ _)) ⟨hC.1.trans (Mk.of_below (ah _ _)),hC.2.below (ah _ _)⟩ ⟨.cons op n nm kids .nil,some ⟨_,0,none⟩,1,rfl,⟨rfl,zT hok'.2⟩,oO (heap_alloc_new _ _) hC.1.size hok'.1 (hst.next (aL (ah _ _)))⟩
   refine aI.some (fun v w'=>EX (GE d) w2.heap.size v w') (fun v w1 w' hle h=>h.next (hle.zm (by have:=bq.out; have:=HW2.out; omega) (by have:=bq.out; have:=HW2.out; omega))) ?_ ?_
   ·intro c A w' hok hC hO hD
    simp [aC,aB,au,Act.eval,Region.binds] at hD
    obtain ⟨⟨s,hs,hsz⟩,l,ao,cap,hv,hl,hst⟩:=hD
    simp [go_sem,gd,Oper.wp,hs,hv]
    exact aA.mk (Mk.refl _ _) hC ⟨3,0,s,l,ao,cap,rfl,⟨⟨by unfold aM; decide,by unfold aM; decide,hsz.1,by rw [hl.1]; unfold maxLen; decide⟩,(V4 hsz.2 hl.1 hl.2).mono (by have:=Zf.out; omega)⟩,hst⟩
   simp only [List.nil_append,List.cons_append]
   refine aI.done ?_
   intro wz eY
   simp only [List.drop_zero]
   intro v0 h0 v1 h1 v2 h2 v3 h3 v4 h4 v5 h5 v6 h6 v7 h7 v8 h8 v9 h9 v10 h10 v11 h11 v12 h12 v13 Cv
   obtain ⟨op,n,nm,kids,ao,cap,rfl,hok,hst⟩:=Cv
   clear h0 h1 h2 h3 h4 h5 h6 h7 h8 h9 h10 h11 h12 K0 hd1 hd2 hwd
   refine eD.nil ?_
   go_simp
   have OE:Hid (wz.heap[w.heap.size]? =some (.cells Bg 45 (0,0))):=Lib.hid ((eY.1.block _ (Array.getElem?_eq_some_iff.1 HZ2.out).1 (by have:=bq.out; omega) (by have:=bq.out; omega)).trans HZ2.out)
   obtain ⟨⟨y0,y1,y2,y3⟩,fz⟩:=BR OE.out
   have f0:=fz 0
   have f1:=fz 1
   have f2:=fz 2
   have f3:=fz 3
   have Ph:=Lib.hid (HM.out.trans eY.1)
   have Oh:=Lib.hid eY.2
   have gq:=Lib.hid hok
   have HST:=Lib.hid (bJ.mono hst HW2.out)
   clear fz eY hok hst
   unfold exV
   refine eu 14 [[],[],[1],[1,2],[1,2,3],[1,2,3,4],[0,1,2,3,4,5],[0,1,2,3,4,5,6],[],[],[9],[1,2,3,4,5,8,9,10],[1,2,3,4,5,8,9,10,11],[0,1,2,3,4,5,6,7,8,9,10,11,12],[0,1,2,3,4,5,6,7,8,9,10,11,12,13]] rfl rfl rfl rfl rfl (by kernel_rfl) (by kernel_rfl) (by kernel_rfl) ?_
   simp [go_sem,Oper.wp,y0,y1,y2,y3,f0,f1,f2,f3]
   refine fM rfl ?_
   go_simp
   go_wp2_with fail
   obtain ⟨q1,q2,q3⟩:=Je (.int .i64 op) (.int .i64 n) (.string nm) (.slice ao kids.len cap) Ph.out Oh.out bq.out
   exact bodyPost_ret (v:=exV op n nm kids ao cap) (by simp [results,Tryz.results51,go_sem,exV,y0,y1,y2,y3]) rfl (BP q1 q2 ⟨op,n,nm,kids,ao,cap,rfl,gq.out,(HST.out.next q3).mono (Nat.le_succ _)⟩)
  ·have al9:(k == 8)=false:=by rw [beq_eq_false_iff_ne]; omega
   have c0:=HI2.out.ptr
   clear K0 hwd
   go_wp2_with fail
   refine (dR T 2 _ (by unfold aM; decide) HI2.out).mono ?_
   rintro e w3 ⟨r,rfl,hr0,hr1,hr2,wD,BH⟩
   have hr3:r < 2:=hr1 (by decide)
   have HI3:=Lib.hid BH
   have WY:=Lib.hid (HM.out.trans wD)
   have K9:=Lib.hid wD
   clear wD BH hr1 hr2 c0
   go_wp2_with fail
   refine (HX.out _ HI3.out).mono ?_
   intro e w4 hp
   obtain ⟨v,rfl,hex,Ah,G8⟩:=rO hp
   obtain ⟨op,n,nm,kids,ao,cap,rfl,hok,hst⟩:=hex
   have Me:=Lib.hid (WY.out.trans Ah)
   have gq:=Lib.hid hok
   have HST:=Lib.hid (hst.mono (Nat.le_trans HW2.out K9.out.size))
   have HI4:=Lib.hid G8
   have fK:Hid (w4.heap[w.heap.size]? =some (.cells Bg 45 (0,0))):=Lib.hid (((K9.out.trans Ah).block _ (Array.getElem?_eq_some_iff.1 HZ2.out).1 (by have:=bq.out; omega) (by have:=bq.out; omega)).trans HZ2.out)
   have HW4:Hid (w.heap.size + 1≤w4.heap.size):=Lib.hid (by have:=(Array.getElem?_eq_some_iff.1 fK.out).1; omega)
   clear hp hok hst Ah G8
   obtain ⟨⟨y0,y1,y2,y3⟩,fz⟩:=BR fK.out
   have f0:=fz 0
   have f1:=fz 1
   have f2:=fz 2
   have f3:=fz 3
   have sS:w.heap.size < w4.heap.size:=HW4.out
   clear fz
   unfold exV
   go_wp2_with fail
   have HF:=Lib.hid (ZI (q':=GE d) (by have:=Zf.out; omega) (a:=4 + r) (cap:=cap) (t:=45) Me.out HI4.out bq.out (show 4 + r=4∨4 + r=5 by omega) gq.out HST.out HW4.out)
   exact bodyPost_ret (v:=exV (4 + r) 0 ⟨#[]⟩ (.cons op n nm kids .nil) (some ⟨w4.heap.size,0,none⟩) 1) (by simp [results,Tryz.results51,go_sem,exV,aZ.len,y0,y1,y2,y3,sS]) rfl HF.out
  ·have al9:(k == 8)=false:=by rw [beq_eq_false_iff_ne]; omega
   have c0:=HI2.out.ptr
   go_wp2_with fail
   refine (dR T 13 _ (by unfold aM; decide) HI2.out).mono ?_
   rintro e w3 ⟨r,rfl,hr0,hr1,hr2,wD,BH⟩
   have hr3:r < 13:=hr1 (by decide)
   have HI3:=Lib.hid BH
   have WY:=Lib.hid (HM.out.trans wD)
   have K9:=Lib.hid wD
   clear wD BH hr1 hr2 c0
   go_wp2_with fail
   refine (HX.out _ HI3.out).mono ?_
   intro e w4 hp
   obtain ⟨v,rfl,hex,Ah,G8⟩:=rO hp
   obtain ⟨op,n,nm,kids,ao,cap,rfl,hok,hst⟩:=hex
   have Me:=Lib.hid (WY.out.trans Ah)
   have gq:=Lib.hid hok
   have HST:=Lib.hid (hst.mono (Nat.le_trans HW2.out K9.out.size))
   have HI4:=Lib.hid G8
   have fK:Hid (w4.heap[w.heap.size]? =some (.cells Bg 45 (0,0))):=Lib.hid (((K9.out.trans Ah).block _ (Array.getElem?_eq_some_iff.1 HZ2.out).1 (by have:=bq.out; omega) (by have:=bq.out; omega)).trans HZ2.out)
   clear hp hok hst Ah G8
   unfold exV
   go_upto_region 14 with fail
   obtain ⟨ga,hga⟩: ∃g,w4.heap.size=g:=⟨_,rfl⟩
   generalize qF:World.alloc w4 _=W5
   have iR:Hid (Below w4.heap.size w4 W5):=Lib.hid (by rw [← qF]; exact ah _ _)
   have HA5:Hid (W5.heap[ga]? =some (.cells #[.int .i64 op,.int .i64 n,.string nm,.slice ao kids.len cap] 45 (0,0))):=Lib.hid (by rw [← qF,← hga]; exact heap_alloc_new _ _)
   have TM:=Lib.hid (HI4.out.below iR.out)
   have TV:=Lib.hid (Me.out.trans (Mk.of_below iR.out))
   have iq:Hid (W5.heap[w.heap.size]? =some (.cells Bg 45 (0,0))):=Lib.hid ((iR.out.block _ (Array.getElem?_eq_some_iff.1 fK.out).1).trans fK.out)
   have al0:=Lib.hid (HST.out.next (aL iR.out))
   have nC:Hid (w.heap.size < ga):=Lib.hid (by rw [← hga]; exact (Array.getElem?_eq_some_iff.1 fK.out).1)
   have HW5:Hid (w.heap.size + 1≤W5.heap.size):=Lib.hid (by have:=(Array.getElem?_eq_some_iff.1 iq.out).1; omega)
   rw [hga]
   clear qF hga iR fK HST Me HI4
   have KA: ∀w',Mk T W5 w'→w'.heap[ga]? =some (.cells #[.int .i64 op,.int .i64 n,.string nm,.slice ao kids.len cap] 45 (0,0)):=fun w' h=>(h.block _ (Array.getElem?_eq_some_iff.1 HA5.out).1 (by have:=bq.out; have:=nC.out; omega) (by have:=bq.out; have:=nC.out; omega)).trans HA5.out
   have KA0: ∀w',Mk T W5 w'→w'.cell? ⟨ga,0,none⟩=some (.int .i64 op):=fun w' h=>(dB (KA w' h) (j:=0) rfl).2
   have KA1: ∀w',Mk T W5 w'→w'.cell? ⟨ga,1,none⟩=some (.int .i64 n):=fun w' h=>(dB (KA w' h) (j:=1) rfl).2
   have KA2: ∀w',Mk T W5 w'→w'.cell? ⟨ga,2,none⟩=some (.string nm):=fun w' h=>(dB (KA w' h) (j:=2) rfl).2
   have KA3: ∀w',Mk T W5 w'→w'.cell? ⟨ga,3,none⟩=some (.slice ao kids.len cap):=fun w' h=>(dB (KA w' h) (j:=3) rfl).2
   have hd1:Mk T W5 (W5.drewN 1):=Mk.of_below (below_drewN (Below.refl _ _) 1)
   have hd2:dI (W5.drewN 1) T:=TM.out.below (below_drewN (Below.refl _ _) 1)
   clear KA
   refine dY (by kernel_rfl) rfl ?_
   refine dN 0 7 [] [[],[],[],[],[3],[2,3,4],[0,1,2,3,4,5],[0,1,2,3,4,5,6]] [[],[],[],[],[],[],[]] (fun _ w'=>Mk T W5 w'∧dI w' T) (fun w w'=>Mk T w w') [106,107,108,109,110,111,112] rfl rfl (by rfl) (by kernel_rfl) (by kernel_rfl) (by kernel_rfl) (by kernel_rfl) (by kernel_rfl) (by rfl) (fun _=>Mk.refl _ _) (by rfl) ⟨hd1,hd2⟩ ?_
   simp only [List.take_succ_cons,List.take_zero,List.drop_zero,List.drop_succ_cons,jR,List.map_cons,List.map_nil]
   apply aI.step
   case aG=>
    intro c A w' hok hC hO hD
    have e8:=hO 8 (by rfl)
    simp [Act.eval] at e8
    simp [aC,aB,au,Act.eval,Region.binds] at hD
    simp [go_sem,gd,Oper.wp,hD,e8]
    exact aA.mk (Mk.refl _ _) hC (aB.mk _ _)
   apply aI.step
   case aG=>
    intro c A w' hok hC hO hD
    have e9:=hO 9 (by rfl)
    simp [Act.eval] at e9
    simp [aC,aB,au,Act.eval,Region.binds] at hD
    simp [go_sem,gd,Oper.wp,hD,e9,KA0,KA1,KA2,KA3,hC.1]
    exact aA.mk (Mk.refl _ _) hC (aB.mk _ _)
   apply aI.step
   case aG=>
    intro c A w' hok hC hO hD
    have e0:=hO 0 (by rfl)
    simp [Act.eval] at e0
    simp [aC,aB,au,Act.eval,Region.binds] at hD
    simp [go_sem,gd,Oper.wp,hD,e0]
    exact aA.mk (Mk.refl _ _) hC (aB.mk _ _)
   apply aI.step
   case aG=>
    intro c A w' hok hC hO hD
    have e1:=hO 1 (by rfl)
    simp [Act.eval] at e1
    simp [aC,aB,au,Act.eval,Region.binds] at hD
    simp [go_sem,gd,Oper.wp,hD,e1]
    exact aA.mk (Mk.refl _ _) hC (aB.mk _ _)
   simp only [List.nil_append,List.cons_append]
   apply aI.step
   case aG=>
    intro c A w' hok hC hO hD
    simp [aC,aB,au,Act.eval,Region.binds] at hD
    simp [go_sem,gd,Oper.wp,hD,hwd]
    exact aA.mk (Mk.refl _ _) hC (aB.mk _ _)
   refine aI.some (fun v w'=>EX (GE (d - 1)) (w.heap.size + 1) v w') (fun v w1 w' hle h=>h.next (hle.zm (by have:=bq.out; omega) (by have:=bq.out; omega))) ?_ ?_
   ·intro c A w' hok hC hO hD
    simp [aC,aB,au,Act.eval,Region.binds] at hD
    simp [go_sem,gd,Oper.wp,hD]
    refine (HX.out w' hC.2).mono ?_
    intro e w3 hp
    obtain ⟨v,rfl,h1,h2,h3⟩:=rO hp
    exact aA.mk h2 ⟨hC.1.trans h2,h3⟩ (h1.mono (Nat.le_trans HW5.out hC.1.size))
   simp only [List.nil_append,List.cons_append]
   refine aI.some (fun v w'=>EX (GE d) (w.heap.size + 1) v w') (fun v w1 w' hle h=>h.next (hle.zm (by have:=bq.out; omega) (by have:=bq.out; omega))) ?_ ?_
   ·intro c A w' hok hC hO hD
    simp [aC,aB,au,Act.eval,Region.binds] at hD
    obtain ⟨al3,an3,op',n',nm',gJ,jf,cap',hv,hok',hst'⟩:=hD
    unfold exV at hv
    simp [go_sem,gd,Oper.wp,al3,an3,hv]
    refine (MQ (6 + r) op n nm kids ao cap op' n' nm' gJ jf cap' w').mono ?_
    rintro e w6 ⟨g,rfl,hg,hcell,hb⟩
    refine aA.mk (Mk.of_below hb) ⟨hC.1.trans (Mk.of_below hb),hC.2.below hb⟩ ⟨6 + r,0,⟨#[]⟩,.cons op n nm kids (.cons op' n' nm' gJ .nil),some ⟨g,0,none⟩,2,rfl,⟨⟨by unfold aM; omega,by unfold aM; decide,by unfold maxLen; decide,by simp [aZ.len,maxLen]⟩,(VE hr0 hr3 gq.out.2 hok'.2).mono Zf.out⟩,RD hcell (Nat.le_trans (Nat.le_trans HW5.out hC.1.size) hg) gq.out.1 ?_ hok'.1 (hst'.next (aL hb))⟩
    exact al0.out.next (((hC.1).zm (by have:=bq.out; omega) (by have:=bq.out; omega)).trans (aL hb))
   simp only [List.nil_append,List.cons_append]
   refine aI.done ?_
   intro wz eY
   simp only [List.drop_zero]
   intro v0 h0 v1 h1 v2 h2 v3 h3 v4 h4 v5 h5 v6 h6
   obtain ⟨op',n',nm',gJ,jf,cap',rfl,hok,hst⟩:=h6
   clear h0 h1 h2 h3 h4 h5 K0 hd1 hd2 hwd KA0 KA1 KA2 KA3
   refine eD.nil ?_
   go_simp
   have OE:Hid (wz.heap[w.heap.size]? =some (.cells Bg 45 (0,0))):=Lib.hid ((eY.1.block _ (Array.getElem?_eq_some_iff.1 iq.out).1 (by have:=bq.out; omega) (by have:=bq.out; omega)).trans iq.out)
   obtain ⟨⟨y0,y1,y2,y3⟩,fz⟩:=BR OE.out
   have f0:=fz 0
   have f1:=fz 1
   have f2:=fz 2
   have f3:=fz 3
   have Ph:=Lib.hid (TV.out.trans eY.1)
   have Oh:=Lib.hid eY.2
   have an5:=Lib.hid hok
   have am6:=Lib.hid hst
   clear fz eY hok hst
   unfold exV
   refine eu 7 [[],[],[],[],[3],[2,3,4],[0,1,2,3,4,5],[0,1,2,3,4,5,6]] rfl rfl rfl rfl rfl (by kernel_rfl) (by kernel_rfl) (by kernel_rfl) ?_
   simp [go_sem,Oper.wp,y0,y1,y2,y3,f0,f1,f2,f3]
   refine fM rfl ?_
   go_simp
   go_wp2_with fail
   obtain ⟨q1,q2,q3⟩:=Je (.int .i64 op') (.int .i64 n') (.string nm') (.slice jf gJ.len cap') Ph.out Oh.out bq.out
   exact bodyPost_ret (v:=exV op' n' nm' gJ jf cap') (by simp [results,Tryz.results51,go_sem,exV,y0,y1,y2,y3]) rfl (BP q1 q2 ⟨op',n',nm',gJ,jf,cap',rfl,an5.out,(am6.out.next q3).mono (Nat.le_succ _)⟩)
theorem Dc (T:Tp): ∀d:Nat,d≤100→vS T (d:Int)
 | 0,h=>GZ T 0 h (fun d' e=>by omega)
 | d + 1,h=>GZ T (d + 1) h (fun d' e=>by
   obtain rfl:d=d':=by omega
   exact Dc T d (by omega))
end Go.Proofs.YtehnipchbmjlhaaGreatDoor
end
