/-
  The tape that programs are made of: contracts of Tape.Next, name and binary.
  What stays in memory but for some blocks; rows that grow by append beside another block that changes. No program in sight.
  What makes programs without static errors: its state as data, what is kept.
-/
import Derived.Test.YtnknfoibmgphnaaDoorGMB
import Derived.Test.YtnknfoibmgphnaaDoorGMA
import Derived.IntWalk
import Derived.Outline
import Derived.StillTailTactics
section
set_option linter.unusedSimpArgs false
set_option linter.unusedVariables false
namespace Go.Proofs.YtnknfoibmgphnaaDoor
open Go.RowKit
open Md
theorem aV {w:World} {b j:Nat} {cs:Array Value} {t:TypeId} {fr:Nat × Nat} {u:Value} (h:w.heap[b]? =some (.cells cs t fr)) (hu:cs[j]? =some u):b < w.heap.size∧w.cell? ⟨b,j,none⟩=some u:=
 ⟨(Array.getElem?_eq_some_iff.1 h).1,bL h hu⟩
theorem zY {b:Nat} {w1 w2 w3:World} (h:w1.grownBy w2 (some b)) (k:w2.grownBy w3 (some b)):w1.grownBy w3 (some b):=
 ⟨k.os.trans h.os,k.tape.trans h.tape,k.output.trans h.output,Nat.le_trans h.size k.size,fun j hj hne=>(k.block j (Nat.lt_of_lt_of_le hj h.size) hne).trans (h.block j hj hne)⟩
theorem Gh {b:Nat} {w w':World} (h:Below w.heap.size w w'):w.grownBy w' (some b):=⟨h.os,h.tape,h.output,h.size,fun k hk _=>h.block k hk⟩
structure Tp where
 B0:Nat
 bt:Nat
 bm:Nat
 ao:Option Addr
 cap:Nat
 zs:List Int
 t0:B0≤bt
 m0:B0≤bm
 tm:bt≠bm
def uP (w:World) (B:Nat) (zs:List Int) (ao:Option Addr):Prop:= ∀(k:Nat) (hk:k < zs.length),∃b off,ao=some ⟨b,off,none⟩∧b < B∧w.cell? ⟨b,off + k,none⟩=some (.int .u8 zs[k])∧0≤zs[k]∧zs[k]≤255
theorem uP.below {w w':World} {B:Nat} {zs:List Int} {ao:Option Addr} (h:uP w B zs ao) (hb:Below B w w'):uP w' B zs ao:=fun k hk=>by
 obtain ⟨b,off,e,hB,hc,hz⟩:=h k hk
 exact ⟨b,off,e,hB,(hb.cell hB).trans hc,hz⟩
structure kP (w:World) (T:Tp):Prop where
 blk: ∃at':Nat,at'≤T.zs.length∧w.heap[T.bt]? =some (.cells #[.slice T.ao T.zs.length T.cap,.int .i64 at'] 47 (0,0))
 BF:uP w T.B0 T.zs T.ao
 len:T.zs.length≤9223372036854775807
theorem kP.lt {w:World} {T:Tp} (h:kP w T):T.bt < w.heap.size:=by obtain ⟨a,-,h⟩:=h.blk; exact (Array.getElem?_eq_some_iff.1 h).1
theorem kP.b0 {w:World} {T:Tp} (h:kP w T):T.B0≤w.heap.size:=by have:=h.lt; have:=T.t0; omega
def Lc (T:Tp) (n:Int) (w:World) (e:Ending) (w':World):Prop:= ∃r:Int,e= .returned (.int .i64 r)∧0≤r∧(0 < n→r < n)∧r≤255∧w.grownBy w' (some T.bt)∧kP w' T
theorem zJ {T:Tp} {n r:Int} {w w':World} (h0:0≤r) (h1:0 < n→r < n) (h2:r≤255) (h3:w.grownBy w' (some T.bt)) (h4:kP w' T):Lc T n w (.returned (.int .i64 r)) w':=⟨r,rfl,h0,h1,h2,h3,h4⟩
theorem lF {b:Nat} (w:World) (n:Nat):w.grownBy (w.drewN n) (some b):=Gh (below_drewN (Below.refl _ _) n)
theorem kP.draws {w:World} {T:Tp} (h:kP w T) (n:Nat):kP (w.drewN n) T:=by
 obtain ⟨a,h1,h2⟩:=h.blk
 have hb:=below_drewN (Below.refl w.heap.size w) n
 exact ⟨⟨a,h1,(hb.block _ h.lt).trans h2⟩,h.BF.below (hb.mono h.b0),h.len⟩
set_option maxHeartbeats 2000000 in
set_option maxRecDepth 100000 in
theorem K9 (T:Tp) (n:Int) (w:World) (hn:aX n) (hI:kP w T):
 Calls Tryd.prog 8 #[.pointer (some ⟨T.bt,0,none⟩),.int .i64 n] w (Lc T n w):=by
 obtain ⟨a,ha,hblk⟩:=hI.blk
 have HI:=Lib.hid hI
 have HB:=Lib.hid hblk
 have hlen:=hI.len
 obtain ⟨hn1,hn2⟩:=hn
 have c0:w.cell? ⟨T.bt,0,none⟩=some (.slice T.ao T.zs.length T.cap):=(aV hblk (j:=0) rfl).2
 have c1:w.cell? ⟨T.bt,1,none⟩=some (.int .i64 (a:Int)):=(aV hblk (j:=1) rfl).2
 clear hI hblk
 by_cases h1:T.zs.length≤a
 ·have hd:decide ((T.zs.length:Int)≤(a:Int))=true:=by rw [decide_eq_true_iff]; omega
  go_enter Tryd.func8,Tryd.ntmps8
  go_wp2_with fail
  go_quiet (fail)
  go_wp2_with fail
  go_ret
  exact zJ (by omega) (by omega) (by omega) (lF _ _) (HI.out.draws _)
 ·have hd:decide ((T.zs.length:Int)≤(a:Int))=false:=by rw [decide_eq_false_iff_not]; omega
  by_cases h2:n < 1
  ·have hd2:decide (n < 1)=true:=by rw [decide_eq_true_iff]; omega
   go_enter Tryd.func8,Tryd.ntmps8
   go_wp2_with fail
   go_quiet (fail)
   go_wp2_with fail
   go_ret
   exact zJ (by omega) (by omega) (by omega) (lF _ _) (HI.out.draws _)
  ·have hd2:decide (n < 1)=false:=by rw [decide_eq_false_iff_not]; omega
   go_enter Tryd.func8,Tryd.ntmps8
   go_wp2_with fail
   go_quiet (fail)
   generalize hW:World.drewN w _=W1
   have HI1:Hid (kP W1 T):=Lib.hid (by rw [← hW]; exact HI.out.draws _)
   have qE:Hid (w.grownBy W1 (some T.bt)):=Lib.hid (by rw [← hW]; exact lF _ _)
   have HB1:Hid (W1.heap[T.bt]? =some (.cells #[.slice T.ao T.zs.length T.cap,.int .i64 (a:Int)] 47 (0,0))):=Lib.hid (by rw [← hW]; exact ((below_drewN (Below.refl w.heap.size w) _).block _ HI.out.lt).trans HB.out)
   clear hW c0 c1 HI HB hd hd2
   have c1:W1.cell? ⟨T.bt,1,none⟩=some (.int .i64 (a:Int)):=(aV HB1.out (j:=1) rfl).2
   have f1:W1.frozen? ⟨T.bt,1,none⟩=false:=dH HB1.out
   go_upto_region 4 with fail
   generalize hW2:World.setCell W1 _ _=W2
   have HB2:Hid (W2.heap[T.bt]? =some (.cells #[.slice T.ao T.zs.length T.cap,.int .i64 ((a:Int) + 1)] 47 (0,0))):=Lib.hid (by rw [← hW2,dN HB1.out]; rfl)
   have HG2:Hid (W1.grownBy W2 (some T.bt)):=Lib.hid (by rw [← hW2]; exact dY _ _ _)
   have Bu:Hid (uP W2 T.B0 T.zs T.ao):=Lib.hid (HI1.out.BF.below (fC HG2.out T.t0 HI1.out.b0))
   have HI2:Hid (kP W2 T):=Lib.hid ⟨⟨a + 1,by omega,by rw [HB2.out]; rfl⟩,Bu.out,HI1.out.len⟩
   have HG:=Lib.hid (zY qE.out HG2.out)
   clear hW2 c1 f1 qE HG2 HB1
   have ha:a < T.zs.length:=by omega
   obtain ⟨bb,off,hao,hbb,hcell,hz0,hz1⟩:=Bu.out a ha
   have c0:W2.cell? ⟨T.bt,0,none⟩=some (.slice T.ao T.zs.length T.cap):=(aV HB2.out (j:=0) rfl).2
   have c1:W2.cell? ⟨T.bt,1,none⟩=some (.int .i64 ((a:Int) + 1)):=(aV HB2.out (j:=1) rfl).2
   rw [hao] at c0
   generalize T.zs[a]=z at *
   have hw1:(a:Int) + 1 - 1=(a:Int):=by omega
   have hw2:IntKind.i64.wrap (a:Int)=(a:Int):=IntWalk.i64_in _ (by omega)
   have hb0:(0:Int)≤(a:Int):=by omega
   have hb1:(a:Int) < (T.zs.length:Int):=by omega
   have LK:=Lib.hid hao
   clear hao HI1
   go_quiet (fail)
   go_wp2_with fail
   go_ret
   have e1:=Int.emod_nonneg z (show n≠0 by omega)
   have e2:=Int.emod_lt_of_pos z (show 0 < n by omega)
   have e3:z % n≤255:=by
    by_cases hzn:z < n
    ·rw [Int.emod_eq_of_lt hz0 hzn]; exact hz1
    ·omega
   exact zJ e1 (fun _=>e2) e3 (zY HG.out (lF _ _)) (HI2.out.draws _)
def xO:Array Value:= #[.int .i64 0,.int .i64 0,.string ⟨#[]⟩,.slice none 0 0]
theorem Ak {w:World} {b:Nat} {t:TypeId} (h:w.heap[b]? =some (.cells xO t (0,0))):(w.cell? ⟨b,0,none⟩=some (.int .i64 0)∧w.cell? ⟨b,1,none⟩=some (.int .i64 0)∧w.cell? ⟨b,2,none⟩=some (.string ⟨#[]⟩)∧w.cell? ⟨b,3,none⟩=some (.slice none 0 0))∧(∀j,w.frozen? ⟨b,j,none⟩=false):=
 ⟨⟨(aV h (j:=0) rfl).2,(aV h (j:=1) rfl).2,(aV h (j:=2) rfl).2,(aV h (j:=3) rfl).2⟩,fun j=>dH h⟩
theorem wI (s:ByteArray) (w:World):
 Calls Tryd.prog 30 #[.string s] w fun e w'=>e= .returned (exV 2 0 s .nil none 0)∧Below w.heap.size w w':=by
 go_enter Tryd.func30,Tryd.ntmps30
 go_wp2
 exact bodyPost_ret (v:=exV 2 0 s .nil none 0) (by simp [results,Tryd.results30,go_sem,exV,bJ.len]) rfl ⟨rfl,ay _ _⟩
theorem wu (op:Int) (o1 n1:Int) (m1:ByteArray) (k1:bJ) (a1:Option Addr) (c1:Nat) (o2 n2:Int) (m2:ByteArray) (k2:bJ) (a2:Option Addr) (c2:Nat) (w:World):
 Calls Tryd.prog 29 #[.int .i64 op,exV o1 n1 m1 k1 a1 c1,exV o2 n2 m2 k2 a2 c2] w fun e w'=> ∃g,e= .returned (.agg #[.int .i64 op,.int .i64 0,.string ⟨#[]⟩,.slice (some ⟨g,0,none⟩) 2 2])∧w.heap.size≤g∧w'.heap[g]? =some (.cells (EY o1 n1 m1 k1 a1 c1++EY o2 n2 m2 k2 a2 c2).toArray 40 (0,0))∧Below w.heap.size w w':=by
 unfold exV
 go_enter Tryd.func29,Tryd.ntmps29
 go_wp2
 refine bodyPost_ret (v:= .agg #[.int .i64 op,.int .i64 0,.string ⟨#[]⟩,.slice (some ⟨w.heap.size + 1 + 1 + 1,0,none⟩) 2 2]) (by simp [results,Tryd.results29,go_sem]) rfl ⟨w.heap.size + 1 + 1 + 1,rfl,by omega,?_,?_⟩
 ·generalize hW:World.alloc (World.alloc (World.alloc w _) _) _=W
  have e:W.heap.size=w.heap.size + 1 + 1 + 1:=by rw [← hW]; simp
  rw [← e]; exact heap_alloc_new _ _
 ·exact (((ay _ _).alloc (by simp) _).alloc (by simp; omega) _).alloc (by simp; omega) _
end Go.Proofs.YtnknfoibmgphnaaDoor
end
section
set_option linter.unusedVariables false
namespace Go.Proofs.YtnknfoibmgphnaaDoor
open Go.RowKit
open Md
def jT (B:Nat) (X:Nat→Prop) (w w':World):Prop:=w.heap.size≤w'.heap.size∧ ∀k,B≤k→ ¬ X k→k < w.heap.size→w'.heap[k]? =w.heap[k]?
def fJ (B:Nat) (X:Nat→Prop) (w:World) (Q:World→Prop):Prop:= ∀w',jT B X w w'→Q w'
def tL (H:Option Nat) (k:Nat):Prop:=H=some k
def qo (g H:Option Nat) (k:Nat):Prop:=g=some k∨H=some k
def Hx (w:World) (H H':Option Nat):Prop:=H'=H∨ ∃h,H'=some h∧w.heap.size≤h
theorem Hx.refl (w:World) (H:Option Nat):Hx w H H:= .inl rfl
theorem Hx.trans {w w1:World} {H H1 H2:Option Nat} (h:Hx w H H1) (k:Hx w1 H1 H2) (hs:w.heap.size≤w1.heap.size):Hx w H H2:=by
 rcases k with rfl | ⟨b,rfl,hb⟩
 ·exact h
 ·exact .inr ⟨b,rfl,Nat.le_trans hs hb⟩
theorem Hx.old {w:World} {H H':Option Nat} (h:Hx w H H') {k:Nat} (hk:k < w.heap.size) (e:tL H' k):tL H k:=by
 rcases h with rfl | ⟨b,rfl,hb⟩
 ·exact e
 ·injection e with e; omega
section
variable {B B1:Nat} {X X1 X':Nat→Prop} {w w' w1:World} {Q:World→Prop}
theorem jT.refl (B:Nat) (X:Nat→Prop) (w:World):jT B X w w:=⟨Nat.le_refl _,fun _ _ _ _=>rfl⟩
theorem jT.rE (h:mI B w w'):jT B X w w':=⟨h.1,fun k h1 _ h2=>h.2 k h1 h2⟩
theorem jT.of_below (h:Below w.heap.size w w'):jT B X w w':= .rE (bT h)
theorem jT.zG {g:Option Nat} (h:w.grownBy w' g) (hX: ∀k,B≤k→g=some k→X k):jT B X w w':=⟨h.size,fun k h1 h2 h3=>h.block k h3 (fun e=>h2 (hX k h1 e.symm))⟩
theorem jT.trans (h:jT B X w w1) (k:jT B X' w1 w') (hX: ∀k,B≤k→k < w.heap.size→X' k→X k):jT B X w w':=
 ⟨Nat.le_trans h.1 k.1,fun j h1 h2 h3=>(k.2 j h1 (fun hx=>h2 (hX j h1 h3 hx)) (Nat.lt_of_lt_of_le h3 h.1)).trans (h.2 j h1 h2 h3)⟩
theorem jT.weak (h:jT B X w w') (hB:B≤B1) (hX: ∀k,B1≤k→k < w.heap.size→X k→X1 k):jT B1 X1 w w':=⟨h.1,fun k h1 h2 h3=>h.2 k (Nat.le_trans hB h1) (fun hx=>h2 (hX k h1 h3 hx)) h3⟩
theorem fJ.now (h:fJ B X w Q):Q w:=h w (jT.refl _ _ _)
theorem fJ.go (h:fJ B X w Q) (ha:jT B X w w1) (hX: ∀k,B≤k→k < w.heap.size→X' k→X k):fJ B X' w1 Q:=fun w' h'=>h w' (ha.trans h' hX)
theorem fJ.weak (h:fJ B1 X1 w Q) (hB:B≤B1) (hX: ∀k,B1≤k→k < w.heap.size→X k→X1 k):fJ B X w Q:=fun w' h'=>h w' (h'.weak hB hX)
theorem fJ.fV (h:iX B1 w Q) (hB:B≤B1) (hX: ∀k,B1≤k→k < w.heap.size→ ¬ X k):fJ B X w Q:=fun w' h'=>h w' ⟨h'.1,fun k h1 h2=>h'.2 k (Nat.le_trans hB h1) (hX k h1 h2) h2⟩
theorem fJ.stay (h:fJ B X w Q):iX B w Q:=fun w' h'=>h w' (.rE h')
end
structure jd {α:Type} (f:α→List Value) (m:Nat) (I:α→World→Prop) (ty:TypeId) (B:Nat) (H:Option Nat) (w:World) (v:Value) (xs:List α):Prop where
 own:w.ownsRow B ty m v xs.length (xs.flatMap f)
 ne: ∀k,v.ownBlock=some k→H≠some k
 stay: ∀x ∈ xs,fJ B (qo v.ownBlock H) w (I x)
section
variable {α:Type} {f:α→List Value} {m:Nat} {I:α→World→Prop} {ty:TypeId} {B:Nat} {H H':Option Nat} {w w':World} {v:Value} {xs:List α}
theorem jd.nil (f:α→List Value) (m:Nat) (I:α→World→Prop) (ty:TypeId) (B:Nat) (H:Option Nat) (w:World):jd f m I ty B H w (.slice none 0 0) []:=⟨World.ownsRow_nil _ _ _ _,fun _ e=>(by cases e),fun x hx=>(by cases hx)⟩
theorem jd.lt (h:jd f m I ty B H w v xs): ∀k,v.ownBlock=some k→B≤k∧k < w.heap.size:=h.own.lt
theorem jd.len (h:jd f m I ty B H w v xs): ∃ao cap,v= .slice ao xs.length cap:=by
 rcases h.own.2 with ⟨h1,h2⟩ | ⟨g,cap,cur,h1,-⟩
 ·exact ⟨none,0,by rw [h1,h2]⟩
 ·exact ⟨_,_,h1⟩
theorem jd.next (h:jd f m I ty B H w v xs) (ha:jT B (tL H) w w') (hH:Hx w H H'):jd f m I ty B H' w' v xs:=by
 refine ⟨⟨h.own.1,?_⟩,fun k hk e=> ?_,fun x hx=>(h.stay x hx).go (ha.weak (Nat.le_refl _) (fun k _ _ e=> .inr e)) (fun k _ h2 e=> ?_)⟩
 ·rcases h.own.2 with h1 | ⟨g,cap,cur,h1,h2,h3,h4⟩
  ·exact .inl h1
  ·exact .inr ⟨g,cap,cur,h1,h2,(ha.2 g h2 (fun e=>h.ne g (by rw [h1]; rfl) e) (Array.getElem?_eq_some_iff.1 h3).1).trans h3,h4⟩
 ·exact h.ne k hk (hH.old (h.lt k hk).2 e)
 ·rcases e with e | e
  ·exact .inl e
  ·exact .inr (hH.old h2 e)
theorem jd.LA {ys:List α} {g cap n:Nat} (h:jd f m I ty B H w v xs) (hy: ∀y ∈ ys,fJ B (qo v.ownBlock H) w (I y)) (hn:n=xs.length + ys.length) (hown:w'.ownsRow B ty m (.slice (some ⟨g,0,none⟩) n cap) n (xs.flatMap f++ys.flatMap f)) (hg:w.grownBy w' v.ownBlock) (hmv:v.ownBlock=some g∨g=w.heap.size) (hH: ∀k,H=some k→k < w.heap.size):
 jd f m I ty B H w' (.slice (some ⟨g,0,none⟩) n cap) (xs++ys):=by
 subst hn
 refine ⟨by rw [List.flatMap_append,List.length_append]; exact hown,fun k hk e=> ?_,fun y OY=> ?_⟩
 ·have hk':g=k:=by injection hk
  subst hk'
  rcases hmv with hmv | rfl
  ·exact h.ne _ hmv e
  ·exact absurd (hH _ e) (Nat.lt_irrefl _)
 ·show fJ B (qo (some g) H) w' (I y)
  have hall:fJ B (qo v.ownBlock H) w (I y):=by
   rcases List.mem_append.1 OY with h1 | h1
   ·exact h.stay y h1
   ·exact hy y h1
  refine hall.go (.zG hg (fun k _ e=> .inl e)) (fun k _ h2 e=> ?_)
  rcases e with e | e
  ·injection e with e; subst e
   rcases hmv with hmv | rfl
   ·exact .inl hmv
   ·exact absurd h2 (Nat.lt_irrefl _)
  ·exact .inr e
theorem jd.push {x:α} {g cap n:Nat} (h:jd f m I ty B H w v xs) (hx:fJ B (qo v.ownBlock H) w (I x)) (hn:n=xs.length + 1) (hown:w'.ownsRow B ty m (.slice (some ⟨g,0,none⟩) n cap) n (xs.flatMap f++f x)) (hg:w.grownBy w' v.ownBlock) (hmv:v.ownBlock=some g∨g=w.heap.size) (hH: ∀k,H=some k→k < w.heap.size):
 jd f m I ty B H w' (.slice (some ⟨g,0,none⟩) n cap) (xs++[x]):=
 h.LA (ys:=[x]) (fun y hy=>by rw [List.mem_singleton.1 hy]; exact hx) hn (by rw [List.flatMap_singleton]; exact hown) hg hmv hH
theorem jd.weak {B0:Nat} (h:jd f m I ty B H w v xs) (hB:B0≤B):jd f m I ty B0 H w v xs:=by
 refine ⟨⟨h.own.1,?_⟩,h.ne,fun x hx=>(h.stay x hx).weak hB (fun _ _ _ e=>e)⟩
 rcases h.own.2 with h1 | ⟨g,cap,cur,h1,h2,h3,h4⟩
 ·exact .inl h1
 ·exact .inr ⟨g,cap,cur,h1,Nat.le_trans hB h2,h3,h4⟩
theorem jd.cells (hf: ∀x,(f x).length=m) (h:jd f m I ty B H w v xs):fJ B (tL H) w (fun w2=>(∀x ∈ xs,I x w2)∧ ∃ao cap,v= .slice ao xs.length cap∧xs.length≤cap∧ ∀k x,xs[k]? =some x→ ∃g,ao=some ⟨g,0,none⟩∧B≤g∧g < w2.heap.size∧ ∀j u,(f x)[j]? =some u→w2.cell? ⟨g,k * m + j,none⟩=some u):=fun w2 h2=>by
 refine ⟨fun x hx=>(h.stay x hx) w2 (h2.weak (Nat.le_refl _) (fun _ _ _ e=> .inr e)),?_⟩
 have hne:=h.ne
 rcases h.own.2 with ⟨h1,h3⟩ | ⟨g,cap,cur,h1,hB,hg,hc,-,hs,ht⟩
 ·refine ⟨none,0,by rw [h1,h3],by omega,fun k x hk=> ?_⟩
  have:=(List.getElem?_eq_some_iff.1 hk).1; omega
 ·refine ⟨some ⟨g,0,none⟩,cap,h1,hc,fun k x hk=>⟨g,rfl,hB,?_⟩⟩
  have hg2:=(h2.2 g hB (fun e=>hne g (by rw [h1]; rfl) e) (Array.getElem?_eq_some_iff.1 hg).1).trans hg
  refine ⟨(Array.getElem?_eq_some_iff.1 hg2).1,fun j u hu=> ?_⟩
  have hF:=flat_get hf xs k x j u hk hu
  rw [← ht] at hF
  have hlt:=(List.getElem?_eq_some_iff.1 hF).1
  rw [List.getElem?_take_of_lt (by rw [List.length_take] at hlt; omega)] at hF
  exact bL hg2 (by rw [← hF]; simp)
theorem jd.news (hf: ∀x,(f x).length=m) (h:jd f m I ty B H w v xs) {g n cap:Nat} (hv:v= .slice (some ⟨g,0,none⟩) n cap): ∀j u,(xs.flatMap f)[j]? =some u→w.cell? ((⟨g,0,none⟩:Addr).add j)=some u:=by
 intro j u hu
 rcases h.own.2 with ⟨h1,h3⟩ | ⟨g',cap',cur,h1,hB,hg,hc,-,hs,ht⟩
 ·rw [hv] at h1; cases h1
 ·rw [hv] at h1; injection h1 with e1 e2 e3; injection e1 with e1; injection e1 with e1; subst e1
  rw [← ht] at hu
  have hlt:=(List.getElem?_eq_some_iff.1 hu).1
  rw [List.getElem?_take_of_lt (by rw [List.length_take] at hlt; omega)] at hu
  have:w.cell? ⟨g,j,none⟩=some u:=bL hg (by rw [← hu]; simp)
  rcases Nat.eq_zero_or_pos j with rfl | hj
  ·simpa [Addr.add] using this
  ·simpa [Addr.add,Nat.ne_of_gt hj] using this
end
namespace Md
abbrev qy (B:Nat) (H:Option Nat) (w:World) (v:Value) (l:List aD):Prop:=jd aD.f 11 aD.I 42 B H w v l
theorem qy.says {B:Nat} {H:Option Nat} {w:World} {v:Value} {l:List aD} (h:qy B H w v l) (hok: ∀x ∈ l,ko x.h x.b x.e): ∃ao cap,v= .slice ao (aN l).len cap∧fJ B (tL H) w (fun w2=>(aN l).At w2 w2.heap.size ao 0):=by
 obtain ⟨ao,cap,e⟩:=h.len
 refine ⟨ao,cap,by rw [e,jK],fun w2 h2=> ?_⟩
 obtain ⟨hI,jO,cap',e',-,hc⟩:=h.cells pQ w2 h2
 rw [e] at e'; injection e' with e1 e2 e3; subst e1
 exact wY l 0 (fun x hx=>⟨hok x hx,hI x hx⟩) (fun i x hx=>by
  obtain ⟨g,h1,-,h3,h4⟩:=hc i x hx
  exact ⟨g,h1,h3,fun j u hu=>by rw [Nat.zero_add]; exact h4 j u hu⟩)
abbrev yH (B:Nat) (H:Option Nat) (w:World) (v:Value) (l:List bU):Prop:=jd bU.f 4 bU.I 35 B H w v l
theorem yH.says {B:Nat} {H:Option Nat} {w:World} {v:Value} {l:List bU} (h:yH B H w v l) (hok: ∀x ∈ l,x.t.Ok∧x.t.bH.length≤x.gy): ∃ao cap,v= .slice ao (l.map (·.t)).length cap∧l.length≤cap∧fJ B (tL H) w (fun w2=>iy w2 w2.heap.size (l.map (·.t)) ao 0):=by
 obtain ⟨-,ao,cap,e,hl,-⟩:=h.cells jL w (jT.refl _ _ _)
 refine ⟨ao,cap,by rw [e,List.length_map],hl,fun w2 h2=> ?_⟩
 obtain ⟨hI,jO,cap',e',-,hc⟩:=h.cells jL w2 h2
 rw [e] at e'; injection e' with e1 e2 e3; subst e1
 exact Cv l 0 (fun x hx=>⟨hok x hx,hI x hx⟩) (fun i x hx=>by
  obtain ⟨g,h1,-,h3,h4⟩:=hc i x hx
  exact ⟨g,h1,h3,fun j u hu=>by rw [Nat.zero_add]; exact h4 j u hu⟩)
end Md
end Go.Proofs.YtnknfoibmgphnaaDoor
end
section
set_option linter.unusedSimpArgs false
set_option linter.unusedVariables false
namespace Go.Proofs.YtnknfoibmgphnaaDoor
open Go.RowKit
open Md
structure cZ (w:World) (T:Tp) (H:Option Nat) (hs:List ByteArray):Prop where
 tape:kP w T
 rY: ∃(th left:Int) (a b c d:Bool) (vH:Value),aX left∧w.heap[T.bm]? =some (.cells #[.pointer (some ⟨T.bt,0,none⟩),.int .i64 th,.int .i64 left,.bool a,.bool b,.bool c,.bool d,vH] 49 (0,0))∧vH.ownBlock=H∧qF T.B0 w vH hs
 nt:H≠some T.bt
 nm:H≠some T.bm
 ok: ∀x ∈ hs,x.size≤maxLen
 few:hs.length≤1000
structure Mm (T:Tp) (H:Option Nat) (w w':World):Prop where
 os:w'.os=w.os
 tape:w'.tape=w.tape
 output:w'.output=w.output
 size:w.heap.size≤w'.heap.size
 block: ∀k,k < w.heap.size→k≠T.bt→k≠T.bm→H≠some k→w'.heap[k]? =w.heap[k]?
section
variable {T:Tp} {H H1:Option Nat} {hs:List ByteArray} {w w' w1 w2:World}
theorem Mm.refl (T:Tp) (H:Option Nat) (w:World):Mm T H w w:=⟨rfl,rfl,rfl,Nat.le_refl _,fun _ _ _ _ _=>rfl⟩
theorem Mm.trans (h:Mm T H w w1) (hH:Hx w H H1) (k:Mm T H1 w1 w2):Mm T H w w2:=
 ⟨k.os.trans h.os,k.tape.trans h.tape,k.output.trans h.output,Nat.le_trans h.size k.size,fun j hj h1 h2 h3=>(k.block j (Nat.lt_of_lt_of_le hj h.size) h1 h2 (fun e=>h3 (hH.old hj e))).trans (h.block j hj h1 h2 h3)⟩
theorem Mm.of_below (h:Below w.heap.size w w'):Mm T H w w':=⟨h.os,h.tape,h.output,h.size,fun k hk _ _ _=>h.block k hk⟩
theorem Mm.RZ (h:w.grownBy w' (some T.bt)):Mm T H w w':=⟨h.os,h.tape,h.output,h.size,fun k hk h1 _ _=>h.block k hk (by simp; exact h1)⟩
theorem Mm.PE (h:w.grownBy w' (some T.bm)):Mm T H w w':=⟨h.os,h.tape,h.output,h.size,fun k hk _ h1 _=>h.block k hk (by simp; exact h1)⟩
theorem Mm.SS (h:w.grownBy w' H):Mm T H w w':=⟨h.os,h.tape,h.output,h.size,fun k hk _ _ h1=>h.block k hk (fun e=>h1 e.symm)⟩
theorem Mm.then_ (h:Mm T H w w1) (hb:Below w.heap.size w1 w2) (hs:w1.heap.size≤w2.heap.size):Mm T H w w2:=
 ⟨hb.os.trans h.os,hb.tape.trans h.tape,hb.output.trans h.output,Nat.le_trans h.size hs,fun k hk h1 h2 h3=>(hb.block k hk).trans (h.block k hk h1 h2 h3)⟩
theorem Mm.set (h:Mm T H w w') (a:Addr) (v:Value) (hb:w.heap.size≤a.block):Mm T H w (w'.setCell a v):=
 ⟨h.os,h.tape,h.output,by have:=h.size; simpa [World.setCell] using this,fun k hk h1 h2 h3=>(aO w' a v rfl (by omega)).trans (h.block k hk h1 h2 h3)⟩
theorem Mm.xX {B:Nat} (h:Mm T H w w') (ht:T.bt < B) (hm:T.bm < B):jT B (tL H) w w':=⟨h.size,fun k h1 h2 h3=>h.block k h3 (by omega) (by omega) h2⟩
theorem Mm.keep (h:Mm T H w w') {k:Nat} {o:Obj} (hk:w.heap[k]? =some o) (h1:k≠T.bt) (h2:k≠T.bm) (h3:H≠some k):w'.heap[k]? =some o:=
 (h.block k (Array.getElem?_eq_some_iff.1 hk).1 h1 h2 h3).trans hk
theorem cZ.lt (h:cZ w T H hs):T.bm < w.heap.size:=by obtain ⟨_,_,_,_,_,_,_,_,h,_⟩:=h.rY; exact (Array.getElem?_eq_some_iff.1 h).1
theorem cZ.hlt (h:cZ w T H hs): ∀k,H=some k→T.B0≤k∧k < w.heap.size:=by
 obtain ⟨-,-,-,-,-,-,vH,-,-,rfl,hg⟩:=h.rY
 exact hg.lt
theorem cZ.hlt' (h:cZ w T H hs): ∀k,H=some k→k < w.heap.size:=fun k e=>(h.hlt k e).2
theorem cZ.ptr (h:cZ w T H hs):w.cell? ⟨T.bm,0,none⟩=some (.pointer (some ⟨T.bt,0,none⟩)):=by
 obtain ⟨_,_,_,_,_,_,_,_,k,_⟩:=h.rY
 exact (aV k (j:=0) rfl).2
theorem cZ.same (h:cZ w T H hs) (ho:w.heap.size≤w'.heap.size) (hb:Below T.B0 w w') (ht:w'.heap[T.bt]? =w.heap[T.bt]?) (hm:w'.heap[T.bm]? =w.heap[T.bm]?) (hh: ∀k,H=some k→w'.heap[k]? =w.heap[k]?):cZ w' T H hs:=by
 obtain ⟨x,k1,k2⟩:=h.tape.blk
 obtain ⟨th,left,a,b,c,d,vH,k3,k4,k5,k6⟩:=h.rY
 refine ⟨⟨⟨x,k1,ht.trans k2⟩,h.tape.BF.below hb,h.tape.len⟩,⟨th,left,a,b,c,d,vH,k3,hm.trans k4,k5,⟨k6.own.1,?_⟩,fun _ _ _ _=>trivial⟩,h.nt,h.nm,h.ok,h.few⟩
 rcases k6.own.2 with h1 | ⟨g,cap,cur,h1,h2,h3,h4⟩
 ·exact .inl h1
 ·exact .inr ⟨g,cap,cur,h1,h2,(hh g (by rw [← k5,h1]; rfl)).trans h3,h4⟩
theorem cZ.below (h:cZ w T H hs) (hb:Below w.heap.size w w'):cZ w' T H hs:=
 h.same hb.size (hb.mono h.tape.b0) (hb.block _ h.tape.lt) (hb.block _ h.lt) (fun k e=>hb.block _ (h.hlt k e).2)
theorem cZ.set (h:cZ w T H hs) (a:Addr) (v:Value) (h0:T.B0≤a.block) (h1:a.block≠T.bt) (h2:a.block≠T.bm) (h3:H≠some a.block):cZ (w.setCell a v) T H hs:=
 h.same (by simp [World.setCell]) (fC (dY w a v) h0 h.tape.b0) (aO w a v rfl h1) (aO w a v rfl h2) (fun k e=>aO w a v rfl (fun e'=>h3 (by rw [e',e])))
theorem cZ.grown (h:cZ w T H hs) {g:Option Nat} (hg:w.grownBy w' g) (h0: ∀k,g=some k→T.B0≤k∧k≠T.bt∧k≠T.bm∧H≠some k):cZ w' T H hs:=
 h.same hg.size ⟨hg.os,hg.tape,hg.output,hg.size,fun k hk=>hg.block k (Nat.lt_of_lt_of_le hk h.tape.b0) (fun e=>by have:=(h0 k e.symm).1; omega)⟩ (hg.block _ h.tape.lt (fun e=>(h0 _ e.symm).2.1 rfl)) (hg.block _ h.lt (fun e=>(h0 _ e.symm).2.2.1 rfl)) (fun k e=>hg.block _ (h.hlt k e).2 (fun e'=>(h0 k e'.symm).2.2.2 e))
def TF (T:Tp) (w w':World):Prop:=w.grownBy w' (some T.bt)
theorem TF.refl (T:Tp) (w:World):TF T w w:=Gh (Below.refl _ _)
theorem TF.trans (h:TF T w w1) (k:TF T w1 w2):TF T w w2:=zY h k
theorem TF.of_below (h:Below w.heap.size w w'):TF T w w':=Gh h
theorem TF.Cm {B:Nat} (h:TF T w w') (ht:T.bt < B):mI B w w':=⟨h.size,fun k h1 h2=>h.block k h2 (by simp; omega)⟩
theorem TF.mm (h:TF T w w'):Mm T H w w':=Mm.RZ h
theorem TF.keep (h:TF T w w') {k:Nat} {o:Obj} (hk:w.heap[k]? =some o) (h1:k≠T.bt):w'.heap[k]? =some o:=(h.block k (Array.getElem?_eq_some_iff.1 hk).1 (by simp; exact h1)).trans hk
theorem TF.set (h:TF T w w') (a:Addr) (v:Value) (hb:w.heap.size≤a.block):TF T w (w'.setCell a v):=
 ⟨h.os,h.tape,h.output,by have:=h.size; simpa [World.setCell] using this,fun k hk h1=>(aO w' a v rfl (by omega)).trans (h.block k hk h1)⟩
def MP (T:Tp) (H:Option Nat) (hs:List ByteArray) (n:Int) (w:World) (e:Ending) (w':World):Prop:= ∃r:Nat,e= .returned (.int .i64 r)∧(0 < n→(r:Int) < n)∧r≤255∧TF T w w'∧cZ w' T H hs
theorem jk (T:Tp) (H:Option Nat) (hs:List ByteArray) (n:Int) (w:World) (hn:aX n) (hI:cZ w T H hs):
 Calls Tryd.prog 8 #[.pointer (some ⟨T.bt,0,none⟩),.int .i64 n] w (MP T H hs n w):=
 (K9 T n w hn hI.tape).mono fun e w' ⟨r,h1,h2,h3,h4,h5,h6⟩=>by
  obtain ⟨r,rfl⟩:=Int.eq_ofNat_of_zero_le h2
  refine ⟨r,h1,h3,by omega,h5,h6,?_,hI.nt,hI.nm,hI.ok,hI.few⟩
  obtain ⟨th,left,a,b,c,d,vH,k3,k4,k5,k6⟩:=hI.rY
  refine ⟨th,left,a,b,c,d,vH,k3,(h5.block _ hI.lt (by simp; exact T.tm.symm)).trans k4,k5,⟨k6.own.1,?_⟩,fun _ _ _ _=>trivial⟩
  rcases k6.own.2 with h1 | ⟨g,cap,cur,h1,h2,h3,h4⟩
  ·exact .inl h1
  ·exact .inr ⟨g,cap,cur,h1,h2,(h5.block g (Array.getElem?_eq_some_iff.1 h3).1 (by intro e; injection e with e; exact hI.nt (by rw [← k5,h1,← e]; rfl))).trans h3,h4⟩
structure Old (T:Tp) (H:Option Nat) (B:Nat):Prop where
 t:T.bt < B
 m:T.bm < B
 z:T.B0≤B
 h: ∀k,H=some k→k < B
theorem cZ.old (h:cZ w T H hs):Old T H w.heap.size:=⟨h.tape.lt,h.lt,h.tape.b0,h.hlt'⟩
theorem Old.mono {B B':Nat} (h:Old T H B) (hB:B≤B'):Old T H B':=⟨Nat.lt_of_lt_of_le h.t hB,Nat.lt_of_lt_of_le h.m hB,Nat.le_trans h.z hB,fun k e=>Nat.lt_of_lt_of_le (h.h k e) hB⟩
theorem cZ.Gm {B:Nat} (h:cZ w T H hs) (ho:Old T H B) (a:Addr) (v:Value) (hb:B≤a.block):cZ (w.setCell a v) T H hs:=
 h.set a v (Nat.le_trans ho.z hb) (fun e=>absurd ho.t (by omega)) (fun e=>absurd ho.m (by omega)) (fun e=>absurd (ho.h _ e) (by omega))
theorem cZ.left (h:cZ w T H hs) {m:Int} (hm:aX m):cZ (w.setCell ⟨T.bm,2,none⟩ (.int .i64 m)) T H hs:=by
 obtain ⟨x,k1,k2⟩:=h.tape.blk
 obtain ⟨th,left,a,b,c,d,vH,k3,k4,k5,k6⟩:=h.rY
 refine ⟨⟨⟨x,k1,(aO w _ _ rfl T.tm.symm).trans k2⟩,h.tape.BF.below (fC (dY w _ _) T.m0 h.tape.b0),h.tape.len⟩,⟨th,m,a,b,c,d,vH,hm,by rw [dN k4]; rfl,k5,⟨k6.own.1,?_⟩,fun _ _ _ _=>trivial⟩,h.nt,h.nm,h.ok,h.few⟩
 rcases k6.own.2 with h1 | ⟨g,cap,cur,h1,h2,h3,h4⟩
 ·exact .inl h1
 ·exact .inr ⟨g,cap,cur,h1,h2,(aO w _ _ rfl (by intro e; exact h.nm (by rw [← k5,h1,← e]; rfl))).trans h3,h4⟩
theorem cZ.th (h:cZ w T H hs) (m:Int):cZ (w.setCell ⟨T.bm,1,none⟩ (.int .i64 m)) T H hs:=by
 obtain ⟨x,k1,k2⟩:=h.tape.blk
 obtain ⟨th,left,a,b,c,d,vH,k3,k4,k5,k6⟩:=h.rY
 refine ⟨⟨⟨x,k1,(aO w _ _ rfl T.tm.symm).trans k2⟩,h.tape.BF.below (fC (dY w _ _) T.m0 h.tape.b0),h.tape.len⟩,⟨m,left,a,b,c,d,vH,k3,by rw [dN k4]; rfl,k5,⟨k6.own.1,?_⟩,fun _ _ _ _=>trivial⟩,h.nt,h.nm,h.ok,h.few⟩
 rcases k6.own.2 with h1 | ⟨g,cap,cur,h1,h2,h3,h4⟩
 ·exact .inl h1
 ·exact .inr ⟨g,cap,cur,h1,h2,(aO w _ _ rfl (by intro e; exact h.nm (by rw [← k5,h1,← e]; rfl))).trans h3,h4⟩
theorem cZ.flag (h:cZ w T H hs) (j:Nat) (hj:j=3∨j=4∨j=5∨j=6) (q:Bool):cZ (w.setCell ⟨T.bm,j,none⟩ (.bool q)) T H hs:=by
 obtain ⟨x,k1,k2⟩:=h.tape.blk
 obtain ⟨th,left,a,b,c,d,vH,k3,k4,k5,k6⟩:=h.rY
 have hrow:qF T.B0 (w.setCell ⟨T.bm,j,none⟩ (.bool q)) vH hs:=by
  refine ⟨⟨k6.own.1,?_⟩,fun _ _ _ _=>trivial⟩
  rcases k6.own.2 with h1 | ⟨g,cap,cur,h1,h2,h3,h4⟩
  ·exact .inl h1
  ·exact .inr ⟨g,cap,cur,h1,h2,(aO w _ _ rfl (by intro e; exact h.nm (by rw [← k5,h1,← e]; rfl))).trans h3,h4⟩
 have Cz:kP (w.setCell ⟨T.bm,j,none⟩ (.bool q)) T:=⟨⟨x,k1,(aO w _ _ rfl T.tm.symm).trans k2⟩,h.tape.BF.below (fC (dY w _ _) T.m0 h.tape.b0),h.tape.len⟩
 rcases hj with rfl | rfl | rfl | rfl
 ·exact ⟨Cz,⟨th,left,q,b,c,d,vH,k3,by rw [dN k4]; rfl,k5,hrow⟩,h.nt,h.nm,h.ok,h.few⟩
 ·exact ⟨Cz,⟨th,left,a,q,c,d,vH,k3,by rw [dN k4]; rfl,k5,hrow⟩,h.nt,h.nm,h.ok,h.few⟩
 ·exact ⟨Cz,⟨th,left,a,b,q,d,vH,k3,by rw [dN k4]; rfl,k5,hrow⟩,h.nt,h.nm,h.ok,h.few⟩
 ·exact ⟨Cz,⟨th,left,a,b,c,q,vH,k3,by rw [dN k4]; rfl,k5,hrow⟩,h.nt,h.nm,h.ok,h.few⟩
theorem Mm.mJ (h:Mm T H w w') (hH:Hx w H H1) (j:Nat) (v:Value):Mm T H w (w'.setCell ⟨T.bm,j,none⟩ v):=h.trans (Hx.refl _ _) ((Mm.PE (dY w' ⟨T.bm,j,none⟩ v)))
theorem cZ.reads (h:cZ w T H hs): ∃(th left:Int) (a b c d:Bool) (vH:Value),aX left∧w.cell? ⟨T.bm,0,none⟩=some (.pointer (some ⟨T.bt,0,none⟩))∧w.cell? ⟨T.bm,1,none⟩=some (.int .i64 th)∧w.cell? ⟨T.bm,2,none⟩=some (.int .i64 left)∧w.cell? ⟨T.bm,3,none⟩=some (.bool a)∧w.cell? ⟨T.bm,4,none⟩=some (.bool b)∧w.cell? ⟨T.bm,5,none⟩=some (.bool c)∧w.cell? ⟨T.bm,6,none⟩=some (.bool d)∧w.cell? ⟨T.bm,7,none⟩=some vH∧(∀j,w.frozen? ⟨T.bm,j,none⟩=false)∧vH.ownBlock=H∧qF T.B0 w vH hs:=by
 obtain ⟨th,left,a,b,c,d,vH,k3,k4,k5,k6⟩:=h.rY
 exact ⟨th,left,a,b,c,d,vH,k3,(aV k4 (j:=0) rfl).2,(aV k4 (j:=1) rfl).2,(aV k4 (j:=2) rfl).2,(aV k4 (j:=3) rfl).2,(aV k4 (j:=4) rfl).2,(aV k4 (j:=5) rfl).2,(aV k4 (j:=6) rfl).2,(aV k4 (j:=7) rfl).2,fun j=>dH k4,k5,k6⟩
theorem cZ.held {H':Option Nat} {hs':List ByteArray} {vH:Value} (h:cZ w T H hs) (hw:w'=w1.setCell ⟨T.bm,7,none⟩ vH) (hg:w.grownBy w1 H) (hv:vH.ownBlock=H') (hH:Hx w H H') (hrow:qF T.B0 w1 vH hs') (hok: ∀x ∈ hs',x.size≤maxLen) (jh:hs'.length≤1000):cZ w' T H' hs'∧Mm T H w w':=by
 subst hw
 obtain ⟨x,k1,k2⟩:=h.tape.blk
 obtain ⟨th,left,a,b,c,d,Vo,k3,k4,k5,k6⟩:=h.rY
 have h4:=(hg.block _ h.lt (fun e=>h.nm e.symm)).trans k4
 have h2:=(hg.block _ h.tape.lt (fun e=>h.nt e.symm)).trans k2
 have hb:Below T.B0 w w1:=⟨hg.os,hg.tape,hg.output,hg.size,fun k hk=>hg.block k (Nat.lt_of_lt_of_le hk h.tape.b0) (fun e=>by have:=(h.hlt k e.symm).1; omega)⟩
 have n1:H'≠some T.bt:=by
  rcases hH with rfl | ⟨b,rfl,hb⟩
  ·exact h.nt
  ·intro e; injection e with e; have:=h.tape.lt; omega
 have n2:H'≠some T.bm:=by
  rcases hH with rfl | ⟨b,rfl,hb⟩
  ·exact h.nm
  ·intro e; injection e with e; have:=h.lt; omega
 refine ⟨⟨⟨⟨x,k1,(aO w1 _ _ rfl T.tm.symm).trans h2⟩,(h.tape.BF.below hb).below (fC (dY w1 _ _) T.m0 (Nat.le_trans h.tape.b0 hg.size)),h.tape.len⟩,⟨th,left,a,b,c,d,vH,k3,by rw [dN h4]; rfl,hv,⟨hrow.own.1,?_⟩,fun _ _ _ _=>trivial⟩,n1,n2,hok,jh⟩,(Mm.SS hg).trans (Hx.refl _ _) (Mm.PE (dY w1 ⟨T.bm,7,none⟩ vH))⟩
 rcases hrow.own.2 with h1 | ⟨g,cap,cur,h1,h2,h3,h4⟩
 ·exact .inl h1
 ·exact .inr ⟨g,cap,cur,h1,h2,(aO w1 _ _ rfl (by intro e; exact n2 (by rw [← hv,h1,← e]; rfl))).trans h3,h4⟩
theorem qF.pop {B:Nat} {v:Value} {x:ByteArray} {g n cap:Nat} (h:qF B w v (hs++[x])) (hv:v= .slice (some ⟨g,0,none⟩) n cap):qF B w (.slice (some ⟨g,0,none⟩) hs.length cap) hs:=by
 rcases h.own.2 with ⟨h1,-⟩ | ⟨g',cap',cur,h1,h2,h3,h4,h5,h6,h7⟩
 ·rw [hv] at h1; cases h1
 ·rw [hv] at h1; injection h1 with e1 e2 e3; injection e1 with e1; injection e1 with e1; subst e1; subst e3
  rw [List.length_append,List.length_singleton] at h4 h7
  refine ⟨⟨og qP hs,.inr ⟨g,cap,cur,rfl,h2,h3,by omega,h5,h6,?_⟩⟩,fun _ _ _ _=>trivial⟩
  have:=congrArg (List.take (hs.length * 1)) h7
  rw [List.take_take,Nat.min_eq_left (by omega),List.flatMap_append,List.take_append_of_le_length (by rw [og qP]; exact Nat.le_refl _)] at this
  rw [this]
  exact List.take_of_length_le (by rw [og qP]; exact Nat.le_refl _)
end
end Go.Proofs.YtnknfoibmgphnaaDoor
end
