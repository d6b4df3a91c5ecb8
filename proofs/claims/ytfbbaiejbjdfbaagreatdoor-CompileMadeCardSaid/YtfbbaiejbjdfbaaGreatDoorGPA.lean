/- The tape that programs are made of: contracts of Tape.Next, name and binary. And what hangs on it. -/
import Derived.Test.YtfbbaiejbjdfbaaGreatDoorGMB
import Derived.Test.YtfbbaiejbjdfbaaGreatDoorGMA
import Derived.IntWalk
import Derived.Outline
import Derived.StillTailTactics
set_option linter.unusedSimpArgs false
set_option linter.unusedVariables false
set_option maxHeartbeats 40000000
set_option maxRecDepth 1000000
namespace Go.Proofs.YtfbbaiejbjdfbaaGreatDoor
open Go.RowKit
open Md
theorem bg {w:World} {b j:Nat} {cs:Array Value} {t:TypeId} {fr:Nat × Nat} {u:Value} (h:w.heap[b]? =some (.cells cs t fr)) (hu:cs[j]? =some u):b < w.heap.size∧w.cell? ⟨b,j,none⟩=some u:=
 ⟨(Array.getElem?_eq_some_iff.1 h).1,au h hu⟩
theorem Lc {b:Nat} {w1 w2 w3:World} (h:w1.grownBy w2 (some b)) (k:w2.grownBy w3 (some b)):w1.grownBy w3 (some b):=
 ⟨k.os.trans h.os,k.tape.trans h.tape,k.output.trans h.output,Nat.le_trans h.size k.size,fun j hj hne=>(k.block j (Nat.lt_of_lt_of_le hj h.size) hne).trans (h.block j hj hne)⟩
theorem Vd {b:Nat} {w w':World} (h:Below w.heap.size w w'):w.grownBy w' (some b):=⟨h.os,h.tape,h.output,h.size,fun k hk _=>h.block k hk⟩
structure Tp where
 B0:Nat
 bt:Nat
 bm:Nat
 ao:Option Addr
 cap:Nat
 zs:List Int
 t0:B0<=bt
 m0:B0<=bm
 tm:bt≠bm
def FK (w:World) (B:Nat) (zs:List Int) (ao:Option Addr):Prop:= ∀(k:Nat) (hk:k < zs.length),∃b off,ao=some ⟨b,off,none⟩∧b < B∧w.cell? ⟨b,off + k,none⟩=some (.int .u8 zs[k])∧0<=zs[k]∧zs[k]<=255
theorem FK.below {w w':World} {B:Nat} {zs:List Int} {ao:Option Addr} (h:FK w B zs ao) (hb:Below B w w'):FK w' B zs ao:=fun k hk=>by
 obtain ⟨b,off,e,hB,hc,hz⟩:=h k hk;exact ⟨b,off,e,hB,(hb.cell hB).trans hc,hz⟩
structure pQ (w:World) (T:Tp):Prop where
 blk: ∃at':Nat,at'<=T.zs.length∧w.heap[T.bt]? =some (.cells #[.slice T.ao T.zs.length T.cap,.int .i64 at'] 56 (0,0))
 NW:FK w T.B0 T.zs T.ao
 len:T.zs.length<=9223372036854775807
theorem pQ.lt {w:World} {T:Tp} (h:pQ w T):T.bt < w.heap.size:=by obtain ⟨a,-,h⟩:=h.blk; exact (Array.getElem?_eq_some_iff.1 h).1
theorem pQ.b0 {w:World} {T:Tp} (h:pQ w T):T.B0<=w.heap.size:=by have:=h.lt; have:=T.t0; omega
def ae0 (T:Tp) (n:Int) (w:World) (e:Ending) (w':World):Prop:= ∃r:Int,e= .returned (.int .i64 r)∧0<=r∧(0 < n->r < n)∧r<=255∧w.grownBy w' (some T.bt)∧pQ w' T
theorem Ki {T:Tp} {n r:Int} {w w':World} (h0:0<=r) (h1:0 < n->r < n) (h2:r<=255) (h3:w.grownBy w' (some T.bt)) (h4:pQ w' T):ae0 T n w (.returned (.int .i64 r)) w':=⟨r,rfl,h0,h1,h2,h3,h4⟩
theorem qH {b:Nat} (w:World) (n:Nat):w.grownBy (w.drewN n) (some b):=Vd (below_drewN (Below.refl _ _) n)
theorem pQ.draws {w:World} {T:Tp} (h:pQ w T) (n:Nat):pQ (w.drewN n) T:=by
 obtain ⟨a,h1,h2⟩:=h.blk;have hb:=below_drewN (Below.refl w.heap.size w) n;exact ⟨⟨a,h1,(hb.block _ h.lt).trans h2⟩,h.NW.below (hb.mono h.b0),h.len⟩
theorem Z6 (T:Tp) (n:Int) (w:World) (hn:bS n) (hI:pQ w T):
 Calls Tryz.prog 13 #[.pointer (some ⟨T.bt,0,none⟩),.int .i64 n] w (ae0 T n w):=by
 obtain ⟨a,ha,hblk⟩:=hI.blk;have HI:=ah hI;have HB:=ah hblk;have hlen:=hI.len;obtain ⟨hn1,hn2⟩:=hn;have c0:w.cell? ⟨T.bt,0,none⟩=some (.slice T.ao T.zs.length T.cap):=(bg hblk (j:=0) rfl).2;have c1:w.cell? ⟨T.bt,1,none⟩=some (.int .i64 (a:Int)):=(bg hblk (j:=1) rfl).2;clear hI hblk;by_cases h1:T.zs.length<=a
 ·have hd:decide ((T.zs.length:Int)<=(a:Int))=true:=by rw [decide_eq_true_iff]; omega
  go_enter Tryz.func13,Tryz.ntmps13;go_wp2_with fail;go_quiet (fail);go_wp2_with fail;go_ret;exact Ki (by omega) (by omega) (by omega) (qH _ _) (HI.o.draws _)
 ·have hd:decide ((T.zs.length:Int)<=(a:Int))=false:=by rw [decide_eq_false_iff_not]; omega
  by_cases h2:n < 1
  ·have hd2:decide (n < 1)=true:=by rw [decide_eq_true_iff]; omega
   go_enter Tryz.func13,Tryz.ntmps13;go_wp2_with fail;go_quiet (fail);go_wp2_with fail;go_ret;exact Ki (by omega) (by omega) (by omega) (qH _ _) (HI.o.draws _)
  ·have hd2:decide (n < 1)=false:=by rw [decide_eq_false_iff_not]; omega
   go_enter Tryz.func13,Tryz.ntmps13;go_wp2_with fail;go_quiet (fail);generalize hW:World.drewN w _=W1;have HI1:aj (pQ W1 T):=ah (by rw [<- hW]; exact HI.o.draws _);have yV:aj (w.grownBy W1 (some T.bt)):=ah (by rw [<- hW]; exact qH _ _);have HB1:aj (W1.heap[T.bt]? =some (.cells #[.slice T.ao T.zs.length T.cap,.int .i64 (a:Int)] 56 (0,0))):=ah (by rw [<- hW]; exact ((below_drewN (Below.refl w.heap.size w) _).block _ HI.o.lt).trans HB.o);clear hW c0 c1 HI HB hd hd2;have c1:W1.cell? ⟨T.bt,1,none⟩=some (.int .i64 (a:Int)):=(bg HB1.o (j:=1) rfl).2;have f1:W1.frozen? ⟨T.bt,1,none⟩=false:=dH HB1.o;go_upto_region 4 with fail;generalize hW2:World.setCell W1 _ _=W2;have HB2:aj (W2.heap[T.bt]? =some (.cells #[.slice T.ao T.zs.length T.cap,.int .i64 ((a:Int) + 1)] 56 (0,0))):=ah (by rw [<- hW2,fT HB1.o]; rfl);have HG2:aj (W1.grownBy W2 (some T.bt)):=ah (by rw [<- hW2]; exact bL _ _ _);have Nt:aj (FK W2 T.B0 T.zs T.ao):=ah (HI1.o.NW.below (bQ HG2.o T.t0 HI1.o.b0));have HI2:aj (pQ W2 T):=ah ⟨⟨a + 1,by omega,by rw [HB2.o]; rfl⟩,Nt.o,HI1.o.len⟩;have HG:=ah (Lc yV.o HG2.o);clear hW2 c1 f1 yV HG2 HB1;have ha:a < T.zs.length:=by omega
   obtain ⟨bb,off,hao,hbb,hcell,hz0,hz1⟩:=Nt.o a ha;have c0:W2.cell? ⟨T.bt,0,none⟩=some (.slice T.ao T.zs.length T.cap):=(bg HB2.o (j:=0) rfl).2;have c1:W2.cell? ⟨T.bt,1,none⟩=some (.int .i64 ((a:Int) + 1)):=(bg HB2.o (j:=1) rfl).2;rw [hao] at c0;generalize T.zs[a]=z at *;have hw1:(a:Int) + 1 - 1=(a:Int):=by omega
   have hw2:IntKind.i64.wrap (a:Int)=(a:Int):=IntWalk.i64_in _ (by omega);have hb0:(0:Int)<=(a:Int):=by omega
   have hb1:(a:Int) < (T.zs.length:Int):=by omega
   have zH:=ah hao;clear hao HI1;go_quiet (fail);go_wp2_with fail;go_ret;have e1:=Int.emod_nonneg z (show n≠0 by omega);have e2:=Int.emod_lt_of_pos z (show 0 < n by omega);have e3:z % n<=255:=by
    by_cases hzn:z < n
    ·rw [Int.emod_eq_of_lt hz0 hzn]; exact hz1
    ·omega
   exact Ki e1 (fun _=>e2) e3 (Lc HG.o (qH _ _)) (HI2.o.draws _)
def I9:Array Value:= #[.int .i64 0,.int .i64 0,.string ⟨#[]⟩,.slice none 0 0]
theorem Mh {w:World} {b:Nat} {t:TypeId} (h:w.heap[b]? =some (.cells I9 t (0,0))):(w.cell? ⟨b,0,none⟩=some (.int .i64 0)∧w.cell? ⟨b,1,none⟩=some (.int .i64 0)∧w.cell? ⟨b,2,none⟩=some (.string ⟨#[]⟩)∧w.cell? ⟨b,3,none⟩=some (.slice none 0 0))∧(∀j,w.frozen? ⟨b,j,none⟩=false):=
 ⟨⟨(bg h (j:=0) rfl).2,(bg h (j:=1) rfl).2,(bg h (j:=2) rfl).2,(bg h (j:=3) rfl).2⟩,fun j=>dH h⟩
theorem Fa (s:ByteArray) (w:World):
 Calls Tryz.prog 55 #[.string s] w fun e w'=>e= .returned (exV 2 0 s .nil none 0)∧Below w.heap.size w w':=by
 go_enter Tryz.func55,Tryz.ntmps55;go_wp2;exact bodyPost_ret (v:=exV 2 0 s .nil none 0) (by simp [results,Tryz.results55,go_sem,exV,aZ.len]) rfl ⟨rfl,ak _ _⟩
theorem ET (op:Int) (o1 n1:Int) (m1:ByteArray) (k1:aZ) (a1:Option Addr) (c1:Nat) (o2 n2:Int) (m2:ByteArray) (k2:aZ) (a2:Option Addr) (c2:Nat) (w:World):
 Calls Tryz.prog 54 #[.int .i64 op,exV o1 n1 m1 k1 a1 c1,exV o2 n2 m2 k2 a2 c2] w fun e w'=> ∃g,e= .returned (.agg #[.int .i64 op,.int .i64 0,.string ⟨#[]⟩,.slice (some ⟨g,0,none⟩) 2 2])∧w.heap.size<=g∧w'.heap[g]? =some (.cells (TD o1 n1 m1 k1 a1 c1++TD o2 n2 m2 k2 a2 c2).toArray 66 (0,0))∧Below w.heap.size w w':=by
 unfold exV;go_enter Tryz.func54,Tryz.ntmps54;go_wp2;refine bodyPost_ret (v:= .agg #[.int .i64 op,.int .i64 0,.string ⟨#[]⟩,.slice (some ⟨w.heap.size + 1 + 1 + 1,0,none⟩) 2 2]) (by simp [results,Tryz.results54,go_sem]) rfl ⟨w.heap.size + 1 + 1 + 1,rfl,by omega,?_,?_⟩
 ·generalize hW:World.alloc (World.alloc (World.alloc w _) _) _=W;have e:W.heap.size=w.heap.size + 1 + 1 + 1:=by rw [<- hW]; simp
  rw [<- e]; exact heap_alloc_new _ _
 ·exact (((ak _ _).alloc (by simp) _).alloc (by simp; omega) _).alloc (by simp; omega) _
namespace Md
def xu:aZ->Nat
 | .nil=>0
 | .cons _ _ _ kids rest=>1 + xu kids + xu rest
theorem TW: ∀l:aZ,l.len<=xu l
 | .nil=>Nat.le_refl _
 | .cons _ _ _ k r=>by have:=TW r; rw [xu,aZ.len]; omega
def OU (op n:Int) (nm:ByteArray) (kids:aZ):Prop:=sG op n nm kids∧xu kids<=40
def wM (h:dL):Nat:=3 + xu h.aI + xu h.idx
def xE:aH->Prop
 | .nil=>True
 | .cons h b e r=>wM h<=100∧(b.len<=10∧xE b)∧(e.len<=10∧xE e)∧xE r
def SB (l:aH):Prop:=l.len<=10∧xE l
theorem sb0:SB .nil:=⟨Nat.zero_le _,trivial⟩
theorem SB.max {l:aH} (h:SB l):l.len<=maxLen:=by have:=h.1; unfold maxLen; omega
def zf (h:dL) (b e:aH):Prop:=DN h b e∧wM h<=100∧SB b∧SB e
theorem OL: ∀ {l:List aP},(∀x ∈ l,zf x.h x.b x.e)->xE (dD l)
 | [],_=>trivial
 | x ::r,h=>⟨(h x List.mem_cons_self).2.1,(h x List.mem_cons_self).2.2.1,(h x List.mem_cons_self).2.2.2,OL (fun y hy=>h y (List.mem_cons_of_mem _ hy))⟩
end Md
def nP (B:Nat) (X:Nat->Prop) (w w':World):Prop:=w.heap.size<=w'.heap.size∧ ∀k,B<=k-> ¬ X k->k < w.heap.size->w'.heap[k]? =w.heap[k]?
def gu (B:Nat) (X:Nat->Prop) (w:World) (Q:World->Prop):Prop:= ∀w',nP B X w w'->Q w'
def Bv (H:Option Nat) (k:Nat):Prop:=H=some k
def zM (g H:Option Nat) (k:Nat):Prop:=g=some k∨H=some k
def Hx (w:World) (H H':Option Nat):Prop:=H'=H∨ ∃h,H'=some h∧w.heap.size<=h
theorem Hx.refl (w:World) (H:Option Nat):Hx w H H:= .inl rfl
theorem Hx.trans {w w1:World} {H H1 H2:Option Nat} (h:Hx w H H1) (k:Hx w1 H1 H2) (hs:w.heap.size<=w1.heap.size):Hx w H H2:=by
 rcases k with rfl | ⟨b,rfl,hb⟩
 ·exact h
 ·exact .inr ⟨b,rfl,Nat.le_trans hs hb⟩
theorem Hx.old {w:World} {H H':Option Nat} (h:Hx w H H') {k:Nat} (hk:k < w.heap.size) (e:Bv H' k):Bv H k:=by
 rcases h with rfl | ⟨b,rfl,hb⟩
 ·exact e
 ·injection e with e; omega
section
variable {B B1:Nat} {X X1 X':Nat->Prop} {w w' w1:World} {Q:World->Prop}
theorem nP.refl (B:Nat) (X:Nat->Prop) (w:World):nP B X w w:=⟨Nat.le_refl _,fun _ _ _ _=>rfl⟩
theorem nP.AV (h:rT B w w'):nP B X w w':=⟨h.1,fun k h1 _ h2=>h.2 k h1 h2⟩
theorem nP.of_below (h:Below w.heap.size w w'):nP B X w w':= .AV (dB h)
theorem nP.Kk {g:Option Nat} (h:w.grownBy w' g) (hX: ∀k,B<=k->g=some k->X k):nP B X w w':=⟨h.size,fun k h1 h2 h3=>h.block k h3 (fun e=>h2 (hX k h1 e.symm))⟩
theorem nP.trans (h:nP B X w w1) (k:nP B X' w1 w') (hX: ∀k,B<=k->k < w.heap.size->X' k->X k):nP B X w w':=
 ⟨Nat.le_trans h.1 k.1,fun j h1 h2 h3=>(k.2 j h1 (fun hx=>h2 (hX j h1 h3 hx)) (Nat.lt_of_lt_of_le h3 h.1)).trans (h.2 j h1 h2 h3)⟩
theorem nP.weak (h:nP B X w w') (hB:B<=B1) (hX: ∀k,B1<=k->k < w.heap.size->X k->X1 k):nP B1 X1 w w':=⟨h.1,fun k h1 h2 h3=>h.2 k (Nat.le_trans hB h1) (fun hx=>h2 (hX k h1 h3 hx)) h3⟩
theorem gu.now (h:gu B X w Q):Q w:=h w (nP.refl _ _ _)
theorem gu.go (h:gu B X w Q) (ha:nP B X w w1) (hX: ∀k,B<=k->k < w.heap.size->X' k->X k):gu B X' w1 Q:=fun w' h'=>h w' (ha.trans h' hX)
theorem gu.weak (h:gu B1 X1 w Q) (hB:B<=B1) (hX: ∀k,B1<=k->k < w.heap.size->X k->X1 k):gu B X w Q:=fun w' h'=>h w' (h'.weak hB hX)
theorem gu.imp {Q':World->Prop} (h:gu B X w Q) (hq: ∀w,Q w->Q' w):gu B X w Q':=fun w' h'=>hq _ (h w' h')
theorem gu.iB (h:mE B1 w Q) (hB:B<=B1) (hX: ∀k,B1<=k->k < w.heap.size-> ¬ X k):gu B X w Q:=fun w' h'=>h w' ⟨h'.1,fun k h1 h2=>h'.2 k (Nat.le_trans hB h1) (hX k h1 h2) h2⟩
theorem gu.stay (h:gu B X w Q):mE B w Q:=fun w' h'=>h w' (.AV h')
end
structure kP {α:Type} (f:α->List Value) (m:Nat) (I:α->World->Prop) (ty:TypeId) (B:Nat) (H:Option Nat) (w:World) (v:Value) (xs:List α):Prop where
 own:w.ownsRow B ty m v xs.length (xs.flatMap f)
 ne: ∀k,v.ownBlock=some k->H≠some k
 stay: ∀x ∈ xs,gu B (zM v.ownBlock H) w (I x)
section
variable {α:Type} {f:α->List Value} {m:Nat} {I:α->World->Prop} {ty:TypeId} {B:Nat} {H H':Option Nat} {w w':World} {v:Value} {xs:List α}
theorem kP.nil (f:α->List Value) (m:Nat) (I:α->World->Prop) (ty:TypeId) (B:Nat) (H:Option Nat) (w:World):kP f m I ty B H w (.slice none 0 0) []:=⟨World.ownsRow_nil _ _ _ _,fun _ e=>(by cases e),fun x hx=>(by cases hx)⟩
theorem kP.lt (h:kP f m I ty B H w v xs): ∀k,v.ownBlock=some k->B<=k∧k < w.heap.size:=h.own.lt
theorem kP.len (h:kP f m I ty B H w v xs): ∃ao cap,v= .slice ao xs.length cap:=by
 rcases h.own.2 with ⟨h1,h2⟩ | ⟨g,cap,cur,h1,-⟩
 ·exact ⟨none,0,by rw [h1,h2]⟩
 ·exact ⟨_,_,h1⟩
theorem kP.next (h:kP f m I ty B H w v xs) (ha:nP B (Bv H) w w') (hH:Hx w H H'):kP f m I ty B H' w' v xs:=by
 refine ⟨⟨h.own.1,?_⟩,fun k hk e=> ?_,fun x hx=>(h.stay x hx).go (ha.weak (Nat.le_refl _) (fun k _ _ e=> .inr e)) (fun k _ h2 e=> ?_)⟩
 ·rcases h.own.2 with h1 | ⟨g,cap,cur,h1,h2,h3,h4⟩
  ·exact .inl h1
  ·exact .inr ⟨g,cap,cur,h1,h2,(ha.2 g h2 (fun e=>h.ne g (by rw [h1]; rfl) e) (Array.getElem?_eq_some_iff.1 h3).1).trans h3,h4⟩
 ·exact h.ne k hk (hH.old (h.lt k hk).2 e)
 ·rcases e with e | e
  ·exact .inl e
  ·exact .inr (hH.old h2 e)
theorem kP.ah6 {ys:List α} {g cap n:Nat} (h:kP f m I ty B H w v xs) (hy: ∀y ∈ ys,gu B (zM v.ownBlock H) w (I y)) (hn:n=xs.length + ys.length) (hown:w'.ownsRow B ty m (.slice (some ⟨g,0,none⟩) n cap) n (xs.flatMap f++ys.flatMap f)) (hg:w.grownBy w' v.ownBlock) (hmv:v.ownBlock=some g∨g=w.heap.size) (hH: ∀k,H=some k->k < w.heap.size):
 kP f m I ty B H w' (.slice (some ⟨g,0,none⟩) n cap) (xs++ys):=by
 subst hn;refine ⟨by rw [List.flatMap_append,List.length_append]; exact hown,fun k hk e=> ?_,fun y hyy=> ?_⟩
 ·have hk':g=k:=by injection hk
  subst hk';rcases hmv with hmv | rfl
  ·exact h.ne _ hmv e
  ·exact absurd (hH _ e) (Nat.lt_irrefl _)
 ·show gu B (zM (some g) H) w' (I y);have hall:gu B (zM v.ownBlock H) w (I y):=by
   rcases List.mem_append.1 hyy with h1 | h1
   ·exact h.stay y h1
   ·exact hy y h1
  refine hall.go (.Kk hg (fun k _ e=> .inl e)) (fun k _ h2 e=> ?_);rcases e with e | e
  ·injection e with e; subst e;rcases hmv with hmv | rfl
   ·exact .inl hmv
   ·exact absurd h2 (Nat.lt_irrefl _)
  ·exact .inr e
theorem kP.push {x:α} {g cap n:Nat} (h:kP f m I ty B H w v xs) (hx:gu B (zM v.ownBlock H) w (I x)) (hn:n=xs.length + 1) (hown:w'.ownsRow B ty m (.slice (some ⟨g,0,none⟩) n cap) n (xs.flatMap f++f x)) (hg:w.grownBy w' v.ownBlock) (hmv:v.ownBlock=some g∨g=w.heap.size) (hH: ∀k,H=some k->k < w.heap.size):
 kP f m I ty B H w' (.slice (some ⟨g,0,none⟩) n cap) (xs++[x]):=
 h.ah6 (ys:=[x]) (fun y hy=>by rw [List.mem_singleton.1 hy]; exact hx) hn (by rw [List.flatMap_singleton]; exact hown) hg hmv hH
theorem kP.weak {B0:Nat} (h:kP f m I ty B H w v xs) (hB:B0<=B):kP f m I ty B0 H w v xs:=by
 refine ⟨⟨h.own.1,?_⟩,h.ne,fun x hx=>(h.stay x hx).weak hB (fun _ _ _ e=>e)⟩;rcases h.own.2 with h1 | ⟨g,cap,cur,h1,h2,h3,h4⟩
 ·exact .inl h1
 ·exact .inr ⟨g,cap,cur,h1,Nat.le_trans hB h2,h3,h4⟩
theorem kP.cells (hf: ∀x,(f x).length=m) (h:kP f m I ty B H w v xs):gu B (Bv H) w (fun w2=>(∀x ∈ xs,I x w2)∧ ∃ao cap,v= .slice ao xs.length cap∧xs.length<=cap∧ ∀k x,xs[k]? =some x-> ∃g,ao=some ⟨g,0,none⟩∧B<=g∧g < w2.heap.size∧ ∀j u,(f x)[j]? =some u->w2.cell? ⟨g,k * m + j,none⟩=some u):=fun w2 h2=>by
 refine ⟨fun x hx=>(h.stay x hx) w2 (h2.weak (Nat.le_refl _) (fun _ _ _ e=> .inr e)),?_⟩;have hne:=h.ne;rcases h.own.2 with ⟨h1,h3⟩ | ⟨g,cap,cur,h1,hB,hg,hc,-,hs,ht⟩
 ·refine ⟨none,0,by rw [h1,h3],by omega,fun k x hk=> ?_⟩;have:=(List.getElem?_eq_some_iff.1 hk).1; omega
 ·refine ⟨some ⟨g,0,none⟩,cap,h1,hc,fun k x hk=>⟨g,rfl,hB,?_⟩⟩;have hg2:=(h2.2 g hB (fun e=>hne g (by rw [h1]; rfl) e) (Array.getElem?_eq_some_iff.1 hg).1).trans hg;refine ⟨(Array.getElem?_eq_some_iff.1 hg2).1,fun j u hu=> ?_⟩;have hF:=flat_get hf xs k x j u hk hu;rw [<- ht] at hF;have hlt:=(List.getElem?_eq_some_iff.1 hF).1;rw [List.getElem?_take_of_lt (by rw [List.length_take] at hlt; omega)] at hF;exact au hg2 (by rw [<- hF]; simp)
theorem kP.news (hf: ∀x,(f x).length=m) (h:kP f m I ty B H w v xs) {g n cap:Nat} (hv:v= .slice (some ⟨g,0,none⟩) n cap): ∀j u,(xs.flatMap f)[j]? =some u->w.cell? ((⟨g,0,none⟩:Addr).add j)=some u:=by
 intro j u hu;rcases h.own.2 with ⟨h1,h3⟩ | ⟨g',cap',cur,h1,hB,hg,hc,-,hs,ht⟩
 ·rw [hv] at h1; cases h1
 ·rw [hv] at h1; injection h1 with e1 e2 e3; injection e1 with e1; injection e1 with e1; subst e1;rw [<- ht] at hu;have hlt:=(List.getElem?_eq_some_iff.1 hu).1;rw [List.getElem?_take_of_lt (by rw [List.length_take] at hlt; omega)] at hu;have:w.cell? ⟨g,j,none⟩=some u:=au hg (by rw [<- hu]; simp);rcases Nat.eq_zero_or_pos j with rfl | hj
  ·simpa [Addr.add] using this
  ·simpa [Addr.add,Nat.ne_of_gt hj] using this
end
namespace Md
abbrev yP (B:Nat) (H:Option Nat) (w:World) (v:Value) (l:List aP):Prop:=kP aP.f 11 aP.I 68 B H w v l
theorem yP.says {B:Nat} {H:Option Nat} {w:World} {v:Value} {l:List aP} (h:yP B H w v l) (hok: ∀x ∈ l,zf x.h x.b x.e): ∃ao cap,v= .slice ao (dD l).len cap∧gu B (Bv H) w (fun w2=>(dD l).At w2 w2.heap.size ao 0):=by
 obtain ⟨ao,cap,e⟩:=h.len;refine ⟨ao,cap,by rw [e,sD],fun w2 h2=> ?_⟩;obtain ⟨hI,nk,cap',e',-,hc⟩:=h.cells Ap w2 h2;rw [e] at e'; injection e' with e1 e2 e3; subst e1;exact Hz l 0 (fun x hx=>⟨(hok x hx).1,hI x hx⟩) (fun i x hx=>by obtain ⟨g,h1,-,h3,h4⟩:=hc i x hx;exact ⟨g,h1,h3,fun j u hu=>by rw [Nat.zero_add]; exact h4 j u hu⟩)
abbrev Ib (B:Nat) (H:Option Nat) (w:World) (v:Value) (l:List fZ):Prop:=kP fZ.f 4 fZ.I 63 B H w v l
theorem Ib.says {B:Nat} {H:Option Nat} {w:World} {v:Value} {l:List fZ} (h:Ib B H w v l) (hok: ∀x ∈ l,x.t.Ok∧x.t.bM.length<=x.fq): ∃ao cap,v= .slice ao (l.map (·.t)).length cap∧l.length<=cap∧gu B (Bv H) w (fun w2=>iN w2 w2.heap.size (l.map (·.t)) ao 0):=by
 obtain ⟨-,ao,cap,e,hl,-⟩:=h.cells Aq w (nP.refl _ _ _);refine ⟨ao,cap,by rw [e,List.length_map],hl,fun w2 h2=> ?_⟩;obtain ⟨hI,nk,cap',e',-,hc⟩:=h.cells Aq w2 h2;rw [e] at e'; injection e' with e1 e2 e3; subst e1;exact OM l 0 (fun x hx=>⟨hok x hx,hI x hx⟩) (fun i x hx=>by obtain ⟨g,h1,-,h3,h4⟩:=hc i x hx;exact ⟨g,h1,h3,fun j u hu=>by rw [Nat.zero_add]; exact h4 j u hu⟩)
end Md
structure dM (w:World) (T:Tp) (H:Option Nat) (hs:List ByteArray):Prop where
 tape:pQ w T
 BA: ∃(th left:Int) (a b c d:Bool) (vH:Value),bS left∧w.heap[T.bm]? =some (.cells #[.pointer (some ⟨T.bt,0,none⟩),.int .i64 th,.int .i64 left,.bool a,.bool b,.bool c,.bool d,vH] 58 (0,0))∧vH.ownBlock=H∧kQ T.B0 w vH hs
 nt:H≠some T.bt
 nm:H≠some T.bm
 ok: ∀x ∈ hs,x.size<=maxLen
 few:hs.length<=1000
structure Mm (T:Tp) (H:Option Nat) (w w':World):Prop where
 os:w'.os=w.os
 tape:w'.tape=w.tape
 output:w'.output=w.output
 size:w.heap.size<=w'.heap.size
 block: ∀k,k < w.heap.size->k≠T.bt->k≠T.bm->H≠some k->w'.heap[k]? =w.heap[k]?
section
variable {T:Tp} {H H1:Option Nat} {hs:List ByteArray} {w w' w1 w2:World}
theorem Mm.refl (T:Tp) (H:Option Nat) (w:World):Mm T H w w:=⟨rfl,rfl,rfl,Nat.le_refl _,fun _ _ _ _ _=>rfl⟩
theorem Mm.trans (h:Mm T H w w1) (hH:Hx w H H1) (k:Mm T H1 w1 w2):Mm T H w w2:=
 ⟨k.os.trans h.os,k.tape.trans h.tape,k.output.trans h.output,Nat.le_trans h.size k.size,fun j hj h1 h2 h3=>(k.block j (Nat.lt_of_lt_of_le hj h.size) h1 h2 (fun e=>h3 (hH.old hj e))).trans (h.block j hj h1 h2 h3)⟩
theorem Mm.of_below (h:Below w.heap.size w w'):Mm T H w w':=⟨h.os,h.tape,h.output,h.size,fun k hk _ _ _=>h.block k hk⟩
theorem Mm.bg5 (h:w.grownBy w' (some T.bt)):Mm T H w w':=⟨h.os,h.tape,h.output,h.size,fun k hk h1 _ _=>h.block k hk (by simp; exact h1)⟩
theorem Mm.aG5 (h:w.grownBy w' (some T.bm)):Mm T H w w':=⟨h.os,h.tape,h.output,h.size,fun k hk _ h1 _=>h.block k hk (by simp; exact h1)⟩
theorem Mm.bg4 (h:w.grownBy w' H):Mm T H w w':=⟨h.os,h.tape,h.output,h.size,fun k hk _ _ h1=>h.block k hk (fun e=>h1 e.symm)⟩
theorem Mm.then_ (h:Mm T H w w1) (hb:Below w.heap.size w1 w2) (hs:w1.heap.size<=w2.heap.size):Mm T H w w2:=
 ⟨hb.os.trans h.os,hb.tape.trans h.tape,hb.output.trans h.output,Nat.le_trans h.size hs,fun k hk h1 h2 h3=>(hb.block k hk).trans (h.block k hk h1 h2 h3)⟩
theorem Mm.set (h:Mm T H w w') (a:Addr) (v:Value) (hb:w.heap.size<=a.block):Mm T H w (w'.setCell a v):=
 ⟨h.os,h.tape,h.output,by have:=h.size; simpa [World.setCell] using this,fun k hk h1 h2 h3=>(aV w' a v rfl (by omega)).trans (h.block k hk h1 h2 h3)⟩
theorem Mm.Gi {B:Nat} (h:Mm T H w w') (ht:T.bt < B) (hm:T.bm < B):nP B (Bv H) w w':=⟨h.size,fun k h1 h2 h3=>h.block k h3 (by omega) (by omega) h2⟩
theorem Mm.keep (h:Mm T H w w') {k:Nat} {o:Obj} (hk:w.heap[k]? =some o) (h1:k≠T.bt) (h2:k≠T.bm) (h3:H≠some k):w'.heap[k]? =some o:=
 (h.block k (Array.getElem?_eq_some_iff.1 hk).1 h1 h2 h3).trans hk
theorem dM.lt (h:dM w T H hs):T.bm < w.heap.size:=by obtain ⟨_,_,_,_,_,_,_,_,h,_⟩:=h.BA; exact (Array.getElem?_eq_some_iff.1 h).1
theorem dM.hlt (h:dM w T H hs): ∀k,H=some k->T.B0<=k∧k < w.heap.size:=by
 obtain ⟨-,-,-,-,-,-,vH,-,-,rfl,hg⟩:=h.BA;exact hg.lt
theorem dM.hlt' (h:dM w T H hs): ∀k,H=some k->k < w.heap.size:=fun k e=>(h.hlt k e).2
theorem dM.ptr (h:dM w T H hs):w.cell? ⟨T.bm,0,none⟩=some (.pointer (some ⟨T.bt,0,none⟩)):=by
 obtain ⟨_,_,_,_,_,_,_,_,k,_⟩:=h.BA;exact (bg k (j:=0) rfl).2
theorem dM.same (h:dM w T H hs) (ho:w.heap.size<=w'.heap.size) (hb:Below T.B0 w w') (ht:w'.heap[T.bt]? =w.heap[T.bt]?) (hm:w'.heap[T.bm]? =w.heap[T.bm]?) (hh: ∀k,H=some k->w'.heap[k]? =w.heap[k]?):dM w' T H hs:=by
 obtain ⟨x,k1,k2⟩:=h.tape.blk;obtain ⟨th,left,a,b,c,d,vH,k3,k4,k5,k6⟩:=h.BA;refine ⟨⟨⟨x,k1,ht.trans k2⟩,h.tape.NW.below hb,h.tape.len⟩,⟨th,left,a,b,c,d,vH,k3,hm.trans k4,k5,⟨k6.own.1,?_⟩,fun _ _ _ _=>trivial⟩,h.nt,h.nm,h.ok,h.few⟩;rcases k6.own.2 with h1 | ⟨g,cap,cur,h1,h2,h3,h4⟩
 ·exact .inl h1
 ·exact .inr ⟨g,cap,cur,h1,h2,(hh g (by rw [<- k5,h1]; rfl)).trans h3,h4⟩
theorem dM.below (h:dM w T H hs) (hb:Below w.heap.size w w'):dM w' T H hs:=
 h.same hb.size (hb.mono h.tape.b0) (hb.block _ h.tape.lt) (hb.block _ h.lt) (fun k e=>hb.block _ (h.hlt k e).2)
theorem dM.set (h:dM w T H hs) (a:Addr) (v:Value) (h0:T.B0<=a.block) (h1:a.block≠T.bt) (h2:a.block≠T.bm) (h3:H≠some a.block):dM (w.setCell a v) T H hs:=
 h.same (by simp [World.setCell]) (bQ (bL w a v) h0 h.tape.b0) (aV w a v rfl h1) (aV w a v rfl h2) (fun k e=>aV w a v rfl (fun e'=>h3 (by rw [e',e])))
theorem dM.grown (h:dM w T H hs) {g:Option Nat} (hg:w.grownBy w' g) (h0: ∀k,g=some k->T.B0<=k∧k≠T.bt∧k≠T.bm∧H≠some k):dM w' T H hs:=
 h.same hg.size ⟨hg.os,hg.tape,hg.output,hg.size,fun k hk=>hg.block k (Nat.lt_of_lt_of_le hk h.tape.b0) (fun e=>by have:=(h0 k e.symm).1; omega)⟩ (hg.block _ h.tape.lt (fun e=>(h0 _ e.symm).2.1 rfl)) (hg.block _ h.lt (fun e=>(h0 _ e.symm).2.2.1 rfl)) (fun k e=>hg.block _ (h.hlt k e).2 (fun e'=>(h0 k e'.symm).2.2.2 e))
def TF (T:Tp) (w w':World):Prop:=w.grownBy w' (some T.bt)
theorem TF.refl (T:Tp) (w:World):TF T w w:=Vd (Below.refl _ _)
theorem TF.trans (h:TF T w w1) (k:TF T w1 w2):TF T w w2:=Lc h k
theorem TF.of_below (h:Below w.heap.size w w'):TF T w w':=Vd h
theorem TF.NR {B:Nat} (h:TF T w w') (ht:T.bt < B):rT B w w':=⟨h.size,fun k h1 h2=>h.block k h2 (by simp; omega)⟩
theorem TF.mm (h:TF T w w'):Mm T H w w':=Mm.bg5 h
theorem TF.keep (h:TF T w w') {k:Nat} {o:Obj} (hk:w.heap[k]? =some o) (h1:k≠T.bt):w'.heap[k]? =some o:=(h.block k (Array.getElem?_eq_some_iff.1 hk).1 (by simp; exact h1)).trans hk
theorem TF.set (h:TF T w w') (a:Addr) (v:Value) (hb:w.heap.size<=a.block):TF T w (w'.setCell a v):=
 ⟨h.os,h.tape,h.output,by have:=h.size; simpa [World.setCell] using this,fun k hk h1=>(aV w' a v rfl (by omega)).trans (h.block k hk h1)⟩
def ai7 (T:Tp) (H:Option Nat) (hs:List ByteArray) (n:Int) (w:World) (e:Ending) (w':World):Prop:= ∃r:Nat,e= .returned (.int .i64 r)∧(0 < n->(r:Int) < n)∧r<=255∧TF T w w'∧dM w' T H hs
theorem lq (T:Tp) (H:Option Nat) (hs:List ByteArray) (n:Int) (w:World) (hn:bS n) (hI:dM w T H hs):
 Calls Tryz.prog 13 #[.pointer (some ⟨T.bt,0,none⟩),.int .i64 n] w (ai7 T H hs n w):=
 (Z6 T n w hn hI.tape).mono fun e w' ⟨r,h1,h2,h3,h4,h5,h6⟩=>by
  obtain ⟨r,rfl⟩:=Int.eq_ofNat_of_zero_le h2;refine ⟨r,h1,h3,by omega,h5,h6,?_,hI.nt,hI.nm,hI.ok,hI.few⟩;obtain ⟨th,left,a,b,c,d,vH,k3,k4,k5,k6⟩:=hI.BA;refine ⟨th,left,a,b,c,d,vH,k3,(h5.block _ hI.lt (by simp; exact T.tm.symm)).trans k4,k5,⟨k6.own.1,?_⟩,fun _ _ _ _=>trivial⟩;rcases k6.own.2 with h1 | ⟨g,cap,cur,h1,h2,h3,h4⟩
  ·exact .inl h1
  ·exact .inr ⟨g,cap,cur,h1,h2,(h5.block g (Array.getElem?_eq_some_iff.1 h3).1 (by intro e; injection e with e; exact hI.nt (by rw [<- k5,h1,<- e]; rfl))).trans h3,h4⟩
structure Old (T:Tp) (H:Option Nat) (B:Nat):Prop where
 t:T.bt < B
 m:T.bm < B
 z:T.B0<=B
 h: ∀k,H=some k->k < B
theorem dM.old (h:dM w T H hs):Old T H w.heap.size:=⟨h.tape.lt,h.lt,h.tape.b0,h.hlt'⟩
theorem Old.mono {B B':Nat} (h:Old T H B) (hB:B<=B'):Old T H B':=⟨Nat.lt_of_lt_of_le h.t hB,Nat.lt_of_lt_of_le h.m hB,Nat.le_trans h.z hB,fun k e=>Nat.lt_of_lt_of_le (h.h k e) hB⟩
theorem dM.VK {B:Nat} (h:dM w T H hs) (ho:Old T H B) (a:Addr) (v:Value) (hb:B<=a.block):dM (w.setCell a v) T H hs:=
 h.set a v (Nat.le_trans ho.z hb) (fun e=>absurd ho.t (by omega)) (fun e=>absurd ho.m (by omega)) (fun e=>absurd (ho.h _ e) (by omega))
theorem dM.left (h:dM w T H hs) {m:Int} (hm:bS m):dM (w.setCell ⟨T.bm,2,none⟩ (.int .i64 m)) T H hs:=by
 obtain ⟨x,k1,k2⟩:=h.tape.blk;obtain ⟨th,left,a,b,c,d,vH,k3,k4,k5,k6⟩:=h.BA;refine ⟨⟨⟨x,k1,(aV w _ _ rfl T.tm.symm).trans k2⟩,h.tape.NW.below (bQ (bL w _ _) T.m0 h.tape.b0),h.tape.len⟩,⟨th,m,a,b,c,d,vH,hm,by rw [fT k4]; rfl,k5,⟨k6.own.1,?_⟩,fun _ _ _ _=>trivial⟩,h.nt,h.nm,h.ok,h.few⟩;rcases k6.own.2 with h1 | ⟨g,cap,cur,h1,h2,h3,h4⟩
 ·exact .inl h1
 ·exact .inr ⟨g,cap,cur,h1,h2,(aV w _ _ rfl (by intro e; exact h.nm (by rw [<- k5,h1,<- e]; rfl))).trans h3,h4⟩
theorem dM.th (h:dM w T H hs) (m:Int):dM (w.setCell ⟨T.bm,1,none⟩ (.int .i64 m)) T H hs:=by
 obtain ⟨x,k1,k2⟩:=h.tape.blk;obtain ⟨th,left,a,b,c,d,vH,k3,k4,k5,k6⟩:=h.BA;refine ⟨⟨⟨x,k1,(aV w _ _ rfl T.tm.symm).trans k2⟩,h.tape.NW.below (bQ (bL w _ _) T.m0 h.tape.b0),h.tape.len⟩,⟨m,left,a,b,c,d,vH,k3,by rw [fT k4]; rfl,k5,⟨k6.own.1,?_⟩,fun _ _ _ _=>trivial⟩,h.nt,h.nm,h.ok,h.few⟩;rcases k6.own.2 with h1 | ⟨g,cap,cur,h1,h2,h3,h4⟩
 ·exact .inl h1
 ·exact .inr ⟨g,cap,cur,h1,h2,(aV w _ _ rfl (by intro e; exact h.nm (by rw [<- k5,h1,<- e]; rfl))).trans h3,h4⟩
theorem dM.flag (h:dM w T H hs) (j:Nat) (hj:j=3∨j=4∨j=5∨j=6) (q:Bool):dM (w.setCell ⟨T.bm,j,none⟩ (.bool q)) T H hs:=by
 obtain ⟨x,k1,k2⟩:=h.tape.blk;obtain ⟨th,left,a,b,c,d,vH,k3,k4,k5,k6⟩:=h.BA;have hrow:kQ T.B0 (w.setCell ⟨T.bm,j,none⟩ (.bool q)) vH hs:=by
  refine ⟨⟨k6.own.1,?_⟩,fun _ _ _ _=>trivial⟩;rcases k6.own.2 with h1 | ⟨g,cap,cur,h1,h2,h3,h4⟩
  ·exact .inl h1
  ·exact .inr ⟨g,cap,cur,h1,h2,(aV w _ _ rfl (by intro e; exact h.nm (by rw [<- k5,h1,<- e]; rfl))).trans h3,h4⟩
 have OE:pQ (w.setCell ⟨T.bm,j,none⟩ (.bool q)) T:=⟨⟨x,k1,(aV w _ _ rfl T.tm.symm).trans k2⟩,h.tape.NW.below (bQ (bL w _ _) T.m0 h.tape.b0),h.tape.len⟩;rcases hj with rfl | rfl | rfl | rfl
 ·exact ⟨OE,⟨th,left,q,b,c,d,vH,k3,by rw [fT k4]; rfl,k5,hrow⟩,h.nt,h.nm,h.ok,h.few⟩
 ·exact ⟨OE,⟨th,left,a,q,c,d,vH,k3,by rw [fT k4]; rfl,k5,hrow⟩,h.nt,h.nm,h.ok,h.few⟩
 ·exact ⟨OE,⟨th,left,a,b,q,d,vH,k3,by rw [fT k4]; rfl,k5,hrow⟩,h.nt,h.nm,h.ok,h.few⟩
 ·exact ⟨OE,⟨th,left,a,b,c,q,vH,k3,by rw [fT k4]; rfl,k5,hrow⟩,h.nt,h.nm,h.ok,h.few⟩
theorem Mm.sM (h:Mm T H w w') (hH:Hx w H H1) (j:Nat) (v:Value):Mm T H w (w'.setCell ⟨T.bm,j,none⟩ v):=h.trans (Hx.refl _ _) ((Mm.aG5 (bL w' ⟨T.bm,j,none⟩ v)))
theorem dM.reads (h:dM w T H hs): ∃(th left:Int) (a b c d:Bool) (vH:Value),bS left∧w.cell? ⟨T.bm,0,none⟩=some (.pointer (some ⟨T.bt,0,none⟩))∧w.cell? ⟨T.bm,1,none⟩=some (.int .i64 th)∧w.cell? ⟨T.bm,2,none⟩=some (.int .i64 left)∧w.cell? ⟨T.bm,3,none⟩=some (.bool a)∧w.cell? ⟨T.bm,4,none⟩=some (.bool b)∧w.cell? ⟨T.bm,5,none⟩=some (.bool c)∧w.cell? ⟨T.bm,6,none⟩=some (.bool d)∧w.cell? ⟨T.bm,7,none⟩=some vH∧(∀j,w.frozen? ⟨T.bm,j,none⟩=false)∧vH.ownBlock=H∧kQ T.B0 w vH hs:=by
 obtain ⟨th,left,a,b,c,d,vH,k3,k4,k5,k6⟩:=h.BA;exact ⟨th,left,a,b,c,d,vH,k3,(bg k4 (j:=0) rfl).2,(bg k4 (j:=1) rfl).2,(bg k4 (j:=2) rfl).2,(bg k4 (j:=3) rfl).2,(bg k4 (j:=4) rfl).2,(bg k4 (j:=5) rfl).2,(bg k4 (j:=6) rfl).2,(bg k4 (j:=7) rfl).2,fun j=>dH k4,k5,k6⟩
theorem dM.held {H':Option Nat} {hs':List ByteArray} {vH:Value} (h:dM w T H hs) (hw:w'=w1.setCell ⟨T.bm,7,none⟩ vH) (hg:w.grownBy w1 H) (hv:vH.ownBlock=H') (hH:Hx w H H') (hrow:kQ T.B0 w1 vH hs') (hok: ∀x ∈ hs',x.size<=maxLen) (jG:hs'.length<=1000):dM w' T H' hs'∧Mm T H w w':=by
 subst hw;obtain ⟨x,k1,k2⟩:=h.tape.blk;obtain ⟨th,left,a,b,c,d,vH0,k3,k4,k5,k6⟩:=h.BA;have h4:=(hg.block _ h.lt (fun e=>h.nm e.symm)).trans k4;have h2:=(hg.block _ h.tape.lt (fun e=>h.nt e.symm)).trans k2;have hb:Below T.B0 w w1:=⟨hg.os,hg.tape,hg.output,hg.size,fun k hk=>hg.block k (Nat.lt_of_lt_of_le hk h.tape.b0) (fun e=>by have:=(h.hlt k e.symm).1; omega)⟩;have n1:H'≠some T.bt:=by
  rcases hH with rfl | ⟨b,rfl,hb⟩
  ·exact h.nt
  ·intro e; injection e with e; have:=h.tape.lt; omega
 have n2:H'≠some T.bm:=by
  rcases hH with rfl | ⟨b,rfl,hb⟩
  ·exact h.nm
  ·intro e; injection e with e; have:=h.lt; omega
 refine ⟨⟨⟨⟨x,k1,(aV w1 _ _ rfl T.tm.symm).trans h2⟩,(h.tape.NW.below hb).below (bQ (bL w1 _ _) T.m0 (Nat.le_trans h.tape.b0 hg.size)),h.tape.len⟩,⟨th,left,a,b,c,d,vH,k3,by rw [fT h4]; rfl,hv,⟨hrow.own.1,?_⟩,fun _ _ _ _=>trivial⟩,n1,n2,hok,jG⟩,(Mm.bg4 hg).trans (Hx.refl _ _) (Mm.aG5 (bL w1 ⟨T.bm,7,none⟩ vH))⟩;rcases hrow.own.2 with h1 | ⟨g,cap,cur,h1,h2,h3,h4⟩
 ·exact .inl h1
 ·exact .inr ⟨g,cap,cur,h1,h2,(aV w1 _ _ rfl (by intro e; exact n2 (by rw [<- hv,h1,<- e]; rfl))).trans h3,h4⟩
theorem kQ.pop {B:Nat} {v:Value} {x:ByteArray} {g n cap:Nat} (h:kQ B w v (hs++[x])) (hv:v= .slice (some ⟨g,0,none⟩) n cap):kQ B w (.slice (some ⟨g,0,none⟩) hs.length cap) hs:=by
 rcases h.own.2 with ⟨h1,-⟩ | ⟨g',cap',cur,h1,h2,h3,h4,h5,h6,h7⟩
 ·rw [hv] at h1; cases h1
 ·rw [hv] at h1; injection h1 with e1 e2 e3; injection e1 with e1; injection e1 with e1; subst e1; subst e3;rw [List.length_append,List.length_singleton] at h4 h7;refine ⟨⟨um Ar hs,.inr ⟨g,cap,cur,rfl,h2,h3,by omega,h5,h6,?_⟩⟩,fun _ _ _ _=>trivial⟩;have:=congrArg (List.take (hs.length * 1)) h7;rw [List.take_take,Nat.min_eq_left (by omega),List.flatMap_append,List.take_append_of_le_length (by rw [um Ar]; exact Nat.le_refl _)] at this;rw [this];exact List.take_of_length_le (by rw [um Ar]; exact Nat.le_refl _)
end
end Go.Proofs.YtfbbaiejbjdfbaaGreatDoor
