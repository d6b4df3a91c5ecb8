/-
  A statement under way, in memory; what its reading leaves. No walk in sight.
  Contracts of the reader's plainBlock, namedBlock, named, setting, getting.
  Contracts of the reader's loop, conditional, assignment.
  Contract of the reader's statement.
-/
import Derived.Test.YtehnipchbmjlhaaGreatDoorGRB
import Derived.Test.YtehnipchbmjlhaaGreatDoorGZB
import Derived.Test.YtehnipchbmjlhaaGreatDoorGMB
set_option linter.unusedSimpArgs false
set_option linter.unusedVariables false
set_option maxHeartbeats 40000000
set_option maxRecDepth 1000000
section
namespace Go.Proofs.YtehnipchbmjlhaaGreatDoor
open Go.RowKit
open Md Pz
structure Fr (br bs:Nat) (w w':World):Prop where
 os:w'.os=w.os
 tape:w'.tape=w.tape
 output:w'.output=w.output
 size:w.heap.size≤w'.heap.size
 block: ∀k,k < w.heap.size→k≠br→k≠bs→w'.heap[k]? =w.heap[k]?
section
variable {br bs:Nat} {w w1 w2 w':World}
theorem Fr.refl (br bs:Nat) (w:World):Fr br bs w w:=⟨rfl,rfl,rfl,Nat.le_refl _,fun _ _ _ _=>rfl⟩
theorem Fr.trans (h:Fr br bs w w1) (k:Fr br bs w1 w2):Fr br bs w w2:=
 ⟨k.os.trans h.os,k.tape.trans h.tape,k.output.trans h.output,Nat.le_trans h.size k.size,fun j hj h1 h2=>(k.block j (Nat.lt_of_lt_of_le hj h.size) h1 h2).trans (h.block j hj h1 h2)⟩
theorem Fr.bS (h:w.grownBy w' (some br)):Fr br bs w w':=⟨h.os,h.tape,h.output,h.size,fun k hk h1 _=>h.block k hk (by simp; exact h1)⟩
theorem Fr.set (h:Fr br bs w w') (a:Addr) (v:Value) (ha:a.block=bs∨w.heap.size≤a.block):Fr br bs w (w'.setCell a v):=
 ⟨h.os,h.tape,h.output,by have:=h.size; simpa [World.setCell] using this,fun k hk h1 h2=>(aN w' a v rfl (by omega)).trans (h.block k hk h1 h2)⟩
theorem Fr.alloc (h:Fr br bs w w') (o:Obj):Fr br bs w (w'.alloc o):=h.trans (Fr.bS (aH (ah _ _)))
theorem Fr.gr (h:Fr br bs w1 w') (hb:Below w.heap.size w w1) (hs:w.heap.size≤bs):w.grownBy w' (some br):=
 ⟨h.os.trans hb.os,h.tape.trans hb.tape,h.output.trans hb.output,Nat.le_trans hb.size h.size,fun k hk h1=>(h.block k (Nat.lt_of_lt_of_le hk hb.size) (by simpa using h1) (by omega)).trans (hb.block k hk)⟩
end
def zS:Sl:=⟨none,0,none,0,none,0,none,0⟩
structure Pm (R:Rp) (bs B:Nat) (w:World) (x:dG) (rest:ak):Prop where
 rd:aY w R rest
 lt:bs < B∧R.br < B
 ne:bs≠R.br
 b0:R.B0≤bs
 sz:B≤w.heap.size
 blk:w.heap[bs]? =some (.cells (dG.f x).toArray 89 (0,0))
 ok:mO x.h x.b x.e
 st:bJ B w (dG.I x)
section
variable {R:Rp} {bs B:Nat} {w W W':World} {x:dG} {rest rest':ak}
theorem Pm.then (h:Pm R bs B W x rest) (h1:aY W' R rest') (h2:W.grownBy W' (some R.br)):Pm R bs B W' x rest':=
 ⟨h1,h.lt,h.ne,h.b0,Nat.le_trans h.sz h2.size,(h2.block _ (Nat.lt_of_lt_of_le h.lt.1 h.sz) (by simp; exact h.ne)).trans h.blk,h.ok,h.st.next (fU h2 h.lt.2)⟩
theorem Pm.below (h:Pm R bs B W x rest) (hb:Below W.heap.size W W'):Pm R bs B W' x rest:=h.then (h.rd.below hb) (aH hb)
theorem Pm.alloc (h:Pm R bs B W x rest) (o:Obj):Pm R bs B (W.alloc o) x rest:=h.below (ah _ _)
theorem Pm.put (h:Pm R bs B W x rest) (j:Nat) (v:Value) {y:dG} (hy:(dG.f x).toArray.setIfInBounds j v=(dG.f y).toArray) (hok:mO y.h y.b y.e) (hst:bJ B W (dG.I y)):Pm R bs B (W.setCell ⟨bs,j,none⟩ v) y rest:=
 ⟨nR h.rd _ v h.b0 h.ne,h.lt,h.ne,h.b0,by have:=h.sz; simpa [World.setCell] using this,by rw [aW h.blk,hy],hok,hst.next (bH W ⟨bs,j,none⟩ v h.lt.1)⟩
theorem Pm.nm (h:Pm R bs B W x rest) (s:ByteArray) (hs:s.size≤maxLen):Pm R bs B (W.setCell ⟨bs,2,none⟩ (.string s)) ⟨{x.h with nm:=s},x.b,x.e,x.s⟩ rest:=
 h.put 2 _ rfl ⟨h.ok.1,h.ok.2.1,hs,h.ok.2.2.2⟩ h.st
theorem Pm.arg (h:Pm R bs B W x rest) (s:ByteArray) (hs:s.size≤maxLen):Pm R bs B (W.setCell ⟨bs,3,none⟩ (.string s)) ⟨{x.h with arg:=s},x.b,x.e,x.s⟩ rest:=
 h.put 3 _ rfl ⟨h.ok.1,h.ok.2.1,h.ok.2.2.1,hs,h.ok.2.2.2.2⟩ h.st
theorem Pm.op (h:Pm R bs B W x rest) (n:Int) (hn:aM n):Pm R bs B (W.setCell ⟨bs,0,none⟩ (.int .i64 n)) ⟨{x.h with op:=n},x.b,x.e,x.s⟩ rest:=
 h.put 0 _ rfl ⟨hn,h.ok.2⟩ h.st
theorem Pm.body (h:Pm R bs B W x rest) (l:aS) (ao:Option Addr) (cap:Nat) (hl:l.len≤maxLen) (hst:bJ B W (fun w2=>l.At w2 w2.heap.size ao 0)):
 Pm R bs B (W.setCell ⟨bs,9,none⟩ (.slice ao l.len cap)) ⟨x.h,l,x.e,{x.s with bC:=ao,aV:=cap}⟩ rest:=
 h.put 9 _ rfl ⟨h.ok.1,h.ok.2.1,h.ok.2.2.1,h.ok.2.2.2.1,h.ok.2.2.2.2.1,h.ok.2.2.2.2.2.1,hl,h.ok.2.2.2.2.2.2.2⟩ (fun w2 h2=>⟨(h.st w2 h2).1,(h.st w2 h2).2.1,hst w2 h2,(h.st w2 h2).2.2.2⟩)
theorem Pm.els (h:Pm R bs B W x rest) (l:aS) (ao:Option Addr) (cap:Nat) (hl:l.len≤maxLen) (hst:bJ B W (fun w2=>l.At w2 w2.heap.size ao 0)):
 Pm R bs B (W.setCell ⟨bs,10,none⟩ (.slice ao l.len cap)) ⟨x.h,x.b,l,{x.s with eZ:=ao,dL:=cap}⟩ rest:=
 h.put 10 _ rfl ⟨h.ok.1,h.ok.2.1,h.ok.2.2.1,h.ok.2.2.2.1,h.ok.2.2.2.2.1,h.ok.2.2.2.2.2.1,h.ok.2.2.2.2.2.2.1,hl⟩ (fun w2 h2=>⟨(h.st w2 h2).1,(h.st w2 h2).2.1,(h.st w2 h2).2.2.1,hst w2 h2⟩)
def zH (w:World) (b:Nat) (v0 v1 v2 v3:Value):World:=(((w.setCell ⟨b,5,none⟩ v0).setCell ⟨b,6,none⟩ v1).setCell ⟨b,7,none⟩ v2).setCell ⟨b,8,none⟩ v3
theorem Pm.ex (h:Pm R bs B W x rest) (y:E) (ao:Option Addr) (cap:Nat) (hy:jA y) (hst:bJ B W (fun w2=>y.kids.At w2 w2.heap.size ao 0)):
 Pm R bs B (zH W bs (.int .i64 y.op) (.int .i64 y.n) (.string y.nm) (.slice ao y.kids.len cap)) ⟨bf.ex x.h y,x.b,x.e,{x.s with cB:=ao,bF:=cap}⟩ rest:=by
 have ha:dO B W (zH W bs (.int .i64 y.op) (.int .i64 y.n) (.string y.nm) (.slice ao y.kids.len cap)):=by
  have x1:dO B W _:=bH W ⟨bs,5,none⟩ (.int .i64 y.op) h.lt.1
  have x2:=x1.trans (bH _ ⟨bs,6,none⟩ (.int .i64 y.n) h.lt.1)
  have x3:=x2.trans (bH _ ⟨bs,7,none⟩ (.string y.nm) h.lt.1)
  exact x3.trans (bH _ ⟨bs,8,none⟩ (.slice ao y.kids.len cap) h.lt.1)
 refine ⟨nR (nR (nR (nR h.rd _ _ h.b0 h.ne) _ _ h.b0 h.ne) _ _ h.b0 h.ne) _ _ h.b0 h.ne,h.lt,h.ne,h.b0,Nat.le_trans h.sz ha.1,?_,⟨h.ok.1,h.ok.2.1,h.ok.2.2.1,h.ok.2.2.2.1,h.ok.2.2.2.2.1,hy,h.ok.2.2.2.2.2.2⟩,?_⟩
 ·unfold zH
  rw [aW (aW (aW (aW h.blk _) _) _) _]; rfl
 ·exact fun w2 h2=>⟨(h.st w2 (ha.trans h2)).1,hst w2 (ha.trans h2),(h.st w2 (ha.trans h2)).2.2⟩
theorem Pm.Sw (h:Pm R bs B W x rest) (y:E) (ao:Option Addr) (cap:Nat) (t:TypeId) (hy:jA y∧bJ B W (fun w2=>y.kids.At w2 w2.heap.size ao 0)):
 Pm R bs B ((W.setCell ⟨bs,4,none⟩ (.slice (some ⟨W.heap.size,0,none⟩) 1 1)).alloc (.cells #[.int .i64 y.op,.int .i64 y.n,.string y.nm,.slice ao y.kids.len cap] t)) ⟨{x.h with idx:= .cons y.op y.n y.nm y.kids .nil},x.b,x.e,{x.s with fH:=some ⟨W.heap.size,0,none⟩,dW:=1}⟩ rest:=by
 have ha:dO B W (W.setCell ⟨bs,4,none⟩ (.slice (some ⟨W.heap.size,0,none⟩) 1 1)):=bH W ⟨bs,4,none⟩ _ h.lt.1
 have hs:(W.setCell ⟨bs,4,none⟩ (.slice (some ⟨W.heap.size,0,none⟩) 1 1)).heap.size=W.heap.size:=by simp [World.setCell]
 have hb:(W.setCell ⟨bs,4,none⟩ (.slice (some ⟨W.heap.size,0,none⟩) 1 1)).heap[bs]? =some (.cells (dG.f ⟨{x.h with idx:= .cons y.op y.n y.nm y.kids .nil},x.b,x.e,{x.s with fH:=some ⟨W.heap.size,0,none⟩,dW:=1}⟩).toArray 89 (0,0)):=by rw [aW h.blk]; rfl
 have hr:=nR h.rd ⟨bs,4,none⟩ (.slice (some ⟨W.heap.size,0,none⟩) 1 1) h.b0 h.ne
 have hz:=h.sz
 generalize W.setCell ⟨bs,4,none⟩ (.slice (some ⟨W.heap.size,0,none⟩) 1 1)=W1 at *
 have hst:bJ B (W1.alloc (.cells #[.int .i64 y.op,.int .i64 y.n,.string y.nm,.slice ao y.kids.len cap] t)) (fun w2=>(aZ.cons y.op y.n y.nm y.kids .nil).At w2 w2.heap.size (some ⟨W.heap.size,0,none⟩) 0):=by
  rw [← hs]
  exact oO (heap_alloc_new _ _) (by omega) hy.1 ((hy.2.next ha).next (aL (ah _ _)))
 refine ⟨oP hr _,h.lt,h.ne,h.b0,by simp; omega,(heap_alloc_old _ _ (Array.getElem?_eq_some_iff.1 hb).1).trans hb,⟨h.ok.1,h.ok.2.1,h.ok.2.2.1,h.ok.2.2.2.1,by simp [aZ.len,maxLen],h.ok.2.2.2.2.2⟩,fun w2 h2=>⟨hst w2 h2,(h.st w2 ((ha.trans (aL (ah _ _))).trans h2)).2⟩⟩
theorem Pm.cell (h:Pm R bs B W x rest) {j:Nat} {u:Value} (hu:(dG.f x).toArray[j]? =some u):W.cell? ⟨bs,j,none⟩=some u:=aj h.blk hu
theorem Pm.free (h:Pm R bs B W x rest) (j:Nat):W.frozen? ⟨bs,j,none⟩=false:=aF h.blk
end
def mK (R:Rp) (bs B:Nat) (w:World) (res:bg Sx) (e:Ending) (w':World):Prop:=
 match res with
 | .ok y r=>e= .returned (.bool true)∧(∃s,Pm R bs B w' ⟨y.h,y.b,y.e,s⟩ r)∧Fr R.br bs w w'
 | .no r=>e= .returned (.bool false)∧(∃x,Pm R bs B w' x r)∧Fr R.br bs w w'
def Fu (R:Rp) (w:World) (res:bg aS) (e:Ending) (w':World):Prop:=
 match res with
 | .ok b r=>(∃ao cap,e= .returned (.tuple #[.slice ao b.len cap,.bool true])∧b.len≤4096∧bJ w.heap.size w' (fun w2=>b.At w2 w2.heap.size ao 0))∧aY w' R r∧w.grownBy w' (some R.br)
 | .no r=>e= .returned (.tuple #[.slice none 0 0,.bool false])∧aY w' R r∧w.grownBy w' (some R.br)
def mQ (R:Rp) (f:Nat) (ts:ak):Prop:= ∀w,aY w R ts→Calls Tryz.prog 111 #[.pointer (some ⟨R.br,0,none⟩)] w (Fu R w (blk f ts))
theorem pY {R:Rp} {bs B:Nat} {w W:World} {y:Sx} {s:Sl} {r:ak} (h:Pm R bs B W ⟨y.h,y.b,y.e,s⟩ r) (hf:Fr R.br bs w W):mK R bs B w (.ok y r) (.returned (.bool true)) W:=⟨rfl,⟨s,h⟩,hf⟩
theorem iH {R:Rp} {bs B:Nat} {w W:World} {x:dG} {r:ak} (h:Pm R bs B W x r) (hf:Fr R.br bs w W):mK R bs B w (.no r) (.returned (.bool false)) W:=⟨rfl,⟨x,h⟩,hf⟩
end Go.Proofs.YtehnipchbmjlhaaGreatDoor
end
section
namespace Go.Proofs.YtehnipchbmjlhaaGreatDoor
open Go.RowKit
open Md Pz
theorem iG {R:Rp} {bs B:Nat} {w W:World} {res res':bg Sx} {e:Ending} (h:res=res') (p:mK R bs B w res' e W):mK R bs B w res e W:=h ▸ p
theorem Eb:jA ⟨0,0,⟨#[]⟩,.nil⟩:=⟨kE,kE,Nat.zero_le _,Nat.zero_le _⟩
theorem wL {B:Nat} {W:World} :bJ B W (fun w2=>(aZ.nil).At w2 w2.heap.size none 0):=fun _ _=>trivial
theorem Ke:(aS.nil).len≤maxLen:=Nat.zero_le _
theorem JR {B:Nat} {W:World} :bJ B W (fun w2=>(aS.nil).At w2 w2.heap.size none 0):=fun _ _=>trivial
theorem wS (R:Rp) (bs B f:Nat) (r:ak) (uK:Hid (mQ R f r)) (h:bf) (b0:aS) (s:Sl) (w:World) (hp:Pm R bs B w ⟨h,b0,.nil,s⟩ r):
 Calls Tryz.prog 171 #[.pointer (some ⟨R.br,0,none⟩),.pointer (some ⟨bs,0,none⟩)] w (mK R bs B w (mE f h r)):=by
 have HP:=Lib.hid hp
 have HC:=Lib.hid (uK.out w hp.rd)
 clear hp uK
 unfold mE
 generalize blk f r=res at *
 go_enter Tryz.func171,Tryz.ntmps171
 go_wp2_with fail
 refine HC.out.mono ?_
 cases res with
 | no q=>
   rintro e w1 ⟨rfl,h2,h3⟩
   have cZ:=Lib.hid (HP.out.then h2 h3)
   have HF:=Lib.hid (Fr.bS (bs:=bs) h3)
   clear h2 h3 HP
   have c9:=cZ.out.cell (j:=9) rfl
   have f9:=cZ.out.free 9
   go_wp2_with fail
   go_ret
   exact iH (cZ.out.body .nil none 0 Ke JR) (HF.out.set _ _ (.inl rfl))
 | ok b q=>
   rintro e w1 ⟨⟨ao,cap,rfl,hl,hst⟩,h2,h3⟩
   have cZ:=Lib.hid (HP.out.then h2 h3)
   have HF:=Lib.hid (Fr.bS (bs:=bs) h3)
   have HL:Hid (b.len≤maxLen):=Lib.hid (Nat.le_trans hl (by unfold maxLen; decide))
   have HS:=Lib.hid (hst.mono HP.out.sz)
   clear h2 h3 HP hl hst
   have c9:=cZ.out.cell (j:=9) rfl
   have f9:=cZ.out.free 9
   go_wp2_with fail
   go_ret
   exact pY (y:=⟨h,b,.nil⟩) (cZ.out.body b ao cap HL.out HS.out) (HF.out.set _ _ (.inl rfl))
theorem tX (R:Rp) (bs B:Nat) (r:ak) (h:bf) (s:Sl) (w:World) (hp:Pm R bs B w ⟨h,.nil,.nil,s⟩ r):
 Calls Tryz.prog 172 #[.pointer (some ⟨R.br,0,none⟩),.pointer (some ⟨bs,0,none⟩)] w (mK R bs B w (vN h r)):=by
 have HP:=Lib.hid hp
 clear hp
 cases hn:isName r
 ·have HR:Hid (vN h r= .no r):=Lib.hid (by unfold vN eO; rw [if_neg (by rw [hn]; decide)]; rfl)
  rw [HR.out]
  go_enter Tryz.func172,Tryz.ntmps172
  go_wp2_with fail
  refine (kZ R _ _ hn HP.out.rd).mono ?_
  rintro e w1 ⟨rfl,h2⟩
  have cZ:=Lib.hid (HP.out.below h2)
  have HF:=Lib.hid (Fr.bS (br:=R.br) (bs:=bs) (aH h2))
  clear h2 HP
  have c2:=cZ.out.cell (j:=2) rfl
  have f2:=cZ.out.free 2
  go_wp2_with fail
  go_ret
  exact iH (cZ.out.nm ⟨#[]⟩ (Nat.zero_le _)) (HF.out.set _ _ (.inl rfl))
 ·have eH:Hid ((tx (ay r)).size≤maxLen):=Lib.hid (mD (mq HP.out.rd.ts hn))
  have HR:Hid (vN h r=(need [59] r.tail).map fun _=>⟨{h with nm:=tx (ay r)},.nil,.nil⟩):=Lib.hid (by unfold vN eO; rw [if_pos hn]; rfl)
  rw [HR.out]
  go_enter Tryz.func172,Tryz.ntmps172
  go_wp2_with fail
  refine (jG R _ _ hn HP.out.rd).mono ?_
  rintro e w1 ⟨rfl,h2,h3⟩
  have cZ:=Lib.hid (HP.out.then h2 h3)
  have HF:=Lib.hid (Fr.bS (br:=R.br) (bs:=bs) h3)
  clear h2 h3 HP
  have c2:=cZ.out.cell (j:=2) rfl
  have f2:=cZ.out.free 2
  go_upto_region 3 with fail
  generalize hW:World.setCell w1 _ _=W
  have aU:Hid (Pm R bs B W ⟨{h with nm:=tx (ay r)},.nil,.nil,s⟩ r.tail):=Lib.hid (by rw [← hW]; exact cZ.out.nm _ eH.out)
  have fQ:Hid (Fr R.br bs w W):=Lib.hid (by rw [← hW]; exact HF.out.set _ _ (.inl rfl))
  clear hW c2 f2 cZ HF
  cases h4:at' [59] r.tail
  ·go_wp2_with fail
   refine (dJ R _ _ ⟨#[59]⟩ rfl h4 aU.out.rd).mono ?_
   rintro e w3 ⟨rfl,h2⟩
   have aT:=Lib.hid (aU.out.below h2)
   have dA:=Lib.hid (fQ.out.trans (Fr.bS (aH h2)))
   clear h2
   go_wp2_with fail
   go_ret
   exact (show need [59] r.tail= .no r.tail by unfold need; rw [if_neg (by rw [h4]; decide)]) ▸ iH aT.out dA.out
  ·go_wp2_with fail
   refine (bQ R _ _ ⟨#[59]⟩ rfl h4 aU.out.rd).mono ?_
   rintro e w3 ⟨rfl,h2,h3⟩
   have aT:=Lib.hid (aU.out.then h2 h3)
   have dA:=Lib.hid (fQ.out.trans (Fr.bS h3))
   clear h2 h3
   go_wp2_with fail
   go_ret
   exact (show need [59] r.tail= .ok () r.tail.tail by unfold need; rw [if_pos h4]) ▸ pY (y:=⟨{h with nm:=tx (ay r)},.nil,.nil⟩) aT.out dA.out
theorem nO {α:Type} {x:α} {r:ak} {y:List UInt8} (h:at' y r=true):(bg.ok x r).close y= .ok x r.tail:=by show ite _ _ _=_; rw [if_pos h]
theorem nK {α:Type} {x:α} {r:ak} {y:List UInt8} (h:at' y r=false):(bg.ok x r).close y= .no r:=by show ite _ _ _=_; rw [if_neg (by rw [h]; decide)]
theorem lK {r:ak} (h:isName r=true):eO r= .ok (tx (ay r)) r.tail:=by unfold eO; rw [if_pos h]
theorem nL {r:ak} (h:isName r=false):eO r= .no r:=by unfold eO; rw [if_neg (by rw [h]; decide)]
theorem sD (R:Rp) (bs B f:Nat) (r:ak) (uK:Hid (isName r=true→mQ R f r.tail)) (h:bf) (s:Sl) (w:World) (hp:Pm R bs B w ⟨h,.nil,.nil,s⟩ r):
 Calls Tryz.prog 170 #[.pointer (some ⟨R.br,0,none⟩),.pointer (some ⟨bs,0,none⟩)] w (mK R bs B w (sw f h r)):=by
 have HP:=Lib.hid hp
 clear hp
 cases hn:isName r
 ·have HR:Hid (sw f h r= .no r):=Lib.hid (by unfold sw; rw [nL hn]; rfl)
  rw [HR.out]
  go_enter Tryz.func170,Tryz.ntmps170
  go_wp2_with fail
  refine (kZ R _ _ hn HP.out.rd).mono ?_
  rintro e w1 ⟨rfl,h2⟩
  have cZ:=Lib.hid (HP.out.below h2)
  have HF:=Lib.hid (Fr.bS (br:=R.br) (bs:=bs) (aH h2))
  clear h2 HP
  have c2:=cZ.out.cell (j:=2) rfl
  have f2:=cZ.out.free 2
  go_wp2_with fail
  go_ret
  exact iH (cZ.out.nm ⟨#[]⟩ (Nat.zero_le _)) (HF.out.set _ _ (.inl rfl))
 ·have eH:Hid ((tx (ay r)).size≤maxLen):=Lib.hid (mD (mq HP.out.rd.ts hn))
  have HR:Hid (sw f h r=mE f {h with nm:=tx (ay r)} r.tail):=Lib.hid (by unfold sw; rw [lK hn]; rfl)
  have HC:Hid (∀W,Pm R bs B W ⟨{h with nm:=tx (ay r)},.nil,.nil,s⟩ r.tail→Calls Tryz.prog 171 #[.pointer (some ⟨R.br,0,none⟩),.pointer (some ⟨bs,0,none⟩)] W (mK R bs B W (mE f {h with nm:=tx (ay r)} r.tail))):=Lib.hid (fun W hW=>wS R bs B f r.tail (Lib.hid (uK.out hn)) _ .nil s W hW)
  rw [HR.out]
  clear HR uK
  generalize mE f {h with nm:=tx (ay r)} r.tail=res at *
  go_enter Tryz.func170,Tryz.ntmps170
  go_wp2_with fail
  refine (jG R _ _ hn HP.out.rd).mono ?_
  rintro e w1 ⟨rfl,h2,h3⟩
  have cZ:=Lib.hid (HP.out.then h2 h3)
  have HF:=Lib.hid (Fr.bS (br:=R.br) (bs:=bs) h3)
  clear h2 h3 HP
  have c2:=cZ.out.cell (j:=2) rfl
  have f2:=cZ.out.free 2
  go_upto_region 3 with fail
  generalize hW:World.setCell w1 _ _=W
  have aU:Hid (Pm R bs B W ⟨{h with nm:=tx (ay r)},.nil,.nil,s⟩ r.tail):=Lib.hid (by rw [← hW]; exact cZ.out.nm _ eH.out)
  have fQ:Hid (Fr R.br bs w W):=Lib.hid (by rw [← hW]; exact HF.out.set _ _ (.inl rfl))
  clear hW c2 f2 cZ HF
  go_wp2_with fail
  refine (HC.out _ aU.out).mono ?_
  cases res with
  | no q=>
    rintro e w3 ⟨rfl,⟨x,h2⟩,h3⟩
    have aT:=Lib.hid h2
    have dA:=Lib.hid (fQ.out.trans h3)
    clear h2 h3
    go_wp2_with fail
    go_ret
    exact iH aT.out dA.out
  | ok y q=>
    rintro e w3 ⟨rfl,⟨x,h2⟩,h3⟩
    have aT:=Lib.hid h2
    have dA:=Lib.hid (fQ.out.trans h3)
    clear h2 h3
    go_wp2_with fail
    go_ret
    exact pY aT.out dA.out
theorem KO (R:Rp) (bs B:Nat) (r:ak) (h:bf) (s:Sl) (w:World) (hp:Pm R bs B w ⟨h,.nil,.nil,s⟩ r):
 Calls Tryz.prog 173 #[.pointer (some ⟨R.br,0,none⟩),.pointer (some ⟨bs,0,none⟩)] w (mK R bs B w (Dg h r)):=by
 have HP:=Lib.hid hp
 clear hp
 cases hn:isName r
 ·have HR:Hid (Dg h r= .no r):=Lib.hid (by unfold Dg; rw [nL hn]; rfl)
  rw [HR.out]
  go_enter Tryz.func173,Tryz.ntmps173
  go_wp2_with fail
  refine (kZ R _ _ hn HP.out.rd).mono ?_
  rintro e w1 ⟨rfl,h2⟩
  have cZ:=Lib.hid (HP.out.below h2)
  have HF:=Lib.hid (Fr.bS (br:=R.br) (bs:=bs) (aH h2))
  clear h2 HP
  have c2:=cZ.out.cell (j:=2) rfl
  have f2:=cZ.out.free 2
  go_wp2_with fail
  go_ret
  exact iH (cZ.out.nm ⟨#[]⟩ (Nat.zero_le _)) (HF.out.set _ _ (.inl rfl))
 ·have eH:Hid ((tx (ay r)).size≤maxLen):=Lib.hid (mD (mq HP.out.rd.ts hn))
  have HR:Hid (Dg h r=((Pz.expr r.tail).map fun x=>(⟨bf.ex {h with nm:=tx (ay r)} x,.nil,.nil⟩:Sx)).close [59]):=Lib.hid (by unfold Dg; rw [lK hn]; rfl)
  have HC:Hid (∀W,aY W R r.tail→Calls Tryz.prog 52 #[.pointer (some ⟨R.br,0,none⟩)] W (kY R W (Pz.expr r.tail))):=Lib.hid (fun W hW=>qz R r.tail W hW)
  rw [HR.out]
  clear HR
  generalize Pz.expr r.tail=res at *
  go_enter Tryz.func173,Tryz.ntmps173
  go_wp2_with fail
  refine (jG R _ _ hn HP.out.rd).mono ?_
  rintro e w1 ⟨rfl,h2,h3⟩
  have cZ:=Lib.hid (HP.out.then h2 h3)
  have HF:=Lib.hid (Fr.bS (br:=R.br) (bs:=bs) h3)
  clear h2 h3 HP
  have c2:=cZ.out.cell (j:=2) rfl
  have f2:=cZ.out.free 2
  go_upto_region 3 with fail
  generalize hW:World.setCell w1 _ _=W
  have aU:Hid (Pm R bs B W ⟨{h with nm:=tx (ay r)},.nil,.nil,s⟩ r.tail):=Lib.hid (by rw [← hW]; exact cZ.out.nm _ eH.out)
  have fQ:Hid (Fr R.br bs w W):=Lib.hid (by rw [← hW]; exact HF.out.set _ _ (.inl rfl))
  clear hW c2 f2 cZ HF
  go_wp2_with fail
  refine (HC.out _ aU.out.rd).mono ?_
  cases res with
  | no q=>
    rintro e w3 ⟨rfl,h2,h3⟩
    have aT:=Lib.hid (aU.out.then h2 h3)
    have dA:=Lib.hid (fQ.out.trans (Fr.bS h3))
    clear h2 h3 aU fQ
    have c5:=aT.out.cell (j:=5) rfl
    have c6:=aT.out.cell (j:=6) rfl
    have c7:=aT.out.cell (j:=7) rfl
    have c8:=aT.out.cell (j:=8) rfl
    have f5:=aT.out.free 5
    have f6:=aT.out.free 6
    have f7:=aT.out.free 7
    have f8:=aT.out.free 8
    unfold zE
    go_wp2_with fail
    go_ret
    exact iH (aT.out.ex ⟨0,0,⟨#[]⟩,.nil⟩ none 0 Eb wL) ((((dA.out.set _ _ (.inl rfl)).set _ _ (.inl rfl)).set _ _ (.inl rfl)).set _ _ (.inl rfl))
  | ok x q=>
    rintro e w3 ⟨v,rfl,hv,h2,h3⟩
    have aT:=Lib.hid (aU.out.then h2 h3)
    have dA:=Lib.hid (fQ.out.trans (Fr.bS h3))
    have HV:=Lib.hid (hv.mono aU.out.sz)
    clear h2 h3 hv aU fQ
    obtain ⟨ao,cap,rfl,hok,hst⟩:=HV.out
    have HE:=Lib.hid (And.intro hok hst)
    clear hok hst HV
    have c5:=aT.out.cell (j:=5) rfl
    have c6:=aT.out.cell (j:=6) rfl
    have c7:=aT.out.cell (j:=7) rfl
    have c8:=aT.out.cell (j:=8) rfl
    have f5:=aT.out.free 5
    have f6:=aT.out.free 6
    have f7:=aT.out.free 7
    have f8:=aT.out.free 8
    unfold exV
    go_upto_region 6 with fail
    generalize hW:World.setCell (World.setCell (World.setCell (World.setCell w3 _ _) _ _) _ _) _ _=W5
    have jy:Hid (Pm R bs B W5 ⟨bf.ex {h with nm:=tx (ay r)} x,.nil,.nil,{s with cB:=ao,bF:=cap}⟩ q):=Lib.hid (by rw [← hW]; exact aT.out.ex x ao cap HE.out.1 HE.out.2)
    have rV:Hid (Fr R.br bs w W5):=Lib.hid (by rw [← hW]; exact (((dA.out.set _ _ (.inl rfl)).set _ _ (.inl rfl)).set _ _ (.inl rfl)).set _ _ (.inl rfl))
    clear hW c5 c6 c7 c8 f5 f6 f7 f8 aT dA HE
    cases h4:at' [59] q
    ·go_wp2_with fail
     refine (dJ R _ _ ⟨#[59]⟩ rfl h4 jy.out.rd).mono ?_
     rintro e w3 ⟨rfl,h2⟩
     have aT:=Lib.hid (jy.out.below h2)
     have dA:=Lib.hid (rV.out.trans (Fr.bS (aH h2)))
     clear h2
     go_wp2_with fail
     go_ret
     exact iG (nK h4) (iH aT.out dA.out)
    ·go_wp2_with fail
     refine (bQ R _ _ ⟨#[59]⟩ rfl h4 jy.out.rd).mono ?_
     rintro e w3 ⟨rfl,h2,h3⟩
     have aT:=Lib.hid (jy.out.then h2 h3)
     have dA:=Lib.hid (rV.out.trans (Fr.bS h3))
     clear h2 h3
     go_wp2_with fail
     go_ret
     exact iG (nO h4) (pY (y:=⟨bf.ex {h with nm:=tx (ay r)} x,.nil,.nil⟩) aT.out dA.out)
theorem KY (R:Rp) (bs B:Nat) (r:ak) (h:bf) (s:Sl) (w:World) (hp:Pm R bs B w ⟨h,.nil,.nil,s⟩ r):
 Calls Tryz.prog 174 #[.pointer (some ⟨R.br,0,none⟩),.pointer (some ⟨bs,0,none⟩)] w (mK R bs B w (D8 h r)):=by
 have HP:=Lib.hid hp
 clear hp
 cases hn:isName r
 ·have HR:Hid (D8 h r= .no r):=Lib.hid (by unfold D8; rw [nL hn]; rfl)
  rw [HR.out]
  go_enter Tryz.func174,Tryz.ntmps174
  go_wp2_with fail
  refine (kZ R _ _ hn HP.out.rd).mono ?_
  rintro e w1 ⟨rfl,h2⟩
  have cZ:=Lib.hid (HP.out.below h2)
  have HF:=Lib.hid (Fr.bS (br:=R.br) (bs:=bs) (aH h2))
  clear h2 HP
  have c2:=cZ.out.cell (j:=2) rfl
  have f2:=cZ.out.free 2
  go_wp2_with fail
  go_ret
  exact iH (cZ.out.nm ⟨#[]⟩ (Nat.zero_le _)) (HF.out.set _ _ (.inl rfl))
 ·have eH:Hid ((tx (ay r)).size≤maxLen):=Lib.hid (mD (mq HP.out.rd.ts hn))
  have HR:Hid (D8 h r=((eO r.tail).map fun a=>(⟨{h with nm:=tx (ay r),arg:=a},.nil,.nil⟩:Sx)).close [59]):=Lib.hid (by unfold D8; rw [lK hn]; rfl)
  rw [HR.out]
  clear HR
  cases hm:isName r.tail
  ·have HR:Hid (eO r.tail= .no r.tail):=Lib.hid (nL hm)
   rw [HR.out]
   go_enter Tryz.func174,Tryz.ntmps174
   go_wp2_with fail
   refine (jG R _ _ hn HP.out.rd).mono ?_
   rintro e w1 ⟨rfl,h2,h3⟩
   have cZ:=Lib.hid (HP.out.then h2 h3)
   have HF:=Lib.hid (Fr.bS (br:=R.br) (bs:=bs) h3)
   clear h2 h3 HP
   have c2:=cZ.out.cell (j:=2) rfl
   have f2:=cZ.out.free 2
   go_upto_region 3 with fail
   generalize hW:World.setCell w1 _ _=W
   have aU:Hid (Pm R bs B W ⟨{h with nm:=tx (ay r)},.nil,.nil,s⟩ r.tail):=Lib.hid (by rw [← hW]; exact cZ.out.nm _ eH.out)
   have fQ:Hid (Fr R.br bs w W):=Lib.hid (by rw [← hW]; exact HF.out.set _ _ (.inl rfl))
   clear hW c2 f2 cZ HF
   go_wp2_with fail
   refine (kZ R _ _ hm aU.out.rd).mono ?_
   rintro e w3 ⟨rfl,h2⟩
   have aT:=Lib.hid (aU.out.below h2)
   have dA:=Lib.hid (fQ.out.trans (Fr.bS (aH h2)))
   clear h2 aU fQ
   have c3:=aT.out.cell (j:=3) rfl
   have f3:=aT.out.free 3
   go_wp2_with fail
   go_ret
   exact iH (aT.out.arg ⟨#[]⟩ (Nat.zero_le _)) (dA.out.set _ _ (.inl rfl))
  ·have AU:Hid ((tx (ay r.tail)).size≤maxLen):=Lib.hid (mD (mq HP.out.rd.ts.tail hm))
   have HR:Hid (eO r.tail= .ok (tx (ay r.tail)) r.tail.tail):=Lib.hid (lK hm)
   rw [HR.out]
   go_enter Tryz.func174,Tryz.ntmps174
   go_wp2_with fail
   refine (jG R _ _ hn HP.out.rd).mono ?_
   rintro e w1 ⟨rfl,h2,h3⟩
   have cZ:=Lib.hid (HP.out.then h2 h3)
   have HF:=Lib.hid (Fr.bS (br:=R.br) (bs:=bs) h3)
   clear h2 h3 HP
   have c2:=cZ.out.cell (j:=2) rfl
   have f2:=cZ.out.free 2
   go_upto_region 3 with fail
   generalize hW:World.setCell w1 _ _=W
   have aU:Hid (Pm R bs B W ⟨{h with nm:=tx (ay r)},.nil,.nil,s⟩ r.tail):=Lib.hid (by rw [← hW]; exact cZ.out.nm _ eH.out)
   have fQ:Hid (Fr R.br bs w W):=Lib.hid (by rw [← hW]; exact HF.out.set _ _ (.inl rfl))
   clear hW c2 f2 cZ HF
   go_wp2_with fail
   refine (jG R _ _ hm aU.out.rd).mono ?_
   rintro e w3 ⟨rfl,h2,h3⟩
   have aT:=Lib.hid (aU.out.then h2 h3)
   have dA:=Lib.hid (fQ.out.trans (Fr.bS h3))
   clear h2 h3 aU fQ
   have c3:=aT.out.cell (j:=3) rfl
   have f3:=aT.out.free 3
   go_upto_region 6 with fail
   generalize hW:World.setCell w3 _ _=W5
   have jy:Hid (Pm R bs B W5 ⟨{h with nm:=tx (ay r),arg:=tx (ay r.tail)},.nil,.nil,s⟩ r.tail.tail):=Lib.hid (by rw [← hW]; exact aT.out.arg _ AU.out)
   have rV:Hid (Fr R.br bs w W5):=Lib.hid (by rw [← hW]; exact dA.out.set _ _ (.inl rfl))
   clear hW c3 f3 aT dA
   cases h4:at' [59] r.tail.tail
   ·go_wp2_with fail
    refine (dJ R _ _ ⟨#[59]⟩ rfl h4 jy.out.rd).mono ?_
    rintro e w3 ⟨rfl,h2⟩
    have aT:=Lib.hid (jy.out.below h2)
    have dA:=Lib.hid (rV.out.trans (Fr.bS (aH h2)))
    clear h2
    go_wp2_with fail
    go_ret
    exact iG (nK h4) (iH aT.out dA.out)
   ·go_wp2_with fail
    refine (bQ R _ _ ⟨#[59]⟩ rfl h4 jy.out.rd).mono ?_
    rintro e w3 ⟨rfl,h2,h3⟩
    have aT:=Lib.hid (jy.out.then h2 h3)
    have dA:=Lib.hid (rV.out.trans (Fr.bS h3))
    clear h2 h3
    go_wp2_with fail
    go_ret
    exact iG (nO h4) (pY (y:=⟨{h with nm:=tx (ay r),arg:=tx (ay r.tail)},.nil,.nil⟩) aT.out dA.out)
end Go.Proofs.YtehnipchbmjlhaaGreatDoor
end
section
namespace Go.Proofs.YtehnipchbmjlhaaGreatDoor
open Go.RowKit
open Md Pz
theorem K8 (R:Rp) (bs B f:Nat) (r:ak) (uK:Hid (∀q,q.length < r.length→mQ R f q)) (h:bf) (s:Sl) (w:World) (hp:Pm R bs B w ⟨h,.nil,.nil,s⟩ r):
 Calls Tryz.prog 169 #[.pointer (some ⟨R.br,0,none⟩),.pointer (some ⟨bs,0,none⟩)] w (mK R bs B w (tq f h r)):=by
 have aU:=Lib.hid hp
 have fQ:=Lib.hid (Fr.refl R.br bs w)
 clear hp
 have HC:Hid (∀W,aY W R r→Calls Tryz.prog 52 #[.pointer (some ⟨R.br,0,none⟩)] W (kY R W (Pz.expr r))):=Lib.hid (fun W hW=>qz R r W hW)
 have HB2:Hid (∀x q,Pz.expr r= .ok x q→mQ R f q):=Lib.hid (fun x q e=>uK.out q (qx e))
 clear uK
 unfold tq
 generalize Pz.expr r=res at *
 go_enter Tryz.func169,Tryz.ntmps169
 go_wp2_with fail
 refine (HC.out _ aU.out.rd).mono ?_
 cases res with
 | no q=>
   rintro e w3 ⟨rfl,h2,h3⟩
   have aT:=Lib.hid (aU.out.then h2 h3)
   have dA:=Lib.hid (fQ.out.trans (Fr.bS h3))
   clear h2 h3 aU fQ
   have c5:=aT.out.cell (j:=5) rfl
   have c6:=aT.out.cell (j:=6) rfl
   have c7:=aT.out.cell (j:=7) rfl
   have c8:=aT.out.cell (j:=8) rfl
   have f5:=aT.out.free 5
   have f6:=aT.out.free 6
   have f7:=aT.out.free 7
   have f8:=aT.out.free 8
   unfold zE
   go_wp2_with fail
   go_ret
   exact iH (aT.out.ex ⟨0,0,⟨#[]⟩,.nil⟩ none 0 Eb wL) ((((dA.out.set _ _ (.inl rfl)).set _ _ (.inl rfl)).set _ _ (.inl rfl)).set _ _ (.inl rfl))
 | ok x q=>
   have HD:Hid (∀W s,Pm R bs B W ⟨bf.ex h x,.nil,.nil,s⟩ q→Calls Tryz.prog 171 #[.pointer (some ⟨R.br,0,none⟩),.pointer (some ⟨bs,0,none⟩)] W (mK R bs B W (mE f (bf.ex h x) q))):=Lib.hid (fun W s hW=>wS R bs B f q (Lib.hid (HB2.out x q rfl)) _ .nil s W hW)
   rintro e w3 ⟨v,rfl,hv,h2,h3⟩
   have aT:=Lib.hid (aU.out.then h2 h3)
   have dA:=Lib.hid (fQ.out.trans (Fr.bS h3))
   have HV:=Lib.hid (hv.mono aU.out.sz)
   clear h2 h3 hv aU fQ
   obtain ⟨ao,cap,rfl,hok,hst⟩:=HV.out
   have HE:=Lib.hid (And.intro hok hst)
   clear hok hst HV
   have c5:=aT.out.cell (j:=5) rfl
   have c6:=aT.out.cell (j:=6) rfl
   have c7:=aT.out.cell (j:=7) rfl
   have c8:=aT.out.cell (j:=8) rfl
   have f5:=aT.out.free 5
   have f6:=aT.out.free 6
   have f7:=aT.out.free 7
   have f8:=aT.out.free 8
   unfold exV
   go_upto_region 3 with fail
   generalize hW:World.setCell (World.setCell (World.setCell (World.setCell w3 _ _) _ _) _ _) _ _=W5
   have jy:Hid (Pm R bs B W5 ⟨bf.ex h x,.nil,.nil,{s with cB:=ao,bF:=cap}⟩ q):=Lib.hid (by rw [← hW]; exact aT.out.ex x ao cap HE.out.1 HE.out.2)
   have rV:Hid (Fr R.br bs w W5):=Lib.hid (by rw [← hW]; exact (((dA.out.set _ _ (.inl rfl)).set _ _ (.inl rfl)).set _ _ (.inl rfl)).set _ _ (.inl rfl))
   clear hW c5 c6 c7 c8 f5 f6 f7 f8 aT dA HE
   clear HB2 HC
   obtain ⟨res2,HR2⟩: ∃res2,Hid (mE f (bf.ex h x) q=res2):=⟨_,Lib.hid rfl⟩
   rw [HR2.out] at HD
   go_wp2_with fail
   refine (HD.out _ _ jy.out).mono ?_
   cases res2 with
   | no q2=>
     rintro e w6 ⟨rfl,⟨x',h2⟩,h3⟩
     have iZ:=Lib.hid h2
     have uJ:=Lib.hid (rV.out.trans h3)
     clear h2 h3
     go_wp2_with fail
     go_ret
     exact iG HR2.out (iH iZ.out uJ.out)
   | ok y q2=>
     rintro e w6 ⟨rfl,⟨x',h2⟩,h3⟩
     have iZ:=Lib.hid h2
     have uJ:=Lib.hid (rV.out.trans h3)
     clear h2 h3
     go_wp2_with fail
     go_ret
     exact iG HR2.out (pY iZ.out uJ.out)
theorem PZ {f:Nat} {h:bf} {r q:ak} {y:Sx} (e:tq f h r= .ok y q):q.length < r.length∧y.e= .nil:=by
 unfold tq mE at e
 obtain ⟨x,r1,e1,e⟩:=kR e
 obtain ⟨b,e2,rfl⟩:=map_ok e
 have:=qx e1
 have:=Mh e2
 exact ⟨by omega,rfl⟩
theorem Tx (R:Rp) (bs B f:Nat) (r:ak) (uK:Hid (∀q,q.length < r.length→mQ R f q)) (h:bf) (s:Sl) (w:World) (hp:Pm R bs B w ⟨h,.nil,.nil,s⟩ r):
 Calls Tryz.prog 168 #[.pointer (some ⟨R.br,0,none⟩),.pointer (some ⟨bs,0,none⟩)] w (mK R bs B w (Hu f h r)):=by
 have HD:=Lib.hid (K8 R bs B f r uK h s w hp)
 have HL:Hid (∀y q,tq f h r= .ok y q→q.length < r.length∧y.e= .nil):=Lib.hid (fun y q e=>PZ e)
 clear hp
 unfold Hu
 generalize tq f h r=res at *
 go_enter Tryz.func168,Tryz.ntmps168
 go_wp2_with fail
 refine HD.out.mono ?_
 cases res with
 | no q=>
   rintro e w1 ⟨rfl,⟨x,h2⟩,h3⟩
   have cZ:=Lib.hid h2
   have rX:=Lib.hid h3
   clear h2 h3
   go_wp2_with fail
   go_ret
   exact iH cZ.out rX.out
 | ok y q=>
   have HLQ:=Lib.hid (HL.out y q rfl)
   clear HL HD
   rintro e w1 ⟨rfl,⟨sy,h2⟩,h3⟩
   have cZ:=Lib.hid h2
   have rX:=Lib.hid h3
   clear h2 h3
   cases h4:at' [101,108,115,101] q
   ·go_wp2_with fail
    refine (dJ R _ _ ⟨#[101,108,115,101]⟩ rfl h4 cZ.out.rd).mono ?_
    rintro e w3 ⟨rfl,h2⟩
    have aT:=Lib.hid (cZ.out.below h2)
    have dA:=Lib.hid (rX.out.trans (Fr.bS (aH h2)))
    clear h2
    go_wp2_with fail
    go_ret
    exact iG (show ite _ _ _=_ from if_neg (by rw [h4]; decide)) (pY aT.out dA.out)
   ·have HC:Hid (∀W,aY W R q.tail→Calls Tryz.prog 111 #[.pointer (some ⟨R.br,0,none⟩)] W (Fu R W (blk f q.tail))):=Lib.hid (uK.out q.tail (by have:=HLQ.out.1; have:=at_len h4; omega))
    have LA:Hid ((bg.ok y q).bind (fun y r=>if at' [101,108,115,101] r then (blk f r.tail).map fun e=>(⟨y.h,y.b,e⟩:Sx) else .ok y r)=(blk f q.tail).map fun e=>⟨y.h,y.b,e⟩):=Lib.hid (show ite _ _ _=_ from if_pos h4)
    obtain ⟨res2,HR2⟩: ∃res2,Hid (blk f q.tail=res2):=⟨_,Lib.hid rfl⟩
    rw [HR2.out] at HC LA
    clear uK HR2
    go_wp2_with fail
    refine (bQ R _ _ ⟨#[101,108,115,101]⟩ rfl h4 cZ.out.rd).mono ?_
    rintro e w3 ⟨rfl,h2,h3⟩
    have aT:=Lib.hid (cZ.out.then h2 h3)
    have dA:=Lib.hid (rX.out.trans (Fr.bS h3))
    clear h2 h3
    go_wp2_with fail
    refine (HC.out _ aT.out.rd).mono ?_
    cases res2 with
    | no q2=>
      rintro e w4 ⟨rfl,h2,h3⟩
      have dX:=Lib.hid (aT.out.then h2 h3)
      have gD:=Lib.hid (dA.out.trans (Fr.bS h3))
      clear h2 h3
      have c10:=dX.out.cell (j:=10) rfl
      have f10:=dX.out.free 10
      go_wp2_with fail
      go_ret
      exact iG LA.out (iH (dX.out.els .nil none 0 Ke JR) (gD.out.set _ _ (.inl rfl)))
    | ok b q2=>
      rintro e w4 ⟨⟨ao,cap,rfl,hl,hst⟩,h2,h3⟩
      have dX:=Lib.hid (aT.out.then h2 h3)
      have gD:=Lib.hid (dA.out.trans (Fr.bS h3))
      have HL:Hid (b.len≤maxLen):=Lib.hid (Nat.le_trans hl (by unfold maxLen; decide))
      have HS:=Lib.hid (hst.mono aT.out.sz)
      clear h2 h3 hl hst
      have c10:=dX.out.cell (j:=10) rfl
      have f10:=dX.out.free 10
      go_wp2_with fail
      go_ret
      exact iG LA.out (pY (y:=⟨y.h,y.b,b⟩) (dX.out.els b ao cap HL.out HS.out) (gD.out.set _ _ (.inl rfl)))
theorem zF {x:List UInt8} {r:ak} (h:at' x r=true):need x r= .ok () r.tail:=by unfold need; rw [if_pos h]
theorem zQ {x:List UInt8} {r:ak} (h:at' x r=false):need x r= .no r:=by unfold need; rw [if_neg (by rw [h]; decide)]
def rR (h:bf) (r:ak):bg Sx:=(need [61] r).bind fun _ r=>(((Pz.expr r).map fun x=>(⟨bf.ex h x,.nil,.nil⟩:Sx)).close [59])
theorem Vo {h:bf} {r:ak} (h1:at' [91] r=false):yu h r=rR h r:=by unfold yu; rw [if_neg (by rw [h1]; decide)]; rfl
theorem Rw {h:bf} {r:ak} (h1:at' [91] r=true):yu h r=((Pz.expr r.tail).close [93]).bind fun x r=>rR {h with idx:= .cons x.op x.n x.nm x.kids .nil} r:=by
 unfold yu; rw [if_pos h1]
 cases (Pz.expr r.tail).close [93] <;> rfl
theorem F6 (R:Rp) (bs B:Nat) (r:ak) (h:bf) (s:Sl) (w:World) (hp:Pm R bs B w ⟨h,.nil,.nil,s⟩ r):
 Calls Tryz.prog 157 #[.pointer (some ⟨R.br,0,none⟩),.pointer (some ⟨bs,0,none⟩)] w (mK R bs B w (xD h r)):=by
 have HP:=Lib.hid hp
 clear hp
 cases hn:isName r
 ·have HR:Hid (xD h r= .no r):=Lib.hid (by unfold xD; rw [nL hn]; rfl)
  rw [HR.out]
  go_enter Tryz.func157,Tryz.ntmps157
  go_wp2_with fail
  refine (kZ R _ _ hn HP.out.rd).mono ?_
  rintro e w1 ⟨rfl,h2⟩
  have cZ:=Lib.hid (HP.out.below h2)
  have HF:=Lib.hid (Fr.bS (br:=R.br) (bs:=bs) (aH h2))
  clear h2 HP
  have c2:=cZ.out.cell (j:=2) rfl
  have f2:=cZ.out.free 2
  go_wp2_with fail
  go_ret
  exact iH (cZ.out.nm ⟨#[]⟩ (Nat.zero_le _)) (HF.out.set _ _ (.inl rfl))
 ·have eH:Hid ((tx (ay r)).size≤maxLen):=Lib.hid (mD (mq HP.out.rd.ts hn))
  have HR:Hid (xD h r=yu {h with nm:=tx (ay r)} r.tail):=Lib.hid (by unfold xD; rw [lK hn]; rfl)
  rw [HR.out]
  clear HR
  cases h1:at' [91] r.tail
  ·have HR:Hid (yu {h with nm:=tx (ay r)} r.tail=rR {h with nm:=tx (ay r)} r.tail):=Lib.hid (Vo h1)
   rw [HR.out]
   clear HR
   go_enter Tryz.func157,Tryz.ntmps157
   go_wp2_with fail
   refine (jG R _ _ hn HP.out.rd).mono ?_
   rintro e w1 ⟨rfl,h2,h3⟩
   have cZ:=Lib.hid (HP.out.then h2 h3)
   have HF:=Lib.hid (Fr.bS (br:=R.br) (bs:=bs) h3)
   clear h2 h3 HP
   have c2:=cZ.out.cell (j:=2) rfl
   have f2:=cZ.out.free 2
   go_upto_region 3 with fail
   generalize hW:World.setCell w1 _ _=W
   have aU:Hid (Pm R bs B W ⟨{h with nm:=tx (ay r)},.nil,.nil,s⟩ r.tail):=Lib.hid (by rw [← hW]; exact cZ.out.nm _ eH.out)
   have fQ:Hid (Fr R.br bs w W):=Lib.hid (by rw [← hW]; exact HF.out.set _ _ (.inl rfl))
   clear hW c2 f2 cZ HF
   go_wp2_with fail
   refine (dJ R _ _ ⟨#[91]⟩ rfl h1 aU.out.rd).mono ?_
   rintro e w0 ⟨rfl,h2⟩
   have iZ:=Lib.hid (aU.out.below h2)
   have uJ:=Lib.hid (fQ.out.trans (Fr.bS (aH h2)))
   clear h2 aU fQ
   cases h5:at' [61] r.tail
   ·go_wp2_with fail
    refine (dJ R _ _ ⟨#[61]⟩ rfl h5 iZ.out.rd).mono ?_
    rintro e w7 ⟨rfl,h2⟩
    have ji:=Lib.hid (iZ.out.below h2)
    have za:=Lib.hid (uJ.out.trans (Fr.bS (aH h2)))
    clear h2
    go_wp2_with fail
    go_ret
    exact iG (show rR _ _=_ by unfold rR; rw [zQ h5]; rfl) (iH ji.out za.out)
   ·have HC:Hid (∀W,aY W R r.tail.tail→Calls Tryz.prog 52 #[.pointer (some ⟨R.br,0,none⟩)] W (kY R W (Pz.expr r.tail.tail))):=Lib.hid (fun W hW=>qz R r.tail.tail W hW)
    have HQ:Hid (rR {h with nm:=tx (ay r)} r.tail=((Pz.expr r.tail.tail).map fun x9=>(⟨bf.ex {h with nm:=tx (ay r)} x9,.nil,.nil⟩:Sx)).close [59]):=Lib.hid (by unfold rR; rw [zF h5]; rfl)
    generalize Pz.expr r.tail.tail=res at *
    go_wp2_with fail
    refine (bQ R _ _ ⟨#[61]⟩ rfl h5 iZ.out.rd).mono ?_
    rintro e w7 ⟨rfl,h2,h3⟩
    have ji:=Lib.hid (iZ.out.then h2 h3)
    have za:=Lib.hid (uJ.out.trans (Fr.bS h3))
    clear h2 h3 iZ uJ
    go_wp2_with fail
    refine (HC.out _ ji.out.rd).mono ?_
    cases res with
    | no q=>
      rintro e w3 ⟨rfl,h2,h3⟩
      have aT:=Lib.hid (ji.out.then h2 h3)
      have dA:=Lib.hid (za.out.trans (Fr.bS h3))
      clear h2 h3 ji za
      have c5:=aT.out.cell (j:=5) rfl
      have c6:=aT.out.cell (j:=6) rfl
      have c7:=aT.out.cell (j:=7) rfl
      have c8:=aT.out.cell (j:=8) rfl
      have f5:=aT.out.free 5
      have f6:=aT.out.free 6
      have f7:=aT.out.free 7
      have f8:=aT.out.free 8
      unfold zE
      go_wp2_with fail
      go_ret
      exact iG HQ.out (iH (aT.out.ex ⟨0,0,⟨#[]⟩,.nil⟩ none 0 Eb wL) ((((dA.out.set _ _ (.inl rfl)).set _ _ (.inl rfl)).set _ _ (.inl rfl)).set _ _ (.inl rfl)))
    | ok x q=>
      rintro e w3 ⟨v,rfl,hv,h2,h3⟩
      have aT:=Lib.hid (ji.out.then h2 h3)
      have dA:=Lib.hid (za.out.trans (Fr.bS h3))
      have HV:=Lib.hid (hv.mono ji.out.sz)
      clear h2 h3 hv ji za
      obtain ⟨ao,cap,rfl,hok,hst⟩:=HV.out
      have HE:=Lib.hid (And.intro hok hst)
      clear hok hst HV
      have c5:=aT.out.cell (j:=5) rfl
      have c6:=aT.out.cell (j:=6) rfl
      have c7:=aT.out.cell (j:=7) rfl
      have c8:=aT.out.cell (j:=8) rfl
      have f5:=aT.out.free 5
      have f6:=aT.out.free 6
      have f7:=aT.out.free 7
      have f8:=aT.out.free 8
      unfold exV
      go_upto_region 13 with fail
      generalize hW:World.setCell (World.setCell (World.setCell (World.setCell w3 _ _) _ _) _ _) _ _=W5
      have jy:Hid (Pm R bs B W5 ⟨bf.ex {h with nm:=tx (ay r)} x,.nil,.nil,{s with cB:=ao,bF:=cap}⟩ q):=Lib.hid (by rw [← hW]; exact aT.out.ex x ao cap HE.out.1 HE.out.2)
      have rV:Hid (Fr R.br bs w W5):=Lib.hid (by rw [← hW]; exact (((dA.out.set _ _ (.inl rfl)).set _ _ (.inl rfl)).set _ _ (.inl rfl)).set _ _ (.inl rfl))
      clear hW c5 c6 c7 c8 f5 f6 f7 f8 aT dA HE
      cases h4:at' [59] q
      ·go_wp2_with fail
       refine (dJ R _ _ ⟨#[59]⟩ rfl h4 jy.out.rd).mono ?_
       rintro e w3 ⟨rfl,h2⟩
       have aT:=Lib.hid (jy.out.below h2)
       have dA:=Lib.hid (rV.out.trans (Fr.bS (aH h2)))
       clear h2
       go_wp2_with fail
       go_ret
       exact iG (HQ.out.trans (nK h4)) (iH aT.out dA.out)
      ·go_wp2_with fail
       refine (bQ R _ _ ⟨#[59]⟩ rfl h4 jy.out.rd).mono ?_
       rintro e w3 ⟨rfl,h2,h3⟩
       have aT:=Lib.hid (jy.out.then h2 h3)
       have dA:=Lib.hid (rV.out.trans (Fr.bS h3))
       clear h2 h3
       go_wp2_with fail
       go_ret
       exact iG (HQ.out.trans (nO h4)) (pY (y:=⟨bf.ex {h with nm:=tx (ay r)} x,.nil,.nil⟩) aT.out dA.out)
  ·have HR:Hid (yu {h with nm:=tx (ay r)} r.tail=((Pz.expr r.tail.tail).close [93]).bind fun x q=>rR {h with nm:=tx (ay r),idx:= .cons x.op x.n x.nm x.kids .nil} q):=Lib.hid (Rw h1)
   rw [HR.out]
   clear HR
   have HC:Hid (∀W,aY W R r.tail.tail→Calls Tryz.prog 52 #[.pointer (some ⟨R.br,0,none⟩)] W (kY R W (Pz.expr r.tail.tail))):=Lib.hid (fun W hW=>qz R r.tail.tail W hW)
   generalize Pz.expr r.tail.tail=RZ at *
   go_enter Tryz.func157,Tryz.ntmps157
   go_wp2_with fail
   refine (jG R _ _ hn HP.out.rd).mono ?_
   rintro e w1 ⟨rfl,h2,h3⟩
   have cZ:=Lib.hid (HP.out.then h2 h3)
   have HF:=Lib.hid (Fr.bS (br:=R.br) (bs:=bs) h3)
   clear h2 h3 HP
   have c2:=cZ.out.cell (j:=2) rfl
   have f2:=cZ.out.free 2
   go_upto_region 3 with fail
   generalize hW:World.setCell w1 _ _=W
   have aU:Hid (Pm R bs B W ⟨{h with nm:=tx (ay r)},.nil,.nil,s⟩ r.tail):=Lib.hid (by rw [← hW]; exact cZ.out.nm _ eH.out)
   have fQ:Hid (Fr R.br bs w W):=Lib.hid (by rw [← hW]; exact HF.out.set _ _ (.inl rfl))
   clear hW c2 f2 cZ HF
   go_wp2_with fail
   refine (bQ R _ _ ⟨#[91]⟩ rfl h1 aU.out.rd).mono ?_
   rintro e w0 ⟨rfl,h2,h3⟩
   have aT:=Lib.hid (aU.out.then h2 h3)
   have dA:=Lib.hid (fQ.out.trans (Fr.bS h3))
   clear h2 h3 aU fQ
   go_wp2_with fail
   refine (HC.out _ aT.out.rd).mono ?_
   clear HC
   cases RZ with
   | no q=>
     rintro e w1 ⟨rfl,h2,h3⟩
     have dX:=Lib.hid (aT.out.then h2 h3)
     have gD:=Lib.hid (dA.out.trans (Fr.bS h3))
     clear h2 h3 aT dA
     unfold zE
     go_wp2_with fail
     go_ret
     exact iH (dX.out.alloc _) (gD.out.alloc _)
   | ok x q=>
     rintro e w1 ⟨v,rfl,hv,h2,h3⟩
     have dX:=Lib.hid (aT.out.then h2 h3)
     have gD:=Lib.hid (dA.out.trans (Fr.bS h3))
     have HV:=Lib.hid (hv.mono aT.out.sz)
     clear h2 h3 hv aT dA
     obtain ⟨ao,cap,rfl,hok,hst⟩:=HV.out
     have HE:=Lib.hid (And.intro hok hst)
     clear hok hst HV
     unfold exV
     go_upto_region 7 with fail
     obtain ⟨g,hg⟩: ∃g,w1.heap.size=g:=⟨_,rfl⟩
     generalize hW:World.alloc w1 _=W2
     have jy:Hid (Pm R bs B W2 ⟨{h with nm:=tx (ay r)},.nil,.nil,s⟩ q):=Lib.hid (by rw [← hW]; exact dX.out.alloc _)
     have rV:Hid (Fr R.br bs w W2):=Lib.hid (by rw [← hW]; exact gD.out.alloc _)
     have iR:Hid (W2.heap[g]? =some (.cells #[.int .i64 x.op,.int .i64 x.n,.string x.nm,.slice ao x.kids.len cap] 45 (0,0))):=Lib.hid (by rw [← hW,← hg]; exact heap_alloc_new _ _)
     have IJ:Hid (jA x∧bJ B W2 (fun w2=>x.kids.At w2 w2.heap.size ao 0)):=Lib.hid ⟨HE.out.1,by rw [← hW]; exact HE.out.2.next (aL (ah _ _))⟩
     have HG:Hid (B≤g∧g≠R.br):=Lib.hid (by have h1:=dX.out.sz; have h2:=dX.out.lt.2; omega)
     rw [hg]
     clear hW hg dX gD HE
     cases h4:at' [93] q
     ·go_wp2_with fail
      refine (dJ R _ _ ⟨#[93]⟩ rfl h4 jy.out.rd).mono ?_
      rintro e w3 ⟨rfl,h2⟩
      have iZ:=Lib.hid (jy.out.below h2)
      have uJ:=Lib.hid (rV.out.trans (Fr.bS (aH h2)))
      clear h2
      go_wp2_with fail
      go_ret
      exact iG (show bg.bind ((bg.ok x q).close [93]) _= .no q by rw [nK h4]; rfl) (iH iZ.out uJ.out)
     ·go_wp2_with fail
      refine (bQ R _ _ ⟨#[93]⟩ rfl h4 jy.out.rd).mono ?_
      rintro e w3 ⟨rfl,h2,h3⟩
      have iZ:=Lib.hid (jy.out.then h2 h3)
      have uJ:=Lib.hid (rV.out.trans (Fr.bS h3))
      have Ac:=Lib.hid ((h3.block _ (Array.getElem?_eq_some_iff.1 iR.out).1 (by simp; exact HG.out.2)).trans iR.out)
      have OT:Hid (jA x∧bJ B w3 (fun w2=>x.kids.At w2 w2.heap.size ao 0)):=Lib.hid ⟨IJ.out.1,IJ.out.2.next (fU h3 jy.out.lt.2)⟩
      clear h2 h3 jy rV iR IJ
      have u0:w3.cell? ⟨g,0,none⟩=some (.int .i64 x.op):=aj Ac.out rfl
      have u1:w3.cell? ⟨g,1,none⟩=some (.int .i64 x.n):=aj Ac.out rfl
      have u2:w3.cell? ⟨g,2,none⟩=some (.string x.nm):=aj Ac.out rfl
      have u3:w3.cell? ⟨g,3,none⟩=some (.slice ao x.kids.len cap):=aj Ac.out rfl
      have c4:=iZ.out.cell (j:=4) rfl
      have f4:=iZ.out.free 4
      have hlt:bs < w3.heap.size:=Nat.lt_of_lt_of_le iZ.out.lt.1 iZ.out.sz
      go_upto_region 10 with fail
      generalize hW:World.alloc _ _=W8
      have jl:Hid (Pm R bs B W8 ⟨{h with nm:=tx (ay r),idx:= .cons x.op x.n x.nm x.kids .nil},.nil,.nil,{s with fH:=some ⟨w3.heap.size,0,none⟩,dW:=1}⟩ q.tail):=Lib.hid (by rw [← hW]; exact iZ.out.Sw x ao cap _ OT.out)
      have Qu:Hid (Fr R.br bs w W8):=Lib.hid (by rw [← hW]; exact (uJ.out.set _ _ (.inl rfl)).alloc _)
      have LA:Hid (((bg.ok x q).close [93]).bind (fun x q=>rR {h with nm:=tx (ay r),idx:= .cons x.op x.n x.nm x.kids .nil} q)=rR {h with nm:=tx (ay r),idx:= .cons x.op x.n x.nm x.kids .nil} q.tail):=Lib.hid (by rw [nO h4]; rfl)
      clear hW c4 f4 u0 u1 u2 u3 Ac OT hlt iZ uJ
      obtain ⟨s,HSL⟩: ∃s',Hid (({s with fH:=some ⟨w3.heap.size,0,none⟩,dW:=1} :Sl)=s'):=⟨_,Lib.hid rfl⟩
      rw [HSL.out] at jl
      have iZ:=jl
      have uJ:=Qu
      clear jl Qu HSL h4
      cases h5:at' [61] q.tail
      ·go_wp2_with fail
       refine (dJ R _ _ ⟨#[61]⟩ rfl h5 iZ.out.rd).mono ?_
       rintro e w7 ⟨rfl,h2⟩
       have ji:=Lib.hid (iZ.out.below h2)
       have za:=Lib.hid (uJ.out.trans (Fr.bS (aH h2)))
       clear h2
       go_wp2_with fail
       go_ret
       exact iG (LA.out.trans (show rR _ _=_ by unfold rR; rw [zQ h5]; rfl)) (iH ji.out za.out)
      ·have HC:Hid (∀W,aY W R q.tail.tail→Calls Tryz.prog 52 #[.pointer (some ⟨R.br,0,none⟩)] W (kY R W (Pz.expr q.tail.tail))):=Lib.hid (fun W hW=>qz R q.tail.tail W hW)
       have HQ:Hid (rR {h with nm:=tx (ay r),idx:= .cons x.op x.n x.nm x.kids .nil} q.tail=((Pz.expr q.tail.tail).map fun x9=>(⟨bf.ex {h with nm:=tx (ay r),idx:= .cons x.op x.n x.nm x.kids .nil} x9,.nil,.nil⟩:Sx)).close [59]):=Lib.hid (by unfold rR; rw [zF h5]; rfl)
       have HQ:=Lib.hid (LA.out.trans HQ.out)
       generalize Pz.expr q.tail.tail=res at *
       go_wp2_with fail
       refine (bQ R _ _ ⟨#[61]⟩ rfl h5 iZ.out.rd).mono ?_
       rintro e w7 ⟨rfl,h2,h3⟩
       have ji:=Lib.hid (iZ.out.then h2 h3)
       have za:=Lib.hid (uJ.out.trans (Fr.bS h3))
       clear h2 h3 iZ uJ
       go_wp2_with fail
       refine (HC.out _ ji.out.rd).mono ?_
       cases res with
       | no q=>
         rintro e w3 ⟨rfl,h2,h3⟩
         have aT:=Lib.hid (ji.out.then h2 h3)
         have dA:=Lib.hid (za.out.trans (Fr.bS h3))
         clear h2 h3 ji za
         have c5:=aT.out.cell (j:=5) rfl
         have c6:=aT.out.cell (j:=6) rfl
         have c7:=aT.out.cell (j:=7) rfl
         have c8:=aT.out.cell (j:=8) rfl
         have f5:=aT.out.free 5
         have f6:=aT.out.free 6
         have f7:=aT.out.free 7
         have f8:=aT.out.free 8
         unfold zE
         go_wp2_with fail
         go_ret
         exact iG HQ.out (iH (aT.out.ex ⟨0,0,⟨#[]⟩,.nil⟩ none 0 Eb wL) ((((dA.out.set _ _ (.inl rfl)).set _ _ (.inl rfl)).set _ _ (.inl rfl)).set _ _ (.inl rfl)))
       | ok x' q'=>
         rintro e w3 ⟨v,rfl,hv,h2,h3⟩
         have aT:=Lib.hid (ji.out.then h2 h3)
         have dA:=Lib.hid (za.out.trans (Fr.bS h3))
         have HV:=Lib.hid (hv.mono ji.out.sz)
         clear h2 h3 hv ji za
         obtain ⟨oL,cap2,rfl,hok,hst⟩:=HV.out
         have HE:=Lib.hid (And.intro hok hst)
         clear hok hst HV
         have c5:=aT.out.cell (j:=5) rfl
         have c6:=aT.out.cell (j:=6) rfl
         have c7:=aT.out.cell (j:=7) rfl
         have c8:=aT.out.cell (j:=8) rfl
         have f5:=aT.out.free 5
         have f6:=aT.out.free 6
         have f7:=aT.out.free 7
         have f8:=aT.out.free 8
         unfold exV
         go_upto_region 13 with fail
         generalize hW:World.setCell (World.setCell (World.setCell (World.setCell w3 _ _) _ _) _ _) _ _=W5
         have jy:Hid (Pm R bs B W5 ⟨bf.ex {h with nm:=tx (ay r),idx:= .cons x.op x.n x.nm x.kids .nil} x',.nil,.nil,{s with cB:=oL,bF:=cap2}⟩ q'):=Lib.hid (by rw [← hW]; exact aT.out.ex x' oL cap2 HE.out.1 HE.out.2)
         have rV:Hid (Fr R.br bs w W5):=Lib.hid (by rw [← hW]; exact (((dA.out.set _ _ (.inl rfl)).set _ _ (.inl rfl)).set _ _ (.inl rfl)).set _ _ (.inl rfl))
         clear hW c5 c6 c7 c8 f5 f6 f7 f8 aT dA HE
         cases h4:at' [59] q'
         ·go_wp2_with fail
          refine (dJ R _ _ ⟨#[59]⟩ rfl h4 jy.out.rd).mono ?_
          rintro e w3 ⟨rfl,h2⟩
          have aT:=Lib.hid (jy.out.below h2)
          have dA:=Lib.hid (rV.out.trans (Fr.bS (aH h2)))
          clear h2
          go_wp2_with fail
          go_ret
          exact iG (HQ.out.trans (nK h4)) (iH aT.out dA.out)
         ·go_wp2_with fail
          refine (bQ R _ _ ⟨#[59]⟩ rfl h4 jy.out.rd).mono ?_
          rintro e w3 ⟨rfl,h2,h3⟩
          have aT:=Lib.hid (jy.out.then h2 h3)
          have dA:=Lib.hid (rV.out.trans (Fr.bS h3))
          clear h2 h3
          go_wp2_with fail
          go_ret
          exact iG (HQ.out.trans (nO h4)) (pY (y:=⟨bf.ex {h with nm:=tx (ay r),idx:= .cons x.op x.n x.nm x.kids .nil} x',.nil,.nil⟩) aT.out dA.out)
end Go.Proofs.YtehnipchbmjlhaaGreatDoor
end
section
namespace Go.Proofs.YtehnipchbmjlhaaGreatDoor
open Go.RowKit
open Md Pz
def ql (R:Rp) (w:World) (res:bg aS) (e:Ending) (w':World):Prop:=
 match res with
 | .ok l r=>(∃x:dG,l=one x.h x.b x.e∧e= .returned (.tuple #[bP x.h x.b x.e x.s,.bool true])∧mO x.h x.b x.e∧bJ w.heap.size w' (dG.I x))∧aY w' R r∧w.grownBy w' (some R.br)
 | .no r=>(∃x:dG,e= .returned (.tuple #[bP x.h x.b x.e x.s,.bool false]))∧aY w' R r∧w.grownBy w' (some R.br)
def gG:Array Value:= #[.int .i64 0,.int .i64 0,.string ⟨#[]⟩,.string ⟨#[]⟩,.slice none 0 0,.int .i64 0,.int .i64 0,.string ⟨#[]⟩,.slice none 0 0,.slice none 0 0,.slice none 0 0]
theorem nI {w w':World} {R:Rp} {rest:ak} {b:Nat} (h:aY w R rest) (hg:w.grownBy w' (some b)) (h0:R.B0≤b) (h1:b≠R.br):aY w' R rest:=by
 obtain ⟨pos,k1,k2,k3⟩:=h.blk
 exact ⟨⟨pos,k1,k2,(hg.block _ h.lt (by simp; omega)).trans k3⟩,h.tok.below (fu hg h0 (Nat.le_trans R.b0 (Nat.le_of_lt h.lt))),h.ok,h.tl⟩
theorem kH {br:Nat} {w w':World} (h:w.grownBy w' (some br)) (b o:Nat) (vs:List Value) (hb:w.heap.size≤b):w.grownBy (w'.setCells b o vs) (some br):=
 have k:=aP b vs o w'
 ⟨k.os.trans h.os,k.tape.trans h.tape,k.output.trans h.output,Nat.le_trans h.size k.size,fun j hj hn=>(k.block j (Nat.lt_of_lt_of_le hj h.size) (by simp; omega)).trans (h.block j hj hn)⟩
theorem tQ {R:Rp} {bs B:Nat} {w W:World} {x:dG} {r:ak} (hP:Pm R bs B W x r) (hg:w.grownBy W (some R.br)) (hl:R.br < w.heap.size) (hB:w.heap.size < B):
 ql R w (.ok (one x.h x.b x.e) r) (.returned (.tuple #[bP x.h x.b x.e x.s,.bool true])) (W.setCells w.heap.size 0 (dG.f x)):=
 ⟨⟨x,rfl,rfl,hP.ok,(hP.st.next ⟨(aP w.heap.size _ 0 W).size,fun k h1 h2=>(aP w.heap.size _ 0 W).block k h2 (by simp; omega)⟩).mono (Nat.le_of_lt hB)⟩,nI hP.rd (aP _ _ _ _) (by have:=R.b0; omega) (by omega),kH hg _ _ _ (Nat.le_refl _)⟩
theorem pV {R:Rp} {bs B:Nat} {w W:World} {x:dG} {r:ak} (hP:Pm R bs B W x r) (hg:w.grownBy W (some R.br)) (hl:R.br < w.heap.size):
 ql R w (.no r) (.returned (.tuple #[bP x.h x.b x.e x.s,.bool false])) (W.setCells w.heap.size 0 (dG.f x)):=
 ⟨⟨x,rfl⟩,nI hP.rd (aP _ _ _ _) (by have:=R.b0; omega) (by omega),kH hg _ _ _ (Nat.le_refl _)⟩
theorem kC {w:World} {b:Nat} {t:TypeId} (h:w.heap[b]? =some (.cells gG t (0,0))):
 (w.cell? ⟨b,0,none⟩=some (.int .i64 0)∧w.cell? ⟨b,1,none⟩=some (.int .i64 0)∧w.cell? ⟨b,2,none⟩=some (.string ⟨#[]⟩)∧w.cell? ⟨b,3,none⟩=some (.string ⟨#[]⟩)∧w.cell? ⟨b,4,none⟩=some (.slice none 0 0)∧w.cell? ⟨b,5,none⟩=some (.int .i64 0)∧w.cell? ⟨b,6,none⟩=some (.int .i64 0)∧w.cell? ⟨b,7,none⟩=some (.string ⟨#[]⟩)∧w.cell? ⟨b,8,none⟩=some (.slice none 0 0)∧w.cell? ⟨b,9,none⟩=some (.slice none 0 0)∧w.cell? ⟨b,10,none⟩=some (.slice none 0 0))∧ ∀j,w.frozen? ⟨b,j,none⟩=false:=
 ⟨⟨aj h rfl,aj h rfl,aj h rfl,aj h rfl,aj h rfl,aj h rfl,aj h rfl,aj h rfl,aj h rfl,aj h rfl,aj h rfl⟩,fun _=>aF h⟩
theorem iF {R:Rp} {bs B:Nat} {W:World} {x:dG} {r:ak} (h:Pm R bs B W x r):
 W.cell? ⟨bs,0,none⟩=some (.int .i64 x.h.op)∧W.cell? ⟨bs,1,none⟩=some (.int .i64 x.h.line)∧W.cell? ⟨bs,2,none⟩=some (.string x.h.nm)∧W.cell? ⟨bs,3,none⟩=some (.string x.h.arg)∧W.cell? ⟨bs,4,none⟩=some (.slice x.s.fH x.h.idx.len x.s.dW)∧W.cell? ⟨bs,5,none⟩=some (.int .i64 x.h.bV)∧W.cell? ⟨bs,6,none⟩=some (.int .i64 x.h.xn)∧W.cell? ⟨bs,7,none⟩=some (.string x.h.bU)∧W.cell? ⟨bs,8,none⟩=some (.slice x.s.cB x.h.aO.len x.s.bF)∧W.cell? ⟨bs,9,none⟩=some (.slice x.s.bC x.b.len x.s.aV)∧W.cell? ⟨bs,10,none⟩=some (.slice x.s.eZ x.e.len x.s.dL):=
 ⟨h.cell rfl,h.cell rfl,h.cell rfl,h.cell rfl,h.cell rfl,h.cell rfl,h.cell rfl,h.cell rfl,h.cell rfl,h.cell rfl,h.cell rfl⟩
theorem mP {R:Rp} {w w1:World} {ts:ak} {kv:Value} {sv:Value} (hI:aY w R ts) (hB:Below w.heap.size w w1) (hz:w1.heap[w.heap.size]? =some (.cells gG 89 (0,0))) (hL:aM ((aK ts:Nat):Int)) (gt:Nat) (hg:w1.heap.size=gt):
 ∀W,((w1.alloc (.cells #[kv,sv,.int .i64 ((aK ts:Nat):Int)] 112)).alloc (.cells #[.int .i64 0,.int .i64 ((aK ts:Nat):Int),.string ⟨#[]⟩,.string ⟨#[]⟩,.slice none 0 0,.int .i64 0,.int .i64 0,.string ⟨#[]⟩,.slice none 0 0,.slice none 0 0,.slice none 0 0] 89))=W→
 Pm R (gt + 1) (gt + 2) W ⟨hd 0 ((aK ts:Nat):Int),.nil,.nil,zS⟩ ts∧Below w.heap.size w W∧W.heap[w.heap.size]? =some (.cells gG 89 (0,0))∧W.cell? ⟨gt,0,none⟩=some kv∧W.cell? ⟨gt,1,none⟩=some sv∧w.heap.size < gt:=by
 intro W hW
 have h0:=(Array.getElem?_eq_some_iff.1 hz).1
 have hb1:Below w.heap.size w (w1.alloc (.cells #[kv,sv,.int .i64 ((aK ts:Nat):Int)] 112)):=hB.alloc hB.size _
 have ht:(w1.alloc (.cells #[kv,sv,.int .i64 ((aK ts:Nat):Int)] 112)).heap[gt]? =some (.cells #[kv,sv,.int .i64 ((aK ts:Nat):Int)] 112 (0,0)):=by rw [← hg]; exact heap_alloc_new _ _
 have hz1:(w1.alloc (.cells #[kv,sv,.int .i64 ((aK ts:Nat):Int)] 112)).heap[w.heap.size]? =some (.cells gG 89 (0,0)):=(heap_alloc_old _ _ h0).trans hz
 have hs1:(w1.alloc (.cells #[kv,sv,.int .i64 ((aK ts:Nat):Int)] 112)).heap.size=gt + 1:=by simp [hg]
 generalize w1.alloc (.cells #[kv,sv,.int .i64 ((aK ts:Nat):Int)] 112)=W1 at *
 have hb2:Below w.heap.size w W:=by rw [← hW]; exact hb1.alloc hb1.size _
 have ht2:W.heap[gt]? =some (.cells #[kv,sv,.int .i64 ((aK ts:Nat):Int)] 112 (0,0)):=by rw [← hW]; exact (heap_alloc_old _ _ (Array.getElem?_eq_some_iff.1 ht).1).trans ht
 refine ⟨⟨hI.below hb2,⟨by omega,by have:=hI.lt; omega⟩,by have:=hI.lt; omega,by have:=hI.lt; have:=R.b0; omega,by rw [← hW]; simp; omega,by rw [← hW,← hs1]; exact heap_alloc_new _ _,⟨kE,hL,Nat.zero_le _,Nat.zero_le _,Nat.zero_le _,Eb,Nat.zero_le _,Nat.zero_le _⟩,fun _ _=>⟨trivial,trivial,trivial,trivial⟩⟩,hb2,?_,aj ht2 rfl,aj ht2 rfl,by omega⟩
 rw [← hW]; exact (heap_alloc_old _ _ (Array.getElem?_eq_some_iff.1 hz1).1).trans hz1
theorem kX {w:World} {R:Rp} {ts:ak} (hI:aY w R ts):aM ((aK ts:Nat):Int):=by
 cases ts with
 | nil=>exact kE
 | cons t r=>have:=(hI.DX t (by simp)).1; show aM (t.line:Int); unfold aM; omega
theorem gZ {br bs k:Nat} {w w':World} {o:Obj} (h:Fr br bs w w') (hk:w.heap[k]? =some o) (h1:k≠br) (h2:k≠bs):w'.heap[k]? =some o:=(h.block k (Array.getElem?_eq_some_iff.1 hk).1 h1 h2).trans hk
theorem Fq (R:Rp) (f:Nat) (ts:ak) (w:World) (hI:aY w R ts) (h1:(nextK ts == 1)=true):
 Calls Tryz.prog 130 #[.pointer (some ⟨R.br,0,none⟩)] w (ql R w (ps (f + 1) true ts)):=by
 rw [Wd h1]
 have hk:nextK ts=1:=by simpa using h1
 clear h1
 have HI:=Lib.hid hI
 have HL:=Lib.hid (kX hI)
 have hlt:=hI.lt
 go_enter Tryz.func130,Tryz.ntmps130
 go_upto_region 1 with fail
 generalize hW:World.alloc w _=W0
 have HB0:Hid (Below w.heap.size w W0):=Lib.hid (by rw [← hW]; exact ah _ _)
 have HZ0:Hid (W0.heap[w.heap.size]? =some (.cells gG 89 (0,0))):=Lib.hid (by rw [← hW]; exact heap_alloc_new _ _)
 have HN:=Lib.hid (ig R ts W0 (HI.out.below HB0.out))
 unfold lH at HN
 rw [hk] at HN
 clear hW hI hk
 go_wp2_with fail
 refine HN.out.mono ?_
 rintro e w1 ⟨rfl,h2⟩
 have HB1:=Lib.hid (HB0.out.trans (h2.mono HB0.out.size))
 have HZ1:=Lib.hid ((h2.block _ (Array.getElem?_eq_some_iff.1 HZ0.out).1).trans HZ0.out)
 clear h2 HN HB0 HZ0
 go_upto_region 3 with fail
 obtain ⟨gt,hg⟩: ∃g,w1.heap.size=g:=⟨_,rfl⟩
 rw [hg]
 generalize hW:World.alloc (World.alloc w1 _) _=W2
 have aU:=Lib.hid (mP HI.out HB1.out HZ1.out HL.out gt hg W2 hW)
 have e0:=aU.out.2.2.2.1
 have e1:=aU.out.2.2.2.2.1
 have aX:Hid (R.br < w.heap.size∧w.heap.size < gt):=Lib.hid ⟨hlt,aU.out.2.2.2.2.2⟩
 clear hW hg HB1 HZ1
 have f0:=aU.out.1.free 0
 have c0:=aU.out.1.cell (j:=0) rfl
 go_upto_region 6 with fail
 generalize hW:World.setCell W2 _ _=W3
 have aT:Hid (Pm R (gt + 1) (gt + 2) W3 ⟨hd 1 ((aK ts:Nat):Int),.nil,.nil,zS⟩ ts):=Lib.hid (by rw [← hW]; exact aU.out.1.op 1 (by unfold aM; decide))
 have dA:Hid (Fr R.br (gt + 1) W2 W3):=Lib.hid (by rw [← hW]; exact (Fr.refl _ _ _).set _ _ (.inl rfl))
 clear hW f0 c0 e0 e1
 have HC:=Lib.hid (F6 R (gt + 1) (gt + 2) ts (hd 1 ((aK ts:Nat):Int)) zS W3 aT.out)
 generalize xD (hd 1 ((aK ts:Nat):Int)) ts=res at *
 go_wp2_with fail
 refine HC.out.mono ?_
 cases res with
 | no q=>
   rintro e w4 ⟨rfl,⟨x,h2⟩,h3⟩
   have dX:=Lib.hid h2
   have gD:=Lib.hid (dA.out.trans h3)
   clear h2 h3
   have fK:=Lib.hid (gZ gD.out aU.out.2.2.1 (by have:=aX.out; omega) (by have:=aX.out; omega))
   obtain ⟨⟨y0,y1,y2,y3,y4,y5,y6,y7,y8,y9,dZ⟩,fz⟩:=kC fK.out
   have z0:=fz 0
   have z1:=fz 1
   have z2:=fz 2
   have z3:=fz 3
   have z4:=fz 4
   have z5:=fz 5
   have z6:=fz 6
   have z7:=fz 7
   have z8:=fz 8
   have z9:=fz 9
   have jD:=fz 10
   obtain ⟨d0,d1,d2,d3,d4,d5,d6,d7,d8,d9,iJ⟩:=iF dX.out
   clear fz
   go_wp2_with fail
   exact bodyPost_ret (v:= .tuple #[bP x.h x.b x.e x.s,.bool false]) (by simp [results,Tryz.results130,go_sem,bP,y0,y1,y2,y3,y4,y5,y6,y7,y8,y9,dZ]) rfl (pV dX.out (gD.out.gr aU.out.2.1 (by have:=aX.out; omega)) aX.out.1)
 | ok y q=>
   rintro e w4 ⟨rfl,⟨s,h2⟩,h3⟩
   have dX:=Lib.hid h2
   have gD:=Lib.hid (dA.out.trans h3)
   clear h2 h3
   have fK:=Lib.hid (gZ gD.out aU.out.2.2.1 (by have:=aX.out; omega) (by have:=aX.out; omega))
   obtain ⟨⟨y0,y1,y2,y3,y4,y5,y6,y7,y8,y9,dZ⟩,fz⟩:=kC fK.out
   have z0:=fz 0
   have z1:=fz 1
   have z2:=fz 2
   have z3:=fz 3
   have z4:=fz 4
   have z5:=fz 5
   have z6:=fz 6
   have z7:=fz 7
   have z8:=fz 8
   have z9:=fz 9
   have jD:=fz 10
   obtain ⟨d0,d1,d2,d3,d4,d5,d6,d7,d8,d9,iJ⟩:=iF dX.out
   clear fz
   go_wp2_with fail
   exact bodyPost_ret (v:= .tuple #[bP y.h y.b y.e s,.bool true]) (by simp [results,Tryz.results130,go_sem,bP,y0,y1,y2,y3,y4,y5,y6,y7,y8,y9,dZ]) rfl (tQ dX.out (gD.out.gr aU.out.2.1 (by have:=aX.out; omega)) aX.out.1 (by have:=aX.out; omega))
theorem E5 (R:Rp) (f:Nat) (ts:ak) (w:World) (hI:aY w R ts) (h1:(nextK ts == 1)=false) (h3:(nextK ts == 3)=false):
 Calls Tryz.prog 130 #[.pointer (some ⟨R.br,0,none⟩)] w (ql R w (ps (f + 1) true ts)):=by
 rw [Tw h1 h3]
 obtain ⟨k,hk⟩: ∃k,nextK ts=k:=⟨_,rfl⟩
 have k1:((k:Int) == 1)=false:=by rw [← hk]; exact (qE 1 ts).symm.trans h1
 have k3:((k:Int) == 3)=false:=by rw [← hk]; exact (qE 3 ts).symm.trans h3
 clear h1 h3
 have HI:=Lib.hid hI
 have HL:=Lib.hid (kX hI)
 have hlt:=hI.lt
 go_enter Tryz.func130,Tryz.ntmps130
 go_upto_region 1 with fail
 generalize hW:World.alloc w _=W0
 have HB0:Hid (Below w.heap.size w W0):=Lib.hid (by rw [← hW]; exact ah _ _)
 have HZ0:Hid (W0.heap[w.heap.size]? =some (.cells gG 89 (0,0))):=Lib.hid (by rw [← hW]; exact heap_alloc_new _ _)
 have HN:=Lib.hid (ig R ts W0 (HI.out.below HB0.out))
 unfold lH at HN
 rw [hk] at HN
 clear hW hI hk
 go_wp2_with fail
 refine HN.out.mono ?_
 rintro e w1 ⟨rfl,h2⟩
 have HB1:=Lib.hid (HB0.out.trans (h2.mono HB0.out.size))
 have HZ1:=Lib.hid ((h2.block _ (Array.getElem?_eq_some_iff.1 HZ0.out).1).trans HZ0.out)
 clear h2 HN HB0 HZ0
 go_upto_region 3 with fail
 obtain ⟨gt,hg⟩: ∃g,w1.heap.size=g:=⟨_,rfl⟩
 rw [hg]
 generalize hW:World.alloc (World.alloc w1 _) _=W2
 have aU:=Lib.hid (mP HI.out HB1.out HZ1.out HL.out gt hg W2 hW)
 have e0:=aU.out.2.2.2.1
 have e1:=aU.out.2.2.2.2.1
 have aX:Hid (R.br < w.heap.size∧w.heap.size < gt):=Lib.hid ⟨hlt,aU.out.2.2.2.2.2⟩
 clear hW hg HB1 HZ1
 obtain ⟨⟨y0,y1,y2,y3,y4,y5,y6,y7,y8,y9,dZ⟩,fz⟩:=kC aU.out.2.2.1
 have z0:=fz 0
 have z1:=fz 1
 have z2:=fz 2
 have z3:=fz 3
 have z4:=fz 4
 have z5:=fz 5
 have z6:=fz 6
 have z7:=fz 7
 have z8:=fz 8
 have z9:=fz 9
 have jD:=fz 10
 obtain ⟨d0,d1,d2,d3,d4,d5,d6,d7,d8,d9,iJ⟩:=iF aU.out.1
 clear fz
 go_wp2_with fail
 exact bodyPost_ret (v:= .tuple #[bP (hd 0 ((aK ts:Nat):Int)) .nil .nil zS,.bool false]) (by simp [results,Tryz.results130,go_sem,bP,y0,y1,y2,y3,y4,y5,y6,y7,y8,y9,dZ,hd,zS,aZ.len,aS.len]) rfl (pV aU.out.1 (aH aU.out.2.1) aX.out.1)
theorem ZQ (w:World):(binOp .eql 198 .nilFunc .nilFunc).run Tryz.prog w= .ok (.bool true) w:=by kernel_rfl
theorem FD (R:Rp) (f:Nat) (ts:ak) (w:World) (hI:aY w R ts) (h1:(nextK ts == 1)=false) (h3:(nextK ts == 3)=true) (h0:(eG (ay ts) == 0)=true):
 Calls Tryz.prog 130 #[.pointer (some ⟨R.br,0,none⟩)] w (ql R w (ps (f + 1) true ts)):=by
 rw [VP h1 h3 h0]
 have hk:nextK ts=3:=by simpa using h3
 have iX:Hid (∀w,Calls Tryz.prog 158 #[.string (tx (ay ts))] w fun e w'=>e= .returned (.tuple #[.int .i64 0,.nilFunc])∧w=w'):=Lib.hid (fun w=>by
  have:=JG (tx (ay ts)) (l:=ay ts) rfl w
  rw [show eG (ay ts)=0 by simpa using h0] at this; exact this)
 clear h1 h3 h0
 have hnf:=ZQ
 have HI:=Lib.hid hI
 have HL:=Lib.hid (kX hI)
 have hlt:=hI.lt
 go_enter Tryz.func130,Tryz.ntmps130
 go_upto_region 1 with fail
 generalize hW:World.alloc w _=W0
 have HB0:Hid (Below w.heap.size w W0):=Lib.hid (by rw [← hW]; exact ah _ _)
 have HZ0:Hid (W0.heap[w.heap.size]? =some (.cells gG 89 (0,0))):=Lib.hid (by rw [← hW]; exact heap_alloc_new _ _)
 have HN:=Lib.hid (ig R ts W0 (HI.out.below HB0.out))
 unfold lH at HN
 rw [hk] at HN
 clear hW hI hk
 go_wp2_with fail
 refine HN.out.mono ?_
 rintro e w1 ⟨rfl,h2⟩
 have HB1:=Lib.hid (HB0.out.trans (h2.mono HB0.out.size))
 have HZ1:=Lib.hid ((h2.block _ (Array.getElem?_eq_some_iff.1 HZ0.out).1).trans HZ0.out)
 clear h2 HN HB0 HZ0
 go_upto_region 3 with fail
 obtain ⟨gt,hg⟩: ∃g,w1.heap.size=g:=⟨_,rfl⟩
 rw [hg]
 generalize hW:World.alloc (World.alloc w1 _) _=W2
 have aU:=Lib.hid (mP HI.out HB1.out HZ1.out HL.out gt hg W2 hW)
 have e0:=aU.out.2.2.2.1
 have e1:=aU.out.2.2.2.2.1
 have aX:Hid (R.br < w.heap.size∧w.heap.size < gt):=Lib.hid ⟨hlt,aU.out.2.2.2.2.2⟩
 clear hW hg HB1 HZ1
 go_wp2_with fail
 refine (iX.out _).mono ?_
 rintro e w3 ⟨rfl,rfl⟩
 obtain ⟨⟨y0,y1,y2,y3,y4,y5,y6,y7,y8,y9,dZ⟩,fz⟩:=kC aU.out.2.2.1
 have z0:=fz 0
 have z1:=fz 1
 have z2:=fz 2
 have z3:=fz 3
 have z4:=fz 4
 have z5:=fz 5
 have z6:=fz 6
 have z7:=fz 7
 have z8:=fz 8
 have z9:=fz 9
 have jD:=fz 10
 obtain ⟨d0,d1,d2,d3,d4,d5,d6,d7,d8,d9,iJ⟩:=iF aU.out.1
 clear fz
 go_wp2_with fail
 exact bodyPost_ret (v:= .tuple #[bP (hd 0 ((aK ts:Nat):Int)) .nil .nil zS,.bool false]) (by simp [results,Tryz.results130,go_sem,bP,y0,y1,y2,y3,y4,y5,y6,y7,y8,y9,dZ,hd,zS,aZ.len,aS.len]) rfl (pV aU.out.1 (aH aU.out.2.1) aX.out.1)
end Go.Proofs.YtehnipchbmjlhaaGreatDoor
end
