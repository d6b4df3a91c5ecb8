/-
  A statement under way, in memory; what its reading leaves. No walk in sight.
  Contracts of the reader's plainBlock, namedBlock, named, setting, getting.
  Contracts of the reader's loop, conditional, assignment.
  Contract of the reader's statement.
-/
import Derived.Test.YtehnipchbmjlhaaGreatDoorGRB
import Derived.Test.YtehnipchbmjlhaaGreatDoorGZB
import Derived.Test.YtehnipchbmjlhaaGreatDoorGMB
section
set_option linter.unusedSimpArgs false
set_option linter.unusedVariables false
namespace Go.Proofs.YtehnipchbmjlhaaGreatDoor
open Go.RowKit
open Md Pz
structure Fr (br bs:Nat) (w w':World):Prop where
 os:w'.os=w.os
 tape:w'.tape=w.tape
 output:w'.output=w.output
 size:w.heap.size≤w'.heap.size
 block: ∀k,k < w.heap.size→k≠br→k≠bs→w'.heap[k]? =w.heap[k]?
section
variable {br bs:Nat} {w w1 w2 w':World}
theorem Fr.refl (br bs:Nat) (w:World):Fr br bs w w:=⟨rfl,rfl,rfl,Nat.le_refl _,fun _ _ _ _=>rfl⟩
theorem Fr.trans (h:Fr br bs w w1) (k:Fr br bs w1 w2):Fr br bs w w2:=
 ⟨k.os.trans h.os,k.tape.trans h.tape,k.output.trans h.output,Nat.le_trans h.size k.size,fun j hj h1 h2=>(k.block j (Nat.lt_of_lt_of_le hj h.size) h1 h2).trans (h.block j hj h1 h2)⟩
theorem Fr.bL (h:w.grownBy w' (some br)):Fr br bs w w':=⟨h.os,h.tape,h.output,h.size,fun k hk h1 _=>h.block k hk (by simp; exact h1)⟩
theorem Fr.set (h:Fr br bs w w') (a:Addr) (v:Value) (ha:a.block=bs∨w.heap.size≤a.block):Fr br bs w (w'.setCell a v):=
 ⟨h.os,h.tape,h.output,by have:=h.size; simpa [World.setCell] using this,fun k hk h1 h2=>(aM w' a v rfl (by omega)).trans (h.block k hk h1 h2)⟩
theorem Fr.alloc (h:Fr br bs w w') (o:Obj):Fr br bs w (w'.alloc o):=h.trans (Fr.bL (aQ (ah _ _)))
theorem Fr.gr (h:Fr br bs w1 w') (hb:Below w.heap.size w w1) (hs:w.heap.size≤bs):w.grownBy w' (some br):=
 ⟨h.os.trans hb.os,h.tape.trans hb.tape,h.output.trans hb.output,Nat.le_trans hb.size h.size,fun k hk h1=>(h.block k (Nat.lt_of_lt_of_le hk hb.size) (by simpa using h1) (by omega)).trans (hb.block k hk)⟩
end
def zS:Sl:=⟨none,0,none,0,none,0,none,0⟩
structure Pm (R:Rp) (bs B:Nat) (w:World) (x:eH) (rest:aj):Prop where
 rd:aS w R rest
 lt:bs < B∧R.br < B
 ne:bs≠R.br
 b0:R.B0≤bs
 sz:B≤w.heap.size
 blk:w.heap[bs]? =some (.cells (eH.f x).toArray 89 (0,0))
 ok:oD x.h x.b x.e
 st:bD B w (eH.I x)
section
variable {R:Rp} {bs B:Nat} {w W W':World} {x:eH} {rest rest':aj}
theorem Pm.then (h:Pm R bs B W x rest) (h1:aS W' R rest') (h2:W.grownBy W' (some R.br)):Pm R bs B W' x rest':=
 ⟨h1,h.lt,h.ne,h.b0,Nat.le_trans h.sz h2.size,(h2.block _ (Nat.lt_of_lt_of_le h.lt.1 h.sz) (by simp; exact h.ne)).trans h.blk,h.ok,h.st.next (jN h2 h.lt.2)⟩
theorem Pm.below (h:Pm R bs B W x rest) (hb:Below W.heap.size W W'):Pm R bs B W' x rest:=h.then (h.rd.below hb) (aQ hb)
theorem Pm.alloc (h:Pm R bs B W x rest) (o:Obj):Pm R bs B (W.alloc o) x rest:=h.below (ah _ _)
theorem Pm.put (h:Pm R bs B W x rest) (j:Nat) (v:Value) {y:eH} (hy:(eH.f x).toArray.setIfInBounds j v=(eH.f y).toArray) (hok:oD y.h y.b y.e) (hst:bD B W (eH.I y)):Pm R bs B (W.setCell ⟨bs,j,none⟩ v) y rest:=
 ⟨nu h.rd _ v h.b0 h.ne,h.lt,h.ne,h.b0,by have:=h.sz; simpa [World.setCell] using this,by rw [aR h.blk,hy],hok,hst.next (bC W ⟨bs,j,none⟩ v h.lt.1)⟩
theorem Pm.nm (h:Pm R bs B W x rest) (s:ByteArray) (hs:s.size≤maxLen):Pm R bs B (W.setCell ⟨bs,2,none⟩ (.string s)) ⟨{x.h with nm:=s},x.b,x.e,x.s⟩ rest:=
 h.put 2 _ rfl ⟨h.ok.1,h.ok.2.1,hs,h.ok.2.2.2⟩ h.st
theorem Pm.arg (h:Pm R bs B W x rest) (s:ByteArray) (hs:s.size≤maxLen):Pm R bs B (W.setCell ⟨bs,3,none⟩ (.string s)) ⟨{x.h with arg:=s},x.b,x.e,x.s⟩ rest:=
 h.put 3 _ rfl ⟨h.ok.1,h.ok.2.1,h.ok.2.2.1,hs,h.ok.2.2.2.2⟩ h.st
theorem Pm.op (h:Pm R bs B W x rest) (n:Int) (hn:aV n):Pm R bs B (W.setCell ⟨bs,0,none⟩ (.int .i64 n)) ⟨{x.h with op:=n},x.b,x.e,x.s⟩ rest:=
 h.put 0 _ rfl ⟨hn,h.ok.2⟩ h.st
theorem Pm.idx (h:Pm R bs B W x rest) (l:aH) (ao:Option Addr) (cap:Nat) (hl:l.len≤maxLen) (hst:bD B W (fun w2=>l.At w2 w2.heap.size ao 0)):
 Pm R bs B (W.setCell ⟨bs,4,none⟩ (.slice ao l.len cap)) ⟨{x.h with idx:=l},x.b,x.e,{x.s with eP:=ao,dK:=cap}⟩ rest:=
 h.put 4 _ rfl ⟨h.ok.1,h.ok.2.1,h.ok.2.2.1,h.ok.2.2.2.1,hl,h.ok.2.2.2.2.2⟩ (fun w2 h2=>⟨hst w2 h2,(h.st w2 h2).2⟩)
theorem Pm.body (h:Pm R bs B W x rest) (l:aI) (ao:Option Addr) (cap:Nat) (hl:l.len≤maxLen) (hst:bD B W (fun w2=>l.At w2 w2.heap.size ao 0)):
 Pm R bs B (W.setCell ⟨bs,9,none⟩ (.slice ao l.len cap)) ⟨x.h,l,x.e,{x.s with bR:=ao,aZ:=cap}⟩ rest:=
 h.put 9 _ rfl ⟨h.ok.1,h.ok.2.1,h.ok.2.2.1,h.ok.2.2.2.1,h.ok.2.2.2.2.1,h.ok.2.2.2.2.2.1,hl,h.ok.2.2.2.2.2.2.2⟩ (fun w2 h2=>⟨(h.st w2 h2).1,(h.st w2 h2).2.1,hst w2 h2,(h.st w2 h2).2.2.2⟩)
theorem Pm.els (h:Pm R bs B W x rest) (l:aI) (ao:Option Addr) (cap:Nat) (hl:l.len≤maxLen) (hst:bD B W (fun w2=>l.At w2 w2.heap.size ao 0)):
 Pm R bs B (W.setCell ⟨bs,10,none⟩ (.slice ao l.len cap)) ⟨x.h,x.b,l,{x.s with dY:=ao,dA:=cap}⟩ rest:=
 h.put 10 _ rfl ⟨h.ok.1,h.ok.2.1,h.ok.2.2.1,h.ok.2.2.2.1,h.ok.2.2.2.2.1,h.ok.2.2.2.2.2.1,h.ok.2.2.2.2.2.2.1,hl⟩ (fun w2 h2=>⟨(h.st w2 h2).1,(h.st w2 h2).2.1,(h.st w2 h2).2.2.1,hst w2 h2⟩)
def zq (w:World) (b:Nat) (v0 v1 v2 v3:Value):World:=(((w.setCell ⟨b,5,none⟩ v0).setCell ⟨b,6,none⟩ v1).setCell ⟨b,7,none⟩ v2).setCell ⟨b,8,none⟩ v3
theorem Pm.ex (h:Pm R bs B W x rest) (y:E) (ao:Option Addr) (cap:Nat) (hy:iX y) (hst:bD B W (fun w2=>y.kids.At w2 w2.heap.size ao 0)):
 Pm R bs B (zq W bs (.int .i64 y.op) (.int .i64 y.n) (.string y.nm) (.slice ao y.kids.len cap)) ⟨aW.ex x.h y,x.b,x.e,{x.s with dJ:=ao,bS:=cap}⟩ rest:=by
 have ha:fM B W (zq W bs (.int .i64 y.op) (.int .i64 y.n) (.string y.nm) (.slice ao y.kids.len cap)):=by
  have x1:fM B W _:=bC W ⟨bs,5,none⟩ (.int .i64 y.op) h.lt.1
  have x2:=x1.trans (bC _ ⟨bs,6,none⟩ (.int .i64 y.n) h.lt.1)
  have x3:=x2.trans (bC _ ⟨bs,7,none⟩ (.string y.nm) h.lt.1)
  exact x3.trans (bC _ ⟨bs,8,none⟩ (.slice ao y.kids.len cap) h.lt.1)
 refine ⟨nu (nu (nu (nu h.rd _ _ h.b0 h.ne) _ _ h.b0 h.ne) _ _ h.b0 h.ne) _ _ h.b0 h.ne,h.lt,h.ne,h.b0,Nat.le_trans h.sz ha.1,?_,⟨h.ok.1,h.ok.2.1,h.ok.2.2.1,h.ok.2.2.2.1,h.ok.2.2.2.2.1,hy,h.ok.2.2.2.2.2.2⟩,?_⟩
 ·unfold zq
  rw [aR (aR (aR (aR h.blk _) _) _) _]; rfl
 ·exact fun w2 h2=>⟨(h.st w2 (ha.trans h2)).1,hst w2 (ha.trans h2),(h.st w2 (ha.trans h2)).2.2⟩
theorem Pm.Zh (h:Pm R bs B W x rest) (y:E) (ao:Option Addr) (cap:Nat) (t:TypeId) (hy:iX y∧bD B W (fun w2=>y.kids.At w2 w2.heap.size ao 0)):
 Pm R bs B ((W.setCell ⟨bs,4,none⟩ (.slice (some ⟨W.heap.size,0,none⟩) 1 1)).alloc (.cells #[.int .i64 y.op,.int .i64 y.n,.string y.nm,.slice ao y.kids.len cap] t)) ⟨{x.h with idx:= .cons y.op y.n y.nm y.kids .nil},x.b,x.e,{x.s with eP:=some ⟨W.heap.size,0,none⟩,dK:=1}⟩ rest:=by
 have ha:fM B W (W.setCell ⟨bs,4,none⟩ (.slice (some ⟨W.heap.size,0,none⟩) 1 1)):=bC W ⟨bs,4,none⟩ _ h.lt.1
 have hs:(W.setCell ⟨bs,4,none⟩ (.slice (some ⟨W.heap.size,0,none⟩) 1 1)).heap.size=W.heap.size:=by simp [World.setCell]
 have hb:(W.setCell ⟨bs,4,none⟩ (.slice (some ⟨W.heap.size,0,none⟩) 1 1)).heap[bs]? =some (.cells (eH.f ⟨{x.h with idx:= .cons y.op y.n y.nm y.kids .nil},x.b,x.e,{x.s with eP:=some ⟨W.heap.size,0,none⟩,dK:=1}⟩).toArray 89 (0,0)):=by rw [aR h.blk]; rfl
 have hr:=nu h.rd ⟨bs,4,none⟩ (.slice (some ⟨W.heap.size,0,none⟩) 1 1) h.b0 h.ne
 have hz:=h.sz
 generalize W.setCell ⟨bs,4,none⟩ (.slice (some ⟨W.heap.size,0,none⟩) 1 1)=W1 at *
 have hst:bD B (W1.alloc (.cells #[.int .i64 y.op,.int .i64 y.n,.string y.nm,.slice ao y.kids.len cap] t)) (fun w2=>(aH.cons y.op y.n y.nm y.kids .nil).At w2 w2.heap.size (some ⟨W.heap.size,0,none⟩) 0):=by
  rw [← hs]
  exact nO (heap_alloc_new _ _) (by omega) hy.1 ((hy.2.next ha).next (aK (ah _ _)))
 refine ⟨nQ hr _,h.lt,h.ne,h.b0,by simp; omega,(heap_alloc_old _ _ (Array.getElem?_eq_some_iff.1 hb).1).trans hb,⟨h.ok.1,h.ok.2.1,h.ok.2.2.1,h.ok.2.2.2.1,by simp [aH.len,maxLen],h.ok.2.2.2.2.2⟩,fun w2 h2=>⟨hst w2 h2,(h.st w2 ((ha.trans (aK (ah _ _))).trans h2)).2⟩⟩
theorem Pm.cell (h:Pm R bs B W x rest) {j:Nat} {u:Value} (hu:(eH.f x).toArray[j]? =some u):W.cell? ⟨bs,j,none⟩=some u:=ak h.blk hu
theorem Pm.free (h:Pm R bs B W x rest) (j:Nat):W.frozen? ⟨bs,j,none⟩=false:=aD h.blk
end
def lN (R:Rp) (bs B:Nat) (w:World) (res:aT Sx) (e:Ending) (w':World):Prop:=
 match res with
 | .ok y r=>e= .returned (.bool true)∧(∃s,Pm R bs B w' ⟨y.h,y.b,y.e,s⟩ r)∧Fr R.br bs w w'
 | .no r=>e= .returned (.bool false)∧(∃x,Pm R bs B w' x r)∧Fr R.br bs w w'
def EH (R:Rp) (w:World) (res:aT aI) (e:Ending) (w':World):Prop:=
 match res with
 | .ok b r=>(∃ao cap,e= .returned (.tuple #[.slice ao b.len cap,.bool true])∧b.len≤4096∧bD w.heap.size w' (fun w2=>b.At w2 w2.heap.size ao 0))∧aS w' R r∧w.grownBy w' (some R.br)
 | .no r=>e= .returned (.tuple #[.slice none 0 0,.bool false])∧aS w' R r∧w.grownBy w' (some R.br)
def lZ (R:Rp) (f:Nat) (ts:aj):Prop:= ∀w,aS w R ts→Calls Tryz.prog 111 #[.pointer (some ⟨R.br,0,none⟩)] w (EH R w (blk f ts))
theorem oK {R:Rp} {bs B:Nat} {w W:World} {y:Sx} {s:Sl} {r:aj} (h:Pm R bs B W ⟨y.h,y.b,y.e,s⟩ r) (hf:Fr R.br bs w W):lN R bs B w (.ok y r) (.returned (.bool true)) W:=⟨rfl,⟨s,h⟩,hf⟩
theorem gX {R:Rp} {bs B:Nat} {w W:World} {x:eH} {r:aj} (h:Pm R bs B W x r) (hf:Fr R.br bs w W):lN R bs B w (.no r) (.returned (.bool false)) W:=⟨rfl,⟨x,h⟩,hf⟩
end Go.Proofs.YtehnipchbmjlhaaGreatDoor
end
section
set_option linter.unusedSimpArgs false
set_option linter.unusedVariables false
namespace Go.Proofs.YtehnipchbmjlhaaGreatDoor
open Go.RowKit
open Md Pz
theorem gV {R:Rp} {bs B:Nat} {w W:World} {res res':aT Sx} {e:Ending} (h:res=res') (p:lN R bs B w res' e W):lN R bs B w res e W:=h ▸ p
theorem Eb:iX ⟨0,0,⟨#[]⟩,.nil⟩:=⟨og,og,Nat.zero_le _,Nat.zero_le _⟩
theorem xu {B:Nat} {W:World} :bD B W (fun w2=>(aH.nil).At w2 w2.heap.size none 0):=fun _ _=>trivial
theorem Jp:(aI.nil).len≤maxLen:=Nat.zero_le _
theorem Jd {B:Nat} {W:World} :bD B W (fun w2=>(aI.nil).At w2 w2.heap.size none 0):=fun _ _=>trivial
set_option maxHeartbeats 1000000 in
set_option maxRecDepth 100000 in
theorem wm (R:Rp) (bs B f:Nat) (r:aj) (tQ:Hid (lZ R f r)) (h:aW) (b0:aI) (s:Sl) (w:World) (hp:Pm R bs B w ⟨h,b0,.nil,s⟩ r):
 Calls Tryz.prog 171 #[.pointer (some ⟨R.br,0,none⟩),.pointer (some ⟨bs,0,none⟩)] w (lN R bs B w (lJ f h r)):=by
 have HP:=Lib.hid hp
 have HC:=Lib.hid (tQ.out w hp.rd)
 clear hp tQ
 unfold lJ
 generalize blk f r=res at *
 go_enter Tryz.func171,Tryz.ntmps171
 go_wp2_with fail
 refine HC.out.mono ?_
 cases res with
 | no q=>
   rintro e w1 ⟨rfl,h2,h3⟩
   have bY:=Lib.hid (HP.out.then h2 h3)
   have HF:=Lib.hid (Fr.bL (bs:=bs) h3)
   clear h2 h3 HP
   have c9:=bY.out.cell (j:=9) rfl
   have f9:=bY.out.free 9
   go_wp2_with fail
   go_ret
   exact gX (bY.out.body .nil none 0 Jp Jd) (HF.out.set _ _ (.inl rfl))
 | ok b q=>
   rintro e w1 ⟨⟨ao,cap,rfl,hl,hst⟩,h2,h3⟩
   have bY:=Lib.hid (HP.out.then h2 h3)
   have HF:=Lib.hid (Fr.bL (bs:=bs) h3)
   have HL:Hid (b.len≤maxLen):=Lib.hid (Nat.le_trans hl (by unfold maxLen; decide))
   have HS:=Lib.hid (hst.mono HP.out.sz)
   clear h2 h3 HP hl hst
   have c9:=bY.out.cell (j:=9) rfl
   have f9:=bY.out.free 9
   go_wp2_with fail
   go_ret
   exact oK (y:=⟨h,b,.nil⟩) (bY.out.body b ao cap HL.out HS.out) (HF.out.set _ _ (.inl rfl))
set_option maxHeartbeats 1000000 in
set_option maxRecDepth 100000 in
theorem rZ (R:Rp) (bs B:Nat) (r:aj) (h:aW) (s:Sl) (w:World) (hp:Pm R bs B w ⟨h,.nil,.nil,s⟩ r):
 Calls Tryz.prog 172 #[.pointer (some ⟨R.br,0,none⟩),.pointer (some ⟨bs,0,none⟩)] w (lN R bs B w (uV h r)):=by
 have HP:=Lib.hid hp
 clear hp
 cases hn:isName r
 ·have HR:Hid (uV h r= .no r):=Lib.hid (by unfold uV fK; rw [if_neg (by rw [hn]; decide)]; rfl)
  rw [HR.out]
  go_enter Tryz.func172,Tryz.ntmps172
  go_wp2_with fail
  refine (jZ R _ _ hn HP.out.rd).mono ?_
  rintro e w1 ⟨rfl,h2⟩
  have bY:=Lib.hid (HP.out.below h2)
  have HF:=Lib.hid (Fr.bL (br:=R.br) (bs:=bs) (aQ h2))
  clear h2 HP
  have c2:=bY.out.cell (j:=2) rfl
  have f2:=bY.out.free 2
  go_wp2_with fail
  go_ret
  exact gX (bY.out.nm ⟨#[]⟩ (Nat.zero_le _)) (HF.out.set _ _ (.inl rfl))
 ·have nT:Hid ((tx (ay r)).size≤maxLen):=Lib.hid (kZ (kY HP.out.rd.ts hn))
  have HR:Hid (uV h r=(need [59] r.tail).map fun _=>⟨{h with nm:=tx (ay r)},.nil,.nil⟩):=Lib.hid (by unfold uV fK; rw [if_pos hn]; rfl)
  rw [HR.out]
  go_enter Tryz.func172,Tryz.ntmps172
  go_wp2_with fail
  refine (jd R _ _ hn HP.out.rd).mono ?_
  rintro e w1 ⟨rfl,h2,h3⟩
  have bY:=Lib.hid (HP.out.then h2 h3)
  have HF:=Lib.hid (Fr.bL (br:=R.br) (bs:=bs) h3)
  clear h2 h3 HP
  have c2:=bY.out.cell (j:=2) rfl
  have f2:=bY.out.free 2
  go_upto_region 3 with fail
  generalize hW:World.setCell w1 _ _=W
  have aP:Hid (Pm R bs B W ⟨{h with nm:=tx (ay r)},.nil,.nil,s⟩ r.tail):=Lib.hid (by rw [← hW]; exact bY.out.nm _ nT.out)
  have eZ:Hid (Fr R.br bs w W):=Lib.hid (by rw [← hW]; exact HF.out.set _ _ (.inl rfl))
  clear hW c2 f2 bY HF
  cases h4:at' [59] r.tail
  ·go_wp2_with fail
   refine (dB R _ _ ⟨#[59]⟩ rfl h4 aP.out.rd).mono ?_
   rintro e w3 ⟨rfl,h2⟩
   have aN:=Lib.hid (aP.out.below h2)
   have cK:=Lib.hid (eZ.out.trans (Fr.bL (aQ h2)))
   clear h2
   go_wp2_with fail
   go_ret
   exact (show need [59] r.tail= .no r.tail by unfold need; rw [if_neg (by rw [h4]; decide)]) ▸ gX aN.out cK.out
  ·go_wp2_with fail
   refine (bJ R _ _ ⟨#[59]⟩ rfl h4 aP.out.rd).mono ?_
   rintro e w3 ⟨rfl,h2,h3⟩
   have aN:=Lib.hid (aP.out.then h2 h3)
   have cK:=Lib.hid (eZ.out.trans (Fr.bL h3))
   clear h2 h3
   go_wp2_with fail
   go_ret
   exact (show need [59] r.tail= .ok () r.tail.tail by unfold need; rw [if_pos h4]) ▸ oK (y:=⟨{h with nm:=tx (ay r)},.nil,.nil⟩) aN.out cK.out
theorem mK {α:Type} {x:α} {r:aj} {y:List UInt8} (h:at' y r=true):(aT.ok x r).close y= .ok x r.tail:=by show ite _ _ _=_; rw [if_pos h]
theorem mW {α:Type} {x:α} {r:aj} {y:List UInt8} (h:at' y r=false):(aT.ok x r).close y= .no r:=by show ite _ _ _=_; rw [if_neg (by rw [h]; decide)]
theorem kI {r:aj} (h:isName r=true):fK r= .ok (tx (ay r)) r.tail:=by unfold fK; rw [if_pos h]
theorem mQ {r:aj} (h:isName r=false):fK r= .no r:=by unfold fK; rw [if_neg (by rw [h]; decide)]
set_option maxHeartbeats 1000000 in
set_option maxRecDepth 100000 in
theorem rC (R:Rp) (bs B f:Nat) (r:aj) (tQ:Hid (isName r=true→lZ R f r.tail)) (h:aW) (s:Sl) (w:World) (hp:Pm R bs B w ⟨h,.nil,.nil,s⟩ r):
 Calls Tryz.prog 170 #[.pointer (some ⟨R.br,0,none⟩),.pointer (some ⟨bs,0,none⟩)] w (lN R bs B w (rE f h r)):=by
 have HP:=Lib.hid hp
 clear hp
 cases hn:isName r
 ·have HR:Hid (rE f h r= .no r):=Lib.hid (by unfold rE; rw [mQ hn]; rfl)
  rw [HR.out]
  go_enter Tryz.func170,Tryz.ntmps170
  go_wp2_with fail
  refine (jZ R _ _ hn HP.out.rd).mono ?_
  rintro e w1 ⟨rfl,h2⟩
  have bY:=Lib.hid (HP.out.below h2)
  have HF:=Lib.hid (Fr.bL (br:=R.br) (bs:=bs) (aQ h2))
  clear h2 HP
  have c2:=bY.out.cell (j:=2) rfl
  have f2:=bY.out.free 2
  go_wp2_with fail
  go_ret
  exact gX (bY.out.nm ⟨#[]⟩ (Nat.zero_le _)) (HF.out.set _ _ (.inl rfl))
 ·have nT:Hid ((tx (ay r)).size≤maxLen):=Lib.hid (kZ (kY HP.out.rd.ts hn))
  have HR:Hid (rE f h r=lJ f {h with nm:=tx (ay r)} r.tail):=Lib.hid (by unfold rE; rw [kI hn]; rfl)
  have HC:Hid (∀W,Pm R bs B W ⟨{h with nm:=tx (ay r)},.nil,.nil,s⟩ r.tail→Calls Tryz.prog 171 #[.pointer (some ⟨R.br,0,none⟩),.pointer (some ⟨bs,0,none⟩)] W (lN R bs B W (lJ f {h with nm:=tx (ay r)} r.tail))):=Lib.hid (fun W hW=>wm R bs B f r.tail (Lib.hid (tQ.out hn)) _ .nil s W hW)
  rw [HR.out]
  clear HR tQ
  generalize lJ f {h with nm:=tx (ay r)} r.tail=res at *
  go_enter Tryz.func170,Tryz.ntmps170
  go_wp2_with fail
  refine (jd R _ _ hn HP.out.rd).mono ?_
  rintro e w1 ⟨rfl,h2,h3⟩
  have bY:=Lib.hid (HP.out.then h2 h3)
  have HF:=Lib.hid (Fr.bL (br:=R.br) (bs:=bs) h3)
  clear h2 h3 HP
  have c2:=bY.out.cell (j:=2) rfl
  have f2:=bY.out.free 2
  go_upto_region 3 with fail
  generalize hW:World.setCell w1 _ _=W
  have aP:Hid (Pm R bs B W ⟨{h with nm:=tx (ay r)},.nil,.nil,s⟩ r.tail):=Lib.hid (by rw [← hW]; exact bY.out.nm _ nT.out)
  have eZ:Hid (Fr R.br bs w W):=Lib.hid (by rw [← hW]; exact HF.out.set _ _ (.inl rfl))
  clear hW c2 f2 bY HF
  go_wp2_with fail
  refine (HC.out _ aP.out).mono ?_
  cases res with
  | no q=>
    rintro e w3 ⟨rfl,⟨x,h2⟩,h3⟩
    have aN:=Lib.hid h2
    have cK:=Lib.hid (eZ.out.trans h3)
    clear h2 h3
    go_wp2_with fail
    go_ret
    exact gX aN.out cK.out
  | ok y q=>
    rintro e w3 ⟨rfl,⟨x,h2⟩,h3⟩
    have aN:=Lib.hid h2
    have cK:=Lib.hid (eZ.out.trans h3)
    clear h2 h3
    go_wp2_with fail
    go_ret
    exact oK aN.out cK.out
set_option maxHeartbeats 1000000 in
set_option maxRecDepth 100000 in
theorem KF (R:Rp) (bs B:Nat) (r:aj) (h:aW) (s:Sl) (w:World) (hp:Pm R bs B w ⟨h,.nil,.nil,s⟩ r):
 Calls Tryz.prog 173 #[.pointer (some ⟨R.br,0,none⟩),.pointer (some ⟨bs,0,none⟩)] w (lN R bs B w (Cr h r)):=by
 have HP:=Lib.hid hp
 clear hp
 cases hn:isName r
 ·have HR:Hid (Cr h r= .no r):=Lib.hid (by unfold Cr; rw [mQ hn]; rfl)
  rw [HR.out]
  go_enter Tryz.func173,Tryz.ntmps173
  go_wp2_with fail
  refine (jZ R _ _ hn HP.out.rd).mono ?_
  rintro e w1 ⟨rfl,h2⟩
  have bY:=Lib.hid (HP.out.below h2)
  have HF:=Lib.hid (Fr.bL (br:=R.br) (bs:=bs) (aQ h2))
  clear h2 HP
  have c2:=bY.out.cell (j:=2) rfl
  have f2:=bY.out.free 2
  go_wp2_with fail
  go_ret
  exact gX (bY.out.nm ⟨#[]⟩ (Nat.zero_le _)) (HF.out.set _ _ (.inl rfl))
 ·have nT:Hid ((tx (ay r)).size≤maxLen):=Lib.hid (kZ (kY HP.out.rd.ts hn))
  have HR:Hid (Cr h r=((Pz.expr r.tail).map fun x=>(⟨aW.ex {h with nm:=tx (ay r)} x,.nil,.nil⟩:Sx)).close [59]):=Lib.hid (by unfold Cr; rw [kI hn]; rfl)
  have HC:Hid (∀W,aS W R r.tail→Calls Tryz.prog 52 #[.pointer (some ⟨R.br,0,none⟩)] W (kg R W (Pz.expr r.tail))):=Lib.hid (fun W hW=>pI R r.tail W hW)
  rw [HR.out]
  clear HR
  generalize Pz.expr r.tail=res at *
  go_enter Tryz.func173,Tryz.ntmps173
  go_wp2_with fail
  refine (jd R _ _ hn HP.out.rd).mono ?_
  rintro e w1 ⟨rfl,h2,h3⟩
  have bY:=Lib.hid (HP.out.then h2 h3)
  have HF:=Lib.hid (Fr.bL (br:=R.br) (bs:=bs) h3)
  clear h2 h3 HP
  have c2:=bY.out.cell (j:=2) rfl
  have f2:=bY.out.free 2
  go_upto_region 3 with fail
  generalize hW:World.setCell w1 _ _=W
  have aP:Hid (Pm R bs B W ⟨{h with nm:=tx (ay r)},.nil,.nil,s⟩ r.tail):=Lib.hid (by rw [← hW]; exact bY.out.nm _ nT.out)
  have eZ:Hid (Fr R.br bs w W):=Lib.hid (by rw [← hW]; exact HF.out.set _ _ (.inl rfl))
  clear hW c2 f2 bY HF
  go_wp2_with fail
  refine (HC.out _ aP.out.rd).mono ?_
  cases res with
  | no q=>
    rintro e w3 ⟨rfl,h2,h3⟩
    have aN:=Lib.hid (aP.out.then h2 h3)
    have cK:=Lib.hid (eZ.out.trans (Fr.bL h3))
    clear h2 h3 aP eZ
    have c5:=aN.out.cell (j:=5) rfl
    have c6:=aN.out.cell (j:=6) rfl
    have c7:=aN.out.cell (j:=7) rfl
    have c8:=aN.out.cell (j:=8) rfl
    have f5:=aN.out.free 5
    have f6:=aN.out.free 6
    have f7:=aN.out.free 7
    have f8:=aN.out.free 8
    unfold zE
    go_wp2_with fail
    go_ret
    exact gX (aN.out.ex ⟨0,0,⟨#[]⟩,.nil⟩ none 0 Eb xu) ((((cK.out.set _ _ (.inl rfl)).set _ _ (.inl rfl)).set _ _ (.inl rfl)).set _ _ (.inl rfl))
  | ok x q=>
    rintro e w3 ⟨v,rfl,hv,h2,h3⟩
    have aN:=Lib.hid (aP.out.then h2 h3)
    have cK:=Lib.hid (eZ.out.trans (Fr.bL h3))
    have HV:=Lib.hid (hv.mono aP.out.sz)
    clear h2 h3 hv aP eZ
    obtain ⟨ao,cap,rfl,hok,hst⟩:=HV.out
    have HE:=Lib.hid (And.intro hok hst)
    clear hok hst HV
    have c5:=aN.out.cell (j:=5) rfl
    have c6:=aN.out.cell (j:=6) rfl
    have c7:=aN.out.cell (j:=7) rfl
    have c8:=aN.out.cell (j:=8) rfl
    have f5:=aN.out.free 5
    have f6:=aN.out.free 6
    have f7:=aN.out.free 7
    have f8:=aN.out.free 8
    unfold exV
    go_upto_region 6 with fail
    generalize hW:World.setCell (World.setCell (World.setCell (World.setCell w3 _ _) _ _) _ _) _ _=W5
    have jk:Hid (Pm R bs B W5 ⟨aW.ex {h with nm:=tx (ay r)} x,.nil,.nil,{s with dJ:=ao,bS:=cap}⟩ q):=Lib.hid (by rw [← hW]; exact aN.out.ex x ao cap HE.out.1 HE.out.2)
    have qL:Hid (Fr R.br bs w W5):=Lib.hid (by rw [← hW]; exact (((cK.out.set _ _ (.inl rfl)).set _ _ (.inl rfl)).set _ _ (.inl rfl)).set _ _ (.inl rfl))
    clear hW c5 c6 c7 c8 f5 f6 f7 f8 aN cK HE
    cases h4:at' [59] q
    ·go_wp2_with fail
     refine (dB R _ _ ⟨#[59]⟩ rfl h4 jk.out.rd).mono ?_
     rintro e w3 ⟨rfl,h2⟩
     have aN:=Lib.hid (jk.out.below h2)
     have cK:=Lib.hid (qL.out.trans (Fr.bL (aQ h2)))
     clear h2
     go_wp2_with fail
     go_ret
     exact gV (mW h4) (gX aN.out cK.out)
    ·go_wp2_with fail
     refine (bJ R _ _ ⟨#[59]⟩ rfl h4 jk.out.rd).mono ?_
     rintro e w3 ⟨rfl,h2,h3⟩
     have aN:=Lib.hid (jk.out.then h2 h3)
     have cK:=Lib.hid (qL.out.trans (Fr.bL h3))
     clear h2 h3
     go_wp2_with fail
     go_ret
     exact gV (mK h4) (oK (y:=⟨aW.ex {h with nm:=tx (ay r)} x,.nil,.nil⟩) aN.out cK.out)
set_option maxHeartbeats 1000000 in
set_option maxRecDepth 100000 in
theorem KH (R:Rp) (bs B:Nat) (r:aj) (h:aW) (s:Sl) (w:World) (hp:Pm R bs B w ⟨h,.nil,.nil,s⟩ r):
 Calls Tryz.prog 174 #[.pointer (some ⟨R.br,0,none⟩),.pointer (some ⟨bs,0,none⟩)] w (lN R bs B w (Cq h r)):=by
 have HP:=Lib.hid hp
 clear hp
 cases hn:isName r
 ·have HR:Hid (Cq h r= .no r):=Lib.hid (by unfold Cq; rw [mQ hn]; rfl)
  rw [HR.out]
  go_enter Tryz.func174,Tryz.ntmps174
  go_wp2_with fail
  refine (jZ R _ _ hn HP.out.rd).mono ?_
  rintro e w1 ⟨rfl,h2⟩
  have bY:=Lib.hid (HP.out.below h2)
  have HF:=Lib.hid (Fr.bL (br:=R.br) (bs:=bs) (aQ h2))
  clear h2 HP
  have c2:=bY.out.cell (j:=2) rfl
  have f2:=bY.out.free 2
  go_wp2_with fail
  go_ret
  exact gX (bY.out.nm ⟨#[]⟩ (Nat.zero_le _)) (HF.out.set _ _ (.inl rfl))
 ·have nT:Hid ((tx (ay r)).size≤maxLen):=Lib.hid (kZ (kY HP.out.rd.ts hn))
  have HR:Hid (Cq h r=((fK r.tail).map fun a=>(⟨{h with nm:=tx (ay r),arg:=a},.nil,.nil⟩:Sx)).close [59]):=Lib.hid (by unfold Cq; rw [kI hn]; rfl)
  rw [HR.out]
  clear HR
  cases hm:isName r.tail
  ·have HR:Hid (fK r.tail= .no r.tail):=Lib.hid (mQ hm)
   rw [HR.out]
   go_enter Tryz.func174,Tryz.ntmps174
   go_wp2_with fail
   refine (jd R _ _ hn HP.out.rd).mono ?_
   rintro e w1 ⟨rfl,h2,h3⟩
   have bY:=Lib.hid (HP.out.then h2 h3)
   have HF:=Lib.hid (Fr.bL (br:=R.br) (bs:=bs) h3)
   clear h2 h3 HP
   have c2:=bY.out.cell (j:=2) rfl
   have f2:=bY.out.free 2
   go_upto_region 3 with fail
   generalize hW:World.setCell w1 _ _=W
   have aP:Hid (Pm R bs B W ⟨{h with nm:=tx (ay r)},.nil,.nil,s⟩ r.tail):=Lib.hid (by rw [← hW]; exact bY.out.nm _ nT.out)
   have eZ:Hid (Fr R.br bs w W):=Lib.hid (by rw [← hW]; exact HF.out.set _ _ (.inl rfl))
   clear hW c2 f2 bY HF
   go_wp2_with fail
   refine (jZ R _ _ hm aP.out.rd).mono ?_
   rintro e w3 ⟨rfl,h2⟩
   have aN:=Lib.hid (aP.out.below h2)
   have cK:=Lib.hid (eZ.out.trans (Fr.bL (aQ h2)))
   clear h2 aP eZ
   have c3:=aN.out.cell (j:=3) rfl
   have f3:=aN.out.free 3
   go_wp2_with fail
   go_ret
   exact gX (aN.out.arg ⟨#[]⟩ (Nat.zero_le _)) (cK.out.set _ _ (.inl rfl))
  ·have Ew:Hid ((tx (ay r.tail)).size≤maxLen):=Lib.hid (kZ (kY HP.out.rd.ts.tail hm))
   have HR:Hid (fK r.tail= .ok (tx (ay r.tail)) r.tail.tail):=Lib.hid (kI hm)
   rw [HR.out]
   go_enter Tryz.func174,Tryz.ntmps174
   go_wp2_with fail
   refine (jd R _ _ hn HP.out.rd).mono ?_
   rintro e w1 ⟨rfl,h2,h3⟩
   have bY:=Lib.hid (HP.out.then h2 h3)
   have HF:=Lib.hid (Fr.bL (br:=R.br) (bs:=bs) h3)
   clear h2 h3 HP
   have c2:=bY.out.cell (j:=2) rfl
   have f2:=bY.out.free 2
   go_upto_region 3 with fail
   generalize hW:World.setCell w1 _ _=W
   have aP:Hid (Pm R bs B W ⟨{h with nm:=tx (ay r)},.nil,.nil,s⟩ r.tail):=Lib.hid (by rw [← hW]; exact bY.out.nm _ nT.out)
   have eZ:Hid (Fr R.br bs w W):=Lib.hid (by rw [← hW]; exact HF.out.set _ _ (.inl rfl))
   clear hW c2 f2 bY HF
   go_wp2_with fail
   refine (jd R _ _ hm aP.out.rd).mono ?_
   rintro e w3 ⟨rfl,h2,h3⟩
   have aN:=Lib.hid (aP.out.then h2 h3)
   have cK:=Lib.hid (eZ.out.trans (Fr.bL h3))
   clear h2 h3 aP eZ
   have c3:=aN.out.cell (j:=3) rfl
   have f3:=aN.out.free 3
   go_upto_region 6 with fail
   generalize hW:World.setCell w3 _ _=W5
   have jk:Hid (Pm R bs B W5 ⟨{h with nm:=tx (ay r),arg:=tx (ay r.tail)},.nil,.nil,s⟩ r.tail.tail):=Lib.hid (by rw [← hW]; exact aN.out.arg _ Ew.out)
   have qL:Hid (Fr R.br bs w W5):=Lib.hid (by rw [← hW]; exact cK.out.set _ _ (.inl rfl))
   clear hW c3 f3 aN cK
   cases h4:at' [59] r.tail.tail
   ·go_wp2_with fail
    refine (dB R _ _ ⟨#[59]⟩ rfl h4 jk.out.rd).mono ?_
    rintro e w3 ⟨rfl,h2⟩
    have aN:=Lib.hid (jk.out.below h2)
    have cK:=Lib.hid (qL.out.trans (Fr.bL (aQ h2)))
    clear h2
    go_wp2_with fail
    go_ret
    exact gV (mW h4) (gX aN.out cK.out)
   ·go_wp2_with fail
    refine (bJ R _ _ ⟨#[59]⟩ rfl h4 jk.out.rd).mono ?_
    rintro e w3 ⟨rfl,h2,h3⟩
    have aN:=Lib.hid (jk.out.then h2 h3)
    have cK:=Lib.hid (qL.out.trans (Fr.bL h3))
    clear h2 h3
    go_wp2_with fail
    go_ret
    exact gV (mK h4) (oK (y:=⟨{h with nm:=tx (ay r),arg:=tx (ay r.tail)},.nil,.nil⟩) aN.out cK.out)
end Go.Proofs.YtehnipchbmjlhaaGreatDoor
end
section
set_option linter.unusedSimpArgs false
set_option linter.unusedVariables false
namespace Go.Proofs.YtehnipchbmjlhaaGreatDoor
open Go.RowKit
open Md Pz
set_option maxHeartbeats 1000000 in
set_option maxRecDepth 100000 in
theorem K6 (R:Rp) (bs B f:Nat) (r:aj) (tQ:Hid (∀q,q.length < r.length→lZ R f q)) (h:aW) (s:Sl) (w:World) (hp:Pm R bs B w ⟨h,.nil,.nil,s⟩ r):
 Calls Tryz.prog 169 #[.pointer (some ⟨R.br,0,none⟩),.pointer (some ⟨bs,0,none⟩)] w (lN R bs B w (rT f h r)):=by
 have aP:=Lib.hid hp
 have eZ:=Lib.hid (Fr.refl R.br bs w)
 clear hp
 have HC:Hid (∀W,aS W R r→Calls Tryz.prog 52 #[.pointer (some ⟨R.br,0,none⟩)] W (kg R W (Pz.expr r))):=Lib.hid (fun W hW=>pI R r W hW)
 have HB2:Hid (∀x q,Pz.expr r= .ok x q→lZ R f q):=Lib.hid (fun x q e=>tQ.out q (lT e))
 clear tQ
 unfold rT
 generalize Pz.expr r=res at *
 go_enter Tryz.func169,Tryz.ntmps169
 go_wp2_with fail
 refine (HC.out _ aP.out.rd).mono ?_
 cases res with
 | no q=>
   rintro e w3 ⟨rfl,h2,h3⟩
   have aN:=Lib.hid (aP.out.then h2 h3)
   have cK:=Lib.hid (eZ.out.trans (Fr.bL h3))
   clear h2 h3 aP eZ
   have c5:=aN.out.cell (j:=5) rfl
   have c6:=aN.out.cell (j:=6) rfl
   have c7:=aN.out.cell (j:=7) rfl
   have c8:=aN.out.cell (j:=8) rfl
   have f5:=aN.out.free 5
   have f6:=aN.out.free 6
   have f7:=aN.out.free 7
   have f8:=aN.out.free 8
   unfold zE
   go_wp2_with fail
   go_ret
   exact gX (aN.out.ex ⟨0,0,⟨#[]⟩,.nil⟩ none 0 Eb xu) ((((cK.out.set _ _ (.inl rfl)).set _ _ (.inl rfl)).set _ _ (.inl rfl)).set _ _ (.inl rfl))
 | ok x q=>
   have HD:Hid (∀W s,Pm R bs B W ⟨aW.ex h x,.nil,.nil,s⟩ q→Calls Tryz.prog 171 #[.pointer (some ⟨R.br,0,none⟩),.pointer (some ⟨bs,0,none⟩)] W (lN R bs B W (lJ f (aW.ex h x) q))):=Lib.hid (fun W s hW=>wm R bs B f q (Lib.hid (HB2.out x q rfl)) _ .nil s W hW)
   rintro e w3 ⟨v,rfl,hv,h2,h3⟩
   have aN:=Lib.hid (aP.out.then h2 h3)
   have cK:=Lib.hid (eZ.out.trans (Fr.bL h3))
   have HV:=Lib.hid (hv.mono aP.out.sz)
   clear h2 h3 hv aP eZ
   obtain ⟨ao,cap,rfl,hok,hst⟩:=HV.out
   have HE:=Lib.hid (And.intro hok hst)
   clear hok hst HV
   have c5:=aN.out.cell (j:=5) rfl
   have c6:=aN.out.cell (j:=6) rfl
   have c7:=aN.out.cell (j:=7) rfl
   have c8:=aN.out.cell (j:=8) rfl
   have f5:=aN.out.free 5
   have f6:=aN.out.free 6
   have f7:=aN.out.free 7
   have f8:=aN.out.free 8
   unfold exV
   go_upto_region 3 with fail
   generalize hW:World.setCell (World.setCell (World.setCell (World.setCell w3 _ _) _ _) _ _) _ _=W5
   have jk:Hid (Pm R bs B W5 ⟨aW.ex h x,.nil,.nil,{s with dJ:=ao,bS:=cap}⟩ q):=Lib.hid (by rw [← hW]; exact aN.out.ex x ao cap HE.out.1 HE.out.2)
   have qL:Hid (Fr R.br bs w W5):=Lib.hid (by rw [← hW]; exact (((cK.out.set _ _ (.inl rfl)).set _ _ (.inl rfl)).set _ _ (.inl rfl)).set _ _ (.inl rfl))
   clear hW c5 c6 c7 c8 f5 f6 f7 f8 aN cK HE
   clear HB2 HC
   obtain ⟨res2,HR2⟩: ∃res2,Hid (lJ f (aW.ex h x) q=res2):=⟨_,Lib.hid rfl⟩
   rw [HR2.out] at HD
   go_wp2_with fail
   refine (HD.out _ _ jk.out).mono ?_
   cases res2 with
   | no q2=>
     rintro e w6 ⟨rfl,⟨x',h2⟩,h3⟩
     have jE:=Lib.hid h2
     have tT:=Lib.hid (qL.out.trans h3)
     clear h2 h3
     go_wp2_with fail
     go_ret
     exact gV HR2.out (gX jE.out tT.out)
   | ok y q2=>
     rintro e w6 ⟨rfl,⟨x',h2⟩,h3⟩
     have jE:=Lib.hid h2
     have tT:=Lib.hid (qL.out.trans h3)
     clear h2 h3
     go_wp2_with fail
     go_ret
     exact gV HR2.out (oK jE.out tT.out)
theorem Pf {f:Nat} {h:aW} {r q:aj} {y:Sx} (e:rT f h r= .ok y q):q.length < r.length∧y.e= .nil:=by
 unfold rT lJ at e
 obtain ⟨x,r1,e1,e⟩:=kM e
 obtain ⟨b,e2,rfl⟩:=map_ok e
 have:=lT e1
 have:=LV e2
 exact ⟨by omega,rfl⟩
set_option maxHeartbeats 1000000 in
set_option maxRecDepth 100000 in
theorem Rf (R:Rp) (bs B f:Nat) (r:aj) (tQ:Hid (∀q,q.length < r.length→lZ R f q)) (h:aW) (s:Sl) (w:World) (hp:Pm R bs B w ⟨h,.nil,.nil,s⟩ r):
 Calls Tryz.prog 168 #[.pointer (some ⟨R.br,0,none⟩),.pointer (some ⟨bs,0,none⟩)] w (lN R bs B w (Hf f h r)):=by
 have HD:=Lib.hid (K6 R bs B f r tQ h s w hp)
 have HL:Hid (∀y q,rT f h r= .ok y q→q.length < r.length∧y.e= .nil):=Lib.hid (fun y q e=>Pf e)
 clear hp
 unfold Hf
 generalize rT f h r=res at *
 go_enter Tryz.func168,Tryz.ntmps168
 go_wp2_with fail
 refine HD.out.mono ?_
 cases res with
 | no q=>
   rintro e w1 ⟨rfl,⟨x,h2⟩,h3⟩
   have bY:=Lib.hid h2
   have qV:=Lib.hid h3
   clear h2 h3
   go_wp2_with fail
   go_ret
   exact gX bY.out qV.out
 | ok y q=>
   have HLQ:=Lib.hid (HL.out y q rfl)
   clear HL HD
   rintro e w1 ⟨rfl,⟨sy,h2⟩,h3⟩
   have bY:=Lib.hid h2
   have qV:=Lib.hid h3
   clear h2 h3
   cases h4:at' [101,108,115,101] q
   ·go_wp2_with fail
    refine (dB R _ _ ⟨#[101,108,115,101]⟩ rfl h4 bY.out.rd).mono ?_
    rintro e w3 ⟨rfl,h2⟩
    have aN:=Lib.hid (bY.out.below h2)
    have cK:=Lib.hid (qV.out.trans (Fr.bL (aQ h2)))
    clear h2
    go_wp2_with fail
    go_ret
    exact gV (show ite _ _ _=_ from if_neg (by rw [h4]; decide)) (oK aN.out cK.out)
   ·have HC:Hid (∀W,aS W R q.tail→Calls Tryz.prog 111 #[.pointer (some ⟨R.br,0,none⟩)] W (EH R W (blk f q.tail))):=Lib.hid (tQ.out q.tail (by have:=HLQ.out.1; have:=at_len h4; omega))
    have LM:Hid ((aT.ok y q).bind (fun y r=>if at' [101,108,115,101] r then (blk f r.tail).map fun e=>(⟨y.h,y.b,e⟩:Sx) else .ok y r)=(blk f q.tail).map fun e=>⟨y.h,y.b,e⟩):=Lib.hid (show ite _ _ _=_ from if_pos h4)
    obtain ⟨res2,HR2⟩: ∃res2,Hid (blk f q.tail=res2):=⟨_,Lib.hid rfl⟩
    rw [HR2.out] at HC LM
    clear tQ HR2
    go_wp2_with fail
    refine (bJ R _ _ ⟨#[101,108,115,101]⟩ rfl h4 bY.out.rd).mono ?_
    rintro e w3 ⟨rfl,h2,h3⟩
    have aN:=Lib.hid (bY.out.then h2 h3)
    have cK:=Lib.hid (qV.out.trans (Fr.bL h3))
    clear h2 h3
    go_wp2_with fail
    refine (HC.out _ aN.out.rd).mono ?_
    cases res2 with
    | no q2=>
      rintro e w4 ⟨rfl,h2,h3⟩
      have dO:=Lib.hid (aN.out.then h2 h3)
      have fG:=Lib.hid (cK.out.trans (Fr.bL h3))
      clear h2 h3
      have c10:=dO.out.cell (j:=10) rfl
      have f10:=dO.out.free 10
      go_wp2_with fail
      go_ret
      exact gV LM.out (gX (dO.out.els .nil none 0 Jp Jd) (fG.out.set _ _ (.inl rfl)))
    | ok b q2=>
      rintro e w4 ⟨⟨ao,cap,rfl,hl,hst⟩,h2,h3⟩
      have dO:=Lib.hid (aN.out.then h2 h3)
      have fG:=Lib.hid (cK.out.trans (Fr.bL h3))
      have HL:Hid (b.len≤maxLen):=Lib.hid (Nat.le_trans hl (by unfold maxLen; decide))
      have HS:=Lib.hid (hst.mono aN.out.sz)
      clear h2 h3 hl hst
      have c10:=dO.out.cell (j:=10) rfl
      have f10:=dO.out.free 10
      go_wp2_with fail
      go_ret
      exact gV LM.out (oK (y:=⟨y.h,y.b,b⟩) (dO.out.els b ao cap HL.out HS.out) (fG.out.set _ _ (.inl rfl)))
theorem yQ {x:List UInt8} {r:aj} (h:at' x r=true):need x r= .ok () r.tail:=by unfold need; rw [if_pos h]
theorem yS {x:List UInt8} {r:aj} (h:at' x r=false):need x r= .no r:=by unfold need; rw [if_neg (by rw [h]; decide)]
def qA (h:aW) (r:aj):aT Sx:=(need [61] r).bind fun _ r=>(((Pz.expr r).map fun x=>(⟨aW.ex h x,.nil,.nil⟩:Sx)).close [59])
theorem UK {h:aW} {r:aj} (h1:at' [91] r=false):xJ h r=qA h r:=by unfold xJ; rw [if_neg (by rw [h1]; decide)]; rfl
theorem QL {h:aW} {r:aj} (h1:at' [91] r=true):xJ h r=((Pz.expr r.tail).close [93]).bind fun x r=>qA {h with idx:= .cons x.op x.n x.nm x.kids .nil} r:=by
 unfold xJ; rw [if_pos h1]
 cases (Pz.expr r.tail).close [93] <;> rfl
set_option maxHeartbeats 4000000 in
set_option maxRecDepth 100000 in
theorem EI (R:Rp) (bs B:Nat) (r:aj) (h:aW) (s:Sl) (w:World) (hp:Pm R bs B w ⟨h,.nil,.nil,s⟩ r):
 Calls Tryz.prog 157 #[.pointer (some ⟨R.br,0,none⟩),.pointer (some ⟨bs,0,none⟩)] w (lN R bs B w (wE h r)):=by
 have HP:=Lib.hid hp
 clear hp
 cases hn:isName r
 ·have HR:Hid (wE h r= .no r):=Lib.hid (by unfold wE; rw [mQ hn]; rfl)
  rw [HR.out]
  go_enter Tryz.func157,Tryz.ntmps157
  go_wp2_with fail
  refine (jZ R _ _ hn HP.out.rd).mono ?_
  rintro e w1 ⟨rfl,h2⟩
  have bY:=Lib.hid (HP.out.below h2)
  have HF:=Lib.hid (Fr.bL (br:=R.br) (bs:=bs) (aQ h2))
  clear h2 HP
  have c2:=bY.out.cell (j:=2) rfl
  have f2:=bY.out.free 2
  go_wp2_with fail
  go_ret
  exact gX (bY.out.nm ⟨#[]⟩ (Nat.zero_le _)) (HF.out.set _ _ (.inl rfl))
 ·have nT:Hid ((tx (ay r)).size≤maxLen):=Lib.hid (kZ (kY HP.out.rd.ts hn))
  have HR:Hid (wE h r=xJ {h with nm:=tx (ay r)} r.tail):=Lib.hid (by unfold wE; rw [kI hn]; rfl)
  rw [HR.out]
  clear HR
  cases h1:at' [91] r.tail
  ·have HR:Hid (xJ {h with nm:=tx (ay r)} r.tail=qA {h with nm:=tx (ay r)} r.tail):=Lib.hid (UK h1)
   rw [HR.out]
   clear HR
   go_enter Tryz.func157,Tryz.ntmps157
   go_wp2_with fail
   refine (jd R _ _ hn HP.out.rd).mono ?_
   rintro e w1 ⟨rfl,h2,h3⟩
   have bY:=Lib.hid (HP.out.then h2 h3)
   have HF:=Lib.hid (Fr.bL (br:=R.br) (bs:=bs) h3)
   clear h2 h3 HP
   have c2:=bY.out.cell (j:=2) rfl
   have f2:=bY.out.free 2
   go_upto_region 3 with fail
   generalize hW:World.setCell w1 _ _=W
   have aP:Hid (Pm R bs B W ⟨{h with nm:=tx (ay r)},.nil,.nil,s⟩ r.tail):=Lib.hid (by rw [← hW]; exact bY.out.nm _ nT.out)
   have eZ:Hid (Fr R.br bs w W):=Lib.hid (by rw [← hW]; exact HF.out.set _ _ (.inl rfl))
   clear hW c2 f2 bY HF
   go_wp2_with fail
   refine (dB R _ _ ⟨#[91]⟩ rfl h1 aP.out.rd).mono ?_
   rintro e w0 ⟨rfl,h2⟩
   have jE:=Lib.hid (aP.out.below h2)
   have tT:=Lib.hid (eZ.out.trans (Fr.bL (aQ h2)))
   clear h2 aP eZ
   cases h5:at' [61] r.tail
   ·go_wp2_with fail
    refine (dB R _ _ ⟨#[61]⟩ rfl h5 jE.out.rd).mono ?_
    rintro e w7 ⟨rfl,h2⟩
    have iL:=Lib.hid (jE.out.below h2)
    have yc:=Lib.hid (tT.out.trans (Fr.bL (aQ h2)))
    clear h2
    go_wp2_with fail
    go_ret
    exact gV (show qA _ _=_ by unfold qA; rw [yS h5]; rfl) (gX iL.out yc.out)
   ·have HC:Hid (∀W,aS W R r.tail.tail→Calls Tryz.prog 52 #[.pointer (some ⟨R.br,0,none⟩)] W (kg R W (Pz.expr r.tail.tail))):=Lib.hid (fun W hW=>pI R r.tail.tail W hW)
    have HQ:Hid (qA {h with nm:=tx (ay r)} r.tail=((Pz.expr r.tail.tail).map fun x9=>(⟨aW.ex {h with nm:=tx (ay r)} x9,.nil,.nil⟩:Sx)).close [59]):=Lib.hid (by unfold qA; rw [yQ h5]; rfl)
    generalize Pz.expr r.tail.tail=res at *
    go_wp2_with fail
    refine (bJ R _ _ ⟨#[61]⟩ rfl h5 jE.out.rd).mono ?_
    rintro e w7 ⟨rfl,h2,h3⟩
    have iL:=Lib.hid (jE.out.then h2 h3)
    have yc:=Lib.hid (tT.out.trans (Fr.bL h3))
    clear h2 h3 jE tT
    go_wp2_with fail
    refine (HC.out _ iL.out.rd).mono ?_
    cases res with
    | no q=>
      rintro e w3 ⟨rfl,h2,h3⟩
      have aN:=Lib.hid (iL.out.then h2 h3)
      have cK:=Lib.hid (yc.out.trans (Fr.bL h3))
      clear h2 h3 iL yc
      have c5:=aN.out.cell (j:=5) rfl
      have c6:=aN.out.cell (j:=6) rfl
      have c7:=aN.out.cell (j:=7) rfl
      have c8:=aN.out.cell (j:=8) rfl
      have f5:=aN.out.free 5
      have f6:=aN.out.free 6
      have f7:=aN.out.free 7
      have f8:=aN.out.free 8
      unfold zE
      go_wp2_with fail
      go_ret
      exact gV HQ.out (gX (aN.out.ex ⟨0,0,⟨#[]⟩,.nil⟩ none 0 Eb xu) ((((cK.out.set _ _ (.inl rfl)).set _ _ (.inl rfl)).set _ _ (.inl rfl)).set _ _ (.inl rfl)))
    | ok x q=>
      rintro e w3 ⟨v,rfl,hv,h2,h3⟩
      have aN:=Lib.hid (iL.out.then h2 h3)
      have cK:=Lib.hid (yc.out.trans (Fr.bL h3))
      have HV:=Lib.hid (hv.mono iL.out.sz)
      clear h2 h3 hv iL yc
      obtain ⟨ao,cap,rfl,hok,hst⟩:=HV.out
      have HE:=Lib.hid (And.intro hok hst)
      clear hok hst HV
      have c5:=aN.out.cell (j:=5) rfl
      have c6:=aN.out.cell (j:=6) rfl
      have c7:=aN.out.cell (j:=7) rfl
      have c8:=aN.out.cell (j:=8) rfl
      have f5:=aN.out.free 5
      have f6:=aN.out.free 6
      have f7:=aN.out.free 7
      have f8:=aN.out.free 8
      unfold exV
      go_upto_region 13 with fail
      generalize hW:World.setCell (World.setCell (World.setCell (World.setCell w3 _ _) _ _) _ _) _ _=W5
      have jk:Hid (Pm R bs B W5 ⟨aW.ex {h with nm:=tx (ay r)} x,.nil,.nil,{s with dJ:=ao,bS:=cap}⟩ q):=Lib.hid (by rw [← hW]; exact aN.out.ex x ao cap HE.out.1 HE.out.2)
      have qL:Hid (Fr R.br bs w W5):=Lib.hid (by rw [← hW]; exact (((cK.out.set _ _ (.inl rfl)).set _ _ (.inl rfl)).set _ _ (.inl rfl)).set _ _ (.inl rfl))
      clear hW c5 c6 c7 c8 f5 f6 f7 f8 aN cK HE
      cases h4:at' [59] q
      ·go_wp2_with fail
       refine (dB R _ _ ⟨#[59]⟩ rfl h4 jk.out.rd).mono ?_
       rintro e w3 ⟨rfl,h2⟩
       have aN:=Lib.hid (jk.out.below h2)
       have cK:=Lib.hid (qL.out.trans (Fr.bL (aQ h2)))
       clear h2
       go_wp2_with fail
       go_ret
       exact gV (HQ.out.trans (mW h4)) (gX aN.out cK.out)
      ·go_wp2_with fail
       refine (bJ R _ _ ⟨#[59]⟩ rfl h4 jk.out.rd).mono ?_
       rintro e w3 ⟨rfl,h2,h3⟩
       have aN:=Lib.hid (jk.out.then h2 h3)
       have cK:=Lib.hid (qL.out.trans (Fr.bL h3))
       clear h2 h3
       go_wp2_with fail
       go_ret
       exact gV (HQ.out.trans (mK h4)) (oK (y:=⟨aW.ex {h with nm:=tx (ay r)} x,.nil,.nil⟩) aN.out cK.out)
  ·have HR:Hid (xJ {h with nm:=tx (ay r)} r.tail=((Pz.expr r.tail.tail).close [93]).bind fun x q=>qA {h with nm:=tx (ay r),idx:= .cons x.op x.n x.nm x.kids .nil} q):=Lib.hid (QL h1)
   rw [HR.out]
   clear HR
   have HC:Hid (∀W,aS W R r.tail.tail→Calls Tryz.prog 52 #[.pointer (some ⟨R.br,0,none⟩)] W (kg R W (Pz.expr r.tail.tail))):=Lib.hid (fun W hW=>pI R r.tail.tail W hW)
   generalize Pz.expr r.tail.tail=ak4 at *
   go_enter Tryz.func157,Tryz.ntmps157
   go_wp2_with fail
   refine (jd R _ _ hn HP.out.rd).mono ?_
   rintro e w1 ⟨rfl,h2,h3⟩
   have bY:=Lib.hid (HP.out.then h2 h3)
   have HF:=Lib.hid (Fr.bL (br:=R.br) (bs:=bs) h3)
   clear h2 h3 HP
   have c2:=bY.out.cell (j:=2) rfl
   have f2:=bY.out.free 2
   go_upto_region 3 with fail
   generalize hW:World.setCell w1 _ _=W
   have aP:Hid (Pm R bs B W ⟨{h with nm:=tx (ay r)},.nil,.nil,s⟩ r.tail):=Lib.hid (by rw [← hW]; exact bY.out.nm _ nT.out)
   have eZ:Hid (Fr R.br bs w W):=Lib.hid (by rw [← hW]; exact HF.out.set _ _ (.inl rfl))
   clear hW c2 f2 bY HF
   go_wp2_with fail
   refine (bJ R _ _ ⟨#[91]⟩ rfl h1 aP.out.rd).mono ?_
   rintro e w0 ⟨rfl,h2,h3⟩
   have aN:=Lib.hid (aP.out.then h2 h3)
   have cK:=Lib.hid (eZ.out.trans (Fr.bL h3))
   clear h2 h3 aP eZ
   go_wp2_with fail
   refine (HC.out _ aN.out.rd).mono ?_
   clear HC
   cases ak4 with
   | no q=>
     rintro e w1 ⟨rfl,h2,h3⟩
     have dO:=Lib.hid (aN.out.then h2 h3)
     have fG:=Lib.hid (cK.out.trans (Fr.bL h3))
     clear h2 h3 aN cK
     unfold zE
     go_wp2_with fail
     go_ret
     exact gX (dO.out.alloc _) (fG.out.alloc _)
   | ok x q=>
     rintro e w1 ⟨v,rfl,hv,h2,h3⟩
     have dO:=Lib.hid (aN.out.then h2 h3)
     have fG:=Lib.hid (cK.out.trans (Fr.bL h3))
     have HV:=Lib.hid (hv.mono aN.out.sz)
     clear h2 h3 hv aN cK
     obtain ⟨ao,cap,rfl,hok,hst⟩:=HV.out
     have HE:=Lib.hid (And.intro hok hst)
     clear hok hst HV
     unfold exV
     go_upto_region 7 with fail
     obtain ⟨g,hg⟩: ∃g,w1.heap.size=g:=⟨_,rfl⟩
     generalize hW:World.alloc w1 _=W2
     have jk:Hid (Pm R bs B W2 ⟨{h with nm:=tx (ay r)},.nil,.nil,s⟩ q):=Lib.hid (by rw [← hW]; exact dO.out.alloc _)
     have qL:Hid (Fr R.br bs w W2):=Lib.hid (by rw [← hW]; exact fG.out.alloc _)
     have jg:Hid (W2.heap[g]? =some (.cells #[.int .i64 x.op,.int .i64 x.n,.string x.nm,.slice ao x.kids.len cap] 45 (0,0))):=Lib.hid (by rw [← hW,← hg]; exact heap_alloc_new _ _)
     have IY:Hid (iX x∧bD B W2 (fun w2=>x.kids.At w2 w2.heap.size ao 0)):=Lib.hid ⟨HE.out.1,by rw [← hW]; exact HE.out.2.next (aK (ah _ _))⟩
     have HG:Hid (B≤g∧g≠R.br):=Lib.hid (by have h1:=dO.out.sz; have h2:=dO.out.lt.2; omega)
     rw [hg]
     clear hW hg dO fG HE
     cases h4:at' [93] q
     ·go_wp2_with fail
      refine (dB R _ _ ⟨#[93]⟩ rfl h4 jk.out.rd).mono ?_
      rintro e w3 ⟨rfl,h2⟩
      have jE:=Lib.hid (jk.out.below h2)
      have tT:=Lib.hid (qL.out.trans (Fr.bL (aQ h2)))
      clear h2
      go_wp2_with fail
      go_ret
      exact gV (show aT.bind ((aT.ok x q).close [93]) _= .no q by rw [mW h4]; rfl) (gX jE.out tT.out)
     ·go_wp2_with fail
      refine (bJ R _ _ ⟨#[93]⟩ rfl h4 jk.out.rd).mono ?_
      rintro e w3 ⟨rfl,h2,h3⟩
      have jE:=Lib.hid (jk.out.then h2 h3)
      have tT:=Lib.hid (qL.out.trans (Fr.bL h3))
      have Ce:=Lib.hid ((h3.block _ (Array.getElem?_eq_some_iff.1 jg.out).1 (by simp; exact HG.out.2)).trans jg.out)
      have Ob:Hid (iX x∧bD B w3 (fun w2=>x.kids.At w2 w2.heap.size ao 0)):=Lib.hid ⟨IY.out.1,IY.out.2.next (jN h3 jk.out.lt.2)⟩
      clear h2 h3 jk qL jg IY
      have u0:w3.cell? ⟨g,0,none⟩=some (.int .i64 x.op):=ak Ce.out rfl
      have u1:w3.cell? ⟨g,1,none⟩=some (.int .i64 x.n):=ak Ce.out rfl
      have u2:w3.cell? ⟨g,2,none⟩=some (.string x.nm):=ak Ce.out rfl
      have u3:w3.cell? ⟨g,3,none⟩=some (.slice ao x.kids.len cap):=ak Ce.out rfl
      have c4:=jE.out.cell (j:=4) rfl
      have f4:=jE.out.free 4
      have hlt:bs < w3.heap.size:=Nat.lt_of_lt_of_le jE.out.lt.1 jE.out.sz
      go_upto_region 10 with fail
      generalize hW:World.alloc _ _=W8
      have lV:Hid (Pm R bs B W8 ⟨{h with nm:=tx (ay r),idx:= .cons x.op x.n x.nm x.kids .nil},.nil,.nil,{s with eP:=some ⟨w3.heap.size,0,none⟩,dK:=1}⟩ q.tail):=Lib.hid (by rw [← hW]; exact jE.out.Zh x ao cap _ Ob.out)
      have Q7:Hid (Fr R.br bs w W8):=Lib.hid (by rw [← hW]; exact (tT.out.set _ _ (.inl rfl)).alloc _)
      have LM:Hid (((aT.ok x q).close [93]).bind (fun x q=>qA {h with nm:=tx (ay r),idx:= .cons x.op x.n x.nm x.kids .nil} q)=qA {h with nm:=tx (ay r),idx:= .cons x.op x.n x.nm x.kids .nil} q.tail):=Lib.hid (by rw [mK h4]; rfl)
      clear hW c4 f4 u0 u1 u2 u3 Ce Ob hlt jE tT
      obtain ⟨s,HSL⟩: ∃s',Hid (({s with eP:=some ⟨w3.heap.size,0,none⟩,dK:=1} :Sl)=s'):=⟨_,Lib.hid rfl⟩
      rw [HSL.out] at lV
      have jE:=lV
      have tT:=Q7
      clear lV Q7 HSL h4
      cases h5:at' [61] q.tail
      ·go_wp2_with fail
       refine (dB R _ _ ⟨#[61]⟩ rfl h5 jE.out.rd).mono ?_
       rintro e w7 ⟨rfl,h2⟩
       have iL:=Lib.hid (jE.out.below h2)
       have yc:=Lib.hid (tT.out.trans (Fr.bL (aQ h2)))
       clear h2
       go_wp2_with fail
       go_ret
       exact gV (LM.out.trans (show qA _ _=_ by unfold qA; rw [yS h5]; rfl)) (gX iL.out yc.out)
      ·have HC:Hid (∀W,aS W R q.tail.tail→Calls Tryz.prog 52 #[.pointer (some ⟨R.br,0,none⟩)] W (kg R W (Pz.expr q.tail.tail))):=Lib.hid (fun W hW=>pI R q.tail.tail W hW)
       have HQ:Hid (qA {h with nm:=tx (ay r),idx:= .cons x.op x.n x.nm x.kids .nil} q.tail=((Pz.expr q.tail.tail).map fun x9=>(⟨aW.ex {h with nm:=tx (ay r),idx:= .cons x.op x.n x.nm x.kids .nil} x9,.nil,.nil⟩:Sx)).close [59]):=Lib.hid (by unfold qA; rw [yQ h5]; rfl)
       have HQ:=Lib.hid (LM.out.trans HQ.out)
       generalize Pz.expr q.tail.tail=res at *
       go_wp2_with fail
       refine (bJ R _ _ ⟨#[61]⟩ rfl h5 jE.out.rd).mono ?_
       rintro e w7 ⟨rfl,h2,h3⟩
       have iL:=Lib.hid (jE.out.then h2 h3)
       have yc:=Lib.hid (tT.out.trans (Fr.bL h3))
       clear h2 h3 jE tT
       go_wp2_with fail
       refine (HC.out _ iL.out.rd).mono ?_
       cases res with
       | no q=>
         rintro e w3 ⟨rfl,h2,h3⟩
         have aN:=Lib.hid (iL.out.then h2 h3)
         have cK:=Lib.hid (yc.out.trans (Fr.bL h3))
         clear h2 h3 iL yc
         have c5:=aN.out.cell (j:=5) rfl
         have c6:=aN.out.cell (j:=6) rfl
         have c7:=aN.out.cell (j:=7) rfl
         have c8:=aN.out.cell (j:=8) rfl
         have f5:=aN.out.free 5
         have f6:=aN.out.free 6
         have f7:=aN.out.free 7
         have f8:=aN.out.free 8
         unfold zE
         go_wp2_with fail
         go_ret
         exact gV HQ.out (gX (aN.out.ex ⟨0,0,⟨#[]⟩,.nil⟩ none 0 Eb xu) ((((cK.out.set _ _ (.inl rfl)).set _ _ (.inl rfl)).set _ _ (.inl rfl)).set _ _ (.inl rfl)))
       | ok x' q'=>
         rintro e w3 ⟨v,rfl,hv,h2,h3⟩
         have aN:=Lib.hid (iL.out.then h2 h3)
         have cK:=Lib.hid (yc.out.trans (Fr.bL h3))
         have HV:=Lib.hid (hv.mono iL.out.sz)
         clear h2 h3 hv iL yc
         obtain ⟨kC,cap2,rfl,hok,hst⟩:=HV.out
         have HE:=Lib.hid (And.intro hok hst)
         clear hok hst HV
         have c5:=aN.out.cell (j:=5) rfl
         have c6:=aN.out.cell (j:=6) rfl
         have c7:=aN.out.cell (j:=7) rfl
         have c8:=aN.out.cell (j:=8) rfl
         have f5:=aN.out.free 5
         have f6:=aN.out.free 6
         have f7:=aN.out.free 7
         have f8:=aN.out.free 8
         unfold exV
         go_upto_region 13 with fail
         generalize hW:World.setCell (World.setCell (World.setCell (World.setCell w3 _ _) _ _) _ _) _ _=W5
         have jk:Hid (Pm R bs B W5 ⟨aW.ex {h with nm:=tx (ay r),idx:= .cons x.op x.n x.nm x.kids .nil} x',.nil,.nil,{s with dJ:=kC,bS:=cap2}⟩ q'):=Lib.hid (by rw [← hW]; exact aN.out.ex x' kC cap2 HE.out.1 HE.out.2)
         have qL:Hid (Fr R.br bs w W5):=Lib.hid (by rw [← hW]; exact (((cK.out.set _ _ (.inl rfl)).set _ _ (.inl rfl)).set _ _ (.inl rfl)).set _ _ (.inl rfl))
         clear hW c5 c6 c7 c8 f5 f6 f7 f8 aN cK HE
         cases h4:at' [59] q'
         ·go_wp2_with fail
          refine (dB R _ _ ⟨#[59]⟩ rfl h4 jk.out.rd).mono ?_
          rintro e w3 ⟨rfl,h2⟩
          have aN:=Lib.hid (jk.out.below h2)
          have cK:=Lib.hid (qL.out.trans (Fr.bL (aQ h2)))
          clear h2
          go_wp2_with fail
          go_ret
          exact gV (HQ.out.trans (mW h4)) (gX aN.out cK.out)
         ·go_wp2_with fail
          refine (bJ R _ _ ⟨#[59]⟩ rfl h4 jk.out.rd).mono ?_
          rintro e w3 ⟨rfl,h2,h3⟩
          have aN:=Lib.hid (jk.out.then h2 h3)
          have cK:=Lib.hid (qL.out.trans (Fr.bL h3))
          clear h2 h3
          go_wp2_with fail
          go_ret
          exact gV (HQ.out.trans (mK h4)) (oK (y:=⟨aW.ex {h with nm:=tx (ay r),idx:= .cons x.op x.n x.nm x.kids .nil} x',.nil,.nil⟩) aN.out cK.out)
end Go.Proofs.YtehnipchbmjlhaaGreatDoor
end
section
set_option linter.unusedSimpArgs false
set_option linter.unusedVariables false
namespace Go.Proofs.YtehnipchbmjlhaaGreatDoor
open Go.RowKit
open Md Pz
def oW (R:Rp) (w:World) (res:aT aI) (e:Ending) (w':World):Prop:=
 match res with
 | .ok l r=>(∃x:eH,l=one x.h x.b x.e∧e= .returned (.tuple #[eB x.h x.b x.e x.s,.bool true])∧oD x.h x.b x.e∧bD w.heap.size w' (eH.I x))∧aS w' R r∧w.grownBy w' (some R.br)
 | .no r=>(∃x:eH,e= .returned (.tuple #[eB x.h x.b x.e x.s,.bool false]))∧aS w' R r∧w.grownBy w' (some R.br)
def lH:Array Value:= #[.int .i64 0,.int .i64 0,.string ⟨#[]⟩,.string ⟨#[]⟩,.slice none 0 0,.int .i64 0,.int .i64 0,.string ⟨#[]⟩,.slice none 0 0,.slice none 0 0,.slice none 0 0]
theorem mM {w w':World} {R:Rp} {rest:aj} {b:Nat} (h:aS w R rest) (hg:w.grownBy w' (some b)) (h0:R.B0≤b) (h1:b≠R.br):aS w' R rest:=by
 obtain ⟨pos,k1,k2,k3⟩:=h.blk
 exact ⟨⟨pos,k1,k2,(hg.block _ h.lt (by simp; omega)).trans k3⟩,h.tok.below (dX hg h0 (Nat.le_trans R.b0 (Nat.le_of_lt h.lt))),h.ok,h.tl⟩
theorem jF {br:Nat} {w w':World} (h:w.grownBy w' (some br)) (b o:Nat) (vs:List Value) (hb:w.heap.size≤b):w.grownBy (w'.setCells b o vs) (some br):=
 have k:=aO b vs o w'
 ⟨k.os.trans h.os,k.tape.trans h.tape,k.output.trans h.output,Nat.le_trans h.size k.size,fun j hj hn=>(k.block j (Nat.lt_of_lt_of_le hj h.size) (by simp; omega)).trans (h.block j hj hn)⟩
theorem rX {R:Rp} {bs B:Nat} {w W:World} {x:eH} {r:aj} (hP:Pm R bs B W x r) (hg:w.grownBy W (some R.br)) (hl:R.br < w.heap.size) (hB:w.heap.size < B):
 oW R w (.ok (one x.h x.b x.e) r) (.returned (.tuple #[eB x.h x.b x.e x.s,.bool true])) (W.setCells w.heap.size 0 (eH.f x)):=
 ⟨⟨x,rfl,rfl,hP.ok,(hP.st.next ⟨(aO w.heap.size _ 0 W).size,fun k h1 h2=>(aO w.heap.size _ 0 W).block k h2 (by simp; omega)⟩).mono (Nat.le_of_lt hB)⟩,mM hP.rd (aO _ _ _ _) (by have:=R.b0; omega) (by omega),jF hg _ _ _ (Nat.le_refl _)⟩
theorem oH {R:Rp} {bs B:Nat} {w W:World} {x:eH} {r:aj} (hP:Pm R bs B W x r) (hg:w.grownBy W (some R.br)) (hl:R.br < w.heap.size):
 oW R w (.no r) (.returned (.tuple #[eB x.h x.b x.e x.s,.bool false])) (W.setCells w.heap.size 0 (eH.f x)):=
 ⟨⟨x,rfl⟩,mM hP.rd (aO _ _ _ _) (by have:=R.b0; omega) (by omega),jF hg _ _ _ (Nat.le_refl _)⟩
theorem qU {w:World} {b:Nat} {t:TypeId} (h:w.heap[b]? =some (.cells lH t (0,0))):
 (w.cell? ⟨b,0,none⟩=some (.int .i64 0)∧w.cell? ⟨b,1,none⟩=some (.int .i64 0)∧w.cell? ⟨b,2,none⟩=some (.string ⟨#[]⟩)∧w.cell? ⟨b,3,none⟩=some (.string ⟨#[]⟩)∧w.cell? ⟨b,4,none⟩=some (.slice none 0 0)∧w.cell? ⟨b,5,none⟩=some (.int .i64 0)∧w.cell? ⟨b,6,none⟩=some (.int .i64 0)∧w.cell? ⟨b,7,none⟩=some (.string ⟨#[]⟩)∧w.cell? ⟨b,8,none⟩=some (.slice none 0 0)∧w.cell? ⟨b,9,none⟩=some (.slice none 0 0)∧w.cell? ⟨b,10,none⟩=some (.slice none 0 0))∧ ∀j,w.frozen? ⟨b,j,none⟩=false:=
 ⟨⟨ak h rfl,ak h rfl,ak h rfl,ak h rfl,ak h rfl,ak h rfl,ak h rfl,ak h rfl,ak h rfl,ak h rfl,ak h rfl⟩,fun _=>aD h⟩
theorem gW {R:Rp} {bs B:Nat} {W:World} {x:eH} {r:aj} (h:Pm R bs B W x r):
 W.cell? ⟨bs,0,none⟩=some (.int .i64 x.h.op)∧W.cell? ⟨bs,1,none⟩=some (.int .i64 x.h.line)∧W.cell? ⟨bs,2,none⟩=some (.string x.h.nm)∧W.cell? ⟨bs,3,none⟩=some (.string x.h.arg)∧W.cell? ⟨bs,4,none⟩=some (.slice x.s.eP x.h.idx.len x.s.dK)∧W.cell? ⟨bs,5,none⟩=some (.int .i64 x.h.bM)∧W.cell? ⟨bs,6,none⟩=some (.int .i64 x.h.xn)∧W.cell? ⟨bs,7,none⟩=some (.string x.h.bP)∧W.cell? ⟨bs,8,none⟩=some (.slice x.s.dJ x.h.aJ.len x.s.bS)∧W.cell? ⟨bs,9,none⟩=some (.slice x.s.bR x.b.len x.s.aZ)∧W.cell? ⟨bs,10,none⟩=some (.slice x.s.dY x.e.len x.s.dA):=
 ⟨h.cell rfl,h.cell rfl,h.cell rfl,h.cell rfl,h.cell rfl,h.cell rfl,h.cell rfl,h.cell rfl,h.cell rfl,h.cell rfl,h.cell rfl⟩
theorem lM {R:Rp} {w w1:World} {ts:aj} {kv:Value} {sv:Value} (hI:aS w R ts) (hB:Below w.heap.size w w1) (hz:w1.heap[w.heap.size]? =some (.cells lH 89 (0,0))) (hL:aV ((aU ts:Nat):Int)) (gt:Nat) (hg:w1.heap.size=gt):
 ∀W,((w1.alloc (.cells #[kv,sv,.int .i64 ((aU ts:Nat):Int)] 112)).alloc (.cells #[.int .i64 0,.int .i64 ((aU ts:Nat):Int),.string ⟨#[]⟩,.string ⟨#[]⟩,.slice none 0 0,.int .i64 0,.int .i64 0,.string ⟨#[]⟩,.slice none 0 0,.slice none 0 0,.slice none 0 0] 89))=W→
 Pm R (gt + 1) (gt + 2) W ⟨hd 0 ((aU ts:Nat):Int),.nil,.nil,zS⟩ ts∧Below w.heap.size w W∧W.heap[w.heap.size]? =some (.cells lH 89 (0,0))∧W.cell? ⟨gt,0,none⟩=some kv∧W.cell? ⟨gt,1,none⟩=some sv∧w.heap.size < gt:=by
 intro W hW
 have h0:=(Array.getElem?_eq_some_iff.1 hz).1
 have hb1:Below w.heap.size w (w1.alloc (.cells #[kv,sv,.int .i64 ((aU ts:Nat):Int)] 112)):=hB.alloc hB.size _
 have ht:(w1.alloc (.cells #[kv,sv,.int .i64 ((aU ts:Nat):Int)] 112)).heap[gt]? =some (.cells #[kv,sv,.int .i64 ((aU ts:Nat):Int)] 112 (0,0)):=by rw [← hg]; exact heap_alloc_new _ _
 have hz1:(w1.alloc (.cells #[kv,sv,.int .i64 ((aU ts:Nat):Int)] 112)).heap[w.heap.size]? =some (.cells lH 89 (0,0)):=(heap_alloc_old _ _ h0).trans hz
 have hs1:(w1.alloc (.cells #[kv,sv,.int .i64 ((aU ts:Nat):Int)] 112)).heap.size=gt + 1:=by simp [hg]
 generalize w1.alloc (.cells #[kv,sv,.int .i64 ((aU ts:Nat):Int)] 112)=W1 at *
 have hb2:Below w.heap.size w W:=by rw [← hW]; exact hb1.alloc hb1.size _
 have ht2:W.heap[gt]? =some (.cells #[kv,sv,.int .i64 ((aU ts:Nat):Int)] 112 (0,0)):=by rw [← hW]; exact (heap_alloc_old _ _ (Array.getElem?_eq_some_iff.1 ht).1).trans ht
 refine ⟨⟨hI.below hb2,⟨by omega,by have:=hI.lt; omega⟩,by have:=hI.lt; omega,by have:=hI.lt; have:=R.b0; omega,by rw [← hW]; simp; omega,by rw [← hW,← hs1]; exact heap_alloc_new _ _,⟨og,hL,Nat.zero_le _,Nat.zero_le _,Nat.zero_le _,Eb,Nat.zero_le _,Nat.zero_le _⟩,fun _ _=>⟨trivial,trivial,trivial,trivial⟩⟩,hb2,?_,ak ht2 rfl,ak ht2 rfl,by omega⟩
 rw [← hW]; exact (heap_alloc_old _ _ (Array.getElem?_eq_some_iff.1 hz1).1).trans hz1
theorem kr {w:World} {R:Rp} {ts:aj} (hI:aS w R ts):aV ((aU ts:Nat):Int):=by
 cases ts with
 | nil=>exact og
 | cons t r=>have:=(hI.U2 t (by simp)).1; show aV (t.line:Int); unfold aV; omega
theorem gI {br bs k:Nat} {w w':World} {o:Obj} (h:Fr br bs w w') (hk:w.heap[k]? =some o) (h1:k≠br) (h2:k≠bs):w'.heap[k]? =some o:=(h.block k (Array.getElem?_eq_some_iff.1 hk).1 h1 h2).trans hk
set_option maxHeartbeats 4000000 in
set_option maxRecDepth 100000 in
theorem EA (R:Rp) (f:Nat) (ts:aj) (w:World) (hI:aS w R ts) (h1:(nextK ts == 1)=true):
 Calls Tryz.prog 130 #[.pointer (some ⟨R.br,0,none⟩)] w (oW R w (ps (f + 1) true ts)):=by
 rw [UO h1]
 have hk:nextK ts=1:=by simpa using h1
 clear h1
 have HI:=Lib.hid hI
 have HL:=Lib.hid (kr hI)
 have hlt:=hI.lt
 go_enter Tryz.func130,Tryz.ntmps130
 go_upto_region 1 with fail
 generalize hW:World.alloc w _=W0
 have HB0:Hid (Below w.heap.size w W0):=Lib.hid (by rw [← hW]; exact ah _ _)
 have HZ0:Hid (W0.heap[w.heap.size]? =some (.cells lH 89 (0,0))):=Lib.hid (by rw [← hW]; exact heap_alloc_new _ _)
 have HN:=Lib.hid (gJ R ts W0 (HI.out.below HB0.out))
 unfold kE at HN
 rw [hk] at HN
 clear hW hI hk
 go_wp2_with fail
 refine HN.out.mono ?_
 rintro e w1 ⟨rfl,h2⟩
 have HB1:=Lib.hid (HB0.out.trans (h2.mono HB0.out.size))
 have HZ1:=Lib.hid ((h2.block _ (Array.getElem?_eq_some_iff.1 HZ0.out).1).trans HZ0.out)
 clear h2 HN HB0 HZ0
 go_upto_region 3 with fail
 obtain ⟨gt,hg⟩: ∃g,w1.heap.size=g:=⟨_,rfl⟩
 rw [hg]
 generalize hW:World.alloc (World.alloc w1 _) _=W2
 have aP:=Lib.hid (lM HI.out HB1.out HZ1.out HL.out gt hg W2 hW)
 have e0:=aP.out.2.2.2.1
 have e1:=aP.out.2.2.2.2.1
 have aX:Hid (R.br < w.heap.size∧w.heap.size < gt):=Lib.hid ⟨hlt,aP.out.2.2.2.2.2⟩
 clear hW hg HB1 HZ1
 have f0:=aP.out.1.free 0
 have c0:=aP.out.1.cell (j:=0) rfl
 go_upto_region 6 with fail
 generalize hW:World.setCell W2 _ _=W3
 have aN:Hid (Pm R (gt + 1) (gt + 2) W3 ⟨hd 1 ((aU ts:Nat):Int),.nil,.nil,zS⟩ ts):=Lib.hid (by rw [← hW]; exact aP.out.1.op 1 (by unfold aV; decide))
 have cK:Hid (Fr R.br (gt + 1) W2 W3):=Lib.hid (by rw [← hW]; exact (Fr.refl _ _ _).set _ _ (.inl rfl))
 clear hW f0 c0 e0 e1
 have HC:=Lib.hid (EI R (gt + 1) (gt + 2) ts (hd 1 ((aU ts:Nat):Int)) zS W3 aN.out)
 generalize wE (hd 1 ((aU ts:Nat):Int)) ts=res at *
 go_wp2_with fail
 refine HC.out.mono ?_
 cases res with
 | no q=>
   rintro e w4 ⟨rfl,⟨x,h2⟩,h3⟩
   have dO:=Lib.hid h2
   have fG:=Lib.hid (cK.out.trans h3)
   clear h2 h3
   have eO:=Lib.hid (gI fG.out aP.out.2.2.1 (by have:=aX.out; omega) (by have:=aX.out; omega))
   obtain ⟨⟨y0,y1,y2,y3,y4,y5,y6,y7,y8,y9,iP⟩,fz⟩:=qU eO.out
   have z0:=fz 0
   have z1:=fz 1
   have z2:=fz 2
   have z3:=fz 3
   have z4:=fz 4
   have z5:=fz 5
   have z6:=fz 6
   have z7:=fz 7
   have z8:=fz 8
   have z9:=fz 9
   have nW:=fz 10
   obtain ⟨d0,d1,d2,d3,d4,d5,d6,d7,d8,d9,lG⟩:=gW dO.out
   clear fz
   go_wp2_with fail
   exact bodyPost_ret (v:= .tuple #[eB x.h x.b x.e x.s,.bool false]) (by simp [results,Tryz.results130,go_sem,eB,y0,y1,y2,y3,y4,y5,y6,y7,y8,y9,iP]) rfl (oH dO.out (fG.out.gr aP.out.2.1 (by have:=aX.out; omega)) aX.out.1)
 | ok y q=>
   rintro e w4 ⟨rfl,⟨s,h2⟩,h3⟩
   have dO:=Lib.hid h2
   have fG:=Lib.hid (cK.out.trans h3)
   clear h2 h3
   have eO:=Lib.hid (gI fG.out aP.out.2.2.1 (by have:=aX.out; omega) (by have:=aX.out; omega))
   obtain ⟨⟨y0,y1,y2,y3,y4,y5,y6,y7,y8,y9,iP⟩,fz⟩:=qU eO.out
   have z0:=fz 0
   have z1:=fz 1
   have z2:=fz 2
   have z3:=fz 3
   have z4:=fz 4
   have z5:=fz 5
   have z6:=fz 6
   have z7:=fz 7
   have z8:=fz 8
   have z9:=fz 9
   have nW:=fz 10
   obtain ⟨d0,d1,d2,d3,d4,d5,d6,d7,d8,d9,lG⟩:=gW dO.out
   clear fz
   go_wp2_with fail
   exact bodyPost_ret (v:= .tuple #[eB y.h y.b y.e s,.bool true]) (by simp [results,Tryz.results130,go_sem,eB,y0,y1,y2,y3,y4,y5,y6,y7,y8,y9,iP]) rfl (rX dO.out (fG.out.gr aP.out.2.1 (by have:=aX.out; omega)) aX.out.1 (by have:=aX.out; omega))
set_option maxHeartbeats 4000000 in
set_option maxRecDepth 100000 in
theorem DF (R:Rp) (f:Nat) (ts:aj) (w:World) (hI:aS w R ts) (h1:(nextK ts == 1)=false) (h3:(nextK ts == 3)=false):
 Calls Tryz.prog 130 #[.pointer (some ⟨R.br,0,none⟩)] w (oW R w (ps (f + 1) true ts)):=by
 rw [R6 h1 h3]
 obtain ⟨k,hk⟩: ∃k,nextK ts=k:=⟨_,rfl⟩
 have k1:((k:Int) == 1)=false:=by rw [← hk]; exact (pG 1 ts).symm.trans h1
 have k3:((k:Int) == 3)=false:=by rw [← hk]; exact (pG 3 ts).symm.trans h3
 clear h1 h3
 have HI:=Lib.hid hI
 have HL:=Lib.hid (kr hI)
 have hlt:=hI.lt
 go_enter Tryz.func130,Tryz.ntmps130
 go_upto_region 1 with fail
 generalize hW:World.alloc w _=W0
 have HB0:Hid (Below w.heap.size w W0):=Lib.hid (by rw [← hW]; exact ah _ _)
 have HZ0:Hid (W0.heap[w.heap.size]? =some (.cells lH 89 (0,0))):=Lib.hid (by rw [← hW]; exact heap_alloc_new _ _)
 have HN:=Lib.hid (gJ R ts W0 (HI.out.below HB0.out))
 unfold kE at HN
 rw [hk] at HN
 clear hW hI hk
 go_wp2_with fail
 refine HN.out.mono ?_
 rintro e w1 ⟨rfl,h2⟩
 have HB1:=Lib.hid (HB0.out.trans (h2.mono HB0.out.size))
 have HZ1:=Lib.hid ((h2.block _ (Array.getElem?_eq_some_iff.1 HZ0.out).1).trans HZ0.out)
 clear h2 HN HB0 HZ0
 go_upto_region 3 with fail
 obtain ⟨gt,hg⟩: ∃g,w1.heap.size=g:=⟨_,rfl⟩
 rw [hg]
 generalize hW:World.alloc (World.alloc w1 _) _=W2
 have aP:=Lib.hid (lM HI.out HB1.out HZ1.out HL.out gt hg W2 hW)
 have e0:=aP.out.2.2.2.1
 have e1:=aP.out.2.2.2.2.1
 have aX:Hid (R.br < w.heap.size∧w.heap.size < gt):=Lib.hid ⟨hlt,aP.out.2.2.2.2.2⟩
 clear hW hg HB1 HZ1
 obtain ⟨⟨y0,y1,y2,y3,y4,y5,y6,y7,y8,y9,iP⟩,fz⟩:=qU aP.out.2.2.1
 have z0:=fz 0
 have z1:=fz 1
 have z2:=fz 2
 have z3:=fz 3
 have z4:=fz 4
 have z5:=fz 5
 have z6:=fz 6
 have z7:=fz 7
 have z8:=fz 8
 have z9:=fz 9
 have nW:=fz 10
 obtain ⟨d0,d1,d2,d3,d4,d5,d6,d7,d8,d9,lG⟩:=gW aP.out.1
 clear fz
 go_wp2_with fail
 exact bodyPost_ret (v:= .tuple #[eB (hd 0 ((aU ts:Nat):Int)) .nil .nil zS,.bool false]) (by simp [results,Tryz.results130,go_sem,eB,y0,y1,y2,y3,y4,y5,y6,y7,y8,y9,iP,hd,zS,aH.len,aI.len]) rfl (oH aP.out.1 (aQ aP.out.2.1) aX.out.1)
theorem Zz (w:World):(binOp .eql 198 .nilFunc .nilFunc).run Tryz.prog w= .ok (.bool true) w:=by kernel_rfl
set_option maxHeartbeats 4000000 in
set_option maxRecDepth 100000 in
theorem Fu (R:Rp) (f:Nat) (ts:aj) (w:World) (hI:aS w R ts) (h1:(nextK ts == 1)=false) (h3:(nextK ts == 3)=true) (h0:(gQ (ay ts) == 0)=true):
 Calls Tryz.prog 130 #[.pointer (some ⟨R.br,0,none⟩)] w (oW R w (ps (f + 1) true ts)):=by
 rw [Ve h1 h3 h0]
 have hk:nextK ts=3:=by simpa using h3
 have iG:Hid (∀w,Calls Tryz.prog 158 #[.string (tx (ay ts))] w fun e w'=>e= .returned (.tuple #[.int .i64 0,.nilFunc])∧w=w'):=Lib.hid (fun w=>by
  have:=Ia (tx (ay ts)) (l:=ay ts) rfl w
  rw [show gQ (ay ts)=0 by simpa using h0] at this; exact this)
 clear h1 h3 h0
 have hnf:=Zz
 have HI:=Lib.hid hI
 have HL:=Lib.hid (kr hI)
 have hlt:=hI.lt
 go_enter Tryz.func130,Tryz.ntmps130
 go_upto_region 1 with fail
 generalize hW:World.alloc w _=W0
 have HB0:Hid (Below w.heap.size w W0):=Lib.hid (by rw [← hW]; exact ah _ _)
 have HZ0:Hid (W0.heap[w.heap.size]? =some (.cells lH 89 (0,0))):=Lib.hid (by rw [← hW]; exact heap_alloc_new _ _)
 have HN:=Lib.hid (gJ R ts W0 (HI.out.below HB0.out))
 unfold kE at HN
 rw [hk] at HN
 clear hW hI hk
 go_wp2_with fail
 refine HN.out.mono ?_
 rintro e w1 ⟨rfl,h2⟩
 have HB1:=Lib.hid (HB0.out.trans (h2.mono HB0.out.size))
 have HZ1:=Lib.hid ((h2.block _ (Array.getElem?_eq_some_iff.1 HZ0.out).1).trans HZ0.out)
 clear h2 HN HB0 HZ0
 go_upto_region 3 with fail
 obtain ⟨gt,hg⟩: ∃g,w1.heap.size=g:=⟨_,rfl⟩
 rw [hg]
 generalize hW:World.alloc (World.alloc w1 _) _=W2
 have aP:=Lib.hid (lM HI.out HB1.out HZ1.out HL.out gt hg W2 hW)
 have e0:=aP.out.2.2.2.1
 have e1:=aP.out.2.2.2.2.1
 have aX:Hid (R.br < w.heap.size∧w.heap.size < gt):=Lib.hid ⟨hlt,aP.out.2.2.2.2.2⟩
 clear hW hg HB1 HZ1
 go_wp2_with fail
 refine (iG.out _).mono ?_
 rintro e w3 ⟨rfl,rfl⟩
 obtain ⟨⟨y0,y1,y2,y3,y4,y5,y6,y7,y8,y9,iP⟩,fz⟩:=qU aP.out.2.2.1
 have z0:=fz 0
 have z1:=fz 1
 have z2:=fz 2
 have z3:=fz 3
 have z4:=fz 4
 have z5:=fz 5
 have z6:=fz 6
 have z7:=fz 7
 have z8:=fz 8
 have z9:=fz 9
 have nW:=fz 10
 obtain ⟨d0,d1,d2,d3,d4,d5,d6,d7,d8,d9,lG⟩:=gW aP.out.1
 clear fz
 go_wp2_with fail
 exact bodyPost_ret (v:= .tuple #[eB (hd 0 ((aU ts:Nat):Int)) .nil .nil zS,.bool false]) (by simp [results,Tryz.results130,go_sem,eB,y0,y1,y2,y3,y4,y5,y6,y7,y8,y9,iP,hd,zS,aH.len,aI.len]) rfl (oH aP.out.1 (aQ aP.out.2.1) aX.out.1)
end Go.Proofs.YtehnipchbmjlhaaGreatDoor
end
