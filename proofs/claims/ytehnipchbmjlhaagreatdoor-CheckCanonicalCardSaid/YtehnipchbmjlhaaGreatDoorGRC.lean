/-
  A statement under way, in memory; what its reading leaves. No walk in sight.
  Contracts of the reader's plainBlock, namedBlock, named, setting, getting.
  Contracts of the reader's loop, conditional, assignment.
  Contract of the reader's statement.
-/
import Derived.Test.YtehnipchbmjlhaaGreatDoorGRB
import Derived.Test.YtehnipchbmjlhaaGreatDoorGZB
import Derived.Test.YtehnipchbmjlhaaGreatDoorGMB
set_option linter.unusedSimpArgs false
set_option linter.unusedVariables false
set_option maxHeartbeats 40000000
set_option maxRecDepth 1000000
section
namespace Go.Proofs.YtehnipchbmjlhaaGreatDoor
open Go.RowKit
open Md Pz
structure Fr (br bs:Nat) (w w':World):Prop where
 os:w'.os=w.os
 tape:w'.tape=w.tape
 output:w'.output=w.output
 size:w.heap.size≤w'.heap.size
 block: ∀k,k < w.heap.size→k≠br→k≠bs→w'.heap[k]? =w.heap[k]?
section
variable {br bs:Nat} {w w1 w2 w':World}
theorem Fr.refl (br bs:Nat) (w:World):Fr br bs w w:=⟨rfl,rfl,rfl,Nat.le_refl _,fun _ _ _ _=>rfl⟩
theorem Fr.trans (h:Fr br bs w w1) (k:Fr br bs w1 w2):Fr br bs w w2:=
 ⟨k.os.trans h.os,k.tape.trans h.tape,k.output.trans h.output,Nat.le_trans h.size k.size,fun j hj h1 h2=>(k.block j (Nat.lt_of_lt_of_le hj h.size) h1 h2).trans (h.block j hj h1 h2)⟩
theorem Fr.bZ (h:w.grownBy w' (some br)):Fr br bs w w':=⟨h.os,h.tape,h.output,h.size,fun k hk h1 _=>h.block k hk (by simp; exact h1)⟩
theorem Fr.set (h:Fr br bs w w') (a:Addr) (v:Value) (ha:a.block=bs∨w.heap.size≤a.block):Fr br bs w (w'.setCell a v):=
 ⟨h.os,h.tape,h.output,by have:=h.size; simpa [World.setCell] using this,fun k hk h1 h2=>(bJ w' a v rfl (by omega)).trans (h.block k hk h1 h2)⟩
theorem Fr.alloc (h:Fr br bs w w') (o:Obj):Fr br bs w (w'.alloc o):=h.trans (Fr.bZ (bK (ah _ _)))
theorem Fr.gr (h:Fr br bs w1 w') (hb:Below w.heap.size w w1) (hs:w.heap.size≤bs):w.grownBy w' (some br):=
 ⟨h.os.trans hb.os,h.tape.trans hb.tape,h.output.trans hb.output,Nat.le_trans hb.size h.size,fun k hk h1=>(h.block k (Nat.lt_of_lt_of_le hk hb.size) (by simpa using h1) (by omega)).trans (hb.block k hk)⟩
end
def zS:Sl:=⟨none,0,none,0,none,0,none,0⟩
structure Pm (R:Rp) (bs B:Nat) (w:World) (x:gB) (rest:aA):Prop where
 rd:aW w R rest
 lt:bs < B∧R.br < B
 ne:bs≠R.br
 b0:R.B0≤bs
 sz:B≤w.heap.size
 blk:w.heap[bs]? =some (.cells (gB.f x).toArray 89 (0,0))
 ok:oW x.h x.b x.e
 st:dB B w (gB.I x)
section
variable {R:Rp} {bs B:Nat} {w W W':World} {x:gB} {rest rest':aA}
theorem Pm.then (h:Pm R bs B W x rest) (h1:aW W' R rest') (h2:W.grownBy W' (some R.br)):Pm R bs B W' x rest':=
 ⟨h1,h.lt,h.ne,h.b0,Nat.le_trans h.sz h2.size,(h2.block _ (Nat.lt_of_lt_of_le h.lt.1 h.sz) (by simp; exact h.ne)).trans h.blk,h.ok,h.st.next (nL h2 h.lt.2)⟩
theorem Pm.below (h:Pm R bs B W x rest) (hb:Below W.heap.size W W'):Pm R bs B W' x rest:=h.then (h.rd.below hb) (bK hb)
theorem Pm.alloc (h:Pm R bs B W x rest) (o:Obj):Pm R bs B (W.alloc o) x rest:=h.below (ah _ _)
theorem Pm.put (h:Pm R bs B W x rest) (j:Nat) (v:Value) {y:gB} (hy:(gB.f x).toArray.setIfInBounds j v=(gB.f y).toArray) (hok:oW y.h y.b y.e) (hst:dB B W (gB.I y)):Pm R bs B (W.setCell ⟨bs,j,none⟩ v) y rest:=
 ⟨nO h.rd _ v h.b0 h.ne,h.lt,h.ne,h.b0,by have:=h.sz; simpa [World.setCell] using this,by rw [bQ h.blk,hy],hok,hst.next (dO W ⟨bs,j,none⟩ v h.lt.1)⟩
theorem Pm.nm (h:Pm R bs B W x rest) (s:ByteArray) (hs:s.size≤maxLen):Pm R bs B (W.setCell ⟨bs,2,none⟩ (.string s)) ⟨{x.h with nm:=s},x.b,x.e,x.s⟩ rest:=
 h.put 2 _ rfl ⟨h.ok.1,h.ok.2.1,hs,h.ok.2.2.2⟩ h.st
theorem Pm.arg (h:Pm R bs B W x rest) (s:ByteArray) (hs:s.size≤maxLen):Pm R bs B (W.setCell ⟨bs,3,none⟩ (.string s)) ⟨{x.h with arg:=s},x.b,x.e,x.s⟩ rest:=
 h.put 3 _ rfl ⟨h.ok.1,h.ok.2.1,h.ok.2.2.1,hs,h.ok.2.2.2.2⟩ h.st
theorem Pm.op (h:Pm R bs B W x rest) (n:Int) (hn:aU n):Pm R bs B (W.setCell ⟨bs,0,none⟩ (.int .i64 n)) ⟨{x.h with op:=n},x.b,x.e,x.s⟩ rest:=
 h.put 0 _ rfl ⟨hn,h.ok.2⟩ h.st
theorem Pm.body (h:Pm R bs B W x rest) (l:aN) (ao:Option Addr) (cap:Nat) (hl:l.len≤maxLen) (hst:dB B W (fun w2=>l.At w2 w2.heap.size ao 0)):
 Pm R bs B (W.setCell ⟨bs,9,none⟩ (.slice ao l.len cap)) ⟨x.h,l,x.e,{x.s with bG:=ao,aS:=cap}⟩ rest:=
 h.put 9 _ rfl ⟨h.ok.1,h.ok.2.1,h.ok.2.2.1,h.ok.2.2.2.1,h.ok.2.2.2.2.1,h.ok.2.2.2.2.2.1,hl,h.ok.2.2.2.2.2.2.2⟩ (fun w2 h2=>⟨(h.st w2 h2).1,(h.st w2 h2).2.1,hst w2 h2,(h.st w2 h2).2.2.2⟩)
theorem Pm.els (h:Pm R bs B W x rest) (l:aN) (ao:Option Addr) (cap:Nat) (hl:l.len≤maxLen) (hst:dB B W (fun w2=>l.At w2 w2.heap.size ao 0)):
 Pm R bs B (W.setCell ⟨bs,10,none⟩ (.slice ao l.len cap)) ⟨x.h,x.b,l,{x.s with dw:=ao,bR:=cap}⟩ rest:=
 h.put 10 _ rfl ⟨h.ok.1,h.ok.2.1,h.ok.2.2.1,h.ok.2.2.2.1,h.ok.2.2.2.2.1,h.ok.2.2.2.2.2.1,h.ok.2.2.2.2.2.2.1,hl⟩ (fun w2 h2=>⟨(h.st w2 h2).1,(h.st w2 h2).2.1,(h.st w2 h2).2.2.1,hst w2 h2⟩)
def Lr (w:World) (b:Nat) (v0 v1 v2 v3:Value):World:=(((w.setCell ⟨b,5,none⟩ v0).setCell ⟨b,6,none⟩ v1).setCell ⟨b,7,none⟩ v2).setCell ⟨b,8,none⟩ v3
theorem Pm.ex (h:Pm R bs B W x rest) (y:E) (ao:Option Addr) (cap:Nat) (hy:mO y) (hst:dB B W (fun w2=>y.kids.At w2 w2.heap.size ao 0)):
 Pm R bs B (Lr W bs (.int .i64 y.op) (.int .i64 y.n) (.string y.nm) (.slice ao y.kids.len cap)) ⟨aV.ex x.h y,x.b,x.e,{x.s with bS:=ao,bf:=cap}⟩ rest:=by
 have ha:gK B W (Lr W bs (.int .i64 y.op) (.int .i64 y.n) (.string y.nm) (.slice ao y.kids.len cap)):=by
  have x1:gK B W _:=dO W ⟨bs,5,none⟩ (.int .i64 y.op) h.lt.1
  have x2:=x1.trans (dO _ ⟨bs,6,none⟩ (.int .i64 y.n) h.lt.1)
  have x3:=x2.trans (dO _ ⟨bs,7,none⟩ (.string y.nm) h.lt.1)
  exact x3.trans (dO _ ⟨bs,8,none⟩ (.slice ao y.kids.len cap) h.lt.1)
 refine ⟨nO (nO (nO (nO h.rd _ _ h.b0 h.ne) _ _ h.b0 h.ne) _ _ h.b0 h.ne) _ _ h.b0 h.ne,h.lt,h.ne,h.b0,Nat.le_trans h.sz ha.1,?_,⟨h.ok.1,h.ok.2.1,h.ok.2.2.1,h.ok.2.2.2.1,h.ok.2.2.2.2.1,hy,h.ok.2.2.2.2.2.2⟩,?_⟩
 ·unfold Lr
  rw [bQ (bQ (bQ (bQ h.blk _) _) _) _]; rfl
 ·exact fun w2 h2=>⟨(h.st w2 (ha.trans h2)).1,hst w2 (ha.trans h2),(h.st w2 (ha.trans h2)).2.2⟩
theorem Pm.aj5 (h:Pm R bs B W x rest) (y:E) (ao:Option Addr) (cap:Nat) (t:TypeId) (hy:mO y∧dB B W (fun w2=>y.kids.At w2 w2.heap.size ao 0)):
 Pm R bs B ((W.setCell ⟨bs,4,none⟩ (.slice (some ⟨W.heap.size,0,none⟩) 1 1)).alloc (.cells #[.int .i64 y.op,.int .i64 y.n,.string y.nm,.slice ao y.kids.len cap] t)) ⟨{x.h with idx:= .cons y.op y.n y.nm y.kids .nil},x.b,x.e,{x.s with dF:=some ⟨W.heap.size,0,none⟩,bT:=1}⟩ rest:=by
 have ha:gK B W (W.setCell ⟨bs,4,none⟩ (.slice (some ⟨W.heap.size,0,none⟩) 1 1)):=dO W ⟨bs,4,none⟩ _ h.lt.1
 have hs:(W.setCell ⟨bs,4,none⟩ (.slice (some ⟨W.heap.size,0,none⟩) 1 1)).heap.size=W.heap.size:=by simp [World.setCell]
 have hb:(W.setCell ⟨bs,4,none⟩ (.slice (some ⟨W.heap.size,0,none⟩) 1 1)).heap[bs]? =some (.cells (gB.f ⟨{x.h with idx:= .cons y.op y.n y.nm y.kids .nil},x.b,x.e,{x.s with dF:=some ⟨W.heap.size,0,none⟩,bT:=1}⟩).toArray 89 (0,0)):=by rw [bQ h.blk]; rfl
 have hr:=nO h.rd ⟨bs,4,none⟩ (.slice (some ⟨W.heap.size,0,none⟩) 1 1) h.b0 h.ne
 have hz:=h.sz
 generalize W.setCell ⟨bs,4,none⟩ (.slice (some ⟨W.heap.size,0,none⟩) 1 1)=W1 at *
 have hst:dB B (W1.alloc (.cells #[.int .i64 y.op,.int .i64 y.n,.string y.nm,.slice ao y.kids.len cap] t)) (fun w2=>(aP.cons y.op y.n y.nm y.kids .nil).At w2 w2.heap.size (some ⟨W.heap.size,0,none⟩) 0):=by
  rw [← hs]
  exact rE (heap_alloc_new _ _) (by omega) hy.1 ((hy.2.next ha).next (aY (ah _ _)))
 refine ⟨oC hr _,h.lt,h.ne,h.b0,by simp; omega,(heap_alloc_old _ _ (Array.getElem?_eq_some_iff.1 hb).1).trans hb,⟨h.ok.1,h.ok.2.1,h.ok.2.2.1,h.ok.2.2.2.1,by simp [aP.len,maxLen],h.ok.2.2.2.2.2⟩,fun w2 h2=>⟨hst w2 h2,(h.st w2 ((ha.trans (aY (ah _ _))).trans h2)).2⟩⟩
theorem Pm.cell (h:Pm R bs B W x rest) {j:Nat} {u:Value} (hu:(gB.f x).toArray[j]? =some u):W.cell? ⟨bs,j,none⟩=some u:=aG h.blk hu
theorem Pm.free (h:Pm R bs B W x rest) (j:Nat):W.frozen? ⟨bs,j,none⟩=false:=aK h.blk
end
def lU (R:Rp) (bs B:Nat) (w:World) (res:bn Sx) (e:Ending) (w':World):Prop:=
 match res with
 | .ok y r=>e= .returned (.bool true)∧(∃s,Pm R bs B w' ⟨y.h,y.b,y.e,s⟩ r)∧Fr R.br bs w w'
 | .no r=>e= .returned (.bool false)∧(∃x,Pm R bs B w' x r)∧Fr R.br bs w w'
def Es (R:Rp) (w:World) (res:bn aN) (e:Ending) (w':World):Prop:=
 match res with
 | .ok b r=>(∃ao cap,e= .returned (.tuple #[.slice ao b.len cap,.bool true])∧b.len≤4096∧dB w.heap.size w' (fun w2=>b.At w2 w2.heap.size ao 0))∧aW w' R r∧w.grownBy w' (some R.br)
 | .no r=>e= .returned (.tuple #[.slice none 0 0,.bool false])∧aW w' R r∧w.grownBy w' (some R.br)
def mJ (R:Rp) (f:Nat) (ts:aA):Prop:= ∀w,aW w R ts→Calls Tryz.prog 111 #[.pointer (some ⟨R.br,0,none⟩)] w (Es R w (blk f ts))
theorem pz {R:Rp} {bs B:Nat} {w W:World} {y:Sx} {s:Sl} {r:aA} (h:Pm R bs B W ⟨y.h,y.b,y.e,s⟩ r) (hf:Fr R.br bs w W):lU R bs B w (.ok y r) (.returned (.bool true)) W:=⟨rfl,⟨s,h⟩,hf⟩
theorem gY {R:Rp} {bs B:Nat} {w W:World} {x:gB} {r:aA} (h:Pm R bs B W x r) (hf:Fr R.br bs w W):lU R bs B w (.no r) (.returned (.bool false)) W:=⟨rfl,⟨x,h⟩,hf⟩
end Go.Proofs.YtehnipchbmjlhaaGreatDoor
end
section
namespace Go.Proofs.YtehnipchbmjlhaaGreatDoor
open Go.RowKit
open Md Pz
theorem gW {R:Rp} {bs B:Nat} {w W:World} {res res':bn Sx} {e:Ending} (h:res=res') (p:lU R bs B w res' e W):lU R bs B w res e W:=h ▸ p
theorem Db:mO ⟨0,0,⟨#[]⟩,.nil⟩:=⟨sw,sw,Nat.zero_le _,Nat.zero_le _⟩
theorem wh {B:Nat} {W:World} :dB B W (fun w2=>(aP.nil).At w2 w2.heap.size none 0):=fun _ _=>trivial
theorem GQ:(aN.nil).len≤maxLen:=Nat.zero_le _
theorem IW {B:Nat} {W:World} :dB B W (fun w2=>(aN.nil).At w2 w2.heap.size none 0):=fun _ _=>trivial
theorem wH (R:Rp) (bs B f:Nat) (r:aA) (tT:Hid (mJ R f r)) (h:aV) (b0:aN) (s:Sl) (w:World) (hp:Pm R bs B w ⟨h,b0,.nil,s⟩ r):
 Calls Tryz.prog 171 #[.pointer (some ⟨R.br,0,none⟩),.pointer (some ⟨bs,0,none⟩)] w (lU R bs B w (lM f h r)):=by
 have HP:=Lib.hid hp
 have HC:=Lib.hid (tT.out w hp.rd)
 clear hp tT
 unfold lM
 generalize blk f r=res at *
 go_enter Tryz.func171,Tryz.ntmps171
 go_wp2_with fail
 refine HC.out.mono ?_
 cases res with
 | no q=>
   rintro e w1 ⟨rfl,h2,h3⟩
   have dA:=Lib.hid (HP.out.then h2 h3)
   have HF:=Lib.hid (Fr.bZ (bs:=bs) h3)
   clear h2 h3 HP
   have c9:=dA.out.cell (j:=9) rfl
   have f9:=dA.out.free 9
   go_wp2_with fail
   go_ret
   exact gY (dA.out.body .nil none 0 GQ IW) (HF.out.set _ _ (.inl rfl))
 | ok b q=>
   rintro e w1 ⟨⟨ao,cap,rfl,hl,hst⟩,h2,h3⟩
   have dA:=Lib.hid (HP.out.then h2 h3)
   have HF:=Lib.hid (Fr.bZ (bs:=bs) h3)
   have HL:Hid (b.len≤maxLen):=Lib.hid (Nat.le_trans hl (by unfold maxLen; decide))
   have HS:=Lib.hid (hst.mono HP.out.sz)
   clear h2 h3 HP hl hst
   have c9:=dA.out.cell (j:=9) rfl
   have f9:=dA.out.free 9
   go_wp2_with fail
   go_ret
   exact pz (y:=⟨h,b,.nil⟩) (dA.out.body b ao cap HL.out HS.out) (HF.out.set _ _ (.inl rfl))
theorem sJ (R:Rp) (bs B:Nat) (r:aA) (h:aV) (s:Sl) (w:World) (hp:Pm R bs B w ⟨h,.nil,.nil,s⟩ r):
 Calls Tryz.prog 172 #[.pointer (some ⟨R.br,0,none⟩),.pointer (some ⟨bs,0,none⟩)] w (lU R bs B w (uI h r)):=by
 have HP:=Lib.hid hp
 clear hp
 cases hn:isName r
 ·have HR:Hid (uI h r= .no r):=Lib.hid (by unfold uI gu; rw [if_neg (by rw [hn]; decide)]; rfl)
  rw [HR.out]
  go_enter Tryz.func172,Tryz.ntmps172
  go_wp2_with fail
  refine (jZ R _ _ hn HP.out.rd).mono ?_
  rintro e w1 ⟨rfl,h2⟩
  have dA:=Lib.hid (HP.out.below h2)
  have HF:=Lib.hid (Fr.bZ (br:=R.br) (bs:=bs) (bK h2))
  clear h2 HP
  have c2:=dA.out.cell (j:=2) rfl
  have f2:=dA.out.free 2
  go_wp2_with fail
  go_ret
  exact gY (dA.out.nm ⟨#[]⟩ (Nat.zero_le _)) (HF.out.set _ _ (.inl rfl))
 ·have qA:Hid ((tx (aF r)).size≤maxLen):=Lib.hid (mH (mK HP.out.rd.ts hn))
  have HR:Hid (uI h r=(need [59] r.tail).map fun _=>⟨{h with nm:=tx (aF r)},.nil,.nil⟩):=Lib.hid (by unfold uI gu; rw [if_pos hn]; rfl)
  rw [HR.out]
  go_enter Tryz.func172,Tryz.ntmps172
  go_wp2_with fail
  refine (jf R _ _ hn HP.out.rd).mono ?_
  rintro e w1 ⟨rfl,h2,h3⟩
  have dA:=Lib.hid (HP.out.then h2 h3)
  have HF:=Lib.hid (Fr.bZ (br:=R.br) (bs:=bs) h3)
  clear h2 h3 HP
  have c2:=dA.out.cell (j:=2) rfl
  have f2:=dA.out.free 2
  go_upto_region 3 with fail
  generalize hW:World.setCell w1 _ _=W
  have aT:Hid (Pm R bs B W ⟨{h with nm:=tx (aF r)},.nil,.nil,s⟩ r.tail):=Lib.hid (by rw [← hW]; exact dA.out.nm _ qA.out)
  have eU:Hid (Fr R.br bs w W):=Lib.hid (by rw [← hW]; exact HF.out.set _ _ (.inl rfl))
  clear hW c2 f2 dA HF
  cases h4:at' [59] r.tail
  ·go_wp2_with fail
   refine (dK R _ _ ⟨#[59]⟩ rfl h4 aT.out.rd).mono ?_
   rintro e w3 ⟨rfl,h2⟩
   have aR:=Lib.hid (aT.out.below h2)
   have dD:=Lib.hid (eU.out.trans (Fr.bZ (bK h2)))
   clear h2
   go_wp2_with fail
   go_ret
   exact (show need [59] r.tail= .no r.tail by unfold need; rw [if_neg (by rw [h4]; decide)]) ▸ gY aR.out dD.out
  ·go_wp2_with fail
   refine (bW R _ _ ⟨#[59]⟩ rfl h4 aT.out.rd).mono ?_
   rintro e w3 ⟨rfl,h2,h3⟩
   have aR:=Lib.hid (aT.out.then h2 h3)
   have dD:=Lib.hid (eU.out.trans (Fr.bZ h3))
   clear h2 h3
   go_wp2_with fail
   go_ret
   exact (show need [59] r.tail= .ok () r.tail.tail by unfold need; rw [if_pos h4]) ▸ pz (y:=⟨{h with nm:=tx (aF r)},.nil,.nil⟩) aR.out dD.out
theorem nI {α:Type} {x:α} {r:aA} {y:List UInt8} (h:at' y r=true):(bn.ok x r).close y= .ok x r.tail:=by show ite _ _ _=_; rw [if_pos h]
theorem nk {α:Type} {x:α} {r:aA} {y:List UInt8} (h:at' y r=false):(bn.ok x r).close y= .no r:=by show ite _ _ _=_; rw [if_neg (by rw [h]; decide)]
theorem kK {r:aA} (h:isName r=true):gu r= .ok (tx (aF r)) r.tail:=by unfold gu; rw [if_pos h]
theorem nD {r:aA} (h:isName r=false):gu r= .no r:=by unfold gu; rw [if_neg (by rw [h]; decide)]
theorem rM (R:Rp) (bs B f:Nat) (r:aA) (tT:Hid (isName r=true→mJ R f r.tail)) (h:aV) (s:Sl) (w:World) (hp:Pm R bs B w ⟨h,.nil,.nil,s⟩ r):
 Calls Tryz.prog 170 #[.pointer (some ⟨R.br,0,none⟩),.pointer (some ⟨bs,0,none⟩)] w (lU R bs B w (rV f h r)):=by
 have HP:=Lib.hid hp
 clear hp
 cases hn:isName r
 ·have HR:Hid (rV f h r= .no r):=Lib.hid (by unfold rV; rw [nD hn]; rfl)
  rw [HR.out]
  go_enter Tryz.func170,Tryz.ntmps170
  go_wp2_with fail
  refine (jZ R _ _ hn HP.out.rd).mono ?_
  rintro e w1 ⟨rfl,h2⟩
  have dA:=Lib.hid (HP.out.below h2)
  have HF:=Lib.hid (Fr.bZ (br:=R.br) (bs:=bs) (bK h2))
  clear h2 HP
  have c2:=dA.out.cell (j:=2) rfl
  have f2:=dA.out.free 2
  go_wp2_with fail
  go_ret
  exact gY (dA.out.nm ⟨#[]⟩ (Nat.zero_le _)) (HF.out.set _ _ (.inl rfl))
 ·have qA:Hid ((tx (aF r)).size≤maxLen):=Lib.hid (mH (mK HP.out.rd.ts hn))
  have HR:Hid (rV f h r=lM f {h with nm:=tx (aF r)} r.tail):=Lib.hid (by unfold rV; rw [kK hn]; rfl)
  have HC:Hid (∀W,Pm R bs B W ⟨{h with nm:=tx (aF r)},.nil,.nil,s⟩ r.tail→Calls Tryz.prog 171 #[.pointer (some ⟨R.br,0,none⟩),.pointer (some ⟨bs,0,none⟩)] W (lU R bs B W (lM f {h with nm:=tx (aF r)} r.tail))):=Lib.hid (fun W hW=>wH R bs B f r.tail (Lib.hid (tT.out hn)) _ .nil s W hW)
  rw [HR.out]
  clear HR tT
  generalize lM f {h with nm:=tx (aF r)} r.tail=res at *
  go_enter Tryz.func170,Tryz.ntmps170
  go_wp2_with fail
  refine (jf R _ _ hn HP.out.rd).mono ?_
  rintro e w1 ⟨rfl,h2,h3⟩
  have dA:=Lib.hid (HP.out.then h2 h3)
  have HF:=Lib.hid (Fr.bZ (br:=R.br) (bs:=bs) h3)
  clear h2 h3 HP
  have c2:=dA.out.cell (j:=2) rfl
  have f2:=dA.out.free 2
  go_upto_region 3 with fail
  generalize hW:World.setCell w1 _ _=W
  have aT:Hid (Pm R bs B W ⟨{h with nm:=tx (aF r)},.nil,.nil,s⟩ r.tail):=Lib.hid (by rw [← hW]; exact dA.out.nm _ qA.out)
  have eU:Hid (Fr R.br bs w W):=Lib.hid (by rw [← hW]; exact HF.out.set _ _ (.inl rfl))
  clear hW c2 f2 dA HF
  go_wp2_with fail
  refine (HC.out _ aT.out).mono ?_
  cases res with
  | no q=>
    rintro e w3 ⟨rfl,⟨x,h2⟩,h3⟩
    have aR:=Lib.hid h2
    have dD:=Lib.hid (eU.out.trans h3)
    clear h2 h3
    go_wp2_with fail
    go_ret
    exact gY aR.out dD.out
  | ok y q=>
    rintro e w3 ⟨rfl,⟨x,h2⟩,h3⟩
    have aR:=Lib.hid h2
    have dD:=Lib.hid (eU.out.trans h3)
    clear h2 h3
    go_wp2_with fail
    go_ret
    exact pz aR.out dD.out
theorem Jy (R:Rp) (bs B:Nat) (r:aA) (h:aV) (s:Sl) (w:World) (hp:Pm R bs B w ⟨h,.nil,.nil,s⟩ r):
 Calls Tryz.prog 173 #[.pointer (some ⟨R.br,0,none⟩),.pointer (some ⟨bs,0,none⟩)] w (lU R bs B w (Cc h r)):=by
 have HP:=Lib.hid hp
 clear hp
 cases hn:isName r
 ·have HR:Hid (Cc h r= .no r):=Lib.hid (by unfold Cc; rw [nD hn]; rfl)
  rw [HR.out]
  go_enter Tryz.func173,Tryz.ntmps173
  go_wp2_with fail
  refine (jZ R _ _ hn HP.out.rd).mono ?_
  rintro e w1 ⟨rfl,h2⟩
  have dA:=Lib.hid (HP.out.below h2)
  have HF:=Lib.hid (Fr.bZ (br:=R.br) (bs:=bs) (bK h2))
  clear h2 HP
  have c2:=dA.out.cell (j:=2) rfl
  have f2:=dA.out.free 2
  go_wp2_with fail
  go_ret
  exact gY (dA.out.nm ⟨#[]⟩ (Nat.zero_le _)) (HF.out.set _ _ (.inl rfl))
 ·have qA:Hid ((tx (aF r)).size≤maxLen):=Lib.hid (mH (mK HP.out.rd.ts hn))
  have HR:Hid (Cc h r=((Pz.expr r.tail).map fun x=>(⟨aV.ex {h with nm:=tx (aF r)} x,.nil,.nil⟩:Sx)).close [59]):=Lib.hid (by unfold Cc; rw [kK hn]; rfl)
  have HC:Hid (∀W,aW W R r.tail→Calls Tryz.prog 52 #[.pointer (some ⟨R.br,0,none⟩)] W (kE R W (Pz.expr r.tail))):=Lib.hid (fun W hW=>sU R r.tail W hW)
  rw [HR.out]
  clear HR
  generalize Pz.expr r.tail=res at *
  go_enter Tryz.func173,Tryz.ntmps173
  go_wp2_with fail
  refine (jf R _ _ hn HP.out.rd).mono ?_
  rintro e w1 ⟨rfl,h2,h3⟩
  have dA:=Lib.hid (HP.out.then h2 h3)
  have HF:=Lib.hid (Fr.bZ (br:=R.br) (bs:=bs) h3)
  clear h2 h3 HP
  have c2:=dA.out.cell (j:=2) rfl
  have f2:=dA.out.free 2
  go_upto_region 3 with fail
  generalize hW:World.setCell w1 _ _=W
  have aT:Hid (Pm R bs B W ⟨{h with nm:=tx (aF r)},.nil,.nil,s⟩ r.tail):=Lib.hid (by rw [← hW]; exact dA.out.nm _ qA.out)
  have eU:Hid (Fr R.br bs w W):=Lib.hid (by rw [← hW]; exact HF.out.set _ _ (.inl rfl))
  clear hW c2 f2 dA HF
  go_wp2_with fail
  refine (HC.out _ aT.out.rd).mono ?_
  cases res with
  | no q=>
    rintro e w3 ⟨rfl,h2,h3⟩
    have aR:=Lib.hid (aT.out.then h2 h3)
    have dD:=Lib.hid (eU.out.trans (Fr.bZ h3))
    clear h2 h3 aT eU
    have c5:=aR.out.cell (j:=5) rfl
    have c6:=aR.out.cell (j:=6) rfl
    have c7:=aR.out.cell (j:=7) rfl
    have c8:=aR.out.cell (j:=8) rfl
    have f5:=aR.out.free 5
    have f6:=aR.out.free 6
    have f7:=aR.out.free 7
    have f8:=aR.out.free 8
    unfold zE
    go_wp2_with fail
    go_ret
    exact gY (aR.out.ex ⟨0,0,⟨#[]⟩,.nil⟩ none 0 Db wh) ((((dD.out.set _ _ (.inl rfl)).set _ _ (.inl rfl)).set _ _ (.inl rfl)).set _ _ (.inl rfl))
  | ok x q=>
    rintro e w3 ⟨v,rfl,hv,h2,h3⟩
    have aR:=Lib.hid (aT.out.then h2 h3)
    have dD:=Lib.hid (eU.out.trans (Fr.bZ h3))
    have HV:=Lib.hid (hv.mono aT.out.sz)
    clear h2 h3 hv aT eU
    obtain ⟨ao,cap,rfl,hok,hst⟩:=HV.out
    have HE:=Lib.hid (And.intro hok hst)
    clear hok hst HV
    have c5:=aR.out.cell (j:=5) rfl
    have c6:=aR.out.cell (j:=6) rfl
    have c7:=aR.out.cell (j:=7) rfl
    have c8:=aR.out.cell (j:=8) rfl
    have f5:=aR.out.free 5
    have f6:=aR.out.free 6
    have f7:=aR.out.free 7
    have f8:=aR.out.free 8
    unfold exV
    go_upto_region 6 with fail
    generalize hW:World.setCell (World.setCell (World.setCell (World.setCell w3 _ _) _ _) _ _) _ _=W5
    have jm:Hid (Pm R bs B W5 ⟨aV.ex {h with nm:=tx (aF r)} x,.nil,.nil,{s with bS:=ao,bf:=cap}⟩ q):=Lib.hid (by rw [← hW]; exact aR.out.ex x ao cap HE.out.1 HE.out.2)
    have rA:Hid (Fr R.br bs w W5):=Lib.hid (by rw [← hW]; exact (((dD.out.set _ _ (.inl rfl)).set _ _ (.inl rfl)).set _ _ (.inl rfl)).set _ _ (.inl rfl))
    clear hW c5 c6 c7 c8 f5 f6 f7 f8 aR dD HE
    cases h4:at' [59] q
    ·go_wp2_with fail
     refine (dK R _ _ ⟨#[59]⟩ rfl h4 jm.out.rd).mono ?_
     rintro e w3 ⟨rfl,h2⟩
     have aR:=Lib.hid (jm.out.below h2)
     have dD:=Lib.hid (rA.out.trans (Fr.bZ (bK h2)))
     clear h2
     go_wp2_with fail
     go_ret
     exact gW (nk h4) (gY aR.out dD.out)
    ·go_wp2_with fail
     refine (bW R _ _ ⟨#[59]⟩ rfl h4 jm.out.rd).mono ?_
     rintro e w3 ⟨rfl,h2,h3⟩
     have aR:=Lib.hid (jm.out.then h2 h3)
     have dD:=Lib.hid (rA.out.trans (Fr.bZ h3))
     clear h2 h3
     go_wp2_with fail
     go_ret
     exact gW (nI h4) (pz (y:=⟨aV.ex {h with nm:=tx (aF r)} x,.nil,.nil⟩) aR.out dD.out)
theorem JI (R:Rp) (bs B:Nat) (r:aA) (h:aV) (s:Sl) (w:World) (hp:Pm R bs B w ⟨h,.nil,.nil,s⟩ r):
 Calls Tryz.prog 174 #[.pointer (some ⟨R.br,0,none⟩),.pointer (some ⟨bs,0,none⟩)] w (lU R bs B w (Ca h r)):=by
 have HP:=Lib.hid hp
 clear hp
 cases hn:isName r
 ·have HR:Hid (Ca h r= .no r):=Lib.hid (by unfold Ca; rw [nD hn]; rfl)
  rw [HR.out]
  go_enter Tryz.func174,Tryz.ntmps174
  go_wp2_with fail
  refine (jZ R _ _ hn HP.out.rd).mono ?_
  rintro e w1 ⟨rfl,h2⟩
  have dA:=Lib.hid (HP.out.below h2)
  have HF:=Lib.hid (Fr.bZ (br:=R.br) (bs:=bs) (bK h2))
  clear h2 HP
  have c2:=dA.out.cell (j:=2) rfl
  have f2:=dA.out.free 2
  go_wp2_with fail
  go_ret
  exact gY (dA.out.nm ⟨#[]⟩ (Nat.zero_le _)) (HF.out.set _ _ (.inl rfl))
 ·have qA:Hid ((tx (aF r)).size≤maxLen):=Lib.hid (mH (mK HP.out.rd.ts hn))
  have HR:Hid (Ca h r=((gu r.tail).map fun a=>(⟨{h with nm:=tx (aF r),arg:=a},.nil,.nil⟩:Sx)).close [59]):=Lib.hid (by unfold Ca; rw [kK hn]; rfl)
  rw [HR.out]
  clear HR
  cases hm:isName r.tail
  ·have HR:Hid (gu r.tail= .no r.tail):=Lib.hid (nD hm)
   rw [HR.out]
   go_enter Tryz.func174,Tryz.ntmps174
   go_wp2_with fail
   refine (jf R _ _ hn HP.out.rd).mono ?_
   rintro e w1 ⟨rfl,h2,h3⟩
   have dA:=Lib.hid (HP.out.then h2 h3)
   have HF:=Lib.hid (Fr.bZ (br:=R.br) (bs:=bs) h3)
   clear h2 h3 HP
   have c2:=dA.out.cell (j:=2) rfl
   have f2:=dA.out.free 2
   go_upto_region 3 with fail
   generalize hW:World.setCell w1 _ _=W
   have aT:Hid (Pm R bs B W ⟨{h with nm:=tx (aF r)},.nil,.nil,s⟩ r.tail):=Lib.hid (by rw [← hW]; exact dA.out.nm _ qA.out)
   have eU:Hid (Fr R.br bs w W):=Lib.hid (by rw [← hW]; exact HF.out.set _ _ (.inl rfl))
   clear hW c2 f2 dA HF
   go_wp2_with fail
   refine (jZ R _ _ hm aT.out.rd).mono ?_
   rintro e w3 ⟨rfl,h2⟩
   have aR:=Lib.hid (aT.out.below h2)
   have dD:=Lib.hid (eU.out.trans (Fr.bZ (bK h2)))
   clear h2 aT eU
   have c3:=aR.out.cell (j:=3) rfl
   have f3:=aR.out.free 3
   go_wp2_with fail
   go_ret
   exact gY (aR.out.arg ⟨#[]⟩ (Nat.zero_le _)) (dD.out.set _ _ (.inl rfl))
  ·have Er:Hid ((tx (aF r.tail)).size≤maxLen):=Lib.hid (mH (mK HP.out.rd.ts.tail hm))
   have HR:Hid (gu r.tail= .ok (tx (aF r.tail)) r.tail.tail):=Lib.hid (kK hm)
   rw [HR.out]
   go_enter Tryz.func174,Tryz.ntmps174
   go_wp2_with fail
   refine (jf R _ _ hn HP.out.rd).mono ?_
   rintro e w1 ⟨rfl,h2,h3⟩
   have dA:=Lib.hid (HP.out.then h2 h3)
   have HF:=Lib.hid (Fr.bZ (br:=R.br) (bs:=bs) h3)
   clear h2 h3 HP
   have c2:=dA.out.cell (j:=2) rfl
   have f2:=dA.out.free 2
   go_upto_region 3 with fail
   generalize hW:World.setCell w1 _ _=W
   have aT:Hid (Pm R bs B W ⟨{h with nm:=tx (aF r)},.nil,.nil,s⟩ r.tail):=Lib.hid (by rw [← hW]; exact dA.out.nm _ qA.out)
   have eU:Hid (Fr R.br bs w W):=Lib.hid (by rw [← hW]; exact HF.out.set _ _ (.inl rfl))
   clear hW c2 f2 dA HF
   go_wp2_with fail
   refine (jf R _ _ hm aT.out.rd).mono ?_
   rintro e w3 ⟨rfl,h2,h3⟩
   have aR:=Lib.hid (aT.out.then h2 h3)
   have dD:=Lib.hid (eU.out.trans (Fr.bZ h3))
   clear h2 h3 aT eU
   have c3:=aR.out.cell (j:=3) rfl
   have f3:=aR.out.free 3
   go_upto_region 6 with fail
   generalize hW:World.setCell w3 _ _=W5
   have jm:Hid (Pm R bs B W5 ⟨{h with nm:=tx (aF r),arg:=tx (aF r.tail)},.nil,.nil,s⟩ r.tail.tail):=Lib.hid (by rw [← hW]; exact aR.out.arg _ Er.out)
   have rA:Hid (Fr R.br bs w W5):=Lib.hid (by rw [← hW]; exact dD.out.set _ _ (.inl rfl))
   clear hW c3 f3 aR dD
   cases h4:at' [59] r.tail.tail
   ·go_wp2_with fail
    refine (dK R _ _ ⟨#[59]⟩ rfl h4 jm.out.rd).mono ?_
    rintro e w3 ⟨rfl,h2⟩
    have aR:=Lib.hid (jm.out.below h2)
    have dD:=Lib.hid (rA.out.trans (Fr.bZ (bK h2)))
    clear h2
    go_wp2_with fail
    go_ret
    exact gW (nk h4) (gY aR.out dD.out)
   ·go_wp2_with fail
    refine (bW R _ _ ⟨#[59]⟩ rfl h4 jm.out.rd).mono ?_
    rintro e w3 ⟨rfl,h2,h3⟩
    have aR:=Lib.hid (jm.out.then h2 h3)
    have dD:=Lib.hid (rA.out.trans (Fr.bZ h3))
    clear h2 h3
    go_wp2_with fail
    go_ret
    exact gW (nI h4) (pz (y:=⟨{h with nm:=tx (aF r),arg:=tx (aF r.tail)},.nil,.nil⟩) aR.out dD.out)
end Go.Proofs.YtehnipchbmjlhaaGreatDoor
end
section
namespace Go.Proofs.YtehnipchbmjlhaaGreatDoor
open Go.RowKit
open Md Pz
theorem Ir (R:Rp) (bs B f:Nat) (r:aA) (tT:Hid (∀q,q.length < r.length→mJ R f q)) (h:aV) (s:Sl) (w:World) (hp:Pm R bs B w ⟨h,.nil,.nil,s⟩ r):
 Calls Tryz.prog 169 #[.pointer (some ⟨R.br,0,none⟩),.pointer (some ⟨bs,0,none⟩)] w (lU R bs B w (rZ f h r)):=by
 have aT:=Lib.hid hp
 have eU:=Lib.hid (Fr.refl R.br bs w)
 clear hp
 have HC:Hid (∀W,aW W R r→Calls Tryz.prog 52 #[.pointer (some ⟨R.br,0,none⟩)] W (kE R W (Pz.expr r))):=Lib.hid (fun W hW=>sU R r W hW)
 have HB2:Hid (∀x q,Pz.expr r= .ok x q→mJ R f q):=Lib.hid (fun x q e=>tT.out q (lV e))
 clear tT
 unfold rZ
 generalize Pz.expr r=res at *
 go_enter Tryz.func169,Tryz.ntmps169
 go_wp2_with fail
 refine (HC.out _ aT.out.rd).mono ?_
 cases res with
 | no q=>
   rintro e w3 ⟨rfl,h2,h3⟩
   have aR:=Lib.hid (aT.out.then h2 h3)
   have dD:=Lib.hid (eU.out.trans (Fr.bZ h3))
   clear h2 h3 aT eU
   have c5:=aR.out.cell (j:=5) rfl
   have c6:=aR.out.cell (j:=6) rfl
   have c7:=aR.out.cell (j:=7) rfl
   have c8:=aR.out.cell (j:=8) rfl
   have f5:=aR.out.free 5
   have f6:=aR.out.free 6
   have f7:=aR.out.free 7
   have f8:=aR.out.free 8
   unfold zE
   go_wp2_with fail
   go_ret
   exact gY (aR.out.ex ⟨0,0,⟨#[]⟩,.nil⟩ none 0 Db wh) ((((dD.out.set _ _ (.inl rfl)).set _ _ (.inl rfl)).set _ _ (.inl rfl)).set _ _ (.inl rfl))
 | ok x q=>
   have HD:Hid (∀W s,Pm R bs B W ⟨aV.ex h x,.nil,.nil,s⟩ q→Calls Tryz.prog 171 #[.pointer (some ⟨R.br,0,none⟩),.pointer (some ⟨bs,0,none⟩)] W (lU R bs B W (lM f (aV.ex h x) q))):=Lib.hid (fun W s hW=>wH R bs B f q (Lib.hid (HB2.out x q rfl)) _ .nil s W hW)
   rintro e w3 ⟨v,rfl,hv,h2,h3⟩
   have aR:=Lib.hid (aT.out.then h2 h3)
   have dD:=Lib.hid (eU.out.trans (Fr.bZ h3))
   have HV:=Lib.hid (hv.mono aT.out.sz)
   clear h2 h3 hv aT eU
   obtain ⟨ao,cap,rfl,hok,hst⟩:=HV.out
   have HE:=Lib.hid (And.intro hok hst)
   clear hok hst HV
   have c5:=aR.out.cell (j:=5) rfl
   have c6:=aR.out.cell (j:=6) rfl
   have c7:=aR.out.cell (j:=7) rfl
   have c8:=aR.out.cell (j:=8) rfl
   have f5:=aR.out.free 5
   have f6:=aR.out.free 6
   have f7:=aR.out.free 7
   have f8:=aR.out.free 8
   unfold exV
   go_upto_region 3 with fail
   generalize hW:World.setCell (World.setCell (World.setCell (World.setCell w3 _ _) _ _) _ _) _ _=W5
   have jm:Hid (Pm R bs B W5 ⟨aV.ex h x,.nil,.nil,{s with bS:=ao,bf:=cap}⟩ q):=Lib.hid (by rw [← hW]; exact aR.out.ex x ao cap HE.out.1 HE.out.2)
   have rA:Hid (Fr R.br bs w W5):=Lib.hid (by rw [← hW]; exact (((dD.out.set _ _ (.inl rfl)).set _ _ (.inl rfl)).set _ _ (.inl rfl)).set _ _ (.inl rfl))
   clear hW c5 c6 c7 c8 f5 f6 f7 f8 aR dD HE
   clear HB2 HC
   obtain ⟨res2,HR2⟩: ∃res2,Hid (lM f (aV.ex h x) q=res2):=⟨_,Lib.hid rfl⟩
   rw [HR2.out] at HD
   go_wp2_with fail
   refine (HD.out _ _ jm.out).mono ?_
   cases res2 with
   | no q2=>
     rintro e w6 ⟨rfl,⟨x',h2⟩,h3⟩
     have jF:=Lib.hid h2
     have tY:=Lib.hid (rA.out.trans h3)
     clear h2 h3
     go_wp2_with fail
     go_ret
     exact gW HR2.out (gY jF.out tY.out)
   | ok y q2=>
     rintro e w6 ⟨rfl,⟨x',h2⟩,h3⟩
     have jF:=Lib.hid h2
     have tY:=Lib.hid (rA.out.trans h3)
     clear h2 h3
     go_wp2_with fail
     go_ret
     exact gW HR2.out (pz jF.out tY.out)
theorem Nr {f:Nat} {h:aV} {r q:aA} {y:Sx} (e:rZ f h r= .ok y q):q.length < r.length∧y.e= .nil:=by
 unfold rZ lM at e
 obtain ⟨x,r1,e1,e⟩:=kL e
 obtain ⟨b,e2,rfl⟩:=map_ok e
 have:=lV e1
 have:=Ku e2
 exact ⟨by omega,rfl⟩
theorem PV (R:Rp) (bs B f:Nat) (r:aA) (tT:Hid (∀q,q.length < r.length→mJ R f q)) (h:aV) (s:Sl) (w:World) (hp:Pm R bs B w ⟨h,.nil,.nil,s⟩ r):
 Calls Tryz.prog 168 #[.pointer (some ⟨R.br,0,none⟩),.pointer (some ⟨bs,0,none⟩)] w (lU R bs B w (Gg f h r)):=by
 have HD:=Lib.hid (Ir R bs B f r tT h s w hp)
 have HL:Hid (∀y q,rZ f h r= .ok y q→q.length < r.length∧y.e= .nil):=Lib.hid (fun y q e=>Nr e)
 clear hp
 unfold Gg
 generalize rZ f h r=res at *
 go_enter Tryz.func168,Tryz.ntmps168
 go_wp2_with fail
 refine HD.out.mono ?_
 cases res with
 | no q=>
   rintro e w1 ⟨rfl,⟨x,h2⟩,h3⟩
   have dA:=Lib.hid h2
   have nR:=Lib.hid h3
   clear h2 h3
   go_wp2_with fail
   go_ret
   exact gY dA.out nR.out
 | ok y q=>
   have HLQ:=Lib.hid (HL.out y q rfl)
   clear HL HD
   rintro e w1 ⟨rfl,⟨sy,h2⟩,h3⟩
   have dA:=Lib.hid h2
   have nR:=Lib.hid h3
   clear h2 h3
   cases h4:at' [101,108,115,101] q
   ·go_wp2_with fail
    refine (dK R _ _ ⟨#[101,108,115,101]⟩ rfl h4 dA.out.rd).mono ?_
    rintro e w3 ⟨rfl,h2⟩
    have aR:=Lib.hid (dA.out.below h2)
    have dD:=Lib.hid (nR.out.trans (Fr.bZ (bK h2)))
    clear h2
    go_wp2_with fail
    go_ret
    exact gW (show ite _ _ _=_ from if_neg (by rw [h4]; decide)) (pz aR.out dD.out)
   ·have HC:Hid (∀W,aW W R q.tail→Calls Tryz.prog 111 #[.pointer (some ⟨R.br,0,none⟩)] W (Es R W (blk f q.tail))):=Lib.hid (tT.out q.tail (by have:=HLQ.out.1; have:=at_len h4; omega))
    have Kw:Hid ((bn.ok y q).bind (fun y r=>if at' [101,108,115,101] r then (blk f r.tail).map fun e=>(⟨y.h,y.b,e⟩:Sx) else .ok y r)=(blk f q.tail).map fun e=>⟨y.h,y.b,e⟩):=Lib.hid (show ite _ _ _=_ from if_pos h4)
    obtain ⟨res2,HR2⟩: ∃res2,Hid (blk f q.tail=res2):=⟨_,Lib.hid rfl⟩
    rw [HR2.out] at HC Kw
    clear tT HR2
    go_wp2_with fail
    refine (bW R _ _ ⟨#[101,108,115,101]⟩ rfl h4 dA.out.rd).mono ?_
    rintro e w3 ⟨rfl,h2,h3⟩
    have aR:=Lib.hid (dA.out.then h2 h3)
    have dD:=Lib.hid (nR.out.trans (Fr.bZ h3))
    clear h2 h3
    go_wp2_with fail
    refine (HC.out _ aR.out.rd).mono ?_
    cases res2 with
    | no q2=>
      rintro e w4 ⟨rfl,h2,h3⟩
      have dV:=Lib.hid (aR.out.then h2 h3)
      have fU:=Lib.hid (dD.out.trans (Fr.bZ h3))
      clear h2 h3
      have c10:=dV.out.cell (j:=10) rfl
      have f10:=dV.out.free 10
      go_wp2_with fail
      go_ret
      exact gW Kw.out (gY (dV.out.els .nil none 0 GQ IW) (fU.out.set _ _ (.inl rfl)))
    | ok b q2=>
      rintro e w4 ⟨⟨ao,cap,rfl,hl,hst⟩,h2,h3⟩
      have dV:=Lib.hid (aR.out.then h2 h3)
      have fU:=Lib.hid (dD.out.trans (Fr.bZ h3))
      have HL:Hid (b.len≤maxLen):=Lib.hid (Nat.le_trans hl (by unfold maxLen; decide))
      have HS:=Lib.hid (hst.mono aR.out.sz)
      clear h2 h3 hl hst
      have c10:=dV.out.cell (j:=10) rfl
      have f10:=dV.out.free 10
      go_wp2_with fail
      go_ret
      exact gW Kw.out (pz (y:=⟨y.h,y.b,b⟩) (dV.out.els b ao cap HL.out HS.out) (fU.out.set _ _ (.inl rfl)))
theorem yG {x:List UInt8} {r:aA} (h:at' x r=true):need x r= .ok () r.tail:=by unfold need; rw [if_pos h]
theorem yE {x:List UInt8} {r:aA} (h:at' x r=false):need x r= .no r:=by unfold need; rw [if_neg (by rw [h]; decide)]
def qI (h:aV) (r:aA):bn Sx:=(need [61] r).bind fun _ r=>(((Pz.expr r).map fun x=>(⟨aV.ex h x,.nil,.nil⟩:Sx)).close [59])
theorem TU {h:aV} {r:aA} (h1:at' [91] r=false):wW h r=qI h r:=by unfold wW; rw [if_neg (by rw [h1]; decide)]; rfl
theorem QX {h:aV} {r:aA} (h1:at' [91] r=true):wW h r=((Pz.expr r.tail).close [93]).bind fun x r=>qI {h with idx:= .cons x.op x.n x.nm x.kids .nil} r:=by
 unfold wW; rw [if_pos h1]
 cases (Pz.expr r.tail).close [93] <;> rfl
theorem EJ (R:Rp) (bs B:Nat) (r:aA) (h:aV) (s:Sl) (w:World) (hp:Pm R bs B w ⟨h,.nil,.nil,s⟩ r):
 Calls Tryz.prog 157 #[.pointer (some ⟨R.br,0,none⟩),.pointer (some ⟨bs,0,none⟩)] w (lU R bs B w (wG h r)):=by
 have HP:=Lib.hid hp
 clear hp
 cases hn:isName r
 ·have HR:Hid (wG h r= .no r):=Lib.hid (by unfold wG; rw [nD hn]; rfl)
  rw [HR.out]
  go_enter Tryz.func157,Tryz.ntmps157
  go_wp2_with fail
  refine (jZ R _ _ hn HP.out.rd).mono ?_
  rintro e w1 ⟨rfl,h2⟩
  have dA:=Lib.hid (HP.out.below h2)
  have HF:=Lib.hid (Fr.bZ (br:=R.br) (bs:=bs) (bK h2))
  clear h2 HP
  have c2:=dA.out.cell (j:=2) rfl
  have f2:=dA.out.free 2
  go_wp2_with fail
  go_ret
  exact gY (dA.out.nm ⟨#[]⟩ (Nat.zero_le _)) (HF.out.set _ _ (.inl rfl))
 ·have qA:Hid ((tx (aF r)).size≤maxLen):=Lib.hid (mH (mK HP.out.rd.ts hn))
  have HR:Hid (wG h r=wW {h with nm:=tx (aF r)} r.tail):=Lib.hid (by unfold wG; rw [kK hn]; rfl)
  rw [HR.out]
  clear HR
  cases h1:at' [91] r.tail
  ·have HR:Hid (wW {h with nm:=tx (aF r)} r.tail=qI {h with nm:=tx (aF r)} r.tail):=Lib.hid (TU h1)
   rw [HR.out]
   clear HR
   go_enter Tryz.func157,Tryz.ntmps157
   go_wp2_with fail
   refine (jf R _ _ hn HP.out.rd).mono ?_
   rintro e w1 ⟨rfl,h2,h3⟩
   have dA:=Lib.hid (HP.out.then h2 h3)
   have HF:=Lib.hid (Fr.bZ (br:=R.br) (bs:=bs) h3)
   clear h2 h3 HP
   have c2:=dA.out.cell (j:=2) rfl
   have f2:=dA.out.free 2
   go_upto_region 3 with fail
   generalize hW:World.setCell w1 _ _=W
   have aT:Hid (Pm R bs B W ⟨{h with nm:=tx (aF r)},.nil,.nil,s⟩ r.tail):=Lib.hid (by rw [← hW]; exact dA.out.nm _ qA.out)
   have eU:Hid (Fr R.br bs w W):=Lib.hid (by rw [← hW]; exact HF.out.set _ _ (.inl rfl))
   clear hW c2 f2 dA HF
   go_wp2_with fail
   refine (dK R _ _ ⟨#[91]⟩ rfl h1 aT.out.rd).mono ?_
   rintro e w0 ⟨rfl,h2⟩
   have jF:=Lib.hid (aT.out.below h2)
   have tY:=Lib.hid (eU.out.trans (Fr.bZ (bK h2)))
   clear h2 aT eU
   cases h5:at' [61] r.tail
   ·go_wp2_with fail
    refine (dK R _ _ ⟨#[61]⟩ rfl h5 jF.out.rd).mono ?_
    rintro e w7 ⟨rfl,h2⟩
    have iO:=Lib.hid (jF.out.below h2)
    have xX:=Lib.hid (tY.out.trans (Fr.bZ (bK h2)))
    clear h2
    go_wp2_with fail
    go_ret
    exact gW (show qI _ _=_ by unfold qI; rw [yE h5]; rfl) (gY iO.out xX.out)
   ·have HC:Hid (∀W,aW W R r.tail.tail→Calls Tryz.prog 52 #[.pointer (some ⟨R.br,0,none⟩)] W (kE R W (Pz.expr r.tail.tail))):=Lib.hid (fun W hW=>sU R r.tail.tail W hW)
    have HQ:Hid (qI {h with nm:=tx (aF r)} r.tail=((Pz.expr r.tail.tail).map fun x9=>(⟨aV.ex {h with nm:=tx (aF r)} x9,.nil,.nil⟩:Sx)).close [59]):=Lib.hid (by unfold qI; rw [yG h5]; rfl)
    generalize Pz.expr r.tail.tail=res at *
    go_wp2_with fail
    refine (bW R _ _ ⟨#[61]⟩ rfl h5 jF.out.rd).mono ?_
    rintro e w7 ⟨rfl,h2,h3⟩
    have iO:=Lib.hid (jF.out.then h2 h3)
    have xX:=Lib.hid (tY.out.trans (Fr.bZ h3))
    clear h2 h3 jF tY
    go_wp2_with fail
    refine (HC.out _ iO.out.rd).mono ?_
    cases res with
    | no q=>
      rintro e w3 ⟨rfl,h2,h3⟩
      have aR:=Lib.hid (iO.out.then h2 h3)
      have dD:=Lib.hid (xX.out.trans (Fr.bZ h3))
      clear h2 h3 iO xX
      have c5:=aR.out.cell (j:=5) rfl
      have c6:=aR.out.cell (j:=6) rfl
      have c7:=aR.out.cell (j:=7) rfl
      have c8:=aR.out.cell (j:=8) rfl
      have f5:=aR.out.free 5
      have f6:=aR.out.free 6
      have f7:=aR.out.free 7
      have f8:=aR.out.free 8
      unfold zE
      go_wp2_with fail
      go_ret
      exact gW HQ.out (gY (aR.out.ex ⟨0,0,⟨#[]⟩,.nil⟩ none 0 Db wh) ((((dD.out.set _ _ (.inl rfl)).set _ _ (.inl rfl)).set _ _ (.inl rfl)).set _ _ (.inl rfl)))
    | ok x q=>
      rintro e w3 ⟨v,rfl,hv,h2,h3⟩
      have aR:=Lib.hid (iO.out.then h2 h3)
      have dD:=Lib.hid (xX.out.trans (Fr.bZ h3))
      have HV:=Lib.hid (hv.mono iO.out.sz)
      clear h2 h3 hv iO xX
      obtain ⟨ao,cap,rfl,hok,hst⟩:=HV.out
      have HE:=Lib.hid (And.intro hok hst)
      clear hok hst HV
      have c5:=aR.out.cell (j:=5) rfl
      have c6:=aR.out.cell (j:=6) rfl
      have c7:=aR.out.cell (j:=7) rfl
      have c8:=aR.out.cell (j:=8) rfl
      have f5:=aR.out.free 5
      have f6:=aR.out.free 6
      have f7:=aR.out.free 7
      have f8:=aR.out.free 8
      unfold exV
      go_upto_region 13 with fail
      generalize hW:World.setCell (World.setCell (World.setCell (World.setCell w3 _ _) _ _) _ _) _ _=W5
      have jm:Hid (Pm R bs B W5 ⟨aV.ex {h with nm:=tx (aF r)} x,.nil,.nil,{s with bS:=ao,bf:=cap}⟩ q):=Lib.hid (by rw [← hW]; exact aR.out.ex x ao cap HE.out.1 HE.out.2)
      have rA:Hid (Fr R.br bs w W5):=Lib.hid (by rw [← hW]; exact (((dD.out.set _ _ (.inl rfl)).set _ _ (.inl rfl)).set _ _ (.inl rfl)).set _ _ (.inl rfl))
      clear hW c5 c6 c7 c8 f5 f6 f7 f8 aR dD HE
      cases h4:at' [59] q
      ·go_wp2_with fail
       refine (dK R _ _ ⟨#[59]⟩ rfl h4 jm.out.rd).mono ?_
       rintro e w3 ⟨rfl,h2⟩
       have aR:=Lib.hid (jm.out.below h2)
       have dD:=Lib.hid (rA.out.trans (Fr.bZ (bK h2)))
       clear h2
       go_wp2_with fail
       go_ret
       exact gW (HQ.out.trans (nk h4)) (gY aR.out dD.out)
      ·go_wp2_with fail
       refine (bW R _ _ ⟨#[59]⟩ rfl h4 jm.out.rd).mono ?_
       rintro e w3 ⟨rfl,h2,h3⟩
       have aR:=Lib.hid (jm.out.then h2 h3)
       have dD:=Lib.hid (rA.out.trans (Fr.bZ h3))
       clear h2 h3
       go_wp2_with fail
       go_ret
       exact gW (HQ.out.trans (nI h4)) (pz (y:=⟨aV.ex {h with nm:=tx (aF r)} x,.nil,.nil⟩) aR.out dD.out)
  ·have HR:Hid (wW {h with nm:=tx (aF r)} r.tail=((Pz.expr r.tail.tail).close [93]).bind fun x q=>qI {h with nm:=tx (aF r),idx:= .cons x.op x.n x.nm x.kids .nil} q):=Lib.hid (QX h1)
   rw [HR.out]
   clear HR
   have HC:Hid (∀W,aW W R r.tail.tail→Calls Tryz.prog 52 #[.pointer (some ⟨R.br,0,none⟩)] W (kE R W (Pz.expr r.tail.tail))):=Lib.hid (fun W hW=>sU R r.tail.tail W hW)
   generalize Pz.expr r.tail.tail=ag5 at *
   go_enter Tryz.func157,Tryz.ntmps157
   go_wp2_with fail
   refine (jf R _ _ hn HP.out.rd).mono ?_
   rintro e w1 ⟨rfl,h2,h3⟩
   have dA:=Lib.hid (HP.out.then h2 h3)
   have HF:=Lib.hid (Fr.bZ (br:=R.br) (bs:=bs) h3)
   clear h2 h3 HP
   have c2:=dA.out.cell (j:=2) rfl
   have f2:=dA.out.free 2
   go_upto_region 3 with fail
   generalize hW:World.setCell w1 _ _=W
   have aT:Hid (Pm R bs B W ⟨{h with nm:=tx (aF r)},.nil,.nil,s⟩ r.tail):=Lib.hid (by rw [← hW]; exact dA.out.nm _ qA.out)
   have eU:Hid (Fr R.br bs w W):=Lib.hid (by rw [← hW]; exact HF.out.set _ _ (.inl rfl))
   clear hW c2 f2 dA HF
   go_wp2_with fail
   refine (bW R _ _ ⟨#[91]⟩ rfl h1 aT.out.rd).mono ?_
   rintro e w0 ⟨rfl,h2,h3⟩
   have aR:=Lib.hid (aT.out.then h2 h3)
   have dD:=Lib.hid (eU.out.trans (Fr.bZ h3))
   clear h2 h3 aT eU
   go_wp2_with fail
   refine (HC.out _ aR.out.rd).mono ?_
   clear HC
   cases ag5 with
   | no q=>
     rintro e w1 ⟨rfl,h2,h3⟩
     have dV:=Lib.hid (aR.out.then h2 h3)
     have fU:=Lib.hid (dD.out.trans (Fr.bZ h3))
     clear h2 h3 aR dD
     unfold zE
     go_wp2_with fail
     go_ret
     exact gY (dV.out.alloc _) (fU.out.alloc _)
   | ok x q=>
     rintro e w1 ⟨v,rfl,hv,h2,h3⟩
     have dV:=Lib.hid (aR.out.then h2 h3)
     have fU:=Lib.hid (dD.out.trans (Fr.bZ h3))
     have HV:=Lib.hid (hv.mono aR.out.sz)
     clear h2 h3 hv aR dD
     obtain ⟨ao,cap,rfl,hok,hst⟩:=HV.out
     have HE:=Lib.hid (And.intro hok hst)
     clear hok hst HV
     unfold exV
     go_upto_region 7 with fail
     obtain ⟨g,hg⟩: ∃g,w1.heap.size=g:=⟨_,rfl⟩
     generalize hW:World.alloc w1 _=W2
     have jm:Hid (Pm R bs B W2 ⟨{h with nm:=tx (aF r)},.nil,.nil,s⟩ q):=Lib.hid (by rw [← hW]; exact dV.out.alloc _)
     have rA:Hid (Fr R.br bs w W2):=Lib.hid (by rw [← hW]; exact fU.out.alloc _)
     have jE:Hid (W2.heap[g]? =some (.cells #[.int .i64 x.op,.int .i64 x.n,.string x.nm,.slice ao x.kids.len cap] 45 (0,0))):=Lib.hid (by rw [← hW,← hg]; exact heap_alloc_new _ _)
     have zM:Hid (mO x∧dB B W2 (fun w2=>x.kids.At w2 w2.heap.size ao 0)):=Lib.hid ⟨HE.out.1,by rw [← hW]; exact HE.out.2.next (aY (ah _ _))⟩
     have HG:Hid (B≤g∧g≠R.br):=Lib.hid (by have h1:=dV.out.sz; have h2:=dV.out.lt.2; omega)
     rw [hg]
     clear hW hg dV fU HE
     cases h4:at' [93] q
     ·go_wp2_with fail
      refine (dK R _ _ ⟨#[93]⟩ rfl h4 jm.out.rd).mono ?_
      rintro e w3 ⟨rfl,h2⟩
      have jF:=Lib.hid (jm.out.below h2)
      have tY:=Lib.hid (rA.out.trans (Fr.bZ (bK h2)))
      clear h2
      go_wp2_with fail
      go_ret
      exact gW (show bn.bind ((bn.ok x q).close [93]) _= .no q by rw [nk h4]; rfl) (gY jF.out tY.out)
     ·go_wp2_with fail
      refine (bW R _ _ ⟨#[93]⟩ rfl h4 jm.out.rd).mono ?_
      rintro e w3 ⟨rfl,h2,h3⟩
      have jF:=Lib.hid (jm.out.then h2 h3)
      have tY:=Lib.hid (rA.out.trans (Fr.bZ h3))
      have BI:=Lib.hid ((h3.block _ (Array.getElem?_eq_some_iff.1 jE.out).1 (by simp; exact HG.out.2)).trans jE.out)
      have Ny:Hid (mO x∧dB B w3 (fun w2=>x.kids.At w2 w2.heap.size ao 0)):=Lib.hid ⟨zM.out.1,zM.out.2.next (nL h3 jm.out.lt.2)⟩
      clear h2 h3 jm rA jE zM
      have u0:w3.cell? ⟨g,0,none⟩=some (.int .i64 x.op):=aG BI.out rfl
      have u1:w3.cell? ⟨g,1,none⟩=some (.int .i64 x.n):=aG BI.out rfl
      have u2:w3.cell? ⟨g,2,none⟩=some (.string x.nm):=aG BI.out rfl
      have u3:w3.cell? ⟨g,3,none⟩=some (.slice ao x.kids.len cap):=aG BI.out rfl
      have c4:=jF.out.cell (j:=4) rfl
      have f4:=jF.out.free 4
      have hlt:bs < w3.heap.size:=Nat.lt_of_lt_of_le jF.out.lt.1 jF.out.sz
      go_upto_region 10 with fail
      generalize hW:World.alloc _ _=W8
      have lY:Hid (Pm R bs B W8 ⟨{h with nm:=tx (aF r),idx:= .cons x.op x.n x.nm x.kids .nil},.nil,.nil,{s with dF:=some ⟨w3.heap.size,0,none⟩,bT:=1}⟩ q.tail):=Lib.hid (by rw [← hW]; exact jF.out.aj5 x ao cap _ Ny.out)
      have Ob:Hid (Fr R.br bs w W8):=Lib.hid (by rw [← hW]; exact (tY.out.set _ _ (.inl rfl)).alloc _)
      have Kw:Hid (((bn.ok x q).close [93]).bind (fun x q=>qI {h with nm:=tx (aF r),idx:= .cons x.op x.n x.nm x.kids .nil} q)=qI {h with nm:=tx (aF r),idx:= .cons x.op x.n x.nm x.kids .nil} q.tail):=Lib.hid (by rw [nI h4]; rfl)
      clear hW c4 f4 u0 u1 u2 u3 BI Ny hlt jF tY
      obtain ⟨s,HSL⟩: ∃s',Hid (({s with dF:=some ⟨w3.heap.size,0,none⟩,bT:=1} :Sl)=s'):=⟨_,Lib.hid rfl⟩
      rw [HSL.out] at lY
      have jF:=lY
      have tY:=Ob
      clear lY Ob HSL h4
      cases h5:at' [61] q.tail
      ·go_wp2_with fail
       refine (dK R _ _ ⟨#[61]⟩ rfl h5 jF.out.rd).mono ?_
       rintro e w7 ⟨rfl,h2⟩
       have iO:=Lib.hid (jF.out.below h2)
       have xX:=Lib.hid (tY.out.trans (Fr.bZ (bK h2)))
       clear h2
       go_wp2_with fail
       go_ret
       exact gW (Kw.out.trans (show qI _ _=_ by unfold qI; rw [yE h5]; rfl)) (gY iO.out xX.out)
      ·have HC:Hid (∀W,aW W R q.tail.tail→Calls Tryz.prog 52 #[.pointer (some ⟨R.br,0,none⟩)] W (kE R W (Pz.expr q.tail.tail))):=Lib.hid (fun W hW=>sU R q.tail.tail W hW)
       have HQ:Hid (qI {h with nm:=tx (aF r),idx:= .cons x.op x.n x.nm x.kids .nil} q.tail=((Pz.expr q.tail.tail).map fun x9=>(⟨aV.ex {h with nm:=tx (aF r),idx:= .cons x.op x.n x.nm x.kids .nil} x9,.nil,.nil⟩:Sx)).close [59]):=Lib.hid (by unfold qI; rw [yG h5]; rfl)
       have HQ:=Lib.hid (Kw.out.trans HQ.out)
       generalize Pz.expr q.tail.tail=res at *
       go_wp2_with fail
       refine (bW R _ _ ⟨#[61]⟩ rfl h5 jF.out.rd).mono ?_
       rintro e w7 ⟨rfl,h2,h3⟩
       have iO:=Lib.hid (jF.out.then h2 h3)
       have xX:=Lib.hid (tY.out.trans (Fr.bZ h3))
       clear h2 h3 jF tY
       go_wp2_with fail
       refine (HC.out _ iO.out.rd).mono ?_
       cases res with
       | no q=>
         rintro e w3 ⟨rfl,h2,h3⟩
         have aR:=Lib.hid (iO.out.then h2 h3)
         have dD:=Lib.hid (xX.out.trans (Fr.bZ h3))
         clear h2 h3 iO xX
         have c5:=aR.out.cell (j:=5) rfl
         have c6:=aR.out.cell (j:=6) rfl
         have c7:=aR.out.cell (j:=7) rfl
         have c8:=aR.out.cell (j:=8) rfl
         have f5:=aR.out.free 5
         have f6:=aR.out.free 6
         have f7:=aR.out.free 7
         have f8:=aR.out.free 8
         unfold zE
         go_wp2_with fail
         go_ret
         exact gW HQ.out (gY (aR.out.ex ⟨0,0,⟨#[]⟩,.nil⟩ none 0 Db wh) ((((dD.out.set _ _ (.inl rfl)).set _ _ (.inl rfl)).set _ _ (.inl rfl)).set _ _ (.inl rfl)))
       | ok x' q'=>
         rintro e w3 ⟨v,rfl,hv,h2,h3⟩
         have aR:=Lib.hid (iO.out.then h2 h3)
         have dD:=Lib.hid (xX.out.trans (Fr.bZ h3))
         have HV:=Lib.hid (hv.mono iO.out.sz)
         clear h2 h3 hv iO xX
         obtain ⟨IV,cap2,rfl,hok,hst⟩:=HV.out
         have HE:=Lib.hid (And.intro hok hst)
         clear hok hst HV
         have c5:=aR.out.cell (j:=5) rfl
         have c6:=aR.out.cell (j:=6) rfl
         have c7:=aR.out.cell (j:=7) rfl
         have c8:=aR.out.cell (j:=8) rfl
         have f5:=aR.out.free 5
         have f6:=aR.out.free 6
         have f7:=aR.out.free 7
         have f8:=aR.out.free 8
         unfold exV
         go_upto_region 13 with fail
         generalize hW:World.setCell (World.setCell (World.setCell (World.setCell w3 _ _) _ _) _ _) _ _=W5
         have jm:Hid (Pm R bs B W5 ⟨aV.ex {h with nm:=tx (aF r),idx:= .cons x.op x.n x.nm x.kids .nil} x',.nil,.nil,{s with bS:=IV,bf:=cap2}⟩ q'):=Lib.hid (by rw [← hW]; exact aR.out.ex x' IV cap2 HE.out.1 HE.out.2)
         have rA:Hid (Fr R.br bs w W5):=Lib.hid (by rw [← hW]; exact (((dD.out.set _ _ (.inl rfl)).set _ _ (.inl rfl)).set _ _ (.inl rfl)).set _ _ (.inl rfl))
         clear hW c5 c6 c7 c8 f5 f6 f7 f8 aR dD HE
         cases h4:at' [59] q'
         ·go_wp2_with fail
          refine (dK R _ _ ⟨#[59]⟩ rfl h4 jm.out.rd).mono ?_
          rintro e w3 ⟨rfl,h2⟩
          have aR:=Lib.hid (jm.out.below h2)
          have dD:=Lib.hid (rA.out.trans (Fr.bZ (bK h2)))
          clear h2
          go_wp2_with fail
          go_ret
          exact gW (HQ.out.trans (nk h4)) (gY aR.out dD.out)
         ·go_wp2_with fail
          refine (bW R _ _ ⟨#[59]⟩ rfl h4 jm.out.rd).mono ?_
          rintro e w3 ⟨rfl,h2,h3⟩
          have aR:=Lib.hid (jm.out.then h2 h3)
          have dD:=Lib.hid (rA.out.trans (Fr.bZ h3))
          clear h2 h3
          go_wp2_with fail
          go_ret
          exact gW (HQ.out.trans (nI h4)) (pz (y:=⟨aV.ex {h with nm:=tx (aF r),idx:= .cons x.op x.n x.nm x.kids .nil} x',.nil,.nil⟩) aR.out dD.out)
end Go.Proofs.YtehnipchbmjlhaaGreatDoor
end
section
namespace Go.Proofs.YtehnipchbmjlhaaGreatDoor
open Go.RowKit
open Md Pz
def qd (R:Rp) (w:World) (res:bn aN) (e:Ending) (w':World):Prop:=
 match res with
 | .ok l r=>(∃x:gB,l=one x.h x.b x.e∧e= .returned (.tuple #[dx x.h x.b x.e x.s,.bool true])∧oW x.h x.b x.e∧dB w.heap.size w' (gB.I x))∧aW w' R r∧w.grownBy w' (some R.br)
 | .no r=>(∃x:gB,e= .returned (.tuple #[dx x.h x.b x.e x.s,.bool false]))∧aW w' R r∧w.grownBy w' (some R.br)
def lZ:Array Value:= #[.int .i64 0,.int .i64 0,.string ⟨#[]⟩,.string ⟨#[]⟩,.slice none 0 0,.int .i64 0,.int .i64 0,.string ⟨#[]⟩,.slice none 0 0,.slice none 0 0,.slice none 0 0]
theorem nC {w w':World} {R:Rp} {rest:aA} {b:Nat} (h:aW w R rest) (hg:w.grownBy w' (some b)) (h0:R.B0≤b) (h1:b≠R.br):aW w' R rest:=by
 obtain ⟨pos,k1,k2,k3⟩:=h.blk
 exact ⟨⟨pos,k1,k2,(hg.block _ h.lt (by simp; omega)).trans k3⟩,h.tok.below (dW hg h0 (Nat.le_trans R.b0 (Nat.le_of_lt h.lt))),h.ok,h.tl⟩
theorem jL {br:Nat} {w w':World} (h:w.grownBy w' (some br)) (b o:Nat) (vs:List Value) (hb:w.heap.size≤b):w.grownBy (w'.setCells b o vs) (some br):=
 have k:=bP b vs o w'
 ⟨k.os.trans h.os,k.tape.trans h.tape,k.output.trans h.output,Nat.le_trans h.size k.size,fun j hj hn=>(k.block j (Nat.lt_of_lt_of_le hj h.size) (by simp; omega)).trans (h.block j hj hn)⟩
theorem sS {R:Rp} {bs B:Nat} {w W:World} {x:gB} {r:aA} (hP:Pm R bs B W x r) (hg:w.grownBy W (some R.br)) (hl:R.br < w.heap.size) (hB:w.heap.size < B):
 qd R w (.ok (one x.h x.b x.e) r) (.returned (.tuple #[dx x.h x.b x.e x.s,.bool true])) (W.setCells w.heap.size 0 (gB.f x)):=
 ⟨⟨x,rfl,rfl,hP.ok,(hP.st.next ⟨(bP w.heap.size _ 0 W).size,fun k h1 h2=>(bP w.heap.size _ 0 W).block k h2 (by simp; omega)⟩).mono (Nat.le_of_lt hB)⟩,nC hP.rd (bP _ _ _ _) (by have:=R.b0; omega) (by omega),jL hg _ _ _ (Nat.le_refl _)⟩
theorem pq {R:Rp} {bs B:Nat} {w W:World} {x:gB} {r:aA} (hP:Pm R bs B W x r) (hg:w.grownBy W (some R.br)) (hl:R.br < w.heap.size):
 qd R w (.no r) (.returned (.tuple #[dx x.h x.b x.e x.s,.bool false])) (W.setCells w.heap.size 0 (gB.f x)):=
 ⟨⟨x,rfl⟩,nC hP.rd (bP _ _ _ _) (by have:=R.b0; omega) (by omega),jL hg _ _ _ (Nat.le_refl _)⟩
theorem rC {w:World} {b:Nat} {t:TypeId} (h:w.heap[b]? =some (.cells lZ t (0,0))):
 (w.cell? ⟨b,0,none⟩=some (.int .i64 0)∧w.cell? ⟨b,1,none⟩=some (.int .i64 0)∧w.cell? ⟨b,2,none⟩=some (.string ⟨#[]⟩)∧w.cell? ⟨b,3,none⟩=some (.string ⟨#[]⟩)∧w.cell? ⟨b,4,none⟩=some (.slice none 0 0)∧w.cell? ⟨b,5,none⟩=some (.int .i64 0)∧w.cell? ⟨b,6,none⟩=some (.int .i64 0)∧w.cell? ⟨b,7,none⟩=some (.string ⟨#[]⟩)∧w.cell? ⟨b,8,none⟩=some (.slice none 0 0)∧w.cell? ⟨b,9,none⟩=some (.slice none 0 0)∧w.cell? ⟨b,10,none⟩=some (.slice none 0 0))∧ ∀j,w.frozen? ⟨b,j,none⟩=false:=
 ⟨⟨aG h rfl,aG h rfl,aG h rfl,aG h rfl,aG h rfl,aG h rfl,aG h rfl,aG h rfl,aG h rfl,aG h rfl,aG h rfl⟩,fun _=>aK h⟩
theorem gX {R:Rp} {bs B:Nat} {W:World} {x:gB} {r:aA} (h:Pm R bs B W x r):
 W.cell? ⟨bs,0,none⟩=some (.int .i64 x.h.op)∧W.cell? ⟨bs,1,none⟩=some (.int .i64 x.h.line)∧W.cell? ⟨bs,2,none⟩=some (.string x.h.nm)∧W.cell? ⟨bs,3,none⟩=some (.string x.h.arg)∧W.cell? ⟨bs,4,none⟩=some (.slice x.s.dF x.h.idx.len x.s.bT)∧W.cell? ⟨bs,5,none⟩=some (.int .i64 x.h.bD)∧W.cell? ⟨bs,6,none⟩=some (.int .i64 x.h.xn)∧W.cell? ⟨bs,7,none⟩=some (.string x.h.bC)∧W.cell? ⟨bs,8,none⟩=some (.slice x.s.bS x.h.aL.len x.s.bf)∧W.cell? ⟨bs,9,none⟩=some (.slice x.s.bG x.b.len x.s.aS)∧W.cell? ⟨bs,10,none⟩=some (.slice x.s.dw x.e.len x.s.bR):=
 ⟨h.cell rfl,h.cell rfl,h.cell rfl,h.cell rfl,h.cell rfl,h.cell rfl,h.cell rfl,h.cell rfl,h.cell rfl,h.cell rfl,h.cell rfl⟩
theorem lW {R:Rp} {w w1:World} {ts:aA} {kv:Value} {sv:Value} (hI:aW w R ts) (hB:Below w.heap.size w w1) (hz:w1.heap[w.heap.size]? =some (.cells lZ 89 (0,0))) (hL:aU ((aZ ts:Nat):Int)) (gt:Nat) (hg:w1.heap.size=gt):
 ∀W,((w1.alloc (.cells #[kv,sv,.int .i64 ((aZ ts:Nat):Int)] 112)).alloc (.cells #[.int .i64 0,.int .i64 ((aZ ts:Nat):Int),.string ⟨#[]⟩,.string ⟨#[]⟩,.slice none 0 0,.int .i64 0,.int .i64 0,.string ⟨#[]⟩,.slice none 0 0,.slice none 0 0,.slice none 0 0] 89))=W→
 Pm R (gt + 1) (gt + 2) W ⟨hd 0 ((aZ ts:Nat):Int),.nil,.nil,zS⟩ ts∧Below w.heap.size w W∧W.heap[w.heap.size]? =some (.cells lZ 89 (0,0))∧W.cell? ⟨gt,0,none⟩=some kv∧W.cell? ⟨gt,1,none⟩=some sv∧w.heap.size < gt:=by
 intro W hW
 have h0:=(Array.getElem?_eq_some_iff.1 hz).1
 have hb1:Below w.heap.size w (w1.alloc (.cells #[kv,sv,.int .i64 ((aZ ts:Nat):Int)] 112)):=hB.alloc hB.size _
 have ht:(w1.alloc (.cells #[kv,sv,.int .i64 ((aZ ts:Nat):Int)] 112)).heap[gt]? =some (.cells #[kv,sv,.int .i64 ((aZ ts:Nat):Int)] 112 (0,0)):=by rw [← hg]; exact heap_alloc_new _ _
 have hz1:(w1.alloc (.cells #[kv,sv,.int .i64 ((aZ ts:Nat):Int)] 112)).heap[w.heap.size]? =some (.cells lZ 89 (0,0)):=(heap_alloc_old _ _ h0).trans hz
 have hs1:(w1.alloc (.cells #[kv,sv,.int .i64 ((aZ ts:Nat):Int)] 112)).heap.size=gt + 1:=by simp [hg]
 generalize w1.alloc (.cells #[kv,sv,.int .i64 ((aZ ts:Nat):Int)] 112)=W1 at *
 have hb2:Below w.heap.size w W:=by rw [← hW]; exact hb1.alloc hb1.size _
 have ht2:W.heap[gt]? =some (.cells #[kv,sv,.int .i64 ((aZ ts:Nat):Int)] 112 (0,0)):=by rw [← hW]; exact (heap_alloc_old _ _ (Array.getElem?_eq_some_iff.1 ht).1).trans ht
 refine ⟨⟨hI.below hb2,⟨by omega,by have:=hI.lt; omega⟩,by have:=hI.lt; omega,by have:=hI.lt; have:=R.b0; omega,by rw [← hW]; simp; omega,by rw [← hW,← hs1]; exact heap_alloc_new _ _,⟨sw,hL,Nat.zero_le _,Nat.zero_le _,Nat.zero_le _,Db,Nat.zero_le _,Nat.zero_le _⟩,fun _ _=>⟨trivial,trivial,trivial,trivial⟩⟩,hb2,?_,aG ht2 rfl,aG ht2 rfl,by omega⟩
 rw [← hW]; exact (heap_alloc_old _ _ (Array.getElem?_eq_some_iff.1 hz1).1).trans hz1
theorem kg {w:World} {R:Rp} {ts:aA} (hI:aW w R ts):aU ((aZ ts:Nat):Int):=by
 cases ts with
 | nil=>exact sw
 | cons t r=>have:=(hI.ZX t (by simp)).1; show aU (t.line:Int); unfold aU; omega
theorem gM {br bs k:Nat} {w w':World} {o:Obj} (h:Fr br bs w w') (hk:w.heap[k]? =some o) (h1:k≠br) (h2:k≠bs):w'.heap[k]? =some o:=(h.block k (Array.getElem?_eq_some_iff.1 hk).1 h1 h2).trans hk
theorem En (R:Rp) (f:Nat) (ts:aA) (w:World) (hI:aW w R ts) (h1:(nextK ts == 1)=true):
 Calls Tryz.prog 130 #[.pointer (some ⟨R.br,0,none⟩)] w (qd R w (ps (f + 1) true ts)):=by
 rw [U3 h1]
 have hk:nextK ts=1:=by simpa using h1
 clear h1
 have HI:=Lib.hid hI
 have HL:=Lib.hid (kg hI)
 have hlt:=hI.lt
 go_enter Tryz.func130,Tryz.ntmps130
 go_upto_region 1 with fail
 generalize hW:World.alloc w _=W0
 have HB0:Hid (Below w.heap.size w W0):=Lib.hid (by rw [← hW]; exact ah _ _)
 have HZ0:Hid (W0.heap[w.heap.size]? =some (.cells lZ 89 (0,0))):=Lib.hid (by rw [← hW]; exact heap_alloc_new _ _)
 have HN:=Lib.hid (gN R ts W0 (HI.out.below HB0.out))
 unfold kG at HN
 rw [hk] at HN
 clear hW hI hk
 go_wp2_with fail
 refine HN.out.mono ?_
 rintro e w1 ⟨rfl,h2⟩
 have HB1:=Lib.hid (HB0.out.trans (h2.mono HB0.out.size))
 have HZ1:=Lib.hid ((h2.block _ (Array.getElem?_eq_some_iff.1 HZ0.out).1).trans HZ0.out)
 clear h2 HN HB0 HZ0
 go_upto_region 3 with fail
 obtain ⟨gt,hg⟩: ∃g,w1.heap.size=g:=⟨_,rfl⟩
 rw [hg]
 generalize hW:World.alloc (World.alloc w1 _) _=W2
 have aT:=Lib.hid (lW HI.out HB1.out HZ1.out HL.out gt hg W2 hW)
 have e0:=aT.out.2.2.2.1
 have e1:=aT.out.2.2.2.2.1
 have bF:Hid (R.br < w.heap.size∧w.heap.size < gt):=Lib.hid ⟨hlt,aT.out.2.2.2.2.2⟩
 clear hW hg HB1 HZ1
 have f0:=aT.out.1.free 0
 have c0:=aT.out.1.cell (j:=0) rfl
 go_upto_region 6 with fail
 generalize hW:World.setCell W2 _ _=W3
 have aR:Hid (Pm R (gt + 1) (gt + 2) W3 ⟨hd 1 ((aZ ts:Nat):Int),.nil,.nil,zS⟩ ts):=Lib.hid (by rw [← hW]; exact aT.out.1.op 1 (by unfold aU; decide))
 have dD:Hid (Fr R.br (gt + 1) W2 W3):=Lib.hid (by rw [← hW]; exact (Fr.refl _ _ _).set _ _ (.inl rfl))
 clear hW f0 c0 e0 e1
 have HC:=Lib.hid (EJ R (gt + 1) (gt + 2) ts (hd 1 ((aZ ts:Nat):Int)) zS W3 aR.out)
 generalize wG (hd 1 ((aZ ts:Nat):Int)) ts=res at *
 go_wp2_with fail
 refine HC.out.mono ?_
 cases res with
 | no q=>
   rintro e w4 ⟨rfl,⟨x,h2⟩,h3⟩
   have dV:=Lib.hid h2
   have fU:=Lib.hid (dD.out.trans h3)
   clear h2 h3
   have gG:=Lib.hid (gM fU.out aT.out.2.2.1 (by have:=bF.out; omega) (by have:=bF.out; omega))
   obtain ⟨⟨y0,y1,y2,y3,y4,y5,y6,y7,y8,y9,iN⟩,fz⟩:=rC gG.out
   have z0:=fz 0
   have z1:=fz 1
   have z2:=fz 2
   have z3:=fz 3
   have z4:=fz 4
   have z5:=fz 5
   have z6:=fz 6
   have z7:=fz 7
   have z8:=fz 8
   have z9:=fz 9
   have qE:=fz 10
   obtain ⟨d0,d1,d2,d3,d4,d5,d6,d7,d8,d9,mh⟩:=gX dV.out
   clear fz
   go_wp2_with fail
   exact bodyPost_ret (v:= .tuple #[dx x.h x.b x.e x.s,.bool false]) (by simp [results,Tryz.results130,go_sem,dx,y0,y1,y2,y3,y4,y5,y6,y7,y8,y9,iN]) rfl (pq dV.out (fU.out.gr aT.out.2.1 (by have:=bF.out; omega)) bF.out.1)
 | ok y q=>
   rintro e w4 ⟨rfl,⟨s,h2⟩,h3⟩
   have dV:=Lib.hid h2
   have fU:=Lib.hid (dD.out.trans h3)
   clear h2 h3
   have gG:=Lib.hid (gM fU.out aT.out.2.2.1 (by have:=bF.out; omega) (by have:=bF.out; omega))
   obtain ⟨⟨y0,y1,y2,y3,y4,y5,y6,y7,y8,y9,iN⟩,fz⟩:=rC gG.out
   have z0:=fz 0
   have z1:=fz 1
   have z2:=fz 2
   have z3:=fz 3
   have z4:=fz 4
   have z5:=fz 5
   have z6:=fz 6
   have z7:=fz 7
   have z8:=fz 8
   have z9:=fz 9
   have qE:=fz 10
   obtain ⟨d0,d1,d2,d3,d4,d5,d6,d7,d8,d9,mh⟩:=gX dV.out
   clear fz
   go_wp2_with fail
   exact bodyPost_ret (v:= .tuple #[dx y.h y.b y.e s,.bool true]) (by simp [results,Tryz.results130,go_sem,dx,y0,y1,y2,y3,y4,y5,y6,y7,y8,y9,iN]) rfl (sS dV.out (fU.out.gr aT.out.2.1 (by have:=bF.out; omega)) bF.out.1 (by have:=bF.out; omega))
theorem Dx (R:Rp) (f:Nat) (ts:aA) (w:World) (hI:aW w R ts) (h1:(nextK ts == 1)=false) (h3:(nextK ts == 3)=false):
 Calls Tryz.prog 130 #[.pointer (some ⟨R.br,0,none⟩)] w (qd R w (ps (f + 1) true ts)):=by
 rw [Pp h1 h3]
 obtain ⟨k,hk⟩: ∃k,nextK ts=k:=⟨_,rfl⟩
 have k1:((k:Int) == 1)=false:=by rw [← hk]; exact (sI 1 ts).symm.trans h1
 have k3:((k:Int) == 3)=false:=by rw [← hk]; exact (sI 3 ts).symm.trans h3
 clear h1 h3
 have HI:=Lib.hid hI
 have HL:=Lib.hid (kg hI)
 have hlt:=hI.lt
 go_enter Tryz.func130,Tryz.ntmps130
 go_upto_region 1 with fail
 generalize hW:World.alloc w _=W0
 have HB0:Hid (Below w.heap.size w W0):=Lib.hid (by rw [← hW]; exact ah _ _)
 have HZ0:Hid (W0.heap[w.heap.size]? =some (.cells lZ 89 (0,0))):=Lib.hid (by rw [← hW]; exact heap_alloc_new _ _)
 have HN:=Lib.hid (gN R ts W0 (HI.out.below HB0.out))
 unfold kG at HN
 rw [hk] at HN
 clear hW hI hk
 go_wp2_with fail
 refine HN.out.mono ?_
 rintro e w1 ⟨rfl,h2⟩
 have HB1:=Lib.hid (HB0.out.trans (h2.mono HB0.out.size))
 have HZ1:=Lib.hid ((h2.block _ (Array.getElem?_eq_some_iff.1 HZ0.out).1).trans HZ0.out)
 clear h2 HN HB0 HZ0
 go_upto_region 3 with fail
 obtain ⟨gt,hg⟩: ∃g,w1.heap.size=g:=⟨_,rfl⟩
 rw [hg]
 generalize hW:World.alloc (World.alloc w1 _) _=W2
 have aT:=Lib.hid (lW HI.out HB1.out HZ1.out HL.out gt hg W2 hW)
 have e0:=aT.out.2.2.2.1
 have e1:=aT.out.2.2.2.2.1
 have bF:Hid (R.br < w.heap.size∧w.heap.size < gt):=Lib.hid ⟨hlt,aT.out.2.2.2.2.2⟩
 clear hW hg HB1 HZ1
 obtain ⟨⟨y0,y1,y2,y3,y4,y5,y6,y7,y8,y9,iN⟩,fz⟩:=rC aT.out.2.2.1
 have z0:=fz 0
 have z1:=fz 1
 have z2:=fz 2
 have z3:=fz 3
 have z4:=fz 4
 have z5:=fz 5
 have z6:=fz 6
 have z7:=fz 7
 have z8:=fz 8
 have z9:=fz 9
 have qE:=fz 10
 obtain ⟨d0,d1,d2,d3,d4,d5,d6,d7,d8,d9,mh⟩:=gX aT.out.1
 clear fz
 go_wp2_with fail
 exact bodyPost_ret (v:= .tuple #[dx (hd 0 ((aZ ts:Nat):Int)) .nil .nil zS,.bool false]) (by simp [results,Tryz.results130,go_sem,dx,y0,y1,y2,y3,y4,y5,y6,y7,y8,y9,iN,hd,zS,aP.len,aN.len]) rfl (pq aT.out.1 (bK aT.out.2.1) bF.out.1)
theorem Za (w:World):(binOp .eql 198 .nilFunc .nilFunc).run Tryz.prog w= .ok (.bool true) w:=by kernel_rfl
theorem EH (R:Rp) (f:Nat) (ts:aA) (w:World) (hI:aW w R ts) (h1:(nextK ts == 1)=false) (h3:(nextK ts == 3)=true) (h0:(iw (aF ts) == 0)=true):
 Calls Tryz.prog 130 #[.pointer (some ⟨R.br,0,none⟩)] w (qd R w (ps (f + 1) true ts)):=by
 rw [Vh h1 h3 h0]
 have hk:nextK ts=3:=by simpa using h3
 have kQ:Hid (∀w,Calls Tryz.prog 158 #[.string (tx (aF ts))] w fun e w'=>e= .returned (.tuple #[.int .i64 0,.nilFunc])∧w=w'):=Lib.hid (fun w=>by
  have:=Gl (tx (aF ts)) (l:=aF ts) rfl w
  rw [show iw (aF ts)=0 by simpa using h0] at this; exact this)
 clear h1 h3 h0
 have hnf:=Za
 have HI:=Lib.hid hI
 have HL:=Lib.hid (kg hI)
 have hlt:=hI.lt
 go_enter Tryz.func130,Tryz.ntmps130
 go_upto_region 1 with fail
 generalize hW:World.alloc w _=W0
 have HB0:Hid (Below w.heap.size w W0):=Lib.hid (by rw [← hW]; exact ah _ _)
 have HZ0:Hid (W0.heap[w.heap.size]? =some (.cells lZ 89 (0,0))):=Lib.hid (by rw [← hW]; exact heap_alloc_new _ _)
 have HN:=Lib.hid (gN R ts W0 (HI.out.below HB0.out))
 unfold kG at HN
 rw [hk] at HN
 clear hW hI hk
 go_wp2_with fail
 refine HN.out.mono ?_
 rintro e w1 ⟨rfl,h2⟩
 have HB1:=Lib.hid (HB0.out.trans (h2.mono HB0.out.size))
 have HZ1:=Lib.hid ((h2.block _ (Array.getElem?_eq_some_iff.1 HZ0.out).1).trans HZ0.out)
 clear h2 HN HB0 HZ0
 go_upto_region 3 with fail
 obtain ⟨gt,hg⟩: ∃g,w1.heap.size=g:=⟨_,rfl⟩
 rw [hg]
 generalize hW:World.alloc (World.alloc w1 _) _=W2
 have aT:=Lib.hid (lW HI.out HB1.out HZ1.out HL.out gt hg W2 hW)
 have e0:=aT.out.2.2.2.1
 have e1:=aT.out.2.2.2.2.1
 have bF:Hid (R.br < w.heap.size∧w.heap.size < gt):=Lib.hid ⟨hlt,aT.out.2.2.2.2.2⟩
 clear hW hg HB1 HZ1
 go_wp2_with fail
 refine (kQ.out _).mono ?_
 rintro e w3 ⟨rfl,rfl⟩
 obtain ⟨⟨y0,y1,y2,y3,y4,y5,y6,y7,y8,y9,iN⟩,fz⟩:=rC aT.out.2.2.1
 have z0:=fz 0
 have z1:=fz 1
 have z2:=fz 2
 have z3:=fz 3
 have z4:=fz 4
 have z5:=fz 5
 have z6:=fz 6
 have z7:=fz 7
 have z8:=fz 8
 have z9:=fz 9
 have qE:=fz 10
 obtain ⟨d0,d1,d2,d3,d4,d5,d6,d7,d8,d9,mh⟩:=gX aT.out.1
 clear fz
 go_wp2_with fail
 exact bodyPost_ret (v:= .tuple #[dx (hd 0 ((aZ ts:Nat):Int)) .nil .nil zS,.bool false]) (by simp [results,Tryz.results130,go_sem,dx,y0,y1,y2,y3,y4,y5,y6,y7,y8,y9,iN,hd,zS,aP.len,aN.len]) rfl (pq aT.out.1 (bK aT.out.2.1) bF.out.1)
end Go.Proofs.YtehnipchbmjlhaaGreatDoor
end
