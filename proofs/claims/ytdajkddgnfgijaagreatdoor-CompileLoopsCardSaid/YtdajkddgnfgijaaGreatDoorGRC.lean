/-
  A statement under way, in memory; what its reading leaves. No walk in sight.
  Contracts of the reader's plainBlock, namedBlock, named, setting, getting.
  Contracts of the reader's loop, conditional, assignment.
  Contract of the reader's statement.
-/
import Derived.Test.YtdajkddgnfgijaaGreatDoorGRB
import Derived.Test.YtdajkddgnfgijaaGreatDoorGZB
import Derived.Test.YtdajkddgnfgijaaGreatDoorGMB
section
set_option linter.unusedSimpArgs false
set_option linter.unusedVariables false
namespace Go.Proofs.YtdajkddgnfgijaaGreatDoor
open Go.RowKit
open Md Pz
structure Fr (br bs:Nat) (w w':World):Prop where
 os:w'.os=w.os
 tape:w'.tape=w.tape
 output:w'.output=w.output
 size:w.heap.size≤w'.heap.size
 block: ∀k,k < w.heap.size→k≠br→k≠bs→w'.heap[k]? =w.heap[k]?
section
variable {br bs:Nat} {w w1 w2 w':World}
theorem Fr.refl (br bs:Nat) (w:World):Fr br bs w w:=⟨rfl,rfl,rfl,Nat.le_refl _,fun _ _ _ _=>rfl⟩
theorem Fr.trans (h:Fr br bs w w1) (k:Fr br bs w1 w2):Fr br bs w w2:=
 ⟨k.os.trans h.os,k.tape.trans h.tape,k.output.trans h.output,Nat.le_trans h.size k.size,fun j hj h1 h2=>(k.block j (Nat.lt_of_lt_of_le hj h.size) h1 h2).trans (h.block j hj h1 h2)⟩
theorem Fr.cK (h:w.grownBy w' (some br)):Fr br bs w w':=⟨h.os,h.tape,h.output,h.size,fun k hk h1 _=>h.block k hk (by simp; exact h1)⟩
theorem Fr.set (h:Fr br bs w w') (a:Addr) (v:Value) (ha:a.block=bs∨w.heap.size≤a.block):Fr br bs w (w'.setCell a v):=
 ⟨h.os,h.tape,h.output,by have:=h.size; simpa [World.setCell] using this,fun k hk h1 h2=>(bJ w' a v rfl (by omega)).trans (h.block k hk h1 h2)⟩
theorem Fr.alloc (h:Fr br bs w w') (o:Obj):Fr br bs w (w'.alloc o):=h.trans (Fr.cK (bP (aj _ _)))
theorem Fr.gr (h:Fr br bs w1 w') (hb:Below w.heap.size w w1) (hs:w.heap.size≤bs):w.grownBy w' (some br):=
 ⟨h.os.trans hb.os,h.tape.trans hb.tape,h.output.trans hb.output,Nat.le_trans hb.size h.size,fun k hk h1=>(h.block k (Nat.lt_of_lt_of_le hk hb.size) (by simpa using h1) (by omega)).trans (hb.block k hk)⟩
end
def zS:Sl:=⟨none,0,none,0,none,0,none,0⟩
structure Pm (R:Rp) (bs B:Nat) (w:World) (x:iK) (rest:aJ):Prop where
 rd:bf w R rest
 lt:bs < B∧R.br < B
 ne:bs≠R.br
 b0:R.B0≤bs
 sz:B≤w.heap.size
 blk:w.heap[bs]? =some (.cells (iK.f x).toArray 131 (0,0))
 ok:sj x.h x.b x.e
 st:eH B w (iK.I x)
section
variable {R:Rp} {bs B:Nat} {w W W':World} {x:iK} {rest rest':aJ}
theorem Pm.then (h:Pm R bs B W x rest) (h1:bf W' R rest') (h2:W.grownBy W' (some R.br)):Pm R bs B W' x rest':=
 ⟨h1,h.lt,h.ne,h.b0,Nat.le_trans h.sz h2.size,(h2.block _ (Nat.lt_of_lt_of_le h.lt.1 h.sz) (by simp; exact h.ne)).trans h.blk,h.ok,h.st.next (oo h2 h.lt.2)⟩
theorem Pm.below (h:Pm R bs B W x rest) (hb:Below W.heap.size W W'):Pm R bs B W' x rest:=h.then (h.rd.below hb) (bP hb)
theorem Pm.alloc (h:Pm R bs B W x rest) (o:Obj):Pm R bs B (W.alloc o) x rest:=h.below (aj _ _)
theorem Pm.put (h:Pm R bs B W x rest) (j:Nat) (v:Value) {y:iK} (hy:(iK.f x).toArray.setIfInBounds j v=(iK.f y).toArray) (hok:sj y.h y.b y.e) (hst:eH B W (iK.I y)):Pm R bs B (W.setCell ⟨bs,j,none⟩ v) y rest:=
 ⟨nY h.rd _ v h.b0 h.ne,h.lt,h.ne,h.b0,by have:=h.sz; simpa [World.setCell] using this,by rw [dV h.blk,hy],hok,hst.next (gK W ⟨bs,j,none⟩ v h.lt.1)⟩
theorem Pm.nm (h:Pm R bs B W x rest) (s:ByteArray) (hs:s.size≤maxLen):Pm R bs B (W.setCell ⟨bs,2,none⟩ (.string s)) ⟨{x.h with nm:=s},x.b,x.e,x.s⟩ rest:=
 h.put 2 _ rfl ⟨h.ok.1,h.ok.2.1,hs,h.ok.2.2.2⟩ h.st
theorem Pm.arg (h:Pm R bs B W x rest) (s:ByteArray) (hs:s.size≤maxLen):Pm R bs B (W.setCell ⟨bs,3,none⟩ (.string s)) ⟨{x.h with arg:=s},x.b,x.e,x.s⟩ rest:=
 h.put 3 _ rfl ⟨h.ok.1,h.ok.2.1,h.ok.2.2.1,hs,h.ok.2.2.2.2⟩ h.st
theorem Pm.op (h:Pm R bs B W x rest) (n:Int) (hn:dR n):Pm R bs B (W.setCell ⟨bs,0,none⟩ (.int .i64 n)) ⟨{x.h with op:=n},x.b,x.e,x.s⟩ rest:=
 h.put 0 _ rfl ⟨hn,h.ok.2⟩ h.st
theorem Pm.idx (h:Pm R bs B W x rest) (l:bL) (ao:Option Addr) (cap:Nat) (hl:l.len≤maxLen) (hst:eH B W (fun w2=>l.At w2 w2.heap.size ao 0)):
 Pm R bs B (W.setCell ⟨bs,4,none⟩ (.slice ao l.len cap)) ⟨{x.h with idx:=l},x.b,x.e,{x.s with dZ:=ao,dG:=cap}⟩ rest:=
 h.put 4 _ rfl ⟨h.ok.1,h.ok.2.1,h.ok.2.2.1,h.ok.2.2.2.1,hl,h.ok.2.2.2.2.2⟩ (fun w2 h2=>⟨hst w2 h2,(h.st w2 h2).2⟩)
theorem Pm.body (h:Pm R bs B W x rest) (l:aP) (ao:Option Addr) (cap:Nat) (hl:l.len≤maxLen) (hst:eH B W (fun w2=>l.At w2 w2.heap.size ao 0)):
 Pm R bs B (W.setCell ⟨bs,9,none⟩ (.slice ao l.len cap)) ⟨x.h,l,x.e,{x.s with bV:=ao,bC:=cap}⟩ rest:=
 h.put 9 _ rfl ⟨h.ok.1,h.ok.2.1,h.ok.2.2.1,h.ok.2.2.2.1,h.ok.2.2.2.2.1,h.ok.2.2.2.2.2.1,hl,h.ok.2.2.2.2.2.2.2⟩ (fun w2 h2=>⟨(h.st w2 h2).1,(h.st w2 h2).2.1,hst w2 h2,(h.st w2 h2).2.2.2⟩)
theorem Pm.els (h:Pm R bs B W x rest) (l:aP) (ao:Option Addr) (cap:Nat) (hl:l.len≤maxLen) (hst:eH B W (fun w2=>l.At w2 w2.heap.size ao 0)):
 Pm R bs B (W.setCell ⟨bs,10,none⟩ (.slice ao l.len cap)) ⟨x.h,x.b,l,{x.s with eB:=ao,dK:=cap}⟩ rest:=
 h.put 10 _ rfl ⟨h.ok.1,h.ok.2.1,h.ok.2.2.1,h.ok.2.2.2.1,h.ok.2.2.2.2.1,h.ok.2.2.2.2.2.1,h.ok.2.2.2.2.2.2.1,hl⟩ (fun w2 h2=>⟨(h.st w2 h2).1,(h.st w2 h2).2.1,(h.st w2 h2).2.2.1,hst w2 h2⟩)
def Mc (w:World) (b:Nat) (v0 v1 v2 v3:Value):World:=(((w.setCell ⟨b,5,none⟩ v0).setCell ⟨b,6,none⟩ v1).setCell ⟨b,7,none⟩ v2).setCell ⟨b,8,none⟩ v3
theorem Pm.ex (h:Pm R bs B W x rest) (y:E) (ao:Option Addr) (cap:Nat) (hy:ni y) (hst:eH B W (fun w2=>y.kids.At w2 w2.heap.size ao 0)):
 Pm R bs B (Mc W bs (.int .i64 y.op) (.int .i64 y.n) (.string y.nm) (.slice ao y.kids.len cap)) ⟨aX.ex x.h y,x.b,x.e,{x.s with dH:=ao,bR:=cap}⟩ rest:=by
 have ha:jf B W (Mc W bs (.int .i64 y.op) (.int .i64 y.n) (.string y.nm) (.slice ao y.kids.len cap)):=by
  have x1:jf B W _:=gK W ⟨bs,5,none⟩ (.int .i64 y.op) h.lt.1
  have x2:=x1.trans (gK _ ⟨bs,6,none⟩ (.int .i64 y.n) h.lt.1)
  have x3:=x2.trans (gK _ ⟨bs,7,none⟩ (.string y.nm) h.lt.1)
  exact x3.trans (gK _ ⟨bs,8,none⟩ (.slice ao y.kids.len cap) h.lt.1)
 refine ⟨nY (nY (nY (nY h.rd _ _ h.b0 h.ne) _ _ h.b0 h.ne) _ _ h.b0 h.ne) _ _ h.b0 h.ne,h.lt,h.ne,h.b0,Nat.le_trans h.sz ha.1,?_,⟨h.ok.1,h.ok.2.1,h.ok.2.2.1,h.ok.2.2.2.1,h.ok.2.2.2.2.1,hy,h.ok.2.2.2.2.2.2⟩,?_⟩
 ·unfold Mc
  rw [dV (dV (dV (dV h.blk _) _) _) _]; rfl
 ·exact fun w2 h2=>⟨(h.st w2 (ha.trans h2)).1,hst w2 (ha.trans h2),(h.st w2 (ha.trans h2)).2.2⟩
theorem Pm.ad4 (h:Pm R bs B W x rest) (y:E) (ao:Option Addr) (cap:Nat) (t:TypeId) (hy:ni y∧eH B W (fun w2=>y.kids.At w2 w2.heap.size ao 0)):
 Pm R bs B ((W.setCell ⟨bs,4,none⟩ (.slice (some ⟨W.heap.size,0,none⟩) 1 1)).alloc (.cells #[.int .i64 y.op,.int .i64 y.n,.string y.nm,.slice ao y.kids.len cap] t)) ⟨{x.h with idx:= .cons y.op y.n y.nm y.kids .nil},x.b,x.e,{x.s with dZ:=some ⟨W.heap.size,0,none⟩,dG:=1}⟩ rest:=by
 have ha:jf B W (W.setCell ⟨bs,4,none⟩ (.slice (some ⟨W.heap.size,0,none⟩) 1 1)):=gK W ⟨bs,4,none⟩ _ h.lt.1
 have hs:(W.setCell ⟨bs,4,none⟩ (.slice (some ⟨W.heap.size,0,none⟩) 1 1)).heap.size=W.heap.size:=by simp [World.setCell]
 have hb:(W.setCell ⟨bs,4,none⟩ (.slice (some ⟨W.heap.size,0,none⟩) 1 1)).heap[bs]? =some (.cells (iK.f ⟨{x.h with idx:= .cons y.op y.n y.nm y.kids .nil},x.b,x.e,{x.s with dZ:=some ⟨W.heap.size,0,none⟩,dG:=1}⟩).toArray 131 (0,0)):=by rw [dV h.blk]; rfl
 have hr:=nY h.rd ⟨bs,4,none⟩ (.slice (some ⟨W.heap.size,0,none⟩) 1 1) h.b0 h.ne
 have hz:=h.sz
 generalize W.setCell ⟨bs,4,none⟩ (.slice (some ⟨W.heap.size,0,none⟩) 1 1)=W1 at *
 have hst:eH B (W1.alloc (.cells #[.int .i64 y.op,.int .i64 y.n,.string y.nm,.slice ao y.kids.len cap] t)) (fun w2=>(bL.cons y.op y.n y.nm y.kids .nil).At w2 w2.heap.size (some ⟨W.heap.size,0,none⟩) 0):=by
  rw [← hs]
  exact Df (heap_alloc_new _ _) (by omega) hy.1 ((hy.2.next ha).next (bU (aj _ _)))
 refine ⟨oZ hr _,h.lt,h.ne,h.b0,by simp; omega,(heap_alloc_old _ _ (Array.getElem?_eq_some_iff.1 hb).1).trans hb,⟨h.ok.1,h.ok.2.1,h.ok.2.2.1,h.ok.2.2.2.1,by simp [bL.len,maxLen],h.ok.2.2.2.2.2⟩,fun w2 h2=>⟨hst w2 h2,(h.st w2 ((ha.trans (bU (aj _ _))).trans h2)).2⟩⟩
theorem Pm.cell (h:Pm R bs B W x rest) {j:Nat} {u:Value} (hu:(iK.f x).toArray[j]? =some u):W.cell? ⟨bs,j,none⟩=some u:=aB h.blk hu
theorem Pm.free (h:Pm R bs B W x rest) (j:Nat):W.frozen? ⟨bs,j,none⟩=false:=bH h.blk
end
def lZ (R:Rp) (bs B:Nat) (w:World) (res:bK Sx) (e:Ending) (w':World):Prop:=
 match res with
 | .ok y r=>e= .returned (.bool true)∧(∃s,Pm R bs B w' ⟨y.h,y.b,y.e,s⟩ r)∧Fr R.br bs w w'
 | .no r=>e= .returned (.bool false)∧(∃x,Pm R bs B w' x r)∧Fr R.br bs w w'
def EF (R:Rp) (w:World) (res:bK aP) (e:Ending) (w':World):Prop:=
 match res with
 | .ok b r=>(∃ao cap,e= .returned (.tuple #[.slice ao b.len cap,.bool true])∧b.len≤4096∧eH w.heap.size w' (fun w2=>b.At w2 w2.heap.size ao 0))∧bf w' R r∧w.grownBy w' (some R.br)
 | .no r=>e= .returned (.tuple #[.slice none 0 0,.bool false])∧bf w' R r∧w.grownBy w' (some R.br)
def mX (R:Rp) (f:Nat) (ts:aJ):Prop:= ∀w,bf w R ts→Calls Tryz.prog 102 #[.pointer (some ⟨R.br,0,none⟩)] w (EF R w (blk f ts))
theorem qA {R:Rp} {bs B:Nat} {w W:World} {y:Sx} {s:Sl} {r:aJ} (h:Pm R bs B W ⟨y.h,y.b,y.e,s⟩ r) (hf:Fr R.br bs w W):lZ R bs B w (.ok y r) (.returned (.bool true)) W:=⟨rfl,⟨s,h⟩,hf⟩
theorem iw {R:Rp} {bs B:Nat} {w W:World} {x:iK} {r:aJ} (h:Pm R bs B W x r) (hf:Fr R.br bs w W):lZ R bs B w (.no r) (.returned (.bool false)) W:=⟨rfl,⟨x,h⟩,hf⟩
end Go.Proofs.YtdajkddgnfgijaaGreatDoor
end
section
set_option linter.unusedSimpArgs false
set_option linter.unusedVariables false
namespace Go.Proofs.YtdajkddgnfgijaaGreatDoor
open Go.RowKit
open Md Pz
theorem iq {R:Rp} {bs B:Nat} {w W:World} {res res':bK Sx} {e:Ending} (h:res=res') (p:lZ R bs B w res' e W):lZ R bs B w res e W:=h ▸ p
theorem Dg:ni ⟨0,0,⟨#[]⟩,.nil⟩:=⟨tT,tT,Nat.zero_le _,Nat.zero_le _⟩
theorem xG {B:Nat} {W:World} :eH B W (fun w2=>(bL.nil).At w2 w2.heap.size none 0):=fun _ _=>trivial
theorem I4:(aP.nil).len≤maxLen:=Nat.zero_le _
theorem GA {B:Nat} {W:World} :eH B W (fun w2=>(aP.nil).At w2 w2.heap.size none 0):=fun _ _=>trivial
set_option maxHeartbeats 1000000 in
set_option maxRecDepth 100000 in
theorem xJ (R:Rp) (bs B f:Nat) (r:aJ) (ru:Hid (mX R f r)) (h:aX) (b0:aP) (s:Sl) (w:World) (hp:Pm R bs B w ⟨h,b0,.nil,s⟩ r):
 Calls Tryz.prog 202 #[.pointer (some ⟨R.br,0,none⟩),.pointer (some ⟨bs,0,none⟩)] w (lZ R bs B w (lN f h r)):=by
 have HP:=Lib.hid hp
 have HC:=Lib.hid (ru.out w hp.rd)
 clear hp ru
 unfold lN
 generalize blk f r=res at *
 go_enter Tryz.func202,Tryz.ntmps202
 go_wp2_with fail
 refine HC.out.mono ?_
 cases res with
 | no q=>
   rintro e w1 ⟨rfl,h2,h3⟩
   have bQ:=Lib.hid (HP.out.then h2 h3)
   have HF:=Lib.hid (Fr.cK (bs:=bs) h3)
   clear h2 h3 HP
   have c9:=bQ.out.cell (j:=9) rfl
   have f9:=bQ.out.free 9
   go_wp2_with fail
   go_ret
   exact iw (bQ.out.body .nil none 0 I4 GA) (HF.out.set _ _ (.inl rfl))
 | ok b q=>
   rintro e w1 ⟨⟨ao,cap,rfl,hl,hst⟩,h2,h3⟩
   have bQ:=Lib.hid (HP.out.then h2 h3)
   have HF:=Lib.hid (Fr.cK (bs:=bs) h3)
   have HL:Hid (b.len≤maxLen):=Lib.hid (Nat.le_trans hl (by unfold maxLen; decide))
   have HS:=Lib.hid (hst.mono HP.out.sz)
   clear h2 h3 HP hl hst
   have c9:=bQ.out.cell (j:=9) rfl
   have f9:=bQ.out.free 9
   go_wp2_with fail
   go_ret
   exact qA (y:=⟨h,b,.nil⟩) (bQ.out.body b ao cap HL.out HS.out) (HF.out.set _ _ (.inl rfl))
set_option maxHeartbeats 1000000 in
set_option maxRecDepth 100000 in
theorem uf (R:Rp) (bs B:Nat) (r:aJ) (h:aX) (s:Sl) (w:World) (hp:Pm R bs B w ⟨h,.nil,.nil,s⟩ r):
 Calls Tryz.prog 203 #[.pointer (some ⟨R.br,0,none⟩),.pointer (some ⟨bs,0,none⟩)] w (lZ R bs B w (vZ h r)):=by
 have HP:=Lib.hid hp
 clear hp
 cases hn:isName r
 ·have HR:Hid (vZ h r= .no r):=Lib.hid (by unfold vZ gq; rw [if_neg (by rw [hn]; decide)]; rfl)
  rw [HR.out]
  go_enter Tryz.func203,Tryz.ntmps203
  go_wp2_with fail
  refine (jY R _ _ hn HP.out.rd).mono ?_
  rintro e w1 ⟨rfl,h2⟩
  have bQ:=Lib.hid (HP.out.below h2)
  have HF:=Lib.hid (Fr.cK (br:=R.br) (bs:=bs) (bP h2))
  clear h2 HP
  have c2:=bQ.out.cell (j:=2) rfl
  have f2:=bQ.out.free 2
  go_wp2_with fail
  go_ret
  exact iw (bQ.out.nm ⟨#[]⟩ (Nat.zero_le _)) (HF.out.set _ _ (.inl rfl))
 ·have qN:Hid ((tx (aI r)).size≤maxLen):=Lib.hid (mM (mU HP.out.rd.ts hn))
  have HR:Hid (vZ h r=(need [59] r.tail).map fun _=>⟨{h with nm:=tx (aI r)},.nil,.nil⟩):=Lib.hid (by unfold vZ gq; rw [if_pos hn]; rfl)
  rw [HR.out]
  go_enter Tryz.func203,Tryz.ntmps203
  go_wp2_with fail
  refine (jr R _ _ hn HP.out.rd).mono ?_
  rintro e w1 ⟨rfl,h2,h3⟩
  have bQ:=Lib.hid (HP.out.then h2 h3)
  have HF:=Lib.hid (Fr.cK (br:=R.br) (bs:=bs) h3)
  clear h2 h3 HP
  have c2:=bQ.out.cell (j:=2) rfl
  have f2:=bQ.out.free 2
  go_upto_region 3 with fail
  generalize hW:World.setCell w1 _ _=W
  have aU:Hid (Pm R bs B W ⟨{h with nm:=tx (aI r)},.nil,.nil,s⟩ r.tail):=Lib.hid (by rw [← hW]; exact bQ.out.nm _ qN.out)
  have fu:Hid (Fr R.br bs w W):=Lib.hid (by rw [← hW]; exact HF.out.set _ _ (.inl rfl))
  clear hW c2 f2 bQ HF
  cases h4:at' [59] r.tail
  ·go_wp2_with fail
   refine (dU R _ _ ⟨#[59]⟩ rfl h4 aU.out.rd).mono ?_
   rintro e w3 ⟨rfl,h2⟩
   have aW:=Lib.hid (aU.out.below h2)
   have dQ:=Lib.hid (fu.out.trans (Fr.cK (bP h2)))
   clear h2
   go_wp2_with fail
   go_ret
   exact (show need [59] r.tail= .no r.tail by unfold need; rw [if_neg (by rw [h4]; decide)]) ▸ iw aW.out dQ.out
  ·go_wp2_with fail
   refine (cu R _ _ ⟨#[59]⟩ rfl h4 aU.out.rd).mono ?_
   rintro e w3 ⟨rfl,h2,h3⟩
   have aW:=Lib.hid (aU.out.then h2 h3)
   have dQ:=Lib.hid (fu.out.trans (Fr.cK h3))
   clear h2 h3
   go_wp2_with fail
   go_ret
   exact (show need [59] r.tail= .ok () r.tail.tail by unfold need; rw [if_pos h4]) ▸ qA (y:=⟨{h with nm:=tx (aI r)},.nil,.nil⟩) aW.out dQ.out
theorem nX {α:Type} {x:α} {r:aJ} {y:List UInt8} (h:at' y r=true):(bK.ok x r).close y= .ok x r.tail:=by show ite _ _ _=_; rw [if_pos h]
theorem nK {α:Type} {x:α} {r:aJ} {y:List UInt8} (h:at' y r=false):(bK.ok x r).close y= .no r:=by show ite _ _ _=_; rw [if_neg (by rw [h]; decide)]
theorem kM {r:aJ} (h:isName r=true):gq r= .ok (tx (aI r)) r.tail:=by unfold gq; rw [if_pos h]
theorem nR {r:aJ} (h:isName r=false):gq r= .no r:=by unfold gq; rw [if_neg (by rw [h]; decide)]
set_option maxHeartbeats 1000000 in
set_option maxRecDepth 100000 in
theorem sU (R:Rp) (bs B f:Nat) (r:aJ) (ru:Hid (isName r=true→mX R f r.tail)) (h:aX) (s:Sl) (w:World) (hp:Pm R bs B w ⟨h,.nil,.nil,s⟩ r):
 Calls Tryz.prog 201 #[.pointer (some ⟨R.br,0,none⟩),.pointer (some ⟨bs,0,none⟩)] w (lZ R bs B w (tu f h r)):=by
 have HP:=Lib.hid hp
 clear hp
 cases hn:isName r
 ·have HR:Hid (tu f h r= .no r):=Lib.hid (by unfold tu; rw [nR hn]; rfl)
  rw [HR.out]
  go_enter Tryz.func201,Tryz.ntmps201
  go_wp2_with fail
  refine (jY R _ _ hn HP.out.rd).mono ?_
  rintro e w1 ⟨rfl,h2⟩
  have bQ:=Lib.hid (HP.out.below h2)
  have HF:=Lib.hid (Fr.cK (br:=R.br) (bs:=bs) (bP h2))
  clear h2 HP
  have c2:=bQ.out.cell (j:=2) rfl
  have f2:=bQ.out.free 2
  go_wp2_with fail
  go_ret
  exact iw (bQ.out.nm ⟨#[]⟩ (Nat.zero_le _)) (HF.out.set _ _ (.inl rfl))
 ·have qN:Hid ((tx (aI r)).size≤maxLen):=Lib.hid (mM (mU HP.out.rd.ts hn))
  have HR:Hid (tu f h r=lN f {h with nm:=tx (aI r)} r.tail):=Lib.hid (by unfold tu; rw [kM hn]; rfl)
  have HC:Hid (∀W,Pm R bs B W ⟨{h with nm:=tx (aI r)},.nil,.nil,s⟩ r.tail→Calls Tryz.prog 202 #[.pointer (some ⟨R.br,0,none⟩),.pointer (some ⟨bs,0,none⟩)] W (lZ R bs B W (lN f {h with nm:=tx (aI r)} r.tail))):=Lib.hid (fun W hW=>xJ R bs B f r.tail (Lib.hid (ru.out hn)) _ .nil s W hW)
  rw [HR.out]
  clear HR ru
  generalize lN f {h with nm:=tx (aI r)} r.tail=res at *
  go_enter Tryz.func201,Tryz.ntmps201
  go_wp2_with fail
  refine (jr R _ _ hn HP.out.rd).mono ?_
  rintro e w1 ⟨rfl,h2,h3⟩
  have bQ:=Lib.hid (HP.out.then h2 h3)
  have HF:=Lib.hid (Fr.cK (br:=R.br) (bs:=bs) h3)
  clear h2 h3 HP
  have c2:=bQ.out.cell (j:=2) rfl
  have f2:=bQ.out.free 2
  go_upto_region 3 with fail
  generalize hW:World.setCell w1 _ _=W
  have aU:Hid (Pm R bs B W ⟨{h with nm:=tx (aI r)},.nil,.nil,s⟩ r.tail):=Lib.hid (by rw [← hW]; exact bQ.out.nm _ qN.out)
  have fu:Hid (Fr R.br bs w W):=Lib.hid (by rw [← hW]; exact HF.out.set _ _ (.inl rfl))
  clear hW c2 f2 bQ HF
  go_wp2_with fail
  refine (HC.out _ aU.out).mono ?_
  cases res with
  | no q=>
    rintro e w3 ⟨rfl,⟨x,h2⟩,h3⟩
    have aW:=Lib.hid h2
    have dQ:=Lib.hid (fu.out.trans h3)
    clear h2 h3
    go_wp2_with fail
    go_ret
    exact iw aW.out dQ.out
  | ok y q=>
    rintro e w3 ⟨rfl,⟨x,h2⟩,h3⟩
    have aW:=Lib.hid h2
    have dQ:=Lib.hid (fu.out.trans h3)
    clear h2 h3
    go_wp2_with fail
    go_ret
    exact qA aW.out dQ.out
set_option maxHeartbeats 1000000 in
set_option maxRecDepth 100000 in
theorem Jz (R:Rp) (bs B:Nat) (r:aJ) (h:aX) (s:Sl) (w:World) (hp:Pm R bs B w ⟨h,.nil,.nil,s⟩ r):
 Calls Tryz.prog 204 #[.pointer (some ⟨R.br,0,none⟩),.pointer (some ⟨bs,0,none⟩)] w (lZ R bs B w (D6 h r)):=by
 have HP:=Lib.hid hp
 clear hp
 cases hn:isName r
 ·have HR:Hid (D6 h r= .no r):=Lib.hid (by unfold D6; rw [nR hn]; rfl)
  rw [HR.out]
  go_enter Tryz.func204,Tryz.ntmps204
  go_wp2_with fail
  refine (jY R _ _ hn HP.out.rd).mono ?_
  rintro e w1 ⟨rfl,h2⟩
  have bQ:=Lib.hid (HP.out.below h2)
  have HF:=Lib.hid (Fr.cK (br:=R.br) (bs:=bs) (bP h2))
  clear h2 HP
  have c2:=bQ.out.cell (j:=2) rfl
  have f2:=bQ.out.free 2
  go_wp2_with fail
  go_ret
  exact iw (bQ.out.nm ⟨#[]⟩ (Nat.zero_le _)) (HF.out.set _ _ (.inl rfl))
 ·have qN:Hid ((tx (aI r)).size≤maxLen):=Lib.hid (mM (mU HP.out.rd.ts hn))
  have HR:Hid (D6 h r=((Pz.expr r.tail).map fun x=>(⟨aX.ex {h with nm:=tx (aI r)} x,.nil,.nil⟩:Sx)).close [59]):=Lib.hid (by unfold D6; rw [kM hn]; rfl)
  have HC:Hid (∀W,bf W R r.tail→Calls Tryz.prog 198 #[.pointer (some ⟨R.br,0,none⟩)] W (kJ R W (Pz.expr r.tail))):=Lib.hid (fun W hW=>um R r.tail W hW)
  rw [HR.out]
  clear HR
  generalize Pz.expr r.tail=res at *
  go_enter Tryz.func204,Tryz.ntmps204
  go_wp2_with fail
  refine (jr R _ _ hn HP.out.rd).mono ?_
  rintro e w1 ⟨rfl,h2,h3⟩
  have bQ:=Lib.hid (HP.out.then h2 h3)
  have HF:=Lib.hid (Fr.cK (br:=R.br) (bs:=bs) h3)
  clear h2 h3 HP
  have c2:=bQ.out.cell (j:=2) rfl
  have f2:=bQ.out.free 2
  go_upto_region 3 with fail
  generalize hW:World.setCell w1 _ _=W
  have aU:Hid (Pm R bs B W ⟨{h with nm:=tx (aI r)},.nil,.nil,s⟩ r.tail):=Lib.hid (by rw [← hW]; exact bQ.out.nm _ qN.out)
  have fu:Hid (Fr R.br bs w W):=Lib.hid (by rw [← hW]; exact HF.out.set _ _ (.inl rfl))
  clear hW c2 f2 bQ HF
  go_wp2_with fail
  refine (HC.out _ aU.out.rd).mono ?_
  cases res with
  | no q=>
    rintro e w3 ⟨rfl,h2,h3⟩
    have aW:=Lib.hid (aU.out.then h2 h3)
    have dQ:=Lib.hid (fu.out.trans (Fr.cK h3))
    clear h2 h3 aU fu
    have c5:=aW.out.cell (j:=5) rfl
    have c6:=aW.out.cell (j:=6) rfl
    have c7:=aW.out.cell (j:=7) rfl
    have c8:=aW.out.cell (j:=8) rfl
    have f5:=aW.out.free 5
    have f6:=aW.out.free 6
    have f7:=aW.out.free 7
    have f8:=aW.out.free 8
    unfold zE
    go_wp2_with fail
    go_ret
    exact iw (aW.out.ex ⟨0,0,⟨#[]⟩,.nil⟩ none 0 Dg xG) ((((dQ.out.set _ _ (.inl rfl)).set _ _ (.inl rfl)).set _ _ (.inl rfl)).set _ _ (.inl rfl))
  | ok x q=>
    rintro e w3 ⟨v,rfl,hv,h2,h3⟩
    have aW:=Lib.hid (aU.out.then h2 h3)
    have dQ:=Lib.hid (fu.out.trans (Fr.cK h3))
    have HV:=Lib.hid (hv.mono aU.out.sz)
    clear h2 h3 hv aU fu
    obtain ⟨ao,cap,rfl,hok,hst⟩:=HV.out
    have HE:=Lib.hid (And.intro hok hst)
    clear hok hst HV
    have c5:=aW.out.cell (j:=5) rfl
    have c6:=aW.out.cell (j:=6) rfl
    have c7:=aW.out.cell (j:=7) rfl
    have c8:=aW.out.cell (j:=8) rfl
    have f5:=aW.out.free 5
    have f6:=aW.out.free 6
    have f7:=aW.out.free 7
    have f8:=aW.out.free 8
    unfold exV
    go_upto_region 6 with fail
    generalize hW:World.setCell (World.setCell (World.setCell (World.setCell w3 _ _) _ _) _ _) _ _=W5
    have jG:Hid (Pm R bs B W5 ⟨aX.ex {h with nm:=tx (aI r)} x,.nil,.nil,{s with dH:=ao,bR:=cap}⟩ q):=Lib.hid (by rw [← hW]; exact aW.out.ex x ao cap HE.out.1 HE.out.2)
    have sK:Hid (Fr R.br bs w W5):=Lib.hid (by rw [← hW]; exact (((dQ.out.set _ _ (.inl rfl)).set _ _ (.inl rfl)).set _ _ (.inl rfl)).set _ _ (.inl rfl))
    clear hW c5 c6 c7 c8 f5 f6 f7 f8 aW dQ HE
    cases h4:at' [59] q
    ·go_wp2_with fail
     refine (dU R _ _ ⟨#[59]⟩ rfl h4 jG.out.rd).mono ?_
     rintro e w3 ⟨rfl,h2⟩
     have aW:=Lib.hid (jG.out.below h2)
     have dQ:=Lib.hid (sK.out.trans (Fr.cK (bP h2)))
     clear h2
     go_wp2_with fail
     go_ret
     exact iq (nK h4) (iw aW.out dQ.out)
    ·go_wp2_with fail
     refine (cu R _ _ ⟨#[59]⟩ rfl h4 jG.out.rd).mono ?_
     rintro e w3 ⟨rfl,h2,h3⟩
     have aW:=Lib.hid (jG.out.then h2 h3)
     have dQ:=Lib.hid (sK.out.trans (Fr.cK h3))
     clear h2 h3
     go_wp2_with fail
     go_ret
     exact iq (nX h4) (qA (y:=⟨aX.ex {h with nm:=tx (aI r)} x,.nil,.nil⟩) aW.out dQ.out)
set_option maxHeartbeats 1000000 in
set_option maxRecDepth 100000 in
theorem Ju (R:Rp) (bs B:Nat) (r:aJ) (h:aX) (s:Sl) (w:World) (hp:Pm R bs B w ⟨h,.nil,.nil,s⟩ r):
 Calls Tryz.prog 205 #[.pointer (some ⟨R.br,0,none⟩),.pointer (some ⟨bs,0,none⟩)] w (lZ R bs B w (CX h r)):=by
 have HP:=Lib.hid hp
 clear hp
 cases hn:isName r
 ·have HR:Hid (CX h r= .no r):=Lib.hid (by unfold CX; rw [nR hn]; rfl)
  rw [HR.out]
  go_enter Tryz.func205,Tryz.ntmps205
  go_wp2_with fail
  refine (jY R _ _ hn HP.out.rd).mono ?_
  rintro e w1 ⟨rfl,h2⟩
  have bQ:=Lib.hid (HP.out.below h2)
  have HF:=Lib.hid (Fr.cK (br:=R.br) (bs:=bs) (bP h2))
  clear h2 HP
  have c2:=bQ.out.cell (j:=2) rfl
  have f2:=bQ.out.free 2
  go_wp2_with fail
  go_ret
  exact iw (bQ.out.nm ⟨#[]⟩ (Nat.zero_le _)) (HF.out.set _ _ (.inl rfl))
 ·have qN:Hid ((tx (aI r)).size≤maxLen):=Lib.hid (mM (mU HP.out.rd.ts hn))
  have HR:Hid (CX h r=((gq r.tail).map fun a=>(⟨{h with nm:=tx (aI r),arg:=a},.nil,.nil⟩:Sx)).close [59]):=Lib.hid (by unfold CX; rw [kM hn]; rfl)
  rw [HR.out]
  clear HR
  cases hm:isName r.tail
  ·have HR:Hid (gq r.tail= .no r.tail):=Lib.hid (nR hm)
   rw [HR.out]
   go_enter Tryz.func205,Tryz.ntmps205
   go_wp2_with fail
   refine (jr R _ _ hn HP.out.rd).mono ?_
   rintro e w1 ⟨rfl,h2,h3⟩
   have bQ:=Lib.hid (HP.out.then h2 h3)
   have HF:=Lib.hid (Fr.cK (br:=R.br) (bs:=bs) h3)
   clear h2 h3 HP
   have c2:=bQ.out.cell (j:=2) rfl
   have f2:=bQ.out.free 2
   go_upto_region 3 with fail
   generalize hW:World.setCell w1 _ _=W
   have aU:Hid (Pm R bs B W ⟨{h with nm:=tx (aI r)},.nil,.nil,s⟩ r.tail):=Lib.hid (by rw [← hW]; exact bQ.out.nm _ qN.out)
   have fu:Hid (Fr R.br bs w W):=Lib.hid (by rw [← hW]; exact HF.out.set _ _ (.inl rfl))
   clear hW c2 f2 bQ HF
   go_wp2_with fail
   refine (jY R _ _ hm aU.out.rd).mono ?_
   rintro e w3 ⟨rfl,h2⟩
   have aW:=Lib.hid (aU.out.below h2)
   have dQ:=Lib.hid (fu.out.trans (Fr.cK (bP h2)))
   clear h2 aU fu
   have c3:=aW.out.cell (j:=3) rfl
   have f3:=aW.out.free 3
   go_wp2_with fail
   go_ret
   exact iw (aW.out.arg ⟨#[]⟩ (Nat.zero_le _)) (dQ.out.set _ _ (.inl rfl))
  ·have Fa:Hid ((tx (aI r.tail)).size≤maxLen):=Lib.hid (mM (mU HP.out.rd.ts.tail hm))
   have HR:Hid (gq r.tail= .ok (tx (aI r.tail)) r.tail.tail):=Lib.hid (kM hm)
   rw [HR.out]
   go_enter Tryz.func205,Tryz.ntmps205
   go_wp2_with fail
   refine (jr R _ _ hn HP.out.rd).mono ?_
   rintro e w1 ⟨rfl,h2,h3⟩
   have bQ:=Lib.hid (HP.out.then h2 h3)
   have HF:=Lib.hid (Fr.cK (br:=R.br) (bs:=bs) h3)
   clear h2 h3 HP
   have c2:=bQ.out.cell (j:=2) rfl
   have f2:=bQ.out.free 2
   go_upto_region 3 with fail
   generalize hW:World.setCell w1 _ _=W
   have aU:Hid (Pm R bs B W ⟨{h with nm:=tx (aI r)},.nil,.nil,s⟩ r.tail):=Lib.hid (by rw [← hW]; exact bQ.out.nm _ qN.out)
   have fu:Hid (Fr R.br bs w W):=Lib.hid (by rw [← hW]; exact HF.out.set _ _ (.inl rfl))
   clear hW c2 f2 bQ HF
   go_wp2_with fail
   refine (jr R _ _ hm aU.out.rd).mono ?_
   rintro e w3 ⟨rfl,h2,h3⟩
   have aW:=Lib.hid (aU.out.then h2 h3)
   have dQ:=Lib.hid (fu.out.trans (Fr.cK h3))
   clear h2 h3 aU fu
   have c3:=aW.out.cell (j:=3) rfl
   have f3:=aW.out.free 3
   go_upto_region 6 with fail
   generalize hW:World.setCell w3 _ _=W5
   have jG:Hid (Pm R bs B W5 ⟨{h with nm:=tx (aI r),arg:=tx (aI r.tail)},.nil,.nil,s⟩ r.tail.tail):=Lib.hid (by rw [← hW]; exact aW.out.arg _ Fa.out)
   have sK:Hid (Fr R.br bs w W5):=Lib.hid (by rw [← hW]; exact dQ.out.set _ _ (.inl rfl))
   clear hW c3 f3 aW dQ
   cases h4:at' [59] r.tail.tail
   ·go_wp2_with fail
    refine (dU R _ _ ⟨#[59]⟩ rfl h4 jG.out.rd).mono ?_
    rintro e w3 ⟨rfl,h2⟩
    have aW:=Lib.hid (jG.out.below h2)
    have dQ:=Lib.hid (sK.out.trans (Fr.cK (bP h2)))
    clear h2
    go_wp2_with fail
    go_ret
    exact iq (nK h4) (iw aW.out dQ.out)
   ·go_wp2_with fail
    refine (cu R _ _ ⟨#[59]⟩ rfl h4 jG.out.rd).mono ?_
    rintro e w3 ⟨rfl,h2,h3⟩
    have aW:=Lib.hid (jG.out.then h2 h3)
    have dQ:=Lib.hid (sK.out.trans (Fr.cK h3))
    clear h2 h3
    go_wp2_with fail
    go_ret
    exact iq (nX h4) (qA (y:=⟨{h with nm:=tx (aI r),arg:=tx (aI r.tail)},.nil,.nil⟩) aW.out dQ.out)
end Go.Proofs.YtdajkddgnfgijaaGreatDoor
end
section
set_option linter.unusedSimpArgs false
set_option linter.unusedVariables false
namespace Go.Proofs.YtdajkddgnfgijaaGreatDoor
open Go.RowKit
open Md Pz
set_option maxHeartbeats 1000000 in
set_option maxRecDepth 100000 in
theorem J5 (R:Rp) (bs B f:Nat) (r:aJ) (ru:Hid (∀q,q.length < r.length→mX R f q)) (h:aX) (s:Sl) (w:World) (hp:Pm R bs B w ⟨h,.nil,.nil,s⟩ r):
 Calls Tryz.prog 200 #[.pointer (some ⟨R.br,0,none⟩),.pointer (some ⟨bs,0,none⟩)] w (lZ R bs B w (tN f h r)):=by
 have aU:=Lib.hid hp
 have fu:=Lib.hid (Fr.refl R.br bs w)
 clear hp
 have HC:Hid (∀W,bf W R r→Calls Tryz.prog 198 #[.pointer (some ⟨R.br,0,none⟩)] W (kJ R W (Pz.expr r))):=Lib.hid (fun W hW=>um R r W hW)
 have HB2:Hid (∀x q,Pz.expr r= .ok x q→mX R f q):=Lib.hid (fun x q e=>ru.out q (qI e))
 clear ru
 unfold tN
 generalize Pz.expr r=res at *
 go_enter Tryz.func200,Tryz.ntmps200
 go_wp2_with fail
 refine (HC.out _ aU.out.rd).mono ?_
 cases res with
 | no q=>
   rintro e w3 ⟨rfl,h2,h3⟩
   have aW:=Lib.hid (aU.out.then h2 h3)
   have dQ:=Lib.hid (fu.out.trans (Fr.cK h3))
   clear h2 h3 aU fu
   have c5:=aW.out.cell (j:=5) rfl
   have c6:=aW.out.cell (j:=6) rfl
   have c7:=aW.out.cell (j:=7) rfl
   have c8:=aW.out.cell (j:=8) rfl
   have f5:=aW.out.free 5
   have f6:=aW.out.free 6
   have f7:=aW.out.free 7
   have f8:=aW.out.free 8
   unfold zE
   go_wp2_with fail
   go_ret
   exact iw (aW.out.ex ⟨0,0,⟨#[]⟩,.nil⟩ none 0 Dg xG) ((((dQ.out.set _ _ (.inl rfl)).set _ _ (.inl rfl)).set _ _ (.inl rfl)).set _ _ (.inl rfl))
 | ok x q=>
   have HD:Hid (∀W s,Pm R bs B W ⟨aX.ex h x,.nil,.nil,s⟩ q→Calls Tryz.prog 202 #[.pointer (some ⟨R.br,0,none⟩),.pointer (some ⟨bs,0,none⟩)] W (lZ R bs B W (lN f (aX.ex h x) q))):=Lib.hid (fun W s hW=>xJ R bs B f q (Lib.hid (HB2.out x q rfl)) _ .nil s W hW)
   rintro e w3 ⟨v,rfl,hv,h2,h3⟩
   have aW:=Lib.hid (aU.out.then h2 h3)
   have dQ:=Lib.hid (fu.out.trans (Fr.cK h3))
   have HV:=Lib.hid (hv.mono aU.out.sz)
   clear h2 h3 hv aU fu
   obtain ⟨ao,cap,rfl,hok,hst⟩:=HV.out
   have HE:=Lib.hid (And.intro hok hst)
   clear hok hst HV
   have c5:=aW.out.cell (j:=5) rfl
   have c6:=aW.out.cell (j:=6) rfl
   have c7:=aW.out.cell (j:=7) rfl
   have c8:=aW.out.cell (j:=8) rfl
   have f5:=aW.out.free 5
   have f6:=aW.out.free 6
   have f7:=aW.out.free 7
   have f8:=aW.out.free 8
   unfold exV
   go_upto_region 3 with fail
   generalize hW:World.setCell (World.setCell (World.setCell (World.setCell w3 _ _) _ _) _ _) _ _=W5
   have jG:Hid (Pm R bs B W5 ⟨aX.ex h x,.nil,.nil,{s with dH:=ao,bR:=cap}⟩ q):=Lib.hid (by rw [← hW]; exact aW.out.ex x ao cap HE.out.1 HE.out.2)
   have sK:Hid (Fr R.br bs w W5):=Lib.hid (by rw [← hW]; exact (((dQ.out.set _ _ (.inl rfl)).set _ _ (.inl rfl)).set _ _ (.inl rfl)).set _ _ (.inl rfl))
   clear hW c5 c6 c7 c8 f5 f6 f7 f8 aW dQ HE
   clear HB2 HC
   obtain ⟨res2,HR2⟩: ∃res2,Hid (lN f (aX.ex h x) q=res2):=⟨_,Lib.hid rfl⟩
   rw [HR2.out] at HD
   go_wp2_with fail
   refine (HD.out _ _ jG.out).mono ?_
   cases res2 with
   | no q2=>
     rintro e w6 ⟨rfl,⟨x',h2⟩,h3⟩
     have jV:=Lib.hid h2
     have uY:=Lib.hid (sK.out.trans h3)
     clear h2 h3
     go_wp2_with fail
     go_ret
     exact iq HR2.out (iw jV.out uY.out)
   | ok y q2=>
     rintro e w6 ⟨rfl,⟨x',h2⟩,h3⟩
     have jV:=Lib.hid h2
     have uY:=Lib.hid (sK.out.trans h3)
     clear h2 h3
     go_wp2_with fail
     go_ret
     exact iq HR2.out (qA jV.out uY.out)
theorem Mr {f:Nat} {h:aX} {r q:aJ} {y:Sx} (e:tN f h r= .ok y q):q.length < r.length∧y.e= .nil:=by
 unfold tN lN at e
 obtain ⟨x,r1,e1,e⟩:=kN e
 obtain ⟨b,e2,rfl⟩:=map_ok e
 have:=qI e1
 have:=Kw e2
 exact ⟨by omega,rfl⟩
set_option maxHeartbeats 1000000 in
set_option maxRecDepth 100000 in
theorem Qt (R:Rp) (bs B f:Nat) (r:aJ) (ru:Hid (∀q,q.length < r.length→mX R f q)) (h:aX) (s:Sl) (w:World) (hp:Pm R bs B w ⟨h,.nil,.nil,s⟩ r):
 Calls Tryz.prog 199 #[.pointer (some ⟨R.br,0,none⟩),.pointer (some ⟨bs,0,none⟩)] w (lZ R bs B w (Gp f h r)):=by
 have HD:=Lib.hid (J5 R bs B f r ru h s w hp)
 have HL:Hid (∀y q,tN f h r= .ok y q→q.length < r.length∧y.e= .nil):=Lib.hid (fun y q e=>Mr e)
 clear hp
 unfold Gp
 generalize tN f h r=res at *
 go_enter Tryz.func199,Tryz.ntmps199
 go_wp2_with fail
 refine HD.out.mono ?_
 cases res with
 | no q=>
   rintro e w1 ⟨rfl,⟨x,h2⟩,h3⟩
   have bQ:=Lib.hid h2
   have oN:=Lib.hid h3
   clear h2 h3
   go_wp2_with fail
   go_ret
   exact iw bQ.out oN.out
 | ok y q=>
   have HLQ:=Lib.hid (HL.out y q rfl)
   clear HL HD
   rintro e w1 ⟨rfl,⟨sy,h2⟩,h3⟩
   have bQ:=Lib.hid h2
   have oN:=Lib.hid h3
   clear h2 h3
   cases h4:at' [101,108,115,101] q
   ·go_wp2_with fail
    refine (dU R _ _ ⟨#[101,108,115,101]⟩ rfl h4 bQ.out.rd).mono ?_
    rintro e w3 ⟨rfl,h2⟩
    have aW:=Lib.hid (bQ.out.below h2)
    have dQ:=Lib.hid (oN.out.trans (Fr.cK (bP h2)))
    clear h2
    go_wp2_with fail
    go_ret
    exact iq (show ite _ _ _=_ from if_neg (by rw [h4]; decide)) (qA aW.out dQ.out)
   ·have HC:Hid (∀W,bf W R q.tail→Calls Tryz.prog 102 #[.pointer (some ⟨R.br,0,none⟩)] W (EF R W (blk f q.tail))):=Lib.hid (ru.out q.tail (by have:=HLQ.out.1; have:=at_len h4; omega))
    have KE:Hid ((bK.ok y q).bind (fun y r=>if at' [101,108,115,101] r then (blk f r.tail).map fun e=>(⟨y.h,y.b,e⟩:Sx) else .ok y r)=(blk f q.tail).map fun e=>⟨y.h,y.b,e⟩):=Lib.hid (show ite _ _ _=_ from if_pos h4)
    obtain ⟨res2,HR2⟩: ∃res2,Hid (blk f q.tail=res2):=⟨_,Lib.hid rfl⟩
    rw [HR2.out] at HC KE
    clear ru HR2
    go_wp2_with fail
    refine (cu R _ _ ⟨#[101,108,115,101]⟩ rfl h4 bQ.out.rd).mono ?_
    rintro e w3 ⟨rfl,h2,h3⟩
    have aW:=Lib.hid (bQ.out.then h2 h3)
    have dQ:=Lib.hid (oN.out.trans (Fr.cK h3))
    clear h2 h3
    go_wp2_with fail
    refine (HC.out _ aW.out.rd).mono ?_
    cases res2 with
    | no q2=>
      rintro e w4 ⟨rfl,h2,h3⟩
      have dS:=Lib.hid (aW.out.then h2 h3)
      have fZ:=Lib.hid (dQ.out.trans (Fr.cK h3))
      clear h2 h3
      have c10:=dS.out.cell (j:=10) rfl
      have f10:=dS.out.free 10
      go_wp2_with fail
      go_ret
      exact iq KE.out (iw (dS.out.els .nil none 0 I4 GA) (fZ.out.set _ _ (.inl rfl)))
    | ok b q2=>
      rintro e w4 ⟨⟨ao,cap,rfl,hl,hst⟩,h2,h3⟩
      have dS:=Lib.hid (aW.out.then h2 h3)
      have fZ:=Lib.hid (dQ.out.trans (Fr.cK h3))
      have HL:Hid (b.len≤maxLen):=Lib.hid (Nat.le_trans hl (by unfold maxLen; decide))
      have HS:=Lib.hid (hst.mono aW.out.sz)
      clear h2 h3 hl hst
      have c10:=dS.out.cell (j:=10) rfl
      have f10:=dS.out.free 10
      go_wp2_with fail
      go_ret
      exact iq KE.out (qA (y:=⟨y.h,y.b,b⟩) (dS.out.els b ao cap HL.out HS.out) (fZ.out.set _ _ (.inl rfl)))
theorem zG {x:List UInt8} {r:aJ} (h:at' x r=true):need x r= .ok () r.tail:=by unfold need; rw [if_pos h]
theorem zD {x:List UInt8} {r:aJ} (h:at' x r=false):need x r= .no r:=by unfold need; rw [if_neg (by rw [h]; decide)]
def rT (h:aX) (r:aJ):bK Sx:=(need [61] r).bind fun _ r=>(((Pz.expr r).map fun x=>(⟨aX.ex h x,.nil,.nil⟩:Sx)).close [59])
theorem Ta {h:aX} {r:aJ} (h1:at' [91] r=false):yg h r=rT h r:=by unfold yg; rw [if_neg (by rw [h1]; decide)]; rfl
theorem QA {h:aX} {r:aJ} (h1:at' [91] r=true):yg h r=((Pz.expr r.tail).close [93]).bind fun x r=>rT {h with idx:= .cons x.op x.n x.nm x.kids .nil} r:=by
 unfold yg; rw [if_pos h1]
 cases (Pz.expr r.tail).close [93] <;> rfl
set_option maxHeartbeats 4000000 in
set_option maxRecDepth 100000 in
theorem ES (R:Rp) (bs B:Nat) (r:aJ) (h:aX) (s:Sl) (w:World) (hp:Pm R bs B w ⟨h,.nil,.nil,s⟩ r):
 Calls Tryz.prog 171 #[.pointer (some ⟨R.br,0,none⟩),.pointer (some ⟨bs,0,none⟩)] w (lZ R bs B w (wW h r)):=by
 have HP:=Lib.hid hp
 clear hp
 cases hn:isName r
 ·have HR:Hid (wW h r= .no r):=Lib.hid (by unfold wW; rw [nR hn]; rfl)
  rw [HR.out]
  go_enter Tryz.func171,Tryz.ntmps171
  go_wp2_with fail
  refine (jY R _ _ hn HP.out.rd).mono ?_
  rintro e w1 ⟨rfl,h2⟩
  have bQ:=Lib.hid (HP.out.below h2)
  have HF:=Lib.hid (Fr.cK (br:=R.br) (bs:=bs) (bP h2))
  clear h2 HP
  have c2:=bQ.out.cell (j:=2) rfl
  have f2:=bQ.out.free 2
  go_wp2_with fail
  go_ret
  exact iw (bQ.out.nm ⟨#[]⟩ (Nat.zero_le _)) (HF.out.set _ _ (.inl rfl))
 ·have qN:Hid ((tx (aI r)).size≤maxLen):=Lib.hid (mM (mU HP.out.rd.ts hn))
  have HR:Hid (wW h r=yg {h with nm:=tx (aI r)} r.tail):=Lib.hid (by unfold wW; rw [kM hn]; rfl)
  rw [HR.out]
  clear HR
  cases h1:at' [91] r.tail
  ·have HR:Hid (yg {h with nm:=tx (aI r)} r.tail=rT {h with nm:=tx (aI r)} r.tail):=Lib.hid (Ta h1)
   rw [HR.out]
   clear HR
   go_enter Tryz.func171,Tryz.ntmps171
   go_wp2_with fail
   refine (jr R _ _ hn HP.out.rd).mono ?_
   rintro e w1 ⟨rfl,h2,h3⟩
   have bQ:=Lib.hid (HP.out.then h2 h3)
   have HF:=Lib.hid (Fr.cK (br:=R.br) (bs:=bs) h3)
   clear h2 h3 HP
   have c2:=bQ.out.cell (j:=2) rfl
   have f2:=bQ.out.free 2
   go_upto_region 3 with fail
   generalize hW:World.setCell w1 _ _=W
   have aU:Hid (Pm R bs B W ⟨{h with nm:=tx (aI r)},.nil,.nil,s⟩ r.tail):=Lib.hid (by rw [← hW]; exact bQ.out.nm _ qN.out)
   have fu:Hid (Fr R.br bs w W):=Lib.hid (by rw [← hW]; exact HF.out.set _ _ (.inl rfl))
   clear hW c2 f2 bQ HF
   go_wp2_with fail
   refine (dU R _ _ ⟨#[91]⟩ rfl h1 aU.out.rd).mono ?_
   rintro e w0 ⟨rfl,h2⟩
   have jV:=Lib.hid (aU.out.below h2)
   have uY:=Lib.hid (fu.out.trans (Fr.cK (bP h2)))
   clear h2 aU fu
   cases h5:at' [61] r.tail
   ·go_wp2_with fail
    refine (dU R _ _ ⟨#[61]⟩ rfl h5 jV.out.rd).mono ?_
    rintro e w7 ⟨rfl,h2⟩
    have iN:=Lib.hid (jV.out.below h2)
    have yG:=Lib.hid (uY.out.trans (Fr.cK (bP h2)))
    clear h2
    go_wp2_with fail
    go_ret
    exact iq (show rT _ _=_ by unfold rT; rw [zD h5]; rfl) (iw iN.out yG.out)
   ·have HC:Hid (∀W,bf W R r.tail.tail→Calls Tryz.prog 198 #[.pointer (some ⟨R.br,0,none⟩)] W (kJ R W (Pz.expr r.tail.tail))):=Lib.hid (fun W hW=>um R r.tail.tail W hW)
    have HQ:Hid (rT {h with nm:=tx (aI r)} r.tail=((Pz.expr r.tail.tail).map fun x9=>(⟨aX.ex {h with nm:=tx (aI r)} x9,.nil,.nil⟩:Sx)).close [59]):=Lib.hid (by unfold rT; rw [zG h5]; rfl)
    generalize Pz.expr r.tail.tail=res at *
    go_wp2_with fail
    refine (cu R _ _ ⟨#[61]⟩ rfl h5 jV.out.rd).mono ?_
    rintro e w7 ⟨rfl,h2,h3⟩
    have iN:=Lib.hid (jV.out.then h2 h3)
    have yG:=Lib.hid (uY.out.trans (Fr.cK h3))
    clear h2 h3 jV uY
    go_wp2_with fail
    refine (HC.out _ iN.out.rd).mono ?_
    cases res with
    | no q=>
      rintro e w3 ⟨rfl,h2,h3⟩
      have aW:=Lib.hid (iN.out.then h2 h3)
      have dQ:=Lib.hid (yG.out.trans (Fr.cK h3))
      clear h2 h3 iN yG
      have c5:=aW.out.cell (j:=5) rfl
      have c6:=aW.out.cell (j:=6) rfl
      have c7:=aW.out.cell (j:=7) rfl
      have c8:=aW.out.cell (j:=8) rfl
      have f5:=aW.out.free 5
      have f6:=aW.out.free 6
      have f7:=aW.out.free 7
      have f8:=aW.out.free 8
      unfold zE
      go_wp2_with fail
      go_ret
      exact iq HQ.out (iw (aW.out.ex ⟨0,0,⟨#[]⟩,.nil⟩ none 0 Dg xG) ((((dQ.out.set _ _ (.inl rfl)).set _ _ (.inl rfl)).set _ _ (.inl rfl)).set _ _ (.inl rfl)))
    | ok x q=>
      rintro e w3 ⟨v,rfl,hv,h2,h3⟩
      have aW:=Lib.hid (iN.out.then h2 h3)
      have dQ:=Lib.hid (yG.out.trans (Fr.cK h3))
      have HV:=Lib.hid (hv.mono iN.out.sz)
      clear h2 h3 hv iN yG
      obtain ⟨ao,cap,rfl,hok,hst⟩:=HV.out
      have HE:=Lib.hid (And.intro hok hst)
      clear hok hst HV
      have c5:=aW.out.cell (j:=5) rfl
      have c6:=aW.out.cell (j:=6) rfl
      have c7:=aW.out.cell (j:=7) rfl
      have c8:=aW.out.cell (j:=8) rfl
      have f5:=aW.out.free 5
      have f6:=aW.out.free 6
      have f7:=aW.out.free 7
      have f8:=aW.out.free 8
      unfold exV
      go_upto_region 13 with fail
      generalize hW:World.setCell (World.setCell (World.setCell (World.setCell w3 _ _) _ _) _ _) _ _=W5
      have jG:Hid (Pm R bs B W5 ⟨aX.ex {h with nm:=tx (aI r)} x,.nil,.nil,{s with dH:=ao,bR:=cap}⟩ q):=Lib.hid (by rw [← hW]; exact aW.out.ex x ao cap HE.out.1 HE.out.2)
      have sK:Hid (Fr R.br bs w W5):=Lib.hid (by rw [← hW]; exact (((dQ.out.set _ _ (.inl rfl)).set _ _ (.inl rfl)).set _ _ (.inl rfl)).set _ _ (.inl rfl))
      clear hW c5 c6 c7 c8 f5 f6 f7 f8 aW dQ HE
      cases h4:at' [59] q
      ·go_wp2_with fail
       refine (dU R _ _ ⟨#[59]⟩ rfl h4 jG.out.rd).mono ?_
       rintro e w3 ⟨rfl,h2⟩
       have aW:=Lib.hid (jG.out.below h2)
       have dQ:=Lib.hid (sK.out.trans (Fr.cK (bP h2)))
       clear h2
       go_wp2_with fail
       go_ret
       exact iq (HQ.out.trans (nK h4)) (iw aW.out dQ.out)
      ·go_wp2_with fail
       refine (cu R _ _ ⟨#[59]⟩ rfl h4 jG.out.rd).mono ?_
       rintro e w3 ⟨rfl,h2,h3⟩
       have aW:=Lib.hid (jG.out.then h2 h3)
       have dQ:=Lib.hid (sK.out.trans (Fr.cK h3))
       clear h2 h3
       go_wp2_with fail
       go_ret
       exact iq (HQ.out.trans (nX h4)) (qA (y:=⟨aX.ex {h with nm:=tx (aI r)} x,.nil,.nil⟩) aW.out dQ.out)
  ·have HR:Hid (yg {h with nm:=tx (aI r)} r.tail=((Pz.expr r.tail.tail).close [93]).bind fun x q=>rT {h with nm:=tx (aI r),idx:= .cons x.op x.n x.nm x.kids .nil} q):=Lib.hid (QA h1)
   rw [HR.out]
   clear HR
   have HC:Hid (∀W,bf W R r.tail.tail→Calls Tryz.prog 198 #[.pointer (some ⟨R.br,0,none⟩)] W (kJ R W (Pz.expr r.tail.tail))):=Lib.hid (fun W hW=>um R r.tail.tail W hW)
   generalize Pz.expr r.tail.tail=ac3 at *
   go_enter Tryz.func171,Tryz.ntmps171
   go_wp2_with fail
   refine (jr R _ _ hn HP.out.rd).mono ?_
   rintro e w1 ⟨rfl,h2,h3⟩
   have bQ:=Lib.hid (HP.out.then h2 h3)
   have HF:=Lib.hid (Fr.cK (br:=R.br) (bs:=bs) h3)
   clear h2 h3 HP
   have c2:=bQ.out.cell (j:=2) rfl
   have f2:=bQ.out.free 2
   go_upto_region 3 with fail
   generalize hW:World.setCell w1 _ _=W
   have aU:Hid (Pm R bs B W ⟨{h with nm:=tx (aI r)},.nil,.nil,s⟩ r.tail):=Lib.hid (by rw [← hW]; exact bQ.out.nm _ qN.out)
   have fu:Hid (Fr R.br bs w W):=Lib.hid (by rw [← hW]; exact HF.out.set _ _ (.inl rfl))
   clear hW c2 f2 bQ HF
   go_wp2_with fail
   refine (cu R _ _ ⟨#[91]⟩ rfl h1 aU.out.rd).mono ?_
   rintro e w0 ⟨rfl,h2,h3⟩
   have aW:=Lib.hid (aU.out.then h2 h3)
   have dQ:=Lib.hid (fu.out.trans (Fr.cK h3))
   clear h2 h3 aU fu
   go_wp2_with fail
   refine (HC.out _ aW.out.rd).mono ?_
   clear HC
   cases ac3 with
   | no q=>
     rintro e w1 ⟨rfl,h2,h3⟩
     have dS:=Lib.hid (aW.out.then h2 h3)
     have fZ:=Lib.hid (dQ.out.trans (Fr.cK h3))
     clear h2 h3 aW dQ
     unfold zE
     go_wp2_with fail
     go_ret
     exact iw (dS.out.alloc _) (fZ.out.alloc _)
   | ok x q=>
     rintro e w1 ⟨v,rfl,hv,h2,h3⟩
     have dS:=Lib.hid (aW.out.then h2 h3)
     have fZ:=Lib.hid (dQ.out.trans (Fr.cK h3))
     have HV:=Lib.hid (hv.mono aW.out.sz)
     clear h2 h3 hv aW dQ
     obtain ⟨ao,cap,rfl,hok,hst⟩:=HV.out
     have HE:=Lib.hid (And.intro hok hst)
     clear hok hst HV
     unfold exV
     go_upto_region 7 with fail
     obtain ⟨g,hg⟩: ∃g,w1.heap.size=g:=⟨_,rfl⟩
     generalize hW:World.alloc w1 _=W2
     have jG:Hid (Pm R bs B W2 ⟨{h with nm:=tx (aI r)},.nil,.nil,s⟩ q):=Lib.hid (by rw [← hW]; exact dS.out.alloc _)
     have sK:Hid (Fr R.br bs w W2):=Lib.hid (by rw [← hW]; exact fZ.out.alloc _)
     have mR:Hid (W2.heap[g]? =some (.cells #[.int .i64 x.op,.int .i64 x.n,.string x.nm,.slice ao x.kids.len cap] 129 (0,0))):=Lib.hid (by rw [← hW,← hg]; exact heap_alloc_new _ _)
     have AB:Hid (ni x∧eH B W2 (fun w2=>x.kids.At w2 w2.heap.size ao 0)):=Lib.hid ⟨HE.out.1,by rw [← hW]; exact HE.out.2.next (bU (aj _ _))⟩
     have HG:Hid (B≤g∧g≠R.br):=Lib.hid (by have h1:=dS.out.sz; have h2:=dS.out.lt.2; omega)
     rw [hg]
     clear hW hg dS fZ HE
     cases h4:at' [93] q
     ·go_wp2_with fail
      refine (dU R _ _ ⟨#[93]⟩ rfl h4 jG.out.rd).mono ?_
      rintro e w3 ⟨rfl,h2⟩
      have jV:=Lib.hid (jG.out.below h2)
      have uY:=Lib.hid (sK.out.trans (Fr.cK (bP h2)))
      clear h2
      go_wp2_with fail
      go_ret
      exact iq (show bK.bind ((bK.ok x q).close [93]) _= .no q by rw [nK h4]; rfl) (iw jV.out uY.out)
     ·go_wp2_with fail
      refine (cu R _ _ ⟨#[93]⟩ rfl h4 jG.out.rd).mono ?_
      rintro e w3 ⟨rfl,h2,h3⟩
      have jV:=Lib.hid (jG.out.then h2 h3)
      have uY:=Lib.hid (sK.out.trans (Fr.cK h3))
      have lg:=Lib.hid ((h3.block _ (Array.getElem?_eq_some_iff.1 mR.out).1 (by simp; exact HG.out.2)).trans mR.out)
      have Nf:Hid (ni x∧eH B w3 (fun w2=>x.kids.At w2 w2.heap.size ao 0)):=Lib.hid ⟨AB.out.1,AB.out.2.next (oo h3 jG.out.lt.2)⟩
      clear h2 h3 jG sK mR AB
      have u0:w3.cell? ⟨g,0,none⟩=some (.int .i64 x.op):=aB lg.out rfl
      have u1:w3.cell? ⟨g,1,none⟩=some (.int .i64 x.n):=aB lg.out rfl
      have u2:w3.cell? ⟨g,2,none⟩=some (.string x.nm):=aB lg.out rfl
      have u3:w3.cell? ⟨g,3,none⟩=some (.slice ao x.kids.len cap):=aB lg.out rfl
      have c4:=jV.out.cell (j:=4) rfl
      have f4:=jV.out.free 4
      have hlt:bs < w3.heap.size:=Nat.lt_of_lt_of_le jV.out.lt.1 jV.out.sz
      go_upto_region 10 with fail
      generalize hW:World.alloc _ _=W8
      have mG:Hid (Pm R bs B W8 ⟨{h with nm:=tx (aI r),idx:= .cons x.op x.n x.nm x.kids .nil},.nil,.nil,{s with dZ:=some ⟨w3.heap.size,0,none⟩,dG:=1}⟩ q.tail):=Lib.hid (by rw [← hW]; exact jV.out.ad4 x ao cap _ Nf.out)
      have Ny:Hid (Fr R.br bs w W8):=Lib.hid (by rw [← hW]; exact (uY.out.set _ _ (.inl rfl)).alloc _)
      have KE:Hid (((bK.ok x q).close [93]).bind (fun x q=>rT {h with nm:=tx (aI r),idx:= .cons x.op x.n x.nm x.kids .nil} q)=rT {h with nm:=tx (aI r),idx:= .cons x.op x.n x.nm x.kids .nil} q.tail):=Lib.hid (by rw [nX h4]; rfl)
      clear hW c4 f4 u0 u1 u2 u3 lg Nf hlt jV uY
      obtain ⟨s,HSL⟩: ∃s',Hid (({s with dZ:=some ⟨w3.heap.size,0,none⟩,dG:=1} :Sl)=s'):=⟨_,Lib.hid rfl⟩
      rw [HSL.out] at mG
      have jV:=mG
      have uY:=Ny
      clear mG Ny HSL h4
      cases h5:at' [61] q.tail
      ·go_wp2_with fail
       refine (dU R _ _ ⟨#[61]⟩ rfl h5 jV.out.rd).mono ?_
       rintro e w7 ⟨rfl,h2⟩
       have iN:=Lib.hid (jV.out.below h2)
       have yG:=Lib.hid (uY.out.trans (Fr.cK (bP h2)))
       clear h2
       go_wp2_with fail
       go_ret
       exact iq (KE.out.trans (show rT _ _=_ by unfold rT; rw [zD h5]; rfl)) (iw iN.out yG.out)
      ·have HC:Hid (∀W,bf W R q.tail.tail→Calls Tryz.prog 198 #[.pointer (some ⟨R.br,0,none⟩)] W (kJ R W (Pz.expr q.tail.tail))):=Lib.hid (fun W hW=>um R q.tail.tail W hW)
       have HQ:Hid (rT {h with nm:=tx (aI r),idx:= .cons x.op x.n x.nm x.kids .nil} q.tail=((Pz.expr q.tail.tail).map fun x9=>(⟨aX.ex {h with nm:=tx (aI r),idx:= .cons x.op x.n x.nm x.kids .nil} x9,.nil,.nil⟩:Sx)).close [59]):=Lib.hid (by unfold rT; rw [zG h5]; rfl)
       have HQ:=Lib.hid (KE.out.trans HQ.out)
       generalize Pz.expr q.tail.tail=res at *
       go_wp2_with fail
       refine (cu R _ _ ⟨#[61]⟩ rfl h5 jV.out.rd).mono ?_
       rintro e w7 ⟨rfl,h2,h3⟩
       have iN:=Lib.hid (jV.out.then h2 h3)
       have yG:=Lib.hid (uY.out.trans (Fr.cK h3))
       clear h2 h3 jV uY
       go_wp2_with fail
       refine (HC.out _ iN.out.rd).mono ?_
       cases res with
       | no q=>
         rintro e w3 ⟨rfl,h2,h3⟩
         have aW:=Lib.hid (iN.out.then h2 h3)
         have dQ:=Lib.hid (yG.out.trans (Fr.cK h3))
         clear h2 h3 iN yG
         have c5:=aW.out.cell (j:=5) rfl
         have c6:=aW.out.cell (j:=6) rfl
         have c7:=aW.out.cell (j:=7) rfl
         have c8:=aW.out.cell (j:=8) rfl
         have f5:=aW.out.free 5
         have f6:=aW.out.free 6
         have f7:=aW.out.free 7
         have f8:=aW.out.free 8
         unfold zE
         go_wp2_with fail
         go_ret
         exact iq HQ.out (iw (aW.out.ex ⟨0,0,⟨#[]⟩,.nil⟩ none 0 Dg xG) ((((dQ.out.set _ _ (.inl rfl)).set _ _ (.inl rfl)).set _ _ (.inl rfl)).set _ _ (.inl rfl)))
       | ok x' q'=>
         rintro e w3 ⟨v,rfl,hv,h2,h3⟩
         have aW:=Lib.hid (iN.out.then h2 h3)
         have dQ:=Lib.hid (yG.out.trans (Fr.cK h3))
         have HV:=Lib.hid (hv.mono iN.out.sz)
         clear h2 h3 hv iN yG
         obtain ⟨Dm,cap2,rfl,hok,hst⟩:=HV.out
         have HE:=Lib.hid (And.intro hok hst)
         clear hok hst HV
         have c5:=aW.out.cell (j:=5) rfl
         have c6:=aW.out.cell (j:=6) rfl
         have c7:=aW.out.cell (j:=7) rfl
         have c8:=aW.out.cell (j:=8) rfl
         have f5:=aW.out.free 5
         have f6:=aW.out.free 6
         have f7:=aW.out.free 7
         have f8:=aW.out.free 8
         unfold exV
         go_upto_region 13 with fail
         generalize hW:World.setCell (World.setCell (World.setCell (World.setCell w3 _ _) _ _) _ _) _ _=W5
         have jG:Hid (Pm R bs B W5 ⟨aX.ex {h with nm:=tx (aI r),idx:= .cons x.op x.n x.nm x.kids .nil} x',.nil,.nil,{s with dH:=Dm,bR:=cap2}⟩ q'):=Lib.hid (by rw [← hW]; exact aW.out.ex x' Dm cap2 HE.out.1 HE.out.2)
         have sK:Hid (Fr R.br bs w W5):=Lib.hid (by rw [← hW]; exact (((dQ.out.set _ _ (.inl rfl)).set _ _ (.inl rfl)).set _ _ (.inl rfl)).set _ _ (.inl rfl))
         clear hW c5 c6 c7 c8 f5 f6 f7 f8 aW dQ HE
         cases h4:at' [59] q'
         ·go_wp2_with fail
          refine (dU R _ _ ⟨#[59]⟩ rfl h4 jG.out.rd).mono ?_
          rintro e w3 ⟨rfl,h2⟩
          have aW:=Lib.hid (jG.out.below h2)
          have dQ:=Lib.hid (sK.out.trans (Fr.cK (bP h2)))
          clear h2
          go_wp2_with fail
          go_ret
          exact iq (HQ.out.trans (nK h4)) (iw aW.out dQ.out)
         ·go_wp2_with fail
          refine (cu R _ _ ⟨#[59]⟩ rfl h4 jG.out.rd).mono ?_
          rintro e w3 ⟨rfl,h2,h3⟩
          have aW:=Lib.hid (jG.out.then h2 h3)
          have dQ:=Lib.hid (sK.out.trans (Fr.cK h3))
          clear h2 h3
          go_wp2_with fail
          go_ret
          exact iq (HQ.out.trans (nX h4)) (qA (y:=⟨aX.ex {h with nm:=tx (aI r),idx:= .cons x.op x.n x.nm x.kids .nil} x',.nil,.nil⟩) aW.out dQ.out)
end Go.Proofs.YtdajkddgnfgijaaGreatDoor
end
section
set_option linter.unusedSimpArgs false
set_option linter.unusedVariables false
namespace Go.Proofs.YtdajkddgnfgijaaGreatDoor
open Go.RowKit
open Md Pz
def qJ (R:Rp) (w:World) (res:bK aP) (e:Ending) (w':World):Prop:=
 match res with
 | .ok l r=>(∃x:iK,l=one x.h x.b x.e∧e= .returned (.tuple #[cO x.h x.b x.e x.s,.bool true])∧sj x.h x.b x.e∧eH w.heap.size w' (iK.I x))∧bf w' R r∧w.grownBy w' (some R.br)
 | .no r=>(∃x:iK,e= .returned (.tuple #[cO x.h x.b x.e x.s,.bool false]))∧bf w' R r∧w.grownBy w' (some R.br)
def mJ:Array Value:= #[.int .i64 0,.int .i64 0,.string ⟨#[]⟩,.string ⟨#[]⟩,.slice none 0 0,.int .i64 0,.int .i64 0,.string ⟨#[]⟩,.slice none 0 0,.slice none 0 0,.slice none 0 0]
theorem nU {w w':World} {R:Rp} {rest:aJ} {b:Nat} (h:bf w R rest) (hg:w.grownBy w' (some b)) (h0:R.B0≤b) (h1:b≠R.br):bf w' R rest:=by
 obtain ⟨pos,k1,k2,k3⟩:=h.blk
 exact ⟨⟨pos,k1,k2,(hg.block _ h.lt (by simp; omega)).trans k3⟩,h.tok.below (dB hg h0 (Nat.le_trans R.b0 (Nat.le_of_lt h.lt))),h.ok,h.tl⟩
theorem jK {br:Nat} {w w':World} (h:w.grownBy w' (some br)) (b o:Nat) (vs:List Value) (hb:w.heap.size≤b):w.grownBy (w'.setCells b o vs) (some br):=
 have k:=cB b vs o w'
 ⟨k.os.trans h.os,k.tape.trans h.tape,k.output.trans h.output,Nat.le_trans h.size k.size,fun j hj hn=>(k.block j (Nat.lt_of_lt_of_le hj h.size) (by simp; omega)).trans (h.block j hj hn)⟩
theorem uH {R:Rp} {bs B:Nat} {w W:World} {x:iK} {r:aJ} (hP:Pm R bs B W x r) (hg:w.grownBy W (some R.br)) (hl:R.br < w.heap.size) (hB:w.heap.size < B):
 qJ R w (.ok (one x.h x.b x.e) r) (.returned (.tuple #[cO x.h x.b x.e x.s,.bool true])) (W.setCells w.heap.size 0 (iK.f x)):=
 ⟨⟨x,rfl,rfl,hP.ok,(hP.st.next ⟨(cB w.heap.size _ 0 W).size,fun k h1 h2=>(cB w.heap.size _ 0 W).block k h2 (by simp; omega)⟩).mono (Nat.le_of_lt hB)⟩,nU hP.rd (cB _ _ _ _) (by have:=R.b0; omega) (by omega),jK hg _ _ _ (Nat.le_refl _)⟩
theorem qm {R:Rp} {bs B:Nat} {w W:World} {x:iK} {r:aJ} (hP:Pm R bs B W x r) (hg:w.grownBy W (some R.br)) (hl:R.br < w.heap.size):
 qJ R w (.no r) (.returned (.tuple #[cO x.h x.b x.e x.s,.bool false])) (W.setCells w.heap.size 0 (iK.f x)):=
 ⟨⟨x,rfl⟩,nU hP.rd (cB _ _ _ _) (by have:=R.b0; omega) (by omega),jK hg _ _ _ (Nat.le_refl _)⟩
theorem sM {w:World} {b:Nat} {t:TypeId} (h:w.heap[b]? =some (.cells mJ t (0,0))):
 (w.cell? ⟨b,0,none⟩=some (.int .i64 0)∧w.cell? ⟨b,1,none⟩=some (.int .i64 0)∧w.cell? ⟨b,2,none⟩=some (.string ⟨#[]⟩)∧w.cell? ⟨b,3,none⟩=some (.string ⟨#[]⟩)∧w.cell? ⟨b,4,none⟩=some (.slice none 0 0)∧w.cell? ⟨b,5,none⟩=some (.int .i64 0)∧w.cell? ⟨b,6,none⟩=some (.int .i64 0)∧w.cell? ⟨b,7,none⟩=some (.string ⟨#[]⟩)∧w.cell? ⟨b,8,none⟩=some (.slice none 0 0)∧w.cell? ⟨b,9,none⟩=some (.slice none 0 0)∧w.cell? ⟨b,10,none⟩=some (.slice none 0 0))∧ ∀j,w.frozen? ⟨b,j,none⟩=false:=
 ⟨⟨aB h rfl,aB h rfl,aB h rfl,aB h rfl,aB h rfl,aB h rfl,aB h rfl,aB h rfl,aB h rfl,aB h rfl,aB h rfl⟩,fun _=>bH h⟩
theorem gZ {R:Rp} {bs B:Nat} {W:World} {x:iK} {r:aJ} (h:Pm R bs B W x r):
 W.cell? ⟨bs,0,none⟩=some (.int .i64 x.h.op)∧W.cell? ⟨bs,1,none⟩=some (.int .i64 x.h.line)∧W.cell? ⟨bs,2,none⟩=some (.string x.h.nm)∧W.cell? ⟨bs,3,none⟩=some (.string x.h.arg)∧W.cell? ⟨bs,4,none⟩=some (.slice x.s.dZ x.h.idx.len x.s.dG)∧W.cell? ⟨bs,5,none⟩=some (.int .i64 x.h.dN)∧W.cell? ⟨bs,6,none⟩=some (.int .i64 x.h.xn)∧W.cell? ⟨bs,7,none⟩=some (.string x.h.dM)∧W.cell? ⟨bs,8,none⟩=some (.slice x.s.dH x.h.aR.len x.s.bR)∧W.cell? ⟨bs,9,none⟩=some (.slice x.s.bV x.b.len x.s.bC)∧W.cell? ⟨bs,10,none⟩=some (.slice x.s.eB x.e.len x.s.dK):=
 ⟨h.cell rfl,h.cell rfl,h.cell rfl,h.cell rfl,h.cell rfl,h.cell rfl,h.cell rfl,h.cell rfl,h.cell rfl,h.cell rfl,h.cell rfl⟩
theorem mh {R:Rp} {w w1:World} {ts:aJ} {kv:Value} {sv:Value} (hI:bf w R ts) (hB:Below w.heap.size w w1) (hz:w1.heap[w.heap.size]? =some (.cells mJ 131 (0,0))) (hL:dR ((bF ts:Nat):Int)) (gt:Nat) (hg:w1.heap.size=gt):
 ∀W,((w1.alloc (.cells #[kv,sv,.int .i64 ((bF ts:Nat):Int)] 138)).alloc (.cells #[.int .i64 0,.int .i64 ((bF ts:Nat):Int),.string ⟨#[]⟩,.string ⟨#[]⟩,.slice none 0 0,.int .i64 0,.int .i64 0,.string ⟨#[]⟩,.slice none 0 0,.slice none 0 0,.slice none 0 0] 131))=W→
 Pm R (gt + 1) (gt + 2) W ⟨hd 0 ((bF ts:Nat):Int),.nil,.nil,zS⟩ ts∧Below w.heap.size w W∧W.heap[w.heap.size]? =some (.cells mJ 131 (0,0))∧W.cell? ⟨gt,0,none⟩=some kv∧W.cell? ⟨gt,1,none⟩=some sv∧w.heap.size < gt:=by
 intro W hW
 have h0:=(Array.getElem?_eq_some_iff.1 hz).1
 have hb1:Below w.heap.size w (w1.alloc (.cells #[kv,sv,.int .i64 ((bF ts:Nat):Int)] 138)):=hB.alloc hB.size _
 have ht:(w1.alloc (.cells #[kv,sv,.int .i64 ((bF ts:Nat):Int)] 138)).heap[gt]? =some (.cells #[kv,sv,.int .i64 ((bF ts:Nat):Int)] 138 (0,0)):=by rw [← hg]; exact heap_alloc_new _ _
 have hz1:(w1.alloc (.cells #[kv,sv,.int .i64 ((bF ts:Nat):Int)] 138)).heap[w.heap.size]? =some (.cells mJ 131 (0,0)):=(heap_alloc_old _ _ h0).trans hz
 have hs1:(w1.alloc (.cells #[kv,sv,.int .i64 ((bF ts:Nat):Int)] 138)).heap.size=gt + 1:=by simp [hg]
 generalize w1.alloc (.cells #[kv,sv,.int .i64 ((bF ts:Nat):Int)] 138)=W1 at *
 have hb2:Below w.heap.size w W:=by rw [← hW]; exact hb1.alloc hb1.size _
 have ht2:W.heap[gt]? =some (.cells #[kv,sv,.int .i64 ((bF ts:Nat):Int)] 138 (0,0)):=by rw [← hW]; exact (heap_alloc_old _ _ (Array.getElem?_eq_some_iff.1 ht).1).trans ht
 refine ⟨⟨hI.below hb2,⟨by omega,by have:=hI.lt; omega⟩,by have:=hI.lt; omega,by have:=hI.lt; have:=R.b0; omega,by rw [← hW]; simp; omega,by rw [← hW,← hs1]; exact heap_alloc_new _ _,⟨tT,hL,Nat.zero_le _,Nat.zero_le _,Nat.zero_le _,Dg,Nat.zero_le _,Nat.zero_le _⟩,fun _ _=>⟨trivial,trivial,trivial,trivial⟩⟩,hb2,?_,aB ht2 rfl,aB ht2 rfl,by omega⟩
 rw [← hW]; exact (heap_alloc_old _ _ (Array.getElem?_eq_some_iff.1 hz1).1).trans hz1
theorem jZ {w:World} {R:Rp} {ts:aJ} (hI:bf w R ts):dR ((bF ts:Nat):Int):=by
 cases ts with
 | nil=>exact tT
 | cons t r=>have:=(hI.Yt t (by simp)).1; show dR (t.line:Int); unfold dR; omega
theorem gP {br bs k:Nat} {w w':World} {o:Obj} (h:Fr br bs w w') (hk:w.heap[k]? =some o) (h1:k≠br) (h2:k≠bs):w'.heap[k]? =some o:=(h.block k (Array.getElem?_eq_some_iff.1 hk).1 h1 h2).trans hk
set_option maxHeartbeats 4000000 in
set_option maxRecDepth 100000 in
theorem EW (R:Rp) (f:Nat) (ts:aJ) (w:World) (hI:bf w R ts) (h1:(nextK ts == 1)=true):
 Calls Tryz.prog 148 #[.pointer (some ⟨R.br,0,none⟩)] w (qJ R w (ps (f + 1) true ts)):=by
 rw [TJ h1]
 have hk:nextK ts=1:=by simpa using h1
 clear h1
 have HI:=Lib.hid hI
 have HL:=Lib.hid (jZ hI)
 have hlt:=hI.lt
 go_enter Tryz.func148,Tryz.ntmps148
 go_upto_region 1 with fail
 generalize hW:World.alloc w _=W0
 have HB0:Hid (Below w.heap.size w W0):=Lib.hid (by rw [← hW]; exact aj _ _)
 have HZ0:Hid (W0.heap[w.heap.size]? =some (.cells mJ 131 (0,0))):=Lib.hid (by rw [← hW]; exact heap_alloc_new _ _)
 have HN:=Lib.hid (gT R ts W0 (HI.out.below HB0.out))
 unfold kI at HN
 rw [hk] at HN
 clear hW hI hk
 go_wp2_with fail
 refine HN.out.mono ?_
 rintro e w1 ⟨rfl,h2⟩
 have HB1:=Lib.hid (HB0.out.trans (h2.mono HB0.out.size))
 have HZ1:=Lib.hid ((h2.block _ (Array.getElem?_eq_some_iff.1 HZ0.out).1).trans HZ0.out)
 clear h2 HN HB0 HZ0
 go_upto_region 3 with fail
 obtain ⟨gt,hg⟩: ∃g,w1.heap.size=g:=⟨_,rfl⟩
 rw [hg]
 generalize hW:World.alloc (World.alloc w1 _) _=W2
 have aU:=Lib.hid (mh HI.out HB1.out HZ1.out HL.out gt hg W2 hW)
 have e0:=aU.out.2.2.2.1
 have e1:=aU.out.2.2.2.2.1
 have bW:Hid (R.br < w.heap.size∧w.heap.size < gt):=Lib.hid ⟨hlt,aU.out.2.2.2.2.2⟩
 clear hW hg HB1 HZ1
 have f0:=aU.out.1.free 0
 have c0:=aU.out.1.cell (j:=0) rfl
 go_upto_region 6 with fail
 generalize hW:World.setCell W2 _ _=W3
 have aW:Hid (Pm R (gt + 1) (gt + 2) W3 ⟨hd 1 ((bF ts:Nat):Int),.nil,.nil,zS⟩ ts):=Lib.hid (by rw [← hW]; exact aU.out.1.op 1 (by unfold dR; decide))
 have dQ:Hid (Fr R.br (gt + 1) W2 W3):=Lib.hid (by rw [← hW]; exact (Fr.refl _ _ _).set _ _ (.inl rfl))
 clear hW f0 c0 e0 e1
 have HC:=Lib.hid (ES R (gt + 1) (gt + 2) ts (hd 1 ((bF ts:Nat):Int)) zS W3 aW.out)
 generalize wW (hd 1 ((bF ts:Nat):Int)) ts=res at *
 go_wp2_with fail
 refine HC.out.mono ?_
 cases res with
 | no q=>
   rintro e w4 ⟨rfl,⟨x,h2⟩,h3⟩
   have dS:=Lib.hid h2
   have fZ:=Lib.hid (dQ.out.trans h3)
   clear h2 h3
   have iD:=Lib.hid (gP fZ.out aU.out.2.2.1 (by have:=bW.out; omega) (by have:=bW.out; omega))
   obtain ⟨⟨y0,y1,y2,y3,y4,y5,y6,y7,y8,y9,iV⟩,fz⟩:=sM iD.out
   have z0:=fz 0
   have z1:=fz 1
   have z2:=fz 2
   have z3:=fz 3
   have z4:=fz 4
   have z5:=fz 5
   have z6:=fz 6
   have z7:=fz 7
   have z8:=fz 8
   have z9:=fz 9
   have aY:=fz 10
   obtain ⟨d0,d1,d2,d3,d4,d5,d6,d7,d8,d9,mK⟩:=gZ dS.out
   clear fz
   go_wp2_with fail
   exact bodyPost_ret (v:= .tuple #[cO x.h x.b x.e x.s,.bool false]) (by simp [results,Tryz.results148,go_sem,cO,y0,y1,y2,y3,y4,y5,y6,y7,y8,y9,iV]) rfl (qm dS.out (fZ.out.gr aU.out.2.1 (by have:=bW.out; omega)) bW.out.1)
 | ok y q=>
   rintro e w4 ⟨rfl,⟨s,h2⟩,h3⟩
   have dS:=Lib.hid h2
   have fZ:=Lib.hid (dQ.out.trans h3)
   clear h2 h3
   have iD:=Lib.hid (gP fZ.out aU.out.2.2.1 (by have:=bW.out; omega) (by have:=bW.out; omega))
   obtain ⟨⟨y0,y1,y2,y3,y4,y5,y6,y7,y8,y9,iV⟩,fz⟩:=sM iD.out
   have z0:=fz 0
   have z1:=fz 1
   have z2:=fz 2
   have z3:=fz 3
   have z4:=fz 4
   have z5:=fz 5
   have z6:=fz 6
   have z7:=fz 7
   have z8:=fz 8
   have z9:=fz 9
   have aY:=fz 10
   obtain ⟨d0,d1,d2,d3,d4,d5,d6,d7,d8,d9,mK⟩:=gZ dS.out
   clear fz
   go_wp2_with fail
   exact bodyPost_ret (v:= .tuple #[cO y.h y.b y.e s,.bool true]) (by simp [results,Tryz.results148,go_sem,cO,y0,y1,y2,y3,y4,y5,y6,y7,y8,y9,iV]) rfl (uH dS.out (fZ.out.gr aU.out.2.1 (by have:=bW.out; omega)) bW.out.1 (by have:=bW.out; omega))
set_option maxHeartbeats 4000000 in
set_option maxRecDepth 100000 in
theorem Ep (R:Rp) (f:Nat) (ts:aJ) (w:World) (hI:bf w R ts) (h1:(nextK ts == 1)=false) (h3:(nextK ts == 3)=false):
 Calls Tryz.prog 148 #[.pointer (some ⟨R.br,0,none⟩)] w (qJ R w (ps (f + 1) true ts)):=by
 rw [Q8 h1 h3]
 obtain ⟨k,hk⟩: ∃k,nextK ts=k:=⟨_,rfl⟩
 have k1:((k:Int) == 1)=false:=by rw [← hk]; exact (uI 1 ts).symm.trans h1
 have k3:((k:Int) == 3)=false:=by rw [← hk]; exact (uI 3 ts).symm.trans h3
 clear h1 h3
 have HI:=Lib.hid hI
 have HL:=Lib.hid (jZ hI)
 have hlt:=hI.lt
 go_enter Tryz.func148,Tryz.ntmps148
 go_upto_region 1 with fail
 generalize hW:World.alloc w _=W0
 have HB0:Hid (Below w.heap.size w W0):=Lib.hid (by rw [← hW]; exact aj _ _)
 have HZ0:Hid (W0.heap[w.heap.size]? =some (.cells mJ 131 (0,0))):=Lib.hid (by rw [← hW]; exact heap_alloc_new _ _)
 have HN:=Lib.hid (gT R ts W0 (HI.out.below HB0.out))
 unfold kI at HN
 rw [hk] at HN
 clear hW hI hk
 go_wp2_with fail
 refine HN.out.mono ?_
 rintro e w1 ⟨rfl,h2⟩
 have HB1:=Lib.hid (HB0.out.trans (h2.mono HB0.out.size))
 have HZ1:=Lib.hid ((h2.block _ (Array.getElem?_eq_some_iff.1 HZ0.out).1).trans HZ0.out)
 clear h2 HN HB0 HZ0
 go_upto_region 3 with fail
 obtain ⟨gt,hg⟩: ∃g,w1.heap.size=g:=⟨_,rfl⟩
 rw [hg]
 generalize hW:World.alloc (World.alloc w1 _) _=W2
 have aU:=Lib.hid (mh HI.out HB1.out HZ1.out HL.out gt hg W2 hW)
 have e0:=aU.out.2.2.2.1
 have e1:=aU.out.2.2.2.2.1
 have bW:Hid (R.br < w.heap.size∧w.heap.size < gt):=Lib.hid ⟨hlt,aU.out.2.2.2.2.2⟩
 clear hW hg HB1 HZ1
 obtain ⟨⟨y0,y1,y2,y3,y4,y5,y6,y7,y8,y9,iV⟩,fz⟩:=sM aU.out.2.2.1
 have z0:=fz 0
 have z1:=fz 1
 have z2:=fz 2
 have z3:=fz 3
 have z4:=fz 4
 have z5:=fz 5
 have z6:=fz 6
 have z7:=fz 7
 have z8:=fz 8
 have z9:=fz 9
 have aY:=fz 10
 obtain ⟨d0,d1,d2,d3,d4,d5,d6,d7,d8,d9,mK⟩:=gZ aU.out.1
 clear fz
 go_wp2_with fail
 exact bodyPost_ret (v:= .tuple #[cO (hd 0 ((bF ts:Nat):Int)) .nil .nil zS,.bool false]) (by simp [results,Tryz.results148,go_sem,cO,y0,y1,y2,y3,y4,y5,y6,y7,y8,y9,iV,hd,zS,bL.len,aP.len]) rfl (qm aU.out.1 (bP aU.out.2.1) bW.out.1)
theorem XM (w:World):(binOp .eql 225 .nilFunc .nilFunc).run Tryz.prog w= .ok (.bool true) w:=by kernel_rfl
set_option maxHeartbeats 4000000 in
set_option maxRecDepth 100000 in
theorem EK (R:Rp) (f:Nat) (ts:aJ) (w:World) (hI:bf w R ts) (h1:(nextK ts == 1)=false) (h3:(nextK ts == 3)=true) (h0:(iA (aI ts) == 0)=true):
 Calls Tryz.prog 148 #[.pointer (some ⟨R.br,0,none⟩)] w (qJ R w (ps (f + 1) true ts)):=by
 rw [Tt h1 h3 h0]
 have hk:nextK ts=3:=by simpa using h3
 have lq:Hid (∀w,Calls Tryz.prog 172 #[.string (tx (aI ts))] w fun e w'=>e= .returned (.tuple #[.int .i64 0,.nilFunc])∧w=w'):=Lib.hid (fun w=>by
  have:=Hl (tx (aI ts)) (l:=aI ts) rfl w
  rw [show iA (aI ts)=0 by simpa using h0] at this; exact this)
 clear h1 h3 h0
 have hnf:=XM
 have HI:=Lib.hid hI
 have HL:=Lib.hid (jZ hI)
 have hlt:=hI.lt
 go_enter Tryz.func148,Tryz.ntmps148
 go_upto_region 1 with fail
 generalize hW:World.alloc w _=W0
 have HB0:Hid (Below w.heap.size w W0):=Lib.hid (by rw [← hW]; exact aj _ _)
 have HZ0:Hid (W0.heap[w.heap.size]? =some (.cells mJ 131 (0,0))):=Lib.hid (by rw [← hW]; exact heap_alloc_new _ _)
 have HN:=Lib.hid (gT R ts W0 (HI.out.below HB0.out))
 unfold kI at HN
 rw [hk] at HN
 clear hW hI hk
 go_wp2_with fail
 refine HN.out.mono ?_
 rintro e w1 ⟨rfl,h2⟩
 have HB1:=Lib.hid (HB0.out.trans (h2.mono HB0.out.size))
 have HZ1:=Lib.hid ((h2.block _ (Array.getElem?_eq_some_iff.1 HZ0.out).1).trans HZ0.out)
 clear h2 HN HB0 HZ0
 go_upto_region 3 with fail
 obtain ⟨gt,hg⟩: ∃g,w1.heap.size=g:=⟨_,rfl⟩
 rw [hg]
 generalize hW:World.alloc (World.alloc w1 _) _=W2
 have aU:=Lib.hid (mh HI.out HB1.out HZ1.out HL.out gt hg W2 hW)
 have e0:=aU.out.2.2.2.1
 have e1:=aU.out.2.2.2.2.1
 have bW:Hid (R.br < w.heap.size∧w.heap.size < gt):=Lib.hid ⟨hlt,aU.out.2.2.2.2.2⟩
 clear hW hg HB1 HZ1
 go_wp2_with fail
 refine (lq.out _).mono ?_
 rintro e w3 ⟨rfl,rfl⟩
 obtain ⟨⟨y0,y1,y2,y3,y4,y5,y6,y7,y8,y9,iV⟩,fz⟩:=sM aU.out.2.2.1
 have z0:=fz 0
 have z1:=fz 1
 have z2:=fz 2
 have z3:=fz 3
 have z4:=fz 4
 have z5:=fz 5
 have z6:=fz 6
 have z7:=fz 7
 have z8:=fz 8
 have z9:=fz 9
 have aY:=fz 10
 obtain ⟨d0,d1,d2,d3,d4,d5,d6,d7,d8,d9,mK⟩:=gZ aU.out.1
 clear fz
 go_wp2_with fail
 exact bodyPost_ret (v:= .tuple #[cO (hd 0 ((bF ts:Nat):Int)) .nil .nil zS,.bool false]) (by simp [results,Tryz.results148,go_sem,cO,y0,y1,y2,y3,y4,y5,y6,y7,y8,y9,iV,hd,zS,bL.len,aP.len]) rfl (qm aU.out.1 (bP aU.out.2.1) bW.out.1)
end Go.Proofs.YtdajkddgnfgijaaGreatDoor
end
