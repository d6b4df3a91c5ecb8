/-
  Contracts of the reference's or, nesting, and of its walk's inside.
  Contract of the reference walk's one: where nothing is appended.
  The reference walk's state as data: what is kept, a statement put on its row and taken off, a name added to its lists. No walk in sight.
  Three writes one behind the other in a region that draws its order (a block laid, an append, a store): the world is known at each stage. No program in sight.
-/
import Derived.Test.YtnknfoibmgphnaaDoorGMF
import Derived.Test.YtnknfoibmgphnaaDoorGMdRefX
import Derived.Test.YtnknfoibmgphnaaDoorGMJ
import Derived.StillTailTactics
import Derived.IntWalk
section
namespace Go.Proofs.YtnknfoibmgphnaaDoor
open Go.RowKit
namespace Md
def fP (a b:Int):Int:=if a != 0 then a else b
def aU:aR→Int→Int→ByteArray→Bool
 | .nil,_,_,_=>false
 | .cons h _ _ r,a,b,nm=>((h.op == a || h.op == b) && (nm.toList.isEmpty || h.nm.toList == nm.toList)) || aU r a b nm
end Md
open Md
def kE (bc:Nat) (p:Pr) (aC aF:Option Addr) (aA av:Nat) (i:Int) (aJ:Option Addr) (pG aI:Nat) (bV:Option Addr) (cK bf:Nat) (bW:Option Addr) (cO aZ:Nat):List (Nat × Nat × Value):=
 [(bc,0,.slice aC p.ds.length aA),(bc,1,.slice aF p.ts.length av),(bc,2,.int .i64 i),(bc,3,.slice aJ pG aI),(bc,4,.slice bV cK bf),(bc,5,.slice bW cO aZ)]
theorem dO (b:Bool) (w:World):
 Calls Tryd.prog 52 #[.bool b] w fun e w'=>e= .returned (.int .i64 (nest b))∧w=w':=by
 cases b
 all_goals
  go_enter Tryd.func52,Tryd.ntmps52
  go_wp2
  go_ret
  exact ⟨rfl,rfl⟩
theorem gU (a b:Int) (w:World):
 Calls Tryd.prog 49 #[.int .i64 a,.int .i64 b] w fun e w'=>e= .returned (.int .i64 (fP a b))∧w=w':=by
 generalize hres:fP a b=res
 have HR:=Lib.hid hres
 clear hres
 cases ha:(a != 0)
 all_goals
  go_enter Tryd.func49,Tryd.ntmps49
  go_wp2
  go_ret
  exact ⟨aS (by rw [← HR.out]; unfold fP; rw [ha]; rfl),rfl⟩
section
variable (p:Pr) (w:World) (aC aF:Option Addr) (aA av:Nat) (i:Int) (aJ:Option Addr) (aI bc:Nat) (bV:Option Addr) (cK bf:Nat) (bW:Option Addr) (cO aZ:Nat)
set_option maxHeartbeats 2000000 in
set_option maxRecDepth 100000 in
theorem aQ (ar:aR) (a b':Int) (nm:ByteArray) (har:ar.len≤maxLen) (hat:ar.At w w.heap.size aJ 0) (hh:Holds w (kE bc p aC aF aA av i aJ ar.len aI bV cK bf bW cO aZ)):
 Calls Tryd.prog 48 #[.pointer (some ⟨bc,0,none⟩),.int .i64 a,.int .i64 b',.string nm] w fun e w'=>e= .returned (.bool (aU ar a b' nm))∧Below w.heap.size w w':=by
 have HH:=Lib.hid (show Sit w w _ from ⟨Below.refl _ _,hh⟩)
 have HAT:=Lib.hid hat
 generalize hres:aU ar a b' nm=res
 have HR:=Lib.hid hres
 unfold maxLen at har
 clear hh hat hres
 go_enter Tryd.func48,Tryd.ntmps48
 go_wp2_with fail
 go_loopg [9,10] ar.len (fun g s _ wr=> ∃(k:Nat) (R:aR),g=R.len∧s= .int .i64 k∧k + R.len=ar.len∧res=aU R a b' nm∧R.At wr wr.heap.size aJ k∧Sit w wr (kE bc p aC aF aA av i aJ ar.len aI bV cK bf bW cO aZ))
 case atStart=>exact ⟨0,ar,rfl,rfl,by simp,HR.out.symm,HAT.out,HH.out⟩
 case round=>
  obtain ⟨k,R,rfl,rfl,hlen,heq,hrow,hB⟩:=hrel
  have HE:=Lib.hid heq
  have HB:=Lib.hid hB
  clear heq hB HH
  obtain ⟨-,⟨-,c0⟩,⟨-,c1⟩,⟨-,c2⟩,⟨-,c3⟩,⟨-,c4⟩,⟨-,c5⟩,-⟩:=HB.out
  cases R with
  | nil=>
    obtain rfl:k=ar.len:=by simpa [aR.len] using hlen
    go_wp2_with fail
    go_ret
    exact ⟨aW HE.out.symm,HB.out.1⟩
  | cons h b e R=>
    obtain ⟨bl,off,s,rfl,hbl,hin,x0,x1,x2,x3,x4,x5,x6,x7,x8,x9,x10,hrest⟩:=aR.At.head hrow
    have hkl:k < ar.len:=by simp only [aR.len] at hlen; omega
    clear hrow hin
    go_upto_region 5 with fail
    obtain ⟨nb,hnb⟩: ∃n,wr.heap.size=n:=⟨_,rfl⟩
    generalize hW2:World.alloc wr _=W2
    have HY:Hid (Sit wr W2 (iT nb h b e s [])):=Lib.hid (by rw [← hW2]; exact (Sit.start wr).gZ hnb _ _ _ _ _ _ _ _ _ _ _ _)
    have HB2:=Lib.hid (HB.out.next HY.out.1)
    have uj:=Lib.hid (hrest.same HY.out.1)
    rw [hnb]
    clear hW2 hnb x0 x1 x2 x3 x4 x5 x6 x7 x8 x9 x10 hrest c0 c1 c2 c3 c4 c5
    obtain ⟨-,⟨-,c0⟩,⟨-,c1⟩,⟨-,c2⟩,⟨-,c3⟩,⟨-,c4⟩,⟨-,c5⟩,⟨-,c6⟩,⟨-,c7⟩,⟨-,c8⟩,⟨-,c9⟩,⟨-,c10⟩,-⟩:=HY.out
    clear c1 c3 c4 c5 c6 c7 c8 c9 c10
    go_cut [46] (fun s' W3=>W2=W3∧s'= .bool ((h.op == a || h.op == b') && (nm.toList.isEmpty || h.nm.toList == nm.toList)))
    case first=>
     as_aux_lemma=>
      cases ha:(h.op == a)
      all_goals cases hb:(h.op == b')
      all_goals cases hn:nm.toList.isEmpty
      all_goals cases hm:(h.nm.toList == nm.toList)
      all_goals go_wp2_with fail
      all_goals go_meet
      all_goals exact ⟨rfl,by first | rfl | (rw [ha,hb,hn,hm]; rfl) | (simp [ha,hb,hn,hm])⟩
    obtain ⟨rfl,rfl⟩:=hcut
    have HE2:Hid (res=(((h.op == a || h.op == b') && (nm.toList.isEmpty || h.nm.toList == nm.toList)) || aU R a b' nm)):=Lib.hid (HE.out.trans (by rw [aU]))
    generalize ((h.op == a || h.op == b') && (nm.toList.isEmpty || h.nm.toList == nm.toList))=t at *
    cases t
    ·go_wp2_with fail
     go_roundg R.len
     case measure=>simp [aR.len]
     case rel=>exact ⟨k + 1,R,rfl,by go_num,by simp only [aR.len] at hlen; omega,HE2.out,uj.out,HB2.out⟩
    ·go_wp2_with fail
     go_ret
     exact ⟨aW HE2.out.symm,HB2.out.1⟩
end
end Go.Proofs.YtnknfoibmgphnaaDoor
end
section
set_option linter.unusedSimpArgs false
set_option linter.unusedVariables false
namespace Go.Proofs.YtnknfoibmgphnaaDoor
open Go.RowKit
open Md
def AC (W1:World) (z v:Obj):List Bool→World→Prop
 | [false,false],w'=>w'=W1
 | [true,false],w'=>w'=W1.alloc z
 | [true,true],w'=>w'=W1.alloc v
 | _,_=>False
theorem AC.bits {W1:World} {z v:Obj} : ∀ {c:List Bool} {w':World},AC W1 z v c w'→ ∃x y,c=[x,y]
 | [x,y],_,_=>⟨x,y,rfl⟩
 | [],_,h=>h.elim
 | [true],_,h=>h.elim
 | [false],_,h=>h.elim
 | _ ::_ ::_ ::_,_,h=>by simp [AC] at h
theorem AC.skip {W1:World} {z v:Obj} {a1 a2 i:Nat} {c:List Bool} {w':World} (h1:(a1 == i)=false) (h2:(a2 == i)=false) (h:AC W1 z v c w'):AC W1 z v (kM [a1,a2] c i) w':=by
 obtain ⟨x,y,rfl⟩:=h.bits
 simpa [kM,h1,h2] using h
theorem AC.lay {W1:World} {z v:Obj} {a1 a2 i:Nat} (h1:(a1 == i)=true) (h2:(a2 == i)=false):AC W1 z v (kM [a1,a2] [false,false] i) (W1.alloc z):=by
 simp only [kM,h1,h2,Bool.or_false,Bool.or_true]; rfl
theorem AC.fill {W1:World} {z v:Obj} {a1 a2 i:Nat} (h1:(a1 == i)=false) (h2:(a2 == i)=true):AC W1 z v (kM [a1,a2] [true,false] i) (W1.alloc v):=by
 simp only [kM,h1,h2,Bool.or_false,Bool.or_true]; rfl
theorem AC.below {W W1:World} {z v:Obj} {c:List Bool} {w':World} (hb:Below W.heap.size W W1) (h:AC W1 z v c w'):Below W.heap.size W w':=by
 obtain ⟨x,y,rfl⟩:=h.bits
 cases x <;> cases y
 ·have h:w'=W1:=h
  rw [h]; exact hb
 ·exact h.elim
 ·have h:w'=W1.alloc z:=h
  rw [h]; exact hb.trans ((ay _ _).mono hb.size)
 ·have h:w'=W1.alloc v:=h
  rw [h]; exact hb.trans ((ay _ _).mono hb.size)
namespace Md
theorem IU:(⟨#[]⟩:ByteArray).toList=[]:=by simp [Lib.toList_data]
theorem kL (k:Int): ∀ar:aR,aU ar k k ⟨#[]⟩=dB ar [k]
 | .nil=>rfl
 | .cons h b e r=>by simp [aU,dB,kL k r,IU]
theorem zo (k:Int) (nm:ByteArray) (hn:nm.toList.isEmpty=false): ∀ar:aR,aU ar k k nm=kI ar nm [k]
 | .nil=>rfl
 | .cons h b e r=>by simp [aU,kI,zo k nm hn r,hn]
theorem zM (a b:Int) (nm:ByteArray) (hn:nm.toList.isEmpty=false): ∀ar:aR,aU ar a b nm=kI ar nm [a,b]
 | .nil=>rfl
 | .cons h _ _ r=>by
   simp only [aU,kI,zM a b nm hn r,hn,List.any_cons,List.any_nil,Bool.or_false,Bool.false_or]
   cases h.op == a <;> cases h.op == b <;> cases h.nm.toList == nm.toList <;> rfl
theorem wN (a b:Int): ∀ar:aR,dB ar [a,b]=(dB ar [a] || dB ar [b])
 | .nil=>rfl
 | .cons h _ _ r=>by
   simp only [dB,wN a b r,List.any_cons,List.any_nil,Bool.or_false]
   cases h.op == a <;> cases h.op == b <;> cases dB r [a] <;> cases dB r [b] <;> rfl
theorem Aa (a b c:Int): ∀ar:aR,dB ar [a,b,c]=((dB ar [a] || dB ar [b]) || dB ar [c])
 | .nil=>rfl
 | .cons h _ _ r=>by
   simp only [dB,Aa a b c r,List.any_cons,List.any_nil,Bool.or_false]
   cases h.op == a <;> cases h.op == b <;> cases h.op == c <;> cases dB r [a] <;> cases dB r [b] <;> cases dB r [c] <;> rfl
theorem nW (a b:Int):dR [a,b]=fP a b:=by
 unfold dR fP; cases ha:a != 0
 ·simp [dR]; intro h; exact h.symm
 ·simp
theorem uZ (a b c:Int):dR [a,b,c]=fP a (fP b c):=by
 rw [← nW b c]; rfl
theorem jY (p:Pr) (i:Int) (nm:ByteArray) (k a:Int) (hk:0≤k∧k≤9) (ha:conv k=a):bC (mean p i nm) [k]=bR (conv (mean p i nm)) a a:=by
 subst ha; exact (Er _ k (sN p i nm) hk).symm
theorem FX (p:Pr) (i:Int) (nm:ByteArray):bC (mean p i nm) [1,2]=bR (conv (mean p i nm)) 8 1:=
 (Dr _ 1 2 (sN p i nm) (by decide) (by decide)).symm
theorem sS {p:Pr} {i:Int} {nm:ByteArray} (h:bR (conv (mean p i nm)) 5 5=0): ∃(k:Nat) (d:De) (r:List De),k < p.ds.length∧fidx (fun d:De=>d.nm.toList == nm.toList) p.ds 0=(k:Int)∧p.ds.drop k=d ::r∧d ∈ p.ds∧d.kind=5∧ig p.ds nm=d.on:=by
 have h6:mean p i nm=6:=by
  rw [← jY p i nm 6 5 (by decide) rfl] at h
  exact sP h
 rcases lH (fun d:De=>d.nm.toList == nm.toList) p.ds 0 with ⟨-,hn,-⟩ | ⟨k,d,r,hk,hf,hd,hs,-⟩
 ·exfalso
  unfold mean lg lV at h6
  rw [hn] at h6
  split at h6
  ·cases h6
  ·simp only [Option.map_none,Option.getD_none] at h6
   split at h6 <;> cases h6
 ·have QZ:fu d=6:=by
   unfold mean lg at h6
   rw [hs] at h6
   split at h6
   ·cases h6
   ·simpa using h6
  have h5:d.kind=5:=by
   unfold fu at QZ
   grind
  refine ⟨k,d,r,hk,by simpa using hf,hd,List.mem_of_find?_eq_some hs,h5,?_⟩
  unfold ig
  have:p.ds.find? (fun d=>d.kind == 5 && d.nm.toList == nm.toList)=some d:=by
   clear hf hd hk h6 QZ h
   revert hs
   induction p.ds with
   | nil=>intro hs; simp at hs
   | cons x r ih=>
     intro hs
     rw [List.find?_cons] at hs ⊢
     cases hx:x.nm.toList == nm.toList
     ·rw [hx] at hs
      simp only [Bool.and_false]
      exact ih hs
     ·rw [hx] at hs
      injection hs with hs
      subst hs
      simp [h5]
  rw [this]; rfl
end Md
open Md
theorem bQ {p:Pr} {w W:World} {aC aF:Option Addr} {aA av:Nat} {i:Int} {aJ:Option Addr} {pG aI bc:Nat} {bV:Option Addr} {cK bf:Nat} {bW:Option Addr} {cO aZ n0 n1:Nat} {h:eH} {b e:aR} {s:Sl} {u v:Value}
 (hs:Sit w W ((n1,0,u) ::(n1,1,v) ::iT n0 h b e s (kE bc p aC aF aA av i aJ pG aI bV cK bf bW cO aZ))):Holds W (kE bc p aC aF aA av i aJ pG aI bV cK bf bW cO aZ):=hs.2.2.2.2.2.2.2.2.2.2.2.2.2.2
end Go.Proofs.YtnknfoibmgphnaaDoor
end
section
set_option linter.unusedVariables false
namespace Go.Proofs.YtnknfoibmgphnaaDoor
open Go.RowKit
open Md
def KZ (p:Pr) (aC aF:Option Addr) (aA av:Nat) (i:Int) (v vs ve:Value):Array Value:= #[.slice aC p.ds.length aA,.slice aF p.ts.length av,.int .i64 i,v,vs,ve]
structure nu where
 B0:Nat
 B1:Nat
 bc:Nat
 c0:B0≤bc
 c1:bc < B1
def F7 (w:World) (B0:Nat) (p:Pr) (aC aF:Option Addr):Prop:=p.ds.length≤maxLen∧p.ts.length≤maxLen∧iZ w B0 p.ds aC 0∧iy w B0 p.ts aF 0
theorem F7.below {w w':World} {B0:Nat} {p:Pr} {aC aF:Option Addr} (h:F7 w B0 p aC aF) (hb:Below B0 w w'):F7 w' B0 p aC aF:=⟨h.1,h.2.1,h.2.2.1.below hb,h.2.2.2.below hb⟩
theorem F7.use {w:World} {B0:Nat} {p:Pr} {aC aF:Option Addr} (h:F7 w B0 p aC aF) (hB:B0≤w.heap.size):p.At w aC aF:=⟨h.1,h.2.1,h.2.2.1.mono hB,h.2.2.2.mono hB⟩
def vw (l:List ByteArray):List Value:=l.map .string
def Own (V:List Value) (k:Nat):Prop:= ∃u ∈ V,u.ownBlock=some k
structure Kw (L:nu) (V:List Value) (w w':World):Prop where
 os:w'.os=w.os
 tape:w'.tape=w.tape
 output:w'.output=w.output
 size:w.heap.size≤w'.heap.size
 block: ∀k,k < w.heap.size→k≠L.bc→ ¬ Own V k→w'.heap[k]? =w.heap[k]?
def jF (w:World) (V V':List Value):Prop:= ∀k,Own V' k→Own V k∨w.heap.size≤k
theorem Kw.refl (L:nu) (V:List Value) (w:World):Kw L V w w:=⟨rfl,rfl,rfl,Nat.le_refl _,fun _ _ _ _=>rfl⟩
theorem Kw.of_below {L:nu} {V:List Value} {w w':World} (h:Below w.heap.size w w'):Kw L V w w':=⟨h.os,h.tape,h.output,h.size,fun k hk _ _=>h.block k hk⟩
theorem Kw.trans {L:nu} {V V1:List Value} {w w1 w2:World} (h:Kw L V w w1) (ho:jF w V V1) (k:Kw L V1 w1 w2):Kw L V w w2:=
 ⟨k.os.trans h.os,k.tape.trans h.tape,k.output.trans h.output,Nat.le_trans h.size k.size,fun j hj hc hv=>(k.block j (Nat.lt_of_lt_of_le hj h.size) hc (fun e=>by
   rcases ho j e with e | e
   ·exact hv e
   ·omega)).trans (h.block j hj hc hv)⟩
theorem Kw.below {L:nu} {V:List Value} {w w':World} (h:Kw L V w w') (hB:L.B0≤w.heap.size) (hv: ∀k,Own V k→L.B1≤k):Below L.B0 w w':=
 ⟨h.os,h.tape,h.output,h.size,fun k hk=>h.block k (by omega) (by have:=L.c0; omega) (fun e=>by have:=hv k e; have:=L.c0; have:=L.c1; omega)⟩
theorem Kw.far {L:nu} {V:List Value} {w w':World} {k:Nat} (h:Kw L V w w') (hk:k < w.heap.size) (hB:L.B1≤k) (hv: ¬ Own V k):w'.heap[k]? =w.heap[k]?:=
 h.block k hk (by have:=L.c1; omega) hv
theorem jF.refl (w:World) (V:List Value):jF w V V:=fun _ h=> .inl h
theorem jF.trans {w w1:World} {V V1 V2:List Value} (h:jF w V V1) (k:jF w1 V1 V2) (hs:w.heap.size≤w1.heap.size):jF w V V2:=fun j hj=>by
 rcases k j hj with e | e
 ·exact h j e
 ·exact .inr (Nat.le_trans hs e)
theorem jF.ne {w:World} {V V':List Value} {k:Nat} (h:jF w V V') (hk:k < w.heap.size) (hv: ¬ Own V k): ¬ Own V' k:=fun e=>by
 rcases h k e with e | e
 ·exact hv e
 ·omega
theorem jA {w w':World} {base:Nat} {e:TypeId} {size n:Nat} {v:Value} {xs:List Value} (h:w.ownsRow base e size v n xs) (hb: ∀k,v.ownBlock=some k→w'.heap[k]? =w.heap[k]?):w'.ownsRow base e size v n xs:=by
 refine ⟨h.1,?_⟩
 rcases h.2 with h1 | ⟨g,cap,cur,hv,h1,h2,h3⟩
 ·exact .inl h1
 ·exact .inr ⟨g,cap,cur,hv,h1,(hb g (by rw [hv]; rfl)).trans h2,h3⟩
theorem Ef {w:World} {g:Nat} (hg:g < w.heap.size): ∀(l:List ByteArray) (k:Nat),(∀j u,(vw l)[j]? =some u→w.cell? ⟨g,k + j,none⟩=some u)→(∀s ∈ l,s.size≤maxLen)→iD w w.heap.size l (some ⟨g,0,none⟩) k
 | [],_,_,_=>trivial
 | s ::r,k,hc,hs=>by
   refine ⟨⟨g,0,rfl,hg,?_,hs s (by simp)⟩,Ef hg r (k + 1) (fun j u hu=> ?_) (fun y hy=>hs y (by simp [hy]))⟩
   ·rw [Nat.zero_add]; exact hc 0 _ rfl
   ·rw [Nat.add_assoc,Nat.add_comm 1 j]; exact hc (j + 1) u (by simpa [vw] using hu)
theorem FR {w:World} {base:Nat} {e:TypeId} {v:Value} {l:List ByteArray} (h:w.ownsRow base e 1 v l.length (vw l)) (hs: ∀s ∈ l,s.size≤maxLen): ∃ao cap,v= .slice ao l.length cap∧iD w w.heap.size l ao 0:=by
 rcases h.2 with ⟨rfl,hn⟩ | ⟨g',cap,cur,rfl,hb,hg,h1,h2,h3,h4⟩
 ·have:l=[]:=List.eq_nil_of_length_eq_zero hn
  subst this
  exact ⟨none,0,rfl,trivial⟩
 ·refine ⟨_,_,rfl,Ef (Array.getElem?_eq_some_iff.1 hg).1 l 0 (fun j u hu=> ?_) hs⟩
  rw [Nat.zero_add,cell_of_row w g' j cur _ (0,0) hg]
  rw [← h4,List.getElem?_take] at hu
  split at hu
  ·simpa using hu
  ·cases hu
structure jc (w:World) (L:nu) (p:Pr) (aC aF:Option Addr) (aA av:Nat) (i:Int) (A:List Fr) (fs gs:List ByteArray) (v vs ve:Value):Prop where
 blk:w.heap[L.bc]? =some (.cells (KZ p aC aF aA av i v vs ve) 60 (0,0))
 row:w.ownsRow L.B1 42 11 v A.length (sF A)
 rs:w.ownsRow L.B1 9 1 vs fs.length (vw fs)
 re:w.ownsRow L.B1 9 1 ve gs.length (vw gs)
 d1: ∀k,v.ownBlock=some k→vs.ownBlock≠some k
 d2: ∀k,v.ownBlock=some k→ve.ownBlock≠some k
 d3: ∀k,vs.ownBlock=some k→ve.ownBlock≠some k
 sz:L.B1≤w.heap.size
 dat:F7 w L.B0 p aC aF
 lK:Kl w L.B0 A
 fo: ∀s ∈ fs,s.size≤maxLen
 go: ∀s ∈ gs,s.size≤maxLen
section
variable {w:World} {L:nu} {p:Pr} {aC aF:Option Addr} {aA av:Nat} {i:Int} {A:List Fr} {fs gs:List ByteArray} {v vs ve:Value}
theorem jc.b0 (h:jc w L p aC aF aA av i A fs gs v vs ve):L.B0≤w.heap.size:=by have:=h.sz; have:=L.c0; have:=L.c1; omega
theorem oo {k:Nat} :Own [v,vs,ve] k↔v.ownBlock=some k∨vs.ownBlock=some k∨ve.ownBlock=some k:=by
 unfold Own; simp
theorem jc.own (h:jc w L p aC aF aA av i A fs gs v vs ve): ∀k,Own [v,vs,ve] k→L.B1≤k∧k < w.heap.size:=fun k hk=>by
 rcases oo.1 hk with e | e | e
 ·exact h.row.lt k e
 ·exact h.rs.lt k e
 ·exact h.re.lt k e
theorem jc.form (h:jc w L p aC aF aA av i A fs gs v vs ve): ∃aJ aI,v= .slice aJ A.length aI∧(bF A).At w w.heap.size aJ 0:=by
 rcases h.row.2 with ⟨rfl,hn⟩ | ⟨g',cap,cur,rfl,hb,hg,h1,h2,h3,h4⟩
 ·have:A=[]:=List.eq_nil_of_length_eq_zero hn
  subst this
  exact ⟨none,0,rfl,trivial⟩
 ·refine ⟨_,_,rfl,G8 h.b0 (Array.getElem?_eq_some_iff.1 hg).1 A 0 (fun j u hu=> ?_) h.lK⟩
  rw [Nat.zero_mul,Nat.zero_add,cell_of_row w g' j cur _ (0,0) hg]
  rw [← h4,List.getElem?_take] at hu
  split at hu
  ·simpa using hu
  ·cases hu
theorem jc.Gi (h:jc w L p aC aF aA av i A fs gs v vs ve): ∃ao cap,vs= .slice ao fs.length cap∧iD w w.heap.size fs ao 0:=FR h.rs h.fo
theorem jc.Gy (h:jc w L p aC aF aA av i A fs gs v vs ve): ∃ao cap,ve= .slice ao gs.length cap∧iD w w.heap.size gs ao 0:=FR h.re h.go
theorem jc.holds {aJ bV bW:Option Addr} {aI cK bf cO aZ:Nat} (h:jc w L p aC aF aA av i A fs gs (.slice aJ A.length aI) (.slice bV cK bf) (.slice bW cO aZ)):Holds w (kE L.bc p aC aF aA av i aJ (bF A).len aI bV cK bf bW cO aZ):=by
 have hb:=h.blk
 rw [mU]
 exact ⟨dM hb (j:=0) rfl,dM hb (j:=1) rfl,dM hb (j:=2) rfl,dM hb (j:=3) rfl,dM hb (j:=4) rfl,dM hb (j:=5) rfl,trivial⟩
theorem jc.below {w':World} (h:jc w L p aC aF aA av i A fs gs v vs ve) (hb:Below w.heap.size w w'):jc w' L p aC aF aA av i A fs gs v vs ve where
 blk:=(hb.block _ (Array.getElem?_eq_some_iff.1 h.blk).1).trans h.blk
 row:=jA h.row (fun k hk=>hb.block k (h.row.lt k hk).2)
 rs:=jA h.rs (fun k hk=>hb.block k (h.rs.lt k hk).2)
 re:=jA h.re (fun k hk=>hb.block k (h.re.lt k hk).2)
 d1:=h.d1
 d2:=h.d2
 d3:=h.d3
 sz:=Nat.le_trans h.sz hb.size
 dat:=h.dat.below (hb.mono h.b0)
 lK:=fun x hx=>(h.lK x hx).below (hb.mono h.b0)
 fo:=h.fo
 go:=h.go
theorem jc.Kj {wz w4 w5:World} {u x:Value} {g' j:Nat} (h:jc w L p aC aF aA av i A fs gs v vs ve) (hu:u ∈ [v,vs,ve]) (hb:Below w.heap.size w wz) (hgr:wz.grownBy w4 u.ownBlock) (hat:u.ownBlock=some g'∨g'=wz.heap.size) (hgw:w4.grownBy w5 (some g')):
 (∀k,k < w.heap.size→u.ownBlock≠some k→w5.heap[k]? =w.heap[k]?)∧(∀k,k < w.heap.size→k≠L.bc→u.ownBlock≠some k→(w5.setCell ⟨L.bc,j,none⟩ x).heap[k]? =w.heap[k]?)∧
 Kw L [v,vs,ve] w (w5.setCell ⟨L.bc,j,none⟩ x):=by
 have hsz:w.heap.size≤w4.heap.size:=Nat.le_trans hb.size hgr.size
 have hgz:=dY w5 ⟨L.bc,j,none⟩ x
 have hlow: ∀k,k < w.heap.size→u.ownBlock≠some k→w5.heap[k]? =w.heap[k]?:=fun k hk hv=>by
  have hkg:k≠g':=by
   rcases hat with e | e
   ·intro e'; exact hv (by rw [e,e'])
   ·have:=hb.size; omega
  rw [hgw.block k (by omega) (by simp; exact hkg),hgr.block k (Nat.lt_of_lt_of_le hk hb.size) (fun e=>hv e.symm),hb.block k hk]
 have hl2: ∀k,k < w.heap.size→k≠L.bc→u.ownBlock≠some k→(w5.setCell ⟨L.bc,j,none⟩ x).heap[k]? =w.heap[k]?:=fun k hk hc hv=>by
  rw [aO w5 ⟨L.bc,j,none⟩ _ rfl (fun e=>hc e.symm)]; exact hlow k hk hv
 refine ⟨hlow,hl2,⟨hgz.os.trans (hgw.os.trans (hgr.os.trans hb.os)),hgz.tape.trans (hgw.tape.trans (hgr.tape.trans hb.tape)),hgz.output.trans (hgw.output.trans (hgr.output.trans hb.output)),Nat.le_trans hsz (Nat.le_trans hgw.size hgz.size),fun k hk hc hv=>hl2 k hk hc (fun e=>hv ⟨u,hu,e⟩)⟩⟩
theorem jc.Bl (h:jc w L p aC aF aA av i A fs gs v vs ve) {u:Value} (hu:u ∈ [v,vs,ve]):u.ownBlock≠some L.bc:=fun e=>by
 have:=(h.own _ ⟨u,hu,e⟩).1; have:=L.c1; omega
theorem jc.push {wz w4:World} {g' cap':Nat} {zs:List Value} (h:jc w L p aC aF aA av i A fs gs v vs ve) (x:Fr) (hx:nQ w L.B0 x.h x.b x.e x.s) (hb:Below w.heap.size w wz) (hown:w4.ownsRow L.B1 42 11 (.slice (some ⟨g',0,none⟩) (A.length + 1) cap') (A.length + 1) (sF A++zs)) (hgr:wz.grownBy w4 v.ownBlock) (hat:v.ownBlock=some g'∨g'=wz.heap.size):
 jc ((w4.setCells g' (A.length * 11) (kS x.h x.b x.e x.s)).setCell ⟨L.bc,3,none⟩ (.slice (some ⟨g',0,none⟩) (A.length + 1) cap')) L p aC aF aA av i (A++[x]) fs gs (.slice (some ⟨g',0,none⟩) (A.length + 1) cap') vs ve∧
 Kw L [v,vs,ve] w ((w4.setCells g' (A.length * 11) (kS x.h x.b x.e x.s)).setCell ⟨L.bc,3,none⟩ (.slice (some ⟨g',0,none⟩) (A.length + 1) cap'))∧jF w [v,vs,ve] [.slice (some ⟨g',0,none⟩) (A.length + 1) cap',vs,ve]:=by
 have hg1:=(hown.lt g' rfl).1
 have hc1:=L.c1
 have hput:=zR (vs:=kS x.h x.b x.e x.s) hown (vV A) rfl
 generalize Nz:w4.setCells g' (A.length * 11) (kS x.h x.b x.e x.s)=w5 at *
 have hgw:w4.grownBy w5 (some g'):=by rw [← Nz]; exact kH _ _ _ _
 obtain ⟨hlow,hl2,dL⟩:=h.Kj (u:=v) (x:= .slice (some ⟨g',0,none⟩) (A.length + 1) cap') (j:=3) (by simp) hb hgr hat hgw
 have hgz:=dY w5 ⟨L.bc,3,none⟩ (.slice (some ⟨g',0,none⟩) (A.length + 1) cap')
 have hbel:=dL.below h.b0 (fun k e=>(h.own k e).1)
 have hnew: ∀k,Value.ownBlock (.slice (some ⟨g',0,none⟩) (A.length + 1) cap')=some k→v.ownBlock=some k∨w.heap.size≤k:=fun k hk=>by
  have:g'=k:=by simpa [Value.ownBlock] using hk
  subst this
  rcases hat with e | e
  ·exact .inl e
  ·exact .inr (by rw [e]; exact hb.size)
 refine ⟨?_,dL,fun k hk=> ?_⟩
 ·refine {blk:= ?_,row:= ?_,rs:= ?_,re:= ?_,d1:= ?_,d2:= ?_,d3:=h.d3,sz:=Nat.le_trans h.sz dL.size,dat:=h.dat.below hbel,lK:= ?_,fo:=h.fo,go:=h.go}
  ·exact dN ((hlow _ (Array.getElem?_eq_some_iff.1 h.blk).1 (h.Bl (by simp))).trans h.blk) _
  ·rw [List.length_append,tY]
   refine hput.kept hgz (.inr ?_)
   simp [Value.ownBlock]; omega
  ·exact jA h.rs (fun k hk=>hl2 k (h.rs.lt k hk).2 (by have:=(h.rs.lt k hk).1; omega) (fun e=>h.d1 k e hk))
  ·exact jA h.re (fun k hk=>hl2 k (h.re.lt k hk).2 (by have:=(h.re.lt k hk).1; omega) (fun e=>h.d2 k e hk))
  ·intro k hk e
   rcases hnew k hk with e' | e'
   ·exact h.d1 k e' e
   ·have:=(h.rs.lt k e).2; omega
  ·intro k hk e
   rcases hnew k hk with e' | e'
   ·exact h.d2 k e' e
   ·have:=(h.re.lt k e).2; omega
  ·intro y hy
   rcases List.mem_append.1 hy with hy | hy
   ·exact (h.lK y hy).below hbel
   ·obtain rfl:=List.mem_singleton.1 hy; exact hx.below hbel
 ·rcases oo.1 hk with e | e | e
  ·rcases hnew k e with e' | e'
   ·exact .inl (oo.2 (.inl e'))
   ·exact .inr e'
  ·exact .inl (oo.2 (.inr (.inl e)))
  ·exact .inl (oo.2 (.inr (.inr e)))
theorem jc.pop {wz:World} {g' cap':Nat} (x:Fr) (h:jc w L p aC aF aA av i (A++[x]) fs gs (.slice (some ⟨g',0,none⟩) (A.length + 1) cap') vs ve) (hb:Below w.heap.size w wz):
 jc (wz.setCell ⟨L.bc,3,none⟩ (.slice (some ⟨g',0,none⟩) A.length cap')) L p aC aF aA av i A fs gs (.slice (some ⟨g',0,none⟩) A.length cap') vs ve∧
 Kw L [.slice (some ⟨g',0,none⟩) (A.length + 1) cap',vs,ve] w (wz.setCell ⟨L.bc,3,none⟩ (.slice (some ⟨g',0,none⟩) A.length cap')):=by
 have hI:=h.below hb
 have hc1:=L.c1
 have hgz:=dY wz ⟨L.bc,3,none⟩ (.slice (some ⟨g',0,none⟩) A.length cap')
 have hkp:Kw L [.slice (some ⟨g',0,none⟩) (A.length + 1) cap',vs,ve] w (wz.setCell ⟨L.bc,3,none⟩ (.slice (some ⟨g',0,none⟩) A.length cap')):=
  ⟨hgz.os.trans hb.os,hgz.tape.trans hb.tape,hgz.output.trans hb.output,Nat.le_trans hb.size hgz.size,fun k hk hc _=>(hgz.block k (Nat.lt_of_lt_of_le hk hb.size) (by simp; exact hc)).trans (hb.block k hk)⟩
 have hbel:Below L.B0 wz (wz.setCell ⟨L.bc,3,none⟩ (.slice (some ⟨g',0,none⟩) A.length cap')):=fC hgz L.c0 hI.b0
 have hrow:=hI.row
 rw [List.length_append,tY] at hrow
 have hg1:=(hrow.lt g' rfl).1
 have wF: ∀k,L.B1≤k→(wz.setCell ⟨L.bc,3,none⟩ (.slice (some ⟨g',0,none⟩) A.length cap')).heap[k]? =wz.heap[k]?:=fun k hk=>aO wz _ _ rfl (by show L.bc≠k; omega)
 refine ⟨{blk:=dN hI.blk _,row:=(Bp hrow (vV A)).kept hgz (.inr (by simp [Value.ownBlock]; omega)),rs:=jA hI.rs (fun k hk=>wF k (hI.rs.lt k hk).1),re:=jA hI.re (fun k hk=>wF k (hI.re.lt k hk).1),d1:=fun k hk=>h.d1 k hk,d2:=fun k hk=>h.d2 k hk,d3:=h.d3,sz:=Nat.le_trans hI.sz hgz.size,dat:=hI.dat.below hbel,lK:=fun y hy=>(hI.lK y (by simp [hy])).below hbel,fo:=h.fo,go:=h.go},hkp⟩
theorem Dx (l:List ByteArray) (s:ByteArray):vw (l++[s])=vw l++[.string s]:=by simp [vw]
theorem jc.RN {wz w4:World} {g' cap':Nat} {nm:ByteArray} (h:jc w L p aC aF aA av i A fs gs v vs ve) (hn:nm.size≤maxLen) (hb:Below w.heap.size w wz) (hown:w4.ownsRow L.B1 9 1 (.slice (some ⟨g',0,none⟩) (fs.length + 1) cap') (fs.length + 1) (vw fs++[.string nm])) (hgr:wz.grownBy w4 vs.ownBlock) (hat:vs.ownBlock=some g'∨g'=wz.heap.size):
 jc (w4.setCell ⟨L.bc,4,none⟩ (.slice (some ⟨g',0,none⟩) (fs.length + 1) cap')) L p aC aF aA av i A (fs++[nm]) gs v (.slice (some ⟨g',0,none⟩) (fs.length + 1) cap') ve∧
 Kw L [v,vs,ve] w (w4.setCell ⟨L.bc,4,none⟩ (.slice (some ⟨g',0,none⟩) (fs.length + 1) cap'))∧jF w [v,vs,ve] [v,.slice (some ⟨g',0,none⟩) (fs.length + 1) cap',ve]:=by
 have hg1:=(hown.lt g' rfl).1
 have hc1:=L.c1
 obtain ⟨hlow,hl2,dL⟩:=h.Kj (u:=vs) (x:= .slice (some ⟨g',0,none⟩) (fs.length + 1) cap') (j:=4) (by simp) hb hgr hat (Bd w4)
 have hgz:=dY w4 ⟨L.bc,4,none⟩ (.slice (some ⟨g',0,none⟩) (fs.length + 1) cap')
 have hbel:=dL.below h.b0 (fun k e=>(h.own k e).1)
 have hnew: ∀k,Value.ownBlock (.slice (some ⟨g',0,none⟩) (fs.length + 1) cap')=some k→vs.ownBlock=some k∨w.heap.size≤k:=fun k hk=>by
  have:g'=k:=by simpa [Value.ownBlock] using hk
  subst this
  rcases hat with e | e
  ·exact .inl e
  ·exact .inr (by rw [e]; exact hb.size)
 refine ⟨?_,dL,fun k hk=> ?_⟩
 ·refine {blk:= ?_,row:= ?_,rs:= ?_,re:= ?_,d1:= ?_,d2:=h.d2,d3:= ?_,sz:=Nat.le_trans h.sz dL.size,dat:=h.dat.below hbel,lK:=fun y hy=>(h.lK y hy).below hbel,fo:= ?_,go:=h.go}
  ·exact dN ((hlow _ (Array.getElem?_eq_some_iff.1 h.blk).1 (h.Bl (by simp))).trans h.blk) _
  ·exact jA h.row (fun k hk=>hl2 k (h.row.lt k hk).2 (by have:=(h.row.lt k hk).1; omega) (fun e=>h.d1 k hk e))
  ·rw [List.length_append,Dx]
   refine hown.kept hgz (.inr ?_)
   simp [Value.ownBlock]; omega
  ·exact jA h.re (fun k hk=>hl2 k (h.re.lt k hk).2 (by have:=(h.re.lt k hk).1; omega) (fun e=>h.d3 k e hk))
  ·intro k hk e
   rcases hnew k e with e' | e'
   ·exact h.d1 k hk e'
   ·have:=(h.row.lt k hk).2; omega
  ·intro k hk e
   rcases hnew k hk with e' | e'
   ·exact h.d3 k e' e
   ·have:=(h.re.lt k e).2; omega
  ·intro y hy
   rcases List.mem_append.1 hy with hy | hy
   ·exact h.fo y hy
   ·obtain rfl:=List.mem_singleton.1 hy; exact hn
 ·rcases oo.1 hk with e | e | e
  ·exact .inl (oo.2 (.inl e))
  ·rcases hnew k e with e' | e'
   ·exact .inl (oo.2 (.inr (.inl e')))
   ·exact .inr e'
  ·exact .inl (oo.2 (.inr (.inr e)))
theorem jc.Tx {wz w4:World} {g' cap':Nat} {nm:ByteArray} (h:jc w L p aC aF aA av i A fs gs v vs ve) (hn:nm.size≤maxLen) (hb:Below w.heap.size w wz) (hown:w4.ownsRow L.B1 9 1 (.slice (some ⟨g',0,none⟩) (gs.length + 1) cap') (gs.length + 1) (vw gs++[.string nm])) (hgr:wz.grownBy w4 ve.ownBlock) (hat:ve.ownBlock=some g'∨g'=wz.heap.size):
 jc (w4.setCell ⟨L.bc,5,none⟩ (.slice (some ⟨g',0,none⟩) (gs.length + 1) cap')) L p aC aF aA av i A fs (gs++[nm]) v vs (.slice (some ⟨g',0,none⟩) (gs.length + 1) cap')∧
 Kw L [v,vs,ve] w (w4.setCell ⟨L.bc,5,none⟩ (.slice (some ⟨g',0,none⟩) (gs.length + 1) cap'))∧jF w [v,vs,ve] [v,vs,.slice (some ⟨g',0,none⟩) (gs.length + 1) cap']:=by
 have hg1:=(hown.lt g' rfl).1
 have hc1:=L.c1
 obtain ⟨hlow,hl2,dL⟩:=h.Kj (u:=ve) (x:= .slice (some ⟨g',0,none⟩) (gs.length + 1) cap') (j:=5) (by simp) hb hgr hat (Bd w4)
 have hgz:=dY w4 ⟨L.bc,5,none⟩ (.slice (some ⟨g',0,none⟩) (gs.length + 1) cap')
 have hbel:=dL.below h.b0 (fun k e=>(h.own k e).1)
 have hnew: ∀k,Value.ownBlock (.slice (some ⟨g',0,none⟩) (gs.length + 1) cap')=some k→ve.ownBlock=some k∨w.heap.size≤k:=fun k hk=>by
  have:g'=k:=by simpa [Value.ownBlock] using hk
  subst this
  rcases hat with e | e
  ·exact .inl e
  ·exact .inr (by rw [e]; exact hb.size)
 refine ⟨?_,dL,fun k hk=> ?_⟩
 ·refine {blk:= ?_,row:= ?_,rs:= ?_,re:= ?_,d1:=h.d1,d2:= ?_,d3:= ?_,sz:=Nat.le_trans h.sz dL.size,dat:=h.dat.below hbel,lK:=fun y hy=>(h.lK y hy).below hbel,fo:=h.fo,go:= ?_}
  ·exact dN ((hlow _ (Array.getElem?_eq_some_iff.1 h.blk).1 (h.Bl (by simp))).trans h.blk) _
  ·exact jA h.row (fun k hk=>hl2 k (h.row.lt k hk).2 (by have:=(h.row.lt k hk).1; omega) (fun e=>h.d2 k hk e))
  ·exact jA h.rs (fun k hk=>hl2 k (h.rs.lt k hk).2 (by have:=(h.rs.lt k hk).1; omega) (fun e=>h.d3 k hk e))
  ·rw [List.length_append,Dx]
   refine hown.kept hgz (.inr ?_)
   simp [Value.ownBlock]; omega
  ·intro k hk e
   rcases hnew k e with e' | e'
   ·exact h.d2 k hk e'
   ·have:=(h.row.lt k hk).2; omega
  ·intro k hk e
   rcases hnew k e with e' | e'
   ·exact h.d3 k hk e'
   ·have:=(h.rs.lt k hk).2; omega
  ·intro y hy
   rcases List.mem_append.1 hy with hy | hy
   ·exact h.go y hy
   ·obtain rfl:=List.mem_singleton.1 hy; exact hn
 ·rcases oo.1 hk with e | e | e
  ·exact .inl (oo.2 (.inl e))
  ·exact .inl (oo.2 (.inr (.inl e)))
  ·rcases hnew k e with e' | e'
   ·exact .inl (oo.2 (.inr (.inr e')))
   ·exact .inr e'
theorem jc.Kh {i':Int} (h:jc w L p aC aF aA av i A fs gs v vs ve):jc (w.setCell ⟨L.bc,2,none⟩ (.int .i64 i')) L p aC aF aA av i' A fs gs v vs ve:=by
 have hg:=dY w ⟨L.bc,2,none⟩ (.int .i64 i')
 have hbel:=fC hg L.c0 h.b0
 have hc1:=L.c1
 have wF: ∀k,L.B1≤k→(w.setCell ⟨L.bc,2,none⟩ (.int .i64 i')).heap[k]? =w.heap[k]?:=fun k hk=>aO w _ _ rfl (by show L.bc≠k; omega)
 exact {blk:=by rw [dN h.blk]; rfl,row:=jA h.row (fun k hk=>wF k (h.row.lt k hk).1),rs:=jA h.rs (fun k hk=>wF k (h.rs.lt k hk).1),re:=jA h.re (fun k hk=>wF k (h.re.lt k hk).1),d1:=h.d1,d2:=h.d2,d3:=h.d3,sz:=Nat.le_trans h.sz hg.size,dat:=h.dat.below hbel,lK:=fun x hx=>(h.lK x hx).below hbel,fo:=h.fo,go:=h.go}
end
end Go.Proofs.YtnknfoibmgphnaaDoor
end
section
namespace Go.Proofs.YtnknfoibmgphnaaDoor
open Go.RowKit
def C3 (W1 W2 W3 W4:World):List Bool→World→Prop
 | [false,false,false],w=>w=W1
 | [true,false,false],w=>w=W2
 | [true,true,false],w=>w=W3
 | [true,true,true],w=>w=W4
 | _,_=>False
section
variable {W1 W2 W3 W4:World} {a1 a2 a3 i:Nat} {c:List Bool} {w':World}
theorem C3.bits: ∀ {c:List Bool} {w':World},C3 W1 W2 W3 W4 c w'→ ∃x y z,c=[x,y,z]
 | [x,y,z],_,_=>⟨x,y,z,rfl⟩
 | [],_,h=>h.elim
 | [_],_,h=>by simp [C3] at h
 | [_,_],_,h=>by simp [C3] at h
 | _ ::_ ::_ ::_ ::_,_,h=>by simp [C3] at h
theorem C3.skip (h1:(a1 == i)=false) (h2:(a2 == i)=false) (h3:(a3 == i)=false) (h:C3 W1 W2 W3 W4 c w'):C3 W1 W2 W3 W4 (kM [a1,a2,a3] c i) w':=by
 obtain ⟨x,y,z,rfl⟩:=h.bits
 simpa [kM,h1,h2,h3] using h
theorem C3.one (h1:(a1 == i)=true) (h2:(a2 == i)=false) (h3:(a3 == i)=false):C3 W1 W2 W3 W4 (kM [a1,a2,a3] [false,false,false] i) W2:=by
 simp only [kM,h1,h2,h3,Bool.or_false,Bool.or_true]; rfl
theorem C3.two (h1:(a1 == i)=false) (h2:(a2 == i)=true) (h3:(a3 == i)=false):C3 W1 W2 W3 W4 (kM [a1,a2,a3] [true,false,false] i) W3:=by
 simp only [kM,h1,h2,h3,Bool.or_false,Bool.or_true]; rfl
theorem C3.three (h1:(a1 == i)=false) (h2:(a2 == i)=false) (h3:(a3 == i)=true):C3 W1 W2 W3 W4 (kM [a1,a2,a3] [true,true,false] i) W4:=by
 simp only [kM,h1,h2,h3,Bool.or_false,Bool.or_true]; rfl
theorem C3.low {p1:Option Bool} {W:World} (hb1:Below W.heap.size W W1) (hb2:Below W.heap.size W W2) (hok:okB [p1,some false,some false] c) (h:C3 W1 W2 W3 W4 c w'):Below W.heap.size W w':=by
 obtain ⟨x,y,z,rfl⟩:=h.bits
 have:y=false∧z=false:=by
  cases p1 with
  | none=>exact ⟨hok.1,hok.2.1⟩
  | some b=>exact ⟨hok.2.1,hok.2.2.1⟩
 obtain ⟨rfl,rfl⟩:=this
 cases x
 ·have h:w'=W1:=h
  rw [h]; exact hb1
 ·have h:w'=W2:=h
  rw [h]; exact hb2
theorem C3.w1 (hok:okB [some false,some false,some false] c) (h:C3 W1 W2 W3 W4 c w'):c=[false,false,false]∧w'=W1:=by
 obtain ⟨x,y,z,rfl⟩:=h.bits
 obtain ⟨rfl,rfl,rfl,-⟩:=hok
 exact ⟨rfl,h⟩
theorem C3.w2 (hok:okB [some true,some false,some false] c) (h:C3 W1 W2 W3 W4 c w'):c=[true,false,false]∧w'=W2:=by
 obtain ⟨x,y,z,rfl⟩:=h.bits
 obtain ⟨rfl,rfl,rfl,-⟩:=hok
 exact ⟨rfl,h⟩
theorem C3.w3 (hok:okB [some true,some true,some false] c) (h:C3 W1 W2 W3 W4 c w'):c=[true,true,false]∧w'=W3:=by
 obtain ⟨x,y,z,rfl⟩:=h.bits
 obtain ⟨rfl,rfl,rfl,-⟩:=hok
 exact ⟨rfl,h⟩
theorem C3.b1 (hok:okB [some false,some false,some false] c) (h:C3 W1 W2 W3 W4 c w'):c=[false,false,false]∧w'=W1:=C3.w1 hok h
end
theorem wp_append_run {P:Program} {w w':World} {o:Oper} {a:Act} {K:Act→World→Prop} {Q:Exit→Act→World→Prop} (s x:Operand) (t:TypeId) (v u r:Value)
 (ho:o.op= .call {callee:= .builtin .append,args:= #[s,x],argTypes:= #[t,t]}) (hs:a.eval s=v) (hx:a.eval x=u)
 (hr:(Builtin.append_ #[t,t] o.type #[v,u]).run P w= .ok r w') (h:K (a.put o.dst r) w'):o.wp P a w K Q:=by
 unfold Oper.wp execOp
 simp only [ho,resolve,invoke,builtin,Sem.run_bind,Sem.run_pure,Result.andThen_ok,List.map_toArray,List.map_cons,List.map_nil,hs,hx,hr]
 exact h
end Go.Proofs.YtnknfoibmgphnaaDoor
end
