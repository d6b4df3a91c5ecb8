/-
  Contracts of the look-ups of the code generators: the place of a name among cells, locks, conditions, texts.
  Contract of the generator's value.
  Contract of the generator's assignment.
  Contracts of the generator's around, loop and conditional, given that of list.
  Contracts of the generator's loop, given that of list.
  Contract of the generator's conditional, given that of list.
  Contracts of the generator's statement and list.
  Parts of the contract of the generator's statement.
  Parts of the contract of the generator's statement.
  Parts of the contract of the generator's statement.
  Parts of the contract of the generator's statement.
  Parts of the contract of the generator's statement.
  Parts of the contract of the generator's statement.
  Parts of the contract of the generator's statement.
  Parts of the contract of the generator's statement.
  Parts of the contract of the generator's statement.
  Parts of the contract of the generator's statement.
  Parts of the contract of the generator's statement.
  Contracts of the generator's statement and list.
-/
import Derived.Test.YtdajkddgnfgijaaGreatDoorGCA
import Derived.Test.YtdajkddgnfgijaaGreatDoorGMdRefE
import Derived.Test.YtdajkddgnfgijaaGreatDoorGMB
import Derived.IntWalk
import Derived.StillTailTactics
section
set_option linter.unusedSimpArgs false
set_option linter.unusedVariables false
namespace Go.Proofs.YtdajkddgnfgijaaGreatDoor
open Go.RowKit
open Md
theorem qC (l:List ByteArray) (nm:ByteArray) (w:World) (ao:Option Addr) (cap:Nat) (hl:l.length≤maxLen) (hw:gB w w.heap.size l ao 0):
 Calls Tryz.prog 116 #[.slice ao l.length cap,.string nm] w fun e w'=>e= .returned (.int .i64 (fV l nm))∧w=w':=by
 unfold maxLen at hl
 go_enter Tryz.func116,Tryz.ntmps116
 go_wp2_with fail
 go_loop [8] (fun s=> ∃(k:Nat) (R:List ByteArray),s= .int .i64 k∧k + R.length=l.length∧fV l nm=qp R nm k∧gB w w.heap.size R ao k) (fun s=>l.length - (intOf s).toNat)
 case atStart=>exact ⟨0,l,rfl,by simp,rfl,hw⟩
 case round=>
  obtain ⟨k,R,rfl,hlen,heq,hrow⟩:=hrel
  have HE:=Lib.hid heq
  clear heq
  cases R with
  | nil=>
    obtain rfl:k=l.length:=by simpa using hlen
    go_wp2_with fail
    go_ret
    exact ⟨bG HE.out.symm,rfl⟩
  | cons s R=>
    obtain ⟨⟨b,off,rfl,hB,y0,hs⟩,hrest⟩:=hrow
    simp only [List.length_cons] at hlen
    have hkl:k < l.length:=by omega
    cases hc:(s.toList == nm.toList)
    ·have eF:=Lib.hid (HE.out.trans (if_neg (show ¬ (s.toList == nm.toList)=true by rw [hc]; decide)))
     have hc':(nm.toList == s.toList)=false:=by rw [← hc]; exact BEq.comm
     go_wp2_with fail
     go_round
     case rel=>exact ⟨k + 1,R,by go_num,by omega,by simpa using eF.out,hrest⟩
     case measure=>simp [intOf]; omega
    ·have eF:=Lib.hid (HE.out.trans (if_pos hc))
     have hc':(nm.toList == s.toList)=true:=by rw [← hc]; exact BEq.comm
     go_wp2_with fail
     go_ret
     exact ⟨bG eF.out.symm,rfl⟩
theorem MH (x:AX) (nm:ByteArray) (B:Nat) (w:World) (hB:B < w.heap.size) (hc:w.cell? ⟨B,0,none⟩=some (.string nm)):
 Calls Tryz.prog 187 #[.agg #[.string x.nm,.int .i64 x.ix,.int .i64 x.sz,.bool x.Yz,.int .i64 x.init],.pointer (some ⟨B,0,none⟩)] w fun e w'=>e= .returned (.bool (x.nm.toList == nm.toList))∧Below w.heap.size w w':=by
 have hne:B≠w.heap.size:=by omega
 go_enter Tryz.func187,Tryz.ntmps187
 go_wp2
 all_goals (go_ret; exact ⟨by first | rfl | simp_all,aj _ _⟩)
theorem Mf (l:List AX) (nm:ByteArray) (B:Nat) (w:World) (ao:Option Addr) (cap:Nat) (hl:l.length≤maxLen) (hw:fT kR 5 w w.heap.size l ao 0) (hB:B < w.heap.size) (hc:w.cell? ⟨B,0,none⟩=some (.string nm)):
 Calls Tryz.prog 186 #[.slice ao l.length cap,.func (.func 187) #[] #[.pointer (some ⟨B,0,none⟩)]] w fun e w'=>e= .returned (.int .i64 (fV (l.map (·.nm)) nm))∧Below w.heap.size w w':=by
 unfold maxLen at hl
 have HW:=Lib.hid hw
 have HC:=Lib.hid hc
 have HB:=Lib.hid hB
 clear hw hc hB
 go_enter Tryz.func186,Tryz.ntmps186
 go_wp2_with fail
 go_loopw [8] (fun s wr=> ∃(k:Nat) (R:List AX),s= .int .i64 k∧k + R.length=l.length∧fV (l.map (·.nm)) nm=qp (R.map (·.nm)) nm k∧fT kR 5 wr wr.heap.size R ao k∧Below w.heap.size w wr) (fun s _=>l.length - (intOf s).toNat)
 case atStart=>exact ⟨0,l,rfl,by simp,rfl,HW.out,Below.refl _ _⟩
 case round=>
  obtain ⟨k,R,rfl,hlen,heq,hrow,hbel⟩:=hrel
  have HE:=Lib.hid heq
  have kV:=Lib.hid hbel
  clear heq hbel
  cases R with
  | nil=>
    obtain rfl:k=l.length:=by simpa using hlen
    go_wp2_with fail
    go_ret
    exact ⟨bG HE.out.symm,kV.out⟩
  | cons x R=>
    obtain ⟨⟨b,off,rfl,mF,hcs⟩,hrest⟩:=hrow
    have jc:=Lib.hid hrest
    have z0:=hcs 0 _ rfl
    have z1:=hcs 1 _ rfl
    have z2:=hcs 2 _ rfl
    have z3:=hcs 3 _ rfl
    have z4:=hcs 4 _ rfl
    simp only [Nat.add_zero] at z0
    simp only [List.length_cons] at hlen
    have hkl:k < l.length:=by omega
    have Dk:Hid (B < wr.heap.size∧wr.cell? ⟨B,0,none⟩=some (.string nm)):=Lib.hid ⟨Nat.lt_of_lt_of_le HB.out kV.out.size,(kV.out.cell (p:=⟨B,0,none⟩) HB.out).trans HC.out⟩
    clear hcs hrest
    go_wp2_with fail
    refine (MH x nm B wr Dk.out.1 Dk.out.2).mono ?_
    rintro e w3 ⟨rfl,hb3⟩
    have HB3:=Lib.hid (kV.out.trans (hb3.mono kV.out.size))
    have HR3:=Lib.hid (jc.out.same hb3)
    clear hb3 z0 z1 z2 z3 z4
    cases hc:(x.nm.toList == nm.toList)
    ·have eF:=Lib.hid (HE.out.trans (if_neg (show ¬ (x.nm.toList == nm.toList)=true by rw [hc]; decide)))
     go_wp2_with fail
     go_roundw
     case rel=>exact ⟨k + 1,R,by go_num,by omega,by simpa using eF.out,HR3.out,HB3.out⟩
     case measure=>simp [intOf]; omega
    ·have eF:=Lib.hid (HE.out.trans (if_pos hc))
     go_wp2_with fail
     go_ret
     exact ⟨bG eF.out.symm,HB3.out⟩
theorem xk {T:TypeId} {w:World} {L:GL} {W:Wo} {s:iE} {lc:List ByteArray} {al:Option Addr} {cl:Nat} {v:Value} {code:List bS} {a b:Int} (h:dX T w L W s lc al cl v code a b) (nm:ByteArray):
 Calls Tryz.prog 152 #[.pointer (some ⟨L.gb,0,none⟩),.string nm] w fun e w'=>e= .returned (.int .i64 (W.cell nm))∧Below w.heap.size w w':=by
 obtain ⟨hlt,c0,c1,c2,-,-,-,-,-,-,-,-⟩:=h.cells
 have HI:=Lib.hid h
 clear h
 unfold Wo.cell
 go_enter Tryz.func152,Tryz.ntmps152
 go_upto_region 1 with fail
 generalize hW:World.alloc w _=W1
 have HB:Hid (Below w.heap.size w W1):=Lib.hid (by rw [← hW]; exact aj _ _)
 have HN:Hid (w.heap.size < W1.heap.size∧W1.cell? ⟨w.heap.size,0,none⟩=some (.string nm)):=Lib.hid (by rw [← hW]; exact ⟨by simp,aB (heap_alloc_new _ _) rfl⟩)
 have HI1:=Lib.hid (HI.out.below HB.out)
 clear hW hlt c0 c1 c2
 obtain ⟨hlt,c0,c1,c2,-,-,-,-,-,-,-,-⟩:=HI1.out.cells
 go_wp2_with fail
 refine (Mf W.cs nm w.heap.size W1 s.aC s.cC HI1.out.wo.lc (HI1.out.wo.cs.mono HI1.out.b0) HN.out.1 HN.out.2).mono ?_
 rintro e w3 ⟨rfl,hb3⟩
 have HB3:=Lib.hid (HB.out.trans (hb3.mono HB.out.size))
 clear hb3 c0 c1 c2
 go_wp2_with fail
 go_ret
 exact ⟨rfl,HB3.out⟩
theorem O5 (x:yJ) (nm:ByteArray) (B:Nat) (w:World) (hB:B < w.heap.size) (hc:w.cell? ⟨B,0,none⟩=some (.string nm)):
 Calls Tryz.prog 154 #[.agg #[.string x.nm,.bool x.rw],.pointer (some ⟨B,0,none⟩)] w fun e w'=>e= .returned (.bool (x.nm.toList == nm.toList))∧Below w.heap.size w w':=by
 have hne:B≠w.heap.size:=by omega
 go_enter Tryz.func154,Tryz.ntmps154
 go_wp2
 all_goals (go_ret; exact ⟨by first | rfl | simp_all,aj _ _⟩)
theorem M8 (l:List yJ) (nm:ByteArray) (B:Nat) (w:World) (ao:Option Addr) (cap:Nat) (hl:l.length≤maxLen) (hw:fT mQ 2 w w.heap.size l ao 0) (hB:B < w.heap.size) (hc:w.cell? ⟨B,0,none⟩=some (.string nm)):
 Calls Tryz.prog 153 #[.slice ao l.length cap,.func (.func 154) #[] #[.pointer (some ⟨B,0,none⟩)]] w fun e w'=>e= .returned (.int .i64 (fV (l.map (·.nm)) nm))∧Below w.heap.size w w':=by
 unfold maxLen at hl
 have HW:=Lib.hid hw
 have HC:=Lib.hid hc
 have HB:=Lib.hid hB
 clear hw hc hB
 go_enter Tryz.func153,Tryz.ntmps153
 go_wp2_with fail
 go_loopw [8] (fun s wr=> ∃(k:Nat) (R:List yJ),s= .int .i64 k∧k + R.length=l.length∧fV (l.map (·.nm)) nm=qp (R.map (·.nm)) nm k∧fT mQ 2 wr wr.heap.size R ao k∧Below w.heap.size w wr) (fun s _=>l.length - (intOf s).toNat)
 case atStart=>exact ⟨0,l,rfl,by simp,rfl,HW.out,Below.refl _ _⟩
 case round=>
  obtain ⟨k,R,rfl,hlen,heq,hrow,hbel⟩:=hrel
  have HE:=Lib.hid heq
  have kV:=Lib.hid hbel
  clear heq hbel
  cases R with
  | nil=>
    obtain rfl:k=l.length:=by simpa using hlen
    go_wp2_with fail
    go_ret
    exact ⟨bG HE.out.symm,kV.out⟩
  | cons x R=>
    obtain ⟨⟨b,off,rfl,mF,hcs⟩,hrest⟩:=hrow
    have jc:=Lib.hid hrest
    have z0:=hcs 0 _ rfl
    have z1:=hcs 1 _ rfl
    simp only [Nat.add_zero] at z0
    simp only [List.length_cons] at hlen
    have hkl:k < l.length:=by omega
    have Dk:Hid (B < wr.heap.size∧wr.cell? ⟨B,0,none⟩=some (.string nm)):=Lib.hid ⟨Nat.lt_of_lt_of_le HB.out kV.out.size,(kV.out.cell (p:=⟨B,0,none⟩) HB.out).trans HC.out⟩
    clear hcs hrest
    go_wp2_with fail
    refine (O5 x nm B wr Dk.out.1 Dk.out.2).mono ?_
    rintro e w3 ⟨rfl,hb3⟩
    have HB3:=Lib.hid (kV.out.trans (hb3.mono kV.out.size))
    have HR3:=Lib.hid (jc.out.same hb3)
    clear hb3 z0 z1
    cases hc:(x.nm.toList == nm.toList)
    ·have eF:=Lib.hid (HE.out.trans (if_neg (show ¬ (x.nm.toList == nm.toList)=true by rw [hc]; decide)))
     go_wp2_with fail
     go_roundw
     case rel=>exact ⟨k + 1,R,by go_num,by omega,by simpa using eF.out,HR3.out,HB3.out⟩
     case measure=>simp [intOf]; omega
    ·have eF:=Lib.hid (HE.out.trans (if_pos hc))
     go_wp2_with fail
     go_ret
     exact ⟨bG eF.out.symm,HB3.out⟩
theorem Af {T:TypeId} {w:World} {L:GL} {W:Wo} {s:iE} {lc:List ByteArray} {al:Option Addr} {cl:Nat} {v:Value} {code:List bS} {a b:Int} (h:dX T w L W s lc al cl v code a b) (nm:ByteArray):
 Calls Tryz.prog 111 #[.pointer (some ⟨L.gb,0,none⟩),.string nm] w fun e w'=>e= .returned (.int .i64 (W.lock nm))∧Below w.heap.size w w':=by
 obtain ⟨hlt,c0,c1,c2,-,-,-,-,-,-,-,-⟩:=h.cells
 have HI:=Lib.hid h
 clear h
 unfold Wo.lock
 go_enter Tryz.func111,Tryz.ntmps111
 go_upto_region 1 with fail
 generalize hW:World.alloc w _=W1
 have HB:Hid (Below w.heap.size w W1):=Lib.hid (by rw [← hW]; exact aj _ _)
 have HN:Hid (w.heap.size < W1.heap.size∧W1.cell? ⟨w.heap.size,0,none⟩=some (.string nm)):=Lib.hid (by rw [← hW]; exact ⟨by simp,aB (heap_alloc_new _ _) rfl⟩)
 have HI1:=Lib.hid (HI.out.below HB.out)
 clear hW hlt c0 c1 c2
 obtain ⟨hlt,c0,c1,c2,-,-,-,-,-,-,-,-⟩:=HI1.out.cells
 go_wp2_with fail
 refine (M8 W.ls nm w.heap.size W1 s.aL s.cL HI1.out.wo.ll (HI1.out.wo.ls.mono HI1.out.b0) HN.out.1 HN.out.2).mono ?_
 rintro e w3 ⟨rfl,hb3⟩
 have HB3:=Lib.hid (HB.out.trans (hb3.mono HB.out.size))
 clear hb3 c0 c1 c2
 go_wp2_with fail
 go_ret
 exact ⟨rfl,HB3.out⟩
theorem O4 (x:BZ) (nm:ByteArray) (B:Nat) (w:World) (hB:B < w.heap.size) (hc:w.cell? ⟨B,0,none⟩=some (.string nm)):
 Calls Tryz.prog 156 #[.agg #[.string x.nm,.int .i64 x.mx],.pointer (some ⟨B,0,none⟩)] w fun e w'=>e= .returned (.bool (x.nm.toList == nm.toList))∧Below w.heap.size w w':=by
 have hne:B≠w.heap.size:=by omega
 go_enter Tryz.func156,Tryz.ntmps156
 go_wp2
 all_goals (go_ret; exact ⟨by first | rfl | simp_all,aj _ _⟩)
theorem Lx (l:List BZ) (nm:ByteArray) (B:Nat) (w:World) (ao:Option Addr) (cap:Nat) (hl:l.length≤maxLen) (hw:fT sP 2 w w.heap.size l ao 0) (hB:B < w.heap.size) (hc:w.cell? ⟨B,0,none⟩=some (.string nm)):
 Calls Tryz.prog 155 #[.slice ao l.length cap,.func (.func 156) #[] #[.pointer (some ⟨B,0,none⟩)]] w fun e w'=>e= .returned (.int .i64 (fV (l.map (·.nm)) nm))∧Below w.heap.size w w':=by
 unfold maxLen at hl
 have HW:=Lib.hid hw
 have HC:=Lib.hid hc
 have HB:=Lib.hid hB
 clear hw hc hB
 go_enter Tryz.func155,Tryz.ntmps155
 go_wp2_with fail
 go_loopw [8] (fun s wr=> ∃(k:Nat) (R:List BZ),s= .int .i64 k∧k + R.length=l.length∧fV (l.map (·.nm)) nm=qp (R.map (·.nm)) nm k∧fT sP 2 wr wr.heap.size R ao k∧Below w.heap.size w wr) (fun s _=>l.length - (intOf s).toNat)
 case atStart=>exact ⟨0,l,rfl,by simp,rfl,HW.out,Below.refl _ _⟩
 case round=>
  obtain ⟨k,R,rfl,hlen,heq,hrow,hbel⟩:=hrel
  have HE:=Lib.hid heq
  have kV:=Lib.hid hbel
  clear heq hbel
  cases R with
  | nil=>
    obtain rfl:k=l.length:=by simpa using hlen
    go_wp2_with fail
    go_ret
    exact ⟨bG HE.out.symm,kV.out⟩
  | cons x R=>
    obtain ⟨⟨b,off,rfl,mF,hcs⟩,hrest⟩:=hrow
    have jc:=Lib.hid hrest
    have z0:=hcs 0 _ rfl
    have z1:=hcs 1 _ rfl
    simp only [Nat.add_zero] at z0
    simp only [List.length_cons] at hlen
    have hkl:k < l.length:=by omega
    have Dk:Hid (B < wr.heap.size∧wr.cell? ⟨B,0,none⟩=some (.string nm)):=Lib.hid ⟨Nat.lt_of_lt_of_le HB.out kV.out.size,(kV.out.cell (p:=⟨B,0,none⟩) HB.out).trans HC.out⟩
    clear hcs hrest
    go_wp2_with fail
    refine (O4 x nm B wr Dk.out.1 Dk.out.2).mono ?_
    rintro e w3 ⟨rfl,hb3⟩
    have HB3:=Lib.hid (kV.out.trans (hb3.mono kV.out.size))
    have HR3:=Lib.hid (jc.out.same hb3)
    clear hb3 z0 z1
    cases hc:(x.nm.toList == nm.toList)
    ·have eF:=Lib.hid (HE.out.trans (if_neg (show ¬ (x.nm.toList == nm.toList)=true by rw [hc]; decide)))
     go_wp2_with fail
     go_roundw
     case rel=>exact ⟨k + 1,R,by go_num,by omega,by simpa using eF.out,HR3.out,HB3.out⟩
     case measure=>simp [intOf]; omega
    ·have eF:=Lib.hid (HE.out.trans (if_pos hc))
     go_wp2_with fail
     go_ret
     exact ⟨bG eF.out.symm,HB3.out⟩
theorem Bn {T:TypeId} {w:World} {L:GL} {W:Wo} {s:iE} {lc:List ByteArray} {al:Option Addr} {cl:Nat} {v:Value} {code:List bS} {a b:Int} (h:dX T w L W s lc al cl v code a b) (nm:ByteArray):
 Calls Tryz.prog 112 #[.pointer (some ⟨L.gb,0,none⟩),.string nm] w fun e w'=>e= .returned (.int .i64 (W.cond nm))∧Below w.heap.size w w':=by
 obtain ⟨hlt,c0,c1,c2,-,-,-,-,-,-,-,-⟩:=h.cells
 have HI:=Lib.hid h
 clear h
 unfold Wo.cond
 go_enter Tryz.func112,Tryz.ntmps112
 go_upto_region 1 with fail
 generalize hW:World.alloc w _=W1
 have HB:Hid (Below w.heap.size w W1):=Lib.hid (by rw [← hW]; exact aj _ _)
 have HN:Hid (w.heap.size < W1.heap.size∧W1.cell? ⟨w.heap.size,0,none⟩=some (.string nm)):=Lib.hid (by rw [← hW]; exact ⟨by simp,aB (heap_alloc_new _ _) rfl⟩)
 have HI1:=Lib.hid (HI.out.below HB.out)
 clear hW hlt c0 c1 c2
 obtain ⟨hlt,c0,c1,c2,-,-,-,-,-,-,-,-⟩:=HI1.out.cells
 go_wp2_with fail
 refine (Lx W.ns nm w.heap.size W1 s.aN s.cN HI1.out.wo.ln (HI1.out.wo.ns.mono HI1.out.b0) HN.out.1 HN.out.2).mono ?_
 rintro e w3 ⟨rfl,hb3⟩
 have HB3:=Lib.hid (HB.out.trans (hb3.mono HB.out.size))
 clear hb3 c0 c1 c2
 go_wp2_with fail
 go_ret
 exact ⟨rfl,HB3.out⟩
theorem C8 {T:TypeId} {w:World} {L:GL} {W:Wo} {s:iE} {lc:List ByteArray} {al:Option Addr} {cl:Nat} {v:Value} {code:List bS} {a b:Int} (h:dX T w L W s lc al cl v code a b) (nm:ByteArray):
 Calls Tryz.prog 113 #[.pointer (some ⟨L.gb,0,none⟩),.string nm] w fun e w'=>e= .returned (.int .i64 (fV W.ts nm))∧Below w.heap.size w w':=by
 obtain ⟨hlt,c0,c1,c2,c3,c4,c5,-,-,-,-,-⟩:=h.cells
 have HI:=Lib.hid h
 clear h
 go_enter Tryz.func113,Tryz.ntmps113
 go_wp2_with fail
 refine (qC W.ts nm w s.aT s.cT HI.out.wo.lt (HI.out.wo.ts.mono HI.out.b0)).mono ?_
 rintro e w3 ⟨rfl,rfl⟩
 go_wp2_with fail
 go_ret
 exact ⟨rfl,Below.refl _ _⟩
theorem Ca {T:TypeId} {w:World} {L:GL} {W:Wo} {s:iE} {lc:List ByteArray} {al:Option Addr} {cl:Nat} {v:Value} {code:List bS} {a b:Int} (h:dX T w L W s lc al cl v code a b) (nm:ByteArray):
 Calls Tryz.prog 115 #[.pointer (some ⟨L.gb,0,none⟩),.string nm] w fun e w'=>e= .returned (.int .i64 (fV W.fs nm))∧Below w.heap.size w w':=by
 obtain ⟨hlt,c0,c1,c2,c3,c4,c5,-,-,-,-,-⟩:=h.cells
 have HI:=Lib.hid h
 clear h
 go_enter Tryz.func115,Tryz.ntmps115
 go_wp2_with fail
 refine (qC W.fs nm w s.aF s.cF HI.out.wo.lf (HI.out.wo.fs.mono HI.out.b0)).mono ?_
 rintro e w3 ⟨rfl,rfl⟩
 go_wp2_with fail
 go_ret
 exact ⟨rfl,Below.refl _ _⟩
end Go.Proofs.YtdajkddgnfgijaaGreatDoor
end
section
set_option linter.unusedSimpArgs false
set_option linter.unusedVariables false
namespace Go.Proofs.YtdajkddgnfgijaaGreatDoor
open Go.RowKit
open Md
theorem ah {w:World} {b j:Nat} {cs:Array Value} {t:TypeId} {fr:Nat × Nat} {u:Value} (h:w.heap[b]? =some (.cells cs t fr)) (hu:cs[j]? =some u):b < w.heap.size∧w.cell? ⟨b,j,none⟩=some u:=
 ⟨(Array.getElem?_eq_some_iff.1 h).1,aB h hu⟩
def J3 (op n:Int) (nm:ByteArray) (kids:bL):Prop:=
 ∀(w:World) (L:GL) (W:Wo) (s:iE) (lc:List ByteArray) (al:Option Addr) (cl:Nat) (v:Value) (code:List bS) (a b:Int) (ao:Option Addr) (cap:Nat) (d:Int),
  dX 90 w L W s lc al cl v code a b→uK op n nm kids→kids.At w L.B0 ao 0→jl op n nm kids=true→uo W op nm kids=true→0≤d→d + 1 + fD kids≤1000000→code.length + 1 + fD kids≤1000000000000→
  Calls Tryz.prog 114 #[.pointer (some ⟨L.gb,0,none⟩),exV op n nm kids ao cap,.int .i64 d] w fun e w'=>e= .returned (.tuple #[])∧uD 90 w L W s lc al cl v code a b (jX W lc b op n nm kids d) w'
set_option maxHeartbeats 4000000 in
set_option maxRecDepth 100000 in
theorem Jq (op n:Int) (nm:ByteArray) (kids:bL) (ih:kids.All J3):J3 op n nm kids:=by
 intro w L W s lc al cl v code a b ao cap d hI hok hat hs hok2 hd0 hd1 hlen
 have HI:=Lib.hid hI
 have HAT:=Lib.hid hat
 have kE:=Lib.hid ih
 have HKL:=Lib.hid hok.2.2.2
 have HL:=Lib.hid hlen
 have hcs:=Mg hs hok2
 clear hI hat ih hok hs hok2 hlen
 unfold exV
 go_enter Tryz.func114,Tryz.ntmps114
 go_upto_region 1 with fail
 generalize hW:World.alloc w _=w1
 obtain ⟨nb,hnb⟩: ∃n,w.heap.size=n:=⟨_,rfl⟩
 have HB:Hid (Below w.heap.size w w1):=Lib.hid (by rw [← hW]; exact aj _ _)
 have HX:Hid (w1.heap[nb]? =some (.cells #[.int .i64 op,.int .i64 n,.string nm,.slice ao kids.len cap] 129 (0,0))):=Lib.hid (by rw [← hW,← hnb]; exact heap_alloc_new _ _)
 have S0:=Lib.hid (gN.start HI.out HB.out hnb HX.out)
 have oO:=Lib.hid (HI.out.keep (Kg.of_below HB.out))
 have Lh:=Lib.hid (HAT.out.below oO.out)
 rw [hnb]
 clear hW hnb HX HB
 obtain ⟨aZ,q0,q1,q2,q3,q4,q5,q6,-,q8,q9,-⟩:=S0.out.i.cells
 have z0:=(ah S0.out.x (j:=0) rfl).2
 have z1:=(ah S0.out.x (j:=1) rfl).2
 have z2:=(ah S0.out.x (j:=2) rfl).2
 have z3:=(ah S0.out.x (j:=3) rfl).2
 rcases hcs with ⟨rfl,rfl⟩ | ⟨rfl,rfl⟩ | ⟨rfl,hce,o1,n1,m1,k1,rfl,hs1,ho1⟩ | ⟨hop,o1,n1,m1,k1,rfl,hs1,ho1⟩ | ⟨hop1,hop2,o1,n1,m1,k1,o2,n2,m2,k2,rfl,hs1,ho1,hs2,ho2⟩
 ·go_wp2_with fail
  refine (eU (S0.out.i) ⟨1,d,0,0,n,0⟩ (by have:=HL.out; simp only [fD,List.length_append,List.length_nil] at *; omega)).mono ?_
  rintro e w2 ⟨rfl,hem⟩
  obtain ⟨v9,bT⟩:=S0.out.then hem
  have S1:=Lib.hid bT
  clear hem bT
  clear aZ q0 q1 q2 q3 q4 q5 q6 q8 q9 z0 z1 z2 z3
  go_wp2_with fail
  exact bodyPost_end (v:= .tuple #[]) (by simp [results,Tryz.results114,go_sem]) rfl ⟨rfl,S1.out.fin rfl⟩
 ·go_upto_region 8 with fail
  have HSL:Hid (∀nq,Calls Tryz.prog 116 #[.slice al lc.length cl,.string nm] (w1.drewN nq) fun e w'=>e= .returned (.int .i64 (fV lc nm))∧w1.drewN nq=w'):=Lib.hid (fun nq=>by
   have hb:=below_drewN (n:=nq) (Below.refl w1.heap.size w1)
   have:=S0.out.i.below hb
   exact qC lc nm (w1.drewN nq) al cl (by have:=this.few; unfold maxLen; omega) (this.lc.mono this.b0))
  go_quiet ((go_at_call 116; exact sS (HSL.out _)))
  have S1:=Lib.hid (S0.out.below (below_drewN (n:=nq) (Below.refl w1.heap.size w1)))
  clear HSL oO Lh S0
  clear aZ q0 q1 q2 q3 q4 q5 q6 q8 q9 z0 z1 z2 z3
  generalize w1.drewN nq=w2 at *
  obtain ⟨aZ,q0,q1,q2,q3,q4,q5,q6,-,q8,q9,-⟩:=S1.out.i.cells
  have z0:=(ah S1.out.x (j:=0) rfl).2
  have z1:=(ah S1.out.x (j:=1) rfl).2
  have z2:=(ah S1.out.x (j:=2) rfl).2
  have z3:=(ah S1.out.x (j:=3) rfl).2
  have Rk:=Lib.hid (JJ lc nm)
  have HV:Hid (jX W lc b 2 n nm .nil d=[BD W lc 2 n nm d b]):=Lib.hid rfl
  by_cases hk:0≤fV lc nm
  ·have Cg:Hid (jX W lc b 2 n nm .nil d=[⟨2,d,fV lc nm,0,0,b⟩]):=Lib.hid (HV.out.trans (by unfold BD; rw [if_neg (by decide),if_pos (by simpa using hk)]))
   clear HV
   generalize fV lc nm=k at *
   go_wp2_with fail
   refine (eU (S1.out.i) ⟨2,d,k,0,0,0⟩ (by have:=HL.out; simp only [fD,List.length_append,List.length_nil] at *; omega)).mono ?_
   rintro e w3 ⟨rfl,hem⟩
   obtain ⟨v9,bT⟩:=S1.out.then hem
   have S2:=Lib.hid bT
   clear hem bT
   clear aZ q0 q1 q2 q3 q4 q5 q6 q8 q9 z0 z1 z2 z3
   go_wp2_with fail
   refine bodyPost_ret (v:= .tuple #[]) (by simp [results,Tryz.results114,go_sem]) rfl ⟨rfl,S2.out.fin Cg.out.symm⟩
  ·have Cg:Hid (jX W lc b 2 n nm .nil d=[⟨6,d,W.cell nm,0,0,b⟩]):=Lib.hid (HV.out.trans (by unfold BD; rw [if_neg (by decide),if_neg (by simpa using hk)]))
   clear HV
   generalize fV lc nm=k at *
   go_wp2_with fail
   refine (xk S1.out.i nm).mono ?_
   rintro e w3 ⟨rfl,hb3⟩
   have S2:=Lib.hid (S1.out.below hb3)
   clear hb3
   clear aZ q0 q1 q2 q3 q4 q5 q6 q8 q9 z0 z1 z2 z3
   obtain ⟨aZ,q0,q1,q2,q3,q4,q5,q6,-,q8,q9,-⟩:=S2.out.i.cells
   have z0:=(ah S2.out.x (j:=0) rfl).2
   have z1:=(ah S2.out.x (j:=1) rfl).2
   have z2:=(ah S2.out.x (j:=2) rfl).2
   have z3:=(ah S2.out.x (j:=3) rfl).2
   go_wp2_with fail
   refine (eU (S2.out.i) ⟨6,d,W.cell nm,0,0,0⟩ (by have:=HL.out; simp only [fD,List.length_append,List.length_nil] at *; omega)).mono ?_
   rintro e w4 ⟨rfl,hem⟩
   obtain ⟨v9,bT⟩:=S2.out.then hem
   have S3:=Lib.hid bT
   clear hem bT
   clear aZ q0 q1 q2 q3 q4 q5 q6 q8 q9 z0 z1 z2 z3
   go_wp2_with fail
   exact bodyPost_end (v:= .tuple #[]) (by simp [results,Tryz.results114,go_sem]) rfl ⟨rfl,S3.out.fin Cg.out.symm⟩
 ·obtain ⟨⟨bb,off,Il,CW,rfl,mF,x0,x1,x2,x3,hok1,hk1⟩,-⟩:=Lh.out
  simp only [Nat.zero_mul,Nat.add_zero] at x0 x1 x2 x3
  clear z3
  have z3:w1.cell? ⟨nb,3,none⟩=some (.slice (some ⟨bb,off,none⟩) 1 cap):=(ah S0.out.x (j:=3) rfl).2
  have gV:=Lib.hid (And.intro hok1 hk1)
  have xI:Hid (d + 1 + fD (.cons o1 n1 m1 k1 .nil)≤1000000):=Lib.hid hd1
  have Kj:=Lib.hid (jD W lc b o1 n1 m1 k1 d)
  obtain ⟨c,hc1,hc2,hc3,hc4⟩:=Ko hce
  have HC:=Lib.hid (And.intro hc1 (And.intro hc2 hc3))
  have Gx:=Lib.hid (And.intro hce hc4)
  have HV:Hid (jX W lc b 3 n nm (.cons o1 n1 m1 k1 .nil) d=jX W lc b o1 n1 m1 k1 d++[⟨7,d,W.cell nm,d,W.size nm,b⟩]):=Lib.hid (Kz (by omega))
  clear hok1 hk1 hc1 hc2 hc3 hc4 hce
  go_wp2_with fail
  refine (kE.out.1 _ L W s lc al cl _ _ a b Il CW d S0.out.i gV.out.1 gV.out.2 hs1 ho1 (by omega) (by have:=xI.out; simp only [fD] at *; omega) (by have:=HL.out; simp only [fD,List.length_append,List.length_nil] at *; omega)).mono ?_
  rintro e w2 ⟨rfl,hem⟩
  obtain ⟨v9,bT⟩:=S0.out.then hem
  have S1:=Lib.hid bT
  have zP:=Lib.hid (S0.out.i.keep hem.choose_spec.2.1)
  clear hem bT
  clear aZ q0 q1 q2 q3 q4 q5 q6 q8 q9 z0 z1 z2 z3
  clear x0 x1 x2 x3 mF kE HAT
  obtain ⟨aZ,q0,q1,q2,q3,q4,q5,q6,-,q8,q9,-⟩:=S1.out.i.cells
  have z0:=(ah S1.out.x (j:=0) rfl).2
  have z1:=(ah S1.out.x (j:=1) rfl).2
  have z2:=(ah S1.out.x (j:=2) rfl).2
  have z3:=(ah S1.out.x (j:=3) rfl).2
  go_wp2_with fail
  refine (xk S1.out.i nm).mono ?_
  rintro e w3 ⟨rfl,hb3⟩
  have S2:=Lib.hid (S1.out.below hb3)
  clear hb3
  clear aZ q0 q1 q2 q3 q4 q5 q6 q8 q9 z0 z1 z2 z3
  obtain ⟨kn,hkn⟩: ∃kn:Nat,W.cell nm=kn:=⟨(W.cell nm).toNat,by have:=Gx.out.1; omega⟩
  have zX:=Lib.hid hkn
  have hk0:(0:Int)≤(kn:Int):=by omega
  have hk1:(kn:Int) < (W.cs.length:Int):=by have:=Gx.out.2; omega
  have hkt:(W.cell nm).toNat=kn:=by omega
  obtain ⟨b3,ad9,MS,hb3,hcc⟩:=fT.at kn c S2.out.i.wo.cs (by rw [← hkt]; exact HC.out.1)
  have y2:=hcc 2 _ rfl
  obtain ⟨aZ,q0,q1,q2,q3,q4,q5,q6,-,q8,q9,-⟩:=S2.out.i.cells
  have z0:=(ah S2.out.x (j:=0) rfl).2
  have z1:=(ah S2.out.x (j:=1) rfl).2
  have z2:=(ah S2.out.x (j:=2) rfl).2
  have z3:=(ah S2.out.x (j:=3) rfl).2
  rw [MS] at q0
  simp only [Nat.zero_add] at y2
  rw [hkn]
  clear hkn hkt hcc MS hb3
  go_wp2_with fail
  refine (eU (S2.out.i) ⟨7,d,kn,d,c.sz,0⟩ (by have:=HL.out; simp only [fD,List.length_append,List.length_nil] at *; (have:=Kj.out; omega))).mono ?_
  rintro e w4 ⟨rfl,hem⟩
  obtain ⟨v9,bT⟩:=S2.out.then hem
  have S3:=Lib.hid bT
  clear hem bT
  clear aZ q0 q1 q2 q3 q4 q5 q6 q8 q9 z0 z1 z2 z3
  clear y2
  go_wp2_with fail
  exact bodyPost_end (v:= .tuple #[]) (by simp [results,Tryz.results114,go_sem]) rfl ⟨rfl,S3.out.fin (by rw [HV.out,HC.out.2.1,zX.out]; rfl)⟩
 ·obtain ⟨⟨bb,off,Il,CW,rfl,mF,x0,x1,x2,x3,hok1,hk1⟩,-⟩:=Lh.out
  simp only [Nat.zero_mul,Nat.add_zero] at x0 x1 x2 x3
  clear z3
  have z3:w1.cell? ⟨nb,3,none⟩=some (.slice (some ⟨bb,off,none⟩) 1 cap):=(ah S0.out.x (j:=3) rfl).2
  have gV:=Lib.hid (And.intro hok1 hk1)
  have xI:Hid (d + 1 + fD (.cons o1 n1 m1 k1 .nil)≤1000000):=Lib.hid hd1
  have Kj:=Lib.hid (jD W lc b o1 n1 m1 k1 d)
  have HV:Hid (jX W lc b op n nm (.cons o1 n1 m1 k1 .nil) d=jX W lc b o1 n1 m1 k1 d++[⟨3,d,d,0,op,b⟩]):=Lib.hid ((Kz (by omega)).trans (by unfold Ij; rw [if_neg (by simp; omega),if_pos (by simpa using hop)]))
  have e1:(op == 1)=false:=by rw [beq_eq_false_iff_ne]; omega
  have e2:(op == 2)=false:=by rw [beq_eq_false_iff_ne]; omega
  have e3:(op == 3)=false:=by rw [beq_eq_false_iff_ne]; omega
  have e45:((op == 4)=true)∨((op == 4)=false∧(op == 5)=true):=by
   rcases hop with rfl | rfl
   ·exact .inl rfl
   ·exact .inr ⟨rfl,rfl⟩
  clear hok1 hk1 hop
  rcases e45 with e4 | ⟨e4,e5⟩
  all_goals
   go_wp2_with fail
   refine (kE.out.1 _ L W s lc al cl _ _ a b Il CW d S0.out.i gV.out.1 gV.out.2 hs1 ho1 (by omega) (by have:=xI.out; simp only [fD] at *; omega) (by have:=HL.out; simp only [fD,List.length_append,List.length_nil] at *; omega)).mono ?_
   rintro e w2 ⟨rfl,hem⟩
   obtain ⟨v9,bT⟩:=S0.out.then hem
   have S1:=Lib.hid bT
   have zP:=Lib.hid (S0.out.i.keep hem.choose_spec.2.1)
   clear hem bT
   clear aZ q0 q1 q2 q3 q4 q5 q6 q8 q9 z0 z1 z2 z3
   clear x0 x1 x2 x3 mF kE HAT
   obtain ⟨aZ,q0,q1,q2,q3,q4,q5,q6,-,q8,q9,-⟩:=S1.out.i.cells
   have z0:=(ah S1.out.x (j:=0) rfl).2
   have z1:=(ah S1.out.x (j:=1) rfl).2
   have z2:=(ah S1.out.x (j:=2) rfl).2
   have z3:=(ah S1.out.x (j:=3) rfl).2
   go_wp2_with fail
   refine (eU (S1.out.i) ⟨3,d,d,0,op,0⟩ (by have:=HL.out; simp only [fD,List.length_append,List.length_nil] at *; (have:=Kj.out; omega))).mono ?_
   rintro e w3 ⟨rfl,hem⟩
   obtain ⟨v9,bT⟩:=S1.out.then hem
   have S2:=Lib.hid bT
   clear hem bT
   clear aZ q0 q1 q2 q3 q4 q5 q6 q8 q9 z0 z1 z2 z3
   go_wp2_with fail
   exact bodyPost_end (v:= .tuple #[]) (by simp [results,Tryz.results114,go_sem]) rfl ⟨rfl,S2.out.fin (by rw [HV.out]; rfl)⟩
 ·obtain ⟨⟨bb,off,Il,CW,rfl,mF,x0,x1,x2,x3,hok1,hk1⟩,⟨⟨bb',off',Dm,cap2,hao,ZP,y0,y1,y2,y3,hok2,hk2⟩,-⟩⟩:=Lh.out
  injection hao with hao
  injection hao with ad7 aa1
  subst ad7 aa1
  simp only [Nat.zero_mul,Nat.add_zero,Nat.one_mul,Nat.zero_add] at x0 x1 x2 x3 y0 y1 y2 y3
  clear z3
  have z3:w1.cell? ⟨nb,3,none⟩=some (.slice (some ⟨bb,off,none⟩) 2 cap):=(ah S0.out.x (j:=3) rfl).2
  have HY:=Lib.hid (And.intro y0 (And.intro y1 (And.intro y2 y3)))
  have gV:=Lib.hid (And.intro hok1 hk1)
  have gY:=Lib.hid (And.intro hok2 hk2)
  have xI:Hid (d + 1 + fD (.cons o1 n1 m1 k1 (.cons o2 n2 m2 k2 .nil))≤1000000):=Lib.hid hd1
  have Kj:=Lib.hid (jD W lc b o1 n1 m1 k1 d)
  have ab1:=Lib.hid (jD W lc b o2 n2 m2 k2 (d + 1))
  have HV:Hid (jX W lc b op n nm (.cons o1 n1 m1 k1 (.cons o2 n2 m2 k2 .nil)) d=jX W lc b o1 n1 m1 k1 d++jX W lc b o2 n2 m2 k2 (d + 1)++[⟨4,d,d,d + 1,op,b⟩]):=Lib.hid ((TF (by omega)).trans (by unfold Ij; rw [if_neg (by simp; omega),if_neg (by simp; omega)]))
  have e1:(op == 1)=false:=by rw [beq_eq_false_iff_ne]; omega
  have e2:(op == 2)=false:=by rw [beq_eq_false_iff_ne]; omega
  have e3:(op == 3)=false:=by rw [beq_eq_false_iff_ne]; omega
  have e4:(op == 4)=false:=by rw [beq_eq_false_iff_ne]; omega
  have e5:(op == 5)=false:=by rw [beq_eq_false_iff_ne]; omega
  have hwd:IntKind.i64.wrap (d + 1)=d + 1:=IntWalk.i64_in _ (by omega)
  have wK:=Lib.hid mF
  clear hok1 hk1 hok2 hk2 y0 y1 y2 y3 ZP
  go_wp2_with fail
  refine (kE.out.1 _ L W s lc al cl _ _ a b Il CW d S0.out.i gV.out.1 gV.out.2 hs1 ho1 (by omega) (by have:=xI.out; simp only [fD] at *; omega) (by have:=HL.out; simp only [fD,List.length_append,List.length_nil] at *; omega)).mono ?_
  rintro e w2 ⟨rfl,hem⟩
  obtain ⟨v9,bT⟩:=S0.out.then hem
  have S1:=Lib.hid bT
  have zP:=Lib.hid (S0.out.i.keep hem.choose_spec.2.1)
  clear hem bT
  clear aZ q0 q1 q2 q3 q4 q5 q6 q8 q9 z0 z1 z2 z3
  clear x0 x1 x2 x3 HAT
  have y0:=(zP.out.cell (p:=⟨bb,off + 4,none⟩) wK.out).trans HY.out.1
  have y1:=(zP.out.cell (p:=⟨bb,off + 4 + 1,none⟩) wK.out).trans HY.out.2.1
  have y2:=(zP.out.cell (p:=⟨bb,off + 4 + 2,none⟩) wK.out).trans HY.out.2.2.1
  have y3:=(zP.out.cell (p:=⟨bb,off + 4 + 3,none⟩) wK.out).trans HY.out.2.2.2
  have ad8:=Lib.hid (gY.out.2.below zP.out)
  have hd2:0≤d + 1:=by omega
  obtain ⟨aZ,q0,q1,q2,q3,q4,q5,q6,-,q8,q9,-⟩:=S1.out.i.cells
  have z0:=(ah S1.out.x (j:=0) rfl).2
  have z1:=(ah S1.out.x (j:=1) rfl).2
  have z2:=(ah S1.out.x (j:=2) rfl).2
  have z3:=(ah S1.out.x (j:=3) rfl).2
  clear z3
  have z3:w2.cell? ⟨nb,3,none⟩=some (.slice (some ⟨bb,off,none⟩) 2 cap):=(ah S1.out.x (j:=3) rfl).2
  go_wp2_with fail
  refine (kE.out.2.1 _ L W s lc al cl _ _ a b Dm cap2 (d + 1) S1.out.i gY.out.1 ad8.out hs2 ho2 (by omega) (by have:=xI.out; simp only [fD] at *; omega) (by have:=HL.out; simp only [fD,List.length_append,List.length_nil] at *; (have:=Kj.out; omega))).mono ?_
  rintro e w3 ⟨rfl,hem⟩
  obtain ⟨v9,bT⟩:=S1.out.then hem
  have S2:=Lib.hid bT
  have zP:=Lib.hid (S1.out.i.keep hem.choose_spec.2.1)
  clear hem bT
  clear aZ q0 q1 q2 q3 q4 q5 q6 q8 q9 z0 z1 z2 z3
  clear y0 y1 y2 y3 mF kE
  obtain ⟨aZ,q0,q1,q2,q3,q4,q5,q6,-,q8,q9,-⟩:=S2.out.i.cells
  have z0:=(ah S2.out.x (j:=0) rfl).2
  have z1:=(ah S2.out.x (j:=1) rfl).2
  have z2:=(ah S2.out.x (j:=2) rfl).2
  have z3:=(ah S2.out.x (j:=3) rfl).2
  go_wp2_with fail
  refine (eU (S2.out.i) ⟨4,d,d,d + 1,op,0⟩ (by have:=HL.out; simp only [fD,List.length_append,List.length_nil] at *; (have:=Kj.out; have:=ab1.out; omega))).mono ?_
  rintro e w4 ⟨rfl,hem⟩
  obtain ⟨v9,bT⟩:=S2.out.then hem
  have S3:=Lib.hid bT
  clear hem bT
  clear aZ q0 q1 q2 q3 q4 q5 q6 q8 q9 z0 z1 z2 z3
  go_wp2_with fail
  exact bodyPost_end (v:= .tuple #[]) (by simp [results,Tryz.results114,go_sem]) rfl ⟨rfl,S3.out.fin (by rw [HV.out]; rfl)⟩
theorem pX (op n:Int) (nm:ByteArray) (kids:bL):J3 op n nm kids:=bL.Br Jq op n nm kids
end Go.Proofs.YtdajkddgnfgijaaGreatDoor
end
section
set_option linter.unusedSimpArgs false
set_option linter.unusedVariables false
namespace Go.Proofs.YtdajkddgnfgijaaGreatDoor
open Go.RowKit
open Md
theorem ME {W:Wo} {h:aX} {bl el:Nat} (hs:oK h bl el=true) (ho:Al W h=true) (hop:h.op=1):
 jl h.dN h.xn h.dM h.aR=true∧uo W h.dN h.dM h.aR=true∧(h.idx= .nil∨ ∃o n m k,h.idx= .cons o n m k .nil∧jl o n m k=true∧uo W o m k=true∧0≤W.cell h.nm):=by
 unfold oK at hs
 simp only [Bool.and_eq_true] at hs
 obtain ⟨⟨-,⟨h2,h3⟩,h3'⟩,h4,-⟩:=hs
 rw [show fX h.op=true by rw [hop]; rfl,if_pos rfl] at h4
 unfold Al at ho
 rw [Bool.and_eq_true,Bool.and_eq_true] at ho
 obtain ⟨k1,k2,k3⟩:=ho
 refine ⟨h4,k1,?_⟩
 cases hi:h.idx with
 | nil=>exact .inl rfl
 | cons o n m k r=>
   right
   rw [hi] at h2 h3' k2 k3
   have h5:(bL.cons o n m k r).len≤1:=by simpa using h2
   simp only [bL.len] at h5
   have hr:r= .nil:=D5 (by omega)
   subst hr
   rw [lM,Bool.and_eq_true] at h3'
   rw [zI,Bool.and_eq_true] at k2
   refine ⟨o,n,m,k,rfl,h3'.1,k2.1,?_⟩
   simpa [bL.len,hop] using k3
theorem Sz {W:Wo} {lc:List ByteArray} {st:Int} {h:aX} (hi:h.idx= .nil):Ba W lc st h=fK W lc st h lc.length++[if decide (0≤fV lc h.nm) then ⟨2,fV lc h.nm,lc.length,0,0,st⟩ else ⟨8,W.cell h.nm,lc.length,0,0,st⟩]:=by
 unfold Ba; rw [hi]
theorem SK {W:Wo} {lc:List ByteArray} {st:Int} {h:aX} {o n:Int} {m:ByteArray} {k:bL} (hi:h.idx= .cons o n m k .nil):Ba W lc st h=jX W lc st o n m k lc.length++fK W lc st h (lc.length + 1)++[⟨9,W.cell h.nm,lc.length + 1,lc.length,W.size h.nm,st⟩]:=by
 unfold Ba; rw [hi]
set_option maxHeartbeats 4000000 in
set_option maxRecDepth 100000 in
theorem JB {w:World} {L:GL} {W:Wo} {s:iE} {lc:List ByteArray} {al:Option Addr} {cl:Nat} {v:Value} {code:List bS} {a b:Int} (hI:dX 90 w L W s lc al cl v code a b) {h:aX} {e0 e1:aP} {sl:Sl} {nx:Nat} (hp:iB w L W code h e0 e1 sl nx) (hop:h.op=1):
 Calls Tryz.prog 107 #[.pointer (some ⟨L.gb,0,none⟩),cO h e0 e1 sl] w fun e w'=>e= .returned (.tuple #[])∧uD 90 w L W s lc al cl v code a b (Ba W lc b h) w':=by
 obtain ⟨hs1,ho1,hidx⟩:=ME hp.sh hp.ok.1 hop
 have HI:=Lib.hid hI
 have HP:=Lib.hid hp
 have HL:=Lib.hid hp.len
 have lW:=Lib.hid hp.ok.2
 have NP:=Lib.hid hI.few
 have hl0:(lc.length:Int)≤1000:=by have:=hI.few; omega
 clear hI hp hop
 unfold cO
 go_enter Tryz.func107,Tryz.ntmps107
 go_upto_region 1 with fail
 generalize hW:World.alloc w _=w1
 obtain ⟨nb,hnb⟩: ∃n,w.heap.size=n:=⟨_,rfl⟩
 have HB:Hid (Below w.heap.size w w1):=Lib.hid (by rw [← hW]; exact aj _ _)
 have HX:Hid (w1.heap[nb]? =some (.cells (stA h e0 e1 sl) 131 (0,0))):=Lib.hid (by rw [← hW,← hnb]; exact heap_alloc_new _ _)
 have S0:=Lib.hid (gN.start HI.out HB.out hnb HX.out)
 have oO:=Lib.hid (HI.out.keep (Kg.of_below HB.out))
 have bQ:=Lib.hid (HP.out.below oO.out)
 rw [hnb]
 clear hW hnb HX HB
 obtain ⟨aZ,q0,q1,q2,q3,q4,q5,q6,q7,q8,q9,qf⟩:=S0.out.i.cells
 have z0:=(ah S0.out.x (j:=0) rfl).2
 have z1:=(ah S0.out.x (j:=1) rfl).2
 have z2:=(ah S0.out.x (j:=2) rfl).2
 have z3:=(ah S0.out.x (j:=3) rfl).2
 have z4:=(ah S0.out.x (j:=4) rfl).2
 have z5:=(ah S0.out.x (j:=5) rfl).2
 have z6:=(ah S0.out.x (j:=6) rfl).2
 have z7:=(ah S0.out.x (j:=7) rfl).2
 have z8:=(ah S0.out.x (j:=8) rfl).2
 have z9:=(ah S0.out.x (j:=9) rfl).2
 have aY:=(ah S0.out.x (j:=10) rfl).2
 clear qf q7
 simp only [stA,List.getElem_toArray,List.getElem_cons_zero,List.getElem_cons_succ] at z0 z1 z2 z3 z4 z5 z6 z7 z8 z9 aY
 have Z9:=Lib.hid (jD W lc b h.dN h.xn h.dM h.aR lc.length)
 have HVY:=Lib.hid (jD W lc b h.dN h.xn h.dM h.aR (lc.length + 1))
 have hwk:IntKind.i64.wrap ((lc.length:Int) + 1)=(lc.length:Int) + 1:=IntWalk.i64_in _ (by omega)
 rcases hidx with hi | ⟨o1,n1,m1,k1,hi,hs2,ho2,hce⟩
 ·have HV:=Lib.hid (Sz (W:=W) (lc:=lc) (st:=b) hi)
  have Rb:w1.cell? ⟨nb,4,none⟩=some (.slice sl.dZ 0 sl.dG):=by rw [z4,hi]; rfl
  have xI:Hid ((lc.length:Int) + 1 + fD h.aR≤1000000):=Lib.hid (by have:=lW.out; unfold gH at this; omega)
  clear z4
  go_wp2_with fail
  refine (pX h.dN h.xn h.dM h.aR _ L W s lc al cl _ _ a b sl.dH sl.bR lc.length S0.out.i bQ.out.m.1.2.2.2.2.2.1 bQ.out.m.2.2.1 hs1 ho1 (by omega) xI.out (by have:=HL.out; simp only [List.length_append,List.length_nil]; unfold gH at this; omega)).mono ?_
  rintro e w2 ⟨rfl,hem⟩
  obtain ⟨v9,bT⟩:=S0.out.then hem
  have S1:=Lib.hid bT
  clear hem bT Rb
  clear aZ q0 q1 q2 q3 q4 q5 q6 q8 q9 z0 z1 z2 z3 z5 z6 z7 z8 z9 aY
  obtain ⟨aZ,q0,q1,q2,q3,q4,q5,q6,q7,q8,q9,qf⟩:=S1.out.i.cells
  have z0:=(ah S1.out.x (j:=0) rfl).2
  have z1:=(ah S1.out.x (j:=1) rfl).2
  have z2:=(ah S1.out.x (j:=2) rfl).2
  have z3:=(ah S1.out.x (j:=3) rfl).2
  have z4:=(ah S1.out.x (j:=4) rfl).2
  have z5:=(ah S1.out.x (j:=5) rfl).2
  have z6:=(ah S1.out.x (j:=6) rfl).2
  have z7:=(ah S1.out.x (j:=7) rfl).2
  have z8:=(ah S1.out.x (j:=8) rfl).2
  have z9:=(ah S1.out.x (j:=9) rfl).2
  have aY:=(ah S1.out.x (j:=10) rfl).2
  clear qf q7
  simp only [stA,List.getElem_toArray,List.getElem_cons_zero,List.getElem_cons_succ] at z0 z1 z2 z3 z4 z5 z6 z7 z8 z9 aY
  go_wp2_with fail
  have HSL:Hid (∀nq,Calls Tryz.prog 116 #[.slice al lc.length cl,.string h.nm] (w2.drewN nq) fun e w'=>e= .returned (.int .i64 (fV lc h.nm))∧w2.drewN nq=w'):=Lib.hid (fun nq=>by
   have hb:=below_drewN (n:=nq) (Below.refl w2.heap.size w2)
   have:=S1.out.i.below hb
   exact qC lc h.nm (w2.drewN nq) al cl (by have:=this.few; unfold maxLen; omega) (this.lc.mono this.b0))
  go_quiet ((go_at_call 116; exact sS (HSL.out _)))
  have S2:=Lib.hid (S1.out.below (below_drewN (n:=nq) (Below.refl w2.heap.size w2)))
  clear HSL S1
  clear aZ q0 q1 q2 q3 q4 q5 q6 q8 q9 z0 z1 z2 z3 z5 z6 z7 z8 z9 aY
  generalize w2.drewN nq=w3 at *
  obtain ⟨aZ,q0,q1,q2,q3,q4,q5,q6,q7,q8,q9,qf⟩:=S2.out.i.cells
  have z0:=(ah S2.out.x (j:=0) rfl).2
  have z1:=(ah S2.out.x (j:=1) rfl).2
  have z2:=(ah S2.out.x (j:=2) rfl).2
  have z3:=(ah S2.out.x (j:=3) rfl).2
  have z4:=(ah S2.out.x (j:=4) rfl).2
  have z5:=(ah S2.out.x (j:=5) rfl).2
  have z6:=(ah S2.out.x (j:=6) rfl).2
  have z7:=(ah S2.out.x (j:=7) rfl).2
  have z8:=(ah S2.out.x (j:=8) rfl).2
  have z9:=(ah S2.out.x (j:=9) rfl).2
  have aY:=(ah S2.out.x (j:=10) rfl).2
  clear qf q7
  simp only [stA,List.getElem_toArray,List.getElem_cons_zero,List.getElem_cons_succ] at z0 z1 z2 z3 z4 z5 z6 z7 z8 z9 aY
  by_cases hk:0≤fV lc h.nm
  ·have Cg:Hid (Ba W lc b h=fK W lc b h lc.length++[⟨2,fV lc h.nm,lc.length,0,0,b⟩]):=Lib.hid (HV.out.trans (by rw [if_pos (by simpa using hk)]))
   clear HV
   generalize fV lc h.nm=k at *
   go_wp2_with fail
   refine (eU (S2.out.i) ⟨2,k,lc.length,0,0,0⟩ (by have:=HL.out; simp only [fK,fD,List.length_append,List.length_cons,List.length_nil] at *; (have:=Z9.out; unfold gH at *; omega))).mono ?_
   rintro e w4 ⟨rfl,hem⟩
   obtain ⟨v9,bT⟩:=S2.out.then hem
   have S3:=Lib.hid bT
   have oU:=Lib.hid (S2.out.i.keep hem.choose_spec.2.1)
   clear hem bT
   clear aZ q0 q1 q2 q3 q4 q5 q6 q8 q9 z0 z1 z2 z3 z5 z6 z7 z8 z9 aY
   go_wp2_with fail
   exact bodyPost_ret (v:= .tuple #[]) (by simp [results,Tryz.results107,go_sem]) rfl ⟨rfl,S3.out.fin Cg.out.symm⟩
  ·have Cg:Hid (Ba W lc b h=fK W lc b h lc.length++[⟨8,W.cell h.nm,lc.length,0,0,b⟩]):=Lib.hid (HV.out.trans (by rw [if_neg (by simpa using hk)]))
   clear HV
   generalize fV lc h.nm=k at *
   go_wp2_with fail
   refine (xk S2.out.i h.nm).mono ?_
   rintro e w4 ⟨rfl,hb4⟩
   have S3:=Lib.hid (S2.out.below hb4)
   clear hb4
   clear aZ q0 q1 q2 q3 q4 q5 q6 q8 q9 z0 z1 z2 z3 z5 z6 z7 z8 z9 aY
   obtain ⟨aZ,q0,q1,q2,q3,q4,q5,q6,q7,q8,q9,qf⟩:=S3.out.i.cells
   have z0:=(ah S3.out.x (j:=0) rfl).2
   have z1:=(ah S3.out.x (j:=1) rfl).2
   have z2:=(ah S3.out.x (j:=2) rfl).2
   have z3:=(ah S3.out.x (j:=3) rfl).2
   have z4:=(ah S3.out.x (j:=4) rfl).2
   have z5:=(ah S3.out.x (j:=5) rfl).2
   have z6:=(ah S3.out.x (j:=6) rfl).2
   have z7:=(ah S3.out.x (j:=7) rfl).2
   have z8:=(ah S3.out.x (j:=8) rfl).2
   have z9:=(ah S3.out.x (j:=9) rfl).2
   have aY:=(ah S3.out.x (j:=10) rfl).2
   clear qf q7
   simp only [stA,List.getElem_toArray,List.getElem_cons_zero,List.getElem_cons_succ] at z0 z1 z2 z3 z4 z5 z6 z7 z8 z9 aY
   go_wp2_with fail
   refine (eU (S3.out.i) ⟨8,W.cell h.nm,lc.length,0,0,0⟩ (by have:=HL.out; simp only [fK,fD,List.length_append,List.length_cons,List.length_nil] at *; (have:=Z9.out; unfold gH at *; omega))).mono ?_
   rintro e w5 ⟨rfl,hem⟩
   obtain ⟨v9,bT⟩:=S3.out.then hem
   have S4:=Lib.hid bT
   have oU:=Lib.hid (S3.out.i.keep hem.choose_spec.2.1)
   clear hem bT
   clear aZ q0 q1 q2 q3 q4 q5 q6 q8 q9 z0 z1 z2 z3 z5 z6 z7 z8 z9 aY
   go_wp2_with fail
   exact bodyPost_end (v:= .tuple #[]) (by simp [results,Tryz.results107,go_sem]) rfl ⟨rfl,S4.out.fin Cg.out.symm⟩
 ·have HV:=Lib.hid (SK (W:=W) (lc:=lc) (st:=b) hi)
  have Rb:w1.cell? ⟨nb,4,none⟩=some (.slice sl.dZ 1 sl.dG):=by rw [z4,hi]; rfl
  have hidx:=bQ.out.m.2.1
  rw [hi] at hidx
  obtain ⟨⟨bb,off,Il,CW,hao,mF,x0,x1,x2,x3,hok1,hk1⟩,-⟩:=hidx
  rw [hao] at Rb
  simp only [Nat.zero_mul,Nat.add_zero] at x0 x1 x2 x3
  have gV:=Lib.hid (And.intro hok1 hk1)
  have xI:Hid ((lc.length:Int) + 2 + fD h.aR≤1000000∧(lc.length:Int) + 1 + fD k1≤1000000∧1 + fD h.aR + (1 + fD k1) + 1≤gH h):=Lib.hid (by
   have:=lW.out; unfold gH at *; rw [hi] at *; simp only [fD] at *; omega)
  have Yl:=Lib.hid (jD W lc b o1 n1 m1 k1 lc.length)
  obtain ⟨c,hc1,hc2,hc3,hc4⟩:=Ko hce
  have HC:=Lib.hid (And.intro hc1 (And.intro hc2 hc3))
  have Gx:=Lib.hid (And.intro hce hc4)
  clear z4 hok1 hk1 hc1 hc2 hc3 hc4 hce hao hi
  go_wp2_with fail
  refine (pX o1 n1 m1 k1 _ L W s lc al cl _ _ a b Il CW lc.length S0.out.i gV.out.1 gV.out.2 hs2 ho2 (by omega) xI.out.2.1 (by have:=HL.out; have:=xI.out.2.2; simp only [List.length_append,List.length_nil]; omega)).mono ?_
  rintro e w2 ⟨rfl,hem⟩
  obtain ⟨v9,bT⟩:=S0.out.then hem
  have S1:=Lib.hid bT
  have aU:=Lib.hid (bQ.out.below (S0.out.i.keep hem.choose_spec.2.1))
  clear hem bT Rb x0 x1 x2 x3
  clear aZ q0 q1 q2 q3 q4 q5 q6 q8 q9 z0 z1 z2 z3 z5 z6 z7 z8 z9 aY
  obtain ⟨aZ,q0,q1,q2,q3,q4,q5,q6,q7,q8,q9,qf⟩:=S1.out.i.cells
  have z0:=(ah S1.out.x (j:=0) rfl).2
  have z1:=(ah S1.out.x (j:=1) rfl).2
  have z2:=(ah S1.out.x (j:=2) rfl).2
  have z3:=(ah S1.out.x (j:=3) rfl).2
  have z4:=(ah S1.out.x (j:=4) rfl).2
  have z5:=(ah S1.out.x (j:=5) rfl).2
  have z6:=(ah S1.out.x (j:=6) rfl).2
  have z7:=(ah S1.out.x (j:=7) rfl).2
  have z8:=(ah S1.out.x (j:=8) rfl).2
  have z9:=(ah S1.out.x (j:=9) rfl).2
  have aY:=(ah S1.out.x (j:=10) rfl).2
  clear qf q7
  simp only [stA,List.getElem_toArray,List.getElem_cons_zero,List.getElem_cons_succ] at z0 z1 z2 z3 z4 z5 z6 z7 z8 z9 aY
  go_wp2_with fail
  refine (pX h.dN h.xn h.dM h.aR _ L W s lc al cl _ _ a b sl.dH sl.bR (lc.length + 1) S1.out.i aU.out.m.1.2.2.2.2.2.1 aU.out.m.2.2.1 hs1 ho1 (by omega) (by have:=xI.out.1; omega) (by have:=HL.out; have:=xI.out.2.2; have:=Yl.out; simp only [List.length_append,List.length_nil] at *; omega)).mono ?_
  rintro e w3 ⟨rfl,hem⟩
  obtain ⟨v9,bT⟩:=S1.out.then hem
  have S2:=Lib.hid bT
  clear hem bT
  clear aZ q0 q1 q2 q3 q4 q5 q6 q8 q9 z0 z1 z2 z3 z5 z6 z7 z8 z9 aY
  obtain ⟨aZ,q0,q1,q2,q3,q4,q5,q6,q7,q8,q9,qf⟩:=S2.out.i.cells
  have z0:=(ah S2.out.x (j:=0) rfl).2
  have z1:=(ah S2.out.x (j:=1) rfl).2
  have z2:=(ah S2.out.x (j:=2) rfl).2
  have z3:=(ah S2.out.x (j:=3) rfl).2
  have z4:=(ah S2.out.x (j:=4) rfl).2
  have z5:=(ah S2.out.x (j:=5) rfl).2
  have z6:=(ah S2.out.x (j:=6) rfl).2
  have z7:=(ah S2.out.x (j:=7) rfl).2
  have z8:=(ah S2.out.x (j:=8) rfl).2
  have z9:=(ah S2.out.x (j:=9) rfl).2
  have aY:=(ah S2.out.x (j:=10) rfl).2
  clear qf q7
  simp only [stA,List.getElem_toArray,List.getElem_cons_zero,List.getElem_cons_succ] at z0 z1 z2 z3 z4 z5 z6 z7 z8 z9 aY
  go_wp2_with fail
  refine (xk S2.out.i h.nm).mono ?_
  rintro e w4 ⟨rfl,hb4⟩
  have S3:=Lib.hid (S2.out.below hb4)
  clear hb4
  clear aZ q0 q1 q2 q3 q4 q5 q6 q8 q9 z0 z1 z2 z3 z5 z6 z7 z8 z9 aY
  obtain ⟨kn,hkn⟩: ∃kn:Nat,W.cell h.nm=kn:=⟨(W.cell h.nm).toNat,by have:=Gx.out.1; omega⟩
  have zX:=Lib.hid hkn
  have hk0:(0:Int)≤(kn:Int):=by omega
  have hk1:(kn:Int) < (W.cs.length:Int):=by have:=Gx.out.2; omega
  have hkt:(W.cell h.nm).toNat=kn:=by omega
  obtain ⟨b3,ad9,MS,hb3,hcc⟩:=fT.at kn c S3.out.i.wo.cs (by rw [← hkt]; exact HC.out.1)
  have y2:=hcc 2 _ rfl
  obtain ⟨aZ,q0,q1,q2,q3,q4,q5,q6,q7,q8,q9,qf⟩:=S3.out.i.cells
  have z0:=(ah S3.out.x (j:=0) rfl).2
  have z1:=(ah S3.out.x (j:=1) rfl).2
  have z2:=(ah S3.out.x (j:=2) rfl).2
  have z3:=(ah S3.out.x (j:=3) rfl).2
  have z4:=(ah S3.out.x (j:=4) rfl).2
  have z5:=(ah S3.out.x (j:=5) rfl).2
  have z6:=(ah S3.out.x (j:=6) rfl).2
  have z7:=(ah S3.out.x (j:=7) rfl).2
  have z8:=(ah S3.out.x (j:=8) rfl).2
  have z9:=(ah S3.out.x (j:=9) rfl).2
  have aY:=(ah S3.out.x (j:=10) rfl).2
  clear qf q7
  simp only [stA,List.getElem_toArray,List.getElem_cons_zero,List.getElem_cons_succ] at z0 z1 z2 z3 z4 z5 z6 z7 z8 z9 aY
  rw [MS] at q0
  simp only [Nat.zero_add] at y2
  rw [hkn]
  clear hkn hkt hcc MS hb3
  go_wp2_with fail
  refine (eU (S3.out.i) ⟨9,kn,lc.length + 1,lc.length,c.sz,0⟩ (by have:=HL.out; simp only [fK,fD,List.length_append,List.length_cons,List.length_nil] at *; (have:=Yl.out; have:=HVY.out; have:=xI.out.2.2; omega))).mono ?_
  rintro e w5 ⟨rfl,hem⟩
  obtain ⟨v9,bT⟩:=S3.out.then hem
  have S4:=Lib.hid bT
  have oU:=Lib.hid (S3.out.i.keep hem.choose_spec.2.1)
  clear hem bT
  clear aZ q0 q1 q2 q3 q4 q5 q6 q8 q9 z0 z1 z2 z3 z5 z6 z7 z8 z9 aY
  clear y2
  go_wp2_with fail
  exact bodyPost_ret (v:= .tuple #[]) (by simp [results,Tryz.results107,go_sem]) rfl ⟨rfl,S4.out.fin (by rw [HV.out,HC.out.2.1,zX.out]; rfl)⟩
end Go.Proofs.YtdajkddgnfgijaaGreatDoor
end
section
set_option linter.unusedSimpArgs false
set_option linter.unusedVariables false
namespace Go.Proofs.YtdajkddgnfgijaaGreatDoor
open Go.RowKit
open Md
def dY (l:aP):Prop:= ∀(w:World) (L:GL) (W:Wo) (s:iE) (lc:List ByteArray) (al:Option Addr) (cl:Nat) (v:Value) (code:List bS) (b:Int) (nx:Nat) (ao:Option Addr) (cap:Nat),
 dX 90 w L W s lc al cl v code (nx:Nat) b→l.len≤maxLen→l.At w L.B0 ao 0→iy l=true→l.Ev (H7 W)→code.length + kZ l≤1000000000000→nx + kZ l≤1000000000000→
 Calls Tryz.prog 30 #[.pointer (some ⟨L.gb,0,none⟩),.slice ao l.len cap] w fun e w'=>e= .returned (.tuple #[])∧oV (fun a' _=>a'=((nx + bM l:Nat):Int)) 90 w L W s lc al cl v code (iI W lc l nx code.length) w'
set_option maxHeartbeats 4000000 in
set_option maxRecDepth 100000 in
theorem qz {w:World} {L:GL} {W:Wo} {s:iE} {lc:List ByteArray} {al:Option Addr} {cl:Nat} {v:Value} {code:List bS} {b:Int} {h:aX} {e0 e1:aP} {sl:Sl} {nx:Nat} (hI:dX 90 w L W s lc al cl v code ((nx + 1:Nat):Int) b) (hp:iB w L W code h e0 e1 sl nx) (x y o:Int) (dh:dY e0):
 Calls Tryz.prog 110 #[.pointer (some ⟨L.gb,0,none⟩),cO h e0 e1 sl,.int .i64 x,.int .i64 y,.int .i64 o] w fun e w'=>e= .returned (.tuple #[])∧oV (fun a' _=>a'=((nx + 1 + bM e0:Nat):Int)) 90 w L W s lc al cl v code ([⟨x,o,0,0,0,b⟩]++iI W lc e0 (nx + 1) (code.length + 1)++[⟨y,o,0,0,0,b⟩]) w':=by
 have HI:=Lib.hid hI
 have HP:=Lib.hid hp
 have HL:=Lib.hid hp.len
 have nH:=Lib.hid hp.cnt
 have lW:=Lib.hid hp.ok.2
 have hl0:(lc.length:Int)≤1000:=by have:=hI.few; omega
 clear hI hp
 unfold cO
 go_enter Tryz.func110,Tryz.ntmps110
 go_upto_region 1 with fail
 generalize hW:World.alloc w _=w1
 obtain ⟨nb,hnb⟩: ∃n,w.heap.size=n:=⟨_,rfl⟩
 have HB:Hid (Below w.heap.size w w1):=Lib.hid (by rw [← hW]; exact aj _ _)
 have HX:Hid (w1.heap[nb]? =some (.cells (stA h e0 e1 sl) 131 (0,0))):=Lib.hid (by rw [← hW,← hnb]; exact heap_alloc_new _ _)
 have S0:=Lib.hid (gN.start HI.out HB.out hnb HX.out)
 have bQ:=Lib.hid (HP.out.below (HI.out.keep (Kg.of_below HB.out)))
 rw [hnb]
 clear hW hnb HX HB
 have kD:=Lib.hid dh
 clear dh
 obtain ⟨aZ,q0,q1,q2,q3,q4,q5,q6,q7,q8,q9,qf⟩:=S0.out.i.cells
 have z0:=(ah S0.out.x (j:=0) rfl).2
 have z1:=(ah S0.out.x (j:=1) rfl).2
 have z2:=(ah S0.out.x (j:=2) rfl).2
 have z3:=(ah S0.out.x (j:=3) rfl).2
 have z4:=(ah S0.out.x (j:=4) rfl).2
 have z5:=(ah S0.out.x (j:=5) rfl).2
 have z6:=(ah S0.out.x (j:=6) rfl).2
 have z7:=(ah S0.out.x (j:=7) rfl).2
 have z8:=(ah S0.out.x (j:=8) rfl).2
 have z9:=(ah S0.out.x (j:=9) rfl).2
 have aY:=(ah S0.out.x (j:=10) rfl).2
 clear qf q7
 simp only [stA,List.getElem_toArray,List.getElem_cons_zero,List.getElem_cons_succ] at z0 z1 z2 z3 z4 z5 z6 z7 z8 z9 aY
 go_wp2_with fail
 refine (eU (S0.out.i) ⟨x,o,0,0,0,0⟩ (by have:=HL.out; simp only [fK,fD,List.length_append,List.length_cons,List.length_nil] at *; (unfold gH at *; omega))).mono ?_
 rintro e w2 ⟨rfl,hem⟩
 obtain ⟨v9,bT⟩:=S0.out.then hem
 have S1:=Lib.hid bT
 have oU:=Lib.hid (S0.out.i.keep hem.choose_spec.2.1)
 clear hem bT
 have aU:=Lib.hid (bQ.out.below oU.out)
 clear aZ q0 q1 q2 q3 q4 q5 q6 q8 q9 z0 z1 z2 z3 z5 z6 z7 z8 z9 aY
 clear z4
 obtain ⟨aZ,q0,q1,q2,q3,q4,q5,q6,q7,q8,q9,qf⟩:=S1.out.i.cells
 have z0:=(ah S1.out.x (j:=0) rfl).2
 have z1:=(ah S1.out.x (j:=1) rfl).2
 have z2:=(ah S1.out.x (j:=2) rfl).2
 have z3:=(ah S1.out.x (j:=3) rfl).2
 have z4:=(ah S1.out.x (j:=4) rfl).2
 have z5:=(ah S1.out.x (j:=5) rfl).2
 have z6:=(ah S1.out.x (j:=6) rfl).2
 have z7:=(ah S1.out.x (j:=7) rfl).2
 have z8:=(ah S1.out.x (j:=8) rfl).2
 have z9:=(ah S1.out.x (j:=9) rfl).2
 have aY:=(ah S1.out.x (j:=10) rfl).2
 clear qf q7
 simp only [stA,List.getElem_toArray,List.getElem_cons_zero,List.getElem_cons_succ] at z0 z1 z2 z3 z4 z5 z6 z7 z8 z9 aY
 go_wp2_with fail
 refine (kD.out _ L W s lc al cl _ _ b (nx + 1) sl.bV sl.bC S1.out.i (aU.out.b7) aU.out.m.2.2.2.1 aU.out.sb aU.out.ob (by have:=HL.out; simp only [List.length_append,List.length_nil,List.length_singleton]; unfold gH at this; omega) (by have:=nH.out; unfold gH at this; omega)).mono ?_
 rintro e w3 ⟨rfl,hem⟩
 generalize wE:iI W lc e0 (nx + 1) _=GB at hem
 have KL:=Lib.hid wE
 have EY:Hid (GB.length≤kZ e0):=Lib.hid (by rw [← wE]; exact oC _ _ _ _ _)
 clear wE
 obtain ⟨v9,a3,b3,ku,bT⟩:=S1.out.list hem
 have S2:=Lib.hid bT
 have vg:=Lib.hid ku
 have zP:=Lib.hid (S1.out.i.keep hem.choose_spec.choose_spec.choose_spec.2.2.1)
 clear hem bT ku
 clear aZ q0 q1 q2 q3 q4 q5 q6 q8 q9 z0 z1 z2 z3 z5 z6 z7 z8 z9 aY
 clear z4
 obtain ⟨aZ,q0,q1,q2,q3,q4,q5,q6,q7,q8,q9,qf⟩:=S2.out.i.cells
 have z0:=(ah S2.out.x (j:=0) rfl).2
 have z1:=(ah S2.out.x (j:=1) rfl).2
 have z2:=(ah S2.out.x (j:=2) rfl).2
 have z3:=(ah S2.out.x (j:=3) rfl).2
 have z4:=(ah S2.out.x (j:=4) rfl).2
 have z5:=(ah S2.out.x (j:=5) rfl).2
 have z6:=(ah S2.out.x (j:=6) rfl).2
 have z7:=(ah S2.out.x (j:=7) rfl).2
 have z8:=(ah S2.out.x (j:=8) rfl).2
 have z9:=(ah S2.out.x (j:=9) rfl).2
 have aY:=(ah S2.out.x (j:=10) rfl).2
 clear qf q7
 simp only [stA,List.getElem_toArray,List.getElem_cons_zero,List.getElem_cons_succ] at z0 z1 z2 z3 z4 z5 z6 z7 z8 z9 aY
 have f9:=S2.out.i.cells.2.2.2.2.2.2.2.2.2.2.2 9
 go_upto_region 5 with fail
 generalize hW:World.setCell w3 _ _=w4
 have S3:=Lib.hid (show gN _ _ _ _ _ _ _ _ _ _ _ _ _ _ _ _ w4 _ by rw [← hW]; exact S2.out.je b)
 clear hW f9 S2
 clear aZ q0 q1 q2 q3 q4 q5 q6 q8 q9 z0 z1 z2 z3 z5 z6 z7 z8 z9 aY
 clear z4
 obtain ⟨aZ,q0,q1,q2,q3,q4,q5,q6,q7,q8,q9,qf⟩:=S3.out.i.cells
 have z0:=(ah S3.out.x (j:=0) rfl).2
 have z1:=(ah S3.out.x (j:=1) rfl).2
 have z2:=(ah S3.out.x (j:=2) rfl).2
 have z3:=(ah S3.out.x (j:=3) rfl).2
 have z4:=(ah S3.out.x (j:=4) rfl).2
 have z5:=(ah S3.out.x (j:=5) rfl).2
 have z6:=(ah S3.out.x (j:=6) rfl).2
 have z7:=(ah S3.out.x (j:=7) rfl).2
 have z8:=(ah S3.out.x (j:=8) rfl).2
 have z9:=(ah S3.out.x (j:=9) rfl).2
 have aY:=(ah S3.out.x (j:=10) rfl).2
 clear qf q7
 simp only [stA,List.getElem_toArray,List.getElem_cons_zero,List.getElem_cons_succ] at z0 z1 z2 z3 z4 z5 z6 z7 z8 z9 aY
 go_wp2_with fail
 refine (eU (S3.out.i) ⟨y,o,0,0,0,0⟩ (by have:=HL.out; simp only [fK,fD,List.length_append,List.length_cons,List.length_nil] at *; (have:=EY.out; unfold gH at *; omega))).mono ?_
 rintro e w5 ⟨rfl,hem⟩
 obtain ⟨v9,bT⟩:=S3.out.then hem
 have S4:=Lib.hid bT
 have oU:=Lib.hid (S3.out.i.keep hem.choose_spec.2.1)
 clear hem bT
 clear aZ q0 q1 q2 q3 q4 q5 q6 q8 q9 z0 z1 z2 z3 z5 z6 z7 z8 z9 aY
 go_wp2_with fail
 exact bodyPost_end (v:= .tuple #[]) (by simp [results,Tryz.results110,go_sem]) rfl ⟨rfl,S4.out.nL vg.out (by rw [← KL.out]; simp)⟩
end Go.Proofs.YtdajkddgnfgijaaGreatDoor
end
section
set_option linter.unusedSimpArgs false
set_option linter.unusedVariables false
namespace Go.Proofs.YtdajkddgnfgijaaGreatDoor
open Go.RowKit
open Md
theorem LB {W:Wo} {h:aX} {bl el:Nat} (hs:oK h bl el=true) (ho:Al W h=true) (hf:fX h.op=true):jl h.dN h.xn h.dM h.aR=true∧uo W h.dN h.dM h.aR=true:=by
 unfold oK at hs
 simp only [Bool.and_eq_true] at hs
 obtain ⟨-,h4,-⟩:=hs
 rw [hf,if_pos rfl] at h4
 unfold Al at ho
 rw [Bool.and_eq_true] at ho
 exact ⟨h4,ho.1⟩
theorem P5 {W:Wo} {lc:List ByteArray} {h:aX} {b e:aP} {nx pos:Nat} (hop:h.op=3) {X B:List bS} (hX:jX W lc nx h.dN h.xn h.dM h.aR lc.length=X) {q:Nat} (hB:iI W lc b (nx + 1) q=B) (hq:q=pos + X.length + 1):
 jP W lc h b e nx pos=X++[⟨10,lc.length,((pos + X.length + 1 + B.length + 1:Nat):Int),0,0,nx⟩]++B++[⟨5,(pos:Int),0,0,0,nx⟩]:=by
 subst hq
 unfold jP yV lH
 rw [show fK W lc nx h lc.length=X from hX]
 simp only [hop]
 rw [show ((3:Int) == 2)=false from rfl,show ((3:Int) == 3)=true from rfl]
 simp only [Bool.false_or,if_true,if_false,Bool.false_eq_true]
 rw [show pos + (X.length + 1)=pos + X.length + 1 from rfl,hB]
set_option maxHeartbeats 4000000 in
set_option maxRecDepth 100000 in
theorem NR {w:World} {L:GL} {W:Wo} {s:iE} {lc:List ByteArray} {al:Option Addr} {cl:Nat} {v:Value} {code:List bS} {h:aX} {e0 e1:aP} {sl:Sl} {nx:Nat} (hI:dX 90 w L W s lc al cl v code ((nx + 1:Nat):Int) (nx:Nat)) (hp:iB w L W code h e0 e1 sl nx) (hop:h.op=3) (dh:dY e0):
 Calls Tryz.prog 109 #[.pointer (some ⟨L.gb,0,none⟩),cO h e0 e1 sl] w fun e w'=>e= .returned (.tuple #[])∧oV (fun a' _=>a'=((nx + 1 + bM e0:Nat):Int)) 90 w L W s lc al cl v code (jP W lc h e0 e1 nx code.length) w':=by
 have FP:=Lib.hid (LB hp.sh hp.ok.1 (by rw [hop]; rfl))
 have bY:=Lib.hid hop
 clear hop
 have HI:=Lib.hid hI
 have HP:=Lib.hid hp
 have HL:=Lib.hid hp.len
 have nH:=Lib.hid hp.cnt
 have lW:=Lib.hid hp.ok.2
 have hl0:(lc.length:Int)≤1000:=by have:=hI.few; omega
 clear hI hp
 unfold cO
 go_enter Tryz.func109,Tryz.ntmps109
 go_upto_region 1 with fail
 generalize hW:World.alloc w _=w1
 obtain ⟨nb,hnb⟩: ∃n,w.heap.size=n:=⟨_,rfl⟩
 have HB:Hid (Below w.heap.size w w1):=Lib.hid (by rw [← hW]; exact aj _ _)
 have HX:Hid (w1.heap[nb]? =some (.cells (stA h e0 e1 sl) 131 (0,0))):=Lib.hid (by rw [← hW,← hnb]; exact heap_alloc_new _ _)
 have S0:=Lib.hid (gN.start HI.out HB.out hnb HX.out)
 have bQ:=Lib.hid (HP.out.below (HI.out.keep (Kg.of_below HB.out)))
 rw [hnb]
 clear hW hnb HX HB
 have kD:=Lib.hid dh
 clear dh
 obtain ⟨aZ,q0,q1,q2,q3,q4,q5,q6,q7,q8,q9,qf⟩:=S0.out.i.cells
 have z0:=(ah S0.out.x (j:=0) rfl).2
 have z1:=(ah S0.out.x (j:=1) rfl).2
 have z2:=(ah S0.out.x (j:=2) rfl).2
 have z3:=(ah S0.out.x (j:=3) rfl).2
 have z4:=(ah S0.out.x (j:=4) rfl).2
 have z5:=(ah S0.out.x (j:=5) rfl).2
 have z6:=(ah S0.out.x (j:=6) rfl).2
 have z7:=(ah S0.out.x (j:=7) rfl).2
 have z8:=(ah S0.out.x (j:=8) rfl).2
 have z9:=(ah S0.out.x (j:=9) rfl).2
 have aY:=(ah S0.out.x (j:=10) rfl).2
 clear qf q7
 simp only [stA,List.getElem_toArray,List.getElem_cons_zero,List.getElem_cons_succ] at z0 z1 z2 z3 z4 z5 z6 z7 z8 z9 aY
 go_quiet (fail)
 have aU:=Lib.hid (bQ.out.below ((below_drewN (n:=nq) (Below.refl w1.heap.size w1)).mono S0.out.i.b0))
 have S1:=Lib.hid (S0.out.below (below_drewN (n:=nq) (Below.refl w1.heap.size w1)))
 clear S0
 clear aZ q0 q1 q2 q3 q4 q5 q6 q8 q9 z0 z1 z2 z3 z5 z6 z7 z8 z9 aY
 clear z4
 generalize w1.drewN nq=w2 at *
 obtain ⟨ao9,an5,rfl,-,-⟩:=S1.out.i.form
 have q7:=S1.out.i.cells.2.2.2.2.2.2.2.2.1
 simp only [List.append_nil] at q7
 obtain ⟨aZ,q0,q1,q2,q3,q4,q5,q6,q7,q8,q9,qf⟩:=S1.out.i.cells
 have z0:=(ah S1.out.x (j:=0) rfl).2
 have z1:=(ah S1.out.x (j:=1) rfl).2
 have z2:=(ah S1.out.x (j:=2) rfl).2
 have z3:=(ah S1.out.x (j:=3) rfl).2
 have z4:=(ah S1.out.x (j:=4) rfl).2
 have z5:=(ah S1.out.x (j:=5) rfl).2
 have z6:=(ah S1.out.x (j:=6) rfl).2
 have z7:=(ah S1.out.x (j:=7) rfl).2
 have z8:=(ah S1.out.x (j:=8) rfl).2
 have z9:=(ah S1.out.x (j:=9) rfl).2
 have aY:=(ah S1.out.x (j:=10) rfl).2
 clear qf q7
 simp only [stA,List.getElem_toArray,List.getElem_cons_zero,List.getElem_cons_succ] at z0 z1 z2 z3 z4 z5 z6 z7 z8 z9 aY
 go_wp2_with fail
 refine (pX h.dN h.xn h.dM h.aR _ L W s lc al cl _ _ ((nx + 1:Nat):Int) nx sl.dH sl.bR lc.length S1.out.i aU.out.m.1.2.2.2.2.2.1 aU.out.m.2.2.1 FP.out.1 FP.out.2 (by omega) (by have:=lW.out; unfold gH at this; omega) (by have:=HL.out; unfold gH at this; simp only [fD,List.length_append,List.length_cons,List.length_nil] at *; omega)).mono ?_
 rintro e w3 ⟨rfl,hem⟩
 have Cb:Hid ((jX W lc nx h.dN h.xn h.dM h.aR lc.length).length≤1 + fD h.aR):=Lib.hid (jD W lc nx h.dN h.xn h.dM h.aR lc.length)
 generalize G7:jX W lc nx h.dN h.xn h.dM h.aR lc.length=XX at *
 have K8:=Lib.hid G7
 obtain ⟨v9,bT⟩:=S1.out.then hem
 have S2:=Lib.hid bT
 have aW:=Lib.hid (aU.out.below (S1.out.i.keep hem.choose_spec.2.1))
 clear hem bT G7
 clear aZ q0 q1 q2 q3 q4 q5 q6 q8 q9 z0 z1 z2 z3 z5 z6 z7 z8 z9 aY
 clear z4 q7
 have q7:=S2.out.i.cells.2.2.2.2.2.2.2.2.1
 obtain ⟨ao8,ae0,IU,-,-⟩:=S2.out.i.form
 rw [IU] at q7
 have HV8:=Lib.hid IU
 clear IU
 obtain ⟨kb,hkb⟩: ∃kb:Nat,code.length + XX.length=kb:=⟨_,rfl⟩
 simp only [List.nil_append,List.length_append] at q7
 rw [hkb] at q7
 have C9:=Lib.hid hkb
 clear hkb
 obtain ⟨aZ,q0,q1,q2,q3,q4,q5,q6,q7,q8,q9,qf⟩:=S2.out.i.cells
 have z0:=(ah S2.out.x (j:=0) rfl).2
 have z1:=(ah S2.out.x (j:=1) rfl).2
 have z2:=(ah S2.out.x (j:=2) rfl).2
 have z3:=(ah S2.out.x (j:=3) rfl).2
 have z4:=(ah S2.out.x (j:=4) rfl).2
 have z5:=(ah S2.out.x (j:=5) rfl).2
 have z6:=(ah S2.out.x (j:=6) rfl).2
 have z7:=(ah S2.out.x (j:=7) rfl).2
 have z8:=(ah S2.out.x (j:=8) rfl).2
 have z9:=(ah S2.out.x (j:=9) rfl).2
 have aY:=(ah S2.out.x (j:=10) rfl).2
 clear qf q7
 simp only [stA,List.getElem_toArray,List.getElem_cons_zero,List.getElem_cons_succ] at z0 z1 z2 z3 z4 z5 z6 z7 z8 z9 aY
 go_wp2_with fail
 refine (eU (S2.out.i) ⟨10,lc.length,0,0,0,0⟩ (by have:=HL.out; simp only [fK,fD,List.length_append,List.length_cons,List.length_nil] at *; (have:=Cb.out; unfold gH at *; omega))).mono ?_
 rintro e w4 ⟨rfl,hem⟩
 obtain ⟨v9,bT⟩:=S2.out.then hem
 have S3:=Lib.hid bT
 have oU:=Lib.hid (S2.out.i.keep hem.choose_spec.2.1)
 clear hem bT
 have dS:=Lib.hid (aW.out.below oU.out)
 clear aZ q0 q1 q2 q3 q4 q5 q6 q8 q9 z0 z1 z2 z3 z5 z6 z7 z8 z9 aY
 clear z4 q7
 obtain ⟨aZ,q0,q1,q2,q3,q4,q5,q6,q7,q8,q9,qf⟩:=S3.out.i.cells
 have z0:=(ah S3.out.x (j:=0) rfl).2
 have z1:=(ah S3.out.x (j:=1) rfl).2
 have z2:=(ah S3.out.x (j:=2) rfl).2
 have z3:=(ah S3.out.x (j:=3) rfl).2
 have z4:=(ah S3.out.x (j:=4) rfl).2
 have z5:=(ah S3.out.x (j:=5) rfl).2
 have z6:=(ah S3.out.x (j:=6) rfl).2
 have z7:=(ah S3.out.x (j:=7) rfl).2
 have z8:=(ah S3.out.x (j:=8) rfl).2
 have z9:=(ah S3.out.x (j:=9) rfl).2
 have aY:=(ah S3.out.x (j:=10) rfl).2
 clear qf q7
 simp only [stA,List.getElem_toArray,List.getElem_cons_zero,List.getElem_cons_succ] at z0 z1 z2 z3 z4 z5 z6 z7 z8 z9 aY
 go_wp2_with fail
 refine (kD.out _ L W s lc al cl _ _ nx (nx + 1) sl.bV sl.bC S3.out.i (dS.out.b7) dS.out.m.2.2.2.1 dS.out.sb dS.out.ob (by have:=HL.out; have:=Cb.out; simp only [List.length_append,List.length_nil,List.length_cons] at *; unfold gH at *; omega) (by have:=nH.out; unfold gH at this; omega)).mono ?_
 rintro e w5 ⟨rfl,hem⟩
 generalize wE:iI W lc e0 (nx + 1) _=GB at hem
 have KL:=Lib.hid wE
 have EY:Hid (GB.length≤kZ e0):=Lib.hid (by rw [← wE]; exact oC _ _ _ _ _)
 clear wE
 obtain ⟨v9,a3,b3,ku,bT⟩:=S3.out.list hem
 have S4:=Lib.hid bT
 have vg:=Lib.hid ku
 have zP:=Lib.hid (S3.out.i.keep hem.choose_spec.choose_spec.choose_spec.2.2.1)
 clear hem bT ku
 clear aZ q0 q1 q2 q3 q4 q5 q6 q8 q9 z0 z1 z2 z3 z5 z6 z7 z8 z9 aY
 clear z4
 obtain ⟨aZ,q0,q1,q2,q3,q4,q5,q6,q7,q8,q9,qf⟩:=S4.out.i.cells
 have z0:=(ah S4.out.x (j:=0) rfl).2
 have z1:=(ah S4.out.x (j:=1) rfl).2
 have z2:=(ah S4.out.x (j:=2) rfl).2
 have z3:=(ah S4.out.x (j:=3) rfl).2
 have z4:=(ah S4.out.x (j:=4) rfl).2
 have z5:=(ah S4.out.x (j:=5) rfl).2
 have z6:=(ah S4.out.x (j:=6) rfl).2
 have z7:=(ah S4.out.x (j:=7) rfl).2
 have z8:=(ah S4.out.x (j:=8) rfl).2
 have z9:=(ah S4.out.x (j:=9) rfl).2
 have aY:=(ah S4.out.x (j:=10) rfl).2
 clear qf q7
 simp only [stA,List.getElem_toArray,List.getElem_cons_zero,List.getElem_cons_succ] at z0 z1 z2 z3 z4 z5 z6 z7 z8 z9 aY
 have f9:=S4.out.i.cells.2.2.2.2.2.2.2.2.2.2.2 9
 go_upto_region 8 with fail
 generalize hW:World.setCell w5 _ _=w6
 have S5:=Lib.hid (show gN _ _ _ _ _ _ _ _ _ _ _ _ _ _ _ _ w6 _ by rw [← hW]; exact S4.out.je nx)
 clear hW f9 S4
 clear aZ q0 q1 q2 q3 q4 q5 q6 q8 q9 z0 z1 z2 z3 z5 z6 z7 z8 z9 aY
 clear z4
 obtain ⟨aZ,q0,q1,q2,q3,q4,q5,q6,q7,q8,q9,qf⟩:=S5.out.i.cells
 have z0:=(ah S5.out.x (j:=0) rfl).2
 have z1:=(ah S5.out.x (j:=1) rfl).2
 have z2:=(ah S5.out.x (j:=2) rfl).2
 have z3:=(ah S5.out.x (j:=3) rfl).2
 have z4:=(ah S5.out.x (j:=4) rfl).2
 have z5:=(ah S5.out.x (j:=5) rfl).2
 have z6:=(ah S5.out.x (j:=6) rfl).2
 have z7:=(ah S5.out.x (j:=7) rfl).2
 have z8:=(ah S5.out.x (j:=8) rfl).2
 have z9:=(ah S5.out.x (j:=9) rfl).2
 have aY:=(ah S5.out.x (j:=10) rfl).2
 clear qf q7
 simp only [stA,List.getElem_toArray,List.getElem_cons_zero,List.getElem_cons_succ] at z0 z1 z2 z3 z4 z5 z6 z7 z8 z9 aY
 go_wp2_with fail
 refine (eU (S5.out.i) ⟨5,code.length,0,0,0,0⟩ (by have:=HL.out; simp only [fK,fD,List.length_append,List.length_cons,List.length_nil] at *; (have:=EY.out; have:=Cb.out; unfold gH at *; omega))).mono ?_
 rintro e w7 ⟨rfl,hem⟩
 obtain ⟨v9,bT⟩:=S5.out.then hem
 have S6:=Lib.hid bT
 have oU:=Lib.hid (S5.out.i.keep hem.choose_spec.2.1)
 clear hem bT
 clear aZ q0 q1 q2 q3 q4 q5 q6 q8 q9 z0 z1 z2 z3 z5 z6 z7 z8 z9 aY
 clear z4
 simp only [List.nil_append] at S6
 obtain ⟨g,cp,rfl,hgB,hic,hfz⟩:=S6.out.i.M9 (k:=kb) (x:=(⟨10,lc.length,0,0,0,nx⟩:bS)) (by rw [← C9.out,List.getElem?_append_right (by omega)]; simp)
 have hst:=hic 2 _ rfl
 have hfs:=hfz (kb * 6 + 2)
 have q7:=S6.out.i.cells.2.2.2.2.2.2.2.2.1
 have aZ:=S6.out.i.cells.1
 obtain ⟨kn,hkn⟩: ∃kn:Nat,(code++(XX++[(⟨10,lc.length,0,0,0,nx⟩:bS)]++GB++[(⟨5,code.length,0,0,0,nx⟩:bS)])).length=kn:=⟨_,rfl⟩
 rw [hkn] at q7
 have i0:(0:Int)≤(kb:Int):=by omega
 have i1:(kb:Int) < (kn:Int):=by
  have:=C9.out
  simp only [List.length_append,List.length_cons,List.length_nil] at hkn; omega
 have zX:=Lib.hid hkn
 clear hic hfz hkn hgB
 go_upto_region 9 with fail
 go_still_tail 12,(by kernel_rfl)
 change wpList _ _ _ _ _ (World.drew w7)
 go_wp2_with fail
 have hs7:=(S6.out.below (below_drewN (n:=1) (Below.refl (World.heap w7).size w7))).patch XX.length 2 (⟨10,lc.length,0,0,0,nx⟩:bS) (⟨10,lc.length,kn,0,0,nx⟩:bS) (.int .i64 (kn:Int)) (by simp) (by decide) rfl
 rw [show World.drewN w7 1=World.drew w7 from rfl,C9.out] at hs7
 have S7:=Lib.hid hs7
 clear S6 hs7
 refine bodyPost_end (v:= .tuple #[]) (by simp [results,Tryz.results109,go_sem]) rfl ⟨rfl,?_⟩
 refine S7.out.nL vg.out ?_
 rw [P5 bY.out K8.out KL.out (by simp; omega),← zX.out]
 simp [List.set_append]
 omega
end Go.Proofs.YtdajkddgnfgijaaGreatDoor
end
section
set_option linter.unusedSimpArgs false
set_option linter.unusedVariables false
namespace Go.Proofs.YtdajkddgnfgijaaGreatDoor
open Go.RowKit
open Md
theorem Um {W:Wo} {lc:List ByteArray} {h:aX} {b e:aP} {nx pos:Nat} (hop:h.op=2) {X B:List bS} (hX:jX W lc nx h.dN h.xn h.dM h.aR lc.length=X) {q:Nat} (hB:iI W lc b (nx + 1) q=B) (hq:q=pos + X.length + 1) (he:e= .nil):
 jP W lc h b e nx pos=X++[⟨10,lc.length,((pos + X.length + 1 + B.length:Nat):Int),0,0,nx⟩]++B:=by
 subst hq
 unfold jP yV lH
 rw [show fK W lc nx h lc.length=X from hX]
 simp only [hop,he]
 rw [show ((2:Int) == 2)=true from rfl]
 simp only [Bool.true_or,if_true,aP.none]
 rw [show pos + (X.length + 1)=pos + X.length + 1 from rfl,hB]
theorem Tx {W:Wo} {lc:List ByteArray} {h:aX} {b e:aP} {nx pos:Nat} (hop:h.op=2) {X B E:List bS} (hX:jX W lc nx h.dN h.xn h.dM h.aR lc.length=X) {q:Nat} (hB:iI W lc b (nx + 1) q=B) (hq:q=pos + X.length + 1) {n r:Nat} (hE:iI W lc e n r=E) (hn:n=nx + 1 + bM b) (hr:r=pos + X.length + 1 + B.length + 1) (he:e.none=false):
 jP W lc h b e nx pos=X++[⟨10,lc.length,((pos + X.length + 1 + B.length + 1:Nat):Int),0,0,nx⟩]++B++[⟨5,((pos + X.length + 1 + B.length + 1 + E.length:Nat):Int),0,0,0,nx⟩]++E:=by
 subst hq hn hr
 unfold jP yV lH
 rw [show fK W lc nx h lc.length=X from hX]
 simp only [hop,he]
 rw [show ((2:Int) == 2)=true from rfl]
 simp only [Bool.true_or,if_true,Bool.false_eq_true,if_false]
 rw [show pos + (X.length + 1)=pos + X.length + 1 from rfl,hB,hE]
theorem D8 {e:aP} (h:e.len=0):e= .nil:=by
 cases e with
 | nil=>rfl
 | cons=>simp [aP.len] at h
theorem Qi {e:aP} (h:0 < e.len):e.none=false:=by
 cases e with
 | nil=>simp [aP.len] at h
 | cons=>rfl
theorem Kt (A:List bS) (p:bS) (B:List bS) (q:bS) (E:List bS):(A++p ::(B++[q])++E)[A.length + 1 + B.length]? =some q:=by
 have e:A++p ::(B++[q])++E=(A++p ::B)++(q ::E):=by simp
 rw [e,List.getElem?_append_right (by simp; omega)]
 rw [show A.length + 1 + B.length - (A++p ::B).length=0 by simp; omega]
 rfl
theorem set_mid (A:List bS) (p:bS) (B:List bS) (q q':bS) (E:List bS):(A++p ::(B++[q])++E).set (A.length + 1 + B.length) q'=A++[p]++B++[q']++E:=by
 have e:A++p ::(B++[q])++E=(A++p ::B)++(q ::E):=by simp
 rw [e,List.set_append_right _ _ (by simp; omega)]
 rw [show A.length + 1 + B.length - (A++p ::B).length=0 by simp; omega]
 simp
set_option maxHeartbeats 8000000 in
set_option maxRecDepth 100000 in
theorem U8 {w:World} {L:GL} {W:Wo} {s:iE} {lc:List ByteArray} {al:Option Addr} {cl:Nat} {v:Value} {code:List bS} {h:aX} {e0 e1:aP} {sl:Sl} {nx:Nat} (hI:dX 90 w L W s lc al cl v code ((nx + 1:Nat):Int) (nx:Nat)) (hp:iB w L W code h e0 e1 sl nx) (hop:h.op=2) (dh:dY e0) (dx:dY e1):
 Calls Tryz.prog 108 #[.pointer (some ⟨L.gb,0,none⟩),cO h e0 e1 sl] w fun e w'=>e= .returned (.tuple #[])∧oV (fun a' _=>a'=((nx + 1 + bM e0 + bM e1:Nat):Int)) 90 w L W s lc al cl v code (jP W lc h e0 e1 nx code.length) w':=by
 have FP:=Lib.hid (LB hp.sh hp.ok.1 (by rw [hop]; rfl))
 have bY:=Lib.hid hop
 clear hop
 have HI:=Lib.hid hI
 have HP:=Lib.hid hp
 have HL:=Lib.hid hp.len
 have nH:=Lib.hid hp.cnt
 have lW:=Lib.hid hp.ok.2
 have hl0:(lc.length:Int)≤1000:=by have:=hI.few; omega
 clear hI hp
 unfold cO
 go_enter Tryz.func108,Tryz.ntmps108
 go_upto_region 1 with fail
 generalize hW:World.alloc w _=w1
 obtain ⟨nb,hnb⟩: ∃n,w.heap.size=n:=⟨_,rfl⟩
 have HB:Hid (Below w.heap.size w w1):=Lib.hid (by rw [← hW]; exact aj _ _)
 have HX:Hid (w1.heap[nb]? =some (.cells (stA h e0 e1 sl) 131 (0,0))):=Lib.hid (by rw [← hW,← hnb]; exact heap_alloc_new _ _)
 have S0:=Lib.hid (gN.start HI.out HB.out hnb HX.out)
 have bQ:=Lib.hid (HP.out.below (HI.out.keep (Kg.of_below HB.out)))
 rw [hnb]
 clear hW hnb HX HB
 have kD:=Lib.hid dh
 have jy:=Lib.hid dx
 have Gx:=Lib.hid (rG e0)
 clear dh dx
 obtain ⟨aZ,q0,q1,q2,q3,q4,q5,q6,q7,q8,q9,qf⟩:=S0.out.i.cells
 have z0:=(ah S0.out.x (j:=0) rfl).2
 have z1:=(ah S0.out.x (j:=1) rfl).2
 have z2:=(ah S0.out.x (j:=2) rfl).2
 have z3:=(ah S0.out.x (j:=3) rfl).2
 have z4:=(ah S0.out.x (j:=4) rfl).2
 have z5:=(ah S0.out.x (j:=5) rfl).2
 have z6:=(ah S0.out.x (j:=6) rfl).2
 have z7:=(ah S0.out.x (j:=7) rfl).2
 have z8:=(ah S0.out.x (j:=8) rfl).2
 have z9:=(ah S0.out.x (j:=9) rfl).2
 have aY:=(ah S0.out.x (j:=10) rfl).2
 clear qf q7
 simp only [stA,List.getElem_toArray,List.getElem_cons_zero,List.getElem_cons_succ] at z0 z1 z2 z3 z4 z5 z6 z7 z8 z9 aY
 go_quiet (fail)
 have aU:=Lib.hid (bQ.out.below ((below_drewN (n:=nq) (Below.refl w1.heap.size w1)).mono S0.out.i.b0))
 have S1:=Lib.hid (S0.out.below (below_drewN (n:=nq) (Below.refl w1.heap.size w1)))
 clear S0
 clear aZ q0 q1 q2 q3 q4 q5 q6 q8 q9 z0 z1 z2 z3 z5 z6 z7 z8 z9 aY
 clear z4
 generalize w1.drewN nq=w2 at *
 obtain ⟨aZ,q0,q1,q2,q3,q4,q5,q6,q7,q8,q9,qf⟩:=S1.out.i.cells
 have z0:=(ah S1.out.x (j:=0) rfl).2
 have z1:=(ah S1.out.x (j:=1) rfl).2
 have z2:=(ah S1.out.x (j:=2) rfl).2
 have z3:=(ah S1.out.x (j:=3) rfl).2
 have z4:=(ah S1.out.x (j:=4) rfl).2
 have z5:=(ah S1.out.x (j:=5) rfl).2
 have z6:=(ah S1.out.x (j:=6) rfl).2
 have z7:=(ah S1.out.x (j:=7) rfl).2
 have z8:=(ah S1.out.x (j:=8) rfl).2
 have z9:=(ah S1.out.x (j:=9) rfl).2
 have aY:=(ah S1.out.x (j:=10) rfl).2
 clear qf q7
 simp only [stA,List.getElem_toArray,List.getElem_cons_zero,List.getElem_cons_succ] at z0 z1 z2 z3 z4 z5 z6 z7 z8 z9 aY
 go_wp2_with fail
 refine (pX h.dN h.xn h.dM h.aR _ L W s lc al cl _ _ ((nx + 1:Nat):Int) nx sl.dH sl.bR lc.length S1.out.i aU.out.m.1.2.2.2.2.2.1 aU.out.m.2.2.1 FP.out.1 FP.out.2 (by omega) (by have:=lW.out; unfold gH at this; omega) (by have:=HL.out; unfold gH at this; simp only [fD,List.length_append,List.length_cons,List.length_nil] at *; omega)).mono ?_
 rintro e w3 ⟨rfl,hem⟩
 have Cb:Hid ((jX W lc nx h.dN h.xn h.dM h.aR lc.length).length≤1 + fD h.aR):=Lib.hid (jD W lc nx h.dN h.xn h.dM h.aR lc.length)
 generalize G7:jX W lc nx h.dN h.xn h.dM h.aR lc.length=XX at *
 have K8:=Lib.hid G7
 obtain ⟨v9,bT⟩:=S1.out.then hem
 have S2:=Lib.hid bT
 have aW:=Lib.hid (aU.out.below (S1.out.i.keep hem.choose_spec.2.1))
 clear hem bT G7
 clear aZ q0 q1 q2 q3 q4 q5 q6 q8 q9 z0 z1 z2 z3 z5 z6 z7 z8 z9 aY
 clear z4
 have q7:=S2.out.i.cells.2.2.2.2.2.2.2.2.1
 obtain ⟨ao8,ae0,IU,-,-⟩:=S2.out.i.form
 rw [IU] at q7
 have HV8:=Lib.hid IU
 clear IU
 obtain ⟨kb,hkb⟩: ∃kb:Nat,code.length + XX.length=kb:=⟨_,rfl⟩
 simp only [List.nil_append,List.length_append] at q7
 rw [hkb] at q7
 have C9:=Lib.hid hkb
 clear hkb
 obtain ⟨aZ,q0,q1,q2,q3,q4,q5,q6,q7,q8,q9,qf⟩:=S2.out.i.cells
 have z0:=(ah S2.out.x (j:=0) rfl).2
 have z1:=(ah S2.out.x (j:=1) rfl).2
 have z2:=(ah S2.out.x (j:=2) rfl).2
 have z3:=(ah S2.out.x (j:=3) rfl).2
 have z4:=(ah S2.out.x (j:=4) rfl).2
 have z5:=(ah S2.out.x (j:=5) rfl).2
 have z6:=(ah S2.out.x (j:=6) rfl).2
 have z7:=(ah S2.out.x (j:=7) rfl).2
 have z8:=(ah S2.out.x (j:=8) rfl).2
 have z9:=(ah S2.out.x (j:=9) rfl).2
 have aY:=(ah S2.out.x (j:=10) rfl).2
 clear qf q7
 simp only [stA,List.getElem_toArray,List.getElem_cons_zero,List.getElem_cons_succ] at z0 z1 z2 z3 z4 z5 z6 z7 z8 z9 aY
 go_wp2_with fail
 refine (eU (S2.out.i) ⟨10,lc.length,0,0,0,0⟩ (by have:=HL.out; simp only [fK,fD,List.length_append,List.length_cons,List.length_nil] at *; (have:=Cb.out; unfold gH at *; omega))).mono ?_
 rintro e w4 ⟨rfl,hem⟩
 obtain ⟨v9,bT⟩:=S2.out.then hem
 have S3:=Lib.hid bT
 have oU:=Lib.hid (S2.out.i.keep hem.choose_spec.2.1)
 clear hem bT
 have dS:=Lib.hid (aW.out.below oU.out)
 clear aZ q0 q1 q2 q3 q4 q5 q6 q8 q9 z0 z1 z2 z3 z5 z6 z7 z8 z9 aY
 clear z4 q7
 obtain ⟨aZ,q0,q1,q2,q3,q4,q5,q6,q7,q8,q9,qf⟩:=S3.out.i.cells
 have z0:=(ah S3.out.x (j:=0) rfl).2
 have z1:=(ah S3.out.x (j:=1) rfl).2
 have z2:=(ah S3.out.x (j:=2) rfl).2
 have z3:=(ah S3.out.x (j:=3) rfl).2
 have z4:=(ah S3.out.x (j:=4) rfl).2
 have z5:=(ah S3.out.x (j:=5) rfl).2
 have z6:=(ah S3.out.x (j:=6) rfl).2
 have z7:=(ah S3.out.x (j:=7) rfl).2
 have z8:=(ah S3.out.x (j:=8) rfl).2
 have z9:=(ah S3.out.x (j:=9) rfl).2
 have aY:=(ah S3.out.x (j:=10) rfl).2
 clear qf q7
 simp only [stA,List.getElem_toArray,List.getElem_cons_zero,List.getElem_cons_succ] at z0 z1 z2 z3 z4 z5 z6 z7 z8 z9 aY
 go_wp2_with fail
 refine (kD.out _ L W s lc al cl _ _ nx (nx + 1) sl.bV sl.bC S3.out.i (dS.out.b7) dS.out.m.2.2.2.1 dS.out.sb dS.out.ob (by have:=HL.out; have:=Cb.out; simp only [List.length_append,List.length_nil,List.length_cons] at *; unfold gH at *; omega) (by have:=nH.out; unfold gH at this; omega)).mono ?_
 rintro e w5 ⟨rfl,hem⟩
 generalize wE:iI W lc e0 (nx + 1) _=GB at hem
 have KL:=Lib.hid wE
 have EY:Hid (GB.length≤kZ e0):=Lib.hid (by rw [← wE]; exact oC _ _ _ _ _)
 clear wE
 obtain ⟨v9,a3,b3,ku,bT⟩:=S3.out.list hem
 have S4:=Lib.hid bT
 have vg:=Lib.hid ku
 have zP:=Lib.hid (S3.out.i.keep hem.choose_spec.choose_spec.choose_spec.2.2.1)
 clear hem bT ku
 clear aZ q0 q1 q2 q3 q4 q5 q6 q8 q9 z0 z1 z2 z3 z5 z6 z7 z8 z9 aY
 clear z4
 have e3:a3=((nx + 1 + bM e0:Nat):Int):=vg.out
 subst e3
 have Dh:=vg
 clear vg
 simp only [List.nil_append] at S4
 obtain ⟨aZ,q0,q1,q2,q3,q4,q5,q6,q7,q8,q9,qf⟩:=S4.out.i.cells
 have z0:=(ah S4.out.x (j:=0) rfl).2
 have z1:=(ah S4.out.x (j:=1) rfl).2
 have z2:=(ah S4.out.x (j:=2) rfl).2
 have z3:=(ah S4.out.x (j:=3) rfl).2
 have z4:=(ah S4.out.x (j:=4) rfl).2
 have z5:=(ah S4.out.x (j:=5) rfl).2
 have z6:=(ah S4.out.x (j:=6) rfl).2
 have z7:=(ah S4.out.x (j:=7) rfl).2
 have z8:=(ah S4.out.x (j:=8) rfl).2
 have z9:=(ah S4.out.x (j:=9) rfl).2
 have aY:=(ah S4.out.x (j:=10) rfl).2
 clear qf q7
 simp only [stA,List.getElem_toArray,List.getElem_cons_zero,List.getElem_cons_succ] at z0 z1 z2 z3 z4 z5 z6 z7 z8 z9 aY
 rcases Nat.eq_zero_or_pos e1.len with h0 | h0
 ·rw [h0] at aY
  go_wp2_with fail
  clear aZ q0 q1 q2 q3 q4 q5 q6 q8 q9 z0 z1 z2 z3 z5 z6 z7 z8 z9 aY
  clear z4
  obtain ⟨g,cp,rfl,hgB,hic,hfz⟩:=S4.out.i.M9 (k:=kb) (x:=(⟨10,lc.length,0,0,0,nx⟩:bS)) (by rw [← C9.out,List.getElem?_append_right (by omega)]; simp)
  have hst:=hic 2 _ rfl
  have hfs:=hfz (kb * 6 + 2)
  have q7:=S4.out.i.cells.2.2.2.2.2.2.2.2.1
  have aZ:=S4.out.i.cells.1
  obtain ⟨kn,hkn⟩: ∃kn:Nat,(code++(XX++[(⟨10,lc.length,0,0,0,nx⟩:bS)]++GB)).length=kn:=⟨_,rfl⟩
  rw [hkn] at q7
  have i0:(0:Int)≤(kb:Int):=by omega
  have i1:(kb:Int) < (kn:Int):=by
   have:=C9.out
   simp only [List.length_append,List.length_cons,List.length_nil] at hkn; omega
  have zX:=Lib.hid hkn
  clear hic hfz hkn hgB
  go_upto_region 13 with fail
  go_still_tail 12,(by kernel_rfl)
  change wpList _ _ _ _ _ (World.drew w5)
  go_wp2_with fail
  have hs7:=(S4.out.below (below_drewN (n:=1) (Below.refl (World.heap w5).size w5))).patch XX.length 2 (⟨10,lc.length,0,0,0,nx⟩:bS) (⟨10,lc.length,kn,0,0,nx⟩:bS) (.int .i64 (kn:Int)) (by simp) (by decide) rfl
  rw [show World.drewN w5 1=World.drew w5 from rfl,C9.out] at hs7
  have S7:=Lib.hid hs7
  clear S4 hs7
  refine bodyPost_end (v:= .tuple #[]) (by simp [results,Tryz.results108,go_sem]) rfl ⟨rfl,?_⟩
  have hn:=D8 h0
  refine S7.out.nL (by rw [hn]; rfl) ?_
  rw [Um bY.out K8.out KL.out (by simp; omega) hn,← zX.out]
  simp [List.set_append]
  omega
 ·have h1:(0:Int) < (e1.len:Int):=by omega
  have H0:=Lib.hid h0
  clear h0
  have q7:=S4.out.i.cells.2.2.2.2.2.2.2.2.1
  obtain ⟨ao7,zA,hv7,-,-⟩:=S4.out.i.form
  rw [hv7] at q7
  have HV7:=Lib.hid hv7
  clear hv7
  obtain ⟨jb,hjb⟩: ∃jb:Nat,(code++(XX++[(⟨10,lc.length,0,0,0,nx⟩:bS)]++GB)).length=jb:=⟨_,rfl⟩
  rw [hjb] at q7
  have HJB:=Lib.hid hjb
  have f9:=S4.out.i.cells.2.2.2.2.2.2.2.2.2.2.2 9
  clear hjb
  go_upto_region 9 with fail
  generalize hW:World.setCell w5 _ _=w6
  have S5:=Lib.hid (show gN _ _ _ _ _ _ _ _ _ _ _ _ _ _ _ _ w6 _ by rw [← hW]; exact S4.out.je nx)
  clear hW f9 S4
  clear aZ q0 q1 q2 q3 q4 q5 q6 q8 q9 z0 z1 z2 z3 z5 z6 z7 z8 z9 aY
  clear z4 q7 HV7
  obtain ⟨aZ,q0,q1,q2,q3,q4,q5,q6,q7,q8,q9,qf⟩:=S5.out.i.cells
  have z0:=(ah S5.out.x (j:=0) rfl).2
  have z1:=(ah S5.out.x (j:=1) rfl).2
  have z2:=(ah S5.out.x (j:=2) rfl).2
  have z3:=(ah S5.out.x (j:=3) rfl).2
  have z4:=(ah S5.out.x (j:=4) rfl).2
  have z5:=(ah S5.out.x (j:=5) rfl).2
  have z6:=(ah S5.out.x (j:=6) rfl).2
  have z7:=(ah S5.out.x (j:=7) rfl).2
  have z8:=(ah S5.out.x (j:=8) rfl).2
  have z9:=(ah S5.out.x (j:=9) rfl).2
  have aY:=(ah S5.out.x (j:=10) rfl).2
  clear qf q7
  simp only [stA,List.getElem_toArray,List.getElem_cons_zero,List.getElem_cons_succ] at z0 z1 z2 z3 z4 z5 z6 z7 z8 z9 aY
  go_wp2_with fail
  refine (eU (S5.out.i) ⟨5,0,0,0,0,0⟩ (by have:=HL.out; simp only [fK,fD,List.length_append,List.length_cons,List.length_nil] at *; (have:=EY.out; have:=Cb.out; unfold gH at *; omega))).mono ?_
  rintro e w7 ⟨rfl,hem⟩
  obtain ⟨v9,bT⟩:=S5.out.then hem
  have S6:=Lib.hid bT
  have oU:=Lib.hid (S5.out.i.keep hem.choose_spec.2.1)
  clear hem bT
  clear aZ q0 q1 q2 q3 q4 q5 q6 q8 q9 z0 z1 z2 z3 z5 z6 z7 z8 z9 aY
  clear z4
  obtain ⟨g,cp,rfl,hgB,hic,hfz⟩:=S6.out.i.M9 (k:=kb) (x:=(⟨10,lc.length,0,0,0,nx⟩:bS)) (by rw [← C9.out,List.getElem?_append_right (by omega)]; simp)
  have hst:=hic 2 _ rfl
  have hfs:=hfz (kb * 6 + 2)
  have q7:=S6.out.i.cells.2.2.2.2.2.2.2.2.1
  have aZ:=S6.out.i.cells.1
  obtain ⟨kn,hkn⟩: ∃kn:Nat,(code++(XX++[(⟨10,lc.length,0,0,0,nx⟩:bS)]++GB++[(⟨5,0,0,0,0,nx⟩:bS)])).length=kn:=⟨_,rfl⟩
  rw [hkn] at q7
  have i0:(0:Int)≤(kb:Int):=by omega
  have i1:(kb:Int) < (kn:Int):=by
   have:=C9.out
   simp only [List.length_append,List.length_cons,List.length_nil] at hkn; omega
  have zX:=Lib.hid hkn
  clear hic hfz hkn hgB
  go_upto_region 10 with fail
  go_still_tail 12,(by kernel_rfl)
  change wpList _ _ _ _ _ (World.drew w7)
  go_upto_region 11 with fail
  have hs7:=(S6.out.below (below_drewN (n:=1) (Below.refl (World.heap w7).size w7))).patch XX.length 2 (⟨10,lc.length,0,0,0,nx⟩:bS) (⟨10,lc.length,kn,0,0,nx⟩:bS) (.int .i64 (kn:Int)) (by simp) (by decide) rfl
  rw [show World.drewN w7 1=World.drew w7 from rfl,C9.out] at hs7
  have S7:=Lib.hid hs7
  clear S6 hs7
  rw [show (World.drew w7).setCell ⟨g,kb * 6 + 2,none⟩ (.int .i64 (kn:Int))=(w7.setCell ⟨g,kb * 6 + 2,none⟩ (.int .i64 (kn:Int))).drew from rfl] at S7
  have mG:=Lib.hid (HP.out.below (HI.out.keep S7.out.k))
  generalize DU:World.drew (World.setCell w7 _ _)=w8 at *
  clear DU hst hfs q7 aZ i0 i1
  simp only [List.append_assoc,List.cons_append,List.nil_append,List.set_append,Nat.lt_irrefl,if_false,Nat.sub_self,List.set_cons_zero] at S7
  obtain ⟨aZ,q0,q1,q2,q3,q4,q5,q6,q7,q8,q9,qf⟩:=S7.out.i.cells
  have z0:=(ah S7.out.x (j:=0) rfl).2
  have z1:=(ah S7.out.x (j:=1) rfl).2
  have z2:=(ah S7.out.x (j:=2) rfl).2
  have z3:=(ah S7.out.x (j:=3) rfl).2
  have z4:=(ah S7.out.x (j:=4) rfl).2
  have z5:=(ah S7.out.x (j:=5) rfl).2
  have z6:=(ah S7.out.x (j:=6) rfl).2
  have z7:=(ah S7.out.x (j:=7) rfl).2
  have z8:=(ah S7.out.x (j:=8) rfl).2
  have z9:=(ah S7.out.x (j:=9) rfl).2
  have aY:=(ah S7.out.x (j:=10) rfl).2
  clear qf q7
  simp only [stA,List.getElem_toArray,List.getElem_cons_zero,List.getElem_cons_succ] at z0 z1 z2 z3 z4 z5 z6 z7 z8 z9 aY
  go_wp2_with fail
  have ac9:=zX
  clear zX
  have QB:Hid (code.length + (XX.length + 1 + GB.length)=jb):=Lib.hid (by have:=HJB.out; simp only [List.length_append,List.length_cons,List.length_nil] at this; omega)
  refine (jy.out _ L W s lc al cl _ _ nx (nx + 1 + bM e0) sl.eB sl.dK S7.out.i (mG.out.e7) mG.out.m.2.2.2.2 mG.out.se mG.out.oe (by have:=HL.out; have:=Cb.out; have:=EY.out; simp only [List.length_append,List.length_nil,List.length_cons] at *; unfold gH at *; omega) (by have h5:=nH.out; have h6:=Gx.out; unfold gH at h5; omega)).mono ?_
  rintro e w9 ⟨rfl,hem⟩
  generalize wE:iI W lc e1 (nx + 1 + bM e0) _=GE at hem
  have Ir:=Lib.hid wE
  have an8:Hid (GE.length≤kZ e1):=Lib.hid (by rw [← wE]; exact oC _ _ _ _ _)
  clear wE
  obtain ⟨v9,a5,b5,ku,bT⟩:=S7.out.list hem
  have S8:=Lib.hid bT
  have vg:=Lib.hid ku
  have zP:=Lib.hid (S7.out.i.keep hem.choose_spec.choose_spec.choose_spec.2.2.1)
  clear hem bT ku
  clear aZ q0 q1 q2 q3 q4 q5 q6 q8 q9 z0 z1 z2 z3 z5 z6 z7 z8 z9 aY
  clear z4
  obtain ⟨g',cp,rfl,hgB,hic,hfz⟩:=S8.out.i.M9 (k:=jb) (x:=(⟨5,0,0,0,0,nx⟩:bS)) (by rw [← QB.out,List.getElem?_append_right (by omega),Nat.add_sub_cancel_left]; exact (Kt _ _ _ _ _))
  have hst:=hic 1 _ rfl
  have hfs:=hfz (jb * 6 + 1)
  have q7:=S8.out.i.cells.2.2.2.2.2.2.2.2.1
  have aZ:=S8.out.i.cells.1
  obtain ⟨MU,hkn'⟩: ∃MU:Nat,(code++(XX++(⟨10,lc.length,kn,0,0,nx⟩:bS) ::(GB++[(⟨5,0,0,0,0,nx⟩:bS)])++GE)).length=MU:=⟨_,rfl⟩
  rw [hkn'] at q7
  have i0:(0:Int)≤(jb:Int):=by omega
  have i1:(jb:Int) < (MU:Int):=by
   have:=QB.out
   simp only [List.length_append,List.length_cons,List.length_nil] at hkn'; omega
  have zX:=Lib.hid hkn'
  clear hic hfz hkn' hgB
  go_upto_region 12 with fail
  go_still_tail 12,(by kernel_rfl)
  change wpList _ _ _ _ _ (World.drew w9)
  go_wp2_with fail
  have hs7:=(S8.out.below (below_drewN (n:=1) (Below.refl (World.heap w9).size w9))).patch (XX.length + 1 + GB.length) 1 (⟨5,0,0,0,0,nx⟩:bS) (⟨5,MU,0,0,0,nx⟩:bS) (.int .i64 (MU:Int)) (Kt _ _ _ _ _) (by decide) rfl
  rw [show World.drewN w9 1=World.drew w9 from rfl,QB.out] at hs7
  have S9:=Lib.hid hs7
  clear S8 hs7
  refine bodyPost_ret (v:= .tuple #[]) (by simp [results,Tryz.results108,go_sem]) rfl ⟨rfl,?_⟩
  refine S9.out.nL vg.out ?_
  rw [Tx bY.out K8.out KL.out (by simp; omega) Ir.out rfl (by simp; omega) (Qi H0.out),set_mid,← zX.out,← ac9.out]
  simp
  omega
end Go.Proofs.YtdajkddgnfgijaaGreatDoor
end
section
set_option linter.unusedSimpArgs false
set_option linter.unusedVariables false
namespace Go.Proofs.YtdajkddgnfgijaaGreatDoor
open Go.RowKit
open Md
theorem rH {W:Wo} {lc:List ByteArray} {h:aX} {b e:aP} {nx pos:Nat} (h1:4≤h.op) (h2:h.op≤8) {B:List bS} (hB:iI W lc b (nx + 1) (pos + 1)=B):jP W lc h b e nx pos=[⟨wG h.op,Dq W h,0,0,0,nx⟩]++B++[⟨wG h.op + 1,Dq W h,0,0,0,nx⟩]:=by
 unfold jP yV lH
 have e2:(h.op == 2)=false:=by rw [beq_eq_false_iff_ne]; omega
 have e3:(h.op == 3)=false:=by rw [beq_eq_false_iff_ne]; omega
 have e4:(decide (4≤h.op) && decide (h.op≤8))=true:=by simp; omega
 simp only [e2,e3,e4,Bool.false_or,Bool.false_eq_true,if_false,if_true]
 rw [hB]
theorem lY {W:Wo} {lc:List ByteArray} {h:aX} {b e:aP} {nx pos:Nat} (h1:h.op=1∨9≤h.op):jP W lc h b e nx pos=rV W lc nx h:=by
 unfold jP yV lH
 have e2:(h.op == 2)=false:=by rw [beq_eq_false_iff_ne]; omega
 have e3:(h.op == 3)=false:=by rw [beq_eq_false_iff_ne]; omega
 have e4:(decide (4≤h.op) && decide (h.op≤8))=false:=by simp; omega
 simp only [e2,e3,e4,Bool.false_eq_true,if_false]
theorem iM {h:aX} {b e:aP} (hs:oK h b.len e.len=true):(1≤h.op∧h.op≤15)∧(h.op≠2→e= .nil)∧(h.op=1∨9≤h.op→b= .nil):=by
 unfold oK at hs
 simp only [Bool.and_eq_true] at hs
 obtain ⟨⟨⟨h1,-⟩,-,-⟩,-,h5,h6⟩:=hs
 unfold fO at h1
 simp only [Bool.and_eq_true,decide_eq_true_eq] at h1
 refine ⟨h1,fun hn=> ?_,fun hn=> ?_⟩
 ·rw [Bool.or_eq_true] at h6
  rcases h6 with h6 | h6
  ·unfold fE at h6; exact absurd (by simpa using h6) hn
  ·exact D8 (by simpa using h6)
 ·rw [Bool.or_eq_true] at h5
  rcases h5 with h5 | h5
  ·unfold fB at h5; simp only [Bool.and_eq_true,decide_eq_true_eq] at h5; omega
  ·exact D8 (by simpa using h5)
end Go.Proofs.YtdajkddgnfgijaaGreatDoor
end
section
set_option linter.unusedSimpArgs false
set_option linter.unusedVariables false
namespace Go.Proofs.YtdajkddgnfgijaaGreatDoor
open Go.RowKit
open Md
set_option maxHeartbeats 4000000 in
set_option maxRecDepth 100000 in
theorem Uw {w:World} {L:GL} {W:Wo} {s:iE} {lc:List ByteArray} {al:Option Addr} {cl:Nat} {v:Value} {code:List bS} {h:aX} {e0 e1:aP} {sl:Sl} {nx:Nat} (hI:dX 90 w L W s lc al cl v code ((nx + 1:Nat):Int) (nx:Nat)) (hp:iB w L W code h e0 e1 sl nx) (hop:h.op=1) (dh:dY e0) (dx:dY e1):
 Calls Tryz.prog 71 #[.pointer (some ⟨L.gb,0,none⟩),cO h e0 e1 sl] w fun e w'=>e= .returned (.tuple #[])∧oV (fun a' _=>a'=((nx + 1 + bM e0 + bM e1:Nat):Int)) 90 w L W s lc al cl v code (jP W lc h e0 e1 nx code.length) w':=by
 have kD:=Lib.hid dh
 have jy:=Lib.hid dx
 have nk:(h.op == 1)=true:=by rw [hop]; rfl
 have ng:(h.op == 2)=false:=by rw [hop]; rfl
 have mZ:(h.op == 3)=false:=by rw [hop]; rfl
 have nG:(h.op == 4)=false:=by rw [hop]; rfl
 have nu:(h.op == 5)=false:=by rw [hop]; rfl
 have nA:(h.op == 6)=false:=by rw [hop]; rfl
 have xL:(h.op == 7)=false:=by rw [hop]; rfl
 have xC:(h.op == 8)=false:=by rw [hop]; rfl
 have wR:(h.op == 9)=false:=by rw [hop]; rfl
 have sD:(h.op == 10)=false:=by rw [hop]; rfl
 have rC:(h.op == 11)=false:=by rw [hop]; rfl
 have rJ:(h.op == 12)=false:=by rw [hop]; rfl
 have sF:(h.op == 13)=false:=by rw [hop]; rfl
 have rA:(h.op == 14)=false:=by rw [hop]; rfl
 have rE:(h.op == 15)=false:=by rw [hop]; rfl
 have hin:=iM hp.sh
 have bY:=Lib.hid hop
 clear hop dh dx
 have HI:=Lib.hid hI
 have HP:=Lib.hid hp
 have HL:=Lib.hid hp.len
 have nH:=Lib.hid hp.cnt
 have lW:=Lib.hid hp.ok.2
 have hl0:(lc.length:Int)≤1000:=by have:=hI.few; omega
 clear hI hp
 unfold cO
 go_enter Tryz.func71,Tryz.ntmps71
 go_upto_region 1 with fail
 generalize hW:World.alloc w _=w1
 obtain ⟨nb,hnb⟩: ∃n,w.heap.size=n:=⟨_,rfl⟩
 have HB:Hid (Below w.heap.size w w1):=Lib.hid (by rw [← hW]; exact aj _ _)
 have HX:Hid (w1.heap[nb]? =some (.cells (stA h e0 e1 sl) 131 (0,0))):=Lib.hid (by rw [← hW,← hnb]; exact heap_alloc_new _ _)
 have S0:=Lib.hid (gN.start HI.out HB.out hnb HX.out)
 have bQ:=Lib.hid (HP.out.below (HI.out.keep (Kg.of_below HB.out)))
 rw [hnb]
 clear hW hnb HX HB
 obtain ⟨aZ,q0,q1,q2,q3,q4,q5,q6,q7,q8,q9,qf⟩:=S0.out.i.cells
 have z0:=(ah S0.out.x (j:=0) rfl).2
 have z1:=(ah S0.out.x (j:=1) rfl).2
 have z2:=(ah S0.out.x (j:=2) rfl).2
 have z3:=(ah S0.out.x (j:=3) rfl).2
 have z4:=(ah S0.out.x (j:=4) rfl).2
 have z5:=(ah S0.out.x (j:=5) rfl).2
 have z6:=(ah S0.out.x (j:=6) rfl).2
 have z7:=(ah S0.out.x (j:=7) rfl).2
 have z8:=(ah S0.out.x (j:=8) rfl).2
 have z9:=(ah S0.out.x (j:=9) rfl).2
 have aY:=(ah S0.out.x (j:=10) rfl).2
 clear qf q7
 simp only [stA,List.getElem_toArray,List.getElem_cons_zero,List.getElem_cons_succ] at z0 z1 z2 z3 z4 z5 z6 z7 z8 z9 aY
 obtain rfl:=hin.2.1 (by rw [bY.out]; decide)
 obtain rfl:=hin.2.2 (.inl bY.out)
 go_wp2_with fail
 refine (JB S0.out.i (h:=h) (e0:= .nil) (e1:= .nil) (sl:=sl) (nx:=nx) (by simpa using bQ.out) bY.out).mono ?_
 rintro e w2 ⟨rfl,hem⟩
 obtain ⟨v9,bT⟩:=S0.out.then hem
 clear hem
 clear aZ q0 q1 q2 q3 q4 q5 q6 q8 q9 z0 z1 z2 z3 z5 z6 z7 z8 z9 aY
 clear z4
 go_wp2_with fail
 exact bodyPost_end (v:= .tuple #[]) (by simp [results,Tryz.results71,go_sem]) rfl ⟨rfl,bT.nL rfl (by rw [lY (.inl bY.out)]; unfold rV; rw [bY.out]; rfl)⟩
end Go.Proofs.YtdajkddgnfgijaaGreatDoor
end
section
set_option linter.unusedSimpArgs false
set_option linter.unusedVariables false
namespace Go.Proofs.YtdajkddgnfgijaaGreatDoor
open Go.RowKit
open Md
set_option maxHeartbeats 4000000 in
set_option maxRecDepth 100000 in
theorem Wh {w:World} {L:GL} {W:Wo} {s:iE} {lc:List ByteArray} {al:Option Addr} {cl:Nat} {v:Value} {code:List bS} {h:aX} {e0 e1:aP} {sl:Sl} {nx:Nat} (hI:dX 90 w L W s lc al cl v code ((nx + 1:Nat):Int) (nx:Nat)) (hp:iB w L W code h e0 e1 sl nx) (hop:h.op=2) (dh:dY e0) (dx:dY e1):
 Calls Tryz.prog 71 #[.pointer (some ⟨L.gb,0,none⟩),cO h e0 e1 sl] w fun e w'=>e= .returned (.tuple #[])∧oV (fun a' _=>a'=((nx + 1 + bM e0 + bM e1:Nat):Int)) 90 w L W s lc al cl v code (jP W lc h e0 e1 nx code.length) w':=by
 have kD:=Lib.hid dh
 have jy:=Lib.hid dx
 have nk:(h.op == 1)=false:=by rw [hop]; rfl
 have ng:(h.op == 2)=true:=by rw [hop]; rfl
 have mZ:(h.op == 3)=false:=by rw [hop]; rfl
 have nG:(h.op == 4)=false:=by rw [hop]; rfl
 have nu:(h.op == 5)=false:=by rw [hop]; rfl
 have nA:(h.op == 6)=false:=by rw [hop]; rfl
 have xL:(h.op == 7)=false:=by rw [hop]; rfl
 have xC:(h.op == 8)=false:=by rw [hop]; rfl
 have wR:(h.op == 9)=false:=by rw [hop]; rfl
 have sD:(h.op == 10)=false:=by rw [hop]; rfl
 have rC:(h.op == 11)=false:=by rw [hop]; rfl
 have rJ:(h.op == 12)=false:=by rw [hop]; rfl
 have sF:(h.op == 13)=false:=by rw [hop]; rfl
 have rA:(h.op == 14)=false:=by rw [hop]; rfl
 have rE:(h.op == 15)=false:=by rw [hop]; rfl
 have hin:=iM hp.sh
 have bY:=Lib.hid hop
 clear hop dh dx
 have HI:=Lib.hid hI
 have HP:=Lib.hid hp
 have HL:=Lib.hid hp.len
 have nH:=Lib.hid hp.cnt
 have lW:=Lib.hid hp.ok.2
 have hl0:(lc.length:Int)≤1000:=by have:=hI.few; omega
 clear hI hp
 unfold cO
 go_enter Tryz.func71,Tryz.ntmps71
 go_upto_region 1 with fail
 generalize hW:World.alloc w _=w1
 obtain ⟨nb,hnb⟩: ∃n,w.heap.size=n:=⟨_,rfl⟩
 have HB:Hid (Below w.heap.size w w1):=Lib.hid (by rw [← hW]; exact aj _ _)
 have HX:Hid (w1.heap[nb]? =some (.cells (stA h e0 e1 sl) 131 (0,0))):=Lib.hid (by rw [← hW,← hnb]; exact heap_alloc_new _ _)
 have S0:=Lib.hid (gN.start HI.out HB.out hnb HX.out)
 have bQ:=Lib.hid (HP.out.below (HI.out.keep (Kg.of_below HB.out)))
 rw [hnb]
 clear hW hnb HX HB
 obtain ⟨aZ,q0,q1,q2,q3,q4,q5,q6,q7,q8,q9,qf⟩:=S0.out.i.cells
 have z0:=(ah S0.out.x (j:=0) rfl).2
 have z1:=(ah S0.out.x (j:=1) rfl).2
 have z2:=(ah S0.out.x (j:=2) rfl).2
 have z3:=(ah S0.out.x (j:=3) rfl).2
 have z4:=(ah S0.out.x (j:=4) rfl).2
 have z5:=(ah S0.out.x (j:=5) rfl).2
 have z6:=(ah S0.out.x (j:=6) rfl).2
 have z7:=(ah S0.out.x (j:=7) rfl).2
 have z8:=(ah S0.out.x (j:=8) rfl).2
 have z9:=(ah S0.out.x (j:=9) rfl).2
 have aY:=(ah S0.out.x (j:=10) rfl).2
 clear qf q7
 simp only [stA,List.getElem_toArray,List.getElem_cons_zero,List.getElem_cons_succ] at z0 z1 z2 z3 z4 z5 z6 z7 z8 z9 aY
 go_wp2_with fail
 refine (U8 S0.out.i (h:=h) (e0:=e0) (e1:=e1) (sl:=sl) (nx:=nx) (by simpa using bQ.out) bY.out kD.out jy.out).mono ?_
 rintro e w2 ⟨rfl,hem⟩
 obtain ⟨v9,a9,b9,ku,bT⟩:=S0.out.list hem
 clear hem
 clear aZ q0 q1 q2 q3 q4 q5 q6 q8 q9 z0 z1 z2 z3 z5 z6 z7 z8 z9 aY
 clear z4
 go_wp2_with fail
 exact bodyPost_end (v:= .tuple #[]) (by simp [results,Tryz.results71,go_sem]) rfl ⟨rfl,bT.nL ku (by simp)⟩
end Go.Proofs.YtdajkddgnfgijaaGreatDoor
end
section
set_option linter.unusedSimpArgs false
set_option linter.unusedVariables false
namespace Go.Proofs.YtdajkddgnfgijaaGreatDoor
open Go.RowKit
open Md
set_option maxHeartbeats 4000000 in
set_option maxRecDepth 100000 in
theorem Xj {w:World} {L:GL} {W:Wo} {s:iE} {lc:List ByteArray} {al:Option Addr} {cl:Nat} {v:Value} {code:List bS} {h:aX} {e0 e1:aP} {sl:Sl} {nx:Nat} (hI:dX 90 w L W s lc al cl v code ((nx + 1:Nat):Int) (nx:Nat)) (hp:iB w L W code h e0 e1 sl nx) (hop:h.op=3) (dh:dY e0) (dx:dY e1):
 Calls Tryz.prog 71 #[.pointer (some ⟨L.gb,0,none⟩),cO h e0 e1 sl] w fun e w'=>e= .returned (.tuple #[])∧oV (fun a' _=>a'=((nx + 1 + bM e0 + bM e1:Nat):Int)) 90 w L W s lc al cl v code (jP W lc h e0 e1 nx code.length) w':=by
 have kD:=Lib.hid dh
 have jy:=Lib.hid dx
 have nk:(h.op == 1)=false:=by rw [hop]; rfl
 have ng:(h.op == 2)=false:=by rw [hop]; rfl
 have mZ:(h.op == 3)=true:=by rw [hop]; rfl
 have nG:(h.op == 4)=false:=by rw [hop]; rfl
 have nu:(h.op == 5)=false:=by rw [hop]; rfl
 have nA:(h.op == 6)=false:=by rw [hop]; rfl
 have xL:(h.op == 7)=false:=by rw [hop]; rfl
 have xC:(h.op == 8)=false:=by rw [hop]; rfl
 have wR:(h.op == 9)=false:=by rw [hop]; rfl
 have sD:(h.op == 10)=false:=by rw [hop]; rfl
 have rC:(h.op == 11)=false:=by rw [hop]; rfl
 have rJ:(h.op == 12)=false:=by rw [hop]; rfl
 have sF:(h.op == 13)=false:=by rw [hop]; rfl
 have rA:(h.op == 14)=false:=by rw [hop]; rfl
 have rE:(h.op == 15)=false:=by rw [hop]; rfl
 have hin:=iM hp.sh
 have bY:=Lib.hid hop
 clear hop dh dx
 have HI:=Lib.hid hI
 have HP:=Lib.hid hp
 have HL:=Lib.hid hp.len
 have nH:=Lib.hid hp.cnt
 have lW:=Lib.hid hp.ok.2
 have hl0:(lc.length:Int)≤1000:=by have:=hI.few; omega
 clear hI hp
 unfold cO
 go_enter Tryz.func71,Tryz.ntmps71
 go_upto_region 1 with fail
 generalize hW:World.alloc w _=w1
 obtain ⟨nb,hnb⟩: ∃n,w.heap.size=n:=⟨_,rfl⟩
 have HB:Hid (Below w.heap.size w w1):=Lib.hid (by rw [← hW]; exact aj _ _)
 have HX:Hid (w1.heap[nb]? =some (.cells (stA h e0 e1 sl) 131 (0,0))):=Lib.hid (by rw [← hW,← hnb]; exact heap_alloc_new _ _)
 have S0:=Lib.hid (gN.start HI.out HB.out hnb HX.out)
 have bQ:=Lib.hid (HP.out.below (HI.out.keep (Kg.of_below HB.out)))
 rw [hnb]
 clear hW hnb HX HB
 obtain ⟨aZ,q0,q1,q2,q3,q4,q5,q6,q7,q8,q9,qf⟩:=S0.out.i.cells
 have z0:=(ah S0.out.x (j:=0) rfl).2
 have z1:=(ah S0.out.x (j:=1) rfl).2
 have z2:=(ah S0.out.x (j:=2) rfl).2
 have z3:=(ah S0.out.x (j:=3) rfl).2
 have z4:=(ah S0.out.x (j:=4) rfl).2
 have z5:=(ah S0.out.x (j:=5) rfl).2
 have z6:=(ah S0.out.x (j:=6) rfl).2
 have z7:=(ah S0.out.x (j:=7) rfl).2
 have z8:=(ah S0.out.x (j:=8) rfl).2
 have z9:=(ah S0.out.x (j:=9) rfl).2
 have aY:=(ah S0.out.x (j:=10) rfl).2
 clear qf q7
 simp only [stA,List.getElem_toArray,List.getElem_cons_zero,List.getElem_cons_succ] at z0 z1 z2 z3 z4 z5 z6 z7 z8 z9 aY
 obtain rfl:=hin.2.1 (by rw [bY.out]; decide)
 go_wp2_with fail
 refine (NR S0.out.i (h:=h) (e0:=e0) (e1:= .nil) (sl:=sl) (nx:=nx) (by simpa using bQ.out) bY.out kD.out).mono ?_
 rintro e w2 ⟨rfl,hem⟩
 obtain ⟨v9,a9,b9,ku,bT⟩:=S0.out.list hem
 clear hem
 clear aZ q0 q1 q2 q3 q4 q5 q6 q8 q9 z0 z1 z2 z3 z5 z6 z7 z8 z9 aY
 clear z4
 go_wp2_with fail
 exact bodyPost_end (v:= .tuple #[]) (by simp [results,Tryz.results71,go_sem]) rfl ⟨rfl,bT.nL ku (by simp)⟩
end Go.Proofs.YtdajkddgnfgijaaGreatDoor
end
section
set_option linter.unusedSimpArgs false
set_option linter.unusedVariables false
namespace Go.Proofs.YtdajkddgnfgijaaGreatDoor
open Go.RowKit
open Md
set_option maxHeartbeats 4000000 in
set_option maxRecDepth 100000 in
theorem WT {w:World} {L:GL} {W:Wo} {s:iE} {lc:List ByteArray} {al:Option Addr} {cl:Nat} {v:Value} {code:List bS} {h:aX} {e0 e1:aP} {sl:Sl} {nx:Nat} (hI:dX 90 w L W s lc al cl v code ((nx + 1:Nat):Int) (nx:Nat)) (hp:iB w L W code h e0 e1 sl nx) (hop:h.op=4) (dh:dY e0) (dx:dY e1):
 Calls Tryz.prog 71 #[.pointer (some ⟨L.gb,0,none⟩),cO h e0 e1 sl] w fun e w'=>e= .returned (.tuple #[])∧oV (fun a' _=>a'=((nx + 1 + bM e0 + bM e1:Nat):Int)) 90 w L W s lc al cl v code (jP W lc h e0 e1 nx code.length) w':=by
 have kD:=Lib.hid dh
 have jy:=Lib.hid dx
 have nk:(h.op == 1)=false:=by rw [hop]; rfl
 have ng:(h.op == 2)=false:=by rw [hop]; rfl
 have mZ:(h.op == 3)=false:=by rw [hop]; rfl
 have nG:(h.op == 4)=true:=by rw [hop]; rfl
 have nu:(h.op == 5)=false:=by rw [hop]; rfl
 have nA:(h.op == 6)=false:=by rw [hop]; rfl
 have xL:(h.op == 7)=false:=by rw [hop]; rfl
 have xC:(h.op == 8)=false:=by rw [hop]; rfl
 have wR:(h.op == 9)=false:=by rw [hop]; rfl
 have sD:(h.op == 10)=false:=by rw [hop]; rfl
 have rC:(h.op == 11)=false:=by rw [hop]; rfl
 have rJ:(h.op == 12)=false:=by rw [hop]; rfl
 have sF:(h.op == 13)=false:=by rw [hop]; rfl
 have rA:(h.op == 14)=false:=by rw [hop]; rfl
 have rE:(h.op == 15)=false:=by rw [hop]; rfl
 have hin:=iM hp.sh
 have bY:=Lib.hid hop
 clear hop dh dx
 have HI:=Lib.hid hI
 have HP:=Lib.hid hp
 have HL:=Lib.hid hp.len
 have nH:=Lib.hid hp.cnt
 have lW:=Lib.hid hp.ok.2
 have hl0:(lc.length:Int)≤1000:=by have:=hI.few; omega
 clear hI hp
 unfold cO
 go_enter Tryz.func71,Tryz.ntmps71
 go_upto_region 1 with fail
 generalize hW:World.alloc w _=w1
 obtain ⟨nb,hnb⟩: ∃n,w.heap.size=n:=⟨_,rfl⟩
 have HB:Hid (Below w.heap.size w w1):=Lib.hid (by rw [← hW]; exact aj _ _)
 have HX:Hid (w1.heap[nb]? =some (.cells (stA h e0 e1 sl) 131 (0,0))):=Lib.hid (by rw [← hW,← hnb]; exact heap_alloc_new _ _)
 have S0:=Lib.hid (gN.start HI.out HB.out hnb HX.out)
 have bQ:=Lib.hid (HP.out.below (HI.out.keep (Kg.of_below HB.out)))
 rw [hnb]
 clear hW hnb HX HB
 obtain ⟨aZ,q0,q1,q2,q3,q4,q5,q6,q7,q8,q9,qf⟩:=S0.out.i.cells
 have z0:=(ah S0.out.x (j:=0) rfl).2
 have z1:=(ah S0.out.x (j:=1) rfl).2
 have z2:=(ah S0.out.x (j:=2) rfl).2
 have z3:=(ah S0.out.x (j:=3) rfl).2
 have z4:=(ah S0.out.x (j:=4) rfl).2
 have z5:=(ah S0.out.x (j:=5) rfl).2
 have z6:=(ah S0.out.x (j:=6) rfl).2
 have z7:=(ah S0.out.x (j:=7) rfl).2
 have z8:=(ah S0.out.x (j:=8) rfl).2
 have z9:=(ah S0.out.x (j:=9) rfl).2
 have aY:=(ah S0.out.x (j:=10) rfl).2
 clear qf q7
 simp only [stA,List.getElem_toArray,List.getElem_cons_zero,List.getElem_cons_succ] at z0 z1 z2 z3 z4 z5 z6 z7 z8 z9 aY
 obtain rfl:=hin.2.1 (by rw [bY.out]; decide)
 go_wp2_with fail
 have HZ:=Lib.hid (And.intro (Array.getElem?_eq_some_iff.1 S0.out.x).1 (And.intro z0 (And.intro z1 (And.intro z2 (And.intro z3 (And.intro z4 (And.intro z5 (And.intro z6 (And.intro z7 (And.intro z8 (And.intro z9 aY)))))))))))
 have HQ:=Lib.hid (And.intro aZ q6)
 clear aZ q0 q1 q2 q3 q4 q5 q6 q8 q9 z0 z1 z2 z3 z5 z6 z7 z8 z9 aY
 clear z4
 have Y0: ∀w',Below w1.heap.size w1 w'→w'.cell? ⟨nb,0,none⟩=some (.int .i64 h.op):=fun w' hb=>(hb.cell (p:=⟨nb,0,none⟩) HZ.out.1).trans HZ.out.2.1
 have Y1: ∀w',Below w1.heap.size w1 w'→w'.cell? ⟨nb,1,none⟩=some (.int .i64 h.line):=fun w' hb=>(hb.cell (p:=⟨nb,1,none⟩) HZ.out.1).trans HZ.out.2.2.1
 have Y2: ∀w',Below w1.heap.size w1 w'→w'.cell? ⟨nb,2,none⟩=some (.string h.nm):=fun w' hb=>(hb.cell (p:=⟨nb,2,none⟩) HZ.out.1).trans HZ.out.2.2.2.1
 have Y3: ∀w',Below w1.heap.size w1 w'→w'.cell? ⟨nb,3,none⟩=some (.string h.arg):=fun w' hb=>(hb.cell (p:=⟨nb,3,none⟩) HZ.out.1).trans HZ.out.2.2.2.2.1
 have Y4: ∀w',Below w1.heap.size w1 w'→w'.cell? ⟨nb,4,none⟩=some (.slice sl.dZ h.idx.len sl.dG):=fun w' hb=>(hb.cell (p:=⟨nb,4,none⟩) HZ.out.1).trans HZ.out.2.2.2.2.2.1
 have Y5: ∀w',Below w1.heap.size w1 w'→w'.cell? ⟨nb,5,none⟩=some (.int .i64 h.dN):=fun w' hb=>(hb.cell (p:=⟨nb,5,none⟩) HZ.out.1).trans HZ.out.2.2.2.2.2.2.1
 have Y6: ∀w',Below w1.heap.size w1 w'→w'.cell? ⟨nb,6,none⟩=some (.int .i64 h.xn):=fun w' hb=>(hb.cell (p:=⟨nb,6,none⟩) HZ.out.1).trans HZ.out.2.2.2.2.2.2.2.1
 have Y7: ∀w',Below w1.heap.size w1 w'→w'.cell? ⟨nb,7,none⟩=some (.string h.dM):=fun w' hb=>(hb.cell (p:=⟨nb,7,none⟩) HZ.out.1).trans HZ.out.2.2.2.2.2.2.2.2.1
 have Y8: ∀w',Below w1.heap.size w1 w'→w'.cell? ⟨nb,8,none⟩=some (.slice sl.dH h.aR.len sl.bR):=fun w' hb=>(hb.cell (p:=⟨nb,8,none⟩) HZ.out.1).trans HZ.out.2.2.2.2.2.2.2.2.2.1
 have Y9: ∀w',Below w1.heap.size w1 w'→w'.cell? ⟨nb,9,none⟩=some (.slice sl.bV (e0).len sl.bC):=fun w' hb=>(hb.cell (p:=⟨nb,9,none⟩) HZ.out.1).trans HZ.out.2.2.2.2.2.2.2.2.2.2.1
 have yI: ∀w',Below w1.heap.size w1 w'→w'.cell? ⟨nb,10,none⟩=some (.slice sl.eB (aP.nil).len sl.dK):=fun w' hb=>(hb.cell (p:=⟨nb,10,none⟩) HZ.out.1).trans HZ.out.2.2.2.2.2.2.2.2.2.2.2
 refine gy (by kernel_rfl) rfl ?_
 refine fU 0 6 [] [[],[],[],[],[3],[2,3,4],[0,1,2,3,4,5]] [[],[],[],[],[],[]] (fun _ w'=>Below w1.heap.size w1 w') (fun w w'=>Below w.heap.size w w') [29,30,31,32,33,34] rfl rfl (by rfl) (by kernel_rfl) (by kernel_rfl) (by kernel_rfl) (by kernel_rfl) (by kernel_rfl) (by rfl) (fun _=>Below.refl _ _) (by rfl) (below_drewN (Below.refl _ _) 1) ?_
 simp only [List.take_succ_cons,List.take_zero,List.drop_zero,List.drop_succ_cons,mE,List.map_cons,List.map_nil]
 apply bg.step
 case aD=>
  intro c A w' hok hC hO hD
  have e0:=hO 0 (by rfl)
  simp [Act.eval] at e0
  simp [ay,ak,au,Act.eval,Region.binds] at hD
  simp [go_sem,gd,Oper.wp,hD,e0]
  exact aA.mk (Below.refl _ _) hC (ak.mk _ _)
 apply bg.step
 case aD=>
  intro c A w' hok hC hO hD
  have e3:=hO 3 (by rfl)
  simp [Act.eval] at e3
  simp [ay,ak,au,Act.eval,Region.binds] at hD
  simp [go_sem,gd,Oper.wp,hD,e3,Y0,Y1,Y2,Y3,Y4,Y5,Y6,Y7,Y8,Y9,yI,hC]
  exact aA.mk (Below.refl _ _) hC (ak.mk _ _)
 apply bg.step
 case aD=>
  intro c A w' hok hC hO hD
  have e0:=hO 0 (by rfl)
  simp [Act.eval] at e0
  simp [ay,ak,au,Act.eval,Region.binds] at hD
  simp [go_sem,gd,Oper.wp,hD,e0]
  exact aA.mk (Below.refl _ _) hC (ak.mk _ _)
 simp only [List.nil_append,List.cons_append]
 apply bg.step
 case aD=>
  intro c A w' hok hC hO hD
  have e3:=hO 3 (by rfl)
  simp [Act.eval] at e3
  simp [ay,ak,au,Act.eval,Region.binds] at hD
  simp [go_sem,gd,Oper.wp,hD,e3]
  exact aA.mk (Below.refl _ _) hC (ak.mk _ _)
 apply bg.step
 case aD=>
  intro c A w' hok hC hO hD
  simp [ay,ak,au,Act.eval,Region.binds] at hD
  simp [go_sem,gd,Oper.wp,hD,Y2,hC]
  exact aA.mk (Below.refl _ _) hC (ak.mk _ _)
 simp only [List.nil_append,List.cons_append]
 refine bg.some (fun v _=>v= .int .i64 (W.lock h.nm)) (fun _ _ _ _ h=>h) ?_ ?_
 ·intro c A w' hok hC hO hD
  simp [ay,ak,au,Act.eval,Region.binds] at hD
  simp [go_sem,gd,Oper.wp,hD]
  refine (Af (S0.out.i.below hC) h.nm).mono ?_
  rintro e w5 ⟨rfl,hb⟩
  exact aA.mk hb (hC.trans (hb.mono hC.size)) rfl
 try simp only [List.nil_append,List.cons_append]
 refine bg.done ?_
 intro wz fH
 try simp only [List.drop_zero,List.drop_succ_cons]
 intro v0 h0 v1 h1 v2 h2 v3 h3 v4 h4 v5 h5
 have h0':=Eq.symm (show v0=_ from h0)
 subst h0'
 have h1':=Eq.symm (show v1=_ from h1)
 subst h1'
 have h2':=Eq.symm (show v2=_ from h2)
 subst h2'
 have h3':=Eq.symm (show v3=_ from h3)
 subst h3'
 have h4':=Eq.symm (show v4=_ from h4)
 subst h4'
 have h5':=Eq.symm (show v5=_ from h5)
 subst h5'
 clear h0 h1 h2 h3 h4 h5
 refine xq ?_
 go_simp
 have S1:=Lib.hid (S0.out.below fH)
 have tY:=Lib.hid (HP.out.below (HI.out.keep S1.out.k))
 clear Y0 Y1 Y2 Y3 Y4 Y5 Y6 Y7 Y8 Y9 yI fH
 refine gX 6 [[],[],[],[],[3],[2,3,4],[0,1,2,3,4,5]] rfl rfl rfl rfl rfl (by kernel_rfl) (by kernel_rfl) (by kernel_rfl) ?_
 simp [go_sem,Oper.wp]
 refine (qz S1.out.i (h:=h) (e0:=e0) (e1:= .nil) (sl:=sl) (nx:=nx) (by simpa using tY.out) 11 12 (W.lock h.nm) kD.out).mono ?_
 rintro e w2 ⟨rfl,hem⟩
 obtain ⟨v9,a9,b9,ku,bT⟩:=S1.out.list hem
 clear hem
 refine iG rfl ?_
 go_simp
 go_wp2_with fail
 exact bodyPost_end (v:= .tuple #[]) (by simp [results,Tryz.results71,go_sem]) rfl ⟨rfl,bT.nL ku (by rw [rH (by rw [bY.out]; decide) (by rw [bY.out]; decide) rfl]; unfold Dq wG; rw [bY.out]; simp)⟩
end Go.Proofs.YtdajkddgnfgijaaGreatDoor
end
section
set_option linter.unusedSimpArgs false
set_option linter.unusedVariables false
namespace Go.Proofs.YtdajkddgnfgijaaGreatDoor
open Go.RowKit
open Md
set_option maxHeartbeats 4000000 in
set_option maxRecDepth 100000 in
theorem Uo {w:World} {L:GL} {W:Wo} {s:iE} {lc:List ByteArray} {al:Option Addr} {cl:Nat} {v:Value} {code:List bS} {h:aX} {e0 e1:aP} {sl:Sl} {nx:Nat} (hI:dX 90 w L W s lc al cl v code ((nx + 1:Nat):Int) (nx:Nat)) (hp:iB w L W code h e0 e1 sl nx) (hop:h.op=5) (dh:dY e0) (dx:dY e1):
 Calls Tryz.prog 71 #[.pointer (some ⟨L.gb,0,none⟩),cO h e0 e1 sl] w fun e w'=>e= .returned (.tuple #[])∧oV (fun a' _=>a'=((nx + 1 + bM e0 + bM e1:Nat):Int)) 90 w L W s lc al cl v code (jP W lc h e0 e1 nx code.length) w':=by
 have kD:=Lib.hid dh
 have jy:=Lib.hid dx
 have nk:(h.op == 1)=false:=by rw [hop]; rfl
 have ng:(h.op == 2)=false:=by rw [hop]; rfl
 have mZ:(h.op == 3)=false:=by rw [hop]; rfl
 have nG:(h.op == 4)=false:=by rw [hop]; rfl
 have nu:(h.op == 5)=true:=by rw [hop]; rfl
 have nA:(h.op == 6)=false:=by rw [hop]; rfl
 have xL:(h.op == 7)=false:=by rw [hop]; rfl
 have xC:(h.op == 8)=false:=by rw [hop]; rfl
 have wR:(h.op == 9)=false:=by rw [hop]; rfl
 have sD:(h.op == 10)=false:=by rw [hop]; rfl
 have rC:(h.op == 11)=false:=by rw [hop]; rfl
 have rJ:(h.op == 12)=false:=by rw [hop]; rfl
 have sF:(h.op == 13)=false:=by rw [hop]; rfl
 have rA:(h.op == 14)=false:=by rw [hop]; rfl
 have rE:(h.op == 15)=false:=by rw [hop]; rfl
 have hin:=iM hp.sh
 have bY:=Lib.hid hop
 clear hop dh dx
 have HI:=Lib.hid hI
 have HP:=Lib.hid hp
 have HL:=Lib.hid hp.len
 have nH:=Lib.hid hp.cnt
 have lW:=Lib.hid hp.ok.2
 have hl0:(lc.length:Int)≤1000:=by have:=hI.few; omega
 clear hI hp
 unfold cO
 go_enter Tryz.func71,Tryz.ntmps71
 go_upto_region 1 with fail
 generalize hW:World.alloc w _=w1
 obtain ⟨nb,hnb⟩: ∃n,w.heap.size=n:=⟨_,rfl⟩
 have HB:Hid (Below w.heap.size w w1):=Lib.hid (by rw [← hW]; exact aj _ _)
 have HX:Hid (w1.heap[nb]? =some (.cells (stA h e0 e1 sl) 131 (0,0))):=Lib.hid (by rw [← hW,← hnb]; exact heap_alloc_new _ _)
 have S0:=Lib.hid (gN.start HI.out HB.out hnb HX.out)
 have bQ:=Lib.hid (HP.out.below (HI.out.keep (Kg.of_below HB.out)))
 rw [hnb]
 clear hW hnb HX HB
 obtain ⟨aZ,q0,q1,q2,q3,q4,q5,q6,q7,q8,q9,qf⟩:=S0.out.i.cells
 have z0:=(ah S0.out.x (j:=0) rfl).2
 have z1:=(ah S0.out.x (j:=1) rfl).2
 have z2:=(ah S0.out.x (j:=2) rfl).2
 have z3:=(ah S0.out.x (j:=3) rfl).2
 have z4:=(ah S0.out.x (j:=4) rfl).2
 have z5:=(ah S0.out.x (j:=5) rfl).2
 have z6:=(ah S0.out.x (j:=6) rfl).2
 have z7:=(ah S0.out.x (j:=7) rfl).2
 have z8:=(ah S0.out.x (j:=8) rfl).2
 have z9:=(ah S0.out.x (j:=9) rfl).2
 have aY:=(ah S0.out.x (j:=10) rfl).2
 clear qf q7
 simp only [stA,List.getElem_toArray,List.getElem_cons_zero,List.getElem_cons_succ] at z0 z1 z2 z3 z4 z5 z6 z7 z8 z9 aY
 obtain rfl:=hin.2.1 (by rw [bY.out]; decide)
 go_wp2_with fail
 have HZ:=Lib.hid (And.intro (Array.getElem?_eq_some_iff.1 S0.out.x).1 (And.intro z0 (And.intro z1 (And.intro z2 (And.intro z3 (And.intro z4 (And.intro z5 (And.intro z6 (And.intro z7 (And.intro z8 (And.intro z9 aY)))))))))))
 have HQ:=Lib.hid (And.intro aZ q6)
 clear aZ q0 q1 q2 q3 q4 q5 q6 q8 q9 z0 z1 z2 z3 z5 z6 z7 z8 z9 aY
 clear z4
 have Y0: ∀w',Below w1.heap.size w1 w'→w'.cell? ⟨nb,0,none⟩=some (.int .i64 h.op):=fun w' hb=>(hb.cell (p:=⟨nb,0,none⟩) HZ.out.1).trans HZ.out.2.1
 have Y1: ∀w',Below w1.heap.size w1 w'→w'.cell? ⟨nb,1,none⟩=some (.int .i64 h.line):=fun w' hb=>(hb.cell (p:=⟨nb,1,none⟩) HZ.out.1).trans HZ.out.2.2.1
 have Y2: ∀w',Below w1.heap.size w1 w'→w'.cell? ⟨nb,2,none⟩=some (.string h.nm):=fun w' hb=>(hb.cell (p:=⟨nb,2,none⟩) HZ.out.1).trans HZ.out.2.2.2.1
 have Y3: ∀w',Below w1.heap.size w1 w'→w'.cell? ⟨nb,3,none⟩=some (.string h.arg):=fun w' hb=>(hb.cell (p:=⟨nb,3,none⟩) HZ.out.1).trans HZ.out.2.2.2.2.1
 have Y4: ∀w',Below w1.heap.size w1 w'→w'.cell? ⟨nb,4,none⟩=some (.slice sl.dZ h.idx.len sl.dG):=fun w' hb=>(hb.cell (p:=⟨nb,4,none⟩) HZ.out.1).trans HZ.out.2.2.2.2.2.1
 have Y5: ∀w',Below w1.heap.size w1 w'→w'.cell? ⟨nb,5,none⟩=some (.int .i64 h.dN):=fun w' hb=>(hb.cell (p:=⟨nb,5,none⟩) HZ.out.1).trans HZ.out.2.2.2.2.2.2.1
 have Y6: ∀w',Below w1.heap.size w1 w'→w'.cell? ⟨nb,6,none⟩=some (.int .i64 h.xn):=fun w' hb=>(hb.cell (p:=⟨nb,6,none⟩) HZ.out.1).trans HZ.out.2.2.2.2.2.2.2.1
 have Y7: ∀w',Below w1.heap.size w1 w'→w'.cell? ⟨nb,7,none⟩=some (.string h.dM):=fun w' hb=>(hb.cell (p:=⟨nb,7,none⟩) HZ.out.1).trans HZ.out.2.2.2.2.2.2.2.2.1
 have Y8: ∀w',Below w1.heap.size w1 w'→w'.cell? ⟨nb,8,none⟩=some (.slice sl.dH h.aR.len sl.bR):=fun w' hb=>(hb.cell (p:=⟨nb,8,none⟩) HZ.out.1).trans HZ.out.2.2.2.2.2.2.2.2.2.1
 have Y9: ∀w',Below w1.heap.size w1 w'→w'.cell? ⟨nb,9,none⟩=some (.slice sl.bV (e0).len sl.bC):=fun w' hb=>(hb.cell (p:=⟨nb,9,none⟩) HZ.out.1).trans HZ.out.2.2.2.2.2.2.2.2.2.2.1
 have yI: ∀w',Below w1.heap.size w1 w'→w'.cell? ⟨nb,10,none⟩=some (.slice sl.eB (aP.nil).len sl.dK):=fun w' hb=>(hb.cell (p:=⟨nb,10,none⟩) HZ.out.1).trans HZ.out.2.2.2.2.2.2.2.2.2.2.2
 refine gy (by kernel_rfl) rfl ?_
 refine fU 0 6 [] [[],[],[],[],[3],[2,3,4],[0,1,2,3,4,5]] [[],[],[],[],[],[]] (fun _ w'=>Below w1.heap.size w1 w') (fun w w'=>Below w.heap.size w w') [38,39,40,41,42,43] rfl rfl (by rfl) (by kernel_rfl) (by kernel_rfl) (by kernel_rfl) (by kernel_rfl) (by kernel_rfl) (by rfl) (fun _=>Below.refl _ _) (by rfl) (below_drewN (Below.refl _ _) 1) ?_
 simp only [List.take_succ_cons,List.take_zero,List.drop_zero,List.drop_succ_cons,mE,List.map_cons,List.map_nil]
 apply bg.step
 case aD=>
  intro c A w' hok hC hO hD
  have e0:=hO 0 (by rfl)
  simp [Act.eval] at e0
  simp [ay,ak,au,Act.eval,Region.binds] at hD
  simp [go_sem,gd,Oper.wp,hD,e0]
  exact aA.mk (Below.refl _ _) hC (ak.mk _ _)
 apply bg.step
 case aD=>
  intro c A w' hok hC hO hD
  have e3:=hO 3 (by rfl)
  simp [Act.eval] at e3
  simp [ay,ak,au,Act.eval,Region.binds] at hD
  simp [go_sem,gd,Oper.wp,hD,e3,Y0,Y1,Y2,Y3,Y4,Y5,Y6,Y7,Y8,Y9,yI,hC]
  exact aA.mk (Below.refl _ _) hC (ak.mk _ _)
 apply bg.step
 case aD=>
  intro c A w' hok hC hO hD
  have e0:=hO 0 (by rfl)
  simp [Act.eval] at e0
  simp [ay,ak,au,Act.eval,Region.binds] at hD
  simp [go_sem,gd,Oper.wp,hD,e0]
  exact aA.mk (Below.refl _ _) hC (ak.mk _ _)
 simp only [List.nil_append,List.cons_append]
 apply bg.step
 case aD=>
  intro c A w' hok hC hO hD
  have e3:=hO 3 (by rfl)
  simp [Act.eval] at e3
  simp [ay,ak,au,Act.eval,Region.binds] at hD
  simp [go_sem,gd,Oper.wp,hD,e3]
  exact aA.mk (Below.refl _ _) hC (ak.mk _ _)
 apply bg.step
 case aD=>
  intro c A w' hok hC hO hD
  simp [ay,ak,au,Act.eval,Region.binds] at hD
  simp [go_sem,gd,Oper.wp,hD,Y2,hC]
  exact aA.mk (Below.refl _ _) hC (ak.mk _ _)
 simp only [List.nil_append,List.cons_append]
 refine bg.some (fun v _=>v= .int .i64 (W.lock h.nm)) (fun _ _ _ _ h=>h) ?_ ?_
 ·intro c A w' hok hC hO hD
  simp [ay,ak,au,Act.eval,Region.binds] at hD
  simp [go_sem,gd,Oper.wp,hD]
  refine (Af (S0.out.i.below hC) h.nm).mono ?_
  rintro e w5 ⟨rfl,hb⟩
  exact aA.mk hb (hC.trans (hb.mono hC.size)) rfl
 try simp only [List.nil_append,List.cons_append]
 refine bg.done ?_
 intro wz fH
 try simp only [List.drop_zero,List.drop_succ_cons]
 intro v0 h0 v1 h1 v2 h2 v3 h3 v4 h4 v5 h5
 have h0':=Eq.symm (show v0=_ from h0)
 subst h0'
 have h1':=Eq.symm (show v1=_ from h1)
 subst h1'
 have h2':=Eq.symm (show v2=_ from h2)
 subst h2'
 have h3':=Eq.symm (show v3=_ from h3)
 subst h3'
 have h4':=Eq.symm (show v4=_ from h4)
 subst h4'
 have h5':=Eq.symm (show v5=_ from h5)
 subst h5'
 clear h0 h1 h2 h3 h4 h5
 refine xq ?_
 go_simp
 have S1:=Lib.hid (S0.out.below fH)
 have tY:=Lib.hid (HP.out.below (HI.out.keep S1.out.k))
 clear Y0 Y1 Y2 Y3 Y4 Y5 Y6 Y7 Y8 Y9 yI fH
 refine gX 6 [[],[],[],[],[3],[2,3,4],[0,1,2,3,4,5]] rfl rfl rfl rfl rfl (by kernel_rfl) (by kernel_rfl) (by kernel_rfl) ?_
 simp [go_sem,Oper.wp]
 refine (qz S1.out.i (h:=h) (e0:=e0) (e1:= .nil) (sl:=sl) (nx:=nx) (by simpa using tY.out) 13 14 (W.lock h.nm) kD.out).mono ?_
 rintro e w2 ⟨rfl,hem⟩
 obtain ⟨v9,a9,b9,ku,bT⟩:=S1.out.list hem
 clear hem
 refine iG rfl ?_
 go_simp
 go_wp2_with fail
 exact bodyPost_end (v:= .tuple #[]) (by simp [results,Tryz.results71,go_sem]) rfl ⟨rfl,bT.nL ku (by rw [rH (by rw [bY.out]; decide) (by rw [bY.out]; decide) rfl]; unfold Dq wG; rw [bY.out]; simp)⟩
end Go.Proofs.YtdajkddgnfgijaaGreatDoor
end
section
set_option linter.unusedSimpArgs false
set_option linter.unusedVariables false
namespace Go.Proofs.YtdajkddgnfgijaaGreatDoor
open Go.RowKit
open Md
set_option maxHeartbeats 4000000 in
set_option maxRecDepth 100000 in
theorem VI {w:World} {L:GL} {W:Wo} {s:iE} {lc:List ByteArray} {al:Option Addr} {cl:Nat} {v:Value} {code:List bS} {h:aX} {e0 e1:aP} {sl:Sl} {nx:Nat} (hI:dX 90 w L W s lc al cl v code ((nx + 1:Nat):Int) (nx:Nat)) (hp:iB w L W code h e0 e1 sl nx) (hop:h.op=6) (dh:dY e0) (dx:dY e1):
 Calls Tryz.prog 71 #[.pointer (some ⟨L.gb,0,none⟩),cO h e0 e1 sl] w fun e w'=>e= .returned (.tuple #[])∧oV (fun a' _=>a'=((nx + 1 + bM e0 + bM e1:Nat):Int)) 90 w L W s lc al cl v code (jP W lc h e0 e1 nx code.length) w':=by
 have kD:=Lib.hid dh
 have jy:=Lib.hid dx
 have nk:(h.op == 1)=false:=by rw [hop]; rfl
 have ng:(h.op == 2)=false:=by rw [hop]; rfl
 have mZ:(h.op == 3)=false:=by rw [hop]; rfl
 have nG:(h.op == 4)=false:=by rw [hop]; rfl
 have nu:(h.op == 5)=false:=by rw [hop]; rfl
 have nA:(h.op == 6)=true:=by rw [hop]; rfl
 have xL:(h.op == 7)=false:=by rw [hop]; rfl
 have xC:(h.op == 8)=false:=by rw [hop]; rfl
 have wR:(h.op == 9)=false:=by rw [hop]; rfl
 have sD:(h.op == 10)=false:=by rw [hop]; rfl
 have rC:(h.op == 11)=false:=by rw [hop]; rfl
 have rJ:(h.op == 12)=false:=by rw [hop]; rfl
 have sF:(h.op == 13)=false:=by rw [hop]; rfl
 have rA:(h.op == 14)=false:=by rw [hop]; rfl
 have rE:(h.op == 15)=false:=by rw [hop]; rfl
 have hin:=iM hp.sh
 have bY:=Lib.hid hop
 clear hop dh dx
 have HI:=Lib.hid hI
 have HP:=Lib.hid hp
 have HL:=Lib.hid hp.len
 have nH:=Lib.hid hp.cnt
 have lW:=Lib.hid hp.ok.2
 have hl0:(lc.length:Int)≤1000:=by have:=hI.few; omega
 clear hI hp
 unfold cO
 go_enter Tryz.func71,Tryz.ntmps71
 go_upto_region 1 with fail
 generalize hW:World.alloc w _=w1
 obtain ⟨nb,hnb⟩: ∃n,w.heap.size=n:=⟨_,rfl⟩
 have HB:Hid (Below w.heap.size w w1):=Lib.hid (by rw [← hW]; exact aj _ _)
 have HX:Hid (w1.heap[nb]? =some (.cells (stA h e0 e1 sl) 131 (0,0))):=Lib.hid (by rw [← hW,← hnb]; exact heap_alloc_new _ _)
 have S0:=Lib.hid (gN.start HI.out HB.out hnb HX.out)
 have bQ:=Lib.hid (HP.out.below (HI.out.keep (Kg.of_below HB.out)))
 rw [hnb]
 clear hW hnb HX HB
 obtain ⟨aZ,q0,q1,q2,q3,q4,q5,q6,q7,q8,q9,qf⟩:=S0.out.i.cells
 have z0:=(ah S0.out.x (j:=0) rfl).2
 have z1:=(ah S0.out.x (j:=1) rfl).2
 have z2:=(ah S0.out.x (j:=2) rfl).2
 have z3:=(ah S0.out.x (j:=3) rfl).2
 have z4:=(ah S0.out.x (j:=4) rfl).2
 have z5:=(ah S0.out.x (j:=5) rfl).2
 have z6:=(ah S0.out.x (j:=6) rfl).2
 have z7:=(ah S0.out.x (j:=7) rfl).2
 have z8:=(ah S0.out.x (j:=8) rfl).2
 have z9:=(ah S0.out.x (j:=9) rfl).2
 have aY:=(ah S0.out.x (j:=10) rfl).2
 clear qf q7
 simp only [stA,List.getElem_toArray,List.getElem_cons_zero,List.getElem_cons_succ] at z0 z1 z2 z3 z4 z5 z6 z7 z8 z9 aY
 obtain rfl:=hin.2.1 (by rw [bY.out]; decide)
 go_wp2_with fail
 have HZ:=Lib.hid (And.intro (Array.getElem?_eq_some_iff.1 S0.out.x).1 (And.intro z0 (And.intro z1 (And.intro z2 (And.intro z3 (And.intro z4 (And.intro z5 (And.intro z6 (And.intro z7 (And.intro z8 (And.intro z9 aY)))))))))))
 have HQ:=Lib.hid (And.intro aZ q6)
 clear aZ q0 q1 q2 q3 q4 q5 q6 q8 q9 z0 z1 z2 z3 z5 z6 z7 z8 z9 aY
 clear z4
 have Y0: ∀w',Below w1.heap.size w1 w'→w'.cell? ⟨nb,0,none⟩=some (.int .i64 h.op):=fun w' hb=>(hb.cell (p:=⟨nb,0,none⟩) HZ.out.1).trans HZ.out.2.1
 have Y1: ∀w',Below w1.heap.size w1 w'→w'.cell? ⟨nb,1,none⟩=some (.int .i64 h.line):=fun w' hb=>(hb.cell (p:=⟨nb,1,none⟩) HZ.out.1).trans HZ.out.2.2.1
 have Y2: ∀w',Below w1.heap.size w1 w'→w'.cell? ⟨nb,2,none⟩=some (.string h.nm):=fun w' hb=>(hb.cell (p:=⟨nb,2,none⟩) HZ.out.1).trans HZ.out.2.2.2.1
 have Y3: ∀w',Below w1.heap.size w1 w'→w'.cell? ⟨nb,3,none⟩=some (.string h.arg):=fun w' hb=>(hb.cell (p:=⟨nb,3,none⟩) HZ.out.1).trans HZ.out.2.2.2.2.1
 have Y4: ∀w',Below w1.heap.size w1 w'→w'.cell? ⟨nb,4,none⟩=some (.slice sl.dZ h.idx.len sl.dG):=fun w' hb=>(hb.cell (p:=⟨nb,4,none⟩) HZ.out.1).trans HZ.out.2.2.2.2.2.1
 have Y5: ∀w',Below w1.heap.size w1 w'→w'.cell? ⟨nb,5,none⟩=some (.int .i64 h.dN):=fun w' hb=>(hb.cell (p:=⟨nb,5,none⟩) HZ.out.1).trans HZ.out.2.2.2.2.2.2.1
 have Y6: ∀w',Below w1.heap.size w1 w'→w'.cell? ⟨nb,6,none⟩=some (.int .i64 h.xn):=fun w' hb=>(hb.cell (p:=⟨nb,6,none⟩) HZ.out.1).trans HZ.out.2.2.2.2.2.2.2.1
 have Y7: ∀w',Below w1.heap.size w1 w'→w'.cell? ⟨nb,7,none⟩=some (.string h.dM):=fun w' hb=>(hb.cell (p:=⟨nb,7,none⟩) HZ.out.1).trans HZ.out.2.2.2.2.2.2.2.2.1
 have Y8: ∀w',Below w1.heap.size w1 w'→w'.cell? ⟨nb,8,none⟩=some (.slice sl.dH h.aR.len sl.bR):=fun w' hb=>(hb.cell (p:=⟨nb,8,none⟩) HZ.out.1).trans HZ.out.2.2.2.2.2.2.2.2.2.1
 have Y9: ∀w',Below w1.heap.size w1 w'→w'.cell? ⟨nb,9,none⟩=some (.slice sl.bV (e0).len sl.bC):=fun w' hb=>(hb.cell (p:=⟨nb,9,none⟩) HZ.out.1).trans HZ.out.2.2.2.2.2.2.2.2.2.2.1
 have yI: ∀w',Below w1.heap.size w1 w'→w'.cell? ⟨nb,10,none⟩=some (.slice sl.eB (aP.nil).len sl.dK):=fun w' hb=>(hb.cell (p:=⟨nb,10,none⟩) HZ.out.1).trans HZ.out.2.2.2.2.2.2.2.2.2.2.2
 refine gy (by kernel_rfl) rfl ?_
 refine fU 0 6 [] [[],[],[],[],[3],[2,3,4],[0,1,2,3,4,5]] [[],[],[],[],[],[]] (fun _ w'=>Below w1.heap.size w1 w') (fun w w'=>Below w.heap.size w w') [47,48,49,50,51,52] rfl rfl (by rfl) (by kernel_rfl) (by kernel_rfl) (by kernel_rfl) (by kernel_rfl) (by kernel_rfl) (by rfl) (fun _=>Below.refl _ _) (by rfl) (below_drewN (Below.refl _ _) 1) ?_
 simp only [List.take_succ_cons,List.take_zero,List.drop_zero,List.drop_succ_cons,mE,List.map_cons,List.map_nil]
 apply bg.step
 case aD=>
  intro c A w' hok hC hO hD
  have e0:=hO 0 (by rfl)
  simp [Act.eval] at e0
  simp [ay,ak,au,Act.eval,Region.binds] at hD
  simp [go_sem,gd,Oper.wp,hD,e0]
  exact aA.mk (Below.refl _ _) hC (ak.mk _ _)
 apply bg.step
 case aD=>
  intro c A w' hok hC hO hD
  have e3:=hO 3 (by rfl)
  simp [Act.eval] at e3
  simp [ay,ak,au,Act.eval,Region.binds] at hD
  simp [go_sem,gd,Oper.wp,hD,e3,Y0,Y1,Y2,Y3,Y4,Y5,Y6,Y7,Y8,Y9,yI,hC]
  exact aA.mk (Below.refl _ _) hC (ak.mk _ _)
 apply bg.step
 case aD=>
  intro c A w' hok hC hO hD
  have e0:=hO 0 (by rfl)
  simp [Act.eval] at e0
  simp [ay,ak,au,Act.eval,Region.binds] at hD
  simp [go_sem,gd,Oper.wp,hD,e0]
  exact aA.mk (Below.refl _ _) hC (ak.mk _ _)
 simp only [List.nil_append,List.cons_append]
 apply bg.step
 case aD=>
  intro c A w' hok hC hO hD
  have e3:=hO 3 (by rfl)
  simp [Act.eval] at e3
  simp [ay,ak,au,Act.eval,Region.binds] at hD
  simp [go_sem,gd,Oper.wp,hD,e3]
  exact aA.mk (Below.refl _ _) hC (ak.mk _ _)
 apply bg.step
 case aD=>
  intro c A w' hok hC hO hD
  simp [ay,ak,au,Act.eval,Region.binds] at hD
  simp [go_sem,gd,Oper.wp,hD,Y2,hC]
  exact aA.mk (Below.refl _ _) hC (ak.mk _ _)
 simp only [List.nil_append,List.cons_append]
 refine bg.some (fun v _=>v= .int .i64 (W.lock h.nm)) (fun _ _ _ _ h=>h) ?_ ?_
 ·intro c A w' hok hC hO hD
  simp [ay,ak,au,Act.eval,Region.binds] at hD
  simp [go_sem,gd,Oper.wp,hD]
  refine (Af (S0.out.i.below hC) h.nm).mono ?_
  rintro e w5 ⟨rfl,hb⟩
  exact aA.mk hb (hC.trans (hb.mono hC.size)) rfl
 try simp only [List.nil_append,List.cons_append]
 refine bg.done ?_
 intro wz fH
 try simp only [List.drop_zero,List.drop_succ_cons]
 intro v0 h0 v1 h1 v2 h2 v3 h3 v4 h4 v5 h5
 have h0':=Eq.symm (show v0=_ from h0)
 subst h0'
 have h1':=Eq.symm (show v1=_ from h1)
 subst h1'
 have h2':=Eq.symm (show v2=_ from h2)
 subst h2'
 have h3':=Eq.symm (show v3=_ from h3)
 subst h3'
 have h4':=Eq.symm (show v4=_ from h4)
 subst h4'
 have h5':=Eq.symm (show v5=_ from h5)
 subst h5'
 clear h0 h1 h2 h3 h4 h5
 refine xq ?_
 go_simp
 have S1:=Lib.hid (S0.out.below fH)
 have tY:=Lib.hid (HP.out.below (HI.out.keep S1.out.k))
 clear Y0 Y1 Y2 Y3 Y4 Y5 Y6 Y7 Y8 Y9 yI fH
 refine gX 6 [[],[],[],[],[3],[2,3,4],[0,1,2,3,4,5]] rfl rfl rfl rfl rfl (by kernel_rfl) (by kernel_rfl) (by kernel_rfl) ?_
 simp [go_sem,Oper.wp]
 refine (qz S1.out.i (h:=h) (e0:=e0) (e1:= .nil) (sl:=sl) (nx:=nx) (by simpa using tY.out) 15 16 (W.lock h.nm) kD.out).mono ?_
 rintro e w2 ⟨rfl,hem⟩
 obtain ⟨v9,a9,b9,ku,bT⟩:=S1.out.list hem
 clear hem
 refine iG rfl ?_
 go_simp
 go_wp2_with fail
 exact bodyPost_end (v:= .tuple #[]) (by simp [results,Tryz.results71,go_sem]) rfl ⟨rfl,bT.nL ku (by rw [rH (by rw [bY.out]; decide) (by rw [bY.out]; decide) rfl]; unfold Dq wG; rw [bY.out]; simp)⟩
end Go.Proofs.YtdajkddgnfgijaaGreatDoor
end
section
set_option linter.unusedSimpArgs false
set_option linter.unusedVariables false
namespace Go.Proofs.YtdajkddgnfgijaaGreatDoor
open Go.RowKit
open Md
set_option maxHeartbeats 4000000 in
set_option maxRecDepth 100000 in
theorem Uu {w:World} {L:GL} {W:Wo} {s:iE} {lc:List ByteArray} {al:Option Addr} {cl:Nat} {v:Value} {code:List bS} {h:aX} {e0 e1:aP} {sl:Sl} {nx:Nat} (hI:dX 90 w L W s lc al cl v code ((nx + 1:Nat):Int) (nx:Nat)) (hp:iB w L W code h e0 e1 sl nx) (hop:h.op=7) (dh:dY e0) (dx:dY e1):
 Calls Tryz.prog 71 #[.pointer (some ⟨L.gb,0,none⟩),cO h e0 e1 sl] w fun e w'=>e= .returned (.tuple #[])∧oV (fun a' _=>a'=((nx + 1 + bM e0 + bM e1:Nat):Int)) 90 w L W s lc al cl v code (jP W lc h e0 e1 nx code.length) w':=by
 have kD:=Lib.hid dh
 have jy:=Lib.hid dx
 have nk:(h.op == 1)=false:=by rw [hop]; rfl
 have ng:(h.op == 2)=false:=by rw [hop]; rfl
 have mZ:(h.op == 3)=false:=by rw [hop]; rfl
 have nG:(h.op == 4)=false:=by rw [hop]; rfl
 have nu:(h.op == 5)=false:=by rw [hop]; rfl
 have nA:(h.op == 6)=false:=by rw [hop]; rfl
 have xL:(h.op == 7)=true:=by rw [hop]; rfl
 have xC:(h.op == 8)=false:=by rw [hop]; rfl
 have wR:(h.op == 9)=false:=by rw [hop]; rfl
 have sD:(h.op == 10)=false:=by rw [hop]; rfl
 have rC:(h.op == 11)=false:=by rw [hop]; rfl
 have rJ:(h.op == 12)=false:=by rw [hop]; rfl
 have sF:(h.op == 13)=false:=by rw [hop]; rfl
 have rA:(h.op == 14)=false:=by rw [hop]; rfl
 have rE:(h.op == 15)=false:=by rw [hop]; rfl
 have hin:=iM hp.sh
 have bY:=Lib.hid hop
 clear hop dh dx
 have HI:=Lib.hid hI
 have HP:=Lib.hid hp
 have HL:=Lib.hid hp.len
 have nH:=Lib.hid hp.cnt
 have lW:=Lib.hid hp.ok.2
 have hl0:(lc.length:Int)≤1000:=by have:=hI.few; omega
 clear hI hp
 unfold cO
 go_enter Tryz.func71,Tryz.ntmps71
 go_upto_region 1 with fail
 generalize hW:World.alloc w _=w1
 obtain ⟨nb,hnb⟩: ∃n,w.heap.size=n:=⟨_,rfl⟩
 have HB:Hid (Below w.heap.size w w1):=Lib.hid (by rw [← hW]; exact aj _ _)
 have HX:Hid (w1.heap[nb]? =some (.cells (stA h e0 e1 sl) 131 (0,0))):=Lib.hid (by rw [← hW,← hnb]; exact heap_alloc_new _ _)
 have S0:=Lib.hid (gN.start HI.out HB.out hnb HX.out)
 have bQ:=Lib.hid (HP.out.below (HI.out.keep (Kg.of_below HB.out)))
 rw [hnb]
 clear hW hnb HX HB
 obtain ⟨aZ,q0,q1,q2,q3,q4,q5,q6,q7,q8,q9,qf⟩:=S0.out.i.cells
 have z0:=(ah S0.out.x (j:=0) rfl).2
 have z1:=(ah S0.out.x (j:=1) rfl).2
 have z2:=(ah S0.out.x (j:=2) rfl).2
 have z3:=(ah S0.out.x (j:=3) rfl).2
 have z4:=(ah S0.out.x (j:=4) rfl).2
 have z5:=(ah S0.out.x (j:=5) rfl).2
 have z6:=(ah S0.out.x (j:=6) rfl).2
 have z7:=(ah S0.out.x (j:=7) rfl).2
 have z8:=(ah S0.out.x (j:=8) rfl).2
 have z9:=(ah S0.out.x (j:=9) rfl).2
 have aY:=(ah S0.out.x (j:=10) rfl).2
 clear qf q7
 simp only [stA,List.getElem_toArray,List.getElem_cons_zero,List.getElem_cons_succ] at z0 z1 z2 z3 z4 z5 z6 z7 z8 z9 aY
 obtain rfl:=hin.2.1 (by rw [bY.out]; decide)
 have S1:=S0
 have tY:=bQ
 go_wp2_with fail
 refine (qz S1.out.i (h:=h) (e0:=e0) (e1:= .nil) (sl:=sl) (nx:=nx) (by simpa using tY.out) 17 18 0 kD.out).mono ?_
 rintro e w2 ⟨rfl,hem⟩
 obtain ⟨v9,a9,b9,ku,bT⟩:=S1.out.list hem
 clear hem
 clear aZ q0 q1 q2 q3 q4 q5 q6 q8 q9 z0 z1 z2 z3 z5 z6 z7 z8 z9 aY
 clear z4
 go_wp2_with fail
 exact bodyPost_end (v:= .tuple #[]) (by simp [results,Tryz.results71,go_sem]) rfl ⟨rfl,bT.nL ku (by rw [rH (by rw [bY.out]; decide) (by rw [bY.out]; decide) rfl]; unfold Dq wG; rw [bY.out]; simp)⟩
set_option maxHeartbeats 4000000 in
set_option maxRecDepth 100000 in
theorem X7 {w:World} {L:GL} {W:Wo} {s:iE} {lc:List ByteArray} {al:Option Addr} {cl:Nat} {v:Value} {code:List bS} {h:aX} {e0 e1:aP} {sl:Sl} {nx:Nat} (hI:dX 90 w L W s lc al cl v code ((nx + 1:Nat):Int) (nx:Nat)) (hp:iB w L W code h e0 e1 sl nx) (hop:h.op=8) (dh:dY e0) (dx:dY e1):
 Calls Tryz.prog 71 #[.pointer (some ⟨L.gb,0,none⟩),cO h e0 e1 sl] w fun e w'=>e= .returned (.tuple #[])∧oV (fun a' _=>a'=((nx + 1 + bM e0 + bM e1:Nat):Int)) 90 w L W s lc al cl v code (jP W lc h e0 e1 nx code.length) w':=by
 have kD:=Lib.hid dh
 have jy:=Lib.hid dx
 have nk:(h.op == 1)=false:=by rw [hop]; rfl
 have ng:(h.op == 2)=false:=by rw [hop]; rfl
 have mZ:(h.op == 3)=false:=by rw [hop]; rfl
 have nG:(h.op == 4)=false:=by rw [hop]; rfl
 have nu:(h.op == 5)=false:=by rw [hop]; rfl
 have nA:(h.op == 6)=false:=by rw [hop]; rfl
 have xL:(h.op == 7)=false:=by rw [hop]; rfl
 have xC:(h.op == 8)=true:=by rw [hop]; rfl
 have wR:(h.op == 9)=false:=by rw [hop]; rfl
 have sD:(h.op == 10)=false:=by rw [hop]; rfl
 have rC:(h.op == 11)=false:=by rw [hop]; rfl
 have rJ:(h.op == 12)=false:=by rw [hop]; rfl
 have sF:(h.op == 13)=false:=by rw [hop]; rfl
 have rA:(h.op == 14)=false:=by rw [hop]; rfl
 have rE:(h.op == 15)=false:=by rw [hop]; rfl
 have hin:=iM hp.sh
 have bY:=Lib.hid hop
 clear hop dh dx
 have HI:=Lib.hid hI
 have HP:=Lib.hid hp
 have HL:=Lib.hid hp.len
 have nH:=Lib.hid hp.cnt
 have lW:=Lib.hid hp.ok.2
 have hl0:(lc.length:Int)≤1000:=by have:=hI.few; omega
 clear hI hp
 unfold cO
 go_enter Tryz.func71,Tryz.ntmps71
 go_upto_region 1 with fail
 generalize hW:World.alloc w _=w1
 obtain ⟨nb,hnb⟩: ∃n,w.heap.size=n:=⟨_,rfl⟩
 have HB:Hid (Below w.heap.size w w1):=Lib.hid (by rw [← hW]; exact aj _ _)
 have HX:Hid (w1.heap[nb]? =some (.cells (stA h e0 e1 sl) 131 (0,0))):=Lib.hid (by rw [← hW,← hnb]; exact heap_alloc_new _ _)
 have S0:=Lib.hid (gN.start HI.out HB.out hnb HX.out)
 have bQ:=Lib.hid (HP.out.below (HI.out.keep (Kg.of_below HB.out)))
 rw [hnb]
 clear hW hnb HX HB
 obtain ⟨aZ,q0,q1,q2,q3,q4,q5,q6,q7,q8,q9,qf⟩:=S0.out.i.cells
 have z0:=(ah S0.out.x (j:=0) rfl).2
 have z1:=(ah S0.out.x (j:=1) rfl).2
 have z2:=(ah S0.out.x (j:=2) rfl).2
 have z3:=(ah S0.out.x (j:=3) rfl).2
 have z4:=(ah S0.out.x (j:=4) rfl).2
 have z5:=(ah S0.out.x (j:=5) rfl).2
 have z6:=(ah S0.out.x (j:=6) rfl).2
 have z7:=(ah S0.out.x (j:=7) rfl).2
 have z8:=(ah S0.out.x (j:=8) rfl).2
 have z9:=(ah S0.out.x (j:=9) rfl).2
 have aY:=(ah S0.out.x (j:=10) rfl).2
 clear qf q7
 simp only [stA,List.getElem_toArray,List.getElem_cons_zero,List.getElem_cons_succ] at z0 z1 z2 z3 z4 z5 z6 z7 z8 z9 aY
 obtain rfl:=hin.2.1 (by rw [bY.out]; decide)
 have S1:=S0
 have tY:=bQ
 go_wp2_with fail
 refine (qz S1.out.i (h:=h) (e0:=e0) (e1:= .nil) (sl:=sl) (nx:=nx) (by simpa using tY.out) 19 20 0 kD.out).mono ?_
 rintro e w2 ⟨rfl,hem⟩
 obtain ⟨v9,a9,b9,ku,bT⟩:=S1.out.list hem
 clear hem
 clear aZ q0 q1 q2 q3 q4 q5 q6 q8 q9 z0 z1 z2 z3 z5 z6 z7 z8 z9 aY
 clear z4
 go_wp2_with fail
 exact bodyPost_end (v:= .tuple #[]) (by simp [results,Tryz.results71,go_sem]) rfl ⟨rfl,bT.nL ku (by rw [rH (by rw [bY.out]; decide) (by rw [bY.out]; decide) rfl]; unfold Dq wG; rw [bY.out]; simp)⟩
end Go.Proofs.YtdajkddgnfgijaaGreatDoor
end
section
set_option linter.unusedSimpArgs false
set_option linter.unusedVariables false
namespace Go.Proofs.YtdajkddgnfgijaaGreatDoor
open Go.RowKit
open Md
set_option maxHeartbeats 4000000 in
set_option maxRecDepth 100000 in
theorem Vj {w:World} {L:GL} {W:Wo} {s:iE} {lc:List ByteArray} {al:Option Addr} {cl:Nat} {v:Value} {code:List bS} {h:aX} {e0 e1:aP} {sl:Sl} {nx:Nat} (hI:dX 90 w L W s lc al cl v code ((nx + 1:Nat):Int) (nx:Nat)) (hp:iB w L W code h e0 e1 sl nx) (hop:h.op=9) (dh:dY e0) (dx:dY e1):
 Calls Tryz.prog 71 #[.pointer (some ⟨L.gb,0,none⟩),cO h e0 e1 sl] w fun e w'=>e= .returned (.tuple #[])∧oV (fun a' _=>a'=((nx + 1 + bM e0 + bM e1:Nat):Int)) 90 w L W s lc al cl v code (jP W lc h e0 e1 nx code.length) w':=by
 have kD:=Lib.hid dh
 have jy:=Lib.hid dx
 have nk:(h.op == 1)=false:=by rw [hop]; rfl
 have ng:(h.op == 2)=false:=by rw [hop]; rfl
 have mZ:(h.op == 3)=false:=by rw [hop]; rfl
 have nG:(h.op == 4)=false:=by rw [hop]; rfl
 have nu:(h.op == 5)=false:=by rw [hop]; rfl
 have nA:(h.op == 6)=false:=by rw [hop]; rfl
 have xL:(h.op == 7)=false:=by rw [hop]; rfl
 have xC:(h.op == 8)=false:=by rw [hop]; rfl
 have wR:(h.op == 9)=true:=by rw [hop]; rfl
 have sD:(h.op == 10)=false:=by rw [hop]; rfl
 have rC:(h.op == 11)=false:=by rw [hop]; rfl
 have rJ:(h.op == 12)=false:=by rw [hop]; rfl
 have sF:(h.op == 13)=false:=by rw [hop]; rfl
 have rA:(h.op == 14)=false:=by rw [hop]; rfl
 have rE:(h.op == 15)=false:=by rw [hop]; rfl
 have hin:=iM hp.sh
 have bY:=Lib.hid hop
 clear hop dh dx
 have HI:=Lib.hid hI
 have HP:=Lib.hid hp
 have HL:=Lib.hid hp.len
 have nH:=Lib.hid hp.cnt
 have lW:=Lib.hid hp.ok.2
 have hl0:(lc.length:Int)≤1000:=by have:=hI.few; omega
 clear hI hp
 unfold cO
 go_enter Tryz.func71,Tryz.ntmps71
 go_upto_region 1 with fail
 generalize hW:World.alloc w _=w1
 obtain ⟨nb,hnb⟩: ∃n,w.heap.size=n:=⟨_,rfl⟩
 have HB:Hid (Below w.heap.size w w1):=Lib.hid (by rw [← hW]; exact aj _ _)
 have HX:Hid (w1.heap[nb]? =some (.cells (stA h e0 e1 sl) 131 (0,0))):=Lib.hid (by rw [← hW,← hnb]; exact heap_alloc_new _ _)
 have S0:=Lib.hid (gN.start HI.out HB.out hnb HX.out)
 have bQ:=Lib.hid (HP.out.below (HI.out.keep (Kg.of_below HB.out)))
 rw [hnb]
 clear hW hnb HX HB
 obtain ⟨aZ,q0,q1,q2,q3,q4,q5,q6,q7,q8,q9,qf⟩:=S0.out.i.cells
 have z0:=(ah S0.out.x (j:=0) rfl).2
 have z1:=(ah S0.out.x (j:=1) rfl).2
 have z2:=(ah S0.out.x (j:=2) rfl).2
 have z3:=(ah S0.out.x (j:=3) rfl).2
 have z4:=(ah S0.out.x (j:=4) rfl).2
 have z5:=(ah S0.out.x (j:=5) rfl).2
 have z6:=(ah S0.out.x (j:=6) rfl).2
 have z7:=(ah S0.out.x (j:=7) rfl).2
 have z8:=(ah S0.out.x (j:=8) rfl).2
 have z9:=(ah S0.out.x (j:=9) rfl).2
 have aY:=(ah S0.out.x (j:=10) rfl).2
 clear qf q7
 simp only [stA,List.getElem_toArray,List.getElem_cons_zero,List.getElem_cons_succ] at z0 z1 z2 z3 z4 z5 z6 z7 z8 z9 aY
 obtain rfl:=hin.2.1 (by rw [bY.out]; decide)
 obtain rfl:=hin.2.2 (.inr (by rw [bY.out]; decide))
 go_wp2_with fail
 refine (Bn S0.out.i h.nm).mono ?_
 rintro e w2 ⟨rfl,hb2⟩
 have S1:=Lib.hid (S0.out.below hb2)
 clear hb2
 clear aZ q0 q1 q2 q3 q4 q5 q6 q8 q9 z0 z1 z2 z3 z5 z6 z7 z8 z9 aY
 clear z4
 go_wp2_with fail
 refine (eU (S1.out.i) ⟨21,W.cond h.nm,0,0,0,0⟩ (by have:=HL.out; simp only [fK,fD,List.length_append,List.length_cons,List.length_nil] at *; (unfold gH at *; omega))).mono ?_
 rintro e w3 ⟨rfl,hem⟩
 obtain ⟨v9,bT⟩:=S1.out.then hem
 have S2:=Lib.hid bT
 have oU:=Lib.hid (S1.out.i.keep hem.choose_spec.2.1)
 clear hem bT
 go_wp2_with fail
 exact bodyPost_end (v:= .tuple #[]) (by simp [results,Tryz.results71,go_sem]) rfl ⟨rfl,S2.out.nL rfl (by rw [lY (.inr (by rw [bY.out]; decide))]; unfold rV; rw [bY.out]; rfl)⟩
set_option maxHeartbeats 4000000 in
set_option maxRecDepth 100000 in
theorem SF {w:World} {L:GL} {W:Wo} {s:iE} {lc:List ByteArray} {al:Option Addr} {cl:Nat} {v:Value} {code:List bS} {h:aX} {e0 e1:aP} {sl:Sl} {nx:Nat} (hI:dX 90 w L W s lc al cl v code ((nx + 1:Nat):Int) (nx:Nat)) (hp:iB w L W code h e0 e1 sl nx) (hop:h.op=10) (dh:dY e0) (dx:dY e1):
 Calls Tryz.prog 71 #[.pointer (some ⟨L.gb,0,none⟩),cO h e0 e1 sl] w fun e w'=>e= .returned (.tuple #[])∧oV (fun a' _=>a'=((nx + 1 + bM e0 + bM e1:Nat):Int)) 90 w L W s lc al cl v code (jP W lc h e0 e1 nx code.length) w':=by
 have kD:=Lib.hid dh
 have jy:=Lib.hid dx
 have nk:(h.op == 1)=false:=by rw [hop]; rfl
 have ng:(h.op == 2)=false:=by rw [hop]; rfl
 have mZ:(h.op == 3)=false:=by rw [hop]; rfl
 have nG:(h.op == 4)=false:=by rw [hop]; rfl
 have nu:(h.op == 5)=false:=by rw [hop]; rfl
 have nA:(h.op == 6)=false:=by rw [hop]; rfl
 have xL:(h.op == 7)=false:=by rw [hop]; rfl
 have xC:(h.op == 8)=false:=by rw [hop]; rfl
 have wR:(h.op == 9)=false:=by rw [hop]; rfl
 have sD:(h.op == 10)=true:=by rw [hop]; rfl
 have rC:(h.op == 11)=false:=by rw [hop]; rfl
 have rJ:(h.op == 12)=false:=by rw [hop]; rfl
 have sF:(h.op == 13)=false:=by rw [hop]; rfl
 have rA:(h.op == 14)=false:=by rw [hop]; rfl
 have rE:(h.op == 15)=false:=by rw [hop]; rfl
 have hin:=iM hp.sh
 have bY:=Lib.hid hop
 clear hop dh dx
 have HI:=Lib.hid hI
 have HP:=Lib.hid hp
 have HL:=Lib.hid hp.len
 have nH:=Lib.hid hp.cnt
 have lW:=Lib.hid hp.ok.2
 have hl0:(lc.length:Int)≤1000:=by have:=hI.few; omega
 clear hI hp
 unfold cO
 go_enter Tryz.func71,Tryz.ntmps71
 go_upto_region 1 with fail
 generalize hW:World.alloc w _=w1
 obtain ⟨nb,hnb⟩: ∃n,w.heap.size=n:=⟨_,rfl⟩
 have HB:Hid (Below w.heap.size w w1):=Lib.hid (by rw [← hW]; exact aj _ _)
 have HX:Hid (w1.heap[nb]? =some (.cells (stA h e0 e1 sl) 131 (0,0))):=Lib.hid (by rw [← hW,← hnb]; exact heap_alloc_new _ _)
 have S0:=Lib.hid (gN.start HI.out HB.out hnb HX.out)
 have bQ:=Lib.hid (HP.out.below (HI.out.keep (Kg.of_below HB.out)))
 rw [hnb]
 clear hW hnb HX HB
 obtain ⟨aZ,q0,q1,q2,q3,q4,q5,q6,q7,q8,q9,qf⟩:=S0.out.i.cells
 have z0:=(ah S0.out.x (j:=0) rfl).2
 have z1:=(ah S0.out.x (j:=1) rfl).2
 have z2:=(ah S0.out.x (j:=2) rfl).2
 have z3:=(ah S0.out.x (j:=3) rfl).2
 have z4:=(ah S0.out.x (j:=4) rfl).2
 have z5:=(ah S0.out.x (j:=5) rfl).2
 have z6:=(ah S0.out.x (j:=6) rfl).2
 have z7:=(ah S0.out.x (j:=7) rfl).2
 have z8:=(ah S0.out.x (j:=8) rfl).2
 have z9:=(ah S0.out.x (j:=9) rfl).2
 have aY:=(ah S0.out.x (j:=10) rfl).2
 clear qf q7
 simp only [stA,List.getElem_toArray,List.getElem_cons_zero,List.getElem_cons_succ] at z0 z1 z2 z3 z4 z5 z6 z7 z8 z9 aY
 obtain rfl:=hin.2.1 (by rw [bY.out]; decide)
 obtain rfl:=hin.2.2 (.inr (by rw [bY.out]; decide))
 go_wp2_with fail
 refine (Bn S0.out.i h.nm).mono ?_
 rintro e w2 ⟨rfl,hb2⟩
 have S1:=Lib.hid (S0.out.below hb2)
 clear hb2
 clear aZ q0 q1 q2 q3 q4 q5 q6 q8 q9 z0 z1 z2 z3 z5 z6 z7 z8 z9 aY
 clear z4
 go_wp2_with fail
 refine (eU (S1.out.i) ⟨22,W.cond h.nm,0,0,0,0⟩ (by have:=HL.out; simp only [fK,fD,List.length_append,List.length_cons,List.length_nil] at *; (unfold gH at *; omega))).mono ?_
 rintro e w3 ⟨rfl,hem⟩
 obtain ⟨v9,bT⟩:=S1.out.then hem
 have S2:=Lib.hid bT
 have oU:=Lib.hid (S1.out.i.keep hem.choose_spec.2.1)
 clear hem bT
 go_wp2_with fail
 exact bodyPost_end (v:= .tuple #[]) (by simp [results,Tryz.results71,go_sem]) rfl ⟨rfl,S2.out.nL rfl (by rw [lY (.inr (by rw [bY.out]; decide))]; unfold rV; rw [bY.out]; rfl)⟩
set_option maxHeartbeats 4000000 in
set_option maxRecDepth 100000 in
theorem TQ {w:World} {L:GL} {W:Wo} {s:iE} {lc:List ByteArray} {al:Option Addr} {cl:Nat} {v:Value} {code:List bS} {h:aX} {e0 e1:aP} {sl:Sl} {nx:Nat} (hI:dX 90 w L W s lc al cl v code ((nx + 1:Nat):Int) (nx:Nat)) (hp:iB w L W code h e0 e1 sl nx) (hop:h.op=11) (dh:dY e0) (dx:dY e1):
 Calls Tryz.prog 71 #[.pointer (some ⟨L.gb,0,none⟩),cO h e0 e1 sl] w fun e w'=>e= .returned (.tuple #[])∧oV (fun a' _=>a'=((nx + 1 + bM e0 + bM e1:Nat):Int)) 90 w L W s lc al cl v code (jP W lc h e0 e1 nx code.length) w':=by
 have kD:=Lib.hid dh
 have jy:=Lib.hid dx
 have nk:(h.op == 1)=false:=by rw [hop]; rfl
 have ng:(h.op == 2)=false:=by rw [hop]; rfl
 have mZ:(h.op == 3)=false:=by rw [hop]; rfl
 have nG:(h.op == 4)=false:=by rw [hop]; rfl
 have nu:(h.op == 5)=false:=by rw [hop]; rfl
 have nA:(h.op == 6)=false:=by rw [hop]; rfl
 have xL:(h.op == 7)=false:=by rw [hop]; rfl
 have xC:(h.op == 8)=false:=by rw [hop]; rfl
 have wR:(h.op == 9)=false:=by rw [hop]; rfl
 have sD:(h.op == 10)=false:=by rw [hop]; rfl
 have rC:(h.op == 11)=true:=by rw [hop]; rfl
 have rJ:(h.op == 12)=false:=by rw [hop]; rfl
 have sF:(h.op == 13)=false:=by rw [hop]; rfl
 have rA:(h.op == 14)=false:=by rw [hop]; rfl
 have rE:(h.op == 15)=false:=by rw [hop]; rfl
 have hin:=iM hp.sh
 have bY:=Lib.hid hop
 clear hop dh dx
 have HI:=Lib.hid hI
 have HP:=Lib.hid hp
 have HL:=Lib.hid hp.len
 have nH:=Lib.hid hp.cnt
 have lW:=Lib.hid hp.ok.2
 have hl0:(lc.length:Int)≤1000:=by have:=hI.few; omega
 clear hI hp
 unfold cO
 go_enter Tryz.func71,Tryz.ntmps71
 go_upto_region 1 with fail
 generalize hW:World.alloc w _=w1
 obtain ⟨nb,hnb⟩: ∃n,w.heap.size=n:=⟨_,rfl⟩
 have HB:Hid (Below w.heap.size w w1):=Lib.hid (by rw [← hW]; exact aj _ _)
 have HX:Hid (w1.heap[nb]? =some (.cells (stA h e0 e1 sl) 131 (0,0))):=Lib.hid (by rw [← hW,← hnb]; exact heap_alloc_new _ _)
 have S0:=Lib.hid (gN.start HI.out HB.out hnb HX.out)
 have bQ:=Lib.hid (HP.out.below (HI.out.keep (Kg.of_below HB.out)))
 rw [hnb]
 clear hW hnb HX HB
 obtain ⟨aZ,q0,q1,q2,q3,q4,q5,q6,q7,q8,q9,qf⟩:=S0.out.i.cells
 have z0:=(ah S0.out.x (j:=0) rfl).2
 have z1:=(ah S0.out.x (j:=1) rfl).2
 have z2:=(ah S0.out.x (j:=2) rfl).2
 have z3:=(ah S0.out.x (j:=3) rfl).2
 have z4:=(ah S0.out.x (j:=4) rfl).2
 have z5:=(ah S0.out.x (j:=5) rfl).2
 have z6:=(ah S0.out.x (j:=6) rfl).2
 have z7:=(ah S0.out.x (j:=7) rfl).2
 have z8:=(ah S0.out.x (j:=8) rfl).2
 have z9:=(ah S0.out.x (j:=9) rfl).2
 have aY:=(ah S0.out.x (j:=10) rfl).2
 clear qf q7
 simp only [stA,List.getElem_toArray,List.getElem_cons_zero,List.getElem_cons_succ] at z0 z1 z2 z3 z4 z5 z6 z7 z8 z9 aY
 obtain rfl:=hin.2.1 (by rw [bY.out]; decide)
 obtain rfl:=hin.2.2 (.inr (by rw [bY.out]; decide))
 go_wp2_with fail
 refine (Bn S0.out.i h.nm).mono ?_
 rintro e w2 ⟨rfl,hb2⟩
 have S1:=Lib.hid (S0.out.below hb2)
 clear hb2
 clear aZ q0 q1 q2 q3 q4 q5 q6 q8 q9 z0 z1 z2 z3 z5 z6 z7 z8 z9 aY
 clear z4
 go_wp2_with fail
 refine (eU (S1.out.i) ⟨23,W.cond h.nm,0,0,0,0⟩ (by have:=HL.out; simp only [fK,fD,List.length_append,List.length_cons,List.length_nil] at *; (unfold gH at *; omega))).mono ?_
 rintro e w3 ⟨rfl,hem⟩
 obtain ⟨v9,bT⟩:=S1.out.then hem
 have S2:=Lib.hid bT
 have oU:=Lib.hid (S1.out.i.keep hem.choose_spec.2.1)
 clear hem bT
 go_wp2_with fail
 exact bodyPost_end (v:= .tuple #[]) (by simp [results,Tryz.results71,go_sem]) rfl ⟨rfl,S2.out.nL rfl (by rw [lY (.inr (by rw [bY.out]; decide))]; unfold rV; rw [bY.out]; rfl)⟩
end Go.Proofs.YtdajkddgnfgijaaGreatDoor
end
section
set_option linter.unusedSimpArgs false
set_option linter.unusedVariables false
namespace Go.Proofs.YtdajkddgnfgijaaGreatDoor
open Go.RowKit
open Md
set_option maxHeartbeats 4000000 in
set_option maxRecDepth 100000 in
theorem SI {w:World} {L:GL} {W:Wo} {s:iE} {lc:List ByteArray} {al:Option Addr} {cl:Nat} {v:Value} {code:List bS} {h:aX} {e0 e1:aP} {sl:Sl} {nx:Nat} (hI:dX 90 w L W s lc al cl v code ((nx + 1:Nat):Int) (nx:Nat)) (hp:iB w L W code h e0 e1 sl nx) (hop:h.op=12) (dh:dY e0) (dx:dY e1):
 Calls Tryz.prog 71 #[.pointer (some ⟨L.gb,0,none⟩),cO h e0 e1 sl] w fun e w'=>e= .returned (.tuple #[])∧oV (fun a' _=>a'=((nx + 1 + bM e0 + bM e1:Nat):Int)) 90 w L W s lc al cl v code (jP W lc h e0 e1 nx code.length) w':=by
 have kD:=Lib.hid dh
 have jy:=Lib.hid dx
 have nk:(h.op == 1)=false:=by rw [hop]; rfl
 have ng:(h.op == 2)=false:=by rw [hop]; rfl
 have mZ:(h.op == 3)=false:=by rw [hop]; rfl
 have nG:(h.op == 4)=false:=by rw [hop]; rfl
 have nu:(h.op == 5)=false:=by rw [hop]; rfl
 have nA:(h.op == 6)=false:=by rw [hop]; rfl
 have xL:(h.op == 7)=false:=by rw [hop]; rfl
 have xC:(h.op == 8)=false:=by rw [hop]; rfl
 have wR:(h.op == 9)=false:=by rw [hop]; rfl
 have sD:(h.op == 10)=false:=by rw [hop]; rfl
 have rC:(h.op == 11)=false:=by rw [hop]; rfl
 have rJ:(h.op == 12)=true:=by rw [hop]; rfl
 have sF:(h.op == 13)=false:=by rw [hop]; rfl
 have rA:(h.op == 14)=false:=by rw [hop]; rfl
 have rE:(h.op == 15)=false:=by rw [hop]; rfl
 have hin:=iM hp.sh
 have bY:=Lib.hid hop
 clear hop dh dx
 have HI:=Lib.hid hI
 have HP:=Lib.hid hp
 have HL:=Lib.hid hp.len
 have nH:=Lib.hid hp.cnt
 have lW:=Lib.hid hp.ok.2
 have hl0:(lc.length:Int)≤1000:=by have:=hI.few; omega
 clear hI hp
 unfold cO
 go_enter Tryz.func71,Tryz.ntmps71
 go_upto_region 1 with fail
 generalize hW:World.alloc w _=w1
 obtain ⟨nb,hnb⟩: ∃n,w.heap.size=n:=⟨_,rfl⟩
 have HB:Hid (Below w.heap.size w w1):=Lib.hid (by rw [← hW]; exact aj _ _)
 have HX:Hid (w1.heap[nb]? =some (.cells (stA h e0 e1 sl) 131 (0,0))):=Lib.hid (by rw [← hW,← hnb]; exact heap_alloc_new _ _)
 have S0:=Lib.hid (gN.start HI.out HB.out hnb HX.out)
 have bQ:=Lib.hid (HP.out.below (HI.out.keep (Kg.of_below HB.out)))
 rw [hnb]
 clear hW hnb HX HB
 obtain ⟨aZ,q0,q1,q2,q3,q4,q5,q6,q7,q8,q9,qf⟩:=S0.out.i.cells
 have z0:=(ah S0.out.x (j:=0) rfl).2
 have z1:=(ah S0.out.x (j:=1) rfl).2
 have z2:=(ah S0.out.x (j:=2) rfl).2
 have z3:=(ah S0.out.x (j:=3) rfl).2
 have z4:=(ah S0.out.x (j:=4) rfl).2
 have z5:=(ah S0.out.x (j:=5) rfl).2
 have z6:=(ah S0.out.x (j:=6) rfl).2
 have z7:=(ah S0.out.x (j:=7) rfl).2
 have z8:=(ah S0.out.x (j:=8) rfl).2
 have z9:=(ah S0.out.x (j:=9) rfl).2
 have aY:=(ah S0.out.x (j:=10) rfl).2
 clear qf q7
 simp only [stA,List.getElem_toArray,List.getElem_cons_zero,List.getElem_cons_succ] at z0 z1 z2 z3 z4 z5 z6 z7 z8 z9 aY
 obtain rfl:=hin.2.1 (by rw [bY.out]; decide)
 obtain rfl:=hin.2.2 (.inr (by rw [bY.out]; decide))
 go_wp2_with fail
 refine (C8 S0.out.i h.nm).mono ?_
 rintro e w2 ⟨rfl,hb2⟩
 have S1:=Lib.hid (S0.out.below hb2)
 clear hb2
 clear aZ q0 q1 q2 q3 q4 q5 q6 q8 q9 z0 z1 z2 z3 z5 z6 z7 z8 z9 aY
 clear z4
 go_wp2_with fail
 refine (eU (S1.out.i) ⟨24,fV W.ts h.nm,0,0,0,0⟩ (by have:=HL.out; simp only [fK,fD,List.length_append,List.length_cons,List.length_nil] at *; (unfold gH at *; omega))).mono ?_
 rintro e w3 ⟨rfl,hem⟩
 obtain ⟨v9,bT⟩:=S1.out.then hem
 have S2:=Lib.hid bT
 have oU:=Lib.hid (S1.out.i.keep hem.choose_spec.2.1)
 clear hem bT
 go_wp2_with fail
 exact bodyPost_end (v:= .tuple #[]) (by simp [results,Tryz.results71,go_sem]) rfl ⟨rfl,S2.out.nL rfl (by rw [lY (.inr (by rw [bY.out]; decide))]; unfold rV; rw [bY.out]; rfl)⟩
set_option maxHeartbeats 4000000 in
set_option maxRecDepth 100000 in
theorem Uc {w:World} {L:GL} {W:Wo} {s:iE} {lc:List ByteArray} {al:Option Addr} {cl:Nat} {v:Value} {code:List bS} {h:aX} {e0 e1:aP} {sl:Sl} {nx:Nat} (hI:dX 90 w L W s lc al cl v code ((nx + 1:Nat):Int) (nx:Nat)) (hp:iB w L W code h e0 e1 sl nx) (hop:h.op=13) (dh:dY e0) (dx:dY e1):
 Calls Tryz.prog 71 #[.pointer (some ⟨L.gb,0,none⟩),cO h e0 e1 sl] w fun e w'=>e= .returned (.tuple #[])∧oV (fun a' _=>a'=((nx + 1 + bM e0 + bM e1:Nat):Int)) 90 w L W s lc al cl v code (jP W lc h e0 e1 nx code.length) w':=by
 have kD:=Lib.hid dh
 have jy:=Lib.hid dx
 have nk:(h.op == 1)=false:=by rw [hop]; rfl
 have ng:(h.op == 2)=false:=by rw [hop]; rfl
 have mZ:(h.op == 3)=false:=by rw [hop]; rfl
 have nG:(h.op == 4)=false:=by rw [hop]; rfl
 have nu:(h.op == 5)=false:=by rw [hop]; rfl
 have nA:(h.op == 6)=false:=by rw [hop]; rfl
 have xL:(h.op == 7)=false:=by rw [hop]; rfl
 have xC:(h.op == 8)=false:=by rw [hop]; rfl
 have wR:(h.op == 9)=false:=by rw [hop]; rfl
 have sD:(h.op == 10)=false:=by rw [hop]; rfl
 have rC:(h.op == 11)=false:=by rw [hop]; rfl
 have rJ:(h.op == 12)=false:=by rw [hop]; rfl
 have sF:(h.op == 13)=true:=by rw [hop]; rfl
 have rA:(h.op == 14)=false:=by rw [hop]; rfl
 have rE:(h.op == 15)=false:=by rw [hop]; rfl
 have hin:=iM hp.sh
 have bY:=Lib.hid hop
 clear hop dh dx
 have HI:=Lib.hid hI
 have HP:=Lib.hid hp
 have HL:=Lib.hid hp.len
 have nH:=Lib.hid hp.cnt
 have lW:=Lib.hid hp.ok.2
 have hl0:(lc.length:Int)≤1000:=by have:=hI.few; omega
 clear hI hp
 unfold cO
 go_enter Tryz.func71,Tryz.ntmps71
 go_upto_region 1 with fail
 generalize hW:World.alloc w _=w1
 obtain ⟨nb,hnb⟩: ∃n,w.heap.size=n:=⟨_,rfl⟩
 have HB:Hid (Below w.heap.size w w1):=Lib.hid (by rw [← hW]; exact aj _ _)
 have HX:Hid (w1.heap[nb]? =some (.cells (stA h e0 e1 sl) 131 (0,0))):=Lib.hid (by rw [← hW,← hnb]; exact heap_alloc_new _ _)
 have S0:=Lib.hid (gN.start HI.out HB.out hnb HX.out)
 have bQ:=Lib.hid (HP.out.below (HI.out.keep (Kg.of_below HB.out)))
 rw [hnb]
 clear hW hnb HX HB
 obtain ⟨aZ,q0,q1,q2,q3,q4,q5,q6,q7,q8,q9,qf⟩:=S0.out.i.cells
 have z0:=(ah S0.out.x (j:=0) rfl).2
 have z1:=(ah S0.out.x (j:=1) rfl).2
 have z2:=(ah S0.out.x (j:=2) rfl).2
 have z3:=(ah S0.out.x (j:=3) rfl).2
 have z4:=(ah S0.out.x (j:=4) rfl).2
 have z5:=(ah S0.out.x (j:=5) rfl).2
 have z6:=(ah S0.out.x (j:=6) rfl).2
 have z7:=(ah S0.out.x (j:=7) rfl).2
 have z8:=(ah S0.out.x (j:=8) rfl).2
 have z9:=(ah S0.out.x (j:=9) rfl).2
 have aY:=(ah S0.out.x (j:=10) rfl).2
 clear qf q7
 simp only [stA,List.getElem_toArray,List.getElem_cons_zero,List.getElem_cons_succ] at z0 z1 z2 z3 z4 z5 z6 z7 z8 z9 aY
 obtain rfl:=hin.2.1 (by rw [bY.out]; decide)
 obtain rfl:=hin.2.2 (.inr (by rw [bY.out]; decide))
 go_wp2_with fail
 refine (C8 S0.out.i h.nm).mono ?_
 rintro e w2 ⟨rfl,hb2⟩
 have S1:=Lib.hid (S0.out.below hb2)
 clear hb2
 clear aZ q0 q1 q2 q3 q4 q5 q6 q8 q9 z0 z1 z2 z3 z5 z6 z7 z8 z9 aY
 clear z4
 go_wp2_with fail
 refine (eU (S1.out.i) ⟨25,fV W.ts h.nm,0,0,0,0⟩ (by have:=HL.out; simp only [fK,fD,List.length_append,List.length_cons,List.length_nil] at *; (unfold gH at *; omega))).mono ?_
 rintro e w3 ⟨rfl,hem⟩
 obtain ⟨v9,bT⟩:=S1.out.then hem
 have S2:=Lib.hid bT
 have oU:=Lib.hid (S1.out.i.keep hem.choose_spec.2.1)
 clear hem bT
 go_wp2_with fail
 exact bodyPost_end (v:= .tuple #[]) (by simp [results,Tryz.results71,go_sem]) rfl ⟨rfl,S2.out.nL rfl (by rw [lY (.inr (by rw [bY.out]; decide))]; unfold rV; rw [bY.out]; rfl)⟩
end Go.Proofs.YtdajkddgnfgijaaGreatDoor
end
section
set_option linter.unusedSimpArgs false
set_option linter.unusedVariables false
namespace Go.Proofs.YtdajkddgnfgijaaGreatDoor
open Go.RowKit
open Md
set_option maxHeartbeats 4000000 in
set_option maxRecDepth 100000 in
theorem TP {w:World} {L:GL} {W:Wo} {s:iE} {lc:List ByteArray} {al:Option Addr} {cl:Nat} {v:Value} {code:List bS} {h:aX} {e0 e1:aP} {sl:Sl} {nx:Nat} (hI:dX 90 w L W s lc al cl v code ((nx + 1:Nat):Int) (nx:Nat)) (hp:iB w L W code h e0 e1 sl nx) (hop:h.op=14) (dh:dY e0) (dx:dY e1):
 Calls Tryz.prog 71 #[.pointer (some ⟨L.gb,0,none⟩),cO h e0 e1 sl] w fun e w'=>e= .returned (.tuple #[])∧oV (fun a' _=>a'=((nx + 1 + bM e0 + bM e1:Nat):Int)) 90 w L W s lc al cl v code (jP W lc h e0 e1 nx code.length) w':=by
 have FP:=Lib.hid (LB hp.sh hp.ok.1 (by rw [hop]; rfl))
 have kD:=Lib.hid dh
 have jy:=Lib.hid dx
 have nk:(h.op == 1)=false:=by rw [hop]; rfl
 have ng:(h.op == 2)=false:=by rw [hop]; rfl
 have mZ:(h.op == 3)=false:=by rw [hop]; rfl
 have nG:(h.op == 4)=false:=by rw [hop]; rfl
 have nu:(h.op == 5)=false:=by rw [hop]; rfl
 have nA:(h.op == 6)=false:=by rw [hop]; rfl
 have xL:(h.op == 7)=false:=by rw [hop]; rfl
 have xC:(h.op == 8)=false:=by rw [hop]; rfl
 have wR:(h.op == 9)=false:=by rw [hop]; rfl
 have sD:(h.op == 10)=false:=by rw [hop]; rfl
 have rC:(h.op == 11)=false:=by rw [hop]; rfl
 have rJ:(h.op == 12)=false:=by rw [hop]; rfl
 have sF:(h.op == 13)=false:=by rw [hop]; rfl
 have rA:(h.op == 14)=true:=by rw [hop]; rfl
 have rE:(h.op == 15)=false:=by rw [hop]; rfl
 have hin:=iM hp.sh
 have bY:=Lib.hid hop
 clear hop dh dx
 have HI:=Lib.hid hI
 have HP:=Lib.hid hp
 have HL:=Lib.hid hp.len
 have nH:=Lib.hid hp.cnt
 have lW:=Lib.hid hp.ok.2
 have hl0:(lc.length:Int)≤1000:=by have:=hI.few; omega
 clear hI hp
 unfold cO
 go_enter Tryz.func71,Tryz.ntmps71
 go_upto_region 1 with fail
 generalize hW:World.alloc w _=w1
 obtain ⟨nb,hnb⟩: ∃n,w.heap.size=n:=⟨_,rfl⟩
 have HB:Hid (Below w.heap.size w w1):=Lib.hid (by rw [← hW]; exact aj _ _)
 have HX:Hid (w1.heap[nb]? =some (.cells (stA h e0 e1 sl) 131 (0,0))):=Lib.hid (by rw [← hW,← hnb]; exact heap_alloc_new _ _)
 have S0:=Lib.hid (gN.start HI.out HB.out hnb HX.out)
 have bQ:=Lib.hid (HP.out.below (HI.out.keep (Kg.of_below HB.out)))
 rw [hnb]
 clear hW hnb HX HB
 obtain ⟨aZ,q0,q1,q2,q3,q4,q5,q6,q7,q8,q9,qf⟩:=S0.out.i.cells
 have z0:=(ah S0.out.x (j:=0) rfl).2
 have z1:=(ah S0.out.x (j:=1) rfl).2
 have z2:=(ah S0.out.x (j:=2) rfl).2
 have z3:=(ah S0.out.x (j:=3) rfl).2
 have z4:=(ah S0.out.x (j:=4) rfl).2
 have z5:=(ah S0.out.x (j:=5) rfl).2
 have z6:=(ah S0.out.x (j:=6) rfl).2
 have z7:=(ah S0.out.x (j:=7) rfl).2
 have z8:=(ah S0.out.x (j:=8) rfl).2
 have z9:=(ah S0.out.x (j:=9) rfl).2
 have aY:=(ah S0.out.x (j:=10) rfl).2
 clear qf q7
 simp only [stA,List.getElem_toArray,List.getElem_cons_zero,List.getElem_cons_succ] at z0 z1 z2 z3 z4 z5 z6 z7 z8 z9 aY
 obtain rfl:=hin.2.1 (by rw [bY.out]; decide)
 obtain rfl:=hin.2.2 (.inr (by rw [bY.out]; decide))
 go_wp2_with fail
 refine (pX h.dN h.xn h.dM h.aR _ L W s lc al cl _ _ ((nx + 1:Nat):Int) nx sl.dH sl.bR lc.length S0.out.i bQ.out.m.1.2.2.2.2.2.1 bQ.out.m.2.2.1 FP.out.1 FP.out.2 (by omega) (by have:=lW.out; unfold gH at this; omega) (by have:=HL.out; unfold gH at this; simp only [fD,List.length_append,List.length_cons,List.length_nil] at *; omega)).mono ?_
 rintro e w2 ⟨rfl,hem⟩
 have Cb:Hid ((jX W lc nx h.dN h.xn h.dM h.aR lc.length).length≤1 + fD h.aR):=Lib.hid (jD W lc nx h.dN h.xn h.dM h.aR lc.length)
 generalize G7:jX W lc nx h.dN h.xn h.dM h.aR lc.length=XX at *
 have K8:=Lib.hid G7
 obtain ⟨v9,bT⟩:=S0.out.then hem
 have S1:=Lib.hid bT
 have aU:=Lib.hid (bQ.out.below (S0.out.i.keep hem.choose_spec.2.1))
 clear hem bT G7
 clear aZ q0 q1 q2 q3 q4 q5 q6 q8 q9 z0 z1 z2 z3 z5 z6 z7 z8 z9 aY
 clear z4
 obtain ⟨aZ,q0,q1,q2,q3,q4,q5,q6,q7,q8,q9,qf⟩:=S1.out.i.cells
 have z0:=(ah S1.out.x (j:=0) rfl).2
 have z1:=(ah S1.out.x (j:=1) rfl).2
 have z2:=(ah S1.out.x (j:=2) rfl).2
 have z3:=(ah S1.out.x (j:=3) rfl).2
 have z4:=(ah S1.out.x (j:=4) rfl).2
 have z5:=(ah S1.out.x (j:=5) rfl).2
 have z6:=(ah S1.out.x (j:=6) rfl).2
 have z7:=(ah S1.out.x (j:=7) rfl).2
 have z8:=(ah S1.out.x (j:=8) rfl).2
 have z9:=(ah S1.out.x (j:=9) rfl).2
 have aY:=(ah S1.out.x (j:=10) rfl).2
 clear qf q7
 simp only [stA,List.getElem_toArray,List.getElem_cons_zero,List.getElem_cons_succ] at z0 z1 z2 z3 z4 z5 z6 z7 z8 z9 aY
 go_wp2_with fail
 refine (Ca S1.out.i h.nm).mono ?_
 rintro e w3 ⟨rfl,hb3⟩
 have S2:=Lib.hid (S1.out.below hb3)
 clear hb3
 clear aZ q0 q1 q2 q3 q4 q5 q6 q8 q9 z0 z1 z2 z3 z5 z6 z7 z8 z9 aY
 clear z4
 go_wp2_with fail
 refine (eU (S2.out.i) ⟨26,fV W.fs h.nm,lc.length,0,0,0⟩ (by have:=HL.out; simp only [fK,fD,List.length_append,List.length_cons,List.length_nil] at *; (have:=Cb.out; unfold gH at *; omega))).mono ?_
 rintro e w4 ⟨rfl,hem⟩
 obtain ⟨v9,bT⟩:=S2.out.then hem
 have S3:=Lib.hid bT
 have oU:=Lib.hid (S2.out.i.keep hem.choose_spec.2.1)
 clear hem bT
 go_wp2_with fail
 exact bodyPost_end (v:= .tuple #[]) (by simp [results,Tryz.results71,go_sem]) rfl ⟨rfl,S3.out.nL rfl (by rw [lY (.inr (by rw [bY.out]; decide))]; unfold rV fK; rw [bY.out,K8.out]; rfl)⟩
end Go.Proofs.YtdajkddgnfgijaaGreatDoor
end
section
set_option linter.unusedSimpArgs false
set_option linter.unusedVariables false
namespace Go.Proofs.YtdajkddgnfgijaaGreatDoor
open Go.RowKit
open Md
set_option maxHeartbeats 4000000 in
set_option maxRecDepth 100000 in
theorem Sq {w:World} {L:GL} {W:Wo} {s:iE} {lc:List ByteArray} {al:Option Addr} {cl:Nat} {v:Value} {code:List bS} {h:aX} {e0 e1:aP} {sl:Sl} {nx:Nat} (hI:dX 90 w L W s lc al cl v code ((nx + 1:Nat):Int) (nx:Nat)) (hp:iB w L W code h e0 e1 sl nx) (hop:h.op=15) (dh:dY e0) (dx:dY e1):
 Calls Tryz.prog 71 #[.pointer (some ⟨L.gb,0,none⟩),cO h e0 e1 sl] w fun e w'=>e= .returned (.tuple #[])∧oV (fun a' _=>a'=((nx + 1 + bM e0 + bM e1:Nat):Int)) 90 w L W s lc al cl v code (jP W lc h e0 e1 nx code.length) w':=by
 have kD:=Lib.hid dh
 have jy:=Lib.hid dx
 have nk:(h.op == 1)=false:=by rw [hop]; rfl
 have ng:(h.op == 2)=false:=by rw [hop]; rfl
 have mZ:(h.op == 3)=false:=by rw [hop]; rfl
 have nG:(h.op == 4)=false:=by rw [hop]; rfl
 have nu:(h.op == 5)=false:=by rw [hop]; rfl
 have nA:(h.op == 6)=false:=by rw [hop]; rfl
 have xL:(h.op == 7)=false:=by rw [hop]; rfl
 have xC:(h.op == 8)=false:=by rw [hop]; rfl
 have wR:(h.op == 9)=false:=by rw [hop]; rfl
 have sD:(h.op == 10)=false:=by rw [hop]; rfl
 have rC:(h.op == 11)=false:=by rw [hop]; rfl
 have rJ:(h.op == 12)=false:=by rw [hop]; rfl
 have sF:(h.op == 13)=false:=by rw [hop]; rfl
 have rA:(h.op == 14)=false:=by rw [hop]; rfl
 have rE:(h.op == 15)=true:=by rw [hop]; rfl
 have hin:=iM hp.sh
 have bY:=Lib.hid hop
 clear hop dh dx
 have HI:=Lib.hid hI
 have HP:=Lib.hid hp
 have HL:=Lib.hid hp.len
 have nH:=Lib.hid hp.cnt
 have lW:=Lib.hid hp.ok.2
 have hl0:(lc.length:Int)≤1000:=by have:=hI.few; omega
 clear hI hp
 unfold cO
 go_enter Tryz.func71,Tryz.ntmps71
 go_upto_region 1 with fail
 generalize hW:World.alloc w _=w1
 obtain ⟨nb,hnb⟩: ∃n,w.heap.size=n:=⟨_,rfl⟩
 have HB:Hid (Below w.heap.size w w1):=Lib.hid (by rw [← hW]; exact aj _ _)
 have HX:Hid (w1.heap[nb]? =some (.cells (stA h e0 e1 sl) 131 (0,0))):=Lib.hid (by rw [← hW,← hnb]; exact heap_alloc_new _ _)
 have S0:=Lib.hid (gN.start HI.out HB.out hnb HX.out)
 have bQ:=Lib.hid (HP.out.below (HI.out.keep (Kg.of_below HB.out)))
 rw [hnb]
 clear hW hnb HX HB
 obtain ⟨aZ,q0,q1,q2,q3,q4,q5,q6,q7,q8,q9,qf⟩:=S0.out.i.cells
 have z0:=(ah S0.out.x (j:=0) rfl).2
 have z1:=(ah S0.out.x (j:=1) rfl).2
 have z2:=(ah S0.out.x (j:=2) rfl).2
 have z3:=(ah S0.out.x (j:=3) rfl).2
 have z4:=(ah S0.out.x (j:=4) rfl).2
 have z5:=(ah S0.out.x (j:=5) rfl).2
 have z6:=(ah S0.out.x (j:=6) rfl).2
 have z7:=(ah S0.out.x (j:=7) rfl).2
 have z8:=(ah S0.out.x (j:=8) rfl).2
 have z9:=(ah S0.out.x (j:=9) rfl).2
 have aY:=(ah S0.out.x (j:=10) rfl).2
 clear qf q7
 simp only [stA,List.getElem_toArray,List.getElem_cons_zero,List.getElem_cons_succ] at z0 z1 z2 z3 z4 z5 z6 z7 z8 z9 aY
 obtain rfl:=hin.2.1 (by rw [bY.out]; decide)
 obtain rfl:=hin.2.2 (.inr (by rw [bY.out]; decide))
 go_wp2_with fail
 have HZ:=Lib.hid (And.intro (Array.getElem?_eq_some_iff.1 S0.out.x).1 (And.intro z0 (And.intro z1 (And.intro z2 (And.intro z3 (And.intro z4 (And.intro z5 (And.intro z6 (And.intro z7 (And.intro z8 (And.intro z9 aY)))))))))))
 have HQ:=Lib.hid (And.intro aZ q6)
 clear aZ q0 q1 q2 q3 q4 q5 q6 q8 q9 z0 z1 z2 z3 z5 z6 z7 z8 z9 aY
 clear z4
 have Y0: ∀w',Below w1.heap.size w1 w'→w'.cell? ⟨nb,0,none⟩=some (.int .i64 h.op):=fun w' hb=>(hb.cell (p:=⟨nb,0,none⟩) HZ.out.1).trans HZ.out.2.1
 have Y1: ∀w',Below w1.heap.size w1 w'→w'.cell? ⟨nb,1,none⟩=some (.int .i64 h.line):=fun w' hb=>(hb.cell (p:=⟨nb,1,none⟩) HZ.out.1).trans HZ.out.2.2.1
 have Y2: ∀w',Below w1.heap.size w1 w'→w'.cell? ⟨nb,2,none⟩=some (.string h.nm):=fun w' hb=>(hb.cell (p:=⟨nb,2,none⟩) HZ.out.1).trans HZ.out.2.2.2.1
 have Y3: ∀w',Below w1.heap.size w1 w'→w'.cell? ⟨nb,3,none⟩=some (.string h.arg):=fun w' hb=>(hb.cell (p:=⟨nb,3,none⟩) HZ.out.1).trans HZ.out.2.2.2.2.1
 have Y4: ∀w',Below w1.heap.size w1 w'→w'.cell? ⟨nb,4,none⟩=some (.slice sl.dZ h.idx.len sl.dG):=fun w' hb=>(hb.cell (p:=⟨nb,4,none⟩) HZ.out.1).trans HZ.out.2.2.2.2.2.1
 have Y5: ∀w',Below w1.heap.size w1 w'→w'.cell? ⟨nb,5,none⟩=some (.int .i64 h.dN):=fun w' hb=>(hb.cell (p:=⟨nb,5,none⟩) HZ.out.1).trans HZ.out.2.2.2.2.2.2.1
 have Y6: ∀w',Below w1.heap.size w1 w'→w'.cell? ⟨nb,6,none⟩=some (.int .i64 h.xn):=fun w' hb=>(hb.cell (p:=⟨nb,6,none⟩) HZ.out.1).trans HZ.out.2.2.2.2.2.2.2.1
 have Y7: ∀w',Below w1.heap.size w1 w'→w'.cell? ⟨nb,7,none⟩=some (.string h.dM):=fun w' hb=>(hb.cell (p:=⟨nb,7,none⟩) HZ.out.1).trans HZ.out.2.2.2.2.2.2.2.2.1
 have Y8: ∀w',Below w1.heap.size w1 w'→w'.cell? ⟨nb,8,none⟩=some (.slice sl.dH h.aR.len sl.bR):=fun w' hb=>(hb.cell (p:=⟨nb,8,none⟩) HZ.out.1).trans HZ.out.2.2.2.2.2.2.2.2.2.1
 have Y9: ∀w',Below w1.heap.size w1 w'→w'.cell? ⟨nb,9,none⟩=some (.slice sl.bV (aP.nil).len sl.bC):=fun w' hb=>(hb.cell (p:=⟨nb,9,none⟩) HZ.out.1).trans HZ.out.2.2.2.2.2.2.2.2.2.2.1
 have yI: ∀w',Below w1.heap.size w1 w'→w'.cell? ⟨nb,10,none⟩=some (.slice sl.eB (aP.nil).len sl.dK):=fun w' hb=>(hb.cell (p:=⟨nb,10,none⟩) HZ.out.1).trans HZ.out.2.2.2.2.2.2.2.2.2.2.2
 have Q: ∀w',Below w1.heap.size w1 w'→w'.cell? ⟨L.gb,6,none⟩=some (.slice al lc.length cl):=fun w' hb=>(hb.cell (p:=⟨L.gb,6,none⟩) HQ.out.1).trans HQ.out.2
 refine gy (by kernel_rfl) rfl ?_
 refine fU 0 13 [] [[],[],[1],[1,2],[1,2,3],[],[5],[1,2,3,4,5,6],[],[],[9],[1,2,3,4,5,6,7,8,9,10],[1,2,3,4,5,6,7,8,9,10,11],[0,1,2,3,4,5,6,7,8,9,10,11,12]] [[],[],[],[],[],[],[],[],[],[],[],[],[]] (fun _ w'=>Below w1.heap.size w1 w') (fun w w'=>Below w.heap.size w w') [126,127,128,129,130,131,132,133,134,135,136,137,138] rfl rfl (by rfl) (by kernel_rfl) (by kernel_rfl) (by kernel_rfl) (by kernel_rfl) (by kernel_rfl) (by rfl) (fun _=>Below.refl _ _) (by rfl) (below_drewN (Below.refl _ _) 1) ?_
 simp only [List.take_succ_cons,List.take_zero,List.drop_zero,List.drop_succ_cons,mE,List.map_cons,List.map_nil]
 apply bg.step
 case aD=>
  intro c A w' hok hC hO hD
  have e0:=hO 0 (by rfl)
  simp [Act.eval] at e0
  simp [ay,ak,au,Act.eval,Region.binds] at hD
  simp [go_sem,gd,Oper.wp,hD,e0]
  exact aA.mk (Below.refl _ _) hC (ak.mk _ _)
 apply bg.step
 case aD=>
  intro c A w' hok hC hO hD
  have e0:=hO 0 (by rfl)
  simp [Act.eval] at e0
  simp [ay,ak,au,Act.eval,Region.binds] at hD
  simp [go_sem,gd,Oper.wp,hD,e0]
  exact aA.mk (Below.refl _ _) hC (ak.mk _ _)
 apply bg.step
 case aD=>
  intro c A w' hok hC hO hD
  simp [ay,ak,au,Act.eval,Region.binds] at hD
  simp [go_sem,gd,Oper.wp,hD]
  exact aA.mk (Below.refl _ _) hC (ak.mk _ _)
 apply bg.step
 case aD=>
  intro c A w' hok hC hO hD
  simp [ay,ak,au,Act.eval,Region.binds] at hD
  simp [go_sem,gd,Oper.wp,hD]
  exact aA.mk (Below.refl _ _) hC (ak.mk _ _)
 simp only [List.nil_append,List.cons_append]
 apply bg.step
 case aD=>
  intro c A w' hok hC hO hD
  simp [ay,ak,au,Act.eval,Region.binds] at hD
  simp [go_sem,gd,Oper.wp,hD,Q,hC]
  exact aA.mk (Below.refl _ _) hC (ak.mk _ _)
 apply bg.step
 case aD=>
  intro c A w' hok hC hO hD
  have e3:=hO 3 (by rfl)
  simp [Act.eval] at e3
  simp [ay,ak,au,Act.eval,Region.binds] at hD
  simp [go_sem,gd,Oper.wp,hD,e3]
  exact aA.mk (Below.refl _ _) hC (ak.mk _ _)
 apply bg.step
 case aD=>
  intro c A w' hok hC hO hD
  simp [ay,ak,au,Act.eval,Region.binds] at hD
  simp [go_sem,gd,Oper.wp,hD,Y2,hC]
  exact aA.mk (Below.refl _ _) hC (ak.mk _ _)
 simp only [List.nil_append,List.cons_append]
 refine bg.some (fun v _=>v= .int .i64 (fV lc h.nm)) (fun _ _ _ _ h=>h) ?_ ?_
 ·intro c A w' hok hC hO hD
  simp [ay,ak,au,Act.eval,Region.binds] at hD
  simp [go_sem,gd,Oper.wp,hD]
  refine (qC lc h.nm w' al cl (by have:=HI.out.few; unfold maxLen; omega) ((S0.out.i.below hC).lc.mono (S0.out.i.below hC).b0)).mono ?_
  rintro e w5 ⟨rfl,rfl⟩
  exact aA.mk (Below.refl _ _) hC rfl
 simp only [List.nil_append,List.cons_append]
 apply bg.step
 case aD=>
  intro c A w' hok hC hO hD
  have e0:=hO 0 (by rfl)
  simp [Act.eval] at e0
  simp [ay,ak,au,Act.eval,Region.binds] at hD
  simp [go_sem,gd,Oper.wp,hD,e0]
  exact aA.mk (Below.refl _ _) hC (ak.mk _ _)
 apply bg.step
 case aD=>
  intro c A w' hok hC hO hD
  have e3:=hO 3 (by rfl)
  simp [Act.eval] at e3
  simp [ay,ak,au,Act.eval,Region.binds] at hD
  simp [go_sem,gd,Oper.wp,hD,e3]
  exact aA.mk (Below.refl _ _) hC (ak.mk _ _)
 apply bg.step
 case aD=>
  intro c A w' hok hC hO hD
  simp [ay,ak,au,Act.eval,Region.binds] at hD
  simp [go_sem,gd,Oper.wp,hD,Y3,hC]
  exact aA.mk (Below.refl _ _) hC (ak.mk _ _)
 simp only [List.nil_append,List.cons_append]
 refine bg.some (fun v _=>v= .int .i64 (fV W.fs h.arg)) (fun _ _ _ _ h=>h) ?_ ?_
 ·intro c A w' hok hC hO hD
  simp [ay,ak,au,Act.eval,Region.binds] at hD
  simp [go_sem,gd,Oper.wp,hD]
  refine (Ca (S0.out.i.below hC) h.arg).mono ?_
  rintro e w5 ⟨rfl,hb⟩
  exact aA.mk hb (hC.trans (hb.mono hC.size)) rfl
 simp only [List.nil_append,List.cons_append]
 apply bg.step
 case aD=>
  intro c A w' hok hC hO hD
  simp [ay,ak,au,Act.eval,Region.binds] at hD
  simp [go_sem,gd,Oper.wp,hD]
  exact aA.mk (Below.refl _ _) hC (ak.mk _ _)
 try simp only [List.nil_append,List.cons_append]
 refine bg.done ?_
 intro wz fH
 try simp only [List.drop_zero,List.drop_succ_cons]
 intro v0 h0 v1 h1 v2 h2 v3 h3 v4 h4 v5 h5 v6 h6 v7 h7 v8 h8 v9 h9 v10 h10 v11 h11 v12 h12
 have h0':=Eq.symm (show v0=_ from h0)
 subst h0'
 have h1':=Eq.symm (show v1=_ from h1)
 subst h1'
 have h2':=Eq.symm (show v2=_ from h2)
 subst h2'
 have h3':=Eq.symm (show v3=_ from h3)
 subst h3'
 have h4':=Eq.symm (show v4=_ from h4)
 subst h4'
 have h5':=Eq.symm (show v5=_ from h5)
 subst h5'
 have h6':=Eq.symm (show v6=_ from h6)
 subst h6'
 have Bv:=Eq.symm (show v7=_ from h7)
 subst Bv
 have h8':=Eq.symm (show v8=_ from h8)
 subst h8'
 have UD:=Eq.symm (show v9=_ from h9)
 subst UD
 have Q7:=Eq.symm (show v10=_ from h10)
 subst Q7
 have CU:=Eq.symm (show v11=_ from h11)
 subst CU
 have QY:=Eq.symm (show v12=_ from h12)
 subst QY
 clear h0 h1 h2 h3 h4 h5 h6 h7 h8 h9 h10 h11 h12
 refine xq ?_
 go_simp
 have S1:=Lib.hid (S0.out.below fH)
 clear Y0 Y1 Y2 Y3 Y4 Y5 Y6 Y7 Y8 Y9 yI Q fH
 refine gX 13 [[],[],[1],[1,2],[1,2,3],[],[5],[1,2,3,4,5,6],[],[],[9],[1,2,3,4,5,6,7,8,9,10],[1,2,3,4,5,6,7,8,9,10,11],[0,1,2,3,4,5,6,7,8,9,10,11,12]] rfl rfl rfl rfl rfl (by kernel_rfl) (by kernel_rfl) (by kernel_rfl) ?_
 simp [go_sem,Oper.wp]
 refine (eU (S1.out.i) ⟨27,fV lc h.nm,fV W.fs h.arg,0,0,0⟩ (by have:=HL.out; simp only [fK,fD,List.length_append,List.length_cons,List.length_nil] at *; (unfold gH at *; omega))).mono ?_
 rintro e w3 ⟨rfl,hem⟩
 obtain ⟨v9,bT⟩:=S1.out.then hem
 have S2:=Lib.hid bT
 have oU:=Lib.hid (S1.out.i.keep hem.choose_spec.2.1)
 clear hem bT
 refine iG rfl ?_
 go_simp
 go_wp2_with fail
 exact bodyPost_end (v:= .tuple #[]) (by simp [results,Tryz.results71,go_sem]) rfl ⟨rfl,S2.out.nL rfl (by rw [lY (.inr (by rw [bY.out]; decide))]; unfold rV; rw [bY.out]; rfl)⟩
end Go.Proofs.YtdajkddgnfgijaaGreatDoor
end
section
set_option linter.unusedSimpArgs false
set_option linter.unusedVariables false
namespace Go.Proofs.YtdajkddgnfgijaaGreatDoor
open Go.RowKit
open Md
theorem PL {w:World} {L:GL} {W:Wo} {s:iE} {lc:List ByteArray} {al:Option Addr} {cl:Nat} {v:Value} {code:List bS} {h:aX} {e0 e1:aP} {sl:Sl} {nx:Nat} (hI:dX 90 w L W s lc al cl v code ((nx + 1:Nat):Int) (nx:Nat)) (hp:iB w L W code h e0 e1 sl nx) (dh:dY e0) (dx:dY e1):
 Calls Tryz.prog 71 #[.pointer (some ⟨L.gb,0,none⟩),cO h e0 e1 sl] w fun e w'=>e= .returned (.tuple #[])∧oV (fun a' _=>a'=((nx + 1 + bM e0 + bM e1:Nat):Int)) 90 w L W s lc al cl v code (jP W lc h e0 e1 nx code.length) w':=by
 have hr:=(iM hp.sh).1
 have:h.op=1∨h.op=2∨h.op=3∨h.op=4∨h.op=5∨h.op=6∨h.op=7∨h.op=8∨h.op=9∨h.op=10∨h.op=11∨h.op=12∨h.op=13∨h.op=14∨h.op=15:=by omega
 rcases this with e | e | e | e | e | e | e | e | e | e | e | e | e | e | e
 ·exact Uw hI hp e dh dx
 ·exact Wh hI hp e dh dx
 ·exact Xj hI hp e dh dx
 ·exact WT hI hp e dh dx
 ·exact Uo hI hp e dh dx
 ·exact VI hI hp e dh dx
 ·exact Uu hI hp e dh dx
 ·exact X7 hI hp e dh dx
 ·exact Vj hI hp e dh dx
 ·exact SF hI hp e dh dx
 ·exact TQ hI hp e dh dx
 ·exact SI hI hp e dh dx
 ·exact Uc hI hp e dh dx
 ·exact TP hI hp e dh dx
 ·exact Sq hI hp e dh dx
set_option maxHeartbeats 8000000 in
set_option maxRecDepth 100000 in
theorem CS (l:aP) (hall:l.All fun _ b e=>dY b∧dY e):dY l:=by
 intro w L W s lc al cl v code b nx ao cap hI hl hat hsh hev hlen hcnt
 have hBase:=Lib.hid hI
 generalize hres:iI W lc l nx code.length=res
 have HR:=Lib.hid hres
 have HI:=Lib.hid hI
 have HAT:=Lib.hid hat
 have Gw:=Lib.hid hsh
 have HEV:=Lib.hid hev
 have HL:=Lib.hid hlen
 have HN:=Lib.hid hcnt
 have iZ:=Lib.hid hall
 have Dk:=Lib.hid (rG l)
 unfold maxLen at hl
 clear hres hI hat hsh hev hlen hcnt hall
 go_enter Tryz.func30,Tryz.ntmps30
 go_wp2_with fail
 go_loopw [5,8] (fun _ i wr=> ∃(k:Nat) (R:aP) (xs:List bS) (v':Value) (nx':Nat) (b':Int),i= .int .i64 k∧k + R.len=l.len∧res=xs++iI W lc R nx' (code++xs).length∧nx' + bM R=nx + bM l∧xs.length + kZ R≤kZ l∧nx' + kZ R≤nx + kZ l∧iy R=true∧R.Ev (H7 W)∧(R.All fun _ b e=>dY b∧dY e)∧R.At wr L.B0 ao k∧dX 90 wr L W s lc al cl v' (code++xs) (nx':Nat) b'∧Kg L v w wr∧kG w v v') (fun _ i _=>l.len - (intOf i).toNat)
 case atStart=>exact ⟨0,l,[],v,nx,b,rfl,by simp,by rw [← HR.out]; simp,rfl,by simp,Nat.le_refl _,Gw.out,HEV.out,iZ.out,HAT.out,by simpa using HI.out,Kg.refl _ _ _,.inl rfl⟩
 case round=>
  obtain ⟨k,R,xs,v',nx',b',rfl,hlen,heq,hnx,hw1,hw2,hsh,hev,hall,hrow,hge,hkg,how⟩:=hrel
  have HE:=Lib.hid heq
  have jo:=Lib.hid (And.intro hnx (And.intro hw1 hw2))
  have HG:=Lib.hid hge
  have HK:=Lib.hid hkg
  have HO:=Lib.hid how
  clear heq hnx hw1 hw2 hge hkg how
  cases R with
  | nil=>
    obtain rfl:k=l.len:=by simpa [aP.len] using hlen
    have HX:Hid (oV (fun a' _=>a'=((nx + bM l:Nat):Int)) 90 w L W s lc al cl v code res wr):=Lib.hid ⟨v',((nx':Nat):Int),b',(show ((nx':Nat):Int)=((nx + bM l:Nat):Int) by have:=jo.out.1; simp only [bM,Nat.add_zero] at this; rw [this]),by rw [HE.out]; simpa [iI] using HG.out,HK.out,HO.out⟩
    clear hrow hsh hev hall
    go_wp2_with fail
    exact bodyPost_end (v:= .tuple #[]) (by simp [results,Tryz.results30,go_sem]) rfl ⟨rfl,HX.out⟩
  | cons h e0 e1 R=>
    obtain ⟨bl,off,sl,rfl,hbl,hin,hcs,hrest⟩:=FZ hrow
    have hkl:k < l.len:=by simp only [aP.len] at hlen; omega
    rw [iy,Bool.and_eq_true,Bool.and_eq_true,Bool.and_eq_true] at hsh
    obtain ⟨⟨hs1,hsb,hse⟩,hsr⟩:=hsh
    obtain ⟨hq,Yh,hqe,hqr⟩:=hev
    obtain ⟨⟨RZ,RH⟩,wS⟩:=hall
    have kD:=Lib.hid (And.intro RZ RH)
    have jk:=Lib.hid (And.intro hsr (And.intro hqr wS))
    have HPQ:=Lib.hid (And.intro hs1 (And.intro hsb (And.intro hse (And.intro hq (And.intro Yh hqe)))))
    have jT:=Lib.hid hin
    have jc:=Lib.hid hrest
    have x0:=hcs 0 _ rfl
    have x1:=hcs 1 _ rfl
    have x2:=hcs 2 _ rfl
    have x3:=hcs 3 _ rfl
    have x4:=hcs 4 _ rfl
    have x5:=hcs 5 _ rfl
    have x6:=hcs 6 _ rfl
    have x7:=hcs 7 _ rfl
    have x8:=hcs 8 _ rfl
    have x9:=hcs 9 _ rfl
    have x10:=hcs 10 _ rfl
    simp only [stA,Nat.add_zero] at x0 x1 x2 x3 x4 x5 x6 x7 x8 x9 x10
    clear hrow hin hcs hrest RZ RH hsr hqr wS hs1 hsb hse hq Yh hqe
    go_upto_region 3 with fail
    generalize hW2:World.alloc wr _=w2
    obtain ⟨nb,hnb⟩: ∃n,wr.heap.size=n:=⟨_,rfl⟩
    have HB:Hid (Below wr.heap.size wr w2):=Lib.hid (by rw [← hW2]; exact aj _ _)
    have HX:Hid (w2.heap[nb]? =some (.cells (stA h e0 e1 sl) 131 (0,0))):=Lib.hid (by rw [← hW2,← hnb]; exact heap_alloc_new _ _)
    have S0:=Lib.hid (gN.start HG.out HB.out hnb HX.out)
    rw [hnb]
    clear hW2 hnb HX x0 x1 x2 x3 x4 x5 x6 x7 x8 x9 x10
    obtain ⟨aZ,q0,q1,q2,q3,q4,q5,q6,q7,q8,q9,qf⟩:=S0.out.i.cells
    have z0:=(ah S0.out.x (j:=0) rfl).2
    have z1:=(ah S0.out.x (j:=1) rfl).2
    have z2:=(ah S0.out.x (j:=2) rfl).2
    have z3:=(ah S0.out.x (j:=3) rfl).2
    have z4:=(ah S0.out.x (j:=4) rfl).2
    have z5:=(ah S0.out.x (j:=5) rfl).2
    have z6:=(ah S0.out.x (j:=6) rfl).2
    have z7:=(ah S0.out.x (j:=7) rfl).2
    have z8:=(ah S0.out.x (j:=8) rfl).2
    have z9:=(ah S0.out.x (j:=9) rfl).2
    have aY:=(ah S0.out.x (j:=10) rfl).2
    clear qf q7
    simp only [stA,List.getElem_toArray,List.getElem_cons_zero,List.getElem_cons_succ] at z0 z1 z2 z3 z4 z5 z6 z7 z8 z9 aY
    have f9:=S0.out.i.cells.2.2.2.2.2.2.2.2.2.2.2 9
    go_upto_region 4 with fail
    generalize hW3:World.setCell w2 _ _=w3
    have S1:=Lib.hid (show gN _ _ _ _ _ _ _ _ _ _ _ _ _ _ _ _ w3 _ by rw [← hW3]; exact S0.out.je (nx':Nat))
    clear hW3 f9
    clear aZ q0 q1 q2 q3 q4 q5 q6 q8 q9 z0 z1 z2 z3 z5 z6 z7 z8 z9 aY
    clear z4
    obtain ⟨aZ,q0,q1,q2,q3,q4,q5,q6,q7,q8,q9,qf⟩:=S1.out.i.cells
    have z0:=(ah S1.out.x (j:=0) rfl).2
    have z1:=(ah S1.out.x (j:=1) rfl).2
    have z2:=(ah S1.out.x (j:=2) rfl).2
    have z3:=(ah S1.out.x (j:=3) rfl).2
    have z4:=(ah S1.out.x (j:=4) rfl).2
    have z5:=(ah S1.out.x (j:=5) rfl).2
    have z6:=(ah S1.out.x (j:=6) rfl).2
    have z7:=(ah S1.out.x (j:=7) rfl).2
    have z8:=(ah S1.out.x (j:=8) rfl).2
    have z9:=(ah S1.out.x (j:=9) rfl).2
    have aY:=(ah S1.out.x (j:=10) rfl).2
    clear qf q7
    simp only [stA,List.getElem_toArray,List.getElem_cons_zero,List.getElem_cons_succ] at z0 z1 z2 z3 z4 z5 z6 z7 z8 z9 aY
    have f8:=S1.out.i.cells.2.2.2.2.2.2.2.2.2.2.2 8
    have hwn:IntKind.i64.wrap ((nx':Int) + 1)=((nx' + 1:Nat):Int):=by
     have:=jo.out.2.2; have:=HN.out
     rw [IntWalk.i64_in _ (by omega)]; omega
    go_upto_region 5 with fail
    generalize su:World.setCell w3 _ _=w4
    have S2:=Lib.hid (show gN _ _ _ _ _ _ _ _ _ _ _ _ _ _ _ _ w4 _ by rw [← su]; exact S1.out.Qp ((nx' + 1:Nat):Int))
    clear su f8 hwn
    clear aZ q0 q1 q2 q3 q4 q5 q6 q8 q9 z0 z1 z2 z3 z5 z6 z7 z8 z9 aY
    clear z4
    obtain ⟨aZ,q0,q1,q2,q3,q4,q5,q6,q7,q8,q9,qf⟩:=S2.out.i.cells
    have z0:=(ah S2.out.x (j:=0) rfl).2
    have z1:=(ah S2.out.x (j:=1) rfl).2
    have z2:=(ah S2.out.x (j:=2) rfl).2
    have z3:=(ah S2.out.x (j:=3) rfl).2
    have z4:=(ah S2.out.x (j:=4) rfl).2
    have z5:=(ah S2.out.x (j:=5) rfl).2
    have z6:=(ah S2.out.x (j:=6) rfl).2
    have z7:=(ah S2.out.x (j:=7) rfl).2
    have z8:=(ah S2.out.x (j:=8) rfl).2
    have z9:=(ah S2.out.x (j:=9) rfl).2
    have aY:=(ah S2.out.x (j:=10) rfl).2
    clear qf q7
    simp only [stA,List.getElem_toArray,List.getElem_cons_zero,List.getElem_cons_succ] at z0 z1 z2 z3 z4 z5 z6 z7 z8 z9 aY
    have oO:=Lib.hid (HG.out.keep S2.out.k)
    have K9:Hid (iB w4 L W (code++xs++[]) h e0 e1 sl nx'):=Lib.hid ⟨jT.out.below oO.out,HPQ.out.1,HPQ.out.2.1,HPQ.out.2.2.1,HPQ.out.2.2.2.1,HPQ.out.2.2.2.2.1,HPQ.out.2.2.2.2.2,by
     have h1:=jo.out.2.1; have h2:=HL.out
     simp only [kZ,List.append_nil,List.length_append] at *; omega,by
     have h1:=jo.out.2.2; have h2:=HN.out
     simp only [kZ] at *; omega⟩
    go_wp2_with fail
    refine (PL S2.out.i K9.out kD.out.1 kD.out.2).mono ?_
    rintro e' w5 ⟨rfl,hem⟩
    obtain ⟨v9,a9,b9,ku,bT⟩:=S2.out.list hem
    have ku:a9=((nx' + 1 + bM e0 + bM e1:Nat):Int):=ku
    subst ku
    have S3:=Lib.hid bT
    clear hem bT
    clear aZ q0 q1 q2 q3 q4 q5 q6 q8 q9 z0 z1 z2 z3 z5 z6 z7 z8 z9 aY
    clear z4
    have Qs:=Lib.hid (HG.out.keep S3.out.k)
    have RX:=Lib.hid (SN W lc h e0 e1 nx' (code++xs).length)
    have Hz:=Lib.hid (And.intro (rG e0) (rG e1))
    go_wp2_with fail
    go_roundw
    case rel=>
     refine ⟨k + 1,R,xs++jP W lc h e0 e1 nx' (code++xs).length,v9,nx' + 1 + bM e0 + bM e1,b9,by go_num,by simp only [aP.len] at hlen; omega,?_,?_,?_,?_,jk.out.1,jk.out.2.1,jk.out.2.2,jc.out.below Qs.out,?_,HK.out.trans HO.out S3.out.k,HO.out.trans S3.out.o HK.out.size⟩
     ·rw [HE.out,Qr,← List.append_assoc,show (code++(xs++jP W lc h e0 e1 nx' (code++xs).length)).length=(code++xs).length + (jP W lc h e0 e1 nx' (code++xs).length).length by simp [Nat.add_assoc]]
     ·have:=jo.out.1; simp only [bM] at this; omega
     ·have h1:=jo.out.2.1; have h2:=RX.out; simp only [kZ,List.length_append] at *; omega
     ·have h1:=jo.out.2.2; have h2:=Hz.out; simp only [kZ] at *; unfold gH at *; omega
     ·have:=S3.out.i
      simpa using this
    case measure=>simp [intOf]; omega
theorem NU (l:aP):dY l:=CS l (aP.lG (fun _ b e hb he=>⟨CS b hb,CS e he⟩) l)
end Go.Proofs.YtdajkddgnfgijaaGreatDoor
end
