/-
  What is parsed is shaped. No program in sight.
  What is parsed is shaped: statements, declarations, threads, programs. No program in sight.
  What is parsed is shaped: declarations, threads, programs. No program in sight.
  A number's text, read by the library's rule, is its value. No program in sight.
  Statements, method by method: what each reads. No program in sight.
-/
import Derived.Test.YtehnipchbmjlhaaGreatDoorGZA
import Derived.Test.YtehnipchbmjlhaaGreatDoorGMA
import Derived.Lib.ParseIntB
section
set_option linter.unusedSimpArgs false
set_option linter.unusedVariables false
namespace Go.Proofs.YtehnipchbmjlhaaGreatDoor.Pz
open Go.RowKit Md Tk
def uZ (ts:aj):Prop:= ∀t ∈ ts,FD t
theorem uZ.tail {ts:aj} (h:uZ ts):uZ ts.tail:=fun t ht=>h t (List.mem_of_mem_tail ht)
theorem kY {ts:aj} (h:uZ ts) (hn:isName ts=true):dQ (ay ts)=true:=by
 cases ts with
 | nil=>exact absurd hn (by simp [isName,nextK])
 | cons t r=>exact (h t (by simp)).1 (by simpa [isName,nextK] using hn)
theorem Ip {ts:aj} (h:uZ ts) (hn:isNum ts=true):((ay ts).isEmpty=false∧(ay ts).all bW=true)∧jo (ay ts)=true:=by
 cases ts with
 | nil=>exact absurd hn (by simp [isNum,nextK])
 | cons t r=>exact (h t (by simp)).2.1 (by simpa [isNum,nextK] using hn)
theorem F9 (l:List UInt8):(tx l).data.toList=l:=by simp [tx]
theorem R9 (x:List UInt8):(iY x).1=0∨(6≤(iY x).1∧(iY x).1≤18):=by
 unfold iY
 grind (splits:=30)
theorem Lp {lv:Int} {ts:aj} (h:(opAt lv ts == 0)=false):6≤opAt lv ts∧opAt lv ts≤18:=by
 unfold opAt at h ⊢
 split at h
 ·rename_i hc
  rw [if_pos hc]
  rcases R9 (ay ts) with h0 | h0
  ·rw [h0] at h; cases h
  ·exact h0
 ·cases h
end Go.Proofs.YtehnipchbmjlhaaGreatDoor.Pz
end
section
set_option linter.unusedSimpArgs false
set_option linter.unusedVariables false
namespace Go.Proofs.YtehnipchbmjlhaaGreatDoor.Pz
open Go.RowKit Md Tk
theorem VL (x:List UInt8):(gQ x == 0)=false→2≤gQ x∧gQ x≤15:=by
 intro h
 unfold gQ at h ⊢
 grind (splits:=40)
end Go.Proofs.YtehnipchbmjlhaaGreatDoor.Pz
end
section
set_option linter.unusedSimpArgs false
set_option linter.unusedVariables false
namespace Go.Proofs.YtehnipchbmjlhaaGreatDoor.Pz
open Go.RowKit Md Tk
theorem Bj {ts:aj} (hT:uZ ts) (h:isNum ts=true):(val (ay ts):Int)≤9223372036854775807:=by
 have:=(Ip hT h).2
 unfold jo at this
 have:=of_decide_eq_true this
 omega
theorem Vp (x:List UInt8):(je x == 0)=false→1≤je x∧je x≤6:=by
 intro h
 unfold je at h ⊢
 grind (splits:=40)
end Go.Proofs.YtehnipchbmjlhaaGreatDoor.Pz
end
section
namespace Go.Proofs.YtehnipchbmjlhaaGreatDoor.Pz
open Go.RowKit Md Tk
def qc (n:Nat) (c:UInt8):Nat:=10 * n + (c.toNat - 48)
theorem LY: ∀(l:List UInt8) (a:Nat),a≤l.foldl qc a
 | [],a=>Nat.le_refl a
 | c ::r,a=>Nat.le_trans (by unfold qc; omega) (LY r (qc a c))
theorem LW {c:UInt8} (h:bW c=true):48≤c.toNat∧c.toNat≤57:=by
 unfold bW iU at h
 rw [Bool.and_eq_true] at h
 have h1:=of_decide_eq_true h.1
 have h2:=of_decide_eq_true h.2
 omega
theorem TM {M:Nat} (hM:9223372036854775807≤M): ∀(l:List UInt8) (a:Nat),l.all bW=true→l.foldl qc a≤9223372036854775807→Lib.parseUintM M a l= .ok (l.foldl qc a)
 | [],a,_,_=>rfl
 | c ::r,a,h,hv=>by
   rw [List.all_cons,Bool.and_eq_true] at h
   have hd:=LW h.1
   have hv':r.foldl qc (qc a c)≤9223372036854775807:=hv
   have hg:=LY r (qc a c)
   have ih:=TM hM r (qc a c) h.2 hv'
   have hs:qc a c=a * 10 + (c.toNat - 48):=by unfold qc; omega
   unfold Lib.parseUintM
   rw [if_pos hd,if_neg (by omega),if_neg (by omega),← hs,ih]
   rfl
theorem PK {l:List UInt8} (h1:l.isEmpty=false) (h2:l.all bW=true) (h3:jo l=true):Lib.parseIntB 64 l= .ok (val l:Int):=by
 have hv:val l≤9223372036854775807:=of_decide_eq_true h3
 cases l with
 | nil=>cases h1
 | cons c r=>
   have hd:=LW (by rw [List.all_cons,Bool.and_eq_true] at h2; exact h2.1)
   have hu:Lib.parseUintB 64 (c ::r)= .ok (val (c ::r)):=by
    unfold Lib.parseUintB
    rw [if_neg (by simp)]
    exact TM (by decide) (c ::r) 0 h2 hv
   unfold Lib.parseIntB
   dsimp only
   rw [if_neg (by omega),hu]
   dsimp only
   rw [if_neg (by rintro ⟨-,h⟩; have:(2:Nat) ^ (64 - 1)=9223372036854775808:=by decide
                  omega),if_neg (by rintro ⟨h,-⟩; omega),if_neg (by omega)]
end Go.Proofs.YtehnipchbmjlhaaGreatDoor.Pz
end
section
namespace Go.Proofs.YtehnipchbmjlhaaGreatDoor.Pz
open Go.RowKit Md Tk
structure Sx where
 h:aW
 b:aI
 e:aI
def Bb (y:Sx):aI:=one y.h y.b y.e
theorem jY {α β γ:Type} (x:aT α) (f:α→β) (g:β→γ):(x.map f).map g=x.map (fun a=>g (f a)):=by cases x <;> rfl
theorem bind_map {α β γ:Type} (x:aT α) (f:α→aj→aT β) (g:β→γ):(x.bind f).map g=x.bind (fun a r=>(f a r).map g):=by cases x <;> rfl
theorem Bd {α β:Type} (x:aT α) (y:List UInt8) (g:α→β):(x.close y).map g=(x.map g).close y:=by
 cases x with
 | ok a r=>show (ite _ _ _:aT α).map g=ite _ _ _; split <;> rfl
 | no r=>rfl
theorem bind_eq {α β:Type} {x:aT α} {f g:α→aj→aT β} (h: ∀a r,f a r=g a r):x.bind f=x.bind g:=by
 cases x with
 | ok a r=>exact h a r
 | no r=>rfl
def lJ (f:Nat) (h:aW) (r:aj):aT Sx:=(blk f r).map fun b=>⟨h,b,.nil⟩
def uV (h:aW) (r:aj):aT Sx:=(fK r).bind fun s r=>(need [59] r).map fun _=>⟨{h with nm:=s},.nil,.nil⟩
def rE (f:Nat) (h:aW) (r:aj):aT Sx:=(fK r).bind fun s r=>lJ f {h with nm:=s} r
def Cr (h:aW) (r:aj):aT Sx:=(fK r).bind fun s r=>((expr r).map fun x=>(⟨aW.ex {h with nm:=s} x,.nil,.nil⟩:Sx)).close [59]
def Cq (h:aW) (r:aj):aT Sx:=(fK r).bind fun s r=>((fK r).map fun a=>(⟨{h with nm:=s,arg:=a},.nil,.nil⟩:Sx)).close [59]
def rT (f:Nat) (h:aW) (r:aj):aT Sx:=(expr r).bind fun x r=>lJ f (aW.ex h x) r
def Hf (f:Nat) (h:aW) (r:aj):aT Sx:=(rT f h r).bind fun y r=>if at' [101,108,115,101] r then (blk f r.tail).map fun e=>⟨y.h,y.b,e⟩ else .ok y r
def xJ (h:aW) (r:aj):aT Sx:=
 (if at' [91] r then ((expr r.tail).close [93]).map (fun x=> {h with idx:= .cons x.op x.n x.nm x.kids .nil}) else .ok h r).bind fun h r=>
  (need [61] r).bind fun _ r=>(((expr r).map fun x=>(⟨aW.ex h x,.nil,.nil⟩:Sx)).close [59])
def wE (h:aW) (r:aj):aT Sx:=(fK r).bind fun s r=>xJ {h with nm:=s} r
theorem Zt (h:aW) (r:aj):xZ h r=(xJ h r).map Bb:=by
 unfold xZ xJ
 rw [bind_map]
 refine bind_eq (fun h r=> ?_)
 rw [bind_map]
 refine bind_eq (fun _ r=> ?_)
 rw [Bd,jY]; rfl
def kwX (f:Nat) (op:Int) (h:aW) (r:aj):aT Sx:=
 if op == 2 then Hf f h r else if op == 3 then rT f h r else if op == 7 || op == 8 then lJ f h r
 else if op == 4 || op == 5 || op == 6 then rE f h r else if op == 14 then Cr h r else if op == 15 then Cq h r else uV h r
theorem UO {f:Nat} {ts:aj} (h:(nextK ts == 1)=true):ps (f + 1) true ts=(wE (hd 1 (aU ts)) ts).map Bb:=by
 conv=>lhs; unfold ps
 dsimp only
 rw [if_pos h]
 have:fK ts= .ok (tx (ay ts)) ts.tail:=by unfold fK; rw [if_pos (show isName ts=true from h)]
 unfold wE
 rw [this]
 exact Zt _ _
theorem R6 {f:Nat} {ts:aj} (h:(nextK ts == 1)=false) (h3:(nextK ts == 3)=false):ps (f + 1) true ts= .no ts:=by
 conv=>lhs; unfold ps
 dsimp only
 rw [if_neg (by rw [h]; decide),if_neg (by rw [h3]; decide)]
theorem Ve {f:Nat} {ts:aj} (h:(nextK ts == 1)=false) (h3:(nextK ts == 3)=true) (h0:(gQ (ay ts) == 0)=true):ps (f + 1) true ts= .no ts:=by
 conv=>lhs; unfold ps
 dsimp only
 rw [if_neg (by rw [h]; decide),if_pos h3,if_pos h0]
theorem Zy {f:Nat} {ts:aj} (h:(nextK ts == 1)=false) (h3:(nextK ts == 3)=true) (h0:(gQ (ay ts) == 0)=false):ps (f + 1) true ts=(kwX f (gQ (ay ts)) (hd (gQ (ay ts)) (aU ts)) ts.tail).map Bb:=by
 conv=>lhs; unfold ps
 dsimp only
 rw [if_neg (by rw [h]; decide),if_pos h3,if_neg (by rw [h0]; decide)]
 unfold kwX
 by_cases h2:(gQ (ay ts) == 2)=true
 ·rw [if_pos h2,if_pos h2]
  unfold Hf rT
  rw [bind_map]
  cases expr ts.tail with
  | no r=>rfl
  | ok x r=>
    show aT.bind (if at' [123] r=true then ps f false r.tail else aT.no r) _=aT.bind (aT.map _ (if at' [123] r=true then ps f false r.tail else aT.no r)) _
    cases (if at' [123] r=true then ps f false r.tail else aT.no r) with
    | no r=>rfl
    | ok b r2=>
      show (if at' [101,108,115,101] r2=true then _ else _)=(if at' [101,108,115,101] r2=true then _ else _:aT Sx).map Bb
      split
      ·rw [jY]; rfl
      ·rfl
 ·rw [if_neg h2,if_neg h2]
  by_cases e3:(gQ (ay ts) == 3)=true
  ·rw [if_pos e3,if_pos e3]
   unfold rT lJ
   rw [bind_map]
   refine bind_eq (fun x r=> ?_)
   rw [jY]; rfl
  ·rw [if_neg e3,if_neg e3]
   by_cases e7:(gQ (ay ts) == 7 || gQ (ay ts) == 8)=true
   ·rw [if_pos e7,if_pos e7]
    unfold lJ
    rw [jY]; rfl
   ·rw [if_neg e7,if_neg e7]
    generalize gQ (ay ts)=op
    by_cases e4:(op == 4 || op == 5 || op == 6)=true
    ·rw [if_pos e4]
     unfold rE lJ
     rw [bind_map]
     refine bind_eq (fun x r=> ?_)
     rw [jY]
     rw [if_pos e4]; rfl
    ·rw [if_neg e4]
     by_cases e14:(op == 14)=true
     ·rw [if_pos e14]
      unfold Cr
      rw [bind_map]
      refine bind_eq (fun x r=> ?_)
      rw [Bd,jY]
      rw [if_neg e4,if_pos e14]; rfl
     ·rw [if_neg e14]
      by_cases e15:(op == 15)=true
      ·rw [if_pos e15]
       unfold Cq
       rw [bind_map]
       refine bind_eq (fun x r=> ?_)
       rw [Bd,jY]
       rw [if_neg e4,if_neg e14,if_pos e15]; rfl
      ·rw [if_neg e15]
       unfold uV
       rw [bind_map]
       refine bind_eq (fun x r=> ?_)
       rw [jY]
       rw [if_neg e4,if_neg e14,if_neg e15]; rfl
end Go.Proofs.YtehnipchbmjlhaaGreatDoor.Pz
end
