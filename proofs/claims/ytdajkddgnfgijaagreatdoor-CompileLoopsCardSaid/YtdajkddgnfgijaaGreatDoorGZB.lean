/-
  What is parsed is shaped. No program in sight.
  What is parsed is shaped: statements, declarations, threads, programs. No program in sight.
  What is parsed is shaped: declarations, threads, programs. No program in sight.
  A number's text, read by the library's rule, is its value. No program in sight.
  Statements, method by method: what each reads. No program in sight.
-/
import Derived.Test.YtdajkddgnfgijaaGreatDoorGZA
import Derived.Test.YtdajkddgnfgijaaGreatDoorGMA
import Derived.Lib.ParseIntB
section
set_option linter.unusedSimpArgs false
set_option linter.unusedVariables false
namespace Go.Proofs.YtdajkddgnfgijaaGreatDoor.Pz
open Go.RowKit Md Tk
def Aq (ts:aJ):Prop:= ∀t ∈ ts,K7 t
theorem Aq.tail {ts:aJ} (h:Aq ts):Aq ts.tail:=fun t ht=>h t (List.mem_of_mem_tail ht)
theorem mU {ts:aJ} (h:Aq ts) (hn:isName ts=true):kT (aI ts)=true:=by
 cases ts with
 | nil=>exact absurd hn (by simp [isName,nextK])
 | cons t r=>exact (h t (by simp)).1 (by simpa [isName,nextK] using hn)
theorem Oy {ts:aJ} (h:Aq ts) (hn:isNum ts=true):((aI ts).isEmpty=false∧(aI ts).all iH=true)∧qb (aI ts)=true:=by
 cases ts with
 | nil=>exact absurd hn (by simp [isNum,nextK])
 | cons t r=>exact (h t (by simp)).2.1 (by simpa [isNum,nextK] using hn)
theorem F8 (l:List UInt8):(tx l).data.toList=l:=by simp [tx]
theorem Qj (x:List UInt8):(nM x).1=0∨(6≤(nM x).1∧(nM x).1≤18):=by
 unfold nM
 grind (splits:=30)
theorem TM {lv:Int} {ts:aJ} (h:(opAt lv ts == 0)=false):6≤opAt lv ts∧opAt lv ts≤18:=by
 unfold opAt at h ⊢
 split at h
 ·rename_i hc
  rw [if_pos hc]
  rcases Qj (aI ts) with h0 | h0
  ·rw [h0] at h; cases h
  ·exact h0
 ·cases h
end Go.Proofs.YtdajkddgnfgijaaGreatDoor.Pz
end
section
set_option linter.unusedSimpArgs false
set_option linter.unusedVariables false
namespace Go.Proofs.YtdajkddgnfgijaaGreatDoor.Pz
open Go.RowKit Md Tk
theorem U1 (x:List UInt8):(iA x == 0)=false→2≤iA x∧iA x≤15:=by
 intro h
 unfold iA at h ⊢
 grind (splits:=40)
end Go.Proofs.YtdajkddgnfgijaaGreatDoor.Pz
end
section
set_option linter.unusedSimpArgs false
set_option linter.unusedVariables false
namespace Go.Proofs.YtdajkddgnfgijaaGreatDoor.Pz
open Go.RowKit Md Tk
theorem DR {ts:aJ} (hT:Aq ts) (h:isNum ts=true):(val (aI ts):Int)≤9223372036854775807:=by
 have:=(Oy hT h).2
 unfold qb at this
 have:=of_decide_eq_true this
 omega
theorem T9 (x:List UInt8):(jE x == 0)=false→1≤jE x∧jE x≤6:=by
 intro h
 unfold jE at h ⊢
 grind (splits:=40)
end Go.Proofs.YtdajkddgnfgijaaGreatDoor.Pz
end
section
namespace Go.Proofs.YtdajkddgnfgijaaGreatDoor.Pz
open Go.RowKit Md Tk
def rZ (n:Nat) (c:UInt8):Nat:=10 * n + (c.toNat - 48)
theorem JX: ∀(l:List UInt8) (a:Nat),a≤l.foldl rZ a
 | [],a=>Nat.le_refl a
 | c ::r,a=>Nat.le_trans (by unfold rZ; omega) (JX r (rZ a c))
theorem KQ {c:UInt8} (h:iH c=true):48≤c.toNat∧c.toNat≤57:=by
 unfold iH oF at h
 rw [Bool.and_eq_true] at h
 have h1:=of_decide_eq_true h.1
 have h2:=of_decide_eq_true h.2
 omega
theorem R4 {M:Nat} (hM:9223372036854775807≤M): ∀(l:List UInt8) (a:Nat),l.all iH=true→l.foldl rZ a≤9223372036854775807→Lib.parseUintM M a l= .ok (l.foldl rZ a)
 | [],a,_,_=>rfl
 | c ::r,a,h,hv=>by
   rw [List.all_cons,Bool.and_eq_true] at h
   have hd:=KQ h.1
   have hv':r.foldl rZ (rZ a c)≤9223372036854775807:=hv
   have hg:=JX r (rZ a c)
   have ih:=R4 hM r (rZ a c) h.2 hv'
   have hs:rZ a c=a * 10 + (c.toNat - 48):=by unfold rZ; omega
   unfold Lib.parseUintM
   rw [if_pos hd,if_neg (by omega),if_neg (by omega),← hs,ih]
   rfl
theorem N9 {l:List UInt8} (h1:l.isEmpty=false) (h2:l.all iH=true) (h3:qb l=true):Lib.parseIntB 64 l= .ok (val l:Int):=by
 have hv:val l≤9223372036854775807:=of_decide_eq_true h3
 cases l with
 | nil=>cases h1
 | cons c r=>
   have hd:=KQ (by rw [List.all_cons,Bool.and_eq_true] at h2; exact h2.1)
   have hu:Lib.parseUintB 64 (c ::r)= .ok (val (c ::r)):=by
    unfold Lib.parseUintB
    rw [if_neg (by simp)]
    exact R4 (by decide) (c ::r) 0 h2 hv
   unfold Lib.parseIntB
   dsimp only
   rw [if_neg (by omega),hu]
   dsimp only
   rw [if_neg (by rintro ⟨-,h⟩; have:(2:Nat) ^ (64 - 1)=9223372036854775808:=by decide
                  omega),if_neg (by rintro ⟨h,-⟩; omega),if_neg (by omega)]
end Go.Proofs.YtdajkddgnfgijaaGreatDoor.Pz
end
section
namespace Go.Proofs.YtdajkddgnfgijaaGreatDoor.Pz
open Go.RowKit Md Tk
structure Sx where
 h:aX
 b:aP
 e:aP
def wL (y:Sx):aP:=one y.h y.b y.e
theorem kg {α β γ:Type} (x:bK α) (f:α→β) (g:β→γ):(x.map f).map g=x.map (fun a=>g (f a)):=by cases x <;> rfl
theorem bind_map {α β γ:Type} (x:bK α) (f:α→aJ→bK β) (g:β→γ):(x.bind f).map g=x.bind (fun a r=>(f a r).map g):=by cases x <;> rfl
theorem Ac {α β:Type} (x:bK α) (y:List UInt8) (g:α→β):(x.close y).map g=(x.map g).close y:=by
 cases x with
 | ok a r=>show (ite _ _ _:bK α).map g=ite _ _ _; split <;> rfl
 | no r=>rfl
theorem bind_eq {α β:Type} {x:bK α} {f g:α→aJ→bK β} (h: ∀a r,f a r=g a r):x.bind f=x.bind g:=by
 cases x with
 | ok a r=>exact h a r
 | no r=>rfl
def lN (f:Nat) (h:aX) (r:aJ):bK Sx:=(blk f r).map fun b=>⟨h,b,.nil⟩
def vZ (h:aX) (r:aJ):bK Sx:=(gq r).bind fun s r=>(need [59] r).map fun _=>⟨{h with nm:=s},.nil,.nil⟩
def tu (f:Nat) (h:aX) (r:aJ):bK Sx:=(gq r).bind fun s r=>lN f {h with nm:=s} r
def D6 (h:aX) (r:aJ):bK Sx:=(gq r).bind fun s r=>((expr r).map fun x=>(⟨aX.ex {h with nm:=s} x,.nil,.nil⟩:Sx)).close [59]
def CX (h:aX) (r:aJ):bK Sx:=(gq r).bind fun s r=>((gq r).map fun a=>(⟨{h with nm:=s,arg:=a},.nil,.nil⟩:Sx)).close [59]
def tN (f:Nat) (h:aX) (r:aJ):bK Sx:=(expr r).bind fun x r=>lN f (aX.ex h x) r
def Gp (f:Nat) (h:aX) (r:aJ):bK Sx:=(tN f h r).bind fun y r=>if at' [101,108,115,101] r then (blk f r.tail).map fun e=>⟨y.h,y.b,e⟩ else .ok y r
def yg (h:aX) (r:aJ):bK Sx:=
 (if at' [91] r then ((expr r.tail).close [93]).map (fun x=> {h with idx:= .cons x.op x.n x.nm x.kids .nil}) else .ok h r).bind fun h r=>
  (need [61] r).bind fun _ r=>(((expr r).map fun x=>(⟨aX.ex h x,.nil,.nil⟩:Sx)).close [59])
def wW (h:aX) (r:aJ):bK Sx:=(gq r).bind fun s r=>yg {h with nm:=s} r
theorem XR (h:aX) (r:aJ):Nw h r=(yg h r).map wL:=by
 unfold Nw yg
 rw [bind_map]
 refine bind_eq (fun h r=> ?_)
 rw [bind_map]
 refine bind_eq (fun _ r=> ?_)
 rw [Ac,kg]; rfl
def YO (f:Nat) (op:Int) (h:aX) (r:aJ):bK Sx:=
 if op == 2 then Gp f h r else if op == 3 then tN f h r else if op == 7 || op == 8 then lN f h r
 else if op == 4 || op == 5 || op == 6 then tu f h r else if op == 14 then D6 h r else if op == 15 then CX h r else vZ h r
theorem TJ {f:Nat} {ts:aJ} (h:(nextK ts == 1)=true):ps (f + 1) true ts=(wW (hd 1 (bF ts)) ts).map wL:=by
 conv=>lhs; unfold ps
 dsimp only
 rw [if_pos h]
 have:gq ts= .ok (tx (aI ts)) ts.tail:=by unfold gq; rw [if_pos (show isName ts=true from h)]
 unfold wW
 rw [this]
 exact XR _ _
theorem Q8 {f:Nat} {ts:aJ} (h:(nextK ts == 1)=false) (h3:(nextK ts == 3)=false):ps (f + 1) true ts= .no ts:=by
 conv=>lhs; unfold ps
 dsimp only
 rw [if_neg (by rw [h]; decide),if_neg (by rw [h3]; decide)]
theorem Tt {f:Nat} {ts:aJ} (h:(nextK ts == 1)=false) (h3:(nextK ts == 3)=true) (h0:(iA (aI ts) == 0)=true):ps (f + 1) true ts= .no ts:=by
 conv=>lhs; unfold ps
 dsimp only
 rw [if_neg (by rw [h]; decide),if_pos h3,if_pos h0]
theorem Xt {f:Nat} {ts:aJ} (h:(nextK ts == 1)=false) (h3:(nextK ts == 3)=true) (h0:(iA (aI ts) == 0)=false):ps (f + 1) true ts=(YO f (iA (aI ts)) (hd (iA (aI ts)) (bF ts)) ts.tail).map wL:=by
 conv=>lhs; unfold ps
 dsimp only
 rw [if_neg (by rw [h]; decide),if_pos h3,if_neg (by rw [h0]; decide)]
 unfold YO
 by_cases h2:(iA (aI ts) == 2)=true
 ·rw [if_pos h2,if_pos h2]
  unfold Gp tN
  rw [bind_map]
  cases expr ts.tail with
  | no r=>rfl
  | ok x r=>
    show bK.bind (if at' [123] r=true then ps f false r.tail else bK.no r) _=bK.bind (bK.map _ (if at' [123] r=true then ps f false r.tail else bK.no r)) _
    cases (if at' [123] r=true then ps f false r.tail else bK.no r) with
    | no r=>rfl
    | ok b r2=>
      show (if at' [101,108,115,101] r2=true then _ else _)=(if at' [101,108,115,101] r2=true then _ else _:bK Sx).map wL
      split
      ·rw [kg]; rfl
      ·rfl
 ·rw [if_neg h2,if_neg h2]
  by_cases e3:(iA (aI ts) == 3)=true
  ·rw [if_pos e3,if_pos e3]
   unfold tN lN
   rw [bind_map]
   refine bind_eq (fun x r=> ?_)
   rw [kg]; rfl
  ·rw [if_neg e3,if_neg e3]
   by_cases e7:(iA (aI ts) == 7 || iA (aI ts) == 8)=true
   ·rw [if_pos e7,if_pos e7]
    unfold lN
    rw [kg]; rfl
   ·rw [if_neg e7,if_neg e7]
    generalize iA (aI ts)=op
    by_cases e4:(op == 4 || op == 5 || op == 6)=true
    ·rw [if_pos e4]
     unfold tu lN
     rw [bind_map]
     refine bind_eq (fun x r=> ?_)
     rw [kg]
     rw [if_pos e4]; rfl
    ·rw [if_neg e4]
     by_cases e14:(op == 14)=true
     ·rw [if_pos e14]
      unfold D6
      rw [bind_map]
      refine bind_eq (fun x r=> ?_)
      rw [Ac,kg]
      rw [if_neg e4,if_pos e14]; rfl
     ·rw [if_neg e14]
      by_cases e15:(op == 15)=true
      ·rw [if_pos e15]
       unfold CX
       rw [bind_map]
       refine bind_eq (fun x r=> ?_)
       rw [Ac,kg]
       rw [if_neg e4,if_neg e14,if_pos e15]; rfl
      ·rw [if_neg e15]
       unfold vZ
       rw [bind_map]
       refine bind_eq (fun x r=> ?_)
       rw [kg]
       rw [if_neg e4,if_neg e14,if_neg e15]; rfl
end Go.Proofs.YtdajkddgnfgijaaGreatDoor.Pz
end
