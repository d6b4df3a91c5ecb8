/-
  What is parsed is shaped. No program in sight.
  What is parsed is shaped: statements, declarations, threads, programs. No program in sight.
  What is parsed is shaped: declarations, threads, programs. No program in sight.
  A number's text, read by the library's rule, is its value. No program in sight.
  Statements, method by method: what each reads. No program in sight.
-/
import Derived.Test.YtehnipchbmjlhaaGreatDoorGZA
import Derived.Test.YtehnipchbmjlhaaGreatDoorGMA
import Derived.Lib.ParseIntB
set_option linter.unusedSimpArgs false
set_option linter.unusedVariables false
set_option maxHeartbeats 40000000
set_option maxRecDepth 1000000
section
namespace Go.Proofs.YtehnipchbmjlhaaGreatDoor.Pz
open Go.RowKit Md Tk
def AB (ts:aA):Prop:= ∀t ∈ ts,Kq t
theorem AB.tail {ts:aA} (h:AB ts):AB ts.tail:=fun t ht=>h t (List.mem_of_mem_tail ht)
theorem mK {ts:aA} (h:AB ts) (hn:isName ts=true):dZ (aF ts)=true:=by
 cases ts with
 | nil=>exact absurd hn (by simp [isName,nextK])
 | cons t r=>exact (h t (by simp)).1 (by simpa [isName,nextK] using hn)
theorem Np {ts:aA} (h:AB ts) (hn:isNum ts=true):((aF ts).isEmpty=false∧(aF ts).all fD=true)∧ny (aF ts)=true:=by
 cases ts with
 | nil=>exact absurd hn (by simp [isNum,nextK])
 | cons t r=>exact (h t (by simp)).2.1 (by simpa [isNum,nextK] using hn)
theorem EK (l:List UInt8):(tx l).data.toList=l:=by simp [tx]
theorem Pw (x:List UInt8):(lK x).1=0∨(6≤(lK x).1∧(lK x).1≤18):=by
 unfold lK
 grind (splits:=30)
theorem UF {lv:Int} {ts:aA} (h:(opAt lv ts == 0)=false):6≤opAt lv ts∧opAt lv ts≤18:=by
 unfold opAt at h ⊢
 split at h
 ·rename_i hc
  rw [if_pos hc]
  rcases Pw (aF ts) with h0 | h0
  ·rw [h0] at h; cases h
  ·exact h0
 ·cases h
end Go.Proofs.YtehnipchbmjlhaaGreatDoor.Pz
end
section
namespace Go.Proofs.YtehnipchbmjlhaaGreatDoor.Pz
open Go.RowKit Md Tk
theorem U5 (x:List UInt8):(iw x == 0)=false→2≤iw x∧iw x≤15:=by
 intro h
 unfold iw at h ⊢
 grind (splits:=40)
end Go.Proofs.YtehnipchbmjlhaaGreatDoor.Pz
end
section
namespace Go.Proofs.YtehnipchbmjlhaaGreatDoor.Pz
open Go.RowKit Md Tk
theorem DZ {ts:aA} (hT:AB ts) (h:isNum ts=true):(val (aF ts):Int)≤9223372036854775807:=by
 have:=(Np hT h).2
 unfold ny at this
 have:=of_decide_eq_true this
 omega
theorem Vm (x:List UInt8):(jc x == 0)=false→1≤jc x∧jc x≤6:=by
 intro h
 unfold jc at h ⊢
 grind (splits:=40)
end Go.Proofs.YtehnipchbmjlhaaGreatDoor.Pz
end
section
namespace Go.Proofs.YtehnipchbmjlhaaGreatDoor.Pz
open Go.RowKit Md Tk
def qM (n:Nat) (c:UInt8):Nat:=10 * n + (c.toNat - 48)
theorem Kl: ∀(l:List UInt8) (a:Nat),a≤l.foldl qM a
 | [],a=>Nat.le_refl a
 | c ::r,a=>Nat.le_trans (by unfold qM; omega) (Kl r (qM a c))
theorem Km {c:UInt8} (h:fD c=true):48≤c.toNat∧c.toNat≤57:=by
 unfold fD nE at h
 rw [Bool.and_eq_true] at h
 have h1:=of_decide_eq_true h.1
 have h2:=of_decide_eq_true h.2
 omega
theorem Sg {M:Nat} (hM:9223372036854775807≤M): ∀(l:List UInt8) (a:Nat),l.all fD=true→l.foldl qM a≤9223372036854775807→Lib.parseUintM M a l= .ok (l.foldl qM a)
 | [],a,_,_=>rfl
 | c ::r,a,h,hv=>by
   rw [List.all_cons,Bool.and_eq_true] at h
   have hd:=Km h.1
   have hv':r.foldl qM (qM a c)≤9223372036854775807:=hv
   have hg:=Kl r (qM a c)
   have ih:=Sg hM r (qM a c) h.2 hv'
   have hs:qM a c=a * 10 + (c.toNat - 48):=by unfold qM; omega
   unfold Lib.parseUintM
   rw [if_pos hd,if_neg (by omega),if_neg (by omega),← hs,ih]
   rfl
theorem MX {l:List UInt8} (h1:l.isEmpty=false) (h2:l.all fD=true) (h3:ny l=true):Lib.parseIntB 64 l= .ok (val l:Int):=by
 have hv:val l≤9223372036854775807:=of_decide_eq_true h3
 cases l with
 | nil=>cases h1
 | cons c r=>
   have hd:=Km (by rw [List.all_cons,Bool.and_eq_true] at h2; exact h2.1)
   have hu:Lib.parseUintB 64 (c ::r)= .ok (val (c ::r)):=by
    unfold Lib.parseUintB
    rw [if_neg (by simp)]
    exact Sg (by decide) (c ::r) 0 h2 hv
   unfold Lib.parseIntB
   dsimp only
   rw [if_neg (by omega),hu]
   dsimp only
   rw [if_neg (by rintro ⟨-,h⟩; have:(2:Nat) ^ (64 - 1)=9223372036854775808:=by decide
                  omega),if_neg (by rintro ⟨h,-⟩; omega),if_neg (by omega)]
end Go.Proofs.YtehnipchbmjlhaaGreatDoor.Pz
end
section
namespace Go.Proofs.YtehnipchbmjlhaaGreatDoor.Pz
open Go.RowKit Md Tk
structure Sx where
 h:aV
 b:aN
 e:aN
def zR (y:Sx):aN:=one y.h y.b y.e
theorem kr {α β γ:Type} (x:bn α) (f:α→β) (g:β→γ):(x.map f).map g=x.map (fun a=>g (f a)):=by cases x <;> rfl
theorem bind_map {α β γ:Type} (x:bn α) (f:α→aA→bn β) (g:β→γ):(x.bind f).map g=x.bind (fun a r=>(f a r).map g):=by cases x <;> rfl
theorem zW {α β:Type} (x:bn α) (y:List UInt8) (g:α→β):(x.close y).map g=(x.map g).close y:=by
 cases x with
 | ok a r=>show (ite _ _ _:bn α).map g=ite _ _ _; split <;> rfl
 | no r=>rfl
theorem bind_eq {α β:Type} {x:bn α} {f g:α→aA→bn β} (h: ∀a r,f a r=g a r):x.bind f=x.bind g:=by
 cases x with
 | ok a r=>exact h a r
 | no r=>rfl
def lM (f:Nat) (h:aV) (r:aA):bn Sx:=(blk f r).map fun b=>⟨h,b,.nil⟩
def uI (h:aV) (r:aA):bn Sx:=(gu r).bind fun s r=>(need [59] r).map fun _=>⟨{h with nm:=s},.nil,.nil⟩
def rV (f:Nat) (h:aV) (r:aA):bn Sx:=(gu r).bind fun s r=>lM f {h with nm:=s} r
def Cc (h:aV) (r:aA):bn Sx:=(gu r).bind fun s r=>((expr r).map fun x=>(⟨aV.ex {h with nm:=s} x,.nil,.nil⟩:Sx)).close [59]
def Ca (h:aV) (r:aA):bn Sx:=(gu r).bind fun s r=>((gu r).map fun a=>(⟨{h with nm:=s,arg:=a},.nil,.nil⟩:Sx)).close [59]
def rZ (f:Nat) (h:aV) (r:aA):bn Sx:=(expr r).bind fun x r=>lM f (aV.ex h x) r
def Gg (f:Nat) (h:aV) (r:aA):bn Sx:=(rZ f h r).bind fun y r=>if at' [101,108,115,101] r then (blk f r.tail).map fun e=>⟨y.h,y.b,e⟩ else .ok y r
def wW (h:aV) (r:aA):bn Sx:=
 (if at' [91] r then ((expr r.tail).close [93]).map (fun x=> {h with idx:= .cons x.op x.n x.nm x.kids .nil}) else .ok h r).bind fun h r=>
  (need [61] r).bind fun _ r=>(((expr r).map fun x=>(⟨aV.ex h x,.nil,.nil⟩:Sx)).close [59])
def wG (h:aV) (r:aA):bn Sx:=(gu r).bind fun s r=>wW {h with nm:=s} r
theorem Zj (h:aV) (r:aA):xE h r=(wW h r).map zR:=by
 unfold xE wW
 rw [bind_map]
 refine bind_eq (fun h r=> ?_)
 rw [bind_map]
 refine bind_eq (fun _ r=> ?_)
 rw [zW,kr]; rfl
def ZA (f:Nat) (op:Int) (h:aV) (r:aA):bn Sx:=
 if op == 2 then Gg f h r else if op == 3 then rZ f h r else if op == 7 || op == 8 then lM f h r
 else if op == 4 || op == 5 || op == 6 then rV f h r else if op == 14 then Cc h r else if op == 15 then Ca h r else uI h r
theorem U3 {f:Nat} {ts:aA} (h:(nextK ts == 1)=true):ps (f + 1) true ts=(wG (hd 1 (aZ ts)) ts).map zR:=by
 conv=>lhs; unfold ps
 dsimp only
 rw [if_pos h]
 have:gu ts= .ok (tx (aF ts)) ts.tail:=by unfold gu; rw [if_pos (show isName ts=true from h)]
 unfold wG
 rw [this]
 exact Zj _ _
theorem Pp {f:Nat} {ts:aA} (h:(nextK ts == 1)=false) (h3:(nextK ts == 3)=false):ps (f + 1) true ts= .no ts:=by
 conv=>lhs; unfold ps
 dsimp only
 rw [if_neg (by rw [h]; decide),if_neg (by rw [h3]; decide)]
theorem Vh {f:Nat} {ts:aA} (h:(nextK ts == 1)=false) (h3:(nextK ts == 3)=true) (h0:(iw (aF ts) == 0)=true):ps (f + 1) true ts= .no ts:=by
 conv=>lhs; unfold ps
 dsimp only
 rw [if_neg (by rw [h]; decide),if_pos h3,if_pos h0]
theorem Z0 {f:Nat} {ts:aA} (h:(nextK ts == 1)=false) (h3:(nextK ts == 3)=true) (h0:(iw (aF ts) == 0)=false):ps (f + 1) true ts=(ZA f (iw (aF ts)) (hd (iw (aF ts)) (aZ ts)) ts.tail).map zR:=by
 conv=>lhs; unfold ps
 dsimp only
 rw [if_neg (by rw [h]; decide),if_pos h3,if_neg (by rw [h0]; decide)]
 unfold ZA
 by_cases h2:(iw (aF ts) == 2)=true
 ·rw [if_pos h2,if_pos h2]
  unfold Gg rZ
  rw [bind_map]
  cases expr ts.tail with
  | no r=>rfl
  | ok x r=>
    show bn.bind (if at' [123] r=true then ps f false r.tail else bn.no r) _=bn.bind (bn.map _ (if at' [123] r=true then ps f false r.tail else bn.no r)) _
    cases (if at' [123] r=true then ps f false r.tail else bn.no r) with
    | no r=>rfl
    | ok b r2=>
      show (if at' [101,108,115,101] r2=true then _ else _)=(if at' [101,108,115,101] r2=true then _ else _:bn Sx).map zR
      split
      ·rw [kr]; rfl
      ·rfl
 ·rw [if_neg h2,if_neg h2]
  by_cases e3:(iw (aF ts) == 3)=true
  ·rw [if_pos e3,if_pos e3]
   unfold rZ lM
   rw [bind_map]
   refine bind_eq (fun x r=> ?_)
   rw [kr]; rfl
  ·rw [if_neg e3,if_neg e3]
   by_cases e7:(iw (aF ts) == 7 || iw (aF ts) == 8)=true
   ·rw [if_pos e7,if_pos e7]
    unfold lM
    rw [kr]; rfl
   ·rw [if_neg e7,if_neg e7]
    generalize iw (aF ts)=op
    by_cases e4:(op == 4 || op == 5 || op == 6)=true
    ·rw [if_pos e4]
     unfold rV lM
     rw [bind_map]
     refine bind_eq (fun x r=> ?_)
     rw [kr]
     rw [if_pos e4]; rfl
    ·rw [if_neg e4]
     by_cases e14:(op == 14)=true
     ·rw [if_pos e14]
      unfold Cc
      rw [bind_map]
      refine bind_eq (fun x r=> ?_)
      rw [zW,kr]
      rw [if_neg e4,if_pos e14]; rfl
     ·rw [if_neg e14]
      by_cases e15:(op == 15)=true
      ·rw [if_pos e15]
       unfold Ca
       rw [bind_map]
       refine bind_eq (fun x r=> ?_)
       rw [zW,kr]
       rw [if_neg e4,if_neg e14,if_pos e15]; rfl
      ·rw [if_neg e15]
       unfold uI
       rw [bind_map]
       refine bind_eq (fun x r=> ?_)
       rw [kr]
       rw [if_neg e4,if_neg e14,if_neg e15]; rfl
end Go.Proofs.YtehnipchbmjlhaaGreatDoor.Pz
end
