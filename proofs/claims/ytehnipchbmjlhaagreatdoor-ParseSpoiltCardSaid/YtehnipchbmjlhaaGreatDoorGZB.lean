/-
  What is parsed is shaped. No program in sight.
  What is parsed is shaped: statements, declarations, threads, programs. No program in sight.
  What is parsed is shaped: declarations, threads, programs. No program in sight.
  A number's text, read by the library's rule, is its value. No program in sight.
  Statements, method by method: what each reads. No program in sight.
-/
import Derived.Test.YtehnipchbmjlhaaGreatDoorGZA
import Derived.Test.YtehnipchbmjlhaaGreatDoorGMA
import Derived.Lib.ParseIntB
set_option linter.unusedSimpArgs false
set_option linter.unusedVariables false
set_option maxHeartbeats 40000000
set_option maxRecDepth 1000000
section
namespace Go.Proofs.YtehnipchbmjlhaaGreatDoor.Pz
open Go.RowKit Md Tk
def kW (ts:ak):Prop:= ∀t ∈ ts,xK t
theorem kW.tail {ts:ak} (h:kW ts):kW ts.tail:=fun t ht=>h t (List.mem_of_mem_tail ht)
theorem mq {ts:ak} (h:kW ts) (hn:isName ts=true):gM (ay ts)=true:=by
 cases ts with
 | nil=>exact absurd hn (by simp [isName,nextK])
 | cons t r=>exact (h t (by simp)).1 (by simpa [isName,nextK] using hn)
theorem JD {ts:ak} (h:kW ts) (hn:isNum ts=true):((ay ts).isEmpty=false∧(ay ts).all eF=true)∧kU (ay ts)=true:=by
 cases ts with
 | nil=>exact absurd hn (by simp [isNum,nextK])
 | cons t r=>exact (h t (by simp)).2.1 (by simpa [isNum,nextK] using hn)
theorem Fb (l:List UInt8):(tx l).data.toList=l:=by simp [tx]
theorem R8 (x:List UInt8):(kV x).1=0∨(6≤(kV x).1∧(kV x).1≤18):=by
 unfold kV
 grind (splits:=30)
theorem M6 {lv:Int} {ts:ak} (h:(opAt lv ts == 0)=false):6≤opAt lv ts∧opAt lv ts≤18:=by
 unfold opAt at h ⊢
 split at h
 ·rename_i hc
  rw [if_pos hc]
  rcases R8 (ay ts) with h0 | h0
  ·rw [h0] at h; cases h
  ·exact h0
 ·cases h
end Go.Proofs.YtehnipchbmjlhaaGreatDoor.Pz
end
section
namespace Go.Proofs.YtehnipchbmjlhaaGreatDoor.Pz
open Go.RowKit Md Tk
theorem Vk (x:List UInt8):(eG x == 0)=false→2≤eG x∧eG x≤15:=by
 intro h
 unfold eG at h ⊢
 grind (splits:=40)
end Go.Proofs.YtehnipchbmjlhaaGreatDoor.Pz
end
section
namespace Go.Proofs.YtehnipchbmjlhaaGreatDoor.Pz
open Go.RowKit Md Tk
theorem vF {ts:ak} (hT:kW ts) (h:isNum ts=true):(val (ay ts):Int)≤9223372036854775807:=by
 have:=(JD hT h).2
 unfold kU at this
 have:=of_decide_eq_true this
 omega
theorem Vv (x:List UInt8):(gY x == 0)=false→1≤gY x∧gY x≤6:=by
 intro h
 unfold gY at h ⊢
 grind (splits:=40)
end Go.Proofs.YtehnipchbmjlhaaGreatDoor.Pz
end
section
namespace Go.Proofs.YtehnipchbmjlhaaGreatDoor.Pz
open Go.RowKit Md Tk
def rQ (n:Nat) (c:UInt8):Nat:=10 * n + (c.toNat - 48)
theorem L9: ∀(l:List UInt8) (a:Nat),a≤l.foldl rQ a
 | [],a=>Nat.le_refl a
 | c ::r,a=>Nat.le_trans (by unfold rQ; omega) (L9 r (rQ a c))
theorem Lc {c:UInt8} (h:eF c=true):48≤c.toNat∧c.toNat≤57:=by
 unfold eF jF at h
 rw [Bool.and_eq_true] at h
 have h1:=of_decide_eq_true h.1
 have h2:=of_decide_eq_true h.2
 omega
theorem U9 {M:Nat} (hM:9223372036854775807≤M): ∀(l:List UInt8) (a:Nat),l.all eF=true→l.foldl rQ a≤9223372036854775807→Lib.parseUintM M a l= .ok (l.foldl rQ a)
 | [],a,_,_=>rfl
 | c ::r,a,h,hv=>by
   rw [List.all_cons,Bool.and_eq_true] at h
   have hd:=Lc h.1
   have hv':r.foldl rQ (rQ a c)≤9223372036854775807:=hv
   have hg:=L9 r (rQ a c)
   have ih:=U9 hM r (rQ a c) h.2 hv'
   have hs:rQ a c=a * 10 + (c.toNat - 48):=by unfold rQ; omega
   unfold Lib.parseUintM
   rw [if_pos hd,if_neg (by omega),if_neg (by omega),← hs,ih]
   rfl
theorem OM {l:List UInt8} (h1:l.isEmpty=false) (h2:l.all eF=true) (h3:kU l=true):Lib.parseIntB 64 l= .ok (val l:Int):=by
 have hv:val l≤9223372036854775807:=of_decide_eq_true h3
 cases l with
 | nil=>cases h1
 | cons c r=>
   have hd:=Lc (by rw [List.all_cons,Bool.and_eq_true] at h2; exact h2.1)
   have hu:Lib.parseUintB 64 (c ::r)= .ok (val (c ::r)):=by
    unfold Lib.parseUintB
    rw [if_neg (by simp)]
    exact U9 (by decide) (c ::r) 0 h2 hv
   unfold Lib.parseIntB
   dsimp only
   rw [if_neg (by omega),hu]
   dsimp only
   rw [if_neg (by rintro ⟨-,h⟩; have:(2:Nat) ^ (64 - 1)=9223372036854775808:=by decide
                  omega),if_neg (by rintro ⟨h,-⟩; omega),if_neg (by omega)]
end Go.Proofs.YtehnipchbmjlhaaGreatDoor.Pz
end
section
namespace Go.Proofs.YtehnipchbmjlhaaGreatDoor.Pz
open Go.RowKit Md Tk
structure Sx where
 h:bf
 b:aS
 e:aS
def rW (y:Sx):aS:=one y.h y.b y.e
theorem lg {α β γ:Type} (x:bg α) (f:α→β) (g:β→γ):(x.map f).map g=x.map (fun a=>g (f a)):=by cases x <;> rfl
theorem bind_map {α β γ:Type} (x:bg α) (f:α→ak→bg β) (g:β→γ):(x.bind f).map g=x.bind (fun a r=>(f a r).map g):=by cases x <;> rfl
theorem BJ {α β:Type} (x:bg α) (y:List UInt8) (g:α→β):(x.close y).map g=(x.map g).close y:=by
 cases x with
 | ok a r=>show (ite _ _ _:bg α).map g=ite _ _ _; split <;> rfl
 | no r=>rfl
theorem bind_eq {α β:Type} {x:bg α} {f g:α→ak→bg β} (h: ∀a r,f a r=g a r):x.bind f=x.bind g:=by
 cases x with
 | ok a r=>exact h a r
 | no r=>rfl
def mE (f:Nat) (h:bf) (r:ak):bg Sx:=(blk f r).map fun b=>⟨h,b,.nil⟩
def vN (h:bf) (r:ak):bg Sx:=(eO r).bind fun s r=>(need [59] r).map fun _=>⟨{h with nm:=s},.nil,.nil⟩
def sw (f:Nat) (h:bf) (r:ak):bg Sx:=(eO r).bind fun s r=>mE f {h with nm:=s} r
def Dg (h:bf) (r:ak):bg Sx:=(eO r).bind fun s r=>((expr r).map fun x=>(⟨bf.ex {h with nm:=s} x,.nil,.nil⟩:Sx)).close [59]
def D8 (h:bf) (r:ak):bg Sx:=(eO r).bind fun s r=>((eO r).map fun a=>(⟨{h with nm:=s,arg:=a},.nil,.nil⟩:Sx)).close [59]
def tq (f:Nat) (h:bf) (r:ak):bg Sx:=(expr r).bind fun x r=>mE f (bf.ex h x) r
def Hu (f:Nat) (h:bf) (r:ak):bg Sx:=(tq f h r).bind fun y r=>if at' [101,108,115,101] r then (blk f r.tail).map fun e=>⟨y.h,y.b,e⟩ else .ok y r
def yu (h:bf) (r:ak):bg Sx:=
 (if at' [91] r then ((expr r.tail).close [93]).map (fun x=> {h with idx:= .cons x.op x.n x.nm x.kids .nil}) else .ok h r).bind fun h r=>
  (need [61] r).bind fun _ r=>(((expr r).map fun x=>(⟨bf.ex h x,.nil,.nil⟩:Sx)).close [59])
def xD (h:bf) (r:ak):bg Sx:=(eO r).bind fun s r=>yu {h with nm:=s} r
theorem ZJ (h:bf) (r:ak):J9 h r=(yu h r).map rW:=by
 unfold J9 yu
 rw [bind_map]
 refine bind_eq (fun h r=> ?_)
 rw [bind_map]
 refine bind_eq (fun _ r=> ?_)
 rw [BJ,lg]; rfl
def kwX (f:Nat) (op:Int) (h:bf) (r:ak):bg Sx:=
 if op == 2 then Hu f h r else if op == 3 then tq f h r else if op == 7 || op == 8 then mE f h r
 else if op == 4 || op == 5 || op == 6 then sw f h r else if op == 14 then Dg h r else if op == 15 then D8 h r else vN h r
theorem Wd {f:Nat} {ts:ak} (h:(nextK ts == 1)=true):ps (f + 1) true ts=(xD (hd 1 (aK ts)) ts).map rW:=by
 conv=>lhs; unfold ps
 dsimp only
 rw [if_pos h]
 have:eO ts= .ok (tx (ay ts)) ts.tail:=by unfold eO; rw [if_pos (show isName ts=true from h)]
 unfold xD
 rw [this]
 exact ZJ _ _
theorem Tw {f:Nat} {ts:ak} (h:(nextK ts == 1)=false) (h3:(nextK ts == 3)=false):ps (f + 1) true ts= .no ts:=by
 conv=>lhs; unfold ps
 dsimp only
 rw [if_neg (by rw [h]; decide),if_neg (by rw [h3]; decide)]
theorem VP {f:Nat} {ts:ak} (h:(nextK ts == 1)=false) (h3:(nextK ts == 3)=true) (h0:(eG (ay ts) == 0)=true):ps (f + 1) true ts= .no ts:=by
 conv=>lhs; unfold ps
 dsimp only
 rw [if_neg (by rw [h]; decide),if_pos h3,if_pos h0]
theorem ab7 {f:Nat} {ts:ak} (h:(nextK ts == 1)=false) (h3:(nextK ts == 3)=true) (h0:(eG (ay ts) == 0)=false):ps (f + 1) true ts=(kwX f (eG (ay ts)) (hd (eG (ay ts)) (aK ts)) ts.tail).map rW:=by
 conv=>lhs; unfold ps
 dsimp only
 rw [if_neg (by rw [h]; decide),if_pos h3,if_neg (by rw [h0]; decide)]
 unfold kwX
 by_cases h2:(eG (ay ts) == 2)=true
 ·rw [if_pos h2,if_pos h2]
  unfold Hu tq
  rw [bind_map]
  cases expr ts.tail with
  | no r=>rfl
  | ok x r=>
    show bg.bind (if at' [123] r=true then ps f false r.tail else bg.no r) _=bg.bind (bg.map _ (if at' [123] r=true then ps f false r.tail else bg.no r)) _
    cases (if at' [123] r=true then ps f false r.tail else bg.no r) with
    | no r=>rfl
    | ok b r2=>
      show (if at' [101,108,115,101] r2=true then _ else _)=(if at' [101,108,115,101] r2=true then _ else _:bg Sx).map rW
      split
      ·rw [lg]; rfl
      ·rfl
 ·rw [if_neg h2,if_neg h2]
  by_cases e3:(eG (ay ts) == 3)=true
  ·rw [if_pos e3,if_pos e3]
   unfold tq mE
   rw [bind_map]
   refine bind_eq (fun x r=> ?_)
   rw [lg]; rfl
  ·rw [if_neg e3,if_neg e3]
   by_cases e7:(eG (ay ts) == 7 || eG (ay ts) == 8)=true
   ·rw [if_pos e7,if_pos e7]
    unfold mE
    rw [lg]; rfl
   ·rw [if_neg e7,if_neg e7]
    generalize eG (ay ts)=op
    by_cases e4:(op == 4 || op == 5 || op == 6)=true
    ·rw [if_pos e4]
     unfold sw mE
     rw [bind_map]
     refine bind_eq (fun x r=> ?_)
     rw [lg]
     rw [if_pos e4]; rfl
    ·rw [if_neg e4]
     by_cases e14:(op == 14)=true
     ·rw [if_pos e14]
      unfold Dg
      rw [bind_map]
      refine bind_eq (fun x r=> ?_)
      rw [BJ,lg]
      rw [if_neg e4,if_pos e14]; rfl
     ·rw [if_neg e14]
      by_cases e15:(op == 15)=true
      ·rw [if_pos e15]
       unfold D8
       rw [bind_map]
       refine bind_eq (fun x r=> ?_)
       rw [BJ,lg]
       rw [if_neg e4,if_neg e14,if_pos e15]; rfl
      ·rw [if_neg e15]
       unfold vN
       rw [bind_map]
       refine bind_eq (fun x r=> ?_)
       rw [lg]
       rw [if_neg e4,if_neg e14,if_neg e15]; rfl
end Go.Proofs.YtehnipchbmjlhaaGreatDoor.Pz
end
