/- What is parsed is shaped. No program in sight. And what hangs on it. -/
import Derived.Test.YtkajcclnlehkmaaGreatDoorGZA
import Derived.Test.YtkajcclnlehkmaaGreatDoorGMA
import Derived.Lib.ParseIntB
set_option linter.unusedSimpArgs false
set_option linter.unusedVariables false
set_option maxHeartbeats 40000000
set_option maxRecDepth 1000000
section
namespace Go.Proofs.YtkajcclnlehkmaaGreatDoor.Pz
open Go.RowKit Md Tk
def uV (ts:aA):Prop:= ∀t ∈ ts,El t
theorem uV.tail {ts:aA} (h:uV ts):uV ts.tail:=fun t ht=>h t (List.mem_of_mem_tail ht)
theorem jP {ts:aA} (h:uV ts) (hn:isName ts=true):cO (ay ts)=true:=by
 cases ts with
 | nil=>exact absurd hn (by simp [isName,nextK])
 | cons t r=>exact (h t (by simp)).1 (by simpa [isName,nextK] using hn)
theorem IZ {ts:aA} (h:uV ts) (hn:isNum ts=true):((ay ts).isEmpty=false∧(ay ts).all fU=true)∧lD (ay ts)=true:=by
 cases ts with
 | nil=>exact absurd hn (by simp [isNum,nextK])
 | cons t r=>exact (h t (by simp)).2.1 (by simpa [isNum,nextK] using hn)
theorem A9 (l:List UInt8):(tx l).data.toList=l:=by simp [tx]
theorem Jg (x:List UInt8):(jW x).1=0∨(6<=(jW x).1∧(jW x).1<=18):=by
 unfold jW;grind (splits:=30)
theorem Mc {lv:Int} {ts:aA} (h:(opAt lv ts == 0)=false):6<=opAt lv ts∧opAt lv ts<=18:=by
 unfold opAt at h ⊢;split at h
 ·rename_i hc;rw [if_pos hc];rcases Jg (ay ts) with h0 | h0
  ·rw [h0] at h; cases h
  ·exact h0
 ·cases h
end Go.Proofs.YtkajcclnlehkmaaGreatDoor.Pz
end
section
namespace Go.Proofs.YtkajcclnlehkmaaGreatDoor.Pz
open Go.RowKit Md Tk
theorem MG (x:List UInt8):(fK x == 0)=false->2<=fK x∧fK x<=15:=by
 intro h;unfold fK at h ⊢;grind (splits:=40)
end Go.Proofs.YtkajcclnlehkmaaGreatDoor.Pz
end
section
namespace Go.Proofs.YtkajcclnlehkmaaGreatDoor.Pz
open Go.RowKit Md Tk
theorem yY {ts:aA} (hT:uV ts) (h:isNum ts=true):(val (ay ts):Int)<=9223372036854775807:=by
 have:=(IZ hT h).2;unfold lD at this;have:=of_decide_eq_true this;omega
theorem LJ (x:List UInt8):(gY x == 0)=false->1<=gY x∧gY x<=6:=by
 intro h;unfold gY at h ⊢;grind (splits:=40)
end Go.Proofs.YtkajcclnlehkmaaGreatDoor.Pz
end
section
namespace Go.Proofs.YtkajcclnlehkmaaGreatDoor.Pz
open Go.RowKit Md Tk
def nk (n:Nat) (c:UInt8):Nat:=10 * n + (c.toNat - 48)
theorem Ew: ∀(l:List UInt8) (a:Nat),a<=l.foldl nk a
 | [],a=>Nat.le_refl a
 | c ::r,a=>Nat.le_trans (by unfold nk; omega) (Ew r (nk a c))
theorem EF {c:UInt8} (h:fU c=true):48<=c.toNat∧c.toNat<=57:=by
 unfold fU jL at h;rw [Bool.and_eq_true] at h;have h1:=of_decide_eq_true h.1;have h2:=of_decide_eq_true h.2;omega
theorem Ls {M:Nat} (hM:9223372036854775807<=M): ∀(l:List UInt8) (a:Nat),l.all fU=true->l.foldl nk a<=9223372036854775807->Lib.parseUintM M a l= .ok (l.foldl nk a)
 | [],a,_,_=>rfl
 | c ::r,a,h,hv=>by
   rw [List.all_cons,Bool.and_eq_true] at h;have hd:=EF h.1;have hv':r.foldl nk (nk a c)<=9223372036854775807:=hv;have hg:=Ew r (nk a c);have ih:=Ls hM r (nk a c) h.2 hv';have hs:nk a c=a * 10 + (c.toNat - 48):=by unfold nk; omega
   unfold Lib.parseUintM;rw [if_pos hd,if_neg (by omega),if_neg (by omega),<- hs,ih];rfl
theorem Iy {l:List UInt8} (h1:l.isEmpty=false) (h2:l.all fU=true) (h3:lD l=true):Lib.parseIntB 64 l= .ok (val l:Int):=by
 have hv:val l<=9223372036854775807:=of_decide_eq_true h3;cases l with
 | nil=>cases h1
 | cons c r=>
   have hd:=EF (by rw [List.all_cons,Bool.and_eq_true] at h2; exact h2.1);have hu:Lib.parseUintB 64 (c ::r)= .ok (val (c ::r)):=by unfold Lib.parseUintB;rw [if_neg (by simp)];exact Ls (by decide) (c ::r) 0 h2 hv
   unfold Lib.parseIntB;dsimp only;rw [if_neg (by omega),hu];dsimp only
   rw [if_neg (by rintro ⟨-,h⟩; have:(2:Nat) ^ (64 - 1)=9223372036854775808:=by decide
                  omega),if_neg (by rintro ⟨h,-⟩; omega),if_neg (by omega)]
end Go.Proofs.YtkajcclnlehkmaaGreatDoor.Pz
end
section
namespace Go.Proofs.YtkajcclnlehkmaaGreatDoor.Pz
open Go.RowKit Md Tk
structure Sx where
 h:bD
 b:aL
 e:aL
def vR (y:Sx):aL:=one y.h y.b y.e
theorem iV {α β γ:Type} (x:aS α) (f:α->β) (g:β->γ):(x.map f).map g=x.map (fun a=>g (f a)):=by cases x <;> rfl
theorem bind_map {α β γ:Type} (x:aS α) (f:α->aA->aS β) (g:β->γ):(x.bind f).map g=x.bind (fun a r=>(f a r).map g):=by cases x <;> rfl
theorem uY {α β:Type} (x:aS α) (y:List UInt8) (g:α->β):(x.close y).map g=(x.map g).close y:=by
 cases x with
 | ok a r=>show (ite _ _ _:aS α).map g=ite _ _ _; split <;> rfl
 | no r=>rfl
theorem bind_eq {α β:Type} {x:aS α} {f g:α->aA->aS β} (h: ∀a r,f a r=g a r):x.bind f=x.bind g:=by
 cases x with
 | ok a r=>exact h a r
 | no r=>rfl
def jw (f:Nat) (h:bD) (r:aA):aS Sx:=(blk f r).map fun b=>⟨h,b,.nil⟩
def qB (h:bD) (r:aA):aS Sx:=(dU r).bind fun s r=>(need [59] r).map fun _=>⟨{h with nm:=s},.nil,.nil⟩
def nP (f:Nat) (h:bD) (r:aA):aS Sx:=(dU r).bind fun s r=>jw f {h with nm:=s} r
def xS (h:bD) (r:aA):aS Sx:=(dU r).bind fun s r=>((expr r).map fun x=>(⟨bD.ex {h with nm:=s} x,.nil,.nil⟩:Sx)).close [59]
def xG (h:bD) (r:aA):aS Sx:=(dU r).bind fun s r=>((dU r).map fun a=>(⟨{h with nm:=s,arg:=a},.nil,.nil⟩:Sx)).close [59]
def nX (f:Nat) (h:bD) (r:aA):aS Sx:=(expr r).bind fun x r=>jw f (bD.ex h x) r
def Bu (f:Nat) (h:bD) (r:aA):aS Sx:=(nX f h r).bind fun y r=>if at' [101,108,115,101] r then (blk f r.tail).map fun e=>⟨y.h,y.b,e⟩ else .ok y r
def rO (h:bD) (r:aA):aS Sx:=
 (if at' [91] r then ((expr r.tail).close [93]).map (fun x=> {h with idx:= .cons x.op x.n x.nm x.kids .nil}) else .ok h r).bind fun h r=>
  (need [61] r).bind fun _ r=>(((expr r).map fun x=>(⟨bD.ex h x,.nil,.nil⟩:Sx)).close [59])
def qP (h:bD) (r:aA):aS Sx:=(dU r).bind fun s r=>rO {h with nm:=s} r
theorem Q9 (h:bD) (r:aA):GD h r=(rO h r).map vR:=by
 unfold GD rO;rw [bind_map];refine bind_eq (fun h r=> ?_);rw [bind_map];refine bind_eq (fun _ r=> ?_);rw [uY,iV]; rfl
def RJ (f:Nat) (op:Int) (h:bD) (r:aA):aS Sx:=
 if op == 2 then Bu f h r else if op == 3 then nX f h r else if op == 7 || op == 8 then jw f h r
 else if op == 4 || op == 5 || op == 6 then nP f h r else if op == 14 then xS h r else if op == 15 then xG h r else qB h r
theorem Mi {f:Nat} {ts:aA} (h:(nextK ts == 1)=true):ps (f + 1) true ts=(qP (hd 1 (aP ts)) ts).map vR:=by
 conv=>lhs; unfold ps
 dsimp only;rw [if_pos h];have:dU ts= .ok (tx (ay ts)) ts.tail:=by unfold dU; rw [if_pos (show isName ts=true from h)]
 unfold qP;rw [this];exact Q9 _ _
theorem JU {f:Nat} {ts:aA} (h:(nextK ts == 1)=false) (h3:(nextK ts == 3)=false):ps (f + 1) true ts= .no ts:=by
 conv=>lhs; unfold ps
 dsimp only;rw [if_neg (by rw [h]; decide),if_neg (by rw [h3]; decide)]
theorem Mj {f:Nat} {ts:aA} (h:(nextK ts == 1)=false) (h3:(nextK ts == 3)=true) (h0:(fK (ay ts) == 0)=true):ps (f + 1) true ts= .no ts:=by
 conv=>lhs; unfold ps
 dsimp only;rw [if_neg (by rw [h]; decide),if_pos h3,if_pos h0]
theorem Qt {f:Nat} {ts:aA} (h:(nextK ts == 1)=false) (h3:(nextK ts == 3)=true) (h0:(fK (ay ts) == 0)=false):ps (f + 1) true ts=(RJ f (fK (ay ts)) (hd (fK (ay ts)) (aP ts)) ts.tail).map vR:=by
 conv=>lhs; unfold ps
 dsimp only;rw [if_neg (by rw [h]; decide),if_pos h3,if_neg (by rw [h0]; decide)];unfold RJ;by_cases h2:(fK (ay ts) == 2)=true
 ·rw [if_pos h2,if_pos h2];unfold Bu nX;rw [bind_map];cases expr ts.tail with
  | no r=>rfl
  | ok x r=>
    show aS.bind (if at' [123] r=true then ps f false r.tail else aS.no r) _=aS.bind (aS.map _ (if at' [123] r=true then ps f false r.tail else aS.no r)) _;cases (if at' [123] r=true then ps f false r.tail else aS.no r) with
    | no r=>rfl
    | ok b r2=>
      show (if at' [101,108,115,101] r2=true then _ else _)=(if at' [101,108,115,101] r2=true then _ else _:aS Sx).map vR;split
      ·rw [iV]; rfl
      ·rfl
 ·rw [if_neg h2,if_neg h2];by_cases e3:(fK (ay ts) == 3)=true
  ·rw [if_pos e3,if_pos e3];unfold nX jw;rw [bind_map];refine bind_eq (fun x r=> ?_);rw [iV]; rfl
  ·rw [if_neg e3,if_neg e3];by_cases e7:(fK (ay ts) == 7 || fK (ay ts) == 8)=true
   ·rw [if_pos e7,if_pos e7];unfold jw;rw [iV]; rfl
   ·rw [if_neg e7,if_neg e7];generalize fK (ay ts)=op;by_cases e4:(op == 4 || op == 5 || op == 6)=true
    ·rw [if_pos e4];unfold nP jw;rw [bind_map];refine bind_eq (fun x r=> ?_);rw [iV];rw [if_pos e4]; rfl
    ·rw [if_neg e4];by_cases e14:(op == 14)=true
     ·rw [if_pos e14];unfold xS;rw [bind_map];refine bind_eq (fun x r=> ?_);rw [uY,iV];rw [if_neg e4,if_pos e14]; rfl
     ·rw [if_neg e14];by_cases e15:(op == 15)=true
      ·rw [if_pos e15];unfold xG;rw [bind_map];refine bind_eq (fun x r=> ?_);rw [uY,iV];rw [if_neg e4,if_neg e14,if_pos e15]; rfl
      ·rw [if_neg e15];unfold qB;rw [bind_map];refine bind_eq (fun x r=> ?_);rw [iV];rw [if_neg e4,if_neg e14,if_neg e15]; rfl
end Go.Proofs.YtkajcclnlehkmaaGreatDoor.Pz
end
