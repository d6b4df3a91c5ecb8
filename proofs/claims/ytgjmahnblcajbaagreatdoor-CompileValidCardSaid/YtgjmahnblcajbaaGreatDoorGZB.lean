/- What is parsed is shaped. No program in sight. And what hangs on it. -/
import Derived.Test.YtgjmahnblcajbaaGreatDoorGZA
import Derived.Test.YtgjmahnblcajbaaGreatDoorGMA
import Derived.Lib.ParseIntB
set_option linter.unusedSimpArgs false
set_option linter.unusedVariables false
set_option maxHeartbeats 40000000
set_option maxRecDepth 1000000
section
namespace Go.Proofs.YtgjmahnblcajbaaGreatDoor.Pz
open Go.RowKit Md Tk
def En (ts:aA):Prop:= ∀t ∈ ts,Q5 t
theorem En.tail {ts:aA} (h:En ts):En ts.tail:=fun t ht=>h t (List.mem_of_mem_tail ht)
theorem ou {ts:aA} (h:En ts) (hn:isName ts=true):iO (ay ts)=true:=by
 cases ts with
 | nil=>exact absurd hn (by simp [isName,nextK])
 | cons t r=>exact (h t (by simp)).1 (by simpa [isName,nextK] using hn)
theorem Vg {ts:aA} (h:En ts) (hn:isNum ts=true):((ay ts).isEmpty=false∧(ay ts).all iX=true)∧rH (ay ts)=true:=by
 cases ts with
 | nil=>exact absurd hn (by simp [isNum,nextK])
 | cons t r=>exact (h t (by simp)).2.1 (by simpa [isNum,nextK] using hn)
theorem Kl (l:List UInt8):(tx l).data.toList=l:=by simp [tx]
theorem VQ (x:List UInt8):(oL x).1=0∨(6<=(oL x).1∧(oL x).1<=18):=by
 unfold oL;grind (splits:=30)
theorem Zr {lv:Int} {ts:aA} (h:(opAt lv ts == 0)=false):6<=opAt lv ts∧opAt lv ts<=18:=by
 unfold opAt at h ⊢;split at h
 ·rename_i hc;rw [if_pos hc];rcases VQ (ay ts) with h0 | h0
  ·rw [h0] at h; cases h
  ·exact h0
 ·cases h
end Go.Proofs.YtgjmahnblcajbaaGreatDoor.Pz
end
section
namespace Go.Proofs.YtgjmahnblcajbaaGreatDoor.Pz
open Go.RowKit Md Tk
theorem ZN (x:List UInt8):(iM x == 0)=false->2<=iM x∧iM x<=15:=by
 intro h;unfold iM at h ⊢;grind (splits:=40)
end Go.Proofs.YtgjmahnblcajbaaGreatDoor.Pz
end
section
namespace Go.Proofs.YtgjmahnblcajbaaGreatDoor.Pz
open Go.RowKit Md Tk
theorem J9 {ts:aA} (hT:En ts) (h:isNum ts=true):(val (ay ts):Int)<=9223372036854775807:=by
 have:=(Vg hT h).2;unfold rH at this;have:=of_decide_eq_true this;omega
theorem Z6 (x:List UInt8):(jX x == 0)=false->1<=jX x∧jX x<=6:=by
 intro h;unfold jX at h ⊢;grind (splits:=40)
end Go.Proofs.YtgjmahnblcajbaaGreatDoor.Pz
end
section
namespace Go.Proofs.YtgjmahnblcajbaaGreatDoor.Pz
open Go.RowKit Md Tk
def vO (n:Nat) (c:UInt8):Nat:=10 * n + (c.toNat - 48)
theorem Qj: ∀(l:List UInt8) (a:Nat),a<=l.foldl vO a
 | [],a=>Nat.le_refl a
 | c ::r,a=>Nat.le_trans (by unfold vO; omega) (Qj r (vO a c))
theorem Qs {c:UInt8} (h:iX c=true):48<=c.toNat∧c.toNat<=57:=by
 unfold iX nX at h;rw [Bool.and_eq_true] at h;have h1:=of_decide_eq_true h.1;have h2:=of_decide_eq_true h.2;omega
theorem YL {M:Nat} (hM:9223372036854775807<=M): ∀(l:List UInt8) (a:Nat),l.all iX=true->l.foldl vO a<=9223372036854775807->Lib.parseUintM M a l= .ok (l.foldl vO a)
 | [],a,_,_=>rfl
 | c ::r,a,h,hv=>by
   rw [List.all_cons,Bool.and_eq_true] at h;have hd:=Qs h.1;have hv':r.foldl vO (vO a c)<=9223372036854775807:=hv;have hg:=Qj r (vO a c);have ih:=YL hM r (vO a c) h.2 hv';have hs:vO a c=a * 10 + (c.toNat - 48):=by unfold vO; omega
   unfold Lib.parseUintM;rw [if_pos hd,if_neg (by omega),if_neg (by omega),<- hs,ih];rfl
theorem UQ {l:List UInt8} (h1:l.isEmpty=false) (h2:l.all iX=true) (h3:rH l=true):Lib.parseIntB 64 l= .ok (val l:Int):=by
 have hv:val l<=9223372036854775807:=of_decide_eq_true h3;cases l with
 | nil=>cases h1
 | cons c r=>
   have hd:=Qs (by rw [List.all_cons,Bool.and_eq_true] at h2; exact h2.1);have hu:Lib.parseUintB 64 (c ::r)= .ok (val (c ::r)):=by unfold Lib.parseUintB;rw [if_neg (by simp)];exact YL (by decide) (c ::r) 0 h2 hv
   unfold Lib.parseIntB;dsimp only;rw [if_neg (by omega),hu];dsimp only
   rw [if_neg (by rintro ⟨-,h⟩; have:(2:Nat) ^ (64 - 1)=9223372036854775808:=by decide
                  omega),if_neg (by rintro ⟨h,-⟩; omega),if_neg (by omega)]
end Go.Proofs.YtgjmahnblcajbaaGreatDoor.Pz
end
section
namespace Go.Proofs.YtgjmahnblcajbaaGreatDoor.Pz
open Go.RowKit Md Tk
structure Sx where
 h:aX
 b:aJ
 e:aJ
def DN (y:Sx):aJ:=one y.h y.b y.e
theorem kV {α β γ:Type} (x:bn α) (f:α->β) (g:β->γ):(x.map f).map g=x.map (fun a=>g (f a)):=by cases x <;> rfl
theorem bind_map {α β γ:Type} (x:bn α) (f:α->aA->bn β) (g:β->γ):(x.bind f).map g=x.bind (fun a r=>(f a r).map g):=by cases x <;> rfl
theorem Ey {α β:Type} (x:bn α) (y:List UInt8) (g:α->β):(x.close y).map g=(x.map g).close y:=by
 cases x with
 | ok a r=>show (ite _ _ _:bn α).map g=ite _ _ _; split <;> rfl
 | no r=>rfl
theorem bind_eq {α β:Type} {x:bn α} {f g:α->aA->bn β} (h: ∀a r,f a r=g a r):x.bind f=x.bind g:=by
 cases x with
 | ok a r=>exact h a r
 | no r=>rfl
def mY (f:Nat) (h:aX) (r:aA):bn Sx:=(blk f r).map fun b=>⟨h,b,.nil⟩
def zW (h:aX) (r:aA):bn Sx:=(gI r).bind fun s r=>(need [59] r).map fun _=>⟨{h with nm:=s},.nil,.nil⟩
def wP (f:Nat) (h:aX) (r:aA):bn Sx:=(gI r).bind fun s r=>mY f {h with nm:=s} r
def GY (h:aX) (r:aA):bn Sx:=(gI r).bind fun s r=>((expr r).map fun x=>(⟨aX.ex {h with nm:=s} x,.nil,.nil⟩:Sx)).close [59]
def Gv (h:aX) (r:aA):bn Sx:=(gI r).bind fun s r=>((gI r).map fun a=>(⟨{h with nm:=s,arg:=a},.nil,.nil⟩:Sx)).close [59]
def wZ (f:Nat) (h:aX) (r:aA):bn Sx:=(expr r).bind fun x r=>mY f (aX.ex h x) r
def M5 (f:Nat) (h:aX) (r:aA):bn Sx:=(wZ f h r).bind fun y r=>if at' [101,108,115,101] r then (blk f r.tail).map fun e=>⟨y.h,y.b,e⟩ else .ok y r
def Bl (h:aX) (r:aA):bn Sx:=
 (if at' [91] r then ((expr r.tail).close [93]).map (fun x=> {h with idx:= .cons x.op x.n x.nm x.kids .nil}) else .ok h r).bind fun h r=>
  (need [61] r).bind fun _ r=>(((expr r).map fun x=>(⟨aX.ex h x,.nil,.nil⟩:Sx)).close [59])
def Ao (h:aX) (r:aA):bn Sx:=(gI r).bind fun s r=>Bl {h with nm:=s} r
theorem as7 (h:aX) (r:aA):TH h r=(Bl h r).map DN:=by
 unfold TH Bl;rw [bind_map];refine bind_eq (fun h r=> ?_);rw [bind_map];refine bind_eq (fun _ r=> ?_);rw [Ey,kV]; rfl
def kwX (f:Nat) (op:Int) (h:aX) (r:aA):bn Sx:=
 if op == 2 then M5 f h r else if op == 3 then wZ f h r else if op == 7 || op == 8 then mY f h r
 else if op == 4 || op == 5 || op == 6 then wP f h r else if op == 14 then GY h r else if op == 15 then Gv h r else zW h r
theorem Zy {f:Nat} {ts:aA} (h:(nextK ts == 1)=true):ps (f + 1) true ts=(Ao (hd 1 (aW ts)) ts).map DN:=by
 conv=>lhs; unfold ps
 dsimp only;rw [if_pos h];have:gI ts= .ok (tx (ay ts)) ts.tail:=by unfold gI; rw [if_pos (show isName ts=true from h)]
 unfold Ao;rw [this];exact as7 _ _
theorem Xd {f:Nat} {ts:aA} (h:(nextK ts == 1)=false) (h3:(nextK ts == 3)=false):ps (f + 1) true ts= .no ts:=by
 conv=>lhs; unfold ps
 dsimp only;rw [if_neg (by rw [h]; decide),if_neg (by rw [h3]; decide)]
theorem Zz {f:Nat} {ts:aA} (h:(nextK ts == 1)=false) (h3:(nextK ts == 3)=true) (h0:(iM (ay ts) == 0)=true):ps (f + 1) true ts= .no ts:=by
 conv=>lhs; unfold ps
 dsimp only;rw [if_neg (by rw [h]; decide),if_pos h3,if_pos h0]
theorem av3 {f:Nat} {ts:aA} (h:(nextK ts == 1)=false) (h3:(nextK ts == 3)=true) (h0:(iM (ay ts) == 0)=false):ps (f + 1) true ts=(kwX f (iM (ay ts)) (hd (iM (ay ts)) (aW ts)) ts.tail).map DN:=by
 conv=>lhs; unfold ps
 dsimp only;rw [if_neg (by rw [h]; decide),if_pos h3,if_neg (by rw [h0]; decide)];unfold kwX;by_cases h2:(iM (ay ts) == 2)=true
 ·rw [if_pos h2,if_pos h2];unfold M5 wZ;rw [bind_map];cases expr ts.tail with
  | no r=>rfl
  | ok x r=>
    show bn.bind (if at' [123] r=true then ps f false r.tail else bn.no r) _=bn.bind (bn.map _ (if at' [123] r=true then ps f false r.tail else bn.no r)) _;cases (if at' [123] r=true then ps f false r.tail else bn.no r) with
    | no r=>rfl
    | ok b r2=>
      show (if at' [101,108,115,101] r2=true then _ else _)=(if at' [101,108,115,101] r2=true then _ else _:bn Sx).map DN;split
      ·rw [kV]; rfl
      ·rfl
 ·rw [if_neg h2,if_neg h2];by_cases e3:(iM (ay ts) == 3)=true
  ·rw [if_pos e3,if_pos e3];unfold wZ mY;rw [bind_map];refine bind_eq (fun x r=> ?_);rw [kV]; rfl
  ·rw [if_neg e3,if_neg e3];by_cases e7:(iM (ay ts) == 7 || iM (ay ts) == 8)=true
   ·rw [if_pos e7,if_pos e7];unfold mY;rw [kV]; rfl
   ·rw [if_neg e7,if_neg e7];generalize iM (ay ts)=op;by_cases e4:(op == 4 || op == 5 || op == 6)=true
    ·rw [if_pos e4];unfold wP mY;rw [bind_map];refine bind_eq (fun x r=> ?_);rw [kV];rw [if_pos e4]; rfl
    ·rw [if_neg e4];by_cases e14:(op == 14)=true
     ·rw [if_pos e14];unfold GY;rw [bind_map];refine bind_eq (fun x r=> ?_);rw [Ey,kV];rw [if_neg e4,if_pos e14]; rfl
     ·rw [if_neg e14];by_cases e15:(op == 15)=true
      ·rw [if_pos e15];unfold Gv;rw [bind_map];refine bind_eq (fun x r=> ?_);rw [Ey,kV];rw [if_neg e4,if_neg e14,if_pos e15]; rfl
      ·rw [if_neg e15];unfold zW;rw [bind_map];refine bind_eq (fun x r=> ?_);rw [kV];rw [if_neg e4,if_neg e14,if_neg e15]; rfl
end Go.Proofs.YtgjmahnblcajbaaGreatDoor.Pz
end
