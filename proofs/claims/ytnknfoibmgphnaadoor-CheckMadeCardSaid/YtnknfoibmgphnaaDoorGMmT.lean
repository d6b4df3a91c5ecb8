/-
  Contracts of the maker's stmt, stmts and block, put together.
-/
import Derived.Test.YtnknfoibmgphnaaDoorGPE
import Derived.Test.YtnknfoibmgphnaaDoorGPF
import Derived.Test.YtnknfoibmgphnaaDoorGPG
import Derived.Test.YtnknfoibmgphnaaDoorGPH
set_option linter.unusedSimpArgs false
set_option linter.unusedVariables false
namespace Go.Proofs.YtnknfoibmgphnaaDoor
open Go.RowKit
open Md
theorem Ku {T:Tp} {d:Nat} (h:Ms T d):IQ T d:=by
 intro w H hs hI jh
 obtain ⟨k,hk,hnx⟩:=FW T H hs 18 w (by unfold aX; decide) (by decide) hI
 have hk:k < 18:=by omega
 by_cases h4:k < 4
 ·exact Qh T d k h4 h w H hs hI jh hnx
 ·have:k=4∨k=5∨k=6∨k=7∨k=8∨k=9∨k=10∨k=11∨k=12∨k=13∨k=14∨k=15∨k=16∨k=17:=by omega
  rcases this with e | e | e | e | e | e | e | e | e | e | e | e | e | e
  ·exact Qu T d k e h w H hs hI jh hnx
  ·exact Q8 T d k e h w H hs hI jh hnx
  ·exact Qe T d k e h w H hs hI jh hnx
  ·exact Qo T d k e h w H hs hI jh hnx
  ·exact Qd T d k e h w H hs hI jh hnx
  ·exact Qr T d k e h w H hs hI jh hnx
  ·exact Ph T d k e h w H hs hI jh hnx
  ·exact Po T d k e h w H hs hI jh hnx
  ·exact OC T d k e h w H hs hI jh hnx
  ·exact Om T d k e h w H hs hI jh hnx
  ·exact NS T d k e h w H hs hI jh hnx
  ·exact PD T d k e h w H hs hI jh hnx
  ·exact Ns T d k e h w H hs hI jh hnx
  ·exact Pk T d k e h w H hs hI jh hnx
theorem Mf (T:Tp) (d:Nat):d≤100→vQ T d∧Ez T d:=by
 induction d using Nat.strongRecOn with
 | ind d ih=>
   intro hd
   have h:=EL T d (Ku (Ms.mk' hd (fun d' e=>ih d' e (by omega))))
   exact ⟨h,EN T d hd h⟩
theorem Gq (T:Tp) (d:Nat) (hd:d≤100):vQ T d:=(Mf T d hd).1
end Go.Proofs.YtnknfoibmgphnaaDoor
