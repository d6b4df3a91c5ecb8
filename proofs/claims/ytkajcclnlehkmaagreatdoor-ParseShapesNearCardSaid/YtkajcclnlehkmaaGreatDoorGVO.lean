/- A program, an expression as an argument: from what the row reads to the data of this proof. And what hangs on it. -/
import Derived.Test.YtkajcclnlehkmaaGreatDoorGMA
import Derived.ProofKit
import Derived.OpenShut
import Derived.ChangeArms
import Derived.Deep.Slices
import Derived.Test.YtkajcclnlehkmaaGreatDoorGMU
set_option linter.unusedSimpArgs false
set_option linter.unusedVariables false
set_option maxHeartbeats 40000000
set_option maxRecDepth 1000000
namespace Go.Proofs.YtkajcclnlehkmaaGreatDoor
open Go.ChangeShapes Go.WideShapes Go.ChangeAt Go.RowKit
open Md
section
variable {H:Type} {enc:TypeId × Value->H} {W:World} {base:Nat} {sp:Nat->Bool} {held:Bool}
end
open Go.WideMaps Go.WideElems
theorem LH:Tryz.prog.cellsOf 5=1:=by kernel_rfl
theorem GK {H:Type} {enc:TypeId × Value->H} {W:World} {base:Nat} {v:Value} {d:DataW H} {p:List MemPlace} (hv:Value.okWide Tryz.prog W .any base 22 v)
 (h:DataW.Trod enc Tryz.prog W 0 (fun _=>true) true 22 v d p) (hlt: ∀x ∈ p,x.block < W.heap.size):
 ∃(ao:Option Addr) (len cap:Nat) (zs:List Int),v= .slice ao len cap∧zs.length=len∧len<=maxLen∧Aa W W.heap.size zs ao:=by
 obtain ⟨a0,len,cap,rfl⟩:=okWide_slice Tryz.underlying22 hv;obtain ⟨fuel,hf⟩:=h;rcases open_ints Tryz.underlying22 Tryz.underlying5 LH hf with ⟨hcs,hx⟩ | ⟨a,len',cap',zs,hcs,_,hl,hm,hz,hx,hcell,hwz⟩
 ·simp [Value.cells] at hcs;obtain ⟨rfl,rfl,rfl⟩:=hcs;exact ⟨none,0,0,[],rfl,rfl,Nat.zero_le _,fun k hk=>absurd hk (by simp)⟩
 ·simp [Value.cells] at hcs;obtain ⟨rfl,rfl,rfl⟩:=hcs;simp only [Prod.mk.injEq] at hx;obtain ⟨rfl,rfl⟩:=hx;simp only [if_true] at hz;refine ⟨some a,len,cap,zs.take len,rfl,by rw [List.length_take]; omega,by omega,fun k hk=> ?_⟩;have hk':k < zs.length:=by rw [List.length_take] at hk; omega
  obtain ⟨b,off,spot⟩:=a;have hspot:spot=none:=by simpa [Addr.add] using World.cell?_spot (hcell 0 (by omega))
  subst hspot;have hbW:b < W.heap.size:=hlt (.cell b off) (MemPlace.mem_row.2 ⟨0,by omega,by simp⟩);have hb:=bounds_u8 (hwz zs[k] (List.getElem_mem hk'));refine ⟨b,off,rfl,hbW,?_,?_⟩
  ·rw [<- add_plain,hcell k hk',List.getElem_take];simp [hk']
  ·rw [List.getElem_take]; exact hb
end Go.Proofs.YtkajcclnlehkmaaGreatDoor
