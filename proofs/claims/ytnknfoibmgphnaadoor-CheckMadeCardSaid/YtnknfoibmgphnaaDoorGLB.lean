/-
  The law CheckMade, walked: all joined.
  Bytes as an argument.
-/
import Derived.Test.YtnknfoibmgphnaaDoorGLawMade
import Derived.Test.YtnknfoibmgphnaaDoorGMmQ
import Derived.Test.YtnknfoibmgphnaaDoorGMmT
import Derived.Test.YtnknfoibmgphnaaDoorGMdRefQ
import Derived.Test.YtnknfoibmgphnaaDoorGPA
import Derived.Test.YtnknfoibmgphnaaDoorGO
import Derived.ProofKit
import Derived.OpenShut
section
namespace Go.Proofs.YtnknfoibmgphnaaDoor
open Go.RowKit
open Md
theorem Jt:CQ:=fun w zs ao cap hz hl=>IJ (fun T=>Gq T 2 (by decide)) Bg w zs ao cap hz hl
theorem Bn (ao:Option Addr) (len cap:Nat) (zs:List Int) (hlen:zs.length=len) (hcap:len≤maxLen) (c:Int) (wc:(Lit.int .u8 c).wf=true) (w:World) (hz:uP w w.heap.size zs ao) (dL:dZ w):
 Calls Tryd.prog 3 #[.slice ao len cap,.int .u8 c] w fun e w'=>e= .returned (.bool true)∧Below w.heap.size w w':=by
 subst hlen
 have hc:0≤c∧c≤255:=by
  simp [Lit.wf] at wc
  have e1:IntKind.u8.min=0:=by decide
  have e2:IntKind.u8.max=255:=by decide
  omega
 obtain ⟨n,rfl⟩:=Int.eq_ofNat_of_zero_le hc.1
 exact K5 Jt ao cap zs hcap n (by omega) w hz dL
end Go.Proofs.YtnknfoibmgphnaaDoor
end
section
namespace Go.Proofs.YtnknfoibmgphnaaDoor
open Go.ChangeShapes Go.WideShapes Go.ChangeAt Go.RowKit
open Go.WideMaps Go.WideElems
theorem MR:Tryd.prog.cellsOf 5=1:=by kernel_rfl
set_option maxRecDepth 100000 in
theorem Hw {H:Type} {enc:TypeId × Value→H} {W:World} {base:Nat} {v:Value} {d:DataW H} {p:List MemPlace} (hv:Value.okWide Tryd.prog W .any base 22 v)
 (h:DataW.Trod enc Tryd.prog W 0 (fun _=>true) true 22 v d p) (hlt: ∀x ∈ p,x.block < W.heap.size):
 ∃(ao:Option Addr) (len cap:Nat) (zs:List Int),v= .slice ao len cap∧zs.length=len∧len≤maxLen∧uP W W.heap.size zs ao:=by
 obtain ⟨a0,len,cap,rfl⟩:=okWide_slice Tryd.underlying22 hv
 obtain ⟨fuel,hf⟩:=h
 rcases open_ints Tryd.underlying22 Tryd.underlying5 MR hf with ⟨hcs,hx⟩ | ⟨a,len',cap',zs,hcs,_,hl,hm,hz,hx,hcell,hwz⟩
 ·simp [Value.cells] at hcs
  obtain ⟨rfl,rfl,rfl⟩:=hcs
  exact ⟨none,0,0,[],rfl,rfl,Nat.zero_le _,fun k hk=>absurd hk (by simp)⟩
 ·simp [Value.cells] at hcs
  obtain ⟨rfl,rfl,rfl⟩:=hcs
  simp only [Prod.mk.injEq] at hx
  obtain ⟨rfl,rfl⟩:=hx
  simp only [if_true] at hz
  refine ⟨some a,len,cap,zs.take len,rfl,by rw [List.length_take]; omega,by omega,fun k hk=> ?_⟩
  have hk':k < zs.length:=by rw [List.length_take] at hk; omega
  obtain ⟨b,off,spot⟩:=a
  have hspot:spot=none:=by simpa [Addr.add] using World.cell?_spot (hcell 0 (by omega))
  subst hspot
  have hbW:b < W.heap.size:=hlt (.cell b off) (MemPlace.mem_row.2 ⟨0,by omega,by simp⟩)
  have hb:=bounds_u8 (hwz zs[k] (List.getElem_mem hk'))
  refine ⟨b,off,rfl,hbW,?_,?_⟩
  ·rw [← add_plain,hcell k hk',List.getElem_take]
   simp [hk']
  ·rw [List.getElem_take]; exact hb
end Go.Proofs.YtnknfoibmgphnaaDoor
end
