/-
  A program, an expression as an argument: from what the row reads to the data of this proof.
  From the rows' list of variables to the table of keywords in memory; a world that holds what the rows list.
-/
import Derived.Test.YtnknfoibmgphnaaDoorGMA
import Derived.ProofKit
import Derived.OpenShut
import Derived.ChangeArms
import Derived.Deep.Slices
import Derived.Test.YtnknfoibmgphnaaDoorCards
import Derived.Test.YtnknfoibmgphnaaDoorTie
import Derived.Test.YtnknfoibmgphnaaDoorGA
import Derived.Deep.DeepHandedRow
import Derived.Lib.LaidTab
import Derived.Stop.LaidErr
section
set_option maxRecDepth 100000
set_option linter.unusedVariables false
set_option linter.unusedSimpArgs false
namespace Go.Proofs.YtnknfoibmgphnaaDoor
open Go.ChangeShapes Go.WideShapes Go.ChangeAt Go.RowKit
open Md
section
variable {H:Type} {enc:TypeId × Value→H} {W:World} {base:Nat} {sp:Nat→Bool} {held:Bool}
end
end Go.Proofs.YtnknfoibmgphnaaDoor
end
section
namespace Go.Proofs.YtnknfoibmgphnaaDoor
open Go.ChangeShapes Go.WideShapes Go.ChangeAt Go.RowKit
theorem own:ownKnob Tryd.prog.godebug=none:=by kernel_rfl
theorem EF {H:Type} {enc:TypeId × Value→H} {P:Program} {w:World} {base:Nat} {sp:Nat→Bool} {held:Bool} {fuel:Nat} {t e:TypeId} {n:Nat} {cs:List Value} {ls:List (List UInt8)} {p:List MemPlace}
 (ht:P.underlying t=some (.array n e)) (he:P.underlying e=some .string) (hce:P.cellsOf e=1) (hct:P.cellsOf t=n)
 (h:DataW.trod enc P w base sp held fuel t cs=some (.agg (ls.map fun b=> .lit (.string b)),p)):cs=ls.map fun b=>Value.string ⟨b.toArray⟩:=by
 obtain ⟨xs,m,_,hx,hlen,hxl,hat⟩:=DataW.trod_array ht h
 rw [hct] at hlen
 rw [hce] at hat
 have hxs:xs.map (·.1)=ls.map fun b=>(DataW.lit (.string b):DataW H):=by
  have:=congrArg Prod.fst hx
  simpa using this.symm
 have hll:ls.length=n:=by
  have:=congrArg List.length hxs
  simp at this
  omega
 apply List.ext_getElem?
 intro i
 by_cases hi:i < n
 ·have h1:=hat i hi
  rw [Nat.mul_one,List.getElem?_eq_getElem (by omega)] at h1
  obtain ⟨s,hc,hd,_⟩:=DataW.trod_string he h1
  have hcs:cs[i]? =some (.string s):=by
   have:=congrArg (·[0]?) hc
   simpa [List.getElem?_take,List.getElem?_drop] using this
  have h2:(xs.map (·.1))[i]? =some (DataW.lit (.string s.data.toList):DataW H):=by
   rw [List.getElem?_map,List.getElem?_eq_getElem (by omega),hd]; rfl
  rw [hxs,List.getElem?_map] at h2
  obtain ⟨b,hb,e2⟩:=Option.map_eq_some_iff.1 h2
  simp only [DataW.lit.injEq,Lit.string.injEq] at e2
  rw [hcs,List.getElem?_map,hb,e2]
  rfl
 ·rw [List.getElem?_eq_none (by omega),List.getElem?_eq_none (by simp; omega)]
theorem MJ:Tryd.prog.cellsOf 88=22:=by kernel_rfl
theorem Kr:Tryd.prog.cellsOf 9=1:=by kernel_rfl
theorem Gb {W:World} {n:String} {rest:List (String × DataW Unit)} (hg:Tryd.prog.globalNamed n=some 0) (h:laidMet Tryd.prog ((n,Rows.laid_interleave_token_keywords) ::rest) W):dZ W:=by
 obtain ⟨ps,⟨g',t',cs,fuel,p,q,hg',ht',hvar,hd,_,_⟩,_⟩:=h
 obtain rfl:=Option.some.inj (hg.symm.trans hg')
 have hty:(Tryd.prog.globals[0]?).map (·.type)=some 88:=by kernel_rfl
 obtain rfl:=Option.some.inj (hty.symm.trans ht')
 have hcs:cs.toList=Tk.xP.map fun b=>Value.string ⟨b.toArray⟩:=EF (ls:=Tk.xP) Tryd.underlying88 Tryd.underlying9 Kr MJ hd
 have hkc:cs=yC:=by unfold yC; rw [← hcs]
 subst hkc
 unfold World.var? at hvar
 rw [hg'] at hvar
 simp only [Option.bind_some] at hvar
 unfold dZ
 split at hvar
 ·rename_i c t fr hh
  exact ⟨t,fr,by rw [hh]; rw [Option.some.inj hvar]⟩
 ·cases hvar
def LD:DataW Unit→List Value
 | .lit (.int k n)=>[.int k n]
 | .lit (.string s)=>[.string ⟨s.toArray⟩]
 | _=>[]
def M5:DataW Unit→List Value
 | .agg l=>l.flatMap LD
 | d=>LD d
def flat3:DataW Unit→Array Value
 | .agg l=>(l.flatMap M5).toArray
 | d=>(M5 d).toArray
def lay (cs:Array Value):Obj→Obj
 | .cells _ t frozen=> .cells cs t frozen
 | o=>o
noncomputable def xK (os:Os):World:=
 {World.holding Tryd.prog os ⟨#[],#[],[]⟩ with heap:=(World.holding Tryd.prog os ⟨#[],#[],[]⟩).heap.modify 0 (lay (flat3 Rows.laid_interleave_token_keywords))}
theorem Tryd.laidOut:laidOutB Tryd.prog=true:=by kernel_rfl
end Go.Proofs.YtnknfoibmgphnaaDoor
end
