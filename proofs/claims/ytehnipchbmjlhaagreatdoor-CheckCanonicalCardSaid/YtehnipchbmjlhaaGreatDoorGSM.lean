/-
  Contract of the reference's SameExpr at two expressions that are alike.
  A region that draws its order, with a ghost beside the world: whatever came up first, what each operation yields has a property that stays. No program in sight.
  Two boxes that are made in an open order, then filled. No program in sight.
  Contracts of the reference's SameTexts and SameStmts where the lists are alike.
  Contract of the reference's Same where two programs are alike.
-/
import Derived.Test.YtehnipchbmjlhaaGreatDoorGMA
import Derived.StillTailTactics
import Derived.Deep.QuietTactic
import Derived.Test.YtehnipchbmjlhaaGreatDoorGMB
import Derived.Deep.MidRow
import Derived.Sort.AtCall
import Derived.Deep.RegionWith
set_option linter.unusedSimpArgs false
set_option linter.unusedVariables false
set_option maxHeartbeats 40000000
set_option maxRecDepth 1000000
section
namespace Go.Proofs.YtehnipchbmjlhaaGreatDoor
open Go.RowKit
open Md
end Go.Proofs.YtehnipchbmjlhaaGreatDoor
end
section
namespace Go.Proofs.YtehnipchbmjlhaaGreatDoor
open Go.RowKit
section
variable {G:Type}
variable {P:Program} {a0:Act} {Q:Exit→Act→World→Prop} {C:(Nat→Bool)→G→World→Prop} {Le:G→World→G→World→Prop} {eG:List Tmp}
end
end Go.Proofs.YtehnipchbmjlhaaGreatDoor
end
section
namespace Go.Proofs.YtehnipchbmjlhaaGreatDoor
open Go.RowKit
section
end
end Go.Proofs.YtehnipchbmjlhaaGreatDoor
end
section
namespace Go.Proofs.YtehnipchbmjlhaaGreatDoor
open Go.RowKit
open Md
namespace Md
def aN.kN (ln:Bool):aN→aN→Prop
 | .nil,.nil=>True
 | .cons h b e r,.cons h' b' e' r'=>(h'= {h with line:=h'.line} ∧(ln=true→h'.line=h.line))∧b.kN ln b'∧e.kN ln e'∧r.kN ln r'
 | _,_=>False
end Md
end Go.Proofs.YtehnipchbmjlhaaGreatDoor
end
section
namespace Go.Proofs.YtehnipchbmjlhaaGreatDoor
open Go.RowKit
open Md
namespace Md
def pU (ln:Bool):List De→List De→Prop
 | [],[]=>True
 | d ::r,d' ::r'=>(d'= {d with line:=d'.line} ∧(ln=true→d'.line=d.line))∧pU ln r r'
 | _,_=>False
def ou (ln:Bool):List Th→List Th→Prop
 | [],[]=>True
 | t ::r,t' ::r'=>((t'.nm=t.nm∧t'.bH=t.bH)∧(ln=true→t'.line=t.line)∧t.body.kN ln t'.body)∧ou ln r r'
 | _,_=>False
theorem Cx {ln:Bool} : ∀ {l l':List Th},ou ln l l'→l'.length=l.length
 | [],[],_=>rfl
 | _ ::_,_ ::_,h=>by simp only [List.length_cons]; rw [Cx h.2]
 | [],_ ::_,h=>h.elim
 | _ ::_,[],h=>h.elim
def Pr.kN (ln:Bool) (p p':Pr):Prop:=pU ln p.ds p'.ds∧ou ln p.ts p'.ts
end Md
end Go.Proofs.YtehnipchbmjlhaaGreatDoor
end
