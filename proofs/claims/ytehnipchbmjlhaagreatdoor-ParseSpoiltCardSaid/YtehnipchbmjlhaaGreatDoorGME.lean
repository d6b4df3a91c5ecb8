/-
  Contracts of check.declared and check.meaning.
  Contracts of check.kindOf, extent, names, Expr.
  Maps that a call makes, keyed by texts, with integers and truth values: what they hold as a plain function.
  Contract of check.declarations.
  Contract of check.threads.
-/
import Derived.Test.YtehnipchbmjlhaaGreatDoorGMA
import Derived.Test.YtehnipchbmjlhaaGreatDoorGMC
import Derived.Deep.CutBlock
import Derived.Test.YtehnipchbmjlhaaGreatDoorGMB
import Derived.Maps.Own
import Derived.Maps.OwnSet
import Derived.Maps.Views
set_option linter.unusedSimpArgs false
set_option linter.unusedVariables false
set_option maxHeartbeats 40000000
set_option maxRecDepth 1000000
section
namespace Go.Proofs.YtehnipchbmjlhaaGreatDoor
open Go.RowKit
open Md
end Go.Proofs.YtehnipchbmjlhaaGreatDoor
end
section
namespace Go.Proofs.YtehnipchbmjlhaaGreatDoor
open Go.RowKit
namespace Md
section
variable {w w':World} {B B':Nat}
end
def Hq (m:Int) (l:List Int):Int:=if m == 0 then 5 else if l.any (fun k=>m == k) then 0 else 6
def JA:aZ→Int→Int→Int × Int
 | .nil,n,d=>(n,d)
 | .cons _ _ _ kids rest,n,d=>JA rest (wrap64 (n + (JA kids 1 0).1)) (max d (wrap64 ((JA kids 1 0).2 + 1)))
def ext (kids:aZ):Int × Int:=((JA kids 1 0).1,wrap64 ((JA kids 1 0).2 + 1))
def Ue (p:Pr) (i op:Int) (nm:ByteArray):Int:=if op == 2 then Hq (mean p i nm) [1,2] else if op == 3 then Hq (mean p i nm) [3] else 0
def Mx (p:Pr) (i:Int):aZ→Int
 | .nil=>0
 | .cons op _ nm kids rest=>if Ue p i op nm == 0 then (if Mx p i kids == 0 then Mx p i rest else Mx p i kids) else Ue p i op nm
def ak5 (p:Pr) (i op:Int) (nm:ByteArray) (kids:aZ):Int:=if Ue p i op nm == 0 then Mx p i kids else Ue p i op nm
def Xj (p:Pr) (i op n:Int) (nm:ByteArray) (kids:aZ):Int:=
 if gW op n nm kids then (if decide (24 < (ext kids).1) || decide (6 < (ext kids).2) then 2 else ak5 p i op nm kids) else 3
end Md
open Md
end Go.Proofs.YtehnipchbmjlhaaGreatDoor
end
section
namespace Go.Proofs.YtehnipchbmjlhaaGreatDoor
open Go.RowKit
open Md
end Go.Proofs.YtehnipchbmjlhaaGreatDoor
end
section
namespace Go.Proofs.YtehnipchbmjlhaaGreatDoor
open Go.RowKit
namespace Md
def dc (d:De) (c:Int):Int:=if d.kind == 1 || d.kind == 2 then c + max d.size 1 else c
end Md
open Md
end Go.Proofs.YtehnipchbmjlhaaGreatDoor
end
section
namespace Go.Proofs.YtehnipchbmjlhaaGreatDoor
open Go.RowKit
namespace Md
def UH (ds:List De) (l:List UInt8):Bool:=ds.any fun d=>d.nm.toList == l
def U4 (ts:List Th) (l:List UInt8):Bool:=ts.any fun t=>t.nm.toList == l
def aq3 (tx:List ByteArray) (l:List UInt8):Bool:=tx.any fun s=>s.toList == l
def YT (ds:List De):List Th→List Th→Option Int
 | [],_=>none
 | t ::r,pre=>if UH ds t.nm.toList || U4 pre t.nm.toList then some t.line else YT ds r (pre++[t])
def Xu (ds:List De) (ts:List Th):List ByteArray→List ByteArray→Bool
 | [],_=>false
 | s ::r,pre=>((UH ds s.toList || U4 ts s.toList) || aq3 pre s.toList) || Xu ds ts r (pre++[s])
def EU (ds:List De) (ts:List Th):List Th→Int × Int
 | []=>(0,0)
 | t ::r=>if decide ((4:Int) < t.bZ.length) then (2,t.line) else if Xu ds ts t.bZ [] then (4,t.line) else EU ds ts r
def pO (p:Pr):Int × Int:=match YT p.ds p.ts [] with
 | some l=>(4,l)
 | none=>EU p.ds p.ts p.ts
end Md
open Md
end Go.Proofs.YtehnipchbmjlhaaGreatDoor
end
