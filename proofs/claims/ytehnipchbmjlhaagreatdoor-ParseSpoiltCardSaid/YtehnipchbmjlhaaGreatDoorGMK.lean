/-
  Contract of the checker's list.
-/
import Derived.Test.YtehnipchbmjlhaaGreatDoorGMJ
import Derived.StillTailTactics
import Derived.IntWalk
set_option linter.unusedSimpArgs false
set_option linter.unusedVariables false
set_option maxHeartbeats 40000000
set_option maxRecDepth 1000000
namespace Go.Proofs.YtehnipchbmjlhaaGreatDoor
open Go.RowKit
open Md
theorem pX {w:World} {nb:Nat} {h:bf} {b e:aS} {s:Sl} {t:TypeId} {fr:Nat × Nat} (hb:w.heap[nb]? =some (.cells (LX h b e s).toArray t fr)):w.cell? ⟨nb,0,none⟩=some (.int .i64 h.op)∧w.cell? ⟨nb,1,none⟩=some (.int .i64 h.line)∧w.cell? ⟨nb,2,none⟩=some (.string h.nm)∧w.cell? ⟨nb,3,none⟩=some (.string h.arg)∧w.cell? ⟨nb,4,none⟩=some (.slice s.fH h.idx.len s.dW)∧w.cell? ⟨nb,5,none⟩=some (.int .i64 h.bV)∧w.cell? ⟨nb,6,none⟩=some (.int .i64 h.xn)∧w.cell? ⟨nb,7,none⟩=some (.string h.bU)∧w.cell? ⟨nb,8,none⟩=some (.slice s.cB h.aO.len s.bF)∧w.cell? ⟨nb,9,none⟩=some (.slice s.bC b.len s.aV)∧w.cell? ⟨nb,10,none⟩=some (.slice s.eZ e.len s.dL):=
 ⟨(dB hb (j:=0) rfl).2,(dB hb (j:=1) rfl).2,(dB hb (j:=2) rfl).2,(dB hb (j:=3) rfl).2,(dB hb (j:=4) rfl).2,(dB hb (j:=5) rfl).2,(dB hb (j:=6) rfl).2,(dB hb (j:=7) rfl).2,(dB hb (j:=8) rfl).2,(dB hb (j:=9) rfl).2,(dB hb (j:=10) rfl).2⟩
theorem Ww:(Tryz.prog.info? 89).map (fun i=>(i.zero,i.size,i.bytes))=some (some (.agg #[.int .i64 0,.int .i64 0,.string ⟨#[]⟩,.string ⟨#[]⟩,.slice none 0 0,.int .i64 0,.int .i64 0,.string ⟨#[]⟩,.slice none 0 0,.slice none 0 0,.slice none 0 0]),11,176):=by kernel_rfl
def Mg:Array Value:= #[.int .i64 0,.int .i64 0,.string ⟨#[]⟩,.string ⟨#[]⟩,.slice none 0 0,.int .i64 0,.int .i64 0,.string ⟨#[]⟩,.slice none 0 0,.slice none 0 0,.slice none 0 0]
theorem Vn: ∃i0,Tryz.prog.info? 89=some i0∧i0.zero=some (.agg Mg)∧i0.size=11∧i0.bytes=176:=info_parts Ww
theorem Vz:(Tryz.prog.info? 89).map (·.size)=some 11:=by kernel_rfl
end Go.Proofs.YtehnipchbmjlhaaGreatDoor
