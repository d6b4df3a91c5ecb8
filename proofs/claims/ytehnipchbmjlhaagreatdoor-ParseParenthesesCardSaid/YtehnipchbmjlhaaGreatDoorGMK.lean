/-
  Contract of the checker's list.
-/
import Derived.Test.YtehnipchbmjlhaaGreatDoorGMJ
import Derived.StillTailTactics
import Derived.IntWalk
set_option linter.unusedSimpArgs false
set_option linter.unusedVariables false
namespace Go.Proofs.YtehnipchbmjlhaaGreatDoor
open Go.RowKit
open Md
theorem aI.At.eD {w:World} {B:Nat} {h:aW} {b e r:aI} {ao:Option Addr} {k:Nat} (hat:(aI.cons h b e r).At w B ao k): ∃bl off s,ao=some ⟨bl,off,none⟩∧bl < B∧xg w B h b e s∧
 w.cell? ⟨bl,off + k * 11,none⟩=some (.int .i64 h.op)∧w.cell? ⟨bl,off + k * 11 + 1,none⟩=some (.int .i64 h.line)∧w.cell? ⟨bl,off + k * 11 + 2,none⟩=some (.string h.nm)∧w.cell? ⟨bl,off + k * 11 + 3,none⟩=some (.string h.arg)∧w.cell? ⟨bl,off + k * 11 + 4,none⟩=some (.slice s.eP h.idx.len s.dK)∧
 w.cell? ⟨bl,off + k * 11 + 5,none⟩=some (.int .i64 h.bM)∧w.cell? ⟨bl,off + k * 11 + 6,none⟩=some (.int .i64 h.xn)∧w.cell? ⟨bl,off + k * 11 + 7,none⟩=some (.string h.bP)∧w.cell? ⟨bl,off + k * 11 + 8,none⟩=some (.slice s.dJ h.aJ.len s.bS)∧
 w.cell? ⟨bl,off + k * 11 + 9,none⟩=some (.slice s.bR b.len s.aZ)∧w.cell? ⟨bl,off + k * 11 + 10,none⟩=some (.slice s.dY e.len s.dA)∧r.At w B ao (k + 1):=by
 obtain ⟨⟨b,off,eP,dK,dJ,bS,bR,aZ,dY,dA,e,hB,c0,c1,c2,c3,c4,c5,c6,c7,c8,c9,c10,hok,h1,h2,h3,h4⟩,hr⟩:=hat
 exact ⟨b,off,⟨eP,dK,dJ,bS,bR,aZ,dY,dA⟩,e,hB,⟨hok,h1,h2,h3,h4⟩,c0,c1,c2,c3,c4,c5,c6,c7,c8,c9,c10,hr⟩
theorem oI {w:World} {nb:Nat} {h:aW} {b e:aI} {s:Sl} {t:TypeId} {fr:Nat × Nat} (hb:w.heap[nb]? =some (.cells (yO h b e s).toArray t fr)):w.cell? ⟨nb,0,none⟩=some (.int .i64 h.op)∧w.cell? ⟨nb,1,none⟩=some (.int .i64 h.line)∧w.cell? ⟨nb,2,none⟩=some (.string h.nm)∧w.cell? ⟨nb,3,none⟩=some (.string h.arg)∧w.cell? ⟨nb,4,none⟩=some (.slice s.eP h.idx.len s.dK)∧w.cell? ⟨nb,5,none⟩=some (.int .i64 h.bM)∧w.cell? ⟨nb,6,none⟩=some (.int .i64 h.xn)∧w.cell? ⟨nb,7,none⟩=some (.string h.bP)∧w.cell? ⟨nb,8,none⟩=some (.slice s.dJ h.aJ.len s.bS)∧w.cell? ⟨nb,9,none⟩=some (.slice s.bR b.len s.aZ)∧w.cell? ⟨nb,10,none⟩=some (.slice s.dY e.len s.dA):=
 ⟨(cZ hb (j:=0) rfl).2,(cZ hb (j:=1) rfl).2,(cZ hb (j:=2) rfl).2,(cZ hb (j:=3) rfl).2,(cZ hb (j:=4) rfl).2,(cZ hb (j:=5) rfl).2,(cZ hb (j:=6) rfl).2,(cZ hb (j:=7) rfl).2,(cZ hb (j:=8) rfl).2,(cZ hb (j:=9) rfl).2,(cZ hb (j:=10) rfl).2⟩
theorem Vu:(Tryz.prog.info? 89).map (fun i=>(i.zero,i.size,i.bytes))=some (some (.agg #[.int .i64 0,.int .i64 0,.string ⟨#[]⟩,.string ⟨#[]⟩,.slice none 0 0,.int .i64 0,.int .i64 0,.string ⟨#[]⟩,.slice none 0 0,.slice none 0 0,.slice none 0 0]),11,176):=by kernel_rfl
def KZ:Array Value:= #[.int .i64 0,.int .i64 0,.string ⟨#[]⟩,.string ⟨#[]⟩,.slice none 0 0,.int .i64 0,.int .i64 0,.string ⟨#[]⟩,.slice none 0 0,.slice none 0 0,.slice none 0 0]
theorem Vf: ∃i0,Tryz.prog.info? 89=some i0∧i0.zero=some (.agg KZ)∧i0.size=11∧i0.bytes=176:=info_parts Vu
theorem Vh:(Tryz.prog.info? 89).map (·.size)=some 11:=by kernel_rfl
end Go.Proofs.YtehnipchbmjlhaaGreatDoor
