/-
  Contract of the maker's Expr: it returns a shaped expression that lies in new memory; bytes as an argument.
-/
import Derived.Test.YtehnipchbmjlhaaGreatDoorGMP
import Derived.Test.YtehnipchbmjlhaaGreatDoorGMO
import Derived.ProofKit
import Derived.OpenShut
set_option linter.unusedSimpArgs false
set_option linter.unusedVariables false
namespace Go.Proofs.YtehnipchbmjlhaaGreatDoor
open Go.RowKit
open Md
def XpP (w:World) (e:Ending) (w':World):Prop:= ∃op n nm kids ao cap,e= .returned (exV op n nm kids ao cap)∧Tt (GE 5) op n nm kids∧kids.At w' w'.heap.size ao 0∧Below w.heap.size w w'
set_option maxHeartbeats 2000000 in
theorem G5 (w:World) (zs:List Int) (ao:Option Addr) (cap:Nat) (hz:Ac w w.heap.size zs ao) (hl:zs.length≤9223372036854775807):
 Calls Tryz.prog 20 #[.slice ao zs.length cap] w (XpP w):=by
 have HZ:=Lib.hid hz
 clear hz
 go_enter Tryz.func20,Tryz.ntmps20
 go_wp2_with fail
 obtain ⟨w2,hw2⟩: ∃x,x=((w.alloc (.cells tL 45)).alloc (.cells #[.slice ao zs.length cap,.int .i64 0] 56)).alloc (.cells #[.pointer (some ⟨w.heap.size + 1,0,none⟩),.int .i64 0,.int .i64 0] 58):=⟨_,rfl⟩
 obtain ⟨T,e0,e1,e2,e3,e4,e5⟩: ∃T:Tp,T.B0=w.heap.size∧w.heap.size + 1=T.bt∧w.heap.size + 1 + 1=T.bm∧T.ao=ao∧T.cap=cap∧T.zs=zs:=⟨⟨w.heap.size,w.heap.size + 1,w.heap.size + 1 + 1,ao,cap,zs,by omega,by omega,by omega⟩,rfl,rfl,rfl,rfl,rfl,rfl⟩
 have Qg:Hid (Below w.heap.size w w2):=Lib.hid (by rw [hw2]; exact ((ah _ _).alloc (by simp) _).alloc (by simp <;> omega) _)
 have HR2:Hid (w2.heap[w.heap.size]? =some (.cells tL 45 (0,0))):=Lib.hid (by
  rw [hw2,heap_alloc_old _ _ (by simp <;> omega),heap_alloc_old _ _ (by simp <;> omega)]; exact heap_alloc_new _ _)
 have Cw:Hid (dx w2 T):=Lib.hid (by
  have k1:w2.heap[T.bt]? =some (.cells #[.slice ao zs.length cap,.int .i64 0] 56 (0,0)):=by
   rw [hw2,← e1,heap_alloc_old _ _ (by simp)]
   have:=heap_alloc_new (w.alloc (.cells tL 45)) (.cells #[.slice ao zs.length cap,.int .i64 0] 56)
   simpa using this
  have k2:w2.heap[T.bm]? =some (.cells #[.pointer (some ⟨w.heap.size + 1,0,none⟩),.int .i64 0,.int .i64 0] 58 (0,0)):=by
   rw [hw2,← e2]
   have:=heap_alloc_new ((w.alloc (.cells tL 45)).alloc (.cells #[.slice ao zs.length cap,.int .i64 0] 56)) (.cells #[.pointer (some ⟨w.heap.size + 1,0,none⟩),.int .i64 0,.int .i64 0] 58)
   simpa using this
  refine ⟨⟨⟨0,Nat.zero_le _,by rw [k1,e3,e4,e5]; rfl⟩,by rw [e0,e3,e5]; exact HZ.out.below Qg.out,by rw [e5]; exact hl⟩,⟨0,0,by unfold aV; decide,by decide,by decide,by rw [k2,e1]⟩⟩)
 have HE:Hid (Calls Tryz.prog 51 #[.pointer (some ⟨w.heap.size + 1 + 1,0,none⟩),.int .i64 5] w2 (LZ T (GE 5) w2)):=Lib.hid (by rw [e2]; exact zl T 5 (by decide) w2 Cw.out)
 have dh:Hid (T.bt=w.heap.size + 1∧T.bm=w.heap.size + 2∧w2.heap.size=w.heap.size + 3):=Lib.hid ⟨e1.symm,by omega,by rw [hw2]; simp⟩
 have HC:=HE.out
 rw [hw2] at HC
 refine HC.mono ?_
 rw [← hw2]
 intro e w3 hp
 obtain ⟨op,n,nm,kids,gM,cap',rfl,hok,hM,hI,hst⟩:=hp
 have HRW:Hid (w3.heap[w.heap.size]? =some (.cells tL 45 (0,0))):=Lib.hid ((hM.block _ (Array.getElem?_eq_some_iff.1 HR2.out).1 (by have:=dh.out; omega) (by have:=dh.out; omega)).trans HR2.out)
 have HB3:=Lib.hid (Js Qg.out hM (by have:=dh.out; omega) (by have:=dh.out; omega))
 have HST:=Lib.hid hst
 have fH:=Lib.hid hok
 obtain ⟨⟨y0,y1,y2,y3⟩,fz⟩:=xW HRW.out
 have f0:=fz 0
 have f1:=fz 1
 have f2:=fz 2
 have f3:=fz 3
 clear hok hM hI hst HC hw2 e0 e1 e2 e3 e4 e5 fz HE Cw
 unfold exV
 go_wp2_with fail
 have x1:=bC (B:=w2.heap.size) w3 ⟨w.heap.size,0,none⟩ (.int .i64 op) (by have:=dh.out; show w.heap.size < _; omega)
 have x2:=x1.trans (bC _ ⟨w.heap.size,1,none⟩ (.int .i64 n) (by have:=dh.out; show w.heap.size < _; omega))
 have x3:=x2.trans (bC _ ⟨w.heap.size,2,none⟩ (.string nm) (by have:=dh.out; show w.heap.size < _; omega))
 have x4:=x3.trans (bC _ ⟨w.heap.size,3,none⟩ (.slice gM kids.len cap') (by have:=dh.out; show w.heap.size < _; omega))
 exact bodyPost_ret (v:=exV op n nm kids gM cap') (by simp [results,Tryz.results20,go_sem,exV,y0,y1,y2,y3]) rfl ⟨op,n,nm,kids,gM,cap',rfl,fH.out,HST.out _ x4,(((HB3.out.setCell (by simp) _).setCell (by simp) _).setCell (by simp) _).setCell (by simp) _⟩
end Go.Proofs.YtehnipchbmjlhaaGreatDoor
