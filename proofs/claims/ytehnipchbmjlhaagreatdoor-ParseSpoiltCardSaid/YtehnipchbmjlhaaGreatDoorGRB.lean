/-
  What the reader's expressions leave; words for the walks of unary, primary, binary.
  Contract of the reader's unary.
  Contract of the reader's primary.
  Contract of the reader's binary; of all that read expressions.
-/
import Derived.Test.YtehnipchbmjlhaaGreatDoorGRA
import Derived.Test.YtehnipchbmjlhaaGreatDoorGMB
set_option linter.unusedSimpArgs false
set_option linter.unusedVariables false
set_option maxHeartbeats 40000000
set_option maxRecDepth 1000000
section
namespace Go.Proofs.YtehnipchbmjlhaaGreatDoor
open Go.RowKit
open Md Pz
def jA (x:E):Prop:=qO x.op x.n x.nm x.kids
def EV (B:Nat) (x:E) (v:Value) (w:World):Prop:= ∃ao cap,v=exV x.op x.n x.nm x.kids ao cap∧jA x∧bJ B w (fun w2=>x.kids.At w2 w2.heap.size ao 0)
theorem EV.mono {B B':Nat} {x:E} {v:Value} {w:World} (h:EV B' x v w) (hB:B≤B'):EV B x v w:=by
 obtain ⟨ao,cap,h1,h2,h3⟩:=h; exact ⟨ao,cap,h1,h2,h3.mono hB⟩
def zE:Value:= .agg #[.int .i64 0,.int .i64 0,.string ⟨#[]⟩,.slice none 0 0]
def kY (R:Rp) (w:World) (r:bg E) (e:Ending) (w':World):Prop:=
 match r with
 | .ok x rest=> ∃v,e= .returned (.tuple #[v,.bool true])∧EV w.heap.size x v w'∧aY w' R rest∧w.grownBy w' (some R.br)
 | .no rest=>e= .returned (.tuple #[zE,.bool false])∧aY w' R rest∧w.grownBy w' (some R.br)
def um (R:Rp) (f:Nat) (ts:ak):M→Prop
 | .bin lv=>lv≤6→ ∀w,aY w R ts→Calls Tryz.prog 91 #[.pointer (some ⟨R.br,0,none⟩),.int .i64 (lv:Int)] w (kY R w (pe f (.bin lv) ts))
 | .un=> ∀w,aY w R ts→Calls Tryz.prog 123 #[.pointer (some ⟨R.br,0,none⟩)] w (kY R w (pe f .un ts))
 | .pr=> ∀w,aY w R ts→Calls Tryz.prog 139 #[.pointer (some ⟨R.br,0,none⟩)] w (kY R w (pe f .pr ts))
 | .lp _ _=>True
def gH (w:World) (b:Nat) (v0 v1 v2 v3:Value):World:=(((w.setCell ⟨b,0,none⟩ v0).setCell ⟨b,1,none⟩ v1).setCell ⟨b,2,none⟩ v2).setCell ⟨b,3,none⟩ v3
theorem jC {br:Nat} {w w':World} (h:w.grownBy w' (some br)) (a:Addr) (v:Value) (hb:w.heap.size≤a.block):w.grownBy (w'.setCell a v) (some br):=
 ⟨h.os,h.tape,h.output,by have:=h.size; simpa [World.setCell] using this,fun k hk hn=>(aN w' a v rfl (by omega)).trans (h.block k hk hn)⟩
theorem dP {br:Nat} {w w':World} (h:w.grownBy w' (some br)) (o:Obj):w.grownBy (w'.alloc o) (some br):=bD h (aH (ah _ _))
theorem nR {w:World} {R:Rp} {rest:ak} (h:aY w R rest) (a:Addr) (v:Value) (h0:R.B0≤a.block) (h1:a.block≠R.br):aY (w.setCell a v) R rest:=by
 obtain ⟨pos,k1,k2,k3⟩:=h.blk
 exact ⟨⟨pos,k1,k2,(aN w a v rfl h1).trans k3⟩,h.tok.below (fu (cu w a v) h0 (Nat.le_trans R.b0 (Nat.le_of_lt h.lt))),h.ok,h.tl⟩
theorem oP {w:World} {R:Rp} {rest:ak} (h:aY w R rest) (o:Obj):aY (w.alloc o) R rest:=h.below (ah _ _)
structure Wk (R:Rp) (w W:World) (rest:ak):Prop where
 rd:aY W R rest
 gr:w.grownBy W (some R.br)
 lt:R.br < w.heap.size
theorem Wk.start {R:Rp} {w:World} {rest:ak} (h:aY w R rest):Wk R w w rest:=⟨h,Ca _,h.lt⟩
section
variable {R:Rp} {w W W':World} {rest rest':ak}
theorem Wk.set (h:Wk R w W rest) (a:Addr) (v:Value) (hb:w.heap.size≤a.block):Wk R w (W.setCell a v) rest:=
 ⟨nR h.rd a v (by have:=R.b0; have:=h.lt; omega) (by have:=h.lt; omega),jC h.gr a v hb,h.lt⟩
theorem Wk.alloc (h:Wk R w W rest) (o:Obj):Wk R w (W.alloc o) rest:=⟨oP h.rd o,dP h.gr o,h.lt⟩
theorem Wk.below (h:Wk R w W rest) (hb:Below W.heap.size W W'):Wk R w W' rest:=⟨h.rd.below hb,bD h.gr (aH hb),h.lt⟩
theorem Wk.then (h:Wk R w W rest) (h1:aY W' R rest') (h2:W.grownBy W' (some R.br)):Wk R w W' rest':=⟨h1,bD h.gr h2,h.lt⟩
theorem Wk.gH (h:Wk R w W rest) (b:Nat) (v0 v1 v2 v3:Value) (hb:w.heap.size≤b):Wk R w (gH W b v0 v1 v2 v3) rest:=
 (((h.set ⟨b,0,none⟩ v0 hb).set ⟨b,1,none⟩ v1 hb).set ⟨b,2,none⟩ v2 hb).set ⟨b,3,none⟩ v3 hb
theorem Wk.kept (h:Wk R w W rest) (h2:W.grownBy W' (some R.br)) {k:Nat} (hk:w.heap.size≤k) (hl:k < W.heap.size):W'.heap[k]? =W.heap[k]?:=h2.block k hl (by have:=h.lt; simp; omega)
end
theorem wC (w:World) (b:Nat) (v0 v1 v2 v3:Value):dO (b + 1) w (gH w b v0 v1 v2 v3):=by
 have x1:dO (b + 1) w _:=bH w ⟨b,0,none⟩ v0 (Nat.lt_succ_self _)
 have x2:=x1.trans (bH _ ⟨b,1,none⟩ v1 (Nat.lt_succ_self _))
 have x3:=x2.trans (bH _ ⟨b,2,none⟩ v2 (Nat.lt_succ_self _))
 exact x3.trans (bH _ ⟨b,3,none⟩ v3 (Nat.lt_succ_self _))
theorem xV (w:World) (b:Nat) (v0 v1 v2 v3:Value):(gH w b v0 v1 v2 v3).heap.size=w.heap.size:=by simp [gH,World.setCell]
theorem fU {br B:Nat} {w w':World} (h:w.grownBy w' (some br)) (hB:br < B):dO B w w':=⟨h.size,fun k h1 h2=>h.block k h2 (by simp; omega)⟩
end Go.Proofs.YtehnipchbmjlhaaGreatDoor
end
section
namespace Go.Proofs.YtehnipchbmjlhaaGreatDoor
open Go.RowKit
open Md Pz
theorem dH {w:World} {b:Nat} {t:TypeId} (h:w.heap[b]? =some (.cells #[.int .i64 0,.int .i64 0,.string ⟨#[]⟩,.slice none 0 0] t (0,0))):
 (w.cell? ⟨b,0,none⟩=some (.int .i64 0)∧w.cell? ⟨b,1,none⟩=some (.int .i64 0)∧w.cell? ⟨b,2,none⟩=some (.string ⟨#[]⟩)∧w.cell? ⟨b,3,none⟩=some (.slice none 0 0))∧w.frozen? ⟨b,0,none⟩=false∧w.frozen? ⟨b,1,none⟩=false∧w.frozen? ⟨b,2,none⟩=false∧w.frozen? ⟨b,3,none⟩=false:=
 ⟨⟨aj h rfl,aj h rfl,aj h rfl,aj h rfl⟩,aF h,aF h,aF h,aF h⟩
theorem nQ {R:Rp} {w W:World} {r:ak} (h:Wk R w W r):kY R w (.no r) (.returned (.tuple #[zE,.bool false])) W:=⟨rfl,h.rd,h.gr⟩
theorem sH {B g:Nat} {w w1:World} {Q:World→Prop} (h:bJ B w Q) (ha:dO B w w1) (hg:w.heap.size≤g):dS B (some g) w1 Q:=fun w' h'=>
 h w' ⟨Nat.le_trans ha.1 h'.1,fun k h1 h2=>(h'.2 k h1 (fun e=>by injection e with e; omega) (Nat.lt_of_lt_of_le h2 ha.1)).trans (ha.2 k h1 h2)⟩
theorem kE:aM 0:=by unfold aM; omega
theorem TA {W:World} {x:E} {ao:Option Addr} {cap:Nat} {t:TypeId} {o:Obj} {B g:Nat} (hB:B≤W.heap.size) (hg:W.heap.size + 1=g) (hE:jA x∧bJ B W (fun w2=>x.kids.At w2 w2.heap.size ao 0)):
 bJ B ((W.alloc o).alloc (.cells #[.int .i64 x.op,.int .i64 x.n,.string x.nm,.slice ao x.kids.len cap] t)) (fun w2=>(aZ.cons x.op x.n x.nm x.kids .nil).At w2 w2.heap.size (some ⟨g,0,none⟩) 0):=by
 have hs:(W.alloc o).heap.size=g:=by simp; omega
 rw [← hs]
 exact oO (heap_alloc_new _ _) (by omega) hE.1 (hE.2.next ((aL (ah _ _)).trans (aL (ah _ _))))
theorem OC {R:Rp} {w w2:World} {r:ak} {x:E} {ao:Option Addr} {cap:Nat} {op:Int} {t t':TypeId} (hop:aM op) (h:Wk R w w2 r) (hlt:w.heap.size < w2.heap.size) (hE:jA x∧bJ (w.heap.size + 1) w2 (fun w2=>x.kids.At w2 w2.heap.size ao 0)):
 kY R w ((bg.ok x r).map (mk1 op)) (.returned (.tuple #[exV op 0 ⟨#[]⟩ (.cons x.op x.n x.nm x.kids .nil) (some ⟨w2.heap.size + 1,0,none⟩) 1,.bool true]))
  (((gH w2 w.heap.size (.int .i64 op) (.int .i64 0) (.string ⟨#[]⟩) (.slice (some ⟨w2.heap.size + 1,0,none⟩) 1 1)).alloc (.cells #[.int .i64 x.op,.int .i64 x.n,.string x.nm,.slice ao x.kids.len cap] t')).alloc (.cells #[.int .i64 x.op,.int .i64 x.n,.string x.nm,.slice ao x.kids.len cap] t)):=by
 have hk:=h.gH w.heap.size (.int .i64 op) (.int .i64 0) (.string ⟨#[]⟩) (.slice (some ⟨w2.heap.size + 1,0,none⟩) 1 1) (Nat.le_refl _)
 have ha:=wC w2 w.heap.size (.int .i64 op) (.int .i64 0) (.string ⟨#[]⟩) (.slice (some ⟨w2.heap.size + 1,0,none⟩) 1 1)
 have hs:=xV w2 w.heap.size (.int .i64 op) (.int .i64 0) (.string ⟨#[]⟩) (.slice (some ⟨w2.heap.size + 1,0,none⟩) 1 1)
 generalize gH w2 w.heap.size _ _ _ _=W at *
 refine ⟨_,rfl,⟨_,1,rfl,⟨hop,kE,Nat.zero_le _,by simp [mk1,aZ.len,maxLen]⟩,?_⟩,((hk.alloc _).alloc _).rd,((hk.alloc _).alloc _).gr⟩
 exact (TA (by omega) (by omega) ⟨hE.1,hE.2.next ha⟩).mono (Nat.le_succ _)
theorem yZ {R:Rp} {w w2:World} {r:ak} {x:E} {ao:Option Addr} {cap:Nat} {a b c d:Value} (h:Wk R w w2 r) (hE:jA x∧bJ (w.heap.size + 1) w2 (fun w2=>x.kids.At w2 w2.heap.size ao 0)):
 kY R w (.ok x r) (.returned (.tuple #[exV x.op x.n x.nm x.kids ao cap,.bool true])) (gH w2 w.heap.size a b c d):=by
 have hk:=h.gH w.heap.size a b c d (Nat.le_refl _)
 exact ⟨_,rfl,⟨ao,cap,rfl,hE.1,(hE.2.next (wC w2 w.heap.size a b c d)).mono (Nat.le_succ _)⟩,hk.rd,hk.gr⟩
theorem X9 {f:Nat} {ts:ak} (h:at' [45] ts=true):pe (f + 1) .un ts=(pe f .un ts.tail).map (mk1 4):=by
 conv=>lhs; unfold pe
 rw [if_pos h]
theorem Y7 {f:Nat} {ts:ak} (h0:at' [45] ts=false) (h:at' [33] ts=true):pe (f + 1) .un ts=(pe f .un ts.tail).map (mk1 5):=by
 conv=>lhs; unfold pe
 rw [if_neg (by rw [h0]; decide),if_pos h]
theorem Yg {f:Nat} {ts:ak} (h0:at' [45] ts=false) (h:at' [33] ts=false):pe (f + 1) .un ts=pe f .pr ts:=by
 conv=>lhs; unfold pe
 rw [if_neg (by rw [h0]; decide),if_neg (by rw [h]; decide)]
theorem N7 (R:Rp) (f:Nat) (ts:ak) (hf:enough .un ts (f + 1)) (ih: ∀m ts,enough m ts f→um R f ts m):um R (f + 1) ts .un:=by
 intro w hI
 have HI:=Lib.hid hI
 have fD:=Lib.hid ih
 have HF:=Lib.hid hf
 clear hI ih hf
 cases h1:at' [45] ts
 ·cases h2:at' [33] ts
  ·have HX:Hid (∀w,aY w R ts→Calls Tryz.prog 139 #[.pointer (some ⟨R.br,0,none⟩)] w (kY R w (pe f .pr ts))):=Lib.hid (fD.out .pr ts (by
    have:=HF.out; simp only [enough,wt] at *; omega))
   rw [Yg h1 h2]
   clear fD HF
   generalize pe f .pr ts=res at *
   go_enter Tryz.func123,Tryz.ntmps123
   go_upto_region 1 with fail
   generalize hW:World.alloc w _=W
   have HK:Hid (Wk R w W ts):=Lib.hid (by rw [← hW]; exact (Wk.start HI.out).alloc _)
   have HZ:Hid (W.heap[w.heap.size]? =some (.cells #[.int .i64 0,.int .i64 0,.string ⟨#[]⟩,.slice none 0 0] 45 (0,0))):=Lib.hid (by rw [← hW]; exact heap_alloc_new _ _)
   clear hW
   go_wp2_with fail
   refine (dJ R _ _ ⟨#[45]⟩ rfl h1 HK.out.rd).mono ?_
   rintro e w0 ⟨rfl,h2⟩
   have dw:=Lib.hid (HK.out.below h2)
   have HZ0:=Lib.hid ((h2.block _ (Array.getElem?_eq_some_iff.1 HZ.out).1).trans HZ.out)
   clear h2 HK HZ
   have HK:=dw
   have HZ:=HZ0
   clear dw HZ0
   go_wp2_with fail
   refine (dJ R _ _ ⟨#[33]⟩ rfl h2 HK.out.rd).mono ?_
   rintro e w0 ⟨rfl,h2⟩
   have dw:=Lib.hid (HK.out.below h2)
   have HZ0:=Lib.hid ((h2.block _ (Array.getElem?_eq_some_iff.1 HZ.out).1).trans HZ.out)
   clear h2 HK HZ
   have HK:=dw
   have HZ:=HZ0
   clear dw HZ0
   go_wp2_with fail
   refine (HX.out _ HK.out.rd).mono ?_
   cases res with
   | no r=>
     rintro e w2 ⟨rfl,h2,h3⟩
     have eX:=Lib.hid (HK.out.then h2 h3)
     have HZ2:=Lib.hid ((HK.out.kept h3 (Nat.le_refl _) (Array.getElem?_eq_some_iff.1 HZ.out).1).trans HZ.out)
     clear h2 h3 HK HZ
     obtain ⟨⟨y0,y1,y2,y3⟩,f0,f1,f2,f3⟩:=dH HZ2.out
     have hlt2:w.heap.size < w2.heap.size:=(Array.getElem?_eq_some_iff.1 HZ2.out).1
     unfold zE
     go_wp2_with fail
     exact bodyPost_ret (v:= .tuple #[zE,.bool false]) (by simp [results,Tryz.results123,go_sem,y0,y1,y2,y3,hlt2,zE]) rfl (nQ (eX.out.gH _ _ _ _ _ (Nat.le_refl _)))
   | ok x r=>
     rintro e w2 ⟨v,rfl,hv,h2,h3⟩
     have eX:=Lib.hid (HK.out.then h2 h3)
     have HZ2:=Lib.hid ((HK.out.kept h3 (Nat.le_refl _) (Array.getElem?_eq_some_iff.1 HZ.out).1).trans HZ.out)
     have gN:=Lib.hid (hv.mono (Array.getElem?_eq_some_iff.1 HZ.out).1)
     clear h2 h3 HK HZ hv
     obtain ⟨ao,cap,rfl,hok,hst⟩:=gN.out
     have HE:=Lib.hid (And.intro hok hst)
     clear hok hst gN
     obtain ⟨⟨y0,y1,y2,y3⟩,f0,f1,f2,f3⟩:=dH HZ2.out
     have hlt2:w.heap.size < w2.heap.size:=(Array.getElem?_eq_some_iff.1 HZ2.out).1
     unfold exV
     go_wp2_with fail
     exact bodyPost_ret (v:= .tuple #[exV x.op x.n x.nm x.kids ao cap,.bool true]) (by simp [results,Tryz.results123,go_sem,exV,y0,y1,y2,y3,hlt2]) rfl (yZ eX.out HE.out)
  ·have HX:Hid (∀w,aY w R ts.tail→Calls Tryz.prog 123 #[.pointer (some ⟨R.br,0,none⟩)] w (kY R w (pe f .un ts.tail))):=Lib.hid (fD.out .un ts.tail (by
    have:=HF.out; have:=at_len h2; simp only [enough,wt] at *; omega))
   rw [Y7 h1 h2]
   clear fD HF
   generalize pe f .un ts.tail=res at *
   go_enter Tryz.func123,Tryz.ntmps123
   go_upto_region 1 with fail
   generalize hW:World.alloc w _=W
   have HK:Hid (Wk R w W ts):=Lib.hid (by rw [← hW]; exact (Wk.start HI.out).alloc _)
   have HZ:Hid (W.heap[w.heap.size]? =some (.cells #[.int .i64 0,.int .i64 0,.string ⟨#[]⟩,.slice none 0 0] 45 (0,0))):=Lib.hid (by rw [← hW]; exact heap_alloc_new _ _)
   clear hW
   go_wp2_with fail
   refine (dJ R _ _ ⟨#[45]⟩ rfl h1 HK.out.rd).mono ?_
   rintro e w0 ⟨rfl,h2⟩
   have dw:=Lib.hid (HK.out.below h2)
   have HZ0:=Lib.hid ((h2.block _ (Array.getElem?_eq_some_iff.1 HZ.out).1).trans HZ.out)
   clear h2 HK HZ
   have HK:=dw
   have HZ:=HZ0
   clear dw HZ0
   go_wp2_with fail
   refine (bQ R _ _ ⟨#[33]⟩ rfl h2 HK.out.rd).mono ?_
   rintro e w1 ⟨rfl,h2,h3⟩
   have iL:=Lib.hid (HK.out.then h2 h3)
   have HZ1:=Lib.hid ((HK.out.kept h3 (Nat.le_refl _) (Array.getElem?_eq_some_iff.1 HZ.out).1).trans HZ.out)
   clear h2 h3 HK HZ
   go_wp2_with fail
   refine (HX.out _ iL.out.rd).mono ?_
   cases res with
   | no r=>
     rintro e w2 ⟨rfl,h2,h3⟩
     have eX:=Lib.hid (iL.out.then h2 h3)
     have HZ2:=Lib.hid ((iL.out.kept h3 (Nat.le_refl _) (Array.getElem?_eq_some_iff.1 HZ1.out).1).trans HZ1.out)
     clear h2 h3 iL HZ1
     obtain ⟨⟨y0,y1,y2,y3⟩,f0,f1,f2,f3⟩:=dH HZ2.out
     have hlt2:w.heap.size < w2.heap.size:=(Array.getElem?_eq_some_iff.1 HZ2.out).1
     unfold zE
     go_wp2_with fail
     exact bodyPost_ret (v:= .tuple #[zE,.bool false]) (by simp [results,Tryz.results123,go_sem,y0,y1,y2,y3,hlt2,zE]) rfl (nQ (((eX.out.gH _ _ _ _ _ (Nat.le_refl _)).alloc _)))
   | ok x r=>
     rintro e w2 ⟨v,rfl,hv,h2,h3⟩
     have eX:=Lib.hid (iL.out.then h2 h3)
     have HZ2:=Lib.hid ((iL.out.kept h3 (Nat.le_refl _) (Array.getElem?_eq_some_iff.1 HZ1.out).1).trans HZ1.out)
     have gN:=Lib.hid (hv.mono (Array.getElem?_eq_some_iff.1 HZ1.out).1)
     clear h2 h3 iL HZ1 hv
     obtain ⟨ao,cap,rfl,hok,hst⟩:=gN.out
     have HE:=Lib.hid (And.intro hok hst)
     clear hok hst gN
     obtain ⟨⟨y0,y1,y2,y3⟩,f0,f1,f2,f3⟩:=dH HZ2.out
     have hlt2:w.heap.size < w2.heap.size:=(Array.getElem?_eq_some_iff.1 HZ2.out).1
     unfold exV
     go_wp2_with fail
     exact bodyPost_ret (v:= .tuple #[exV 5 0 ⟨#[]⟩ (.cons x.op x.n x.nm x.kids .nil) (some ⟨w2.heap.size + 1,0,none⟩) 1,.bool true]) (by simp [results,Tryz.results123,go_sem,exV,aZ.len,y0,y1,y2,y3,hlt2,Nat.lt_succ_of_lt hlt2]) rfl (OC (by unfold aM; omega) eX.out hlt2 HE.out)
 ·have HX:Hid (∀w,aY w R ts.tail→Calls Tryz.prog 123 #[.pointer (some ⟨R.br,0,none⟩)] w (kY R w (pe f .un ts.tail))):=Lib.hid (fD.out .un ts.tail (by
   have:=HF.out; have:=at_len h1; simp only [enough,wt] at *; omega))
  rw [X9 h1]
  clear fD HF
  generalize pe f .un ts.tail=res at *
  go_enter Tryz.func123,Tryz.ntmps123
  go_upto_region 1 with fail
  generalize hW:World.alloc w _=W
  have HK:Hid (Wk R w W ts):=Lib.hid (by rw [← hW]; exact (Wk.start HI.out).alloc _)
  have HZ:Hid (W.heap[w.heap.size]? =some (.cells #[.int .i64 0,.int .i64 0,.string ⟨#[]⟩,.slice none 0 0] 45 (0,0))):=Lib.hid (by rw [← hW]; exact heap_alloc_new _ _)
  clear hW
  go_wp2_with fail
  refine (bQ R _ _ ⟨#[45]⟩ rfl h1 HK.out.rd).mono ?_
  rintro e w1 ⟨rfl,h2,h3⟩
  have iL:=Lib.hid (HK.out.then h2 h3)
  have HZ1:=Lib.hid ((HK.out.kept h3 (Nat.le_refl _) (Array.getElem?_eq_some_iff.1 HZ.out).1).trans HZ.out)
  clear h2 h3 HK HZ
  go_wp2_with fail
  refine (HX.out _ iL.out.rd).mono ?_
  cases res with
  | no r=>
    rintro e w2 ⟨rfl,h2,h3⟩
    have eX:=Lib.hid (iL.out.then h2 h3)
    have HZ2:=Lib.hid ((iL.out.kept h3 (Nat.le_refl _) (Array.getElem?_eq_some_iff.1 HZ1.out).1).trans HZ1.out)
    clear h2 h3 iL HZ1
    obtain ⟨⟨y0,y1,y2,y3⟩,f0,f1,f2,f3⟩:=dH HZ2.out
    have hlt2:w.heap.size < w2.heap.size:=(Array.getElem?_eq_some_iff.1 HZ2.out).1
    unfold zE
    go_wp2_with fail
    exact bodyPost_ret (v:= .tuple #[zE,.bool false]) (by simp [results,Tryz.results123,go_sem,y0,y1,y2,y3,hlt2,zE]) rfl (nQ (((eX.out.gH _ _ _ _ _ (Nat.le_refl _)).alloc _)))
  | ok x r=>
    rintro e w2 ⟨v,rfl,hv,h2,h3⟩
    have eX:=Lib.hid (iL.out.then h2 h3)
    have HZ2:=Lib.hid ((iL.out.kept h3 (Nat.le_refl _) (Array.getElem?_eq_some_iff.1 HZ1.out).1).trans HZ1.out)
    have gN:=Lib.hid (hv.mono (Array.getElem?_eq_some_iff.1 HZ1.out).1)
    clear h2 h3 iL HZ1 hv
    obtain ⟨ao,cap,rfl,hok,hst⟩:=gN.out
    have HE:=Lib.hid (And.intro hok hst)
    clear hok hst gN
    obtain ⟨⟨y0,y1,y2,y3⟩,f0,f1,f2,f3⟩:=dH HZ2.out
    have hlt2:w.heap.size < w2.heap.size:=(Array.getElem?_eq_some_iff.1 HZ2.out).1
    unfold exV
    go_wp2_with fail
    exact bodyPost_ret (v:= .tuple #[exV 4 0 ⟨#[]⟩ (.cons x.op x.n x.nm x.kids .nil) (some ⟨w2.heap.size + 1,0,none⟩) 1,.bool true]) (by simp [results,Tryz.results123,go_sem,exV,aZ.len,y0,y1,y2,y3,hlt2,Nat.lt_succ_of_lt hlt2]) rfl (OC (by unfold aM; omega) eX.out hlt2 HE.out)
end Go.Proofs.YtehnipchbmjlhaaGreatDoor
end
section
namespace Go.Proofs.YtehnipchbmjlhaaGreatDoor
open Go.RowKit
open Md Pz
theorem Zy {f:Nat} {ts:ak} (h:isNum ts=true):pe (f + 1) .pr ts= .ok ⟨1,(Tk.val (ay ts):Nat),⟨#[]⟩,.nil⟩ ts.tail:=by
 conv=>lhs; unfold pe
 rw [if_pos h]
theorem aa7 {f:Nat} {ts:ak} (h0:isNum ts=false) (h:isName ts=true) (h1:at' [91] ts.tail=true):pe (f + 1) .pr ts=((pe f (.bin 1) ts.tail.tail).close [93]).map (Qf (tx (ay ts))):=by
 conv=>lhs; unfold pe
 rw [if_neg (by rw [h0]; decide),if_pos h,if_pos h1]
 rfl
theorem aa5 {f:Nat} {ts:ak} (h0:isNum ts=false) (h:isName ts=true) (h1:at' [91] ts.tail=false):pe (f + 1) .pr ts= .ok ⟨2,0,tx (ay ts),.nil⟩ ts.tail:=by
 conv=>lhs; unfold pe
 rw [if_neg (by rw [h0]; decide),if_pos h,if_neg (by rw [h1]; decide)]
theorem Z0 {f:Nat} {ts:ak} (h0:isNum ts=false) (h:isName ts=false) (h1:at' [40] ts=true):pe (f + 1) .pr ts=(pe f (.bin 1) ts.tail).close [41]:=by
 conv=>lhs; unfold pe
 rw [if_neg (by rw [h0]; decide),if_neg (by rw [h]; decide),if_pos h1]
theorem Vx {f:Nat} {ts:ak} (h0:isNum ts=false) (h:isName ts=false) (h1:at' [40] ts=false):pe (f + 1) .pr ts= .no ts:=by
 conv=>lhs; unfold pe
 rw [if_neg (by rw [h0]; decide),if_neg (by rw [h]; decide),if_neg (by rw [h1]; decide)]
theorem JE {R:Rp} {w w2:World} {r:ak} {op n:Int} {nm:ByteArray} {a b c d:Value} (h:Wk R w w2 r) (h1:aM op) (h2:aM n) (h3:nm.size≤maxLen):
 kY R w (.ok ⟨op,n,nm,.nil⟩ r) (.returned (.tuple #[exV op n nm .nil none 0,.bool true])) (gH w2 w.heap.size a b c d):=by
 have hk:=h.gH w.heap.size a b c d (Nat.le_refl _)
 exact ⟨_,rfl,⟨none,0,rfl,⟨h1,h2,h3,Nat.zero_le _⟩,fun _ _=>trivial⟩,hk.rd,hk.gr⟩
theorem YW {R:Rp} {w w2:World} {r:ak} {x:E} {ao:Option Addr} {cap:Nat} {nm:ByteArray} {t:TypeId} (hn:nm.size≤maxLen) (h:Wk R w w2 r) (hlt:w.heap.size < w2.heap.size) (hE:jA x∧bJ (w.heap.size + 1) w2 (fun w2=>x.kids.At w2 w2.heap.size ao 0)):
 kY R w (.ok (Qf nm x) r) (.returned (.tuple #[exV 3 0 nm (.cons x.op x.n x.nm x.kids .nil) (some ⟨w2.heap.size,0,none⟩) 1,.bool true]))
  ((gH w2 w.heap.size (.int .i64 3) (.int .i64 0) (.string nm) (.slice (some ⟨w2.heap.size,0,none⟩) 1 1)).alloc (.cells #[.int .i64 x.op,.int .i64 x.n,.string x.nm,.slice ao x.kids.len cap] t)):=by
 have hk:=h.gH w.heap.size (.int .i64 3) (.int .i64 0) (.string nm) (.slice (some ⟨w2.heap.size,0,none⟩) 1 1) (Nat.le_refl _)
 have ha:=wC w2 w.heap.size (.int .i64 3) (.int .i64 0) (.string nm) (.slice (some ⟨w2.heap.size,0,none⟩) 1 1)
 have hs:=xV w2 w.heap.size (.int .i64 3) (.int .i64 0) (.string nm) (.slice (some ⟨w2.heap.size,0,none⟩) 1 1)
 generalize gH w2 w.heap.size _ _ _ _=W at *
 refine ⟨_,rfl,⟨_,1,rfl,⟨(by unfold aM; decide:aM 3),kE,hn,by simp [Qf,aZ.len,maxLen]⟩,?_⟩,(hk.alloc _).rd,(hk.alloc _).gr⟩
 rw [← hs]
 exact (oO (heap_alloc_new _ _) (by omega) hE.1 ((hE.2.next ha).next (aL (ah _ _)))).mono (Nat.le_succ _)
theorem GL {x:E} {r:ak} {y:List UInt8} (h:at' y r=true):(bg.ok x r).close y= .ok x r.tail:=by show ite _ _ _=_; rw [if_pos h]
theorem GA {x:E} {r:ak} {y:List UInt8} (h:at' y r=false):(bg.ok x r).close y= .no r:=by show ite _ _ _=_; rw [if_neg (by rw [h]; decide)]
theorem mD {l:List UInt8} (h:Tk.gM l=true):(tx l).size≤maxLen:=by
 unfold Tk.gM at h
 simp only [Bool.and_eq_true,decide_eq_true_eq] at h
 have:(tx l).size=l.length:=by simp [tx,ByteArray.size]
 unfold maxLen; omega
theorem FB (R:Rp) (f:Nat) (ts:ak) (h:um R f ts (.bin 1)) (w:World) (hI:aY w R ts):Calls Tryz.prog 52 #[.pointer (some ⟨R.br,0,none⟩)] w (kY R w (pe f (.bin 1) ts)):=by
 have HI:=Lib.hid hI
 have HX:Hid (∀w,aY w R ts→Calls Tryz.prog 91 #[.pointer (some ⟨R.br,0,none⟩),.int .i64 1] w (kY R w (pe f (.bin 1) ts))):=Lib.hid (h (by decide))
 clear hI h
 generalize pe f (.bin 1) ts=res at *
 go_enter Tryz.func52,Tryz.ntmps52
 go_upto_region 1 with fail
 generalize hW:World.alloc w _=W
 have HK:Hid (Wk R w W ts):=Lib.hid (by rw [← hW]; exact (Wk.start HI.out).alloc _)
 have HZ:Hid (W.heap[w.heap.size]? =some (.cells #[.int .i64 0,.int .i64 0,.string ⟨#[]⟩,.slice none 0 0] 45 (0,0))):=Lib.hid (by rw [← hW]; exact heap_alloc_new _ _)
 clear hW
 go_wp2_with fail
 refine (HX.out _ HK.out.rd).mono ?_
 cases res with
 | no r=>
   rintro e w2 ⟨rfl,h2,h3⟩
   have eX:=Lib.hid (HK.out.then h2 h3)
   have HZ2:=Lib.hid ((HK.out.kept h3 (Nat.le_refl _) (Array.getElem?_eq_some_iff.1 HZ.out).1).trans HZ.out)
   clear h2 h3 HK HZ
   obtain ⟨⟨y0,y1,y2,y3⟩,f0,f1,f2,f3⟩:=dH HZ2.out
   unfold zE
   go_wp2_with fail
   exact bodyPost_ret (v:= .tuple #[zE,.bool false]) (by simp [results,Tryz.results52,go_sem,y0,y1,y2,y3,zE]) rfl (nQ (eX.out.gH _ _ _ _ _ (Nat.le_refl _)))
 | ok x r=>
   rintro e w2 ⟨v,rfl,hv,h2,h3⟩
   have eX:=Lib.hid (HK.out.then h2 h3)
   have HZ2:=Lib.hid ((HK.out.kept h3 (Nat.le_refl _) (Array.getElem?_eq_some_iff.1 HZ.out).1).trans HZ.out)
   have gN:=Lib.hid (hv.mono (Array.getElem?_eq_some_iff.1 HZ.out).1)
   clear h2 h3 HK HZ hv
   obtain ⟨ao,cap,rfl,hok,hst⟩:=gN.out
   have HE:=Lib.hid (And.intro hok hst)
   clear hok hst gN
   obtain ⟨⟨y0,y1,y2,y3⟩,f0,f1,f2,f3⟩:=dH HZ2.out
   unfold exV
   go_wp2_with fail
   exact bodyPost_ret (v:= .tuple #[exV x.op x.n x.nm x.kids ao cap,.bool true]) (by simp [results,Tryz.results52,go_sem,exV,y0,y1,y2,y3]) rfl (yZ eX.out HE.out)
theorem Jh (R:Rp) (f:Nat) (ts:ak) (hf:enough .pr ts (f + 1)) (ih: ∀m ts,enough m ts f→um R f ts m):um R (f + 1) ts .pr:=by
 intro w hI
 have HI:=Lib.hid hI
 have fD:=Lib.hid ih
 have HF:=Lib.hid hf
 clear hI ih hf
 cases h0:isNum ts
 ·cases h1:isName ts
  ·cases h2:at' [40] ts
   ·rw [Vx h0 h1 h2]
    clear fD HF
    go_enter Tryz.func139,Tryz.ntmps139
    go_upto_region 1 with fail
    generalize hW:World.alloc w _=W
    have HK:Hid (Wk R w W ts):=Lib.hid (by rw [← hW]; exact (Wk.start HI.out).alloc _)
    have HZ:Hid (W.heap[w.heap.size]? =some (.cells #[.int .i64 0,.int .i64 0,.string ⟨#[]⟩,.slice none 0 0] 45 (0,0))):=Lib.hid (by rw [← hW]; exact heap_alloc_new _ _)
    clear hW
    go_wp2_with fail
    refine (wB R _ _ h0 HK.out.rd).mono ?_
    rintro e w0 ⟨rfl,h2⟩
    have dw:=Lib.hid (HK.out.below h2)
    have HZ0:=Lib.hid ((h2.block _ (Array.getElem?_eq_some_iff.1 HZ.out).1).trans HZ.out)
    clear h2 HK HZ
    have HK:=dw
    have HZ:=HZ0
    clear dw HZ0
    go_wp2_with fail
    refine (kZ R _ _ h1 HK.out.rd).mono ?_
    rintro e w0 ⟨rfl,h2⟩
    have dw:=Lib.hid (HK.out.below h2)
    have HZ0:=Lib.hid ((h2.block _ (Array.getElem?_eq_some_iff.1 HZ.out).1).trans HZ.out)
    clear h2 HK HZ
    have HK:=dw
    have HZ:=HZ0
    clear dw HZ0
    go_wp2_with fail
    refine (dJ R _ _ ⟨#[40]⟩ rfl h2 HK.out.rd).mono ?_
    rintro e w0 ⟨rfl,h2⟩
    have dw:=Lib.hid (HK.out.below h2)
    have HZ0:=Lib.hid ((h2.block _ (Array.getElem?_eq_some_iff.1 HZ.out).1).trans HZ.out)
    clear h2 HK HZ
    have HK:=dw
    have HZ:=HZ0
    clear dw HZ0
    obtain ⟨⟨y0,y1,y2,y3⟩,f0,f1,f2,f3⟩:=dH HZ.out
    go_wp2_with fail
    exact bodyPost_ret (v:= .tuple #[zE,.bool false]) (by simp [results,Tryz.results139,go_sem,y0,y1,y2,y3,zE]) rfl (nQ (HK.out.gH _ _ _ _ _ (Nat.le_refl _)))
   ·have HX:Hid (∀w,aY w R ts.tail→Calls Tryz.prog 52 #[.pointer (some ⟨R.br,0,none⟩)] w (kY R w (pe f (.bin 1) ts.tail))):=Lib.hid (FB R f ts.tail (fD.out (.bin 1) ts.tail (by
     have:=HF.out; have:=at_len h2; simp only [enough,wt] at *; omega)))
    rw [Z0 h0 h1 h2]
    clear fD HF
    generalize pe f (.bin 1) ts.tail=res at *
    go_enter Tryz.func139,Tryz.ntmps139
    go_upto_region 1 with fail
    generalize hW:World.alloc w _=W
    have HK:Hid (Wk R w W ts):=Lib.hid (by rw [← hW]; exact (Wk.start HI.out).alloc _)
    have HZ:Hid (W.heap[w.heap.size]? =some (.cells #[.int .i64 0,.int .i64 0,.string ⟨#[]⟩,.slice none 0 0] 45 (0,0))):=Lib.hid (by rw [← hW]; exact heap_alloc_new _ _)
    clear hW
    go_wp2_with fail
    refine (wB R _ _ h0 HK.out.rd).mono ?_
    rintro e w0 ⟨rfl,h2⟩
    have dw:=Lib.hid (HK.out.below h2)
    have HZ0:=Lib.hid ((h2.block _ (Array.getElem?_eq_some_iff.1 HZ.out).1).trans HZ.out)
    clear h2 HK HZ
    have HK:=dw
    have HZ:=HZ0
    clear dw HZ0
    go_wp2_with fail
    refine (kZ R _ _ h1 HK.out.rd).mono ?_
    rintro e w0 ⟨rfl,h2⟩
    have dw:=Lib.hid (HK.out.below h2)
    have HZ0:=Lib.hid ((h2.block _ (Array.getElem?_eq_some_iff.1 HZ.out).1).trans HZ.out)
    clear h2 HK HZ
    have HK:=dw
    have HZ:=HZ0
    clear dw HZ0
    go_wp2_with fail
    refine (bQ R _ _ ⟨#[40]⟩ rfl h2 HK.out.rd).mono ?_
    rintro e w1 ⟨rfl,h2,h3⟩
    have iL:=Lib.hid (HK.out.then h2 h3)
    have HZ1:=Lib.hid ((HK.out.kept h3 (Nat.le_refl _) (Array.getElem?_eq_some_iff.1 HZ.out).1).trans HZ.out)
    clear h2 h3 HK HZ
    go_wp2_with fail
    refine (HX.out _ iL.out.rd).mono ?_
    cases res with
    | no r=>
      rintro e w2 ⟨rfl,h2,h3⟩
      have eX:=Lib.hid (iL.out.then h2 h3)
      have HZ2:=Lib.hid ((iL.out.kept h3 (Nat.le_refl _) (Array.getElem?_eq_some_iff.1 HZ1.out).1).trans HZ1.out)
      clear h2 h3 iL HZ1
      obtain ⟨⟨y0,y1,y2,y3⟩,f0,f1,f2,f3⟩:=dH HZ2.out
      have hlt2:w.heap.size < w2.heap.size:=(Array.getElem?_eq_some_iff.1 HZ2.out).1
      unfold zE
      go_wp2_with fail
      exact bodyPost_ret (v:= .tuple #[zE,.bool false]) (by simp [results,Tryz.results139,go_sem,y0,y1,y2,y3,hlt2,zE]) rfl (nQ ((eX.out.gH _ _ _ _ _ (Nat.le_refl _)).alloc _))
    | ok x r=>
      rintro e w2 ⟨v,rfl,hv,h2,h3⟩
      have eX:=Lib.hid (iL.out.then h2 h3)
      have HZ2:=Lib.hid ((iL.out.kept h3 (Nat.le_refl _) (Array.getElem?_eq_some_iff.1 HZ1.out).1).trans HZ1.out)
      have gN:=Lib.hid (hv.mono (Array.getElem?_eq_some_iff.1 HZ1.out).1)
      clear h2 h3 iL HZ1 hv
      obtain ⟨ao,cap,rfl,hok,hst⟩:=gN.out
      have HE:=Lib.hid (And.intro hok hst)
      clear hok hst gN
      unfold exV
      go_upto_region 15 with fail
      obtain ⟨g,hg⟩: ∃g,w2.heap.size=g:=⟨_,rfl⟩
      generalize hW:World.alloc w2 _=W2
      have iy:Hid (Wk R w W2 r):=Lib.hid (by rw [← hW]; exact eX.out.alloc _)
      have HB3:Hid (W2.heap[g]? =some (.cells #[.int .i64 x.op,.int .i64 x.n,.string x.nm,.slice ao x.kids.len cap] 45 (0,0))):=Lib.hid (by rw [← hW,← hg]; exact heap_alloc_new _ _)
      have HZ3:Hid (W2.heap[w.heap.size]? =some (.cells #[.int .i64 0,.int .i64 0,.string ⟨#[]⟩,.slice none 0 0] 45 (0,0))):=Lib.hid (by rw [← hW]; exact (heap_alloc_old _ _ (Array.getElem?_eq_some_iff.1 HZ2.out).1).trans HZ2.out)
      have iI:Hid (jA x∧bJ (w.heap.size + 1) W2 (fun w2=>x.kids.At w2 w2.heap.size ao 0)):=Lib.hid ⟨HE.out.1,by rw [← hW]; exact HE.out.2.next (aL (ah _ _))⟩
      have HG:Hid (w.heap.size < g):=Lib.hid (by rw [← hg]; exact (Array.getElem?_eq_some_iff.1 HZ2.out).1)
      have qL:Hid (dS (w.heap.size + 1) (some g) W2 (fun w2=>x.kids.At w2 w2.heap.size ao 0)):=Lib.hid (by rw [← hW]; exact sH HE.out.2 (aL (ah _ _)) (Nat.le_of_eq hg))
      rw [hg]
      clear hW hg eX HZ2 HE
      cases h4:at' [41] r
      ·go_wp2_with fail
       refine (dJ R _ _ ⟨#[41]⟩ rfl h4 iy.out.rd).mono ?_
       rintro e w3 ⟨rfl,h2⟩
       have eX:=Lib.hid (iy.out.below h2)
       have HZ2:=Lib.hid ((h2.block _ (Array.getElem?_eq_some_iff.1 HZ3.out).1).trans HZ3.out)
       clear h2 iy HZ3 HB3 iI
       obtain ⟨⟨y0,y1,y2,y3⟩,f0,f1,f2,f3⟩:=dH HZ2.out
       have hlt2:w.heap.size < w3.heap.size:=(Array.getElem?_eq_some_iff.1 HZ2.out).1
       go_wp2_with fail
       exact bodyPost_ret (v:= .tuple #[zE,.bool false]) (by simp [results,Tryz.results139,go_sem,y0,y1,y2,y3,hlt2,zE]) rfl (by rw [GA h4]; exact nQ (eX.out.gH _ _ _ _ _ (Nat.le_refl _)))
      ·go_wp2_with fail
       refine (bQ R _ _ ⟨#[41]⟩ rfl h4 iy.out.rd).mono ?_
       rintro e w3 ⟨rfl,h2,h3⟩
       have eX:=Lib.hid (iy.out.then h2 h3)
       have HZ2:=Lib.hid ((iy.out.kept h3 (Nat.le_refl _) (Array.getElem?_eq_some_iff.1 HZ3.out).1).trans HZ3.out)
       have HB2:=Lib.hid ((iy.out.kept h3 (Nat.le_of_lt HG.out) (Array.getElem?_eq_some_iff.1 HB3.out).1).trans HB3.out)
       have HE:Hid (jA x∧bJ (w.heap.size + 1) w3 (fun w2=>x.kids.At w2 w2.heap.size ao 0)):=Lib.hid ⟨iI.out.1,iI.out.2.next (fU h3 (Nat.lt_succ_of_lt iy.out.lt))⟩
       clear h2 h3 iy HZ3 HB3 iI
       obtain ⟨⟨y0,y1,y2,y3⟩,f0,f1,f2,f3⟩:=dH HZ2.out
       have z0:w3.cell? ⟨g,0,none⟩=some (.int .i64 x.op):=aj HB2.out rfl
       have z1:w3.cell? ⟨g,1,none⟩=some (.int .i64 x.n):=aj HB2.out rfl
       have z2:w3.cell? ⟨g,2,none⟩=some (.string x.nm):=aj HB2.out rfl
       have z3:w3.cell? ⟨g,3,none⟩=some (.slice ao x.kids.len cap):=aj HB2.out rfl
       have hlt2:w.heap.size < w3.heap.size:=(Array.getElem?_eq_some_iff.1 HZ2.out).1
       have hlt3:g < w3.heap.size:=(Array.getElem?_eq_some_iff.1 HB2.out).1
       go_wp2_with fail
       exact bodyPost_ret (v:= .tuple #[exV x.op x.n x.nm x.kids ao cap,.bool true]) (by simp [results,Tryz.results139,go_sem,exV,y0,y1,y2,y3]) rfl (by rw [GL h4]; exact yZ eX.out HE.out)
  ·have eH:Hid ((tx (ay ts)).size≤maxLen):=Lib.hid (mD (mq HI.out.ts h1))
   cases h2:at' [91] ts.tail
   ·rw [aa5 h0 h1 h2]
    clear fD HF
    go_enter Tryz.func139,Tryz.ntmps139
    go_upto_region 1 with fail
    generalize hW:World.alloc w _=W
    have HK:Hid (Wk R w W ts):=Lib.hid (by rw [← hW]; exact (Wk.start HI.out).alloc _)
    have HZ:Hid (W.heap[w.heap.size]? =some (.cells #[.int .i64 0,.int .i64 0,.string ⟨#[]⟩,.slice none 0 0] 45 (0,0))):=Lib.hid (by rw [← hW]; exact heap_alloc_new _ _)
    clear hW
    go_wp2_with fail
    refine (wB R _ _ h0 HK.out.rd).mono ?_
    rintro e w0 ⟨rfl,h2⟩
    have dw:=Lib.hid (HK.out.below h2)
    have HZ0:=Lib.hid ((h2.block _ (Array.getElem?_eq_some_iff.1 HZ.out).1).trans HZ.out)
    clear h2 HK HZ
    have HK:=dw
    have HZ:=HZ0
    clear dw HZ0
    go_wp2_with fail
    refine (jG R _ _ h1 HK.out.rd).mono ?_
    rintro e w0 ⟨rfl,h2,h3⟩
    have dw:=Lib.hid (HK.out.then h2 h3)
    have HZ0:=Lib.hid ((HK.out.kept h3 (Nat.le_refl _) (Array.getElem?_eq_some_iff.1 HZ.out).1).trans HZ.out)
    clear h2 h3 HK HZ
    have HK:=dw
    have HZ:=HZ0
    clear dw HZ0
    go_wp2_with fail
    refine (dJ R _ _ ⟨#[91]⟩ rfl h2 HK.out.rd).mono ?_
    rintro e w0 ⟨rfl,h2⟩
    have dw:=Lib.hid (HK.out.below h2)
    have HZ0:=Lib.hid ((h2.block _ (Array.getElem?_eq_some_iff.1 HZ.out).1).trans HZ.out)
    clear h2 HK HZ
    have HK:=dw
    have HZ:=HZ0
    clear dw HZ0
    obtain ⟨⟨y0,y1,y2,y3⟩,f0,f1,f2,f3⟩:=dH HZ.out
    go_wp2_with fail
    exact bodyPost_ret (v:= .tuple #[exV 2 0 (tx (ay ts)) .nil none 0,.bool true]) (by simp [results,Tryz.results139,go_sem,y0,y1,y2,y3,exV,aZ.len]) rfl (JE HK.out (by unfold aM; decide) kE eH.out)
   ·have HX:Hid (∀w,aY w R ts.tail.tail→Calls Tryz.prog 52 #[.pointer (some ⟨R.br,0,none⟩)] w (kY R w (pe f (.bin 1) ts.tail.tail))):=Lib.hid (FB R f ts.tail.tail (fD.out (.bin 1) ts.tail.tail (by
     have:=HF.out; have:=sU h1; have:=at_len h2; simp only [enough,wt] at *; omega)))
    rw [aa7 h0 h1 h2]
    clear fD HF
    generalize pe f (.bin 1) ts.tail.tail=res at *
    obtain ⟨nm,iQ⟩: ∃nm,Hid (tx (ay ts)=nm):=⟨_,Lib.hid rfl⟩
    rw [iQ.out] at eH ⊢
    go_enter Tryz.func139,Tryz.ntmps139
    go_upto_region 1 with fail
    generalize hW:World.alloc w _=W
    have HK:Hid (Wk R w W ts):=Lib.hid (by rw [← hW]; exact (Wk.start HI.out).alloc _)
    have HZ:Hid (W.heap[w.heap.size]? =some (.cells #[.int .i64 0,.int .i64 0,.string ⟨#[]⟩,.slice none 0 0] 45 (0,0))):=Lib.hid (by rw [← hW]; exact heap_alloc_new _ _)
    clear hW
    go_wp2_with fail
    refine (wB R _ _ h0 HK.out.rd).mono ?_
    rintro e w0 ⟨rfl,h2⟩
    have dw:=Lib.hid (HK.out.below h2)
    have HZ0:=Lib.hid ((h2.block _ (Array.getElem?_eq_some_iff.1 HZ.out).1).trans HZ.out)
    clear h2 HK HZ
    have HK:=dw
    have HZ:=HZ0
    clear dw HZ0
    go_wp2_with fail
    refine (jG R _ _ h1 HK.out.rd).mono ?_
    rw [iQ.out]
    rintro e w0 ⟨rfl,h2,h3⟩
    have dw:=Lib.hid (HK.out.then h2 h3)
    have HZ0:=Lib.hid ((HK.out.kept h3 (Nat.le_refl _) (Array.getElem?_eq_some_iff.1 HZ.out).1).trans HZ.out)
    clear h2 h3 HK HZ
    have HK:=dw
    have HZ:=HZ0
    clear dw HZ0
    go_wp2_with fail
    refine (bQ R _ _ ⟨#[91]⟩ rfl h2 HK.out.rd).mono ?_
    rintro e w1 ⟨rfl,h2,h3⟩
    have iL:=Lib.hid (HK.out.then h2 h3)
    have HZ1:=Lib.hid ((HK.out.kept h3 (Nat.le_refl _) (Array.getElem?_eq_some_iff.1 HZ.out).1).trans HZ.out)
    clear h2 h3 HK HZ
    go_wp2_with fail
    refine (HX.out _ iL.out.rd).mono ?_
    cases res with
    | no r=>
      rintro e w2 ⟨rfl,h2,h3⟩
      have eX:=Lib.hid (iL.out.then h2 h3)
      have HZ2:=Lib.hid ((iL.out.kept h3 (Nat.le_refl _) (Array.getElem?_eq_some_iff.1 HZ1.out).1).trans HZ1.out)
      clear h2 h3 iL HZ1
      obtain ⟨⟨y0,y1,y2,y3⟩,f0,f1,f2,f3⟩:=dH HZ2.out
      have hlt2:w.heap.size < w2.heap.size:=(Array.getElem?_eq_some_iff.1 HZ2.out).1
      unfold zE
      go_wp2_with fail
      exact bodyPost_ret (v:= .tuple #[zE,.bool false]) (by simp [results,Tryz.results139,go_sem,y0,y1,y2,y3,hlt2,zE]) rfl (nQ ((eX.out.gH _ _ _ _ _ (Nat.le_refl _)).alloc _))
    | ok x r=>
      rintro e w2 ⟨v,rfl,hv,h2,h3⟩
      have eX:=Lib.hid (iL.out.then h2 h3)
      have HZ2:=Lib.hid ((iL.out.kept h3 (Nat.le_refl _) (Array.getElem?_eq_some_iff.1 HZ1.out).1).trans HZ1.out)
      have gN:=Lib.hid (hv.mono (Array.getElem?_eq_some_iff.1 HZ1.out).1)
      clear h2 h3 iL HZ1 hv
      obtain ⟨ao,cap,rfl,hok,hst⟩:=gN.out
      have HE:=Lib.hid (And.intro hok hst)
      clear hok hst gN
      unfold exV
      go_upto_region 9 with fail
      obtain ⟨g,hg⟩: ∃g,w2.heap.size=g:=⟨_,rfl⟩
      generalize hW:World.alloc w2 _=W2
      have iy:Hid (Wk R w W2 r):=Lib.hid (by rw [← hW]; exact eX.out.alloc _)
      have HB3:Hid (W2.heap[g]? =some (.cells #[.int .i64 x.op,.int .i64 x.n,.string x.nm,.slice ao x.kids.len cap] 45 (0,0))):=Lib.hid (by rw [← hW,← hg]; exact heap_alloc_new _ _)
      have HZ3:Hid (W2.heap[w.heap.size]? =some (.cells #[.int .i64 0,.int .i64 0,.string ⟨#[]⟩,.slice none 0 0] 45 (0,0))):=Lib.hid (by rw [← hW]; exact (heap_alloc_old _ _ (Array.getElem?_eq_some_iff.1 HZ2.out).1).trans HZ2.out)
      have iI:Hid (jA x∧bJ (w.heap.size + 1) W2 (fun w2=>x.kids.At w2 w2.heap.size ao 0)):=Lib.hid ⟨HE.out.1,by rw [← hW]; exact HE.out.2.next (aL (ah _ _))⟩
      have HG:Hid (w.heap.size < g):=Lib.hid (by rw [← hg]; exact (Array.getElem?_eq_some_iff.1 HZ2.out).1)
      have qL:Hid (dS (w.heap.size + 1) (some g) W2 (fun w2=>x.kids.At w2 w2.heap.size ao 0)):=Lib.hid (by rw [← hW]; exact sH HE.out.2 (aL (ah _ _)) (Nat.le_of_eq hg))
      rw [hg]
      clear hW hg eX HZ2 HE
      cases h4:at' [93] r
      ·go_wp2_with fail
       refine (dJ R _ _ ⟨#[93]⟩ rfl h4 iy.out.rd).mono ?_
       rintro e w3 ⟨rfl,h2⟩
       have eX:=Lib.hid (iy.out.below h2)
       have HZ2:=Lib.hid ((h2.block _ (Array.getElem?_eq_some_iff.1 HZ3.out).1).trans HZ3.out)
       clear h2 iy HZ3 HB3 iI
       obtain ⟨⟨y0,y1,y2,y3⟩,f0,f1,f2,f3⟩:=dH HZ2.out
       have hlt2:w.heap.size < w3.heap.size:=(Array.getElem?_eq_some_iff.1 HZ2.out).1
       go_wp2_with fail
       exact bodyPost_ret (v:= .tuple #[zE,.bool false]) (by simp [results,Tryz.results139,go_sem,y0,y1,y2,y3,hlt2,zE]) rfl (by rw [GA h4]; exact nQ (eX.out.gH _ _ _ _ _ (Nat.le_refl _)))
      ·go_wp2_with fail
       refine (bQ R _ _ ⟨#[93]⟩ rfl h4 iy.out.rd).mono ?_
       rintro e w3 ⟨rfl,h2,h3⟩
       have eX:=Lib.hid (iy.out.then h2 h3)
       have HZ2:=Lib.hid ((iy.out.kept h3 (Nat.le_refl _) (Array.getElem?_eq_some_iff.1 HZ3.out).1).trans HZ3.out)
       have HB2:=Lib.hid ((iy.out.kept h3 (Nat.le_of_lt HG.out) (Array.getElem?_eq_some_iff.1 HB3.out).1).trans HB3.out)
       have HE:Hid (jA x∧bJ (w.heap.size + 1) w3 (fun w2=>x.kids.At w2 w2.heap.size ao 0)):=Lib.hid ⟨iI.out.1,iI.out.2.next (fU h3 (Nat.lt_succ_of_lt iy.out.lt))⟩
       clear h2 h3 iy HZ3 HB3 iI
       obtain ⟨⟨y0,y1,y2,y3⟩,f0,f1,f2,f3⟩:=dH HZ2.out
       have z0:w3.cell? ⟨g,0,none⟩=some (.int .i64 x.op):=aj HB2.out rfl
       have z1:w3.cell? ⟨g,1,none⟩=some (.int .i64 x.n):=aj HB2.out rfl
       have z2:w3.cell? ⟨g,2,none⟩=some (.string x.nm):=aj HB2.out rfl
       have z3:w3.cell? ⟨g,3,none⟩=some (.slice ao x.kids.len cap):=aj HB2.out rfl
       have hlt2:w.heap.size < w3.heap.size:=(Array.getElem?_eq_some_iff.1 HZ2.out).1
       have hlt3:g < w3.heap.size:=(Array.getElem?_eq_some_iff.1 HB2.out).1
       go_wp2_with fail
       exact bodyPost_ret (v:= .tuple #[exV 3 0 nm (.cons x.op x.n x.nm x.kids .nil) (some ⟨w3.heap.size,0,none⟩) 1,.bool true]) (by simp [results,Tryz.results139,go_sem,exV,aZ.len,y0,y1,y2,y3,hlt2]) rfl (by rw [GL h4]; exact YW eH.out eX.out hlt2 HE.out)
 ·have HV:Hid (aM ((Tk.val (ay ts):Nat):Int)):=Lib.hid (by have:=vF HI.out.ts h0; unfold aM; omega)
  rw [Zy h0]
  clear fD HF
  go_enter Tryz.func139,Tryz.ntmps139
  go_upto_region 1 with fail
  generalize hW:World.alloc w _=W
  have HK:Hid (Wk R w W ts):=Lib.hid (by rw [← hW]; exact (Wk.start HI.out).alloc _)
  have HZ:Hid (W.heap[w.heap.size]? =some (.cells #[.int .i64 0,.int .i64 0,.string ⟨#[]⟩,.slice none 0 0] 45 (0,0))):=Lib.hid (by rw [← hW]; exact heap_alloc_new _ _)
  clear hW
  go_wp2_with fail
  refine (yN R _ _ h0 HK.out.rd).mono ?_
  rintro e w0 ⟨rfl,h2,h3⟩
  have dw:=Lib.hid (HK.out.then h2 h3)
  have HZ0:=Lib.hid ((HK.out.kept h3 (Nat.le_refl _) (Array.getElem?_eq_some_iff.1 HZ.out).1).trans HZ.out)
  clear h2 h3 HK HZ
  have HK:=dw
  have HZ:=HZ0
  clear dw HZ0
  obtain ⟨⟨y0,y1,y2,y3⟩,f0,f1,f2,f3⟩:=dH HZ.out
  go_wp2_with fail
  exact bodyPost_ret (v:= .tuple #[exV 1 ((Tk.val (ay ts):Nat):Int) ⟨#[]⟩ .nil none 0,.bool true]) (by simp [results,Tryz.results139,go_sem,y0,y1,y2,y3,exV,aZ.len]) rfl (JE HK.out (by unfold aM; decide) HV.out (Nat.zero_le _))
end Go.Proofs.YtehnipchbmjlhaaGreatDoor
end
section
namespace Go.Proofs.YtehnipchbmjlhaaGreatDoor
open Go.RowKit
open Md Pz
theorem FR {B:Nat} {w:World} {g L:Nat} {op n op' n':Int} {nm nm':ByteArray} {kids gJ:aZ} {ao jf:Option Addr} {cap cap':Nat} {t:TypeId} {fr:Nat × Nat} (hb:w.heap[g]? =some (.cells (pE op n nm kids ao cap++pE op' n' nm' gJ jf cap').toArray t fr)) (ht:B≤g) (hL:g≠L) (hok:qO op n nm kids) (hk:dS B (some L) w (fun w2=>kids.At w2 w2.heap.size ao 0)) (hok':qO op' n' nm' gJ) (hk':dS B (some L) w (fun w2=>gJ.At w2 w2.heap.size jf 0)):
 dS B (some L) w (fun w2=>(aZ.cons op n nm kids (.cons op' n' nm' gJ .nil)).At w2 w2.heap.size (some ⟨g,0,none⟩) 0):=fun w2 h=>by
 have h2:=(h.2 g ht (by simp; exact hL) (Array.getElem?_eq_some_iff.1 hb).1).trans hb
 have hl:=(Array.getElem?_eq_some_iff.1 h2).1
 have hc: ∀j u,(pE op n nm kids ao cap++pE op' n' nm' gJ jf cap').toArray[j]? =some u→w2.cell? ⟨g,j,none⟩=some u:=fun j u hu=>aj h2 hu
 exact ⟨⟨g,0,ao,cap,rfl,hl,hc 0 _ rfl,hc 1 _ rfl,hc 2 _ rfl,hc 3 _ rfl,hok,hk w2 h⟩,⟨g,0,jf,cap',rfl,hl,hc 4 _ rfl,hc 5 _ rfl,hc 6 _ rfl,hc 7 _ rfl,hok',hk' w2 h⟩,trivial⟩
def zC:Array Value:= #[.int .i64 0,.int .i64 0,.string ⟨#[]⟩,.slice none 0 0]
def QU (R:Rp) (w:World) (f lv L:Nat) (res:bg E) (g:Nat) (wr:World):Prop:=
 ∃f' l rest ao cap,g=rest.length∧f'≤f∧enough (.lp lv l) rest f'∧res=pe f' (.lp lv l) rest∧Wk R w wr rest∧wr.heap[w.heap.size]? =some (.cells zC 45 (0,0))∧
  wr.heap[L]? =some (.cells (pE l.op l.n l.nm l.kids ao cap).toArray 45 (0,0))∧jA l∧dS (w.heap.size + 1) (some L) wr (fun w2=>l.kids.At w2 w2.heap.size ao 0)
theorem tC {w:World} {g:Nat} {x:E} {ao:Option Addr} {cap:Nat} {t:TypeId} (h:w.heap[g]? =some (.cells (pE x.op x.n x.nm x.kids ao cap).toArray t (0,0))):
 (w.cell? ⟨g,0,none⟩=some (.int .i64 x.op)∧w.cell? ⟨g,1,none⟩=some (.int .i64 x.n)∧w.cell? ⟨g,2,none⟩=some (.string x.nm)∧w.cell? ⟨g,3,none⟩=some (.slice ao x.kids.len cap))∧w.frozen? ⟨g,0,none⟩=false∧w.frozen? ⟨g,1,none⟩=false∧w.frozen? ⟨g,2,none⟩=false∧w.frozen? ⟨g,3,none⟩=false:=
 ⟨⟨aj h rfl,aj h rfl,aj h rfl,aj h rfl⟩,aF h,aF h,aF h,aF h⟩
theorem TH {w:World} {g:Nat} {a b c d:Value} {v0 v1 v2 v3:Value} {t:TypeId} {fr:Nat × Nat} (h:w.heap[g]? =some (.cells #[a,b,c,d] t fr)):(gH w g v0 v1 v2 v3).heap[g]? =some (.cells #[v0,v1,v2,v3] t fr):=by
 unfold gH
 rw [aW (aW (aW (aW h v0) v1) v2) v3]; rfl
theorem J2 (w:World) {g k:Nat} (v0 v1 v2 v3:Value) (h:g≠k):(gH w g v0 v1 v2 v3).heap[k]? =w.heap[k]?:=by
 unfold gH
 rw [aN _ _ _ rfl h,aN _ _ _ rfl h,aN _ _ _ rfl h,aN _ _ _ rfl h]
theorem UU {R:Rp} {w W:World} {rest:ak} {l x:E} {op:Int} {g:Nat} {fP cB:Option Addr} {dn bF:Nat} {t:TypeId} (hop:aM op) (hK:Wk R w W rest) (hg:w.heap.size < g) (hz:W.heap[w.heap.size]? =some (.cells zC t (0,0))) (hb:W.heap[g]? =some (.cells (pE l.op l.n l.nm l.kids fP dn).toArray t (0,0)))
 (hl:jA l∧dS (w.heap.size + 1) (some g) W (fun w2=>l.kids.At w2 w2.heap.size fP 0)) (hx:jA x∧dS (w.heap.size + 1) (some g) W (fun w2=>x.kids.At w2 w2.heap.size cB 0)):
 ∀W',(gH W g (.int .i64 op) (.int .i64 0) (.string ⟨#[]⟩) (.slice (some ⟨W.heap.size,0,none⟩) 2 2)).alloc (.cells #[.int .i64 l.op,.int .i64 l.n,.string l.nm,.slice fP l.kids.len dn,.int .i64 x.op,.int .i64 x.n,.string x.nm,.slice cB x.kids.len bF] t)=W'→
 Wk R w W' rest∧W'.heap[w.heap.size]? =some (.cells zC t (0,0))∧W'.heap[g]? =some (.cells (pE (mk2 op l x).op (mk2 op l x).n (mk2 op l x).nm (mk2 op l x).kids (some ⟨W.heap.size,0,none⟩) 2).toArray t (0,0))∧
  jA (mk2 op l x)∧dS (w.heap.size + 1) (some g) W' (fun w2=>(mk2 op l x).kids.At w2 w2.heap.size (some ⟨W.heap.size,0,none⟩) 0):=by
 intro W' hW'
 have hlg:=(Array.getElem?_eq_some_iff.1 hb).1
 have hs:=xV W g (.int .i64 op) (.int .i64 0) (.string ⟨#[]⟩) (.slice (some ⟨W.heap.size,0,none⟩) 2 2)
 have hk:=hK.gH g (.int .i64 op) (.int .i64 0) (.string ⟨#[]⟩) (.slice (some ⟨W.heap.size,0,none⟩) 2 2) (Nat.le_of_lt hg)
 have hgb:=TH (v0:= .int .i64 op) (v1:= .int .i64 0) (v2:= .string ⟨#[]⟩) (v3:= .slice (some ⟨W.heap.size,0,none⟩) 2 2) hb
 have hzb:=(J2 W (.int .i64 op) (.int .i64 0) (.string ⟨#[]⟩) (.slice (some ⟨W.heap.size,0,none⟩) 2 2) (show g≠w.heap.size by omega)).trans hz
 have hax:nG (w.heap.size + 1) (some g) W (gH W g (.int .i64 op) (.int .i64 0) (.string ⟨#[]⟩) (.slice (some ⟨W.heap.size,0,none⟩) 2 2)):=⟨Nat.le_of_eq hs.symm,fun k _ h2 _=>J2 W _ _ _ _ (fun e=>h2 (by rw [e]))⟩
 generalize gH W g _ _ _ _=W1 at *
 subst hW'
 refine ⟨hk.alloc _,(heap_alloc_old _ _ (by omega)).trans hzb,(heap_alloc_old _ _ (by omega)).trans hgb,⟨hop,kE,Nat.zero_le _,by simp [mk2,aZ.len,maxLen]⟩,?_⟩
 refine FR (g:=W.heap.size) (t:=t) (fr:=(0,0)) (by rw [← hs]; exact heap_alloc_new _ _) (by omega) (by omega) hl.1 ((hl.2.next hax).next (aL (ah _ _)).x) hx.1 ((hx.2.next hax).next (aL (ah _ _)).x)
theorem WM {f lv:Nat} {ts:ak} (h:5 < lv):pe (f + 1) (.bin lv) ts=pe f .un ts:=by
 conv=>lhs; unfold pe
 rw [if_pos h]
theorem Y3 {f lv:Nat} {ts r:ak} (h: ¬ 5 < lv) (h1:pe f (.bin (lv + 1)) ts= .no r):pe (f + 1) (.bin lv) ts= .no r:=by
 conv=>lhs; unfold pe
 rw [if_neg h,h1]
theorem WL {f lv:Nat} {ts r:ak} {l:E} (h: ¬ 5 < lv) (h1:pe f (.bin (lv + 1)) ts= .ok l r):pe (f + 1) (.bin lv) ts=pe f (.lp lv l) r:=by
 conv=>lhs; unfold pe
 rw [if_neg h,h1]
theorem X8 {f lv:Nat} {ts:ak} {l:E} (h:(opAt lv ts == 0)=true):pe (f + 1) (.lp lv l) ts= .ok l ts:=by
 conv=>lhs; unfold pe
 rw [if_pos h]
theorem Yv {f lv:Nat} {ts r:ak} {l:E} (h:(opAt lv ts == 0)=false) (h1:pe f (.bin (lv + 1)) ts.tail= .no r):pe (f + 1) (.lp lv l) ts= .no r:=by
 conv=>lhs; unfold pe
 rw [if_neg (by rw [h]; decide),h1]
theorem Xk {f lv:Nat} {ts r:ak} {l x:E} (h:(opAt lv ts == 0)=false) (h1:pe f (.bin (lv + 1)) ts.tail= .ok x r):pe (f + 1) (.lp lv l) ts=if lv=3 then .ok (mk2 (opAt lv ts) l x) r else pe f (.lp lv (mk2 (opAt lv ts) l x)) r:=by
 conv=>lhs; unfold pe
 rw [if_neg (by rw [h]; decide),h1]
theorem Kw (R:Rp) (f:Nat) (ts:ak) (lv:Nat) (hf:enough (.bin lv) ts (f + 1)) (ih: ∀f',f'≤f→ ∀m ts,enough m ts f'→um R f' ts m):um R (f + 1) ts (.bin lv):=by
 intro hlv w hI
 have HI:=Lib.hid hI
 have fD:=Lib.hid ih
 have HF:=Lib.hid hf
 clear hI ih hf
 by_cases h5:5 < lv
 ·have hq:decide ((5:Int) < (lv:Int))=true:=by rw [decide_eq_true_iff]; omega
  have HX:Hid (∀w,aY w R ts→Calls Tryz.prog 123 #[.pointer (some ⟨R.br,0,none⟩)] w (kY R w (pe f .un ts))):=Lib.hid (fD.out f (Nat.le_refl _) .un ts (by
   have:=HF.out; simp only [enough,wt] at *; omega))
  rw [WM h5]
  clear fD HF
  generalize pe f .un ts=res at *
  go_enter Tryz.func91,Tryz.ntmps91
  go_upto_region 1 with fail
  generalize hW:World.alloc w _=W
  have HK:Hid (Wk R w W ts):=Lib.hid (by rw [← hW]; exact (Wk.start HI.out).alloc _)
  have HZ:Hid (W.heap[w.heap.size]? =some (.cells #[.int .i64 0,.int .i64 0,.string ⟨#[]⟩,.slice none 0 0] 45 (0,0))):=Lib.hid (by rw [← hW]; exact heap_alloc_new _ _)
  clear hW
  go_wp2_with fail
  refine (HX.out _ HK.out.rd).mono ?_
  cases res with
  | no r=>
    rintro e w2 ⟨rfl,h2,h3⟩
    have eX:=Lib.hid (HK.out.then h2 h3)
    have HZ2:=Lib.hid ((HK.out.kept h3 (Nat.le_refl _) (Array.getElem?_eq_some_iff.1 HZ.out).1).trans HZ.out)
    clear h2 h3 HK HZ
    obtain ⟨⟨y0,y1,y2,y3⟩,f0,f1,f2,f3⟩:=dH HZ2.out
    unfold zE
    go_wp2_with fail
    exact bodyPost_ret (v:= .tuple #[zE,.bool false]) (by simp [results,Tryz.results91,go_sem,y0,y1,y2,y3,zE]) rfl (nQ (eX.out.gH _ _ _ _ _ (Nat.le_refl _)))
  | ok x r=>
    rintro e w2 ⟨v,rfl,hv,h2,h3⟩
    have eX:=Lib.hid (HK.out.then h2 h3)
    have HZ2:=Lib.hid ((HK.out.kept h3 (Nat.le_refl _) (Array.getElem?_eq_some_iff.1 HZ.out).1).trans HZ.out)
    have gN:=Lib.hid (hv.mono (Array.getElem?_eq_some_iff.1 HZ.out).1)
    clear h2 h3 HK HZ hv
    obtain ⟨ao,cap,rfl,hok,hst⟩:=gN.out
    have HE:=Lib.hid (And.intro hok hst)
    clear hok hst gN
    obtain ⟨⟨y0,y1,y2,y3⟩,f0,f1,f2,f3⟩:=dH HZ2.out
    unfold exV
    go_wp2_with fail
    exact bodyPost_ret (v:= .tuple #[exV x.op x.n x.nm x.kids ao cap,.bool true]) (by simp [results,Tryz.results91,go_sem,exV,y0,y1,y2,y3]) rfl (yZ eX.out HE.out)
 ·have hq:decide ((5:Int) < (lv:Int))=false:=by rw [decide_eq_false_iff_not]; omega
  have ap1:(0:Int)≤(lv:Int):=by omega
  have am8:(lv:Int)≤6:=by omega
  have HX:Hid (∀w,aY w R ts→Calls Tryz.prog 91 #[.pointer (some ⟨R.br,0,none⟩),.int .i64 ((lv:Int) + 1)] w (kY R w (pe f (.bin (lv + 1)) ts))):=Lib.hid (fD.out f (Nat.le_refl _) (.bin (lv + 1)) ts (by
   have:=HF.out; simp only [enough,wt] at *; omega) (by omega))
  have HR:Hid (∀l r,pe f (.bin (lv + 1)) ts= .ok l r→pe (f + 1) (.bin lv) ts=pe f (.lp lv l) r∧r.length < ts.length):=Lib.hid (fun l r h=>⟨WL h5 h,mR f (.bin (lv + 1)) ts l r h⟩)
  have HN:Hid (∀r,pe f (.bin (lv + 1)) ts= .no r→pe (f + 1) (.bin lv) ts= .no r):=Lib.hid (fun r h=>Y3 h5 h)
  generalize pe (f + 1) (.bin lv) ts=spec at *
  generalize pe f (.bin (lv + 1)) ts=res at *
  go_enter Tryz.func91,Tryz.ntmps91
  go_upto_region 1 with fail
  generalize hW:World.alloc w _=W
  have HK:Hid (Wk R w W ts):=Lib.hid (by rw [← hW]; exact (Wk.start HI.out).alloc _)
  have HZ:Hid (W.heap[w.heap.size]? =some (.cells #[.int .i64 0,.int .i64 0,.string ⟨#[]⟩,.slice none 0 0] 45 (0,0))):=Lib.hid (by rw [← hW]; exact heap_alloc_new _ _)
  clear hW
  go_wp2_with fail
  refine (HX.out _ HK.out.rd).mono ?_
  have iL:=HK
  have HZ1:=HZ
  clear HK HZ
  cases res with
  | no r=>
    obtain rfl:=HN.out r rfl
    clear HN HR HX
    rintro e w2 ⟨rfl,h2,h3⟩
    have eX:=Lib.hid (iL.out.then h2 h3)
    have HZ2:=Lib.hid ((iL.out.kept h3 (Nat.le_refl _) (Array.getElem?_eq_some_iff.1 HZ1.out).1).trans HZ1.out)
    clear h2 h3 iL HZ1
    obtain ⟨⟨y0,y1,y2,y3⟩,f0,f1,f2,f3⟩:=dH HZ2.out
    have hlt2:w.heap.size < w2.heap.size:=(Array.getElem?_eq_some_iff.1 HZ2.out).1
    unfold zE
    go_wp2_with fail
    exact bodyPost_ret (v:= .tuple #[zE,.bool false]) (by simp [results,Tryz.results91,go_sem,y0,y1,y2,y3,hlt2,zE]) rfl (nQ ((eX.out.gH _ _ _ _ _ (Nat.le_refl _)).alloc _))
  | ok x r=>
    have HS:=Lib.hid (HR.out x r rfl)
    clear HR HN HX
    rintro e w2 ⟨v,rfl,hv,h2,h3⟩
    have eX:=Lib.hid (iL.out.then h2 h3)
    have HZ2:=Lib.hid ((iL.out.kept h3 (Nat.le_refl _) (Array.getElem?_eq_some_iff.1 HZ1.out).1).trans HZ1.out)
    have gN:=Lib.hid (hv.mono (Array.getElem?_eq_some_iff.1 HZ1.out).1)
    clear h2 h3 iL HZ1 hv
    obtain ⟨ao,cap,rfl,hok,hst⟩:=gN.out
    have HE:=Lib.hid (And.intro hok hst)
    clear hok hst gN
    unfold exV
    go_upto_region 4 with fail
    obtain ⟨g,hg⟩: ∃g,w2.heap.size=g:=⟨_,rfl⟩
    generalize hW:World.alloc w2 _=W2
    have iy:Hid (Wk R w W2 r):=Lib.hid (by rw [← hW]; exact eX.out.alloc _)
    have HB3:Hid (W2.heap[g]? =some (.cells #[.int .i64 x.op,.int .i64 x.n,.string x.nm,.slice ao x.kids.len cap] 45 (0,0))):=Lib.hid (by rw [← hW,← hg]; exact heap_alloc_new _ _)
    have HZ3:Hid (W2.heap[w.heap.size]? =some (.cells #[.int .i64 0,.int .i64 0,.string ⟨#[]⟩,.slice none 0 0] 45 (0,0))):=Lib.hid (by rw [← hW]; exact (heap_alloc_old _ _ (Array.getElem?_eq_some_iff.1 HZ2.out).1).trans HZ2.out)
    have iI:Hid (jA x∧bJ (w.heap.size + 1) W2 (fun w2=>x.kids.At w2 w2.heap.size ao 0)):=Lib.hid ⟨HE.out.1,by rw [← hW]; exact HE.out.2.next (aL (ah _ _))⟩
    have HG:Hid (w.heap.size < g):=Lib.hid (by rw [← hg]; exact (Array.getElem?_eq_some_iff.1 HZ2.out).1)
    have qL:Hid (dS (w.heap.size + 1) (some g) W2 (fun w2=>x.kids.At w2 w2.heap.size ao 0)):=Lib.hid (by rw [← hW]; exact sH HE.out.2 (aL (ah _ _)) (Nat.le_of_eq hg))
    rw [hg]
    clear hW hg eX HZ2 HE
    go_wp2_with fail
    have lU:Hid (QU R w f lv g spec r.length W2):=Lib.hid ⟨f,x,r,ao,cap,rfl,Nat.le_refl _,by
     have:=HF.out; have:=HS.out.2; simp only [enough,wt] at *; omega,HS.out.1,iy.out,HZ3.out,HB3.out,iI.out.1,qL.out⟩
    have Yu:=HG
    clear iy HZ3 HB3 iI qL HS HI HF HG
    go_loopg [8] r.length (fun gk _ wr=>QU R w f lv g spec gk wr)
    case atStart=>exact lU.out
    case round=>
     obtain ⟨f',l,rest,fP,dn,rfl,hf',hen,hres,hk,hz,hb,hok,hst⟩:=hrel
     obtain ⟨f',rfl⟩: ∃n,f'=n + 1:=⟨f' - 1,by simp only [enough,wt] at hen; omega⟩
     have HF:=Lib.hid (And.intro hf' hen)
     have HS:=Lib.hid hres
     have HK:=Lib.hid hk
     have HZ:=Lib.hid hz
     have HB:=Lib.hid hb
     have HE:=Lib.hid (And.intro hok hst)
     have UF:=Lib.hid (Jc R rest wr (lv:Int) hk.rd)
     clear hf' hen hres hk hz hb hok hst lU
     cases hop:(opAt (lv:Int) rest == 0)
     ·have cO:=Lib.hid (M6 hop)
      have gL:Hid (∀w,aY w R rest.tail→Calls Tryz.prog 91 #[.pointer (some ⟨R.br,0,none⟩),.int .i64 ((lv:Int) + 1)] w (kY R w (pe f' (.bin (lv + 1)) rest.tail))):=Lib.hid (fD.out f' (by have:=HF.out.1; omega) (.bin (lv + 1)) rest.tail (by
       have:=HF.out.2; have:=Qm hop; simp only [enough,wt] at *; omega) (by omega))
      have gI:Hid (∀r,pe f' (.bin (lv + 1)) rest.tail= .no r→spec= .no r):=Lib.hid (fun r h=>HS.out.trans (Yv hop h))
      have JY:Hid (∀x r,pe f' (.bin (lv + 1)) rest.tail= .ok x r→(spec=if lv=3 then .ok (mk2 (opAt lv rest) l x) r else pe f' (.lp lv (mk2 (opAt lv rest) l x)) r)∧r.length < rest.length):=Lib.hid (fun x r h=>⟨HS.out.trans (Xk hop h),by
       have h1:=mR f' (.bin (lv + 1)) rest.tail x r h
       have h2:=Qm hop
       have h1:r.length < rest.tail.length:=h1
       omega⟩)
      obtain ⟨t,r1,hr⟩: ∃t r1,rest=t ::r1:=by
       cases rest with
       | nil=>exact absurd hop (by simp [opAt,nextK])
       | cons t r1=>exact ⟨t,r1,rfl⟩
      have HR1:=Lib.hid hr
      clear hr HS
      generalize opAt (lv:Int) rest=op at *
      generalize pe f' (.bin (lv + 1)) rest.tail=res2 at *
      go_wp2_with fail
      refine UF.out.mono ?_
      rintro e w3 ⟨rfl,h2⟩
      obtain ⟨pos,hp,c0,c1,f1,HX⟩:=(HK.out.below h2).rd.open
      have iy:=Lib.hid (HK.out.below h2)
      have HZ3:=Lib.hid ((h2.block _ (Array.getElem?_eq_some_iff.1 HZ.out).1).trans HZ.out)
      have HB3:=Lib.hid ((h2.block _ (Array.getElem?_eq_some_iff.1 HB.out).1).trans HB.out)
      have iI:Hid (jA l∧dS (w.heap.size + 1) (some g) w3 (fun w2=>l.kids.At w2 w2.heap.size fP 0)):=Lib.hid ⟨HE.out.1,HE.out.2.next (aL h2).x⟩
      clear h2 HK HZ HB HE UF
      go_upto_region 10 with fail
      generalize hW:World.setCell w3 _ _=W4
      have HQ:Hid (aY W4 R rest.tail∧w3.grownBy W4 (some R.br)):=Lib.hid (by rw [← hW,HR1.out]; exact HX.out t r1 HR1.out)
      have EF:=Lib.hid (iy.out.then HQ.out.1 HQ.out.2)
      have fK:=Lib.hid ((iy.out.kept HQ.out.2 (Nat.le_refl _) (Array.getElem?_eq_some_iff.1 HZ3.out).1).trans HZ3.out)
      have dh:=Lib.hid ((iy.out.kept HQ.out.2 (Nat.le_of_lt Yu.out) (Array.getElem?_eq_some_iff.1 HB3.out).1).trans HB3.out)
      have Ck:Hid (jA l∧dS (w.heap.size + 1) (some g) W4 (fun w2=>l.kids.At w2 w2.heap.size fP 0)):=Lib.hid ⟨iI.out.1,iI.out.2.next (fU HQ.out.2 (Nat.lt_succ_of_lt iy.out.lt)).x⟩
      clear hW c0 c1 f1 HX iy HZ3 HB3 iI HQ
      go_wp2_with fail
      refine (gL.out _ EF.out.rd).mono ?_
      cases res2 with
      | no r=>
        have hs:=gI.out r rfl
        subst hs
        clear gI JY gL
        rintro e w5 ⟨rfl,h2,h3⟩
        have Ur:=Lib.hid (EF.out.then h2 h3)
        have iq:=Lib.hid ((EF.out.kept h3 (Nat.le_refl _) (Array.getElem?_eq_some_iff.1 fK.out).1).trans fK.out)
        clear h2 h3 EF fK dh Ck
        obtain ⟨⟨y0,y1,y2,y3⟩,f0,f1,f2,f3⟩:=dH iq.out
        have hlt2:w.heap.size < w5.heap.size:=(Array.getElem?_eq_some_iff.1 iq.out).1
        unfold zE
        go_wp2_with fail
        exact bodyPost_ret (v:= .tuple #[zE,.bool false]) (by simp [results,Tryz.results91,go_sem,y0,y1,y2,y3,hlt2,zE]) rfl (nQ ((Ur.out.gH _ _ _ _ _ (Nat.le_refl _)).alloc _))
      | ok x2 r2=>
        have vU:=Lib.hid (JY.out x2 r2 rfl)
        clear gI JY gL
        rintro e w5 ⟨v,rfl,hv,h2,h3⟩
        have Ur:=Lib.hid (EF.out.then h2 h3)
        have iq:=Lib.hid ((EF.out.kept h3 (Nat.le_refl _) (Array.getElem?_eq_some_iff.1 fK.out).1).trans fK.out)
        have iR:=Lib.hid ((EF.out.kept h3 (Nat.le_of_lt Yu.out) (Array.getElem?_eq_some_iff.1 dh.out).1).trans dh.out)
        have IJ:Hid (jA l∧dS (w.heap.size + 1) (some g) w5 (fun w2=>l.kids.At w2 w2.heap.size fP 0)):=Lib.hid ⟨Ck.out.1,Ck.out.2.next (fU h3 (Nat.lt_succ_of_lt EF.out.lt)).x⟩
        obtain ⟨oL,cap2,rfl,hok,hst⟩:=hv
        have Ey:Hid (jA x2∧dS (w.heap.size + 1) (some g) w5 (fun w2=>x2.kids.At w2 w2.heap.size oL 0)):=Lib.hid ⟨hok,oM hst (Nat.le_trans (Nat.succ_le_of_lt (Array.getElem?_eq_some_iff.1 fK.out).1) (Nat.le_refl _)) (fun k hk=>by injection hk with hk; rw [← hk]; exact (Array.getElem?_eq_some_iff.1 dh.out).1)⟩
        clear h2 h3 hok hst EF fK dh Ck
        unfold exV
        go_upto_region 11 with fail
        obtain ⟨g9,hg⟩: ∃g,w5.heap.size=g:=⟨_,rfl⟩
        generalize hW:World.alloc w5 _=W6
        have HK6:Hid (Wk R w W6 r2):=Lib.hid (by rw [← hW]; exact Ur.out.alloc _)
        have P7:Hid (W6.heap[g9]? =some (.cells #[.int .i64 x2.op,.int .i64 x2.n,.string x2.nm,.slice oL x2.kids.len cap2] 45 (0,0))):=Lib.hid (by rw [← hW,← hg]; exact heap_alloc_new _ _)
        have G5:Hid (W6.heap[w.heap.size]? =some (.cells zC 45 (0,0))):=Lib.hid (by rw [← hW]; exact (heap_alloc_old _ _ (Array.getElem?_eq_some_iff.1 iq.out).1).trans iq.out)
        have Ac:Hid (W6.heap[g]? =some (.cells (pE l.op l.n l.nm l.kids fP dn).toArray 45 (0,0))):=Lib.hid (by rw [← hW]; exact (heap_alloc_old _ _ (Array.getElem?_eq_some_iff.1 iR.out).1).trans iR.out)
        have OT:Hid (jA l∧dS (w.heap.size + 1) (some g) W6 (fun w2=>l.kids.At w2 w2.heap.size fP 0)):=Lib.hid ⟨IJ.out.1,by rw [← hW]; exact IJ.out.2.next (aL (ah _ _)).x⟩
        have HX6:Hid (jA x2∧dS (w.heap.size + 1) (some g) W6 (fun w2=>x2.kids.At w2 w2.heap.size oL 0)):=Lib.hid ⟨Ey.out.1,by rw [← hW]; exact Ey.out.2.next (aL (ah _ _)).x⟩
        rw [hg]
        clear hW hg Ur iq iR IJ Ey
        obtain ⟨⟨z0,z1,z2,z3⟩,d0,d1,d2,d3⟩:=tC Ac.out
        have u0:W6.cell? ⟨g9,0,none⟩=some (.int .i64 x2.op):=aj P7.out rfl
        have u1:W6.cell? ⟨g9,1,none⟩=some (.int .i64 x2.n):=aj P7.out rfl
        have u2:W6.cell? ⟨g9,2,none⟩=some (.string x2.nm):=aj P7.out rfl
        have u3:W6.cell? ⟨g9,3,none⟩=some (.slice oL x2.kids.len cap2):=aj P7.out rfl
        have hlg:g < W6.heap.size:=(Array.getElem?_eq_some_iff.1 Ac.out).1
        go_upto_region 14 with fail
        have HP:=Lib.hid (UU (t:=45) (bF:=cap2) (show aM op by have:=cO.out; unfold aM; omega) HK6.out Yu.out G5.out Ac.out OT.out HX6.out)
        generalize hW:World.alloc _ _=W7
        have ji:=Lib.hid (HP.out W7 hW)
        clear hW HP HK6 G5 Ac OT HX6 P7 z0 z1 z2 z3 d0 d1 d2 d3 u0 u1 u2 u3 hlg
        have HL2:=Lib.hid vU.out.2
        by_cases h3:lv=3
        ·have hs:=vU.out.1.trans (if_pos h3)
         subst hs
         clear vU
         have h3':((lv:Int) == 3)=true:=by rw [h3]; rfl
         obtain ⟨⟨y0,y1,y2,y3⟩,f0,f1,f2,f3⟩:=dH ji.out.2.1
         obtain ⟨⟨z0,z1,z2,z3⟩,d0,d1,d2,d3⟩:=tC ji.out.2.2.1
         go_wp2_with fail
         exact bodyPost_ret (v:= .tuple #[exV (mk2 op l x2).op (mk2 op l x2).n (mk2 op l x2).nm (mk2 op l x2).kids (some ⟨W6.heap.size,0,none⟩) 2,.bool true]) (by simp [results,Tryz.results91,go_sem,exV,y0,y1,y2,y3]) rfl (yZ ji.out.1 ⟨ji.out.2.2.2.1,ji.out.2.2.2.2.stay⟩)
        ·have h3':((lv:Int) == 3)=false:=by rw [beq_eq_false_iff_ne]; omega
         have HS2:=Lib.hid (vU.out.1.trans (if_neg h3))
         clear vU
         go_wp2_with fail
         go_roundg r2.length
         case measure=>exact HL2.out
         case rel=>exact ⟨f',mk2 op l x2,r2,_,_,rfl,by have:=HF.out.1; omega,by
          have h1:=HF.out.2; have h2:=HL2.out; simp only [enough,wt] at *; omega,HS2.out,ji.out.1,ji.out.2.1,ji.out.2.2.1,ji.out.2.2.2.1,ji.out.2.2.2.2⟩
     ·have Zj:Hid (Calls Tryz.prog 124 #[.pointer (some ⟨R.br,0,none⟩),.int .i64 (lv:Int)] wr fun e w'=>e= .returned (.int .i64 0)∧Below wr.heap.size wr w'):=Lib.hid (by
       have:=UF.out; rw [show opAt (lv:Int) rest=0 by simpa using hop] at this; exact this)
      have hs:=HS.out.trans (X8 hop)
      subst hs
      clear HS UF hop
      go_wp2_with fail
      refine Zj.out.mono ?_
      rintro e w3 ⟨rfl,h2⟩
      have iy:=Lib.hid (HK.out.below h2)
      have HZ3:=Lib.hid ((h2.block _ (Array.getElem?_eq_some_iff.1 HZ.out).1).trans HZ.out)
      have HB3:=Lib.hid ((h2.block _ (Array.getElem?_eq_some_iff.1 HB.out).1).trans HB.out)
      have iI:Hid (jA l∧bJ (w.heap.size + 1) w3 (fun w2=>l.kids.At w2 w2.heap.size fP 0)):=Lib.hid ⟨HE.out.1,(HE.out.2.next (aL h2).x).stay⟩
      clear h2 HK HZ HB HE Zj
      obtain ⟨⟨y0,y1,y2,y3⟩,f0,f1,f2,f3⟩:=dH HZ3.out
      obtain ⟨⟨z0,z1,z2,z3⟩,d0,d1,d2,d3⟩:=tC HB3.out
      go_wp2_with fail
      exact bodyPost_ret (v:= .tuple #[exV l.op l.n l.nm l.kids fP dn,.bool true]) (by simp [results,Tryz.results91,go_sem,exV,y0,y1,y2,y3]) rfl (yZ iy.out iI.out)
theorem VI (R:Rp): ∀(f:Nat) (m:M) (ts:ak),enough m ts f→um R f ts m:=by
 intro f
 induction f using Nat.strongRecOn with
 | ind f ih=>
   intro m ts hf
   cases f with
   | zero=>exact absurd hf (by unfold enough; omega)
   | succ f=>
     cases m with
     | bin lv=>exact Kw R f ts lv hf (fun f' h m ts hm=>ih f' (by omega) m ts hm)
     | un=>exact N7 R f ts hf (fun m ts hm=>ih f (by omega) m ts hm)
     | pr=>exact Jh R f ts hf (fun m ts hm=>ih f (by omega) m ts hm)
     | lp lv l=>exact trivial
theorem qz (R:Rp) (ts:ak) (w:World) (hI:aY w R ts):Calls Tryz.prog 52 #[.pointer (some ⟨R.br,0,none⟩)] w (kY R w (Pz.expr ts)):=
 FB R _ ts (VI R _ (.bin 1) ts (CG ts)) w hI
end Go.Proofs.YtehnipchbmjlhaaGreatDoor
end
