/-
  What the reader's expressions leave; words for the walks of unary, primary, binary.
  Contract of the reader's unary.
  Contract of the reader's primary.
  Contract of the reader's binary; of all that read expressions.
-/
import Derived.Test.YtehnipchbmjlhaaGreatDoorGRA
import Derived.Test.YtehnipchbmjlhaaGreatDoorGMB
set_option linter.unusedSimpArgs false
set_option linter.unusedVariables false
set_option maxHeartbeats 40000000
set_option maxRecDepth 1000000
section
namespace Go.Proofs.YtehnipchbmjlhaaGreatDoor
open Go.RowKit
open Md Pz
def mO (x:E):Prop:=oz x.op x.n x.nm x.kids
def EV (B:Nat) (x:E) (v:Value) (w:World):Prop:= ∃ao cap,v=exV x.op x.n x.nm x.kids ao cap∧mO x∧dB B w (fun w2=>x.kids.At w2 w2.heap.size ao 0)
theorem EV.mono {B B':Nat} {x:E} {v:Value} {w:World} (h:EV B' x v w) (hB:B≤B'):EV B x v w:=by
 obtain ⟨ao,cap,h1,h2,h3⟩:=h; exact ⟨ao,cap,h1,h2,h3.mono hB⟩
def zE:Value:= .agg #[.int .i64 0,.int .i64 0,.string ⟨#[]⟩,.slice none 0 0]
def kE (R:Rp) (w:World) (r:bn E) (e:Ending) (w':World):Prop:=
 match r with
 | .ok x rest=> ∃v,e= .returned (.tuple #[v,.bool true])∧EV w.heap.size x v w'∧aW w' R rest∧w.grownBy w' (some R.br)
 | .no rest=>e= .returned (.tuple #[zE,.bool false])∧aW w' R rest∧w.grownBy w' (some R.br)
def sN (R:Rp) (f:Nat) (ts:aA):M→Prop
 | .bin lv=>lv≤6→ ∀w,aW w R ts→Calls Tryz.prog 91 #[.pointer (some ⟨R.br,0,none⟩),.int .i64 (lv:Int)] w (kE R w (pe f (.bin lv) ts))
 | .un=> ∀w,aW w R ts→Calls Tryz.prog 123 #[.pointer (some ⟨R.br,0,none⟩)] w (kE R w (pe f .un ts))
 | .pr=> ∀w,aW w R ts→Calls Tryz.prog 139 #[.pointer (some ⟨R.br,0,none⟩)] w (kE R w (pe f .pr ts))
 | .lp _ _=>True
def iH (w:World) (b:Nat) (v0 v1 v2 v3:Value):World:=(((w.setCell ⟨b,0,none⟩ v0).setCell ⟨b,1,none⟩ v1).setCell ⟨b,2,none⟩ v2).setCell ⟨b,3,none⟩ v3
theorem qC {br:Nat} {w w':World} (h:w.grownBy w' (some br)) (a:Addr) (v:Value) (hb:w.heap.size≤a.block):w.grownBy (w'.setCell a v) (some br):=
 ⟨h.os,h.tape,h.output,by have:=h.size; simpa [World.setCell] using this,fun k hk hn=>(bJ w' a v rfl (by omega)).trans (h.block k hk hn)⟩
theorem pY {br:Nat} {w w':World} (h:w.grownBy w' (some br)) (o:Obj):w.grownBy (w'.alloc o) (some br):=gD h (bK (ah _ _))
theorem nO {w:World} {R:Rp} {rest:aA} (h:aW w R rest) (a:Addr) (v:Value) (h0:R.B0≤a.block) (h1:a.block≠R.br):aW (w.setCell a v) R rest:=by
 obtain ⟨pos,k1,k2,k3⟩:=h.blk
 exact ⟨⟨pos,k1,k2,(bJ w a v rfl h1).trans k3⟩,h.tok.below (dW (eF w a v) h0 (Nat.le_trans R.b0 (Nat.le_of_lt h.lt))),h.ok,h.tl⟩
theorem oC {w:World} {R:Rp} {rest:aA} (h:aW w R rest) (o:Obj):aW (w.alloc o) R rest:=h.below (ah _ _)
structure Wk (R:Rp) (w W:World) (rest:aA):Prop where
 rd:aW W R rest
 gr:w.grownBy W (some R.br)
 lt:R.br < w.heap.size
theorem Wk.start {R:Rp} {w:World} {rest:aA} (h:aW w R rest):Wk R w w rest:=⟨h,KE _,h.lt⟩
section
variable {R:Rp} {w W W':World} {rest rest':aA}
theorem Wk.set (h:Wk R w W rest) (a:Addr) (v:Value) (hb:w.heap.size≤a.block):Wk R w (W.setCell a v) rest:=
 ⟨nO h.rd a v (by have:=R.b0; have:=h.lt; omega) (by have:=h.lt; omega),qC h.gr a v hb,h.lt⟩
theorem Wk.alloc (h:Wk R w W rest) (o:Obj):Wk R w (W.alloc o) rest:=⟨oC h.rd o,pY h.gr o,h.lt⟩
theorem Wk.below (h:Wk R w W rest) (hb:Below W.heap.size W W'):Wk R w W' rest:=⟨h.rd.below hb,gD h.gr (bK hb),h.lt⟩
theorem Wk.then (h:Wk R w W rest) (h1:aW W' R rest') (h2:W.grownBy W' (some R.br)):Wk R w W' rest':=⟨h1,gD h.gr h2,h.lt⟩
theorem Wk.iH (h:Wk R w W rest) (b:Nat) (v0 v1 v2 v3:Value) (hb:w.heap.size≤b):Wk R w (iH W b v0 v1 v2 v3) rest:=
 (((h.set ⟨b,0,none⟩ v0 hb).set ⟨b,1,none⟩ v1 hb).set ⟨b,2,none⟩ v2 hb).set ⟨b,3,none⟩ v3 hb
theorem Wk.kept (h:Wk R w W rest) (h2:W.grownBy W' (some R.br)) {k:Nat} (hk:w.heap.size≤k) (hl:k < W.heap.size):W'.heap[k]? =W.heap[k]?:=h2.block k hl (by have:=h.lt; simp; omega)
end
theorem Ce (w:World) (b:Nat) (v0 v1 v2 v3:Value):gK (b + 1) w (iH w b v0 v1 v2 v3):=by
 have x1:gK (b + 1) w _:=dO w ⟨b,0,none⟩ v0 (Nat.lt_succ_self _)
 have x2:=x1.trans (dO _ ⟨b,1,none⟩ v1 (Nat.lt_succ_self _))
 have x3:=x2.trans (dO _ ⟨b,2,none⟩ v2 (Nat.lt_succ_self _))
 exact x3.trans (dO _ ⟨b,3,none⟩ v3 (Nat.lt_succ_self _))
theorem Av (w:World) (b:Nat) (v0 v1 v2 v3:Value):(iH w b v0 v1 v2 v3).heap.size=w.heap.size:=by simp [iH,World.setCell]
theorem nL {br B:Nat} {w w':World} (h:w.grownBy w' (some br)) (hB:br < B):gK B w w':=⟨h.size,fun k h1 h2=>h.block k h2 (by simp; omega)⟩
end Go.Proofs.YtehnipchbmjlhaaGreatDoor
end
section
namespace Go.Proofs.YtehnipchbmjlhaaGreatDoor
open Go.RowKit
open Md Pz
theorem fH {w:World} {b:Nat} {t:TypeId} (h:w.heap[b]? =some (.cells #[.int .i64 0,.int .i64 0,.string ⟨#[]⟩,.slice none 0 0] t (0,0))):
 (w.cell? ⟨b,0,none⟩=some (.int .i64 0)∧w.cell? ⟨b,1,none⟩=some (.int .i64 0)∧w.cell? ⟨b,2,none⟩=some (.string ⟨#[]⟩)∧w.cell? ⟨b,3,none⟩=some (.slice none 0 0))∧w.frozen? ⟨b,0,none⟩=false∧w.frozen? ⟨b,1,none⟩=false∧w.frozen? ⟨b,2,none⟩=false∧w.frozen? ⟨b,3,none⟩=false:=
 ⟨⟨aG h rfl,aG h rfl,aG h rfl,aG h rfl⟩,aK h,aK h,aK h,aK h⟩
theorem nJ {R:Rp} {w W:World} {r:aA} (h:Wk R w W r):kE R w (.no r) (.returned (.tuple #[zE,.bool false])) W:=⟨rfl,h.rd,h.gr⟩
theorem Cj {B g:Nat} {w w1:World} {Q:World→Prop} (h:dB B w Q) (ha:gK B w w1) (hg:w.heap.size≤g):fT B (some g) w1 Q:=fun w' h'=>
 h w' ⟨Nat.le_trans ha.1 h'.1,fun k h1 h2=>(h'.2 k h1 (fun e=>by injection e with e; omega) (Nat.lt_of_lt_of_le h2 ha.1)).trans (ha.2 k h1 h2)⟩
theorem sw:aU 0:=by unfold aU; omega
theorem RD {W:World} {x:E} {ao:Option Addr} {cap:Nat} {t:TypeId} {o:Obj} {B g:Nat} (hB:B≤W.heap.size) (hg:W.heap.size + 1=g) (hE:mO x∧dB B W (fun w2=>x.kids.At w2 w2.heap.size ao 0)):
 dB B ((W.alloc o).alloc (.cells #[.int .i64 x.op,.int .i64 x.n,.string x.nm,.slice ao x.kids.len cap] t)) (fun w2=>(aP.cons x.op x.n x.nm x.kids .nil).At w2 w2.heap.size (some ⟨g,0,none⟩) 0):=by
 have hs:(W.alloc o).heap.size=g:=by simp; omega
 rw [← hs]
 exact rE (heap_alloc_new _ _) (by omega) hE.1 (hE.2.next ((aY (ah _ _)).trans (aY (ah _ _))))
theorem OB {R:Rp} {w w2:World} {r:aA} {x:E} {ao:Option Addr} {cap:Nat} {op:Int} {t t':TypeId} (hop:aU op) (h:Wk R w w2 r) (hlt:w.heap.size < w2.heap.size) (hE:mO x∧dB (w.heap.size + 1) w2 (fun w2=>x.kids.At w2 w2.heap.size ao 0)):
 kE R w ((bn.ok x r).map (mk1 op)) (.returned (.tuple #[exV op 0 ⟨#[]⟩ (.cons x.op x.n x.nm x.kids .nil) (some ⟨w2.heap.size + 1,0,none⟩) 1,.bool true]))
  (((iH w2 w.heap.size (.int .i64 op) (.int .i64 0) (.string ⟨#[]⟩) (.slice (some ⟨w2.heap.size + 1,0,none⟩) 1 1)).alloc (.cells #[.int .i64 x.op,.int .i64 x.n,.string x.nm,.slice ao x.kids.len cap] t')).alloc (.cells #[.int .i64 x.op,.int .i64 x.n,.string x.nm,.slice ao x.kids.len cap] t)):=by
 have hk:=h.iH w.heap.size (.int .i64 op) (.int .i64 0) (.string ⟨#[]⟩) (.slice (some ⟨w2.heap.size + 1,0,none⟩) 1 1) (Nat.le_refl _)
 have ha:=Ce w2 w.heap.size (.int .i64 op) (.int .i64 0) (.string ⟨#[]⟩) (.slice (some ⟨w2.heap.size + 1,0,none⟩) 1 1)
 have hs:=Av w2 w.heap.size (.int .i64 op) (.int .i64 0) (.string ⟨#[]⟩) (.slice (some ⟨w2.heap.size + 1,0,none⟩) 1 1)
 generalize iH w2 w.heap.size _ _ _ _=W at *
 refine ⟨_,rfl,⟨_,1,rfl,⟨hop,sw,Nat.zero_le _,by simp [mk1,aP.len,maxLen]⟩,?_⟩,((hk.alloc _).alloc _).rd,((hk.alloc _).alloc _).gr⟩
 exact (RD (by omega) (by omega) ⟨hE.1,hE.2.next ha⟩).mono (Nat.le_succ _)
theorem xO {R:Rp} {w w2:World} {r:aA} {x:E} {ao:Option Addr} {cap:Nat} {a b c d:Value} (h:Wk R w w2 r) (hE:mO x∧dB (w.heap.size + 1) w2 (fun w2=>x.kids.At w2 w2.heap.size ao 0)):
 kE R w (.ok x r) (.returned (.tuple #[exV x.op x.n x.nm x.kids ao cap,.bool true])) (iH w2 w.heap.size a b c d):=by
 have hk:=h.iH w.heap.size a b c d (Nat.le_refl _)
 exact ⟨_,rfl,⟨ao,cap,rfl,hE.1,(hE.2.next (Ce w2 w.heap.size a b c d)).mono (Nat.le_succ _)⟩,hk.rd,hk.gr⟩
theorem XO {f:Nat} {ts:aA} (h:at' [45] ts=true):pe (f + 1) .un ts=(pe f .un ts.tail).map (mk1 4):=by
 conv=>lhs; unfold pe
 rw [if_pos h]
theorem WV {f:Nat} {ts:aA} (h0:at' [45] ts=false) (h:at' [33] ts=true):pe (f + 1) .un ts=(pe f .un ts.tail).map (mk1 5):=by
 conv=>lhs; unfold pe
 rw [if_neg (by rw [h0]; decide),if_pos h]
theorem WG {f:Nat} {ts:aA} (h0:at' [45] ts=false) (h:at' [33] ts=false):pe (f + 1) .un ts=pe f .pr ts:=by
 conv=>lhs; unfold pe
 rw [if_neg (by rw [h0]; decide),if_neg (by rw [h]; decide)]
theorem Lu (R:Rp) (f:Nat) (ts:aA) (hf:enough .un ts (f + 1)) (ih: ∀m ts,enough m ts f→sN R f ts m):sN R (f + 1) ts .un:=by
 intro w hI
 have HI:=Lib.hid hI
 have iY:=Lib.hid ih
 have HF:=Lib.hid hf
 clear hI ih hf
 cases h1:at' [45] ts
 ·cases h2:at' [33] ts
  ·have HX:Hid (∀w,aW w R ts→Calls Tryz.prog 139 #[.pointer (some ⟨R.br,0,none⟩)] w (kE R w (pe f .pr ts))):=Lib.hid (iY.out .pr ts (by
    have:=HF.out; simp only [enough,wt] at *; omega))
   rw [WG h1 h2]
   clear iY HF
   generalize pe f .pr ts=res at *
   go_enter Tryz.func123,Tryz.ntmps123
   go_upto_region 1 with fail
   generalize hW:World.alloc w _=W
   have HK:Hid (Wk R w W ts):=Lib.hid (by rw [← hW]; exact (Wk.start HI.out).alloc _)
   have HZ:Hid (W.heap[w.heap.size]? =some (.cells #[.int .i64 0,.int .i64 0,.string ⟨#[]⟩,.slice none 0 0] 45 (0,0))):=Lib.hid (by rw [← hW]; exact heap_alloc_new _ _)
   clear hW
   go_wp2_with fail
   refine (dK R _ _ ⟨#[45]⟩ rfl h1 HK.out.rd).mono ?_
   rintro e w0 ⟨rfl,h2⟩
   have iV:=Lib.hid (HK.out.below h2)
   have HZ0:=Lib.hid ((h2.block _ (Array.getElem?_eq_some_iff.1 HZ.out).1).trans HZ.out)
   clear h2 HK HZ
   have HK:=iV
   have HZ:=HZ0
   clear iV HZ0
   go_wp2_with fail
   refine (dK R _ _ ⟨#[33]⟩ rfl h2 HK.out.rd).mono ?_
   rintro e w0 ⟨rfl,h2⟩
   have iV:=Lib.hid (HK.out.below h2)
   have HZ0:=Lib.hid ((h2.block _ (Array.getElem?_eq_some_iff.1 HZ.out).1).trans HZ.out)
   clear h2 HK HZ
   have HK:=iV
   have HZ:=HZ0
   clear iV HZ0
   go_wp2_with fail
   refine (HX.out _ HK.out.rd).mono ?_
   cases res with
   | no r=>
     rintro e w2 ⟨rfl,h2,h3⟩
     have iG:=Lib.hid (HK.out.then h2 h3)
     have HZ2:=Lib.hid ((HK.out.kept h3 (Nat.le_refl _) (Array.getElem?_eq_some_iff.1 HZ.out).1).trans HZ.out)
     clear h2 h3 HK HZ
     obtain ⟨⟨y0,y1,y2,y3⟩,f0,f1,f2,f3⟩:=fH HZ2.out
     have hlt2:w.heap.size < w2.heap.size:=(Array.getElem?_eq_some_iff.1 HZ2.out).1
     unfold zE
     go_wp2_with fail
     exact bodyPost_ret (v:= .tuple #[zE,.bool false]) (by simp [results,Tryz.results123,go_sem,y0,y1,y2,y3,hlt2,zE]) rfl (nJ (iG.out.iH _ _ _ _ _ (Nat.le_refl _)))
   | ok x r=>
     rintro e w2 ⟨v,rfl,hv,h2,h3⟩
     have iG:=Lib.hid (HK.out.then h2 h3)
     have HZ2:=Lib.hid ((HK.out.kept h3 (Nat.le_refl _) (Array.getElem?_eq_some_iff.1 HZ.out).1).trans HZ.out)
     have lH:=Lib.hid (hv.mono (Array.getElem?_eq_some_iff.1 HZ.out).1)
     clear h2 h3 HK HZ hv
     obtain ⟨ao,cap,rfl,hok,hst⟩:=lH.out
     have HE:=Lib.hid (And.intro hok hst)
     clear hok hst lH
     obtain ⟨⟨y0,y1,y2,y3⟩,f0,f1,f2,f3⟩:=fH HZ2.out
     have hlt2:w.heap.size < w2.heap.size:=(Array.getElem?_eq_some_iff.1 HZ2.out).1
     unfold exV
     go_wp2_with fail
     exact bodyPost_ret (v:= .tuple #[exV x.op x.n x.nm x.kids ao cap,.bool true]) (by simp [results,Tryz.results123,go_sem,exV,y0,y1,y2,y3,hlt2]) rfl (xO iG.out HE.out)
  ·have HX:Hid (∀w,aW w R ts.tail→Calls Tryz.prog 123 #[.pointer (some ⟨R.br,0,none⟩)] w (kE R w (pe f .un ts.tail))):=Lib.hid (iY.out .un ts.tail (by
    have:=HF.out; have:=at_len h2; simp only [enough,wt] at *; omega))
   rw [WV h1 h2]
   clear iY HF
   generalize pe f .un ts.tail=res at *
   go_enter Tryz.func123,Tryz.ntmps123
   go_upto_region 1 with fail
   generalize hW:World.alloc w _=W
   have HK:Hid (Wk R w W ts):=Lib.hid (by rw [← hW]; exact (Wk.start HI.out).alloc _)
   have HZ:Hid (W.heap[w.heap.size]? =some (.cells #[.int .i64 0,.int .i64 0,.string ⟨#[]⟩,.slice none 0 0] 45 (0,0))):=Lib.hid (by rw [← hW]; exact heap_alloc_new _ _)
   clear hW
   go_wp2_with fail
   refine (dK R _ _ ⟨#[45]⟩ rfl h1 HK.out.rd).mono ?_
   rintro e w0 ⟨rfl,h2⟩
   have iV:=Lib.hid (HK.out.below h2)
   have HZ0:=Lib.hid ((h2.block _ (Array.getElem?_eq_some_iff.1 HZ.out).1).trans HZ.out)
   clear h2 HK HZ
   have HK:=iV
   have HZ:=HZ0
   clear iV HZ0
   go_wp2_with fail
   refine (bW R _ _ ⟨#[33]⟩ rfl h2 HK.out.rd).mono ?_
   rintro e w1 ⟨rfl,h2,h3⟩
   have jq:=Lib.hid (HK.out.then h2 h3)
   have HZ1:=Lib.hid ((HK.out.kept h3 (Nat.le_refl _) (Array.getElem?_eq_some_iff.1 HZ.out).1).trans HZ.out)
   clear h2 h3 HK HZ
   go_wp2_with fail
   refine (HX.out _ jq.out.rd).mono ?_
   cases res with
   | no r=>
     rintro e w2 ⟨rfl,h2,h3⟩
     have iG:=Lib.hid (jq.out.then h2 h3)
     have HZ2:=Lib.hid ((jq.out.kept h3 (Nat.le_refl _) (Array.getElem?_eq_some_iff.1 HZ1.out).1).trans HZ1.out)
     clear h2 h3 jq HZ1
     obtain ⟨⟨y0,y1,y2,y3⟩,f0,f1,f2,f3⟩:=fH HZ2.out
     have hlt2:w.heap.size < w2.heap.size:=(Array.getElem?_eq_some_iff.1 HZ2.out).1
     unfold zE
     go_wp2_with fail
     exact bodyPost_ret (v:= .tuple #[zE,.bool false]) (by simp [results,Tryz.results123,go_sem,y0,y1,y2,y3,hlt2,zE]) rfl (nJ (((iG.out.iH _ _ _ _ _ (Nat.le_refl _)).alloc _)))
   | ok x r=>
     rintro e w2 ⟨v,rfl,hv,h2,h3⟩
     have iG:=Lib.hid (jq.out.then h2 h3)
     have HZ2:=Lib.hid ((jq.out.kept h3 (Nat.le_refl _) (Array.getElem?_eq_some_iff.1 HZ1.out).1).trans HZ1.out)
     have lH:=Lib.hid (hv.mono (Array.getElem?_eq_some_iff.1 HZ1.out).1)
     clear h2 h3 jq HZ1 hv
     obtain ⟨ao,cap,rfl,hok,hst⟩:=lH.out
     have HE:=Lib.hid (And.intro hok hst)
     clear hok hst lH
     obtain ⟨⟨y0,y1,y2,y3⟩,f0,f1,f2,f3⟩:=fH HZ2.out
     have hlt2:w.heap.size < w2.heap.size:=(Array.getElem?_eq_some_iff.1 HZ2.out).1
     unfold exV
     go_wp2_with fail
     exact bodyPost_ret (v:= .tuple #[exV 5 0 ⟨#[]⟩ (.cons x.op x.n x.nm x.kids .nil) (some ⟨w2.heap.size + 1,0,none⟩) 1,.bool true]) (by simp [results,Tryz.results123,go_sem,exV,aP.len,y0,y1,y2,y3,hlt2,Nat.lt_succ_of_lt hlt2]) rfl (OB (by unfold aU; omega) iG.out hlt2 HE.out)
 ·have HX:Hid (∀w,aW w R ts.tail→Calls Tryz.prog 123 #[.pointer (some ⟨R.br,0,none⟩)] w (kE R w (pe f .un ts.tail))):=Lib.hid (iY.out .un ts.tail (by
   have:=HF.out; have:=at_len h1; simp only [enough,wt] at *; omega))
  rw [XO h1]
  clear iY HF
  generalize pe f .un ts.tail=res at *
  go_enter Tryz.func123,Tryz.ntmps123
  go_upto_region 1 with fail
  generalize hW:World.alloc w _=W
  have HK:Hid (Wk R w W ts):=Lib.hid (by rw [← hW]; exact (Wk.start HI.out).alloc _)
  have HZ:Hid (W.heap[w.heap.size]? =some (.cells #[.int .i64 0,.int .i64 0,.string ⟨#[]⟩,.slice none 0 0] 45 (0,0))):=Lib.hid (by rw [← hW]; exact heap_alloc_new _ _)
  clear hW
  go_wp2_with fail
  refine (bW R _ _ ⟨#[45]⟩ rfl h1 HK.out.rd).mono ?_
  rintro e w1 ⟨rfl,h2,h3⟩
  have jq:=Lib.hid (HK.out.then h2 h3)
  have HZ1:=Lib.hid ((HK.out.kept h3 (Nat.le_refl _) (Array.getElem?_eq_some_iff.1 HZ.out).1).trans HZ.out)
  clear h2 h3 HK HZ
  go_wp2_with fail
  refine (HX.out _ jq.out.rd).mono ?_
  cases res with
  | no r=>
    rintro e w2 ⟨rfl,h2,h3⟩
    have iG:=Lib.hid (jq.out.then h2 h3)
    have HZ2:=Lib.hid ((jq.out.kept h3 (Nat.le_refl _) (Array.getElem?_eq_some_iff.1 HZ1.out).1).trans HZ1.out)
    clear h2 h3 jq HZ1
    obtain ⟨⟨y0,y1,y2,y3⟩,f0,f1,f2,f3⟩:=fH HZ2.out
    have hlt2:w.heap.size < w2.heap.size:=(Array.getElem?_eq_some_iff.1 HZ2.out).1
    unfold zE
    go_wp2_with fail
    exact bodyPost_ret (v:= .tuple #[zE,.bool false]) (by simp [results,Tryz.results123,go_sem,y0,y1,y2,y3,hlt2,zE]) rfl (nJ (((iG.out.iH _ _ _ _ _ (Nat.le_refl _)).alloc _)))
  | ok x r=>
    rintro e w2 ⟨v,rfl,hv,h2,h3⟩
    have iG:=Lib.hid (jq.out.then h2 h3)
    have HZ2:=Lib.hid ((jq.out.kept h3 (Nat.le_refl _) (Array.getElem?_eq_some_iff.1 HZ1.out).1).trans HZ1.out)
    have lH:=Lib.hid (hv.mono (Array.getElem?_eq_some_iff.1 HZ1.out).1)
    clear h2 h3 jq HZ1 hv
    obtain ⟨ao,cap,rfl,hok,hst⟩:=lH.out
    have HE:=Lib.hid (And.intro hok hst)
    clear hok hst lH
    obtain ⟨⟨y0,y1,y2,y3⟩,f0,f1,f2,f3⟩:=fH HZ2.out
    have hlt2:w.heap.size < w2.heap.size:=(Array.getElem?_eq_some_iff.1 HZ2.out).1
    unfold exV
    go_wp2_with fail
    exact bodyPost_ret (v:= .tuple #[exV 4 0 ⟨#[]⟩ (.cons x.op x.n x.nm x.kids .nil) (some ⟨w2.heap.size + 1,0,none⟩) 1,.bool true]) (by simp [results,Tryz.results123,go_sem,exV,aP.len,y0,y1,y2,y3,hlt2,Nat.lt_succ_of_lt hlt2]) rfl (OB (by unfold aU; omega) iG.out hlt2 HE.out)
end Go.Proofs.YtehnipchbmjlhaaGreatDoor
end
section
namespace Go.Proofs.YtehnipchbmjlhaaGreatDoor
open Go.RowKit
open Md Pz
theorem Vv {f:Nat} {ts:aA} (h:isNum ts=true):pe (f + 1) .pr ts= .ok ⟨1,(Tk.val (aF ts):Nat),⟨#[]⟩,.nil⟩ ts.tail:=by
 conv=>lhs; unfold pe
 rw [if_pos h]
theorem Zk {f:Nat} {ts:aA} (h0:isNum ts=false) (h:isName ts=true) (h1:at' [91] ts.tail=true):pe (f + 1) .pr ts=((pe f (.bin 1) ts.tail.tail).close [93]).map (XQ (tx (aF ts))):=by
 conv=>lhs; unfold pe
 rw [if_neg (by rw [h0]; decide),if_pos h,if_pos h1]
 rfl
theorem Z9 {f:Nat} {ts:aA} (h0:isNum ts=false) (h:isName ts=true) (h1:at' [91] ts.tail=false):pe (f + 1) .pr ts= .ok ⟨2,0,tx (aF ts),.nil⟩ ts.tail:=by
 conv=>lhs; unfold pe
 rw [if_neg (by rw [h0]; decide),if_pos h,if_neg (by rw [h1]; decide)]
theorem XW {f:Nat} {ts:aA} (h0:isNum ts=false) (h:isName ts=false) (h1:at' [40] ts=true):pe (f + 1) .pr ts=(pe f (.bin 1) ts.tail).close [41]:=by
 conv=>lhs; unfold pe
 rw [if_neg (by rw [h0]; decide),if_neg (by rw [h]; decide),if_pos h1]
theorem V6 {f:Nat} {ts:aA} (h0:isNum ts=false) (h:isName ts=false) (h1:at' [40] ts=false):pe (f + 1) .pr ts= .no ts:=by
 conv=>lhs; unfold pe
 rw [if_neg (by rw [h0]; decide),if_neg (by rw [h]; decide),if_neg (by rw [h1]; decide)]
theorem Gv {R:Rp} {w w2:World} {r:aA} {op n:Int} {nm:ByteArray} {a b c d:Value} (h:Wk R w w2 r) (h1:aU op) (h2:aU n) (h3:nm.size≤maxLen):
 kE R w (.ok ⟨op,n,nm,.nil⟩ r) (.returned (.tuple #[exV op n nm .nil none 0,.bool true])) (iH w2 w.heap.size a b c d):=by
 have hk:=h.iH w.heap.size a b c d (Nat.le_refl _)
 exact ⟨_,rfl,⟨none,0,rfl,⟨h1,h2,h3,Nat.zero_le _⟩,fun _ _=>trivial⟩,hk.rd,hk.gr⟩
theorem XC {R:Rp} {w w2:World} {r:aA} {x:E} {ao:Option Addr} {cap:Nat} {nm:ByteArray} {t:TypeId} (hn:nm.size≤maxLen) (h:Wk R w w2 r) (hlt:w.heap.size < w2.heap.size) (hE:mO x∧dB (w.heap.size + 1) w2 (fun w2=>x.kids.At w2 w2.heap.size ao 0)):
 kE R w (.ok (XQ nm x) r) (.returned (.tuple #[exV 3 0 nm (.cons x.op x.n x.nm x.kids .nil) (some ⟨w2.heap.size,0,none⟩) 1,.bool true]))
  ((iH w2 w.heap.size (.int .i64 3) (.int .i64 0) (.string nm) (.slice (some ⟨w2.heap.size,0,none⟩) 1 1)).alloc (.cells #[.int .i64 x.op,.int .i64 x.n,.string x.nm,.slice ao x.kids.len cap] t)):=by
 have hk:=h.iH w.heap.size (.int .i64 3) (.int .i64 0) (.string nm) (.slice (some ⟨w2.heap.size,0,none⟩) 1 1) (Nat.le_refl _)
 have ha:=Ce w2 w.heap.size (.int .i64 3) (.int .i64 0) (.string nm) (.slice (some ⟨w2.heap.size,0,none⟩) 1 1)
 have hs:=Av w2 w.heap.size (.int .i64 3) (.int .i64 0) (.string nm) (.slice (some ⟨w2.heap.size,0,none⟩) 1 1)
 generalize iH w2 w.heap.size _ _ _ _=W at *
 refine ⟨_,rfl,⟨_,1,rfl,⟨(by unfold aU; decide:aU 3),sw,hn,by simp [XQ,aP.len,maxLen]⟩,?_⟩,(hk.alloc _).rd,(hk.alloc _).gr⟩
 rw [← hs]
 exact (rE (heap_alloc_new _ _) (by omega) hE.1 ((hE.2.next ha).next (aY (ah _ _)))).mono (Nat.le_succ _)
theorem G6 {x:E} {r:aA} {y:List UInt8} (h:at' y r=true):(bn.ok x r).close y= .ok x r.tail:=by show ite _ _ _=_; rw [if_pos h]
theorem F5 {x:E} {r:aA} {y:List UInt8} (h:at' y r=false):(bn.ok x r).close y= .no r:=by show ite _ _ _=_; rw [if_neg (by rw [h]; decide)]
theorem mH {l:List UInt8} (h:Tk.dZ l=true):(tx l).size≤maxLen:=by
 unfold Tk.dZ at h
 simp only [Bool.and_eq_true,decide_eq_true_eq] at h
 have:(tx l).size=l.length:=by simp [tx,ByteArray.size]
 unfold maxLen; omega
theorem Ea (R:Rp) (f:Nat) (ts:aA) (h:sN R f ts (.bin 1)) (w:World) (hI:aW w R ts):Calls Tryz.prog 52 #[.pointer (some ⟨R.br,0,none⟩)] w (kE R w (pe f (.bin 1) ts)):=by
 have HI:=Lib.hid hI
 have HX:Hid (∀w,aW w R ts→Calls Tryz.prog 91 #[.pointer (some ⟨R.br,0,none⟩),.int .i64 1] w (kE R w (pe f (.bin 1) ts))):=Lib.hid (h (by decide))
 clear hI h
 generalize pe f (.bin 1) ts=res at *
 go_enter Tryz.func52,Tryz.ntmps52
 go_upto_region 1 with fail
 generalize hW:World.alloc w _=W
 have HK:Hid (Wk R w W ts):=Lib.hid (by rw [← hW]; exact (Wk.start HI.out).alloc _)
 have HZ:Hid (W.heap[w.heap.size]? =some (.cells #[.int .i64 0,.int .i64 0,.string ⟨#[]⟩,.slice none 0 0] 45 (0,0))):=Lib.hid (by rw [← hW]; exact heap_alloc_new _ _)
 clear hW
 go_wp2_with fail
 refine (HX.out _ HK.out.rd).mono ?_
 cases res with
 | no r=>
   rintro e w2 ⟨rfl,h2,h3⟩
   have iG:=Lib.hid (HK.out.then h2 h3)
   have HZ2:=Lib.hid ((HK.out.kept h3 (Nat.le_refl _) (Array.getElem?_eq_some_iff.1 HZ.out).1).trans HZ.out)
   clear h2 h3 HK HZ
   obtain ⟨⟨y0,y1,y2,y3⟩,f0,f1,f2,f3⟩:=fH HZ2.out
   unfold zE
   go_wp2_with fail
   exact bodyPost_ret (v:= .tuple #[zE,.bool false]) (by simp [results,Tryz.results52,go_sem,y0,y1,y2,y3,zE]) rfl (nJ (iG.out.iH _ _ _ _ _ (Nat.le_refl _)))
 | ok x r=>
   rintro e w2 ⟨v,rfl,hv,h2,h3⟩
   have iG:=Lib.hid (HK.out.then h2 h3)
   have HZ2:=Lib.hid ((HK.out.kept h3 (Nat.le_refl _) (Array.getElem?_eq_some_iff.1 HZ.out).1).trans HZ.out)
   have lH:=Lib.hid (hv.mono (Array.getElem?_eq_some_iff.1 HZ.out).1)
   clear h2 h3 HK HZ hv
   obtain ⟨ao,cap,rfl,hok,hst⟩:=lH.out
   have HE:=Lib.hid (And.intro hok hst)
   clear hok hst lH
   obtain ⟨⟨y0,y1,y2,y3⟩,f0,f1,f2,f3⟩:=fH HZ2.out
   unfold exV
   go_wp2_with fail
   exact bodyPost_ret (v:= .tuple #[exV x.op x.n x.nm x.kids ao cap,.bool true]) (by simp [results,Tryz.results52,go_sem,exV,y0,y1,y2,y3]) rfl (xO iG.out HE.out)
theorem Ht (R:Rp) (f:Nat) (ts:aA) (hf:enough .pr ts (f + 1)) (ih: ∀m ts,enough m ts f→sN R f ts m):sN R (f + 1) ts .pr:=by
 intro w hI
 have HI:=Lib.hid hI
 have iY:=Lib.hid ih
 have HF:=Lib.hid hf
 clear hI ih hf
 cases h0:isNum ts
 ·cases h1:isName ts
  ·cases h2:at' [40] ts
   ·rw [V6 h0 h1 h2]
    clear iY HF
    go_enter Tryz.func139,Tryz.ntmps139
    go_upto_region 1 with fail
    generalize hW:World.alloc w _=W
    have HK:Hid (Wk R w W ts):=Lib.hid (by rw [← hW]; exact (Wk.start HI.out).alloc _)
    have HZ:Hid (W.heap[w.heap.size]? =some (.cells #[.int .i64 0,.int .i64 0,.string ⟨#[]⟩,.slice none 0 0] 45 (0,0))):=Lib.hid (by rw [← hW]; exact heap_alloc_new _ _)
    clear hW
    go_wp2_with fail
    refine (uM R _ _ h0 HK.out.rd).mono ?_
    rintro e w0 ⟨rfl,h2⟩
    have iV:=Lib.hid (HK.out.below h2)
    have HZ0:=Lib.hid ((h2.block _ (Array.getElem?_eq_some_iff.1 HZ.out).1).trans HZ.out)
    clear h2 HK HZ
    have HK:=iV
    have HZ:=HZ0
    clear iV HZ0
    go_wp2_with fail
    refine (jZ R _ _ h1 HK.out.rd).mono ?_
    rintro e w0 ⟨rfl,h2⟩
    have iV:=Lib.hid (HK.out.below h2)
    have HZ0:=Lib.hid ((h2.block _ (Array.getElem?_eq_some_iff.1 HZ.out).1).trans HZ.out)
    clear h2 HK HZ
    have HK:=iV
    have HZ:=HZ0
    clear iV HZ0
    go_wp2_with fail
    refine (dK R _ _ ⟨#[40]⟩ rfl h2 HK.out.rd).mono ?_
    rintro e w0 ⟨rfl,h2⟩
    have iV:=Lib.hid (HK.out.below h2)
    have HZ0:=Lib.hid ((h2.block _ (Array.getElem?_eq_some_iff.1 HZ.out).1).trans HZ.out)
    clear h2 HK HZ
    have HK:=iV
    have HZ:=HZ0
    clear iV HZ0
    obtain ⟨⟨y0,y1,y2,y3⟩,f0,f1,f2,f3⟩:=fH HZ.out
    go_wp2_with fail
    exact bodyPost_ret (v:= .tuple #[zE,.bool false]) (by simp [results,Tryz.results139,go_sem,y0,y1,y2,y3,zE]) rfl (nJ (HK.out.iH _ _ _ _ _ (Nat.le_refl _)))
   ·have HX:Hid (∀w,aW w R ts.tail→Calls Tryz.prog 52 #[.pointer (some ⟨R.br,0,none⟩)] w (kE R w (pe f (.bin 1) ts.tail))):=Lib.hid (Ea R f ts.tail (iY.out (.bin 1) ts.tail (by
     have:=HF.out; have:=at_len h2; simp only [enough,wt] at *; omega)))
    rw [XW h0 h1 h2]
    clear iY HF
    generalize pe f (.bin 1) ts.tail=res at *
    go_enter Tryz.func139,Tryz.ntmps139
    go_upto_region 1 with fail
    generalize hW:World.alloc w _=W
    have HK:Hid (Wk R w W ts):=Lib.hid (by rw [← hW]; exact (Wk.start HI.out).alloc _)
    have HZ:Hid (W.heap[w.heap.size]? =some (.cells #[.int .i64 0,.int .i64 0,.string ⟨#[]⟩,.slice none 0 0] 45 (0,0))):=Lib.hid (by rw [← hW]; exact heap_alloc_new _ _)
    clear hW
    go_wp2_with fail
    refine (uM R _ _ h0 HK.out.rd).mono ?_
    rintro e w0 ⟨rfl,h2⟩
    have iV:=Lib.hid (HK.out.below h2)
    have HZ0:=Lib.hid ((h2.block _ (Array.getElem?_eq_some_iff.1 HZ.out).1).trans HZ.out)
    clear h2 HK HZ
    have HK:=iV
    have HZ:=HZ0
    clear iV HZ0
    go_wp2_with fail
    refine (jZ R _ _ h1 HK.out.rd).mono ?_
    rintro e w0 ⟨rfl,h2⟩
    have iV:=Lib.hid (HK.out.below h2)
    have HZ0:=Lib.hid ((h2.block _ (Array.getElem?_eq_some_iff.1 HZ.out).1).trans HZ.out)
    clear h2 HK HZ
    have HK:=iV
    have HZ:=HZ0
    clear iV HZ0
    go_wp2_with fail
    refine (bW R _ _ ⟨#[40]⟩ rfl h2 HK.out.rd).mono ?_
    rintro e w1 ⟨rfl,h2,h3⟩
    have jq:=Lib.hid (HK.out.then h2 h3)
    have HZ1:=Lib.hid ((HK.out.kept h3 (Nat.le_refl _) (Array.getElem?_eq_some_iff.1 HZ.out).1).trans HZ.out)
    clear h2 h3 HK HZ
    go_wp2_with fail
    refine (HX.out _ jq.out.rd).mono ?_
    cases res with
    | no r=>
      rintro e w2 ⟨rfl,h2,h3⟩
      have iG:=Lib.hid (jq.out.then h2 h3)
      have HZ2:=Lib.hid ((jq.out.kept h3 (Nat.le_refl _) (Array.getElem?_eq_some_iff.1 HZ1.out).1).trans HZ1.out)
      clear h2 h3 jq HZ1
      obtain ⟨⟨y0,y1,y2,y3⟩,f0,f1,f2,f3⟩:=fH HZ2.out
      have hlt2:w.heap.size < w2.heap.size:=(Array.getElem?_eq_some_iff.1 HZ2.out).1
      unfold zE
      go_wp2_with fail
      exact bodyPost_ret (v:= .tuple #[zE,.bool false]) (by simp [results,Tryz.results139,go_sem,y0,y1,y2,y3,hlt2,zE]) rfl (nJ ((iG.out.iH _ _ _ _ _ (Nat.le_refl _)).alloc _))
    | ok x r=>
      rintro e w2 ⟨v,rfl,hv,h2,h3⟩
      have iG:=Lib.hid (jq.out.then h2 h3)
      have HZ2:=Lib.hid ((jq.out.kept h3 (Nat.le_refl _) (Array.getElem?_eq_some_iff.1 HZ1.out).1).trans HZ1.out)
      have lH:=Lib.hid (hv.mono (Array.getElem?_eq_some_iff.1 HZ1.out).1)
      clear h2 h3 jq HZ1 hv
      obtain ⟨ao,cap,rfl,hok,hst⟩:=lH.out
      have HE:=Lib.hid (And.intro hok hst)
      clear hok hst lH
      unfold exV
      go_upto_region 15 with fail
      obtain ⟨g,hg⟩: ∃g,w2.heap.size=g:=⟨_,rfl⟩
      generalize hW:World.alloc w2 _=W2
      have jN:Hid (Wk R w W2 r):=Lib.hid (by rw [← hW]; exact iG.out.alloc _)
      have HB3:Hid (W2.heap[g]? =some (.cells #[.int .i64 x.op,.int .i64 x.n,.string x.nm,.slice ao x.kids.len cap] 45 (0,0))):=Lib.hid (by rw [← hW,← hg]; exact heap_alloc_new _ _)
      have HZ3:Hid (W2.heap[w.heap.size]? =some (.cells #[.int .i64 0,.int .i64 0,.string ⟨#[]⟩,.slice none 0 0] 45 (0,0))):=Lib.hid (by rw [← hW]; exact (heap_alloc_old _ _ (Array.getElem?_eq_some_iff.1 HZ2.out).1).trans HZ2.out)
      have kH:Hid (mO x∧dB (w.heap.size + 1) W2 (fun w2=>x.kids.At w2 w2.heap.size ao 0)):=Lib.hid ⟨HE.out.1,by rw [← hW]; exact HE.out.2.next (aY (ah _ _))⟩
      have HG:Hid (w.heap.size < g):=Lib.hid (by rw [← hg]; exact (Array.getElem?_eq_some_iff.1 HZ2.out).1)
      have zD:Hid (fT (w.heap.size + 1) (some g) W2 (fun w2=>x.kids.At w2 w2.heap.size ao 0)):=Lib.hid (by rw [← hW]; exact Cj HE.out.2 (aY (ah _ _)) (Nat.le_of_eq hg))
      rw [hg]
      clear hW hg iG HZ2 HE
      cases h4:at' [41] r
      ·go_wp2_with fail
       refine (dK R _ _ ⟨#[41]⟩ rfl h4 jN.out.rd).mono ?_
       rintro e w3 ⟨rfl,h2⟩
       have iG:=Lib.hid (jN.out.below h2)
       have HZ2:=Lib.hid ((h2.block _ (Array.getElem?_eq_some_iff.1 HZ3.out).1).trans HZ3.out)
       clear h2 jN HZ3 HB3 kH
       obtain ⟨⟨y0,y1,y2,y3⟩,f0,f1,f2,f3⟩:=fH HZ2.out
       have hlt2:w.heap.size < w3.heap.size:=(Array.getElem?_eq_some_iff.1 HZ2.out).1
       go_wp2_with fail
       exact bodyPost_ret (v:= .tuple #[zE,.bool false]) (by simp [results,Tryz.results139,go_sem,y0,y1,y2,y3,hlt2,zE]) rfl (by rw [F5 h4]; exact nJ (iG.out.iH _ _ _ _ _ (Nat.le_refl _)))
      ·go_wp2_with fail
       refine (bW R _ _ ⟨#[41]⟩ rfl h4 jN.out.rd).mono ?_
       rintro e w3 ⟨rfl,h2,h3⟩
       have iG:=Lib.hid (jN.out.then h2 h3)
       have HZ2:=Lib.hid ((jN.out.kept h3 (Nat.le_refl _) (Array.getElem?_eq_some_iff.1 HZ3.out).1).trans HZ3.out)
       have HB2:=Lib.hid ((jN.out.kept h3 (Nat.le_of_lt HG.out) (Array.getElem?_eq_some_iff.1 HB3.out).1).trans HB3.out)
       have HE:Hid (mO x∧dB (w.heap.size + 1) w3 (fun w2=>x.kids.At w2 w2.heap.size ao 0)):=Lib.hid ⟨kH.out.1,kH.out.2.next (nL h3 (Nat.lt_succ_of_lt jN.out.lt))⟩
       clear h2 h3 jN HZ3 HB3 kH
       obtain ⟨⟨y0,y1,y2,y3⟩,f0,f1,f2,f3⟩:=fH HZ2.out
       have z0:w3.cell? ⟨g,0,none⟩=some (.int .i64 x.op):=aG HB2.out rfl
       have z1:w3.cell? ⟨g,1,none⟩=some (.int .i64 x.n):=aG HB2.out rfl
       have z2:w3.cell? ⟨g,2,none⟩=some (.string x.nm):=aG HB2.out rfl
       have z3:w3.cell? ⟨g,3,none⟩=some (.slice ao x.kids.len cap):=aG HB2.out rfl
       have hlt2:w.heap.size < w3.heap.size:=(Array.getElem?_eq_some_iff.1 HZ2.out).1
       have hlt3:g < w3.heap.size:=(Array.getElem?_eq_some_iff.1 HB2.out).1
       go_wp2_with fail
       exact bodyPost_ret (v:= .tuple #[exV x.op x.n x.nm x.kids ao cap,.bool true]) (by simp [results,Tryz.results139,go_sem,exV,y0,y1,y2,y3]) rfl (by rw [G6 h4]; exact xO iG.out HE.out)
  ·have qA:Hid ((tx (aF ts)).size≤maxLen):=Lib.hid (mH (mK HI.out.ts h1))
   cases h2:at' [91] ts.tail
   ·rw [Z9 h0 h1 h2]
    clear iY HF
    go_enter Tryz.func139,Tryz.ntmps139
    go_upto_region 1 with fail
    generalize hW:World.alloc w _=W
    have HK:Hid (Wk R w W ts):=Lib.hid (by rw [← hW]; exact (Wk.start HI.out).alloc _)
    have HZ:Hid (W.heap[w.heap.size]? =some (.cells #[.int .i64 0,.int .i64 0,.string ⟨#[]⟩,.slice none 0 0] 45 (0,0))):=Lib.hid (by rw [← hW]; exact heap_alloc_new _ _)
    clear hW
    go_wp2_with fail
    refine (uM R _ _ h0 HK.out.rd).mono ?_
    rintro e w0 ⟨rfl,h2⟩
    have iV:=Lib.hid (HK.out.below h2)
    have HZ0:=Lib.hid ((h2.block _ (Array.getElem?_eq_some_iff.1 HZ.out).1).trans HZ.out)
    clear h2 HK HZ
    have HK:=iV
    have HZ:=HZ0
    clear iV HZ0
    go_wp2_with fail
    refine (jf R _ _ h1 HK.out.rd).mono ?_
    rintro e w0 ⟨rfl,h2,h3⟩
    have iV:=Lib.hid (HK.out.then h2 h3)
    have HZ0:=Lib.hid ((HK.out.kept h3 (Nat.le_refl _) (Array.getElem?_eq_some_iff.1 HZ.out).1).trans HZ.out)
    clear h2 h3 HK HZ
    have HK:=iV
    have HZ:=HZ0
    clear iV HZ0
    go_wp2_with fail
    refine (dK R _ _ ⟨#[91]⟩ rfl h2 HK.out.rd).mono ?_
    rintro e w0 ⟨rfl,h2⟩
    have iV:=Lib.hid (HK.out.below h2)
    have HZ0:=Lib.hid ((h2.block _ (Array.getElem?_eq_some_iff.1 HZ.out).1).trans HZ.out)
    clear h2 HK HZ
    have HK:=iV
    have HZ:=HZ0
    clear iV HZ0
    obtain ⟨⟨y0,y1,y2,y3⟩,f0,f1,f2,f3⟩:=fH HZ.out
    go_wp2_with fail
    exact bodyPost_ret (v:= .tuple #[exV 2 0 (tx (aF ts)) .nil none 0,.bool true]) (by simp [results,Tryz.results139,go_sem,y0,y1,y2,y3,exV,aP.len]) rfl (Gv HK.out (by unfold aU; decide) sw qA.out)
   ·have HX:Hid (∀w,aW w R ts.tail.tail→Calls Tryz.prog 52 #[.pointer (some ⟨R.br,0,none⟩)] w (kE R w (pe f (.bin 1) ts.tail.tail))):=Lib.hid (Ea R f ts.tail.tail (iY.out (.bin 1) ts.tail.tail (by
     have:=HF.out; have:=vv h1; have:=at_len h2; simp only [enough,wt] at *; omega)))
    rw [Zk h0 h1 h2]
    clear iY HF
    generalize pe f (.bin 1) ts.tail.tail=res at *
    obtain ⟨nm,ND⟩: ∃nm,Hid (tx (aF ts)=nm):=⟨_,Lib.hid rfl⟩
    rw [ND.out] at qA ⊢
    go_enter Tryz.func139,Tryz.ntmps139
    go_upto_region 1 with fail
    generalize hW:World.alloc w _=W
    have HK:Hid (Wk R w W ts):=Lib.hid (by rw [← hW]; exact (Wk.start HI.out).alloc _)
    have HZ:Hid (W.heap[w.heap.size]? =some (.cells #[.int .i64 0,.int .i64 0,.string ⟨#[]⟩,.slice none 0 0] 45 (0,0))):=Lib.hid (by rw [← hW]; exact heap_alloc_new _ _)
    clear hW
    go_wp2_with fail
    refine (uM R _ _ h0 HK.out.rd).mono ?_
    rintro e w0 ⟨rfl,h2⟩
    have iV:=Lib.hid (HK.out.below h2)
    have HZ0:=Lib.hid ((h2.block _ (Array.getElem?_eq_some_iff.1 HZ.out).1).trans HZ.out)
    clear h2 HK HZ
    have HK:=iV
    have HZ:=HZ0
    clear iV HZ0
    go_wp2_with fail
    refine (jf R _ _ h1 HK.out.rd).mono ?_
    rw [ND.out]
    rintro e w0 ⟨rfl,h2,h3⟩
    have iV:=Lib.hid (HK.out.then h2 h3)
    have HZ0:=Lib.hid ((HK.out.kept h3 (Nat.le_refl _) (Array.getElem?_eq_some_iff.1 HZ.out).1).trans HZ.out)
    clear h2 h3 HK HZ
    have HK:=iV
    have HZ:=HZ0
    clear iV HZ0
    go_wp2_with fail
    refine (bW R _ _ ⟨#[91]⟩ rfl h2 HK.out.rd).mono ?_
    rintro e w1 ⟨rfl,h2,h3⟩
    have jq:=Lib.hid (HK.out.then h2 h3)
    have HZ1:=Lib.hid ((HK.out.kept h3 (Nat.le_refl _) (Array.getElem?_eq_some_iff.1 HZ.out).1).trans HZ.out)
    clear h2 h3 HK HZ
    go_wp2_with fail
    refine (HX.out _ jq.out.rd).mono ?_
    cases res with
    | no r=>
      rintro e w2 ⟨rfl,h2,h3⟩
      have iG:=Lib.hid (jq.out.then h2 h3)
      have HZ2:=Lib.hid ((jq.out.kept h3 (Nat.le_refl _) (Array.getElem?_eq_some_iff.1 HZ1.out).1).trans HZ1.out)
      clear h2 h3 jq HZ1
      obtain ⟨⟨y0,y1,y2,y3⟩,f0,f1,f2,f3⟩:=fH HZ2.out
      have hlt2:w.heap.size < w2.heap.size:=(Array.getElem?_eq_some_iff.1 HZ2.out).1
      unfold zE
      go_wp2_with fail
      exact bodyPost_ret (v:= .tuple #[zE,.bool false]) (by simp [results,Tryz.results139,go_sem,y0,y1,y2,y3,hlt2,zE]) rfl (nJ ((iG.out.iH _ _ _ _ _ (Nat.le_refl _)).alloc _))
    | ok x r=>
      rintro e w2 ⟨v,rfl,hv,h2,h3⟩
      have iG:=Lib.hid (jq.out.then h2 h3)
      have HZ2:=Lib.hid ((jq.out.kept h3 (Nat.le_refl _) (Array.getElem?_eq_some_iff.1 HZ1.out).1).trans HZ1.out)
      have lH:=Lib.hid (hv.mono (Array.getElem?_eq_some_iff.1 HZ1.out).1)
      clear h2 h3 jq HZ1 hv
      obtain ⟨ao,cap,rfl,hok,hst⟩:=lH.out
      have HE:=Lib.hid (And.intro hok hst)
      clear hok hst lH
      unfold exV
      go_upto_region 9 with fail
      obtain ⟨g,hg⟩: ∃g,w2.heap.size=g:=⟨_,rfl⟩
      generalize hW:World.alloc w2 _=W2
      have jN:Hid (Wk R w W2 r):=Lib.hid (by rw [← hW]; exact iG.out.alloc _)
      have HB3:Hid (W2.heap[g]? =some (.cells #[.int .i64 x.op,.int .i64 x.n,.string x.nm,.slice ao x.kids.len cap] 45 (0,0))):=Lib.hid (by rw [← hW,← hg]; exact heap_alloc_new _ _)
      have HZ3:Hid (W2.heap[w.heap.size]? =some (.cells #[.int .i64 0,.int .i64 0,.string ⟨#[]⟩,.slice none 0 0] 45 (0,0))):=Lib.hid (by rw [← hW]; exact (heap_alloc_old _ _ (Array.getElem?_eq_some_iff.1 HZ2.out).1).trans HZ2.out)
      have kH:Hid (mO x∧dB (w.heap.size + 1) W2 (fun w2=>x.kids.At w2 w2.heap.size ao 0)):=Lib.hid ⟨HE.out.1,by rw [← hW]; exact HE.out.2.next (aY (ah _ _))⟩
      have HG:Hid (w.heap.size < g):=Lib.hid (by rw [← hg]; exact (Array.getElem?_eq_some_iff.1 HZ2.out).1)
      have zD:Hid (fT (w.heap.size + 1) (some g) W2 (fun w2=>x.kids.At w2 w2.heap.size ao 0)):=Lib.hid (by rw [← hW]; exact Cj HE.out.2 (aY (ah _ _)) (Nat.le_of_eq hg))
      rw [hg]
      clear hW hg iG HZ2 HE
      cases h4:at' [93] r
      ·go_wp2_with fail
       refine (dK R _ _ ⟨#[93]⟩ rfl h4 jN.out.rd).mono ?_
       rintro e w3 ⟨rfl,h2⟩
       have iG:=Lib.hid (jN.out.below h2)
       have HZ2:=Lib.hid ((h2.block _ (Array.getElem?_eq_some_iff.1 HZ3.out).1).trans HZ3.out)
       clear h2 jN HZ3 HB3 kH
       obtain ⟨⟨y0,y1,y2,y3⟩,f0,f1,f2,f3⟩:=fH HZ2.out
       have hlt2:w.heap.size < w3.heap.size:=(Array.getElem?_eq_some_iff.1 HZ2.out).1
       go_wp2_with fail
       exact bodyPost_ret (v:= .tuple #[zE,.bool false]) (by simp [results,Tryz.results139,go_sem,y0,y1,y2,y3,hlt2,zE]) rfl (by rw [F5 h4]; exact nJ (iG.out.iH _ _ _ _ _ (Nat.le_refl _)))
      ·go_wp2_with fail
       refine (bW R _ _ ⟨#[93]⟩ rfl h4 jN.out.rd).mono ?_
       rintro e w3 ⟨rfl,h2,h3⟩
       have iG:=Lib.hid (jN.out.then h2 h3)
       have HZ2:=Lib.hid ((jN.out.kept h3 (Nat.le_refl _) (Array.getElem?_eq_some_iff.1 HZ3.out).1).trans HZ3.out)
       have HB2:=Lib.hid ((jN.out.kept h3 (Nat.le_of_lt HG.out) (Array.getElem?_eq_some_iff.1 HB3.out).1).trans HB3.out)
       have HE:Hid (mO x∧dB (w.heap.size + 1) w3 (fun w2=>x.kids.At w2 w2.heap.size ao 0)):=Lib.hid ⟨kH.out.1,kH.out.2.next (nL h3 (Nat.lt_succ_of_lt jN.out.lt))⟩
       clear h2 h3 jN HZ3 HB3 kH
       obtain ⟨⟨y0,y1,y2,y3⟩,f0,f1,f2,f3⟩:=fH HZ2.out
       have z0:w3.cell? ⟨g,0,none⟩=some (.int .i64 x.op):=aG HB2.out rfl
       have z1:w3.cell? ⟨g,1,none⟩=some (.int .i64 x.n):=aG HB2.out rfl
       have z2:w3.cell? ⟨g,2,none⟩=some (.string x.nm):=aG HB2.out rfl
       have z3:w3.cell? ⟨g,3,none⟩=some (.slice ao x.kids.len cap):=aG HB2.out rfl
       have hlt2:w.heap.size < w3.heap.size:=(Array.getElem?_eq_some_iff.1 HZ2.out).1
       have hlt3:g < w3.heap.size:=(Array.getElem?_eq_some_iff.1 HB2.out).1
       go_wp2_with fail
       exact bodyPost_ret (v:= .tuple #[exV 3 0 nm (.cons x.op x.n x.nm x.kids .nil) (some ⟨w3.heap.size,0,none⟩) 1,.bool true]) (by simp [results,Tryz.results139,go_sem,exV,aP.len,y0,y1,y2,y3,hlt2]) rfl (by rw [G6 h4]; exact XC qA.out iG.out hlt2 HE.out)
 ·have HV:Hid (aU ((Tk.val (aF ts):Nat):Int)):=Lib.hid (by have:=DZ HI.out.ts h0; unfold aU; omega)
  rw [Vv h0]
  clear iY HF
  go_enter Tryz.func139,Tryz.ntmps139
  go_upto_region 1 with fail
  generalize hW:World.alloc w _=W
  have HK:Hid (Wk R w W ts):=Lib.hid (by rw [← hW]; exact (Wk.start HI.out).alloc _)
  have HZ:Hid (W.heap[w.heap.size]? =some (.cells #[.int .i64 0,.int .i64 0,.string ⟨#[]⟩,.slice none 0 0] 45 (0,0))):=Lib.hid (by rw [← hW]; exact heap_alloc_new _ _)
  clear hW
  go_wp2_with fail
  refine (xG R _ _ h0 HK.out.rd).mono ?_
  rintro e w0 ⟨rfl,h2,h3⟩
  have iV:=Lib.hid (HK.out.then h2 h3)
  have HZ0:=Lib.hid ((HK.out.kept h3 (Nat.le_refl _) (Array.getElem?_eq_some_iff.1 HZ.out).1).trans HZ.out)
  clear h2 h3 HK HZ
  have HK:=iV
  have HZ:=HZ0
  clear iV HZ0
  obtain ⟨⟨y0,y1,y2,y3⟩,f0,f1,f2,f3⟩:=fH HZ.out
  go_wp2_with fail
  exact bodyPost_ret (v:= .tuple #[exV 1 ((Tk.val (aF ts):Nat):Int) ⟨#[]⟩ .nil none 0,.bool true]) (by simp [results,Tryz.results139,go_sem,y0,y1,y2,y3,exV,aP.len]) rfl (Gv HK.out (by unfold aU; decide) HV.out (Nat.zero_le _))
end Go.Proofs.YtehnipchbmjlhaaGreatDoor
end
section
namespace Go.Proofs.YtehnipchbmjlhaaGreatDoor
open Go.RowKit
open Md Pz
theorem Ox {B:Nat} {w:World} {g L:Nat} {op n op' n':Int} {nm nm':ByteArray} {kids eD:aP} {ao gQ:Option Addr} {cap cap':Nat} {t:TypeId} {fr:Nat × Nat} (hb:w.heap[g]? =some (.cells (wM op n nm kids ao cap++wM op' n' nm' eD gQ cap').toArray t fr)) (ht:B≤g) (hL:g≠L) (hok:oz op n nm kids) (hk:fT B (some L) w (fun w2=>kids.At w2 w2.heap.size ao 0)) (hok':oz op' n' nm' eD) (hk':fT B (some L) w (fun w2=>eD.At w2 w2.heap.size gQ 0)):
 fT B (some L) w (fun w2=>(aP.cons op n nm kids (.cons op' n' nm' eD .nil)).At w2 w2.heap.size (some ⟨g,0,none⟩) 0):=fun w2 h=>by
 have h2:=(h.2 g ht (by simp; exact hL) (Array.getElem?_eq_some_iff.1 hb).1).trans hb
 have hl:=(Array.getElem?_eq_some_iff.1 h2).1
 have hc: ∀j u,(wM op n nm kids ao cap++wM op' n' nm' eD gQ cap').toArray[j]? =some u→w2.cell? ⟨g,j,none⟩=some u:=fun j u hu=>aG h2 hu
 exact ⟨⟨g,0,ao,cap,rfl,hl,hc 0 _ rfl,hc 1 _ rfl,hc 2 _ rfl,hc 3 _ rfl,hok,hk w2 h⟩,⟨g,0,gQ,cap',rfl,hl,hc 4 _ rfl,hc 5 _ rfl,hc 6 _ rfl,hc 7 _ rfl,hok',hk' w2 h⟩,trivial⟩
def zC:Array Value:= #[.int .i64 0,.int .i64 0,.string ⟨#[]⟩,.slice none 0 0]
def N9 (R:Rp) (w:World) (f lv L:Nat) (res:bn E) (g:Nat) (wr:World):Prop:=
 ∃f' l rest ao cap,g=rest.length∧f'≤f∧enough (.lp lv l) rest f'∧res=pe f' (.lp lv l) rest∧Wk R w wr rest∧wr.heap[w.heap.size]? =some (.cells zC 45 (0,0))∧
  wr.heap[L]? =some (.cells (wM l.op l.n l.nm l.kids ao cap).toArray 45 (0,0))∧mO l∧fT (w.heap.size + 1) (some L) wr (fun w2=>l.kids.At w2 w2.heap.size ao 0)
theorem Ad {w:World} {g:Nat} {x:E} {ao:Option Addr} {cap:Nat} {t:TypeId} (h:w.heap[g]? =some (.cells (wM x.op x.n x.nm x.kids ao cap).toArray t (0,0))):
 (w.cell? ⟨g,0,none⟩=some (.int .i64 x.op)∧w.cell? ⟨g,1,none⟩=some (.int .i64 x.n)∧w.cell? ⟨g,2,none⟩=some (.string x.nm)∧w.cell? ⟨g,3,none⟩=some (.slice ao x.kids.len cap))∧w.frozen? ⟨g,0,none⟩=false∧w.frozen? ⟨g,1,none⟩=false∧w.frozen? ⟨g,2,none⟩=false∧w.frozen? ⟨g,3,none⟩=false:=
 ⟨⟨aG h rfl,aG h rfl,aG h rfl,aG h rfl⟩,aK h,aK h,aK h,aK h⟩
theorem PK {w:World} {g:Nat} {a b c d:Value} {v0 v1 v2 v3:Value} {t:TypeId} {fr:Nat × Nat} (h:w.heap[g]? =some (.cells #[a,b,c,d] t fr)):(iH w g v0 v1 v2 v3).heap[g]? =some (.cells #[v0,v1,v2,v3] t fr):=by
 unfold iH
 rw [bQ (bQ (bQ (bQ h v0) v1) v2) v3]; rfl
theorem J7 (w:World) {g k:Nat} (v0 v1 v2 v3:Value) (h:g≠k):(iH w g v0 v1 v2 v3).heap[k]? =w.heap[k]?:=by
 unfold iH
 rw [bJ _ _ _ rfl h,bJ _ _ _ rfl h,bJ _ _ _ rfl h,bJ _ _ _ rfl h]
theorem UJ {R:Rp} {w W:World} {rest:aA} {l x:E} {op:Int} {g:Nat} {fC bS:Option Addr} {dN bf:Nat} {t:TypeId} (hop:aU op) (hK:Wk R w W rest) (hg:w.heap.size < g) (hz:W.heap[w.heap.size]? =some (.cells zC t (0,0))) (hb:W.heap[g]? =some (.cells (wM l.op l.n l.nm l.kids fC dN).toArray t (0,0)))
 (hl:mO l∧fT (w.heap.size + 1) (some g) W (fun w2=>l.kids.At w2 w2.heap.size fC 0)) (hx:mO x∧fT (w.heap.size + 1) (some g) W (fun w2=>x.kids.At w2 w2.heap.size bS 0)):
 ∀W',(iH W g (.int .i64 op) (.int .i64 0) (.string ⟨#[]⟩) (.slice (some ⟨W.heap.size,0,none⟩) 2 2)).alloc (.cells #[.int .i64 l.op,.int .i64 l.n,.string l.nm,.slice fC l.kids.len dN,.int .i64 x.op,.int .i64 x.n,.string x.nm,.slice bS x.kids.len bf] t)=W'→
 Wk R w W' rest∧W'.heap[w.heap.size]? =some (.cells zC t (0,0))∧W'.heap[g]? =some (.cells (wM (mk2 op l x).op (mk2 op l x).n (mk2 op l x).nm (mk2 op l x).kids (some ⟨W.heap.size,0,none⟩) 2).toArray t (0,0))∧
  mO (mk2 op l x)∧fT (w.heap.size + 1) (some g) W' (fun w2=>(mk2 op l x).kids.At w2 w2.heap.size (some ⟨W.heap.size,0,none⟩) 0):=by
 intro W' hW'
 have hlg:=(Array.getElem?_eq_some_iff.1 hb).1
 have hs:=Av W g (.int .i64 op) (.int .i64 0) (.string ⟨#[]⟩) (.slice (some ⟨W.heap.size,0,none⟩) 2 2)
 have hk:=hK.iH g (.int .i64 op) (.int .i64 0) (.string ⟨#[]⟩) (.slice (some ⟨W.heap.size,0,none⟩) 2 2) (Nat.le_of_lt hg)
 have hgb:=PK (v0:= .int .i64 op) (v1:= .int .i64 0) (v2:= .string ⟨#[]⟩) (v3:= .slice (some ⟨W.heap.size,0,none⟩) 2 2) hb
 have hzb:=(J7 W (.int .i64 op) (.int .i64 0) (.string ⟨#[]⟩) (.slice (some ⟨W.heap.size,0,none⟩) 2 2) (show g≠w.heap.size by omega)).trans hz
 have hax:qb (w.heap.size + 1) (some g) W (iH W g (.int .i64 op) (.int .i64 0) (.string ⟨#[]⟩) (.slice (some ⟨W.heap.size,0,none⟩) 2 2)):=⟨Nat.le_of_eq hs.symm,fun k _ h2 _=>J7 W _ _ _ _ (fun e=>h2 (by rw [e]))⟩
 generalize iH W g _ _ _ _=W1 at *
 subst hW'
 refine ⟨hk.alloc _,(heap_alloc_old _ _ (by omega)).trans hzb,(heap_alloc_old _ _ (by omega)).trans hgb,⟨hop,sw,Nat.zero_le _,by simp [mk2,aP.len,maxLen]⟩,?_⟩
 refine Ox (g:=W.heap.size) (t:=t) (fr:=(0,0)) (by rw [← hs]; exact heap_alloc_new _ _) (by omega) (by omega) hl.1 ((hl.2.next hax).next (aY (ah _ _)).x) hx.1 ((hx.2.next hax).next (aY (ah _ _)).x)
theorem Wy {f lv:Nat} {ts:aA} (h:5 < lv):pe (f + 1) (.bin lv) ts=pe f .un ts:=by
 conv=>lhs; unfold pe
 rw [if_pos h]
theorem Xo {f lv:Nat} {ts r:aA} (h: ¬ 5 < lv) (h1:pe f (.bin (lv + 1)) ts= .no r):pe (f + 1) (.bin lv) ts= .no r:=by
 conv=>lhs; unfold pe
 rw [if_neg h,h1]
theorem VT {f lv:Nat} {ts r:aA} {l:E} (h: ¬ 5 < lv) (h1:pe f (.bin (lv + 1)) ts= .ok l r):pe (f + 1) (.bin lv) ts=pe f (.lp lv l) r:=by
 conv=>lhs; unfold pe
 rw [if_neg h,h1]
theorem WJ {f lv:Nat} {ts:aA} {l:E} (h:(opAt lv ts == 0)=true):pe (f + 1) (.lp lv l) ts= .ok l ts:=by
 conv=>lhs; unfold pe
 rw [if_pos h]
theorem XF {f lv:Nat} {ts r:aA} {l:E} (h:(opAt lv ts == 0)=false) (h1:pe f (.bin (lv + 1)) ts.tail= .no r):pe (f + 1) (.lp lv l) ts= .no r:=by
 conv=>lhs; unfold pe
 rw [if_neg (by rw [h]; decide),h1]
theorem Yh {f lv:Nat} {ts r:aA} {l x:E} (h:(opAt lv ts == 0)=false) (h1:pe f (.bin (lv + 1)) ts.tail= .ok x r):pe (f + 1) (.lp lv l) ts=if lv=3 then .ok (mk2 (opAt lv ts) l x) r else pe f (.lp lv (mk2 (opAt lv ts) l x)) r:=by
 conv=>lhs; unfold pe
 rw [if_neg (by rw [h]; decide),h1]
theorem JG (R:Rp) (f:Nat) (ts:aA) (lv:Nat) (hf:enough (.bin lv) ts (f + 1)) (ih: ∀f',f'≤f→ ∀m ts,enough m ts f'→sN R f' ts m):sN R (f + 1) ts (.bin lv):=by
 intro hlv w hI
 have HI:=Lib.hid hI
 have iY:=Lib.hid ih
 have HF:=Lib.hid hf
 clear hI ih hf
 by_cases h5:5 < lv
 ·have hq:decide ((5:Int) < (lv:Int))=true:=by rw [decide_eq_true_iff]; omega
  have HX:Hid (∀w,aW w R ts→Calls Tryz.prog 123 #[.pointer (some ⟨R.br,0,none⟩)] w (kE R w (pe f .un ts))):=Lib.hid (iY.out f (Nat.le_refl _) .un ts (by
   have:=HF.out; simp only [enough,wt] at *; omega))
  rw [Wy h5]
  clear iY HF
  generalize pe f .un ts=res at *
  go_enter Tryz.func91,Tryz.ntmps91
  go_upto_region 1 with fail
  generalize hW:World.alloc w _=W
  have HK:Hid (Wk R w W ts):=Lib.hid (by rw [← hW]; exact (Wk.start HI.out).alloc _)
  have HZ:Hid (W.heap[w.heap.size]? =some (.cells #[.int .i64 0,.int .i64 0,.string ⟨#[]⟩,.slice none 0 0] 45 (0,0))):=Lib.hid (by rw [← hW]; exact heap_alloc_new _ _)
  clear hW
  go_wp2_with fail
  refine (HX.out _ HK.out.rd).mono ?_
  cases res with
  | no r=>
    rintro e w2 ⟨rfl,h2,h3⟩
    have iG:=Lib.hid (HK.out.then h2 h3)
    have HZ2:=Lib.hid ((HK.out.kept h3 (Nat.le_refl _) (Array.getElem?_eq_some_iff.1 HZ.out).1).trans HZ.out)
    clear h2 h3 HK HZ
    obtain ⟨⟨y0,y1,y2,y3⟩,f0,f1,f2,f3⟩:=fH HZ2.out
    unfold zE
    go_wp2_with fail
    exact bodyPost_ret (v:= .tuple #[zE,.bool false]) (by simp [results,Tryz.results91,go_sem,y0,y1,y2,y3,zE]) rfl (nJ (iG.out.iH _ _ _ _ _ (Nat.le_refl _)))
  | ok x r=>
    rintro e w2 ⟨v,rfl,hv,h2,h3⟩
    have iG:=Lib.hid (HK.out.then h2 h3)
    have HZ2:=Lib.hid ((HK.out.kept h3 (Nat.le_refl _) (Array.getElem?_eq_some_iff.1 HZ.out).1).trans HZ.out)
    have lH:=Lib.hid (hv.mono (Array.getElem?_eq_some_iff.1 HZ.out).1)
    clear h2 h3 HK HZ hv
    obtain ⟨ao,cap,rfl,hok,hst⟩:=lH.out
    have HE:=Lib.hid (And.intro hok hst)
    clear hok hst lH
    obtain ⟨⟨y0,y1,y2,y3⟩,f0,f1,f2,f3⟩:=fH HZ2.out
    unfold exV
    go_wp2_with fail
    exact bodyPost_ret (v:= .tuple #[exV x.op x.n x.nm x.kids ao cap,.bool true]) (by simp [results,Tryz.results91,go_sem,exV,y0,y1,y2,y3]) rfl (xO iG.out HE.out)
 ·have hq:decide ((5:Int) < (lv:Int))=false:=by rw [decide_eq_false_iff_not]; omega
  have as3:(0:Int)≤(lv:Int):=by omega
  have as5:(lv:Int)≤6:=by omega
  have HX:Hid (∀w,aW w R ts→Calls Tryz.prog 91 #[.pointer (some ⟨R.br,0,none⟩),.int .i64 ((lv:Int) + 1)] w (kE R w (pe f (.bin (lv + 1)) ts))):=Lib.hid (iY.out f (Nat.le_refl _) (.bin (lv + 1)) ts (by
   have:=HF.out; simp only [enough,wt] at *; omega) (by omega))
  have HR:Hid (∀l r,pe f (.bin (lv + 1)) ts= .ok l r→pe (f + 1) (.bin lv) ts=pe f (.lp lv l) r∧r.length < ts.length):=Lib.hid (fun l r h=>⟨VT h5 h,lG f (.bin (lv + 1)) ts l r h⟩)
  have HN:Hid (∀r,pe f (.bin (lv + 1)) ts= .no r→pe (f + 1) (.bin lv) ts= .no r):=Lib.hid (fun r h=>Xo h5 h)
  generalize pe (f + 1) (.bin lv) ts=spec at *
  generalize pe f (.bin (lv + 1)) ts=res at *
  go_enter Tryz.func91,Tryz.ntmps91
  go_upto_region 1 with fail
  generalize hW:World.alloc w _=W
  have HK:Hid (Wk R w W ts):=Lib.hid (by rw [← hW]; exact (Wk.start HI.out).alloc _)
  have HZ:Hid (W.heap[w.heap.size]? =some (.cells #[.int .i64 0,.int .i64 0,.string ⟨#[]⟩,.slice none 0 0] 45 (0,0))):=Lib.hid (by rw [← hW]; exact heap_alloc_new _ _)
  clear hW
  go_wp2_with fail
  refine (HX.out _ HK.out.rd).mono ?_
  have jq:=HK
  have HZ1:=HZ
  clear HK HZ
  cases res with
  | no r=>
    obtain rfl:=HN.out r rfl
    clear HN HR HX
    rintro e w2 ⟨rfl,h2,h3⟩
    have iG:=Lib.hid (jq.out.then h2 h3)
    have HZ2:=Lib.hid ((jq.out.kept h3 (Nat.le_refl _) (Array.getElem?_eq_some_iff.1 HZ1.out).1).trans HZ1.out)
    clear h2 h3 jq HZ1
    obtain ⟨⟨y0,y1,y2,y3⟩,f0,f1,f2,f3⟩:=fH HZ2.out
    have hlt2:w.heap.size < w2.heap.size:=(Array.getElem?_eq_some_iff.1 HZ2.out).1
    unfold zE
    go_wp2_with fail
    exact bodyPost_ret (v:= .tuple #[zE,.bool false]) (by simp [results,Tryz.results91,go_sem,y0,y1,y2,y3,hlt2,zE]) rfl (nJ ((iG.out.iH _ _ _ _ _ (Nat.le_refl _)).alloc _))
  | ok x r=>
    have HS:=Lib.hid (HR.out x r rfl)
    clear HR HN HX
    rintro e w2 ⟨v,rfl,hv,h2,h3⟩
    have iG:=Lib.hid (jq.out.then h2 h3)
    have HZ2:=Lib.hid ((jq.out.kept h3 (Nat.le_refl _) (Array.getElem?_eq_some_iff.1 HZ1.out).1).trans HZ1.out)
    have lH:=Lib.hid (hv.mono (Array.getElem?_eq_some_iff.1 HZ1.out).1)
    clear h2 h3 jq HZ1 hv
    obtain ⟨ao,cap,rfl,hok,hst⟩:=lH.out
    have HE:=Lib.hid (And.intro hok hst)
    clear hok hst lH
    unfold exV
    go_upto_region 4 with fail
    obtain ⟨g,hg⟩: ∃g,w2.heap.size=g:=⟨_,rfl⟩
    generalize hW:World.alloc w2 _=W2
    have jN:Hid (Wk R w W2 r):=Lib.hid (by rw [← hW]; exact iG.out.alloc _)
    have HB3:Hid (W2.heap[g]? =some (.cells #[.int .i64 x.op,.int .i64 x.n,.string x.nm,.slice ao x.kids.len cap] 45 (0,0))):=Lib.hid (by rw [← hW,← hg]; exact heap_alloc_new _ _)
    have HZ3:Hid (W2.heap[w.heap.size]? =some (.cells #[.int .i64 0,.int .i64 0,.string ⟨#[]⟩,.slice none 0 0] 45 (0,0))):=Lib.hid (by rw [← hW]; exact (heap_alloc_old _ _ (Array.getElem?_eq_some_iff.1 HZ2.out).1).trans HZ2.out)
    have kH:Hid (mO x∧dB (w.heap.size + 1) W2 (fun w2=>x.kids.At w2 w2.heap.size ao 0)):=Lib.hid ⟨HE.out.1,by rw [← hW]; exact HE.out.2.next (aY (ah _ _))⟩
    have HG:Hid (w.heap.size < g):=Lib.hid (by rw [← hg]; exact (Array.getElem?_eq_some_iff.1 HZ2.out).1)
    have zD:Hid (fT (w.heap.size + 1) (some g) W2 (fun w2=>x.kids.At w2 w2.heap.size ao 0)):=Lib.hid (by rw [← hW]; exact Cj HE.out.2 (aY (ah _ _)) (Nat.le_of_eq hg))
    rw [hg]
    clear hW hg iG HZ2 HE
    go_wp2_with fail
    have tX:Hid (N9 R w f lv g spec r.length W2):=Lib.hid ⟨f,x,r,ao,cap,rfl,Nat.le_refl _,by
     have:=HF.out; have:=HS.out.2; simp only [enough,wt] at *; omega,HS.out.1,jN.out,HZ3.out,HB3.out,kH.out.1,zD.out⟩
    have Xj:=HG
    clear jN HZ3 HB3 kH zD HS HI HF HG
    go_loopg [8] r.length (fun gk _ wr=>N9 R w f lv g spec gk wr)
    case atStart=>exact tX.out
    case round=>
     obtain ⟨f',l,rest,fC,dN,rfl,hf',hen,hres,hk,hz,hb,hok,hst⟩:=hrel
     obtain ⟨f',rfl⟩: ∃n,f'=n + 1:=⟨f' - 1,by simp only [enough,wt] at hen; omega⟩
     have HF:=Lib.hid (And.intro hf' hen)
     have HS:=Lib.hid hres
     have HK:=Lib.hid hk
     have HZ:=Lib.hid hz
     have HB:=Lib.hid hb
     have HE:=Lib.hid (And.intro hok hst)
     have SF:=Lib.hid (GJ R rest wr (lv:Int) hk.rd)
     clear hf' hen hres hk hz hb hok hst tX
     cases hop:(opAt (lv:Int) rest == 0)
     ·have dH:=Lib.hid (UF hop)
      have fZ:Hid (∀w,aW w R rest.tail→Calls Tryz.prog 91 #[.pointer (some ⟨R.br,0,none⟩),.int .i64 ((lv:Int) + 1)] w (kE R w (pe f' (.bin (lv + 1)) rest.tail))):=Lib.hid (iY.out f' (by have:=HF.out.1; omega) (.bin (lv + 1)) rest.tail (by
       have:=HF.out.2; have:=CW hop; simp only [enough,wt] at *; omega) (by omega))
      have Hw:Hid (∀r,pe f' (.bin (lv + 1)) rest.tail= .no r→spec= .no r):=Lib.hid (fun r h=>HS.out.trans (XF hop h))
      have J2:Hid (∀x r,pe f' (.bin (lv + 1)) rest.tail= .ok x r→(spec=if lv=3 then .ok (mk2 (opAt lv rest) l x) r else pe f' (.lp lv (mk2 (opAt lv rest) l x)) r)∧r.length < rest.length):=Lib.hid (fun x r h=>⟨HS.out.trans (Yh hop h),by
       have h1:=lG f' (.bin (lv + 1)) rest.tail x r h
       have h2:=CW hop
       have h1:r.length < rest.tail.length:=h1
       omega⟩)
      obtain ⟨t,r1,hr⟩: ∃t r1,rest=t ::r1:=by
       cases rest with
       | nil=>exact absurd hop (by simp [opAt,nextK])
       | cons t r1=>exact ⟨t,r1,rfl⟩
      have HR1:=Lib.hid hr
      clear hr HS
      generalize opAt (lv:Int) rest=op at *
      generalize pe f' (.bin (lv + 1)) rest.tail=res2 at *
      go_wp2_with fail
      refine SF.out.mono ?_
      rintro e w3 ⟨rfl,h2⟩
      obtain ⟨pos,hp,c0,c1,f1,HX⟩:=(HK.out.below h2).rd.open
      have jN:=Lib.hid (HK.out.below h2)
      have HZ3:=Lib.hid ((h2.block _ (Array.getElem?_eq_some_iff.1 HZ.out).1).trans HZ.out)
      have HB3:=Lib.hid ((h2.block _ (Array.getElem?_eq_some_iff.1 HB.out).1).trans HB.out)
      have kH:Hid (mO l∧fT (w.heap.size + 1) (some g) w3 (fun w2=>l.kids.At w2 w2.heap.size fC 0)):=Lib.hid ⟨HE.out.1,HE.out.2.next (aY h2).x⟩
      clear h2 HK HZ HB HE SF
      go_upto_region 10 with fail
      generalize hW:World.setCell w3 _ _=W4
      have HQ:Hid (aW W4 R rest.tail∧w3.grownBy W4 (some R.br)):=Lib.hid (by rw [← hW,HR1.out]; exact HX.out t r1 HR1.out)
      have Dh:=Lib.hid (jN.out.then HQ.out.1 HQ.out.2)
      have gG:=Lib.hid ((jN.out.kept HQ.out.2 (Nat.le_refl _) (Array.getElem?_eq_some_iff.1 HZ3.out).1).trans HZ3.out)
      have gy:=Lib.hid ((jN.out.kept HQ.out.2 (Nat.le_of_lt Xj.out) (Array.getElem?_eq_some_iff.1 HB3.out).1).trans HB3.out)
      have tN:Hid (mO l∧fT (w.heap.size + 1) (some g) W4 (fun w2=>l.kids.At w2 w2.heap.size fC 0)):=Lib.hid ⟨kH.out.1,kH.out.2.next (nL HQ.out.2 (Nat.lt_succ_of_lt jN.out.lt)).x⟩
      clear hW c0 c1 f1 HX jN HZ3 HB3 kH HQ
      go_wp2_with fail
      refine (fZ.out _ Dh.out.rd).mono ?_
      cases res2 with
      | no r=>
        have hs:=Hw.out r rfl
        subst hs
        clear Hw J2 fZ
        rintro e w5 ⟨rfl,h2,h3⟩
        have Ic:=Lib.hid (Dh.out.then h2 h3)
        have kJ:=Lib.hid ((Dh.out.kept h3 (Nat.le_refl _) (Array.getElem?_eq_some_iff.1 gG.out).1).trans gG.out)
        clear h2 h3 Dh gG gy tN
        obtain ⟨⟨y0,y1,y2,y3⟩,f0,f1,f2,f3⟩:=fH kJ.out
        have hlt2:w.heap.size < w5.heap.size:=(Array.getElem?_eq_some_iff.1 kJ.out).1
        unfold zE
        go_wp2_with fail
        exact bodyPost_ret (v:= .tuple #[zE,.bool false]) (by simp [results,Tryz.results91,go_sem,y0,y1,y2,y3,hlt2,zE]) rfl (nJ ((Ic.out.iH _ _ _ _ _ (Nat.le_refl _)).alloc _))
      | ok x2 r2=>
        have zl:=Lib.hid (J2.out x2 r2 rfl)
        clear Hw J2 fZ
        rintro e w5 ⟨v,rfl,hv,h2,h3⟩
        have Ic:=Lib.hid (Dh.out.then h2 h3)
        have kJ:=Lib.hid ((Dh.out.kept h3 (Nat.le_refl _) (Array.getElem?_eq_some_iff.1 gG.out).1).trans gG.out)
        have jE:=Lib.hid ((Dh.out.kept h3 (Nat.le_of_lt Xj.out) (Array.getElem?_eq_some_iff.1 gy.out).1).trans gy.out)
        have zM:Hid (mO l∧fT (w.heap.size + 1) (some g) w5 (fun w2=>l.kids.At w2 w2.heap.size fC 0)):=Lib.hid ⟨tN.out.1,tN.out.2.next (nL h3 (Nat.lt_succ_of_lt Dh.out.lt)).x⟩
        obtain ⟨IV,cap2,rfl,hok,hst⟩:=hv
        have KM:Hid (mO x2∧fT (w.heap.size + 1) (some g) w5 (fun w2=>x2.kids.At w2 w2.heap.size IV 0)):=Lib.hid ⟨hok,uS hst (Nat.le_trans (Nat.succ_le_of_lt (Array.getElem?_eq_some_iff.1 gG.out).1) (Nat.le_refl _)) (fun k hk=>by injection hk with hk; rw [← hk]; exact (Array.getElem?_eq_some_iff.1 gy.out).1)⟩
        clear h2 h3 hok hst Dh gG gy tN
        unfold exV
        go_upto_region 11 with fail
        obtain ⟨g9,hg⟩: ∃g,w5.heap.size=g:=⟨_,rfl⟩
        generalize hW:World.alloc w5 _=W6
        have Dk:Hid (Wk R w W6 r2):=Lib.hid (by rw [← hW]; exact Ic.out.alloc _)
        have qy:Hid (W6.heap[g9]? =some (.cells #[.int .i64 x2.op,.int .i64 x2.n,.string x2.nm,.slice IV x2.kids.len cap2] 45 (0,0))):=Lib.hid (by rw [← hW,← hg]; exact heap_alloc_new _ _)
        have Fx:Hid (W6.heap[w.heap.size]? =some (.cells zC 45 (0,0))):=Lib.hid (by rw [← hW]; exact (heap_alloc_old _ _ (Array.getElem?_eq_some_iff.1 kJ.out).1).trans kJ.out)
        have BI:Hid (W6.heap[g]? =some (.cells (wM l.op l.n l.nm l.kids fC dN).toArray 45 (0,0))):=Lib.hid (by rw [← hW]; exact (heap_alloc_old _ _ (Array.getElem?_eq_some_iff.1 jE.out).1).trans jE.out)
        have Ny:Hid (mO l∧fT (w.heap.size + 1) (some g) W6 (fun w2=>l.kids.At w2 w2.heap.size fC 0)):=Lib.hid ⟨zM.out.1,by rw [← hW]; exact zM.out.2.next (aY (ah _ _)).x⟩
        have HX6:Hid (mO x2∧fT (w.heap.size + 1) (some g) W6 (fun w2=>x2.kids.At w2 w2.heap.size IV 0)):=Lib.hid ⟨KM.out.1,by rw [← hW]; exact KM.out.2.next (aY (ah _ _)).x⟩
        rw [hg]
        clear hW hg Ic kJ jE zM KM
        obtain ⟨⟨z0,z1,z2,z3⟩,d0,d1,d2,d3⟩:=Ad BI.out
        have u0:W6.cell? ⟨g9,0,none⟩=some (.int .i64 x2.op):=aG qy.out rfl
        have u1:W6.cell? ⟨g9,1,none⟩=some (.int .i64 x2.n):=aG qy.out rfl
        have u2:W6.cell? ⟨g9,2,none⟩=some (.string x2.nm):=aG qy.out rfl
        have u3:W6.cell? ⟨g9,3,none⟩=some (.slice IV x2.kids.len cap2):=aG qy.out rfl
        have hlg:g < W6.heap.size:=(Array.getElem?_eq_some_iff.1 BI.out).1
        go_upto_region 14 with fail
        have HP:=Lib.hid (UJ (t:=45) (bf:=cap2) (show aU op by have:=dH.out; unfold aU; omega) Dk.out Xj.out Fx.out BI.out Ny.out HX6.out)
        generalize hW:World.alloc _ _=W7
        have iO:=Lib.hid (HP.out W7 hW)
        clear hW HP Dk Fx BI Ny HX6 qy z0 z1 z2 z3 d0 d1 d2 d3 u0 u1 u2 u3 hlg
        have HL2:=Lib.hid zl.out.2
        by_cases h3:lv=3
        ·have hs:=zl.out.1.trans (if_pos h3)
         subst hs
         clear zl
         have h3':((lv:Int) == 3)=true:=by rw [h3]; rfl
         obtain ⟨⟨y0,y1,y2,y3⟩,f0,f1,f2,f3⟩:=fH iO.out.2.1
         obtain ⟨⟨z0,z1,z2,z3⟩,d0,d1,d2,d3⟩:=Ad iO.out.2.2.1
         go_wp2_with fail
         exact bodyPost_ret (v:= .tuple #[exV (mk2 op l x2).op (mk2 op l x2).n (mk2 op l x2).nm (mk2 op l x2).kids (some ⟨W6.heap.size,0,none⟩) 2,.bool true]) (by simp [results,Tryz.results91,go_sem,exV,y0,y1,y2,y3]) rfl (xO iO.out.1 ⟨iO.out.2.2.2.1,iO.out.2.2.2.2.stay⟩)
        ·have h3':((lv:Int) == 3)=false:=by rw [beq_eq_false_iff_ne]; omega
         have HS2:=Lib.hid (zl.out.1.trans (if_neg h3))
         clear zl
         go_wp2_with fail
         go_roundg r2.length
         case measure=>exact HL2.out
         case rel=>exact ⟨f',mk2 op l x2,r2,_,_,rfl,by have:=HF.out.1; omega,by
          have h1:=HF.out.2; have h2:=HL2.out; simp only [enough,wt] at *; omega,HS2.out,iO.out.1,iO.out.2.1,iO.out.2.2.1,iO.out.2.2.2.1,iO.out.2.2.2.2⟩
     ·have Ya:Hid (Calls Tryz.prog 124 #[.pointer (some ⟨R.br,0,none⟩),.int .i64 (lv:Int)] wr fun e w'=>e= .returned (.int .i64 0)∧Below wr.heap.size wr w'):=Lib.hid (by
       have:=SF.out; rw [show opAt (lv:Int) rest=0 by simpa using hop] at this; exact this)
      have hs:=HS.out.trans (WJ hop)
      subst hs
      clear HS SF hop
      go_wp2_with fail
      refine Ya.out.mono ?_
      rintro e w3 ⟨rfl,h2⟩
      have jN:=Lib.hid (HK.out.below h2)
      have HZ3:=Lib.hid ((h2.block _ (Array.getElem?_eq_some_iff.1 HZ.out).1).trans HZ.out)
      have HB3:=Lib.hid ((h2.block _ (Array.getElem?_eq_some_iff.1 HB.out).1).trans HB.out)
      have kH:Hid (mO l∧dB (w.heap.size + 1) w3 (fun w2=>l.kids.At w2 w2.heap.size fC 0)):=Lib.hid ⟨HE.out.1,(HE.out.2.next (aY h2).x).stay⟩
      clear h2 HK HZ HB HE Ya
      obtain ⟨⟨y0,y1,y2,y3⟩,f0,f1,f2,f3⟩:=fH HZ3.out
      obtain ⟨⟨z0,z1,z2,z3⟩,d0,d1,d2,d3⟩:=Ad HB3.out
      go_wp2_with fail
      exact bodyPost_ret (v:= .tuple #[exV l.op l.n l.nm l.kids fC dN,.bool true]) (by simp [results,Tryz.results91,go_sem,exV,y0,y1,y2,y3]) rfl (xO jN.out kH.out)
theorem UZ (R:Rp): ∀(f:Nat) (m:M) (ts:aA),enough m ts f→sN R f ts m:=by
 intro f
 induction f using Nat.strongRecOn with
 | ind f ih=>
   intro m ts hf
   cases f with
   | zero=>exact absurd hf (by unfold enough; omega)
   | succ f=>
     cases m with
     | bin lv=>exact JG R f ts lv hf (fun f' h m ts hm=>ih f' (by omega) m ts hm)
     | un=>exact Lu R f ts hf (fun m ts hm=>ih f (by omega) m ts hm)
     | pr=>exact Ht R f ts hf (fun m ts hm=>ih f (by omega) m ts hm)
     | lp lv l=>exact trivial
theorem sU (R:Rp) (ts:aA) (w:World) (hI:aW w R ts):Calls Tryz.prog 52 #[.pointer (some ⟨R.br,0,none⟩)] w (kE R w (Pz.expr ts)):=
 Ea R _ ts (UZ R _ (.bin 1) ts (BL ts)) w hI
end Go.Proofs.YtehnipchbmjlhaaGreatDoor
end
