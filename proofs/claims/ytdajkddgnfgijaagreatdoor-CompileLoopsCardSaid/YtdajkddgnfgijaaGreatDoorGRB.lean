/-
  What the reader's expressions leave; words for the walks of unary, primary, binary.
  Contract of the reader's unary.
  Contract of the reader's primary.
  Contract of the reader's binary; of all that read expressions.
-/
import Derived.Test.YtdajkddgnfgijaaGreatDoorGRA
import Derived.Test.YtdajkddgnfgijaaGreatDoorGMB
section
set_option linter.unusedSimpArgs false
set_option linter.unusedVariables false
namespace Go.Proofs.YtdajkddgnfgijaaGreatDoor
open Go.RowKit
open Md Pz
def ni (x:E):Prop:=uK x.op x.n x.nm x.kids
def EV (B:Nat) (x:E) (v:Value) (w:World):Prop:= ∃ao cap,v=exV x.op x.n x.nm x.kids ao cap∧ni x∧eH B w (fun w2=>x.kids.At w2 w2.heap.size ao 0)
theorem EV.next {B:Nat} {x:E} {v:Value} {w w':World} (h:EV B x v w) (ha:jf B w w'):EV B x v w':=by
 obtain ⟨ao,cap,h1,h2,h3⟩:=h; exact ⟨ao,cap,h1,h2,h3.next ha⟩
theorem EV.mono {B B':Nat} {x:E} {v:Value} {w:World} (h:EV B' x v w) (hB:B≤B'):EV B x v w:=by
 obtain ⟨ao,cap,h1,h2,h3⟩:=h; exact ⟨ao,cap,h1,h2,h3.mono hB⟩
def zE:Value:= .agg #[.int .i64 0,.int .i64 0,.string ⟨#[]⟩,.slice none 0 0]
def kJ (R:Rp) (w:World) (r:bK E) (e:Ending) (w':World):Prop:=
 match r with
 | .ok x rest=> ∃v,e= .returned (.tuple #[v,.bool true])∧EV w.heap.size x v w'∧bf w' R rest∧w.grownBy w' (some R.br)
 | .no rest=>e= .returned (.tuple #[zE,.bool false])∧bf w' R rest∧w.grownBy w' (some R.br)
def uy (R:Rp) (f:Nat) (ts:aJ):M→Prop
 | .bin lv=>lv≤6→ ∀w,bf w R ts→Calls Tryz.prog 217 #[.pointer (some ⟨R.br,0,none⟩),.int .i64 (lv:Int)] w (kJ R w (pe f (.bin lv) ts))
 | .un=> ∀w,bf w R ts→Calls Tryz.prog 229 #[.pointer (some ⟨R.br,0,none⟩)] w (kJ R w (pe f .un ts))
 | .pr=> ∀w,bf w R ts→Calls Tryz.prog 232 #[.pointer (some ⟨R.br,0,none⟩)] w (kJ R w (pe f .pr ts))
 | .lp _ _=>True
def iF (w:World) (b:Nat) (v0 v1 v2 v3:Value):World:=(((w.setCell ⟨b,0,none⟩ v0).setCell ⟨b,1,none⟩ v1).setCell ⟨b,2,none⟩ v2).setCell ⟨b,3,none⟩ v3
theorem rW {br:Nat} {w w':World} (h:w.grownBy w' (some br)) (a:Addr) (v:Value) (hb:w.heap.size≤a.block):w.grownBy (w'.setCell a v) (some br):=
 ⟨h.os,h.tape,h.output,by have:=h.size; simpa [World.setCell] using this,fun k hk hn=>(bJ w' a v rfl (by omega)).trans (h.block k hk hn)⟩
theorem qK {br:Nat} {w w':World} (h:w.grownBy w' (some br)) (o:Obj):w.grownBy (w'.alloc o) (some br):=eY h (bP (aj _ _))
theorem nY {w:World} {R:Rp} {rest:aJ} (h:bf w R rest) (a:Addr) (v:Value) (h0:R.B0≤a.block) (h1:a.block≠R.br):bf (w.setCell a v) R rest:=by
 obtain ⟨pos,k1,k2,k3⟩:=h.blk
 exact ⟨⟨pos,k1,k2,(bJ w a v rfl h1).trans k3⟩,h.tok.below (dB (dO w a v) h0 (Nat.le_trans R.b0 (Nat.le_of_lt h.lt))),h.ok,h.tl⟩
theorem oZ {w:World} {R:Rp} {rest:aJ} (h:bf w R rest) (o:Obj):bf (w.alloc o) R rest:=h.below (aj _ _)
structure Wk (R:Rp) (w W:World) (rest:aJ):Prop where
 rd:bf W R rest
 gr:w.grownBy W (some R.br)
 lt:R.br < w.heap.size
theorem Wk.start {R:Rp} {w:World} {rest:aJ} (h:bf w R rest):Wk R w w rest:=⟨h,F9 _,h.lt⟩
section
variable {R:Rp} {w W W':World} {rest rest':aJ}
theorem Wk.set (h:Wk R w W rest) (a:Addr) (v:Value) (hb:w.heap.size≤a.block):Wk R w (W.setCell a v) rest:=
 ⟨nY h.rd a v (by have:=R.b0; have:=h.lt; omega) (by have:=h.lt; omega),rW h.gr a v hb,h.lt⟩
theorem Wk.alloc (h:Wk R w W rest) (o:Obj):Wk R w (W.alloc o) rest:=⟨oZ h.rd o,qK h.gr o,h.lt⟩
theorem Wk.below (h:Wk R w W rest) (hb:Below W.heap.size W W'):Wk R w W' rest:=⟨h.rd.below hb,eY h.gr (bP hb),h.lt⟩
theorem Wk.then (h:Wk R w W rest) (h1:bf W' R rest') (h2:W.grownBy W' (some R.br)):Wk R w W' rest':=⟨h1,eY h.gr h2,h.lt⟩
theorem Wk.iF (h:Wk R w W rest) (b:Nat) (v0 v1 v2 v3:Value) (hb:w.heap.size≤b):Wk R w (iF W b v0 v1 v2 v3) rest:=
 (((h.set ⟨b,0,none⟩ v0 hb).set ⟨b,1,none⟩ v1 hb).set ⟨b,2,none⟩ v2 hb).set ⟨b,3,none⟩ v3 hb
theorem Wk.kept (h:Wk R w W rest) (h2:W.grownBy W' (some R.br)) {k:Nat} (hk:w.heap.size≤k) (hl:k < W.heap.size):W'.heap[k]? =W.heap[k]?:=h2.block k hl (by have:=h.lt; simp; omega)
end
theorem Dc (w:World) (b:Nat) (v0 v1 v2 v3:Value):jf (b + 1) w (iF w b v0 v1 v2 v3):=by
 have x1:jf (b + 1) w _:=gK w ⟨b,0,none⟩ v0 (Nat.lt_succ_self _)
 have x2:=x1.trans (gK _ ⟨b,1,none⟩ v1 (Nat.lt_succ_self _))
 have x3:=x2.trans (gK _ ⟨b,2,none⟩ v2 (Nat.lt_succ_self _))
 exact x3.trans (gK _ ⟨b,3,none⟩ v3 (Nat.lt_succ_self _))
theorem AJ (w:World) (b:Nat) (v0 v1 v2 v3:Value):(iF w b v0 v1 v2 v3).heap.size=w.heap.size:=by simp [iF,World.setCell]
theorem oo {br B:Nat} {w w':World} (h:w.grownBy w' (some br)) (hB:br < B):jf B w w':=⟨h.size,fun k h1 h2=>h.block k h2 (by simp; omega)⟩
end Go.Proofs.YtdajkddgnfgijaaGreatDoor
end
section
set_option linter.unusedSimpArgs false
set_option linter.unusedVariables false
namespace Go.Proofs.YtdajkddgnfgijaaGreatDoor
open Go.RowKit
open Md Pz
theorem fJ {w:World} {b:Nat} {t:TypeId} (h:w.heap[b]? =some (.cells #[.int .i64 0,.int .i64 0,.string ⟨#[]⟩,.slice none 0 0] t (0,0))):
 (w.cell? ⟨b,0,none⟩=some (.int .i64 0)∧w.cell? ⟨b,1,none⟩=some (.int .i64 0)∧w.cell? ⟨b,2,none⟩=some (.string ⟨#[]⟩)∧w.cell? ⟨b,3,none⟩=some (.slice none 0 0))∧w.frozen? ⟨b,0,none⟩=false∧w.frozen? ⟨b,1,none⟩=false∧w.frozen? ⟨b,2,none⟩=false∧w.frozen? ⟨b,3,none⟩=false:=
 ⟨⟨aB h rfl,aB h rfl,aB h rfl,aB h rfl⟩,bH h,bH h,bH h,bH h⟩
theorem om {R:Rp} {w W:World} {r:aJ} (h:Wk R w W r):kJ R w (.no r) (.returned (.tuple #[zE,.bool false])) W:=⟨rfl,h.rd,h.gr⟩
theorem CV {B g:Nat} {w w1:World} {Q:World→Prop} (h:eH B w Q) (ha:jf B w w1) (hg:w.heap.size≤g):gG B (some g) w1 Q:=fun w' h'=>
 h w' ⟨Nat.le_trans ha.1 h'.1,fun k h1 h2=>(h'.2 k h1 (fun e=>by injection e with e; omega) (Nat.lt_of_lt_of_le h2 ha.1)).trans (ha.2 k h1 h2)⟩
theorem tT:dR 0:=by unfold dR; omega
theorem QC {W:World} {x:E} {ao:Option Addr} {cap:Nat} {t:TypeId} {o:Obj} {B g:Nat} (hB:B≤W.heap.size) (hg:W.heap.size + 1=g) (hE:ni x∧eH B W (fun w2=>x.kids.At w2 w2.heap.size ao 0)):
 eH B ((W.alloc o).alloc (.cells #[.int .i64 x.op,.int .i64 x.n,.string x.nm,.slice ao x.kids.len cap] t)) (fun w2=>(bL.cons x.op x.n x.nm x.kids .nil).At w2 w2.heap.size (some ⟨g,0,none⟩) 0):=by
 have hs:(W.alloc o).heap.size=g:=by simp; omega
 rw [← hs]
 exact Df (heap_alloc_new _ _) (by omega) hE.1 (hE.2.next ((bU (aj _ _)).trans (bU (aj _ _))))
theorem NC {R:Rp} {w w2:World} {r:aJ} {x:E} {ao:Option Addr} {cap:Nat} {op:Int} {t t':TypeId} (hop:dR op) (h:Wk R w w2 r) (hlt:w.heap.size < w2.heap.size) (hE:ni x∧eH (w.heap.size + 1) w2 (fun w2=>x.kids.At w2 w2.heap.size ao 0)):
 kJ R w ((bK.ok x r).map (mk1 op)) (.returned (.tuple #[exV op 0 ⟨#[]⟩ (.cons x.op x.n x.nm x.kids .nil) (some ⟨w2.heap.size + 1,0,none⟩) 1,.bool true]))
  (((iF w2 w.heap.size (.int .i64 op) (.int .i64 0) (.string ⟨#[]⟩) (.slice (some ⟨w2.heap.size + 1,0,none⟩) 1 1)).alloc (.cells #[.int .i64 x.op,.int .i64 x.n,.string x.nm,.slice ao x.kids.len cap] t')).alloc (.cells #[.int .i64 x.op,.int .i64 x.n,.string x.nm,.slice ao x.kids.len cap] t)):=by
 have hk:=h.iF w.heap.size (.int .i64 op) (.int .i64 0) (.string ⟨#[]⟩) (.slice (some ⟨w2.heap.size + 1,0,none⟩) 1 1) (Nat.le_refl _)
 have ha:=Dc w2 w.heap.size (.int .i64 op) (.int .i64 0) (.string ⟨#[]⟩) (.slice (some ⟨w2.heap.size + 1,0,none⟩) 1 1)
 have hs:=AJ w2 w.heap.size (.int .i64 op) (.int .i64 0) (.string ⟨#[]⟩) (.slice (some ⟨w2.heap.size + 1,0,none⟩) 1 1)
 generalize iF w2 w.heap.size _ _ _ _=W at *
 refine ⟨_,rfl,⟨_,1,rfl,⟨hop,tT,Nat.zero_le _,by simp [mk1,bL.len,maxLen]⟩,?_⟩,((hk.alloc _).alloc _).rd,((hk.alloc _).alloc _).gr⟩
 exact (QC (by omega) (by omega) ⟨hE.1,hE.2.next ha⟩).mono (Nat.le_succ _)
theorem ze {R:Rp} {w w2:World} {r:aJ} {x:E} {ao:Option Addr} {cap:Nat} {a b c d:Value} (h:Wk R w w2 r) (hE:ni x∧eH (w.heap.size + 1) w2 (fun w2=>x.kids.At w2 w2.heap.size ao 0)):
 kJ R w (.ok x r) (.returned (.tuple #[exV x.op x.n x.nm x.kids ao cap,.bool true])) (iF w2 w.heap.size a b c d):=by
 have hk:=h.iF w.heap.size a b c d (Nat.le_refl _)
 exact ⟨_,rfl,⟨ao,cap,rfl,hE.1,(hE.2.next (Dc w2 w.heap.size a b c d)).mono (Nat.le_succ _)⟩,hk.rd,hk.gr⟩
theorem Wm {f:Nat} {ts:aJ} (h:at' [45] ts=true):pe (f + 1) .un ts=(pe f .un ts.tail).map (mk1 4):=by
 conv=>lhs; unfold pe
 rw [if_pos h]
theorem VD {f:Nat} {ts:aJ} (h0:at' [45] ts=false) (h:at' [33] ts=true):pe (f + 1) .un ts=(pe f .un ts.tail).map (mk1 5):=by
 conv=>lhs; unfold pe
 rw [if_neg (by rw [h0]; decide),if_pos h]
theorem Wv {f:Nat} {ts:aJ} (h0:at' [45] ts=false) (h:at' [33] ts=false):pe (f + 1) .un ts=pe f .pr ts:=by
 conv=>lhs; unfold pe
 rw [if_neg (by rw [h0]; decide),if_neg (by rw [h]; decide)]
set_option maxHeartbeats 4000000 in
set_option maxRecDepth 100000 in
theorem LC (R:Rp) (f:Nat) (ts:aJ) (hf:enough .un ts (f + 1)) (ih: ∀m ts,enough m ts f→uy R f ts m):uy R (f + 1) ts .un:=by
 intro w hI
 have HI:=Lib.hid hI
 have kE:=Lib.hid ih
 have HF:=Lib.hid hf
 clear hI ih hf
 cases h1:at' [45] ts
 ·cases h2:at' [33] ts
  ·have HX:Hid (∀w,bf w R ts→Calls Tryz.prog 232 #[.pointer (some ⟨R.br,0,none⟩)] w (kJ R w (pe f .pr ts))):=Lib.hid (kE.out .pr ts (by
    have:=HF.out; simp only [enough,wt] at *; omega))
   rw [Wv h1 h2]
   clear kE HF
   generalize pe f .pr ts=res at *
   go_enter Tryz.func229,Tryz.ntmps229
   go_upto_region 1 with fail
   generalize hW:World.alloc w _=W
   have HK:Hid (Wk R w W ts):=Lib.hid (by rw [← hW]; exact (Wk.start HI.out).alloc _)
   have HZ:Hid (W.heap[w.heap.size]? =some (.cells #[.int .i64 0,.int .i64 0,.string ⟨#[]⟩,.slice none 0 0] 129 (0,0))):=Lib.hid (by rw [← hW]; exact heap_alloc_new _ _)
   clear hW
   go_wp2_with fail
   refine (dU R _ _ ⟨#[45]⟩ rfl h1 HK.out.rd).mono ?_
   rintro e w0 ⟨rfl,h2⟩
   have iX:=Lib.hid (HK.out.below h2)
   have HZ0:=Lib.hid ((h2.block _ (Array.getElem?_eq_some_iff.1 HZ.out).1).trans HZ.out)
   clear h2 HK HZ
   have HK:=iX
   have HZ:=HZ0
   clear iX HZ0
   go_wp2_with fail
   refine (dU R _ _ ⟨#[33]⟩ rfl h2 HK.out.rd).mono ?_
   rintro e w0 ⟨rfl,h2⟩
   have iX:=Lib.hid (HK.out.below h2)
   have HZ0:=Lib.hid ((h2.block _ (Array.getElem?_eq_some_iff.1 HZ.out).1).trans HZ.out)
   clear h2 HK HZ
   have HK:=iX
   have HZ:=HZ0
   clear iX HZ0
   go_wp2_with fail
   refine (HX.out _ HK.out.rd).mono ?_
   cases res with
   | no r=>
     rintro e w2 ⟨rfl,h2,h3⟩
     have gY:=Lib.hid (HK.out.then h2 h3)
     have HZ2:=Lib.hid ((HK.out.kept h3 (Nat.le_refl _) (Array.getElem?_eq_some_iff.1 HZ.out).1).trans HZ.out)
     clear h2 h3 HK HZ
     obtain ⟨⟨y0,y1,y2,y3⟩,f0,f1,f2,f3⟩:=fJ HZ2.out
     have hlt2:w.heap.size < w2.heap.size:=(Array.getElem?_eq_some_iff.1 HZ2.out).1
     unfold zE
     go_wp2_with fail
     exact bodyPost_ret (v:= .tuple #[zE,.bool false]) (by simp [results,Tryz.results229,go_sem,y0,y1,y2,y3,hlt2,zE]) rfl (om (gY.out.iF _ _ _ _ _ (Nat.le_refl _)))
   | ok x r=>
     rintro e w2 ⟨v,rfl,hv,h2,h3⟩
     have gY:=Lib.hid (HK.out.then h2 h3)
     have HZ2:=Lib.hid ((HK.out.kept h3 (Nat.le_refl _) (Array.getElem?_eq_some_iff.1 HZ.out).1).trans HZ.out)
     have ny:=Lib.hid (hv.mono (Array.getElem?_eq_some_iff.1 HZ.out).1)
     clear h2 h3 HK HZ hv
     obtain ⟨ao,cap,rfl,hok,hst⟩:=ny.out
     have HE:=Lib.hid (And.intro hok hst)
     clear hok hst ny
     obtain ⟨⟨y0,y1,y2,y3⟩,f0,f1,f2,f3⟩:=fJ HZ2.out
     have hlt2:w.heap.size < w2.heap.size:=(Array.getElem?_eq_some_iff.1 HZ2.out).1
     unfold exV
     go_wp2_with fail
     exact bodyPost_ret (v:= .tuple #[exV x.op x.n x.nm x.kids ao cap,.bool true]) (by simp [results,Tryz.results229,go_sem,exV,y0,y1,y2,y3,hlt2]) rfl (ze gY.out HE.out)
  ·have HX:Hid (∀w,bf w R ts.tail→Calls Tryz.prog 229 #[.pointer (some ⟨R.br,0,none⟩)] w (kJ R w (pe f .un ts.tail))):=Lib.hid (kE.out .un ts.tail (by
    have:=HF.out; have:=at_len h2; simp only [enough,wt] at *; omega))
   rw [VD h1 h2]
   clear kE HF
   generalize pe f .un ts.tail=res at *
   go_enter Tryz.func229,Tryz.ntmps229
   go_upto_region 1 with fail
   generalize hW:World.alloc w _=W
   have HK:Hid (Wk R w W ts):=Lib.hid (by rw [← hW]; exact (Wk.start HI.out).alloc _)
   have HZ:Hid (W.heap[w.heap.size]? =some (.cells #[.int .i64 0,.int .i64 0,.string ⟨#[]⟩,.slice none 0 0] 129 (0,0))):=Lib.hid (by rw [← hW]; exact heap_alloc_new _ _)
   clear hW
   go_wp2_with fail
   refine (dU R _ _ ⟨#[45]⟩ rfl h1 HK.out.rd).mono ?_
   rintro e w0 ⟨rfl,h2⟩
   have iX:=Lib.hid (HK.out.below h2)
   have HZ0:=Lib.hid ((h2.block _ (Array.getElem?_eq_some_iff.1 HZ.out).1).trans HZ.out)
   clear h2 HK HZ
   have HK:=iX
   have HZ:=HZ0
   clear iX HZ0
   go_wp2_with fail
   refine (cu R _ _ ⟨#[33]⟩ rfl h2 HK.out.rd).mono ?_
   rintro e w1 ⟨rfl,h2,h3⟩
   have gV:=Lib.hid (HK.out.then h2 h3)
   have HZ1:=Lib.hid ((HK.out.kept h3 (Nat.le_refl _) (Array.getElem?_eq_some_iff.1 HZ.out).1).trans HZ.out)
   clear h2 h3 HK HZ
   go_wp2_with fail
   refine (HX.out _ gV.out.rd).mono ?_
   cases res with
   | no r=>
     rintro e w2 ⟨rfl,h2,h3⟩
     have gY:=Lib.hid (gV.out.then h2 h3)
     have HZ2:=Lib.hid ((gV.out.kept h3 (Nat.le_refl _) (Array.getElem?_eq_some_iff.1 HZ1.out).1).trans HZ1.out)
     clear h2 h3 gV HZ1
     obtain ⟨⟨y0,y1,y2,y3⟩,f0,f1,f2,f3⟩:=fJ HZ2.out
     have hlt2:w.heap.size < w2.heap.size:=(Array.getElem?_eq_some_iff.1 HZ2.out).1
     unfold zE
     go_wp2_with fail
     exact bodyPost_ret (v:= .tuple #[zE,.bool false]) (by simp [results,Tryz.results229,go_sem,y0,y1,y2,y3,hlt2,zE]) rfl (om (((gY.out.iF _ _ _ _ _ (Nat.le_refl _)).alloc _)))
   | ok x r=>
     rintro e w2 ⟨v,rfl,hv,h2,h3⟩
     have gY:=Lib.hid (gV.out.then h2 h3)
     have HZ2:=Lib.hid ((gV.out.kept h3 (Nat.le_refl _) (Array.getElem?_eq_some_iff.1 HZ1.out).1).trans HZ1.out)
     have ny:=Lib.hid (hv.mono (Array.getElem?_eq_some_iff.1 HZ1.out).1)
     clear h2 h3 gV HZ1 hv
     obtain ⟨ao,cap,rfl,hok,hst⟩:=ny.out
     have HE:=Lib.hid (And.intro hok hst)
     clear hok hst ny
     obtain ⟨⟨y0,y1,y2,y3⟩,f0,f1,f2,f3⟩:=fJ HZ2.out
     have hlt2:w.heap.size < w2.heap.size:=(Array.getElem?_eq_some_iff.1 HZ2.out).1
     unfold exV
     go_wp2_with fail
     exact bodyPost_ret (v:= .tuple #[exV 5 0 ⟨#[]⟩ (.cons x.op x.n x.nm x.kids .nil) (some ⟨w2.heap.size + 1,0,none⟩) 1,.bool true]) (by simp [results,Tryz.results229,go_sem,exV,bL.len,y0,y1,y2,y3,hlt2,Nat.lt_succ_of_lt hlt2]) rfl (NC (by unfold dR; omega) gY.out hlt2 HE.out)
 ·have HX:Hid (∀w,bf w R ts.tail→Calls Tryz.prog 229 #[.pointer (some ⟨R.br,0,none⟩)] w (kJ R w (pe f .un ts.tail))):=Lib.hid (kE.out .un ts.tail (by
   have:=HF.out; have:=at_len h1; simp only [enough,wt] at *; omega))
  rw [Wm h1]
  clear kE HF
  generalize pe f .un ts.tail=res at *
  go_enter Tryz.func229,Tryz.ntmps229
  go_upto_region 1 with fail
  generalize hW:World.alloc w _=W
  have HK:Hid (Wk R w W ts):=Lib.hid (by rw [← hW]; exact (Wk.start HI.out).alloc _)
  have HZ:Hid (W.heap[w.heap.size]? =some (.cells #[.int .i64 0,.int .i64 0,.string ⟨#[]⟩,.slice none 0 0] 129 (0,0))):=Lib.hid (by rw [← hW]; exact heap_alloc_new _ _)
  clear hW
  go_wp2_with fail
  refine (cu R _ _ ⟨#[45]⟩ rfl h1 HK.out.rd).mono ?_
  rintro e w1 ⟨rfl,h2,h3⟩
  have gV:=Lib.hid (HK.out.then h2 h3)
  have HZ1:=Lib.hid ((HK.out.kept h3 (Nat.le_refl _) (Array.getElem?_eq_some_iff.1 HZ.out).1).trans HZ.out)
  clear h2 h3 HK HZ
  go_wp2_with fail
  refine (HX.out _ gV.out.rd).mono ?_
  cases res with
  | no r=>
    rintro e w2 ⟨rfl,h2,h3⟩
    have gY:=Lib.hid (gV.out.then h2 h3)
    have HZ2:=Lib.hid ((gV.out.kept h3 (Nat.le_refl _) (Array.getElem?_eq_some_iff.1 HZ1.out).1).trans HZ1.out)
    clear h2 h3 gV HZ1
    obtain ⟨⟨y0,y1,y2,y3⟩,f0,f1,f2,f3⟩:=fJ HZ2.out
    have hlt2:w.heap.size < w2.heap.size:=(Array.getElem?_eq_some_iff.1 HZ2.out).1
    unfold zE
    go_wp2_with fail
    exact bodyPost_ret (v:= .tuple #[zE,.bool false]) (by simp [results,Tryz.results229,go_sem,y0,y1,y2,y3,hlt2,zE]) rfl (om (((gY.out.iF _ _ _ _ _ (Nat.le_refl _)).alloc _)))
  | ok x r=>
    rintro e w2 ⟨v,rfl,hv,h2,h3⟩
    have gY:=Lib.hid (gV.out.then h2 h3)
    have HZ2:=Lib.hid ((gV.out.kept h3 (Nat.le_refl _) (Array.getElem?_eq_some_iff.1 HZ1.out).1).trans HZ1.out)
    have ny:=Lib.hid (hv.mono (Array.getElem?_eq_some_iff.1 HZ1.out).1)
    clear h2 h3 gV HZ1 hv
    obtain ⟨ao,cap,rfl,hok,hst⟩:=ny.out
    have HE:=Lib.hid (And.intro hok hst)
    clear hok hst ny
    obtain ⟨⟨y0,y1,y2,y3⟩,f0,f1,f2,f3⟩:=fJ HZ2.out
    have hlt2:w.heap.size < w2.heap.size:=(Array.getElem?_eq_some_iff.1 HZ2.out).1
    unfold exV
    go_wp2_with fail
    exact bodyPost_ret (v:= .tuple #[exV 4 0 ⟨#[]⟩ (.cons x.op x.n x.nm x.kids .nil) (some ⟨w2.heap.size + 1,0,none⟩) 1,.bool true]) (by simp [results,Tryz.results229,go_sem,exV,bL.len,y0,y1,y2,y3,hlt2,Nat.lt_succ_of_lt hlt2]) rfl (NC (by unfold dR; omega) gY.out hlt2 HE.out)
end Go.Proofs.YtdajkddgnfgijaaGreatDoor
end
section
set_option linter.unusedSimpArgs false
set_option linter.unusedVariables false
namespace Go.Proofs.YtdajkddgnfgijaaGreatDoor
open Go.RowKit
open Md Pz
theorem VA {f:Nat} {ts:aJ} (h:isNum ts=true):pe (f + 1) .pr ts= .ok ⟨1,(Tk.val (aI ts):Nat),⟨#[]⟩,.nil⟩ ts.tail:=by
 conv=>lhs; unfold pe
 rw [if_pos h]
theorem XU {f:Nat} {ts:aJ} (h0:isNum ts=false) (h:isName ts=true) (h1:at' [91] ts.tail=true):pe (f + 1) .pr ts=((pe f (.bin 1) ts.tail.tail).close [93]).map (WR (tx (aI ts))):=by
 conv=>lhs; unfold pe
 rw [if_neg (by rw [h0]; decide),if_pos h,if_pos h1]
 rfl
theorem Xz {f:Nat} {ts:aJ} (h0:isNum ts=false) (h:isName ts=true) (h1:at' [91] ts.tail=false):pe (f + 1) .pr ts= .ok ⟨2,0,tx (aI ts),.nil⟩ ts.tail:=by
 conv=>lhs; unfold pe
 rw [if_neg (by rw [h0]; decide),if_pos h,if_neg (by rw [h1]; decide)]
theorem UM {f:Nat} {ts:aJ} (h0:isNum ts=false) (h:isName ts=false) (h1:at' [40] ts=true):pe (f + 1) .pr ts=(pe f (.bin 1) ts.tail).close [41]:=by
 conv=>lhs; unfold pe
 rw [if_neg (by rw [h0]; decide),if_neg (by rw [h]; decide),if_pos h1]
theorem U5 {f:Nat} {ts:aJ} (h0:isNum ts=false) (h:isName ts=false) (h1:at' [40] ts=false):pe (f + 1) .pr ts= .no ts:=by
 conv=>lhs; unfold pe
 rw [if_neg (by rw [h0]; decide),if_neg (by rw [h]; decide),if_neg (by rw [h1]; decide)]
theorem Jg {R:Rp} {w w2:World} {r:aJ} {op n:Int} {nm:ByteArray} {a b c d:Value} (h:Wk R w w2 r) (h1:dR op) (h2:dR n) (h3:nm.size≤maxLen):
 kJ R w (.ok ⟨op,n,nm,.nil⟩ r) (.returned (.tuple #[exV op n nm .nil none 0,.bool true])) (iF w2 w.heap.size a b c d):=by
 have hk:=h.iF w.heap.size a b c d (Nat.le_refl _)
 exact ⟨_,rfl,⟨none,0,rfl,⟨h1,h2,h3,Nat.zero_le _⟩,fun _ _=>trivial⟩,hk.rd,hk.gr⟩
theorem UG {R:Rp} {w w2:World} {r:aJ} {x:E} {ao:Option Addr} {cap:Nat} {nm:ByteArray} {t:TypeId} (hn:nm.size≤maxLen) (h:Wk R w w2 r) (hlt:w.heap.size < w2.heap.size) (hE:ni x∧eH (w.heap.size + 1) w2 (fun w2=>x.kids.At w2 w2.heap.size ao 0)):
 kJ R w (.ok (WR nm x) r) (.returned (.tuple #[exV 3 0 nm (.cons x.op x.n x.nm x.kids .nil) (some ⟨w2.heap.size,0,none⟩) 1,.bool true]))
  ((iF w2 w.heap.size (.int .i64 3) (.int .i64 0) (.string nm) (.slice (some ⟨w2.heap.size,0,none⟩) 1 1)).alloc (.cells #[.int .i64 x.op,.int .i64 x.n,.string x.nm,.slice ao x.kids.len cap] t)):=by
 have hk:=h.iF w.heap.size (.int .i64 3) (.int .i64 0) (.string nm) (.slice (some ⟨w2.heap.size,0,none⟩) 1 1) (Nat.le_refl _)
 have ha:=Dc w2 w.heap.size (.int .i64 3) (.int .i64 0) (.string nm) (.slice (some ⟨w2.heap.size,0,none⟩) 1 1)
 have hs:=AJ w2 w.heap.size (.int .i64 3) (.int .i64 0) (.string nm) (.slice (some ⟨w2.heap.size,0,none⟩) 1 1)
 generalize iF w2 w.heap.size _ _ _ _=W at *
 refine ⟨_,rfl,⟨_,1,rfl,⟨(by unfold dR; decide:dR 3),tT,hn,by simp [WR,bL.len,maxLen]⟩,?_⟩,(hk.alloc _).rd,(hk.alloc _).gr⟩
 rw [← hs]
 exact (Df (heap_alloc_new _ _) (by omega) hE.1 ((hE.2.next ha).next (bU (aj _ _)))).mono (Nat.le_succ _)
theorem Fp {x:E} {r:aJ} {y:List UInt8} (h:at' y r=true):(bK.ok x r).close y= .ok x r.tail:=by show ite _ _ _=_; rw [if_pos h]
theorem FC {x:E} {r:aJ} {y:List UInt8} (h:at' y r=false):(bK.ok x r).close y= .no r:=by show ite _ _ _=_; rw [if_neg (by rw [h]; decide)]
theorem mM {l:List UInt8} (h:Tk.kT l=true):(tx l).size≤maxLen:=by
 unfold Tk.kT at h
 simp only [Bool.and_eq_true,decide_eq_true_eq] at h
 have:(tx l).size=l.length:=by simp [tx,ByteArray.size]
 unfold maxLen; omega
set_option maxHeartbeats 1000000 in
theorem Eu (R:Rp) (f:Nat) (ts:aJ) (h:uy R f ts (.bin 1)) (w:World) (hI:bf w R ts):Calls Tryz.prog 198 #[.pointer (some ⟨R.br,0,none⟩)] w (kJ R w (pe f (.bin 1) ts)):=by
 have HI:=Lib.hid hI
 have HX:Hid (∀w,bf w R ts→Calls Tryz.prog 217 #[.pointer (some ⟨R.br,0,none⟩),.int .i64 1] w (kJ R w (pe f (.bin 1) ts))):=Lib.hid (h (by decide))
 clear hI h
 generalize pe f (.bin 1) ts=res at *
 go_enter Tryz.func198,Tryz.ntmps198
 go_upto_region 1 with fail
 generalize hW:World.alloc w _=W
 have HK:Hid (Wk R w W ts):=Lib.hid (by rw [← hW]; exact (Wk.start HI.out).alloc _)
 have HZ:Hid (W.heap[w.heap.size]? =some (.cells #[.int .i64 0,.int .i64 0,.string ⟨#[]⟩,.slice none 0 0] 129 (0,0))):=Lib.hid (by rw [← hW]; exact heap_alloc_new _ _)
 clear hW
 go_wp2_with fail
 refine (HX.out _ HK.out.rd).mono ?_
 cases res with
 | no r=>
   rintro e w2 ⟨rfl,h2,h3⟩
   have gY:=Lib.hid (HK.out.then h2 h3)
   have HZ2:=Lib.hid ((HK.out.kept h3 (Nat.le_refl _) (Array.getElem?_eq_some_iff.1 HZ.out).1).trans HZ.out)
   clear h2 h3 HK HZ
   obtain ⟨⟨y0,y1,y2,y3⟩,f0,f1,f2,f3⟩:=fJ HZ2.out
   unfold zE
   go_wp2_with fail
   exact bodyPost_ret (v:= .tuple #[zE,.bool false]) (by simp [results,Tryz.results198,go_sem,y0,y1,y2,y3,zE]) rfl (om (gY.out.iF _ _ _ _ _ (Nat.le_refl _)))
 | ok x r=>
   rintro e w2 ⟨v,rfl,hv,h2,h3⟩
   have gY:=Lib.hid (HK.out.then h2 h3)
   have HZ2:=Lib.hid ((HK.out.kept h3 (Nat.le_refl _) (Array.getElem?_eq_some_iff.1 HZ.out).1).trans HZ.out)
   have ny:=Lib.hid (hv.mono (Array.getElem?_eq_some_iff.1 HZ.out).1)
   clear h2 h3 HK HZ hv
   obtain ⟨ao,cap,rfl,hok,hst⟩:=ny.out
   have HE:=Lib.hid (And.intro hok hst)
   clear hok hst ny
   obtain ⟨⟨y0,y1,y2,y3⟩,f0,f1,f2,f3⟩:=fJ HZ2.out
   unfold exV
   go_wp2_with fail
   exact bodyPost_ret (v:= .tuple #[exV x.op x.n x.nm x.kids ao cap,.bool true]) (by simp [results,Tryz.results198,go_sem,exV,y0,y1,y2,y3]) rfl (ze gY.out HE.out)
set_option maxHeartbeats 4000000 in
set_option maxRecDepth 100000 in
theorem Jb (R:Rp) (f:Nat) (ts:aJ) (hf:enough .pr ts (f + 1)) (ih: ∀m ts,enough m ts f→uy R f ts m):uy R (f + 1) ts .pr:=by
 intro w hI
 have HI:=Lib.hid hI
 have kE:=Lib.hid ih
 have HF:=Lib.hid hf
 clear hI ih hf
 cases h0:isNum ts
 ·cases h1:isName ts
  ·cases h2:at' [40] ts
   ·rw [U5 h0 h1 h2]
    clear kE HF
    go_enter Tryz.func232,Tryz.ntmps232
    go_upto_region 1 with fail
    generalize hW:World.alloc w _=W
    have HK:Hid (Wk R w W ts):=Lib.hid (by rw [← hW]; exact (Wk.start HI.out).alloc _)
    have HZ:Hid (W.heap[w.heap.size]? =some (.cells #[.int .i64 0,.int .i64 0,.string ⟨#[]⟩,.slice none 0 0] 129 (0,0))):=Lib.hid (by rw [← hW]; exact heap_alloc_new _ _)
    clear hW
    go_wp2_with fail
    refine (vV R _ _ h0 HK.out.rd).mono ?_
    rintro e w0 ⟨rfl,h2⟩
    have iX:=Lib.hid (HK.out.below h2)
    have HZ0:=Lib.hid ((h2.block _ (Array.getElem?_eq_some_iff.1 HZ.out).1).trans HZ.out)
    clear h2 HK HZ
    have HK:=iX
    have HZ:=HZ0
    clear iX HZ0
    go_wp2_with fail
    refine (jY R _ _ h1 HK.out.rd).mono ?_
    rintro e w0 ⟨rfl,h2⟩
    have iX:=Lib.hid (HK.out.below h2)
    have HZ0:=Lib.hid ((h2.block _ (Array.getElem?_eq_some_iff.1 HZ.out).1).trans HZ.out)
    clear h2 HK HZ
    have HK:=iX
    have HZ:=HZ0
    clear iX HZ0
    go_wp2_with fail
    refine (dU R _ _ ⟨#[40]⟩ rfl h2 HK.out.rd).mono ?_
    rintro e w0 ⟨rfl,h2⟩
    have iX:=Lib.hid (HK.out.below h2)
    have HZ0:=Lib.hid ((h2.block _ (Array.getElem?_eq_some_iff.1 HZ.out).1).trans HZ.out)
    clear h2 HK HZ
    have HK:=iX
    have HZ:=HZ0
    clear iX HZ0
    obtain ⟨⟨y0,y1,y2,y3⟩,f0,f1,f2,f3⟩:=fJ HZ.out
    go_wp2_with fail
    exact bodyPost_ret (v:= .tuple #[zE,.bool false]) (by simp [results,Tryz.results232,go_sem,y0,y1,y2,y3,zE]) rfl (om (HK.out.iF _ _ _ _ _ (Nat.le_refl _)))
   ·have HX:Hid (∀w,bf w R ts.tail→Calls Tryz.prog 198 #[.pointer (some ⟨R.br,0,none⟩)] w (kJ R w (pe f (.bin 1) ts.tail))):=Lib.hid (Eu R f ts.tail (kE.out (.bin 1) ts.tail (by
     have:=HF.out; have:=at_len h2; simp only [enough,wt] at *; omega)))
    rw [UM h0 h1 h2]
    clear kE HF
    generalize pe f (.bin 1) ts.tail=res at *
    go_enter Tryz.func232,Tryz.ntmps232
    go_upto_region 1 with fail
    generalize hW:World.alloc w _=W
    have HK:Hid (Wk R w W ts):=Lib.hid (by rw [← hW]; exact (Wk.start HI.out).alloc _)
    have HZ:Hid (W.heap[w.heap.size]? =some (.cells #[.int .i64 0,.int .i64 0,.string ⟨#[]⟩,.slice none 0 0] 129 (0,0))):=Lib.hid (by rw [← hW]; exact heap_alloc_new _ _)
    clear hW
    go_wp2_with fail
    refine (vV R _ _ h0 HK.out.rd).mono ?_
    rintro e w0 ⟨rfl,h2⟩
    have iX:=Lib.hid (HK.out.below h2)
    have HZ0:=Lib.hid ((h2.block _ (Array.getElem?_eq_some_iff.1 HZ.out).1).trans HZ.out)
    clear h2 HK HZ
    have HK:=iX
    have HZ:=HZ0
    clear iX HZ0
    go_wp2_with fail
    refine (jY R _ _ h1 HK.out.rd).mono ?_
    rintro e w0 ⟨rfl,h2⟩
    have iX:=Lib.hid (HK.out.below h2)
    have HZ0:=Lib.hid ((h2.block _ (Array.getElem?_eq_some_iff.1 HZ.out).1).trans HZ.out)
    clear h2 HK HZ
    have HK:=iX
    have HZ:=HZ0
    clear iX HZ0
    go_wp2_with fail
    refine (cu R _ _ ⟨#[40]⟩ rfl h2 HK.out.rd).mono ?_
    rintro e w1 ⟨rfl,h2,h3⟩
    have gV:=Lib.hid (HK.out.then h2 h3)
    have HZ1:=Lib.hid ((HK.out.kept h3 (Nat.le_refl _) (Array.getElem?_eq_some_iff.1 HZ.out).1).trans HZ.out)
    clear h2 h3 HK HZ
    go_wp2_with fail
    refine (HX.out _ gV.out.rd).mono ?_
    cases res with
    | no r=>
      rintro e w2 ⟨rfl,h2,h3⟩
      have gY:=Lib.hid (gV.out.then h2 h3)
      have HZ2:=Lib.hid ((gV.out.kept h3 (Nat.le_refl _) (Array.getElem?_eq_some_iff.1 HZ1.out).1).trans HZ1.out)
      clear h2 h3 gV HZ1
      obtain ⟨⟨y0,y1,y2,y3⟩,f0,f1,f2,f3⟩:=fJ HZ2.out
      have hlt2:w.heap.size < w2.heap.size:=(Array.getElem?_eq_some_iff.1 HZ2.out).1
      unfold zE
      go_wp2_with fail
      exact bodyPost_ret (v:= .tuple #[zE,.bool false]) (by simp [results,Tryz.results232,go_sem,y0,y1,y2,y3,hlt2,zE]) rfl (om ((gY.out.iF _ _ _ _ _ (Nat.le_refl _)).alloc _))
    | ok x r=>
      rintro e w2 ⟨v,rfl,hv,h2,h3⟩
      have gY:=Lib.hid (gV.out.then h2 h3)
      have HZ2:=Lib.hid ((gV.out.kept h3 (Nat.le_refl _) (Array.getElem?_eq_some_iff.1 HZ1.out).1).trans HZ1.out)
      have ny:=Lib.hid (hv.mono (Array.getElem?_eq_some_iff.1 HZ1.out).1)
      clear h2 h3 gV HZ1 hv
      obtain ⟨ao,cap,rfl,hok,hst⟩:=ny.out
      have HE:=Lib.hid (And.intro hok hst)
      clear hok hst ny
      unfold exV
      go_upto_region 15 with fail
      obtain ⟨g,hg⟩: ∃g,w2.heap.size=g:=⟨_,rfl⟩
      generalize hW:World.alloc w2 _=W2
      have jM:Hid (Wk R w W2 r):=Lib.hid (by rw [← hW]; exact gY.out.alloc _)
      have HB3:Hid (W2.heap[g]? =some (.cells #[.int .i64 x.op,.int .i64 x.n,.string x.nm,.slice ao x.kids.len cap] 129 (0,0))):=Lib.hid (by rw [← hW,← hg]; exact heap_alloc_new _ _)
      have HZ3:Hid (W2.heap[w.heap.size]? =some (.cells #[.int .i64 0,.int .i64 0,.string ⟨#[]⟩,.slice none 0 0] 129 (0,0))):=Lib.hid (by rw [← hW]; exact (heap_alloc_old _ _ (Array.getElem?_eq_some_iff.1 HZ2.out).1).trans HZ2.out)
      have jQ:Hid (ni x∧eH (w.heap.size + 1) W2 (fun w2=>x.kids.At w2 w2.heap.size ao 0)):=Lib.hid ⟨HE.out.1,by rw [← hW]; exact HE.out.2.next (bU (aj _ _))⟩
      have HG:Hid (w.heap.size < g):=Lib.hid (by rw [← hg]; exact (Array.getElem?_eq_some_iff.1 HZ2.out).1)
      have zZ:Hid (gG (w.heap.size + 1) (some g) W2 (fun w2=>x.kids.At w2 w2.heap.size ao 0)):=Lib.hid (by rw [← hW]; exact CV HE.out.2 (bU (aj _ _)) (Nat.le_of_eq hg))
      rw [hg]
      clear hW hg gY HZ2 HE
      cases h4:at' [41] r
      ·go_wp2_with fail
       refine (dU R _ _ ⟨#[41]⟩ rfl h4 jM.out.rd).mono ?_
       rintro e w3 ⟨rfl,h2⟩
       have gY:=Lib.hid (jM.out.below h2)
       have HZ2:=Lib.hid ((h2.block _ (Array.getElem?_eq_some_iff.1 HZ3.out).1).trans HZ3.out)
       clear h2 jM HZ3 HB3 jQ
       obtain ⟨⟨y0,y1,y2,y3⟩,f0,f1,f2,f3⟩:=fJ HZ2.out
       have hlt2:w.heap.size < w3.heap.size:=(Array.getElem?_eq_some_iff.1 HZ2.out).1
       go_wp2_with fail
       exact bodyPost_ret (v:= .tuple #[zE,.bool false]) (by simp [results,Tryz.results232,go_sem,y0,y1,y2,y3,hlt2,zE]) rfl (by rw [FC h4]; exact om (gY.out.iF _ _ _ _ _ (Nat.le_refl _)))
      ·go_wp2_with fail
       refine (cu R _ _ ⟨#[41]⟩ rfl h4 jM.out.rd).mono ?_
       rintro e w3 ⟨rfl,h2,h3⟩
       have gY:=Lib.hid (jM.out.then h2 h3)
       have HZ2:=Lib.hid ((jM.out.kept h3 (Nat.le_refl _) (Array.getElem?_eq_some_iff.1 HZ3.out).1).trans HZ3.out)
       have HB2:=Lib.hid ((jM.out.kept h3 (Nat.le_of_lt HG.out) (Array.getElem?_eq_some_iff.1 HB3.out).1).trans HB3.out)
       have HE:Hid (ni x∧eH (w.heap.size + 1) w3 (fun w2=>x.kids.At w2 w2.heap.size ao 0)):=Lib.hid ⟨jQ.out.1,jQ.out.2.next (oo h3 (Nat.lt_succ_of_lt jM.out.lt))⟩
       clear h2 h3 jM HZ3 HB3 jQ
       obtain ⟨⟨y0,y1,y2,y3⟩,f0,f1,f2,f3⟩:=fJ HZ2.out
       have z0:w3.cell? ⟨g,0,none⟩=some (.int .i64 x.op):=aB HB2.out rfl
       have z1:w3.cell? ⟨g,1,none⟩=some (.int .i64 x.n):=aB HB2.out rfl
       have z2:w3.cell? ⟨g,2,none⟩=some (.string x.nm):=aB HB2.out rfl
       have z3:w3.cell? ⟨g,3,none⟩=some (.slice ao x.kids.len cap):=aB HB2.out rfl
       have hlt2:w.heap.size < w3.heap.size:=(Array.getElem?_eq_some_iff.1 HZ2.out).1
       have hlt3:g < w3.heap.size:=(Array.getElem?_eq_some_iff.1 HB2.out).1
       go_wp2_with fail
       exact bodyPost_ret (v:= .tuple #[exV x.op x.n x.nm x.kids ao cap,.bool true]) (by simp [results,Tryz.results232,go_sem,exV,y0,y1,y2,y3]) rfl (by rw [Fp h4]; exact ze gY.out HE.out)
  ·have qN:Hid ((tx (aI ts)).size≤maxLen):=Lib.hid (mM (mU HI.out.ts h1))
   cases h2:at' [91] ts.tail
   ·rw [Xz h0 h1 h2]
    clear kE HF
    go_enter Tryz.func232,Tryz.ntmps232
    go_upto_region 1 with fail
    generalize hW:World.alloc w _=W
    have HK:Hid (Wk R w W ts):=Lib.hid (by rw [← hW]; exact (Wk.start HI.out).alloc _)
    have HZ:Hid (W.heap[w.heap.size]? =some (.cells #[.int .i64 0,.int .i64 0,.string ⟨#[]⟩,.slice none 0 0] 129 (0,0))):=Lib.hid (by rw [← hW]; exact heap_alloc_new _ _)
    clear hW
    go_wp2_with fail
    refine (vV R _ _ h0 HK.out.rd).mono ?_
    rintro e w0 ⟨rfl,h2⟩
    have iX:=Lib.hid (HK.out.below h2)
    have HZ0:=Lib.hid ((h2.block _ (Array.getElem?_eq_some_iff.1 HZ.out).1).trans HZ.out)
    clear h2 HK HZ
    have HK:=iX
    have HZ:=HZ0
    clear iX HZ0
    go_wp2_with fail
    refine (jr R _ _ h1 HK.out.rd).mono ?_
    rintro e w0 ⟨rfl,h2,h3⟩
    have iX:=Lib.hid (HK.out.then h2 h3)
    have HZ0:=Lib.hid ((HK.out.kept h3 (Nat.le_refl _) (Array.getElem?_eq_some_iff.1 HZ.out).1).trans HZ.out)
    clear h2 h3 HK HZ
    have HK:=iX
    have HZ:=HZ0
    clear iX HZ0
    go_wp2_with fail
    refine (dU R _ _ ⟨#[91]⟩ rfl h2 HK.out.rd).mono ?_
    rintro e w0 ⟨rfl,h2⟩
    have iX:=Lib.hid (HK.out.below h2)
    have HZ0:=Lib.hid ((h2.block _ (Array.getElem?_eq_some_iff.1 HZ.out).1).trans HZ.out)
    clear h2 HK HZ
    have HK:=iX
    have HZ:=HZ0
    clear iX HZ0
    obtain ⟨⟨y0,y1,y2,y3⟩,f0,f1,f2,f3⟩:=fJ HZ.out
    go_wp2_with fail
    exact bodyPost_ret (v:= .tuple #[exV 2 0 (tx (aI ts)) .nil none 0,.bool true]) (by simp [results,Tryz.results232,go_sem,y0,y1,y2,y3,exV,bL.len]) rfl (Jg HK.out (by unfold dR; decide) tT qN.out)
   ·have HX:Hid (∀w,bf w R ts.tail.tail→Calls Tryz.prog 198 #[.pointer (some ⟨R.br,0,none⟩)] w (kJ R w (pe f (.bin 1) ts.tail.tail))):=Lib.hid (Eu R f ts.tail.tail (kE.out (.bin 1) ts.tail.tail (by
     have:=HF.out; have:=wB h1; have:=at_len h2; simp only [enough,wt] at *; omega)))
    rw [XU h0 h1 h2]
    clear kE HF
    generalize pe f (.bin 1) ts.tail.tail=res at *
    obtain ⟨nm,Zf⟩: ∃nm,Hid (tx (aI ts)=nm):=⟨_,Lib.hid rfl⟩
    rw [Zf.out] at qN ⊢
    go_enter Tryz.func232,Tryz.ntmps232
    go_upto_region 1 with fail
    generalize hW:World.alloc w _=W
    have HK:Hid (Wk R w W ts):=Lib.hid (by rw [← hW]; exact (Wk.start HI.out).alloc _)
    have HZ:Hid (W.heap[w.heap.size]? =some (.cells #[.int .i64 0,.int .i64 0,.string ⟨#[]⟩,.slice none 0 0] 129 (0,0))):=Lib.hid (by rw [← hW]; exact heap_alloc_new _ _)
    clear hW
    go_wp2_with fail
    refine (vV R _ _ h0 HK.out.rd).mono ?_
    rintro e w0 ⟨rfl,h2⟩
    have iX:=Lib.hid (HK.out.below h2)
    have HZ0:=Lib.hid ((h2.block _ (Array.getElem?_eq_some_iff.1 HZ.out).1).trans HZ.out)
    clear h2 HK HZ
    have HK:=iX
    have HZ:=HZ0
    clear iX HZ0
    go_wp2_with fail
    refine (jr R _ _ h1 HK.out.rd).mono ?_
    rw [Zf.out]
    rintro e w0 ⟨rfl,h2,h3⟩
    have iX:=Lib.hid (HK.out.then h2 h3)
    have HZ0:=Lib.hid ((HK.out.kept h3 (Nat.le_refl _) (Array.getElem?_eq_some_iff.1 HZ.out).1).trans HZ.out)
    clear h2 h3 HK HZ
    have HK:=iX
    have HZ:=HZ0
    clear iX HZ0
    go_wp2_with fail
    refine (cu R _ _ ⟨#[91]⟩ rfl h2 HK.out.rd).mono ?_
    rintro e w1 ⟨rfl,h2,h3⟩
    have gV:=Lib.hid (HK.out.then h2 h3)
    have HZ1:=Lib.hid ((HK.out.kept h3 (Nat.le_refl _) (Array.getElem?_eq_some_iff.1 HZ.out).1).trans HZ.out)
    clear h2 h3 HK HZ
    go_wp2_with fail
    refine (HX.out _ gV.out.rd).mono ?_
    cases res with
    | no r=>
      rintro e w2 ⟨rfl,h2,h3⟩
      have gY:=Lib.hid (gV.out.then h2 h3)
      have HZ2:=Lib.hid ((gV.out.kept h3 (Nat.le_refl _) (Array.getElem?_eq_some_iff.1 HZ1.out).1).trans HZ1.out)
      clear h2 h3 gV HZ1
      obtain ⟨⟨y0,y1,y2,y3⟩,f0,f1,f2,f3⟩:=fJ HZ2.out
      have hlt2:w.heap.size < w2.heap.size:=(Array.getElem?_eq_some_iff.1 HZ2.out).1
      unfold zE
      go_wp2_with fail
      exact bodyPost_ret (v:= .tuple #[zE,.bool false]) (by simp [results,Tryz.results232,go_sem,y0,y1,y2,y3,hlt2,zE]) rfl (om ((gY.out.iF _ _ _ _ _ (Nat.le_refl _)).alloc _))
    | ok x r=>
      rintro e w2 ⟨v,rfl,hv,h2,h3⟩
      have gY:=Lib.hid (gV.out.then h2 h3)
      have HZ2:=Lib.hid ((gV.out.kept h3 (Nat.le_refl _) (Array.getElem?_eq_some_iff.1 HZ1.out).1).trans HZ1.out)
      have ny:=Lib.hid (hv.mono (Array.getElem?_eq_some_iff.1 HZ1.out).1)
      clear h2 h3 gV HZ1 hv
      obtain ⟨ao,cap,rfl,hok,hst⟩:=ny.out
      have HE:=Lib.hid (And.intro hok hst)
      clear hok hst ny
      unfold exV
      go_upto_region 9 with fail
      obtain ⟨g,hg⟩: ∃g,w2.heap.size=g:=⟨_,rfl⟩
      generalize hW:World.alloc w2 _=W2
      have jM:Hid (Wk R w W2 r):=Lib.hid (by rw [← hW]; exact gY.out.alloc _)
      have HB3:Hid (W2.heap[g]? =some (.cells #[.int .i64 x.op,.int .i64 x.n,.string x.nm,.slice ao x.kids.len cap] 129 (0,0))):=Lib.hid (by rw [← hW,← hg]; exact heap_alloc_new _ _)
      have HZ3:Hid (W2.heap[w.heap.size]? =some (.cells #[.int .i64 0,.int .i64 0,.string ⟨#[]⟩,.slice none 0 0] 129 (0,0))):=Lib.hid (by rw [← hW]; exact (heap_alloc_old _ _ (Array.getElem?_eq_some_iff.1 HZ2.out).1).trans HZ2.out)
      have jQ:Hid (ni x∧eH (w.heap.size + 1) W2 (fun w2=>x.kids.At w2 w2.heap.size ao 0)):=Lib.hid ⟨HE.out.1,by rw [← hW]; exact HE.out.2.next (bU (aj _ _))⟩
      have HG:Hid (w.heap.size < g):=Lib.hid (by rw [← hg]; exact (Array.getElem?_eq_some_iff.1 HZ2.out).1)
      have zZ:Hid (gG (w.heap.size + 1) (some g) W2 (fun w2=>x.kids.At w2 w2.heap.size ao 0)):=Lib.hid (by rw [← hW]; exact CV HE.out.2 (bU (aj _ _)) (Nat.le_of_eq hg))
      rw [hg]
      clear hW hg gY HZ2 HE
      cases h4:at' [93] r
      ·go_wp2_with fail
       refine (dU R _ _ ⟨#[93]⟩ rfl h4 jM.out.rd).mono ?_
       rintro e w3 ⟨rfl,h2⟩
       have gY:=Lib.hid (jM.out.below h2)
       have HZ2:=Lib.hid ((h2.block _ (Array.getElem?_eq_some_iff.1 HZ3.out).1).trans HZ3.out)
       clear h2 jM HZ3 HB3 jQ
       obtain ⟨⟨y0,y1,y2,y3⟩,f0,f1,f2,f3⟩:=fJ HZ2.out
       have hlt2:w.heap.size < w3.heap.size:=(Array.getElem?_eq_some_iff.1 HZ2.out).1
       go_wp2_with fail
       exact bodyPost_ret (v:= .tuple #[zE,.bool false]) (by simp [results,Tryz.results232,go_sem,y0,y1,y2,y3,hlt2,zE]) rfl (by rw [FC h4]; exact om (gY.out.iF _ _ _ _ _ (Nat.le_refl _)))
      ·go_wp2_with fail
       refine (cu R _ _ ⟨#[93]⟩ rfl h4 jM.out.rd).mono ?_
       rintro e w3 ⟨rfl,h2,h3⟩
       have gY:=Lib.hid (jM.out.then h2 h3)
       have HZ2:=Lib.hid ((jM.out.kept h3 (Nat.le_refl _) (Array.getElem?_eq_some_iff.1 HZ3.out).1).trans HZ3.out)
       have HB2:=Lib.hid ((jM.out.kept h3 (Nat.le_of_lt HG.out) (Array.getElem?_eq_some_iff.1 HB3.out).1).trans HB3.out)
       have HE:Hid (ni x∧eH (w.heap.size + 1) w3 (fun w2=>x.kids.At w2 w2.heap.size ao 0)):=Lib.hid ⟨jQ.out.1,jQ.out.2.next (oo h3 (Nat.lt_succ_of_lt jM.out.lt))⟩
       clear h2 h3 jM HZ3 HB3 jQ
       obtain ⟨⟨y0,y1,y2,y3⟩,f0,f1,f2,f3⟩:=fJ HZ2.out
       have z0:w3.cell? ⟨g,0,none⟩=some (.int .i64 x.op):=aB HB2.out rfl
       have z1:w3.cell? ⟨g,1,none⟩=some (.int .i64 x.n):=aB HB2.out rfl
       have z2:w3.cell? ⟨g,2,none⟩=some (.string x.nm):=aB HB2.out rfl
       have z3:w3.cell? ⟨g,3,none⟩=some (.slice ao x.kids.len cap):=aB HB2.out rfl
       have hlt2:w.heap.size < w3.heap.size:=(Array.getElem?_eq_some_iff.1 HZ2.out).1
       have hlt3:g < w3.heap.size:=(Array.getElem?_eq_some_iff.1 HB2.out).1
       go_wp2_with fail
       exact bodyPost_ret (v:= .tuple #[exV 3 0 nm (.cons x.op x.n x.nm x.kids .nil) (some ⟨w3.heap.size,0,none⟩) 1,.bool true]) (by simp [results,Tryz.results232,go_sem,exV,bL.len,y0,y1,y2,y3,hlt2]) rfl (by rw [Fp h4]; exact UG qN.out gY.out hlt2 HE.out)
 ·have HV:Hid (dR ((Tk.val (aI ts):Nat):Int)):=Lib.hid (by have:=DR HI.out.ts h0; unfold dR; omega)
  rw [VA h0]
  clear kE HF
  go_enter Tryz.func232,Tryz.ntmps232
  go_upto_region 1 with fail
  generalize hW:World.alloc w _=W
  have HK:Hid (Wk R w W ts):=Lib.hid (by rw [← hW]; exact (Wk.start HI.out).alloc _)
  have HZ:Hid (W.heap[w.heap.size]? =some (.cells #[.int .i64 0,.int .i64 0,.string ⟨#[]⟩,.slice none 0 0] 129 (0,0))):=Lib.hid (by rw [← hW]; exact heap_alloc_new _ _)
  clear hW
  go_wp2_with fail
  refine (yX R _ _ h0 HK.out.rd).mono ?_
  rintro e w0 ⟨rfl,h2,h3⟩
  have iX:=Lib.hid (HK.out.then h2 h3)
  have HZ0:=Lib.hid ((HK.out.kept h3 (Nat.le_refl _) (Array.getElem?_eq_some_iff.1 HZ.out).1).trans HZ.out)
  clear h2 h3 HK HZ
  have HK:=iX
  have HZ:=HZ0
  clear iX HZ0
  obtain ⟨⟨y0,y1,y2,y3⟩,f0,f1,f2,f3⟩:=fJ HZ.out
  go_wp2_with fail
  exact bodyPost_ret (v:= .tuple #[exV 1 ((Tk.val (aI ts):Nat):Int) ⟨#[]⟩ .nil none 0,.bool true]) (by simp [results,Tryz.results232,go_sem,y0,y1,y2,y3,exV,bL.len]) rfl (Jg HK.out (by unfold dR; decide) HV.out (Nat.zero_le _))
end Go.Proofs.YtdajkddgnfgijaaGreatDoor
end
section
set_option linter.unusedSimpArgs false
set_option linter.unusedVariables false
namespace Go.Proofs.YtdajkddgnfgijaaGreatDoor
open Go.RowKit
open Md Pz
theorem NS {B:Nat} {w:World} {g L:Nat} {op n op' n':Int} {nm nm':ByteArray} {kids iO:bL} {ao mH:Option Addr} {cap cap':Nat} {t:TypeId} {fr:Nat × Nat} (hb:w.heap[g]? =some (.cells (Ch op n nm kids ao cap++Ch op' n' nm' iO mH cap').toArray t fr)) (ht:B≤g) (hL:g≠L) (hok:uK op n nm kids) (hk:gG B (some L) w (fun w2=>kids.At w2 w2.heap.size ao 0)) (hok':uK op' n' nm' iO) (hk':gG B (some L) w (fun w2=>iO.At w2 w2.heap.size mH 0)):
 gG B (some L) w (fun w2=>(bL.cons op n nm kids (.cons op' n' nm' iO .nil)).At w2 w2.heap.size (some ⟨g,0,none⟩) 0):=fun w2 h=>by
 have h2:=(h.2 g ht (by simp; exact hL) (Array.getElem?_eq_some_iff.1 hb).1).trans hb
 have hl:=(Array.getElem?_eq_some_iff.1 h2).1
 have hc: ∀j u,(Ch op n nm kids ao cap++Ch op' n' nm' iO mH cap').toArray[j]? =some u→w2.cell? ⟨g,j,none⟩=some u:=fun j u hu=>aB h2 hu
 exact ⟨⟨g,0,ao,cap,rfl,hl,hc 0 _ rfl,hc 1 _ rfl,hc 2 _ rfl,hc 3 _ rfl,hok,hk w2 h⟩,⟨g,0,mH,cap',rfl,hl,hc 4 _ rfl,hc 5 _ rfl,hc 6 _ rfl,hc 7 _ rfl,hok',hk' w2 h⟩,trivial⟩
def zC:Array Value:= #[.int .i64 0,.int .i64 0,.string ⟨#[]⟩,.slice none 0 0]
def Nz (R:Rp) (w:World) (f lv L:Nat) (res:bK E) (g:Nat) (wr:World):Prop:=
 ∃f' l rest ao cap,g=rest.length∧f'≤f∧enough (.lp lv l) rest f'∧res=pe f' (.lp lv l) rest∧Wk R w wr rest∧wr.heap[w.heap.size]? =some (.cells zC 129 (0,0))∧
  wr.heap[L]? =some (.cells (Ch l.op l.n l.nm l.kids ao cap).toArray 129 (0,0))∧ni l∧gG (w.heap.size + 1) (some L) wr (fun w2=>l.kids.At w2 w2.heap.size ao 0)
theorem Bq {w:World} {g:Nat} {x:E} {ao:Option Addr} {cap:Nat} {t:TypeId} (h:w.heap[g]? =some (.cells (Ch x.op x.n x.nm x.kids ao cap).toArray t (0,0))):
 (w.cell? ⟨g,0,none⟩=some (.int .i64 x.op)∧w.cell? ⟨g,1,none⟩=some (.int .i64 x.n)∧w.cell? ⟨g,2,none⟩=some (.string x.nm)∧w.cell? ⟨g,3,none⟩=some (.slice ao x.kids.len cap))∧w.frozen? ⟨g,0,none⟩=false∧w.frozen? ⟨g,1,none⟩=false∧w.frozen? ⟨g,2,none⟩=false∧w.frozen? ⟨g,3,none⟩=false:=
 ⟨⟨aB h rfl,aB h rfl,aB h rfl,aB h rfl⟩,bH h,bH h,bH h,bH h⟩
theorem QD {w:World} {g:Nat} {a b c d:Value} {v0 v1 v2 v3:Value} {t:TypeId} {fr:Nat × Nat} (h:w.heap[g]? =some (.cells #[a,b,c,d] t fr)):(iF w g v0 v1 v2 v3).heap[g]? =some (.cells #[v0,v1,v2,v3] t fr):=by
 unfold iF
 rw [dV (dV (dV (dV h v0) v1) v2) v3]; rfl
theorem Jd (w:World) {g k:Nat} (v0 v1 v2 v3:Value) (h:g≠k):(iF w g v0 v1 v2 v3).heap[k]? =w.heap[k]?:=by
 unfold iF
 rw [bJ _ _ _ rfl h,bJ _ _ _ rfl h,bJ _ _ _ rfl h,bJ _ _ _ rfl h]
theorem Tc {R:Rp} {w W:World} {rest:aJ} {l x:E} {op:Int} {g:Nat} {fF dH:Option Addr} {dW bR:Nat} {t:TypeId} (hop:dR op) (hK:Wk R w W rest) (hg:w.heap.size < g) (hz:W.heap[w.heap.size]? =some (.cells zC t (0,0))) (hb:W.heap[g]? =some (.cells (Ch l.op l.n l.nm l.kids fF dW).toArray t (0,0)))
 (hl:ni l∧gG (w.heap.size + 1) (some g) W (fun w2=>l.kids.At w2 w2.heap.size fF 0)) (hx:ni x∧gG (w.heap.size + 1) (some g) W (fun w2=>x.kids.At w2 w2.heap.size dH 0)):
 ∀W',(iF W g (.int .i64 op) (.int .i64 0) (.string ⟨#[]⟩) (.slice (some ⟨W.heap.size,0,none⟩) 2 2)).alloc (.cells #[.int .i64 l.op,.int .i64 l.n,.string l.nm,.slice fF l.kids.len dW,.int .i64 x.op,.int .i64 x.n,.string x.nm,.slice dH x.kids.len bR] t)=W'→
 Wk R w W' rest∧W'.heap[w.heap.size]? =some (.cells zC t (0,0))∧W'.heap[g]? =some (.cells (Ch (mk2 op l x).op (mk2 op l x).n (mk2 op l x).nm (mk2 op l x).kids (some ⟨W.heap.size,0,none⟩) 2).toArray t (0,0))∧
  ni (mk2 op l x)∧gG (w.heap.size + 1) (some g) W' (fun w2=>(mk2 op l x).kids.At w2 w2.heap.size (some ⟨W.heap.size,0,none⟩) 0):=by
 intro W' hW'
 have YI:=(Array.getElem?_eq_some_iff.1 hb).1
 have hs:=AJ W g (.int .i64 op) (.int .i64 0) (.string ⟨#[]⟩) (.slice (some ⟨W.heap.size,0,none⟩) 2 2)
 have hk:=hK.iF g (.int .i64 op) (.int .i64 0) (.string ⟨#[]⟩) (.slice (some ⟨W.heap.size,0,none⟩) 2 2) (Nat.le_of_lt hg)
 have hgb:=QD (v0:= .int .i64 op) (v1:= .int .i64 0) (v2:= .string ⟨#[]⟩) (v3:= .slice (some ⟨W.heap.size,0,none⟩) 2 2) hb
 have hzb:=(Jd W (.int .i64 op) (.int .i64 0) (.string ⟨#[]⟩) (.slice (some ⟨W.heap.size,0,none⟩) 2 2) (show g≠w.heap.size by omega)).trans hz
 have hax:Bh (w.heap.size + 1) (some g) W (iF W g (.int .i64 op) (.int .i64 0) (.string ⟨#[]⟩) (.slice (some ⟨W.heap.size,0,none⟩) 2 2)):=⟨Nat.le_of_eq hs.symm,fun k _ h2 _=>Jd W _ _ _ _ (fun e=>h2 (by rw [e]))⟩
 generalize iF W g _ _ _ _=W1 at *
 subst hW'
 refine ⟨hk.alloc _,(heap_alloc_old _ _ (by omega)).trans hzb,(heap_alloc_old _ _ (by omega)).trans hgb,⟨hop,tT,Nat.zero_le _,by simp [mk2,bL.len,maxLen]⟩,?_⟩
 refine NS (g:=W.heap.size) (t:=t) (fr:=(0,0)) (by rw [← hs]; exact heap_alloc_new _ _) (by omega) (by omega) hl.1 ((hl.2.next hax).next (bU (aj _ _)).x) hx.1 ((hx.2.next hax).next (bU (aj _ _)).x)
theorem WH {f lv:Nat} {ts:aJ} (h:5 < lv):pe (f + 1) (.bin lv) ts=pe f .un ts:=by
 conv=>lhs; unfold pe
 rw [if_pos h]
theorem WZ {f lv:Nat} {ts r:aJ} (h: ¬ 5 < lv) (h1:pe f (.bin (lv + 1)) ts= .no r):pe (f + 1) (.bin lv) ts= .no r:=by
 conv=>lhs; unfold pe
 rw [if_neg h,h1]
theorem UL {f lv:Nat} {ts r:aJ} {l:E} (h: ¬ 5 < lv) (h1:pe f (.bin (lv + 1)) ts= .ok l r):pe (f + 1) (.bin lv) ts=pe f (.lp lv l) r:=by
 conv=>lhs; unfold pe
 rw [if_neg h,h1]
theorem VT {f lv:Nat} {ts:aJ} {l:E} (h:(opAt lv ts == 0)=true):pe (f + 1) (.lp lv l) ts= .ok l ts:=by
 conv=>lhs; unfold pe
 rw [if_pos h]
theorem VW {f lv:Nat} {ts r:aJ} {l:E} (h:(opAt lv ts == 0)=false) (h1:pe f (.bin (lv + 1)) ts.tail= .no r):pe (f + 1) (.lp lv l) ts= .no r:=by
 conv=>lhs; unfold pe
 rw [if_neg (by rw [h]; decide),h1]
theorem Xh {f lv:Nat} {ts r:aJ} {l x:E} (h:(opAt lv ts == 0)=false) (h1:pe f (.bin (lv + 1)) ts.tail= .ok x r):pe (f + 1) (.lp lv l) ts=if lv=3 then .ok (mk2 (opAt lv ts) l x) r else pe f (.lp lv (mk2 (opAt lv ts) l x)) r:=by
 conv=>lhs; unfold pe
 rw [if_neg (by rw [h]; decide),h1]
set_option maxHeartbeats 4000000 in
set_option maxRecDepth 100000 in
theorem Jo (R:Rp) (f:Nat) (ts:aJ) (lv:Nat) (hf:enough (.bin lv) ts (f + 1)) (ih: ∀f',f'≤f→ ∀m ts,enough m ts f'→uy R f' ts m):uy R (f + 1) ts (.bin lv):=by
 intro hlv w hI
 have HI:=Lib.hid hI
 have kE:=Lib.hid ih
 have HF:=Lib.hid hf
 clear hI ih hf
 by_cases h5:5 < lv
 ·have hq:decide ((5:Int) < (lv:Int))=true:=by rw [decide_eq_true_iff]; omega
  have HX:Hid (∀w,bf w R ts→Calls Tryz.prog 229 #[.pointer (some ⟨R.br,0,none⟩)] w (kJ R w (pe f .un ts))):=Lib.hid (kE.out f (Nat.le_refl _) .un ts (by
   have:=HF.out; simp only [enough,wt] at *; omega))
  rw [WH h5]
  clear kE HF
  generalize pe f .un ts=res at *
  go_enter Tryz.func217,Tryz.ntmps217
  go_upto_region 1 with fail
  generalize hW:World.alloc w _=W
  have HK:Hid (Wk R w W ts):=Lib.hid (by rw [← hW]; exact (Wk.start HI.out).alloc _)
  have HZ:Hid (W.heap[w.heap.size]? =some (.cells #[.int .i64 0,.int .i64 0,.string ⟨#[]⟩,.slice none 0 0] 129 (0,0))):=Lib.hid (by rw [← hW]; exact heap_alloc_new _ _)
  clear hW
  go_wp2_with fail
  refine (HX.out _ HK.out.rd).mono ?_
  cases res with
  | no r=>
    rintro e w2 ⟨rfl,h2,h3⟩
    have gY:=Lib.hid (HK.out.then h2 h3)
    have HZ2:=Lib.hid ((HK.out.kept h3 (Nat.le_refl _) (Array.getElem?_eq_some_iff.1 HZ.out).1).trans HZ.out)
    clear h2 h3 HK HZ
    obtain ⟨⟨y0,y1,y2,y3⟩,f0,f1,f2,f3⟩:=fJ HZ2.out
    unfold zE
    go_wp2_with fail
    exact bodyPost_ret (v:= .tuple #[zE,.bool false]) (by simp [results,Tryz.results217,go_sem,y0,y1,y2,y3,zE]) rfl (om (gY.out.iF _ _ _ _ _ (Nat.le_refl _)))
  | ok x r=>
    rintro e w2 ⟨v,rfl,hv,h2,h3⟩
    have gY:=Lib.hid (HK.out.then h2 h3)
    have HZ2:=Lib.hid ((HK.out.kept h3 (Nat.le_refl _) (Array.getElem?_eq_some_iff.1 HZ.out).1).trans HZ.out)
    have ny:=Lib.hid (hv.mono (Array.getElem?_eq_some_iff.1 HZ.out).1)
    clear h2 h3 HK HZ hv
    obtain ⟨ao,cap,rfl,hok,hst⟩:=ny.out
    have HE:=Lib.hid (And.intro hok hst)
    clear hok hst ny
    obtain ⟨⟨y0,y1,y2,y3⟩,f0,f1,f2,f3⟩:=fJ HZ2.out
    unfold exV
    go_wp2_with fail
    exact bodyPost_ret (v:= .tuple #[exV x.op x.n x.nm x.kids ao cap,.bool true]) (by simp [results,Tryz.results217,go_sem,exV,y0,y1,y2,y3]) rfl (ze gY.out HE.out)
 ·have hq:decide ((5:Int) < (lv:Int))=false:=by rw [decide_eq_false_iff_not]; omega
  have an9:(0:Int)≤(lv:Int):=by omega
  have aq2:(lv:Int)≤6:=by omega
  have HX:Hid (∀w,bf w R ts→Calls Tryz.prog 217 #[.pointer (some ⟨R.br,0,none⟩),.int .i64 ((lv:Int) + 1)] w (kJ R w (pe f (.bin (lv + 1)) ts))):=Lib.hid (kE.out f (Nat.le_refl _) (.bin (lv + 1)) ts (by
   have:=HF.out; simp only [enough,wt] at *; omega) (by omega))
  have HR:Hid (∀l r,pe f (.bin (lv + 1)) ts= .ok l r→pe (f + 1) (.bin lv) ts=pe f (.lp lv l) r∧r.length < ts.length):=Lib.hid (fun l r h=>⟨UL h5 h,mW f (.bin (lv + 1)) ts l r h⟩)
  have HN:Hid (∀r,pe f (.bin (lv + 1)) ts= .no r→pe (f + 1) (.bin lv) ts= .no r):=Lib.hid (fun r h=>WZ h5 h)
  generalize pe (f + 1) (.bin lv) ts=spec at *
  generalize pe f (.bin (lv + 1)) ts=res at *
  go_enter Tryz.func217,Tryz.ntmps217
  go_upto_region 1 with fail
  generalize hW:World.alloc w _=W
  have HK:Hid (Wk R w W ts):=Lib.hid (by rw [← hW]; exact (Wk.start HI.out).alloc _)
  have HZ:Hid (W.heap[w.heap.size]? =some (.cells #[.int .i64 0,.int .i64 0,.string ⟨#[]⟩,.slice none 0 0] 129 (0,0))):=Lib.hid (by rw [← hW]; exact heap_alloc_new _ _)
  clear hW
  go_wp2_with fail
  refine (HX.out _ HK.out.rd).mono ?_
  have gV:=HK
  have HZ1:=HZ
  clear HK HZ
  cases res with
  | no r=>
    obtain rfl:=HN.out r rfl
    clear HN HR HX
    rintro e w2 ⟨rfl,h2,h3⟩
    have gY:=Lib.hid (gV.out.then h2 h3)
    have HZ2:=Lib.hid ((gV.out.kept h3 (Nat.le_refl _) (Array.getElem?_eq_some_iff.1 HZ1.out).1).trans HZ1.out)
    clear h2 h3 gV HZ1
    obtain ⟨⟨y0,y1,y2,y3⟩,f0,f1,f2,f3⟩:=fJ HZ2.out
    have hlt2:w.heap.size < w2.heap.size:=(Array.getElem?_eq_some_iff.1 HZ2.out).1
    unfold zE
    go_wp2_with fail
    exact bodyPost_ret (v:= .tuple #[zE,.bool false]) (by simp [results,Tryz.results217,go_sem,y0,y1,y2,y3,hlt2,zE]) rfl (om ((gY.out.iF _ _ _ _ _ (Nat.le_refl _)).alloc _))
  | ok x r=>
    have HS:=Lib.hid (HR.out x r rfl)
    clear HR HN HX
    rintro e w2 ⟨v,rfl,hv,h2,h3⟩
    have gY:=Lib.hid (gV.out.then h2 h3)
    have HZ2:=Lib.hid ((gV.out.kept h3 (Nat.le_refl _) (Array.getElem?_eq_some_iff.1 HZ1.out).1).trans HZ1.out)
    have ny:=Lib.hid (hv.mono (Array.getElem?_eq_some_iff.1 HZ1.out).1)
    clear h2 h3 gV HZ1 hv
    obtain ⟨ao,cap,rfl,hok,hst⟩:=ny.out
    have HE:=Lib.hid (And.intro hok hst)
    clear hok hst ny
    unfold exV
    go_upto_region 4 with fail
    obtain ⟨g,hg⟩: ∃g,w2.heap.size=g:=⟨_,rfl⟩
    generalize hW:World.alloc w2 _=W2
    have jM:Hid (Wk R w W2 r):=Lib.hid (by rw [← hW]; exact gY.out.alloc _)
    have HB3:Hid (W2.heap[g]? =some (.cells #[.int .i64 x.op,.int .i64 x.n,.string x.nm,.slice ao x.kids.len cap] 129 (0,0))):=Lib.hid (by rw [← hW,← hg]; exact heap_alloc_new _ _)
    have HZ3:Hid (W2.heap[w.heap.size]? =some (.cells #[.int .i64 0,.int .i64 0,.string ⟨#[]⟩,.slice none 0 0] 129 (0,0))):=Lib.hid (by rw [← hW]; exact (heap_alloc_old _ _ (Array.getElem?_eq_some_iff.1 HZ2.out).1).trans HZ2.out)
    have jQ:Hid (ni x∧eH (w.heap.size + 1) W2 (fun w2=>x.kids.At w2 w2.heap.size ao 0)):=Lib.hid ⟨HE.out.1,by rw [← hW]; exact HE.out.2.next (bU (aj _ _))⟩
    have HG:Hid (w.heap.size < g):=Lib.hid (by rw [← hg]; exact (Array.getElem?_eq_some_iff.1 HZ2.out).1)
    have zZ:Hid (gG (w.heap.size + 1) (some g) W2 (fun w2=>x.kids.At w2 w2.heap.size ao 0)):=Lib.hid (by rw [← hW]; exact CV HE.out.2 (bU (aj _ _)) (Nat.le_of_eq hg))
    rw [hg]
    clear hW hg gY HZ2 HE
    go_wp2_with fail
    have xA:Hid (Nz R w f lv g spec r.length W2):=Lib.hid ⟨f,x,r,ao,cap,rfl,Nat.le_refl _,by
     have:=HF.out; have:=HS.out.2; simp only [enough,wt] at *; omega,HS.out.1,jM.out,HZ3.out,HB3.out,jQ.out.1,zZ.out⟩
    have Nv:=HG
    clear jM HZ3 HB3 jQ zZ HS HI HF HG
    go_loopg [8] r.length (fun gk _ wr=>Nz R w f lv g spec gk wr)
    case atStart=>exact xA.out
    case round=>
     obtain ⟨f',l,rest,fF,dW,rfl,hf',hen,hres,hk,hz,hb,hok,hst⟩:=hrel
     obtain ⟨f',rfl⟩: ∃n,f'=n + 1:=⟨f' - 1,by simp only [enough,wt] at hen; omega⟩
     have HF:=Lib.hid (And.intro hf' hen)
     have HS:=Lib.hid hres
     have HK:=Lib.hid hk
     have HZ:=Lib.hid hz
     have HB:=Lib.hid hb
     have HE:=Lib.hid (And.intro hok hst)
     have Rz:=Lib.hid (Ho R rest wr (lv:Int) hk.rd)
     clear hf' hen hres hk hz hb hok hst xA
     cases hop:(opAt (lv:Int) rest == 0)
     ·have bY:=Lib.hid (TM hop)
      have jo:Hid (∀w,bf w R rest.tail→Calls Tryz.prog 217 #[.pointer (some ⟨R.br,0,none⟩),.int .i64 ((lv:Int) + 1)] w (kJ R w (pe f' (.bin (lv + 1)) rest.tail))):=Lib.hid (kE.out f' (by have:=HF.out.1; omega) (.bin (lv + 1)) rest.tail (by
       have:=HF.out.2; have:=OP hop; simp only [enough,wt] at *; omega) (by omega))
      have Ed:Hid (∀r,pe f' (.bin (lv + 1)) rest.tail= .no r→spec= .no r):=Lib.hid (fun r h=>HS.out.trans (VW hop h))
      have GK:Hid (∀x r,pe f' (.bin (lv + 1)) rest.tail= .ok x r→(spec=if lv=3 then .ok (mk2 (opAt lv rest) l x) r else pe f' (.lp lv (mk2 (opAt lv rest) l x)) r)∧r.length < rest.length):=Lib.hid (fun x r h=>⟨HS.out.trans (Xh hop h),by
       have h1:=mW f' (.bin (lv + 1)) rest.tail x r h
       have h2:=OP hop
       have h1:r.length < rest.tail.length:=h1
       omega⟩)
      obtain ⟨t,r1,hr⟩: ∃t r1,rest=t ::r1:=by
       cases rest with
       | nil=>exact absurd hop (by simp [opAt,nextK])
       | cons t r1=>exact ⟨t,r1,rfl⟩
      have HR1:=Lib.hid hr
      clear hr HS
      generalize opAt (lv:Int) rest=op at *
      generalize pe f' (.bin (lv + 1)) rest.tail=res2 at *
      go_wp2_with fail
      refine Rz.out.mono ?_
      rintro e w3 ⟨rfl,h2⟩
      obtain ⟨pos,hp,c0,c1,f1,HX⟩:=(HK.out.below h2).rd.open
      have jM:=Lib.hid (HK.out.below h2)
      have HZ3:=Lib.hid ((h2.block _ (Array.getElem?_eq_some_iff.1 HZ.out).1).trans HZ.out)
      have HB3:=Lib.hid ((h2.block _ (Array.getElem?_eq_some_iff.1 HB.out).1).trans HB.out)
      have jQ:Hid (ni l∧gG (w.heap.size + 1) (some g) w3 (fun w2=>l.kids.At w2 w2.heap.size fF 0)):=Lib.hid ⟨HE.out.1,HE.out.2.next (bU h2).x⟩
      clear h2 HK HZ HB HE Rz
      go_upto_region 10 with fail
      generalize hW:World.setCell w3 _ _=W4
      have HQ:Hid (bf W4 R rest.tail∧w3.grownBy W4 (some R.br)):=Lib.hid (by rw [← hW,HR1.out]; exact HX.out t r1 HR1.out)
      have Eb:=Lib.hid (jM.out.then HQ.out.1 HQ.out.2)
      have iD:=Lib.hid ((jM.out.kept HQ.out.2 (Nat.le_refl _) (Array.getElem?_eq_some_iff.1 HZ3.out).1).trans HZ3.out)
      have eX:=Lib.hid ((jM.out.kept HQ.out.2 (Nat.le_of_lt Nv.out) (Array.getElem?_eq_some_iff.1 HB3.out).1).trans HB3.out)
      have uT:Hid (ni l∧gG (w.heap.size + 1) (some g) W4 (fun w2=>l.kids.At w2 w2.heap.size fF 0)):=Lib.hid ⟨jQ.out.1,jQ.out.2.next (oo HQ.out.2 (Nat.lt_succ_of_lt jM.out.lt)).x⟩
      clear hW c0 c1 f1 HX jM HZ3 HB3 jQ HQ
      go_wp2_with fail
      refine (jo.out _ Eb.out.rd).mono ?_
      cases res2 with
      | no r=>
        have hs:=Ed.out r rfl
        subst hs
        clear Ed GK jo
        rintro e w5 ⟨rfl,h2,h3⟩
        have J2:=Lib.hid (Eb.out.then h2 h3)
        have nZ:=Lib.hid ((Eb.out.kept h3 (Nat.le_refl _) (Array.getElem?_eq_some_iff.1 iD.out).1).trans iD.out)
        clear h2 h3 Eb iD eX uT
        obtain ⟨⟨y0,y1,y2,y3⟩,f0,f1,f2,f3⟩:=fJ nZ.out
        have hlt2:w.heap.size < w5.heap.size:=(Array.getElem?_eq_some_iff.1 nZ.out).1
        unfold zE
        go_wp2_with fail
        exact bodyPost_ret (v:= .tuple #[zE,.bool false]) (by simp [results,Tryz.results217,go_sem,y0,y1,y2,y3,hlt2,zE]) rfl (om ((J2.out.iF _ _ _ _ _ (Nat.le_refl _)).alloc _))
      | ok x2 r2=>
        have Aw:=Lib.hid (GK.out x2 r2 rfl)
        clear Ed GK jo
        rintro e w5 ⟨v,rfl,hv,h2,h3⟩
        have J2:=Lib.hid (Eb.out.then h2 h3)
        have nZ:=Lib.hid ((Eb.out.kept h3 (Nat.le_refl _) (Array.getElem?_eq_some_iff.1 iD.out).1).trans iD.out)
        have mR:=Lib.hid ((Eb.out.kept h3 (Nat.le_of_lt Nv.out) (Array.getElem?_eq_some_iff.1 eX.out).1).trans eX.out)
        have AB:Hid (ni l∧gG (w.heap.size + 1) (some g) w5 (fun w2=>l.kids.At w2 w2.heap.size fF 0)):=Lib.hid ⟨uT.out.1,uT.out.2.next (oo h3 (Nat.lt_succ_of_lt Eb.out.lt)).x⟩
        obtain ⟨Dm,cap2,rfl,hok,hst⟩:=hv
        have Cj:Hid (ni x2∧gG (w.heap.size + 1) (some g) w5 (fun w2=>x2.kids.At w2 w2.heap.size Dm 0)):=Lib.hid ⟨hok,Cw hst (Nat.le_trans (Nat.succ_le_of_lt (Array.getElem?_eq_some_iff.1 iD.out).1) (Nat.le_refl _)) (fun k hk=>by injection hk with hk; rw [← hk]; exact (Array.getElem?_eq_some_iff.1 eX.out).1)⟩
        clear h2 h3 hok hst Eb iD eX uT
        unfold exV
        go_upto_region 11 with fail
        obtain ⟨g9,hg⟩: ∃g,w5.heap.size=g:=⟨_,rfl⟩
        generalize hW:World.alloc w5 _=W6
        have Dr:Hid (Wk R w W6 r2):=Lib.hid (by rw [← hW]; exact J2.out.alloc _)
        have qW:Hid (W6.heap[g9]? =some (.cells #[.int .i64 x2.op,.int .i64 x2.n,.string x2.nm,.slice Dm x2.kids.len cap2] 129 (0,0))):=Lib.hid (by rw [← hW,← hg]; exact heap_alloc_new _ _)
        have FN:Hid (W6.heap[w.heap.size]? =some (.cells zC 129 (0,0))):=Lib.hid (by rw [← hW]; exact (heap_alloc_old _ _ (Array.getElem?_eq_some_iff.1 nZ.out).1).trans nZ.out)
        have lg:Hid (W6.heap[g]? =some (.cells (Ch l.op l.n l.nm l.kids fF dW).toArray 129 (0,0))):=Lib.hid (by rw [← hW]; exact (heap_alloc_old _ _ (Array.getElem?_eq_some_iff.1 mR.out).1).trans mR.out)
        have Nf:Hid (ni l∧gG (w.heap.size + 1) (some g) W6 (fun w2=>l.kids.At w2 w2.heap.size fF 0)):=Lib.hid ⟨AB.out.1,by rw [← hW]; exact AB.out.2.next (bU (aj _ _)).x⟩
        have DL:Hid (ni x2∧gG (w.heap.size + 1) (some g) W6 (fun w2=>x2.kids.At w2 w2.heap.size Dm 0)):=Lib.hid ⟨Cj.out.1,by rw [← hW]; exact Cj.out.2.next (bU (aj _ _)).x⟩
        rw [hg]
        clear hW hg J2 nZ mR AB Cj
        obtain ⟨⟨z0,z1,z2,z3⟩,d0,d1,d2,d3⟩:=Bq lg.out
        have u0:W6.cell? ⟨g9,0,none⟩=some (.int .i64 x2.op):=aB qW.out rfl
        have u1:W6.cell? ⟨g9,1,none⟩=some (.int .i64 x2.n):=aB qW.out rfl
        have u2:W6.cell? ⟨g9,2,none⟩=some (.string x2.nm):=aB qW.out rfl
        have u3:W6.cell? ⟨g9,3,none⟩=some (.slice Dm x2.kids.len cap2):=aB qW.out rfl
        have YI:g < W6.heap.size:=(Array.getElem?_eq_some_iff.1 lg.out).1
        go_upto_region 14 with fail
        have HP:=Lib.hid (Tc (t:=129) (bR:=cap2) (show dR op by have:=bY.out; unfold dR; omega) Dr.out Nv.out FN.out lg.out Nf.out DL.out)
        generalize hW:World.alloc _ _=W7
        have iN:=Lib.hid (HP.out W7 hW)
        clear hW HP Dr FN lg Nf DL qW z0 z1 z2 z3 d0 d1 d2 d3 u0 u1 u2 u3 YI
        have HL2:=Lib.hid Aw.out.2
        by_cases h3:lv=3
        ·have hs:=Aw.out.1.trans (if_pos h3)
         subst hs
         clear Aw
         have h3':((lv:Int) == 3)=true:=by rw [h3]; rfl
         obtain ⟨⟨y0,y1,y2,y3⟩,f0,f1,f2,f3⟩:=fJ iN.out.2.1
         obtain ⟨⟨z0,z1,z2,z3⟩,d0,d1,d2,d3⟩:=Bq iN.out.2.2.1
         go_wp2_with fail
         exact bodyPost_ret (v:= .tuple #[exV (mk2 op l x2).op (mk2 op l x2).n (mk2 op l x2).nm (mk2 op l x2).kids (some ⟨W6.heap.size,0,none⟩) 2,.bool true]) (by simp [results,Tryz.results217,go_sem,exV,y0,y1,y2,y3]) rfl (ze iN.out.1 ⟨iN.out.2.2.2.1,iN.out.2.2.2.2.stay⟩)
        ·have h3':((lv:Int) == 3)=false:=by rw [beq_eq_false_iff_ne]; omega
         have HS2:=Lib.hid (Aw.out.1.trans (if_neg h3))
         clear Aw
         go_wp2_with fail
         go_roundg r2.length
         case measure=>exact HL2.out
         case rel=>exact ⟨f',mk2 op l x2,r2,_,_,rfl,by have:=HF.out.1; omega,by
          have h1:=HF.out.2; have h2:=HL2.out; simp only [enough,wt] at *; omega,HS2.out,iN.out.1,iN.out.2.1,iN.out.2.2.1,iN.out.2.2.2.1,iN.out.2.2.2.2⟩
     ·have WM:Hid (Calls Tryz.prog 230 #[.pointer (some ⟨R.br,0,none⟩),.int .i64 (lv:Int)] wr fun e w'=>e= .returned (.int .i64 0)∧Below wr.heap.size wr w'):=Lib.hid (by
       have:=Rz.out; rw [show opAt (lv:Int) rest=0 by simpa using hop] at this; exact this)
      have hs:=HS.out.trans (VT hop)
      subst hs
      clear HS Rz hop
      go_wp2_with fail
      refine WM.out.mono ?_
      rintro e w3 ⟨rfl,h2⟩
      have jM:=Lib.hid (HK.out.below h2)
      have HZ3:=Lib.hid ((h2.block _ (Array.getElem?_eq_some_iff.1 HZ.out).1).trans HZ.out)
      have HB3:=Lib.hid ((h2.block _ (Array.getElem?_eq_some_iff.1 HB.out).1).trans HB.out)
      have jQ:Hid (ni l∧eH (w.heap.size + 1) w3 (fun w2=>l.kids.At w2 w2.heap.size fF 0)):=Lib.hid ⟨HE.out.1,(HE.out.2.next (bU h2).x).stay⟩
      clear h2 HK HZ HB HE WM
      obtain ⟨⟨y0,y1,y2,y3⟩,f0,f1,f2,f3⟩:=fJ HZ3.out
      obtain ⟨⟨z0,z1,z2,z3⟩,d0,d1,d2,d3⟩:=Bq HB3.out
      go_wp2_with fail
      exact bodyPost_ret (v:= .tuple #[exV l.op l.n l.nm l.kids fF dW,.bool true]) (by simp [results,Tryz.results217,go_sem,exV,y0,y1,y2,y3]) rfl (ze jM.out jQ.out)
theorem TH (R:Rp): ∀(f:Nat) (m:M) (ts:aJ),enough m ts f→uy R f ts m:=by
 intro f
 induction f using Nat.strongRecOn with
 | ind f ih=>
   intro m ts hf
   cases f with
   | zero=>exact absurd hf (by unfold enough; omega)
   | succ f=>
     cases m with
     | bin lv=>exact Jo R f ts lv hf (fun f' h m ts hm=>ih f' (by omega) m ts hm)
     | un=>exact LC R f ts hf (fun m ts hm=>ih f (by omega) m ts hm)
     | pr=>exact Jb R f ts hf (fun m ts hm=>ih f (by omega) m ts hm)
     | lp lv l=>exact trivial
theorem um (R:Rp) (ts:aJ) (w:World) (hI:bf w R ts):Calls Tryz.prog 198 #[.pointer (some ⟨R.br,0,none⟩)] w (kJ R w (Pz.expr ts)):=
 Eu R _ ts (TH R _ (.bin 1) ts (Jj ts)) w hI
end Go.Proofs.YtdajkddgnfgijaaGreatDoor
end
