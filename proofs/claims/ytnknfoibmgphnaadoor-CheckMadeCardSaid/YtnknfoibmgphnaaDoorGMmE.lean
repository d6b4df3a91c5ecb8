/-
  Contract of the maker's expr: it returns an expression that lies in new memory.
-/
import Derived.Test.YtnknfoibmgphnaaDoorGPA
import Derived.Test.YtnknfoibmgphnaaDoorGMB
import Derived.Deep.RegionWith
set_option linter.unusedSimpArgs false
set_option linter.unusedVariables false
namespace Go.Proofs.YtnknfoibmgphnaaDoor
open Go.RowKit
open Md
theorem rV {w:World} {K:Act→Prop} {a:Act} (h:K a):bM w K [] a:=h
def XE (B:Nat) (v:Value) (w:World):Prop:= ∃op n nm kids ao cap,v=exV op n nm kids ao cap∧lI op n nm kids∧iX B w (fun w2=>kids.At w2 w2.heap.size ao 0)
theorem XE.next {B:Nat} {v:Value} {w w':World} (h:XE B v w) (ha:mI B w w'):XE B v w':=by
 obtain ⟨op,n,nm,kids,ao,cap,h1,h2,h3⟩:=h
 exact ⟨op,n,nm,kids,ao,cap,h1,h2,h3.next ha⟩
theorem XE.mono {B B':Nat} {v:Value} {w:World} (h:XE B' v w) (hB:B≤B'):XE B v w:=by
 obtain ⟨op,n,nm,kids,ao,cap,h1,h2,h3⟩:=h
 exact ⟨op,n,nm,kids,ao,cap,h1,h2,h3.mono hB⟩
def Ng (T:Tp) (H:Option Nat) (hs:List ByteArray) (w:World) (e:Ending) (w':World):Prop:= ∃v,e= .returned v∧XE w.heap.size v w'∧TF T w w'∧cZ w' T H hs
def jJ (T:Tp) (d:Int):Prop:= ∀w H hs,cZ w T H hs→Calls Tryd.prog 28 #[.pointer (some ⟨T.bm,0,none⟩),.int .i64 d] w (Ng T H hs w)
theorem ny:aX 0:=by unfold aX; decide
theorem jD:(⟨#[]⟩:ByteArray).size≤maxLen:=by unfold maxLen; decide
theorem nil_le:bJ.len .nil≤maxLen:=by unfold maxLen; decide
theorem yI (n:Int) (w:World):
 Calls Tryd.prog 12 #[.int .i64 n] w fun e w'=>e= .returned (exV 1 n ⟨#[]⟩ .nil none 0)∧Below w.heap.size w w':=by
 go_enter Tryd.func12,Tryd.ntmps12
 go_wp2
 exact bodyPost_ret (v:=exV 1 n ⟨#[]⟩ .nil none 0) (by simp [results,Tryd.results12,go_sem,exV,bJ.len]) rfl ⟨rfl,ay _ _⟩
def PW (n:Nat) (cs:Array Value):Prop:= ∀j,j < n→ ∃s:ByteArray,cs[j]? =some (.string s)∧s.size≤maxLen
def NV:Array Value:= #[.string ⟨#[97]⟩,.string ⟨#[98]⟩,.string ⟨#[120]⟩,.string ⟨#[121]⟩,.string ⟨#[118]⟩,.string ⟨#[120]⟩,.string ⟨#[121]⟩]
theorem OT:PW 7 NV:=fun j hj=>by
 have:j=0∨j=1∨j=2∨j=3∨j=4∨j=5∨j=6:=by omega
 rcases this with rfl | rfl | rfl | rfl | rfl | rfl | rfl <;> exact ⟨_,rfl,by unfold maxLen; decide⟩
def Rv:Array Value:= #[.int .i64 6,.int .i64 7,.int .i64 8,.int .i64 11,.int .i64 13,.int .i64 17]
theorem Og: ∀j,j < 6→ ∃z,Rv[j]? =some (.int .i64 z)∧aX z:=fun j hj=>by
 have:j=0∨j=1∨j=2∨j=3∨j=4∨j=5:=by omega
 rcases this with rfl | rfl | rfl | rfl | rfl | rfl <;> exact ⟨_,rfl,by unfold aX; decide⟩
theorem Cx {T:Tp} {H:Option Nat} {hs:List ByteArray} {w w4:World} (a b c d:Value) (hM:TF T w w4) (hI:cZ w4 T H hs) (h0:Old T H w.heap.size):
 TF T w ((((w4.setCell ⟨w.heap.size,0,none⟩ a).setCell ⟨w.heap.size,1,none⟩ b).setCell ⟨w.heap.size,2,none⟩ c).setCell ⟨w.heap.size,3,none⟩ d)∧
 cZ ((((w4.setCell ⟨w.heap.size,0,none⟩ a).setCell ⟨w.heap.size,1,none⟩ b).setCell ⟨w.heap.size,2,none⟩ c).setCell ⟨w.heap.size,3,none⟩ d) T H hs∧
 mI (w.heap.size + 1) w4 ((((w4.setCell ⟨w.heap.size,0,none⟩ a).setCell ⟨w.heap.size,1,none⟩ b).setCell ⟨w.heap.size,2,none⟩ c).setCell ⟨w.heap.size,3,none⟩ d):=by
 refine ⟨(((hM.set _ _ (Nat.le_refl _)).set _ _ (Nat.le_refl _)).set _ _ (Nat.le_refl _)).set _ _ (Nat.le_refl _),(((hI.Gm h0 _ _ (Nat.le_refl _)).Gm h0 _ _ (Nat.le_refl _)).Gm h0 _ _ (Nat.le_refl _)).Gm h0 _ _ (Nat.le_refl _),?_⟩
 exact (((oD w4 ⟨w.heap.size,0,none⟩ a (Nat.lt_succ_self _)).trans (oD _ ⟨w.heap.size,1,none⟩ b (Nat.lt_succ_self _))).trans (oD _ ⟨w.heap.size,2,none⟩ c (Nat.lt_succ_self _))).trans (oD _ ⟨w.heap.size,3,none⟩ d (Nat.lt_succ_self _))
set_option maxHeartbeats 4000000 in
set_option maxRecDepth 100000 in
theorem Gx (T:Tp) (d:Nat) (hd:d≤100) (ih: ∀d':Nat,d' < d→jJ T (d':Int)):jJ T (d:Int):=by
 intro w H hs hI
 have HI0:=Lib.hid hI
 have qJ:=Lib.hid ih
 have aM:Hid (Old T H w.heap.size):=Lib.hid hI.old
 clear hI ih
 go_enter Tryd.func28,Tryd.ntmps28
 go_upto_region 2 with fail
 generalize hW:World.alloc (World.alloc w _) _=W
 have HB:Hid (Below w.heap.size w W):=Lib.hid (by rw [← hW]; exact (ay _ _).alloc (by simp) _)
 have HZ:Hid (W.heap[w.heap.size]? =some (.cells xO 40 (0,0))):=Lib.hid (by rw [← hW,heap_alloc_old _ _ (by simp)]; exact heap_alloc_new _ _)
 have HN:Hid (W.heap[w.heap.size + 1]? =some (.cells NV 9 (0,0))):=Lib.hid (by
  rw [← hW]
  have e:(World.alloc w (.cells xO 40)).heap.size=w.heap.size + 1:=by simp
  rw [← e]; exact heap_alloc_new _ _)
 have HI:=Lib.hid (HI0.out.below HB.out)
 clear hW
 have c0:=HI.out.ptr
 go_wp2_with fail
 refine (jk T H hs 10 _ (by unfold aX; decide) HI.out).mono ?_
 rintro e w2 ⟨k,rfl,hk1,hk2,hM,hI2⟩
 have HM:=Lib.hid ((TF.of_below (T:=T) HB.out).trans hM)
 have HZ2:Hid (w2.heap[w.heap.size]? =some (.cells xO 40 (0,0))):=Lib.hid (hM.keep HZ.out (by have:=aM.out.t; omega))
 have QA:Hid (w2.heap[w.heap.size + 1]? =some (.cells NV 9 (0,0))):=Lib.hid (hM.keep HN.out (by have:=aM.out.t; omega))
 have HI2:=Lib.hid hI2
 have hk10:k < 10:=by have:=hk1 (by decide); omega
 clear hM hI2 HZ HN HI c0 HB hk1 hk2
 have HW2:Hid (w.heap.size + 1≤w2.heap.size):=Lib.hid (by have:=(Array.getElem?_eq_some_iff.1 HZ2.out).1; omega)
 have hcase:(k < 2∨(2≤k∧d=0∧7≤k))∨(2≤k∧k < 7)∨(k=7∧d≠0)∨(8≤k∧d≠0):=by omega
 rcases hcase with hA | ⟨hB1,hB2⟩ | ⟨rfl,hC⟩ | ⟨hD1,hD2⟩
 ·have c0:=HI2.out.ptr
  have hA':((k:Int) < 2)∨(¬ ((k:Int) < 2)∧((d:Int) == 0)=true∧(7:Int)≤(k:Int)):=by
   rcases hA with hA | ⟨h1,h2,h3⟩
   ·exact .inl (by omega)
   ·exact .inr ⟨by omega,by simp [h2],by omega⟩
  clear hA qJ
  rcases hA' with hA | ⟨hA1,hA2,hA3⟩
  all_goals
   go_wp2_with fail
   refine (jk T H hs 4 _ (by unfold aX; decide) HI2.out).mono ?_
   rintro e w3 ⟨r,rfl,hr1,hr2,wW,tT⟩
   have pK:=Lib.hid (HM.out.trans wW)
   have HI3:=Lib.hid tT
   have HZ3:Hid (w3.heap[w.heap.size]? =some (.cells xO 40 (0,0))):=Lib.hid (wW.keep HZ2.out (by have:=aM.out.t; omega))
   clear wW tT hr1
   go_wp2_with fail
   refine (yI r w3).mono ?_
   rintro e w4 ⟨rfl,hb⟩
   have lZ:=Lib.hid (pK.out.trans (TF.of_below hb))
   have HI4:=Lib.hid (HI3.out.below hb)
   have yV:Hid (w4.heap[w.heap.size]? =some (.cells xO 40 (0,0))):=Lib.hid ((hb.block _ (Array.getElem?_eq_some_iff.1 HZ3.out).1).trans HZ3.out)
   obtain ⟨⟨y0,y1,y2,y3⟩,fz⟩:=Ak yV.out
   have f0:=fz 0
   have f1:=fz 1
   have f2:=fz 2
   have f3:=fz 3
   clear hb fz pK HI3 HZ3
   unfold exV
   go_wp2_with fail
   obtain ⟨q1,q2,q3⟩:=Cx (.int .i64 1) (.int .i64 r) (.string ⟨#[]⟩) (.slice none 0 0) lZ.out HI4.out aM.out
   exact bodyPost_ret (v:=exV 1 r ⟨#[]⟩ .nil none 0) (by simp [results,Tryd.results28,go_sem,exV,bJ.len,y0,y1,y2,y3]) rfl ⟨_,rfl,⟨1,r,⟨#[]⟩,.nil,none,0,rfl,⟨by unfold aX; decide,by unfold aX; omega,jD,nil_le⟩,fun _ _=>trivial⟩,q1,q2⟩
 ·have c0:=HI2.out.ptr
  have hB3: ¬ ((k:Int) < 2):=by omega
  have hB4:((k:Int) < 7):=by omega
  have wR: ¬ ((7:Int)≤(k:Int)):=by omega
  clear qJ
  cases hd0:((d:Int) == 0)
  all_goals
   go_wp2_with fail
   refine (jk T H hs 7 _ (by unfold aX; decide) HI2.out).mono ?_
   rintro e w3 ⟨r,rfl,hr1,hr2,wW,tT⟩
   have U1:r < 7:=by have:=hr1 (by decide); omega
   have pK:=Lib.hid (HM.out.trans wW)
   have HI3:=Lib.hid tT
   have HZ3:Hid (w3.heap[w.heap.size]? =some (.cells xO 40 (0,0))):=Lib.hid (wW.keep HZ2.out (by have:=aM.out.t; omega))
   obtain ⟨s,hs1,hs2⟩:=OT r U1
   have cs:w3.cell? ⟨w.heap.size + 1,r,none⟩=some (.string s):=(aV (wW.keep QA.out (by have:=aM.out.t; omega)) hs1).2
   have UR:(0:Int)≤(r:Int):=by omega
   have UY:(r:Int) < 7:=by omega
   have HS:=Lib.hid hs2
   clear wW tT hr1 hs1 hs2 hr2
   go_wp2_with fail
   refine (wI s w3).mono ?_
   rintro e w4 ⟨rfl,hb⟩
   have lZ:=Lib.hid (pK.out.trans (TF.of_below hb))
   have HI4:=Lib.hid (HI3.out.below hb)
   have yV:Hid (w4.heap[w.heap.size]? =some (.cells xO 40 (0,0))):=Lib.hid ((hb.block _ (Array.getElem?_eq_some_iff.1 HZ3.out).1).trans HZ3.out)
   obtain ⟨⟨y0,y1,y2,y3⟩,fz⟩:=Ak yV.out
   have f0:=fz 0
   have f1:=fz 1
   have f2:=fz 2
   have f3:=fz 3
   clear hb fz pK HI3 HZ3 cs
   unfold exV
   go_wp2_with fail
   obtain ⟨q1,q2,q3⟩:=Cx (.int .i64 2) (.int .i64 0) (.string s) (.slice none 0 0) lZ.out HI4.out aM.out
   exact bodyPost_ret (v:=exV 2 0 s .nil none 0) (by simp [results,Tryd.results28,go_sem,exV,bJ.len,y0,y1,y2,y3]) rfl ⟨_,rfl,⟨2,0,s,.nil,none,0,rfl,⟨by unfold aX; decide,ny,HS.out,nil_le⟩,fun _ _=>trivial⟩,q1,q2⟩
 ·have hd0:((d:Int) == 0)=false:=by rw [beq_eq_false_iff_ne]; omega
  have HX:Hid (jJ T 0):=Lib.hid (qJ.out 0 (by omega))
  clear qJ
  go_wp2_with fail
  refine (HX.out w2 H hs HI2.out).mono ?_
  rintro e w4 ⟨v,rfl,hex,Fv,Cb⟩
  obtain ⟨op,n,nm,kids,ao,cap,rfl,hok,hst⟩:=hex
  have lZ:=Lib.hid (HM.out.trans Fv)
  have lX:=Lib.hid hok
  have HST:=Lib.hid (hst.mono HW2.out)
  have HI4:=Lib.hid Cb
  have yV:Hid (w4.heap[w.heap.size]? =some (.cells xO 40 (0,0))):=Lib.hid (Fv.keep HZ2.out (by have:=aM.out.t; omega))
  have Py:Hid (w.heap.size + 1≤w4.heap.size):=Lib.hid (by have:=(Array.getElem?_eq_some_iff.1 yV.out).1; omega)
  clear hok hst Fv Cb
  obtain ⟨⟨y0,y1,y2,y3⟩,fz⟩:=Ak yV.out
  have f0:=fz 0
  have f1:=fz 1
  have f2:=fz 2
  have f3:=fz 3
  have vX:w.heap.size < w4.heap.size:=Py.out
  clear fz
  unfold exV
  go_wp2_with fail
  have HF:Hid (Ng T H hs w (.returned (exV 3 0 ⟨#[113]⟩ (.cons op n nm kids .nil) (some ⟨w4.heap.size,0,none⟩) 1)) (((((w4.setCell ⟨w.heap.size,0,none⟩ (.int .i64 3)).setCell ⟨w.heap.size,1,none⟩ (.int .i64 0)).setCell ⟨w.heap.size,2,none⟩ (.string ⟨#[113]⟩)).setCell ⟨w.heap.size,3,none⟩ (.slice (some ⟨w4.heap.size,0,none⟩) 1 1)).alloc (.cells #[.int .i64 op,.int .i64 n,.string nm,.slice ao kids.len cap] 40))):=by
   obtain ⟨q1,q2,q3⟩:=Cx (.int .i64 3) (.int .i64 0) (.string ⟨#[113]⟩) (.slice (some ⟨w4.heap.size,0,none⟩) 1 1) lZ.out HI4.out aM.out
   generalize hW:World.setCell (World.setCell (World.setCell (World.setCell w4 _ _) _ _) _ _) _ _=W at *
   have hsz:W.heap.size=w4.heap.size:=by rw [← hW]; simp [World.setCell]
   refine Lib.hid ⟨_,rfl,⟨3,0,⟨#[113]⟩,.cons op n nm kids .nil,_,1,rfl,⟨by unfold aX; decide,ny,by unfold maxLen; decide,by simp [bJ.len,maxLen]⟩,?_⟩,q1.trans (TF.of_below (ay _ _)),q2.below (ay _ _)⟩
   rw [← hsz]
   exact CF (heap_alloc_new _ _) (by omega) lX.out (((HST.out.next q3).next (bT (ay _ _))).mono (Nat.le_succ _))
  exact bodyPost_ret (v:=exV 3 0 ⟨#[113]⟩ (.cons op n nm kids .nil) (some ⟨w4.heap.size,0,none⟩) 1) (by simp [results,Tryd.results28,go_sem,exV,bJ.len,y0,y1,y2,y3,vX]) rfl HF.out
 ·have hd0:((d:Int) == 0)=false:=by rw [beq_eq_false_iff_ne]; omega
  have hD3: ¬ ((k:Int) < 2):=by omega
  have hD4: ¬ ((k:Int) < 7):=by omega
  have hD5:((k:Int) == 7)=false:=by rw [beq_eq_false_iff_ne]; omega
  have HX:Hid (∀w H hs,cZ w T H hs→Calls Tryd.prog 28 #[.pointer (some ⟨T.bm,0,none⟩),.int .i64 ((d:Int) - 1)] w (Ng T H hs w)):=Lib.hid (by
   obtain ⟨d',rfl⟩: ∃d',d=d' + 1:=⟨d - 1,by omega⟩
   have:=qJ.out d' (by omega)
   unfold jJ at this
   rw [show ((d' + 1:Nat):Int) - 1=(d':Int) by omega]; exact this)
  clear qJ
  have hwd:IntKind.i64.wrap ((d:Int) - 1)=(d:Int) - 1:=IntWalk.i64_in _ (by omega)
  go_upto_region 10 with fail
  obtain ⟨ga,hga⟩: ∃g,w2.heap.size=g:=⟨_,rfl⟩
  generalize OE:World.alloc w2 _=W5
  have oZ:Hid (Below w2.heap.size w2 W5):=Lib.hid (by rw [← OE]; exact ay _ _)
  have TI:Hid (W5.heap[ga]? =some (.cells Rv 3 (0,0))):=Lib.hid (by rw [← OE,← hga]; exact heap_alloc_new _ _)
  have gK:=Lib.hid (HI2.out.below oZ.out)
  have eu:=Lib.hid (HM.out.trans (TF.of_below oZ.out))
  have eO:Hid (W5.heap[w.heap.size]? =some (.cells xO 40 (0,0))):=Lib.hid ((oZ.out.block _ (Array.getElem?_eq_some_iff.1 HZ2.out).1).trans HZ2.out)
  have vS:Hid (w.heap.size < ga):=Lib.hid (by rw [← hga]; exact HW2.out)
  have Ac:Hid (w.heap.size + 1≤W5.heap.size):=Lib.hid (by have:=(Array.getElem?_eq_some_iff.1 eO.out).1; omega)
  rw [hga]
  clear OE hga oZ HZ2 HM HI2 QA
  have K0: ∀w',cZ w' T H hs→w'.cell? ⟨T.bm,0,none⟩=some (.pointer (some ⟨T.bt,0,none⟩)):=fun w' h=>h.ptr
  have KO: ∀w',TF T W5 w'→ ∀j,j < 6→ ∃z,w'.cell? ⟨ga,j,none⟩=some (.int .i64 z)∧aX z:=fun w' h j hj=>by
   obtain ⟨z,h1,h2⟩:=Og j hj
   exact ⟨z,(aV (h.keep TI.out (by have:=aM.out.t; have:=vS.out; omega)) h1).2,h2⟩
  have hd1:TF T W5 (W5.drewN 1):=TF.of_below (below_drewN (Below.refl _ _) 1)
  have hd2:cZ (W5.drewN 1) T H hs:=gK.out.below (below_drewN (Below.refl _ _) 1)
  refine cu (by kernel_rfl) rfl ?_
  refine bG 0 19 [] [[],[],[1],[1,2],[1,2,3],[],[5],[1,2,3,4,5,6],[0,1,2,3,4,5,6,7],[0,1,2,3,4,5,6,7,8],[],[],[11],[1,2,3,4,5,6,7,10,11,12],[],[],[15],[1,2,3,4,5,6,7,10,11,12,13,14,15,16],[0,1,2,3,4,5,6,7,8,9,10,11,12,13,14,15,16,17],[0,1,2,3,4,5,6,7,8,9,10,11,12,13,14,15,16,17,18]] [[],[],[],[],[],[],[],[],[],[],[],[],[],[],[],[],[],[],[]] (fun _ w'=>TF T W5 w'∧cZ w' T H hs) (fun w w'=>TF T w w') [53,54,55,56,57,58,59,60,61,62,63,64,65,66,67,68,69,70,71] rfl rfl (by rfl) (by kernel_rfl) (by kernel_rfl) (by kernel_rfl) (by kernel_rfl) (by kernel_rfl) (by rfl) (fun _=>TF.refl _ _) (by rfl) ⟨hd1,hd2⟩ ?_
  simp only [List.take_succ_cons,List.take_zero,List.drop_zero,List.drop_succ_cons,gP,List.map_cons,List.map_nil]
  apply aH.step
  case aB=>
   intro c A w' hok hC hO hD
   have e7:=hO 7 (by rfl)
   simp [Act.eval] at e7
   simp [au,ah,aj,Act.eval,Region.binds] at hD
   simp [go_sem,gd,Oper.wp,hD,e7]
   exact ak.mk (TF.refl _ _) hC (ah.mk _ _)
  apply aH.step
  case aB=>
   intro c A w' hok hC hO hD
   have e0:=hO 0 (by rfl)
   simp [Act.eval] at e0
   simp [au,ah,aj,Act.eval,Region.binds] at hD
   simp [go_sem,gd,Oper.wp,hD,e0]
   exact ak.mk (TF.refl _ _) hC (ah.mk _ _)
  apply aH.step
  case aB=>
   intro c A w' hok hC hO hD
   simp [au,ah,aj,Act.eval,Region.binds] at hD
   simp [go_sem,gd,Oper.wp,hD]
   exact ak.mk (TF.refl _ _) hC (ah.mk _ _)
  apply aH.step
  case aB=>
   intro c A w' hok hC hO hD
   simp [au,ah,aj,Act.eval,Region.binds] at hD
   simp [go_sem,gd,Oper.wp,hD]
   exact ak.mk (TF.refl _ _) hC (ah.mk _ _)
  simp only [List.nil_append,List.cons_append]
  apply aH.step
  case aB=>
   intro c A w' hok hC hO hD
   simp [au,ah,aj,Act.eval,Region.binds] at hD
   simp [go_sem,gd,Oper.wp,hD,K0,hC.2]
   exact ak.mk (TF.refl _ _) hC (ah.mk _ _)
  apply aH.step
  case aB=>
   intro c A w' hok hC hO hD
   have e7:=hO 7 (by rfl)
   simp [Act.eval] at e7
   simp [au,ah,aj,Act.eval,Region.binds] at hD
   simp [go_sem,gd,Oper.wp,hD,e7]
   exact ak.mk (TF.refl _ _) hC (ah.mk _ _)
  apply aH.step
  case aB=>
   intro c A w' hok hC hO hD
   simp [au,ah,aj,Act.eval,Region.binds] at hD
   simp [go_sem,gd,Oper.wp,hD]
   exact ak.mk (TF.refl _ _) hC (ah.mk _ _)
  simp only [List.nil_append,List.cons_append]
  refine aH.some (fun v _=> ∃r:Nat,v= .int .i64 (r:Int)∧r < 6) (fun _ _ _ _ h=>h) ?_ ?_
  ·intro c A w' hok hC hO hD
   simp [au,ah,aj,Act.eval,Region.binds] at hD
   simp [go_sem,gd,Oper.wp,hD]
   refine (jk T H hs 6 w' (by unfold aX; decide) hC.2).mono ?_
   rintro e w2 ⟨r,rfl,h1,-,hM,hI⟩
   exact ak.mk hM ⟨hC.1.trans hM,hI⟩ ⟨r,rfl,by have:=h1 (by decide); omega⟩
  refine aH.some (fun v w'=> ∃r:Nat,v= .pointer (some ⟨ga,r,none⟩)∧r < 6) (fun _ _ _ _ h=>h) ?_ ?_
  ·intro c A w' hok hC hO hD
   simp [au,ah,aj,Act.eval,Region.binds] at hD
   obtain ⟨Ur,r,hr,h1⟩:=hD
   have hb0:(0:Int)≤(r:Int):=by omega
   have hb1:(r:Int) < 6:=by omega
   simp [go_sem,gd,Oper.wp,Ur,hr,hb0,hb1]
   exact ak.mk (TF.refl _ _) hC (⟨r,rfl,h1⟩)
  simp only [List.nil_append,List.cons_append]
  refine aH.some (fun v w'=> ∃z:Int,v= .int .i64 z∧aX z) (fun _ _ _ _ h=>h) ?_ ?_
  ·intro c A w' hok hC hO hD
   simp [au,ah,aj,Act.eval,Region.binds] at hD
   obtain ⟨r,hr,h1⟩:=hD
   obtain ⟨z,hz,Pe⟩:=KO w' hC.1 r h1
   simp [go_sem,gd,Oper.wp,hr,hz]
   exact ak.mk (TF.refl _ _) hC (⟨z,rfl,Pe⟩)
  apply aH.step
  case aB=>
   intro c A w' hok hC hO hD
   have e0:=hO 0 (by rfl)
   simp [Act.eval] at e0
   simp [au,ah,aj,Act.eval,Region.binds] at hD
   simp [go_sem,gd,Oper.wp,hD,e0]
   exact ak.mk (TF.refl _ _) hC (ah.mk _ _)
  apply aH.step
  case aB=>
   intro c A w' hok hC hO hD
   have e1:=hO 1 (by rfl)
   simp [Act.eval] at e1
   simp [au,ah,aj,Act.eval,Region.binds] at hD
   simp [go_sem,gd,Oper.wp,hD,e1]
   exact ak.mk (TF.refl _ _) hC (ah.mk _ _)
  simp only [List.nil_append,List.cons_append]
  apply aH.step
  case aB=>
   intro c A w' hok hC hO hD
   simp [au,ah,aj,Act.eval,Region.binds] at hD
   simp [go_sem,gd,Oper.wp,hD,hwd]
   exact ak.mk (TF.refl _ _) hC (ah.mk _ _)
  refine aH.some (fun v w'=>XE (w.heap.size + 1) v w') (fun v w1 w' hle h=>h.next (TF.Cm hle (by have:=aM.out.t; omega))) ?_ ?_
  ·intro c A w' hok hC hO hD
   simp [au,ah,aj,Act.eval,Region.binds] at hD
   simp [go_sem,gd,Oper.wp,hD]
   refine (HX.out w' H hs hC.2).mono ?_
   rintro e w3 ⟨v,rfl,h1,h2,h3⟩
   exact ak.mk h2 ⟨hC.1.trans h2,h3⟩ (h1.mono (Nat.le_trans Ac.out hC.1.size))
  apply aH.step
  case aB=>
   intro c A w' hok hC hO hD
   have e0:=hO 0 (by rfl)
   simp [Act.eval] at e0
   simp [au,ah,aj,Act.eval,Region.binds] at hD
   simp [go_sem,gd,Oper.wp,hD,e0]
   exact ak.mk (TF.refl _ _) hC (ah.mk _ _)
  apply aH.step
  case aB=>
   intro c A w' hok hC hO hD
   have e1:=hO 1 (by rfl)
   simp [Act.eval] at e1
   simp [au,ah,aj,Act.eval,Region.binds] at hD
   simp [go_sem,gd,Oper.wp,hD,e1]
   exact ak.mk (TF.refl _ _) hC (ah.mk _ _)
  simp only [List.nil_append,List.cons_append]
  apply aH.step
  case aB=>
   intro c A w' hok hC hO hD
   simp [au,ah,aj,Act.eval,Region.binds] at hD
   simp [go_sem,gd,Oper.wp,hD,hwd]
   exact ak.mk (TF.refl _ _) hC (ah.mk _ _)
  refine aH.some (fun v w'=>XE (w.heap.size + 1) v w') (fun v w1 w' hle h=>h.next (TF.Cm hle (by have:=aM.out.t; omega))) ?_ ?_
  ·intro c A w' hok hC hO hD
   simp [au,ah,aj,Act.eval,Region.binds] at hD
   simp [go_sem,gd,Oper.wp,hD]
   refine (HX.out w' H hs hC.2).mono ?_
   rintro e w3 ⟨v,rfl,h1,h2,h3⟩
   exact ak.mk h2 ⟨hC.1.trans h2,h3⟩ (h1.mono (Nat.le_trans Ac.out hC.1.size))
  simp only [List.nil_append,List.cons_append]
  refine aH.some (fun v w'=>XE (w.heap.size + 1) v w') (fun v w1 w' hle h=>h.next (TF.Cm hle (by have:=aM.out.t; omega))) ?_ ?_
  ·intro c A w' hok hC hO hD
   simp [au,ah,aj,Act.eval,Region.binds] at hD
   obtain ⟨⟨z,hz,Pe⟩,⟨op,n,nm,kids,ao,cap,hv,hok1,Eu⟩,op',n',nm',fq,jO,cap',hv',hok2,Sc⟩:=hD
   unfold exV at hv hv'
   simp [go_sem,gd,Oper.wp,hz,hv,hv']
   refine (wu z op n nm kids ao cap op' n' nm' fq jO cap' w').mono ?_
   rintro e w6 ⟨g,rfl,hg,hcell,hb⟩
   exact ak.mk (TF.of_below hb) ⟨hC.1.trans (TF.of_below hb),hC.2.below hb⟩ ⟨z,0,⟨#[]⟩,.cons op n nm kids (.cons op' n' nm' fq .nil),some ⟨g,0,none⟩,2,rfl,⟨Pe,ny,jD,by simp [bJ.len,maxLen]⟩,zm hcell (Nat.le_trans (Nat.le_trans Ac.out hC.1.size) hg) hok1 (Eu.next (bT hb)) hok2 (Sc.next (bT hb))⟩
  try simp only [List.nil_append,List.cons_append]
  refine aH.done ?_
  intro wz bK
  try simp only [List.drop_zero,List.drop_succ_cons]
  intro v0 h0 v1 h1 v2 h2 v3 h3 v4 h4 v5 h5 v6 h6 v7 h7 v8 h8 v9 h9 v10 h10 v11 h11 v12 h12 v13 mP v14 lG v15 oJ v16 h16 v17 sj v18 h18
  clear h0 h1 h2 h3 h4 h5 h6 h7 h8 h9 h10 h11 h12 mP lG oJ h16 sj
  obtain ⟨op',n',nm',fq,jO,cap',rfl,hok,hst⟩:=h18
  clear K0 KO hd1 hd2 hwd
  refine rV ?_
  go_simp
  have Dg:Hid (wz.heap[w.heap.size]? =some (.cells xO 40 (0,0))):=Lib.hid (bK.1.keep eO.out (by have:=aM.out.t; omega))
  obtain ⟨⟨y0,y1,y2,y3⟩,fz⟩:=Ak Dg.out
  have f0:=fz 0
  have f1:=fz 1
  have f2:=fz 2
  have f3:=fz 3
  have U6:=Lib.hid (eu.out.trans bK.1)
  have qA:=Lib.hid bK.2
  have SX:=Lib.hid hok
  have Tn:=Lib.hid hst
  clear fz bK hok hst
  unfold exV
  refine gY 19 [[],[],[1],[1,2],[1,2,3],[],[5],[1,2,3,4,5,6],[0,1,2,3,4,5,6,7],[0,1,2,3,4,5,6,7,8],[],[],[11],[1,2,3,4,5,6,7,10,11,12],[],[],[15],[1,2,3,4,5,6,7,10,11,12,13,14,15,16],[0,1,2,3,4,5,6,7,8,9,10,11,12,13,14,15,16,17],[0,1,2,3,4,5,6,7,8,9,10,11,12,13,14,15,16,17,18]] rfl rfl rfl rfl rfl (by kernel_rfl) (by kernel_rfl) (by kernel_rfl) ?_
  simp [go_sem,Oper.wp,y0,y1,y2,y3,f0,f1,f2,f3]
  refine dQ rfl ?_
  go_simp
  go_wp2_with fail
  obtain ⟨q1,q2,q3⟩:=Cx (.int .i64 op') (.int .i64 n') (.string nm') (.slice jO fq.len cap') U6.out qA.out aM.out
  exact bodyPost_ret (v:=exV op' n' nm' fq jO cap') (by simp [results,Tryd.results28,go_sem,exV,y0,y1,y2,y3]) rfl ⟨_,rfl,⟨op',n',nm',fq,jO,cap',rfl,SX.out,(Tn.out.next q3).mono (Nat.le_succ _)⟩,q1,q2⟩
theorem jf (T:Tp) (d:Nat) (h:d≤100):jJ T (d:Int):=by
 induction d using Nat.strongRecOn with
 | ind d ih=>exact Gx T d h (fun d' e=>ih d' e (by omega))
end Go.Proofs.YtnknfoibmgphnaaDoor
