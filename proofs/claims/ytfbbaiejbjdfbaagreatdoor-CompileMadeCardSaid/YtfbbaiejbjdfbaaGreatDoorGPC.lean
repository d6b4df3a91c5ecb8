/- Contract of the maker's expr: it returns an expression that lies in new memory. And what hangs on it. -/
import Derived.Test.YtfbbaiejbjdfbaaGreatDoorGPA
import Derived.Test.YtfbbaiejbjdfbaaGreatDoorGMB
import Derived.Deep.RegionWith
import Derived.Test.YtfbbaiejbjdfbaaGreatDoorGRA
import Derived.Deep.AppendLies
import Derived.Deep.MidRow
set_option linter.unusedSimpArgs false
set_option linter.unusedVariables false
set_option maxHeartbeats 40000000
set_option maxRecDepth 1000000
namespace Go.Proofs.YtfbbaiejbjdfbaaGreatDoor
open Go.RowKit
open Md
theorem MJ {w:World} {K:Act->Prop} {a:Act} (h:K a):dJ w K [] a:=h
def XE (B:Nat) (v:Value) (w:World):Prop:= ∃op n nm kids ao cap,v=exV op n nm kids ao cap∧OU op n nm kids∧mE B w (fun w2=>kids.At w2 w2.heap.size ao 0)
theorem XE.next {B:Nat} {v:Value} {w w':World} (h:XE B v w) (ha:rT B w w'):XE B v w':=by
 obtain ⟨op,n,nm,kids,ao,cap,h1,h2,h3⟩:=h;exact ⟨op,n,nm,kids,ao,cap,h1,h2,h3.next ha⟩
theorem XE.mono {B B':Nat} {v:Value} {w:World} (h:XE B' v w) (hB:B<=B'):XE B v w:=by
 obtain ⟨op,n,nm,kids,ao,cap,h1,h2,h3⟩:=h;exact ⟨op,n,nm,kids,ao,cap,h1,h2,h3.mono hB⟩
def MxP (T:Tp) (H:Option Nat) (hs:List ByteArray) (w:World) (e:Ending) (w':World):Prop:= ∃v,e= .returned v∧XE w.heap.size v w'∧TF T w w'∧dM w' T H hs
def pE (T:Tp) (d:Int):Prop:= ∀w H hs,dM w T H hs->Calls Tryz.prog 53 #[.pointer (some ⟨T.bm,0,none⟩),.int .i64 d] w (MxP T H hs w)
def XD (K B:Nat) (v:Value) (w:World):Prop:= ∃op n nm kids ao cap,v=exV op n nm kids ao cap∧(sG op n nm kids∧xu kids + 1<=K)∧mE B w (fun w2=>kids.At w2 w2.heap.size ao 0)
theorem XD.next {K B:Nat} {v:Value} {w w':World} (h:XD K B v w) (ha:rT B w w'):XD K B v w':=by
 obtain ⟨op,n,nm,kids,ao,cap,h1,h2,h3⟩:=h;exact ⟨op,n,nm,kids,ao,cap,h1,h2,h3.next ha⟩
theorem XD.mono {K B B':Nat} {v:Value} {w:World} (h:XD K B' v w) (hB:B<=B'):XD K B v w:=by
 obtain ⟨op,n,nm,kids,ao,cap,h1,h2,h3⟩:=h;exact ⟨op,n,nm,kids,ao,cap,h1,h2,h3.mono hB⟩
def MyP (K:Nat) (T:Tp) (H:Option Nat) (hs:List ByteArray) (w:World) (e:Ending) (w':World):Prop:= ∃v,e= .returned v∧XD K w.heap.size v w'∧TF T w w'∧dM w' T H hs
def vP (T:Tp) (K:Nat) (d:Int):Prop:= ∀w H hs,dM w T H hs->Calls Tryz.prog 53 #[.pointer (some ⟨T.bm,0,none⟩),.int .i64 d] w (MyP K T H hs w)
theorem wH:bS 0:=by unfold bS; decide
theorem rX:(⟨#[]⟩:ByteArray).size<=maxLen:=by unfold maxLen; decide
theorem nil_le:aZ.len .nil<=maxLen:=by unfold maxLen; decide
theorem Iz (n:Int) (w:World):
 Calls Tryz.prog 17 #[.int .i64 n] w fun e w'=>e= .returned (exV 1 n ⟨#[]⟩ .nil none 0)∧Below w.heap.size w w':=by
 go_enter Tryz.func17,Tryz.ntmps17;go_wp2;exact bodyPost_ret (v:=exV 1 n ⟨#[]⟩ .nil none 0) (by simp [results,Tryz.results17,go_sem,exV,aZ.len]) rfl ⟨rfl,ak _ _⟩
def Szs (n:Nat) (cs:Array Value):Prop:= ∀j,j < n-> ∃s:ByteArray,cs[j]? =some (.string s)∧s.size<=maxLen
def nm7:Array Value:= #[.string ⟨#[97]⟩,.string ⟨#[98]⟩,.string ⟨#[120]⟩,.string ⟨#[121]⟩,.string ⟨#[118]⟩,.string ⟨#[120]⟩,.string ⟨#[121]⟩]
theorem aG3:Szs 7 nm7:=fun j hj=>by
 have:j=0∨j=1∨j=2∨j=3∨j=4∨j=5∨j=6:=by omega
 rcases this with rfl | rfl | rfl | rfl | rfl | rfl | rfl <;> exact ⟨_,rfl,by unfold maxLen; decide⟩
def aG8:Array Value:= #[.int .i64 6,.int .i64 7,.int .i64 8,.int .i64 11,.int .i64 13,.int .i64 17]
theorem aG7: ∀j,j < 6-> ∃z,aG8[j]? =some (.int .i64 z)∧bS z:=fun j hj=>by
 have:j=0∨j=1∨j=2∨j=3∨j=4∨j=5:=by omega
 rcases this with rfl | rfl | rfl | rfl | rfl | rfl <;> exact ⟨_,rfl,by unfold bS; decide⟩
theorem OD {T:Tp} {H:Option Nat} {hs:List ByteArray} {w w4:World} (a b c d:Value) (hM:TF T w w4) (hI:dM w4 T H hs) (h0:Old T H w.heap.size):
 TF T w ((((w4.setCell ⟨w.heap.size,0,none⟩ a).setCell ⟨w.heap.size,1,none⟩ b).setCell ⟨w.heap.size,2,none⟩ c).setCell ⟨w.heap.size,3,none⟩ d)∧
 dM ((((w4.setCell ⟨w.heap.size,0,none⟩ a).setCell ⟨w.heap.size,1,none⟩ b).setCell ⟨w.heap.size,2,none⟩ c).setCell ⟨w.heap.size,3,none⟩ d) T H hs∧
 rT (w.heap.size + 1) w4 ((((w4.setCell ⟨w.heap.size,0,none⟩ a).setCell ⟨w.heap.size,1,none⟩ b).setCell ⟨w.heap.size,2,none⟩ c).setCell ⟨w.heap.size,3,none⟩ d):=by
 refine ⟨(((hM.set _ _ (Nat.le_refl _)).set _ _ (Nat.le_refl _)).set _ _ (Nat.le_refl _)).set _ _ (Nat.le_refl _),(((hI.VK h0 _ _ (Nat.le_refl _)).VK h0 _ _ (Nat.le_refl _)).VK h0 _ _ (Nat.le_refl _)).VK h0 _ _ (Nat.le_refl _),?_⟩;exact (((qK w4 ⟨w.heap.size,0,none⟩ a (Nat.lt_succ_self _)).trans (qK _ ⟨w.heap.size,1,none⟩ b (Nat.lt_succ_self _))).trans (qK _ ⟨w.heap.size,2,none⟩ c (Nat.lt_succ_self _))).trans (qK _ ⟨w.heap.size,3,none⟩ d (Nat.lt_succ_self _))
theorem F9 (T:Tp) (d K:Nat) (hd:d<=100) (hK:1<=K) (ih:d≠0->3<=K∧vP T 3 0∧vP T K ((d:Int) - 1)):vP T (3 * K) (d:Int):=by
 intro w H hs hI;have HI0:=ah hI;have oP:=ah ih;have HK:=ah hK;have aK:aj (Old T H w.heap.size):=ah hI.old;clear hI ih hK;go_enter Tryz.func53,Tryz.ntmps53;go_upto_region 2 with fail;generalize hW:World.alloc (World.alloc w _) _=W;have HB:aj (Below w.heap.size w W):=ah (by rw [<- hW]; exact (ak _ _).alloc (by simp) _);have HZ:aj (W.heap[w.heap.size]? =some (.cells I9 66 (0,0))):=ah (by rw [<- hW,heap_alloc_old _ _ (by simp)]; exact heap_alloc_new _ _);have HN:aj (W.heap[w.heap.size + 1]? =some (.cells nm7 9 (0,0))):=ah (by
  rw [<- hW];have e:(World.alloc w (.cells I9 66)).heap.size=w.heap.size + 1:=by simp
  rw [<- e]; exact heap_alloc_new _ _)
 have HI:=ah (HI0.o.below HB.o);clear hW;have c0:=HI.o.ptr;go_wp2_with fail;refine (lq T H hs 10 _ (by unfold bS; decide) HI.o).mono ?_;rintro e w2 ⟨k,rfl,hk1,hk2,hM,hI2⟩;have HM:=ah ((TF.of_below (T:=T) HB.o).trans hM);have HZ2:aj (w2.heap[w.heap.size]? =some (.cells I9 66 (0,0))):=ah (hM.keep HZ.o (by have:=aK.o.t; omega));have HN2:aj (w2.heap[w.heap.size + 1]? =some (.cells nm7 9 (0,0))):=ah (hM.keep HN.o (by have:=aK.o.t; omega));have HI2:=ah hI2;have hk10:k < 10:=by have:=hk1 (by decide); omega
 clear hM hI2 HZ HN HI c0 HB hk1 hk2;have HW2:aj (w.heap.size + 1<=w2.heap.size):=ah (by have:=(Array.getElem?_eq_some_iff.1 HZ2.o).1; omega);have hcase:(k < 2∨(2<=k∧d=0∧7<=k))∨(2<=k∧k < 7)∨(k=7∧d≠0)∨(8<=k∧d≠0):=by omega
 rcases hcase with hA | ⟨hB1,hB2⟩ | ⟨rfl,hC⟩ | ⟨hD1,hD2⟩
 ·have c0:=HI2.o.ptr;have hA':((k:Int) < 2)∨(¬ ((k:Int) < 2)∧((d:Int) == 0)=true∧(7:Int)<=(k:Int)):=by
   rcases hA with hA | ⟨h1,h2,h3⟩
   ·exact .inl (by omega)
   ·exact .inr ⟨by omega,by simp [h2],by omega⟩
  clear hA oP;rcases hA' with hA | ⟨hA1,hA2,hA3⟩
  all_goals go_wp2_with fail;refine (lq T H hs 4 _ (by unfold bS; decide) HI2.o).mono ?_;rintro e w3 ⟨r,rfl,hr1,hr2,Fz,CO⟩;have vK:=ah (HM.o.trans Fz);have HI3:=ah CO;have HZ3:aj (w3.heap[w.heap.size]? =some (.cells I9 66 (0,0))):=ah (Fz.keep HZ2.o (by have:=aK.o.t; omega));clear Fz CO hr1;go_wp2_with fail;refine (Iz r w3).mono ?_;rintro e w4 ⟨rfl,hb⟩;have qZ:=ah (vK.o.trans (TF.of_below hb));have HI4:=ah (HI3.o.below hb);have Jc:aj (w4.heap[w.heap.size]? =some (.cells I9 66 (0,0))):=ah ((hb.block _ (Array.getElem?_eq_some_iff.1 HZ3.o).1).trans HZ3.o);obtain ⟨⟨y0,y1,y2,y3⟩,fz⟩:=Mh Jc.o;have f0:=fz 0;have f1:=fz 1;have f2:=fz 2;have f3:=fz 3;clear hb fz vK HI3 HZ3;unfold exV;go_wp2_with fail;obtain ⟨q1,q2,q3⟩:=OD (.int .i64 1) (.int .i64 r) (.string ⟨#[]⟩) (.slice none 0 0) qZ.o HI4.o aK.o;exact bodyPost_ret (v:=exV 1 r ⟨#[]⟩ .nil none 0) (by simp [results,Tryz.results53,go_sem,exV,aZ.len,y0,y1,y2,y3]) rfl ⟨_,rfl,⟨1,r,⟨#[]⟩,.nil,none,0,rfl,⟨⟨by unfold bS; decide,by unfold bS; omega,rX,nil_le⟩,by have:=HK.o; show 0 + 1<=3 * K; omega⟩,fun _ _=>trivial⟩,q1,q2⟩
 ·have c0:=HI2.o.ptr;have hB3: ¬ ((k:Int) < 2):=by omega
  have hB4:((k:Int) < 7):=by omega
  have hB5: ¬ ((7:Int)<=(k:Int)):=by omega
  clear oP;cases hd0:((d:Int) == 0)
  all_goals
   go_wp2_with fail;refine (lq T H hs 7 _ (by unfold bS; decide) HI2.o).mono ?_;rintro e w3 ⟨r,rfl,hr1,hr2,Fz,CO⟩;have hr7:r < 7:=by have:=hr1 (by decide); omega
   have vK:=ah (HM.o.trans Fz);have HI3:=ah CO;have HZ3:aj (w3.heap[w.heap.size]? =some (.cells I9 66 (0,0))):=ah (Fz.keep HZ2.o (by have:=aK.o.t; omega));obtain ⟨s,hs1,hs2⟩:=aG3 r hr7;have cs:w3.cell? ⟨w.heap.size + 1,r,none⟩=some (.string s):=(bg (Fz.keep HN2.o (by have:=aK.o.t; omega)) hs1).2;have bt7:(0:Int)<=(r:Int):=by omega
   have bt8:(r:Int) < 7:=by omega
   have HS:=ah hs2;clear Fz CO hr1 hs1 hs2 hr2;go_wp2_with fail;refine (Fa s w3).mono ?_;rintro e w4 ⟨rfl,hb⟩;have qZ:=ah (vK.o.trans (TF.of_below hb));have HI4:=ah (HI3.o.below hb);have Jc:aj (w4.heap[w.heap.size]? =some (.cells I9 66 (0,0))):=ah ((hb.block _ (Array.getElem?_eq_some_iff.1 HZ3.o).1).trans HZ3.o);obtain ⟨⟨y0,y1,y2,y3⟩,fz⟩:=Mh Jc.o;have f0:=fz 0;have f1:=fz 1;have f2:=fz 2;have f3:=fz 3;clear hb fz vK HI3 HZ3 cs;unfold exV;go_wp2_with fail;obtain ⟨q1,q2,q3⟩:=OD (.int .i64 2) (.int .i64 0) (.string s) (.slice none 0 0) qZ.o HI4.o aK.o;exact bodyPost_ret (v:=exV 2 0 s .nil none 0) (by simp [results,Tryz.results53,go_sem,exV,aZ.len,y0,y1,y2,y3]) rfl ⟨_,rfl,⟨2,0,s,.nil,none,0,rfl,⟨⟨by unfold bS; decide,wH,HS.o,nil_le⟩,by have:=HK.o; show 0 + 1<=3 * K; omega⟩,fun _ _=>trivial⟩,q1,q2⟩
 ·have hd0:((d:Int) == 0)=false:=by rw [beq_eq_false_iff_ne]; omega
  have HX:aj (vP T 3 0):=ah (oP.o hC).2.1;have Db:=ah (oP.o hC).1;clear oP;go_wp2_with fail;refine (HX.o w2 H hs HI2.o).mono ?_;rintro e w4 ⟨v,rfl,hex,TI,Oa⟩;obtain ⟨op,n,nm,kids,ao,cap,rfl,hok,hst⟩:=hex;have qZ:=ah (HM.o.trans TI);have nK:=ah hok;have HST:=ah (hst.mono HW2.o);have HI4:=ah Oa;have Jc:aj (w4.heap[w.heap.size]? =some (.cells I9 66 (0,0))):=ah (TI.keep HZ2.o (by have:=aK.o.t; omega));have Wv:aj (w.heap.size + 1<=w4.heap.size):=ah (by have:=(Array.getElem?_eq_some_iff.1 Jc.o).1; omega);clear hok hst TI Oa;obtain ⟨⟨y0,y1,y2,y3⟩,fz⟩:=Mh Jc.o;have f0:=fz 0;have f1:=fz 1;have f2:=fz 2;have f3:=fz 3;have F5:w.heap.size < w4.heap.size:=Wv.o;clear fz;unfold exV;go_wp2_with fail;have HF:aj (MyP (3 * K) T H hs w (.returned (exV 3 0 ⟨#[113]⟩ (.cons op n nm kids .nil) (some ⟨w4.heap.size,0,none⟩) 1)) (((((w4.setCell ⟨w.heap.size,0,none⟩ (.int .i64 3)).setCell ⟨w.heap.size,1,none⟩ (.int .i64 0)).setCell ⟨w.heap.size,2,none⟩ (.string ⟨#[113]⟩)).setCell ⟨w.heap.size,3,none⟩ (.slice (some ⟨w4.heap.size,0,none⟩) 1 1)).alloc (.cells #[.int .i64 op,.int .i64 n,.string nm,.slice ao kids.len cap] 66))):=by
   obtain ⟨q1,q2,q3⟩:=OD (.int .i64 3) (.int .i64 0) (.string ⟨#[113]⟩) (.slice (some ⟨w4.heap.size,0,none⟩) 1 1) qZ.o HI4.o aK.o;generalize hW:World.setCell (World.setCell (World.setCell (World.setCell w4 _ _) _ _) _ _) _ _=W at *;have hsz:W.heap.size=w4.heap.size:=by rw [<- hW]; simp [World.setCell]
   refine ah ⟨_,rfl,⟨3,0,⟨#[113]⟩,.cons op n nm kids .nil,_,1,rfl,⟨⟨by unfold bS; decide,wH,by unfold maxLen; decide,by simp [aZ.len,maxLen]⟩,by have h1:=nK.o.2; have h2:=Db.o; simp only [xu]; omega⟩,?_⟩,q1.trans (TF.of_below (ak _ _)),q2.below (ak _ _)⟩;rw [<- hsz];exact Ry (heap_alloc_new _ _) (by omega) nK.o.1 (((HST.o.next q3).next (dB (ak _ _))).mono (Nat.le_succ _))
  exact bodyPost_ret (v:=exV 3 0 ⟨#[113]⟩ (.cons op n nm kids .nil) (some ⟨w4.heap.size,0,none⟩) 1) (by simp [results,Tryz.results53,go_sem,exV,aZ.len,y0,y1,y2,y3,F5]) rfl HF.o
 ·have hd0:((d:Int) == 0)=false:=by rw [beq_eq_false_iff_ne]; omega
  have hD3: ¬ ((k:Int) < 2):=by omega
  have hD4: ¬ ((k:Int) < 7):=by omega
  have hD5:((k:Int) == 7)=false:=by rw [beq_eq_false_iff_ne]; omega
  have HX:aj (vP T K ((d:Int) - 1)):=ah (oP.o hD2).2.2;have Db:=ah (oP.o hD2).1;clear oP;have hwd:IntKind.i64.wrap ((d:Int) - 1)=(d:Int) - 1:=IntWalk.i64_in _ (by omega);go_upto_region 10 with fail;obtain ⟨ga,hga⟩: ∃g,w2.heap.size=g:=⟨_,rfl⟩;generalize Dq:World.alloc w2 _=W5;have kS:aj (Below w2.heap.size w2 W5):=ah (by rw [<- Dq]; exact ak _ _);have HA5:aj (W5.heap[ga]? =some (.cells aG8 3 (0,0))):=ah (by rw [<- Dq,<- hga]; exact heap_alloc_new _ _);have iw:=ah (HI2.o.below kS.o);have fH:=ah (HM.o.trans (TF.of_below kS.o));have fV:aj (W5.heap[w.heap.size]? =some (.cells I9 66 (0,0))):=ah ((kS.o.block _ (Array.getElem?_eq_some_iff.1 HZ2.o).1).trans HZ2.o);have qY:aj (w.heap.size < ga):=ah (by rw [<- hga]; exact HW2.o);have tN:aj (w.heap.size + 1<=W5.heap.size):=ah (by have:=(Array.getElem?_eq_some_iff.1 fV.o).1; omega);rw [hga];clear Dq hga kS HZ2 HM HI2 HN2;have K0: ∀w',dM w' T H hs->w'.cell? ⟨T.bm,0,none⟩=some (.pointer (some ⟨T.bt,0,none⟩)):=fun w' h=>h.ptr;have KO: ∀w',TF T W5 w'-> ∀j,j < 6-> ∃z,w'.cell? ⟨ga,j,none⟩=some (.int .i64 z)∧bS z:=fun w' h j hj=>by obtain ⟨z,h1,h2⟩:=aG7 j hj;exact ⟨z,(bg (h.keep HA5.o (by have:=aK.o.t; have:=qY.o; omega)) h1).2,h2⟩
  have hd1:TF T W5 (W5.drewN 1):=TF.of_below (below_drewN (Below.refl _ _) 1);have hd2:dM (W5.drewN 1) T H hs:=iw.o.below (below_drewN (Below.refl _ _) 1);refine bG (by kernel_rfl) rfl ?_;refine aY 0 19 [] [[],[],[1],[1,2],[1,2,3],[],[5],[1,2,3,4,5,6],[0,1,2,3,4,5,6,7],[0,1,2,3,4,5,6,7,8],[],[],[11],[1,2,3,4,5,6,7,10,11,12],[],[],[15],[1,2,3,4,5,6,7,10,11,12,13,14,15,16],[0,1,2,3,4,5,6,7,8,9,10,11,12,13,14,15,16,17],[0,1,2,3,4,5,6,7,8,9,10,11,12,13,14,15,16,17,18]] [[],[],[],[],[],[],[],[],[],[],[],[],[],[],[],[],[],[],[]] (fun _ w'=>TF T W5 w'∧dM w' T H hs) (fun w w'=>TF T w w') [53,54,55,56,57,58,59,60,61,62,63,64,65,66,67,68,69,70,71] rfl rfl (by rfl) (by kernel_rfl) (by kernel_rfl) (by kernel_rfl) (by kernel_rfl) (by kernel_rfl) (by rfl) (fun _=>TF.refl _ _) (by rfl) ⟨hd1,hd2⟩ ?_;simp only [eP,jC]
  iterate 7
   apply aU.step
   case aM=>intro c A w' hok hC hO hD;have e7:=hO 7 (by rfl);have e0:=hO 0 (by rfl);simp [Act.eval] at e7 e0;simp [Act.eval] at hD;simp [go_sem,gd,Oper.wp,hD,e7,e0,K0,hC.2];exact aG.mk (TF.refl _ _) hC (bH.mk _ _)
   try simp only [bP]
  refine aU.some (fun v _=> ∃r:Nat,v= .int .i64 (r:Int)∧r < 6) (fun _ _ _ _ h=>h) ?_ ?_
  ·intro c A w' hok hC hO hD;simp [Act.eval] at hD;simp [go_sem,gd,Oper.wp,hD];refine (lq T H hs 6 w' (by unfold bS; decide) hC.2).mono ?_;rintro e w2 ⟨r,rfl,h1,-,hM,hI⟩;exact aG.mk hM ⟨hC.1.trans hM,hI⟩ ⟨r,rfl,by have:=h1 (by decide); omega⟩
  refine aU.some (fun v w'=> ∃r:Nat,v= .pointer (some ⟨ga,r,none⟩)∧r < 6) (fun _ _ _ _ h=>h) ?_ ?_
  ·intro c A w' hok hC hO hD;simp [Act.eval] at hD;obtain ⟨h53,r,hr,h1⟩:=hD;have hb0:(0:Int)<=(r:Int):=by omega
   have hb1:(r:Int) < 6:=by omega
   simp [go_sem,gd,Oper.wp,h53,hr,hb0,hb1];exact aG.mk (TF.refl _ _) hC (⟨r,rfl,h1⟩)
  try simp only [bP]
  refine aU.some (fun v w'=> ∃z:Int,v= .int .i64 z∧bS z) (fun _ _ _ _ h=>h) ?_ ?_
  ·intro c A w' hok hC hO hD;simp [Act.eval] at hD;obtain ⟨r,hr,h1⟩:=hD;obtain ⟨z,hz,hzI⟩:=KO w' hC.1 r h1;simp [go_sem,gd,Oper.wp,hr,hz];exact aG.mk (TF.refl _ _) hC (⟨z,rfl,hzI⟩)
  iterate 3
   apply aU.step
   case aM=>intro c A w' hok hC hO hD;have e0:=hO 0 (by rfl);have e1:=hO 1 (by rfl);simp [Act.eval] at e0 e1;simp [Act.eval] at hD;simp [go_sem,gd,Oper.wp,hD,e0,e1,hwd];exact aG.mk (TF.refl _ _) hC (bH.mk _ _)
   try simp only [bP]
  refine aU.some (fun v w'=>XD K (w.heap.size + 1) v w') (fun v w1 w' hle h=>h.next (TF.NR hle (by have:=aK.o.t; omega))) ?_ ?_
  ·intro c A w' hok hC hO hD;simp [Act.eval] at hD;simp [go_sem,gd,Oper.wp,hD];refine (HX.o w' H hs hC.2).mono ?_;rintro e w3 ⟨v,rfl,h1,h2,h3⟩;exact aG.mk h2 ⟨hC.1.trans h2,h3⟩ (h1.mono (Nat.le_trans tN.o hC.1.size))
  iterate 3
   apply aU.step
   case aM=>intro c A w' hok hC hO hD;have e0:=hO 0 (by rfl);have e1:=hO 1 (by rfl);simp [Act.eval] at e0 e1;simp [Act.eval] at hD;simp [go_sem,gd,Oper.wp,hD,e0,e1,hwd];exact aG.mk (TF.refl _ _) hC (bH.mk _ _)
   try simp only [bP]
  refine aU.some (fun v w'=>XD K (w.heap.size + 1) v w') (fun v w1 w' hle h=>h.next (TF.NR hle (by have:=aK.o.t; omega))) ?_ ?_
  ·intro c A w' hok hC hO hD;simp [Act.eval] at hD;simp [go_sem,gd,Oper.wp,hD];refine (HX.o w' H hs hC.2).mono ?_;rintro e w3 ⟨v,rfl,h1,h2,h3⟩;exact aG.mk h2 ⟨hC.1.trans h2,h3⟩ (h1.mono (Nat.le_trans tN.o hC.1.size))
  try simp only [bP]
  refine aU.some (fun v w'=>XD (3 * K) (w.heap.size + 1) v w') (fun v w1 w' hle h=>h.next (TF.NR hle (by have:=aK.o.t; omega))) ?_ ?_
  ·intro c A w' hok hC hO hD;simp [Act.eval] at hD;obtain ⟨⟨z,hz,hzI⟩,⟨op,n,nm,kids,ao,cap,hv,hok1,QM⟩,op',n',nm',gL,nk,cap',hv',hok2,bg0⟩:=hD;unfold exV at hv hv';simp [go_sem,gd,Oper.wp,hz,hv,hv'];refine (ET z op n nm kids ao cap op' n' nm' gL nk cap' w').mono ?_;rintro e w6 ⟨g,rfl,hg,hcell,hb⟩;exact aG.mk (TF.of_below hb) ⟨hC.1.trans (TF.of_below hb),hC.2.below hb⟩ ⟨z,0,⟨#[]⟩,.cons op n nm kids (.cons op' n' nm' gL .nil),some ⟨g,0,none⟩,2,rfl,⟨⟨hzI,wH,rX,by simp [aZ.len,maxLen]⟩,by have h1:=hok1.2; have h2:=hok2.2; have h3:=Db.o; simp only [xu]; omega⟩,Ko hcell (Nat.le_trans (Nat.le_trans tN.o hC.1.size) hg) hok1.1 (QM.next (dB hb)) hok2.1 (bg0.next (dB hb))⟩
  try simp only [bP]
  refine aU.done ?_;intro wz bC
  try simp only [eP]
  intro v0 h0 v1 h1 v2 h2 v3 h3 v4 h4 v5 h5 v6 h6 v7 h7 v8 h8 v9 h9 v10 h10 v11 h11 v12 h12 v13 zl v14 uY v15 zO v16 h16 v17 Jk v18 h18;clear h0 h1 h2 h3 h4 h5 h6 h7 h8 h9 h10 h11 h12 zl uY zO h16 Jk;obtain ⟨op',n',nm',gL,nk,cap',rfl,hok,hst⟩:=h18;clear K0 KO hd1 hd2 hwd;refine MJ ?_;go_simp;have PE:aj (wz.heap[w.heap.size]? =some (.cells I9 66 (0,0))):=ah (bC.1.keep fV.o (by have:=aK.o.t; omega));obtain ⟨⟨y0,y1,y2,y3⟩,fz⟩:=Mh PE.o;have f0:=fz 0;have f1:=fz 1;have f2:=fz 2;have f3:=fz 3;have HMz:=ah (fH.o.trans bC.1);have Ch:=ah bC.2;have aZ2:=ah hok;have aZ7:=ah hst;clear fz bC hok hst;unfold exV;refine bZ 19 [[],[],[1],[1,2],[1,2,3],[],[5],[1,2,3,4,5,6],[0,1,2,3,4,5,6,7],[0,1,2,3,4,5,6,7,8],[],[],[11],[1,2,3,4,5,6,7,10,11,12],[],[],[15],[1,2,3,4,5,6,7,10,11,12,13,14,15,16],[0,1,2,3,4,5,6,7,8,9,10,11,12,13,14,15,16,17],[0,1,2,3,4,5,6,7,8,9,10,11,12,13,14,15,16,17,18]] rfl rfl rfl rfl rfl (by kernel_rfl) (by kernel_rfl) (by kernel_rfl) ?_;simp [go_sem,Oper.wp,y0,y1,y2,y3,f0,f1,f2,f3];refine bV rfl ?_;go_simp;go_wp2_with fail;obtain ⟨q1,q2,q3⟩:=OD (.int .i64 op') (.int .i64 n') (.string nm') (.slice nk gL.len cap') HMz.o Ch.o aK.o;exact bodyPost_ret (v:=exV op' n' nm' gL nk cap') (by simp [results,Tryz.results53,go_sem,exV,y0,y1,y2,y3]) rfl ⟨_,rfl,⟨op',n',nm',gL,nk,cap',rfl,aZ2.o,(aZ7.o.next q3).mono (Nat.le_succ _)⟩,q1,q2⟩
theorem Vw (T:Tp):vP T 3 0∧vP T 9 1∧vP T 27 2:=by
 have h0:vP T 3 0:=F9 T 0 1 (by decide) (by decide) (fun h=>absurd rfl h);have h1:vP T 9 1:=F9 T 1 3 (by decide) (by decide) (fun _=>⟨by decide,h0,h0⟩);exact ⟨h0,h1,F9 T 2 9 (by decide) (by decide) (fun _=>⟨by decide,h0,h1⟩)⟩
theorem Vv {T:Tp} {K:Nat} {d:Int} (hK:K<=41) (h:vP T K d):pE T d:=fun w H hs hI=>(h w H hs hI).mono (by
 rintro e w' ⟨v,rfl,⟨op,n,nm,kids,ao,cap,h1,⟨h2,h3⟩,h4⟩,h5⟩;exact ⟨v,rfl,⟨op,n,nm,kids,ao,cap,h1,⟨h2,by omega⟩,h4⟩,h5⟩)
theorem kV (T:Tp) (d:Nat) (h:d<=2):pE T (d:Int):=by
 have:d=0∨d=1∨d=2:=by omega
 obtain ⟨h0,h1,h2⟩:=Vw T;rcases this with rfl | rfl | rfl
 ·exact Vv (by decide) h0
 ·exact Vv (by decide) h1
 ·exact Vv (by decide) h2
def lX:Array Value:= #[.int .i64 0,.int .i64 0,.string ⟨#[]⟩,.string ⟨#[]⟩,.slice none 0 0,.int .i64 0,.int .i64 0,.string ⟨#[]⟩,.slice none 0 0,.slice none 0 0,.slice none 0 0]
theorem vZ {α:Type} {β:Type} {o:Option TypeInfo} {z:Option Value} {a b:Nat} (h:o.map (fun i=>(i.zero,i.size,i.bytes))=some (z,a,b)): ∃i0,o=some i0∧i0.zero=z∧i0.size=a∧i0.bytes=b:=by
 cases o with
 | none=>cases h
 | some i=>simp at h; exact ⟨i,rfl,h.1,h.2.1,h.2.2⟩
theorem LB:(Tryz.prog.info? 68).map (fun i=>(i.zero,i.size,i.bytes))=some (some (.agg lX),11,176):=by kernel_rfl
theorem aK4:(Tryz.prog.info? 9).map (fun i=>(i.zero,i.size,i.bytes))=some (some (.string ⟨#[]⟩),1,16):=by kernel_rfl
theorem ah7:(Tryz.prog.info? 68).map (·.size)=some 11:=by kernel_rfl
def MsP (T:Tp) (H:Option Nat) (hs:List ByteArray) (w:World) (e:Ending) (w':World):Prop:= ∃(h:dL) (b e':aH) (s:Sl) (H':Option Nat),e= .returned (dS h b e' s)∧zf h b e'∧gu w.heap.size (Bv H') w' (aP.I ⟨h,b,e',s⟩)∧Hx w H H'∧Mm T H w w'∧dM w' T H' hs
def WB (T:Tp) (d:Nat):Prop:= ∀w H hs,dM w T H hs->hs.length + d<=900->Calls Tryz.prog 30 #[.pointer (some ⟨T.bm,0,none⟩),.int .i64 (d:Int)] w (MsP T H hs w)
def Ta (T:Tp) (H:Option Nat) (hs:List ByteArray) (w:World) (e:Ending) (w':World):Prop:= ∃(v:Value) (l:List aP) (H':Option Nat),e= .returned v∧yP w.heap.size H' w' v l∧(∀x ∈ l,zf x.h x.b x.e)∧1<=l.length∧l.length<=9∧Hx w H H'∧Mm T H w w'∧dM w' T H' hs
def Ee (T:Tp) (d:Nat):Prop:= ∀w H hs (n:Int),dM w T H hs->hs.length + d<=900->1<=n->n<=9->Calls Tryz.prog 14 #[.pointer (some ⟨T.bm,0,none⟩),.int .i64 (d:Int),.int .i64 n] w (Ta T H hs w)
def PK (T:Tp) (d:Nat):Prop:= ∀w H hs (s:ByteArray),dM w T H hs->hs.length + 1 + d<=900->s.size<=maxLen->Calls Tryz.prog 57 #[.pointer (some ⟨T.bm,0,none⟩),.string s,.int .i64 (d:Int)] w (Ta T H hs w)
theorem CF {B:Nat} {w w':World} {g:Option Nat} (h:w.grownBy w' g) (hg: ∀k,g=some k->B<=k) (hB:B<=w.heap.size):Below B w w':=
 ⟨h.os,h.tape,h.output,h.size,fun k hk=>h.block k (by omega) (fun e=>by have:=hg k e.symm; omega)⟩
theorem Kq (x:aP): ∀u ∈ aP.f x,u.oneCell'=true:=by
 intro u hu; simp [aP.f] at hu;rcases hu with rfl | rfl | rfl | rfl | rfl | rfl | rfl | rfl | rfl | rfl | rfl <;> rfl
theorem aL8 (l:List aP): ∀u ∈ l.flatMap aP.f,u.oneCell'=true:=by
 intro u hu;obtain ⟨x,-,h⟩:=List.mem_flatMap.1 hu;exact Kq x u h
theorem Sn (T:Tp) (d:Nat) (hst:WB T d):Ee T d:=by
 intro w H hs n hI jG hn1 hn2;have HST:=ah hst;have HI:=ah hI;have aK:aj (Old T H w.heap.size):=ah hI.old;obtain ⟨i0,hi,hz0,hz1,hz2⟩:=vZ (α:=Nat) (β:=Nat) LB;have fu:=ah (And.intro hi (And.intro hz0 (And.intro hz1 hz2)));clear hst hI hi hz0 hz1 hz2;go_enter Tryz.func14,Tryz.ntmps14;go_wp2_with fail;go_loopw [7,8] (fun v7 v8 wr=> ∃(k:Nat) (l:List aP) (Hr:Option Nat),v8= .int .i64 k∧k<=n.toNat∧l.length=k∧yP w.heap.size Hr wr v7 l∧(∀x ∈ l,zf x.h x.b x.e)∧dM wr T Hr hs∧Mm T H w wr∧Hx w H Hr) (fun _ i _=>(n - intOf i).toNat)
 case atStart=>exact ⟨0,[],H,rfl,Nat.zero_le _,rfl,kP.nil _ _ _ _ _ _ _,by simp,HI.o,Mm.refl _ _ _,Hx.refl _ _⟩
 case round=>
  obtain ⟨k,l,Hr,rfl,hk,hl,hg,hok,hmi,hmk,hhx⟩:=hrel;have HL:=ah hl;have HG:=ah hg;have nK:=ah hok;have HMI:=ah hmi;have W9:=ah hmk;have HHX:=ah hhx;obtain ⟨th,left,qa,qb,qc,qd,vH,kK,c0,c1,c2,-,-,-,-,-,-,-,-⟩:=hmi.reads;clear hl hg hok hmi hmk hhx kK c0 c1;by_cases hlt:(k:Int) < n
  ·have hgo:(((k:Int) == 0)=true∨(((k:Int) == 0)=false∧0 < left))∨(((k:Int) == 0)=false∧ ¬ 0 < left):=by cases hq:((k:Int) == 0) <;> by_cases hp:0 < left <;> simp [hp]
   rcases hgo with hgo | ⟨hq,hp⟩
   ·rcases hgo with hq | ⟨hq,hp⟩
    all_goals
     go_wp2_with fail;refine (HST.o wr Hr hs HMI.o jG).mono ?_;rintro e w1 ⟨h,b,e',s,H1,rfl,aD8,aD9,hhx,hM,hI1⟩;have yV:=ah (HG.o.next (hM.Gi aK.o.t aK.o.m) hhx);have as1:=ah (W9.o.trans HHX.o hM);have aX8:=ah (HHX.o.trans hhx W9.o.size);have HI1:=ah hI1;have aZ0:=ah aD8;have HX:=ah aD9;have mg:=ah hM.size;have Ci:=ah HG.o.lt;clear hM hI1 aD8 aD9 hhx HG c2;unfold dS;have iq:aj (Below w1.heap.size w1 (w1.alloc (.cells (aP.f ⟨h,b,e',s⟩).toArray 68))):=ah (ak _ _);have qY:=ah (yV.o.next (nP.of_below iq.o) (Hx.refl _ _));have jv:=ah (gP (heap_alloc_new w1 (.cells (aP.f ⟨h,b,e',s⟩).toArray 68)));have T9:aj (w.heap.size<=w1.heap.size):=ah as1.o.size;obtain ⟨hi,hz0,hz1,hz2⟩:=fu.o;have hbs:w.heap.size<=w1.heap.size + 1:=Nat.le_succ_of_le T9.o;have hkl:l.length + 1<=maxLen:=(by rw [HL.o]; unfold maxLen; omega);have Lj:(l.length + 1) * 176<=140737488355328:=(by rw [HL.o]; omega);go_wp2_with (at_builtin; refine wpList_append_lies _ rfl _ _ 61 rfl w.heap.size 68 i0 _ 11 176 Tryz.underlying61 hi hz0 hz1 hz2 rfl (by decide) _ _ _ rfl qY.o.own ⟨w1.heap.size,0,none⟩ 1 1 (aP.f ⟨h,b,e',s⟩) rfl rfl jv.o (Kq _) (by decide) hkl Lj (by simpa using hbs) _ rfl ?_);clear hi hz0 hz1 hz2;intro g cap w2 hown hgr hmv hlt2;have Jb:aj (gu w.heap.size (zM u7.ownBlock H1) (w1.alloc (.cells (aP.f ⟨h,b,e',s⟩).toArray 68)) (aP.I ⟨h,b,e',s⟩)):=ah ((HX.o.weak (X:=zM u7.ownBlock H1) W9.o.size (fun k h1 h2 h3=>by
      rcases h3 with h3 | h3
      ·have:=(Ci.o k h3).2; omega
      ·exact h3)).go (nP.of_below iq.o) (fun _ _ _ e=>e))
     have FV:=ah (HI1.o.below iq.o);have HG2:=ah (qY.o.push Jb.o rfl hown hgr (by simpa using hmv) FV.o.hlt');have UD:=ah (FV.o.grown hgr (fun k e=>by have h1:=(qY.o.lt k e).1;exact ⟨Nat.le_trans aK.o.z h1,fun e'=>by have:=aK.o.t; omega,fun e'=>by have:=aK.o.m; omega,qY.o.ne k e⟩));have aY8:=ah ((as1.o.then_ (iq.o.mono T9.o) iq.o.size).then_ (CF hgr (fun k e=>(qY.o.lt k e).1) (by simpa using hbs)) hgr.size);have aZ1:aj (∀y ∈ l++[(⟨h,b,e',s⟩:aP)],zf y.h y.b y.e):=ah (fun y hy=>by
      rcases List.mem_append.1 hy with hy | hy
      ·exact nK.o y hy
      ·rw [List.mem_singleton.1 hy]; exact aZ0.o)
     clear hown hgr hmv hlt2 hbs hkl Lj Jb HX jv qY iq FV;go_wp2_with fail;go_roundw
     case rel=>exact ⟨k + 1,l++[⟨h,b,e',s⟩],H1,by go_num,by omega,by simp [HL.o],HG2.o,aZ1.o,UD.o,aY8.o,aX8.o⟩
     case measure=>simp [intOf]; omega
   ·go_wp2_with fail;go_ret;exact ⟨_,l,Hr,rfl,HG.o,nK.o,by rw [HL.o]; simp at hq; omega,by rw [HL.o]; omega,HHX.o,W9.o,HMI.o⟩
  ·go_wp2_with fail;go_ret;exact ⟨_,l,Hr,rfl,HG.o,nK.o,by rw [HL.o]; omega,by rw [HL.o]; omega,HHX.o,W9.o,HMI.o⟩
theorem yH (T:Tp) (w:World) (H:Option Nat) (hs:List ByteArray) (s:ByteArray) (hI:dM w T H hs):
 Calls Tryz.prog 56 #[.pointer (some ⟨T.bm,0,none⟩),.string s] w fun e w'=>(∃q,e= .returned (.bool q))∧w=w':=by
 obtain ⟨th,left,qa,qb,qc,qd,vH,kK,c0,c1,c2,c3,c4,c5,c6,c7,cf,hv,hrow⟩:=hI.reads;obtain ⟨-,ao,cap,rfl,hcap,hc⟩:=hrow.cells Ar w (rT.refl _ _);have HT:aj (fP w w.heap.size hs ao 0):=ah (OO hs 0 hI.ok (fun i x hx=>by obtain ⟨g,h1,-,h3,h4⟩:=hc i x hx;exact ⟨g,h1,h3,fun j u hu=>by rw [Nat.zero_add]; exact h4 j u hu⟩));have hl:hs.length<=maxLen:=by have:=hI.few; unfold maxLen; omega
 have HI:=ah hI;clear hc hrow hI hv c0 c1 c2 c3 c4 c5 c6 cf;go_enter Tryz.func56,Tryz.ntmps56;go_wp2_with fail;refine (jI hs s w ao cap hl HT.o).mono ?_;rintro e w' ⟨rfl,rfl⟩;go_wp2_with fail;go_ret;exact ⟨⟨_,rfl⟩,rfl⟩
theorem Xe (w:World) (g:Option Nat):w.grownBy w g:=⟨rfl,rfl,rfl,Nat.le_refl _,fun _ _ _=>rfl⟩
theorem Sj (T:Tp) (d:Nat) (hd:d<=100) (hsl:Ee T d):PK T d:=by
 intro w H hs s hI jG hsz;have HSL:=ah hsl;have HI:=ah hI;have aK:aj (Old T H w.heap.size):=ah hI.old;obtain ⟨th,left,qa,qb,qc,qd,vH,kK,c0,c1,c2,c3,c4,c5,c6,c7,cf,hv,hrow⟩:=hI.reads;have FV:=ah (hI.below (ak w (.cells #[.string s] 9)));have HOW:=ah (hrow.next (dB (ak w (.cells #[.string s] 9)))).own;have jv:=ah (gP (cs:=yN s) (heap_alloc_new w (.cells #[.string s] 9)));have HV:=ah hv;have hb0:T.B0<=w.heap.size + 1:=Nat.le_succ_of_le hI.tape.b0;have f7:=cf 7;have hle1:hs.length + 1<=maxLen:=by unfold maxLen; omega
 have hle2:(hs.length + 1) * 16<=140737488355328:=by omega
 obtain ⟨i0,hi,hz0,hz1,hz2⟩:=vZ (α:=Nat) (β:=Nat) aK4;have zn:T.bm < w.heap.size:=hI.lt;clear hI hrow hsl c0 c1 c2 c3 c4 c5 c6 cf kK hv;go_enter Tryz.func57,Tryz.ntmps57;go_wp2_with (at_builtin; refine wpList_append_lies _ rfl _ _ 31 rfl T.B0 9 i0 _ 1 16 Tryz.underlying31 hi hz0 hz1 hz2 rfl (by decide) _ _ _ rfl HOW.o ⟨w.heap.size,0,none⟩ 1 1 (yN s) rfl rfl jv.o (by intro u hu; simp [yN] at hu; subst hu; rfl) (by decide) hle1 hle2 (by simpa using hb0) _ rfl ?_);clear hi hz0 hz1 hz2;intro g cap w2 hown hgr hmv hlt2;rw [HV.o] at hgr hmv;have Zy:w2.heap[T.bm]? =(World.alloc w (.cells #[.string s] 9)).heap[T.bm]?:=hgr.block _ FV.o.lt (fun e=>FV.o.nm e.symm);have f7':w2.frozen? ⟨T.bm,7,none⟩=false:=by obtain ⟨_,_,_,_,_,_,_,_,hb,_⟩:=FV.o.BA;exact dH (Zy.trans hb)
 have e7: ∃u,w2.cell? ⟨T.bm,7,none⟩=some u:=by obtain ⟨_,_,_,_,_,_,_,_,hb,_⟩:=FV.o.BA;exact ⟨_,(bg (Zy.trans hb) (j:=7) rfl).2⟩
 obtain ⟨u7,e7⟩:=e7;go_upto_region 2 with fail;generalize hW3:World.setCell w2 _ _=W3;have HH:aj (dM W3 T (some g) (hs++[s])∧Mm T H (World.alloc w (.cells #[.string s] 9)) W3):=ah (FV.o.held (vH:= .slice (some ⟨g,0,none⟩) (hs.length + 1) cap) hW3.symm hgr rfl (by
  rcases hmv with h | h
  ·exact .inl h.symm
  ·exact .inr ⟨g,rfl,by rw [h]; simp⟩) ⟨by rw [List.flatMap_append,List.flatMap_singleton,List.length_append]; exact hown,fun _ _ _ _=>trivial⟩ (fun y hy=>by
  rcases List.mem_append.1 hy with h | h
  ·exact FV.o.ok y h
  ·rw [List.mem_singleton.1 h]; exact hsz) (by simp; omega))
 have HX:aj (Hx w H (some g)):=ah (by
  rcases hmv with h | h
  ·exact .inl h.symm
  ·exact .inr ⟨g,rfl,by rw [h]; simp⟩)
 clear hW3 hown hgr hmv hlt2 Zy f7' e7 jv HOW f7 c7;have HI3:aj (dM W3 T (some g) (hs++[s])):=ah HH.o.1;have vK:aj (Mm T H w W3):=ah ((Mm.of_below (ak _ _)).trans (Hx.refl _ _) HH.o.2);have c0:=HI3.o.ptr;clear HH FV;go_wp2_with fail;refine (lq T _ _ 2 _ (by unfold bS; decide) HI3.o).mono ?_;rintro e w3 ⟨r,rfl,hr1,-,TI,Oa⟩;have hr2:r < 2:=by have:=hr1 (by decide); omega
 have HI4:=ah Oa;have qZ:=ah (vK.o.trans HX.o TI.mm);have hwr:IntKind.i64.wrap (1 + (r:Int))=1 + (r:Int):=IntWalk.i64_in _ (by omega);clear TI Oa hr1 c0 HI3 vK;go_wp2_with fail;refine (HSL.o w3 _ _ (1 + (r:Int)) HI4.o (by simp; omega) (by omega) (by omega)).mono ?_;rintro e w4 ⟨v,l,H2,rfl,hg,hok,hl1,hl2,hx,hM,hI⟩;have HG:=ah (hg.weak qZ.o.size);have nK:=ah (And.intro hok (And.intro hl1 hl2));have sN:=ah (HX.o.trans hx qZ.o.size);have fH:=ah (qZ.o.trans HX.o hM);have iw:=ah hI;clear hg hok hl1 hl2 hx hM hI HI4 qZ HX;obtain ⟨xB,left',xw,wE,wF,xA,xV,iy,c0',c1',c2',c3',sZ,mF,mG,lM,cf',hv',hrow'⟩:=iw.o.reads;obtain ⟨g2,cap2,rfl,-,-⟩:=hrow'.own.form (by simp);obtain rfl:H2=some g2:=by rw [<- hv']; rfl
 have YT:=ah (kQ.pop hrow' rfl);have f7:=cf' 7;rw [List.length_append,List.length_singleton] at lM;have OZ:aj (∃cs t,w4.heap[T.bm]? =some (.cells cs t (0,0))∧cs[7]? =some (.slice (some ⟨g2,0,none⟩) (hs.length + 1) cap2)):=ah (by obtain ⟨_,_,_,_,_,_,_,_,hb,_⟩:=iw.o.BA;refine ⟨_,_,hb,?_⟩;have:=(bg hb (j:=7) rfl).2;rw [lM] at this;rw [this]; rfl);have HDR:aj (Below w4.heap.size w4 (w4.drewN 1)):=ah (below_drewN (Below.refl _ _) 1);clear c0' c1' c2' c3' sZ mF mG lM cf' hrow' iy f7 hv';have K7: ∀w',TF T w4 w'->w'.cell? ⟨T.bm,7,none⟩=some (.slice (some ⟨g2,0,none⟩) (hs.length + 1) cap2):=fun w' h=>by obtain ⟨cs,t,h1,h2⟩:=OZ.o;exact (bg (h.keep h1 T.tm.symm) h2).2
 have hd1:TF T w4 (w4.drewN 1)∧dM (w4.drewN 1) T (some g2) (hs++[s]):=⟨TF.of_below HDR.o,iw.o.below HDR.o⟩;have hcap:hs.length<=cap2:=by
  rcases YT.o.own.2 with ⟨h1,-⟩ | ⟨g',cap',cur,h1,h2,h3,h4,-⟩
  ·cases h1
  ·injection h1 with e1 e2 e3; rw [e3]; exact h4
 have hwd:IntKind.i64.wrap (hs.length:Int)=(hs.length:Int):=IntWalk.i64_in _ (by omega);go_upto_region 3 with fail;refine bG (by kernel_rfl) rfl ?_;refine aY 0 14 [] [[],[],[1],[1,2],[1,2,3],[],[5],[5,6],[5,6,7],[5,6,7,8],[5,6,7,8,9],[1,2,3,4,5,6,7,8,9,10],[0,1,2,3,4,5,6,7,8,9,10,11],[0,1,2,3,4,5,6,7,8,9,10,11,12],[0,1,2,3,4,5,6,7,8,9,10,11,12,13]] [[],[],[],[],[],[],[],[],[],[],[],[],[],[]] (fun _ w'=>TF T w4 w'∧dM w' T (some g2) (hs++[s])) (fun w w'=>TF T w w') [27,28,29,30,31,32,33,34,35,36,37,38,39,40] rfl rfl (by rfl) (by kernel_rfl) (by kernel_rfl) (by kernel_rfl) (by kernel_rfl) (by kernel_rfl) (by rfl) (fun _=>TF.refl _ _) (by rfl) hd1 ?_;simp only [eP,jC]
 iterate 14
  apply aU.step
  case aM=>intro c A w' hok hC hO hD;have e0:=hO 0 (by rfl);simp [Act.eval] at e0;simp [Act.eval] at hD;simp [go_sem,gd,Oper.wp,hD,e0,K7,hC.1,hwd,hcap];exact aG.mk (TF.refl _ _) hC (bH.mk _ _)
  try simp only [bP]
 try simp only [bP]
 refine aU.done ?_;intro wz bC
 try simp only [eP]
 intro v0 h0 v1 h1 v2 h2 v3 h3 v4 h4 v5 h5 v6 h6 v7 h7 v8 h8 v9 h9 v10 h10;refine jq ?_;intro v12 h12;refine jq ?_;clear h0 h1 h2 h3 h4 h5 h6 h7 h8 h9 h10 h12;refine MJ ?_;go_simp;have y7:=K7 wz bC.1;obtain ⟨_,_,_,_,_,_,vz,_,_,_,_,_,_,_,_,cz,fz,_,hrz⟩:=bC.2.reads;obtain rfl:vz= .slice (some ⟨g2,0,none⟩) (hs.length + 1) cap2:=by rw [cz] at y7; injection y7
 have HRZ:=ah (kQ.pop hrz rfl);have f7:=fz 7;have KA:=ah bC;clear hrz fz cz bC K7 hd1;refine bZ 14 [[],[],[1],[1,2],[1,2,3],[],[5],[5,6],[5,6,7],[5,6,7,8],[5,6,7,8,9],[1,2,3,4,5,6,7,8,9,10],[0,1,2,3,4,5,6,7,8,9,10,11],[0,1,2,3,4,5,6,7,8,9,10,11,12],[0,1,2,3,4,5,6,7,8,9,10,11,12,13]] rfl rfl rfl rfl rfl (by kernel_rfl) (by kernel_rfl) (by kernel_rfl) ?_;simp [go_sem,Oper.wp,y7,f7];refine bV rfl ?_;go_simp;generalize tC:World.setCell wz _ _=W6;have HH:aj (dM W6 T (some g2) hs∧Mm T (some g2) wz W6):=ah (KA.o.2.held (vH:= .slice (some ⟨g2,0,none⟩) hs.length cap2) tC.symm (Xe _ _) rfl (Hx.refl _ _) HRZ.o (fun y hy=>iw.o.ok y (List.mem_append.2 (.inl hy))) (by omega));have HA:aj (nP w.heap.size (Bv (some g2)) w4 W6):=ah ((KA.o.1.mm (H:=some g2)).Gi aK.o.t aK.o.m |>.trans (HH.o.2.Gi aK.o.t aK.o.m) (fun _ _ _ e=>e));clear tC;go_wp2_with fail;go_ret;exact ⟨v,l,some g2,rfl,HG.o.next HA.o (Hx.refl _ _),nK.o.1,nK.o.2.1,nK.o.2.2,sN.o,(fH.o.trans sN.o (KA.o.1.mm (H:=some g2))).trans sN.o HH.o.2,HH.o.1⟩
def xX (zs:List Int) (a:Nat) (n:Int):Int:=if zs.length<=a then 0 else if n < 1 then 0 else (zs[a]?.getD 0) % n
theorem Yl {zs:List Int} {a:Nat} {n:Int} (h:zs.length<=a):xX zs a n=0:=by unfold xX; rw [if_pos h]
theorem Ym {zs:List Int} {a:Nat} {n:Int} (h:n < 1):xX zs a n=0:=by unfold xX; split <;> simp [h]
theorem ab2 {zs:List Int} {a:Nat} {n:Int} (h:a < zs.length) (hn: ¬ n < 1):xX zs a n=zs[a] % n:=by unfold xX; rw [if_neg (by omega),if_neg hn]; simp [h]
def ae1 (T:Tp) (n v:Int) (w:World) (e:Ending) (w':World):Prop:=e= .returned (.int .i64 v)∧0<=v∧(0 < n->v < n)∧v<=255∧w.grownBy w' (some T.bt)∧pQ w' T
theorem Kj {T:Tp} {n r v:Int} {w w':World} (hv:v=r) (h0:0<=r) (h1:0 < n->r < n) (h2:r<=255) (h3:w.grownBy w' (some T.bt)) (h4:pQ w' T):ae1 T n v w (.returned (.int .i64 r)) w':=by subst hv; exact ⟨rfl,h0,h1,h2,h3,h4⟩
theorem ai8 (T:Tp) (n:Int) (w:World) (hn:bS n) (hI:pQ w T) (a:Nat) (hblk:w.heap[T.bt]? =some (.cells #[.slice T.ao T.zs.length T.cap,.int .i64 a] 56 (0,0))):
 Calls Tryz.prog 13 #[.pointer (some ⟨T.bt,0,none⟩),.int .i64 n] w (ae1 T n (xX T.zs a n) w):=by
 have HI:=ah hI;have HB:=ah hblk;have hlen:=hI.len;obtain ⟨hn1,hn2⟩:=hn;have c0:w.cell? ⟨T.bt,0,none⟩=some (.slice T.ao T.zs.length T.cap):=(bg hblk (j:=0) rfl).2;have c1:w.cell? ⟨T.bt,1,none⟩=some (.int .i64 (a:Int)):=(bg hblk (j:=1) rfl).2;clear hI hblk;by_cases h1:T.zs.length<=a
 ·have hd:decide ((T.zs.length:Int)<=(a:Int))=true:=by rw [decide_eq_true_iff]; omega
  go_enter Tryz.func13,Tryz.ntmps13;go_wp2_with fail;go_quiet (fail);go_wp2_with fail;go_ret;exact Kj (Yl h1) (by omega) (by omega) (by omega) (qH _ _) (HI.o.draws _)
 ·have hd:decide ((T.zs.length:Int)<=(a:Int))=false:=by rw [decide_eq_false_iff_not]; omega
  by_cases h2:n < 1
  ·have hd2:decide (n < 1)=true:=by rw [decide_eq_true_iff]; omega
   go_enter Tryz.func13,Tryz.ntmps13;go_wp2_with fail;go_quiet (fail);go_wp2_with fail;go_ret;exact Kj (Ym h2) (by omega) (by omega) (by omega) (qH _ _) (HI.o.draws _)
  ·have hd2:decide (n < 1)=false:=by rw [decide_eq_false_iff_not]; omega
   go_enter Tryz.func13,Tryz.ntmps13;go_wp2_with fail;go_quiet (fail);generalize hW:World.drewN w _=W1;have HI1:aj (pQ W1 T):=ah (by rw [<- hW]; exact HI.o.draws _);have yV:aj (w.grownBy W1 (some T.bt)):=ah (by rw [<- hW]; exact qH _ _);have HB1:aj (W1.heap[T.bt]? =some (.cells #[.slice T.ao T.zs.length T.cap,.int .i64 (a:Int)] 56 (0,0))):=ah (by rw [<- hW]; exact ((below_drewN (Below.refl w.heap.size w) _).block _ HI.o.lt).trans HB.o);clear hW c0 c1 HI HB hd hd2;have c1:W1.cell? ⟨T.bt,1,none⟩=some (.int .i64 (a:Int)):=(bg HB1.o (j:=1) rfl).2;have f1:W1.frozen? ⟨T.bt,1,none⟩=false:=dH HB1.o;go_upto_region 4 with fail;generalize hW2:World.setCell W1 _ _=W2;have HB2:aj (W2.heap[T.bt]? =some (.cells #[.slice T.ao T.zs.length T.cap,.int .i64 ((a:Int) + 1)] 56 (0,0))):=ah (by rw [<- hW2,fT HB1.o]; rfl);have HG2:aj (W1.grownBy W2 (some T.bt)):=ah (by rw [<- hW2]; exact bL _ _ _);have Nt:aj (FK W2 T.B0 T.zs T.ao):=ah (HI1.o.NW.below (bQ HG2.o T.t0 HI1.o.b0));have HI2:aj (pQ W2 T):=ah ⟨⟨a + 1,by omega,by rw [HB2.o]; rfl⟩,Nt.o,HI1.o.len⟩;have HG:=ah (Lc yV.o HG2.o);clear hW2 c1 f1 yV HG2 HB1;have ha:a < T.zs.length:=by omega
   obtain ⟨bb,off,hao,hbb,hcell,hz0,hz1⟩:=Nt.o a ha;have c0:W2.cell? ⟨T.bt,0,none⟩=some (.slice T.ao T.zs.length T.cap):=(bg HB2.o (j:=0) rfl).2;have c1:W2.cell? ⟨T.bt,1,none⟩=some (.int .i64 ((a:Int) + 1)):=(bg HB2.o (j:=1) rfl).2;rw [hao] at c0;have hzv:=ah (ab2 (zs:=T.zs) (a:=a) (n:=n) ha (by omega));generalize T.zs[a]=z at *;have hw1:(a:Int) + 1 - 1=(a:Int):=by omega
   have hw2:IntKind.i64.wrap (a:Int)=(a:Int):=IntWalk.i64_in _ (by omega);have hb0:(0:Int)<=(a:Int):=by omega
   have hb1:(a:Int) < (T.zs.length:Int):=by omega
   have zH:=ah hao;clear hao HI1;go_quiet (fail);go_wp2_with fail;go_ret;have e1:=Int.emod_nonneg z (show n≠0 by omega);have e2:=Int.emod_lt_of_pos z (show 0 < n by omega);have e3:z % n<=255:=by
    by_cases hzn:z < n
    ·rw [Int.emod_eq_of_lt hz0 hzn]; exact hz1
    ·omega
   exact Kj hzv.o e1 (fun _=>e2) e3 (Lc HG.o (qH _ _)) (HI2.o.draws _)
theorem dM.tf {w w':World} {T:Tp} {H:Option Nat} {hs:List ByteArray} (hI:dM w T H hs) (h5:w.grownBy w' (some T.bt)) (h6:pQ w' T):dM w' T H hs:=by
 refine ⟨h6,?_,hI.nt,hI.nm,hI.ok,hI.few⟩;obtain ⟨th,left,a,b,c,d,vH,k3,k4,k5,k6⟩:=hI.BA;refine ⟨th,left,a,b,c,d,vH,k3,(h5.block _ hI.lt (by simp; exact T.tm.symm)).trans k4,k5,⟨k6.own.1,?_⟩,fun _ _ _ _=>trivial⟩;rcases k6.own.2 with h1 | ⟨g,cap,cur,h1,h2,h3,h4⟩
 ·exact .inl h1
 ·exact .inr ⟨g,cap,cur,h1,h2,(h5.block g (Array.getElem?_eq_some_iff.1 h3).1 (by intro e; injection e with e; exact hI.nt (by rw [<- k5,h1,<- e]; rfl))).trans h3,h4⟩
theorem Vy (T:Tp) (H:Option Nat) (hs:List ByteArray) (n:Int) (w:World) (hn:bS n) (hp:0 < n) (hI:dM w T H hs): ∃r:Nat,(r:Int) < n∧ ∀W,dM W T H hs->W.heap[T.bt]? =w.heap[T.bt]?->
 Calls Tryz.prog 13 #[.pointer (some ⟨T.bt,0,none⟩),.int .i64 n] W (fun e w'=>e= .returned (.int .i64 r)∧TF T W w'∧dM w' T H hs):=by
 obtain ⟨a,-,hb⟩:=hI.tape.blk;have h0:0<=xX T.zs a n:=by
  unfold xX;split
  ·omega
  ·split
   ·omega
   ·exact Int.emod_nonneg _ (by omega)
 have h1:xX T.zs a n < n:=by
  unfold xX;split
  ·omega
  ·split
   ·omega
   ·exact Int.emod_lt_of_pos _ hp
 refine ⟨(xX T.zs a n).toNat,by omega,fun W hW e=> ?_⟩;refine (ai8 T n W hn hW.tape a (e.trans hb)).mono ?_;rintro e w' ⟨rfl,-,-,-,h5,h6⟩;exact ⟨by rw [Int.toNat_of_nonneg h0],h5,hW.tf h5 h6⟩
def dz (op:Int) (nm:ByteArray) (idx:aZ) (bY xn:Int) (bW:ByteArray) (xk:aZ):dL:=⟨op,0,nm,⟨#[]⟩,idx,bY,xn,bW,xk⟩
def h0 (op:Int) (nm:ByteArray):dL:=dz op nm .nil 0 0 ⟨#[]⟩ .nil
def jf (ax:Option Addr) (cx:Nat):Sl:=⟨none,0,ax,cx,none,0,none,0⟩
def sP (ab:Option Addr) (cb:Nat):Sl:=⟨none,0,none,0,ab,cb,none,0⟩
def oO:Sl:=⟨none,0,none,0,none,0,none,0⟩
theorem uz (x:Int):bS (wrap64 x):=by unfold bS wrap64; omega
theorem sw {op bY xn:Int} {nm bW:ByteArray} {xk:aZ} (h1:bS op) (h2:nm.size<=maxLen) (h3:OU bY xn bW xk):zf (dz op nm .nil bY xn bW xk) .nil .nil:=
 ⟨⟨h1,wH,h2,rX,nil_le,h3.1,Nat.zero_le _,Nat.zero_le _⟩,by have:=h3.2; show 3 + xu xk + 0<=100; omega,sb0,sb0⟩
theorem uy:xu .nil<=50:=Nat.zero_le _
theorem aK0 {op n:Int} {nm:ByteArray} {kids:aZ} (h:OU op n nm kids):xu (.cons op n nm kids .nil)<=50:=by have:=h.2; simp only [xu]; omega
theorem wL:OU 0 0 ⟨#[]⟩ .nil:=⟨⟨wH,wH,rX,nil_le⟩,Nat.zero_le _⟩
theorem iL {B:Nat} {X:Nat->Prop} {W:World} {h:dL} {b e:aH} {s:Sl} (h1:gu B X W (fun w2=>h.idx.At w2 w2.heap.size s.dU 0)) (h2:gu B X W (fun w2=>h.aI.At w2 w2.heap.size s.dX 0)) (h3:gu B X W (fun w2=>b.At w2 w2.heap.size s.cu 0)) (h4:gu B X W (fun w2=>e.At w2 w2.heap.size s.gH 0)):gu B X W (aP.I ⟨h,b,e,s⟩):=fun w2 q=>⟨h1 w2 q,h2 w2 q,h3 w2 q,h4 w2 q⟩
theorem gM {B:Nat} {X:Nat->Prop} {W:World} {ao:Option Addr} :gu B X W (fun w2=>aZ.nil.At w2 w2.heap.size ao 0):=fun _ _=>trivial
theorem dQ {B:Nat} {X:Nat->Prop} {W:World} {ao:Option Addr} :gu B X W (fun w2=>aH.nil.At w2 w2.heap.size ao 0):=fun _ _=>trivial
theorem fQ {w:World} {b:Nat} {t:TypeId} (h:w.heap[b]? =some (.cells lX t (0,0))):(w.cell? ⟨b,0,none⟩=some (.int .i64 0)∧w.cell? ⟨b,1,none⟩=some (.int .i64 0)∧w.cell? ⟨b,2,none⟩=some (.string ⟨#[]⟩)∧w.cell? ⟨b,3,none⟩=some (.string ⟨#[]⟩)∧w.cell? ⟨b,4,none⟩=some (.slice none 0 0)∧w.cell? ⟨b,5,none⟩=some (.int .i64 0)∧w.cell? ⟨b,6,none⟩=some (.int .i64 0)∧w.cell? ⟨b,7,none⟩=some (.string ⟨#[]⟩)∧w.cell? ⟨b,8,none⟩=some (.slice none 0 0)∧w.cell? ⟨b,9,none⟩=some (.slice none 0 0)∧w.cell? ⟨b,10,none⟩=some (.slice none 0 0))∧(∀j,w.frozen? ⟨b,j,none⟩=false):=
 ⟨⟨(bg h (j:=0) rfl).2,(bg h (j:=1) rfl).2,(bg h (j:=2) rfl).2,(bg h (j:=3) rfl).2,(bg h (j:=4) rfl).2,(bg h (j:=5) rfl).2,(bg h (j:=6) rfl).2,(bg h (j:=7) rfl).2,(bg h (j:=8) rfl).2,(bg h (j:=9) rfl).2,(bg h (j:=10) rfl).2⟩,fun j=>dH h⟩
theorem aF2 {T:Tp} {H H':Option Nat} {hs:List ByteArray} {w Wb W4:World} {h:dL} {b e:aH} {s:Sl} {cs:Array Value} {t:TypeId} (hM0:Mm T H w Wb) (hO:Old T H w.heap.size) (hsb:w.heap.size < Wb.heap.size) (hM:Mm T H Wb W4) (hx:Hx Wb H H') (hI:dM W4 T H' hs) (hok:zf h b e) (hst:gu Wb.heap.size (Bv H') W4 (aP.I ⟨h,b,e,s⟩)) (CQ:W4.heap[w.heap.size]? =some (.cells cs t (0,0))) (hcs:cs.size=11):
 MsP T H hs w (.returned (dS h b e s)) (W4.setCells w.heap.size 0 (aP.f ⟨h,b,e,s⟩))∧(W4.setCells w.heap.size 0 (aP.f ⟨h,b,e,s⟩)).heap[w.heap.size]? =some (.cells (aP.f ⟨h,b,e,s⟩).toArray t (0,0)):=by
 have hg:=ig w.heap.size (aP.f ⟨h,b,e,s⟩) 0 W4;have hne:H'≠some w.heap.size:=by
  rcases hx with rfl | ⟨k,rfl,hk⟩
  ·intro e; have:=hO.h _ e; omega
  ·intro e; injection e with e; omega
 have hszW:w.heap.size < W4.heap.size:=Nat.lt_of_lt_of_le hsb hM.size;refine ⟨⟨h,b,e,s,H',rfl,hok,(hst.go (.Kk hg (fun k h1 e=>by injection e with e; omega)) (fun _ _ _ e=>e)).weak (Nat.le_of_lt hsb) (fun _ _ _ e=>e),?_,?_,hI.grown hg (fun k e=>by injection e with e; subst e;exact ⟨hO.z,fun e=>by have:=hO.t; omega,fun e=>by have:=hO.m; omega,hne⟩)⟩,mM CQ (by rw [hcs]; rfl)⟩
 ·rcases hx with rfl | ⟨k,rfl,hk⟩
  ·exact .inl rfl
  ·exact .inr ⟨k,rfl,by omega⟩
 ·exact (hM0.trans (Hx.refl _ _) hM).then_ (CF hg (fun k e=>by injection e with e; omega) (Nat.le_of_lt hszW)) hg.size
def eu (x:aP):Value:=dS x.h x.b x.e x.s
def iI (xo xn:Int) (xm:ByteArray) (xk:aZ) (xa:Option Addr) (xc:Nat):aP:=⟨dz 1 ⟨#[120]⟩ .nil xo xn xm xk,.nil,.nil,jf xa xc⟩
theorem iR {T:Tp} {H H':Option Nat} {hs:List ByteArray} {w Wb W4:World} (x:aP) {cs:Array Value} {t:TypeId} (hM0:Mm T H w Wb) (hO:Old T H w.heap.size) (hsb:w.heap.size < Wb.heap.size) (hM:Mm T H Wb W4) (hx:Hx Wb H H') (hI:dM W4 T H' hs) (hok:zf x.h x.b x.e) (hst:gu Wb.heap.size (Bv H') W4 (aP.I x)) (CQ:W4.heap[w.heap.size]? =some (.cells cs t (0,0))) (hcs:cs.size=11):
 MsP T H hs w (.returned (eu x)) (W4.setCells w.heap.size 0 (aP.f x))∧(W4.setCells w.heap.size 0 (aP.f x)).heap[w.heap.size]? =some (.cells (aP.f x).toArray t (0,0)):=
 aF2 hM0 hO hsb hM hx hI hok hst CQ hcs
theorem dY {W:World} {b:Nat} {x:aP} {t:TypeId} {Q:Prop} (hf:Q∧W.heap[b]? =some (.cells (aP.f x).toArray t (0,0))):(W.cell? ⟨b,0,none⟩=some (.int .i64 x.h.op)∧W.cell? ⟨b,1,none⟩=some (.int .i64 x.h.line)∧W.cell? ⟨b,2,none⟩=some (.string x.h.nm)∧W.cell? ⟨b,3,none⟩=some (.string x.h.arg)∧W.cell? ⟨b,4,none⟩=some (.slice x.s.dU x.h.idx.len x.s.dG)∧W.cell? ⟨b,5,none⟩=some (.int .i64 x.h.bY)∧W.cell? ⟨b,6,none⟩=some (.int .i64 x.h.xn)∧W.cell? ⟨b,7,none⟩=some (.string x.h.bW)∧W.cell? ⟨b,8,none⟩=some (.slice x.s.dX x.h.aI.len x.s.dA)∧W.cell? ⟨b,9,none⟩=some (.slice x.s.cu x.b.len x.s.bJ)∧W.cell? ⟨b,10,none⟩=some (.slice x.s.gH x.e.len x.s.eB))∧aj Q:=
 ⟨⟨(bg hf.2 (j:=0) rfl).2,(bg hf.2 (j:=1) rfl).2,(bg hf.2 (j:=2) rfl).2,(bg hf.2 (j:=3) rfl).2,(bg hf.2 (j:=4) rfl).2,(bg hf.2 (j:=5) rfl).2,(bg hf.2 (j:=6) rfl).2,(bg hf.2 (j:=7) rfl).2,(bg hf.2 (j:=8) rfl).2,(bg hf.2 (j:=9) rfl).2,(bg hf.2 (j:=10) rfl).2⟩,ah hf.1⟩
def ZX:Array Value:= #[.string ⟨#[120]⟩,.string ⟨#[121]⟩,.string ⟨#[120]⟩,.string ⟨#[118]⟩]
theorem ak7:Szs 4 ZX:=fun j hj=>by
 have:j=0∨j=1∨j=2∨j=3:=by omega
 rcases this with rfl | rfl | rfl | rfl <;> exact ⟨_,rfl,by unfold maxLen; decide⟩
def ZW:Array Value:= #[.string ⟨#[97]⟩,.string ⟨#[98]⟩]
theorem ak6:Szs 2 ZW:=fun j hj=>by
 have:j=0∨j=1:=by omega
 rcases this with rfl | rfl <;> exact ⟨_,rfl,by unfold maxLen; decide⟩
theorem xU {l:List aP} (h:l.length<=9) (hk: ∀x ∈ l,zf x.h x.b x.e):SB (dD l):=⟨by rw [sD]; omega,OL hk⟩
theorem eZ (s:ByteArray) (op n:Int) (nm:ByteArray) (kids:aZ) (ao:Option Addr) (cap:Nat) (w:World):
 Calls Tryz.prog 16 #[.string s,exV op n nm kids ao cap] w fun e w'=>e= .returned (dS (dz 1 s .nil op n nm kids) .nil .nil (jf ao cap))∧Below w.heap.size w w':=by
 unfold exV;go_enter Tryz.func16,Tryz.ntmps16;go_wp2_with fail;refine bodyPost_ret (v:=dS (dz 1 s .nil op n nm kids) .nil .nil (jf ao cap)) (by simp [results,Tryz.results16,go_sem,dS,dz,jf,aZ.len,aH.len]) rfl ⟨rfl,?_⟩;exact ((ak _ _).alloc (by simp) _)
theorem xI {op bY xn:Int} {nm bW:ByteArray} {xk idx:aZ} {b e:aH} (h1:bS op) (h2:nm.size<=maxLen) (h3:OU bY xn bW xk) (h4:xu idx<=50) (h5:SB b) (h6:SB e):zf (dz op nm idx bY xn bW xk) b e:=
 ⟨⟨h1,wH,h2,rX,by have:=TW idx; unfold maxLen; show idx.len<=_; omega,h3.1,h5.max,h6.max⟩,by have:=h3.2; show 3 + xu xk + xu idx<=100; omega,h5,h6⟩
theorem Hx.ne {w:World} {H H1:Option Nat} {k:Nat} (h:Hx w H H1) (hk:k < w.heap.size) (hn:H≠some k):H1≠some k:=fun e=>hn (h.old hk e)
def AsP (B:Nat) (v:Value) (W:World):Prop:= ∃s xo xn xm xk xa xc,v=dS (dz 1 s .nil xo xn xm xk) .nil .nil (jf xa xc)∧s.size<=maxLen∧OU xo xn xm xk∧mE B W (fun w2=>xk.At w2 w2.heap.size xa 0)
structure Sg (T:Tp) (H:Option Nat) (hs:List ByteArray) (b0:Nat) (wb:World) (Hc:Option Nat) (W:World):Prop where
 m:Mm T H wb W
 x:Hx wb H Hc
 i:dM W T Hc hs
 z:W.heap[b0]? =some (.cells lX 68 (0,0))
 o:Old T H b0
 l:b0 < wb.heap.size
section
variable {T:Tp} {H Hc Hd H1:Option Nat} {hs:List ByteArray} {b0:Nat} {wb W W' W1:World} {Q:World->Prop}
theorem Sg.ne (h:Sg T H hs b0 wb Hc W):Hc≠some b0:=h.x.ne h.l (fun e=>absurd (h.o.h _ e) (Nat.lt_irrefl _))
theorem Sg.below (h:Sg T H hs b0 wb Hc W) (hb:Below W.heap.size W W'):Sg T H hs b0 wb Hc W':=
 ⟨h.m.then_ (hb.mono h.m.size) hb.size,h.x,h.i.below hb,(hb.block _ (Array.getElem?_eq_some_iff.1 h.z).1).trans h.z,h.o,h.l⟩
theorem Sg.mm (h:Sg T H hs b0 wb Hc W) (hm:Mm T Hc W W') (hx:Hx W Hc Hd) (hi:dM W' T Hd hs):Sg T H hs b0 wb Hd W':=
 ⟨h.m.trans h.x hm,h.x.trans hx h.m.size,hi,hm.keep h.z (by have:=h.o.t; omega) (by have:=h.o.m; omega) h.ne,h.o,h.l⟩
theorem Sg.tf (h:Sg T H hs b0 wb Hc W) (hm:TF T W W') (hi:dM W' T Hc hs):Sg T H hs b0 wb Hc W':=h.mm hm.mm (Hx.refl _ _) hi
theorem Sg.flag (h:Sg T H hs b0 wb Hc W) (j:Nat) (hj:j=3∨j=4∨j=5∨j=6) (q:Bool):Sg T H hs b0 wb Hc (W.setCell ⟨T.bm,j,none⟩ (.bool q)):=
 h.mm ((Mm.refl T Hc W).sM (Hx.refl _ _) _ _) (Hx.refl _ _) (h.i.flag j hj q)
theorem Sg.set (h:Sg T H hs b0 wb Hc W) (a:Addr) (v:Value) (hb:wb.heap.size<=a.block) (hn:Hc≠some a.block):Sg T H hs b0 wb Hc (W.setCell a v):=
 ⟨h.m.set a v hb,h.x,h.i.set a v (by have:=h.o.z; have:=h.l; omega) (by have:=h.o.t; have:=h.l; omega) (by have:=h.o.m; have:=h.l; omega) hn,(aV W a v rfl (by have:=h.l; omega)).trans h.z,h.o,h.l⟩
theorem Sg.stay (h:Sg T H hs b0 wb H1 W1) (hS:mE wb.heap.size W1 Q) (hH: ∀k,H1=some k->wb.heap.size<=k->False) (hm:Mm T H1 W1 W) (hx:Hx W1 H1 Hc):gu wb.heap.size (Bv Hc) W Q:=
 (gu.iB (X:=Bv H1) hS (Nat.le_refl _) (fun k h1 _ e=>hH k e h1)).go (hm.Gi (by have:=h.o.t; have:=h.l; omega) (by have:=h.o.m; have:=h.l; omega)) (fun k _ h2 e=>hx.old h2 e)
theorem Sg.Mc {B1:Nat} (h:Sg T H hs b0 wb H1 W1) (hS:gu B1 (Bv H1) W1 Q) (hB:wb.heap.size<=B1) (hm:Mm T H1 W1 W) (hx:Hx W1 H1 Hc):gu wb.heap.size (Bv Hc) W Q:=
 (hS.weak hB (fun _ _ _ e=>e)).go (hm.Gi (by have:=h.o.t; have:=h.l; omega) (by have:=h.o.m; have:=h.l; omega)) (fun k _ h2 e=>hx.old h2 e)
theorem Sg.grown {g:Option Nat} (h:Sg T H hs b0 wb Hc W) (hg:W.grownBy W' g) (h0: ∀k,g=some k->wb.heap.size<=k∧Hc≠some k):Sg T H hs b0 wb Hc W':=
 ⟨h.m.then_ (CF hg (fun k e=>(h0 k e).1) h.m.size) hg.size,h.x,h.i.grown hg (fun k e=>by have h1:=(h0 k e).1; have h2:=h.o.t; have h3:=h.o.m; have h4:=h.o.z; have h5:=h.l;exact ⟨by omega,by omega,by omega,(h0 k e).2⟩),(hg.block _ (Array.getElem?_eq_some_iff.1 h.z).1 (fun e=>by have:=(h0 _ e.symm).1; have:=h.l; omega)).trans h.z,h.o,h.l⟩
theorem Sg.old (h:Sg T H hs b0 wb H W): ∀k,H=some k->wb.heap.size<=k->False:=fun k e h1=>by have:=h.o.h _ e; have:=h.l; omega
end
theorem Rx {B g:Nat} {W:World} {t:TypeId} {fr:Nat × Nat} {l:List aP} (h:W.heap[g]? =some (.cells (l.flatMap aP.f).toArray t fr)) (hB:B<=g) (hI: ∀x ∈ l,zf x.h x.b x.e∧mE B W x.I):mE B W (fun w2=>(dD l).At w2 w2.heap.size (some ⟨g,0,none⟩) 0):=fun w2 h2=>by
 have hg:=(h2.2 g hB (Array.getElem?_eq_some_iff.1 h).1).trans h;refine Hz l 0 (fun x hx=>⟨(hI x hx).1.1,(hI x hx).2 w2 h2⟩) (fun i x hx=>⟨g,rfl,(Array.getElem?_eq_some_iff.1 hg).1,fun j u hu=> ?_⟩);have:=flat_get Ap l i x j u hx hu;rw [Nat.zero_add];exact au hg (by simpa using this)
theorem OB (W:World) (a:Addr) (v:Value) (o:Obj) (h:a.block < W.heap.size):(W.setCell a v).alloc o=(W.alloc o).setCell a v:=by
 unfold World.setCell World.alloc;simp only [World.mk.injEq,and_true,true_and];refine Array.ext_getElem? (fun k=> ?_);simp only [Array.getElem?_push,Array.getElem?_modify,Array.size_modify];split <;> split <;> first | rfl | omega | (simp; done) | skip
 all_goals simp_all
theorem Al (b:Nat) (o:Obj): ∀(vs:List Value) (k:Nat) (W:World),b < W.heap.size->(W.setCells b k vs).alloc o=(W.alloc o).setCells b k vs
 | [],_,_,_=>rfl
 | v ::vs,k,W,h=>by show ((W.setCell ⟨b,k,none⟩ v).setCells b (k + 1) vs).alloc o=((W.alloc o).setCell ⟨b,k,none⟩ v).setCells b (k + 1) vs;rw [Al b o vs (k + 1) _ (by simpa [World.setCell] using h),OB _ _ _ _ h]
theorem aG6:sG 2 0 ⟨#[98]⟩ .nil:=⟨by unfold bS; decide,wH,by unfold maxLen; decide,nil_le⟩
theorem bg8:sG 1 2 ⟨#[]⟩ .nil:=⟨by unfold bS; decide,by unfold bS; decide,rX,nil_le⟩
theorem bg7:sG 1 1 ⟨#[]⟩ .nil:=⟨by unfold bS; decide,by unfold bS; decide,rX,nil_le⟩
theorem okC (op a b:Int) (h:bS op):OU op 0 ⟨#[]⟩ (.cons 2 a ⟨#[98]⟩ .nil (.cons 1 b ⟨#[]⟩ .nil .nil)):=⟨⟨h,wH,rX,by simp [aZ.len,maxLen]⟩,by simp [xu]⟩
def ad8 (l:List aP):Prop:= ∀x ∈ l,zf x.h x.b x.e∧ ∀B W,mE B W x.I
structure Ms (T:Tp) (d:Nat):Prop where
 yu:d<=100
 st:0 < d->(∀w H hs (n:Int),dM w T H hs->hs.length + d<=901->1<=n->n<=9->Calls Tryz.prog 14 #[.pointer (some ⟨T.bm,0,none⟩),.int .i64 ((d:Int) - 1),.int .i64 n] w (Ta T H hs w))
 bl:0 < d->(∀w H hs (s:ByteArray),dM w T H hs->hs.length + d<=900->s.size<=maxLen->Calls Tryz.prog 57 #[.pointer (some ⟨T.bm,0,none⟩),.string s,.int .i64 ((d:Int) - 1)] w (Ta T H hs w))
 s0:0 < d->(∀w H hs (n:Int),dM w T H hs->hs.length<=900->1<=n->n<=9->Calls Tryz.prog 14 #[.pointer (some ⟨T.bm,0,none⟩),.int .i64 0,.int .i64 n] w (Ta T H hs w))
theorem Ms.mk' {T:Tp} {d:Nat} (hd:d<=100) (ih: ∀d':Nat,d' < d->Ee T d'∧PK T d'):Ms T d:=by
 refine ⟨hd,fun h=> ?_,fun h=> ?_,fun h w H hs n h1 h2=>(ih 0 h).1 w H hs n h1 (by omega)⟩
 ·obtain ⟨d',rfl⟩: ∃d',d=d' + 1:=⟨d - 1,by omega⟩;have e:((d' + 1:Nat):Int) - 1=(d':Int):=by omega
  rw [e];exact fun w H hs n h1 h2=>(ih d' (by omega)).1 w H hs n h1 (by omega)
 ·obtain ⟨d',rfl⟩: ∃d',d=d' + 1:=⟨d - 1,by omega⟩;have e:((d' + 1:Nat):Int) - 1=(d':Int):=by omega
  rw [e];exact fun w H hs s h1 h2=>(ih d' (by omega)).2 w H hs s h1 (by omega)
def Nx (T:Tp) (w:World) (H:Option Nat) (hs:List ByteArray) (k:Nat):Prop:= ∀W,dM W T H hs->W.heap[T.bt]? =w.heap[T.bt]?->
    Calls Tryz.prog 13 #[.pointer (some ⟨T.bt,0,none⟩),.int .i64 18] W (fun e w'=>e= .returned (.int .i64 k)∧TF T W w'∧dM w' T H hs)
def qP (K:Nat->Prop):Prop:= ∀(T:Tp) (d k:Nat),K k->Ms T d-> ∀w H hs,dM w T H hs->hs.length + d<=900->Nx T w H hs k->
    Calls Tryz.prog 30 #[.pointer (some ⟨T.bm,0,none⟩),.int .i64 (d:Int)] w (MsP T H hs w)
end Go.Proofs.YtfbbaiejbjdfbaaGreatDoor
