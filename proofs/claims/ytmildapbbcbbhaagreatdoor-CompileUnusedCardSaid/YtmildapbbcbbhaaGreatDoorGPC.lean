/- Contract of the maker's expr: it returns an expression that lies in new memory. And what hangs on it. -/
import Derived.Test.YtmildapbbcbbhaaGreatDoorGMB
import Derived.Deep.RegionWith
set_option linter.unusedSimpArgs false
set_option linter.unusedVariables false
set_option maxHeartbeats 40000000
set_option maxRecDepth 1000000
namespace Go.Proofs.YtmildapbbcbbhaaGreatDoor
open Go.RowKit
open Md
theorem LQ {w:World} {K:Act->Prop} {a:Act} (h:K a):dP w K [] a:=h
def XE (B:Nat) (v:Value) (w:World):Prop:= ∃op n nm kids ao cap,v=exV op n nm kids ao cap∧Oz op n nm kids∧gU B w (λw2=>kids.At w2 w2.heap.size ao 0)
theorem XE.next {B:Nat} {v:Value} {w w':World} (h:XE B v w) (ha:kG B w w'):XE B v w':=by
 obtain⟨op,n,nm,kids,ao,cap,h1,h2,h3⟩:=h;exact⟨op,n,nm,kids,ao,cap,h1,h2,h3.next ha⟩
theorem XE.mono {B B':Nat} {v:Value} {w:World} (h:XE B' v w) (hB:B<=B'):XE B v w:=by
 obtain⟨op,n,nm,kids,ao,cap,h1,h2,h3⟩:=h;exact⟨op,n,nm,kids,ao,cap,h1,h2,h3.mono hB⟩
def MxP (T:Tp) (H:Option Nat) (hs:List ByteArray) (w:World) (e:Ending) (w':World):Prop:= ∃v,e= .returned v∧XE w.heap.size v w'∧TF T w w'∧dS w' T H hs
def nU (T:Tp) (d:Int):Prop:= ∀w H hs,dS w T H hs->Calls Tryz.prog 44 #[.pointer (some ⟨T.bm,0,none⟩),.int .i64 d] w (MxP T H hs w)
def XD (K B:Nat) (v:Value) (w:World):Prop:= ∃op n nm kids ao cap,v=exV op n nm kids ao cap∧(qP op n nm kids∧xw kids+1<=K)∧gU B w (λw2=>kids.At w2 w2.heap.size ao 0)
theorem XD.next {K B:Nat} {v:Value} {w w':World} (h:XD K B v w) (ha:kG B w w'):XD K B v w':=by
 obtain⟨op,n,nm,kids,ao,cap,h1,h2,h3⟩:=h;exact⟨op,n,nm,kids,ao,cap,h1,h2,h3.next ha⟩
theorem XD.mono {K B B':Nat} {v:Value} {w:World} (h:XD K B' v w) (hB:B<=B'):XD K B v w:=by
 obtain⟨op,n,nm,kids,ao,cap,h1,h2,h3⟩:=h;exact⟨op,n,nm,kids,ao,cap,h1,h2,h3.mono hB⟩
def MyP (K:Nat) (T:Tp) (H:Option Nat) (hs:List ByteArray) (w:World) (e:Ending) (w':World):Prop:= ∃v,e= .returned v∧XD K w.heap.size v w'∧TF T w w'∧dS w' T H hs
def uj (T:Tp) (K:Nat) (d:Int):Prop:= ∀w H hs,dS w T H hs->Calls Tryz.prog 44 #[.pointer (some ⟨T.bm,0,none⟩),.int .i64 d] w (MyP K T H hs w)
theorem rC:bW 0:=by unfold bW;decide
theorem qI:(⟨#[]⟩:ByteArray).size<=maxLen:=by unfold maxLen;decide
theorem nil_le:bJ.len .nil<=maxLen:=by unfold maxLen;decide
theorem Ii (n:Int) (w:World):
 Calls Tryz.prog 13 #[.int .i64 n] w λe w'=>e= .returned (exV 1 n ⟨#[]⟩ .nil none 0)∧Below w.heap.size w w':=by
 go_enter Tryz.func13,Tryz.ntmps13;go_wp2;exact bodyPost_ret (v:=exV 1 n ⟨#[]⟩ .nil none 0) (by simp[results,Tryz.results13,go_sem,exV,bJ.len]) rfl ⟨rfl,au _ _⟩
def Szs (n:Nat) (cs:Array Value):Prop:= ∀j,j<n->∃s:ByteArray,cs[j]? =some (.string s)∧s.size<=maxLen
def nm7:Array Value:= #[.string ⟨#[97]⟩,.string ⟨#[98]⟩,.string ⟨#[120]⟩,.string ⟨#[121]⟩,.string ⟨#[118]⟩,.string ⟨#[120]⟩,.string ⟨#[121]⟩]
theorem aP6:Szs 7 nm7:=λj hj=>by
 have:j=0∨j=1∨j=2∨j=3∨j=4∨j=5∨j=6:=by omega
 rcases this with rfl|rfl|rfl|rfl|rfl|rfl|rfl <;> exact⟨_,rfl,by unfold maxLen;decide⟩
def bv8:Array Value:= #[.int .i64 6,.int .i64 7,.int .i64 8,.int .i64 11,.int .i64 13,.int .i64 17]
theorem aQ5: ∀j,j<6->∃z,bv8[j]? =some (.int .i64 z)∧bW z:=λj hj=>by
 have:j=0∨j=1∨j=2∨j=3∨j=4∨j=5:=by omega
 rcases this with rfl|rfl|rfl|rfl|rfl|rfl <;> exact⟨_,rfl,by unfold bW;decide⟩
theorem Oh {T:Tp} {H:Option Nat} {hs:List ByteArray} {w w4:World} (a b c d:Value) (hM:TF T w w4) (hI:dS w4 T H hs) (h0:Old T H w.heap.size):
 TF T w ((((w4.setCell ⟨w.heap.size,0,none⟩ a).setCell ⟨w.heap.size,1,none⟩ b).setCell ⟨w.heap.size,2,none⟩ c).setCell ⟨w.heap.size,3,none⟩ d)∧
 dS ((((w4.setCell ⟨w.heap.size,0,none⟩ a).setCell ⟨w.heap.size,1,none⟩ b).setCell ⟨w.heap.size,2,none⟩ c).setCell ⟨w.heap.size,3,none⟩ d) T H hs∧
 kG (w.heap.size+1) w4 ((((w4.setCell ⟨w.heap.size,0,none⟩ a).setCell ⟨w.heap.size,1,none⟩ b).setCell ⟨w.heap.size,2,none⟩ c).setCell ⟨w.heap.size,3,none⟩ d):=by
 refine⟨(((hM.set _ _ (aB _)).set _ _ (aB _)).set _ _ (aB _)).set _ _ (aB _),(((hI.VG h0 _ _ (aB _)).VG h0 _ _ (aB _)).VG h0 _ _ (aB _)).VG h0 _ _ (aB _),?_⟩;exact(((iF w4 ⟨w.heap.size,0,none⟩ a (Nat.lt_succ_self _)).trans (iF _ ⟨w.heap.size,1,none⟩ b (Nat.lt_succ_self _))).trans (iF _ ⟨w.heap.size,2,none⟩ c (Nat.lt_succ_self _))).trans (iF _ ⟨w.heap.size,3,none⟩ d (Nat.lt_succ_self _))
theorem F8 (T:Tp) (d K:Nat) (hd:d<=100) (hK:1<=K) (ih:d≠0->3<=K∧uj T 3 0∧uj T K ((d:Int) -1)):uj T (3*K) (d:Int):=by
 intro w H hs hI;have HI0:=ah hI;have ru:=ah ih;have HK:=ah hK;have aZ:aj (Old T H w.heap.size):=ah hI.old;clear hI ih hK;go_enter Tryz.func44,Tryz.ntmps44;go_upto_region 2 with fail;generalize hW:World.alloc (World.alloc w _) _=W;have HB:aj (Below w.heap.size w W):=ah (by rw[<- hW];exact(au _ _).alloc (by simp) _);have HZ:aj (W.heap[w.heap.size]? =some (.cells Ho 60 (0,0))):=ah (by rw[<- hW,heap_alloc_old _ _ (by simp)];exact heap_alloc_new _ _);have HN:aj (W.heap[w.heap.size+1]? =some (.cells nm7 9 (0,0))):=ah (by
  rw[<- hW];have e:(World.alloc w (.cells Ho 60)).heap.size=w.heap.size+1:=by simp
  rw[<- e];exact heap_alloc_new _ _)
 have HI:=ah (HI0.o.below HB.o);clear hW;have c0:=HI.o.ptr;go_wp2_with fail;refine(kV T H hs 10 _ (by unfold bW;decide) HI.o).mono ?_;rintro e w2 ⟨k,rfl,hk1,hk2,hM,hI2⟩;have HM:=ah ((TF.of_below (T:=T) HB.o).trans hM);have HZ2:aj (w2.heap[w.heap.size]? =some (.cells Ho 60 (0,0))):=ah (hM.keep HZ.o (by have:=aZ.o.t;omega));have HN2:aj (w2.heap[w.heap.size+1]? =some (.cells nm7 9 (0,0))):=ah (hM.keep HN.o (by have:=aZ.o.t;omega));have HI2:=ah hI2;have hk10:k<10:=by have:=hk1 (by decide);omega
 clear hM hI2 HZ HN HI c0 HB hk1 hk2;have HW2:aj (w.heap.size+1<=w2.heap.size):=ah (by have:=(aO HZ2.o);omega);have hcase:(k<2∨(2<=k∧d=0∧7<=k))∨(2<=k∧k<7)∨(k=7∧d≠0)∨(8<=k∧d≠0):=by omega
 rcases hcase with hA|⟨hB1,hB2⟩|⟨rfl,hC⟩|⟨hD1,hD2⟩
 ·have c0:=HI2.o.ptr;have hA':((k:Int)<2)∨(¬((k:Int)<2)∧((d:Int)==0)=true∧(7:Int)<=(k:Int)):=by
   rcases hA with hA|⟨h1,h2,h3⟩
   ·exact .inl (by omega)
   ·exact .inr ⟨by omega,by simp[h2],by omega⟩
  clear hA ru;rcases hA' with hA|⟨hA1,hA2,hA3⟩
  all_goals go_wp2_with fail;refine(kV T H hs 4 _ (by unfold bW;decide) HI2.o).mono ?_;rintro e w3 ⟨r,rfl,hr1,hr2,FE,Co⟩;have tZ:=ah (HM.o.trans FE);have HI3:=ah Co;have HZ3:aj (w3.heap[w.heap.size]? =some (.cells Ho 60 (0,0))):=ah (FE.keep HZ2.o (by have:=aZ.o.t;omega));clear FE Co hr1;go_wp2_with fail;refine(Ii r w3).mono ?_;rintro e w4 ⟨rfl,hb⟩;have qp:=ah (tZ.o.trans (TF.of_below hb));have HI4:=ah (HI3.o.below hb);have xP:aj (w4.heap[w.heap.size]? =some (.cells Ho 60 (0,0))):=ah ((hb.block _ (aO HZ3.o)).trans HZ3.o);obtain⟨⟨y0,y1,y2,y3⟩,fz⟩:=Ls xP.o;have f0:=fz 0;have f1:=fz 1;have f2:=fz 2;have f3:=fz 3;clear hb fz tZ HI3 HZ3;unfold exV;go_wp2_with fail;obtain⟨q1,q2,q3⟩:=Oh (.int .i64 1) (.int .i64 r) (.string ⟨#[]⟩) (.slice none 0 0) qp.o HI4.o aZ.o;exact bodyPost_ret (v:=exV 1 r ⟨#[]⟩ .nil none 0) (by simp[results,Tryz.results44,go_sem,exV,bJ.len,y0,y1,y2,y3]) rfl ⟨_,rfl,⟨1,r,⟨#[]⟩,.nil,none,0,rfl,⟨⟨by unfold bW;decide,by unfold bW;omega,qI,nil_le⟩,by have:=HK.o;show 0+1<=3*K;omega⟩,λ_ _=>trivial⟩,q1,q2⟩
 ·have c0:=HI2.o.ptr;have hB3: ¬((k:Int)<2):=by omega
  have hB4:((k:Int)<7):=by omega
  have hB5: ¬((7:Int)<=(k:Int)):=by omega
  clear ru;cases hd0:((d:Int)==0)
  all_goals
   go_wp2_with fail;refine(kV T H hs 7 _ (by unfold bW;decide) HI2.o).mono ?_;rintro e w3 ⟨r,rfl,hr1,hr2,FE,Co⟩;have hr7:r<7:=by have:=hr1 (by decide);omega
   have tZ:=ah (HM.o.trans FE);have HI3:=ah Co;have HZ3:aj (w3.heap[w.heap.size]? =some (.cells Ho 60 (0,0))):=ah (FE.keep HZ2.o (by have:=aZ.o.t;omega));obtain⟨s,hs1,hs2⟩:=aP6 r hr7;have cs:w3.cell? ⟨w.heap.size+1,r,none⟩=some (.string s):=(bM (FE.keep HN2.o (by have:=aZ.o.t;omega)) hs1).2;have bM9:(0:Int)<=(r:Int):=by omega
   have bN0:(r:Int)<7:=by omega
   have HS:=ah hs2;clear FE Co hr1 hs1 hs2 hr2;go_wp2_with fail;refine(F9 s w3).mono ?_;rintro e w4 ⟨rfl,hb⟩;have qp:=ah (tZ.o.trans (TF.of_below hb));have HI4:=ah (HI3.o.below hb);have xP:aj (w4.heap[w.heap.size]? =some (.cells Ho 60 (0,0))):=ah ((hb.block _ (aO HZ3.o)).trans HZ3.o);obtain⟨⟨y0,y1,y2,y3⟩,fz⟩:=Ls xP.o;have f0:=fz 0;have f1:=fz 1;have f2:=fz 2;have f3:=fz 3;clear hb fz tZ HI3 HZ3 cs;unfold exV;go_wp2_with fail;obtain⟨q1,q2,q3⟩:=Oh (.int .i64 2) (.int .i64 0) (.string s) (.slice none 0 0) qp.o HI4.o aZ.o;exact bodyPost_ret (v:=exV 2 0 s .nil none 0) (by simp[results,Tryz.results44,go_sem,exV,bJ.len,y0,y1,y2,y3]) rfl ⟨_,rfl,⟨2,0,s,.nil,none,0,rfl,⟨⟨by unfold bW;decide,rC,HS.o,nil_le⟩,by have:=HK.o;show 0+1<=3*K;omega⟩,λ_ _=>trivial⟩,q1,q2⟩
 ·have hd0:((d:Int)==0)=false:=by rw[beq_eq_false_iff_ne];omega
  have HX:aj (uj T 3 0):=ah (ru.o hC).2.1;have sN:=ah (ru.o hC).1;clear ru;go_wp2_with fail;refine(HX.o w2 H hs HI2.o).mono ?_;rintro e w4 ⟨v,rfl,hex,Tt,Nw⟩;obtain⟨op,n,nm,kids,ao,cap,rfl,hok,hst⟩:=hex;have qp:=ah (HM.o.trans Tt);have kU:=ah hok;have HST:=ah (hst.mono HW2.o);have HI4:=ah Nw;have xP:aj (w4.heap[w.heap.size]? =some (.cells Ho 60 (0,0))):=ah (Tt.keep HZ2.o (by have:=aZ.o.t;omega));have HW4:aj (w.heap.size+1<=w4.heap.size):=ah (by have:=(aO xP.o);omega);clear hok hst Tt Nw;obtain⟨⟨y0,y1,y2,y3⟩,fz⟩:=Ls xP.o;have f0:=fz 0;have f1:=fz 1;have f2:=fz 2;have f3:=fz 3;have Ct:w.heap.size<w4.heap.size:=HW4.o;clear fz;unfold exV;go_wp2_with fail;have HF:aj (MyP (3*K) T H hs w (.returned (exV 3 0 ⟨#[113]⟩ (.cons op n nm kids .nil) (some ⟨w4.heap.size,0,none⟩) 1)) (((((w4.setCell ⟨w.heap.size,0,none⟩ (.int .i64 3)).setCell ⟨w.heap.size,1,none⟩ (.int .i64 0)).setCell ⟨w.heap.size,2,none⟩ (.string ⟨#[113]⟩)).setCell ⟨w.heap.size,3,none⟩ (.slice (some ⟨w4.heap.size,0,none⟩) 1 1)).alloc (.cells #[.int .i64 op,.int .i64 n,.string nm,.slice ao kids.len cap] 60))):=by
   obtain⟨q1,q2,q3⟩:=Oh (.int .i64 3) (.int .i64 0) (.string ⟨#[113]⟩) (.slice (some ⟨w4.heap.size,0,none⟩) 1 1) qp.o HI4.o aZ.o;generalize hW:World.setCell (World.setCell (World.setCell (World.setCell w4 _ _) _ _) _ _) _ _=W at *;have hsz:W.heap.size=w4.heap.size:=by rw[<- hW];simp[World.setCell]
   refine ah ⟨_,rfl,⟨3,0,⟨#[113]⟩,.cons op n nm kids .nil,_,1,rfl,⟨⟨by unfold bW;decide,rC,by unfold maxLen;decide,by simp[bJ.len,maxLen]⟩,by have h1:=kU.o.2;have h2:=sN.o;simp only[xw];omega⟩,?_⟩,q1.trans (TF.of_below (au _ _)),q2.below (au _ _)⟩;rw[<- hsz];exact JJ (heap_alloc_new _ _) (by omega) kU.o.1 (((HST.o.next q3).next (bL (au _ _))).mono (gY _))
  exact bodyPost_ret (v:=exV 3 0 ⟨#[113]⟩ (.cons op n nm kids .nil) (some ⟨w4.heap.size,0,none⟩) 1) (by simp[results,Tryz.results44,go_sem,exV,bJ.len,y0,y1,y2,y3,Ct]) rfl HF.o
 ·have hd0:((d:Int)==0)=false:=by rw[beq_eq_false_iff_ne];omega
  have hD3: ¬((k:Int)<2):=by omega
  have hD4: ¬((k:Int)<7):=by omega
  have hD5:((k:Int)==7)=false:=by rw[beq_eq_false_iff_ne];omega
  have HX:aj (uj T K ((d:Int) -1)):=ah (ru.o hD2).2.2;have sN:=ah (ru.o hD2).1;clear ru;have hwd:IntKind.i64.wrap ((d:Int) -1)=(d:Int) -1:=IntWalk.i64_in _ (by omega);go_upto_region 10 with fail;generalize Ew:World.alloc w2 _=W5;obtain⟨ga,hga,nN,-,HA5,-⟩:=oO Ew;have iA:=ah (HI2.o.below nN.o);have fZ:=ah (HM.o.trans (TF.of_below nN.o));have gG:aj (W5.heap[w.heap.size]? =some (.cells Ho 60 (0,0))):=ah ((nN.o.block _ (aO HZ2.o)).trans HZ2.o);have nP:aj (w.heap.size<ga):=ah (by rw[<- hga];exact HW2.o);have Kc:aj (w.heap.size+1<=W5.heap.size):=ah (by have:=(aO gG.o);omega);rw[hga];clear Ew hga nN HZ2 HM HI2 HN2;have K0: ∀w',dS w' T H hs->w'.cell? ⟨T.bm,0,none⟩=some (.pointer (some ⟨T.bt,0,none⟩)):=λw' h=>h.ptr;have KO: ∀w',TF T W5 w'->∀j,j<6->∃z,w'.cell? ⟨ga,j,none⟩=some (.int .i64 z)∧bW z:=λw' h j hj=>by obtain⟨z,h1,h2⟩:=aQ5 j hj;exact⟨z,(bM (h.keep HA5.o (by have:=aZ.o.t;have:=nP.o;omega)) h1).2,h2⟩
  have hd1:TF T W5 (W5.drewN 1):=TF.of_below (below_drewN (ak _ _) 1);have hd2:dS (W5.drewN 1) T H hs:=iA.o.below (below_drewN (ak _ _) 1);refine dI (by kernel_rfl) rfl ?_;refine dw 0 19 [] [[],[],[1],[1,2],[1,2,3],[],[5],[1,2,3,4,5,6],[0,1,2,3,4,5,6,7],[0,1,2,3,4,5,6,7,8],[],[],[11],[1,2,3,4,5,6,7,10,11,12],[],[],[15],[1,2,3,4,5,6,7,10,11,12,13,14,15,16],[0,1,2,3,4,5,6,7,8,9,10,11,12,13,14,15,16,17],[0,1,2,3,4,5,6,7,8,9,10,11,12,13,14,15,16,17,18]] [[],[],[],[],[],[],[],[],[],[],[],[],[],[],[],[],[],[],[]] (λ_ w'=>TF T W5 w'∧dS w' T H hs) (λw w'=>TF T w w') [53,54,55,56,57,58,59,60,61,62,63,64,65,66,67,68,69,70,71] rfl rfl (by rfl) (by kernel_rfl) (by kernel_rfl) (by kernel_rfl) (by kernel_rfl) (by kernel_rfl) (by rfl) (λ_=>TF.refl _ _) (by rfl) ⟨hd1,hd2⟩ ?_;simp only[iW,mU]
  iterate 7
   apply bS.step
   case bg=>intro c A w' hok hC hO hD;have e7:=hO 7 (by rfl);have e0:=hO 0 (by rfl);simp[Act.eval]at e7 e0;simp[Act.eval]at hD;simp[go_sem,gd,Oper.wp,hD,e7,e0,K0,hC.2];exact aR.mk (TF.refl _ _) hC (bZ.mk _ _)
   try simp only[dR]
  refine bS.some (λv _=> ∃r:Nat,v= .int .i64 (r:Int)∧r<6) (λ_ _ _ _ h=>h) ?_ ?_
  ·intro c A w' hok hC hO hD;simp[Act.eval]at hD;simp[go_sem,gd,Oper.wp,hD];refine(kV T H hs 6 w' (by unfold bW;decide) hC.2).mono ?_;rintro e w2 ⟨r,rfl,h1,-,hM,hI⟩;exact aR.mk hM ⟨hC.1.trans hM,hI⟩ ⟨r,rfl,by have:=h1 (by decide);omega⟩
  refine bS.some (λv w'=> ∃r:Nat,v= .pointer (some ⟨ga,r,none⟩)∧r<6) (λ_ _ _ _ h=>h) ?_ ?_
  ·intro c A w' hok hC hO hD;simp[Act.eval]at hD;obtain⟨h53,r,hr,h1⟩:=hD;have hb0:(0:Int)<=(r:Int):=by omega
   have hb1:(r:Int)<6:=by omega
   simp[go_sem,gd,Oper.wp,h53,hr,hb0,hb1];exact aR.mk (TF.refl _ _) hC (⟨r,rfl,h1⟩)
  try simp only[dR]
  refine bS.some (λv w'=> ∃z:Int,v= .int .i64 z∧bW z) (λ_ _ _ _ h=>h) ?_ ?_
  ·intro c A w' hok hC hO hD;simp[Act.eval]at hD;obtain⟨r,hr,h1⟩:=hD;obtain⟨z,hz,hzI⟩:=KO w' hC.1 r h1;simp[go_sem,gd,Oper.wp,hr,hz];exact aR.mk (TF.refl _ _) hC (⟨z,rfl,hzI⟩)
  iterate 3
   apply bS.step
   case bg=>intro c A w' hok hC hO hD;have e0:=hO 0 (by rfl);have e1:=hO 1 (by rfl);simp[Act.eval]at e0 e1;simp[Act.eval]at hD;simp[go_sem,gd,Oper.wp,hD,e0,e1,hwd];exact aR.mk (TF.refl _ _) hC (bZ.mk _ _)
   try simp only[dR]
  refine bS.some (λv w'=>XD K (w.heap.size+1) v w') (λv w1 w' hle h=>h.next (TF.Na hle (by have:=aZ.o.t;omega))) ?_ ?_
  ·intro c A w' hok hC hO hD;simp[Act.eval]at hD;simp[go_sem,gd,Oper.wp,hD];refine(HX.o w' H hs hC.2).mono ?_;rintro e w3 ⟨v,rfl,h1,h2,h3⟩;exact aR.mk h2 ⟨hC.1.trans h2,h3⟩ (h1.mono (aP Kc.o hC.1.size))
  iterate 3
   apply bS.step
   case bg=>intro c A w' hok hC hO hD;have e0:=hO 0 (by rfl);have e1:=hO 1 (by rfl);simp[Act.eval]at e0 e1;simp[Act.eval]at hD;simp[go_sem,gd,Oper.wp,hD,e0,e1,hwd];exact aR.mk (TF.refl _ _) hC (bZ.mk _ _)
   try simp only[dR]
  refine bS.some (λv w'=>XD K (w.heap.size+1) v w') (λv w1 w' hle h=>h.next (TF.Na hle (by have:=aZ.o.t;omega))) ?_ ?_
  ·intro c A w' hok hC hO hD;simp[Act.eval]at hD;simp[go_sem,gd,Oper.wp,hD];refine(HX.o w' H hs hC.2).mono ?_;rintro e w3 ⟨v,rfl,h1,h2,h3⟩;exact aR.mk h2 ⟨hC.1.trans h2,h3⟩ (h1.mono (aP Kc.o hC.1.size))
  try simp only[dR]
  refine bS.some (λv w'=>XD (3*K) (w.heap.size+1) v w') (λv w1 w' hle h=>h.next (TF.Na hle (by have:=aZ.o.t;omega))) ?_ ?_
  ·intro c A w' hok hC hO hD;simp[Act.eval]at hD;obtain⟨⟨z,hz,hzI⟩,⟨op,n,nm,kids,ao,cap,hv,hok1,Qt⟩,op',n',nm',gZ,mF,cap',hv',hok2,bu4⟩:=hD;unfold exV at hv hv';simp[go_sem,gd,Oper.wp,hz,hv,hv'];refine(EM z op n nm kids ao cap op' n' nm' gZ mF cap' w').mono ?_;rintro e w6 ⟨g,rfl,hg,hcell,hb⟩;exact aR.mk (TF.of_below hb) ⟨hC.1.trans (TF.of_below hb),hC.2.below hb⟩ ⟨z,0,⟨#[]⟩,.cons op n nm kids (.cons op' n' nm' gZ .nil),some ⟨g,0,none⟩,2,rfl,⟨⟨hzI,rC,qI,by simp[bJ.len,maxLen]⟩,by have h1:=hok1.2;have h2:=hok2.2;have h3:=sN.o;simp only[xw];omega⟩,JK hcell (aP (aP Kc.o hC.1.size) hg) hok1.1 (Qt.next (bL hb)) hok2.1 (bu4.next (bL hb))⟩
  try simp only[dR]
  refine bS.done ?_;intro wz dF
  try simp only[iW]
  intro v0 h0 v1 h1 v2 h2 v3 h3 v4 h4 v5 h5 v6 h6 v7 h7 v8 h8 v9 h9 v10 h10 v11 h11 v12 h12 v13 zT v14 tN v15 AU v16 h16 v17 IZ v18 h18;clear h0 h1 h2 h3 h4 h5 h6 h7 h8 h9 h10 h11 h12 zT tN AU h16 IZ;obtain⟨op',n',nm',gZ,mF,cap',rfl,hok,hst⟩:=h18;clear K0 KO hd1 hd2 hwd;refine LQ ?_;go_simp;have Pk:aj (wz.heap[w.heap.size]? =some (.cells Ho 60 (0,0))):=ah (dF.1.keep gG.o (by have:=aZ.o.t;omega));obtain⟨⟨y0,y1,y2,y3⟩,fz⟩:=Ls Pk.o;have f0:=fz 0;have f1:=fz 1;have f2:=fz 2;have f3:=fz 3;have HMz:=ah (fZ.o.trans dF.1);have BM:=ah dF.2;have bn1:=ah hok;have bn5:=ah hst;clear fz dF hok hst;unfold exV;refine fD 19 [[],[],[1],[1,2],[1,2,3],[],[5],[1,2,3,4,5,6],[0,1,2,3,4,5,6,7],[0,1,2,3,4,5,6,7,8],[],[],[11],[1,2,3,4,5,6,7,10,11,12],[],[],[15],[1,2,3,4,5,6,7,10,11,12,13,14,15,16],[0,1,2,3,4,5,6,7,8,9,10,11,12,13,14,15,16,17],[0,1,2,3,4,5,6,7,8,9,10,11,12,13,14,15,16,17,18]] rfl rfl rfl rfl rfl (by kernel_rfl) (by kernel_rfl) (by kernel_rfl) ?_;simp[go_sem,Oper.wp,y0,y1,y2,y3,f0,f1,f2,f3];refine eO rfl ?_;go_simp;go_wp2_with fail;obtain⟨q1,q2,q3⟩:=Oh (.int .i64 op') (.int .i64 n') (.string nm') (.slice mF gZ.len cap') HMz.o BM.o aZ.o;exact bodyPost_ret (v:=exV op' n' nm' gZ mF cap') (by simp[results,Tryz.results44,go_sem,exV,y0,y1,y2,y3]) rfl ⟨_,rfl,⟨op',n',nm',gZ,mF,cap',rfl,bn1.o,(bn5.o.next q3).mono (gY _)⟩,q1,q2⟩
theorem Vt (T:Tp):uj T 3 0∧uj T 9 1∧uj T 27 2:=by
 have h0:uj T 3 0:=F8 T 0 1 (by decide) (by decide) (λh=>absurd rfl h);have h1:uj T 9 1:=F8 T 1 3 (by decide) (by decide) (λ_=>⟨by decide,h0,h0⟩);exact⟨h0,h1,F8 T 2 9 (by decide) (by decide) (λ_=>⟨by decide,h0,h1⟩)⟩
theorem Vr {T:Tp} {K:Nat} {d:Int} (hK:K<=41) (h:uj T K d):nU T d:=λw H hs hI=>(h w H hs hI).mono (by
 rintro e w' ⟨v,rfl,⟨op,n,nm,kids,ao,cap,h1,⟨h2,h3⟩,h4⟩,h5⟩;exact⟨v,rfl,⟨op,n,nm,kids,ao,cap,h1,⟨h2,by omega⟩,h4⟩,h5⟩)
theorem kP (T:Tp) (d:Nat) (h:d<=2):nU T (d:Int):=by
 have:d=0∨d=1∨d=2:=by omega
 obtain⟨h0,h1,h2⟩:=Vt T;rcases this with rfl|rfl|rfl
 ·exact Vr (by decide) h0
 ·exact Vr (by decide) h1
 ·exact Vr (by decide) h2
def wE (zs:List Int) (a:Nat) (n:Int):Int:=if zs.length<=a then 0 else if n<1 then 0 else(zs[a]?.getD 0)%n
theorem Yt {zs:List Int} {a:Nat} {n:Int} (h:zs.length<=a):wE zs a n=0:=by unfold wE;rw[if_pos h]
theorem Yu {zs:List Int} {a:Nat} {n:Int} (h:n<1):wE zs a n=0:=by unfold wE;split <;> simp[h]
theorem af8 {zs:List Int} {a:Nat} {n:Int} (h:a<zs.length) (hn: ¬n<1):wE zs a n=zs[a]%n:=by unfold wE;rw[if_neg (by omega),if_neg hn];simp[h]
def aj9 (T:Tp) (n v:Int) (w:World) (e:Ending) (w':World):Prop:=e= .returned (.int .i64 v)∧0<=v∧(0<n->v<n)∧v<=255∧w.grownBy w' (some T.bt)∧oC w' T
theorem JE {T:Tp} {n r v:Int} {w w':World} (hv:v=r) (h0:0<=r) (h1:0<n->r<n) (h2:r<=255) (h3:w.grownBy w' (some T.bt)) (h4:oC w' T):aj9 T n v w (.returned (.int .i64 r)) w':=by subst hv;exact⟨rfl,h0,h1,h2,h3,h4⟩
theorem aq3 (T:Tp) (n:Int) (w:World) (hn:bW n) (hI:oC w T) (a:Nat) (hblk:w.heap[T.bt]? =some (.cells #[.slice T.ao T.zs.length T.cap,.int .i64 a] 50 (0,0))):
 Calls Tryz.prog 9 #[.pointer (some ⟨T.bt,0,none⟩),.int .i64 n] w (aj9 T n (wE T.zs a n) w):=by
 have HI:=ah hI;have HB:=ah hblk;have hlen:=hI.len;obtain⟨hn1,hn2⟩:=hn;have c0:w.cell? ⟨T.bt,0,none⟩=some (.slice T.ao T.zs.length T.cap):=(bM hblk (j:=0) rfl).2;have c1:w.cell? ⟨T.bt,1,none⟩=some (.int .i64 (a:Int)):=(bM hblk (j:=1) rfl).2;clear hI hblk;by_cases h1:T.zs.length<=a
 ·have hd:decide ((T.zs.length:Int)<=(a:Int))=true:=by rw[decide_eq_true_iff];omega
  go_enter Tryz.func9,Tryz.ntmps9;go_wp2_with fail;go_quiet (fail);go_wp2_with fail;go_ret;exact JE (Yt h1) (by omega) (by omega) (by omega) (pQ _ _) (HI.o.draws _)
 ·have hd:decide ((T.zs.length:Int)<=(a:Int))=false:=by rw[decide_eq_false_iff_not];omega
  by_cases h2:n<1
  ·have hd2:decide (n<1)=true:=by rw[decide_eq_true_iff];omega
   go_enter Tryz.func9,Tryz.ntmps9;go_wp2_with fail;go_quiet (fail);go_wp2_with fail;go_ret;exact JE (Yu h2) (by omega) (by omega) (by omega) (pQ _ _) (HI.o.draws _)
  ·have hd2:decide (n<1)=false:=by rw[decide_eq_false_iff_not];omega
   go_enter Tryz.func9,Tryz.ntmps9;go_wp2_with fail;go_quiet (fail);generalize hW:World.drewN w _=W1;have HI1:aj (oC W1 T):=ah (by rw[<- hW];exact HI.o.draws _);have qD:aj (w.grownBy W1 (some T.bt)):=ah (by rw[<- hW];exact pQ _ _);have HB1:aj (W1.heap[T.bt]? =some (.cells #[.slice T.ao T.zs.length T.cap,.int .i64 (a:Int)] 50 (0,0))):=ah (by rw[<- hW];exact((below_drewN (ak w.heap.size w) _).block _ HI.o.lt).trans HB.o);clear hW c0 c1 HI HB hd hd2;have c1:W1.cell? ⟨T.bt,1,none⟩=some (.int .i64 (a:Int)):=(bM HB1.o (j:=1) rfl).2;have f1:W1.frozen? ⟨T.bt,1,none⟩=false:=bH HB1.o;go_upto_region 4 with fail;generalize hW2:World.setCell W1 _ _=W2;have HB2:aj (W2.heap[T.bt]? =some (.cells #[.slice T.ao T.zs.length T.cap,.int .i64 ((a:Int)+1)] 50 (0,0))):=ah (by rw[<- hW2,dh HB1.o];rfl);have HG2:aj (W1.grownBy W2 (some T.bt)):=ah (by rw[<- hW2];exact bY _ _ _);have MG:aj (FP W2 T.B0 T.zs T.ao):=ah (HI1.o.Nh.below (cZ HG2.o T.t0 HI1.o.b0));have HI2:aj (oC W2 T):=ah ⟨⟨a+1,by omega,by rw[HB2.o];rfl⟩,MG.o,HI1.o.len⟩;have HG:=ah (KF qD.o HG2.o);clear hW2 c1 f1 qD HG2 HB1;have ha:a<T.zs.length:=by omega
   obtain⟨bb,off,hao,hbb,hcell,hz0,hz1⟩:=MG.o a ha;have c0:W2.cell? ⟨T.bt,0,none⟩=some (.slice T.ao T.zs.length T.cap):=(bM HB2.o (j:=0) rfl).2;have c1:W2.cell? ⟨T.bt,1,none⟩=some (.int .i64 ((a:Int)+1)):=(bM HB2.o (j:=1) rfl).2;rw[hao]at c0;have hzv:=ah (af8 (zs:=T.zs) (a:=a) (n:=n) ha (by omega));generalize T.zs[a]=z at *;have hw1:(a:Int)+1 -1=(a:Int):=by omega
   have hw2:IntKind.i64.wrap (a:Int)=(a:Int):=IntWalk.i64_in _ (by omega);have hb0:(0:Int)<=(a:Int):=by omega
   have hb1:(a:Int)<(T.zs.length:Int):=by omega
   have zF:=ah hao;clear hao HI1;go_quiet (fail);go_wp2_with fail;go_ret;have e1:=Int.emod_nonneg z (show n≠0 by omega);have e2:=Int.emod_lt_of_pos z (show 0<n by omega);have e3:z%n<=255:=by
    by_cases hzn:z<n
    ·rw[Int.emod_eq_of_lt hz0 hzn];exact hz1
    ·omega
   exact JE hzv.o e1 (λ_=>e2) e3 (KF HG.o (pQ _ _)) (HI2.o.draws _)
theorem dS.tf {w w':World} {T:Tp} {H:Option Nat} {hs:List ByteArray} (hI:dS w T H hs) (h5:w.grownBy w' (some T.bt)) (h6:oC w' T):dS w' T H hs:=by
 refine⟨h6,?_,hI.nt,hI.nm,hI.ok,hI.few⟩;obtain⟨th,left,a,b,c,d,vH,k3,k4,k5,k6⟩:=hI.AJ;refine⟨th,left,a,b,c,d,vH,k3,(h5.block _ hI.lt (by simp;exact T.tm.symm)).trans k4,k5,⟨k6.own.1,?_⟩,λ_ _ _ _=>trivial⟩;rcases k6.own.2 with h1|⟨g,cap,cur,h1,h2,h3,h4⟩
 ·exact .inl h1
 ·exact .inr ⟨g,cap,cur,h1,h2,(h5.block g (aO h3) (by intro e;injection e with e;exact hI.nt (by rw[<- k5,h1,<- e];rfl))).trans h3,h4⟩
theorem Vv (T:Tp) (H:Option Nat) (hs:List ByteArray) (n:Int) (w:World) (hn:bW n) (hp:0<n) (hI:dS w T H hs): ∃r:Nat,(r:Int)<n∧∀W,dS W T H hs->W.heap[T.bt]? =w.heap[T.bt]?->
 Calls Tryz.prog 9 #[.pointer (some ⟨T.bt,0,none⟩),.int .i64 n] W (λe w'=>e= .returned (.int .i64 r)∧TF T W w'∧dS w' T H hs):=by
 obtain⟨a,-,hb⟩:=hI.tape.blk;have h0:0<=wE T.zs a n:=by
  unfold wE;split
  ·omega
  ·split
   ·omega
   ·exact Int.emod_nonneg _ (by omega)
 have h1:wE T.zs a n<n:=by
  unfold wE;split
  ·omega
  ·split
   ·omega
   ·exact Int.emod_lt_of_pos _ hp
 refine⟨(wE T.zs a n).toNat,by omega,λW hW e=> ?_⟩;refine(aq3 T n W hn hW.tape a (e.trans hb)).mono ?_;rintro e w' ⟨rfl,-,-,-,h5,h6⟩;exact⟨by rw[Int.toNat_of_nonneg h0],h5,hW.tf h5 h6⟩
end Go.Proofs.YtmildapbbcbbhaaGreatDoor
