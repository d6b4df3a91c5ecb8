/- Contract of the maker's expr: it returns an expression that lies in new memory. And what hangs on it. -/
import Derived.Test.YtdoplekppjkkpaaGreatDoorGMB
set_option linter.unusedSimpArgs false
set_option linter.unusedVariables false
set_option maxHeartbeats 40000000
set_option maxRecDepth 1000000
namespace Go.Proofs.YtdoplekppjkkpaaGreatDoor
open Go.RowKit
open Md
theorem MK {w:World} {K:Act->Prop} {a:Act} (h:K a):eO w K [] a:=h
def XE (B:Nat) (v:Value) (w:World):Prop:= ∃op n nm kids ao cap,v=exV op n nm kids ao cap∧Pf op n nm kids∧ig B w (λw2=>kids.At w2 w2.heap.size ao 0)
theorem XE.next {B:Nat} {v:Value} {w w':World} (h:XE B v w) (ha:kC B w w'):XE B v w':=by
 obtain⟨op,n,nm,kids,ao,cap,h1,h2,h3⟩:=h;exact⟨op,n,nm,kids,ao,cap,h1,h2,h3.next ha⟩
theorem XE.mono {B B':Nat} {v:Value} {w:World} (h:XE B' v w) (hB:B<=B'):XE B v w:=by
 obtain⟨op,n,nm,kids,ao,cap,h1,h2,h3⟩:=h;exact⟨op,n,nm,kids,ao,cap,h1,h2,h3.mono hB⟩
def MxP (T:Tp) (H:Option Nat) (hs:List ByteArray) (w:World) (e:Ending) (w':World):Prop:= ∃v,e= .returned v∧XE w.heap.size v w'∧TF T w w'∧dN w' T H hs
def ow (T:Tp) (d:Int):Prop:= ∀w H hs,dN w T H hs->Calls Tryz.prog 50 #[.pointer (some ⟨T.bm,0,none⟩),.int .i64 d] w (MxP T H hs w)
def XD (K B:Nat) (v:Value) (w:World):Prop:= ∃op n nm kids ao cap,v=exV op n nm kids ao cap∧(qW op n nm kids∧yI kids+1<=K)∧ig B w (λw2=>kids.At w2 w2.heap.size ao 0)
theorem XD.next {K B:Nat} {v:Value} {w w':World} (h:XD K B v w) (ha:kC B w w'):XD K B v w':=by
 obtain⟨op,n,nm,kids,ao,cap,h1,h2,h3⟩:=h;exact⟨op,n,nm,kids,ao,cap,h1,h2,h3.next ha⟩
theorem XD.mono {K B B':Nat} {v:Value} {w:World} (h:XD K B' v w) (hB:B<=B'):XD K B v w:=by
 obtain⟨op,n,nm,kids,ao,cap,h1,h2,h3⟩:=h;exact⟨op,n,nm,kids,ao,cap,h1,h2,h3.mono hB⟩
def MyP (K:Nat) (T:Tp) (H:Option Nat) (hs:List ByteArray) (w:World) (e:Ending) (w':World):Prop:= ∃v,e= .returned v∧XD K w.heap.size v w'∧TF T w w'∧dN w' T H hs
def vk (T:Tp) (K:Nat) (d:Int):Prop:= ∀w H hs,dN w T H hs->Calls Tryz.prog 50 #[.pointer (some ⟨T.bm,0,none⟩),.int .i64 d] w (MyP K T H hs w)
theorem wF:bY 0:=aeO
theorem qL:(⟨#[]⟩:ByteArray).size<=maxLen:=aeP
theorem nil_le:bT.len .nil<=maxLen:=aeP
theorem Jh (n:Int) (w:World):
 Calls Tryz.prog 16 #[.int .i64 n] w λe w'=>e= .returned (exV 1 n ⟨#[]⟩ .nil none 0)∧Below w.heap.size w w':=by
 go_enter Tryz.func16,Tryz.ntmps16;go_wp2;exact bodyPost_ret (v:=exV 1 n ⟨#[]⟩ .nil none 0) (by simp[results,Tryz.results16,go_sem,exV,bT.len]) rfl ⟨rfl,ak _ _⟩
def Szs (n:Nat) (cs:Array Value):Prop:= ∀j,j<n->∃s:ByteArray,cs[j]? =some (.string s)∧s.size<=maxLen
def nm7:Array Value:= #[.string ⟨#[97]⟩,.string ⟨#[98]⟩,.string ⟨#[120]⟩,.string ⟨#[121]⟩,.string ⟨#[118]⟩,.string ⟨#[120]⟩,.string ⟨#[121]⟩]
theorem aS8:Szs 7 nm7:=λj hj=>by
 have:j=0∨j=1∨j=2∨j=3∨j=4∨j=5∨j=6:=agH
 rcases this with rfl|rfl|rfl|rfl|rfl|rfl|rfl <;> exact⟨_,rfl,aeP⟩
def bA0:Array Value:= #[.int .i64 6,.int .i64 7,.int .i64 8,.int .i64 11,.int .i64 13,.int .i64 17]
theorem aT7: ∀j,j<6->∃z,bA0[j]? =some (.int .i64 z)∧bY z:=λj hj=>by
 have:j=0∨j=1∨j=2∨j=3∨j=4∨j=5:=agH
 rcases this with rfl|rfl|rfl|rfl|rfl|rfl <;> exact⟨_,rfl,aeO⟩
theorem OX {T:Tp} {H:Option Nat} {hs:List ByteArray} {w w4:World} (a b c d:Value) (hM:TF T w w4) (hI:dN w4 T H hs) (h0:Old T H w.heap.size):
 TF T w ((((w4.setCell ⟨w.heap.size,0,none⟩ a).setCell ⟨w.heap.size,1,none⟩ b).setCell ⟨w.heap.size,2,none⟩ c).setCell ⟨w.heap.size,3,none⟩ d)∧
 dN ((((w4.setCell ⟨w.heap.size,0,none⟩ a).setCell ⟨w.heap.size,1,none⟩ b).setCell ⟨w.heap.size,2,none⟩ c).setCell ⟨w.heap.size,3,none⟩ d) T H hs∧
 kC (w.heap.size+1) w4 ((((w4.setCell ⟨w.heap.size,0,none⟩ a).setCell ⟨w.heap.size,1,none⟩ b).setCell ⟨w.heap.size,2,none⟩ c).setCell ⟨w.heap.size,3,none⟩ d):=by
 refine⟨(((hM.set _ _ (aB _)).set _ _ (aB _)).set _ _ (aB _)).set _ _ (aB _),(((hI.Wm h0 _ _ (aB _)).Wm h0 _ _ (aB _)).Wm h0 _ _ (aB _)).Wm h0 _ _ (aB _),?_⟩;exact(((iL w4 ⟨w.heap.size,0,none⟩ a (Nat.lt_succ_self _)).trans (iL _ ⟨w.heap.size,1,none⟩ b (Nat.lt_succ_self _))).trans (iL _ ⟨w.heap.size,2,none⟩ c (Nat.lt_succ_self _))).trans (iL _ ⟨w.heap.size,3,none⟩ d (Nat.lt_succ_self _))
theorem FN (T:Tp) (d K:Nat) (hd:d<=100) (hK:1<=K) (ih:d≠0->3<=K∧vk T 3 0∧vk T K ((d:Int) -1)):vk T (3*K) (d:Int):=by
 intro w H hs hI;have HI0:=ah hI;have rG:=ah ih;have HK:=ah hK;have bf:aj (Old T H w.heap.size):=ah hI.old;clear hI ih hK;go_enter Tryz.func50,Tryz.ntmps50;go_upto_region 2 with fail;generalize hW:World.alloc (World.alloc w _) _=W;have HB:aj (Below w.heap.size w W):=ah (by rw[<- hW];exact(ak _ _).alloc agJ _);have HZ:aj (W.heap[w.heap.size]? =some (.cells IW 72 (0,0))):=ah (by rw[<- hW,heap_alloc_old _ _ agJ];exact heap_alloc_new _ _);have HN:aj (W.heap[w.heap.size+1]? =some (.cells nm7 9 (0,0))):=ah (by
  rw[<- hW];have e:(World.alloc w (.cells IW 72)).heap.size=w.heap.size+1:=agJ
  rw[<- e];exact heap_alloc_new _ _)
 have HI:=ah (HI0.o.below HB.o);clear hW;have c0:=HI.o.ptr;go_wp2_with fail;refine(kW T H hs 10 _ aeO HI.o).mono ?_;rintro e w2 ⟨k,rfl,hk1,hk2,hM,hI2⟩;have HM:=ah ((TF.of_below (T:=T) HB.o).trans hM);have HZ2:aj (w2.heap[w.heap.size]? =some (.cells IW 72 (0,0))):=ah (hM.keep HZ.o aeR);have HN2:aj (w2.heap[w.heap.size+1]? =some (.cells nm7 9 (0,0))):=ah (hM.keep HN.o aeR);have HI2:=ah hI2;have hk10:k<10:=by have:=hk1 agI;omega
 clear hM hI2 HZ HN HI c0 HB hk1 hk2;have HW2:aj (w.heap.size+1<=w2.heap.size):=ah (by have:=(aO HZ2.o);omega);have hcase:(k<2∨(2<=k∧d=0∧7<=k))∨(2<=k∧k<7)∨(k=7∧d≠0)∨(8<=k∧d≠0):=agH
 rcases hcase with hA|⟨hB1,hB2⟩|⟨rfl,hC⟩|⟨hD1,hD2⟩
 ·have c0:=HI2.o.ptr;have hA':((k:Int)<2)∨(¬((k:Int)<2)∧((d:Int)==0)=true∧(7:Int)<=(k:Int)):=by
   rcases hA with hA|⟨h1,h2,h3⟩
   ·exact .inl agH
   ·exact .inr ⟨agH,by simp[h2],agH⟩
  clear hA rG;rcases hA' with hA|⟨hA1,hA2,hA3⟩
  all_goals go_wp2_with fail;refine(kW T H hs 4 _ aeO HI2.o).mono ?_;rintro e w3 ⟨r,rfl,hr1,hr2,Gg,CY⟩;have uW:=ah (HM.o.trans Gg);have HI3:=ah CY;have HZ3:aj (w3.heap[w.heap.size]? =some (.cells IW 72 (0,0))):=ah (Gg.keep HZ2.o aeR);clear Gg CY hr1;go_wp2_with fail;refine(Jh r w3).mono ?_;rintro e w4 ⟨rfl,hb⟩;have qB:=ah (uW.o.trans (TF.of_below hb));have HI4:=ah (HI3.o.below hb);have za:aj (w4.heap[w.heap.size]? =some (.cells IW 72 (0,0))):=ah ((hb.block _ (aO HZ3.o)).trans HZ3.o);obtain⟨⟨y0,y1,y2,y3⟩,fz⟩:=Mt za.o;have f0:=fz 0;have f1:=fz 1;have f2:=fz 2;have f3:=fz 3;clear hb fz uW HI3 HZ3;unfold exV;go_wp2_with fail;obtain⟨q1,q2,q3⟩:=OX (.int .i64 1) (.int .i64 r) (.string ⟨#[]⟩) (.slice none 0 0) qB.o HI4.o bf.o;exact bodyPost_ret (v:=exV 1 r ⟨#[]⟩ .nil none 0) abo rfl ⟨_,rfl,⟨1,r,⟨#[]⟩,.nil,none,0,rfl,⟨⟨aeO,afB,qL,nil_le⟩,aeN⟩,λ_ _=>trivial⟩,q1,q2⟩
 ·have c0:=HI2.o.ptr;have hB3: ¬((k:Int)<2):=by omega
  have hB4:((k:Int)<7):=agH
  have hB5: ¬((7:Int)<=(k:Int)):=agH
  clear rG;cases hd0:((d:Int)==0)
  all_goals
   go_wp2_with fail;refine(kW T H hs 7 _ aeO HI2.o).mono ?_;rintro e w3 ⟨r,rfl,hr1,hr2,Gg,CY⟩;have hr7:r<7:=ady
   have uW:=ah (HM.o.trans Gg);have HI3:=ah CY;have HZ3:aj (w3.heap[w.heap.size]? =some (.cells IW 72 (0,0))):=ah (Gg.keep HZ2.o aeR);obtain⟨s,hs1,hs2⟩:=aS8 r hr7;have cs:w3.cell? ⟨w.heap.size+1,r,none⟩=some (.string s):=(bP (Gg.keep HN2.o aeR) hs1).2;have bO9:(0:Int)<=(r:Int):=agH
   have bP0:(r:Int)<7:=agH
   have HS:=ah hs2;clear Gg CY hr1 hs1 hs2 hr2;go_wp2_with fail;refine(FP s w3).mono ?_;rintro e w4 ⟨rfl,hb⟩;have qB:=ah (uW.o.trans (TF.of_below hb));have HI4:=ah (HI3.o.below hb);have za:aj (w4.heap[w.heap.size]? =some (.cells IW 72 (0,0))):=ah ((hb.block _ (aO HZ3.o)).trans HZ3.o);obtain⟨⟨y0,y1,y2,y3⟩,fz⟩:=Mt za.o;have f0:=fz 0;have f1:=fz 1;have f2:=fz 2;have f3:=fz 3;clear hb fz uW HI3 HZ3 cs;unfold exV;go_wp2_with fail;obtain⟨q1,q2,q3⟩:=OX (.int .i64 2) (.int .i64 0) (.string s) (.slice none 0 0) qB.o HI4.o bf.o;exact bodyPost_ret (v:=exV 2 0 s .nil none 0) abo rfl ⟨_,rfl,⟨2,0,s,.nil,none,0,rfl,⟨⟨aeO,wF,HS.o,nil_le⟩,aeN⟩,λ_ _=>trivial⟩,q1,q2⟩
 ·have hd0:((d:Int)==0)=false:=by rw[beq_eq_false_iff_ne];omega
  have HX:aj (vk T 3 0):=ah (rG.o hC).2.1;have tY:=ah (rG.o hC).1;clear rG;go_wp2_with fail;refine(HX.o w2 H hs HI2.o).mono ?_;rintro e w4 ⟨v,rfl,hex,U8,Oj⟩;obtain⟨op,n,nm,kids,ao,cap,rfl,hok,hst⟩:=hex;have qB:=ah (HM.o.trans U8);have kK:=ah hok;have HST:=ah (hst.mono HW2.o);have HI4:=ah Oj;have za:aj (w4.heap[w.heap.size]? =some (.cells IW 72 (0,0))):=ah (U8.keep HZ2.o aeR);have WU:aj (w.heap.size+1<=w4.heap.size):=ah (by have:=(aO za.o);omega);clear hok hst U8 Oj;obtain⟨⟨y0,y1,y2,y3⟩,fz⟩:=Mt za.o;have f0:=fz 0;have f1:=fz 1;have f2:=fz 2;have f3:=fz 3;have D7:w.heap.size<w4.heap.size:=WU.o;clear fz;unfold exV;go_wp2_with fail;have HF:aj (MyP (3*K) T H hs w (.returned (exV 3 0 ⟨#[113]⟩ (.cons op n nm kids .nil) (some ⟨w4.heap.size,0,none⟩) 1)) (((((w4.setCell ⟨w.heap.size,0,none⟩ (.int .i64 3)).setCell ⟨w.heap.size,1,none⟩ (.int .i64 0)).setCell ⟨w.heap.size,2,none⟩ (.string ⟨#[113]⟩)).setCell ⟨w.heap.size,3,none⟩ (.slice (some ⟨w4.heap.size,0,none⟩) 1 1)).alloc (.cells #[.int .i64 op,.int .i64 n,.string nm,.slice ao kids.len cap] 72))):=by
   obtain⟨q1,q2,q3⟩:=OX (.int .i64 3) (.int .i64 0) (.string ⟨#[113]⟩) (.slice (some ⟨w4.heap.size,0,none⟩) 1 1) qB.o HI4.o bf.o;generalize hW:World.setCell (World.setCell (World.setCell (World.setCell w4 _ _) _ _) _ _) _ _=W at *;have hsz:W.heap.size=w4.heap.size:=by rw[<- hW];simp[World.setCell]
   refine ah ⟨_,rfl,⟨3,0,⟨#[113]⟩,.cons op n nm kids .nil,_,1,rfl,⟨⟨aeO,wF,aeP,agw⟩,by have h1:=kK.o.2;have h2:=tY.o;simp only[yI];omega⟩,?_⟩,q1.trans (TF.of_below (ak _ _)),q2.below (ak _ _)⟩;rw[<- hsz];exact KG (heap_alloc_new _ _) agH kK.o.1 (((HST.o.next q3).next (bS (ak _ _))).mono (jl _))
  exact bodyPost_ret (v:=exV 3 0 ⟨#[113]⟩ (.cons op n nm kids .nil) (some ⟨w4.heap.size,0,none⟩) 1) (by simp[results,Tryz.results50,go_sem,exV,bT.len,y0,y1,y2,y3,D7]) rfl HF.o
 ·have hd0:((d:Int)==0)=false:=by rw[beq_eq_false_iff_ne];omega
  have hD3: ¬((k:Int)<2):=agH
  have hD4: ¬((k:Int)<7):=agH
  have hD5:((k:Int)==7)=false:=acy
  have HX:aj (vk T K ((d:Int) -1)):=ah (rG.o hD2).2.2;have tY:=ah (rG.o hD2).1;clear rG;have hwd:IntKind.i64.wrap ((d:Int) -1)=(d:Int) -1:=IntWalk.i64_in _ agH;go_upto_region 10 with fail;generalize xI:World.alloc w2 _=W5;obtain⟨ga,hga,kg,-,HA5,-⟩:=qD xI;have gL:=ah (HI2.o.below kg.o);have fZ:=ah (HM.o.trans (TF.of_below kg.o));have gI:aj (W5.heap[w.heap.size]? =some (.cells IW 72 (0,0))):=ah ((kg.o.block _ (aO HZ2.o)).trans HZ2.o);have nX:aj (w.heap.size<ga):=ah (by rw[<- hga];exact HW2.o);have tZ:aj (w.heap.size+1<=W5.heap.size):=ah (by have:=(aO gI.o);omega);rw[hga];clear xI hga kg HZ2 HM HI2 HN2;have K0: ∀w',dN w' T H hs->w'.cell? ⟨T.bm,0,none⟩=some (.pointer (some ⟨T.bt,0,none⟩)):=λw' h=>h.ptr;have KO: ∀w',TF T W5 w'->∀j,j<6->∃z,w'.cell? ⟨ga,j,none⟩=some (.int .i64 z)∧bY z:=λw' h j hj=>by obtain⟨z,h1,h2⟩:=aT7 j hj;exact⟨z,(bP (h.keep HA5.o (by have:=bf.o.t;have:=nX.o;omega)) h1).2,h2⟩
  have hd1:TF T W5 (W5.drewN 1):=TF.of_below (below_drewN (au _ _) 1);have hd2:dN (W5.drewN 1) T H hs:=gL.o.below (below_drewN (au _ _) 1);refine eu agG rfl ?_;refine dD 0 19 [] [[],[],[1],[1,2],[1,2,3],[],[5],[1,2,3,4,5,6],[0,1,2,3,4,5,6,7],[0,1,2,3,4,5,6,7,8],[],[],[11],[1,2,3,4,5,6,7,10,11,12],[],[],[15],[1,2,3,4,5,6,7,10,11,12,13,14,15,16],[0,1,2,3,4,5,6,7,8,9,10,11,12,13,14,15,16,17],[0,1,2,3,4,5,6,7,8,9,10,11,12,13,14,15,16,17,18]] [[],[],[],[],[],[],[],[],[],[],[],[],[],[],[],[],[],[],[]] (λ_ w'=>TF T W5 w'∧dN w' T H hs) (λw w'=>TF T w w') [53,54,55,56,57,58,59,60,61,62,63,64,65,66,67,68,69,70,71] rfl rfl ahS agG agG agG agG agG ahS (λ_=>TF.refl _ _) ahS ⟨hd1,hd2⟩ ?_;simp only[jH,nY]
  iterate 7
   apply bZ.step
   case bL=>intro c A w' hok hC hO hD;have e7:=hO 7 ahS;have e0:=hO 0 ahS;simp[Act.eval]at e7 e0;simp[Act.eval]at hD;simp[go_sem,gd,Oper.wp,hD,e7,e0,K0,hC.2];exact aV.mk (TF.refl _ _) hC (cB.mk _ _)
   try simp only[dY]
  refine bZ.some (λv _=> ∃r:Nat,v= .int .i64 (r:Int)∧r<6) (λ_ _ _ _ h=>h) ?_ ?_
  ·intro c A w' hok hC hO hD;simp[Act.eval]at hD;simp[go_sem,gd,Oper.wp,hD];refine(kW T H hs 6 w' aeO hC.2).mono ?_;rintro e w2 ⟨r,rfl,h1,-,hM,hI⟩;exact aV.mk hM ⟨hC.1.trans hM,hI⟩ ⟨r,rfl,by have:=h1 agI;omega⟩
  refine bZ.some (λv w'=> ∃r:Nat,v= .pointer (some ⟨ga,r,none⟩)∧r<6) (λ_ _ _ _ h=>h) ?_ ?_
  ·intro c A w' hok hC hO hD;simp[Act.eval]at hD;obtain⟨h53,r,hr,h1⟩:=hD;have hb0:(0:Int)<=(r:Int):=by omega
   have hb1:(r:Int)<6:=agH
   simp[go_sem,gd,Oper.wp,h53,hr,hb0,hb1];exact aV.mk (TF.refl _ _) hC (⟨r,rfl,h1⟩)
  try simp only[dY]
  refine bZ.some (λv w'=> ∃z:Int,v= .int .i64 z∧bY z) (λ_ _ _ _ h=>h) ?_ ?_
  ·intro c A w' hok hC hO hD;simp[Act.eval]at hD;obtain⟨r,hr,h1⟩:=hD;obtain⟨z,hz,hzI⟩:=KO w' hC.1 r h1;simp[go_sem,gd,Oper.wp,hr,hz];exact aV.mk (TF.refl _ _) hC (⟨z,rfl,hzI⟩)
  iterate 3
   apply bZ.step
   case bL=>intro c A w' hok hC hO hD;have e0:=hO 0 ahS;have e1:=hO 1 ahS;simp[Act.eval]at e0 e1;simp[Act.eval]at hD;simp[go_sem,gd,Oper.wp,hD,e0,e1,hwd];exact aV.mk (TF.refl _ _) hC (cB.mk _ _)
   try simp only[dY]
  refine bZ.some (λv w'=>XD K (w.heap.size+1) v w') (λv w1 w' hle h=>h.next (TF.NZ hle aeR)) ?_ ?_
  ·intro c A w' hok hC hO hD;simp[Act.eval]at hD;simp[go_sem,gd,Oper.wp,hD];refine(HX.o w' H hs hC.2).mono ?_;rintro e w3 ⟨v,rfl,h1,h2,h3⟩;exact aV.mk h2 ⟨hC.1.trans h2,h3⟩ (h1.mono (aJ tZ.o hC.1.size))
  iterate 3
   apply bZ.step
   case bL=>intro c A w' hok hC hO hD;have e0:=hO 0 ahS;have e1:=hO 1 ahS;simp[Act.eval]at e0 e1;simp[Act.eval]at hD;simp[go_sem,gd,Oper.wp,hD,e0,e1,hwd];exact aV.mk (TF.refl _ _) hC (cB.mk _ _)
   try simp only[dY]
  refine bZ.some (λv w'=>XD K (w.heap.size+1) v w') (λv w1 w' hle h=>h.next (TF.NZ hle aeR)) ?_ ?_
  ·intro c A w' hok hC hO hD;simp[Act.eval]at hD;simp[go_sem,gd,Oper.wp,hD];refine(HX.o w' H hs hC.2).mono ?_;rintro e w3 ⟨v,rfl,h1,h2,h3⟩;exact aV.mk h2 ⟨hC.1.trans h2,h3⟩ (h1.mono (aJ tZ.o hC.1.size))
  try simp only[dY]
  refine bZ.some (λv w'=>XD (3*K) (w.heap.size+1) v w') (λv w1 w' hle h=>h.next (TF.NZ hle aeR)) ?_ ?_
  ·intro c A w' hok hC hO hD;simp[Act.eval]at hD;obtain⟨⟨z,hz,hzI⟩,⟨op,n,nm,kids,ao,cap,hv,hok1,R3⟩,op',n',nm',iw,mh,cap',hv',hok2,by5⟩:=hD;unfold exV at hv hv';simp[go_sem,gd,Oper.wp,hz,hv,hv'];refine(Fw z op n nm kids ao cap op' n' nm' iw mh cap' w').mono ?_;rintro e w6 ⟨g,rfl,hg,hcell,hb⟩;exact aV.mk (TF.of_below hb) ⟨hC.1.trans (TF.of_below hb),hC.2.below hb⟩ ⟨z,0,⟨#[]⟩,.cons op n nm kids (.cons op' n' nm' iw .nil),some ⟨g,0,none⟩,2,rfl,⟨⟨hzI,wF,qL,agw⟩,by have h1:=hok1.2;have h2:=hok2.2;have h3:=tY.o;simp only[yI];omega⟩,KH hcell (aJ (aJ tZ.o hC.1.size) hg) hok1.1 (R3.next (bS hb)) hok2.1 (by5.next (bS hb))⟩
  try simp only[dY]
  refine bZ.done ?_;intro wz dL
  try simp only[jH]
  intro v0 h0 v1 h1 v2 h2 v3 h3 v4 h4 v5 h5 v6 h6 v7 h7 v8 h8 v9 h9 v10 h10 v11 h11 v12 h12 v13 AO v14 uM v15 BG v16 h16 v17 JJ v18 h18;clear h0 h1 h2 h3 h4 h5 h6 h7 h8 h9 h10 h11 h12 AO uM BG h16 JJ;obtain⟨op',n',nm',iw,mh,cap',rfl,hok,hst⟩:=h18;clear K0 KO hd1 hd2 hwd;refine MK ?_;go_simp;have Q9:aj (wz.heap[w.heap.size]? =some (.cells IW 72 (0,0))):=ah (dL.1.keep gI.o aeR);obtain⟨⟨y0,y1,y2,y3⟩,fz⟩:=Mt Q9.o;have f0:=fz 0;have f1:=fz 1;have f2:=fz 2;have f3:=fz 3;have HMz:=ah (fZ.o.trans dL.1);have Cq:=ah dL.2;have br3:=ah hok;have br7:=ah hst;clear fz dL hok hst;unfold exV;refine dZ 19 [[],[],[1],[1,2],[1,2,3],[],[5],[1,2,3,4,5,6],[0,1,2,3,4,5,6,7],[0,1,2,3,4,5,6,7,8],[],[],[11],[1,2,3,4,5,6,7,10,11,12],[],[],[15],[1,2,3,4,5,6,7,10,11,12,13,14,15,16],[0,1,2,3,4,5,6,7,8,9,10,11,12,13,14,15,16,17],[0,1,2,3,4,5,6,7,8,9,10,11,12,13,14,15,16,17,18]] rfl rfl rfl rfl rfl agG agG agG ?_;simp[go_sem,Oper.wp,y0,y1,y2,y3,f0,f1,f2,f3];refine fU rfl ?_;go_simp;go_wp2_with fail;obtain⟨q1,q2,q3⟩:=OX (.int .i64 op') (.int .i64 n') (.string nm') (.slice mh iw.len cap') HMz.o Cq.o bf.o;exact bodyPost_ret (v:=exV op' n' nm' iw mh cap') (by simp[results,Tryz.results50,go_sem,exV,y0,y1,y2,y3]) rfl ⟨_,rfl,⟨op',n',nm',iw,mh,cap',rfl,br3.o,(br7.o.next q3).mono (jl _)⟩,q1,q2⟩
theorem VQ (T:Tp):vk T 3 0∧vk T 9 1∧vk T 27 2:=by
 have h0:vk T 3 0:=FN T 0 1 agI agI (λh=>absurd rfl h);have h1:vk T 9 1:=FN T 1 3 agI agI (λ_=>⟨agI,h0,h0⟩);exact⟨h0,h1,FN T 2 9 agI agI (λ_=>⟨agI,h0,h1⟩)⟩
theorem VP {T:Tp} {K:Nat} {d:Int} (hK:K<=41) (h:vk T K d):ow T d:=λw H hs hI=>(h w H hs hI).mono (by
 rintro e w' ⟨v,rfl,⟨op,n,nm,kids,ao,cap,h1,⟨h2,h3⟩,h4⟩,h5⟩;exact⟨v,rfl,⟨op,n,nm,kids,ao,cap,h1,⟨h2,agH⟩,h4⟩,h5⟩)
theorem kP (T:Tp) (d:Nat) (h:d<=2):ow T (d:Int):=by
 have:d=0∨d=1∨d=2:=agH
 obtain⟨h0,h1,h2⟩:=VQ T;rcases this with rfl|rfl|rfl
 ·exact VP agI h0
 ·exact VP agI h1
 ·exact VP agI h2
def xR (zs:List Int) (a:Nat) (n:Int):Int:=if zs.length<=a then 0 else if n<1 then 0 else(zs[a]?.getD 0)%n
theorem YS {zs:List Int} {a:Nat} {n:Int} (h:zs.length<=a):xR zs a n=0:=by unfold xR;rw[if_pos h]
theorem YT {zs:List Int} {a:Nat} {n:Int} (h:n<1):xR zs a n=0:=by unfold xR;split <;> simp[h]
theorem ai3 {zs:List Int} {a:Nat} {n:Int} (h:a<zs.length) (hn: ¬n<1):xR zs a n=zs[a]%n:=by unfold xR;rw[if_neg agH,if_neg hn];simp[h]
def an4 (T:Tp) (n v:Int) (w:World) (e:Ending) (w':World):Prop:=e= .returned (.int .i64 v)∧0<=v∧(0<n->v<n)∧v<=255∧w.grownBy w' (some T.bt)∧oL w' T
theorem Kv {T:Tp} {n r v:Int} {w w':World} (hv:v=r) (h0:0<=r) (h1:0<n->r<n) (h2:r<=255) (h3:w.grownBy w' (some T.bt)) (h4:oL w' T):an4 T n v w (.returned (.int .i64 r)) w':=by subst hv;exact⟨rfl,h0,h1,h2,h3,h4⟩
theorem at7 (T:Tp) (n:Int) (w:World) (hn:bY n) (hI:oL w T) (a:Nat) (hblk:w.heap[T.bt]? =some (.cells #[.slice T.ao T.zs.length T.cap,.int .i64 a] 65 (0,0))):
 Calls Tryz.prog 13 #[.pointer (some ⟨T.bt,0,none⟩),.int .i64 n] w (an4 T n (xR T.zs a n) w):=by
 have HI:=ah hI;have HB:=ah hblk;have hlen:=hI.len;obtain⟨hn1,hn2⟩:=hn;have c0:w.cell? ⟨T.bt,0,none⟩=some (.slice T.ao T.zs.length T.cap):=(bP hblk (j:=0) rfl).2;have c1:w.cell? ⟨T.bt,1,none⟩=some (.int .i64 (a:Int)):=(bP hblk (j:=1) rfl).2;clear hI hblk;by_cases h1:T.zs.length<=a
 ·have hd:decide ((T.zs.length:Int)<=(a:Int))=true:=by rw[decide_eq_true_iff];omega
  go_enter Tryz.func13,Tryz.ntmps13;go_wp2_with fail;go_quiet (fail);go_wp2_with fail;go_ret;exact Kv (YS h1) agH agH agH (pX _ _) (HI.o.draws _)
 ·have hd:decide ((T.zs.length:Int)<=(a:Int))=false:=by rw[decide_eq_false_iff_not];omega
  by_cases h2:n<1
  ·have hd2:decide (n<1)=true:=by rw[decide_eq_true_iff];omega
   go_enter Tryz.func13,Tryz.ntmps13;go_wp2_with fail;go_quiet (fail);go_wp2_with fail;go_ret;exact Kv (YT h2) agH agH agH (pX _ _) (HI.o.draws _)
  ·have hd2:decide (n<1)=false:=by rw[decide_eq_false_iff_not];omega
   go_enter Tryz.func13,Tryz.ntmps13;go_wp2_with fail;go_quiet (fail);generalize hW:World.drewN w _=W1;have HI1:aj (oL W1 T):=ah aev;have qI:aj (w.grownBy W1 (some T.bt)):=ah (by rw[<- hW];exact pX _ _);have HB1:aj (W1.heap[T.bt]? =some (.cells #[.slice T.ao T.zs.length T.cap,.int .i64 (a:Int)] 65 (0,0))):=ah aav;clear hW c0 c1 HI HB hd hd2;have c1:W1.cell? ⟨T.bt,1,none⟩=some (.int .i64 (a:Int)):=(bP HB1.o (j:=1) rfl).2;have f1:W1.frozen? ⟨T.bt,1,none⟩=false:=bK HB1.o;go_upto_region 4 with fail;generalize hW2:World.setCell W1 _ _=W2;have HB2:aj (W2.heap[T.bt]? =some (.cells #[.slice T.ao T.zs.length T.cap,.int .i64 ((a:Int)+1)] 65 (0,0))):=ah (by rw[<- hW2,dI HB1.o];rfl);have HG2:aj (W1.grownBy W2 (some T.bt)):=ah (by rw[<- hW2];exact bU _ _ _);have Nt:aj (FX W2 T.B0 T.zs T.ao):=ah (HI1.o.O6.below (cK HG2.o T.t0 HI1.o.b0));have HI2:aj (oL W2 T):=ah ⟨⟨a+1,agH,by rw[HB2.o];rfl⟩,Nt.o,HI1.o.len⟩;have HG:=ah (LG qI.o HG2.o);clear hW2 c1 f1 qI HG2 HB1;have ha:a<T.zs.length:=agH
   obtain⟨bb,off,hao,hbb,hcell,hz0,hz1⟩:=Nt.o a ha;have c0:W2.cell? ⟨T.bt,0,none⟩=some (.slice T.ao T.zs.length T.cap):=(bP HB2.o (j:=0) rfl).2;have c1:W2.cell? ⟨T.bt,1,none⟩=some (.int .i64 ((a:Int)+1)):=(bP HB2.o (j:=1) rfl).2;rw[hao]at c0;have hzv:=ah (ai3 (zs:=T.zs) (a:=a) (n:=n) ha agH);generalize T.zs[a]=z at *;have hw1:(a:Int)+1 -1=(a:Int):=agH
   have hw2:IntKind.i64.wrap (a:Int)=(a:Int):=IntWalk.i64_in _ agH;have hb0:(0:Int)<=(a:Int):=agH
   have hb1:(a:Int)<(T.zs.length:Int):=agH
   have Av:=ah hao;clear hao HI1;go_quiet (fail);go_wp2_with fail;go_ret;have e1:=Int.emod_nonneg z (show n≠0 by omega);have e2:=Int.emod_lt_of_pos z (show 0<n by omega);have e3:z%n<=255:=by
    by_cases hzn:z<n
    ·rw[Int.emod_eq_of_lt hz0 hzn];exact hz1
    ·omega
   exact Kv hzv.o e1 (λ_=>e2) e3 (LG HG.o (pX _ _)) (HI2.o.draws _)
theorem dN.tf {w w':World} {T:Tp} {H:Option Nat} {hs:List ByteArray} (hI:dN w T H hs) (h5:w.grownBy w' (some T.bt)) (h6:oL w' T):dN w' T H hs:=by
 refine⟨h6,?_,hI.nt,hI.nm,hI.ok,hI.few⟩;obtain⟨th,left,a,b,c,d,vH,k3,k4,k5,k6⟩:=hI.Bw;refine⟨th,left,a,b,c,d,vH,k3,(h5.block _ hI.lt (by simp;exact T.tm.symm)).trans k4,k5,⟨k6.own.1,?_⟩,λ_ _ _ _=>trivial⟩;rcases k6.own.2 with h1|⟨g,cap,cur,h1,h2,h3,h4⟩
 ·exact .inl h1
 ·exact .inr ⟨g,cap,cur,h1,h2,(h5.block g (aO h3) aaF).trans h3,h4⟩
theorem VT (T:Tp) (H:Option Nat) (hs:List ByteArray) (n:Int) (w:World) (hn:bY n) (hp:0<n) (hI:dN w T H hs): ∃r:Nat,(r:Int)<n∧∀W,dN W T H hs->W.heap[T.bt]? =w.heap[T.bt]?->
 Calls Tryz.prog 13 #[.pointer (some ⟨T.bt,0,none⟩),.int .i64 n] W (λe w'=>e= .returned (.int .i64 r)∧TF T W w'∧dN w' T H hs):=by
 obtain⟨a,-,hb⟩:=hI.tape.blk;have h0:0<=xR T.zs a n:=by
  unfold xR;split
  ·omega
  ·split
   ·omega
   ·exact Int.emod_nonneg _ agH
 have h1:xR T.zs a n<n:=by
  unfold xR;split
  ·omega
  ·split
   ·omega
   ·exact Int.emod_lt_of_pos _ hp
 refine⟨(xR T.zs a n).toNat,agH,λW hW e=> ?_⟩;refine(at7 T n W hn hW.tape a (e.trans hb)).mono ?_;rintro e w' ⟨rfl,-,-,-,h5,h6⟩;exact⟨by rw[Int.toNat_of_nonneg h0],h5,hW.tf h5 h6⟩
end Go.Proofs.YtdoplekppjkkpaaGreatDoor
