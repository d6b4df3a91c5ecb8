/- Contract of the maker's expr: it returns an expression that lies in new memory. And what hangs on it. -/
import Derived.Test.YtcjgfgkllmldpaaGreatDoorGMB
set_option linter.unusedSimpArgs false
set_option linter.unusedVariables false
set_option maxHeartbeats 40000000
set_option maxRecDepth 1000000
namespace Go.Proofs.YtcjgfgkllmldpaaGreatDoor
open Go.RowKit
open Md
theorem PI {w:World} {K:Act->Prop} {a:Act} (h:K a):eY w K [] a:=h
def XE (B:Nat) (v:Value) (w:World):Prop:= ∃op n nm kids ao cap,v=exV op n nm kids ao cap∧Sq op n nm kids∧iH B w (λw2=>kids.At w2 w2.heap.size ao 0)
theorem XE.next {B:Nat} {v:Value} {w w':World} (h:XE B v w) (ha:kT B w w'):XE B v w':=by
 obtain⟨op,n,nm,kids,ao,cap,h1,h2,h3⟩:=h;exact⟨op,n,nm,kids,ao,cap,h1,h2,h3.next ha⟩
theorem XE.mono {B B':Nat} {v:Value} {w:World} (h:XE B' v w) (hB:B<=B'):XE B v w:=by
 obtain⟨op,n,nm,kids,ao,cap,h1,h2,h3⟩:=h;exact⟨op,n,nm,kids,ao,cap,h1,h2,h3.mono hB⟩
def MxP (T:Tp) (H:Option Nat) (hs:List ByteArray) (w:World) (e:Ending) (w':World):Prop:= ∃v,e= .returned v∧XE w.heap.size v w'∧TF T w w'∧eH w' T H hs
def TI (T:Tp) (d:Int):Prop:= ∀w H hs,eH w T H hs->Calls Tryz.prog 88 #[.pointer (some ⟨T.bm,0,none⟩),.int .i64 d] w (MxP T H hs w)
def XD (K B:Nat) (v:Value) (w:World):Prop:= ∃op n nm kids ao cap,v=exV op n nm kids ao cap∧(qR op n nm kids∧zx kids+1<=K)∧iH B w (λw2=>kids.At w2 w2.heap.size ao 0)
theorem XD.next {K B:Nat} {v:Value} {w w':World} (h:XD K B v w) (ha:kT B w w'):XD K B v w':=by
 obtain⟨op,n,nm,kids,ao,cap,h1,h2,h3⟩:=h;exact⟨op,n,nm,kids,ao,cap,h1,h2,h3.next ha⟩
theorem XD.mono {K B B':Nat} {v:Value} {w:World} (h:XD K B' v w) (hB:B<=B'):XD K B v w:=by
 obtain⟨op,n,nm,kids,ao,cap,h1,h2,h3⟩:=h;exact⟨op,n,nm,kids,ao,cap,h1,h2,h3.mono hB⟩
def MyP (K:Nat) (T:Tp) (H:Option Nat) (hs:List ByteArray) (w:World) (e:Ending) (w':World):Prop:= ∃v,e= .returned v∧XD K w.heap.size v w'∧TF T w w'∧eH w' T H hs
def vP (T:Tp) (K:Nat) (d:Int):Prop:= ∀w H hs,eH w T H hs->Calls Tryz.prog 88 #[.pointer (some ⟨T.bm,0,none⟩),.int .i64 d] w (MyP K T H hs w)
theorem wS:cO 0:=ae8
theorem rH:(⟨#[]⟩:ByteArray).size<=maxLen:=afa
theorem nil_le:bV.len .nil<=maxLen:=afa
theorem Lx (n:Int) (w:World):
 Calls Tryz.prog 25 #[.int .i64 n] w λe w'=>e= .returned (exV 1 n ⟨#[]⟩ .nil none 0)∧Below w.heap.size w w':=by
 go_enter Tryz.func25,Tryz.ntmps25;go_wp2;exact bodyPost_ret (v:=exV 1 n ⟨#[]⟩ .nil none 0) (by simp[results,Tryz.results25,go_sem,exV,bV.len]) rfl ⟨rfl,aA _ _⟩
def Szs (n:Nat) (cs:Array Value):Prop:= ∀j,j<n->∃s:ByteArray,cs[j]? =some (.string s)∧s.size<=maxLen
def nm7:Array Value:= #[.string ⟨#[97]⟩,.string ⟨#[98]⟩,.string ⟨#[120]⟩,.string ⟨#[121]⟩,.string ⟨#[118]⟩,.string ⟨#[120]⟩,.string ⟨#[121]⟩]
theorem bi5:Szs 7 nm7:=λj hj=>by
 have:j=0∨j=1∨j=2∨j=3∨j=4∨j=5∨j=6:=ahf
 rcases this with rfl|rfl|rfl|rfl|rfl|rfl|rfl <;> exact⟨_,rfl,afa⟩
def bK8:Array Value:= #[.int .i64 6,.int .i64 7,.int .i64 8,.int .i64 11,.int .i64 13,.int .i64 17]
theorem bj6: ∀j,j<6->∃z,bK8[j]? =some (.int .i64 z)∧cO z:=λj hj=>by
 have:j=0∨j=1∨j=2∨j=3∨j=4∨j=5:=ahf
 rcases this with rfl|rfl|rfl|rfl|rfl|rfl <;> exact⟨_,rfl,ae8⟩
theorem RX {T:Tp} {H:Option Nat} {hs:List ByteArray} {w w4:World} (a b c d:Value) (hM:TF T w w4) (hI:eH w4 T H hs) (h0:Old T H w.heap.size):
 TF T w ((((w4.setCell ⟨w.heap.size,0,none⟩ a).setCell ⟨w.heap.size,1,none⟩ b).setCell ⟨w.heap.size,2,none⟩ c).setCell ⟨w.heap.size,3,none⟩ d)∧
 eH ((((w4.setCell ⟨w.heap.size,0,none⟩ a).setCell ⟨w.heap.size,1,none⟩ b).setCell ⟨w.heap.size,2,none⟩ c).setCell ⟨w.heap.size,3,none⟩ d) T H hs∧
 kT (w.heap.size+1) w4 ((((w4.setCell ⟨w.heap.size,0,none⟩ a).setCell ⟨w.heap.size,1,none⟩ b).setCell ⟨w.heap.size,2,none⟩ c).setCell ⟨w.heap.size,3,none⟩ d):=by
 refine⟨(((hM.set _ _ (aD _)).set _ _ (aD _)).set _ _ (aD _)).set _ _ (aD _),(((hI.ZI h0 _ _ (aD _)).ZI h0 _ _ (aD _)).ZI h0 _ _ (aD _)).ZI h0 _ _ (aD _),?_⟩;exact(((iM w4 ⟨w.heap.size,0,none⟩ a (Nat.lt_succ_self _)).trans (iM _ ⟨w.heap.size,1,none⟩ b (Nat.lt_succ_self _))).trans (iM _ ⟨w.heap.size,2,none⟩ c (Nat.lt_succ_self _))).trans (iM _ ⟨w.heap.size,3,none⟩ d (Nat.lt_succ_self _))
theorem Iw (T:Tp) (d K:Nat) (hd:d<=100) (hK:1<=K) (ih:d≠0->3<=K∧vP T 3 0∧vP T K ((d:Int) -1)):vP T (3*K) (d:Int):=by
 intro w H hs hI;have HI0:=ah hI;have oH:=ah ih;have HK:=ah hK;have bJ:aj (Old T H w.heap.size):=ah hI.old;clear hI ih hK;go_enter Tryz.func88,Tryz.ntmps88;go_upto_region 2 with fail;generalize hW:World.alloc (World.alloc w _) _=W;have HB:aj (Below w.heap.size w W):=ah aa3;have HZ:aj (W.heap[w.heap.size]? =some (.cells KW 80 (0,0))):=ah (by rw[<- hW,heap_alloc_old _ _ ahh];exact heap_alloc_new _ _);have HN:aj (W.heap[w.heap.size+1]? =some (.cells nm7 9 (0,0))):=ah (by
  rw[<- hW];have e:(World.alloc w (.cells KW 80)).heap.size=w.heap.size+1:=ahh
  rw[<- e];exact heap_alloc_new _ _)
 have HI:=ah (HI0.o.below HB.o);clear hW;have c0:=HI.o.ptr;go_wp2_with fail;refine(lK T H hs 10 _ ae8 HI.o).mono ?_;rintro e w2 ⟨k,rfl,hk1,hk2,hM,hI2⟩;have HM:=ah ((TF.of_below (T:=T) HB.o).trans hM);have HZ2:aj (w2.heap[w.heap.size]? =some (.cells KW 80 (0,0))):=ah (hM.keep HZ.o afh);have HN2:aj (w2.heap[w.heap.size+1]? =some (.cells nm7 9 (0,0))):=ah (hM.keep HN.o afh);have HI2:=ah hI2;have hk10:k<10:=by have:=hk1 ahg;omega
 clear hM hI2 HZ HN HI c0 HB hk1 hk2;have HW2:aj (w.heap.size+1<=w2.heap.size):=ah (by have:=(aI HZ2.o);omega);have hcase:(k<2∨(2<=k∧d=0∧7<=k))∨(2<=k∧k<7)∨(k=7∧d≠0)∨(8<=k∧d≠0):=ahf
 rcases hcase with hA|⟨hB1,hB2⟩|⟨rfl,hC⟩|⟨hD1,hD2⟩
 ·have c0:=HI2.o.ptr;have hA':((k:Int)<2)∨(¬((k:Int)<2)∧((d:Int)==0)=true∧(7:Int)<=(k:Int)):=by
   rcases hA with hA|⟨h1,h2,h3⟩
   ·exact .inl ahf
   ·exact .inr ⟨ahf,by simp[h2],ahf⟩
  clear hA oH;rcases hA' with hA|⟨hA1,hA2,hA3⟩
  all_goals go_wp2_with fail;refine(lK T H hs 4 _ ae8 HI2.o).mono ?_;rintro e w3 ⟨r,rfl,hr1,hr2,J8,El⟩;have vN:=ah (HM.o.trans J8);have HI3:=ah El;have HZ3:aj (w3.heap[w.heap.size]? =some (.cells KW 80 (0,0))):=ah (J8.keep HZ2.o afh);clear J8 El hr1;go_wp2_with fail;refine(Lx r w3).mono ?_;rintro e w4 ⟨rfl,hb⟩;have tF:=ah (vN.o.trans (TF.of_below hb));have HI4:=ah (HI3.o.below hb);have zX:aj (w4.heap[w.heap.size]? =some (.cells KW 80 (0,0))):=ah ((hb.block _ (aI HZ3.o)).trans HZ3.o);obtain⟨⟨y0,y1,y2,y3⟩,fz⟩:=Pn zX.o;have f0:=fz 0;have f1:=fz 1;have f2:=fz 2;have f3:=fz 3;clear hb fz vN HI3 HZ3;unfold exV;go_wp2_with fail;obtain⟨q1,q2,q3⟩:=RX (.int .i64 1) (.int .i64 r) (.string ⟨#[]⟩) (.slice none 0 0) tF.o HI4.o bJ.o;exact bodyPost_ret (v:=exV 1 r ⟨#[]⟩ .nil none 0) abt rfl ⟨_,rfl,⟨1,r,⟨#[]⟩,.nil,none,0,rfl,⟨⟨ae8,afM,rH,nil_le⟩,aeZ⟩,λ_ _=>trivial⟩,q1,q2⟩
 ·have c0:=HI2.o.ptr;have hB3: ¬((k:Int)<2):=by omega
  have hB4:((k:Int)<7):=ahf
  have hB5: ¬((7:Int)<=(k:Int)):=ahf
  clear oH;cases hd0:((d:Int)==0)
  all_goals
   go_wp2_with fail;refine(lK T H hs 7 _ ae8 HI2.o).mono ?_;rintro e w3 ⟨r,rfl,hr1,hr2,J8,El⟩;have hr7:r<7:=adG
   have vN:=ah (HM.o.trans J8);have HI3:=ah El;have HZ3:aj (w3.heap[w.heap.size]? =some (.cells KW 80 (0,0))):=ah (J8.keep HZ2.o afh);obtain⟨s,hs1,hs2⟩:=bi5 r hr7;have cs:w3.cell? ⟨w.heap.size+1,r,none⟩=some (.string s):=(bS (J8.keep HN2.o afh) hs1).2;have bW7:(0:Int)<=(r:Int):=ahf
   have bW8:(r:Int)<7:=ahf
   have HS:=ah hs2;clear J8 El hr1 hs1 hs2 hr2;go_wp2_with fail;refine(Iy s w3).mono ?_;rintro e w4 ⟨rfl,hb⟩;have tF:=ah (vN.o.trans (TF.of_below hb));have HI4:=ah (HI3.o.below hb);have zX:aj (w4.heap[w.heap.size]? =some (.cells KW 80 (0,0))):=ah ((hb.block _ (aI HZ3.o)).trans HZ3.o);obtain⟨⟨y0,y1,y2,y3⟩,fz⟩:=Pn zX.o;have f0:=fz 0;have f1:=fz 1;have f2:=fz 2;have f3:=fz 3;clear hb fz vN HI3 HZ3 cs;unfold exV;go_wp2_with fail;obtain⟨q1,q2,q3⟩:=RX (.int .i64 2) (.int .i64 0) (.string s) (.slice none 0 0) tF.o HI4.o bJ.o;exact bodyPost_ret (v:=exV 2 0 s .nil none 0) abt rfl ⟨_,rfl,⟨2,0,s,.nil,none,0,rfl,⟨⟨ae8,wS,HS.o,nil_le⟩,aeZ⟩,λ_ _=>trivial⟩,q1,q2⟩
 ·have hd0:((d:Int)==0)=false:=by rw[beq_eq_false_iff_ne];omega
  have HX:aj (vP T 3 0):=ah (oH.o hC).2.1;have uG:=ah (oH.o hC).1;clear oH;go_wp2_with fail;refine(HX.o w2 H hs HI2.o).mono ?_;rintro e w4 ⟨v,rfl,hex,Xx,R7⟩;obtain⟨op,n,nm,kids,ao,cap,rfl,hok,hst⟩:=hex;have tF:=ah (HM.o.trans Xx);have kK:=ah hok;have HST:=ah (hst.mono HW2.o);have HI4:=ah R7;have zX:aj (w4.heap[w.heap.size]? =some (.cells KW 80 (0,0))):=ah (Xx.keep HZ2.o afh);have HW4:aj (w.heap.size+1<=w4.heap.size):=ah (by have:=(aI zX.o);omega);clear hok hst Xx R7;obtain⟨⟨y0,y1,y2,y3⟩,fz⟩:=Pn zX.o;have f0:=fz 0;have f1:=fz 1;have f2:=fz 2;have f3:=fz 3;have Er:w.heap.size<w4.heap.size:=HW4.o;clear fz;unfold exV;go_wp2_with fail;have HF:aj (MyP (3*K) T H hs w (.returned (exV 3 0 ⟨#[113]⟩ (.cons op n nm kids .nil) (some ⟨w4.heap.size,0,none⟩) 1)) (((((w4.setCell ⟨w.heap.size,0,none⟩ (.int .i64 3)).setCell ⟨w.heap.size,1,none⟩ (.int .i64 0)).setCell ⟨w.heap.size,2,none⟩ (.string ⟨#[113]⟩)).setCell ⟨w.heap.size,3,none⟩ (.slice (some ⟨w4.heap.size,0,none⟩) 1 1)).alloc (.cells #[.int .i64 op,.int .i64 n,.string nm,.slice ao kids.len cap] 80))):=by
   obtain⟨q1,q2,q3⟩:=RX (.int .i64 3) (.int .i64 0) (.string ⟨#[113]⟩) (.slice (some ⟨w4.heap.size,0,none⟩) 1 1) tF.o HI4.o bJ.o;generalize hW:World.setCell (World.setCell (World.setCell (World.setCell w4 _ _) _ _) _ _) _ _=W at *;have hsz:W.heap.size=w4.heap.size:=by rw[<- hW];simp[World.setCell]
   refine ah ⟨_,rfl,⟨3,0,⟨#[113]⟩,.cons op n nm kids .nil,_,1,rfl,⟨⟨ae8,wS,afa,agQ⟩,by have h1:=kK.o.2;have h2:=uG.o;simp only[zx];omega⟩,?_⟩,q1.trans (TF.of_below (aA _ _)),q2.below (aA _ _)⟩;rw[<- hsz];exact Nr (heap_alloc_new _ _) ahf kK.o.1 (((HST.o.next q3).next (bR (aA _ _))).mono (jv _))
  exact bodyPost_ret (v:=exV 3 0 ⟨#[113]⟩ (.cons op n nm kids .nil) (some ⟨w4.heap.size,0,none⟩) 1) (by simp[results,Tryz.results88,go_sem,exV,bV.len,y0,y1,y2,y3,Er]) rfl HF.o
 ·have hd0:((d:Int)==0)=false:=by rw[beq_eq_false_iff_ne];omega
  have hD3: ¬((k:Int)<2):=ahf
  have hD4: ¬((k:Int)<7):=ahf
  have hD5:((k:Int)==7)=false:=acA
  have HX:aj (vP T K ((d:Int) -1)):=ah (oH.o hD2).2.2;have uG:=ah (oH.o hD2).1;clear oH;have hwd:IntKind.i64.wrap ((d:Int) -1)=(d:Int) -1:=IntWalk.i64_in _ ahf;go_upto_region 10 with fail;generalize tT:World.alloc w2 _=W5;obtain⟨ga,hga,iU,-,HA5,-⟩:=oJ tT;have gP:=ah (HI2.o.below iU.o);have fU:=ah (HM.o.trans (TF.of_below iU.o));have gF:aj (W5.heap[w.heap.size]? =some (.cells KW 80 (0,0))):=ah ((iU.o.block _ (aI HZ2.o)).trans HZ2.o);have kV:aj (w.heap.size<ga):=ah (by rw[<- hga];exact HW2.o);have su:aj (w.heap.size+1<=W5.heap.size):=ah (by have:=(aI gF.o);omega);rw[hga];clear tT hga iU HZ2 HM HI2 HN2;have K0: ∀w',eH w' T H hs->w'.cell? ⟨T.bm,0,none⟩=some (.pointer (some ⟨T.bt,0,none⟩)):=λw' h=>h.ptr;have KO: ∀w',TF T W5 w'->∀j,j<6->∃z,w'.cell? ⟨ga,j,none⟩=some (.int .i64 z)∧cO z:=λw' h j hj=>by obtain⟨z,h1,h2⟩:=bj6 j hj;exact⟨z,(bS (h.keep HA5.o (by have:=bJ.o.t;have:=kV.o;omega)) h1).2,h2⟩
  have hd1:TF T W5 (W5.drewN 1):=TF.of_below (below_drewN (ak _ _) 1);have hd2:eH (W5.drewN 1) T H hs:=gP.o.below (below_drewN (ak _ _) 1);refine cK ahe rfl ?_;refine bW 0 19 [] [[],[],[1],[1,2],[1,2,3],[],[5],[1,2,3,4,5,6],[0,1,2,3,4,5,6,7],[0,1,2,3,4,5,6,7,8],[],[],[11],[1,2,3,4,5,6,7,10,11,12],[],[],[15],[1,2,3,4,5,6,7,10,11,12,13,14,15,16],[0,1,2,3,4,5,6,7,8,9,10,11,12,13,14,15,16,17],[0,1,2,3,4,5,6,7,8,9,10,11,12,13,14,15,16,17,18]] [[],[],[],[],[],[],[],[],[],[],[],[],[],[],[],[],[],[],[]] (λ_ w'=>TF T W5 w'∧eH w' T H hs) (λw w'=>TF T w w') [53,54,55,56,57,58,59,60,61,62,63,64,65,66,67,68,69,70,71] rfl rfl aix ahe ahe ahe ahe ahe aix (λ_=>TF.refl _ _) aix ⟨hd1,hd2⟩ ?_;simp only[gJ,kE]
  iterate 7
   apply bH.step
   case cu=>intro c A w' hok hC hO hD;have e7:=hO 7 aix;have e0:=hO 0 aix;simp[Act.eval]at e7 e0;simp[Act.eval]at hD;simp[go_sem,gd,Oper.wp,hD,e7,e0,K0,hC.2];exact aZ.mk (TF.refl _ _) hC (dO.mk _ _)
   try simp only[dI]
  refine bH.some (λv _=> ∃r:Nat,v= .int .i64 (r:Int)∧r<6) (λ_ _ _ _ h=>h) ?_ ?_
  ·intro c A w' hok hC hO hD;simp[Act.eval]at hD;simp[go_sem,gd,Oper.wp,hD];refine(lK T H hs 6 w' ae8 hC.2).mono ?_;rintro e w2 ⟨r,rfl,h1,-,hM,hI⟩;exact aZ.mk hM ⟨hC.1.trans hM,hI⟩ ⟨r,rfl,by have:=h1 ahg;omega⟩
  refine bH.some (λv w'=> ∃r:Nat,v= .pointer (some ⟨ga,r,none⟩)∧r<6) (λ_ _ _ _ h=>h) ?_ ?_
  ·intro c A w' hok hC hO hD;simp[Act.eval]at hD;obtain⟨h53,r,hr,h1⟩:=hD;have hb0:(0:Int)<=(r:Int):=by omega
   have hb1:(r:Int)<6:=ahf
   simp[go_sem,gd,Oper.wp,h53,hr,hb0,hb1];exact aZ.mk (TF.refl _ _) hC (⟨r,rfl,h1⟩)
  try simp only[dI]
  refine bH.some (λv w'=> ∃z:Int,v= .int .i64 z∧cO z) (λ_ _ _ _ h=>h) ?_ ?_
  ·intro c A w' hok hC hO hD;simp[Act.eval]at hD;obtain⟨r,hr,h1⟩:=hD;obtain⟨z,hz,hzI⟩:=KO w' hC.1 r h1;simp[go_sem,gd,Oper.wp,hr,hz];exact aZ.mk (TF.refl _ _) hC (⟨z,rfl,hzI⟩)
  iterate 3
   apply bH.step
   case cu=>intro c A w' hok hC hO hD;have e0:=hO 0 aix;have e1:=hO 1 aix;simp[Act.eval]at e0 e1;simp[Act.eval]at hD;simp[go_sem,gd,Oper.wp,hD,e0,e1,hwd];exact aZ.mk (TF.refl _ _) hC (dO.mk _ _)
   try simp only[dI]
  refine bH.some (λv w'=>XD K (w.heap.size+1) v w') (λv w1 w' hle h=>h.next (TF.QJ hle afh)) ?_ ?_
  ·intro c A w' hok hC hO hD;simp[Act.eval]at hD;simp[go_sem,gd,Oper.wp,hD];refine(HX.o w' H hs hC.2).mono ?_;rintro e w3 ⟨v,rfl,h1,h2,h3⟩;exact aZ.mk h2 ⟨hC.1.trans h2,h3⟩ (h1.mono (aO su.o hC.1.size))
  iterate 3
   apply bH.step
   case cu=>intro c A w' hok hC hO hD;have e0:=hO 0 aix;have e1:=hO 1 aix;simp[Act.eval]at e0 e1;simp[Act.eval]at hD;simp[go_sem,gd,Oper.wp,hD,e0,e1,hwd];exact aZ.mk (TF.refl _ _) hC (dO.mk _ _)
   try simp only[dI]
  refine bH.some (λv w'=>XD K (w.heap.size+1) v w') (λv w1 w' hle h=>h.next (TF.QJ hle afh)) ?_ ?_
  ·intro c A w' hok hC hO hD;simp[Act.eval]at hD;simp[go_sem,gd,Oper.wp,hD];refine(HX.o w' H hs hC.2).mono ?_;rintro e w3 ⟨v,rfl,h1,h2,h3⟩;exact aZ.mk h2 ⟨hC.1.trans h2,h3⟩ (h1.mono (aO su.o hC.1.size))
  try simp only[dI]
  refine bH.some (λv w'=>XD (3*K) (w.heap.size+1) v w') (λv w1 w' hle h=>h.next (TF.QJ hle afh)) ?_ ?_
  ·intro c A w' hok hC hO hD;simp[Act.eval]at hD;obtain⟨⟨z,hz,hzI⟩,⟨op,n,nm,kids,ao,cap,hv,hok1,UK⟩,op',n',nm',iy,mK,cap',hv',hok2,bJ8⟩:=hD;unfold exV at hv hv';simp[go_sem,gd,Oper.wp,hz,hv,hv'];refine(I4 z op n nm kids ao cap op' n' nm' iy mK cap' w').mono ?_;rintro e w6 ⟨g,rfl,hg,hcell,hb⟩;exact aZ.mk (TF.of_below hb) ⟨hC.1.trans (TF.of_below hb),hC.2.below hb⟩ ⟨z,0,⟨#[]⟩,.cons op n nm kids (.cons op' n' nm' iy .nil),some ⟨g,0,none⟩,2,rfl,⟨⟨hzI,wS,rH,agQ⟩,by have h1:=hok1.2;have h2:=hok2.2;have h3:=uG.o;simp only[zx];omega⟩,Ns hcell (aO (aO su.o hC.1.size) hg) hok1.1 (UK.next (bR hb)) hok2.1 (bJ8.next (bR hb))⟩
  try simp only[dI]
  refine bH.done ?_;intro wz dx
  try simp only[gJ]
  intro v0 h0 v1 h1 v2 h2 v3 h3 v4 h4 v5 h5 v6 h6 v7 h7 v8 h8 v9 h9 v10 h10 v11 h11 v12 h12 v13 Om v14 CG v15 R6 v16 h16 v17 h17 v18 h18;clear h0 h1 h2 h3 h4 h5 h6 h7 h8 h9 h10 h11 h12 Om CG R6 h16 h17;obtain⟨op',n',nm',iy,mK,cap',rfl,hok,hst⟩:=h18;clear K0 KO hd1 hd2 hwd;refine PI ?_;go_simp;have TD:aj (wz.heap[w.heap.size]? =some (.cells KW 80 (0,0))):=ah (dx.1.keep gF.o afh);obtain⟨⟨y0,y1,y2,y3⟩,fz⟩:=Pn TD.o;have f0:=fz 0;have f1:=fz 1;have f2:=fz 2;have f3:=fz 3;have HMz:=ah (fU.o.trans dx.1);have DF:=ah dx.2;have bF8:=ah hok;have bG2:=ah hst;clear fz dx hok hst;unfold exV;refine dD 19 [[],[],[1],[1,2],[1,2,3],[],[5],[1,2,3,4,5,6],[0,1,2,3,4,5,6,7],[0,1,2,3,4,5,6,7,8],[],[],[11],[1,2,3,4,5,6,7,10,11,12],[],[],[15],[1,2,3,4,5,6,7,10,11,12,13,14,15,16],[0,1,2,3,4,5,6,7,8,9,10,11,12,13,14,15,16,17],[0,1,2,3,4,5,6,7,8,9,10,11,12,13,14,15,16,17,18]] rfl rfl rfl rfl rfl ahe ahe ahe ?_;simp[go_sem,Oper.wp,y0,y1,y2,y3,f0,f1,f2,f3];refine dH rfl ?_;go_simp;go_wp2_with fail;obtain⟨q1,q2,q3⟩:=RX (.int .i64 op') (.int .i64 n') (.string nm') (.slice mK iy.len cap') HMz.o DF.o bJ.o;exact bodyPost_ret (v:=exV op' n' nm' iy mK cap') (by simp[results,Tryz.results88,go_sem,exV,y0,y1,y2,y3]) rfl ⟨_,rfl,⟨op',n',nm',iy,mK,cap',rfl,bF8.o,(bG2.o.next q3).mono (jv _)⟩,q1,q2⟩
theorem Zu (T:Tp):vP T 3 0∧vP T 9 1∧vP T 27 2:=by
 have h0:vP T 3 0:=Iw T 0 1 ahg ahg (λh=>absurd rfl h);have h1:vP T 9 1:=Iw T 1 3 ahg ahg (λ_=>⟨ahg,h0,h0⟩);exact⟨h0,h1,Iw T 2 9 ahg ahg (λ_=>⟨ahg,h0,h1⟩)⟩
theorem Zt {T:Tp} {K:Nat} {d:Int} (hK:K<=41) (h:vP T K d):TI T d:=λw H hs hI=>(h w H hs hI).mono (by
 rintro e w' ⟨v,rfl,⟨op,n,nm,kids,ao,cap,h1,⟨h2,h3⟩,h4⟩,h5⟩;exact⟨v,rfl,⟨op,n,nm,kids,ao,cap,h1,⟨h2,ahf⟩,h4⟩,h5⟩)
theorem aj9 (T:Tp) (d:Nat) (h:d<=2):TI T (d:Int):=by
 have:d=0∨d=1∨d=2:=ahf
 obtain⟨h0,h1,h2⟩:=Zu T;rcases this with rfl|rfl|rfl
 ·exact Zt ahg h0
 ·exact Zt ahg h1
 ·exact Zt ahg h2
def yI (zs:List Int) (a:Nat) (n:Int):Int:=if zs.length<=a then 0 else if n<1 then 0 else(zs[a]?.getD 0)%n
theorem an0 {zs:List Int} {a:Nat} {n:Int} (h:zs.length<=a):yI zs a n=0:=by unfold yI;rw[if_pos h]
theorem an1 {zs:List Int} {a:Nat} {n:Int} (h:n<1):yI zs a n=0:=by unfold yI;split <;> simp[h]
theorem aC1 {zs:List Int} {a:Nat} {n:Int} (h:a<zs.length) (hn: ¬n<1):yI zs a n=zs[a]%n:=by unfold yI;rw[if_neg ahf,if_neg hn];simp[h]
def aG0 (T:Tp) (n v:Int) (w:World) (e:Ending) (w':World):Prop:=e= .returned (.int .i64 v)∧0<=v∧(0<n->v<n)∧v<=255∧w.grownBy w' (some T.bt)∧pF w' T
theorem Ni {T:Tp} {n r v:Int} {w w':World} (hv:v=r) (h0:0<=r) (h1:0<n->r<n) (h2:r<=255) (h3:w.grownBy w' (some T.bt)) (h4:pF w' T):aG0 T n v w (.returned (.int .i64 r)) w':=by subst hv;exact⟨rfl,h0,h1,h2,h3,h4⟩
theorem aL1 (T:Tp) (n:Int) (w:World) (hn:cO n) (hI:pF w T) (a:Nat) (hblk:w.heap[T.bt]? =some (.cells #[.slice T.ao T.zs.length T.cap,.int .i64 a] 73 (0,0))):
 Calls Tryz.prog 22 #[.pointer (some ⟨T.bt,0,none⟩),.int .i64 n] w (aG0 T n (yI T.zs a n) w):=by
 have HI:=ah hI;have HB:=ah hblk;have hlen:=hI.len;obtain⟨hn1,hn2⟩:=hn;have c0:w.cell? ⟨T.bt,0,none⟩=some (.slice T.ao T.zs.length T.cap):=(bS hblk (j:=0) rfl).2;have c1:w.cell? ⟨T.bt,1,none⟩=some (.int .i64 (a:Int)):=(bS hblk (j:=1) rfl).2;clear hI hblk;by_cases h1:T.zs.length<=a
 ·have hd:decide ((T.zs.length:Int)<=(a:Int))=true:=by rw[decide_eq_true_iff];omega
  go_enter Tryz.func22,Tryz.ntmps22;go_wp2_with fail;go_quiet (fail);go_wp2_with fail;go_ret;exact Ni (an0 h1) ahf ahf ahf (qx _ _) (HI.o.draws _)
 ·have hd:decide ((T.zs.length:Int)<=(a:Int))=false:=by rw[decide_eq_false_iff_not];omega
  by_cases h2:n<1
  ·have hd2:decide (n<1)=true:=by rw[decide_eq_true_iff];omega
   go_enter Tryz.func22,Tryz.ntmps22;go_wp2_with fail;go_quiet (fail);go_wp2_with fail;go_ret;exact Ni (an1 h2) ahf ahf ahf (qx _ _) (HI.o.draws _)
  ·have hd2:decide (n<1)=false:=by rw[decide_eq_false_iff_not];omega
   go_enter Tryz.func22,Tryz.ntmps22;go_wp2_with fail;go_quiet (fail);generalize hW:World.drewN w _=W1;have HI1:aj (pF W1 T):=ah aeI;have rD:aj (w.grownBy W1 (some T.bt)):=ah (by rw[<- hW];exact qx _ _);have HB1:aj (W1.heap[T.bt]? =some (.cells #[.slice T.ao T.zs.length T.cap,.int .i64 (a:Int)] 73 (0,0))):=ah aay;clear hW c0 c1 HI HB hd hd2;have c1:W1.cell? ⟨T.bt,1,none⟩=some (.int .i64 (a:Int)):=(bS HB1.o (j:=1) rfl).2;have f1:W1.frozen? ⟨T.bt,1,none⟩=false:=bG HB1.o;go_upto_region 4 with fail;generalize hW2:World.setCell W1 _ _=W2;have HB2:aj (W2.heap[T.bt]? =some (.cells #[.slice T.ao T.zs.length T.cap,.int .i64 ((a:Int)+1)] 73 (0,0))):=ah (by rw[<- hW2,dQ HB1.o];rfl);have HG2:aj (W1.grownBy W2 (some T.bt)):=ah (by rw[<- hW2];exact bQ _ _ _);have Qn:aj (FW W2 T.B0 T.zs T.ao):=ah (HI1.o.QS.below (cB HG2.o T.t0 HI1.o.b0));have HI2:aj (pF W2 T):=ah ⟨⟨a+1,ahf,by rw[HB2.o];rfl⟩,Qn.o,HI1.o.len⟩;have HG:=ah (Ol rD.o HG2.o);clear hW2 c1 f1 rD HG2 HB1;have ha:a<T.zs.length:=ahf
   obtain⟨bb,off,hao,hbb,hcell,hz0,hz1⟩:=Qn.o a ha;have c0:W2.cell? ⟨T.bt,0,none⟩=some (.slice T.ao T.zs.length T.cap):=(bS HB2.o (j:=0) rfl).2;have c1:W2.cell? ⟨T.bt,1,none⟩=some (.int .i64 ((a:Int)+1)):=(bS HB2.o (j:=1) rfl).2;rw[hao]at c0;have hzv:=ah (aC1 (zs:=T.zs) (a:=a) (n:=n) ha ahf);generalize T.zs[a]=z at *;have hw1:(a:Int)+1 -1=(a:Int):=ahf
   have hw2:IntKind.i64.wrap (a:Int)=(a:Int):=IntWalk.i64_in _ ahf;have hb0:(0:Int)<=(a:Int):=ahf
   have hb1:(a:Int)<(T.zs.length:Int):=ahf
   have zL:=ah hao;clear hao HI1;go_quiet (fail);go_wp2_with fail;go_ret;have e1:=Int.emod_nonneg z (show n≠0 by omega);have e2:=Int.emod_lt_of_pos z (show 0<n by omega);have e3:z%n<=255:=by
    by_cases hzn:z<n
    ·rw[Int.emod_eq_of_lt hz0 hzn];exact hz1
    ·omega
   exact Ni hzv.o e1 (λ_=>e2) e3 (Ol HG.o (qx _ _)) (HI2.o.draws _)
theorem eH.tf {w w':World} {T:Tp} {H:Option Nat} {hs:List ByteArray} (hI:eH w T H hs) (h5:w.grownBy w' (some T.bt)) (h6:pF w' T):eH w' T H hs:=by
 refine⟨h6,?_,hI.nt,hI.nm,hI.ok,hI.few⟩;obtain⟨th,left,a,b,c,d,vH,k3,k4,k5,k6⟩:=hI.Cx;refine⟨th,left,a,b,c,d,vH,k3,(h5.block _ hI.lt (by simp;exact T.tm.symm)).trans k4,k5,⟨k6.own.1,?_⟩,λ_ _ _ _=>trivial⟩;rcases k6.own.2 with h1|⟨g,cap,cur,h1,h2,h3,h4⟩
 ·exact .inl h1
 ·exact .inr ⟨g,cap,cur,h1,h2,(h5.block g (aI h3) aaJ).trans h3,h4⟩
theorem Zw (T:Tp) (H:Option Nat) (hs:List ByteArray) (n:Int) (w:World) (hn:cO n) (hp:0<n) (hI:eH w T H hs): ∃r:Nat,(r:Int)<n∧∀W,eH W T H hs->W.heap[T.bt]? =w.heap[T.bt]?->
 Calls Tryz.prog 22 #[.pointer (some ⟨T.bt,0,none⟩),.int .i64 n] W (λe w'=>e= .returned (.int .i64 r)∧TF T W w'∧eH w' T H hs):=by
 obtain⟨a,-,hb⟩:=hI.tape.blk;have h0:0<=yI T.zs a n:=by
  unfold yI;split
  ·omega
  ·split
   ·omega
   ·exact Int.emod_nonneg _ ahf
 have h1:yI T.zs a n<n:=by
  unfold yI;split
  ·omega
  ·split
   ·omega
   ·exact Int.emod_lt_of_pos _ hp
 refine⟨(yI T.zs a n).toNat,ahf,λW hW e=> ?_⟩;refine(aL1 T n W hn hW.tape a (e.trans hb)).mono ?_;rintro e w' ⟨rfl,-,-,-,h5,h6⟩;exact⟨by rw[Int.toNat_of_nonneg h0],h5,hW.tf h5 h6⟩
end Go.Proofs.YtcjgfgkllmldpaaGreatDoor
