/- Parts of the maker's stmt. And what hangs on it. -/
import Derived.Test.YtcjgfgkllmldpaaGreatDoorGR0
set_option linter.unusedSimpArgs false
set_option linter.unusedVariables false
set_option maxHeartbeats 40000000
set_option maxRecDepth 1000000
namespace Go.Proofs.YtcjgfgkllmldpaaGreatDoor
open Go.RowKit
open Md
theorem bo6:pQ (λk=>k<4):=by
 refine(nC _).2 (ah ?_)
 delta nC
 intro T
 unhygienic intros
 have hk4:(k:Int)<4:=ahf
 go_upto_region 5 with fail;have hd1:TF T wb (wb.drewN 1)∧eH (wb.drewN 1) T H hs:=⟨TF.of_below (below_drewN (ak _ _) 1),nL.o.below (below_drewN (ak _ _) 1)⟩;refine cK ahe rfl ?_;refine bW 0 7 [] [[],[],[0,1],[0,1,2],[],[4],[0,1,2,3,4,5],[0,1,2,3,4,5,6]] [[],[],[],[],[],[],[]] (λ_ w'=>TF T wb w'∧eH w' T H hs) (λw w'=>TF T w w') [44,45,46,47,48,49,50] rfl rfl aix ahe ahe ahe ahe ahe aix (λ_=>TF.refl _ _) aix hd1 ?_;simp only[gJ,kE];refine bH.some (λv w'=> ∃g,v= .slice (some ⟨g,0,none⟩) 4 4∧wb.heap.size<=g∧w'.heap[g]? =some (.cells az6 9 (0,0))) ?_ ?_ ?_
 ·rintro v w1 w' hle ⟨g,h1,h2,h3⟩;exact⟨g,h1,h2,TF.keep hle h3 acG⟩
 ·intro c A w' hok hC hO hD;simp[go_sem,gd,Oper.wp];exact aZ.mk (d:=_) (v:= .slice (some ⟨_,0,none⟩) 4 4) (TF.of_below (aA _ _)) ⟨hC.1.trans (TF.of_below (aA _ _)),hC.2.below (aA _ _)⟩ ⟨_,rfl,hC.1.size,heap_alloc_new _ _⟩
 try simp only[dI]
 apply bH.step
 case cu=>intro c A w' hok hC hO hD;have e5:=hO 5 aix;simp[Act.eval]at e5;simp[Act.eval]at hD;simp[go_sem,gd,Oper.wp,hD,e5];exact aZ.mk (TF.refl _ _) hC (dO.mk _ _)
 refine bH.some (λv w'=> ∃g,v= .pointer (some ⟨g,k,none⟩)∧wb.heap.size<=g∧w'.heap[g]? =some (.cells az6 9 (0,0))) (λv w1 w' hle ⟨g,h1,h2,h3⟩=>⟨g,h1,h2,TF.keep hle h3 acG⟩) ?_ ?_
 ·intro c A w' hok hC hO hD;simp[Act.eval]at hD;obtain⟨⟨g,hg,hg1,hg2⟩,h45⟩:=hD;have hb0:(0:Int)<=(k:Int):=by omega
  simp[go_sem,gd,Oper.wp,hg,h45,hb0,hk4];exact aZ.mk (TF.refl _ _) hC (⟨g,rfl,hg1,hg2⟩)
 try simp only[dI]
 refine bH.some (λv w'=> ∃s:ByteArray,v= .string s∧s.size<=maxLen) (λ_ _ _ _ h=>h) ?_ ?_
 ·intro c A w' hok hC hO hD;simp[Act.eval]at hD;obtain⟨g,hg,hg1,hg2⟩:=hD;obtain⟨s,hs,hsz⟩:=aO2 k ahf;simp[go_sem,gd,Oper.wp,hg,(bS hg2 hs).2];exact aZ.mk (TF.refl _ _) hC (⟨s,rfl,hsz⟩)
 apply bH.step
 case cu=>intro c A w' hok hC hO hD;have e0:=hO 0 aix;simp[Act.eval]at e0;simp[Act.eval]at hD;simp[go_sem,gd,Oper.wp,hD,e0];exact aZ.mk (TF.refl _ _) hC (dO.mk _ _)
 refine bH.some (λv w'=>XE wb.heap.size v w') (λv w1 w' hle h=>h.next (TF.QJ hle acG)) ?_ ?_
 ·intro c A w' hok hC hO hD;simp[Act.eval]at hD;simp[go_sem,gd,Oper.wp,hD];refine(HE.o 1 ahg w' H hs hC.2).mono ?_;rintro e w3 ⟨v,rfl,h1,h2,h3⟩;exact aZ.mk h2 ⟨hC.1.trans h2,h3⟩ (h1.mono hC.1.size)
 try simp only[dI]
 refine bH.some (λv w'=>AsP wb.heap.size v w') ?_ ?_ ?_
 ·rintro v w1 w' hle ⟨s,xo,xn,xm,xk,xa,xc,h1,h2,h3,h4⟩;exact⟨s,xo,xn,xm,xk,xa,xc,h1,h2,h3,h4.next (TF.QJ hle acG)⟩
 ·exact AaU
 try simp only[dI]
 refine bH.done ?_;intro wz dx
 try simp only[gJ]
 intro v0 h0 v1 h1 v2 h2 v3 h3 v4 h4 v5 h5 v6 h6;clear h0 h1 h2 h3 h4 h5;obtain⟨s,xo,xn,xm,xk,xa,xc,rfl,hsz,hok,hst⟩:=h6;refine PI ?_;go_simp;have TD:=ah (dx.1.keep qO.o afh);have HX:=ah (ay hsz (ay hok hst));have ZY:=ah dx;clear hsz hok hst dx hd1;refine dD 7 [[],[],[0,1],[0,1,2],[],[4],[0,1,2,3,4,5],[0,1,2,3,4,5,6]] rfl rfl rfl rfl rfl ahe ahe ahe ?_;exact Aat
theorem bo7:pQ (λk=>k=4):=by
 refine(nC _).2 (ah ?_)
 delta nC
 intro T
 unhygienic intros
 subst hk;go_upto_region 7 with fail;have hd1:TF T wb (wb.drewN 1)∧eH (wb.drewN 1) T H hs:=⟨TF.of_below (below_drewN (ak _ _) 1),nL.o.below (below_drewN (ak _ _) 1)⟩;have K0: ∀w',eH w' T H hs->w'.cell? ⟨T.bm,0,none⟩=some (.pointer (some ⟨T.bt,0,none⟩)):=λw' h=>h.ptr;refine cK ahe rfl ?_;refine bW 0 11 [] [[],[],[1],[1,2],[1,2,3],[1,2,3,4],[0,1,2,3,4,5],[0,1,2,3,4,5,6],[],[1,2,3,4,5,8],[0,1,2,3,4,5,6,7,8,9],[0,1,2,3,4,5,6,7,8,9,10]] [[],[],[],[],[],[],[],[],[],[],[]] (λ_ w'=>TF T wb w'∧eH w' T H hs) (λw w'=>TF T w w') [54,55,56,57,58,59,60,61,62,63,64] rfl rfl aix ahe ahe ahe ahe ahe aix (λ_=>TF.refl _ _) aix hd1 ?_;simp only[gJ,kE];refine bH.some (λv w'=> ∃g,v= .slice (some ⟨g,0,none⟩) 2 2∧wb.heap.size<=g∧w'.heap[g]? =some (.cells az5 9 (0,0))) ?_ ?_ ?_
 ·rintro v w1 w' hle ⟨g,h1,h2,h3⟩;exact⟨g,h1,h2,TF.keep hle h3 acG⟩
 ·intro c A w' hok hC hO hD;simp[go_sem,gd,Oper.wp];exact aZ.mk (d:=_) (v:= .slice (some ⟨_,0,none⟩) 2 2) (TF.of_below (aA _ _)) ⟨hC.1.trans (TF.of_below (aA _ _)),hC.2.below (aA _ _)⟩ ⟨_,rfl,hC.1.size,heap_alloc_new _ _⟩
 try simp only[dI]
 iterate 4
  apply bH.step
  case cu=>intro c A w' hok hC hO hD;have e0:=hO 0 aix;simp[Act.eval]at e0;simp[Act.eval]at hD;simp[go_sem,gd,Oper.wp,hD,e0,K0,hC.2];exact aZ.mk (TF.refl _ _) hC (dO.mk _ _)
  try simp only[dI]
 refine bH.some (λv _=> ∃r:Nat,v= .int .i64 (r:Int)∧r<2) (λ_ _ _ _ h=>h) ?_ ?_
 ·intro c A w' hok hC hO hD;simp[Act.eval]at hD;simp[go_sem,gd,Oper.wp,hD];refine(lK T H hs 2 w' ae8 hC.2).mono ?_;rintro e w2 ⟨r,rfl,h1,-,hM,hI⟩;exact aZ.mk hM ⟨hC.1.trans hM,hI⟩ ⟨r,rfl,by have:=h1 ahg;omega⟩
 try simp only[dI]
 refine bH.some (λv w'=> ∃(g r:Nat),v= .pointer (some ⟨g,r,none⟩)∧r<2∧wb.heap.size<=g∧w'.heap[g]? =some (.cells az5 9 (0,0))) (λv w1 w' hle ⟨g,r,h1,h1',h2,h3⟩=>⟨g,r,h1,h1',h2,TF.keep hle h3 acG⟩) ?_ ?_
 ·intro c A w' hok hC hO hD;simp[Act.eval]at hD;obtain⟨⟨g,hg,hg1,hg2⟩,r,hr,h1⟩:=hD;have hb0:(0:Int)<=(r:Int):=by omega
  have hb1:(r:Int)<2:=ahf
  simp[go_sem,gd,Oper.wp,hg,hr,hb0,hb1];exact aZ.mk (TF.refl _ _) hC (⟨g,r,rfl,h1,hg1,hg2⟩)
 try simp only[dI]
 refine bH.some (λv w'=> ∃s:ByteArray,v= .string s∧s.size<=maxLen) (λ_ _ _ _ h=>h) ?_ ?_
 ·intro c A w' hok hC hO hD;simp[Act.eval]at hD;obtain⟨g,r,hg,h1,hg1,hg2⟩:=hD;obtain⟨s,hs,hsz⟩:=aO1 r h1;simp[go_sem,gd,Oper.wp,hg,(bS hg2 hs).2];exact aZ.mk (TF.refl _ _) hC (⟨s,rfl,hsz⟩)
 apply bH.step
 case cu=>intro c A w' hok hC hO hD;have e0:=hO 0 aix;simp[Act.eval]at e0;simp[Act.eval]at hD;simp[go_sem,gd,Oper.wp,hD,e0];exact aZ.mk (TF.refl _ _) hC (dO.mk _ _)
 refine bH.some (λv w'=>XE wb.heap.size v w') (λv w1 w' hle h=>h.next (TF.QJ hle acG)) ?_ ?_
 ·intro c A w' hok hC hO hD;simp[Act.eval]at hD;simp[go_sem,gd,Oper.wp,hD];refine(HE.o 1 ahg w' H hs hC.2).mono ?_;rintro e w3 ⟨v,rfl,h1,h2,h3⟩;exact aZ.mk h2 ⟨hC.1.trans h2,h3⟩ (h1.mono hC.1.size)
 try simp only[dI]
 refine bH.some (λv w'=>AsP wb.heap.size v w') ?_ ?_ ?_
 ·rintro v w1 w' hle ⟨s,xo,xn,xm,xk,xa,xc,h1,h2,h3,h4⟩;exact⟨s,xo,xn,xm,xk,xa,xc,h1,h2,h3,h4.next (TF.QJ hle acG)⟩
 ·exact AaU
 try simp only[dI]
 refine bH.done ?_;intro wz dx
 try simp only[gJ]
 intro v0 h0 v1 h1 v2 h2 v3 h3 v4 h4 v5 h5 v6 h6 v7 h7 v8 h8 v9 h9 v10 h10;clear h0 h1 h2 h3 h4 h5 h6 h7 h8 h9;obtain⟨s,xo,xn,xm,xk,xa,xc,rfl,hsz,hok,hst⟩:=h10;refine PI ?_;go_simp;have TD:=ah (dx.1.keep qO.o afh);have HX:=ah (ay hsz (ay hok hst));have ZY:=ah dx;clear hsz hok hst dx hd1;refine dD 11 [[],[],[1],[1,2],[1,2,3],[1,2,3,4],[0,1,2,3,4,5],[0,1,2,3,4,5,6],[],[1,2,3,4,5,8],[0,1,2,3,4,5,6,7,8,9],[0,1,2,3,4,5,6,7,8,9,10]] rfl rfl rfl rfl rfl ahe ahe ahe ?_;exact Aat
theorem bo8:pQ (λk=>k=5):=by
 refine(nC _).2 (ah ?_)
 delta nC
 intro T
 unhygienic intros
 subst hk;go_wp2_with fail;refine(HE.o 0 ahg wb H hs nL.o).mono ?_;rintro e w3 ⟨v,rfl,⟨io,jn,im,ik,ia,ic,rfl,hok,hst⟩,hM,hI⟩;have HX:=ah (ay hok hst);have HT3:=ah hM;have HI3:=ah hI;have HZ3:=ah (hM.keep qO.o afh);clear hok hst hM hI;unfold exV;go_wp2_with fail;generalize uM:World.alloc w3 _=w4;have dL:aj (Below w3.heap.size w3 w4):=ah (by rw[<- uM];exact aA _ _);have HR4:aj (w4.heap[w3.heap.size]? =some (.cells (Ui io jn im ik ia ic).toArray 80 (0,0))):=ah (by rw[<- uM];exact heap_alloc_new _ _);have HI4:=ah (HI3.o.below dL.o);have Gc:=ah (HT3.o.trans (TF.of_below dL.o));have zX:=jq dL.o HZ3;clear uM HI3;refine(HE.o 1 ahg w4 H hs HI4.o).mono ?_;rintro e w5 ⟨v,rfl,⟨xo,xn,xm,xk,xa,xc,rfl,hok,hst⟩,hM,hI⟩;have HY:=ah (ay hok hst);have HT5:=ah (Gc.o.trans hM);have bG4:=ah hM;have gP:=ah hI;have gF:=ah (hM.keep zX.o afh);clear hok hst hM hI;obtain⟨g3,hg3⟩: ∃g,w3.heap.size=g:=⟨_,rfl⟩;have Cm:=ah hg3;rw[hg3];clear hg3;obtain⟨⟨y0,y1,y2,y3,y4,y5,y6,y7,y8,y9,jM⟩,fz⟩:=gL gF.o;have f0:=fz 0;have f1:=fz 1;have f2:=fz 2;have f3:=fz 3;have f4:=fz 4;have f5:=fz 5;have f6:=fz 6;have f7:=fz 7;have f8:=fz 8;have f9:=fz 9;have f10:=fz 10;clear fz;unfold exV;go_wp2_with fail;have jX:aj (iH wb.heap.size w5 (λw2=>(bV.cons io jn im ik .nil).At w2 w2.heap.size (some ⟨g3,0,none⟩) 0)):=ah ((Nr (by rw[<- Cm.o];exact HR4.o) (by rw[<- Cm.o];exact HT3.o.size) HX.o.1.1 ((HX.o.2.next (bR dL.o)))).next (bG4.o.QJ acG));exact iA (jk (⟨fP 1 ⟨#[113]⟩ (.cons io jn im ik .nil) xo xn xm xk,.nil,.nil,⟨some ⟨g3,0,none⟩,1,xa,xc,none,0,none,0⟩⟩:bU) nM.o bJ.o eX.o (HT5.o.mm (H:=H)) (Hx.refl _ _) gP.o (xY ae8 afa HY.o.1 (bo1 HX.o.1) sb0 sb0) (iY (.iQ jX.o (aD _) (λk h1 _ e=>absurd (bJ.o.h _ e) afB)) (.iQ (HY.o.2.mono Gc.o.size) (aD _) (λk h1 _ e=>absurd (bJ.o.h _ e) afB)) eu eu) gF.o rfl) aix rfl
theorem bi2:pQ (λk=>k=16):=by
 refine(nC _).2 (ah ?_)
 delta nC
 intro T
 unhygienic intros
 subst hk;obtain⟨VB,left',Ro,OX,OY,Rq,VH,uw,c0',c1',c2',c3',Gt,Ed,Ee,BM,cf',hv',hrow'⟩:=nL.o.reads;clear c0' c1' c2' Ed BM hv' hrow' uw;have f3:=cf' 3;clear cf';cases OX
 ·cases Rq
  ·cases Ro
   ·go_upto_region 42 with fail;generalize hW3:World.setCell _ _ _=w3;have HI3:aj (eH w3 T H hs):=ah (by rw[<- hW3];exact nL.o.flag 3 (.inl rfl) true);have vN:aj (Mm T H wb w3):=ah (by rw[<- hW3];exact(Mm.refl T H wb).Nn (Hx.refl _ H) _ _);have HZ3:=ah (vN.o.keep qO.o afh agP (λe=>by have:=bJ.o.h _ e;omega));clear hW3 c3' Gt Ee f3;go_wp2_with fail;refine(HE.o 1 ahg w3 H hs HI3.o).mono ?_;rintro e w5 ⟨v,rfl,⟨xo,xn,xm,xk,xa,xc,rfl,hok,hst⟩,hM,hI⟩;have HX:=ah (ay hok hst);have fU:=ah (vN.o.trans (Hx.refl _ _) (hM.mm (H:=H)));have gP:=ah hI;have gF:=ah (hM.keep HZ3.o afh);clear hok hst hM hI;obtain⟨⟨y0,y1,y2,y3,y4,y5,y6,y7,y8,y9,jM⟩,fz⟩:=gL gF.o;have f0:=fz 0;have f1:=fz 1;have f2:=fz 2;have f3:=fz 3;have f4:=fz 4;have f5:=fz 5;have f6:=fz 6;have f7:=fz 7;have f8:=fz 8;have f9:=fz 9;have f10:=fz 10;clear fz;unfold exV;go_wp2_with fail;exact iA (jk (⟨fP 14 ⟨#[102]⟩ .nil xo xn xm xk,.nil,.nil,kr xa xc⟩:bU) nM.o bJ.o eX.o fU.o (Hx.refl _ _) gP.o (rQ ae8 afa HX.o.1) (iY iq (.iQ (HX.o.2.mono vN.o.size) (aD _) (λk h1 _ e=>absurd (bJ.o.h _ e) afB)) eu eu) gF.o rfl) aix rfl
   ·exact Aag
  ·exact Aag
 ·exact Aag
theorem bi3:pQ (λk=>k=17):=by
 refine(nC _).2 (ah ?_)
 delta nC
 intro T
 unhygienic intros
 subst hk;obtain⟨VB,left',Ro,OX,OY,Rq,VH,uw,c0',c1',c2',c3',Gt,Ed,Ee,BM,cf',hv',hrow'⟩:=nL.o.reads;clear c1' c2' c3' Ed Ee BM hv' hrow' uw cf';cases OX
 ·go_wp2_with fail;refine(lK T H hs 2 _ ae8 nL.o).mono ?_;rintro e w3 ⟨r,rfl,-,-,J8,El⟩;have HI3:=ah El;have HT3:=ah J8;have HZ3:=ah (J8.keep qO.o afh);clear J8 El;cases hr:((r:Int)==1)
  ·have lT:=HI3;have fV:=ah (show Mm T H wb _ from HT3.o.mm);exact Aal
  ·obtain⟨⟨y0,y1,y2,y3,y4,y5,y6,y7,y8,y9,jM⟩,fz⟩:=gL HZ3.o;have f0:=fz 0;have f1:=fz 1;have f2:=fz 2;have f3:=fz 3;have f4:=fz 4;have f5:=fz 5;have f6:=fz 6;have f7:=fz 7;have f8:=fz 8;have f9:=fz 9;have f10:=fz 10;clear fz;go_wp2_with fail;exact iA (jk (⟨⟨15,0,⟨#[97]⟩,⟨#[102]⟩,.nil,0,0,⟨#[]⟩,.nil⟩,.nil,.nil,rY⟩:bU) nM.o bJ.o eX.o HT3.o.mm (Hx.refl _ _) HI3.o ⟨⟨ae8,wS,afa,afa,nil_le,wU.1,bC _,bC _⟩,ahg,sb0,sb0⟩ (iY iq iq eu eu) HZ3.o rfl) aix rfl
 ·exact Aag
theorem bo9:pQ (λk=>k=6):=by
 refine(nC _).2 (ah ?_)
 delta nC
 intro T
 unhygienic intros
 subst hk;rcases Nat.eq_zero_or_pos d with rfl|hd0
 ·exact Aag
 ·have hd1:(0:Int)<(d:Int):=by omega
  have hwd:IntKind.i64.wrap ((d:Int) -1)=(d:Int) -1:=IntWalk.i64_in _ ahf;go_wp2_with fail;refine(HE.o 1 ahg _ H hs Co.o.i).mono ?_;rintro e w3 ⟨v,rfl,⟨xo,xn,xm,xk,xa,xc,rfl,hok,hst⟩,hM,hI⟩;have HX:=ah (ay hok (hst.mono Co.o.m.size));have S3:=ah (Co.o.tf hM hI);clear hok hst hM hI;unfold exV;go_wp2_with fail;refine(NK.o.st hd0 w3 H hs 1 S3.o.i ahf ahg ahg).mono ?_;rintro e w4 ⟨v,l,H4,rfl,hg,hok,hl1,hl2,hx,hM,hI⟩;obtain⟨ab,cb,rfl,hst⟩:=hg.says hok;have HL4:=ah (ay (yF hl2 hok) hst);have pE:=ah hx;have tF:=ah hM;have S4:=ah (S3.o.mm hM hx hI);clear hg hok hl1 hl2 hx hM hI hst;go_upto_region 12 with fail;obtain⟨g,hg⟩: ∃g,w4.heap.size=g:=⟨_,rfl⟩;generalize hW:World.alloc w4 _=w5;have iU:aj (Below w4.heap.size w4 w5):=ah afd;have HR:aj (w5.heap[g]? =some (.cells (bU.f (⟨fP 2 ⟨#[]⟩ .nil xo xn xm xk,fQ l,.nil,⟨none,0,xa,xc,ab,cb,none,0⟩⟩:bU)).toArray 82 (0,0))):=ah aa6;have HG:=ah hg;have S5:=ah (S4.o.below iU.o);rw[hg];clear hW hg;have c0:=S5.o.i.ptr;have HN:aj (H4≠some g):=ah (λe=>by have:=S4.o.i.hlt' _ e;have:=HG.o;omega);have zT:aj (T.bt<g∧T.bm<g∧wb.heap.size<=g):=ah (by have:=bJ.o.t;have:=bJ.o.m;have:=eX.o;have:=S4.o.m.size;have:=HG.o;omega);go_wp2_with fail;refine(lK T H4 hs 2 _ ae8 S5.o.i).mono ?_;rintro e w6 ⟨r,rfl,-,-,hM6,Oo⟩;have S6:=ah (S5.o.tf hM6 Oo);have Qu:aj (Mm T H4 w4 w6):=ah ((Mm.of_below iU.o).trans (Hx.refl _ _) (hM6.mm (H:=H4)));have uT:=ah (hM6.keep HR.o (by have:=zT.o.1;omega));clear hM6 Oo c0 HR;cases hr:((r:Int)==1)
  ·have x0:=(bS uT.o (j:=0) (u:= .int .i64 2) rfl).2;have x1:=(bS uT.o (j:=1) (u:= .int .i64 0) rfl).2;have x2:=(bS uT.o (j:=2) (u:= .string ⟨#[]⟩) rfl).2;have x3:=(bS uT.o (j:=3) (u:= .string ⟨#[]⟩) rfl).2;have x4:=(bS uT.o (j:=4) (u:= .slice none 0 0) rfl).2;have x5:=(bS uT.o (j:=5) (u:= .int .i64 xo) rfl).2;have x6:=(bS uT.o (j:=6) (u:= .int .i64 xn) rfl).2;have x7:=(bS uT.o (j:=7) (u:= .string xm) rfl).2;have x8:=(bS uT.o (j:=8) (u:= .slice xa xk.len xc) rfl).2;have x9:=(bS uT.o (j:=9) (u:= .slice ab (fQ l).len cb) rfl).2;have x10:=(bS uT.o (j:=10) (u:= .slice none 0 0) rfl).2;have xf:=λj=>bG (o:=j) uT.o;have iN:=ah S6.o.z;obtain⟨⟨y0,y1,y2,y3,y4,y5,y6,y7,y8,y9,jM⟩,fz⟩:=gL iN.o;have f0:=fz 0;have f1:=fz 1;have f2:=fz 2;have f3:=fz 3;have f4:=fz 4;have f5:=fz 5;have f6:=fz 6;have f7:=fz 7;have f8:=fz 8;have f9:=fz 9;have f10:=fz 10;clear fz;go_wp2_with fail;exact iA (jk (⟨fP 2 ⟨#[]⟩ .nil xo xn xm xk,fQ l,.nil,⟨none,0,xa,xc,ab,cb,none,0⟩⟩:bU) nM.o bJ.o eX.o S6.o.m S6.o.x S6.o.i (xY ae8 rH HX.o.1 uF HL4.o.1 sb0) (iY iq (S3.o.stay HX.o.2 S3.o.old (tF.o.trans pE.o Qu.o) pE.o) (S4.o.Pe HL4.o.2 S3.o.m.size Qu.o (Hx.refl _ _)) eu) S6.o.z rfl) aix rfl
  ·go_wp2_with fail;refine(NK.o.st hd0 w6 H4 hs 1 S6.o.i ahf ahg ahg).mono ?_;rintro e w7 ⟨v,l2,H7,rfl,hg,hok,hl1,hl2,hx,hM,hI⟩;obtain⟨ae,ce,rfl,hst⟩:=hg.says hok;have HL7:=ah (ay (yF hl2 hok) hst);have xH:=ah hx;have M4:=ah hM;have S7:=ah (S6.o.mm hM hx hI);clear hg hok hl1 hl2 hx hM hI hst;have kN:=ah (M4.o.keep uT.o (by have:=zT.o.1;omega) (by have:=zT.o.2.1;omega) HN.o);have SF:=ah (aI uT.o);have bF2:=ah (Qu.o.trans (Hx.refl _ _) M4.o);have aX6:=ah ((Hx.refl w4 H4).trans xH.o Qu.o.size);have HN7:=ah (xH.o.ne SF.o HN.o);have x0:=(bS kN.o (j:=0) (u:= .int .i64 2) rfl).2;have x1:=(bS kN.o (j:=1) (u:= .int .i64 0) rfl).2;have x2:=(bS kN.o (j:=2) (u:= .string ⟨#[]⟩) rfl).2;have x3:=(bS kN.o (j:=3) (u:= .string ⟨#[]⟩) rfl).2;have x4:=(bS kN.o (j:=4) (u:= .slice none 0 0) rfl).2;have x5:=(bS kN.o (j:=5) (u:= .int .i64 xo) rfl).2;have x6:=(bS kN.o (j:=6) (u:= .int .i64 xn) rfl).2;have x7:=(bS kN.o (j:=7) (u:= .string xm) rfl).2;have x8:=(bS kN.o (j:=8) (u:= .slice xa xk.len xc) rfl).2;have x9:=(bS kN.o (j:=9) (u:= .slice ab (fQ l).len cb) rfl).2;have x10:=(bS kN.o (j:=10) (u:= .slice none 0 0) rfl).2;have xf:=λj=>bG (o:=j) kN.o;have xf10:=xf 10;clear x0 x1 x2 x3 x4 x5 x6 x7 x8 x9 xf;go_upto_region 14 with fail;generalize Em:World.setCell w7 _ _=w8;have S8:aj (Sg T H hs w.heap.size wb H7 w8):=ah (by rw[<- Em];exact S7.o.set _ _ zT.o.2.2 HN7.o);have aU4:aj (Mm T H4 w4 w8):=ah (by rw[<- Em];exact bF2.o.set _ _ (by have:=HG.o;show w4.heap.size<=g;omega));have ER:aj (w8.heap[g]? =some (.cells (bU.f (⟨fP 2 ⟨#[]⟩ .nil xo xn xm xk,fQ l,fQ l2,⟨none,0,xa,xc,ab,cb,ae,ce⟩⟩:bU)).toArray 82 (0,0))):=ah (by rw[<- Em,dQ kN.o];rfl);have HL8:aj (iK w6.heap.size (Ct H7) w8 (λw2=>(fQ l2).At w2 w2.heap.size ae 0)):=ah (by rw[<- Em];exact HL7.o.2.go (.EC (iM _ _ _ SF.o)) (λ_ _ _ e=>e));clear Em x10 xf10;have x0:=(bS ER.o (j:=0) (u:= .int .i64 2) rfl).2;have x1:=(bS ER.o (j:=1) (u:= .int .i64 0) rfl).2;have x2:=(bS ER.o (j:=2) (u:= .string ⟨#[]⟩) rfl).2;have x3:=(bS ER.o (j:=3) (u:= .string ⟨#[]⟩) rfl).2;have x4:=(bS ER.o (j:=4) (u:= .slice none 0 0) rfl).2;have x5:=(bS ER.o (j:=5) (u:= .int .i64 xo) rfl).2;have x6:=(bS ER.o (j:=6) (u:= .int .i64 xn) rfl).2;have x7:=(bS ER.o (j:=7) (u:= .string xm) rfl).2;have x8:=(bS ER.o (j:=8) (u:= .slice xa xk.len xc) rfl).2;have x9:=(bS ER.o (j:=9) (u:= .slice ab (fQ l).len cb) rfl).2;have x10:=(bS ER.o (j:=10) (u:= .slice ae (fQ l2).len ce) rfl).2;have xf:=λj=>bG (o:=j) ER.o;have QG:=ah S8.o.z;obtain⟨⟨y0,y1,y2,y3,y4,y5,y6,y7,y8,y9,jM⟩,fz⟩:=gL QG.o;have f0:=fz 0;have f1:=fz 1;have f2:=fz 2;have f3:=fz 3;have f4:=fz 4;have f5:=fz 5;have f6:=fz 6;have f7:=fz 7;have f8:=fz 8;have f9:=fz 9;have f10:=fz 10;clear fz;go_wp2_with fail;exact iA (jk (⟨fP 2 ⟨#[]⟩ .nil xo xn xm xk,fQ l,fQ l2,⟨none,0,xa,xc,ab,cb,ae,ce⟩⟩:bU) nM.o bJ.o eX.o S8.o.m S8.o.x S8.o.i (xY ae8 rH HX.o.1 uF HL4.o.1 HL7.o.1) (iY iq (S3.o.stay HX.o.2 S3.o.old (tF.o.trans pE.o aU4.o) (pE.o.trans aX6.o tF.o.size)) (S4.o.Pe HL4.o.2 S3.o.m.size aU4.o aX6.o) (HL8.o.weak S6.o.m.size (λ_ _ _ e=>e))) S8.o.z rfl) aix rfl
end Go.Proofs.YtcjgfgkllmldpaaGreatDoor
