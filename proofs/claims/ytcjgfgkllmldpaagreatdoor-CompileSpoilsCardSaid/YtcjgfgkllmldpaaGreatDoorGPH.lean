/- Parts of the maker's stmt. And what hangs on it. -/
import Derived.Test.YtcjgfgkllmldpaaGreatDoorGPE
import Derived.Test.YtcjgfgkllmldpaaGreatDoorGPF
set_option linter.unusedSimpArgs false
set_option linter.unusedVariables false
set_option maxHeartbeats 40000000
set_option maxRecDepth 1000000
namespace Go.Proofs.YtcjgfgkllmldpaaGreatDoor
open Go.RowKit
open Md
theorem bh8:pQ (λk=>k=12):=by
 refine(nC _).2 (ah ?_)
 delta nC
 intro T
 unhygienic intros
 subst hk;cases nest
 ·exact Aag
 ·have hd0:=Lp rfl;obtain⟨VB,left',Ro,OX,OY,Rq,VH,uw,c0',c1',c2',c3',Gt,Ed,Ee,BM,cf',hv',hrow'⟩:=Co.o.i.reads;have f4:=cf' 4;clear c0' c1' c2' c3' Ed Ee BM cf' hv' hrow' uw;go_upto_region 28 with fail;generalize hW3:World.setCell _ _ _=w3;have S3:aj (Sg T H hs w.heap.size wb H w3):=ah (by rw[<- hW3];exact Co.o.flag 4 (.inr (.inl rfl)) true);clear hW3 Gt f4;have c0:=S3.o.i.ptr;go_wp2_with fail;refine(lK T H hs 2 _ ae8 S3.o.i).mono ?_;rintro e w4 ⟨r,rfl,hr,-,hM,hI⟩;have hr2:r<2:=by have:=hr ahg;omega
  have hwr:IntKind.i64.wrap (1+(r:Int))=1+(r:Int):=IntWalk.i64_in _ ahf;have S4:=ah (S3.o.tf hM hI);clear hM hI c0 hr;go_wp2_with fail;refine(NK.o.s0 hd0 w4 H hs (1+(r:Int)) S4.o.i ahf ahf ahf).mono ?_;rintro e w5 ⟨v,l,H5,rfl,hg,hok,hl1,hl2,hx,hM,hI⟩;obtain⟨ab,cb,rfl,hst⟩:=hg.says hok;have BA:=ah (ay (yF hl2 hok) hst);have tJ:=ah hx;have fU:=ah hM;have S5:=ah (S4.o.mm hM hx hI);clear hg hok hl1 hl2 hx hM hI hst;go_upto_region 29 with fail;obtain⟨g,hg⟩: ∃g,w5.heap.size=g:=⟨_,rfl⟩;generalize hW:World.alloc w5 _=w6;have dF:aj (Below w5.heap.size w5 w6):=ah afd;have HR:aj (w6.heap[g]? =some (.cells (bU.f (⟨fP 7 ⟨#[]⟩ .nil 0 0 ⟨#[]⟩ .nil,fQ l,.nil,Jb ab cb⟩:bU)).toArray 82 (0,0))):=ah aa6;have HG:=ah hg;have S6:=ah (S5.o.below dF.o);rw[hg];clear hW hg;obtain⟨th2,aI6,pa,pb,pc,pd,vH2,UJ,d0,d1,d2,d3,d4,d5,d6,d7,df,hv2,hrow2⟩:=S6.o.i.reads;have df4:=df 4;clear d0 d1 d2 d3 d5 d6 d7 df hv2 hrow2 UJ;go_upto_region 30 with fail;generalize hWf:World.setCell w6 _ _=w7;have S7:aj (Sg T H hs w.heap.size wb H5 w7):=ah (by rw[<- hWf];exact S6.o.flag 4 (.inr (.inl rfl)) _);have Qv:aj (Mm T H5 w5 w7):=ah abz;have kN:=ah ((show w7.heap[g]? =w6.heap[g]? by rw[<- hWf];exact bF _ _ _ rfl aaF).trans HR.o);clear hWf d4 df4;have x0:=(bS kN.o (j:=0) (u:= .int .i64 7) rfl).2;have x1:=(bS kN.o (j:=1) (u:= .int .i64 0) rfl).2;have x2:=(bS kN.o (j:=2) (u:= .string ⟨#[]⟩) rfl).2;have x3:=(bS kN.o (j:=3) (u:= .string ⟨#[]⟩) rfl).2;have x4:=(bS kN.o (j:=4) (u:= .slice none 0 0) rfl).2;have x5:=(bS kN.o (j:=5) (u:= .int .i64 0) rfl).2;have x6:=(bS kN.o (j:=6) (u:= .int .i64 0) rfl).2;have x7:=(bS kN.o (j:=7) (u:= .string ⟨#[]⟩) rfl).2;have x8:=(bS kN.o (j:=8) (u:= .slice none 0 0) rfl).2;have x9:=(bS kN.o (j:=9) (u:= .slice ab (fQ l).len cb) rfl).2;have x10:=(bS kN.o (j:=10) (u:= .slice none 0 0) rfl).2;have xf:=λj=>bG (o:=j) kN.o;have O1:=ah S7.o.z;obtain⟨⟨y0,y1,y2,y3,y4,y5,y6,y7,y8,y9,jM⟩,fz⟩:=gL O1.o;have f0:=fz 0;have f1:=fz 1;have f2:=fz 2;have f3:=fz 3;have f4:=fz 4;have f5:=fz 5;have f6:=fz 6;have f7:=fz 7;have f8:=fz 8;have f9:=fz 9;have f10:=fz 10;clear fz;go_wp2_with fail;exact iA (jk (⟨fP 7 ⟨#[]⟩ .nil 0 0 ⟨#[]⟩ .nil,fQ l,.nil,Jb ab cb⟩:bU) nM.o bJ.o eX.o S7.o.m S7.o.x S7.o.i (xY ae8 rH wU uF BA.o.1 sb0) (iY iq iq (S5.o.Pe BA.o.2 S4.o.m.size Qv.o (Hx.refl _ _)) eu) S7.o.z rfl) aix rfl
theorem bh9:pQ (λk=>k=13):=by
 refine(nC _).2 (ah ?_)
 delta nC
 intro T
 unhygienic intros
 subst hk;cases nest
 ·exact Aag
 ·have hd0:=Lp rfl;have hd1:(0:Int)<(d:Int):=by omega
  have hwd:IntKind.i64.wrap ((d:Int) -1)=(d:Int) -1:=IntWalk.i64_in _ ahf;obtain⟨VB,left',Ro,OX,OY,Rq,VH,uw,c0',c1',c2',c3',Gt,Ed,Ee,BM,cf',hv',hrow'⟩:=Co.o.i.reads;have f5:=cf' 5;clear c0' c1' c2' c3' Gt Ee BM cf' hv' hrow' uw;cases OY
  ·go_upto_region 33 with fail;generalize hW3:World.setCell _ _ _=w3;have S3:aj (Sg T H hs w.heap.size wb H w3):=ah (by rw[<- hW3];exact Co.o.flag 5 (.inr (.inr (.inl rfl))) true);clear hW3 Ed f5;obtain⟨w4,hw4⟩: ∃W:World,W=w3:=⟨_,rfl⟩;subst hw4;go_wp2_with fail;refine(NK.o.st hd0 w4 H hs 2 S3.o.i ahf ahg ahg).mono ?_;rintro e w5 ⟨v,l,H5,rfl,hg,hok,hl1,hl2,hx,hM,hI⟩;obtain⟨ab,cb,rfl,hst⟩:=hg.says hok;have BA:=ah (ay (yF hl2 hok) hst);have tJ:=ah hx;have fU:=ah hM;have S5:=ah (S3.o.mm hM hx hI);clear hg hok hl1 hl2 hx hM hI hst;go_upto_region 34 with fail;obtain⟨g,hg⟩: ∃g,w5.heap.size=g:=⟨_,rfl⟩;generalize hW:World.alloc w5 _=w6;have dF:aj (Below w5.heap.size w5 w6):=ah afd;have HR:aj (w6.heap[g]? =some (.cells (bU.f (⟨fP 8 ⟨#[]⟩ .nil 0 0 ⟨#[]⟩ .nil,fQ l,.nil,Jb ab cb⟩:bU)).toArray 82 (0,0))):=ah aa6;have HG:=ah hg;have S6:=ah (S5.o.below dF.o);rw[hg];clear hW hg;obtain⟨th2,aI6,pa,pb,pc,pd,vH2,UJ,d0,d1,d2,d3,d4,d5,d6,d7,df,hv2,hrow2⟩:=S6.o.i.reads;have df5:=df 5;clear d0 d1 d2 d3 d4 d6 d7 df hv2 hrow2 UJ;go_upto_region 35 with fail;generalize hWf:World.setCell w6 _ _=w7;have S7:aj (Sg T H hs w.heap.size wb H5 w7):=ah (by rw[<- hWf];exact S6.o.flag 5 (.inr (.inr (.inl rfl))) _);have Qv:aj (Mm T H5 w5 w7):=ah abz;have kN:=ah ((show w7.heap[g]? =w6.heap[g]? by rw[<- hWf];exact bF _ _ _ rfl aaF).trans HR.o);clear hWf d5 df5;have x0:=(bS kN.o (j:=0) (u:= .int .i64 8) rfl).2;have x1:=(bS kN.o (j:=1) (u:= .int .i64 0) rfl).2;have x2:=(bS kN.o (j:=2) (u:= .string ⟨#[]⟩) rfl).2;have x3:=(bS kN.o (j:=3) (u:= .string ⟨#[]⟩) rfl).2;have x4:=(bS kN.o (j:=4) (u:= .slice none 0 0) rfl).2;have x5:=(bS kN.o (j:=5) (u:= .int .i64 0) rfl).2;have x6:=(bS kN.o (j:=6) (u:= .int .i64 0) rfl).2;have x7:=(bS kN.o (j:=7) (u:= .string ⟨#[]⟩) rfl).2;have x8:=(bS kN.o (j:=8) (u:= .slice none 0 0) rfl).2;have x9:=(bS kN.o (j:=9) (u:= .slice ab (fQ l).len cb) rfl).2;have x10:=(bS kN.o (j:=10) (u:= .slice none 0 0) rfl).2;have xf:=λj=>bG (o:=j) kN.o;have O1:=ah S7.o.z;obtain⟨⟨y0,y1,y2,y3,y4,y5,y6,y7,y8,y9,jM⟩,fz⟩:=gL O1.o;have f0:=fz 0;have f1:=fz 1;have f2:=fz 2;have f3:=fz 3;have f4:=fz 4;have f5:=fz 5;have f6:=fz 6;have f7:=fz 7;have f8:=fz 8;have f9:=fz 9;have f10:=fz 10;clear fz;go_wp2_with fail;exact iA (jk (⟨fP 8 ⟨#[]⟩ .nil 0 0 ⟨#[]⟩ .nil,fQ l,.nil,Jb ab cb⟩:bU) nM.o bJ.o eX.o S7.o.m S7.o.x S7.o.i (xY ae8 rH wU uF BA.o.1 sb0) (iY iq iq (S5.o.Pe BA.o.2 S3.o.m.size Qv.o (Hx.refl _ _)) eu) S7.o.z rfl) aix rfl
  ·exact Aag
theorem bi0:pQ (λk=>k=14):=by
 refine(nC _).2 (ah ?_)
 delta nC
 intro T
 unhygienic intros
 subst hk;cases nest
 ·exact Aag
 ·obtain⟨VB,left',Ro,OX,OY,Rq,VH,uw,c0',c1',c2',c3',Gt,Ed,Ee,BM,cf',hv',hrow'⟩:=Co.o.i.reads;clear c0' c1' c2' c3' Gt Ee BM cf' hv' hrow' uw;cases OY
  ·go_wp2_with fail;refine(zq T _ H hs _ nL.o).mono ?_;rintro e w3 ⟨⟨q,rfl⟩,rfl⟩;cases q
   ·clear Ed;go_wp2_with fail;refine(Iy ⟨#[120]⟩ wb).mono ?_;rintro e w3 ⟨rfl,hb⟩;have S3:=ah (Co.o.below hb);clear hb;go_wp2_with fail;refine(fJ ⟨#[97]⟩ 2 0 ⟨#[120]⟩ .nil none 0 w3).mono ?_;rintro e w4 ⟨rfl,hb⟩;have S4:=ah (S3.o.below hb);clear hb;unfold iG fP kr;have kW:aj (aF7 [(⟨fP 9 ⟨#[99]⟩ .nil 0 0 ⟨#[]⟩ .nil,.nil,.nil,rY⟩:bU),⟨fP 1 ⟨#[97]⟩ .nil 2 0 ⟨#[120]⟩ .nil,.nil,.nil,kr none 0⟩]):=ah (λx hx=>by
     rcases List.mem_cons.1 hx with rfl|hx
     ·exact⟨xY ae8 afa wU uF sb0 sb0,λ_ _ _ _=>⟨trivial,trivial,trivial,trivial⟩⟩
     ·rw[List.mem_singleton.1 hx];exact⟨rQ ae8 afa ⟨⟨ae8,wS,afa,nil_le⟩,bC _⟩,λ_ _ _ _=>⟨trivial,trivial,trivial,trivial⟩⟩)
    have HZl:=ah S4.o.z;obtain⟨⟨y0,y1,y2,y3,y4,y5,y6,y7,y8,y9,jM⟩,fz⟩:=gL HZl.o;have f0:=fz 0;have f1:=fz 1;have f2:=fz 2;have f3:=fz 3;have f4:=fz 4;have f5:=fz 5;have f6:=fz 6;have f7:=fz 7;have f8:=fz 8;have f9:=fz 9;have f10:=fz 10;clear fz;have aw5:w.heap.size<w4.heap.size:=aV eX.o S4.o.m.size;have SL:=ah (S4.o.below (aA w4 (.cells (([(⟨fP 9 ⟨#[99]⟩ .nil 0 0 ⟨#[]⟩ .nil,.nil,.nil,rY⟩:bU),⟨fP 1 ⟨#[97]⟩ .nil 2 0 ⟨#[120]⟩ .nil,.nil,.nil,kr none 0⟩]:List bU).flatMap bU.f).toArray 82)));go_wp2_with fail;have HST:=ah (Vv (l:=[(⟨fP 9 ⟨#[99]⟩ .nil 0 0 ⟨#[]⟩ .nil,.nil,.nil,rY⟩:bU),⟨fP 1 ⟨#[97]⟩ .nil 2 0 ⟨#[120]⟩ .nil,.nil,.nil,kr none 0⟩]) (heap_alloc_new w4 (.cells (([(⟨fP 9 ⟨#[99]⟩ .nil 0 0 ⟨#[]⟩ .nil,.nil,.nil,rY⟩:bU),⟨fP 1 ⟨#[97]⟩ .nil 2 0 ⟨#[120]⟩ .nil,.nil,.nil,kr none 0⟩]:List bU).flatMap bU.f).toArray 82)) S4.o.m.size (λx hx=>⟨(kW.o x hx).1,(kW.o x hx).2 _ _⟩));show bodyPost _ _ _ _ _ (World.alloc (World.setCells w4 w.heap.size 0 (bU.f (⟨fP 4 ⟨#[109]⟩ .nil 0 0 ⟨#[]⟩ .nil,fQ [(⟨fP 9 ⟨#[99]⟩ .nil 0 0 ⟨#[]⟩ .nil,.nil,.nil,rY⟩:bU),⟨fP 1 ⟨#[97]⟩ .nil 2 0 ⟨#[120]⟩ .nil,.nil,.nil,kr none 0⟩],.nil,Jb (some ⟨w4.heap.size,0,none⟩) 2⟩:bU))) (.cells (([(⟨fP 9 ⟨#[99]⟩ .nil 0 0 ⟨#[]⟩ .nil,.nil,.nil,rY⟩:bU),⟨fP 1 ⟨#[97]⟩ .nil 2 0 ⟨#[120]⟩ .nil,.nil,.nil,kr none 0⟩]:List bU).flatMap bU.f).toArray 82));rw[Bp _ _ _ _ _ aw5];exact iA (jk (⟨fP 4 ⟨#[109]⟩ .nil 0 0 ⟨#[]⟩ .nil,fQ [(⟨fP 9 ⟨#[99]⟩ .nil 0 0 ⟨#[]⟩ .nil,.nil,.nil,rY⟩:bU),⟨fP 1 ⟨#[97]⟩ .nil 2 0 ⟨#[120]⟩ .nil,.nil,.nil,kr none 0⟩],.nil,Jb (some ⟨w4.heap.size,0,none⟩) 2⟩:bU) nM.o bJ.o eX.o SL.o.m SL.o.x SL.o.i (xY ae8 afa wU uF (yF ahh (λx hx=>(kW.o x hx).1)) sb0) (iY iq iq (SL.o.stay HST.o (λk e h1=>absurd (bJ.o.h _ e) afB) (Mm.refl _ _ _) (Hx.refl _ _)) eu) SL.o.z rfl) aix rfl
   ·exact Aag
  ·exact Aag
theorem bi1:pQ (λk=>k=15):=by
 refine(nC _).2 (ah ?_)
 delta nC
 intro T
 unhygienic intros
 subst hk;cases nest
 ·exact Aag
 ·go_wp2_with fail;refine(zq T _ H hs _ nL.o).mono ?_;rintro e w3 ⟨⟨q,rfl⟩,rfl⟩;cases q
  ·have c0:=nL.o.ptr;go_wp2_with fail;refine(lK T H hs 2 _ ae8 nL.o).mono ?_;rintro e w4 ⟨r,rfl,hr,-,hM,hI⟩;have hr2:r<2:=by have:=hr ahg;omega
   have hwr:IntKind.i64.wrap (10+(r:Int))=10+(r:Int):=IntWalk.i64_in _ ahf;have S4:=ah (Co.o.tf hM hI);clear hM hI c0 hr;have kW:aj (aF7 [(⟨fP (10+(r:Int)) ⟨#[99]⟩ .nil 0 0 ⟨#[]⟩ .nil,.nil,.nil,rY⟩:bU)]):=ah (λx hx=>by rw[List.mem_singleton.1 hx];exact⟨xY afM afa wU uF sb0 sb0,λ_ _ _ _=>⟨trivial,trivial,trivial,trivial⟩⟩);have HZl:=ah S4.o.z;obtain⟨⟨y0,y1,y2,y3,y4,y5,y6,y7,y8,y9,jM⟩,fz⟩:=gL HZl.o;have f0:=fz 0;have f1:=fz 1;have f2:=fz 2;have f3:=fz 3;have f4:=fz 4;have f5:=fz 5;have f6:=fz 6;have f7:=fz 7;have f8:=fz 8;have f9:=fz 9;have f10:=fz 10;clear fz;have aw5:w.heap.size<w4.heap.size:=aV eX.o S4.o.m.size;have SL:=ah (S4.o.below (aA w4 (.cells (([(⟨fP (10+(r:Int)) ⟨#[99]⟩ .nil 0 0 ⟨#[]⟩ .nil,.nil,.nil,rY⟩:bU)]:List bU).flatMap bU.f).toArray 82)));go_wp2_with fail;have HST:=ah (Vv (l:=[(⟨fP (10+(r:Int)) ⟨#[99]⟩ .nil 0 0 ⟨#[]⟩ .nil,.nil,.nil,rY⟩:bU)]) (heap_alloc_new w4 (.cells (([(⟨fP (10+(r:Int)) ⟨#[99]⟩ .nil 0 0 ⟨#[]⟩ .nil,.nil,.nil,rY⟩:bU)]:List bU).flatMap bU.f).toArray 82)) S4.o.m.size (λx hx=>⟨(kW.o x hx).1,(kW.o x hx).2 _ _⟩));show bodyPost _ _ _ _ _ (World.alloc (World.setCells w4 w.heap.size 0 (bU.f (⟨fP 4 ⟨#[109]⟩ .nil 0 0 ⟨#[]⟩ .nil,fQ [(⟨fP (10+(r:Int)) ⟨#[99]⟩ .nil 0 0 ⟨#[]⟩ .nil,.nil,.nil,rY⟩:bU)],.nil,Jb (some ⟨w4.heap.size,0,none⟩) 1⟩:bU))) (.cells (([(⟨fP (10+(r:Int)) ⟨#[99]⟩ .nil 0 0 ⟨#[]⟩ .nil,.nil,.nil,rY⟩:bU)]:List bU).flatMap bU.f).toArray 82));rw[Bp _ _ _ _ _ aw5];exact iA (jk (⟨fP 4 ⟨#[109]⟩ .nil 0 0 ⟨#[]⟩ .nil,fQ [(⟨fP (10+(r:Int)) ⟨#[99]⟩ .nil 0 0 ⟨#[]⟩ .nil,.nil,.nil,rY⟩:bU)],.nil,Jb (some ⟨w4.heap.size,0,none⟩) 1⟩:bU) nM.o bJ.o eX.o SL.o.m SL.o.x SL.o.i (xY ae8 afa wU uF (yF ahh (λx hx=>(kW.o x hx).1)) sb0) (iY iq iq (SL.o.stay HST.o (λk e h1=>absurd (bJ.o.h _ e) afB) (Mm.refl _ _ _) (Hx.refl _ _)) eu) SL.o.z rfl) aix rfl
  ·exact Aag
theorem az0 {T:Tp} {d:Nat} (h:Ms T d):ac8 T d:=by
 intro w H hs hI oz;obtain⟨k,hk,hnx⟩:=Zw T H hs 18 w ae8 ahg hI;have hk:k<18:=ahf
 by_cases h4:k<4
 ·exact bo6 T d k h4 h w H hs hI oz hnx
 ·have:k=4∨k=5∨k=6∨k=7∨k=8∨k=9∨k=10∨k=11∨k=12∨k=13∨k=14∨k=15∨k=16∨k=17:=by omega
  rcases this with e|e|e|e|e|e|e|e|e|e|e|e|e|e
  ·exact bo7 T d k e h w H hs hI oz hnx
  ·exact bo8 T d k e h w H hs hI oz hnx
  ·exact bo9 T d k e h w H hs hI oz hnx
  ·exact bp0 T d k e h w H hs hI oz hnx
  ·exact bp1 T d k e h w H hs hI oz hnx
  ·exact bp2 T d k e h w H hs hI oz hnx
  ·exact bh6 T d k e h w H hs hI oz hnx
  ·exact bh7 T d k e h w H hs hI oz hnx
  ·exact bh8 T d k e h w H hs hI oz hnx
  ·exact bh9 T d k e h w H hs hI oz hnx
  ·exact bi0 T d k e h w H hs hI oz hnx
  ·exact bi1 T d k e h w H hs hI oz hnx
  ·exact bi2 T d k e h w H hs hI oz hnx
  ·exact bi3 T d k e h w H hs hI oz hnx
theorem aO0 (T:Tp) (d:Nat):d<=100->Gj T d∧TH T d:=by
 induction d using Nat.strongRecOn with
 |ind d ih=>intro hd;have h:=Wt T d (az0 (Ms.mk' hd (λd' e=>ih d' e ahf)));exact⟨h,Wp T d hd h⟩
theorem Zr (T:Tp) (d:Nat) (hd:d<=100):Gj T d:=(aO0 T d hd).1
end Go.Proofs.YtcjgfgkllmldpaaGreatDoor
