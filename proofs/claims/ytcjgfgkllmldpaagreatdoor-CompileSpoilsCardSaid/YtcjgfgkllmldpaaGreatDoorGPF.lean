/- Parts of the maker's stmt. And what hangs on it. -/
import Derived.Test.YtcjgfgkllmldpaaGreatDoorGR0
set_option linter.unusedSimpArgs false
set_option linter.unusedVariables false
set_option maxHeartbeats 40000000
set_option maxRecDepth 1000000
namespace Go.Proofs.YtcjgfgkllmldpaaGreatDoor
open Go.RowKit
open Md
theorem bp0:pQ (λk=>k=7):=by
 refine(nC _).2 (ah ?_)
 delta nC
 intro T
 unhygienic intros
 subst hk;rcases Nat.eq_zero_or_pos d with rfl|hd0
 ·exact Aag
 ·have hd1:(0:Int)<(d:Int):=by omega
  have hwd:IntKind.i64.wrap ((d:Int) -1)=(d:Int) -1:=IntWalk.i64_in _ ahf;obtain⟨VB,left',Ro,OX,OY,Rq,VH,uw,c0',c1',c2',c3',Gt,Ed,Ee,BM,cf',hv',hrow'⟩:=Co.o.i.reads;have f6:=cf' 6;clear c0' c1' c2' c3' Gt Ed BM cf' hv' hrow' uw;go_upto_region 18 with fail;generalize hW3:World.setCell _ _ _=w3;have S3:aj (Sg T H hs w.heap.size wb H w3):=ah (by rw[<- hW3];exact Co.o.flag 6 (.inr (.inr (.inr rfl))) true);clear hW3 Ee f6;go_wp2_with fail;refine(Iy ⟨#[98]⟩ w3).mono ?_;rintro e w4 ⟨rfl,hb⟩;have S4:=ah (S3.o.below hb);clear hb;go_wp2_with fail;refine(Lx 2 w4).mono ?_;rintro e w5 ⟨rfl,hb⟩;have S5:=ah (S4.o.below hb);clear hb;go_wp2_with fail;refine(I4 13 2 0 ⟨#[98]⟩ .nil none 0 1 2 ⟨#[]⟩ .nil none 0 w5).mono ?_;rintro e w6 ⟨g6,rfl,hg,hcell,hb⟩;have S6:=ah (S5.o.below hb);have HX:aj (iH wb.heap.size w6 (λw2=>(bV.cons 2 0 ⟨#[98]⟩ .nil (.cons 1 2 ⟨#[]⟩ .nil .nil)).At w2 w2.heap.size (some ⟨g6,0,none⟩) 0)):=ah (Ns hcell (aO S5.o.m.size hg) bi9 (λ_ _=>trivial) bK7 (λ_ _=>trivial));clear hb hg hcell;go_wp2_with fail;refine(NK.o.st hd0 w6 H hs 1 S6.o.i ahf ahg ahg).mono ?_;rintro e w7 ⟨v,l,H7,rfl,hg,hok,hl1,hl2,hx,hM,hI⟩;have Qs:=ah hg;have YE:=ah (ay hok hl2);have xH:=ah hx;have M4:=ah hM;have S7:=ah (S6.o.mm hM hx hI);clear hg hok hl1 hl2 hx hM hI;go_wp2_with fail;refine(Iy ⟨#[98]⟩ w7).mono ?_;rintro e w8 ⟨rfl,hb⟩;have rA:=ah hb;have S8:=ah (S7.o.below hb);clear hb;go_wp2_with fail;refine(Lx 1 w8).mono ?_;rintro e w9 ⟨rfl,hb⟩;have yc:=ah (rA.o.trans (hb.mono rA.o.size));have S9:=ah (S8.o.below hb);clear hb;go_wp2_with fail;refine(I4 6 2 0 ⟨#[98]⟩ .nil none 0 1 1 ⟨#[]⟩ .nil none 0 w9).mono ?_;rintro e Ym ⟨g10,rfl,hg,hcell,hb⟩;have aq0:=ah (yc.o.trans (hb.mono yc.o.size));have S10:=ah (S9.o.below hb);have HY:aj (iH w7.heap.size Ym (λw2=>(bV.cons 2 0 ⟨#[98]⟩ .nil (.cons 1 1 ⟨#[]⟩ .nil .nil)).At w2 w2.heap.size (some ⟨g10,0,none⟩) 0)):=ah (Ns hcell (aO yc.o.size hg) bi9 (λ_ _=>trivial) bK6 (λ_ _=>trivial));clear hb hg hcell;go_wp2_with fail;refine(fJ ⟨#[98]⟩ 6 0 ⟨#[]⟩ (.cons 2 0 ⟨#[98]⟩ .nil (.cons 1 1 ⟨#[]⟩ .nil .nil)) (some ⟨g10,0,none⟩) 2 Ym).mono ?_;rintro e RB ⟨rfl,hb⟩;have Po:=ah (aq0.o.trans (hb.mono aq0.o.size));have S11:=ah (S10.o.below hb);have aY1:=ah (HY.o.next (bR hb));clear hb HY;obtain⟨i0,hi,hz0,hz1,hz2⟩:=wu (α:=Nat) (β:=Nat) OD;obtain⟨X1,hX1⟩: ∃x:bU,x=(⟨fP 1 ⟨#[98]⟩ .nil 6 0 ⟨#[]⟩ (.cons 2 0 ⟨#[98]⟩ .nil (.cons 1 1 ⟨#[]⟩ .nil .nil)),.nil,.nil,kr (some ⟨g10,0,none⟩) 2⟩:bU):=⟨_,rfl⟩;have qE:=ah hX1;clear hX1;have iJ:aj (Below RB.heap.size RB (RB.alloc (.cells (bU.f (⟨fP 1 ⟨#[98]⟩ .nil 6 0 ⟨#[]⟩ (.cons 2 0 ⟨#[98]⟩ .nil (.cons 1 1 ⟨#[]⟩ .nil .nil)),.nil,.nil,kr (some ⟨g10,0,none⟩) 2⟩:bU)).toArray 82))):=ah (aA _ _);have SA:=ah (S11.o.below iJ.o);have kV:=ah ((Qs.o.next (nJ.of_below Po.o) (Hx.refl _ _)).next (nJ.of_below iJ.o) (Hx.refl _ _));have kW:=ah Qs.o.lt;have iV:=ah (gG (heap_alloc_new RB (.cells (bU.f (⟨fP 1 ⟨#[98]⟩ .nil 6 0 ⟨#[]⟩ (.cons 2 0 ⟨#[98]⟩ .nil (.cons 1 1 ⟨#[]⟩ .nil .nil)),.nil,.nil,kr (some ⟨g10,0,none⟩) 2⟩:bU)).toArray 82)));have hbs:w6.heap.size<=RB.heap.size+1:=by have:=M4.o.size;have:=Po.o.size;omega
  have hkl:l.length+1<=maxLen:=by have:=YE.o.2;unfold maxLen;omega
  have Fa:(l.length+1)*176<=140737488355328:=by have:=YE.o.2;omega
  unfold iG fP kr;go_wp2_with (at_builtin;refine wpList_append_lies _ rfl _ _ 61 rfl w6.heap.size 82 i0 _ 11 176 Tryz.underlying61 hi hz0 hz1 hz2 rfl ahg _ _ _ rfl kV.o.own ⟨RB.heap.size,0,none⟩ 1 1 (bU.f (⟨fP 1 ⟨#[98]⟩ .nil 6 0 ⟨#[]⟩ (.cons 2 0 ⟨#[98]⟩ .nil (.cons 1 1 ⟨#[]⟩ .nil .nil)),.nil,.nil,kr (some ⟨g10,0,none⟩) 2⟩:bU)) rfl rfl iV.o (Nt _) ahg hkl Fa afe _ rfl ?_);clear hi hz0 hz1 hz2;intro gr cap VJ hown hgr hmv hlt2;have M8:aj (iK w6.heap.size (BI v.ownBlock H7) (RB.alloc (.cells (bU.f (⟨fP 1 ⟨#[98]⟩ .nil 6 0 ⟨#[]⟩ (.cons 2 0 ⟨#[98]⟩ .nil (.cons 1 1 ⟨#[]⟩ .nil .nil)),.nil,.nil,kr (some ⟨g10,0,none⟩) 2⟩:bU)).toArray 82)) (bU.I (⟨fP 1 ⟨#[98]⟩ .nil 6 0 ⟨#[]⟩ (.cons 2 0 ⟨#[98]⟩ .nil (.cons 1 1 ⟨#[]⟩ .nil .nil)),.nil,.nil,kr (some ⟨g10,0,none⟩) 2⟩:bU))):=ah (iY iq (.iQ (aY1.o.next (bR iJ.o)) M4.o.size (λk h1 _ e=>by
   rcases e with e|e
   ·have:=(kW.o k e).2;omega
   ·have:=S7.o.i.hlt' k e;omega)) eu eu)
  have aS8:=ah (kV.o.push M8.o rfl hown hgr afy SA.o.i.hlt');have Aw:aj (∀k,v.ownBlock=some k->w6.heap.size<=k∧H7≠some k):=ah (λk e=>⟨(kW.o k e).1,kV.o.ne k e⟩);have S12:=ah (SA.o.grown hgr (λk e=>⟨aO S6.o.m.size (Aw.o k e).1,(Aw.o k e).2⟩));have bF0:aj (Mm T H w6 VJ):=ah (((M4.o.then_ (Po.o.mono M4.o.size) Po.o.size).then_ (iJ.o.mono (aO M4.o.size Po.o.size)) iJ.o.size).then_ (Ec hgr (λk e=>(Aw.o k e).1) afe) hgr.size);have Zg: ∀y∈l++[(⟨fP 1 ⟨#[98]⟩ .nil 6 0 ⟨#[]⟩ (.cons 2 0 ⟨#[98]⟩ .nil (.cons 1 1 ⟨#[]⟩ .nil .nil)),.nil,.nil,kr (some ⟨g10,0,none⟩) 2⟩:bU)],A8 y.h y.b y.e:=λy hy=>by
   rcases List.mem_append.1 hy with hy|hy
   ·exact YE.o.1 y hy
   ·rw[List.mem_singleton.1 hy];exact rQ ae8 afa (okC 6 0 1 ae8)
  obtain⟨ab,cb,hv,hst⟩:=zK.says aS8.o Zg;rw[hv];have hlen:SB (fQ (l++[(⟨fP 1 ⟨#[98]⟩ .nil 6 0 ⟨#[]⟩ (.cons 2 0 ⟨#[98]⟩ .nil (.cons 1 1 ⟨#[]⟩ .nil .nil)),.nil,.nil,kr (some ⟨g10,0,none⟩) 2⟩:bU)])):=⟨by rw[qz,au];have:=YE.o.2;simp only[List.length_singleton];omega,Si Zg⟩;generalize fQ (l++[(⟨fP 1 ⟨#[98]⟩ .nil 6 0 ⟨#[]⟩ (.cons 2 0 ⟨#[98]⟩ .nil (.cons 1 1 ⟨#[]⟩ .nil .nil)),.nil,.nil,kr (some ⟨g10,0,none⟩) 2⟩:bU)])=L at *;have HL:=ah (ay hlen hst);clear hown hgr hmv hlt2 hbs hkl Fa M8 iV kV iJ SA aS8 Zg hlen hst hv qE rA yc aq0 Po aY1;go_upto_region 19 with fail;obtain⟨g,hg⟩: ∃g,VJ.heap.size=g:=⟨_,rfl⟩;generalize hW:World.alloc VJ _=w13;have FC:aj (Below VJ.heap.size VJ w13):=ah afd;have HR:aj (w13.heap[g]? =some (.cells (bU.f (⟨fP 3 ⟨#[]⟩ .nil 13 0 ⟨#[]⟩ (.cons 2 0 ⟨#[98]⟩ .nil (.cons 1 2 ⟨#[]⟩ .nil .nil)),L,.nil,⟨none,0,some ⟨g6,0,none⟩,2,ab,cb,none,0⟩⟩:bU)).toArray 82 (0,0))):=ah aa6;have HG:=ah hg;have S13:=ah (S12.o.below FC.o);rw[hg];clear hW hg;obtain⟨th2,aI6,pa,pb,pc,pd,vH2,UJ,d0,d1,d2,d3,d4,d5,d6,d7,df,hv2,hrow2⟩:=S13.o.i.reads;have g6f:=df 6;clear d0 d1 d2 d3 d4 d5 d7 df hv2 hrow2 UJ;go_upto_region 20 with fail;generalize Za:World.setCell w13 _ _=w14;have S14:aj (Sg T H hs w.heap.size wb H7 w14):=ah (by rw[<- Za];exact S13.o.flag 6 (.inr (.inr (.inr rfl))) _);have aa4:aj (Mm T H7 VJ w14):=ah (by rw[<- Za];exact(Mm.of_below FC.o).Nn (Hx.refl _ _) _ _);have bF1:aj (Mm T H w6 w14):=ah (bF0.o.trans xH.o aa4.o);have bF9:aj (w14.heap[g]? =w13.heap[g]?):=ah (by rw[<- Za];exact bF _ _ _ rfl (by show T.bm≠g;have:=HG.o;have:=bJ.o.m;have:=eX.o;have:=S12.o.m.size;omega));clear Za d6 g6f;have ES:=ah (bF9.o.trans HR.o);have x0:=(bS ES.o (j:=0) (u:= .int .i64 3) rfl).2;have x1:=(bS ES.o (j:=1) (u:= .int .i64 0) rfl).2;have x2:=(bS ES.o (j:=2) (u:= .string ⟨#[]⟩) rfl).2;have x3:=(bS ES.o (j:=3) (u:= .string ⟨#[]⟩) rfl).2;have x4:=(bS ES.o (j:=4) (u:= .slice none 0 0) rfl).2;have x5:=(bS ES.o (j:=5) (u:= .int .i64 13) rfl).2;have x6:=(bS ES.o (j:=6) (u:= .int .i64 0) rfl).2;have x7:=(bS ES.o (j:=7) (u:= .string ⟨#[]⟩) rfl).2;have x8:=(bS ES.o (j:=8) (u:= .slice (some ⟨g6,0,none⟩) 2 2) rfl).2;have x9:=(bS ES.o (j:=9) (u:= .slice ab L.len cb) rfl).2;have x10:=(bS ES.o (j:=10) (u:= .slice none 0 0) rfl).2;have xf:=λj=>bG (o:=j) ES.o;have bH1:=ah S14.o.z;obtain⟨⟨y0,y1,y2,y3,y4,y5,y6,y7,y8,y9,jM⟩,fz⟩:=gL bH1.o;have f0:=fz 0;have f1:=fz 1;have f2:=fz 2;have f3:=fz 3;have f4:=fz 4;have f5:=fz 5;have f6:=fz 6;have f7:=fz 7;have f8:=fz 8;have f9:=fz 9;have f10:=fz 10;clear fz;go_wp2_with fail;exact iA (jk (⟨fP 3 ⟨#[]⟩ .nil 13 0 ⟨#[]⟩ (.cons 2 0 ⟨#[98]⟩ .nil (.cons 1 2 ⟨#[]⟩ .nil .nil)),L,.nil,⟨none,0,some ⟨g6,0,none⟩,2,ab,cb,none,0⟩⟩:bU) nM.o bJ.o eX.o S14.o.m S14.o.x S14.o.i (xY ae8 rH (okC 13 0 2 ae8) uF HL.o.1 sb0) (iY iq (S6.o.stay HX.o S6.o.old bF1.o xH.o) (S12.o.Pe HL.o.2 S6.o.m.size aa4.o (Hx.refl _ _)) eu) S14.o.z rfl) aix rfl
theorem bp1:pQ (λk=>k=8):=by
 refine(nC _).2 (ah ?_)
 delta nC
 intro T
 unhygienic intros
 subst hk;cases nest
 ·exact Aag
 ·have hd0:=Lp rfl;have hd1:(0:Int)<(d:Int):=by omega
  have hwd:IntKind.i64.wrap ((d:Int) -1)=(d:Int) -1:=IntWalk.i64_in _ ahf;go_wp2_with fail;refine(zq T _ H hs _ (nL.o.below (aA _ _))).mono ?_;rintro e w3 ⟨⟨q,rfl⟩,hw⟩;have S3:aj (Sg T H hs w.heap.size wb H w3):=ah adX;clear hw;cases q
  ·go_upto_region 23 with fail;generalize hW:World.alloc w3 _=w4;have S4:aj (Sg T H hs w.heap.size wb H w4):=ah adY;clear hW;go_wp2_with fail;refine(NK.o.bl hd0 w4 H hs ⟨#[109]⟩ S4.o.i ahf afa).mono ?_;rintro e w5 ⟨v,l,H5,rfl,hg,hok,hl1,hl2,hx,hM,hI⟩;obtain⟨ab,cb,rfl,hst⟩:=hg.says hok;have BA:=ah (ay (yF hl2 hok) hst);have tJ:=ah hx;have fU:=ah hM;have S5:=ah (S4.o.mm hM hx hI);clear hg hok hl1 hl2 hx hM hI hst;have gF:=ah S5.o.z;obtain⟨⟨y0,y1,y2,y3,y4,y5,y6,y7,y8,y9,jM⟩,fz⟩:=gL gF.o;have f0:=fz 0;have f1:=fz 1;have f2:=fz 2;have f3:=fz 3;have f4:=fz 4;have f5:=fz 5;have f6:=fz 6;have f7:=fz 7;have f8:=fz 8;have f9:=fz 9;have f10:=fz 10;clear fz;go_wp2_with fail;exact iA (jk (⟨fP 4 ⟨#[109]⟩ .nil 0 0 ⟨#[]⟩ .nil,fQ l,.nil,Jb ab cb⟩:bU) nM.o bJ.o eX.o S5.o.m S5.o.x S5.o.i (xY ae8 afa wU uF BA.o.1 sb0) (iY iq iq (BA.o.2.weak S4.o.m.size (λ_ _ _ e=>e)) eu) S5.o.z rfl) aix rfl
  ·exact Aah
theorem bp2:pQ (λk=>k=9):=by
 refine(nC _).2 (ah ?_)
 delta nC
 intro T
 unhygienic intros
 subst hk;cases nest
 ·exact Aag
 ·have hd0:=Lp rfl;have hd1:(0:Int)<(d:Int):=by omega
  have hwd:IntKind.i64.wrap ((d:Int) -1)=(d:Int) -1:=IntWalk.i64_in _ ahf;go_wp2_with fail;refine(zq T _ H hs _ (nL.o.below (aA _ _))).mono ?_;rintro e w3 ⟨⟨q,rfl⟩,hw⟩;have S3:aj (Sg T H hs w.heap.size wb H w3):=ah adX;clear hw;cases q
  ·go_upto_region 23 with fail;generalize hW:World.alloc w3 _=w4;have S4:aj (Sg T H hs w.heap.size wb H w4):=ah adY;clear hW;go_wp2_with fail;refine(NK.o.bl hd0 w4 H hs ⟨#[110]⟩ S4.o.i ahf afa).mono ?_;rintro e w5 ⟨v,l,H5,rfl,hg,hok,hl1,hl2,hx,hM,hI⟩;obtain⟨ab,cb,rfl,hst⟩:=hg.says hok;have BA:=ah (ay (yF hl2 hok) hst);have tJ:=ah hx;have fU:=ah hM;have S5:=ah (S4.o.mm hM hx hI);clear hg hok hl1 hl2 hx hM hI hst;have gF:=ah S5.o.z;obtain⟨⟨y0,y1,y2,y3,y4,y5,y6,y7,y8,y9,jM⟩,fz⟩:=gL gF.o;have f0:=fz 0;have f1:=fz 1;have f2:=fz 2;have f3:=fz 3;have f4:=fz 4;have f5:=fz 5;have f6:=fz 6;have f7:=fz 7;have f8:=fz 8;have f9:=fz 9;have f10:=fz 10;clear fz;go_wp2_with fail;exact iA (jk (⟨fP 4 ⟨#[110]⟩ .nil 0 0 ⟨#[]⟩ .nil,fQ l,.nil,Jb ab cb⟩:bU) nM.o bJ.o eX.o S5.o.m S5.o.x S5.o.i (xY ae8 afa wU uF BA.o.1 sb0) (iY iq iq (BA.o.2.weak S4.o.m.size (λ_ _ _ e=>e)) eu) S5.o.z rfl) aix rfl
  ·exact Aah
theorem bh6:pQ (λk=>k=10):=by
 refine(nC _).2 (ah ?_)
 delta nC
 intro T
 unhygienic intros
 subst hk;cases nest
 ·exact Aag
 ·have hd0:=Lp rfl;have hd1:(0:Int)<(d:Int):=by omega
  have hwd:IntKind.i64.wrap ((d:Int) -1)=(d:Int) -1:=IntWalk.i64_in _ ahf;go_wp2_with fail;refine(zq T _ H hs _ nL.o).mono ?_;rintro e w3 ⟨⟨q,rfl⟩,rfl⟩;cases q
  ·go_wp2_with fail;refine(NK.o.bl hd0 wb H hs ⟨#[114]⟩ nL.o ahf afa).mono ?_;rintro e w5 ⟨v,l,H5,rfl,hg,hok,hl1,hl2,hx,hM,hI⟩;obtain⟨ab,cb,rfl,hst⟩:=hg.says hok;have BA:=ah (ay (yF hl2 hok) hst);have tJ:=ah hx;have fU:=ah hM;have S5:=ah (Co.o.mm hM hx hI);clear hg hok hl1 hl2 hx hM hI hst;have gF:=ah S5.o.z;obtain⟨⟨y0,y1,y2,y3,y4,y5,y6,y7,y8,y9,jM⟩,fz⟩:=gL gF.o;have f0:=fz 0;have f1:=fz 1;have f2:=fz 2;have f3:=fz 3;have f4:=fz 4;have f5:=fz 5;have f6:=fz 6;have f7:=fz 7;have f8:=fz 8;have f9:=fz 9;have f10:=fz 10;clear fz;go_wp2_with fail;exact iA (jk (⟨fP 5 ⟨#[114]⟩ .nil 0 0 ⟨#[]⟩ .nil,fQ l,.nil,Jb ab cb⟩:bU) nM.o bJ.o eX.o S5.o.m S5.o.x S5.o.i (xY ae8 afa wU uF BA.o.1 sb0) (iY iq iq BA.o.2 eu) S5.o.z rfl) aix rfl
  ·exact Aag
theorem bh7:pQ (λk=>k=11):=by
 refine(nC _).2 (ah ?_)
 delta nC
 intro T
 unhygienic intros
 subst hk;cases nest
 ·exact Aag
 ·have hd0:=Lp rfl;have hd1:(0:Int)<(d:Int):=by omega
  have hwd:IntKind.i64.wrap ((d:Int) -1)=(d:Int) -1:=IntWalk.i64_in _ ahf;go_wp2_with fail;refine(zq T _ H hs _ nL.o).mono ?_;rintro e w3 ⟨⟨q,rfl⟩,rfl⟩;cases q
  ·go_wp2_with fail;refine(NK.o.bl hd0 wb H hs ⟨#[114]⟩ nL.o ahf afa).mono ?_;rintro e w5 ⟨v,l,H5,rfl,hg,hok,hl1,hl2,hx,hM,hI⟩;obtain⟨ab,cb,rfl,hst⟩:=hg.says hok;have BA:=ah (ay (yF hl2 hok) hst);have tJ:=ah hx;have fU:=ah hM;have S5:=ah (Co.o.mm hM hx hI);clear hg hok hl1 hl2 hx hM hI hst;have gF:=ah S5.o.z;obtain⟨⟨y0,y1,y2,y3,y4,y5,y6,y7,y8,y9,jM⟩,fz⟩:=gL gF.o;have f0:=fz 0;have f1:=fz 1;have f2:=fz 2;have f3:=fz 3;have f4:=fz 4;have f5:=fz 5;have f6:=fz 6;have f7:=fz 7;have f8:=fz 8;have f9:=fz 9;have f10:=fz 10;clear fz;go_wp2_with fail;exact iA (jk (⟨fP 6 ⟨#[114]⟩ .nil 0 0 ⟨#[]⟩ .nil,fQ l,.nil,Jb ab cb⟩:bU) nM.o bJ.o eX.o S5.o.m S5.o.x S5.o.i (xY ae8 afa wU uF BA.o.1 sb0) (iY iq iq BA.o.2 eu) S5.o.z rfl) aix rfl
  ·exact Aag
end Go.Proofs.YtcjgfgkllmldpaaGreatDoor
