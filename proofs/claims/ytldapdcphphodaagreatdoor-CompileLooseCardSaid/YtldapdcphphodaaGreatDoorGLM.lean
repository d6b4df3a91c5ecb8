/- Contract of the maker's Loose: it returns a small program that lies in new memory. -/
import Derived.Test.YtldapdcphphodaaGreatDoorGLK
import Derived.Deep.LoopGhost
set_option linter.unusedSimpArgs false
set_option linter.unusedVariables false
set_option maxHeartbeats 40000000
set_option maxRecDepth 1000000
namespace Go.Proofs.YtldapdcphphodaaGreatDoor
open Go.RowKit
open Md
theorem wb {q d:Nat} (h:q<=54) (hd:GS d<=100000000):((q:Int)).toNat*GS d<=WB:=by
 rw[Int.toNat_natCast];have:=Nat.mul_le_mul h hd;unfold WB;omega
def LsP (w:World) (e':Ending) (w':World):Prop:= ∃(p:Pr) (aK aM:Option Addr) (aG aD:Nat),e'= .returned (.agg #[.slice aK p.ds.length aG,.slice aM p.ts.length aD])∧p.At w' aK aM∧p.ds.length<=aG∧p.ts.length<=aD∧(p.ts.length<=5∧∀t∈p.ts,vM WB t.body)∧Below w.heap.size w w'
def zTh:Array Value:= #[.string ⟨#[]⟩,.int .i64 0,.slice none 0 0,.slice none 0 0]
def Lu:List ByteArray:=[⟨#[97]⟩,⟨#[98]⟩]
def lc5:List ByteArray:=[⟨#[97]⟩,⟨#[98]⟩,⟨#[107]⟩,⟨#[107,49]⟩,⟨#[107,50]⟩]
theorem aN0: ∀s∈lc5,s.size<=12:=by
 intro s hs;simp only[lc5,List.mem_cons,List.not_mem_nil,or_false]at hs;rcases hs with rfl|rfl|rfl|rfl|rfl <;> decide
theorem XT: ∀s∈Lu,s.size<=12:=by
 intro s hs;simp only[Lu,List.mem_cons,List.not_mem_nil,or_false]at hs;rcases hs with rfl|rfl <;> decide
def DeV (v:Value) (_:World):Prop:= ∃d,v=dvL d∧d.Ok
def Or2 (a b:Int) (v:Value) (_:World):Prop:=v= .int .i64 a∨v= .int .i64 b
def StR (B:Nat) (v:Value) (w:World):Prop:= ∃(l:aY) (ao:Option Addr) (cap:Nat),v= .slice ao (aY.len l) cap∧(aY.len l<=1000∧vM WB l)∧gB B w (λw2=>l.At w2 w2.heap.size ao 0)
theorem Wz (w:World) (zs:List Int) (ao:Option Addr) (cap:Nat) (hz:MP w w.heap.size zs ao) (hl:zs.length<=9223372036854775807):
 Calls Tryz.prog 4 #[.slice ao zs.length cap] w (LsP w):=by
 have HZ:=ah hz;clear hz;go_enter Tryz.func4,Tryz.ntmps4;go_upto_region 3 with fail;obtain⟨q,hq⟩: ∃q:Int,q=12+58*((zs.length:Int)%5 / 4):=⟨_,rfl⟩;rw[<- hq];have hq0:0<=q∧q<=100:=ahe
 obtain⟨wa,XJ⟩: ∃x,x=w.alloc (.cells #[.slice none 0 0,.slice none 0 0] 26):=⟨_,rfl⟩;rw[<- XJ];obtain⟨w2,hw2⟩: ∃x,x=(wa.alloc (.cells #[.slice ao zs.length cap,.int .i64 0] 49)).alloc (.cells #[.pointer (some ⟨w.heap.size+1,0,none⟩),.int .i64 0,.int .i64 q] 51):=⟨_,rfl⟩;rw[<- hw2];obtain⟨T,e0,e1,e2,e3,e4,e5⟩: ∃T:Tp,T.B0=w.heap.size∧w.heap.size+1=T.bt∧w.heap.size+1+1=T.bm∧T.ao=ao∧T.cap=cap∧T.zs=zs:=⟨⟨w.heap.size,w.heap.size+1,w.heap.size+1+1,ao,cap,zs,ahe,ahe,ahe⟩,rfl,rfl,rfl,rfl,rfl,rfl⟩;obtain⟨pb,hpb⟩: ∃pb,w.heap.size+1+1+1=pb:=⟨_,rfl⟩;obtain⟨nb,hnb,-,-,HB2,HT2,FQ,-⟩:=WK hw2.symm;have hsa:wa.heap.size=w.heap.size+1:=by rw[XJ];simp
 rw[hsa]at hnb;subst hnb;have lX:aj (Below w.heap.size w w2):=ah ((by rw[XJ];exact aA _ _:Below w.heap.size w wa).trans (HB2.o.mono (eG _)));have HR2:aj (w2.heap[w.heap.size]? =some (.cells #[.slice none 0 0,.slice none 0 0] 26 (0,0))):=ah ((HB2.o.block _ (Nat.lt_succ_self _)).trans (by rw[XJ];exact heap_alloc_new _ _));have hsz2:w2.heap.size=pb:=by rw[hw2,<- hpb];simp[hsa]
 rw[hpb,e2,e1];rw[e1]at HT2 FQ;have Zp:aj (jN w2 T):=ah ⟨⟨⟨0,bF _,by rw[HT2.o,e3,e4,e5];rfl⟩,by rw[e0,e3,e5];exact HZ.o.below lX.o,by rw[e5];exact hl⟩,⟨0,q,Dj,hq0.1,hq0.2,by rw[<- e2,e1];exact FQ.o⟩⟩;generalize hW:World.alloc w2 _=W;have Cy:aj (PD T w2 pb W (.slice none 0 0) []):=ah (by rw[<- hW];exact⟨by rw[<- hsz2];exact heap_alloc_new _ _,Grow.nil _ _ _ _ _ _,ahg,Ki.al ⟨Zp.o,Mk.refl _ _,Zp.o.tb⟩ _,Nat.le_of_eq hsz2⟩);have FY:aj (T.B0=w.heap.size∧T.bt=w.heap.size+1∧T.bm=w.heap.size+2∧pb=w.heap.size+3∧w2.heap.size=pb):=ah ⟨e0,e1.symm,ahe,ahe,hsz2⟩;clear hW hw2 XJ hsa e0 e1 e2 e3 e4 e5 hpb hsz2 HZ Zp HT2 FQ HB2 hq hq0;have c0:=Cy.o.k.mi.ptr;go_wp2_with fail;refine(gN T 4 _ afo Cy.o.k.mi).mono ?_;rintro e w3 ⟨k,rfl,hk1,hM,hI⟩;have M7:=ah (Cy.o.go hM hI);clear hM hI hk1 c0 Cy
 go_upto_if 28 with fail
 go_cut [4] (λs4 W'=>s4= .pointer (some ⟨pb,0,none⟩)∧∃vD ds,ds.length<=100∧PD T w2 pb W' vD ds)
 case first=>
  by_cases hk:(0:Int)<(k:Int)
  ·go_wp2_with fail;refine(Xc _).mono ?_;rintro e w4 ⟨g,rfl,hg,hgc,hb⟩;have HPG:aj (pb+1<=g):=ah (aR M7.o.sz hg);have M8:=ah (M7.o.go (Mk.of_below hb) (M7.o.k.mi.below hb));have HGC:=ah hgc;have y0:w4.cell? ⟨pb,0,none⟩=some (.slice none 0 0):=aQ M8.o.box rfl;have f0:w4.frozen? ⟨pb,0,none⟩=false:=bC M8.o.box;clear hb hgc hg M7;go_upto_region 5 with fail;generalize CY:World.setCell w4 _ _=w5;have Kl:aj (PD T w2 pb w5 (.slice (some ⟨g,0,none⟩) 9 9) Q0):=ah (by rw[<- CY];exact PD.put' M8.o.box M8.o.k M8.o.le (Grow.made Eh HGC.o HPG.o rfl afA) ar2);clear CY y0 f0 M8 HGC;go_wp2_with fail;go_loopw [5] (λv5 wr=> ∃(k:Nat) (ds:List De),v5= .int .i64 k∧k<=9∧ds.length=9∧PD T w2 pb wr (.slice (some ⟨g,0,none⟩) 9 9) ds) (λi _=>9 -(intOf i).toNat)
   case atStart=>exact⟨0,Q0,rfl,ahf,rfl,Kl.o⟩
   case round=>
    obtain⟨k,ds,rfl,GR,hds,hp⟩:=hrel;have HP:=ah hp;have rY:=ah hds;have y0:wr.cell? ⟨pb,0,none⟩=some (.slice (some ⟨g,0,none⟩) 9 9):=aQ hp.box rfl;obtain⟨line,left,hl1,hl2,hl3,hblk⟩:=hp.k.mi.Fx;have c1:wr.cell? ⟨T.bm,1,none⟩=some (.int .i64 line):=aQ hblk rfl;have f1:wr.frozen? ⟨T.bm,1,none⟩=false:=bC hblk;clear hp hds hblk hl1 hl2 hl3;by_cases hlt:k<9
    ·go_upto_region 9 with fail;generalize Xu:World.setCell wr _ _=wl;have OZ:aj (PD T w2 pb wl (.slice (some ⟨g,0,none⟩) 9 9) ds):=ah aeJ;clear Xu c1 f1 y0 HP;have y0:wl.cell? ⟨pb,0,none⟩=some (.slice (some ⟨g,0,none⟩) 9 9):=aQ OZ.o.box rfl;obtain⟨l,c1,Ep⟩:=OZ.o.k.mi.ln;have HLI:=ah Ep;obtain⟨d,hd⟩: ∃d,ds[k]? =some d:=⟨_,bJ (by rw[rY.o];exact hlt)⟩;have HD:=ah hd;have hcl:=(OZ.o.gd.cells Eh wl (jS.refl _ _)).2;have yl: ∃z,wl.cell? ⟨g,k*6+1,none⟩=some z:=(by obtain⟨kR,cap',e',-,hc⟩:=hcl;injection e' with q1 q2 q3;subst q1;obtain⟨g',h1,-,-,h4⟩:=hc k d hd;injection h1 with h1;injection h1 with h1;subst h1;exact⟨_,h4 1 _ rfl⟩);obtain⟨z,yl⟩:=yl;have fl:wl.frozen? ⟨g,k*6+1,none⟩=false:=by
      rcases OZ.o.gd.own.2 with⟨h1,-⟩|⟨g',cap',cur,h1,-,h3,-⟩
      ·cases h1
      ·injection h1 with h1;injection h1 with h1;injection h1 with h1;subst h1;exact bC h3
     have hb0:(0:Int)<=(k:Int):=ahe;have hb1:(k:Int)<9:=ahe;clear Ep hd hcl;refine bS ahd rfl ?_;refine bK 0 9 [] [[],[0],[],[],[3],[3,4],[3,4,5],[0,1,2,3,4,5,6],[0,1,2,3,4,5,6,7],[0,1,2,3,4,5,6,7,8]] [[],[],[],[],[],[],[],[],[]] (λ_ w'=>w'=wl.drewN 1) (λw w'=>w=w') [45,46,47,48,49,50,51,52,53] rfl rfl aip ahd ahd ahd ahd ahd aip (λ_=>rfl) aip rfl ?_;simp only[eB,iP]
     iterate 9
      apply bf.step
      case aZ=>intro c A w' hok hC hO hD;have e4:=hO 4 aip;have e5:=hO 5 aip;have e3:=hO 3 aip;simp[Act.eval]at e4 e5 e3;simp[Act.eval]at hD;simp[go_sem,gd,Oper.wp,hD,e4,e5,e3,hC,y0,c1,hb0,hb1];exact aO.mk rfl rfl (bT.mk _ _)
      try simp only[bP]
     try simp only[bP]
     refine bf.done ?_;intro wz bR
     try simp only[eB]
     iterate 9 refine jk ?_
     refine dH.nil ?_;go_simp;refine dA 9 [[],[0],[],[],[3],[3,4],[3,4,5],[0,1,2,3,4,5,6],[0,1,2,3,4,5,6,7],[0,1,2,3,4,5,6,7,8]] rfl rfl rfl rfl rfl ahd ahd ahd ?_;subst bR;simp[go_sem,Oper.wp,yl,fl];refine cO rfl ?_;have yO:=ah ((OZ.o.go (qK OZ.o.k.mi).1 (qK OZ.o.k.mi).2).line HD.o HLI.o);clear yl fl c1 y0;go_simp;go_wp2_with fail;go_roundw
     case rel=>exact⟨k+1,_,ahi,ahe,by simpa using rY.o,yO.o⟩
     case measure=>simp[intOf];omega
    ·have hk:k=9:=ahe;subst hk;go_wp2_with fail;go_meet;exact⟨rfl,_,ds,by rw[rY.o];decide,HP.o⟩
  ·have bp9:k=0:=by omega
   subst bp9;go_wp2_with fail;go_meet;exact⟨rfl,_,[],ahf,M7.o⟩
 obtain⟨rfl,vD,ds,hds,hp⟩:=hcut;obtain⟨wa,rfl⟩: ∃W:World,W=wc:=⟨_,rfl⟩;have Km:=ah hp;have HDa:=ah hds;clear hp hds M7;have c0:=Km.o.k.mi.ptr;go_wp2_with fail;refine(gN T 8 _ afo Km.o.k.mi).mono ?_;rintro e w4 ⟨k,rfl,hk1,hM,hI⟩;have kT:(k:Int)<8:=hk1 ahf;have VX:=ah (Km.o.go hM hI);clear hM hI hk1 c0 Km;go_wp2_with fail;go_loopw [6] (λv6 wr=> ∃(k:Int) (vD:Value) (ds:List De),v6= .int .i64 k∧ -4<=k∧k<=3∧(ds.length:Int)+k<=103∧ds.length<=107∧PD T w2 pb wr vD ds) (λi _=>(intOf i).toNat)
 case atStart=>exact⟨k -4,vD,ds,rfl,ahe,ahe,by have:=HDa.o;omega,by have:=HDa.o;omega,VX.o⟩
 case round=>
  clear VX HDa kT ds vD;obtain⟨k,vD,ds,rfl,hk4,hk3,hdk,hdl,hp⟩:=hrel;have HP:=ah hp;have HDK:=ah hdk;have xO:=ah hdl;clear hp hdk hdl;by_cases hk:0<k
  ·go_upto_region 13 with fail;have vF:aj (Tb T wr.heap.size):=ah HP.o.k.mi.tb;have Y0: ∀w',Mk T wr w'->w'.cell? ⟨pb,0,none⟩=some vD:=λw' h=>aQ (h.kp HP.o.k.tb HP.o.le HP.o.box) rfl;refine bS ahd rfl ?_;refine bK 0 5 [] [[],[0],[],[2],[2,3],[0,1,2,3,4],[0,1,2,3,4,5],[0,1,2,3,4,5,6]] [[],[],[],[],[]] (CM T wr) (Mk T) [64,65,66,67,68] rfl rfl aip ahd ahd ahd ahd ahd aip (Mk.refl T) aip (qK HP.o.k.mi) ?_;simp only[eB,iP]
   iterate 3
    apply bf.step
    case aZ=>intro c A w' hok hC hO hD;have e4:=hO 4 aip;have e3:=hO 3 aip;simp[Act.eval]at e4 e3;simp[Act.eval]at hD;simp[go_sem,gd,Oper.wp,hD,e4,e3,Y0,hC.1];exact aO.mk (Mk.refl _ _) hC (bT.mk _ _)
    try simp only[bP]
   refine bf.some DeV (λ_ _ _ _ h=>h) ?_ ?_
   ·intro c A w' hok hC hO hD;simp[Act.eval]at hD;simp[go_sem,gd,Oper.wp,hD];refine(aa4 T w' hC.2).mono ?_;rintro e w3 ⟨d,rfl,h1,h2,h3⟩;exact aO.mk h2 ⟨hC.1.trans h2,h3⟩ ⟨d,rfl,h1⟩
   refine bf.some (λv w'=> ∃d,d.Ok∧Ab wr (.cells (oD d).toArray 55 (0,0)) (λg=> .slice (some ⟨g,0,none⟩) 1 1) v w') (λ_ _ _ hle ⟨d,h1,h2⟩=>⟨d,h1,h2.go vF.o hle⟩) ?_ ?_
   ·intro c A w' hok hC hO hD;simp[Act.eval]at hD;obtain⟨d,hd,hok1⟩:=hD;unfold dvL at hd;simp[go_sem,gd,Oper.wp,hd];exact aO.mk (d:=_) (v:= .slice (some ⟨_,0,none⟩) 1 1) (Mk.of_below (aA _ _)) ahy ⟨d,hok1,_,rfl,hC.1.size,heap_alloc_new _ _⟩
   try simp only[bP]
   refine bf.done ?_;intro wz bR
   try simp only[eB]
   iterate 3 refine jk ?_
   intro v3 h3 v4 h4;clear h3;obtain⟨d,GN,bb,rfl,hbb,hcell⟩:=h4;clear Y0 vF;refine dH.nil ?_;go_simp;refine dA 5 [[],[0],[],[2],[2,3],[0,1,2,3,4],[0,1,2,3,4,5],[0,1,2,3,4,5,6]] rfl rfl rfl rfl rfl ahd ahd ahd ?_;obtain⟨i0,hi0,hz0,hz1,hz2⟩:=ar0;have yO:=ah (HP.o.go bR.1 bR.2);have hkl:ds.length+1<=maxLen:=by have:=xO.o;unfold maxLen;omega
   have hkb:(ds.length+1)*64<=140737488355328:=by have:=xO.o;omega
   refine wp_append_lies wz _ _ _ aip (pb+1) 55 i0 _ 6 64 Tryz.underlying23 hi0 hz0 hz1 hz2 aip ahe vD ds.length (ds.flatMap oD) aip yO.o.gd.own ⟨bb,0,none⟩ 1 1 (oD d) aip aip (gG hcell) (ar3 d) ahf hkl hkb yO.o.sz _ rfl ?_;intro g' cap' w5 hown hgr hmv hlt;have jF:aj (Below (pb+1) wz w5):=ah (kL hgr (λk hk=>(yO.o.gd.lt k hk).1) yO.o.sz);have kX:aj (w5.heap[pb]? =some (.cells #[vD,.slice none 0 0] 26 (0,0))):=ah ((jF.o.block pb (Nat.lt_succ_self _)).trans yO.o.box);have IZ:=ah (PD.put' (ds':=ds++[d]) kX.o (yO.o.k.rG jF.o (Nat.le_succ_of_le HP.o.le)) HP.o.le (yO.o.gd.push (x:=d) (λ_ _=>trivial) rfl hown hgr hmv) (λx hx=>by
    rcases List.mem_append.1 hx with hx|hx
    ·exact HP.o.ok x hx
    ·rw[List.mem_singleton.1 hx];exact GN))
   have y0:w5.cell? ⟨pb,0,none⟩=some vD:=aQ kX.o rfl;have f0:w5.frozen? ⟨pb,0,none⟩=false:=bC kX.o;clear hi0 hz0 hz1 hz2 hcell bR hbb GN hkl hkb hown hgr hmv hlt kX jF yO;go_simp;refine bK 6 7 [] [[],[0],[],[2],[2,3],[0,1,2,3,4],[0,1,2,3,4,5],[0,1,2,3,4,5,6]] [[]] (λ_ w'=>w'=w5) (λw w'=>w=w') [70] rfl rfl aip ahd ahd ahd ahd ahd aip (λ_=>rfl) aip rfl ?_;simp only[eB,iP];apply bf.step
   case aZ=>intro c A w' hok hC hO hD;have e4:=hO 4 aip;simp[Act.eval]at e4;simp[Act.eval]at hD;simp[go_sem,gd,Oper.wp,hD,e4];exact aO.mk rfl hC (bT.mk _ _)
   try simp only[bP]
   refine bf.done ?_;intro wz bR
   try simp only[eB]
   refine jk ?_;refine dH.nil ?_;go_simp;refine dA 7 [[],[0],[],[2],[2,3],[0,1,2,3,4],[0,1,2,3,4,5],[0,1,2,3,4,5,6]] rfl rfl rfl rfl rfl ahd ahd ahd ?_;subst bR;simp[go_sem,Oper.wp,y0,f0];refine cO rfl ?_;clear y0 f0;go_simp;go_wp2_with fail;go_roundw
   case rel=>exact⟨k -1,_,ds++[d],rfl,ahe,ahe,by have:=HDK.o;simp;omega,by have:=HDK.o;simp;omega,IZ.o⟩
   case measure=>simp[intOf];omega
  ·go_upto_region 15 with fail;obtain⟨nb,hnb⟩: ∃nb,wr.heap.size=nb:=⟨_,rfl⟩;generalize hWN:World.alloc wr _=wn;have HPI:aj (PI T w2 pb nb wn vD ds (.slice none 0 0) []):=ah (by rw[<- hWN,<- hnb];exact HP.o.pi);rw[hnb];clear hWN hnb hk4 hk3 hk HP HDK;have c0:=HPI.o.k.mi.ptr;go_wp2_with fail;refine(gN T 3 _ afo HPI.o.k.mi).mono ?_;rintro e wa ⟨n,rfl,hk1,hM,hI⟩;have hn3:(n:Int)<3:=hk1 ahf;have Km:=ah (HPI.o.go hM hI);clear hM hI hk1 c0 HPI;have c0:=Km.o.k.mi.ptr;go_wp2_with fail;refine(gN T 12 _ afo Km.o.k.mi).mono ?_;rintro e wb ⟨m,rfl,hm1,hM,hI⟩;have VX:=ah (Km.o.go hM hI);clear hM hI hm1 c0 Km
   go_upto_if 83 with fail
   go_cut [8] (λs8 W'=>W'=wb∧∃n:Nat,s8= .int .i64 (n:Int)∧1<=n∧n<=5)
   case first=>
    cases hm:((m:Int)==11)
    ·go_wp2_with fail;go_meet;exact⟨rfl,1+n,ahg,ahe,ahe⟩
    ·go_wp2_with fail;go_meet;exact⟨rfl,5,rfl,ahf,ahf⟩
   obtain⟨rfl,n',rfl,hn1,hn5⟩:=hcut;clear hn3;go_wp2_with fail;go_loopw [9] (λv9 wr=> ∃(k:Nat) (vT:Value) (rV:List kF),v9= .int .i64 k∧k<=n'∧rV.length=k∧PI T w2 pb nb wr vD ds vT rV) (λi _=>n' -(intOf i).toNat)
   case atStart=>exact⟨0,_,[],rfl,bF _,rfl,VX.o⟩
   case round=>
    clear VX;obtain⟨k,vT,rV,rfl,hkn,hth,hp⟩:=hrel;have HP:=ah hp;have sW:=ah hth;clear hp hth;by_cases hlt:k<n'
    ·obtain⟨line,left,hl1,hl2,hl3,hblk⟩:=HP.o.k.mi.Fx;have c1:wr.cell? ⟨T.bm,1,none⟩=some (.int .i64 line):=aQ hblk rfl;have f1:wr.frozen? ⟨T.bm,1,none⟩=false:=bC hblk;clear hblk hl1 hl2 hl3;go_upto_region 22 with fail;generalize Xu:World.setCell wr _ _=W0;have xR:aj (PI T w2 pb nb W0 vD ds vT rV):=ah aeJ;clear Xu c1 f1 HP;have vF:aj (Tb T W0.heap.size):=ah xR.o.k.mi.tb;have KN: ∀w',Mk T W0 w'->∃s,w'.cell? ⟨nb,k,none⟩=some (.string s)∧s.size<=12:=λw' h=>by obtain⟨s,h1,h2⟩:=nms [[116],[117],[119],[122],[122,53]] rfl k (by show k<5;omega);exact⟨s,aQ (h.kp xR.o.k.tb (aR xR.o.le (bM xR.o.lt)) xR.o.nms) h1,h2⟩
     have hb0:(0:Int)<=(k:Int):=ahe;have hb1:(k:Int)<5:=ahe;refine bS ahd rfl ?_;refine bK 0 11 [] [[],[],[0,1],[0,1,2],[],[4],[4,5],[4,5,6],[],[0,1,2,3,4,5,6,7,8],[],[0,1,2,3,4,5,6,7,8,9,10]] [[],[],[],[],[],[],[],[],[],[],[]] (CM T W0) (Mk T) [96,97,98,99,100,101,102,103,104,105,10] rfl rfl aip ahd ahd ahd ahd ahd aip (Mk.refl T) aip (qK xR.o.k.mi) ?_;simp only[eB,iP]
     iterate 3
      apply bf.step
      case aZ=>intro c A w' hok hC hO hD;have e7:=hO 7 aip;have e9:=hO 9 aip;simp[Act.eval]at e7 e9;simp[Act.eval]at hD;simp[go_sem,gd,Oper.wp,hD,e7,e9,hb0,hb1];exact aO.mk (Mk.refl _ _) hC (bT.mk _ _)
      try simp only[bP]
     refine bf.some (λv w'=>Ph v w') (λ_ _ _ _ h=>h) ?_ ?_
     ·intro c A w' hok hC hO hD;simp[Act.eval]at hD;obtain⟨s,hs,hsz⟩:=KN w' hC.1;simp[go_sem,gd,Oper.wp,hD,hs];exact aO.mk (Mk.refl _ _) hC (⟨s,rfl,hsz⟩)
     try simp only[bP]
     iterate 3
      apply bf.step
      case aZ=>intro c A w' hok hC hO hD;have e3:=hO 3 aip;simp[Act.eval]at e3;simp[Act.eval]at hD;simp[go_sem,gd,Oper.wp,hD,e3];exact aO.mk (Mk.refl _ _) hC (bT.mk _ _)
      try simp only[bP]
     refine bf.some (λv w'=> ∃l:Int,v= .int .i64 l∧dD l) (λ_ _ _ _ h=>h) ?_ ?_
     ·intro c A w' hok hC hO hD;simp[Act.eval]at hD;obtain⟨l,hc,hl⟩:=hC.2.ln;simp[go_sem,gd,Oper.wp,hD,hc];exact aO.mk (Mk.refl _ _) hC (⟨l,rfl,hl⟩)
     try simp only[bP]
     refine bf.some (Ab W0 (.cells (Lu.flatMap qo).toArray 9 (0,0)) (λg=> .slice (some ⟨g,0,none⟩) 2 2)) (λ_ _ _ hle h=>h.go vF.o hle) ?_ ?_
     ·intro c A w' hok hC hO hD;simp[go_sem,gd,Oper.wp];exact aO.mk (d:=_) (v:= .slice (some ⟨_,0,none⟩) 2 2) (Mk.of_below (aA _ _)) ahy ⟨_,rfl,hC.1.size,heap_alloc_new _ _⟩
     try simp only[bP]
     refine bf.some (λv w'=> ∃(s:ByteArray) (l:Int),s.size<=12∧dD l∧Ab W0 (.cells (Lu.flatMap qo).toArray 9 (0,0)) (λg=> .agg #[.string s,.int .i64 l,.slice (some ⟨g,0,none⟩) 2 2,.slice none 0 0]) v w') (λ_ _ _ hle ⟨s,l,h1,h2,h3⟩=>⟨s,l,h1,h2,h3.go vF.o hle⟩) ?_ ?_
     ·intro c A w' hok hC hO hD;simp[Act.eval]at hD;obtain⟨⟨s,hs,hsn⟩,⟨l,hl,Ep⟩,lb,hlb,h1,h2⟩:=hD;simp[go_sem,gd,Oper.wp,hs,hl,hlb];exact aO.mk (Mk.refl _ _) hC ⟨s,hsn,l,Ep,lb,rfl,h1,h2⟩
     try simp only[bP]
     refine bf.some (Ab W0 (.cells zTh 59 (0,0)) (λg=> .pointer (some ⟨g,0,none⟩))) (λ_ _ _ hle h=>h.go vF.o hle) ?_ ?_
     ·intro c A w' hok hC hO hD;simp[go_sem,gd,Oper.wp];exact aO.mk (d:=_) (v:= .pointer (some ⟨_,0,none⟩)) (Mk.of_below (aA _ _)) ahy ⟨_,rfl,hC.1.size,heap_alloc_new _ _⟩
     try simp only[bP]
     refine bf.done ?_;intro wz bR
     try simp only[eB]
     intro v0 h0 v1 h1 v2 h2 v3 h3 v4 h4 v5 h5 v6 h6 v7 h7 v8 h8 v9 h9 v10 h10;clear h0 h1 h2 h3 h4 h5 h6 h7 h8;obtain⟨s,l,hsn,Ep,lb,rfl,hlb,hlc⟩:=h9;obtain⟨tb,rfl,htb,htc⟩:=h10;clear KN;refine dH.nil ?_;go_simp;have hne:lb≠tb:=λe=>by subst e;rw[hlc]at htc;cases htc
     refine dA 11 [[],[],[0,1],[0,1,2],[],[4],[4,5],[4,5,6],[],[0,1,2,3,4,5,6,7,8],[],[0,1,2,3,4,5,6,7,8,9,10]] rfl rfl rfl rfl rfl ahd ahd ahd ?_;refine wp_store_mid _ _ _ aip tb 0 #[.string s,.int .i64 l,.slice (some ⟨lb,0,none⟩) 2 2,.slice none 0 0] aip aip (yH htc (aH 4)) av3 afH ?_;refine cO rfl ?_;generalize rP:World.setCells wz tb 0 _=W5;obtain⟨kX,vQ,-⟩:=Er rP htc rfl;have HTI:aj (TI T W0 tb W5 s l (.slice (some ⟨lb,0,none⟩) 2 2) Lu (.slice none 0 0)):=ah ⟨kX.o,(Grow.made IG hlc hlb rfl afA).Vl (zf.JU vQ.o) (λk hk e=>by injection hk with hk;injection e with e;have hk:lb=k:=hk;omega),λk hk=>by injection hk with hk;have hk:lb=k:=hk;omega,⟨hsn,Ep,XT,ahf⟩,(Ki.go ⟨xR.o.k.mi,Mk.refl _ _,vF.o⟩ bR.1 bR.2).rG (kL vQ.o (λk e=>by cases e;exact htb) bR.1.size) (aH _),htb⟩;clear rP bR hlb hlc htb htc hsn Ep hne kX vQ vF;go_simp;have c0:=HTI.o.k.mi.ptr;go_wp2_with fail;refine(gN T 16 _ afo HTI.o.k.mi).mono ?_;rintro e W6 ⟨m,rfl,hm1,hM,hI⟩;have nZ:=ah (HTI.o.go hM hI);clear hM hI hm1 c0 HTI;go_upto_block 6 with fail;go_cut [10] (λs10 W'=>s10= .pointer (some ⟨tb,0,none⟩)∧∃(s:ByteArray) (vL:Value) (lc:List ByteArray),TI T W0 tb W' s l vL lc (.slice none 0 0))
     case first=>
      cases tY:((m:Int)==13)
      ·cases qD:((m:Int)==14)
       ·cases uL:((m:Int)==15)
        ·go_wp2_with fail;go_meet;exact⟨rfl,_,_,_,nZ.o⟩
        ·have y2:=aQ (j:=2) nZ.o.box rfl;have f2:W6.frozen? ⟨tb,2,none⟩=false:=bC nZ.o.box;have bq1:tb<W6.heap.size:=nZ.o.sz;have HL6:=ah bq1;go_wp2_with fail;go_meet;have CF:=ah (nZ.o.go (Mk.of_below (aA W6 (.cells (lc5.flatMap qo).toArray 9))) (nZ.o.k.mi.below (aA _ _)));have P7:=TI.put (Iy:=lc5) (Uj:= .slice (some ⟨W6.heap.size,0,none⟩) 5 5) 2 CF.o.box rfl (Grow.made IG (heap_alloc_new _ _) nZ.o.k.km.size rfl afA) (λk hk=>by injection hk with hk;have hk:W6.heap.size=k:=hk;have:=HL6.o;omega) ⟨nZ.o.ok.1,nZ.o.ok.2.1,aN0,ahf⟩ CF.o.k CF.o.le;rw[World.setCell_alloc_past _ _ _ _ HL6.o]at P7;have HRH:=ah P7;clear P7;refine⟨rfl,?_⟩;exact⟨_,_,_,HRH.o⟩
       ·go_upto_region 27 with fail;have vF:aj (Tb T W6.heap.size):=ah nZ.o.k.mi.tb;have Y2: ∀w',Mk T W6 w'->w'.cell? ⟨tb,2,none⟩=some (.slice (some ⟨lb,0,none⟩) 2 2):=λw' h=>aQ (h.kp nZ.o.k.tb nZ.o.le nZ.o.box) rfl;refine bS ahd rfl ?_;refine bK 0 11 [] [[],[0],[],[],[3],[3,4],[3,4,5],[3,4,5,6],[2,3,4,5,6,7],[2,3,4,5,6,7,8],[2,3,4,5,6,7,8,9],[0,1,2,3,4,5,6,7,8,9,10],[0,1,2,3,4,5,6,7,8,9,10,11],[0,1,2,3,4,5,6,7,8,9,10,11,12]] [[],[],[],[],[],[],[],[],[],[],[]] (CM T W6) (Mk T) [116,117,118,119,120,121,122,123,124,125,126] rfl rfl aip ahd ahd ahd ahd ahd aip (Mk.refl T) aip (qK nZ.o.k.mi) ?_;simp only[eB,iP]
        iterate 2
         apply bf.step
         case aZ=>intro c A w' hok hC hO hD;have e10:=hO 10 aip;simp[Act.eval]at e10;simp[Act.eval]at hD;simp[go_sem,gd,Oper.wp,hD,e10,Y2,hC.1];exact aO.mk (Mk.refl _ _) hC (bT.mk _ _)
        refine bf.some (Ab W6 (.cells (Jf [[97],[120],[116],[107]]) 9 (0,0)) (λg=> .slice (some ⟨g,0,none⟩) 4 4)) (λ_ _ _ hle h=>h.go vF.o hle) ?_ ?_
        ·intro c A w' hok hC hO hD;simp[go_sem,gd,Oper.wp];exact aO.mk (d:=_) (v:= .slice (some ⟨_,0,none⟩) 4 4) (Mk.of_below (aA _ _)) ahy ⟨_,rfl,hC.1.size,heap_alloc_new _ _⟩
        try simp only[bP]
        iterate 4
         apply bf.step
         case aZ=>intro c A w' hok hC hO hD;have e3:=hO 3 aip;simp[Act.eval]at e3;simp[Act.eval]at hD;simp[go_sem,gd,Oper.wp,hD,e3,hC.2.ptr];exact aO.mk (Mk.refl _ _) hC (bT.mk _ _)
         try simp only[bP]
        refine bf.some (yV 0 3) (λ_ _ _ _ h=>h) ?_ ?_
        ·intro c A w' hok hC hO hD;simp[Act.eval]at hD;simp[go_sem,gd,Oper.wp,hD];refine(gN T 4 w' afo hC.2).mono ?_;rintro e w2 ⟨r,rfl,h1,hM,hI⟩;exact aO.mk hM ⟨hC.1.trans hM,hI⟩ ⟨r,rfl,bF _,acY⟩
        try simp only[bP]
        refine bf.some (λv w'=>WC W6 (.cells (Jf [[97],[120],[116],[107]]) 9 (0,0)) 4 v w') (λ_ _ _ hle h=>h.go vF.o hle) ?_ ?_
        ·intro c A w' hok hC hO hD;simp[Act.eval]at hD;obtain⟨⟨g,hg,hg1,hg2⟩,r,hr,h0,h1⟩:=hD;have hb0:(0:Int)<=(r:Int):=ahe;have hb1:(r:Int)<4:=ahe;simp[go_sem,gd,Oper.wp,hg,hr,hb0,hb1];exact aO.mk (Mk.refl _ _) hC (⟨g,r,rfl,ahe,hg1,hg2⟩)
        try simp only[bP]
        refine bf.some (λv w'=>Ph v w') (λ_ _ _ _ h=>h) ?_ ?_
        ·intro c A w' hok hC hO hD;simp[Act.eval]at hD;obtain⟨g,r,hr,h1,hg1,hg2⟩:=hD;obtain⟨s,hs,hsz⟩:=nms [[97],[120],[116],[107]] rfl r h1;simp[go_sem,gd,Oper.wp,hr,(aQ hg2 hs)];exact aO.mk (Mk.refl _ _) hC (⟨s,rfl,hsz⟩)
        try simp only[bP]
        refine bf.some (λv w'=> ∃s:ByteArray,s.size<=12∧Ab W6 (.cells (qo s).toArray 9 (0,0)) (λg=> .slice (some ⟨g,0,none⟩) 1 1) v w') (λ_ _ _ hle ⟨s,h1,h2⟩=>⟨s,h1,h2.go vF.o hle⟩) ?_ ?_
        ·intro c A w' hok hC hO hD;simp[Act.eval]at hD;obtain⟨s,hs,hsn⟩:=hD;simp[go_sem,gd,Oper.wp,hs];exact aO.mk (d:=_) (v:= .slice (some ⟨_,0,none⟩) 1 1) (Mk.of_below (aA _ _)) ahy ⟨s,hsn,_,rfl,hC.1.size,heap_alloc_new _ _⟩
        try simp only[bP]
        refine bf.done ?_;intro wz bR
        try simp only[eB]
        iterate 2 refine jk ?_
        intro v2 h2 v3 h3 v4 h4 v5 h5 v6 h6 v7 h7 v8 h8 v9 h9 v10 h10;clear h2 h3 h4 h5 h6 h7 h8 h9;obtain⟨s',hsn,bb,rfl,hbb,hcell⟩:=h10;clear Y2;refine dH.nil ?_;go_simp;refine dA 11 [[],[0],[],[],[3],[3,4],[3,4,5],[3,4,5,6],[2,3,4,5,6,7],[2,3,4,5,6,7,8],[2,3,4,5,6,7,8,9],[0,1,2,3,4,5,6,7,8,9,10],[0,1,2,3,4,5,6,7,8,9,10,11],[0,1,2,3,4,5,6,7,8,9,10,11,12]] rfl rfl rfl rfl rfl ahd ahd ahd ?_;obtain⟨i0,hi0,hz0,hz1,hz2⟩:=av6;have rE:=ah (nZ.o.go bR.1 bR.2);have HSN:=ah hsn;refine wp_append_lies wz _ _ _ aip W0.heap.size 9 i0 _ 1 16 Tryz.underlying31 hi0 hz0 hz1 hz2 aip ahe (.slice (some ⟨lb,0,none⟩) 2 2) Lu.length (Lu.flatMap qo) aip rE.o.gl.own ⟨bb,0,none⟩ 1 1 (qo s') aip aip (gG hcell) agH ahf afA ahf rE.o.k.km.size _ rfl ?_;intro g' cap' w5 hown hgr hmv hlt';have kX:aj (w5.heap[tb]? =some (.cells #[.string s,.int .i64 l,.slice (some ⟨lb,0,none⟩) 2 2,.slice none 0 0] 59 (0,0))):=ah ((hgr.block tb (Nat.lt_of_succ_le rE.o.sz) (λe=>rE.o.ne tb e.symm rfl)).trans rE.o.box);have yR:=ah (TI.put (Iy:=Lu++[s']) (Uj:= .slice (some ⟨g',0,none⟩) 3 cap') 2 kX.o rfl (rE.o.gl.push (x:=s') (λ_ _=>trivial) rfl hown hgr hmv) (λk hk=>by
         injection hk with hk;have hk:g'=k:=hk;have hz:=rE.o.sz;rcases hmv with h|h
         ·have:=rE.o.ne g' h;omega
         ·omega) ⟨nZ.o.ok.1,nZ.o.ok.2.1,λx hx=>by
          rcases List.mem_append.1 hx with hx|hx
          ·exact XT x hx
          ·rw[List.mem_singleton.1 hx];exact HSN.o,by simp[Lu]⟩ (rE.o.k.rG (kL hgr (λk hk=>(rE.o.gl.lt k hk).1) rE.o.k.km.size) (aH _)) rE.o.le)
        have y2:w5.cell? ⟨tb,2,none⟩=some (.slice (some ⟨lb,0,none⟩) 2 2):=aQ kX.o rfl;have f2:w5.frozen? ⟨tb,2,none⟩=false:=bC kX.o;clear hi0 hz0 hz1 hz2 hcell bR hbb hsn hown hgr hmv hlt' kX rE vF;go_simp;refine bK 12 13 [] [[],[0],[],[],[3],[3,4],[3,4,5],[3,4,5,6],[2,3,4,5,6,7],[2,3,4,5,6,7,8],[2,3,4,5,6,7,8,9],[0,1,2,3,4,5,6,7,8,9,10],[0,1,2,3,4,5,6,7,8,9,10,11],[0,1,2,3,4,5,6,7,8,9,10,11,12]] [[]] (λ_ w'=>w'=w5) (λw w'=>w=w') [128] rfl rfl aip ahd ahd ahd ahd ahd aip (λ_=>rfl) aip rfl ?_;simp only[eB,iP];apply bf.step
        case aZ=>intro c A w' hok hC hO hD;have e10:=hO 10 aip;simp[Act.eval]at e10;simp[Act.eval]at hD;simp[go_sem,gd,Oper.wp,hD,e10];exact aO.mk rfl hC (bT.mk _ _)
        try simp only[bP]
        refine bf.done ?_;intro wz bR
        try simp only[eB]
        refine jk ?_;refine dH.nil ?_;go_simp;refine dA 13 [[],[0],[],[],[3],[3,4],[3,4,5],[3,4,5,6],[2,3,4,5,6,7],[2,3,4,5,6,7,8],[2,3,4,5,6,7,8,9],[0,1,2,3,4,5,6,7,8,9,10],[0,1,2,3,4,5,6,7,8,9,10,11],[0,1,2,3,4,5,6,7,8,9,10,11,12]] rfl rfl rfl rfl rfl ahd ahd ahd ?_;subst bR;simp[go_sem,Oper.wp,y2,f2];refine cO rfl ?_;clear y2 f2;go_simp;go_wp2_with fail;go_meet;refine⟨rfl,?_⟩;exact⟨_,_,_,yR.o⟩
      ·have y0:=aQ (j:=0) nZ.o.box rfl;have f0:W6.frozen? ⟨tb,0,none⟩=false:=bC nZ.o.box;have Wi:=ah (TI.put (nm':=⟨#[116]⟩) (v:= .string ⟨#[116]⟩) 0 nZ.o.box rfl nZ.o.gl nZ.o.ne ⟨ahf,nZ.o.ok.2⟩ nZ.o.k nZ.o.le);go_wp2_with fail;go_meet;refine⟨rfl,?_⟩;exact⟨_,_,_,Wi.o⟩
     obtain⟨rfl,s',vL,lc,hT⟩:=hcut;obtain⟨W7,rfl⟩: ∃W:World,W=wc:=⟨_,rfl⟩;have yR:=ah hT;clear hT nZ;have vF:aj (Tb T W7.heap.size):=ah yR.o.k.mi.tb;have KL: ∀w',jN w' T->∃q:Nat,w'.cell? ⟨T.bm,2,none⟩=some (.int .i64 (q:Int))∧q<=100:=λw' h=>by obtain⟨x,q,-,h1,h2,h3⟩:=h.Fx;obtain⟨q,rfl⟩:=Int.eq_ofNat_of_zero_le h1;exact⟨q,aQ h3 rfl,ahe⟩
     have HE2:aj (DZ T 2):=ah (O5 T 2 ahf);have HE7:aj (DZ T 7):=ah (O5 T 7 ahf);go_upto_region 30 with fail;refine bS ahd rfl ?_;refine bK 0 24 [] [[],[],[1],[1,2],[1,2,3],[1,2,3,4],[1,2,3,4,5],[1,2,3,4,5,6],[1,2,3,4,5,6,7],[],[9],[9,10],[9,10,11],[1,2,3,4,5,9,10,11,12],[1,2,3,4,5,9,10,11,12,13],[],[15],[15,16],[15,16,17],[15,16,17,18],[15,16,17,18,19],[1,2,3,4,5,9,10,11,12,13,14,15,16,17,18,19,20],[0,1,2,3,4,5,6,7,8,9,10,11,12,13,14,15,16,17,18,19,20,21],[0,1,2,3,4,5,6,7,8,9,10,11,12,13,14,15,16,17,18,19,20,21,22],[0,1,2,3,4,5,6,7,8,9,10,11,12,13,14,15,16,17,18,19,20,21,22,23]] [[],[],[],[],[],[],[],[],[],[],[],[],[],[],[],[],[],[],[],[],[],[],[],[]] (CM T W7) (Mk T) [133,134,135,136,137,138,139,140,141,142,143,144,145,146,147,148,149,150,151,152,153,154,155,156] rfl rfl aip ahd ahd ahd ahd ahd aip (Mk.refl T) aip (qK yR.o.k.mi) ?_;simp only[eB,iP]
     iterate 5
      apply bf.step
      case aZ=>intro c A w' hok hC hO hD;have e3:=hO 3 aip;simp[Act.eval]at e3;simp[Act.eval]at hD;simp[go_sem,gd,Oper.wp,hD,e3,hC.2.ptr];exact aO.mk (Mk.refl _ _) hC (bT.mk _ _)
      try simp only[bP]
     refine bf.some (yV 0 5) (λ_ _ _ _ h=>h) ?_ ?_
     ·intro c A w' hok hC hO hD;simp[Act.eval]at hD;simp[go_sem,gd,Oper.wp,hD];refine(gN T 6 w' afo hC.2).mono ?_;rintro e w2 ⟨r,rfl,h1,hM,hI⟩;exact aO.mk hM ⟨hC.1.trans hM,hI⟩ ⟨r,rfl,bF _,acY⟩
     try simp only[bP]
     refine bf.some (Or2 0 1) (λ_ _ _ _ h=>h) ?_ ?_
     ·intro c A w' hok hC hO hD;simp[Act.eval]at hD;obtain⟨r,hr,-,hr6⟩:=hD;have hr6:r=0∨r=1∨r=2∨r=3∨r=4∨r=5:=ahe;rcases hr6 with rfl|rfl|rfl|rfl|rfl|rfl
      all_goals simp[go_sem,gd,Oper.wp,hr];exact aO.mk (Mk.refl _ _) hC ady
     try simp only[bP]
     refine bf.some (Or2 0 5) (λ_ _ _ _ h=>h) ?_ ?_
     ·intro c A w' hok hC hO hD;simp[Act.eval]at hD;rcases hD with hr|hr
      all_goals simp[go_sem,gd,Oper.wp,hr];exact aO.mk (Mk.refl _ _) hC ady
     try simp only[bP]
     refine bf.some (Or2 2 7) (λ_ _ _ _ h=>h) ?_ ?_
     ·intro c A w' hok hC hO hD;simp[Act.eval]at hD;rcases hD with hr|hr
      all_goals simp[go_sem,gd,Oper.wp,hr];exact aO.mk (Mk.refl _ _) hC ady
     try simp only[bP]
     iterate 4
      apply bf.step
      case aZ=>intro c A w' hok hC hO hD;have e3:=hO 3 aip;simp[Act.eval]at e3;simp[Act.eval]at hD;simp[go_sem,gd,Oper.wp,hD,e3,hC.2.ptr];exact aO.mk (Mk.refl _ _) hC (bT.mk _ _)
      try simp only[bP]
     refine bf.some (yV 0 3) (λ_ _ _ _ h=>h) ?_ ?_
     ·intro c A w' hok hC hO hD;simp[Act.eval]at hD;simp[go_sem,gd,Oper.wp,hD];refine(gN T 4 w' afo hC.2).mono ?_;rintro e w2 ⟨r,rfl,h1,hM,hI⟩;exact aO.mk hM ⟨hC.1.trans hM,hI⟩ ⟨r,rfl,bF _,acY⟩
     try simp only[bP]
     refine bf.some (λv w'=>yV 1 4 v w') (λ_ _ _ _ h=>h) ?_ ?_
     ·intro c A w' hok hC hO hD;simp[Act.eval]at hD;obtain⟨r,hr,hr7,Qw⟩:=hD;have hw:IntKind.i64.wrap (1+(r:Int))=1+r:=IntWalk.i64_in _ ahe;simp[go_sem,gd,Oper.wp,hr,hw];exact aO.mk (Mk.refl _ _) hC (⟨1+r,ahg,ahe,ahe⟩)
     try simp only[bP]
     iterate 3
      apply bf.step
      case aZ=>intro c A w' hok hC hO hD;have e3:=hO 3 aip;simp[Act.eval]at e3;simp[Act.eval]at hD;simp[go_sem,gd,Oper.wp,hD,e3];exact aO.mk (Mk.refl _ _) hC (bT.mk _ _)
      try simp only[bP]
     refine bf.some (λv w'=>yV 0 100 v w') (λ_ _ _ _ h=>h) ?_ ?_
     ·intro c A w' hok hC hO hD;simp[Act.eval]at hD;obtain⟨q,hq,hq1⟩:=KL w' hC.2;simp[go_sem,gd,Oper.wp,hD,hq];exact aO.mk (Mk.refl _ _) hC (⟨q,rfl,bF _,hq1⟩)
     try simp only[bP]
     refine bf.some (λv w'=>yV 0 5 v w') (λ_ _ _ _ h=>h) ?_ ?_
     ·intro c A w' hok hC hO hD;simp[Act.eval]at hD;obtain⟨q,hr,-,Qw⟩:=hD;have hw:IntKind.i64.wrap ((q:Int) / 20)=(q:Int) / 20:=IntWalk.i64_in _ ahe;simp[go_sem,gd,Oper.wp,hr,hw];exact aO.mk (Mk.refl _ _) hC (⟨q / 20,ahg,ahe,ahe⟩)
     try simp only[bP]
     refine bf.some (λv w'=>yV 0 50 v w') (λ_ _ _ _ h=>h) ?_ ?_
     ·intro c A w' hok hC hO hD;simp[Act.eval]at hD;obtain⟨q,hr,-,Qw⟩:=hD;have hw:IntKind.i64.wrap ((q:Int)*10)=((q*10:Nat):Int):=(IntWalk.i64_in _ ahe).trans ahe;simp[go_sem,gd,Oper.wp,hr,hw];exact aO.mk (Mk.refl _ _) hC (⟨q*10,ahg,ahe,ahe⟩)
     try simp only[bP]
     refine bf.some (λv w'=>yV 0 54 v w') (λ_ _ _ _ h=>h) ?_ ?_
     ·intro c A w' hok hC hO hD;simp[Act.eval]at hD;obtain⟨⟨r,hr,hr1,hr4⟩,q,hq,-,hq5⟩:=hD;have hw:IntKind.i64.wrap ((r:Int)+(q:Int))=((r+q:Nat):Int):=(IntWalk.i64_in _ ahe).trans ahe;simp[go_sem,gd,Oper.wp,hr,hq,hw];exact aO.mk (Mk.refl _ _) hC (⟨r+q,ahg,ahe,ahe⟩)
     try simp only[bP]
     refine bf.some (StR W7.heap.size) (λv w1 w' hle ⟨l,ao,cap,h1,h2,h3⟩=>⟨l,ao,cap,h1,h2,h3.next (hle.ab vF.o (aH _))⟩) ?_ ?_
     ·intro c A w' hok hC hO hD;simp[Act.eval]at hD;obtain⟨bo9,V3,⟨q,hq,-,hq5⟩,-⟩:=hD;rcases V3 with V3|V3
      ·simp[go_sem,gd,Oper.wp,bo9,V3,hq];refine(HE2.o w' _ hC.2 afM ahe).mono ?_;rintro e w3 ⟨l,ao,cap,rfl,h1,h2,h3,h4⟩;exact aO.mk h3 ⟨hC.1.trans h3,h4⟩ ⟨l,ao,cap,rfl,⟨h1.1,h1.2.mono (wb hq5 ahf)⟩,h2.mono hC.1.size⟩
      ·simp[go_sem,gd,Oper.wp,bo9,V3,hq];refine(HE7.o w' _ hC.2 afM ahe).mono ?_;rintro e w3 ⟨l,ao,cap,rfl,h1,h2,h3,h4⟩;exact aO.mk h3 ⟨hC.1.trans h3,h4⟩ ⟨l,ao,cap,rfl,⟨h1.1,h1.2.mono (wb hq5 ahf)⟩,h2.mono hC.1.size⟩
     try simp only[bP]
     apply bf.step
     case aZ=>intro c A w' hok hC hO hD;have e10:=hO 10 aip;simp[Act.eval]at e10;simp[Act.eval]at hD;simp[go_sem,gd,Oper.wp,hD,e10];exact aO.mk (Mk.refl _ _) hC (bT.mk _ _)
     try simp only[bP]
     refine bf.done ?_;intro wz bR
     try simp only[eB]
     intro v0 h0 v1 h1 v2 h2 v3 h3 v4 h4 v5 h5 v6 h6 v7 h7 v8 h8 v9 h9 v10 h10 v11 h11 v12 h12 v13 tY v14 qD v15 uL v16 h16 v17 AA v18 h18 v19 h19 v20 h20 v21 h21 v22 h22;refine jk ?_;clear h0 h1 h2 h3 h4 h5 h6 h7 h8 h9 h10 h11 h12 tY qD uL h16 AA h18 h19 h20 h21;obtain⟨lb',kR,cap',rfl,hlen,hst⟩:=h22;clear KL HE2 HE7;refine dH.nil ?_;go_simp;refine dA 24 [[],[],[1],[1,2],[1,2,3],[1,2,3,4],[1,2,3,4,5],[1,2,3,4,5,6],[1,2,3,4,5,6,7],[],[9],[9,10],[9,10,11],[1,2,3,4,5,9,10,11,12],[1,2,3,4,5,9,10,11,12,13],[],[15],[15,16],[15,16,17],[15,16,17,18],[15,16,17,18,19],[1,2,3,4,5,9,10,11,12,13,14,15,16,17,18,19,20],[0,1,2,3,4,5,6,7,8,9,10,11,12,13,14,15,16,17,18,19,20,21],[0,1,2,3,4,5,6,7,8,9,10,11,12,13,14,15,16,17,18,19,20,21,22],[0,1,2,3,4,5,6,7,8,9,10,11,12,13,14,15,16,17,18,19,20,21,22,23]] rfl rfl rfl rfl rfl ahd ahd ahd ?_;have rE:=ah (yR.o.go bR.1 bR.2);have zN:=ah hlen;have HST:=ah hst;have y3:wz.cell? ⟨tb,3,none⟩=some (.slice none 0 0):=aQ rE.o.box rfl;have f3:wz.frozen? ⟨tb,3,none⟩=false:=bC rE.o.box;have yP:=ah yR.o.sz;have Dx:aj (W0.heap.size<=W7.heap.size):=ah yR.o.k.km.size;clear bR hlen hst yR vF;simp[go_sem,Oper.wp,y3,f3];refine cO rfl ?_;generalize Ca:World.setCell wz _ _=W8;have Fq:aj (TI T W0 tb W8 s' l vL lc (.slice kR lb'.len cap')):=ah (by rw[<- Ca];exact TI.put 3 rE.o.box rfl rE.o.gl rE.o.ne rE.o.ok rE.o.k rE.o.le);have Ao:aj (gB W7.heap.size W8 (λw2=>lb'.At w2 w2.heap.size kR 0)):=ah (by rw[<- Ca];exact HST.o.next (gW _ _ _ yP.o));clear Ca y3 f3 rE HST;go_simp;have rD:=ah (xR.o.go Fq.o.k.km Fq.o.k.mi);obtain⟨gK,dW,el,hcl,hsl⟩:=Fq.o.gl.says (λx hx=>by have:=Fq.o.ok.2.2.1 x hx;unfold maxLen;omega);subst el;have HSL:=ah (aB hcl hsl);clear hcl hsl;obtain⟨y0,y1,y2,y3⟩:=cl4 Fq.o.box;have yT:W8.cell? ⟨pb,1,none⟩=some vT:=aQ rD.o.box rfl;have HX:aj (nP (nb+1) vT.ownBlock W8 (kF.I ⟨⟨s',l,lc,lb'⟩,gK,dW,kR,cap'⟩)):=ah (F5 (B1:=W0.heap.size) (λw' h'=>⟨HSL.o.2 w' h',(Ao.o.mono Dx.o) w' h'⟩) xR.o.sz (λk hk=>(xR.o.gt.lt k hk).2));have je:aj (((⟨s',l,lc,lb'⟩:Th).Ok∧lc.length<=dW)∧vM WB lb'):=ah (by obtain⟨k1,k2,-,k4⟩:=Fq.o.ok;exact⟨⟨⟨by show s'.size<=maxLen;unfold maxLen;omega,k2,by show lc.length<=maxLen;unfold maxLen;omega,by have:=zN.o.1;show lb'.len<=maxLen;unfold maxLen;omega⟩,HSL.o.1⟩,zN.o.2⟩);have J2:=ah (rD.o.go (Mk.of_below (aA W8 (.cells (kF.f ⟨⟨s',l,lc,lb'⟩,gK,dW,kR,cap'⟩).toArray 59))) (rD.o.k.mi.below (aA _ _)));obtain⟨i0,hi,hz0,hz1,hz2⟩:=av2;have hkl:rV.length+1<=maxLen:=(by rw[sW.o];unfold maxLen;omega);have hkb:(rV.length+1)*72<=140737488355328:=(by rw[sW.o];omega);go_wp2_with (at_builtin;refine wpList_append_lies _ rfl _ _ 24 rfl (nb+1) 59 i0 _ 4 72 Tryz.underlying24 hi hz0 hz1 hz2 rfl ahf _ _ _ rfl J2.o.gt.own ⟨W8.heap.size,0,none⟩ 1 1 (kF.f ⟨⟨s',l,lc,lb'⟩,gK,dW,kR,cap'⟩) rfl rfl (gG (heap_alloc_new _ _)) (av4 _) ahf hkl hkb J2.o.sz _ rfl ?_);clear hi hz0 hz1 hz2 hkl hkb;intro g' cap2 w9 hown hgr hmv hlt';have xS:=ah (J2.o.push (HX.o.next (dO (aA _ _)).x) je.o rfl hown hgr afP);have kX:aj (w9.heap[pb]? =some (.cells #[vD,vT] 26 (0,0))):=ah (((kL hgr (λk hk=>(J2.o.gt.lt k hk).1) J2.o.sz).block pb (Nat.lt_succ_of_lt xR.o.lt)).trans J2.o.box);have z1:w9.cell? ⟨pb,1,none⟩=some vT:=aQ kX.o rfl;have f1:w9.frozen? ⟨pb,1,none⟩=false:=bC kX.o;clear hown hgr hmv hlt' y0 y1 y2 y3 yT J2 HX kX;go_wp2_with fail;go_roundw
     case rel=>exact⟨k+1,_,_,ahi,ahe,by simp[sW.o],xS.o⟩
     case measure=>simp[intOf];omega
    ·have hk:k=n':=ahe;subst hk;obtain⟨aK,aG,e1,hcd,hsD⟩:=HP.o.gd.says HP.o.okd;obtain⟨aM,aD,e2,hct,hsT⟩:=HP.o.gt.says (λx hx=>(HP.o.okt x hx).1);subst e1 e2;have Fp:=ah (aB hsD (aB hsT (aB hcd hct)));clear hsD hsT hcd hct;obtain⟨y0,y1⟩:=nT HP.o.box;have HRW:aj (wr.heap[w.heap.size]? =some (.cells #[.slice none 0 0,.slice none 0 0] 26 (0,0))):=ah ((HP.o.k.km.block _ (aU HR2.o) agf agf).trans HR2.o);obtain⟨z0,z1⟩:=nT HRW.o;have f0: ∀j,wr.frozen? ⟨w.heap.size,j,none⟩=false:=λj=>bC HRW.o;go_wp2_with fail;have vN:aj (jS (w.heap.size+1) wr ((wr.setCell ⟨w.heap.size,0,none⟩ (.slice aK ds.length aG)).setCell ⟨w.heap.size,1,none⟩ (.slice aM rV.length aD))):=ah (jS.trans (gW wr ⟨w.heap.size,0,none⟩ (.slice aK ds.length aG) (Nat.lt_succ_self w.heap.size)) (gW (wr.setCell ⟨w.heap.size,0,none⟩ (.slice aK ds.length aG)) ⟨w.heap.size,1,none⟩ (.slice aM rV.length aD) (Nat.lt_succ_self w.heap.size)));have HBF:aj (Below w.heap.size w ((wr.setCell ⟨w.heap.size,0,none⟩ (.slice aK ds.length aG)).setCell ⟨w.heap.size,1,none⟩ (.slice aM rV.length aD))):=ah (((ZO lX.o HP.o.k.km agf agf).setCell ahg _).setCell ahg _);have jV:=ah (aB HP.o.le HP.o.lt);refine bodyPost_ret (v:= .agg #[.slice aK ds.length aG,.slice aM rV.length aD]) (by simp[results,Tryz.results4,go_sem,z0,z1]) rfl ⟨⟨ds,rV.map (·.t)⟩,aK,aM,aG,aD,ahg,⟨?_,?_,?_,?_⟩,Fp.o.2.2.1,?_,⟨?_,?_⟩,HBF.o⟩
     ·show ds.length<=maxLen;have:=xO.o;unfold maxLen;omega
     ·show(rV.map (·.t)).length<=maxLen;rw[ji,sW.o];unfold maxLen;omega
     ·exact Fp.o.1 _ (vN.o.mono agf)
     ·exact Fp.o.2.1 _ (vN.o.mono (by have:=FY.o;have:=jV.o;omega))
     ·show(rV.map (·.t)).length<=aD;rw[ji];exact Fp.o.2.2.2
     ·show(rV.map (·.t)).length<=5;rw[ji,sW.o];omega
     ·intro t ht;obtain⟨y,hy,rfl⟩:=List.mem_map.1 ht;exact(HP.o.okt y hy).2
end Go.Proofs.YtldapdcphphodaaGreatDoor
