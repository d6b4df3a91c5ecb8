/- Contract of the reference's SameWorld at equal objects. And what hangs on it. -/
import Derived.Test.YtldapdcphphodaaGreatDoorGCE
set_option linter.unusedSimpArgs false
set_option linter.unusedVariables false
set_option maxHeartbeats 40000000
set_option maxRecDepth 1000000
namespace Go.Proofs.YtldapdcphphodaaGreatDoor
open Go.RowKit
open Md
theorem FC (W:Wo) (s t:jP) (w:World) (h1:gL w w.heap.size W s) (h2:gL w w.heap.size W t):
 Calls Tryz.prog 8 #[oK W s,oK W t] w λe w'=>e= .returned (.bool true)∧Below w.heap.size w w':=by
 have H1:=ah h1;have H2:=ah h2;have hl0:=h1.lc;have hl1:=h1.ll;have hl2:=h1.ln;have hl3:=h1.lf;have hl4:=h1.lt;have hl5:=h1.lS;unfold maxLen at hl0 hl1 hl2 hl3 hl4 hl5;clear h1 h2;unfold oK;go_enter Tryz.func8,Tryz.ntmps8;go_upto_region 1 with fail;generalize hW:World.alloc (World.alloc w _) _=w1;obtain⟨bp,hbp⟩: ∃n,w.heap.size=n:=⟨_,rfl⟩;have HB1:aj (Below w.heap.size w w1):=ah acF;have lJ:aj (w1.heap.size=bp+2):=ah agp;have G8:aj (w1.heap[bp]? =some (.cells #[.slice s.aC W.cs.length s.cC,.slice s.aL W.ls.length s.cL,.slice s.aN W.ns.length s.cN,.slice s.aF W.fs.length s.cF,.slice s.aT W.ts.length s.cT,.slice s.aS W.ss.length s.cS] 34 (0,0))):=ah aaH;have zQ:aj (w1.heap[bp+1]? =some (.cells #[.slice t.aC W.cs.length t.cC,.slice t.aL W.ls.length t.cL,.slice t.aN W.ns.length t.cN,.slice t.aF W.fs.length t.cF,.slice t.aT W.ts.length t.cT,.slice t.aS W.ss.length t.cS] 34 (0,0))):=ah (by have:=heap_alloc_new (w.alloc (.cells #[.slice s.aC W.cs.length s.cC,.slice s.aL W.ls.length s.cL,.slice s.aN W.ns.length s.cN,.slice s.aF W.fs.length s.cF,.slice s.aT W.ts.length s.cT,.slice s.aS W.ss.length s.cS] 34)) (.cells #[.slice t.aC W.cs.length t.cC,.slice t.aL W.ls.length t.cL,.slice t.aN W.ns.length t.cN,.slice t.aF W.fs.length t.cF,.slice t.aT W.ts.length t.cT,.slice t.aS W.ss.length t.cS] 34);rw[<- hW,<- hbp];simpa using this);have qA:=ah hbp;have G1:aj (gL w1 bp W s):=ah (by rw[<- hbp];exact H1.o.below HB1.o);have G2:aj (gL w1 bp W t):=ah (by rw[<- hbp];exact H2.o.below HB1.o);rw[hbp];clear hW hbp;obtain⟨y0,y1,y2,y3,y4,y5⟩:=nJ G8.o;obtain⟨z0,z1,z2,z3,z4,z5⟩:=nJ zQ.o;go_wp2_with fail;go_loopw [5] (λi wr=> ∃(k:Nat) (R:List tT),i= .int .i64 k∧k+R.length=W.cs.length∧eu jW 5 wr bp R s.aC k∧eu jW 5 wr bp R t.aC k∧Below (bp+2) w1 wr) (λi _=>W.cs.length -(intOf i).toNat)
 case atStart=>exact⟨0,W.cs,rfl,ahg,G1.o.cs,G2.o.cs,ak _ _⟩
 case round=>
  obtain⟨k,R,rfl,hlen,hr1,hr2,hbel⟩:=hrel;have Jk:=ah hbel;clear hbel y0 y1 y2 y3 y4 y5 z0 z1 z2 z3 z4 z5;have tN:=ah ((Jk.o.block bp ahe).trans G8.o);have tO:=ah ((Jk.o.block (bp+1) ahe).trans zQ.o);have y0:=aQ (j:=0) tN.o rfl;have z0:=aQ (j:=0) tO.o rfl;have y1:=aQ (j:=1) tN.o rfl;have z1:=aQ (j:=1) tO.o rfl;cases R with
  |cons x R=>
   obtain⟨⟨b,off,hao,hB,hcs⟩,hrest⟩:=hr1;obtain⟨⟨b',off',hao',hB',hcs'⟩,hrest'⟩:=hr2;have x0:=hcs 0 _ rfl;have u0:=hcs' 0 _ rfl;have x1:=hcs 1 _ rfl;have u1:=hcs' 1 _ rfl;have x2:=hcs 2 _ rfl;have u2:=hcs' 2 _ rfl;have x3:=hcs 3 _ rfl;have u3:=hcs' 3 _ rfl;have x4:=hcs 4 _ rfl;have u4:=hcs' 4 _ rfl
   try simp only[Nat.add_zero]at x0 u0
   clear hcs hcs';rw[hao]at y0;rw[hao']at z0;have xJ:=ah hao;have LY:=ah hao';have HR1:=ah hrest;have HR2:=ah hrest';clear hao hao' hrest hrest';simp only[ay]at hlen;have k0:(0:Int)<=(k:Int):=ahe
   have k1:(k:Int)<(W.cs.length:Int):=ahe
   have hkl:k<W.cs.length:=ahe
   have gT:aj (bp+2<=wr.heap.size):=ah (by have h1:=Jk.o.size;have h2:=lJ.o;omega);go_wp2_with fail;have Y:=gQ adi y0;have Z:=gQ adh z0;have X0:=λw' (hb:Below wr.heap.size wr w')=>(hb.cell (aJ hB afq)).trans x0;have U0:=λw' (hb:Below wr.heap.size wr w')=>(hb.cell (aJ hB' afq)).trans u0;have X1:=λw' (hb:Below wr.heap.size wr w')=>(hb.cell (aJ hB afq)).trans x1;have U1:=λw' (hb:Below wr.heap.size wr w')=>(hb.cell (aJ hB' afq)).trans u1;have X2:=λw' (hb:Below wr.heap.size wr w')=>(hb.cell (aJ hB afq)).trans x2;have U2:=λw' (hb:Below wr.heap.size wr w')=>(hb.cell (aJ hB' afq)).trans u2;have X3:=λw' (hb:Below wr.heap.size wr w')=>(hb.cell (aJ hB afq)).trans x3;have U3:=λw' (hb:Below wr.heap.size wr w')=>(hb.cell (aJ hB' afq)).trans u3;have X4:=λw' (hb:Below wr.heap.size wr w')=>(hb.cell (aJ hB afq)).trans x4;have U4:=λw' (hb:Below wr.heap.size wr w')=>(hb.cell (aJ hB' afq)).trans u4;clear x0 u0 x1 u1 x2 u2 x3 u3 x4 u4 y0 z0 y1 z1;refine bS ahd rfl ?_;refine bK 0 11 [] [[],[0],[],[0,1,2],[0,1,2,3],[],[5],[],[5,6,7],[5,6,7,8],[0,1,2,3,4,5,6,7,8,9]] [[],[],[],[],[],[],[],[],[],[],[]] (λ_ w'=>Below wr.heap.size wr w') (λw w'=>Below w.heap.size w w') [70,71,72,73,74,75,76,77,78,79,80] rfl rfl aip ahd ahd ahd ahd ahd aip (λ_=>ak _ _) aip (below_drewN (ak _ _) 1) ?_;simp only[eB,iP]
   iterate 11
    apply bf.step
    case aZ=>intro c A w' hok hC hO hD;have e2:=hO 2 aip;have e5:=hO 5 aip;have e3:=hO 3 aip;simp[Act.eval]at e2 e5 e3;simp[Act.eval]at hD;simp[go_sem,gd,Oper.wp,hD,e2,e5,e3,Y,hC,k0,k1,X0,X1,X2,X3,X4,Z,U0,U1,U2,U3,U4];exact aO.mk (ak _ _) hC (bT.mk _ _)
    try simp only[bP]
   try simp only[bP]
   refine bf.done ?_;intro wz bR
   try simp only[eB]
   iterate 11 refine jk ?_
   refine dH.nil ?_;go_simp;refine cO rfl ?_;go_simp;have iO:aj (Below (bp+2) wr wz):=ah (bR.mono gT.o);clear Y Z bR X0 U0 X1 U1 X2 U2 X3 U3 X4 U4;go_wp2_with fail;go_roundw
   case rel=>exact⟨k+1,R,ahi,ahe,HR1.o.below (iO.o.mono ahe),HR2.o.below (iO.o.mono ahe),Jk.o.trans iO.o⟩
   case measure=>simp[intOf];omega
  |nil=>
   obtain rfl:k=W.cs.length:=afm
   clear hr1 hr2;go_wp2_with fail;clear y0 z0;go_loopw [6] (λi wr=> ∃(k:Nat) (R:List uD),i= .int .i64 k∧k+R.length=W.ls.length∧eu lF 2 wr bp R s.aL k∧eu lF 2 wr bp R t.aL k∧Below (bp+2) w1 wr) (λi _=>W.ls.length -(intOf i).toNat)
   case atStart=>exact⟨0,W.ls,rfl,ahg,(G1.o.below (Jk.o.mono ahe)).ls,(G2.o.below (Jk.o.mono ahe)).ls,Jk.o⟩
   case round=>
    obtain⟨k,R,rfl,hlen,hr1,hr2,hbel⟩:=hrel;have Jl:=ah hbel;clear hbel y1 z1;have tN:=ah ((Jl.o.block bp ahe).trans G8.o);have tO:=ah ((Jl.o.block (bp+1) ahe).trans zQ.o);have y1:=aQ (j:=1) tN.o rfl;have z1:=aQ (j:=1) tO.o rfl;have y2:=aQ (j:=2) tN.o rfl;have z2:=aQ (j:=2) tO.o rfl;cases R with
    |cons x R=>
     obtain⟨⟨b,off,hao,hB,hcs⟩,hrest⟩:=hr1;obtain⟨⟨b',off',hao',hB',hcs'⟩,hrest'⟩:=hr2;have x0:=hcs 0 _ rfl;have u0:=hcs' 0 _ rfl;have x1:=hcs 1 _ rfl;have u1:=hcs' 1 _ rfl
     try simp only[Nat.add_zero]at x0 u0
     clear hcs hcs';rw[hao]at y1;rw[hao']at z1;have xJ:=ah hao;have LY:=ah hao';have HR1:=ah hrest;have HR2:=ah hrest';clear hao hao' hrest hrest';simp only[ay]at hlen;have k0:(0:Int)<=(k:Int):=ahe;have k1:(k:Int)<(W.ls.length:Int):=ahe;have hkl:k<W.ls.length:=ahe;have gT:aj (bp+2<=wr.heap.size):=ah (by have h1:=Jl.o.size;have h2:=lJ.o;omega);go_wp2_with fail;have Y:=gQ adi y1;have Z:=gQ adh z1;have X0:=λw' (hb:Below wr.heap.size wr w')=>(hb.cell (aJ hB afq)).trans x0;have U0:=λw' (hb:Below wr.heap.size wr w')=>(hb.cell (aJ hB' afq)).trans u0;have X1:=λw' (hb:Below wr.heap.size wr w')=>(hb.cell (aJ hB afq)).trans x1;have U1:=λw' (hb:Below wr.heap.size wr w')=>(hb.cell (aJ hB' afq)).trans u1;clear x0 u0 x1 u1 y1 z1 y2 z2;refine bS ahd rfl ?_;refine bK 0 11 [] [[],[0],[],[0,1,2],[0,1,2,3],[],[5],[],[5,6,7],[5,6,7,8],[0,1,2,3,4,5,6,7,8,9]] [[],[],[],[],[],[],[],[],[],[],[]] (λ_ w'=>Below wr.heap.size wr w') (λw w'=>Below w.heap.size w w') [88,89,90,91,92,93,94,95,96,97,98] rfl rfl aip ahd ahd ahd ahd ahd aip (λ_=>ak _ _) aip (below_drewN (ak _ _) 1) ?_;simp only[eB,iP]
     iterate 11
      apply bf.step
      case aZ=>intro c A w' hok hC hO hD;have e2:=hO 2 aip;have e6:=hO 6 aip;have e3:=hO 3 aip;simp[Act.eval]at e2 e6 e3;simp[Act.eval]at hD;simp[go_sem,gd,Oper.wp,hD,e2,e6,e3,Y,hC,k0,k1,X0,X1,Z,U0,U1];exact aO.mk (ak _ _) hC (bT.mk _ _)
      try simp only[bP]
     try simp only[bP]
     refine bf.done ?_;intro wz bR
     try simp only[eB]
     iterate 11 refine jk ?_
     refine dH.nil ?_;go_simp;refine cO rfl ?_;go_simp;have iO:aj (Below (bp+2) wr wz):=ah (bR.mono gT.o);clear Y Z bR X0 U0 X1 U1;go_wp2_with fail;go_roundw
     case rel=>exact⟨k+1,R,ahi,ahe,HR1.o.below (iO.o.mono ahe),HR2.o.below (iO.o.mono ahe),Jl.o.trans iO.o⟩
     case measure=>simp[intOf];omega
    |nil=>
     obtain rfl:k=W.ls.length:=afm;clear hr1 hr2;go_wp2_with fail;clear y1 z1;go_loopw [7] (λi wr=> ∃(k:Nat) (R:List Co),i= .int .i64 k∧k+R.length=W.ns.length∧eu tF 2 wr bp R s.aN k∧eu tF 2 wr bp R t.aN k∧Below (bp+2) w1 wr) (λi _=>W.ns.length -(intOf i).toNat)
     case atStart=>exact⟨0,W.ns,rfl,ahg,(G1.o.below (Jl.o.mono ahe)).ns,(G2.o.below (Jl.o.mono ahe)).ns,Jl.o⟩
     case round=>
      obtain⟨k,R,rfl,hlen,hr1,hr2,hbel⟩:=hrel;have Jm:=ah hbel;clear hbel y2 z2;have tN:=ah ((Jm.o.block bp ahe).trans G8.o);have tO:=ah ((Jm.o.block (bp+1) ahe).trans zQ.o);have y2:=aQ (j:=2) tN.o rfl;have z2:=aQ (j:=2) tO.o rfl;have y3:=aQ (j:=3) tN.o rfl;have z3:=aQ (j:=3) tO.o rfl;cases R with
      |cons x R=>
       obtain⟨⟨b,off,hao,hB,hcs⟩,hrest⟩:=hr1;obtain⟨⟨b',off',hao',hB',hcs'⟩,hrest'⟩:=hr2;have x0:=hcs 0 _ rfl;have u0:=hcs' 0 _ rfl;have x1:=hcs 1 _ rfl;have u1:=hcs' 1 _ rfl
       try simp only[Nat.add_zero]at x0 u0
       clear hcs hcs';rw[hao]at y2;rw[hao']at z2;have xJ:=ah hao;have LY:=ah hao';have HR1:=ah hrest;have HR2:=ah hrest';clear hao hao' hrest hrest';simp only[ay]at hlen;have k0:(0:Int)<=(k:Int):=ahe;have k1:(k:Int)<(W.ns.length:Int):=ahe;have hkl:k<W.ns.length:=ahe;have gT:aj (bp+2<=wr.heap.size):=ah (by have h1:=Jm.o.size;have h2:=lJ.o;omega);go_wp2_with fail;have Y:=gQ adi y2;have Z:=gQ adh z2;have X0:=λw' (hb:Below wr.heap.size wr w')=>(hb.cell (aJ hB afq)).trans x0;have U0:=λw' (hb:Below wr.heap.size wr w')=>(hb.cell (aJ hB' afq)).trans u0;have X1:=λw' (hb:Below wr.heap.size wr w')=>(hb.cell (aJ hB afq)).trans x1;have U1:=λw' (hb:Below wr.heap.size wr w')=>(hb.cell (aJ hB' afq)).trans u1;clear x0 u0 x1 u1 y2 z2 y3 z3;refine bS ahd rfl ?_;refine bK 0 11 [] [[],[0],[],[0,1,2],[0,1,2,3],[],[5],[],[5,6,7],[5,6,7,8],[0,1,2,3,4,5,6,7,8,9]] [[],[],[],[],[],[],[],[],[],[],[]] (λ_ w'=>Below wr.heap.size wr w') (λw w'=>Below w.heap.size w w') [106,107,108,109,110,111,112,113,114,115,116] rfl rfl aip ahd ahd ahd ahd ahd aip (λ_=>ak _ _) aip (below_drewN (ak _ _) 1) ?_;simp only[eB,iP]
       iterate 11
        apply bf.step
        case aZ=>intro c A w' hok hC hO hD;have e2:=hO 2 aip;have e7:=hO 7 aip;have e3:=hO 3 aip;simp[Act.eval]at e2 e7 e3;simp[Act.eval]at hD;simp[go_sem,gd,Oper.wp,hD,e2,e7,e3,Y,hC,k0,k1,X0,X1,Z,U0,U1];exact aO.mk (ak _ _) hC (bT.mk _ _)
        try simp only[bP]
       try simp only[bP]
       refine bf.done ?_;intro wz bR
       try simp only[eB]
       iterate 11 refine jk ?_
       refine dH.nil ?_;go_simp;refine cO rfl ?_;go_simp;have iO:aj (Below (bp+2) wr wz):=ah (bR.mono gT.o);clear Y Z bR X0 U0 X1 U1;go_wp2_with fail;go_roundw
       case rel=>exact⟨k+1,R,ahi,ahe,HR1.o.below (iO.o.mono ahe),HR2.o.below (iO.o.mono ahe),Jm.o.trans iO.o⟩
       case measure=>simp[intOf];omega
      |nil=>
       obtain rfl:k=W.ns.length:=afm;clear hr1 hr2;go_wp2_with fail;clear y2 z2;go_loopw [8] (λi wr=> ∃(k:Nat) (R:List ByteArray),i= .int .i64 k∧k+R.length=W.fs.length∧fU wr bp R s.aF k∧fU wr bp R t.aF k∧Below (bp+2) w1 wr) (λi _=>W.fs.length -(intOf i).toNat)
       case atStart=>exact⟨0,W.fs,rfl,ahg,(G1.o.below (Jm.o.mono ahe)).fs,(G2.o.below (Jm.o.mono ahe)).fs,Jm.o⟩
       case round=>
        obtain⟨k,R,rfl,hlen,hr1,hr2,hbel⟩:=hrel;have Jo:=ah hbel;clear hbel y3 z3;have tN:=ah ((Jo.o.block bp ahe).trans G8.o);have tO:=ah ((Jo.o.block (bp+1) ahe).trans zQ.o);have y3:=aQ (j:=3) tN.o rfl;have z3:=aQ (j:=3) tO.o rfl;have y4:=aQ (j:=4) tN.o rfl;have z4:=aQ (j:=4) tO.o rfl;cases R with
        |cons x R=>
         obtain⟨⟨b,off,hao,hB,x0,-⟩,hrest⟩:=hr1;obtain⟨⟨b',off',hao',hB',u0,-⟩,hrest'⟩:=hr2;rw[hao]at y3;rw[hao']at z3;have xJ:=ah hao;have LY:=ah hao';have HR1:=ah hrest;have HR2:=ah hrest';clear hao hao' hrest hrest';simp only[ay]at hlen;have k0:(0:Int)<=(k:Int):=ahe;have k1:(k:Int)<(W.fs.length:Int):=ahe;have hkl:k<W.fs.length:=ahe;have gT:aj (bp+2<=wr.heap.size):=ah (by have h1:=Jo.o.size;have h2:=lJ.o;omega);go_wp2_with fail;have Y:=gQ adi y3;have Z:=gQ adh z3;have X0:=λw' (hb:Below wr.heap.size wr w')=>(hb.cell (aJ hB afq)).trans x0;have U0:=λw' (hb:Below wr.heap.size wr w')=>(hb.cell (aJ hB' afq)).trans u0;clear x0 u0 y3 z3 y4 z4;refine bS ahd rfl ?_;refine bK 0 11 [] [[],[0],[],[0,1,2],[0,1,2,3],[],[5],[],[5,6,7],[5,6,7,8],[0,1,2,3,4,5,6,7,8,9]] [[],[],[],[],[],[],[],[],[],[],[]] (λ_ w'=>Below wr.heap.size wr w') (λw w'=>Below w.heap.size w w') [124,125,126,127,128,129,130,131,132,133,134] rfl rfl aip ahd ahd ahd ahd ahd aip (λ_=>ak _ _) aip (below_drewN (ak _ _) 1) ?_;simp only[eB,iP]
         iterate 11
          apply bf.step
          case aZ=>intro c A w' hok hC hO hD;have e2:=hO 2 aip;have e8:=hO 8 aip;have e3:=hO 3 aip;simp[Act.eval]at e2 e8 e3;simp[Act.eval]at hD;simp[go_sem,gd,Oper.wp,hD,e2,e8,e3,Y,hC,k0,k1,X0,Z,U0];exact aO.mk (ak _ _) hC (bT.mk _ _)
          try simp only[bP]
         try simp only[bP]
         refine bf.done ?_;intro wz bR
         try simp only[eB]
         iterate 11 refine jk ?_
         refine dH.nil ?_;go_simp;refine cO rfl ?_;go_simp;have iO:aj (Below (bp+2) wr wz):=ah (bR.mono gT.o);clear Y Z bR X0 U0;go_wp2_with fail;go_roundw
         case rel=>exact⟨k+1,R,ahi,ahe,HR1.o.below (iO.o.mono ahe),HR2.o.below (iO.o.mono ahe),Jo.o.trans iO.o⟩
         case measure=>simp[intOf];omega
        |nil=>
         obtain rfl:k=W.fs.length:=afm;clear hr1 hr2;go_wp2_with fail;clear y3 z3;go_loopw [9] (λi wr=> ∃(k:Nat) (R:List ByteArray),i= .int .i64 k∧k+R.length=W.ts.length∧fU wr bp R s.aT k∧fU wr bp R t.aT k∧Below (bp+2) w1 wr) (λi _=>W.ts.length -(intOf i).toNat)
         case atStart=>exact⟨0,W.ts,rfl,ahg,(G1.o.below (Jo.o.mono ahe)).ts,(G2.o.below (Jo.o.mono ahe)).ts,Jo.o⟩
         case round=>
          obtain⟨k,R,rfl,hlen,hr1,hr2,hbel⟩:=hrel;have Bp:=ah hbel;clear hbel y4 z4;have tN:=ah ((Bp.o.block bp ahe).trans G8.o);have tO:=ah ((Bp.o.block (bp+1) ahe).trans zQ.o);have y4:=aQ (j:=4) tN.o rfl;have z4:=aQ (j:=4) tO.o rfl;have y5:=aQ (j:=5) tN.o rfl;have z5:=aQ (j:=5) tO.o rfl;cases R with
          |cons x R=>
           obtain⟨⟨b,off,hao,hB,x0,-⟩,hrest⟩:=hr1;obtain⟨⟨b',off',hao',hB',u0,-⟩,hrest'⟩:=hr2;rw[hao]at y4;rw[hao']at z4;have xJ:=ah hao;have LY:=ah hao';have HR1:=ah hrest;have HR2:=ah hrest';clear hao hao' hrest hrest';simp only[ay]at hlen;have k0:(0:Int)<=(k:Int):=ahe;have k1:(k:Int)<(W.ts.length:Int):=ahe;have hkl:k<W.ts.length:=ahe;have gT:aj (bp+2<=wr.heap.size):=ah aeb;go_wp2_with fail;have Y:=gQ adi y4;have Z:=gQ adh z4;have X0:=λw' (hb:Below wr.heap.size wr w')=>(hb.cell (aJ hB afq)).trans x0;have U0:=λw' (hb:Below wr.heap.size wr w')=>(hb.cell (aJ hB' afq)).trans u0;clear x0 u0 y4 z4 y5 z5;refine bS ahd rfl ?_;refine bK 0 11 [] [[],[0],[],[0,1,2],[0,1,2,3],[],[5],[],[5,6,7],[5,6,7,8],[0,1,2,3,4,5,6,7,8,9]] [[],[],[],[],[],[],[],[],[],[],[]] (λ_ w'=>Below wr.heap.size wr w') (λw w'=>Below w.heap.size w w') [142,143,144,145,146,147,148,149,150,151,152] rfl rfl aip ahd ahd ahd ahd ahd aip (λ_=>ak _ _) aip (below_drewN (ak _ _) 1) ?_;simp only[eB,iP]
           iterate 11
            apply bf.step
            case aZ=>intro c A w' hok hC hO hD;have e2:=hO 2 aip;have e9:=hO 9 aip;have e3:=hO 3 aip;simp[Act.eval]at e2 e9 e3;simp[Act.eval]at hD;simp[go_sem,gd,Oper.wp,hD,e2,e9,e3,Y,hC,k0,k1,X0,Z,U0];exact aO.mk (ak _ _) hC (bT.mk _ _)
            try simp only[bP]
           try simp only[bP]
           refine bf.done ?_;intro wz bR
           try simp only[eB]
           iterate 11 refine jk ?_
           refine dH.nil ?_;go_simp;refine cO rfl ?_;go_simp;have iO:aj (Below (bp+2) wr wz):=ah (bR.mono gT.o);clear Y Z bR X0 U0;go_wp2_with fail;go_roundw
           case rel=>exact⟨k+1,R,ahi,ahe,HR1.o.below (iO.o.mono ahe),HR2.o.below (iO.o.mono ahe),Bp.o.trans iO.o⟩
           case measure=>simp[intOf];omega
          |nil=>
           obtain rfl:k=W.ts.length:=afm;clear hr1 hr2;go_wp2_with fail;clear y4 z4;go_loopw [10] (λi wr=> ∃(k:Nat) (R:List yX),i= .int .i64 k∧k+R.length=W.ss.length∧eu qM 3 wr bp R s.aS k∧eu qM 3 wr bp R t.aS k∧Below (bp+2) w1 wr) (λi _=>W.ss.length -(intOf i).toNat)
           case atStart=>exact⟨0,W.ss,rfl,ahg,(G1.o.below (Bp.o.mono ahe)).ss,(G2.o.below (Bp.o.mono ahe)).ss,Bp.o⟩
           case round=>
            obtain⟨k,R,rfl,hlen,hr1,hr2,hbel⟩:=hrel;have OB:=ah hbel;clear hbel y5 z5;have tN:=ah ((OB.o.block bp ahe).trans G8.o);have tO:=ah ((OB.o.block (bp+1) ahe).trans zQ.o);have y5:=aQ (j:=5) tN.o rfl;have z5:=aQ (j:=5) tO.o rfl;cases R with
            |cons x R=>
             obtain⟨⟨b,off,hao,hB,hcs⟩,hrest⟩:=hr1;obtain⟨⟨b',off',hao',hB',hcs'⟩,hrest'⟩:=hr2;have x0:=hcs 0 _ rfl;have u0:=hcs' 0 _ rfl;have x1:=hcs 1 _ rfl;have u1:=hcs' 1 _ rfl;have x2:=hcs 2 _ rfl;have u2:=hcs' 2 _ rfl
             try simp only[Nat.add_zero]at x0 u0
             clear hcs hcs';rw[hao]at y5;rw[hao']at z5;have xJ:=ah hao;have LY:=ah hao';have HR1:=ah hrest;have HR2:=ah hrest';clear hao hao' hrest hrest';simp only[ay]at hlen;have k0:(0:Int)<=(k:Int):=ahe;have k1:(k:Int)<(W.ss.length:Int):=ahe;have hkl:k<W.ss.length:=ahe;have gT:aj (bp+2<=wr.heap.size):=ah (by have h1:=OB.o.size;have h2:=lJ.o;omega);go_wp2_with fail;have Y:=gQ adi y5;have Z:=gQ adh z5;have X0:=λw' (hb:Below wr.heap.size wr w')=>(hb.cell (aJ hB afq)).trans x0;have U0:=λw' (hb:Below wr.heap.size wr w')=>(hb.cell (aJ hB' afq)).trans u0;have X1:=λw' (hb:Below wr.heap.size wr w')=>(hb.cell (aJ hB afq)).trans x1;have U1:=λw' (hb:Below wr.heap.size wr w')=>(hb.cell (aJ hB' afq)).trans u1;have X2:=λw' (hb:Below wr.heap.size wr w')=>(hb.cell (aJ hB afq)).trans x2;have U2:=λw' (hb:Below wr.heap.size wr w')=>(hb.cell (aJ hB' afq)).trans u2;clear x0 u0 x1 u1 x2 u2 y5 z5;refine bS ahd rfl ?_;refine bK 0 11 [] [[],[0],[],[0,1,2],[0,1,2,3],[],[5],[],[5,6,7],[5,6,7,8],[0,1,2,3,4,5,6,7,8,9]] [[],[],[],[],[],[],[],[],[],[],[]] (λ_ w'=>Below wr.heap.size wr w') (λw w'=>Below w.heap.size w w') [160,161,162,163,164,165,166,167,168,169,170] rfl rfl aip ahd ahd ahd ahd ahd aip (λ_=>ak _ _) aip (below_drewN (ak _ _) 1) ?_;simp only[eB,iP]
             iterate 11
              apply bf.step
              case aZ=>intro c A w' hok hC hO hD;have e2:=hO 2 aip;have e10:=hO 10 aip;have e3:=hO 3 aip;simp[Act.eval]at e2 e10 e3;simp[Act.eval]at hD;simp[go_sem,gd,Oper.wp,hD,e2,e10,e3,Y,hC,k0,k1,X0,X1,X2,Z,U0,U1,U2];exact aO.mk (ak _ _) hC (bT.mk _ _)
              try simp only[bP]
             try simp only[bP]
             refine bf.done ?_;intro wz bR
             try simp only[eB]
             iterate 11 refine jk ?_
             refine dH.nil ?_;go_simp;refine cO rfl ?_;go_simp;have iO:aj (Below (bp+2) wr wz):=ah (bR.mono gT.o);clear Y Z bR X0 U0 X1 U1 X2 U2;go_wp2_with fail;go_roundw
             case rel=>exact⟨k+1,R,ahi,ahe,HR1.o.below (iO.o.mono ahe),HR2.o.below (iO.o.mono ahe),OB.o.trans iO.o⟩
             case measure=>simp[intOf];omega
            |nil=>obtain rfl:k=W.ss.length:=afm;clear hr1 hr2;go_wp2_with fail;go_ret;exact⟨rfl,HB1.o.trans (OB.o.mono afw)⟩
theorem Md.kJ.below {w w':World} {B:Nat} (hb:Below B w w'): ∀ {l:List yY} {ao:Option Addr} {k:Nat},kJ w B l ao k->kJ w' B l ao k
 | [],_,_,_=>trivial
 |_::_,_,_,⟨⟨b,off,fM,eU,e,hB,x0,x1,hl,hf⟩,hr⟩=>⟨⟨b,off,fM,eU,e,hB,(hb.cell (p:=⟨b,_,none⟩) hB).trans x0,(hb.cell (p:=⟨b,_,none⟩) hB).trans x1,hl,hf.below hb⟩,kJ.below hb hr⟩
def scZ:Array Value:= #[.int .i64 0,.slice none 0 0]
theorem Hz:(Tryz.prog.info? 73).map (·.size)=some 2:=ahd
theorem R4 (W:Wo) (s t:jP) (l:List yY) (ao Fw:Option Addr) (cap cap2:Nat) (w:World) (h1:gL w w.heap.size W s) (h2:gL w w.heap.size W t) (h3:kJ w w.heap.size l ao 0) (h4:kJ w w.heap.size l Fw 0) (hl:l.length<=1000):
 Calls Tryz.prog 7 #[.agg #[.slice s.aC W.cs.length s.cC,.slice s.aL W.ls.length s.cL,.slice s.aN W.ns.length s.cN,.slice s.aF W.fs.length s.cF,.slice s.aT W.ts.length s.cT,.slice s.aS W.ss.length s.cS,.slice ao l.length cap],.agg #[.slice t.aC W.cs.length t.cC,.slice t.aL W.ls.length t.cL,.slice t.aN W.ns.length t.cN,.slice t.aF W.fs.length t.cF,.slice t.aT W.ts.length t.cT,.slice t.aS W.ss.length t.cS,.slice Fw l.length cap2]] w λe w'=>e= .returned (.bool true)∧Below w.heap.size w w':=by
 have H1:=ah h1;have H2:=ah h2;have H3:=ah h3;have H4:=ah h4;clear h1 h2 h3 h4;go_enter Tryz.func7,Tryz.ntmps7;go_upto_region 1 with fail;generalize hW:World.alloc (World.alloc w _) _=w1;obtain⟨bp,hbp⟩: ∃n,w.heap.size=n:=⟨_,rfl⟩;have HB1:aj (Below w.heap.size w w1):=ah acF;have lJ:aj (w1.heap.size=bp+2):=ah agp;have G8:aj (w1.heap[bp]? =some (.cells #[.slice s.aC W.cs.length s.cC,.slice s.aL W.ls.length s.cL,.slice s.aN W.ns.length s.cN,.slice s.aF W.fs.length s.cF,.slice s.aT W.ts.length s.cT,.slice s.aS W.ss.length s.cS,.slice ao l.length cap] 37 (0,0))):=ah aaH;have zQ:aj (w1.heap[bp+1]? =some (.cells #[.slice t.aC W.cs.length t.cC,.slice t.aL W.ls.length t.cL,.slice t.aN W.ns.length t.cN,.slice t.aF W.fs.length t.cF,.slice t.aT W.ts.length t.cT,.slice t.aS W.ss.length t.cS,.slice Fw l.length cap2] 37 (0,0))):=ah (by have:=heap_alloc_new (w.alloc (.cells #[.slice s.aC W.cs.length s.cC,.slice s.aL W.ls.length s.cL,.slice s.aN W.ns.length s.cN,.slice s.aF W.fs.length s.cF,.slice s.aT W.ts.length s.cT,.slice s.aS W.ss.length s.cS,.slice ao l.length cap] 37)) (.cells #[.slice t.aC W.cs.length t.cC,.slice t.aL W.ls.length t.cL,.slice t.aN W.ns.length t.cN,.slice t.aF W.fs.length t.cF,.slice t.aT W.ts.length t.cT,.slice t.aS W.ss.length t.cS,.slice Fw l.length cap2] 37);rw[<- hW,<- hbp];simpa using this);have qA:=ah hbp;have G1:aj (gL w1 w1.heap.size W s):=ah ((H1.o.below HB1.o).mono HB1.o.size);have G2:aj (gL w1 w1.heap.size W t):=ah ((H2.o.below HB1.o).mono HB1.o.size);have G3:aj (kJ w1 bp l ao 0):=ah (by rw[<- hbp];exact H3.o.below HB1.o);have G4:aj (kJ w1 bp l Fw 0):=ah (by rw[<- hbp];exact H4.o.below HB1.o);rw[hbp];clear hW hbp;obtain⟨y0,y1,y2,y3,y4,y5,y6⟩:=KJ G8.o;obtain⟨z0,z1,z2,z3,z4,z5,z6⟩:=KJ zQ.o;go_wp2_with fail;refine(FC W s t w1 G1.o G2.o).mono ?_;rintro e w2 ⟨rfl,hb2⟩;have HB2:aj (Below (bp+2) w1 w2):=ah (hb2.mono (by rw[lJ.o];exact aH _));clear hb2 y0 z0 y1 z1 y2 z2 y3 z3 y4 z4 y5 z5 y6 z6;have bk3:=ah ((HB2.o.block bp ahe).trans G8.o);have bk4:=ah ((HB2.o.block (bp+1) ahe).trans zQ.o);have y6:=aQ (j:=6) bk3.o rfl;have z6:=aQ (j:=6) bk4.o rfl;simp only[List.getElem_toArray,List.getElem_cons_zero,List.getElem_cons_succ]at y6 z6;go_wp2_with fail;go_loopw [5,6,7,8] (λi _ _ _ wr=> ∃(k:Nat) (R:List yY),i= .int .i64 k∧k+R.length=l.length∧kJ wr bp R ao k∧kJ wr bp R Fw k∧Below (bp+2) w1 wr) (λi _ _ _ _=>l.length -(intOf i).toNat)
 case atStart=>exact⟨0,l,rfl,ahg,G3.o.below (HB2.o.mono ahe),G4.o.below (HB2.o.mono ahe),HB2.o⟩
 case round=>
  obtain⟨k,R,rfl,hlen,hr1,hr2,hbel⟩:=hrel;have jv:=ah hbel;clear hbel y6 z6;have tN:=ah ((jv.o.block bp ahe).trans G8.o);have tO:=ah ((jv.o.block (bp+1) ahe).trans zQ.o);have y6:=aQ (j:=6) tN.o rfl;have z6:=aQ (j:=6) tO.o rfl;simp only[List.getElem_toArray,List.getElem_cons_zero,List.getElem_cons_succ]at y6 z6;cases R with
  |nil=>
   obtain rfl:k=l.length:=afm
   clear hr1 hr2;go_wp2_with fail;go_ret;exact⟨rfl,HB1.o.trans (jv.o.mono afw)⟩
  |cons x R=>
   obtain⟨⟨b,off,fM,eU,hao,hB,x0,x1,hxl,hf⟩,hrest⟩:=hr1;obtain⟨⟨b',off',ZN,al6,hao',hB',u0,u1,-,hf'⟩,hrest'⟩:=hr2;rw[hao]at y6;rw[hao']at z6;have zM:=ah hf;have yN:=ah hf';have xJ:=ah hao;have LY:=ah hao';have HR1:=ah hrest;have HR2:=ah hrest';clear hao hao' hrest hrest' hf hf';simp only[ay]at hlen;have hb0:(0:Int)<=(k:Int):=ahe
   have hb1:(k:Int)<(l.length:Int):=ahe
   have hkl:k<l.length:=ahe
   have gT:aj (bp+2<=wr.heap.size):=ah ade;have hs0:bp<wr.heap.size:=afq
   have hs1:bp+1<wr.heap.size:=afq
   have hbl:b<wr.heap.size:=ahe
   have aI6:b'<wr.heap.size:=ahe
   go_wp2_with fail;refine yJ (sP wr 10 scZ #[.int .i64 x.regs,.slice fM x.is.length eU] #[.int .i64 x.regs,.slice ZN x.is.length al6] 73) (λg _ g' _=>Gb.le g g') [31,32,33,34,35,36,37,38,39,40,6,7] ⟨none,none,false,false⟩ ahd ahd (λg _=>Gb.le_refl g) aip sP.start ?_;apply jQ.step
   case aZ=>intro D A g w' hDn hC hO hD;have e2:=hO 2 aip;simp[Act.eval]at e2;simp[iM,iH,eO,Act.eval,Region.binds]at hD;simp[go_sem,mK,Oper.wp,hD,e2];exact gF.mk (Gb.le_refl g) (hC.skip _) (iH.mk _ _ _)
   apply jQ.step
   case aZ=>intro D A g w' hDn hC hO hD;have m0:=(hC.bl.cell (p:=⟨bp,6,none⟩) hs0).trans y6;simp[iM,iH,eO,Act.eval,Region.binds]at hD;simp[go_sem,mK,Oper.wp,hD,m0];exact gF.mk (Gb.le_refl g) (hC.skip _) (iH.mk _ _ _)
   apply jQ.step
   case aZ=>intro D A g w' hDn hC hO hD;have e5:=hO 5 aip;simp[Act.eval]at e5;simp[iM,iH,eO,Act.eval,Region.binds]at hD;simp[go_sem,mK,Oper.wp,hD,e5];exact gF.mk (Gb.le_refl g) (hC.skip _) (iH.mk _ _ _)
   apply jQ.step
   case aZ=>intro D A g w' hDn hC hO hD;simp[iM,iH,eO,Act.eval,Region.binds]at hD;simp[go_sem,mK,Oper.wp,hD,hb0,hb1];exact gF.mk (Gb.le_refl g) (hC.skip _) (iH.mk _ _ _)
   apply jQ.step
   case aZ=>intro D A g w' hDn hC hO hD;have z0:=(hC.bl.cell (p:=⟨b,off+k*2,none⟩) hbl).trans x0;have z1:=(hC.bl.cell (p:=⟨b,off+k*2+1,none⟩) hbl).trans x1;simp[iM,iH,eO,Act.eval,Region.binds]at hD;simp[go_sem,mK,Oper.wp,hD,z0,z1];exact gF.mk (Gb.le_refl g) (hC.skip _) (iH.mk _ _ _)
   apply jQ.step
   case aZ=>intro D A g w' hDn hC hO hD;have e3:=hO 3 aip;simp[Act.eval]at e3;simp[iM,iH,eO,Act.eval,Region.binds]at hD;simp[go_sem,mK,Oper.wp,hD,e3];exact gF.mk (Gb.le_refl g) (hC.skip _) (iH.mk _ _ _)
   apply jQ.step
   case aZ=>intro D A g w' hDn hC hO hD;have m0:=(hC.bl.cell (p:=⟨bp+1,6,none⟩) hs1).trans z6;simp[iM,iH,eO,Act.eval,Region.binds]at hD;simp[go_sem,mK,Oper.wp,hD,m0];exact gF.mk (Gb.le_refl g) (hC.skip _) (iH.mk _ _ _)
   apply jQ.step
   case aZ=>intro D A g w' hDn hC hO hD;have e5:=hO 5 aip;simp[Act.eval]at e5;simp[iM,iH,eO,Act.eval,Region.binds]at hD;simp[go_sem,mK,Oper.wp,hD,e5];exact gF.mk (Gb.le_refl g) (hC.skip _) (iH.mk _ _ _)
   apply jQ.step
   case aZ=>intro D A g w' hDn hC hO hD;simp[iM,iH,eO,Act.eval,Region.binds]at hD;simp[go_sem,mK,Oper.wp,hD,hb0,hb1];exact gF.mk (Gb.le_refl g) (hC.skip _) (iH.mk _ _ _)
   apply jQ.step
   case aZ=>intro D A g w' hDn hC hO hD;have z0:=(hC.bl.cell (p:=⟨b',off'+k*2,none⟩) aI6).trans u0;have z1:=(hC.bl.cell (p:=⟨b',off'+k*2+1,none⟩) aI6).trans u1;simp[iM,iH,eO,Act.eval,Region.binds]at hD;simp[go_sem,mK,Oper.wp,hD,z0,z1];exact gF.mk (Gb.le_refl g) (hC.skip _) (iH.mk _ _ _)
   refine jQ.some (λv g _=> ∃b,v= .pointer (some ⟨b,0,none⟩)∧g.o8=some b) (λv g w g' w' hle h=>abj) ?_ ?_
   ·intro D A g w' hDn hC hO hD;simp[go_sem,mK,Oper.wp];have hM:=hC.mk8 hDn;exact gF.mk hM.1 hM.2 ⟨_,rfl,rfl⟩
   refine jQ.some (λv g _=> ∃b,v= .pointer (some ⟨b,0,none⟩)∧g.o9=some b) (λv g w g' w' hle h=>by obtain⟨b,h1,h2⟩:=h;exact⟨b,h1,hle.2.1 b h2⟩) ?_ ?_
   ·intro D A g w' hDn hC hO hD;simp[go_sem,mK,Oper.wp];have hM:=hC.mk9 hDn;exact gF.mk hM.1 hM.2 ⟨_,rfl,rfl⟩
   refine jQ.some (λ_ g _=>g.s8=true) (λv g w g' w' hle h=>hle.2.2.1 h) ?_ ?_
   ·intro D A g w' hDn hC hO hD;simp[iM,iH,eO,Act.eval,Region.binds]at hD;obtain⟨⟨gb,hv,hgb⟩,hx,-⟩:=hD;simp only[mK,if_true];refine wp_store_mid _ _ _ aip gb 0 #[.int .i64 x.regs,.slice fM x.is.length eU] (by simp[Act.eval,hv]) (by simp[Act.eval,hx]) (hC.aQ4 hDn hgb (aH _)) Hz afH ?_;have hF:=hC.st8 hDn hgb rfl;exact gF.qK hF.1 hF.2 rfl
   refine jQ.some (λ_ g _=>g.s9=true) (λv g w g' w' hle h=>hle.2.2.2 h) ?_ ?_
   ·intro D A g w' hDn hC hO hD;simp[iM,iH,eO,Act.eval,Region.binds]at hD;obtain⟨⟨gb,hv,hgb⟩,hx,-⟩:=hD;simp only[mK,if_true];refine wp_store_mid _ _ _ aip gb 0 #[.int .i64 x.regs,.slice ZN x.is.length al6] (by simp[Act.eval,hv]) (by simp[Act.eval,hx]) (hC.aQ5 hDn hgb (aH _)) Hz afH ?_;have hF:=hC.st9 hDn hgb rfl;exact gF.qK hF.1 hF.2 rfl
   refine jQ.done ?_;intro D g w3 hD hC;simp only[KG,List.nil_append,List.cons_append,List.map_cons,List.map_nil];intro x0' h0' x1' h1' x2' h2' x3' h3' x4' h4' x5' h5' x6' h6' x7' h7' x8' h8' x9' h9' bF1 JG bF2 JH bF3 aH3 bF4 Mq;obtain⟨g8,rfl,hg8⟩:=JG;obtain⟨g9,rfl,En⟩:=JH;obtain⟨hBd,hl8,hl9,hne,hb8,hb9⟩:=hC.two hg8 En aH3 Mq;have HB3:aj (Below (bp+2) wr w3):=ah (hBd.mono gT.o);have Nj:=ah hb8;have BM:=ah hb9;have HL8:=ah (aB hl8 hl9);clear h0' h1' h2' h3' h4' h5' h6' h7' h8' h9' hC hD hg8 En aH3 Mq hBd hl8 hl9 hne hb8 hb9;clear x0 x1 u0 u1 y6 z6;refine ZL ?_;go_simp;obtain⟨p0,p1⟩:=nT Nj.o;obtain⟨q0,q1⟩:=nT BM.o;have Nl:aj (g8<w3.heap.size∧g9<w3.heap.size∧bp+2<=g8∧bp+2<=g9):=ah (by have h1:=(aU Nj.o);have h2:=(aU BM.o);have h3:=HL8.o;have h4:=gT.o;omega);have hil:x.is.length<=3000000000000:=hxl;go_wp2_with fail;go_loopw [8] (λi wq=> ∃(j:Nat) (S:List dF),i= .int .i64 j∧j+S.length=x.is.length∧eu lq 6 wq bp S fM j∧eu lq 6 wq bp S ZN j∧Below w3.heap.size w3 wq) (λi _=>x.is.length -(intOf i).toNat)
   case atStart=>exact⟨0,x.is,rfl,ahg,zM.o.below (HB3.o.mono ahe),yN.o.below (HB3.o.mono ahe),ak _ _⟩
   case round=>
    obtain⟨j,S,rfl,hlen3,hr3,hr4,CZ⟩:=hrel;have K7:=ah CZ;clear CZ p0 p1 q0 q1;have bj9:=ah ((K7.o.block g8 Nl.o.1).trans Nj.o);have bk0:=ah ((K7.o.block g9 Nl.o.2.1).trans BM.o);have p1:=aQ (j:=1) bj9.o rfl;have q1:=aQ (j:=1) bk0.o rfl;cases S with
    |nil=>
     obtain rfl:j=x.is.length:=agO;have VF:aj (Below (bp+2) _ wr):=ah (HB3.o.trans (K7.o.mono (by have:=Nl.o;omega)));clear hr3 hr4;go_wp2_with fail;go_roundw
     case rel=>exact⟨k+1,R,ahi,ahe,HR1.o.below (VF.o.mono ahe),HR2.o.below (VF.o.mono ahe),jv.o.trans VF.o⟩
     case measure=>simp[intOf];omega
    |cons y S=>
     obtain⟨⟨c,of,hao,hB3,hcs⟩,hrest⟩:=hr3;obtain⟨⟨c',of',hao',Mr,hcs'⟩,hrest'⟩:=hr4;have x0:=hcs 0 _ rfl;have x1:=hcs 1 _ rfl;have x2:=hcs 2 _ rfl;have x3:=hcs 3 _ rfl;have x4:=hcs 4 _ rfl;have x5:=hcs 5 _ rfl;have u0:=hcs' 0 _ rfl;have u1:=hcs' 1 _ rfl;have u2:=hcs' 2 _ rfl;have u3:=hcs' 3 _ rfl;have u4:=hcs' 4 _ rfl;have u5:=hcs' 5 _ rfl;simp only[Nat.add_zero]at x0 u0;rw[hao]at p1;rw[hao']at q1;have HR3:=ah hrest;have HR4:=ah hrest';clear hcs hcs' hao hao' hrest hrest';simp only[ay]at hlen3;have k0:(0:Int)<=(j:Int):=ahe;have k1:(j:Int)<(x.is.length:Int):=ahe;have hjl:j<x.is.length:=ahe;have HW3:aj (w3.heap.size<=wr.heap.size∧bp+2<=w3.heap.size):=ah ⟨K7.o.size,by have:=Nl.o;omega⟩;go_wp2_with fail;have Y:=gQ (by have:=HW3.o;have:=Nl.o;show g8<_;omega) p1;have Z:=gQ (by have:=HW3.o;have:=Nl.o;show g9<_;omega) q1;have X0:=λw' (hb:Below wr.heap.size wr w')=>(hb.cell (aJ hB3 afu)).trans x0;have U0:=λw' (hb:Below wr.heap.size wr w')=>(hb.cell (aJ Mr afu)).trans u0;have X1:=λw' (hb:Below wr.heap.size wr w')=>(hb.cell (aJ hB3 afu)).trans x1;have U1:=λw' (hb:Below wr.heap.size wr w')=>(hb.cell (aJ Mr afu)).trans u1;have X2:=λw' (hb:Below wr.heap.size wr w')=>(hb.cell (aJ hB3 afu)).trans x2;have U2:=λw' (hb:Below wr.heap.size wr w')=>(hb.cell (aJ Mr afu)).trans u2;have X3:=λw' (hb:Below wr.heap.size wr w')=>(hb.cell (aJ hB3 afu)).trans x3;have U3:=λw' (hb:Below wr.heap.size wr w')=>(hb.cell (aJ Mr afu)).trans u3;have X4:=λw' (hb:Below wr.heap.size wr w')=>(hb.cell (aJ hB3 afu)).trans x4;have U4:=λw' (hb:Below wr.heap.size wr w')=>(hb.cell (aJ Mr afu)).trans u4;have X5:=λw' (hb:Below wr.heap.size wr w')=>(hb.cell (aJ hB3 afu)).trans x5;have U5:=λw' (hb:Below wr.heap.size wr w')=>(hb.cell (aJ Mr afu)).trans u5;clear x0 x1 x2 x3 x4 x5 u0 u1 u2 u3 u4 u5 p1 q1;refine bS ahd rfl ?_;refine bK 0 11 [] [[],[0],[],[0,1,2],[0,1,2,3],[],[5],[],[5,6,7],[5,6,7,8],[0,1,2,3,4,5,6,7,8,9]] [[],[],[],[],[],[],[],[],[],[],[]] (λ_ w'=>Below wr.heap.size wr w') (λw w'=>Below w.heap.size w w') [62,63,64,65,66,67,68,69,70,71,72] rfl rfl aip ahd ahd ahd ahd ahd aip (λ_=>ak _ _) aip (below_drewN (ak _ _) 1) ?_;simp only[eB,iP]
     iterate 11
      apply bf.step
      case aZ=>intro c A w' hok hC hO hD;have e6:=hO 6 aip;have e8:=hO 8 aip;have e7:=hO 7 aip;simp[Act.eval]at e6 e8 e7;simp[Act.eval]at hD;simp[go_sem,gd,Oper.wp,hD,e6,e8,e7,Y,hC,k0,k1,X0,X1,X2,X3,X4,X5,Z,U0,U1,U2,U3,U4,U5];exact aO.mk (ak _ _) hC (bT.mk _ _)
      try simp only[bP]
     try simp only[bP]
     refine bf.done ?_;intro wz bR
     try simp only[eB]
     iterate 11 refine jk ?_
     refine dH.nil ?_;go_simp;refine cO rfl ?_;go_simp;have iO:aj (Below w3.heap.size wr wz):=ah (bR.mono K7.o.size);clear Y Z bR X0 X1 X2 X3 X4 X5 U0 U1 U2 U3 U4 U5;go_wp2_with fail;go_roundw
     case rel=>exact⟨j+1,S,ahi,ahe,HR3.o.below (iO.o.mono afu),HR4.o.below (iO.o.mono afu),K7.o.trans iO.o⟩
     case measure=>simp[intOf];omega
end Go.Proofs.YtldapdcphphodaaGreatDoor
