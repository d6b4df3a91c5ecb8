/- Contract of the reference's SameWorld at equal objects. And what hangs on it. -/
import Derived.Test.YtmildapbbcbbhaaGreatDoorGCE
set_option linter.unusedSimpArgs false
set_option linter.unusedVariables false
set_option maxHeartbeats 40000000
set_option maxRecDepth 1000000
namespace Go.Proofs.YtmildapbbcbbhaaGreatDoor
open Go.RowKit
open Md
theorem Oa (W:Wo) (s t:lV) (w:World) (h1:iO w w.heap.size W s) (h2:iO w w.heap.size W t):
 Calls Tryz.prog 19 #[sS W s,sS W t] w λe w'=>e= .returned (.bool true)∧Below w.heap.size w w':=by
 have H1:=ah h1;have H2:=ah h2;have hl0:=h1.lc;have hl1:=h1.ll;have hl2:=h1.ln;have hl3:=h1.lf;have hl4:=h1.lt;have hl5:=h1.lS;unfold maxLen at hl0 hl1 hl2 hl3 hl4 hl5;clear h1 h2;unfold sS;go_enter Tryz.func19,Tryz.ntmps19;go_upto_region 1 with fail;generalize hW:World.alloc (World.alloc w _) _=w1;obtain⟨bp,hbp⟩: ∃n,w.heap.size=n:=⟨_,rfl⟩;have HB1:aj (Below w.heap.size w w1):=ah (by rw[<- hW];exact(au _ _).alloc (by simp) _);have mE:aj (w1.heap.size=bp+2):=ah (by rw[<- hW,<- hbp];simp);have G9:aj (w1.heap[bp]? =some (.cells #[.slice s.aC W.cs.length s.cC,.slice s.aL W.ls.length s.cL,.slice s.aN W.ns.length s.cN,.slice s.aF W.fs.length s.cF,.slice s.aT W.ts.length s.cT,.slice s.aS W.ss.length s.cS] 34 (0,0))):=ah (by rw[<- hW,<- hbp,heap_alloc_old _ _ (by simp)];exact heap_alloc_new _ _);have C8:aj (w1.heap[bp+1]? =some (.cells #[.slice t.aC W.cs.length t.cC,.slice t.aL W.ls.length t.cL,.slice t.aN W.ns.length t.cN,.slice t.aF W.fs.length t.cF,.slice t.aT W.ts.length t.cT,.slice t.aS W.ss.length t.cS] 34 (0,0))):=ah (by have:=heap_alloc_new (w.alloc (.cells #[.slice s.aC W.cs.length s.cC,.slice s.aL W.ls.length s.cL,.slice s.aN W.ns.length s.cN,.slice s.aF W.fs.length s.cF,.slice s.aT W.ts.length s.cT,.slice s.aS W.ss.length s.cS] 34)) (.cells #[.slice t.aC W.cs.length t.cC,.slice t.aL W.ls.length t.cL,.slice t.aN W.ns.length t.cN,.slice t.aF W.fs.length t.cF,.slice t.aT W.ts.length t.cT,.slice t.aS W.ss.length t.cS] 34);rw[<- hW,<- hbp];simpa using this);have DW:=ah hbp;have G1:aj (iO w1 bp W s):=ah (by rw[<- hbp];exact H1.o.below HB1.o);have G2:aj (iO w1 bp W t):=ah (by rw[<- hbp];exact H2.o.below HB1.o);rw[hbp];clear hW hbp;obtain⟨y0,y1,y2,y3,y4,y5⟩:=rE G9.o;obtain⟨z0,z1,z2,z3,z4,z5⟩:=rE C8.o;go_wp2_with fail;go_loopw [5] (λi wr=> ∃(k:Nat) (R:List Ak),i= .int .i64 k∧k+R.length=W.cs.length∧eD oD 5 wr bp R s.aC k∧eD oD 5 wr bp R t.aC k∧Below (bp+2) w1 wr) (λi _=>W.cs.length -(intOf i).toNat)
 case atStart=>exact⟨0,W.cs,rfl,by simp,G1.o.cs,G2.o.cs,ak _ _⟩
 case round=>
  obtain⟨k,R,rfl,hlen,hr1,hr2,hbel⟩:=hrel;have Jc:=ah hbel;clear hbel y0 y1 y2 y3 y4 y5 z0 z1 z2 z3 z4 z5;have tq:=ah ((Jc.o.block bp (by omega)).trans G9.o);have tu:=ah ((Jc.o.block (bp+1) (by omega)).trans C8.o);have y0:=aQ (j:=0) tq.o rfl;have z0:=aQ (j:=0) tu.o rfl;have y1:=aQ (j:=1) tq.o rfl;have z1:=aQ (j:=1) tu.o rfl;cases R with
  |cons x R=>
   obtain⟨⟨b,off,hao,hB,hcs⟩,hrest⟩:=hr1;obtain⟨⟨b',off',hao',hB',hcs'⟩,hrest'⟩:=hr2;have x0:=hcs 0 _ rfl;have u0:=hcs' 0 _ rfl;have x1:=hcs 1 _ rfl;have u1:=hcs' 1 _ rfl;have x2:=hcs 2 _ rfl;have u2:=hcs' 2 _ rfl;have x3:=hcs 3 _ rfl;have u3:=hcs' 3 _ rfl;have x4:=hcs 4 _ rfl;have u4:=hcs' 4 _ rfl
   try simp only[Nat.add_zero]at x0 u0
   clear hcs hcs';rw[hao]at y0;rw[hao']at z0;have zF:=ah hao;have Lu:=ah hao';have HR1:=ah hrest;have HR2:=ah hrest';clear hao hao' hrest hrest';simp only[aA]at hlen;have k0:(0:Int)<=(k:Int):=by omega
   have k1:(k:Int)<(W.cs.length:Int):=by omega
   have hkl:k<W.cs.length:=by omega
   have iw:aj (bp+2<=wr.heap.size):=ah (by have h1:=Jc.o.size;have h2:=mE.o;omega);go_wp2_with fail;have Y:=ko (by have:=iw.o;show bp<_;omega) y0;have Z:=ko (by have:=iw.o;show bp+1<_;omega) z0;have X0:=λw' (hb:Below wr.heap.size wr w')=>(hb.cell (aG hB (by have:=iw.o;omega))).trans x0;have U0:=λw' (hb:Below wr.heap.size wr w')=>(hb.cell (aG hB' (by have:=iw.o;omega))).trans u0;have X1:=λw' (hb:Below wr.heap.size wr w')=>(hb.cell (aG hB (by have:=iw.o;omega))).trans x1;have U1:=λw' (hb:Below wr.heap.size wr w')=>(hb.cell (aG hB' (by have:=iw.o;omega))).trans u1;have X2:=λw' (hb:Below wr.heap.size wr w')=>(hb.cell (aG hB (by have:=iw.o;omega))).trans x2;have U2:=λw' (hb:Below wr.heap.size wr w')=>(hb.cell (aG hB' (by have:=iw.o;omega))).trans u2;have X3:=λw' (hb:Below wr.heap.size wr w')=>(hb.cell (aG hB (by have:=iw.o;omega))).trans x3;have U3:=λw' (hb:Below wr.heap.size wr w')=>(hb.cell (aG hB' (by have:=iw.o;omega))).trans u3;have X4:=λw' (hb:Below wr.heap.size wr w')=>(hb.cell (aG hB (by have:=iw.o;omega))).trans x4;have U4:=λw' (hb:Below wr.heap.size wr w')=>(hb.cell (aG hB' (by have:=iw.o;omega))).trans u4;clear x0 u0 x1 u1 x2 u2 x3 u3 x4 u4 y0 z0 y1 z1;refine dI (by kernel_rfl) rfl ?_;refine dw 0 11 [] [[],[0],[],[0,1,2],[0,1,2,3],[],[5],[],[5,6,7],[5,6,7,8],[0,1,2,3,4,5,6,7,8,9]] [[],[],[],[],[],[],[],[],[],[],[]] (λ_ w'=>Below wr.heap.size wr w') (λw w'=>Below w.heap.size w w') [70,71,72,73,74,75,76,77,78,79,80] rfl rfl (by rfl) (by kernel_rfl) (by kernel_rfl) (by kernel_rfl) (by kernel_rfl) (by kernel_rfl) (by rfl) (λ_=>ak _ _) (by rfl) (below_drewN (ak _ _) 1) ?_;simp only[iW,mU]
   iterate 11
    apply bS.step
    case bg=>intro c A w' hok hC hO hD;have e2:=hO 2 (by rfl);have e5:=hO 5 (by rfl);have e3:=hO 3 (by rfl);simp[Act.eval]at e2 e5 e3;simp[Act.eval]at hD;simp[go_sem,gd,Oper.wp,hD,e2,e5,e3,Y,hC,k0,k1,X0,X1,X2,X3,X4,Z,U0,U1,U2,U3,U4];exact aR.mk (ak _ _) hC (bZ.mk _ _)
    try simp only[dR]
   try simp only[dR]
   refine bS.done ?_;intro wz dF
   try simp only[iW]
   iterate 11 refine nX ?_
   refine dP.nil ?_;go_simp;refine eO rfl ?_;go_simp;have jH:aj (Below (bp+2) wr wz):=ah (dF.mono iw.o);clear Y Z dF X0 U0 X1 U1 X2 U2 X3 U3 X4 U4;go_wp2_with fail;go_roundw
   case rel=>exact⟨k+1,R,by go_num,by omega,HR1.o.below (jH.o.mono (by omega)),HR2.o.below (jH.o.mono (by omega)),Jc.o.trans jH.o⟩
   case measure=>simp[intOf];omega
  |nil=>
   obtain rfl:k=W.cs.length:=by simpa using hlen
   clear hr1 hr2;go_wp2_with fail;clear y0 z0;go_loopw [6] (λi wr=> ∃(k:Nat) (R:List zN),i= .int .i64 k∧k+R.length=W.ls.length∧eD rX 2 wr bp R s.aL k∧eD rX 2 wr bp R t.aL k∧Below (bp+2) w1 wr) (λi _=>W.ls.length -(intOf i).toNat)
   case atStart=>exact⟨0,W.ls,rfl,by simp,(G1.o.below (Jc.o.mono (by omega))).ls,(G2.o.below (Jc.o.mono (by omega))).ls,Jc.o⟩
   case round=>
    obtain⟨k,R,rfl,hlen,hr1,hr2,hbel⟩:=hrel;have Jd:=ah hbel;clear hbel y1 z1;have tq:=ah ((Jd.o.block bp (by omega)).trans G9.o);have tu:=ah ((Jd.o.block (bp+1) (by omega)).trans C8.o);have y1:=aQ (j:=1) tq.o rfl;have z1:=aQ (j:=1) tu.o rfl;have y2:=aQ (j:=2) tq.o rfl;have z2:=aQ (j:=2) tu.o rfl;cases R with
    |cons x R=>
     obtain⟨⟨b,off,hao,hB,hcs⟩,hrest⟩:=hr1;obtain⟨⟨b',off',hao',hB',hcs'⟩,hrest'⟩:=hr2;have x0:=hcs 0 _ rfl;have u0:=hcs' 0 _ rfl;have x1:=hcs 1 _ rfl;have u1:=hcs' 1 _ rfl
     try simp only[Nat.add_zero]at x0 u0
     clear hcs hcs';rw[hao]at y1;rw[hao']at z1;have zF:=ah hao;have Lu:=ah hao';have HR1:=ah hrest;have HR2:=ah hrest';clear hao hao' hrest hrest';simp only[aA]at hlen;have k0:(0:Int)<=(k:Int):=(by omega);have k1:(k:Int)<(W.ls.length:Int):=(by omega);have hkl:k<W.ls.length:=(by omega);have iw:aj (bp+2<=wr.heap.size):=ah (by have h1:=Jd.o.size;have h2:=mE.o;omega);go_wp2_with fail;have Y:=ko (by have:=iw.o;show bp<_;omega) y1;have Z:=ko (by have:=iw.o;show bp+1<_;omega) z1;have X0:=λw' (hb:Below wr.heap.size wr w')=>(hb.cell (aG hB (by have:=iw.o;omega))).trans x0;have U0:=λw' (hb:Below wr.heap.size wr w')=>(hb.cell (aG hB' (by have:=iw.o;omega))).trans u0;have X1:=λw' (hb:Below wr.heap.size wr w')=>(hb.cell (aG hB (by have:=iw.o;omega))).trans x1;have U1:=λw' (hb:Below wr.heap.size wr w')=>(hb.cell (aG hB' (by have:=iw.o;omega))).trans u1;clear x0 u0 x1 u1 y1 z1 y2 z2;refine dI (by kernel_rfl) rfl ?_;refine dw 0 11 [] [[],[0],[],[0,1,2],[0,1,2,3],[],[5],[],[5,6,7],[5,6,7,8],[0,1,2,3,4,5,6,7,8,9]] [[],[],[],[],[],[],[],[],[],[],[]] (λ_ w'=>Below wr.heap.size wr w') (λw w'=>Below w.heap.size w w') [88,89,90,91,92,93,94,95,96,97,98] rfl rfl (by rfl) (by kernel_rfl) (by kernel_rfl) (by kernel_rfl) (by kernel_rfl) (by kernel_rfl) (by rfl) (λ_=>ak _ _) (by rfl) (below_drewN (ak _ _) 1) ?_;simp only[iW,mU]
     iterate 11
      apply bS.step
      case bg=>intro c A w' hok hC hO hD;have e2:=hO 2 (by rfl);have e6:=hO 6 (by rfl);have e3:=hO 3 (by rfl);simp[Act.eval]at e2 e6 e3;simp[Act.eval]at hD;simp[go_sem,gd,Oper.wp,hD,e2,e6,e3,Y,hC,k0,k1,X0,X1,Z,U0,U1];exact aR.mk (ak _ _) hC (bZ.mk _ _)
      try simp only[dR]
     try simp only[dR]
     refine bS.done ?_;intro wz dF
     try simp only[iW]
     iterate 11 refine nX ?_
     refine dP.nil ?_;go_simp;refine eO rfl ?_;go_simp;have jH:aj (Below (bp+2) wr wz):=ah (dF.mono iw.o);clear Y Z dF X0 U0 X1 U1;go_wp2_with fail;go_roundw
     case rel=>exact⟨k+1,R,by go_num,by omega,HR1.o.below (jH.o.mono (by omega)),HR2.o.below (jH.o.mono (by omega)),Jd.o.trans jH.o⟩
     case measure=>simp[intOf];omega
    |nil=>
     obtain rfl:k=W.ls.length:=(by simpa using hlen);clear hr1 hr2;go_wp2_with fail;clear y1 z1;go_loopw [7] (λi wr=> ∃(k:Nat) (R:List DU),i= .int .i64 k∧k+R.length=W.ns.length∧eD yU 2 wr bp R s.aN k∧eD yU 2 wr bp R t.aN k∧Below (bp+2) w1 wr) (λi _=>W.ns.length -(intOf i).toNat)
     case atStart=>exact⟨0,W.ns,rfl,by simp,(G1.o.below (Jd.o.mono (by omega))).ns,(G2.o.below (Jd.o.mono (by omega))).ns,Jd.o⟩
     case round=>
      obtain⟨k,R,rfl,hlen,hr1,hr2,hbel⟩:=hrel;have Je:=ah hbel;clear hbel y2 z2;have tq:=ah ((Je.o.block bp (by omega)).trans G9.o);have tu:=ah ((Je.o.block (bp+1) (by omega)).trans C8.o);have y2:=aQ (j:=2) tq.o rfl;have z2:=aQ (j:=2) tu.o rfl;have y3:=aQ (j:=3) tq.o rfl;have z3:=aQ (j:=3) tu.o rfl;cases R with
      |cons x R=>
       obtain⟨⟨b,off,hao,hB,hcs⟩,hrest⟩:=hr1;obtain⟨⟨b',off',hao',hB',hcs'⟩,hrest'⟩:=hr2;have x0:=hcs 0 _ rfl;have u0:=hcs' 0 _ rfl;have x1:=hcs 1 _ rfl;have u1:=hcs' 1 _ rfl
       try simp only[Nat.add_zero]at x0 u0
       clear hcs hcs';rw[hao]at y2;rw[hao']at z2;have zF:=ah hao;have Lu:=ah hao';have HR1:=ah hrest;have HR2:=ah hrest';clear hao hao' hrest hrest';simp only[aA]at hlen;have k0:(0:Int)<=(k:Int):=(by omega);have k1:(k:Int)<(W.ns.length:Int):=(by omega);have hkl:k<W.ns.length:=(by omega);have iw:aj (bp+2<=wr.heap.size):=ah (by have h1:=Je.o.size;have h2:=mE.o;omega);go_wp2_with fail;have Y:=ko (by have:=iw.o;show bp<_;omega) y2;have Z:=ko (by have:=iw.o;show bp+1<_;omega) z2;have X0:=λw' (hb:Below wr.heap.size wr w')=>(hb.cell (aG hB (by have:=iw.o;omega))).trans x0;have U0:=λw' (hb:Below wr.heap.size wr w')=>(hb.cell (aG hB' (by have:=iw.o;omega))).trans u0;have X1:=λw' (hb:Below wr.heap.size wr w')=>(hb.cell (aG hB (by have:=iw.o;omega))).trans x1;have U1:=λw' (hb:Below wr.heap.size wr w')=>(hb.cell (aG hB' (by have:=iw.o;omega))).trans u1;clear x0 u0 x1 u1 y2 z2 y3 z3;refine dI (by kernel_rfl) rfl ?_;refine dw 0 11 [] [[],[0],[],[0,1,2],[0,1,2,3],[],[5],[],[5,6,7],[5,6,7,8],[0,1,2,3,4,5,6,7,8,9]] [[],[],[],[],[],[],[],[],[],[],[]] (λ_ w'=>Below wr.heap.size wr w') (λw w'=>Below w.heap.size w w') [106,107,108,109,110,111,112,113,114,115,116] rfl rfl (by rfl) (by kernel_rfl) (by kernel_rfl) (by kernel_rfl) (by kernel_rfl) (by kernel_rfl) (by rfl) (λ_=>ak _ _) (by rfl) (below_drewN (ak _ _) 1) ?_;simp only[iW,mU]
       iterate 11
        apply bS.step
        case bg=>intro c A w' hok hC hO hD;have e2:=hO 2 (by rfl);have e7:=hO 7 (by rfl);have e3:=hO 3 (by rfl);simp[Act.eval]at e2 e7 e3;simp[Act.eval]at hD;simp[go_sem,gd,Oper.wp,hD,e2,e7,e3,Y,hC,k0,k1,X0,X1,Z,U0,U1];exact aR.mk (ak _ _) hC (bZ.mk _ _)
        try simp only[dR]
       try simp only[dR]
       refine bS.done ?_;intro wz dF
       try simp only[iW]
       iterate 11 refine nX ?_
       refine dP.nil ?_;go_simp;refine eO rfl ?_;go_simp;have jH:aj (Below (bp+2) wr wz):=ah (dF.mono iw.o);clear Y Z dF X0 U0 X1 U1;go_wp2_with fail;go_roundw
       case rel=>exact⟨k+1,R,by go_num,by omega,HR1.o.below (jH.o.mono (by omega)),HR2.o.below (jH.o.mono (by omega)),Je.o.trans jH.o⟩
       case measure=>simp[intOf];omega
      |nil=>
       obtain rfl:k=W.ns.length:=(by simpa using hlen);clear hr1 hr2;go_wp2_with fail;clear y2 z2;go_loopw [8] (λi wr=> ∃(k:Nat) (R:List ByteArray),i= .int .i64 k∧k+R.length=W.fs.length∧fJ wr bp R s.aF k∧fJ wr bp R t.aF k∧Below (bp+2) w1 wr) (λi _=>W.fs.length -(intOf i).toNat)
       case atStart=>exact⟨0,W.fs,rfl,by simp,(G1.o.below (Je.o.mono (by omega))).fs,(G2.o.below (Je.o.mono (by omega))).fs,Je.o⟩
       case round=>
        obtain⟨k,R,rfl,hlen,hr1,hr2,hbel⟩:=hrel;have Jf:=ah hbel;clear hbel y3 z3;have tq:=ah ((Jf.o.block bp (by omega)).trans G9.o);have tu:=ah ((Jf.o.block (bp+1) (by omega)).trans C8.o);have y3:=aQ (j:=3) tq.o rfl;have z3:=aQ (j:=3) tu.o rfl;have y4:=aQ (j:=4) tq.o rfl;have z4:=aQ (j:=4) tu.o rfl;cases R with
        |cons x R=>
         obtain⟨⟨b,off,hao,hB,x0,-⟩,hrest⟩:=hr1;obtain⟨⟨b',off',hao',hB',u0,-⟩,hrest'⟩:=hr2;rw[hao]at y3;rw[hao']at z3;have zF:=ah hao;have Lu:=ah hao';have HR1:=ah hrest;have HR2:=ah hrest';clear hao hao' hrest hrest';simp only[aA]at hlen;have k0:(0:Int)<=(k:Int):=(by omega);have k1:(k:Int)<(W.fs.length:Int):=(by omega);have hkl:k<W.fs.length:=(by omega);have iw:aj (bp+2<=wr.heap.size):=ah (by have h1:=Jf.o.size;have h2:=mE.o;omega);go_wp2_with fail;have Y:=ko (by have:=iw.o;show bp<_;omega) y3;have Z:=ko (by have:=iw.o;show bp+1<_;omega) z3;have X0:=λw' (hb:Below wr.heap.size wr w')=>(hb.cell (aG hB (by have:=iw.o;omega))).trans x0;have U0:=λw' (hb:Below wr.heap.size wr w')=>(hb.cell (aG hB' (by have:=iw.o;omega))).trans u0;clear x0 u0 y3 z3 y4 z4;refine dI (by kernel_rfl) rfl ?_;refine dw 0 11 [] [[],[0],[],[0,1,2],[0,1,2,3],[],[5],[],[5,6,7],[5,6,7,8],[0,1,2,3,4,5,6,7,8,9]] [[],[],[],[],[],[],[],[],[],[],[]] (λ_ w'=>Below wr.heap.size wr w') (λw w'=>Below w.heap.size w w') [124,125,126,127,128,129,130,131,132,133,134] rfl rfl (by rfl) (by kernel_rfl) (by kernel_rfl) (by kernel_rfl) (by kernel_rfl) (by kernel_rfl) (by rfl) (λ_=>ak _ _) (by rfl) (below_drewN (ak _ _) 1) ?_;simp only[iW,mU]
         iterate 11
          apply bS.step
          case bg=>intro c A w' hok hC hO hD;have e2:=hO 2 (by rfl);have e8:=hO 8 (by rfl);have e3:=hO 3 (by rfl);simp[Act.eval]at e2 e8 e3;simp[Act.eval]at hD;simp[go_sem,gd,Oper.wp,hD,e2,e8,e3,Y,hC,k0,k1,X0,Z,U0];exact aR.mk (ak _ _) hC (bZ.mk _ _)
          try simp only[dR]
         try simp only[dR]
         refine bS.done ?_;intro wz dF
         try simp only[iW]
         iterate 11 refine nX ?_
         refine dP.nil ?_;go_simp;refine eO rfl ?_;go_simp;have jH:aj (Below (bp+2) wr wz):=ah (dF.mono iw.o);clear Y Z dF X0 U0;go_wp2_with fail;go_roundw
         case rel=>exact⟨k+1,R,by go_num,by omega,HR1.o.below (jH.o.mono (by omega)),HR2.o.below (jH.o.mono (by omega)),Jf.o.trans jH.o⟩
         case measure=>simp[intOf];omega
        |nil=>
         obtain rfl:k=W.fs.length:=(by simpa using hlen);clear hr1 hr2;go_wp2_with fail;clear y3 z3;go_loopw [9] (λi wr=> ∃(k:Nat) (R:List ByteArray),i= .int .i64 k∧k+R.length=W.ts.length∧fJ wr bp R s.aT k∧fJ wr bp R t.aT k∧Below (bp+2) w1 wr) (λi _=>W.ts.length -(intOf i).toNat)
         case atStart=>exact⟨0,W.ts,rfl,by simp,(G1.o.below (Jf.o.mono (by omega))).ts,(G2.o.below (Jf.o.mono (by omega))).ts,Jf.o⟩
         case round=>
          obtain⟨k,R,rfl,hlen,hr1,hr2,hbel⟩:=hrel;have BF:=ah hbel;clear hbel y4 z4;have tq:=ah ((BF.o.block bp (by omega)).trans G9.o);have tu:=ah ((BF.o.block (bp+1) (by omega)).trans C8.o);have y4:=aQ (j:=4) tq.o rfl;have z4:=aQ (j:=4) tu.o rfl;have y5:=aQ (j:=5) tq.o rfl;have z5:=aQ (j:=5) tu.o rfl;cases R with
          |cons x R=>
           obtain⟨⟨b,off,hao,hB,x0,-⟩,hrest⟩:=hr1;obtain⟨⟨b',off',hao',hB',u0,-⟩,hrest'⟩:=hr2;rw[hao]at y4;rw[hao']at z4;have zF:=ah hao;have Lu:=ah hao';have HR1:=ah hrest;have HR2:=ah hrest';clear hao hao' hrest hrest';simp only[aA]at hlen;have k0:(0:Int)<=(k:Int):=(by omega);have k1:(k:Int)<(W.ts.length:Int):=(by omega);have hkl:k<W.ts.length:=(by omega);have iw:aj (bp+2<=wr.heap.size):=ah (by have h1:=BF.o.size;have h2:=mE.o;omega);go_wp2_with fail;have Y:=ko (by have:=iw.o;show bp<_;omega) y4;have Z:=ko (by have:=iw.o;show bp+1<_;omega) z4;have X0:=λw' (hb:Below wr.heap.size wr w')=>(hb.cell (aG hB (by have:=iw.o;omega))).trans x0;have U0:=λw' (hb:Below wr.heap.size wr w')=>(hb.cell (aG hB' (by have:=iw.o;omega))).trans u0;clear x0 u0 y4 z4 y5 z5;refine dI (by kernel_rfl) rfl ?_;refine dw 0 11 [] [[],[0],[],[0,1,2],[0,1,2,3],[],[5],[],[5,6,7],[5,6,7,8],[0,1,2,3,4,5,6,7,8,9]] [[],[],[],[],[],[],[],[],[],[],[]] (λ_ w'=>Below wr.heap.size wr w') (λw w'=>Below w.heap.size w w') [142,143,144,145,146,147,148,149,150,151,152] rfl rfl (by rfl) (by kernel_rfl) (by kernel_rfl) (by kernel_rfl) (by kernel_rfl) (by kernel_rfl) (by rfl) (λ_=>ak _ _) (by rfl) (below_drewN (ak _ _) 1) ?_;simp only[iW,mU]
           iterate 11
            apply bS.step
            case bg=>intro c A w' hok hC hO hD;have e2:=hO 2 (by rfl);have e9:=hO 9 (by rfl);have e3:=hO 3 (by rfl);simp[Act.eval]at e2 e9 e3;simp[Act.eval]at hD;simp[go_sem,gd,Oper.wp,hD,e2,e9,e3,Y,hC,k0,k1,X0,Z,U0];exact aR.mk (ak _ _) hC (bZ.mk _ _)
            try simp only[dR]
           try simp only[dR]
           refine bS.done ?_;intro wz dF
           try simp only[iW]
           iterate 11 refine nX ?_
           refine dP.nil ?_;go_simp;refine eO rfl ?_;go_simp;have jH:aj (Below (bp+2) wr wz):=ah (dF.mono iw.o);clear Y Z dF X0 U0;go_wp2_with fail;go_roundw
           case rel=>exact⟨k+1,R,by go_num,by omega,HR1.o.below (jH.o.mono (by omega)),HR2.o.below (jH.o.mono (by omega)),BF.o.trans jH.o⟩
           case measure=>simp[intOf];omega
          |nil=>
           obtain rfl:k=W.ts.length:=(by simpa using hlen);clear hr1 hr2;go_wp2_with fail;clear y4 z4;go_loopw [10] (λi wr=> ∃(k:Nat) (R:List Ef),i= .int .i64 k∧k+R.length=W.ss.length∧eD yX 3 wr bp R s.aS k∧eD yX 3 wr bp R t.aS k∧Below (bp+2) w1 wr) (λi _=>W.ss.length -(intOf i).toNat)
           case atStart=>exact⟨0,W.ss,rfl,by simp,(G1.o.below (BF.o.mono (by omega))).ss,(G2.o.below (BF.o.mono (by omega))).ss,BF.o⟩
           case round=>
            obtain⟨k,R,rfl,hlen,hr1,hr2,hbel⟩:=hrel;have OD:=ah hbel;clear hbel y5 z5;have tq:=ah ((OD.o.block bp (by omega)).trans G9.o);have tu:=ah ((OD.o.block (bp+1) (by omega)).trans C8.o);have y5:=aQ (j:=5) tq.o rfl;have z5:=aQ (j:=5) tu.o rfl;cases R with
            |cons x R=>
             obtain⟨⟨b,off,hao,hB,hcs⟩,hrest⟩:=hr1;obtain⟨⟨b',off',hao',hB',hcs'⟩,hrest'⟩:=hr2;have x0:=hcs 0 _ rfl;have u0:=hcs' 0 _ rfl;have x1:=hcs 1 _ rfl;have u1:=hcs' 1 _ rfl;have x2:=hcs 2 _ rfl;have u2:=hcs' 2 _ rfl
             try simp only[Nat.add_zero]at x0 u0
             clear hcs hcs';rw[hao]at y5;rw[hao']at z5;have zF:=ah hao;have Lu:=ah hao';have HR1:=ah hrest;have HR2:=ah hrest';clear hao hao' hrest hrest';simp only[aA]at hlen;have k0:(0:Int)<=(k:Int):=(by omega);have k1:(k:Int)<(W.ss.length:Int):=(by omega);have hkl:k<W.ss.length:=(by omega);have iw:aj (bp+2<=wr.heap.size):=ah (by have h1:=OD.o.size;have h2:=mE.o;omega);go_wp2_with fail;have Y:=ko (by have:=iw.o;show bp<_;omega) y5;have Z:=ko (by have:=iw.o;show bp+1<_;omega) z5;have X0:=λw' (hb:Below wr.heap.size wr w')=>(hb.cell (aG hB (by have:=iw.o;omega))).trans x0;have U0:=λw' (hb:Below wr.heap.size wr w')=>(hb.cell (aG hB' (by have:=iw.o;omega))).trans u0;have X1:=λw' (hb:Below wr.heap.size wr w')=>(hb.cell (aG hB (by have:=iw.o;omega))).trans x1;have U1:=λw' (hb:Below wr.heap.size wr w')=>(hb.cell (aG hB' (by have:=iw.o;omega))).trans u1;have X2:=λw' (hb:Below wr.heap.size wr w')=>(hb.cell (aG hB (by have:=iw.o;omega))).trans x2;have U2:=λw' (hb:Below wr.heap.size wr w')=>(hb.cell (aG hB' (by have:=iw.o;omega))).trans u2;clear x0 u0 x1 u1 x2 u2 y5 z5;refine dI (by kernel_rfl) rfl ?_;refine dw 0 11 [] [[],[0],[],[0,1,2],[0,1,2,3],[],[5],[],[5,6,7],[5,6,7,8],[0,1,2,3,4,5,6,7,8,9]] [[],[],[],[],[],[],[],[],[],[],[]] (λ_ w'=>Below wr.heap.size wr w') (λw w'=>Below w.heap.size w w') [160,161,162,163,164,165,166,167,168,169,170] rfl rfl (by rfl) (by kernel_rfl) (by kernel_rfl) (by kernel_rfl) (by kernel_rfl) (by kernel_rfl) (by rfl) (λ_=>ak _ _) (by rfl) (below_drewN (ak _ _) 1) ?_;simp only[iW,mU]
             iterate 11
              apply bS.step
              case bg=>intro c A w' hok hC hO hD;have e2:=hO 2 (by rfl);have e10:=hO 10 (by rfl);have e3:=hO 3 (by rfl);simp[Act.eval]at e2 e10 e3;simp[Act.eval]at hD;simp[go_sem,gd,Oper.wp,hD,e2,e10,e3,Y,hC,k0,k1,X0,X1,X2,Z,U0,U1,U2];exact aR.mk (ak _ _) hC (bZ.mk _ _)
              try simp only[dR]
             try simp only[dR]
             refine bS.done ?_;intro wz dF
             try simp only[iW]
             iterate 11 refine nX ?_
             refine dP.nil ?_;go_simp;refine eO rfl ?_;go_simp;have jH:aj (Below (bp+2) wr wz):=ah (dF.mono iw.o);clear Y Z dF X0 U0 X1 U1 X2 U2;go_wp2_with fail;go_roundw
             case rel=>exact⟨k+1,R,by go_num,by omega,HR1.o.below (jH.o.mono (by omega)),HR2.o.below (jH.o.mono (by omega)),OD.o.trans jH.o⟩
             case measure=>simp[intOf];omega
            |nil=>obtain rfl:k=W.ss.length:=(by simpa using hlen);clear hr1 hr2;go_wp2_with fail;go_ret;exact⟨rfl,HB1.o.trans (OD.o.mono (by have:=DW.o;omega))⟩
theorem Md.kM.below {w w':World} {B:Nat} (hb:Below B w w'): ∀ {l:List yS} {ao:Option Addr} {k:Nat},kM w B l ao k->kM w' B l ao k
 | [],_,_,_=>trivial
 |_::_,_,_,⟨⟨b,off,fQ,eU,e,hB,x0,x1,hl,hf⟩,hr⟩=>⟨⟨b,off,fQ,eU,e,hB,(hb.cell (p:=⟨b,_,none⟩) hB).trans x0,(hb.cell (p:=⟨b,_,none⟩) hB).trans x1,hl,hf.below hb⟩,kM.below hb hr⟩
def scZ:Array Value:= #[.int .i64 0,.slice none 0 0]
theorem NR:(Tryz.prog.info? 79).map (·.size)=some 2:=by kernel_rfl
theorem QT (W:Wo) (s t:lV) (l:List yS) (ao IQ:Option Addr) (cap cap2:Nat) (w:World) (h1:iO w w.heap.size W s) (h2:iO w w.heap.size W t) (h3:kM w w.heap.size l ao 0) (h4:kM w w.heap.size l IQ 0) (hl:l.length<=1000):
 Calls Tryz.prog 6 #[.agg #[.slice s.aC W.cs.length s.cC,.slice s.aL W.ls.length s.cL,.slice s.aN W.ns.length s.cN,.slice s.aF W.fs.length s.cF,.slice s.aT W.ts.length s.cT,.slice s.aS W.ss.length s.cS,.slice ao l.length cap],.agg #[.slice t.aC W.cs.length t.cC,.slice t.aL W.ls.length t.cL,.slice t.aN W.ns.length t.cN,.slice t.aF W.fs.length t.cF,.slice t.aT W.ts.length t.cT,.slice t.aS W.ss.length t.cS,.slice IQ l.length cap2]] w λe w'=>e= .returned (.bool true)∧Below w.heap.size w w':=by
 have H1:=ah h1;have H2:=ah h2;have H3:=ah h3;have H4:=ah h4;clear h1 h2 h3 h4;go_enter Tryz.func6,Tryz.ntmps6;go_upto_region 1 with fail;generalize hW:World.alloc (World.alloc w _) _=w1;obtain⟨bp,hbp⟩: ∃n,w.heap.size=n:=⟨_,rfl⟩;have HB1:aj (Below w.heap.size w w1):=ah (by rw[<- hW];exact(au _ _).alloc (by simp) _);have mE:aj (w1.heap.size=bp+2):=ah (by rw[<- hW,<- hbp];simp);have G9:aj (w1.heap[bp]? =some (.cells #[.slice s.aC W.cs.length s.cC,.slice s.aL W.ls.length s.cL,.slice s.aN W.ns.length s.cN,.slice s.aF W.fs.length s.cF,.slice s.aT W.ts.length s.cT,.slice s.aS W.ss.length s.cS,.slice ao l.length cap] 37 (0,0))):=ah (by rw[<- hW,<- hbp,heap_alloc_old _ _ (by simp)];exact heap_alloc_new _ _);have C8:aj (w1.heap[bp+1]? =some (.cells #[.slice t.aC W.cs.length t.cC,.slice t.aL W.ls.length t.cL,.slice t.aN W.ns.length t.cN,.slice t.aF W.fs.length t.cF,.slice t.aT W.ts.length t.cT,.slice t.aS W.ss.length t.cS,.slice IQ l.length cap2] 37 (0,0))):=ah (by have:=heap_alloc_new (w.alloc (.cells #[.slice s.aC W.cs.length s.cC,.slice s.aL W.ls.length s.cL,.slice s.aN W.ns.length s.cN,.slice s.aF W.fs.length s.cF,.slice s.aT W.ts.length s.cT,.slice s.aS W.ss.length s.cS,.slice ao l.length cap] 37)) (.cells #[.slice t.aC W.cs.length t.cC,.slice t.aL W.ls.length t.cL,.slice t.aN W.ns.length t.cN,.slice t.aF W.fs.length t.cF,.slice t.aT W.ts.length t.cT,.slice t.aS W.ss.length t.cS,.slice IQ l.length cap2] 37);rw[<- hW,<- hbp];simpa using this);have DW:=ah hbp;have G1:aj (iO w1 w1.heap.size W s):=ah ((H1.o.below HB1.o).mono HB1.o.size);have G2:aj (iO w1 w1.heap.size W t):=ah ((H2.o.below HB1.o).mono HB1.o.size);have G3:aj (kM w1 bp l ao 0):=ah (by rw[<- hbp];exact H3.o.below HB1.o);have G4:aj (kM w1 bp l IQ 0):=ah (by rw[<- hbp];exact H4.o.below HB1.o);rw[hbp];clear hW hbp;obtain⟨y0,y1,y2,y3,y4,y5,y6⟩:=IV G9.o;obtain⟨z0,z1,z2,z3,z4,z5,z6⟩:=IV C8.o;go_wp2_with fail;refine(Oa W s t w1 G1.o G2.o).mono ?_;rintro e w2 ⟨rfl,hb2⟩;have HB2:aj (Below (bp+2) w1 w2):=ah (hb2.mono (by rw[mE.o];exact aB _));clear hb2 y0 z0 y1 z1 y2 z2 y3 z3 y4 z4 y5 z5 y6 z6;have bo6:=ah ((HB2.o.block bp (by omega)).trans G9.o);have bo7:=ah ((HB2.o.block (bp+1) (by omega)).trans C8.o);have y6:=aQ (j:=6) bo6.o rfl;have z6:=aQ (j:=6) bo7.o rfl;simp only[List.getElem_toArray,List.getElem_cons_zero,List.getElem_cons_succ]at y6 z6;go_wp2_with fail;go_loopw [5,6,7,8] (λi _ _ _ wr=> ∃(k:Nat) (R:List yS),i= .int .i64 k∧k+R.length=l.length∧kM wr bp R ao k∧kM wr bp R IQ k∧Below (bp+2) w1 wr) (λi _ _ _ _=>l.length -(intOf i).toNat)
 case atStart=>exact⟨0,l,rfl,by simp,G3.o.below (HB2.o.mono (by omega)),G4.o.below (HB2.o.mono (by omega)),HB2.o⟩
 case round=>
  obtain⟨k,R,rfl,hlen,hr1,hr2,hbel⟩:=hrel;have mq:=ah hbel;clear hbel y6 z6;have tq:=ah ((mq.o.block bp (by omega)).trans G9.o);have tu:=ah ((mq.o.block (bp+1) (by omega)).trans C8.o);have y6:=aQ (j:=6) tq.o rfl;have z6:=aQ (j:=6) tu.o rfl;simp only[List.getElem_toArray,List.getElem_cons_zero,List.getElem_cons_succ]at y6 z6;cases R with
  |nil=>
   obtain rfl:k=l.length:=by simpa using hlen
   clear hr1 hr2;go_wp2_with fail;go_ret;exact⟨rfl,HB1.o.trans (mq.o.mono (by have:=DW.o;omega))⟩
  |cons x R=>
   obtain⟨⟨b,off,fQ,eU,hao,hB,x0,x1,hxl,hf⟩,hrest⟩:=hr1;obtain⟨⟨b',off',Zv,ak9,hao',hB',u0,u1,-,hf'⟩,hrest'⟩:=hr2;rw[hao]at y6;rw[hao']at z6;have zG:=ah hf;have yN:=ah hf';have zF:=ah hao;have Lu:=ah hao';have HR1:=ah hrest;have HR2:=ah hrest';clear hao hao' hrest hrest' hf hf';simp only[aA]at hlen;have hb0:(0:Int)<=(k:Int):=by omega
   have hb1:(k:Int)<(l.length:Int):=by omega
   have hkl:k<l.length:=by omega
   have iw:aj (bp+2<=wr.heap.size):=ah (by have h1:=mq.o.size;have h2:=mE.o;omega);have hs0:bp<wr.heap.size:=by have:=iw.o;omega
   have hs1:bp+1<wr.heap.size:=by have:=iw.o;omega
   have hbl:b<wr.heap.size:=by omega
   have aJ1:b'<wr.heap.size:=by omega
   go_wp2_with fail;refine Dr (sK wr 10 scZ #[.int .i64 x.regs,.slice fQ x.is.length eU] #[.int .i64 x.regs,.slice Zv x.is.length ak9] 79) (λg _ g' _=>Gb.le g g') [31,32,33,34,35,36,37,38,39,40,6,7] ⟨none,none,false,false⟩ (by kernel_rfl) (by kernel_rfl) (λg _=>Gb.le_refl g) (by rfl) sK.start ?_;apply mR.step
   case bg=>intro D A g w' hDn hC hO hD;have e2:=hO 2 (by rfl);simp[Act.eval]at e2;simp[lJ,lq,gJ,Act.eval,Region.binds]at hD;simp[go_sem,qJ,Oper.wp,hD,e2];exact ji.mk (Gb.le_refl g) (hC.skip _) (lq.mk _ _ _)
   apply mR.step
   case bg=>intro D A g w' hDn hC hO hD;have m0:=(hC.bl.cell (p:=⟨bp,6,none⟩) hs0).trans y6;simp[lJ,lq,gJ,Act.eval,Region.binds]at hD;simp[go_sem,qJ,Oper.wp,hD,m0];exact ji.mk (Gb.le_refl g) (hC.skip _) (lq.mk _ _ _)
   apply mR.step
   case bg=>intro D A g w' hDn hC hO hD;have e5:=hO 5 (by rfl);simp[Act.eval]at e5;simp[lJ,lq,gJ,Act.eval,Region.binds]at hD;simp[go_sem,qJ,Oper.wp,hD,e5];exact ji.mk (Gb.le_refl g) (hC.skip _) (lq.mk _ _ _)
   apply mR.step
   case bg=>intro D A g w' hDn hC hO hD;simp[lJ,lq,gJ,Act.eval,Region.binds]at hD;simp[go_sem,qJ,Oper.wp,hD,hb0,hb1];exact ji.mk (Gb.le_refl g) (hC.skip _) (lq.mk _ _ _)
   apply mR.step
   case bg=>intro D A g w' hDn hC hO hD;have z0:=(hC.bl.cell (p:=⟨b,off+k*2,none⟩) hbl).trans x0;have z1:=(hC.bl.cell (p:=⟨b,off+k*2+1,none⟩) hbl).trans x1;simp[lJ,lq,gJ,Act.eval,Region.binds]at hD;simp[go_sem,qJ,Oper.wp,hD,z0,z1];exact ji.mk (Gb.le_refl g) (hC.skip _) (lq.mk _ _ _)
   apply mR.step
   case bg=>intro D A g w' hDn hC hO hD;have e3:=hO 3 (by rfl);simp[Act.eval]at e3;simp[lJ,lq,gJ,Act.eval,Region.binds]at hD;simp[go_sem,qJ,Oper.wp,hD,e3];exact ji.mk (Gb.le_refl g) (hC.skip _) (lq.mk _ _ _)
   apply mR.step
   case bg=>intro D A g w' hDn hC hO hD;have m0:=(hC.bl.cell (p:=⟨bp+1,6,none⟩) hs1).trans z6;simp[lJ,lq,gJ,Act.eval,Region.binds]at hD;simp[go_sem,qJ,Oper.wp,hD,m0];exact ji.mk (Gb.le_refl g) (hC.skip _) (lq.mk _ _ _)
   apply mR.step
   case bg=>intro D A g w' hDn hC hO hD;have e5:=hO 5 (by rfl);simp[Act.eval]at e5;simp[lJ,lq,gJ,Act.eval,Region.binds]at hD;simp[go_sem,qJ,Oper.wp,hD,e5];exact ji.mk (Gb.le_refl g) (hC.skip _) (lq.mk _ _ _)
   apply mR.step
   case bg=>intro D A g w' hDn hC hO hD;simp[lJ,lq,gJ,Act.eval,Region.binds]at hD;simp[go_sem,qJ,Oper.wp,hD,hb0,hb1];exact ji.mk (Gb.le_refl g) (hC.skip _) (lq.mk _ _ _)
   apply mR.step
   case bg=>intro D A g w' hDn hC hO hD;have z0:=(hC.bl.cell (p:=⟨b',off'+k*2,none⟩) aJ1).trans u0;have z1:=(hC.bl.cell (p:=⟨b',off'+k*2+1,none⟩) aJ1).trans u1;simp[lJ,lq,gJ,Act.eval,Region.binds]at hD;simp[go_sem,qJ,Oper.wp,hD,z0,z1];exact ji.mk (Gb.le_refl g) (hC.skip _) (lq.mk _ _ _)
   refine mR.some (λv g _=> ∃b,v= .pointer (some ⟨b,0,none⟩)∧g.o8=some b) (λv g w g' w' hle h=>by obtain⟨b,h1,h2⟩:=h;exact⟨b,h1,hle.1 b h2⟩) ?_ ?_
   ·intro D A g w' hDn hC hO hD;simp[go_sem,qJ,Oper.wp];have hM:=hC.mk8 hDn;exact ji.mk hM.1 hM.2 ⟨_,rfl,rfl⟩
   refine mR.some (λv g _=> ∃b,v= .pointer (some ⟨b,0,none⟩)∧g.o9=some b) (λv g w g' w' hle h=>by obtain⟨b,h1,h2⟩:=h;exact⟨b,h1,hle.2.1 b h2⟩) ?_ ?_
   ·intro D A g w' hDn hC hO hD;simp[go_sem,qJ,Oper.wp];have hM:=hC.mk9 hDn;exact ji.mk hM.1 hM.2 ⟨_,rfl,rfl⟩
   refine mR.some (λ_ g _=>g.s8=true) (λv g w g' w' hle h=>hle.2.2.1 h) ?_ ?_
   ·intro D A g w' hDn hC hO hD;simp[lJ,lq,gJ,Act.eval,Region.binds]at hD;obtain⟨⟨gb,hv,hgb⟩,hx,-⟩:=hD;simp only[qJ,if_true];refine wp_store_mid _ _ _ (by rfl) gb 0 #[.int .i64 x.regs,.slice fQ x.is.length eU] (by simp[Act.eval,hv]) (by simp[Act.eval,hx]) (hC.aT0 hDn hgb (aB _)) NR (by simp[Value.oneCell']) ?_;have hF:=hC.st8 hDn hgb rfl;exact ji.Cx hF.1 hF.2 rfl
   refine mR.some (λ_ g _=>g.s9=true) (λv g w g' w' hle h=>hle.2.2.2 h) ?_ ?_
   ·intro D A g w' hDn hC hO hD;simp[lJ,lq,gJ,Act.eval,Region.binds]at hD;obtain⟨⟨gb,hv,hgb⟩,hx,-⟩:=hD;simp only[qJ,if_true];refine wp_store_mid _ _ _ (by rfl) gb 0 #[.int .i64 x.regs,.slice Zv x.is.length ak9] (by simp[Act.eval,hv]) (by simp[Act.eval,hx]) (hC.aT1 hDn hgb (aB _)) NR (by simp[Value.oneCell']) ?_;have hF:=hC.st9 hDn hgb rfl;exact ji.Cx hF.1 hF.2 rfl
   refine mR.done ?_;intro D g w3 hD hC;simp only[Nc,List.nil_append,List.cons_append,List.map_cons,List.map_nil];intro x0' h0' x1' h1' x2' h2' x3' h3' x4' h4' x5' h5' x6' h6' x7' h7' x8' h8' x9' h9' bN2 Jt bN3 Ju bN4 aH4 bN5 M9;obtain⟨g8,rfl,hg8⟩:=Jt;obtain⟨g9,rfl,TB⟩:=Ju;obtain⟨hBd,hl8,hl9,hne,hb8,NA⟩:=hC.two hg8 TB aH4 M9;have HB3:aj (Below (bp+2) wr w3):=ah (hBd.mono iw.o);have G8:=ah hb8;have Fy:=ah NA;have HL8:=ah (aI hl8 hl9);clear h0' h1' h2' h3' h4' h5' h6' h7' h8' h9' hC hD hg8 TB aH4 M9 hBd hl8 hl9 hne hb8 NA;clear x0 x1 u0 u1 y6 z6;refine Zt ?_;go_simp;obtain⟨p0,p1⟩:=pK G8.o;obtain⟨q0,q1⟩:=pK Fy.o;have Sw:aj (g8<w3.heap.size∧g9<w3.heap.size∧bp+2<=g8∧bp+2<=g9):=ah (by have h1:=(aO G8.o);have h2:=(aO Fy.o);have h3:=HL8.o;have h4:=iw.o;omega);have hil:x.is.length<=3000000000000:=hxl;go_wp2_with fail;go_loopw [8] (λi wq=> ∃(j:Nat) (S:List dV),i= .int .i64 j∧j+S.length=x.is.length∧eD nZ 6 wq bp S fQ j∧eD nZ 6 wq bp S Zv j∧Below w3.heap.size w3 wq) (λi _=>x.is.length -(intOf i).toNat)
   case atStart=>exact⟨0,x.is,rfl,by simp,zG.o.below (HB3.o.mono (by omega)),yN.o.below (HB3.o.mono (by omega)),ak _ _⟩
   case round=>
    obtain⟨j,S,rfl,hlen3,hr3,hr4,KH⟩:=hrel;have JV:=ah KH;clear KH p0 p1 q0 q1;have bo4:=ah ((JV.o.block g8 Sw.o.1).trans G8.o);have bo5:=ah ((JV.o.block g9 Sw.o.2.1).trans Fy.o);have p1:=aQ (j:=1) bo4.o rfl;have q1:=aQ (j:=1) bo5.o rfl;cases S with
    |nil=>
     obtain rfl:j=x.is.length:=(by simpa using hlen3);have VW:aj (Below (bp+2) _ wr):=ah (HB3.o.trans (JV.o.mono (by have:=Sw.o;omega)));clear hr3 hr4;go_wp2_with fail;go_roundw
     case rel=>exact⟨k+1,R,by go_num,by omega,HR1.o.below (VW.o.mono (by omega)),HR2.o.below (VW.o.mono (by omega)),mq.o.trans VW.o⟩
     case measure=>simp[intOf];omega
    |cons y S=>
     obtain⟨⟨c,of,hao,hB3,hcs⟩,hrest⟩:=hr3;obtain⟨⟨c',of',hao',Ma,hcs'⟩,hrest'⟩:=hr4;have x0:=hcs 0 _ rfl;have x1:=hcs 1 _ rfl;have x2:=hcs 2 _ rfl;have x3:=hcs 3 _ rfl;have x4:=hcs 4 _ rfl;have x5:=hcs 5 _ rfl;have u0:=hcs' 0 _ rfl;have u1:=hcs' 1 _ rfl;have u2:=hcs' 2 _ rfl;have u3:=hcs' 3 _ rfl;have u4:=hcs' 4 _ rfl;have u5:=hcs' 5 _ rfl;simp only[Nat.add_zero]at x0 u0;rw[hao]at p1;rw[hao']at q1;have HR3:=ah hrest;have HR4:=ah hrest';clear hcs hcs' hao hao' hrest hrest';simp only[aA]at hlen3;have k0:(0:Int)<=(j:Int):=(by omega);have k1:(j:Int)<(x.is.length:Int):=(by omega);have hjl:j<x.is.length:=(by omega);have HW3:aj (w3.heap.size<=wr.heap.size∧bp+2<=w3.heap.size):=ah ⟨JV.o.size,by have:=Sw.o;omega⟩;go_wp2_with fail;have Y:=ko (by have:=HW3.o;have:=Sw.o;show g8<_;omega) p1;have Z:=ko (by have:=HW3.o;have:=Sw.o;show g9<_;omega) q1;have X0:=λw' (hb:Below wr.heap.size wr w')=>(hb.cell (aG hB3 (by have:=HW3.o;omega))).trans x0;have U0:=λw' (hb:Below wr.heap.size wr w')=>(hb.cell (aG Ma (by have:=HW3.o;omega))).trans u0;have X1:=λw' (hb:Below wr.heap.size wr w')=>(hb.cell (aG hB3 (by have:=HW3.o;omega))).trans x1;have U1:=λw' (hb:Below wr.heap.size wr w')=>(hb.cell (aG Ma (by have:=HW3.o;omega))).trans u1;have X2:=λw' (hb:Below wr.heap.size wr w')=>(hb.cell (aG hB3 (by have:=HW3.o;omega))).trans x2;have U2:=λw' (hb:Below wr.heap.size wr w')=>(hb.cell (aG Ma (by have:=HW3.o;omega))).trans u2;have X3:=λw' (hb:Below wr.heap.size wr w')=>(hb.cell (aG hB3 (by have:=HW3.o;omega))).trans x3;have U3:=λw' (hb:Below wr.heap.size wr w')=>(hb.cell (aG Ma (by have:=HW3.o;omega))).trans u3;have X4:=λw' (hb:Below wr.heap.size wr w')=>(hb.cell (aG hB3 (by have:=HW3.o;omega))).trans x4;have U4:=λw' (hb:Below wr.heap.size wr w')=>(hb.cell (aG Ma (by have:=HW3.o;omega))).trans u4;have X5:=λw' (hb:Below wr.heap.size wr w')=>(hb.cell (aG hB3 (by have:=HW3.o;omega))).trans x5;have U5:=λw' (hb:Below wr.heap.size wr w')=>(hb.cell (aG Ma (by have:=HW3.o;omega))).trans u5;clear x0 x1 x2 x3 x4 x5 u0 u1 u2 u3 u4 u5 p1 q1;refine dI (by kernel_rfl) rfl ?_;refine dw 0 11 [] [[],[0],[],[0,1,2],[0,1,2,3],[],[5],[],[5,6,7],[5,6,7,8],[0,1,2,3,4,5,6,7,8,9]] [[],[],[],[],[],[],[],[],[],[],[]] (λ_ w'=>Below wr.heap.size wr w') (λw w'=>Below w.heap.size w w') [62,63,64,65,66,67,68,69,70,71,72] rfl rfl (by rfl) (by kernel_rfl) (by kernel_rfl) (by kernel_rfl) (by kernel_rfl) (by kernel_rfl) (by rfl) (λ_=>ak _ _) (by rfl) (below_drewN (ak _ _) 1) ?_;simp only[iW,mU]
     iterate 11
      apply bS.step
      case bg=>intro c A w' hok hC hO hD;have e6:=hO 6 (by rfl);have e8:=hO 8 (by rfl);have e7:=hO 7 (by rfl);simp[Act.eval]at e6 e8 e7;simp[Act.eval]at hD;simp[go_sem,gd,Oper.wp,hD,e6,e8,e7,Y,hC,k0,k1,X0,X1,X2,X3,X4,X5,Z,U0,U1,U2,U3,U4,U5];exact aR.mk (ak _ _) hC (bZ.mk _ _)
      try simp only[dR]
     try simp only[dR]
     refine bS.done ?_;intro wz dF
     try simp only[iW]
     iterate 11 refine nX ?_
     refine dP.nil ?_;go_simp;refine eO rfl ?_;go_simp;have jH:aj (Below w3.heap.size wr wz):=ah (dF.mono JV.o.size);clear Y Z dF X0 X1 X2 X3 X4 X5 U0 U1 U2 U3 U4 U5;go_wp2_with fail;go_roundw
     case rel=>exact⟨j+1,S,by go_num,by omega,HR3.o.below (jH.o.mono (by have:=HW3.o;omega)),HR4.o.below (jH.o.mono (by have:=HW3.o;omega)),JV.o.trans jH.o⟩
     case measure=>simp[intOf];omega
theorem Md.kM.mono {w:World} {B B':Nat} (h:B<=B'): ∀ {l:List yS} {ao:Option Addr} {k:Nat},kM w B l ao k->kM w B' l ao k
 | [],_,_,_=>trivial
 |_::_,_,_,⟨⟨b,off,fQ,eU,e,hB,x0,x1,hl,hf⟩,hr⟩=>⟨⟨b,off,fQ,eU,e,aG hB h,x0,x1,hl,hf.mono h⟩,kM.mono h hr⟩
theorem Md.kM.same {w w':World} {l:List yS} {ao:Option Addr} {k:Nat} (h:kM w w.heap.size l ao k) (hb:Below w.heap.size w w'):kM w' w'.heap.size l ao k:=(kM.below hb h).mono hb.size
theorem SX (W:Wo): ∀(l:List Th) (n:Nat),(sQ W l n).length=l.length
 | [],_=>rfl
 |t::r,n=>by rw[sQ,aA,aA,SX W r]
namespace Md
theorem L9: ∀l:bJ,xw l=iV l
 | .nil=>rfl
 | .cons _ _ _ k r=>by rw[xw,iV,L9 k,L9 r]
theorem ap7 (h:dD):wM h=jr h:=by unfold wM jr;rw[L9,L9]
def gW:Nat->Nat
 |0=>0
 |n+1=>100+20*gW n
theorem I4: ∀(a b:aY),(a.app b).len=a.len+b.len
 | .nil,b=>by show b.len=0+b.len;omega
 | .cons h x y r,b=>by show(r.app b).len+1=(r.len+1)+b.len;rw[I4 r b];omega
theorem Ox (p:Pr) (j:Nat) (tn fU:ByteArray): ∀(l ar:aY) (f g:List (List UInt8)),(gK p j tn fU l ar f g).err=0->Dx l->oV l<=l.len*gW (6 -ar.len)
 | .nil,_,_,_,_,_=>bT _
 | .cons h b e r,ar,f,g,h0,hs=>by
   obtain⟨s1,⟨s2,s3⟩,⟨s4,s5⟩,s6⟩:=hs;rw[gK]at h0;split at h0
   ·exact absurd (show(2:Int)=0 from h0) (by decide)
   ·rename_i h6;split at h0
    ·rename_i h1;rw[show jk p j tn fU ar (mem f) (mem g) h=0 from h0]at h1;exact absurd h1 (by decide)
    ·split at h0
     ·rename_i h2;rw[h0]at h2;exact absurd h2 (by decide)
     ·rename_i h2;split at h0
      ·rename_i h3;rw[h0]at h3;exact absurd h3 (by decide)
      ·rename_i h3;have ib:=Ox p j tn fU b _ _ _ (by simpa using h2) s3;have ie:=Ox p j tn fU e _ _ _ (by simpa using h3) s5;have ir:=Ox p j tn fU r _ _ _ h0 s6;have h6':ar.len<=5:=(by simp at h6;omega);have el:(ar.app (.cons h b e .nil)).len=ar.len+1:=(by rw[I4];rfl);rw[el]at ib ie;obtain⟨q,hq⟩: ∃q,q=gW (6 -(ar.len+1)):=⟨_,rfl⟩;have hg:gW (6 -ar.len)=100+20*q:=(by rw[hq,show 6 -ar.len=(6 -(ar.len+1))+1 by omega,gW]);rw[<- hq]at ib ie;rw[hg]at ir⊢;have b1:b.len*q<=10*q:=Nat.mul_le_mul_right _ s2;have e1:e.len*q<=10*q:=Nat.mul_le_mul_right _ s4;have hl:(aY.cons h b e r).len=r.len+1:=rfl;rw[oV,hl,Nat.add_mul,Nat.one_mul,<- ap7];omega
theorem Uf (p:Pr) (fU:ByteArray): ∀(l:List Th) (j:Nat) (f g:List (List UInt8)),(iP p fU l j f g).err=0->(∀t∈l,t.body.len<=20∧Dx t.body)->EF l<=l.length*(20*gW 6)
 | [],_,_,_,_,_=>bT _
 |t::r,j,f,g,h0,hs=>by
  rw[iP]at h0;split at h0
  ·rename_i h2;rw[h0]at h2;exact absurd h2 (by decide)
  ·rename_i h2;have h1:=Ox p j t.nm fU t.body .nil f g (by simpa using h2) (hs t aV).2;have h3:=Uf p fU r _ _ _ h0 (λx hx=>hs x (aX _ hx));have h4:t.body.len*gW 6<=20*gW 6:=Nat.mul_le_mul_right _ (hs t aV).1;have h5:oV t.body<=t.body.len*gW 6:=h1;rw[EF,aA,Nat.add_mul,Nat.one_mul];omega
theorem Oo: ∀l:aY,Dx l->l.Ev (λh=>jr h<=300000)
 | .nil,_=>trivial
 | .cons h b e r,hs=>⟨by have:=hs.1;rw[ap7]at this;omega,Oo b hs.2.1.2,Oo e hs.2.2.1.2,Oo r hs.2.2.2⟩
theorem aH0 {p:Pr} (h0:(jD p).1=0) (hs: ∀t∈p.ts,t.body.len<=20∧Dx t.body):Fit p:=by
 have hz:=uM h0;refine⟨?_,λt ht=>Oo _ (hs t ht).2⟩;have h1:=Uf p (jV p) p.ts 0 [] [] hz.2.2.2.2.2 hs;have h2:p.ts.length<=4:=by have:=hz.2.2.1;omega
 have h3:p.ts.length*(20*gW 6)<=4*(20*gW 6):=Nat.mul_le_mul_right _ h2;have h4:4*(20*gW 6)<=100000000000:=by decide
 omega
end Md
end Go.Proofs.YtmildapbbcbbhaaGreatDoor
