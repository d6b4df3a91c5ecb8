/- Contract of the reference's SameWorld at equal objects. And what hangs on it. -/
import Derived.Test.YtkmllehjemjgpaaGreatDoorGMX
import Derived.Test.YtkmllehjemjgpaaGreatDoorGCA
import Derived.Test.YtkmllehjemjgpaaGreatDoorGCB
import Derived.Test.YtkmllehjemjgpaaGreatDoorGCE
set_option linter.unusedSimpArgs false
set_option linter.unusedVariables false
set_option maxHeartbeats 40000000
set_option maxRecDepth 1000000
namespace Go.Proofs.YtkmllehjemjgpaaGreatDoor
open Go.RowKit
open Md
theorem E5 (W:Wo) (s t:jf) (w:World) (h1:fJ w w.heap.size W s) (h2:fJ w w.heap.size W t):
 Calls Tryz.prog 7 #[nD W s,nD W t] w λe w'=>e= .returned (.bool true)∧Below w.heap.size w w':=by
 have H1:=ah h1;have H2:=ah h2;have hl0:=h1.lc;have hl1:=h1.ll;have hl2:=h1.ln;have hl3:=h1.lf;have hl4:=h1.lt;have hl5:=h1.lS;unfold maxLen at hl0 hl1 hl2 hl3 hl4 hl5;clear h1 h2;unfold nD;go_enter Tryz.func7,Tryz.ntmps7;go_upto_region 1 with fail;generalize hW:World.alloc (World.alloc w _) _=w1;obtain⟨bp,hbp⟩: ∃n,w.heap.size=n:=⟨_,rfl⟩;have HB1:aj (Below w.heap.size w w1):=ah (by rw[<- hW];exact(ak _ _).alloc (by simp) _);have kE:aj (w1.heap.size=bp+2):=ah (by rw[<- hW,<- hbp];simp);have uj:aj (w1.heap[bp]? =some (.cells #[.slice s.aC W.cs.length s.cC,.slice s.aL W.ls.length s.cL,.slice s.aN W.ns.length s.cN,.slice s.aF W.fs.length s.cF,.slice s.aT W.ts.length s.cT,.slice s.aS W.ss.length s.cS] 32 (0,0))):=ah (by rw[<- hW,<- hbp,heap_alloc_old _ _ (by simp)];exact heap_alloc_new _ _);have qh:aj (w1.heap[bp+1]? =some (.cells #[.slice t.aC W.cs.length t.cC,.slice t.aL W.ls.length t.cL,.slice t.aN W.ns.length t.cN,.slice t.aF W.fs.length t.cF,.slice t.aT W.ts.length t.cT,.slice t.aS W.ss.length t.cS] 32 (0,0))):=ah (by have:=heap_alloc_new (w.alloc (.cells #[.slice s.aC W.cs.length s.cC,.slice s.aL W.ls.length s.cL,.slice s.aN W.ns.length s.cN,.slice s.aF W.fs.length s.cF,.slice s.aT W.ts.length s.cT,.slice s.aS W.ss.length s.cS] 32)) (.cells #[.slice t.aC W.cs.length t.cC,.slice t.aL W.ls.length t.cL,.slice t.aN W.ns.length t.cN,.slice t.aF W.fs.length t.cF,.slice t.aT W.ts.length t.cT,.slice t.aS W.ss.length t.cS] 32);rw[<- hW,<- hbp];simpa using this);have pq:=ah hbp;have G1:aj (fJ w1 bp W s):=ah (by rw[<- hbp];exact H1.o.below HB1.o);have G2:aj (fJ w1 bp W t):=ah (by rw[<- hbp];exact H2.o.below HB1.o);rw[hbp];clear hW hbp;have y0:=au (j:=0) uj.o rfl;have y1:=au (j:=1) uj.o rfl;have y2:=au (j:=2) uj.o rfl;have y3:=au (j:=3) uj.o rfl;have y4:=au (j:=4) uj.o rfl;have y5:=au (j:=5) uj.o rfl;have z0:=au (j:=0) qh.o rfl;have z1:=au (j:=1) qh.o rfl;have z2:=au (j:=2) qh.o rfl;have z3:=au (j:=3) qh.o rfl;have z4:=au (j:=4) qh.o rfl;have z5:=au (j:=5) qh.o rfl;go_wp2_with fail;go_loopw [5] (λi wr=> ∃(k:Nat) (R:List rQ),i= .int .i64 k∧k+R.length=W.cs.length∧dF jo 5 wr bp R s.aC k∧dF jo 5 wr bp R t.aC k∧Below (bp+2) w1 wr) (λi _=>W.cs.length -(intOf i).toNat)
 case atStart=>exact⟨0,W.cs,rfl,by simp,G1.o.cs,G2.o.cs,Below.refl _ _⟩
 case round=>
  obtain⟨k,R,rfl,hlen,hr1,hr2,hbel⟩:=hrel;have H9:=ah hbel;clear hbel y0 y1 y2 y3 y4 y5 z0 z1 z2 z3 z4 z5;have rM:=ah ((H9.o.block bp (by omega)).trans uj.o);have rO:=ah ((H9.o.block (bp+1) (by omega)).trans qh.o);have y0:=au (j:=0) rM.o rfl;have z0:=au (j:=0) rO.o rfl;have y1:=au (j:=1) rM.o rfl;have z1:=au (j:=1) rO.o rfl;cases R with
  |cons x R=>
   obtain⟨⟨b,off,hao,hB,hcs⟩,hrest⟩:=hr1;obtain⟨⟨b',off',hao',hB',hcs'⟩,hrest'⟩:=hr2;have x0:=hcs 0 _ rfl;have u0:=hcs' 0 _ rfl;have x1:=hcs 1 _ rfl;have u1:=hcs' 1 _ rfl;have x2:=hcs 2 _ rfl;have u2:=hcs' 2 _ rfl;have x3:=hcs 3 _ rfl;have u3:=hcs' 3 _ rfl;have x4:=hcs 4 _ rfl;have u4:=hcs' 4 _ rfl
   try simp only[Nat.add_zero]at x0 u0
   clear hcs hcs';rw[hao]at y0;rw[hao']at z0;have xG:=ah hao;have JU:=ah hao';have HR1:=ah hrest;have HR2:=ah hrest';clear hao hao' hrest hrest';simp only[List.length_cons]at hlen;have k0:(0:Int)<=(k:Int):=by omega
   have k1:(k:Int)<(W.cs.length:Int):=by omega
   have hkl:k<W.cs.length:=by omega
   have fP:aj (bp+2<=wr.heap.size):=ah (by have h1:=H9.o.size;have h2:=kE.o;omega);go_wp2_with fail;have Y:=fM (by have:=fP.o;show bp<_;omega) y0;have Z:=fM (by have:=fP.o;show bp+1<_;omega) z0;have X0:=λw' (hb:Below wr.heap.size wr w')=>(hb.cell (Nat.lt_of_lt_of_le hB (by have:=fP.o;omega))).trans x0;have U0:=λw' (hb:Below wr.heap.size wr w')=>(hb.cell (Nat.lt_of_lt_of_le hB' (by have:=fP.o;omega))).trans u0;have X1:=λw' (hb:Below wr.heap.size wr w')=>(hb.cell (Nat.lt_of_lt_of_le hB (by have:=fP.o;omega))).trans x1;have U1:=λw' (hb:Below wr.heap.size wr w')=>(hb.cell (Nat.lt_of_lt_of_le hB' (by have:=fP.o;omega))).trans u1;have X2:=λw' (hb:Below wr.heap.size wr w')=>(hb.cell (Nat.lt_of_lt_of_le hB (by have:=fP.o;omega))).trans x2;have U2:=λw' (hb:Below wr.heap.size wr w')=>(hb.cell (Nat.lt_of_lt_of_le hB' (by have:=fP.o;omega))).trans u2;have X3:=λw' (hb:Below wr.heap.size wr w')=>(hb.cell (Nat.lt_of_lt_of_le hB (by have:=fP.o;omega))).trans x3;have U3:=λw' (hb:Below wr.heap.size wr w')=>(hb.cell (Nat.lt_of_lt_of_le hB' (by have:=fP.o;omega))).trans u3;have X4:=λw' (hb:Below wr.heap.size wr w')=>(hb.cell (Nat.lt_of_lt_of_le hB (by have:=fP.o;omega))).trans x4;have U4:=λw' (hb:Below wr.heap.size wr w')=>(hb.cell (Nat.lt_of_lt_of_le hB' (by have:=fP.o;omega))).trans u4;clear x0 u0 x1 u1 x2 u2 x3 u3 x4 u4 y0 z0 y1 z1;refine bf (by kernel_rfl) rfl ?_;refine aX 0 11 [] [[],[0],[],[0,1,2],[0,1,2,3],[],[5],[],[5,6,7],[5,6,7,8],[0,1,2,3,4,5,6,7,8,9]] [[],[],[],[],[],[],[],[],[],[],[]] (λ_ w'=>Below wr.heap.size wr w') (λw w'=>Below w.heap.size w w') [70,71,72,73,74,75,76,77,78,79,80] rfl rfl (by rfl) (by kernel_rfl) (by kernel_rfl) (by kernel_rfl) (by kernel_rfl) (by kernel_rfl) (by rfl) (λ_=>Below.refl _ _) (by rfl) (below_drewN (Below.refl _ _) 1) ?_;simp only[eP,jq]
   iterate 11
    apply aR.step
    case aJ=>intro c A w' hok hC hO hD;have e2:=hO 2 (by rfl);have e5:=hO 5 (by rfl);have e3:=hO 3 (by rfl);simp[Act.eval]at e2 e5 e3;simp[Act.eval]at hD;simp[go_sem,gd,Oper.wp,hD,e2,e5,e3,Y,hC,k0,k1,X0,X1,X2,X3,X4,Z,U0,U1,U2,U3,U4];exact aG.mk (Below.refl _ _) hC (aW.mk _ _)
    try simp only[bP]
   try simp only[bP]
   refine aR.done ?_;intro wz bH
   try simp only[eP]
   iterate 11 refine jv ?_
   refine dA.nil ?_;go_simp;refine bT rfl ?_;go_simp;have gX:aj (Below (bp+2) wr wz):=ah (bH.mono fP.o);clear Y Z bH X0 U0 X1 U1 X2 U2 X3 U3 X4 U4;go_wp2_with fail;go_roundw
   case rel=>exact⟨k+1,R,by go_num,by omega,HR1.o.below (gX.o.mono (by omega)),HR2.o.below (gX.o.mono (by omega)),H9.o.trans gX.o⟩
   case measure=>simp[intOf];omega
  |nil=>
   obtain rfl:k=W.cs.length:=by simpa using hlen
   clear hr1 hr2;go_wp2_with fail;clear y0 z0;go_loopw [6] (λi wr=> ∃(k:Nat) (R:List sJ),i= .int .i64 k∧k+R.length=W.ls.length∧dF ku 2 wr bp R s.aL k∧dF ku 2 wr bp R t.aL k∧Below (bp+2) w1 wr) (λi _=>W.ls.length -(intOf i).toNat)
   case atStart=>exact⟨0,W.ls,rfl,by simp,(G1.o.below (H9.o.mono (by omega))).ls,(G2.o.below (H9.o.mono (by omega))).ls,H9.o⟩
   case round=>
    obtain⟨k,R,rfl,hlen,hr1,hr2,hbel⟩:=hrel;have He:=ah hbel;clear hbel y1 z1;have rM:=ah ((He.o.block bp (by omega)).trans uj.o);have rO:=ah ((He.o.block (bp+1) (by omega)).trans qh.o);have y1:=au (j:=1) rM.o rfl;have z1:=au (j:=1) rO.o rfl;have y2:=au (j:=2) rM.o rfl;have z2:=au (j:=2) rO.o rfl;cases R with
    |cons x R=>
     obtain⟨⟨b,off,hao,hB,hcs⟩,hrest⟩:=hr1;obtain⟨⟨b',off',hao',hB',hcs'⟩,hrest'⟩:=hr2;have x0:=hcs 0 _ rfl;have u0:=hcs' 0 _ rfl;have x1:=hcs 1 _ rfl;have u1:=hcs' 1 _ rfl
     try simp only[Nat.add_zero]at x0 u0
     clear hcs hcs';rw[hao]at y1;rw[hao']at z1;have xG:=ah hao;have JU:=ah hao';have HR1:=ah hrest;have HR2:=ah hrest';clear hao hao' hrest hrest';simp only[List.length_cons]at hlen;have k0:(0:Int)<=(k:Int):=(by omega);have k1:(k:Int)<(W.ls.length:Int):=(by omega);have hkl:k<W.ls.length:=(by omega);have fP:aj (bp+2<=wr.heap.size):=ah (by have h1:=He.o.size;have h2:=kE.o;omega);go_wp2_with fail;have Y:=fM (by have:=fP.o;show bp<_;omega) y1;have Z:=fM (by have:=fP.o;show bp+1<_;omega) z1;have X0:=λw' (hb:Below wr.heap.size wr w')=>(hb.cell (Nat.lt_of_lt_of_le hB (by have:=fP.o;omega))).trans x0;have U0:=λw' (hb:Below wr.heap.size wr w')=>(hb.cell (Nat.lt_of_lt_of_le hB' (by have:=fP.o;omega))).trans u0;have X1:=λw' (hb:Below wr.heap.size wr w')=>(hb.cell (Nat.lt_of_lt_of_le hB (by have:=fP.o;omega))).trans x1;have U1:=λw' (hb:Below wr.heap.size wr w')=>(hb.cell (Nat.lt_of_lt_of_le hB' (by have:=fP.o;omega))).trans u1;clear x0 u0 x1 u1 y1 z1 y2 z2;refine bf (by kernel_rfl) rfl ?_;refine aX 0 11 [] [[],[0],[],[0,1,2],[0,1,2,3],[],[5],[],[5,6,7],[5,6,7,8],[0,1,2,3,4,5,6,7,8,9]] [[],[],[],[],[],[],[],[],[],[],[]] (λ_ w'=>Below wr.heap.size wr w') (λw w'=>Below w.heap.size w w') [88,89,90,91,92,93,94,95,96,97,98] rfl rfl (by rfl) (by kernel_rfl) (by kernel_rfl) (by kernel_rfl) (by kernel_rfl) (by kernel_rfl) (by rfl) (λ_=>Below.refl _ _) (by rfl) (below_drewN (Below.refl _ _) 1) ?_;simp only[eP,jq]
     iterate 11
      apply aR.step
      case aJ=>intro c A w' hok hC hO hD;have e2:=hO 2 (by rfl);have e6:=hO 6 (by rfl);have e3:=hO 3 (by rfl);simp[Act.eval]at e2 e6 e3;simp[Act.eval]at hD;simp[go_sem,gd,Oper.wp,hD,e2,e6,e3,Y,hC,k0,k1,X0,X1,Z,U0,U1];exact aG.mk (Below.refl _ _) hC (aW.mk _ _)
      try simp only[bP]
     try simp only[bP]
     refine aR.done ?_;intro wz bH
     try simp only[eP]
     iterate 11 refine jv ?_
     refine dA.nil ?_;go_simp;refine bT rfl ?_;go_simp;have gX:aj (Below (bp+2) wr wz):=ah (bH.mono fP.o);clear Y Z bH X0 U0 X1 U1;go_wp2_with fail;go_roundw
     case rel=>exact⟨k+1,R,by go_num,by omega,HR1.o.below (gX.o.mono (by omega)),HR2.o.below (gX.o.mono (by omega)),He.o.trans gX.o⟩
     case measure=>simp[intOf];omega
    |nil=>
     obtain rfl:k=W.ls.length:=(by simpa using hlen);clear hr1 hr2;go_wp2_with fail;clear y1 z1;go_loopw [7] (λi wr=> ∃(k:Nat) (R:List AZ),i= .int .i64 k∧k+R.length=W.ns.length∧dF rE 2 wr bp R s.aN k∧dF rE 2 wr bp R t.aN k∧Below (bp+2) w1 wr) (λi _=>W.ns.length -(intOf i).toNat)
     case atStart=>exact⟨0,W.ns,rfl,by simp,(G1.o.below (He.o.mono (by omega))).ns,(G2.o.below (He.o.mono (by omega))).ns,He.o⟩
     case round=>
      obtain⟨k,R,rfl,hlen,hr1,hr2,hbel⟩:=hrel;have Hf:=ah hbel;clear hbel y2 z2;have rM:=ah ((Hf.o.block bp (by omega)).trans uj.o);have rO:=ah ((Hf.o.block (bp+1) (by omega)).trans qh.o);have y2:=au (j:=2) rM.o rfl;have z2:=au (j:=2) rO.o rfl;have y3:=au (j:=3) rM.o rfl;have z3:=au (j:=3) rO.o rfl;cases R with
      |cons x R=>
       obtain⟨⟨b,off,hao,hB,hcs⟩,hrest⟩:=hr1;obtain⟨⟨b',off',hao',hB',hcs'⟩,hrest'⟩:=hr2;have x0:=hcs 0 _ rfl;have u0:=hcs' 0 _ rfl;have x1:=hcs 1 _ rfl;have u1:=hcs' 1 _ rfl
       try simp only[Nat.add_zero]at x0 u0
       clear hcs hcs';rw[hao]at y2;rw[hao']at z2;have xG:=ah hao;have JU:=ah hao';have HR1:=ah hrest;have HR2:=ah hrest';clear hao hao' hrest hrest';simp only[List.length_cons]at hlen;have k0:(0:Int)<=(k:Int):=(by omega);have k1:(k:Int)<(W.ns.length:Int):=(by omega);have hkl:k<W.ns.length:=(by omega);have fP:aj (bp+2<=wr.heap.size):=ah (by have h1:=Hf.o.size;have h2:=kE.o;omega);go_wp2_with fail;have Y:=fM (by have:=fP.o;show bp<_;omega) y2;have Z:=fM (by have:=fP.o;show bp+1<_;omega) z2;have X0:=λw' (hb:Below wr.heap.size wr w')=>(hb.cell (Nat.lt_of_lt_of_le hB (by have:=fP.o;omega))).trans x0;have U0:=λw' (hb:Below wr.heap.size wr w')=>(hb.cell (Nat.lt_of_lt_of_le hB' (by have:=fP.o;omega))).trans u0;have X1:=λw' (hb:Below wr.heap.size wr w')=>(hb.cell (Nat.lt_of_lt_of_le hB (by have:=fP.o;omega))).trans x1;have U1:=λw' (hb:Below wr.heap.size wr w')=>(hb.cell (Nat.lt_of_lt_of_le hB' (by have:=fP.o;omega))).trans u1;clear x0 u0 x1 u1 y2 z2 y3 z3;refine bf (by kernel_rfl) rfl ?_;refine aX 0 11 [] [[],[0],[],[0,1,2],[0,1,2,3],[],[5],[],[5,6,7],[5,6,7,8],[0,1,2,3,4,5,6,7,8,9]] [[],[],[],[],[],[],[],[],[],[],[]] (λ_ w'=>Below wr.heap.size wr w') (λw w'=>Below w.heap.size w w') [106,107,108,109,110,111,112,113,114,115,116] rfl rfl (by rfl) (by kernel_rfl) (by kernel_rfl) (by kernel_rfl) (by kernel_rfl) (by kernel_rfl) (by rfl) (λ_=>Below.refl _ _) (by rfl) (below_drewN (Below.refl _ _) 1) ?_;simp only[eP,jq]
       iterate 11
        apply aR.step
        case aJ=>intro c A w' hok hC hO hD;have e2:=hO 2 (by rfl);have e7:=hO 7 (by rfl);have e3:=hO 3 (by rfl);simp[Act.eval]at e2 e7 e3;simp[Act.eval]at hD;simp[go_sem,gd,Oper.wp,hD,e2,e7,e3,Y,hC,k0,k1,X0,X1,Z,U0,U1];exact aG.mk (Below.refl _ _) hC (aW.mk _ _)
        try simp only[bP]
       try simp only[bP]
       refine aR.done ?_;intro wz bH
       try simp only[eP]
       iterate 11 refine jv ?_
       refine dA.nil ?_;go_simp;refine bT rfl ?_;go_simp;have gX:aj (Below (bp+2) wr wz):=ah (bH.mono fP.o);clear Y Z bH X0 U0 X1 U1;go_wp2_with fail;go_roundw
       case rel=>exact⟨k+1,R,by go_num,by omega,HR1.o.below (gX.o.mono (by omega)),HR2.o.below (gX.o.mono (by omega)),Hf.o.trans gX.o⟩
       case measure=>simp[intOf];omega
      |nil=>
       obtain rfl:k=W.ns.length:=(by simpa using hlen);clear hr1 hr2;go_wp2_with fail;clear y2 z2;go_loopw [8] (λi wr=> ∃(k:Nat) (R:List ByteArray),i= .int .i64 k∧k+R.length=W.fs.length∧eD wr bp R s.aF k∧eD wr bp R t.aF k∧Below (bp+2) w1 wr) (λi _=>W.fs.length -(intOf i).toNat)
       case atStart=>exact⟨0,W.fs,rfl,by simp,(G1.o.below (Hf.o.mono (by omega))).fs,(G2.o.below (Hf.o.mono (by omega))).fs,Hf.o⟩
       case round=>
        obtain⟨k,R,rfl,hlen,hr1,hr2,hbel⟩:=hrel;have Hg:=ah hbel;clear hbel y3 z3;have rM:=ah ((Hg.o.block bp (by omega)).trans uj.o);have rO:=ah ((Hg.o.block (bp+1) (by omega)).trans qh.o);have y3:=au (j:=3) rM.o rfl;have z3:=au (j:=3) rO.o rfl;have y4:=au (j:=4) rM.o rfl;have z4:=au (j:=4) rO.o rfl;cases R with
        |cons x R=>
         obtain⟨⟨b,off,hao,hB,x0,-⟩,hrest⟩:=hr1;obtain⟨⟨b',off',hao',hB',u0,-⟩,hrest'⟩:=hr2;rw[hao]at y3;rw[hao']at z3;have xG:=ah hao;have JU:=ah hao';have HR1:=ah hrest;have HR2:=ah hrest';clear hao hao' hrest hrest';simp only[List.length_cons]at hlen;have k0:(0:Int)<=(k:Int):=(by omega);have k1:(k:Int)<(W.fs.length:Int):=(by omega);have hkl:k<W.fs.length:=(by omega);have fP:aj (bp+2<=wr.heap.size):=ah (by have h1:=Hg.o.size;have h2:=kE.o;omega);go_wp2_with fail;have Y:=fM (by have:=fP.o;show bp<_;omega) y3;have Z:=fM (by have:=fP.o;show bp+1<_;omega) z3;have X0:=λw' (hb:Below wr.heap.size wr w')=>(hb.cell (Nat.lt_of_lt_of_le hB (by have:=fP.o;omega))).trans x0;have U0:=λw' (hb:Below wr.heap.size wr w')=>(hb.cell (Nat.lt_of_lt_of_le hB' (by have:=fP.o;omega))).trans u0;clear x0 u0 y3 z3 y4 z4;refine bf (by kernel_rfl) rfl ?_;refine aX 0 11 [] [[],[0],[],[0,1,2],[0,1,2,3],[],[5],[],[5,6,7],[5,6,7,8],[0,1,2,3,4,5,6,7,8,9]] [[],[],[],[],[],[],[],[],[],[],[]] (λ_ w'=>Below wr.heap.size wr w') (λw w'=>Below w.heap.size w w') [124,125,126,127,128,129,130,131,132,133,134] rfl rfl (by rfl) (by kernel_rfl) (by kernel_rfl) (by kernel_rfl) (by kernel_rfl) (by kernel_rfl) (by rfl) (λ_=>Below.refl _ _) (by rfl) (below_drewN (Below.refl _ _) 1) ?_;simp only[eP,jq]
         iterate 11
          apply aR.step
          case aJ=>intro c A w' hok hC hO hD;have e2:=hO 2 (by rfl);have e8:=hO 8 (by rfl);have e3:=hO 3 (by rfl);simp[Act.eval]at e2 e8 e3;simp[Act.eval]at hD;simp[go_sem,gd,Oper.wp,hD,e2,e8,e3,Y,hC,k0,k1,X0,Z,U0];exact aG.mk (Below.refl _ _) hC (aW.mk _ _)
          try simp only[bP]
         try simp only[bP]
         refine aR.done ?_;intro wz bH
         try simp only[eP]
         iterate 11 refine jv ?_
         refine dA.nil ?_;go_simp;refine bT rfl ?_;go_simp;have gX:aj (Below (bp+2) wr wz):=ah (bH.mono fP.o);clear Y Z bH X0 U0;go_wp2_with fail;go_roundw
         case rel=>exact⟨k+1,R,by go_num,by omega,HR1.o.below (gX.o.mono (by omega)),HR2.o.below (gX.o.mono (by omega)),Hg.o.trans gX.o⟩
         case measure=>simp[intOf];omega
        |nil=>
         obtain rfl:k=W.fs.length:=(by simpa using hlen);clear hr1 hr2;go_wp2_with fail;clear y3 z3;go_loopw [9] (λi wr=> ∃(k:Nat) (R:List ByteArray),i= .int .i64 k∧k+R.length=W.ts.length∧eD wr bp R s.aT k∧eD wr bp R t.aT k∧Below (bp+2) w1 wr) (λi _=>W.ts.length -(intOf i).toNat)
         case atStart=>exact⟨0,W.ts,rfl,by simp,(G1.o.below (Hg.o.mono (by omega))).ts,(G2.o.below (Hg.o.mono (by omega))).ts,Hg.o⟩
         case round=>
          obtain⟨k,R,rfl,hlen,hr1,hr2,hbel⟩:=hrel;have zY:=ah hbel;clear hbel y4 z4;have rM:=ah ((zY.o.block bp (by omega)).trans uj.o);have rO:=ah ((zY.o.block (bp+1) (by omega)).trans qh.o);have y4:=au (j:=4) rM.o rfl;have z4:=au (j:=4) rO.o rfl;have y5:=au (j:=5) rM.o rfl;have z5:=au (j:=5) rO.o rfl;cases R with
          |cons x R=>
           obtain⟨⟨b,off,hao,hB,x0,-⟩,hrest⟩:=hr1;obtain⟨⟨b',off',hao',hB',u0,-⟩,hrest'⟩:=hr2;rw[hao]at y4;rw[hao']at z4;have xG:=ah hao;have JU:=ah hao';have HR1:=ah hrest;have HR2:=ah hrest';clear hao hao' hrest hrest';simp only[List.length_cons]at hlen;have k0:(0:Int)<=(k:Int):=(by omega);have k1:(k:Int)<(W.ts.length:Int):=(by omega);have hkl:k<W.ts.length:=(by omega);have fP:aj (bp+2<=wr.heap.size):=ah (by have h1:=zY.o.size;have h2:=kE.o;omega);go_wp2_with fail;have Y:=fM (by have:=fP.o;show bp<_;omega) y4;have Z:=fM (by have:=fP.o;show bp+1<_;omega) z4;have X0:=λw' (hb:Below wr.heap.size wr w')=>(hb.cell (Nat.lt_of_lt_of_le hB (by have:=fP.o;omega))).trans x0;have U0:=λw' (hb:Below wr.heap.size wr w')=>(hb.cell (Nat.lt_of_lt_of_le hB' (by have:=fP.o;omega))).trans u0;clear x0 u0 y4 z4 y5 z5;refine bf (by kernel_rfl) rfl ?_;refine aX 0 11 [] [[],[0],[],[0,1,2],[0,1,2,3],[],[5],[],[5,6,7],[5,6,7,8],[0,1,2,3,4,5,6,7,8,9]] [[],[],[],[],[],[],[],[],[],[],[]] (λ_ w'=>Below wr.heap.size wr w') (λw w'=>Below w.heap.size w w') [142,143,144,145,146,147,148,149,150,151,152] rfl rfl (by rfl) (by kernel_rfl) (by kernel_rfl) (by kernel_rfl) (by kernel_rfl) (by kernel_rfl) (by rfl) (λ_=>Below.refl _ _) (by rfl) (below_drewN (Below.refl _ _) 1) ?_;simp only[eP,jq]
           iterate 11
            apply aR.step
            case aJ=>intro c A w' hok hC hO hD;have e2:=hO 2 (by rfl);have e9:=hO 9 (by rfl);have e3:=hO 3 (by rfl);simp[Act.eval]at e2 e9 e3;simp[Act.eval]at hD;simp[go_sem,gd,Oper.wp,hD,e2,e9,e3,Y,hC,k0,k1,X0,Z,U0];exact aG.mk (Below.refl _ _) hC (aW.mk _ _)
            try simp only[bP]
           try simp only[bP]
           refine aR.done ?_;intro wz bH
           try simp only[eP]
           iterate 11 refine jv ?_
           refine dA.nil ?_;go_simp;refine bT rfl ?_;go_simp;have gX:aj (Below (bp+2) wr wz):=ah (bH.mono fP.o);clear Y Z bH X0 U0;go_wp2_with fail;go_roundw
           case rel=>exact⟨k+1,R,by go_num,by omega,HR1.o.below (gX.o.mono (by omega)),HR2.o.below (gX.o.mono (by omega)),zY.o.trans gX.o⟩
           case measure=>simp[intOf];omega
          |nil=>
           obtain rfl:k=W.ts.length:=(by simpa using hlen);clear hr1 hr2;go_wp2_with fail;clear y4 z4;go_loopw [10] (λi wr=> ∃(k:Nat) (R:List xM),i= .int .i64 k∧k+R.length=W.ss.length∧dF pR 3 wr bp R s.aS k∧dF pR 3 wr bp R t.aS k∧Below (bp+2) w1 wr) (λi _=>W.ss.length -(intOf i).toNat)
           case atStart=>exact⟨0,W.ss,rfl,by simp,(G1.o.below (zY.o.mono (by omega))).ss,(G2.o.below (zY.o.mono (by omega))).ss,zY.o⟩
           case round=>
            obtain⟨k,R,rfl,hlen,hr1,hr2,hbel⟩:=hrel;have Mr:=ah hbel;clear hbel y5 z5;have rM:=ah ((Mr.o.block bp (by omega)).trans uj.o);have rO:=ah ((Mr.o.block (bp+1) (by omega)).trans qh.o);have y5:=au (j:=5) rM.o rfl;have z5:=au (j:=5) rO.o rfl;cases R with
            |cons x R=>
             obtain⟨⟨b,off,hao,hB,hcs⟩,hrest⟩:=hr1;obtain⟨⟨b',off',hao',hB',hcs'⟩,hrest'⟩:=hr2;have x0:=hcs 0 _ rfl;have u0:=hcs' 0 _ rfl;have x1:=hcs 1 _ rfl;have u1:=hcs' 1 _ rfl;have x2:=hcs 2 _ rfl;have u2:=hcs' 2 _ rfl
             try simp only[Nat.add_zero]at x0 u0
             clear hcs hcs';rw[hao]at y5;rw[hao']at z5;have xG:=ah hao;have JU:=ah hao';have HR1:=ah hrest;have HR2:=ah hrest';clear hao hao' hrest hrest';simp only[List.length_cons]at hlen;have k0:(0:Int)<=(k:Int):=(by omega);have k1:(k:Int)<(W.ss.length:Int):=(by omega);have hkl:k<W.ss.length:=(by omega);have fP:aj (bp+2<=wr.heap.size):=ah (by have h1:=Mr.o.size;have h2:=kE.o;omega);go_wp2_with fail;have Y:=fM (by have:=fP.o;show bp<_;omega) y5;have Z:=fM (by have:=fP.o;show bp+1<_;omega) z5;have X0:=λw' (hb:Below wr.heap.size wr w')=>(hb.cell (Nat.lt_of_lt_of_le hB (by have:=fP.o;omega))).trans x0;have U0:=λw' (hb:Below wr.heap.size wr w')=>(hb.cell (Nat.lt_of_lt_of_le hB' (by have:=fP.o;omega))).trans u0;have X1:=λw' (hb:Below wr.heap.size wr w')=>(hb.cell (Nat.lt_of_lt_of_le hB (by have:=fP.o;omega))).trans x1;have U1:=λw' (hb:Below wr.heap.size wr w')=>(hb.cell (Nat.lt_of_lt_of_le hB' (by have:=fP.o;omega))).trans u1;have X2:=λw' (hb:Below wr.heap.size wr w')=>(hb.cell (Nat.lt_of_lt_of_le hB (by have:=fP.o;omega))).trans x2;have U2:=λw' (hb:Below wr.heap.size wr w')=>(hb.cell (Nat.lt_of_lt_of_le hB' (by have:=fP.o;omega))).trans u2;clear x0 u0 x1 u1 x2 u2 y5 z5;refine bf (by kernel_rfl) rfl ?_;refine aX 0 11 [] [[],[0],[],[0,1,2],[0,1,2,3],[],[5],[],[5,6,7],[5,6,7,8],[0,1,2,3,4,5,6,7,8,9]] [[],[],[],[],[],[],[],[],[],[],[]] (λ_ w'=>Below wr.heap.size wr w') (λw w'=>Below w.heap.size w w') [160,161,162,163,164,165,166,167,168,169,170] rfl rfl (by rfl) (by kernel_rfl) (by kernel_rfl) (by kernel_rfl) (by kernel_rfl) (by kernel_rfl) (by rfl) (λ_=>Below.refl _ _) (by rfl) (below_drewN (Below.refl _ _) 1) ?_;simp only[eP,jq]
             iterate 11
              apply aR.step
              case aJ=>intro c A w' hok hC hO hD;have e2:=hO 2 (by rfl);have e10:=hO 10 (by rfl);have e3:=hO 3 (by rfl);simp[Act.eval]at e2 e10 e3;simp[Act.eval]at hD;simp[go_sem,gd,Oper.wp,hD,e2,e10,e3,Y,hC,k0,k1,X0,X1,X2,Z,U0,U1,U2];exact aG.mk (Below.refl _ _) hC (aW.mk _ _)
              try simp only[bP]
             try simp only[bP]
             refine aR.done ?_;intro wz bH
             try simp only[eP]
             iterate 11 refine jv ?_
             refine dA.nil ?_;go_simp;refine bT rfl ?_;go_simp;have gX:aj (Below (bp+2) wr wz):=ah (bH.mono fP.o);clear Y Z bH X0 U0 X1 U1 X2 U2;go_wp2_with fail;go_roundw
             case rel=>exact⟨k+1,R,by go_num,by omega,HR1.o.below (gX.o.mono (by omega)),HR2.o.below (gX.o.mono (by omega)),Mr.o.trans gX.o⟩
             case measure=>simp[intOf];omega
            |nil=>obtain rfl:k=W.ss.length:=(by simpa using hlen);clear hr1 hr2;go_wp2_with fail;go_ret;exact⟨rfl,HB1.o.trans (Mr.o.mono (by have:=pq.o;omega))⟩
theorem Md.jM.below {w w':World} {B:Nat} (hb:Below B w w'): ∀ {l:List xO} {ao:Option Addr} {k:Nat},jM w B l ao k->jM w' B l ao k
 | [],_,_,_=>trivial
 |_::_,_,_,⟨⟨b,off,eu,dI,e,hB,x0,x1,hl,hf⟩,hr⟩=>⟨⟨b,off,eu,dI,e,hB,(hb.cell (p:=⟨b,_,none⟩) hB).trans x0,(hb.cell (p:=⟨b,_,none⟩) hB).trans x1,hl,hf.below hb⟩,jM.below hb hr⟩
def scZ:Array Value:= #[.int .i64 0,.slice none 0 0]
theorem FD:(Tryz.prog.info? 59).map (·.size)=some 2:=by kernel_rfl
theorem OM (W:Wo) (s t:jf) (l:List xO) (ao DX:Option Addr) (cap cap2:Nat) (w:World) (h1:fJ w w.heap.size W s) (h2:fJ w w.heap.size W t) (h3:jM w w.heap.size l ao 0) (h4:jM w w.heap.size l DX 0) (hl:l.length<=1000):
 Calls Tryz.prog 6 #[.agg #[.slice s.aC W.cs.length s.cC,.slice s.aL W.ls.length s.cL,.slice s.aN W.ns.length s.cN,.slice s.aF W.fs.length s.cF,.slice s.aT W.ts.length s.cT,.slice s.aS W.ss.length s.cS,.slice ao l.length cap],.agg #[.slice t.aC W.cs.length t.cC,.slice t.aL W.ls.length t.cL,.slice t.aN W.ns.length t.cN,.slice t.aF W.fs.length t.cF,.slice t.aT W.ts.length t.cT,.slice t.aS W.ss.length t.cS,.slice DX l.length cap2]] w λe w'=>e= .returned (.bool true)∧Below w.heap.size w w':=by
 have H1:=ah h1;have H2:=ah h2;have H3:=ah h3;have H4:=ah h4;clear h1 h2 h3 h4;go_enter Tryz.func6,Tryz.ntmps6;go_upto_region 1 with fail;generalize hW:World.alloc (World.alloc w _) _=w1;obtain⟨bp,hbp⟩: ∃n,w.heap.size=n:=⟨_,rfl⟩;have HB1:aj (Below w.heap.size w w1):=ah (by rw[<- hW];exact(ak _ _).alloc (by simp) _);have kE:aj (w1.heap.size=bp+2):=ah (by rw[<- hW,<- hbp];simp);have uj:aj (w1.heap[bp]? =some (.cells #[.slice s.aC W.cs.length s.cC,.slice s.aL W.ls.length s.cL,.slice s.aN W.ns.length s.cN,.slice s.aF W.fs.length s.cF,.slice s.aT W.ts.length s.cT,.slice s.aS W.ss.length s.cS,.slice ao l.length cap] 35 (0,0))):=ah (by rw[<- hW,<- hbp,heap_alloc_old _ _ (by simp)];exact heap_alloc_new _ _);have qh:aj (w1.heap[bp+1]? =some (.cells #[.slice t.aC W.cs.length t.cC,.slice t.aL W.ls.length t.cL,.slice t.aN W.ns.length t.cN,.slice t.aF W.fs.length t.cF,.slice t.aT W.ts.length t.cT,.slice t.aS W.ss.length t.cS,.slice DX l.length cap2] 35 (0,0))):=ah (by have:=heap_alloc_new (w.alloc (.cells #[.slice s.aC W.cs.length s.cC,.slice s.aL W.ls.length s.cL,.slice s.aN W.ns.length s.cN,.slice s.aF W.fs.length s.cF,.slice s.aT W.ts.length s.cT,.slice s.aS W.ss.length s.cS,.slice ao l.length cap] 35)) (.cells #[.slice t.aC W.cs.length t.cC,.slice t.aL W.ls.length t.cL,.slice t.aN W.ns.length t.cN,.slice t.aF W.fs.length t.cF,.slice t.aT W.ts.length t.cT,.slice t.aS W.ss.length t.cS,.slice DX l.length cap2] 35);rw[<- hW,<- hbp];simpa using this);have pq:=ah hbp;have G1:aj (fJ w1 w1.heap.size W s):=ah ((H1.o.below HB1.o).mono HB1.o.size);have G2:aj (fJ w1 w1.heap.size W t):=ah ((H2.o.below HB1.o).mono HB1.o.size);have G3:aj (jM w1 bp l ao 0):=ah (by rw[<- hbp];exact H3.o.below HB1.o);have G4:aj (jM w1 bp l DX 0):=ah (by rw[<- hbp];exact H4.o.below HB1.o);rw[hbp];clear hW hbp;have y0:=au (j:=0) uj.o rfl;have y1:=au (j:=1) uj.o rfl;have y2:=au (j:=2) uj.o rfl;have y3:=au (j:=3) uj.o rfl;have y4:=au (j:=4) uj.o rfl;have y5:=au (j:=5) uj.o rfl;have y6:=au (j:=6) uj.o rfl;have z0:=au (j:=0) qh.o rfl;have z1:=au (j:=1) qh.o rfl;have z2:=au (j:=2) qh.o rfl;have z3:=au (j:=3) qh.o rfl;have z4:=au (j:=4) qh.o rfl;have z5:=au (j:=5) qh.o rfl;have z6:=au (j:=6) qh.o rfl;simp only[List.getElem_toArray,List.getElem_cons_zero,List.getElem_cons_succ]at y0 y1 y2 y3 y4 y5 y6 z0 z1 z2 z3 z4 z5 z6;go_wp2_with fail;refine(E5 W s t w1 G1.o G2.o).mono ?_;rintro e w2 ⟨rfl,hb2⟩;have HB2:aj (Below (bp+2) w1 w2):=ah (hb2.mono (by rw[kE.o];exact Nat.le_refl _));clear hb2 y0 z0 y1 z1 y2 z2 y3 z3 y4 z4 y5 z5 y6 z6;have aQ7:=ah ((HB2.o.block bp (by omega)).trans uj.o);have aQ8:=ah ((HB2.o.block (bp+1) (by omega)).trans qh.o);have y6:=au (j:=6) aQ7.o rfl;have z6:=au (j:=6) aQ8.o rfl;simp only[List.getElem_toArray,List.getElem_cons_zero,List.getElem_cons_succ]at y6 z6;go_wp2_with fail;go_loopw [5,6,7,8] (λi _ _ _ wr=> ∃(k:Nat) (R:List xO),i= .int .i64 k∧k+R.length=l.length∧jM wr bp R ao k∧jM wr bp R DX k∧Below (bp+2) w1 wr) (λi _ _ _ _=>l.length -(intOf i).toNat)
 case atStart=>exact⟨0,l,rfl,by simp,G3.o.below (HB2.o.mono (by omega)),G4.o.below (HB2.o.mono (by omega)),HB2.o⟩
 case round=>
  obtain⟨k,R,rfl,hlen,hr1,hr2,hbel⟩:=hrel;have ji:=ah hbel;clear hbel y6 z6;have rM:=ah ((ji.o.block bp (by omega)).trans uj.o);have rO:=ah ((ji.o.block (bp+1) (by omega)).trans qh.o);have y6:=au (j:=6) rM.o rfl;have z6:=au (j:=6) rO.o rfl;simp only[List.getElem_toArray,List.getElem_cons_zero,List.getElem_cons_succ]at y6 z6;cases R with
  |nil=>
   obtain rfl:k=l.length:=by simpa using hlen
   clear hr1 hr2;go_wp2_with fail;go_ret;exact⟨rfl,HB1.o.trans (ji.o.mono (by have:=pq.o;omega))⟩
  |cons x R=>
   obtain⟨⟨b,off,eu,dI,hao,hB,x0,x1,hxl,hf⟩,hrest⟩:=hr1;obtain⟨⟨b',off',Xp,Zw,hao',hB',u0,u1,-,hf'⟩,hrest'⟩:=hr2;rw[hao]at y6;rw[hao']at z6;have yE:=ah hf;have xI:=ah hf';have xG:=ah hao;have JU:=ah hao';have HR1:=ah hrest;have HR2:=ah hrest';clear hao hao' hrest hrest' hf hf';simp only[List.length_cons]at hlen;have hb0:(0:Int)<=(k:Int):=by omega
   have hb1:(k:Int)<(l.length:Int):=by omega
   have hkl:k<l.length:=by omega
   have fP:aj (bp+2<=wr.heap.size):=ah (by have h1:=ji.o.size;have h2:=kE.o;omega);have hs0:bp<wr.heap.size:=by have:=fP.o;omega
   have hs1:bp+1<wr.heap.size:=by have:=fP.o;omega
   have hbl:b<wr.heap.size:=by omega
   have as7:b'<wr.heap.size:=by omega
   go_wp2_with fail;refine xB (qW wr 10 scZ #[.int .i64 x.regs,.slice eu x.is.length dI] #[.int .i64 x.regs,.slice Xp x.is.length Zw] 59) (λg _ g' _=>Gb.le g g') [31,32,33,34,35,36,37,38,39,40,6,7] ⟨none,none,false,false⟩ (by kernel_rfl) (by kernel_rfl) (λg _=>Gb.le_refl g) (by rfl) qW.start ?_;apply jh.step
   case aJ=>intro D A g w' hDn hC hO hD;have e2:=hO 2 (by rfl);simp[Act.eval]at e2;simp[gV,gN,dL,Act.eval,Region.binds]at hD;simp[go_sem,lg,Oper.wp,hD,e2];exact fu.mk (Gb.le_refl g) (hC.skip _) (gN.mk _ _ _)
   apply jh.step
   case aJ=>intro D A g w' hDn hC hO hD;have m0:=(hC.bl.cell (p:=⟨bp,6,none⟩) hs0).trans y6;simp[gV,gN,dL,Act.eval,Region.binds]at hD;simp[go_sem,lg,Oper.wp,hD,m0];exact fu.mk (Gb.le_refl g) (hC.skip _) (gN.mk _ _ _)
   apply jh.step
   case aJ=>intro D A g w' hDn hC hO hD;have e5:=hO 5 (by rfl);simp[Act.eval]at e5;simp[gV,gN,dL,Act.eval,Region.binds]at hD;simp[go_sem,lg,Oper.wp,hD,e5];exact fu.mk (Gb.le_refl g) (hC.skip _) (gN.mk _ _ _)
   apply jh.step
   case aJ=>intro D A g w' hDn hC hO hD;simp[gV,gN,dL,Act.eval,Region.binds]at hD;simp[go_sem,lg,Oper.wp,hD,hb0,hb1];exact fu.mk (Gb.le_refl g) (hC.skip _) (gN.mk _ _ _)
   apply jh.step
   case aJ=>intro D A g w' hDn hC hO hD;have z0:=(hC.bl.cell (p:=⟨b,off+k*2,none⟩) hbl).trans x0;have z1:=(hC.bl.cell (p:=⟨b,off+k*2+1,none⟩) hbl).trans x1;simp[gV,gN,dL,Act.eval,Region.binds]at hD;simp[go_sem,lg,Oper.wp,hD,z0,z1];exact fu.mk (Gb.le_refl g) (hC.skip _) (gN.mk _ _ _)
   apply jh.step
   case aJ=>intro D A g w' hDn hC hO hD;have e3:=hO 3 (by rfl);simp[Act.eval]at e3;simp[gV,gN,dL,Act.eval,Region.binds]at hD;simp[go_sem,lg,Oper.wp,hD,e3];exact fu.mk (Gb.le_refl g) (hC.skip _) (gN.mk _ _ _)
   apply jh.step
   case aJ=>intro D A g w' hDn hC hO hD;have m0:=(hC.bl.cell (p:=⟨bp+1,6,none⟩) hs1).trans z6;simp[gV,gN,dL,Act.eval,Region.binds]at hD;simp[go_sem,lg,Oper.wp,hD,m0];exact fu.mk (Gb.le_refl g) (hC.skip _) (gN.mk _ _ _)
   apply jh.step
   case aJ=>intro D A g w' hDn hC hO hD;have e5:=hO 5 (by rfl);simp[Act.eval]at e5;simp[gV,gN,dL,Act.eval,Region.binds]at hD;simp[go_sem,lg,Oper.wp,hD,e5];exact fu.mk (Gb.le_refl g) (hC.skip _) (gN.mk _ _ _)
   apply jh.step
   case aJ=>intro D A g w' hDn hC hO hD;simp[gV,gN,dL,Act.eval,Region.binds]at hD;simp[go_sem,lg,Oper.wp,hD,hb0,hb1];exact fu.mk (Gb.le_refl g) (hC.skip _) (gN.mk _ _ _)
   apply jh.step
   case aJ=>intro D A g w' hDn hC hO hD;have z0:=(hC.bl.cell (p:=⟨b',off'+k*2,none⟩) as7).trans u0;have z1:=(hC.bl.cell (p:=⟨b',off'+k*2+1,none⟩) as7).trans u1;simp[gV,gN,dL,Act.eval,Region.binds]at hD;simp[go_sem,lg,Oper.wp,hD,z0,z1];exact fu.mk (Gb.le_refl g) (hC.skip _) (gN.mk _ _ _)
   refine jh.some (λv g _=> ∃b,v= .pointer (some ⟨b,0,none⟩)∧g.o8=some b) (λv g w g' w' hle h=>by obtain⟨b,h1,h2⟩:=h;exact⟨b,h1,hle.1 b h2⟩) ?_ ?_
   ·intro D A g w' hDn hC hO hD;simp[go_sem,lg,Oper.wp];have hM:=hC.ZR hDn;exact fu.mk hM.1 hM.2 ⟨_,rfl,rfl⟩
   refine jh.some (λv g _=> ∃b,v= .pointer (some ⟨b,0,none⟩)∧g.o9=some b) (λv g w g' w' hle h=>by obtain⟨b,h1,h2⟩:=h;exact⟨b,h1,hle.2.1 b h2⟩) ?_ ?_
   ·intro D A g w' hDn hC hO hD;simp[go_sem,lg,Oper.wp];have hM:=hC.mk9 hDn;exact fu.mk hM.1 hM.2 ⟨_,rfl,rfl⟩
   refine jh.some (λ_ g _=>g.s8=true) (λv g w g' w' hle h=>hle.2.2.1 h) ?_ ?_
   ·intro D A g w' hDn hC hO hD;simp[gV,gN,dL,Act.eval,Region.binds]at hD;obtain⟨⟨gb,hv,hgb⟩,hx,-⟩:=hD;simp only[lg,if_true];refine wp_store_mid _ _ _ (by rfl) gb 0 #[.int .i64 x.regs,.slice eu x.is.length dI] (by simp[Act.eval,hv]) (by simp[Act.eval,hx]) (hC.aA5 hDn hgb (Nat.le_refl _)) FD (by simp[Value.oneCell']) ?_;have hF:=hC.st8 hDn hgb rfl;exact fu.yQ hF.1 hF.2 rfl
   refine jh.some (λ_ g _=>g.s9=true) (λv g w g' w' hle h=>hle.2.2.2 h) ?_ ?_
   ·intro D A g w' hDn hC hO hD;simp[gV,gN,dL,Act.eval,Region.binds]at hD;obtain⟨⟨gb,hv,hgb⟩,hx,-⟩:=hD;simp only[lg,if_true];refine wp_store_mid _ _ _ (by rfl) gb 0 #[.int .i64 x.regs,.slice Xp x.is.length Zw] (by simp[Act.eval,hv]) (by simp[Act.eval,hx]) (hC.aA6 hDn hgb (Nat.le_refl _)) FD (by simp[Value.oneCell']) ?_;have hF:=hC.st9 hDn hgb rfl;exact fu.yQ hF.1 hF.2 rfl
   refine jh.done ?_;intro D g w3 hD hC;simp only[J8,List.nil_append,List.cons_append,List.map_cons,List.map_nil];intro x0' h0' x1' h1' x2' h2' x3' h3' x4' h4' x5' h5' x6' h6' x7' h7' x8' h8' x9' h9' bk8 Ib bk9 Ic bl0 ar4 bl2 Kh;obtain⟨g8,rfl,hg8⟩:=Ib;obtain⟨g9,rfl,CJ⟩:=Ic;obtain⟨hBd,hl8,hl9,hne,hb8,hb9⟩:=hC.two hg8 CJ ar4 Kh;have HB3:aj (Below (bp+2) wr w3):=ah (hBd.mono fP.o);have J3:=ah hb8;have zn:=ah hb9;have HL8:=ah (And.intro hl8 hl9);clear h0' h1' h2' h3' h4' h5' h6' h7' h8' h9' hC hD hg8 CJ ar4 Kh hBd hl8 hl9 hne hb8 hb9;clear x0 x1 u0 u1 y6 z6;refine Xn ?_;go_simp;have p0:=au (j:=0) J3.o rfl;have p1:=au (j:=1) J3.o rfl;have q0:=au (j:=0) zn.o rfl;have q1:=au (j:=1) zn.o rfl;have KX:aj (g8<w3.heap.size∧g9<w3.heap.size∧bp+2<=g8∧bp+2<=g9):=ah (by have h1:=(Array.getElem?_eq_some_iff.1 J3.o).1;have h2:=(Array.getElem?_eq_some_iff.1 zn.o).1;have h3:=HL8.o;have h4:=fP.o;omega);have hil:x.is.length<=3000000000000:=hxl;go_wp2_with fail;go_loopw [8] (λi wq=> ∃(j:Nat) (S:List bM),i= .int .i64 j∧j+S.length=x.is.length∧dF jI 6 wq bp S eu j∧dF jI 6 wq bp S Xp j∧Below w3.heap.size w3 wq) (λi _=>x.is.length -(intOf i).toNat)
   case atStart=>exact⟨0,x.is,rfl,by simp,yE.o.below (HB3.o.mono (by omega)),xI.o.below (HB3.o.mono (by omega)),Below.refl _ _⟩
   case round=>
    obtain⟨j,S,rfl,hlen3,hr3,hr4,Bz⟩:=hrel;have IB:=ah Bz;clear Bz p0 p1 q0 q1;have aQ5:=ah ((IB.o.block g8 KX.o.1).trans J3.o);have aQ6:=ah ((IB.o.block g9 KX.o.2.1).trans zn.o);have p1:=au (j:=1) aQ5.o rfl;have q1:=au (j:=1) aQ6.o rfl;cases S with
    |nil=>
     obtain rfl:j=x.is.length:=(by simpa using hlen3);have Tq:aj (Below (bp+2) _ wr):=ah (HB3.o.trans (IB.o.mono (by have:=KX.o;omega)));clear hr3 hr4;go_wp2_with fail;go_roundw
     case rel=>exact⟨k+1,R,by go_num,by omega,HR1.o.below (Tq.o.mono (by omega)),HR2.o.below (Tq.o.mono (by omega)),ji.o.trans Tq.o⟩
     case measure=>simp[intOf];omega
    |cons y S=>
     obtain⟨⟨c,of,hao,hB3,hcs⟩,hrest⟩:=hr3;obtain⟨⟨c',of',hao',Ki,hcs'⟩,hrest'⟩:=hr4;have x0:=hcs 0 _ rfl;have x1:=hcs 1 _ rfl;have x2:=hcs 2 _ rfl;have x3:=hcs 3 _ rfl;have x4:=hcs 4 _ rfl;have x5:=hcs 5 _ rfl;have u0:=hcs' 0 _ rfl;have u1:=hcs' 1 _ rfl;have u2:=hcs' 2 _ rfl;have u3:=hcs' 3 _ rfl;have u4:=hcs' 4 _ rfl;have u5:=hcs' 5 _ rfl;simp only[Nat.add_zero]at x0 u0;rw[hao]at p1;rw[hao']at q1;have HR3:=ah hrest;have HR4:=ah hrest';clear hcs hcs' hao hao' hrest hrest';simp only[List.length_cons]at hlen3;have k0:(0:Int)<=(j:Int):=(by omega);have k1:(j:Int)<(x.is.length:Int):=(by omega);have hjl:j<x.is.length:=(by omega);have HW3:aj (w3.heap.size<=wr.heap.size∧bp+2<=w3.heap.size):=ah ⟨IB.o.size,by have:=KX.o;omega⟩;go_wp2_with fail;have Y:=fM (by have:=HW3.o;have:=KX.o;show g8<_;omega) p1;have Z:=fM (by have:=HW3.o;have:=KX.o;show g9<_;omega) q1;have X0:=λw' (hb:Below wr.heap.size wr w')=>(hb.cell (Nat.lt_of_lt_of_le hB3 (by have:=HW3.o;omega))).trans x0;have U0:=λw' (hb:Below wr.heap.size wr w')=>(hb.cell (Nat.lt_of_lt_of_le Ki (by have:=HW3.o;omega))).trans u0;have X1:=λw' (hb:Below wr.heap.size wr w')=>(hb.cell (Nat.lt_of_lt_of_le hB3 (by have:=HW3.o;omega))).trans x1;have U1:=λw' (hb:Below wr.heap.size wr w')=>(hb.cell (Nat.lt_of_lt_of_le Ki (by have:=HW3.o;omega))).trans u1;have X2:=λw' (hb:Below wr.heap.size wr w')=>(hb.cell (Nat.lt_of_lt_of_le hB3 (by have:=HW3.o;omega))).trans x2;have U2:=λw' (hb:Below wr.heap.size wr w')=>(hb.cell (Nat.lt_of_lt_of_le Ki (by have:=HW3.o;omega))).trans u2;have X3:=λw' (hb:Below wr.heap.size wr w')=>(hb.cell (Nat.lt_of_lt_of_le hB3 (by have:=HW3.o;omega))).trans x3;have U3:=λw' (hb:Below wr.heap.size wr w')=>(hb.cell (Nat.lt_of_lt_of_le Ki (by have:=HW3.o;omega))).trans u3;have X4:=λw' (hb:Below wr.heap.size wr w')=>(hb.cell (Nat.lt_of_lt_of_le hB3 (by have:=HW3.o;omega))).trans x4;have U4:=λw' (hb:Below wr.heap.size wr w')=>(hb.cell (Nat.lt_of_lt_of_le Ki (by have:=HW3.o;omega))).trans u4;have X5:=λw' (hb:Below wr.heap.size wr w')=>(hb.cell (Nat.lt_of_lt_of_le hB3 (by have:=HW3.o;omega))).trans x5;have U5:=λw' (hb:Below wr.heap.size wr w')=>(hb.cell (Nat.lt_of_lt_of_le Ki (by have:=HW3.o;omega))).trans u5;clear x0 x1 x2 x3 x4 x5 u0 u1 u2 u3 u4 u5 p1 q1;refine bf (by kernel_rfl) rfl ?_;refine aX 0 11 [] [[],[0],[],[0,1,2],[0,1,2,3],[],[5],[],[5,6,7],[5,6,7,8],[0,1,2,3,4,5,6,7,8,9]] [[],[],[],[],[],[],[],[],[],[],[]] (λ_ w'=>Below wr.heap.size wr w') (λw w'=>Below w.heap.size w w') [62,63,64,65,66,67,68,69,70,71,72] rfl rfl (by rfl) (by kernel_rfl) (by kernel_rfl) (by kernel_rfl) (by kernel_rfl) (by kernel_rfl) (by rfl) (λ_=>Below.refl _ _) (by rfl) (below_drewN (Below.refl _ _) 1) ?_;simp only[eP,jq]
     iterate 11
      apply aR.step
      case aJ=>intro c A w' hok hC hO hD;have e6:=hO 6 (by rfl);have e8:=hO 8 (by rfl);have e7:=hO 7 (by rfl);simp[Act.eval]at e6 e8 e7;simp[Act.eval]at hD;simp[go_sem,gd,Oper.wp,hD,e6,e8,e7,Y,hC,k0,k1,X0,X1,X2,X3,X4,X5,Z,U0,U1,U2,U3,U4,U5];exact aG.mk (Below.refl _ _) hC (aW.mk _ _)
      try simp only[bP]
     try simp only[bP]
     refine aR.done ?_;intro wz bH
     try simp only[eP]
     iterate 11 refine jv ?_
     refine dA.nil ?_;go_simp;refine bT rfl ?_;go_simp;have gX:aj (Below w3.heap.size wr wz):=ah (bH.mono IB.o.size);clear Y Z bH X0 X1 X2 X3 X4 X5 U0 U1 U2 U3 U4 U5;go_wp2_with fail;go_roundw
     case rel=>exact⟨j+1,S,by go_num,by omega,HR3.o.below (gX.o.mono (by have:=HW3.o;omega)),HR4.o.below (gX.o.mono (by have:=HW3.o;omega)),IB.o.trans gX.o⟩
     case measure=>simp[intOf];omega
end Go.Proofs.YtkmllehjemjgpaaGreatDoor
