/- Contract of compile's Valid, given that of ValidWorld. And what hangs on it. -/
import Derived.Test.YtgjmahnblcajbaaGreatDoorGVB
import Derived.Test.YtgjmahnblcajbaaGreatDoorGCE
import Derived.Test.YtgjmahnblcajbaaGreatDoorGVC
import Derived.Test.YtgjmahnblcajbaaGreatDoorGVP
import Derived.Laws.Append
import Derived.Maps.AppendAt
import Derived.Test.YtgjmahnblcajbaaGreatDoorGME
import Derived.Test.YtgjmahnblcajbaaGreatDoorGPI
set_option linter.unusedSimpArgs false
set_option linter.unusedVariables false
set_option maxHeartbeats 40000000
set_option maxRecDepth 1000000
namespace Go.Proofs.YtgjmahnblcajbaaGreatDoor
open Go.RowKit
open Md
def MZ:Prop:= ∀(W:Wo) (s:gW) (w:World),dR w w.heap.size W s->cB w->Al W->Calls Tryz.prog 6 #[jS W s] w fun e w'=>e= .returned (.bool (vW W))∧Below w.heap.size w w'
theorem nu {w w':World} {B:Nat} (hb:Below B w w'): ∀ {l:List qJ} {ao:Option Addr} {k:Nat},mg w B l ao k->mg w' B l ao k
 | [],_,_,_=>trivial
 | _ ::_,_,_,⟨⟨b,off,dw,bJ,e,hB,x0,x1,hl,hf⟩,hr⟩=>⟨⟨b,off,dw,bJ,e,hB,(hb.cell (p:=⟨b,_,none⟩) hB).trans x0,(hb.cell (p:=⟨b,_,none⟩) hB).trans x1,hl,hf.below hb⟩,nu hb hr⟩
theorem LP {w:World} {B B':Nat} (hB:B<=B'): ∀ {l:List qJ} {ao:Option Addr} {k:Nat},mg w B l ao k->mg w B' l ao k
 | [],_,_,_=>trivial
 | _ ::_,_,_,⟨⟨b,off,dw,bJ,e,hb,x0,x1,hl,hf⟩,hr⟩=>⟨⟨b,off,dw,bJ,e,Nat.lt_of_lt_of_le hb hB,x0,x1,hl,hf.mono hB⟩,LP hB hr⟩
theorem F4 {w w':World} {l:List qJ} {ao:Option Addr} {k:Nat} (h:mg w w.heap.size l ao k) (hb:Below w.heap.size w w'):mg w' w'.heap.size l ao k:=LP hb.size (nu hb h)
theorem Hg (hvw:MZ) (W:Wo) (s:gW) (l:List qJ) (Ca:Option Addr) (cap:Nat) (w:World) (hw:dR w w.heap.size W s) (dH:cB w) (hk:Al W) (hc:mg w w.heap.size l Ca 0) (hl:l.length<=maxLen) (hI: ∀t ∈ l,∀i ∈ t.is,∀r ∈ dx i,bV r):
 Calls Tryz.prog 9 #[.agg #[.slice s.aC W.cs.length s.cC,.slice s.aL W.ls.length s.cL,.slice s.aN W.ns.length s.cN,.slice s.aF W.fs.length s.cF,.slice s.aT W.ts.length s.cT,.slice s.aS W.ss.length s.cS,.slice Ca l.length cap]] w fun e w'=>e= .returned (.bool (A9 W l))∧Below w.heap.size w w':=by
 have HW:=ah hw;have gV:=ah dH;have HK:=ah hk;have HC:=ah hc;have HI:=ah hI;have HV:=ah hvw;have hlt:=hw.lt;unfold maxLen at hlt hl;obtain ⟨res,hres⟩: ∃r,A9 W l=r:=⟨_,rfl⟩;have HR:=ah hres;rw [hres];clear hw dH hk hc hI hvw hres;go_enter Tryz.func9,Tryz.ntmps9;go_upto_region 1 with fail;generalize hW:World.alloc w _=W1;obtain ⟨nb,hnb⟩: ∃n,w.heap.size=n:=⟨_,rfl⟩;have HB:aj (Below nb w W1):=ah (by rw [<- hW,<- hnb]; exact au _ _);have HX:aj (W1.heap[nb]? =some (.cells #[.slice s.aC W.cs.length s.cC,.slice s.aL W.ls.length s.cL,.slice s.aN W.ns.length s.cN,.slice s.aF W.fs.length s.cF,.slice s.aT W.ts.length s.cT,.slice s.aS W.ss.length s.cS,.slice Ca l.length cap] 33 (0,0))):=ah (by rw [<- hW,<- hnb]; exact heap_alloc_new _ _);have iG:aj (W1.heap.size=nb + 1):=ah (by rw [<- hW,<- hnb]; simp);have HW1:aj (dR W1 nb W s):=ah (by have:=HW.o; rw [hnb] at this; exact this.below HB.o);have xw:aj (mg W1 nb l Ca 0):=ah (by have:=HC.o; rw [hnb] at this; exact nu HB.o this);have iq:aj (cB W1):=ah (by have:=HB.o; rw [<- hnb] at this; exact gV.o.same this);have bF:=ah hnb;rw [hnb];clear hW hnb HW HC;have g0:=ak (j:=0) HX.o rfl;have g1:=ak (j:=1) HX.o rfl;have g2:=ak (j:=2) HX.o rfl;have g3:=ak (j:=3) HX.o rfl;have g4:=ak (j:=4) HX.o rfl;have g5:=ak (j:=5) HX.o rfl;have g6:=ak (j:=6) HX.o rfl;simp only [List.getElem_toArray,List.getElem_cons_zero,List.getElem_cons_succ] at g0 g1 g2 g3 g4 g5 g6;go_wp2_with fail;refine (HV.o W s W1 (HW1.o.mono (by have:=iG.o; omega)) iq.o HK.o).mono ?_;rintro e w2 ⟨rfl,hb2⟩;have HB2:=ah hb2;have wG:aj (Below nb w w2):=ah (HB.o.trans (hb2.mono (by have:=iG.o; omega)));have fu:=ah ((hb2.block nb (by have:=iG.o; omega)).trans HX.o);clear hb2 g0 g1 g2 g3 g4 g5 g6;have g4:=ak (j:=4) fu.o rfl;have g6:=ak (j:=6) fu.o rfl;simp only [List.getElem_toArray,List.getElem_cons_zero,List.getElem_cons_succ] at g4 g6;cases hv:vW W
 ·have HT:aj (res=false):=ah (by rw [<- HR.o]; unfold A9; rw [hv]; rfl);go_wp2_with fail;go_ret;exact ⟨by rw [HT.o]; rfl,by rw [bF.o]; exact wG.o⟩
 ·cases hne:((l.length:Int) == (W.ts.length:Int))
  ·have HT:aj (res=false):=ah (by rw [<- HR.o]; unfold A9; rw [hv]; simp [bne,hne]);go_wp2_with fail;go_ret;exact ⟨by rw [HT.o]; rfl,by rw [bF.o]; exact wG.o⟩
  ·have HR2:aj (res=BD W 0 l):=ah (by rw [<- HR.o]; unfold A9; rw [hv]; simp [bne,hne]);have Dn:aj (mg w2 nb l Ca 0):=ah (nu (HB2.o.mono (by have:=iG.o; omega)) xw.o);have CJ:aj (nb + 1<=w2.heap.size):=ah (by have h1:=HB2.o.size; have h2:=iG.o; omega);have HW2:aj (dR w2 nb W s):=ah (HW1.o.below (HB2.o.mono (by have:=iG.o; omega)));clear HR HV HK;go_wp2_with fail;rw [show ((l.length:Int) != (W.ts.length:Int))=false by simp [bne,hne]];clear hne;go_loopw [3,4,22] (fun _ _ v wr=> ∃(k:Nat) (R:List qJ),v= .int .i64 k∧k + R.length=l.length∧res=BD W k R∧mg wr nb R Ca k∧(∀t ∈ R,∀i ∈ t.is,∀r ∈ dx i,bV r)∧Below (nb + 1) w2 wr) (fun _ _ v _=>l.length - (intOf v).toNat)
   case atStart=>exact ⟨0,l,rfl,by simp,HR2.o,Dn.o,HI.o,Below.refl _ _⟩
   case round=>
    obtain ⟨k,R,rfl,hlen,heq,hrow,hi,hbel⟩:=hrel;have HE:=ah heq;have ig:=ah hbel;have sD:=ah hi;have jq:=ah ((ig.o.block nb (Nat.lt_succ_self _)).trans fu.o);have mP:aj (Below nb w wr):=ah (wG.o.trans (ig.o.mono (Nat.le_succ _)));have dY:aj (nb + 1<=wr.heap.size):=ah (by have h1:=ig.o.size; have h2:=CJ.o; omega);have Du:aj (dR wr nb W s):=ah (HW2.o.below (ig.o.mono (Nat.le_succ _)));clear heq hbel hi g4 g6;cases R with
    | nil=>obtain rfl:k=l.length:=(by simpa using hlen);have HT:aj (res=true):=ah HE.o;go_wp2_with fail;go_ret;exact ⟨by rw [HT.o]; rfl,by rw [bF.o]; exact mP.o⟩
    | cons t R=>
      obtain ⟨⟨b,off,dw,bJ,rfl,hb1,x0,x1,htl,hfl⟩,hrest⟩:=hrow;simp only [List.length_cons] at hlen;have hkl:k < l.length:=(by omega);have gU:=ah hrest;have HFL:=ah hfl;have El:=ah htl;have kG:aj (res=(Cy W k t && BD W ((k:Int) + 1) R)):=ah HE.o;clear hrest hfl htl HE;go_upto_region 6 with fail;generalize hW3:World.alloc wr _=w3;obtain ⟨tb,htb⟩: ∃n,wr.heap.size=n:=⟨_,rfl⟩;have HB3:aj (Below wr.heap.size wr w3):=ah (by rw [<- hW3]; exact au _ _);have KO:aj (w3.heap[tb]? =some (.cells #[.int .i64 t.regs,.slice dw t.is.length bJ] 62 (0,0))):=ah (by rw [<- hW3,<- htb]; exact heap_alloc_new _ _);rw [htb];clear hW3 htb x0 x1;have vZ:=ah ((HB3.o.block nb (by have:=dY.o; omega)).trans jq.o);have qD:aj (Below nb w w3):=ah (mP.o.trans (HB3.o.mono (by have:=dY.o; omega)));have HW3:aj (dR w3 w3.heap.size W s):=ah ((Du.o.below (HB3.o.mono (by have:=dY.o; omega))).mono (by have h1:=dY.o; have h2:=HB3.o.size; omega));have dh:aj (bL gK 6 w3 w3.heap.size t.is dw 0):=ah ((HFL.o.below (HB3.o.mono (by have:=dY.o; omega))).mono (by have h1:=dY.o; have h2:=HB3.o.size; omega));have g0:=ak (j:=0) vZ.o rfl;have g1:=ak (j:=1) vZ.o rfl;have g2:=ak (j:=2) vZ.o rfl;have g3:=ak (j:=3) vZ.o rfl;have g4:=ak (j:=4) vZ.o rfl;have g5:=ak (j:=5) vZ.o rfl;have t0:=ak (j:=0) KO.o rfl;have t1:=ak (j:=1) KO.o rfl;simp only [List.getElem_toArray,List.getElem_cons_zero,List.getElem_cons_succ] at g0 g1 g2 g3 g4 g5 t0 t1;go_wp2_with fail;refine (Jl W s k t dw bJ w3 HW3.o dh.o El.o (sD.o t List.mem_cons_self)).mono ?_;rintro e w4 ⟨rfl,hb4⟩;have dG:=ah (HB3.o.trans (hb4.mono HB3.o.size));have zh:aj (Below nb w w4):=ah (qD.o.trans (hb4.mono (by have h1:=dY.o; have h2:=HB3.o.size; omega)));clear hb4 g0 g1 g2 g3 g4 g5 t0 t1;cases J3:Cy W k t
      ·have HT:aj (res=false):=ah (by rw [kG.o,J3]; rfl);go_wp2_with fail;go_ret;exact ⟨by rw [HT.o]; rfl,by rw [bF.o]; exact zh.o⟩
      ·have HE2:aj (res=BD W ((k:Int) + 1) R):=ah (by rw [kG.o,J3]; rfl);go_wp2_with fail;go_roundw
       case rel=>exact ⟨k + 1,R,by go_num,by omega,HE2.o,nu (dG.o.mono (by have:=dY.o; omega)) gU.o,fun t ht=>sD.o t (List.mem_cons_of_mem _ ht),ig.o.trans (dG.o.mono dY.o)⟩
       case measure=>simp [intOf]; omega
def TF:Prop:= ∀(W:Wo) (s:gW) (v:List ByteArray) (av:Option Addr) (cv:Nat) (w:World),dR w w.heap.size W s->cB w->Al W->kI W->v.length<=12->dU w w.heap.size v av 0->v.length<=cv->
 Calls Tryz.prog 18 #[jS W s,.slice av v.length cv] w fun e w'=>e= .returned (.bool (DT [] (lK W v)))∧Below w.heap.size w w'
theorem M4 (hvn:TF):MZ:=by
 intro W s w hw dH hk;obtain ⟨aC,aL,aN,aF,aT,aS,cC,cL,cN,cF,cT,cS⟩:=s;have HW:=ah hw;have gV:=ah dH;have HK:=ah hk;have HV:=ah hvn;have hl0:=hw.lc;have hl1:=hw.ll;have hl2:=hw.ln;have hl3:=hw.lf;have hl4:=hw.lt;have hl5:=hw.lS;unfold maxLen at hl0 hl1 hl2 hl3 hl4 hl5;obtain ⟨res,hres⟩: ∃r,vW W=r:=⟨_,rfl⟩;have HR:=ah hres;rw [hres];clear hw dH hk hvn hres;unfold jS;dsimp only;go_enter Tryz.func6,Tryz.ntmps6;go_upto_region 1 with fail;generalize hW:World.alloc w _=W1;obtain ⟨nb,hnb⟩: ∃n,w.heap.size=n:=⟨_,rfl⟩;have HB:aj (Below nb w W1):=ah (by rw [<- hW,<- hnb]; exact au _ _);have HX:aj (W1.heap[nb]? =some (.cells #[.slice aC W.cs.length cC,.slice aL W.ls.length cL,.slice aN W.ns.length cN,.slice aF W.fs.length cF,.slice aT W.ts.length cT,.slice aS W.ss.length cS] 28 (0,0))):=ah (by rw [<- hW,<- hnb]; exact heap_alloc_new _ _);have iG:aj (W1.heap.size=nb + 1):=ah (by rw [<- hW,<- hnb]; simp);have HW1:aj (dR W1 nb W ⟨aC,aL,aN,aF,aT,aS,cC,cL,cN,cF,cT,cS⟩):=ah (by have:=HW.o; rw [hnb] at this; exact this.below HB.o);have iq:aj (cB W1):=ah (by have:=HB.o; rw [<- hnb] at this; exact gV.o.same this);have bF:=ah hnb;rw [hnb];clear hW hnb HW;have g0:=ak (j:=0) HX.o rfl;have g1:=ak (j:=1) HX.o rfl;have g2:=ak (j:=2) HX.o rfl;have g3:=ak (j:=3) HX.o rfl;have g4:=ak (j:=4) HX.o rfl;have g5:=ak (j:=5) HX.o rfl;simp only [List.getElem_toArray,List.getElem_cons_zero,List.getElem_cons_succ] at g0 g1 g2 g3 g4 g5;by_cases q0:(12:Int) < W.cs.length
 ·have HT:aj (res=false):=ah (by rw [<- HR.o]; unfold vW; rw [if_pos (by simp [q0])]);go_wp2_with fail;go_ret;exact ⟨by rw [HT.o]; rfl,by rw [bF.o]; exact HB.o⟩
 ·skip;by_cases q1:(4:Int) < W.ls.length
  ·have HT:aj (res=false):=ah (by rw [<- HR.o]; unfold vW; rw [if_pos (by simp [q1])]);go_wp2_with fail;go_ret;exact ⟨by rw [HT.o]; rfl,by rw [bF.o]; exact HB.o⟩
  ·skip;by_cases q2:(2:Int) < W.ns.length
   ·have HT:aj (res=false):=ah (by rw [<- HR.o]; unfold vW; rw [if_pos (by simp [q2])]);go_wp2_with fail;go_ret;exact ⟨by rw [HT.o]; rfl,by rw [bF.o]; exact HB.o⟩
   ·skip;by_cases q3:(2:Int) < W.fs.length
    ·have HT:aj (res=false):=ah (by rw [<- HR.o]; unfold vW; rw [if_pos (by simp [q3])]);go_wp2_with fail;go_ret;exact ⟨by rw [HT.o]; rfl,by rw [bF.o]; exact HB.o⟩
    ·skip;by_cases q4:(60:Int) < W.ss.length
     ·have HT:aj (res=false):=ah (by rw [<- HR.o]; unfold vW; rw [if_pos (by simp [q4])]);go_wp2_with fail;go_ret;exact ⟨by rw [HT.o]; rfl,by rw [bF.o]; exact HB.o⟩
     ·skip;by_cases q5:(W.ts.length:Int) < 1
      ·have HT:aj (res=false):=ah (by rw [<- HR.o]; unfold vW; rw [if_neg (by simp; omega),if_pos (by simp; omega)]);go_wp2_with fail;go_ret;exact ⟨by rw [HT.o]; rfl,by rw [bF.o]; exact HB.o⟩
      ·skip;by_cases q6:(4:Int) < W.ts.length
       ·have HT:aj (res=false):=ah (by rw [<- HR.o]; unfold vW; rw [if_neg (by simp; omega),if_pos (by simp; omega)]);go_wp2_with fail;go_ret;exact ⟨by rw [HT.o]; rfl,by rw [bF.o]; exact HB.o⟩
       ·skip;have KI:aj (kI W):=ah ⟨by omega,by omega,by omega,by omega,by omega,by omega,by omega⟩;have HR2:aj (res=match Aa W.cs with | none=>false | some v=>DT [] (lK W v) && (W.ns.all (fun c=>fT W c.mx false) && vsA W.ts.length 0 0 W.ss)):=ah (by rw [<- HR.o]; unfold vW; rw [if_neg (by simp; omega),if_neg (by simp; omega)];cases Aa W.cs <;> rfl);clear HR;go_wp2_with fail;refine (Kn W.cs W1 aC cC KI.o.1 (HW1.o.cs.mono (by have:=iG.o; omega)) HK.o.cs).mono ?_;intro e w2 FU;clear q0 q1 q2 q3 q4 q5 q6;obtain ⟨FU,hb2⟩:=FU;have HB2:=ah hb2;have wG:aj (Below nb w w2):=ah (HB.o.trans (hb2.mono (by have:=iG.o; omega)));have fu:=ah ((hb2.block nb (by have:=iG.o; omega)).trans HX.o);have CJ:aj (nb + 1<=w2.heap.size):=ah (by have h1:=hb2.size; have h2:=iG.o; omega);clear hb2 g0 g1 g2 g3 g4 g5;have g0:=ak (j:=0) fu.o rfl;have g1:=ak (j:=1) fu.o rfl;have g2:=ak (j:=2) fu.o rfl;have g3:=ak (j:=3) fu.o rfl;have g4:=ak (j:=4) fu.o rfl;have g5:=ak (j:=5) fu.o rfl;simp only [List.getElem_toArray,List.getElem_cons_zero,List.getElem_cons_succ] at g0 g1 g2 g3 g4 g5;cases hv:Aa W.cs with
        | none=>rw [hv] at FU;obtain rfl:e=_:=FU;have HT:aj (res=false):=ah (by rw [HR2.o,hv]);go_wp2_with fail;go_ret;exact ⟨by rw [HT.o]; rfl,by rw [bF.o]; exact wG.o⟩
        | some v=>
          rw [hv] at FU;obtain ⟨av,cv,rfl,hat,hcv⟩:=FU;have HR3:aj (res=(DT [] (lK W v) && (W.ns.all (fun c=>fT W c.mx false) && vsA W.ts.length 0 0 W.ss))):=ah (by rw [HR2.o,hv]);have HAT:=ah hat;have hvl:v.length<=12:=Nat.le_trans (Fz _ _ _ hv) KI.o.1;have HCV:=ah hcv;have HW2:aj (dR w2 nb W ⟨aC,aL,aN,aF,aT,aS,cC,cL,cN,cF,cT,cS⟩):=ah (HW1.o.below (HB2.o.mono (by have:=iG.o; omega)));have iE:=ah (iq.o.same HB2.o);clear hat hcv hv HR2;go_wp2_with fail;refine (HV.o W _ v av cv w2 (HW2.o.mono (by have:=CJ.o; omega)) iE.o HK.o KI.o hvl HAT.o HCV.o).mono ?_;rintro e w3 ⟨rfl,hb3⟩;have HB3:=ah hb3;have Gc:aj (Below nb w w3):=ah (wG.o.trans (hb3.mono (by have:=CJ.o; omega)));clear hb3 g0 g1 g2 g3 g4 g5;have vZ:=ah ((HB3.o.block nb (by have:=CJ.o; omega)).trans fu.o);have aG8:aj (nb + 1<=w3.heap.size):=ah (by have h1:=HB3.o.size; have h2:=CJ.o; omega);have HW3:aj (dR w3 nb W ⟨aC,aL,aN,aF,aT,aS,cC,cL,cN,cF,cT,cS⟩):=ah (HW2.o.below (HB3.o.mono (by have:=CJ.o; omega)));have g2:w3.cell? ⟨nb,2,none⟩=some (.slice aN W.ns.length cN):=ak vZ.o rfl;cases hn:DT [] (lK W v)
          ·have HT:aj (res=false):=ah (by rw [HR3.o,hn]; rfl);go_wp2_with fail;go_ret;exact ⟨by rw [HT.o]; rfl,by rw [bF.o]; exact Gc.o⟩
          ·have HR4:aj (res=(W.ns.all (fun c=>fT W c.mx false) && vsA W.ts.length 0 0 W.ss)):=ah (by rw [HR3.o,hn]; rfl);go_wp2_with fail;clear hn;go_loopw [6,62] (fun _ i wr=> ∃(k:Nat) (R:List Ab),i= .int .i64 k∧k + R.length=W.ns.length∧W.ns.all (fun c=>fT W c.mx false)=R.all (fun c=>fT W c.mx false)∧bL tZ 2 wr nb R aN k∧Below (nb + 1) w3 wr) (fun _ i _=>W.ns.length - (intOf i).toNat)
           case atStart=>exact ⟨0,W.ns,rfl,by simp,rfl,HW3.o.ns,Below.refl _ _⟩
           case round=>
            obtain ⟨k,R,rfl,hlen,heq,hrow,hbel⟩:=hrel;have HE:=ah heq;have ig:=ah hbel;have jq:=ah ((ig.o.block nb (Nat.lt_succ_self _)).trans vZ.o);have mP:aj (Below nb w wr):=ah (Gc.o.trans (ig.o.mono (Nat.le_succ _)));have dY:aj (nb + 1<=wr.heap.size):=ah (by have h1:=ig.o.size; have h2:=aG8.o; omega);have Du:aj (dR wr nb W ⟨aC,aL,aN,aF,aT,aS,cC,cL,cN,cF,cT,cS⟩):=ah (HW3.o.below (ig.o.mono (Nat.le_succ _)));clear heq hbel g2;cases R with
            | nil=>obtain rfl:k=W.ns.length:=(by simpa using hlen);have HT:aj (res=vsA W.ts.length 0 0 W.ss):=ah (by rw [HR4.o,HE.o]; rfl);have g0:=ak (j:=0) jq.o rfl;have g1:=ak (j:=1) jq.o rfl;have g2:=ak (j:=2) jq.o rfl;have g3:=ak (j:=3) jq.o rfl;have g4:=ak (j:=4) jq.o rfl;have g5:=ak (j:=5) jq.o rfl;simp only [List.getElem_toArray,List.getElem_cons_zero,List.getElem_cons_succ] at g0 g1 g2 g3 g4 g5;go_wp2_with fail;refine (Kq W _ wr (Du.o.mono (by have:=dY.o; omega)) KI.o.2.2.2.2.1).mono ?_;rintro e w5 ⟨rfl,hb5⟩;go_wp2_with fail;go_ret;exact ⟨by rw [HT.o]; rfl,by rw [bF.o]; exact mP.o.trans (hb5.mono (by have:=dY.o; omega))⟩
            | cons x R=>
              obtain ⟨⟨b,off,hao,hb1,hcs⟩,hrest⟩:=hrow;subst hao;simp only [List.length_cons] at hlen;have hkl:k < W.ns.length:=(by omega);have x0:=hcs 0 _ rfl;have x1:=hcs 1 _ rfl;simp only [Nat.add_zero] at x0;have gU:=ah hrest;have kG:aj (W.ns.all (fun c=>fT W c.mx false)=(fT W x.mx false && R.all (fun c=>fT W c.mx false))):=ah (by rw [HE.o,List.all_cons]);clear hcs hrest HE;go_upto_region 11 with fail;generalize qR:World.alloc wr _=w4;obtain ⟨tb,htb⟩: ∃n,wr.heap.size=n:=⟨_,rfl⟩;have dG:aj (Below wr.heap.size wr w4):=ah (by rw [<- qR]; exact au _ _);have KO:aj (w4.heap[tb]? =some (.cells #[.string x.nm,.int .i64 x.mx] 50 (0,0))):=ah (by rw [<- qR,<- htb]; exact heap_alloc_new _ _);rw [htb];clear qR htb x0 x1;have mR:=ah ((dG.o.block nb (by have:=dY.o; omega)).trans jq.o);have zh:aj (Below nb w w4):=ah (mP.o.trans (dG.o.mono (by have:=dY.o; omega)));have HW4:=ah ((Du.o.below (dG.o.mono (by have:=dY.o; omega))).mono (show nb<=w4.heap.size by have h1:=dY.o; have h2:=dG.o.size; omega));have g0:=ak (j:=0) mR.o rfl;have g1:=ak (j:=1) mR.o rfl;have g2:=ak (j:=2) mR.o rfl;have g3:=ak (j:=3) mR.o rfl;have g4:=ak (j:=4) mR.o rfl;have g5:=ak (j:=5) mR.o rfl;have t1:=ak (j:=1) KO.o rfl;simp only [List.getElem_toArray,List.getElem_cons_zero,List.getElem_cons_succ] at g0 g1 g2 g3 g4 g5 t1;go_wp2_with fail;refine (J5 W _ x.mx false w4 HW4.o).mono ?_;rintro e w5 ⟨rfl,hb5⟩;have jh:=ah (dG.o.trans (hb5.mono dG.o.size));have aF1:aj (Below nb w w5):=ah (zh.o.trans (hb5.mono (by have h1:=dY.o; have h2:=dG.o.size; omega)));clear hb5 g0 g1 g2 g3 g4 g5 t1;cases hlk:fT W x.mx false
              ·have HT:aj (res=false):=ah (by rw [HR4.o,kG.o,hlk]; rfl);go_wp2_with fail;go_ret;exact ⟨by rw [HT.o]; rfl,by rw [bF.o]; exact aF1.o⟩
              ·have HE2:aj (W.ns.all (fun c=>fT W c.mx false)=R.all (fun c=>fT W c.mx false)):=ah (by rw [kG.o,hlk]; rfl);go_wp2_with fail;go_roundw
               case rel=>exact ⟨k + 1,R,by go_num,by omega,HE2.o,gU.o.below (jh.o.mono (by have:=dY.o; omega)),ig.o.trans (jh.o.mono dY.o)⟩
               case measure=>simp [intOf]; omega
theorem OG {w:World} {B b off:Nat} : ∀ {r:List ByteArray} {k:Nat},dU w B r (some ⟨b,off,none⟩) k-> ∀j u,(r.flatMap rC)[j]? =some u->w.cell? ⟨b,off + k + j,none⟩=some u
 | [],_,_,j,u,hu=>by simp at hu
 | s ::r,k,h,0,u,hu=>by
   obtain ⟨⟨b',off',e,-,hc,-⟩,-⟩:=h;injection e with e; injection e with e1 e2;subst e1 e2;have:u= .string s:=by simpa [rC] using hu.symm
   rw [this]; exact hc
 | s ::r,k,h,j + 1,u,hu=>by have:=OG h.2 j u (by simpa [rC] using hu);rw [show off + k + (j + 1)=off + (k + 1) + j by omega]; exact this
theorem ZW (l:List ByteArray):(l.flatMap rC).length=l.length * 1:=by induction l <;> simp_all [rC]
theorem WA {l:List ByteArray} {u:Value} (h:u ∈ l.flatMap rC):u.oneCell'=true:=by
 obtain ⟨x,-,hx⟩:=List.mem_flatMap.1 h;simp [rC] at hx;rw [hx]; rfl
theorem pX {ops:Array Oper} {rest:List Oper} {o:Oper} {a:Act} {Q:Exit->Act->World->Prop} (w:World) (hgd:o.guard=none) (s x:Operand)
 (ho:o.op= .call {callee:= .builtin .append,args:= #[s,x],argTypes:= #[25,25]}) {v:Value} {l r:List ByteArray} {B:Nat} {ao:Option Addr} {c:Nat}
 (hs:a.eval s=v) (hg:jB B w v l) (hx:a.eval x= .slice ao r.length c) (hr:dU w w.heap.size r ao 0) (hlen:l.length + r.length<=1000000) (hB:B<=w.heap.size)
 (h: ∀v' w',jB B w' v' (l++r)->w.grownBy w' v.ownBlock->(v'.ownBlock=v.ownBlock∨v'.ownBlock=some w.heap.size)->wpList Tryz.prog ops Q rest (a.put o.dst v') w'):wpList Tryz.prog ops Q (o ::rest) a w:=by
 obtain ⟨i0,hi,hz0,hz1,hz2⟩:=yP Qp;cases ao with
 | some ad=>
   obtain ⟨b,off,p⟩:=ad;have hp:r=[]∨p=none:=by
    cases r with
    | nil=>exact .inl rfl
    | cons y r=>obtain ⟨⟨b',off',e,-⟩,-⟩:=hr; injection e with e; injection e with e1 e2 e3; exact .inr e3
   refine wpList_append_own_at w hgd s x 25 ho B 9 i0 _ 1 16 Tryz.underlying25 hi hz0 hz1 hz2 rfl (by decide) v l.length (l.flatMap rC) hs hg.own ⟨b,off,p⟩ r.length c (r.flatMap rC) hx (ZW r) ?_ (fun u hu=>WA hu) (by unfold maxLen; omega) (by omega) hB ?_
   ·intro j u hu;rcases hp with rfl | rfl
    ·simp at hu
    ·have:=OG hr j u hu;simpa [Addr.add_lit] using this
   ·intro v' w' hown hgr hnil hat;exact h v' w' ⟨by rw [List.length_append,List.flatMap_append]; exact hown,fun _ _ _ _=>trivial⟩ hgr hat
 | none=>
   obtain rfl:r=[]:=by
    cases r with
    | nil=>rfl
    | cons y r=>obtain ⟨⟨b',off',e,-⟩,-⟩:=hr; cases e
   have hrun:(Builtin.append_ #[25,25] o.type #[v,.slice none 0 c]).run Tryz.prog w= .ok v w:=by
    rcases hg.own.2 with ⟨rfl,-⟩ | ⟨g,cap,cur,rfl,hbg,hgB,hnc,hcm,hcs,htake⟩
    ·simp [Builtin.append_,run_underlying Tryz.underlying25,sizeOf,typeInfo,hi,Builtin.lenOf,Builtin.firstCells,loadCells,loadCellsFrom]
    ·simp [Builtin.append_,run_underlying Tryz.underlying25,sizeOf,typeInfo,hi,Builtin.lenOf,hnc,run_firstCells_none,storeCells]
   refine wpList_plain hgd fun K hK=> ?_;unfold Oper.wp execOp;simp only [ho,resolve,invoke,builtin,Sem.run_bind,Sem.run_pure,Result.andThen_ok,List.map_toArray,List.map_cons,List.map_nil,hs,hx,List.length_nil,hrun];exact hK _ _ (h v w (by simpa using hg) ⟨rfl,rfl,rfl,Nat.le_refl _,fun _ _ _=>rfl⟩ (.inl rfl))
theorem as3 {B:Nat} {w w':World} {v:Value} {l:List ByteArray} (hg:jB B w v l) (h:w.grownBy w' v.ownBlock) (hB:B<=w.heap.size):Below B w w':=
 ⟨h.os,h.tape,h.output,h.size,fun q hq=>h.block q (by omega) (fun e=>by have:=(hg.lt q e.symm).1; omega)⟩
theorem F7 {w:World} {nm:ByteArray} {t:TypeId} (h:nm.size<=maxLen):dU (w.alloc (.cells #[.string nm] t)) (w.alloc (.cells #[.string nm] t)).heap.size [nm] (some ⟨w.heap.size,0,none⟩) 0:=
 ⟨⟨_,0,rfl,by simp,ak (j:=0) (heap_alloc_new _ _) rfl,h⟩,trivial⟩
structure qK (w0:World) (nb:Nat) (W:Wo) (s:gW) (w:World) (v:Value) (l:List ByteArray):Prop where
 g:jB nb w v l
 ne: ∀q,v.ownBlock=some q->nb < q
 x:w.heap[nb]? =some (.cells #[.slice s.aC W.cs.length s.cC,.slice s.aL W.ls.length s.cL,.slice s.aN W.ns.length s.cN,.slice s.aF W.fs.length s.cF,.slice s.aT W.ts.length s.cT,.slice s.aS W.ss.length s.cS] 28 (0,0))
 wo:dR w nb W s
 b:Below nb w0 w
section
variable {w0:World} {nb:Nat} {W:Wo} {s:gW} {w w':World} {v v':Value} {l l':List ByteArray}
theorem qK.lt (h:qK w0 nb W s w v l):nb < w.heap.size:=(Array.getElem?_eq_some_iff.1 h.x).1
theorem qK.step (h:qK w0 nb W s w v l) (hg:jB nb w' v' l') (hgr:w.grownBy w' v.ownBlock) (hat:v'.ownBlock=v.ownBlock∨v'.ownBlock=some w.heap.size):qK w0 nb W s w' v' l':=by
 have hB:=as3 h.g hgr (Nat.le_of_lt h.lt);refine ⟨hg,fun q hq=> ?_,(hgr.block nb h.lt (fun e=>by have:=h.ne nb e.symm; omega)).trans h.x,h.wo.below hB,h.b.trans hB⟩;rcases hat with e | e
 ·rw [e] at hq; exact h.ne q hq
 ·rw [e] at hq; injection hq with hq; have:=h.lt; omega
theorem qK.next (h:qK w0 nb W s w v l) (hb:Below w.heap.size w w'):qK w0 nb W s w' v l:=
 ⟨h.g.next (bg hb),h.ne,(hb.block nb h.lt).trans h.x,h.wo.below (hb.mono (Nat.le_of_lt h.lt)),h.b.trans (hb.mono (Nat.le_of_lt h.lt))⟩
theorem qK.cells (h:qK w0 nb W s w v l):w.cell? ⟨nb,1,none⟩=some (.slice s.aL W.ls.length s.cL)∧w.cell? ⟨nb,2,none⟩=some (.slice s.aN W.ns.length s.cN)∧w.cell? ⟨nb,3,none⟩=some (.slice s.aF W.fs.length s.cF)∧w.cell? ⟨nb,4,none⟩=some (.slice s.aT W.ts.length s.cT):=
 ⟨ak (j:=1) h.x rfl,ak (j:=2) h.x rfl,ak (j:=3) h.x rfl,ak (j:=4) h.x rfl⟩
theorem qK.val (h:qK w0 nb W s w v l): ∃ao cap,v= .slice ao l.length cap:=h.g.len
end
theorem Bc {α β:Type} {f:α->β} {l:List α} {k:Nat} {x:α} (h:l[k]? =some x):(l.take (k + 1)).map f=(l.take k).map f++[f x]:=by
 rw [List.take_add_one,h]; simp
theorem tL {w:World} {B:Nat} {ao:Option Addr} : ∀ {l:List ByteArray} {k:Nat},dU w B l ao k-> ∀x ∈ l,x.size<=maxLen
 | [],_,_,x,hx=>by cases hx
 | s ::r,_,h,x,hx=>by
   rcases List.mem_cons.1 hx with rfl | hx
   ·obtain ⟨⟨b,off,-,-,-,hs⟩,-⟩:=h; exact hs
   ·exact tL h.2 x hx
theorem Ko:TF:=by
 intro W s v av cv w hw dH hk hsm hv hav hcv;have HW:=ah hw;have gV:=ah dH;have HK:=ah hk;have Ht:=ah hav;have Ah:aj (∀x ∈ v,x.size<=maxLen):=ah (tL hav);obtain ⟨hs0,hs1,hs2,hs3,hs4,hs5,hs6⟩:=hsm;obtain ⟨res,hres⟩: ∃r,DT [] (lK W v)=r:=⟨_,rfl⟩;have HR:=ah hres;rw [hres];have hmm:= @run_makeMap Tryz.prog;clear hw dH hk hav hres;unfold jS;go_enter Tryz.func18,Tryz.ntmps18;go_upto_region 1 with fail;generalize hW:World.alloc w _=W1;obtain ⟨nb,hnb⟩: ∃n,w.heap.size=n:=⟨_,rfl⟩;have HB:aj (Below nb w W1):=ah (by rw [<- hW,<- hnb]; exact au _ _);have HI:aj (qK w nb W s W1 (.slice none 0 0) []):=ah ⟨Grow.nil _ _ _ _ _ _,fun q hq=>(by cases hq),(by rw [<- hW,<- hnb]; exact heap_alloc_new _ _),(by have:=HW.o; rw [hnb] at this; exact this.below HB.o),HB.o⟩;have HA1:aj (dU W1 W1.heap.size v av 0):=ah (by have h1:=Ht.o; have h2:=HB.o; rw [<- hnb] at h2; exact h1.same h2);have bF:=ah hnb;rw [hnb];clear hW hnb HW Ht HB;go_wp2_with (at_builtin; refine pX W1 rfl _ _ rfl rfl HI.o.g rfl HA1.o (by simp; omega) (Nat.le_of_lt HI.o.lt) ?_);intro v1 w1 hg1 aj4 ai3;have HI1:=ah (HI.o.step hg1 aj4 ai3);clear hg1 aj4 ai3 HI HA1;obtain ⟨g1,g2,g3,g4⟩:=HI1.o.cells;go_wp2_with fail;clear g1 g2 g3 g4;go_loopw [5,7,19] (fun v5 _ v19 wr=> ∃k:Nat,v19= .int .i64 k∧k<=W.ls.length∧qK w nb W s wr v5 (v++(W.ls.take k).map (·.nm))) (fun _ _ v _=>W.ls.length - (intOf v).toNat)
 case atStart=>exact ⟨0,rfl,Nat.zero_le _,by simpa using HI1.o⟩
 case round=>
  obtain ⟨k,rfl,hk,hi⟩:=hrel;obtain ⟨acc,hacc⟩: ∃acc,v++(W.ls.take k).map (·.nm)=acc:=⟨_,rfl⟩;rw [hacc] at hi;have HI:=ah hi;have vS:=ah hacc;have ai1:acc.length<=100:=by rw [<- hacc]; simp; omega
  clear hi hacc;by_cases hkl:k < W.ls.length
  ·obtain ⟨x,hx⟩: ∃x,W.ls[k]? =some x:=⟨_,List.getElem?_eq_getElem hkl⟩;have HX:=ah hx;obtain ⟨b,off,hao,hb1,hcs⟩:=HI.o.wo.ls.at k x hx;have DZ:=ah hao;have x0:=hcs 0 _ rfl;have x1:=hcs 1 _ rfl;simp only [Nat.zero_add,Nat.add_zero] at x0 x1;have HL:aj (∀q,q=s.aL->q=some ⟨b,off,none⟩):=ah (fun q e=>by rw [e]; exact DZ.o);clear hcs hx;rw [hao];go_upto_region 6 with fail;obtain ⟨cb,hcb⟩: ∃n,wr.heap.size=n:=⟨_,rfl⟩;generalize hW2:World.alloc wr _=w2;have HB2:aj (Below wr.heap.size wr w2):=ah (by rw [<- hW2]; exact au _ _);have wh:aj (w2.heap[cb]? =some (.cells #[.string x.nm,.bool x.rw] 56 (0,0))):=ah (by rw [<- hW2,<- hcb]; exact heap_alloc_new _ _);have HI2:=ah (HI.o.next HB2.o);rw [hcb];clear hW2 hcb x0 x1 HI HB2;have y0:w2.cell? ⟨cb,0,none⟩=some (.string x.nm):=ak wh.o rfl;have HI3:=ah (HI2.o.next (au w2 (.cells #[.string x.nm] 9)));have hlen:acc.length + 1<=1000000:=by omega
   have hnm:x.nm.size<=maxLen:=HK.o.ls x (List.mem_of_getElem? HX.o);go_wp2_with (at_builtin; refine pX _ rfl _ _ rfl rfl HI3.o.g rfl (F7 hnm) hlen (Nat.le_of_lt HI3.o.lt) ?_);intro v3 w3 hg3 tJ uW;have HI4:=ah (HI3.o.step hg3 tJ (by simpa using uW));have HE:aj (acc++[x.nm]=v++(W.ls.take (k + 1)).map (·.nm)):=ah (by rw [<- vS.o,Bc (f:=fun y:zH=>y.nm) HX.o,List.append_assoc]);clear hg3 tJ uW HI3 HI2 wh y0 hlen hnm;go_wp2_with fail;go_roundw
   case rel=>exact ⟨k + 1,by go_num,by omega,by rw [<- HE.o]; exact HI4.o⟩
   case measure=>simp [intOf]; omega
  ·obtain rfl:k=W.ls.length:=by omega
   rw [List.take_length] at vS;have HA0:=vS;obtain ⟨g1,g2,g3,g4⟩:=HI.o.cells;obtain ⟨wA,Ur⟩: ∃X:World,X=wr:=⟨_,rfl⟩;subst Ur;go_wp2_with fail;clear g1 g2 g3 g4;go_loopw [5,9,32] (fun v5 _ v32 wr=> ∃k:Nat,v32= .int .i64 k∧k<=W.ns.length∧qK w nb W s wr v5 (acc++(W.ns.take k).map (·.nm))) (fun _ _ v _=>W.ns.length - (intOf v).toNat)
   case atStart=>exact ⟨0,rfl,Nat.zero_le _,by simpa using HI.o⟩
   case round=>
    obtain ⟨k,rfl,hk,hi⟩:=hrel;obtain ⟨Am,hacc⟩: ∃Am,acc++(W.ns.take k).map (·.nm)=Am:=⟨_,rfl⟩;rw [hacc] at hi;have HI:=ah hi;have vS:=ah hacc;have aY7:Am.length<=200:=(by rw [<- hacc]; simp; omega);clear hi hacc;by_cases hkl:k < W.ns.length
    ·obtain ⟨x,hx⟩: ∃x,W.ns[k]? =some x:=⟨_,List.getElem?_eq_getElem hkl⟩;have HX:=ah hx;obtain ⟨b,off,hao,hb1,hcs⟩:=HI.o.wo.ns.at k x hx;have x0:=hcs 0 _ rfl;have x1:=hcs 1 _ rfl;simp only [Nat.zero_add,Nat.add_zero] at x0 x1;clear hcs hx;rw [hao];go_upto_region 11 with fail;obtain ⟨cb,hcb⟩: ∃n,wr.heap.size=n:=⟨_,rfl⟩;generalize hW2:World.alloc wr _=w2;have HB2:aj (Below wr.heap.size wr w2):=ah (by rw [<- hW2]; exact au _ _);have wh:aj (w2.heap[cb]? =some (.cells #[.string x.nm,.int .i64 x.mx] 50 (0,0))):=ah (by rw [<- hW2,<- hcb]; exact heap_alloc_new _ _);have HI2:=ah (HI.o.next HB2.o);rw [hcb];clear hW2 hcb x0 x1 HI HB2;have y0:w2.cell? ⟨cb,0,none⟩=some (.string x.nm):=ak wh.o rfl;have HI3:=ah (HI2.o.next (au w2 (.cells #[.string x.nm] 9)));have hlen:Am.length + 1<=1000000:=(by omega);have hnm:x.nm.size<=maxLen:=HK.o.ns x (List.mem_of_getElem? HX.o);go_wp2_with (at_builtin; refine pX _ rfl _ _ rfl rfl HI3.o.g rfl (F7 hnm) hlen (Nat.le_of_lt HI3.o.lt) ?_);intro v3 w3 hg3 tJ uW;have HI4:=ah (HI3.o.step hg3 tJ (by simpa using uW));have HE:aj (Am++[x.nm]=acc++(W.ns.take (k + 1)).map (·.nm)):=ah (by rw [<- vS.o,Bc (f:=fun y:Ab=>y.nm) HX.o,List.append_assoc]);clear hg3 tJ uW HI3 HI2 wh y0 hlen hnm;go_wp2_with fail;go_roundw
     case rel=>exact ⟨k + 1,by go_num,by omega,by rw [<- HE.o]; exact HI4.o⟩
     case measure=>simp [intOf]; omega
    ·obtain rfl:k=W.ns.length:=(by omega);rw [List.take_length] at vS;obtain ⟨g1,g2,g3,g4⟩:=HI.o.cells;obtain ⟨wB,Us⟩: ∃X:World,X=wr:=⟨_,rfl⟩;subst Us;have hl5:Am.length + W.fs.length<=1000000:=(by omega);go_wp2_with (at_builtin; refine pX _ rfl _ _ rfl rfl HI.o.g rfl (HI.o.wo.fs.mono (Nat.le_of_lt HI.o.lt)) hl5 (Nat.le_of_lt HI.o.lt) ?_);intro v4 w4 hg4 NS EI;have hi4:=HI.o.step hg4 NS EI;obtain ⟨Ep,RB⟩: ∃Ep,Am++W.fs=Ep:=⟨_,rfl⟩;rw [RB] at hi4;have HI4:=ah hi4;have aE6:=ah RB;have aY8:Ep.length<=300:=(by rw [<- RB]; simp; omega);clear hg4 NS EI HI g1 g2 g3 g4 hl5 hi4 RB;obtain ⟨g1,g2,g3,g4⟩:=HI4.o.cells;have Uh:Ep.length + W.ts.length<=1000000:=(by omega);go_wp2_with (at_builtin; refine pX _ rfl _ _ rfl rfl HI4.o.g rfl (HI4.o.wo.ts.mono (Nat.le_of_lt HI4.o.lt)) Uh (Nat.le_of_lt HI4.o.lt) ?_);intro v5 w5 hg5 hgr5 NM;have HEN:aj (Ep++W.ts=lK W v):=ah (by rw [<- aE6.o,<- vS.o,<- HA0.o]; rfl);have sw:aj (qK w nb W s w5 v5 (lK W v)):=ah (by rw [<- HEN.o]; exact HI4.o.step hg5 hgr5 NM);have qF:aj (∀x ∈ lK W v,x.size<=maxLen):=ah (fun x hx=>by
      have hw:=sw.o.wo;unfold lK at hx;simp only [List.mem_append,List.mem_map] at hx;rcases hx with (((h | ⟨y,h,rfl⟩) | ⟨y,h,rfl⟩) | h) | h
      ·exact Ah.o x h
      ·exact HK.o.ls y h
      ·exact HK.o.ns y h
      ·exact tL hw.fs x h
      ·exact tL hw.ts x h)
     clear hg5 hgr5 NM HI4 g1 g2 g3 g4 Uh;obtain ⟨aoN,bb6,rfl,hcN,hst⟩:=jB.says (show jB nb w5 v5 (lK W v) from sw.o.g) qF.o;obtain ⟨mb,hmb⟩: ∃n,w5.heap.size=n:=⟨_,rfl⟩;have HTN:aj (dU w5 mb (lK W v) aoN 0):=ah (by rw [<- hmb]; exact hst.now);have jh:aj (Below nb w w5):=ah sw.o.b;have aG4:aj (nb < mb):=ah (by rw [<- hmb]; exact sw.o.lt);have HMB:=ah hmb;have rP:aj ((lK W v).length<=1000000):=ah (by unfold lK; simp; omega);clear hst hcN sw qF hmb;generalize lK W v=l at *;have Uh:=rP.o;have HM0:aj (gT (w5.alloc (.map #[] 0)) mb 0 (fun _=>false)):=ah (by rw [<- HMB.o]; exact gT.made w5);have rJ:aj (Below mb w5 (w5.alloc (.map #[] 0))):=ah (by rw [<- HMB.o]; exact au _ _);go_wp2_with fail;rw [HMB.o];go_loopw [12,53] (fun _ v53 wr=> ∃(k:Nat) (pre R:List ByteArray),v53= .int .i64 k∧pre++R=l∧pre.length=k∧gT wr mb k (fun q=>(pre.map (·.toList)).contains q)∧res=DT (pre.map (·.toList)) R∧Below mb w5 wr) (fun _ v _=>l.length - (intOf v).toNat)
     case atStart=>exact ⟨0,[],l,rfl,rfl,rfl,HM0.o.congr (fun _=>rfl),HR.o.symm,rJ.o⟩
     case round=>
      obtain ⟨k,pre,R,rfl,hds,hk,hmap,hres,hbel⟩:=hrel;have HM:=ah hmap;have HE:=ah hres;have HB:=ah hbel;have uK:=ah hds;have HPK:=ah hk;have mP:aj (Below w.heap.size w wr):=ah (by rw [bF.o]; exact jh.o.trans (HB.o.mono (Nat.le_of_lt aG4.o)));have hlen:k + R.length=l.length:=(by rw [<- hds,List.length_append,hk]);have hrow:=(HTN.o.below HB.o).drop k;rw [Nat.zero_add,<- hds,<- hk,List.drop_left] at hrow;rw [hk] at hrow;clear hmap hres hbel hds hk;cases R with
      | nil=>obtain rfl:k=l.length:=(by simpa using hlen);have HT:aj (res=true):=ah HE.o;go_wp2_with fail;go_ret;exact ⟨by rw [HT.o]; rfl,mP.o⟩
      | cons x R=>
        obtain ⟨⟨b,off,hao,hb1,x0,hsz⟩,-⟩:=hrow;simp only [List.length_cons] at hlen;have hkl:k < l.length:=(by omega);have KL:aj (res=((Tk.iO x.toList && !((pre.map (·.toList)).contains x.toList)) && DT (pre.map (·.toList)++[x.toList]) R)):=ah HE.o;rw [hao];go_wp2_with fail;refine (uO x wr (gV.o.same mP.o) hsz).mono ?_;rintro e w6 ⟨rfl,hb6⟩;have ab2:=ah (mP.o.trans (hb6.mono mP.o.size));have HM6:=ah (HM.o.next hb6);have Kt:aj (Below mb w5 w6):=ah (HB.o.trans (hb6.mono (Nat.le_of_lt HM.o.lt)));clear hb6 x0;rw [<- Lib.toList_data x];cases hn:Tk.iO x.toList
        ·have HT:aj (res=false):=ah (by rw [KL.o,hn]; rfl);go_wp2_with fail;go_ret;exact ⟨by rw [HT.o]; rfl,ab2.o⟩
        ·have hk1:=HM6.o.look x hsz;cases hc:(pre.map (·.toList)).contains x.toList
         ·obtain ⟨w7,hup,hm7,EJ⟩:=HM6.o.put (by unfold maxLen; omega) x hsz true;have HM7:=ah hm7;have rM:aj (Below mb w5 w7):=ah (Kt.o.trans (bK EJ (Nat.le_refl _) (Nat.le_of_lt HM6.o.lt)));have HT:aj (res=DT (pre.map (·.toList)++[x.toList]) R):=ah (by rw [KL.o,hn,hc]; rfl);clear hm7 EJ;simp only [hc] at hk1;go_wp2_with fail;go_roundw
          case rel=>exact ⟨k + 1,pre++[x],R,by go_num,by rw [List.append_assoc]; exact uK.o,by simp [HPK.o],HM7.o.congr (fun q=>by simp [List.contains_iff_mem]; grind),by rw [List.map_append]; exact HT.o,rM.o⟩
          case measure=>simp [intOf]; omega
         ·have HT:aj (res=false):=ah (by rw [KL.o,hn,hc]; rfl);simp only [hc] at hk1;go_wp2_with fail;go_ret;exact ⟨by rw [HT.o]; rfl,ab2.o⟩
theorem Qa (d:De): ∀(n k:Nat),∀c ∈ Bn d n k,c.nm=d.nm
 | 0,_,c,h=>by cases h
 | n + 1,k,c,h=>by
   rw [Bn] at h;rcases List.mem_cons.1 h with rfl | h
   ·rfl
   ·exact Qa d n (k + 1) c h
theorem as4 {W:Wo} {d:De} (h:Al W) (hd:d.nm.size<=maxLen):Al (Bd W d):=by
 unfold Bd;split
 ·refine ⟨fun c hc=> ?_,h.ls,h.ns⟩;rcases List.mem_append.1 hc with hc | hc
  ·exact h.cs c hc
  ·rw [Qa d _ _ c hc]; exact hd
 ·split
  ·refine ⟨h.cs,fun c hc=> ?_,h.ns⟩;rcases List.mem_append.1 hc with hc | hc
   ·exact h.ls c hc
   ·rw [List.mem_singleton.1 hc]; exact hd
  ·split
   ·refine ⟨h.cs,h.ls,fun c hc=> ?_⟩;rcases List.mem_append.1 hc with hc | hc
    ·exact h.ns c hc
    ·rw [List.mem_singleton.1 hc]; exact hd
   ·exact ⟨h.cs,h.ls,h.ns⟩
theorem QL: ∀(l:List De) (W:Wo),Al W->(∀d ∈ l,d.nm.size<=maxLen)->Al (l.foldl Bd W)
 | [],W,h,_=>h
 | d ::r,W,h,hd=>QL r (Bd W d) (as4 h (hd d List.mem_cons_self)) (fun x hx=>hd x (List.mem_cons_of_mem _ hx))
theorem aw4 {p:Pr} (h: ∀d ∈ p.ds,d.nm.size<=maxLen):Al (jr p):=by
 have hw:=QL p.ds sQ ⟨fun c hc=>(by cases hc),fun c hc=>(by cases hc),fun c hc=>(by cases hc)⟩ h;have e:=OI p.ts (p.ds.foldl Bd sQ) 0;unfold jr;exact ⟨by rw [e.1]; exact hw.cs,by rw [e.2.1]; exact hw.ls,by rw [e.2.2.1]; exact hw.ns⟩
theorem Qh {w:World} {B:Nat} : ∀ {l:List De} {ao:Option Addr} {k:Nat},gQ w B l ao k-> ∀d ∈ l,d.nm.size<=maxLen
 | [],_,_,_,d,hd=>by cases hd
 | x ::r,_,_,⟨⟨_,_,_,_,_,_,_,_,_,_,hok⟩,hr⟩,d,hd=>by
   rcases List.mem_cons.1 hd with rfl | hd
   ·exact hok.2.2.1
   ·exact Qh hr d hd
end Go.Proofs.YtgjmahnblcajbaaGreatDoor
