/- Contract of compile's Valid, given that of ValidWorld. And what hangs on it. -/
import Derived.Test.YtfbbaiejbjdfbaaGreatDoorGVB
import Derived.Test.YtfbbaiejbjdfbaaGreatDoorGCE
import Derived.Test.YtfbbaiejbjdfbaaGreatDoorGVC
import Derived.Test.YtfbbaiejbjdfbaaGreatDoorGME
set_option linter.unusedSimpArgs false
set_option linter.unusedVariables false
set_option maxHeartbeats 40000000
set_option maxRecDepth 1000000
namespace Go.Proofs.YtfbbaiejbjdfbaaGreatDoor
open Go.RowKit
open Md
structure WoK (W:Wo):Prop where
 cs: ∀c ∈ W.cs,c.nm.size<=maxLen
 ls: ∀c ∈ W.ls,c.nm.size<=maxLen
 ns: ∀c ∈ W.ns,c.nm.size<=maxLen
def Q5:Prop:= ∀(W:Wo) (s:jM) (w:World),gN w w.heap.size W s->fC w->WoK W->Calls Tryz.prog 28 #[pY W s] w fun e w'=>e= .returned (.bool (vW W))∧Below w.heap.size w w'
theorem zy {w w':World} {B:Nat} (hb:Below B w w'): ∀ {l:List xg} {ao:Option Addr} {k:Nat},lu w B l ao k->lu w' B l ao k
 | [],_,_,_=>trivial
 | _ ::_,_,_,⟨⟨b,off,dU,dG,e,hB,x0,x1,hl,hf⟩,hr⟩=>⟨⟨b,off,dU,dG,e,hB,(hb.cell (p:=⟨b,_,none⟩) hB).trans x0,(hb.cell (p:=⟨b,_,none⟩) hB).trans x1,hl,hf.below hb⟩,zy hb hr⟩
theorem ab5 (hvw:Q5) (W:Wo) (s:jM) (l:List xg) (Ti:Option Addr) (cap:Nat) (w:World) (hw:gN w w.heap.size W s) (fK:fC w) (hk:WoK W) (hc:lu w w.heap.size l Ti 0) (hl:l.length<=maxLen) (hI: ∀t ∈ l,∀i ∈ t.is,∀r ∈ dI i,bS r):
 Calls Tryz.prog 11 #[.agg #[.slice s.aC W.cs.length s.cC,.slice s.aL W.ls.length s.cL,.slice s.aN W.ns.length s.cN,.slice s.aF W.fs.length s.cF,.slice s.aT W.ts.length s.cT,.slice s.aS W.ss.length s.cS,.slice Ti l.length cap]] w fun e w'=>e= .returned (.bool (RH W l))∧Below w.heap.size w w':=by
 have HW:=ah hw;have kD:=ah fK;have HK:=ah hk;have HC:=ah hc;have HI:=ah hI;have HV:=ah hvw;have hlt:=hw.lt;unfold maxLen at hlt hl;obtain ⟨res,hres⟩: ∃r,RH W l=r:=⟨_,rfl⟩;have HR:=ah hres;rw [hres];clear hw fK hk hc hI hvw hres;go_enter Tryz.func11,Tryz.ntmps11;go_upto_region 1 with fail;generalize hW:World.alloc w _=W1;obtain ⟨nb,hnb⟩: ∃n,w.heap.size=n:=⟨_,rfl⟩;have HB:aj (Below nb w W1):=ah (by rw [<- hW,<- hnb]; exact ak _ _);have HX:aj (W1.heap[nb]? =some (.cells #[.slice s.aC W.cs.length s.cC,.slice s.aL W.ls.length s.cL,.slice s.aN W.ns.length s.cN,.slice s.aF W.fs.length s.cF,.slice s.aT W.ts.length s.cT,.slice s.aS W.ss.length s.cS,.slice Ti l.length cap] 37 (0,0))):=ah (by rw [<- hW,<- hnb]; exact heap_alloc_new _ _);have pO:aj (W1.heap.size=nb + 1):=ah (by rw [<- hW,<- hnb]; simp);have HW1:aj (gN W1 nb W s):=ah (by have:=HW.o; rw [hnb] at this; exact this.below HB.o);have Kv:aj (lu W1 nb l Ti 0):=ah (by have:=HC.o; rw [hnb] at this; exact zy HB.o this);have sU:aj (fC W1):=ah (by have:=HB.o; rw [<- hnb] at this; exact kD.o.same this);have fD:=ah hnb;rw [hnb];clear hW hnb HW HC;have g0:=au (j:=0) HX.o rfl;have g1:=au (j:=1) HX.o rfl;have g2:=au (j:=2) HX.o rfl;have g3:=au (j:=3) HX.o rfl;have g4:=au (j:=4) HX.o rfl;have g5:=au (j:=5) HX.o rfl;have g6:=au (j:=6) HX.o rfl;simp only [List.getElem_toArray,List.getElem_cons_zero,List.getElem_cons_succ] at g0 g1 g2 g3 g4 g5 g6;go_wp2_with fail;refine (HV.o W s W1 (HW1.o.mono (by have:=pO.o; omega)) sU.o HK.o).mono ?_;rintro e w2 ⟨rfl,hb2⟩;have HB2:=ah hb2;have Cc:aj (Below nb w w2):=ah (HB.o.trans (hb2.mono (by have:=pO.o; omega)));have sN:=ah ((hb2.block nb (by have:=pO.o; omega)).trans HX.o);clear hb2 g0 g1 g2 g3 g4 g5 g6;have g4:=au (j:=4) sN.o rfl;have g6:=au (j:=6) sN.o rfl;simp only [List.getElem_toArray,List.getElem_cons_zero,List.getElem_cons_succ] at g4 g6;cases hv:vW W
 ·have HT:aj (res=false):=ah (by rw [<- HR.o]; unfold RH; rw [hv]; rfl);go_wp2_with fail;go_ret;exact ⟨by rw [HT.o]; rfl,by rw [fD.o]; exact Cc.o⟩
 ·cases hne:((l.length:Int) == (W.ts.length:Int))
  ·have HT:aj (res=false):=ah (by rw [<- HR.o]; unfold RH; rw [hv]; simp [bne,hne]);go_wp2_with fail;go_ret;exact ⟨by rw [HT.o]; rfl,by rw [fD.o]; exact Cc.o⟩
  ·have HR2:aj (res=I5 W 0 l):=ah (by rw [<- HR.o]; unfold RH; rw [hv]; simp [bne,hne]);have OY:aj (lu w2 nb l Ti 0):=ah (zy (HB2.o.mono (by have:=pO.o; omega)) Kv.o);have JI:aj (nb + 1<=w2.heap.size):=ah (by have h1:=HB2.o.size; have h2:=pO.o; omega);have HW2:aj (gN w2 nb W s):=ah (HW1.o.below (HB2.o.mono (by have:=pO.o; omega)));clear HR HV HK;go_wp2_with fail;rw [show ((l.length:Int) != (W.ts.length:Int))=false by simp [bne,hne]];clear hne;go_loopw [3,4,22] (fun _ _ v wr=> ∃(k:Nat) (R:List xg),v= .int .i64 k∧k + R.length=l.length∧res=I5 W k R∧lu wr nb R Ti k∧(∀t ∈ R,∀i ∈ t.is,∀r ∈ dI i,bS r)∧Below (nb + 1) w2 wr) (fun _ _ v _=>l.length - (intOf v).toNat)
   case atStart=>exact ⟨0,l,rfl,by simp,HR2.o,OY.o,HI.o,Below.refl _ _⟩
   case round=>
    obtain ⟨k,R,rfl,hlen,heq,hrow,hi,hbel⟩:=hrel;have HE:=ah heq;have kg:=ah hbel;have wU:=ah hi;have qC:=ah ((kg.o.block nb (Nat.lt_succ_self _)).trans sN.o);have vI:aj (Below nb w wr):=ah (Cc.o.trans (kg.o.mono (Nat.le_succ _)));have kE:aj (nb + 1<=wr.heap.size):=ah (by have h1:=kg.o.size; have h2:=JI.o; omega);have J9:aj (gN wr nb W s):=ah (HW2.o.below (kg.o.mono (Nat.le_succ _)));clear heq hbel hi g4 g6;cases R with
    | nil=>obtain rfl:k=l.length:=(by simpa using hlen);have HT:aj (res=true):=ah HE.o;go_wp2_with fail;go_ret;exact ⟨by rw [HT.o]; rfl,by rw [fD.o]; exact vI.o⟩
    | cons t R=>
      obtain ⟨⟨b,off,dU,dG,rfl,hb1,x0,x1,htl,hfl⟩,hrest⟩:=hrow;simp only [List.length_cons] at hlen;have hkl:k < l.length:=(by omega);have ko:=ah hrest;have HFL:=ah hfl;have KH:=ah htl;have yU:aj (res=(Me W k t && I5 W ((k:Int) + 1) R)):=ah HE.o;clear hrest hfl htl HE;go_upto_region 6 with fail;generalize hW3:World.alloc wr _=w3;obtain ⟨tb,htb⟩: ∃n,wr.heap.size=n:=⟨_,rfl⟩;have HB3:aj (Below wr.heap.size wr w3):=ah (by rw [<- hW3]; exact ak _ _);have G8:aj (w3.heap[tb]? =some (.cells #[.int .i64 t.regs,.slice dU t.is.length dG] 50 (0,0))):=ah (by rw [<- hW3,<- htb]; exact heap_alloc_new _ _);rw [htb];clear hW3 htb x0 x1;have AJ:=ah ((HB3.o.block nb (by have:=kE.o; omega)).trans qC.o);have Jw:aj (Below nb w w3):=ah (vI.o.trans (HB3.o.mono (by have:=kE.o; omega)));have HW3:aj (gN w3 w3.heap.size W s):=ah ((J9.o.below (HB3.o.mono (by have:=kE.o; omega))).mono (by have h1:=kE.o; have h2:=HB3.o.size; omega));have FT:aj (dK jE 6 w3 w3.heap.size t.is dU 0):=ah ((HFL.o.below (HB3.o.mono (by have:=kE.o; omega))).mono (by have h1:=kE.o; have h2:=HB3.o.size; omega));have g0:=au (j:=0) AJ.o rfl;have g1:=au (j:=1) AJ.o rfl;have g2:=au (j:=2) AJ.o rfl;have g3:=au (j:=3) AJ.o rfl;have g4:=au (j:=4) AJ.o rfl;have g5:=au (j:=5) AJ.o rfl;have t0:=au (j:=0) G8.o rfl;have t1:=au (j:=1) G8.o rfl;simp only [List.getElem_toArray,List.getElem_cons_zero,List.getElem_cons_succ] at g0 g1 g2 g3 g4 g5 t0 t1;go_wp2_with fail;refine (Mf W s k t dU dG w3 HW3.o FT.o KH.o (wU.o t List.mem_cons_self)).mono ?_;rintro e w4 ⟨rfl,hb4⟩;have dO:=ah (HB3.o.trans (hb4.mono HB3.o.size));have Jy:aj (Below nb w w4):=ah (Jw.o.trans (hb4.mono (by have h1:=kE.o; have h2:=HB3.o.size; omega)));clear hb4 g0 g1 g2 g3 g4 g5 t0 t1;cases hvt:Me W k t
      ·have HT:aj (res=false):=ah (by rw [yU.o,hvt]; rfl);go_wp2_with fail;go_ret;exact ⟨by rw [HT.o]; rfl,by rw [fD.o]; exact Jy.o⟩
      ·have HE2:aj (res=I5 W ((k:Int) + 1) R):=ah (by rw [yU.o,hvt]; rfl);go_wp2_with fail;go_roundw
       case rel=>exact ⟨k + 1,R,by go_num,by omega,HE2.o,zy (dO.o.mono (by have:=kE.o; omega)) ko.o,fun t ht=>wU.o t (List.mem_cons_of_mem _ ht),kg.o.trans (dO.o.mono kE.o)⟩
       case measure=>simp [intOf]; omega
def WH (W:Wo):Prop:=W.cs.length<=12∧W.ls.length<=4∧W.ns.length<=2∧W.fs.length<=2∧W.ss.length<=60∧1<=W.ts.length∧W.ts.length<=4
def WJ:Prop:= ∀(W:Wo) (s:jM) (v:List ByteArray) (av:Option Addr) (cv:Nat) (w:World),gN w w.heap.size W s->fC w->WoK W->WH W->v.length<=12->fP w w.heap.size v av 0->v.length<=cv->
 Calls Tryz.prog 47 #[pY W s,.slice av v.length cv] w fun e w'=>e= .returned (.bool (FI [] (wC W v)))∧Below w.heap.size w w'
theorem Nr: ∀(f:Nat) (l:List qB) (v:List ByteArray),vC f l=some v->v.length<=l.length
 | 0,l,v,h=>by rw [vC] at h; injection h with h; subst h; exact Nat.zero_le _
 | f + 1,[],v,h=>by rw [vC] at h; injection h with h; subst h; exact Nat.zero_le _
 | f + 1,c ::r,v,h=>by
   rw [vC] at h;split at h
   ·split at h
    ·cases h
    ·cases hq:vC f r with
     | none=>rw [hq] at h; cases h
     | some q=>rw [hq] at h; injection h with h; subst h; have:=Nr f r q hq; simp; omega
   ·rename_i hs;split at h
    ·cases h
    ·rename_i hd;split at h
     ·cases hq:vC f ((c ::r).drop c.sz.toNat) with
      | none=>rw [hq] at h; cases h
      | some q=>rw [hq] at h; injection h with h; subst h;have:=Nr f _ q hq;simp at hd this;have h1:1<=c.sz.toNat:=(by omega);simp; omega
     ·cases h
theorem OC (hvn:WJ):Q5:=by
 intro W s w hw fK hk;obtain ⟨aC,aL,aN,aF,aT,aS,cC,cL,cN,cF,cT,cS⟩:=s;have HW:=ah hw;have kD:=ah fK;have HK:=ah hk;have HV:=ah hvn;have hl0:=hw.lc;have hl1:=hw.ll;have hl2:=hw.ln;have hl3:=hw.lf;have hl4:=hw.lt;have hl5:=hw.lS;unfold maxLen at hl0 hl1 hl2 hl3 hl4 hl5;obtain ⟨res,hres⟩: ∃r,vW W=r:=⟨_,rfl⟩;have HR:=ah hres;rw [hres];clear hw fK hk hvn hres;unfold pY;dsimp only;go_enter Tryz.func28,Tryz.ntmps28;go_upto_region 1 with fail;generalize hW:World.alloc w _=W1;obtain ⟨nb,hnb⟩: ∃n,w.heap.size=n:=⟨_,rfl⟩;have HB:aj (Below nb w W1):=ah (by rw [<- hW,<- hnb]; exact ak _ _);have HX:aj (W1.heap[nb]? =some (.cells #[.slice aC W.cs.length cC,.slice aL W.ls.length cL,.slice aN W.ns.length cN,.slice aF W.fs.length cF,.slice aT W.ts.length cT,.slice aS W.ss.length cS] 34 (0,0))):=ah (by rw [<- hW,<- hnb]; exact heap_alloc_new _ _);have pO:aj (W1.heap.size=nb + 1):=ah (by rw [<- hW,<- hnb]; simp);have HW1:aj (gN W1 nb W ⟨aC,aL,aN,aF,aT,aS,cC,cL,cN,cF,cT,cS⟩):=ah (by have:=HW.o; rw [hnb] at this; exact this.below HB.o);have sU:aj (fC W1):=ah (by have:=HB.o; rw [<- hnb] at this; exact kD.o.same this);have fD:=ah hnb;rw [hnb];clear hW hnb HW;have g0:=au (j:=0) HX.o rfl;have g1:=au (j:=1) HX.o rfl;have g2:=au (j:=2) HX.o rfl;have g3:=au (j:=3) HX.o rfl;have g4:=au (j:=4) HX.o rfl;have g5:=au (j:=5) HX.o rfl;simp only [List.getElem_toArray,List.getElem_cons_zero,List.getElem_cons_succ] at g0 g1 g2 g3 g4 g5;by_cases q0:(12:Int) < W.cs.length
 ·have HT:aj (res=false):=ah (by rw [<- HR.o]; unfold vW; rw [if_pos (by simp [q0])]);go_wp2_with fail;go_ret;exact ⟨by rw [HT.o]; rfl,by rw [fD.o]; exact HB.o⟩
 ·skip;by_cases q1:(4:Int) < W.ls.length
  ·have HT:aj (res=false):=ah (by rw [<- HR.o]; unfold vW; rw [if_pos (by simp [q1])]);go_wp2_with fail;go_ret;exact ⟨by rw [HT.o]; rfl,by rw [fD.o]; exact HB.o⟩
  ·skip;by_cases q2:(2:Int) < W.ns.length
   ·have HT:aj (res=false):=ah (by rw [<- HR.o]; unfold vW; rw [if_pos (by simp [q2])]);go_wp2_with fail;go_ret;exact ⟨by rw [HT.o]; rfl,by rw [fD.o]; exact HB.o⟩
   ·skip;by_cases q3:(2:Int) < W.fs.length
    ·have HT:aj (res=false):=ah (by rw [<- HR.o]; unfold vW; rw [if_pos (by simp [q3])]);go_wp2_with fail;go_ret;exact ⟨by rw [HT.o]; rfl,by rw [fD.o]; exact HB.o⟩
    ·skip;by_cases q4:(60:Int) < W.ss.length
     ·have HT:aj (res=false):=ah (by rw [<- HR.o]; unfold vW; rw [if_pos (by simp [q4])]);go_wp2_with fail;go_ret;exact ⟨by rw [HT.o]; rfl,by rw [fD.o]; exact HB.o⟩
     ·skip;by_cases q5:(W.ts.length:Int) < 1
      ·have HT:aj (res=false):=ah (by rw [<- HR.o]; unfold vW; rw [if_neg (by simp; omega),if_pos (by simp; omega)]);go_wp2_with fail;go_ret;exact ⟨by rw [HT.o]; rfl,by rw [fD.o]; exact HB.o⟩
      ·skip;by_cases q6:(4:Int) < W.ts.length
       ·have HT:aj (res=false):=ah (by rw [<- HR.o]; unfold vW; rw [if_neg (by simp; omega),if_pos (by simp; omega)]);go_wp2_with fail;go_ret;exact ⟨by rw [HT.o]; rfl,by rw [fD.o]; exact HB.o⟩
       ·skip;have HSM:aj (WH W):=ah ⟨by omega,by omega,by omega,by omega,by omega,by omega,by omega⟩;have HR2:aj (res=match AZ W.cs with | none=>false | some v=>FI [] (wC W v) && (W.ns.all (fun c=>vg W c.mx false) && vsA W.ts.length 0 0 W.ss)):=ah (by rw [<- HR.o]; unfold vW; rw [if_neg (by simp; omega),if_neg (by simp; omega)];cases AZ W.cs <;> rfl);clear HR;go_wp2_with fail;refine (Nl W.cs W1 aC cC HSM.o.1 (HW1.o.cs.mono (by have:=pO.o; omega)) HK.o.cs).mono ?_;intro e w2 TN;clear q0 q1 q2 q3 q4 q5 q6;obtain ⟨TN,hb2⟩:=TN;have HB2:=ah hb2;have Cc:aj (Below nb w w2):=ah (HB.o.trans (hb2.mono (by have:=pO.o; omega)));have sN:=ah ((hb2.block nb (by have:=pO.o; omega)).trans HX.o);have JI:aj (nb + 1<=w2.heap.size):=ah (by have h1:=hb2.size; have h2:=pO.o; omega);clear hb2 g0 g1 g2 g3 g4 g5;have g0:=au (j:=0) sN.o rfl;have g1:=au (j:=1) sN.o rfl;have g2:=au (j:=2) sN.o rfl;have g3:=au (j:=3) sN.o rfl;have g4:=au (j:=4) sN.o rfl;have g5:=au (j:=5) sN.o rfl;simp only [List.getElem_toArray,List.getElem_cons_zero,List.getElem_cons_succ] at g0 g1 g2 g3 g4 g5;cases hv:AZ W.cs with
        | none=>rw [hv] at TN;obtain rfl:e=_:=TN;have HT:aj (res=false):=ah (by rw [HR2.o,hv]);go_wp2_with fail;go_ret;exact ⟨by rw [HT.o]; rfl,by rw [fD.o]; exact Cc.o⟩
        | some v=>
          rw [hv] at TN;obtain ⟨av,cv,rfl,hat,hcv⟩:=TN;have HR3:aj (res=(FI [] (wC W v) && (W.ns.all (fun c=>vg W c.mx false) && vsA W.ts.length 0 0 W.ss))):=ah (by rw [HR2.o,hv]);have HAT:=ah hat;have hvl:v.length<=12:=Nat.le_trans (Nr _ _ _ hv) HSM.o.1;have HCV:=ah hcv;have HW2:aj (gN w2 nb W ⟨aC,aL,aN,aF,aT,aS,cC,cL,cN,cF,cT,cS⟩):=ah (HW1.o.below (HB2.o.mono (by have:=pO.o; omega)));have uS:=ah (sU.o.same HB2.o);clear hat hcv hv HR2;go_wp2_with fail;refine (HV.o W _ v av cv w2 (HW2.o.mono (by have:=JI.o; omega)) uS.o HK.o HSM.o hvl HAT.o HCV.o).mono ?_;rintro e w3 ⟨rfl,hb3⟩;have HB3:=ah hb3;have an6:aj (Below nb w w3):=ah (Cc.o.trans (hb3.mono (by have:=JI.o; omega)));clear hb3 g0 g1 g2 g3 g4 g5;have AJ:=ah ((HB3.o.block nb (by have:=JI.o; omega)).trans sN.o);have aZ8:aj (nb + 1<=w3.heap.size):=ah (by have h1:=HB3.o.size; have h2:=JI.o; omega);have HW3:aj (gN w3 nb W ⟨aC,aL,aN,aF,aT,aS,cC,cL,cN,cF,cT,cS⟩):=ah (HW2.o.below (HB3.o.mono (by have:=JI.o; omega)));have g2:w3.cell? ⟨nb,2,none⟩=some (.slice aN W.ns.length cN):=au AJ.o rfl;cases hn:FI [] (wC W v)
          ·have HT:aj (res=false):=ah (by rw [HR3.o,hn]; rfl);go_wp2_with fail;go_ret;exact ⟨by rw [HT.o]; rfl,by rw [fD.o]; exact an6.o⟩
          ·have HR4:aj (res=(W.ns.all (fun c=>vg W c.mx false) && vsA W.ts.length 0 0 W.ss)):=ah (by rw [HR3.o,hn]; rfl);go_wp2_with fail;clear hn;go_loopw [6,62] (fun _ i wr=> ∃(k:Nat) (R:List C9),i= .int .i64 k∧k + R.length=W.ns.length∧W.ns.all (fun c=>vg W c.mx false)=R.all (fun c=>vg W c.mx false)∧dK qE 2 wr nb R aN k∧Below (nb + 1) w3 wr) (fun _ i _=>W.ns.length - (intOf i).toNat)
           case atStart=>exact ⟨0,W.ns,rfl,by simp,rfl,HW3.o.ns,Below.refl _ _⟩
           case round=>
            obtain ⟨k,R,rfl,hlen,heq,hrow,hbel⟩:=hrel;have HE:=ah heq;have kg:=ah hbel;have qC:=ah ((kg.o.block nb (Nat.lt_succ_self _)).trans AJ.o);have vI:aj (Below nb w wr):=ah (an6.o.trans (kg.o.mono (Nat.le_succ _)));have kE:aj (nb + 1<=wr.heap.size):=ah (by have h1:=kg.o.size; have h2:=aZ8.o; omega);have J9:aj (gN wr nb W ⟨aC,aL,aN,aF,aT,aS,cC,cL,cN,cF,cT,cS⟩):=ah (HW3.o.below (kg.o.mono (Nat.le_succ _)));clear heq hbel g2;cases R with
            | nil=>obtain rfl:k=W.ns.length:=(by simpa using hlen);have HT:aj (res=vsA W.ts.length 0 0 W.ss):=ah (by rw [HR4.o,HE.o]; rfl);have g0:=au (j:=0) qC.o rfl;have g1:=au (j:=1) qC.o rfl;have g2:=au (j:=2) qC.o rfl;have g3:=au (j:=3) qC.o rfl;have g4:=au (j:=4) qC.o rfl;have g5:=au (j:=5) qC.o rfl;simp only [List.getElem_toArray,List.getElem_cons_zero,List.getElem_cons_succ] at g0 g1 g2 g3 g4 g5;go_wp2_with fail;refine (Np W _ wr (J9.o.mono (by have:=kE.o; omega)) HSM.o.2.2.2.2.1).mono ?_;rintro e w5 ⟨rfl,hb5⟩;go_wp2_with fail;go_ret;exact ⟨by rw [HT.o]; rfl,by rw [fD.o]; exact vI.o.trans (hb5.mono (by have:=kE.o; omega))⟩
            | cons x R=>
              obtain ⟨⟨b,off,hao,hb1,hcs⟩,hrest⟩:=hrow;subst hao;simp only [List.length_cons] at hlen;have hkl:k < W.ns.length:=(by omega);have x0:=hcs 0 _ rfl;have x1:=hcs 1 _ rfl;simp only [Nat.add_zero] at x0;have ko:=ah hrest;have yU:aj (W.ns.all (fun c=>vg W c.mx false)=(vg W x.mx false && R.all (fun c=>vg W c.mx false))):=ah (by rw [HE.o,List.all_cons]);clear hcs hrest HE;go_upto_region 11 with fail;generalize tQ:World.alloc wr _=w4;obtain ⟨tb,htb⟩: ∃n,wr.heap.size=n:=⟨_,rfl⟩;have dO:aj (Below wr.heap.size wr w4):=ah (by rw [<- tQ]; exact ak _ _);have G8:aj (w4.heap[tb]? =some (.cells #[.string x.nm,.int .i64 x.mx] 90 (0,0))):=ah (by rw [<- tQ,<- htb]; exact heap_alloc_new _ _);rw [htb];clear tQ htb x0 x1;have kT:=ah ((dO.o.block nb (by have:=kE.o; omega)).trans qC.o);have Jy:aj (Below nb w w4):=ah (vI.o.trans (dO.o.mono (by have:=kE.o; omega)));have Wv:=ah ((J9.o.below (dO.o.mono (by have:=kE.o; omega))).mono (show nb<=w4.heap.size by have h1:=kE.o; have h2:=dO.o.size; omega));have g0:=au (j:=0) kT.o rfl;have g1:=au (j:=1) kT.o rfl;have g2:=au (j:=2) kT.o rfl;have g3:=au (j:=3) kT.o rfl;have g4:=au (j:=4) kT.o rfl;have g5:=au (j:=5) kT.o rfl;have t1:=au (j:=1) G8.o rfl;simp only [List.getElem_toArray,List.getElem_cons_zero,List.getElem_cons_succ] at g0 g1 g2 g3 g4 g5 t1;go_wp2_with fail;refine (LG W _ x.mx false w4 Wv.o).mono ?_;rintro e w5 ⟨rfl,hb5⟩;have kS:=ah (dO.o.trans (hb5.mono dO.o.size));have aW8:aj (Below nb w w5):=ah (Jy.o.trans (hb5.mono (by have h1:=kE.o; have h2:=dO.o.size; omega)));clear hb5 g0 g1 g2 g3 g4 g5 t1;cases hlk:vg W x.mx false
              ·have HT:aj (res=false):=ah (by rw [HR4.o,yU.o,hlk]; rfl);go_wp2_with fail;go_ret;exact ⟨by rw [HT.o]; rfl,by rw [fD.o]; exact aW8.o⟩
              ·have HE2:aj (W.ns.all (fun c=>vg W c.mx false)=R.all (fun c=>vg W c.mx false)):=ah (by rw [yU.o,hlk]; rfl);go_wp2_with fail;go_roundw
               case rel=>exact ⟨k + 1,R,by go_num,by omega,HE2.o,ko.o.below (kS.o.mono (by have:=kE.o; omega)),kg.o.trans (kS.o.mono kE.o)⟩
               case measure=>simp [intOf]; omega
theorem RF {w:World} {B b off:Nat} : ∀ {r:List ByteArray} {k:Nat},fP w B r (some ⟨b,off,none⟩) k-> ∀j u,(r.flatMap yN)[j]? =some u->w.cell? ⟨b,off + k + j,none⟩=some u
 | [],_,_,j,u,hu=>by simp at hu
 | s ::r,k,h,0,u,hu=>by
   obtain ⟨⟨b',off',e,-,hc,-⟩,-⟩:=h;injection e with e; injection e with e1 e2;subst e1 e2;have:u= .string s:=by simpa [yN] using hu.symm
   rw [this]; exact hc
 | s ::r,k,h,j + 1,u,hu=>by have:=RF h.2 j u (by simpa [yN] using hu);rw [show off + k + (j + 1)=off + (k + 1) + j by omega]; exact this
theorem al7 (l:List ByteArray):(l.flatMap yN).length=l.length * 1:=by induction l <;> simp_all [yN]
theorem Zr {l:List ByteArray} {u:Value} (h:u ∈ l.flatMap yN):u.oneCell'=true:=by
 obtain ⟨x,-,hx⟩:=List.mem_flatMap.1 h;simp [yN] at hx;rw [hx]; rfl
theorem Ej {ops:Array Oper} {rest:List Oper} {o:Oper} {a:Act} {Q:Exit->Act->World->Prop} (w:World) (hgd:o.guard=none) (s x:Operand)
 (ho:o.op= .call {callee:= .builtin .append,args:= #[s,x],argTypes:= #[31,31]}) {v:Value} {l r:List ByteArray} {B:Nat} {ao:Option Addr} {c:Nat}
 (hs:a.eval s=v) (hg:kQ B w v l) (hx:a.eval x= .slice ao r.length c) (hr:fP w w.heap.size r ao 0) (hlen:l.length + r.length<=1000000) (hB:B<=w.heap.size)
 (h: ∀v' w',kQ B w' v' (l++r)->w.grownBy w' v.ownBlock->(v'.ownBlock=v.ownBlock∨v'.ownBlock=some w.heap.size)->wpList Tryz.prog ops Q rest (a.put o.dst v') w'):wpList Tryz.prog ops Q (o ::rest) a w:=by
 obtain ⟨i0,hi,hz0,hz1,hz2⟩:=zq TP;cases ao with
 | some ad=>
   obtain ⟨b,off,p⟩:=ad;have hp:r=[]∨p=none:=by
    cases r with
    | nil=>exact .inl rfl
    | cons y r=>obtain ⟨⟨b',off',e,-⟩,-⟩:=hr; injection e with e; injection e with e1 e2 e3; exact .inr e3
   refine wpList_append_own_at w hgd s x 31 ho B 9 i0 _ 1 16 Tryz.underlying31 hi hz0 hz1 hz2 rfl (by decide) v l.length (l.flatMap yN) hs hg.own ⟨b,off,p⟩ r.length c (r.flatMap yN) hx (al7 r) ?_ (fun u hu=>Zr hu) (by unfold maxLen; omega) (by omega) hB ?_
   ·intro j u hu;rcases hp with rfl | rfl
    ·simp at hu
    ·have:=RF hr j u hu;simpa [Addr.add_lit] using this
   ·intro v' w' hown hgr hnil hat;exact h v' w' ⟨by rw [List.length_append,List.flatMap_append]; exact hown,fun _ _ _ _=>trivial⟩ hgr hat
 | none=>
   obtain rfl:r=[]:=by
    cases r with
    | nil=>rfl
    | cons y r=>obtain ⟨⟨b',off',e,-⟩,-⟩:=hr; cases e
   have hrun:(Builtin.append_ #[31,31] o.type #[v,.slice none 0 c]).run Tryz.prog w= .ok v w:=by
    rcases hg.own.2 with ⟨rfl,-⟩ | ⟨g,cap,cur,rfl,hbg,hgB,hnc,hcm,hcs,htake⟩
    ·simp [Builtin.append_,run_underlying Tryz.underlying31,sizeOf,typeInfo,hi,Builtin.lenOf,Builtin.firstCells,loadCells,loadCellsFrom]
    ·simp [Builtin.append_,run_underlying Tryz.underlying31,sizeOf,typeInfo,hi,Builtin.lenOf,hnc,run_firstCells_none,storeCells]
   refine wpList_plain hgd fun K hK=> ?_;unfold Oper.wp execOp;simp only [ho,resolve,invoke,builtin,Sem.run_bind,Sem.run_pure,Result.andThen_ok,List.map_toArray,List.map_cons,List.map_nil,hs,hx,List.length_nil,hrun];exact hK _ _ (h v w (by simpa using hg) ⟨rfl,rfl,rfl,Nat.le_refl _,fun _ _ _=>rfl⟩ (.inl rfl))
theorem aI6 {B:Nat} {w w':World} {v:Value} {l:List ByteArray} (hg:kQ B w v l) (h:w.grownBy w' v.ownBlock) (hB:B<=w.heap.size):Below B w w':=
 ⟨h.os,h.tape,h.output,h.size,fun q hq=>h.block q (by omega) (fun e=>by have:=(hg.lt q e.symm).1; omega)⟩
theorem Yo {w:World} {nm:ByteArray} {t:TypeId} (h:nm.size<=maxLen):fP (w.alloc (.cells #[.string nm] t)) (w.alloc (.cells #[.string nm] t)).heap.size [nm] (some ⟨w.heap.size,0,none⟩) 0:=
 ⟨⟨_,0,rfl,by simp,au (j:=0) (heap_alloc_new _ _) rfl,h⟩,trivial⟩
structure Bw (w0:World) (nb:Nat) (W:Wo) (s:jM) (w:World) (v:Value) (l:List ByteArray):Prop where
 g:kQ nb w v l
 ne: ∀q,v.ownBlock=some q->nb < q
 x:w.heap[nb]? =some (.cells #[.slice s.aC W.cs.length s.cC,.slice s.aL W.ls.length s.cL,.slice s.aN W.ns.length s.cN,.slice s.aF W.fs.length s.cF,.slice s.aT W.ts.length s.cT,.slice s.aS W.ss.length s.cS] 34 (0,0))
 wo:gN w nb W s
 b:Below nb w0 w
section
variable {w0:World} {nb:Nat} {W:Wo} {s:jM} {w w':World} {v v':Value} {l l':List ByteArray}
theorem Bw.lt (h:Bw w0 nb W s w v l):nb < w.heap.size:=(Array.getElem?_eq_some_iff.1 h.x).1
theorem Bw.step (h:Bw w0 nb W s w v l) (hg:kQ nb w' v' l') (hgr:w.grownBy w' v.ownBlock) (hat:v'.ownBlock=v.ownBlock∨v'.ownBlock=some w.heap.size):Bw w0 nb W s w' v' l':=by
 have hB:=aI6 h.g hgr (Nat.le_of_lt h.lt);refine ⟨hg,fun q hq=> ?_,(hgr.block nb h.lt (fun e=>by have:=h.ne nb e.symm; omega)).trans h.x,h.wo.below hB,h.b.trans hB⟩;rcases hat with e | e
 ·rw [e] at hq; exact h.ne q hq
 ·rw [e] at hq; injection hq with hq; have:=h.lt; omega
theorem Bw.next (h:Bw w0 nb W s w v l) (hb:Below w.heap.size w w'):Bw w0 nb W s w' v l:=
 ⟨h.g.next (dB hb),h.ne,(hb.block nb h.lt).trans h.x,h.wo.below (hb.mono (Nat.le_of_lt h.lt)),h.b.trans (hb.mono (Nat.le_of_lt h.lt))⟩
theorem Bw.cells (h:Bw w0 nb W s w v l):w.cell? ⟨nb,1,none⟩=some (.slice s.aL W.ls.length s.cL)∧w.cell? ⟨nb,2,none⟩=some (.slice s.aN W.ns.length s.cN)∧w.cell? ⟨nb,3,none⟩=some (.slice s.aF W.fs.length s.cF)∧w.cell? ⟨nb,4,none⟩=some (.slice s.aT W.ts.length s.cT):=
 ⟨au (j:=1) h.x rfl,au (j:=2) h.x rfl,au (j:=3) h.x rfl,au (j:=4) h.x rfl⟩
theorem Bw.val (h:Bw w0 nb W s w v l): ∃ao cap,v= .slice ao l.length cap:=h.g.len
end
theorem Om {α β:Type} {f:α->β} {l:List α} {k:Nat} {x:α} (h:l[k]? =some x):(l.take (k + 1)).map f=(l.take k).map f++[f x]:=by
 rw [List.take_add_one,h]; simp
theorem Fj {w:World} {B:Nat} {ao:Option Addr} : ∀ {l:List ByteArray} {k:Nat},fP w B l ao k-> ∀x ∈ l,x.size<=maxLen
 | [],_,_,x,hx=>by cases hx
 | s ::r,_,h,x,hx=>by
   rcases List.mem_cons.1 hx with rfl | hx
   ·obtain ⟨⟨b,off,-,-,-,hs⟩,-⟩:=h; exact hs
   ·exact Fj h.2 x hx
theorem Nn:WJ:=by
 intro W s v av cv w hw fK hk hsm hv hav hcv;have HW:=ah hw;have kD:=ah fK;have HK:=ah hk;have SC:=ah hav;have sV:aj (∀x ∈ v,x.size<=maxLen):=ah (Fj hav);obtain ⟨hs0,hs1,hs2,hs3,hs4,hs5,hs6⟩:=hsm;obtain ⟨res,hres⟩: ∃r,FI [] (wC W v)=r:=⟨_,rfl⟩;have HR:=ah hres;rw [hres];have hmm:= @run_makeMap Tryz.prog;clear hw fK hk hav hres;unfold pY;go_enter Tryz.func47,Tryz.ntmps47;go_upto_region 1 with fail;generalize hW:World.alloc w _=W1;obtain ⟨nb,hnb⟩: ∃n,w.heap.size=n:=⟨_,rfl⟩;have HB:aj (Below nb w W1):=ah (by rw [<- hW,<- hnb]; exact ak _ _);have HI:aj (Bw w nb W s W1 (.slice none 0 0) []):=ah ⟨Grow.nil _ _ _ _ _ _,fun q hq=>(by cases hq),(by rw [<- hW,<- hnb]; exact heap_alloc_new _ _),(by have:=HW.o; rw [hnb] at this; exact this.below HB.o),HB.o⟩;have HA1:aj (fP W1 W1.heap.size v av 0):=ah (by have h1:=SC.o; have h2:=HB.o; rw [<- hnb] at h2; exact h1.same h2);have fD:=ah hnb;rw [hnb];clear hW hnb HW SC HB;go_wp2_with (at_builtin; refine Ej W1 rfl _ _ rfl rfl HI.o.g rfl HA1.o (by simp; omega) (Nat.le_of_lt HI.o.lt) ?_);intro v1 w1 hg1 aB4 aA5;have HI1:=ah (HI.o.step hg1 aB4 aA5);clear hg1 aB4 aA5 HI HA1;obtain ⟨g1,g2,g3,g4⟩:=HI1.o.cells;go_wp2_with fail;clear g1 g2 g3 g4;go_loopw [5,7,19] (fun v5 _ v19 wr=> ∃k:Nat,v19= .int .i64 k∧k<=W.ls.length∧Bw w nb W s wr v5 (v++(W.ls.take k).map (·.nm))) (fun _ _ v _=>W.ls.length - (intOf v).toNat)
 case atStart=>exact ⟨0,rfl,Nat.zero_le _,by simpa using HI1.o⟩
 case round=>
  obtain ⟨k,rfl,hk,hi⟩:=hrel;obtain ⟨acc,hacc⟩: ∃acc,v++(W.ls.take k).map (·.nm)=acc:=⟨_,rfl⟩;rw [hacc] at hi;have HI:=ah hi;have IV:=ah hacc;have bs9:acc.length<=100:=by rw [<- hacc]; simp; omega
  clear hi hacc;by_cases hkl:k < W.ls.length
  ·obtain ⟨x,hx⟩: ∃x,W.ls[k]? =some x:=⟨_,List.getElem?_eq_getElem hkl⟩;have HX:=ah hx;obtain ⟨b,off,hao,hb1,hcs⟩:=HI.o.wo.ls.at k x hx;have zH:=ah hao;have x0:=hcs 0 _ rfl;have x1:=hcs 1 _ rfl;simp only [Nat.zero_add,Nat.add_zero] at x0 x1;have HL:aj (∀q,q=s.aL->q=some ⟨b,off,none⟩):=ah (fun q e=>by rw [e]; exact zH.o);clear hcs hx;rw [hao];go_upto_region 6 with fail;obtain ⟨cb,hcb⟩: ∃n,wr.heap.size=n:=⟨_,rfl⟩;generalize hW2:World.alloc wr _=w2;have HB2:aj (Below wr.heap.size wr w2):=ah (by rw [<- hW2]; exact ak _ _);have qO:aj (w2.heap[cb]? =some (.cells #[.string x.nm,.bool x.rw] 88 (0,0))):=ah (by rw [<- hW2,<- hcb]; exact heap_alloc_new _ _);have HI2:=ah (HI.o.next HB2.o);rw [hcb];clear hW2 hcb x0 x1 HI HB2;have y0:w2.cell? ⟨cb,0,none⟩=some (.string x.nm):=au qO.o rfl;have HI3:=ah (HI2.o.next (ak w2 (.cells #[.string x.nm] 9)));have hlen:acc.length + 1<=1000000:=by omega
   have hnm:x.nm.size<=maxLen:=HK.o.ls x (List.mem_of_getElem? HX.o);go_wp2_with (at_builtin; refine Ej _ rfl _ _ rfl rfl HI3.o.g rfl (Yo hnm) hlen (Nat.le_of_lt HI3.o.lt) ?_);intro v3 w3 hg3 QF Qy;have HI4:=ah (HI3.o.step hg3 QF (by simpa using Qy));have HE:aj (acc++[x.nm]=v++(W.ls.take (k + 1)).map (·.nm)):=ah (by rw [<- IV.o,Om (f:=fun y:uT=>y.nm) HX.o,List.append_assoc]);clear hg3 QF Qy HI3 HI2 qO y0 hlen hnm;go_wp2_with fail;go_roundw
   case rel=>exact ⟨k + 1,by go_num,by omega,by rw [<- HE.o]; exact HI4.o⟩
   case measure=>simp [intOf]; omega
  ·obtain rfl:k=W.ls.length:=by omega
   rw [List.take_length] at IV;have HA0:=IV;obtain ⟨g1,g2,g3,g4⟩:=HI.o.cells;obtain ⟨wA,hwA⟩: ∃X:World,X=wr:=⟨_,rfl⟩;subst hwA;go_wp2_with fail;clear g1 g2 g3 g4;go_loopw [5,9,32] (fun v5 _ v32 wr=> ∃k:Nat,v32= .int .i64 k∧k<=W.ns.length∧Bw w nb W s wr v5 (acc++(W.ns.take k).map (·.nm))) (fun _ _ v _=>W.ns.length - (intOf v).toNat)
   case atStart=>exact ⟨0,rfl,Nat.zero_le _,by simpa using HI.o⟩
   case round=>
    obtain ⟨k,rfl,hk,hi⟩:=hrel;obtain ⟨Q7,hacc⟩: ∃Q7,acc++(W.ns.take k).map (·.nm)=Q7:=⟨_,rfl⟩;rw [hacc] at hi;have HI:=ah hi;have IV:=ah hacc;have bq6:Q7.length<=200:=(by rw [<- hacc]; simp; omega);clear hi hacc;by_cases hkl:k < W.ns.length
    ·obtain ⟨x,hx⟩: ∃x,W.ns[k]? =some x:=⟨_,List.getElem?_eq_getElem hkl⟩;have HX:=ah hx;obtain ⟨b,off,hao,hb1,hcs⟩:=HI.o.wo.ns.at k x hx;have x0:=hcs 0 _ rfl;have x1:=hcs 1 _ rfl;simp only [Nat.zero_add,Nat.add_zero] at x0 x1;clear hcs hx;rw [hao];go_upto_region 11 with fail;obtain ⟨cb,hcb⟩: ∃n,wr.heap.size=n:=⟨_,rfl⟩;generalize hW2:World.alloc wr _=w2;have HB2:aj (Below wr.heap.size wr w2):=ah (by rw [<- hW2]; exact ak _ _);have qO:aj (w2.heap[cb]? =some (.cells #[.string x.nm,.int .i64 x.mx] 90 (0,0))):=ah (by rw [<- hW2,<- hcb]; exact heap_alloc_new _ _);have HI2:=ah (HI.o.next HB2.o);rw [hcb];clear hW2 hcb x0 x1 HI HB2;have y0:w2.cell? ⟨cb,0,none⟩=some (.string x.nm):=au qO.o rfl;have HI3:=ah (HI2.o.next (ak w2 (.cells #[.string x.nm] 9)));have hlen:Q7.length + 1<=1000000:=(by omega);have hnm:x.nm.size<=maxLen:=HK.o.ns x (List.mem_of_getElem? HX.o);go_wp2_with (at_builtin; refine Ej _ rfl _ _ rfl rfl HI3.o.g rfl (Yo hnm) hlen (Nat.le_of_lt HI3.o.lt) ?_);intro v3 w3 hg3 QF Qy;have HI4:=ah (HI3.o.step hg3 QF (by simpa using Qy));have HE:aj (Q7++[x.nm]=acc++(W.ns.take (k + 1)).map (·.nm)):=ah (by rw [<- IV.o,Om (f:=fun y:C9=>y.nm) HX.o,List.append_assoc]);clear hg3 QF Qy HI3 HI2 qO y0 hlen hnm;go_wp2_with fail;go_roundw
     case rel=>exact ⟨k + 1,by go_num,by omega,by rw [<- HE.o]; exact HI4.o⟩
     case measure=>simp [intOf]; omega
    ·obtain rfl:k=W.ns.length:=(by omega);rw [List.take_length] at IV;obtain ⟨g1,g2,g3,g4⟩:=HI.o.cells;obtain ⟨wB,hwB⟩: ∃X:World,X=wr:=⟨_,rfl⟩;subst hwB;have hl5:Q7.length + W.fs.length<=1000000:=(by omega);go_wp2_with (at_builtin; refine Ej _ rfl _ _ rfl rfl HI.o.g rfl (HI.o.wo.fs.mono (Nat.le_of_lt HI.o.lt)) hl5 (Nat.le_of_lt HI.o.lt) ?_);intro v4 w4 hg4 aB5 zm;have hi4:=HI.o.step hg4 aB5 zm;obtain ⟨WK,Vg⟩: ∃WK,Q7++W.fs=WK:=⟨_,rfl⟩;rw [Vg] at hi4;have HI4:=ah hi4;have aW7:=ah Vg;have bq7:WK.length<=300:=(by rw [<- Vg]; simp; omega);clear hg4 aB5 zm HI g1 g2 g3 g4 hl5 hi4 Vg;obtain ⟨g1,g2,g3,g4⟩:=HI4.o.cells;have hl6:WK.length + W.ts.length<=1000000:=(by omega);go_wp2_with (at_builtin; refine Ej _ rfl _ _ rfl rfl HI4.o.g rfl (HI4.o.wo.ts.mono (Nat.le_of_lt HI4.o.lt)) hl6 (Nat.le_of_lt HI4.o.lt) ?_);intro v5 w5 hg5 hgr5 aA6;have HEN:aj (WK++W.ts=wC W v):=ah (by rw [<- aW7.o,<- IV.o,<- HA0.o]; rfl);have iw:aj (Bw w nb W s w5 v5 (wC W v)):=ah (by rw [<- HEN.o]; exact HI4.o.step hg5 hgr5 aA6);have SQ:aj (∀x ∈ wC W v,x.size<=maxLen):=ah (fun x hx=>by
      have hw:=iw.o.wo;unfold wC at hx;simp only [List.mem_append,List.mem_map] at hx;rcases hx with (((h | ⟨y,h,rfl⟩) | ⟨y,h,rfl⟩) | h) | h
      ·exact sV.o x h
      ·exact HK.o.ls y h
      ·exact HK.o.ns y h
      ·exact Fj hw.fs x h
      ·exact Fj hw.ts x h)
     clear hg5 hgr5 aA6 HI4 g1 g2 g3 g4 hl6;obtain ⟨WL,bs6,rfl,hcN,hst⟩:=kQ.says (show kQ nb w5 v5 (wC W v) from iw.o.g) SQ.o;obtain ⟨mb,hmb⟩: ∃n,w5.heap.size=n:=⟨_,rfl⟩;have HTN:aj (fP w5 mb (wC W v) WL 0):=ah (by rw [<- hmb]; exact hst.now);have kS:aj (Below nb w w5):=ah iw.o.b;have aY9:aj (nb < mb):=ah (by rw [<- hmb]; exact iw.o.lt);have HMB:=ah hmb;have yD:aj ((wC W v).length<=1000000):=ah (by unfold wC; simp; omega);clear hst hcN iw SQ hmb;generalize wC W v=l at *;have hl6:=yD.o;have HM0:aj (jF (w5.alloc (.map #[] 0)) mb 0 (fun _=>false)):=ah (by rw [<- HMB.o]; exact jF.made w5);have bU:aj (Below mb w5 (w5.alloc (.map #[] 0))):=ah (by rw [<- HMB.o]; exact ak _ _);go_wp2_with fail;rw [HMB.o];go_loopw [12,53] (fun _ v53 wr=> ∃(k:Nat) (pre R:List ByteArray),v53= .int .i64 k∧pre++R=l∧pre.length=k∧jF wr mb k (fun q=>(pre.map (·.toList)).contains q)∧res=FI (pre.map (·.toList)) R∧Below mb w5 wr) (fun _ v _=>l.length - (intOf v).toNat)
     case atStart=>exact ⟨0,[],l,rfl,rfl,rfl,HM0.o.congr (fun _=>rfl),HR.o.symm,bU.o⟩
     case round=>
      obtain ⟨k,pre,R,rfl,hds,hk,hmap,hres,hbel⟩:=hrel;have HM:=ah hmap;have HE:=ah hres;have HB:=ah hbel;have wT:=ah hds;have HPK:=ah hk;have vI:aj (Below w.heap.size w wr):=ah (by rw [fD.o]; exact kS.o.trans (HB.o.mono (Nat.le_of_lt aY9.o)));have hlen:k + R.length=l.length:=(by rw [<- hds,List.length_append,hk]);have hrow:=(HTN.o.below HB.o).drop k;rw [Nat.zero_add,<- hds,<- hk,List.drop_left] at hrow;rw [hk] at hrow;clear hmap hres hbel hds hk;cases R with
      | nil=>obtain rfl:k=l.length:=(by simpa using hlen);have HT:aj (res=true):=ah HE.o;go_wp2_with fail;go_ret;exact ⟨by rw [HT.o]; rfl,vI.o⟩
      | cons x R=>
        obtain ⟨⟨b,off,hao,hb1,x0,hsz⟩,-⟩:=hrow;simp only [List.length_cons] at hlen;have hkl:k < l.length:=(by omega);have NM:aj (res=((Tk.gZ x.toList && !((pre.map (·.toList)).contains x.toList)) && FI (pre.map (·.toList)++[x.toList]) R)):=ah HE.o;rw [hao];go_wp2_with fail;refine (ze x wr (kD.o.same vI.o) hsz).mono ?_;rintro e w6 ⟨rfl,hb6⟩;have an7:=ah (vI.o.trans (hb6.mono vI.o.size));have ND:=ah (HM.o.next hb6);have FM:aj (Below mb w5 w6):=ah (HB.o.trans (hb6.mono (Nat.le_of_lt HM.o.lt)));clear hb6 x0;rw [<- Lib.toList_data x];cases hn:Tk.gZ x.toList
        ·have HT:aj (res=false):=ah (by rw [NM.o,hn]; rfl);go_wp2_with fail;go_ret;exact ⟨by rw [HT.o]; rfl,an7.o⟩
        ·have hk1:=ND.o.look x hsz;cases hc:(pre.map (·.toList)).contains x.toList
         ·obtain ⟨w7,hup,hm7,GR⟩:=ND.o.put (by unfold maxLen; omega) x hsz true;have J5:=ah hm7;have IW:aj (Below mb w5 w7):=ah (FM.o.trans (bQ GR (Nat.le_refl _) (Nat.le_of_lt ND.o.lt)));have HT:aj (res=FI (pre.map (·.toList)++[x.toList]) R):=ah (by rw [NM.o,hn,hc]; rfl);clear hm7 GR;simp only [hc] at hk1;go_wp2_with fail;go_roundw
          case rel=>exact ⟨k + 1,pre++[x],R,by go_num,by rw [List.append_assoc]; exact wT.o,by simp [HPK.o],J5.o.congr (fun q=>by simp [List.contains_iff_mem]; grind),by rw [List.map_append]; exact HT.o,IW.o⟩
          case measure=>simp [intOf]; omega
         ·have HT:aj (res=false):=ah (by rw [NM.o,hn,hc]; rfl);simp only [hc] at hk1;go_wp2_with fail;go_ret;exact ⟨by rw [HT.o]; rfl,an7.o⟩
end Go.Proofs.YtfbbaiejbjdfbaaGreatDoor
