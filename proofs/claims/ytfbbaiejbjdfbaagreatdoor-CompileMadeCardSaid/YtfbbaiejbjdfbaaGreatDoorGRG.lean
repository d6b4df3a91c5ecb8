/- Contract of the reference's Program; the walks of awake and of the law CheckTells. And what hangs on it. -/
import Derived.Test.YtfbbaiejbjdfbaaGreatDoorGRE
import Derived.Test.YtfbbaiejbjdfbaaGreatDoorGML
import Derived.Test.YtfbbaiejbjdfbaaGreatDoorGRF
import Derived.Test.YtfbbaiejbjdfbaaGreatDoorGRB
import Derived.Test.YtfbbaiejbjdfbaaGreatDoorGPL
import Derived.Test.YtfbbaiejbjdfbaaGreatDoorGPH
set_option linter.unusedSimpArgs false
set_option linter.unusedVariables false
set_option maxHeartbeats 40000000
set_option maxRecDepth 1000000
namespace Go.Proofs.YtfbbaiejbjdfbaaGreatDoor
open Go.RowKit
namespace Md
theorem Yn {p:Pr} (h:(lW p).1=0):wG p.ds p.ts []=none:=by
 unfold lW at h;split at h
 ·simp at h
 ·rename_i h'; exact h'
end Md
open Md
theorem am2 {p:Pr} {w W:World} {aB aD:Option Addr} {aA ay n:Nat} (hn:w.heap.size=n) (hp:p.At w aB aD)
 (hW:w.alloc (.cells #[.slice aB p.ds.length aA,.slice aD p.ts.length ay,.int .i64 0,.slice none 0 0,.slice none 0 0,.slice none 0 0] 104)=W):
 kM W ⟨n,n + 1,n,Nat.le_refl _,Nat.lt_succ_self _⟩ p aB aD aA ay 0 [] [] [] (.slice none 0 0) (.slice none 0 0) (.slice none 0 0)∧Below w.heap.size w W:=by
 subst hn;have hb:Below w.heap.size w W:=by rw [<- hW]; exact ak _ _
 refine ⟨{blk:=by rw [<- hW]; exact heap_alloc_new _ _,row:=World.ownsRow_nil _ _ _ _,rs:=World.ownsRow_nil _ _ _ _,re:=World.ownsRow_nil _ _ _ _,d1:=by intro k hk; simp [Value.ownBlock] at hk,d2:=by intro k hk; simp [Value.ownBlock] at hk,d3:=by intro k hk; simp [Value.ownBlock] at hk,sz:=by rw [<- hW]; simp,dat:=⟨hp.1,hp.2.1,hp.2.2.1.below hb,hp.2.2.2.below hb⟩,qQ:=by intro x hx; simp at hx,fo:=by intro x hx; simp at hx,go:=by intro x hx; simp at hx},hb⟩
theorem A9 (p:Pr) (w:World) (aB aD:Option Addr) (aA ay:Nat) (hp:p.At w aB aD) (FB:p.ds.length<=aA) (Li:p.ts.length<=ay):
 Calls Tryz.prog 15 #[.agg #[.slice aB p.ds.length aA,.slice aD p.ts.length ay]] w fun e w'=>e= .returned (.tuple #[.int .i64 (jr p).1,.int .i64 (jr p).2])∧Below w.heap.size w w':=by
 have HS:aj (jr p=if !qz p then (3,0) else if (mW p.ds [] 0 0 0 0).1 != 0 then mW p.ds [] 0 0 0 0 else
  if decide ((4:Int) < p.ts.length) then (2,0) else if (lW p).1 != 0 then lW p else
  if decide (60 < rG p.ts 0) then (2,0) else ((ji p (kC p) p.ts 0 [] []).err,(ji p (kC p) p.ts 0 [] []).line)):=ah rfl
 generalize jr p=res at *;have hld:=hp.1;have hlt:=hp.2.1;unfold maxLen at hld hlt;have HP:=ah hp;have HCD:=ah FB;have HCT:=ah Li;clear hp FB Li;go_enter Tryz.func15,Tryz.ntmps15;go_upto_region 1 with fail;generalize hW:World.alloc w _=W;generalize Value.agg #[_,_]=a0;have HX:=ah ((Sit.start w).yg rfl (.slice aB p.ds.length aA) (.slice aD p.ts.length ay) 26);rw [hW] at HX;clear hW;obtain ⟨-,⟨-,c0⟩,⟨-,c1⟩,-⟩:=HX.o;go_wp2_with fail;refine (OA p _ aB aD aA ay (HP.o.same HX.o.1)).mono ?_;rintro e w1 ⟨rfl,hb1⟩;have HY:=ah (HX.o.next hb1);clear HX hb1 c0 c1;obtain ⟨-,⟨-,c0⟩,⟨-,c1⟩,-⟩:=HY.o;have AA:aj (qz p=true->(∀d ∈ p.ds,jd d=true)∧(∀t ∈ p.ts,dW t.body=true)∧ ∃t0 r0,p.ts=t0 ::r0):=ah (fun h=>by
  unfold qz at h;simp only [Bool.and_eq_true,List.all_eq_true,decide_eq_true_eq] at h;refine ⟨h.1.1,fun t ht=> ?_,?_⟩
  ·have:=h.1.2 t ht;unfold pI at this;simp only [Bool.and_eq_true] at this;exact this.2
  ·cases hts:p.ts with
   | nil=>rw [hts] at h; simp at h
   | cons a b=>exact ⟨a,b,rfl⟩)
 cases hS:qz p
 ·have HE:aj (res=(3,0)):=ah (HS.o.trans (by rw [hS]; rfl));clear AA;go_wp2_with fail
  go_ret2
  exact ⟨rM (by rw [HE.o]; rfl) (by rw [HE.o]; rfl),HY.o.1⟩
 ·have HE:aj (res=if (mW p.ds [] 0 0 0 0).1 != 0 then mW p.ds [] 0 0 0 0 else
   if decide ((4:Int) < p.ts.length) then (2,0) else if (lW p).1 != 0 then lW p else
   if decide (60 < rG p.ts 0) then (2,0) else ((ji p (kC p) p.ts 0 [] []).err,(ji p (kC p) p.ts 0 [] []).line)):=ah (HS.o.trans (by rw [hS]; rfl))
  have tK:=ah (AA.o hS);have qL:aj ((mW p.ds [] 0 0 0 0).1=0->p.ds.length<=1000000000000):=ah (fun h0=>by have:=CJ p.ds [] 0 0 0 0 tK.o.1 h0 (by omega); omega);clear HS AA;go_wp2_with fail;refine (PV p.ds _ aB aA HP.o.1 HCD.o ((HP.o.same HY.o.1).2.2.1) tK.o.1).mono ?_;rintro e w2 ⟨rfl,hb2⟩;have HZ:=ah (HY.o.next hb2);clear HY hb2 c0 c1;obtain ⟨-,⟨-,c0⟩,⟨-,c1⟩,-⟩:=HZ.o;generalize mW p.ds [] 0 0 0 0=dd at *;cases h1:(dd.1 != 0)
  case true=>
   have cZ:aj (res=dd):=ah (HE.o.trans (if_pos h1));clear HE tK qL;go_wp2_with fail
   go_ret2
   exact ⟨rM (by rw [cZ.o]; rfl) (by rw [cZ.o]; rfl),HZ.o.1⟩
  have yU:aj (res=if decide ((4:Int) < p.ts.length) then (2,0) else if (lW p).1 != 0 then lW p else
   if decide (60 < rG p.ts 0) then (2,0) else ((ji p (kC p) p.ts 0 [] []).err,(ji p (kC p) p.ts 0 [] []).line)):=ah (HE.o.trans (if_neg (by rw [h1]; decide)))
  have aX2:=ah (qL.o (by simpa using h1));clear HE qL;by_cases h4:(4:Int) < (p.ts.length:Int)
  ·have cZ:aj (res=(2,0)):=ah (yU.o.trans (if_pos (by simpa using h4)));clear yU tK;go_wp2_with fail
   go_ret2
   exact ⟨rM (by rw [cZ.o]; rfl) (by rw [cZ.o]; rfl),HZ.o.1⟩
  have HE2:aj (res=if (lW p).1 != 0 then lW p else
   if decide (60 < rG p.ts 0) then (2,0) else ((ji p (kC p) p.ts 0 [] []).err,(ji p (kC p) p.ts 0 [] []).line)):=ah (yU.o.trans (if_neg (by simpa using h4)))
  have h4':(p.ts.length:Int)<=4:=by omega
  have za:aj (p.ts.length<=4):=ah (by omega);have HTZ:=ah (Yn (p:=p));clear yU;go_wp2_with fail;refine (MG p _ aB aD aA ay (HP.o.same HZ.o.1) HCT.o).mono ?_;rintro e w3 ⟨rfl,hb3⟩;have HV:=ah (HZ.o.next hb3);clear HZ hb3 c0 c1 h1;obtain ⟨-,⟨-,c0⟩,⟨-,c1⟩,-⟩:=HV.o;generalize lW p=tt at *;cases h2:(tt.1 != 0)
  case true=>
   have cZ:aj (res=tt):=ah (HE2.o.trans (if_pos h2));clear HE2 tK HTZ;go_wp2_with fail
   go_ret2
   exact ⟨rM (by rw [cZ.o]; rfl) (by rw [cZ.o]; rfl),HV.o.1⟩
  have sS:aj (res=if decide (60 < rG p.ts 0) then (2,0) else ((ji p (kC p) p.ts 0 [] []).err,(ji p (kC p) p.ts 0 [] []).line)):=ah (HE2.o.trans (if_neg (by rw [h2]; decide)));have HTN:=ah (HTZ.o (by simpa using h2));clear HE2 HTZ;have rH:=(HP.o.same HV.o.1).2.2.2;go_wp2_with fail;go_loopw [8,9] (fun s8 s wr=> ∃(k:Nat) (R:List Th) (n:Int),s= .int .i64 k∧s8= .int .i64 n∧k + R.length=p.ts.length∧rG p.ts 0=rG R n∧iN wr wr.heap.size R aD k∧Sit w wr [(w.heap.size,0,(.slice aB p.ds.length aA)),(w.heap.size,1,(.slice aD p.ts.length ay))]) (fun _ s _=>p.ts.length - (intOf s).toNat)
  case atStart=>exact ⟨0,p.ts,0,rfl,rfl,by simp,rfl,rH,HV.o⟩
  case round=>
   obtain ⟨k,R,n,rfl,rfl,hlen,heq,hrow,hsit⟩:=hrel;have HU:=ah hsit;have HQ:=ah heq;clear hsit HV c0 c1 rH heq h2;obtain ⟨-,⟨-,c0⟩,⟨-,c1⟩,-⟩:=HU.o;cases R with
   | cons t R=>
     obtain ⟨⟨b,off,iK,fq,cu,bJ,rfl,hB,x0,x1,x2,x3,hok,htx,hst,hcl⟩,hrest⟩:=hrow;simp only [List.length_cons] at hlen;have hkl:k < p.ts.length:=(by omega);have nK:=ah hok;have HST:=ah hst;clear hok htx hst hcl;go_wp2_with fail;refine (PU t.body _ cu bJ nK.o.2.2.2 HST.o).mono ?_;rintro e' w4 ⟨rfl,hb4⟩;have kS:=ah hb4;clear hb4 c0 c1 x0 x1 x2 x3;go_wp2_with fail;go_roundw
     case rel=>exact ⟨k + 1,R,_,by go_num,rfl,by omega,HQ.o.trans rfl,hrest.same kS.o,HU.o.next kS.o⟩
     case measure=>simp [intOf]; omega
   | nil=>
     obtain rfl:k=p.ts.length:=(by simpa using hlen);have HN:aj (rG p.ts 0=n):=HQ;by_cases h6:60 < n
     ·have cZ:aj (res=(2,0)):=ah (sS.o.trans (if_pos (by rw [HN.o]; simpa using h6)));clear sS tK;go_wp2_with fail
      go_ret2
      exact ⟨rM (by rw [cZ.o]; rfl) (by rw [cZ.o]; rfl),HU.o.1⟩
     ·have h6':n<=60:=(by omega);obtain ⟨-,-,t0,r0,hts⟩:=tK.o;have mU:=ah hts;have HHN:aj (kC p=t0.nm):=ah (by unfold kC; rw [hts]; rfl);have cZ:aj (res=((ji p t0.nm p.ts 0 [] []).err,(ji p t0.nm p.ts 0 [] []).line)):=ah (sS.o.trans ((if_neg (by rw [HN.o]; simpa using h6)).trans (by rw [HHN.o])));clear sS hts hrow;go_upto_region 19 with fail;obtain ⟨wo,rfl⟩: ∃wo:World,wo=wr:=⟨_,rfl⟩;obtain ⟨nb,hnb⟩: ∃n,wo.heap.size=n:=⟨_,rfl⟩;generalize hW2:World.alloc wo _=W2;have au5:=ah (am2 hnb (HP.o.same HU.o.1) hW2);have fD:=ah hnb;have DY:aj (w.heap.size < nb):=ah (by rw [<- hnb]; exact HU.o.2.1.1);rw [hnb];clear hW2 hnb c0 c1;have D9:aj (Below nb wo W2):=ah (by rw [<- fD.o]; exact au5.o.2);generalize hL:(⟨nb,nb + 1,nb,Nat.le_refl _,Nat.lt_succ_self _⟩:ug)=L at *;have SK:aj (L.B0=nb∧L.bc=nb):=ah (by rw [<- hL]; exact ⟨rfl,rfl⟩);have Xh:nb=L.bc:=SK.o.2.symm;have HB0:aj (Below L.B0 wo W2):=ah (by rw [SK.o.1]; exact D9.o);clear hL;generalize hrr:ji p t0.nm p.ts 0 [] []=rr at *;have HRR:=ah hrr;rw [Xh];clear hrr Xh D9 fD;have c1:W2.cell? ⟨w.heap.size,1,none⟩=some (.slice aD p.ts.length ay):=(HB0.o.cell (p:=⟨w.heap.size,1,none⟩) (by have:=DY.o; have:=SK.o.1; show w.heap.size < _; omega)).trans HU.o.2.2.1.2;go_wp2_with fail;go_loopw [11,12,13] (fun s _ _ wr=> ∃(k:Nat) (R:List Th) (f1 g1:List ByteArray) (v1 s1 e1:Value) (i1:Int),s= .int .i64 k∧k + R.length=p.ts.length∧p.ts.drop k=R∧rr=ji p t0.nm R k (nms f1) (nms g1)∧oz (kX p) (nms f1)∧oz (lQ p) (nms g1)∧Below L.B0 wo wr∧kM wr L p aB aD aA ay i1 [] f1 g1 v1 s1 e1) (fun s _ _ _=>p.ts.length - (intOf s).toNat)
      case atStart=>exact ⟨0,p.ts,[],[],_,_,_,0,rfl,by simp,rfl,HRR.o.symm,⟨List.nodup_nil,by simp [nms]⟩,⟨List.nodup_nil,by simp [nms]⟩,HB0.o,au5.o.1⟩
      case round=>
       obtain ⟨k,R,f1,g1,v1,s1,e1,i1,rfl,hlen,hdr,heq,hf1,hg1,hB,hI⟩:=hrel;have HE:=ah heq;have Bl:=ah hf1;have yV:=ah hg1;have HB:=ah hB;have HI:=ah hI;have HDR:=ah hdr;clear heq hf1 hg1 hB hI hdr c1;have c1:wr.cell? ⟨w.heap.size,1,none⟩=some (.slice aD p.ts.length ay):=(HB.o.cell (p:=⟨w.heap.size,1,none⟩) (by have:=DY.o; have:=SK.o.1; show w.heap.size < _; omega)).trans HU.o.2.2.1.2;have HWB:aj (∀w',Below L.B0 wr w'->Below w.heap.size w w'):=ah (fun w' hb=>HU.o.1.trans ((HB.o.trans hb).mono (by have:=DY.o; have:=SK.o.1; omega)));cases R with
       | nil=>
         obtain rfl:k=p.ts.length:=(by simpa using hlen);have HX:aj (rr.err=0∧rr.line=0):=ah (by rw [HE.o]; exact ⟨rfl,rfl⟩);go_wp2_with fail
         go_ret2
         exact ⟨rM (by rw [cZ.o,HX.o.1]; rfl) (by rw [cZ.o,HX.o.2]; rfl),HWB.o _ (Below.refl _ _)⟩
       | cons t R=>
         simp only [List.length_cons] at hlen;have hkl:k < p.ts.length:=(by omega);have dF:aj (dW t.body=true):=ah (tK.o.2.1 t (by have:t ∈ p.ts.drop k:=(by rw [HDR.o]; simp);exact List.mem_of_mem_drop this));have c2:wr.cell? ⟨L.bc,2,none⟩=some (.int .i64 i1):=(eD HI.o.blk (j:=2) rfl).2;have f2:wr.frozen? ⟨L.bc,2,none⟩=false:=dH HI.o.blk;go_upto_region 23 with fail;generalize hW3:World.setCell wr _ _=W3;have rU:aj (wr.grownBy W3 (some L.bc)):=ah (by rw [<- hW3]; exact bL _ _ _);have HI3:aj (kM W3 L p aB aD aA ay (k:Int) [] f1 g1 v1 s1 e1):=ah (by rw [<- hW3]; exact HI.o.aa3);have pK:=ah (bQ rU.o L.c0 HI.o.b0);have HB3:=ah (HB.o.trans pK.o);have hrow:=HI3.o.dat.2.2.2.drop k;rw [HDR.o,Nat.zero_add] at hrow;obtain ⟨⟨bl,off,iK,fq,cu,bJ,rfl,hbl,x0,x1,x2,x3,hok,htx,hst,-⟩,-⟩:=hrow;have nK:=ah hok;have HST:=ah hst;clear hW3 c1 c2 f2 rU HB hok hst htx HI;have c1:W3.cell? ⟨w.heap.size,1,none⟩=some (.slice (some ⟨bl,off,none⟩) p.ts.length ay):=(HB3.o.cell (p:=⟨w.heap.size,1,none⟩) (by have:=DY.o; have:=SK.o.1; show w.heap.size < _; omega)).trans HU.o.2.2.1.2;have vJ:aj (rr=if (gK p k t.nm t0.nm t.body (cK []) (nms f1) (nms g1)).err != 0 then gK p k t.nm t0.nm t.body (cK []) (nms f1) (nms g1) else ji p t0.nm R (k + 1) (gK p k t.nm t0.nm t.body (cK []) (nms f1) (nms g1)).f (gK p k t.nm t0.nm t.body (cK []) (nms f1) (nms g1)).g):=ah HE.o;clear HE;go_wp2_with fail;refine (Yt L p _ _ aA ay k t t0 R r0 HDR.o mU.o (by unfold bS; omega) (by have:=za.o; omega) aX2.o HTN.o tK.o.1 t.body W3 cu bJ [] f1 g1 v1 s1 e1 nK.o.2.2.2 HST.o dF.o (by simp) Bl.o yV.o HI3.o).mono ?_;rintro e' w4 ⟨rfl,hK4,f4,g4,v4,s4,e4,hO4,Oa,hq4⟩;generalize gK p k t.nm t0.nm t.body (cK []) (nms f1) (nms g1)=r1 at *;have IX:=ah (hK4.below HI3.o.b0 (fun q hq=>(HI3.o.own q hq).1));have dO:=ah (HB3.o.trans IX.o);have Wv:=ah (HWB.o _ (pK.o.trans IX.o));have HI4:=ah Oa;have Az:=ah hq4;clear hK4 hq4 Oa hO4 x0 x1 x2 x3 c1;cases hr1:(r1.err != 0)
         ·have Cm:aj (rr=ji p t0.nm R (k + 1) (nms f4) (nms g4)):=ah (vJ.o.trans ((if_neg (by rw [hr1]; decide)).trans (by rw [(Az.o (by simpa using hr1)).2.2.1,(Az.o (by simpa using hr1)).2.2.2])));have yC:aj (oz (kX p) (nms f4)∧oz (lQ p) (nms g4)):=ah (by have:=Az.o (by simpa using hr1);rw [this.2.2.1,this.2.2.2]; exact ⟨this.1,this.2.1⟩);have HD7:aj (p.ts.drop (k + 1)=R):=ah (by rw [<- List.drop_drop,HDR.o]; rfl);clear Az vJ;go_wp2_with fail;go_roundw
          case rel=>exact ⟨k + 1,R,f4,g4,v4,s4,e4,_,by go_num,by omega,HD7.o,Cm.o,yC.o.1,yC.o.2,dO.o,HI4.o⟩
          case measure=>simp [intOf]; omega
         ·have wX:aj (rr=r1):=ah (vJ.o.trans (if_pos hr1));clear vJ Az;go_wp2_with fail
          go_ret2
          exact ⟨rM (by rw [cZ.o,wX.o]; rfl) (by rw [cZ.o,wX.o]; rfl),Wv.o⟩
def Z5:Prop:= ∀(w:World) (zs:List Int) (ao:Option Addr) (cap:Nat),FK w w.heap.size zs ao->zs.length<=9223372036854775807->Calls Tryz.prog 5 #[.slice ao zs.length cap] w (MkP w)
theorem PI:Z5:=fun w zs ao cap hz hl=>XJ (fun T=>Vu T 2 (by decide)) A9 w zs ao cap hz hl
end Go.Proofs.YtfbbaiejbjdfbaaGreatDoor
