/- Contract of the reference's Program; the walks of awake and of the law CheckTells. -/
import Derived.Test.YtkmllehjemjgpaaGreatDoorGR6
import Derived.Test.YtkmllehjemjgpaaGreatDoorGML
import Derived.Test.YtkmllehjemjgpaaGreatDoorGR7
import Derived.Test.YtkmllehjemjgpaaGreatDoorGR2
set_option linter.unusedSimpArgs false
set_option linter.unusedVariables false
set_option maxHeartbeats 40000000
set_option maxRecDepth 1000000
namespace Go.Proofs.YtkmllehjemjgpaaGreatDoor
open Go.RowKit
namespace Md
theorem Wd {p:Pr} (h:(jY p).1=0):tF p.ds p.ts []=none:=by
 unfold jY at h;split at h
 ·simp at h
 ·rename_i h';exact h'
end Md
open Md
theorem af9 {p:Pr} {w W:World} {aB aD:Option Addr} {aA ay n:Nat} (hn:w.heap.size=n) (hp:p.At w aB aD)
 (hW:w.alloc (.cells #[.slice aB p.ds.length aA,.slice aD p.ts.length ay,.int .i64 0,.slice none 0 0,.slice none 0 0,.slice none 0 0] 94)=W):
 jF W ⟨n,n+1,n,Nat.le_refl _,Nat.lt_succ_self _⟩ p aB aD aA ay 0 [] [] [] (.slice none 0 0) (.slice none 0 0) (.slice none 0 0)∧Below w.heap.size w W:=by
 subst hn;have hb:Below w.heap.size w W:=by rw[<- hW];exact ak _ _
 refine⟨{blk:=by rw[<- hW];exact heap_alloc_new _ _,row:=World.ownsRow_nil _ _ _ _,rs:=World.ownsRow_nil _ _ _ _,re:=World.ownsRow_nil _ _ _ _,d1:=by intro k hk;simp[Value.ownBlock]at hk,d2:=by intro k hk;simp[Value.ownBlock]at hk,d3:=by intro k hk;simp[Value.ownBlock]at hk,sz:=by rw[<- hW];simp,dat:=⟨hp.1,hp.2.1,hp.2.2.1.below hb,hp.2.2.2.below hb⟩,oJ:=by intro x hx;simp at hx,fo:=by intro x hx;simp at hx,go:=by intro x hx;simp at hx},hb⟩
theorem xW (p:Pr) (w:World) (aB aD:Option Addr) (aA ay:Nat) (hp:p.At w aB aD) (xP:p.ds.length<=aA) (vV:p.ts.length<=ay):
 Calls Tryz.prog 15 #[.agg #[.slice aB p.ds.length aA,.slice aD p.ts.length ay]] w λe w'=>e= .returned (.tuple #[.int .i64 (iT p).1,.int .i64 (iT p).2])∧Below w.heap.size w w':=by
 have HS:aj (iT p=if !oZ p then(3,0)else if(kL p.ds [] 0 0 0 0).1 != 0 then kL p.ds [] 0 0 0 0 else
  if decide ((4:Int)<p.ts.length)then(2,0)else if(jY p).1 != 0 then jY p else
  if decide (60<qO p.ts 0)then(2,0)else((iZ p (jP p) p.ts 0 [] []).err,(iZ p (jP p) p.ts 0 [] []).line)):=ah rfl
 generalize iT p=res at *;have hld:=hp.1;have hlt:=hp.2.1;unfold maxLen at hld hlt;have HP:=ah hp;have HCD:=ah xP;have HCT:=ah vV;clear hp xP vV;go_enter Tryz.func15,Tryz.ntmps15;go_upto_region 1 with fail;generalize hW:World.alloc w _=W;generalize Value.agg #[_,_]=a0;have HX:=ah ((Sit.start w).vg rfl (.slice aB p.ds.length aA) (.slice aD p.ts.length ay) 25);rw[hW]at HX;clear hW;obtain⟨-,⟨-,c0⟩,⟨-,c1⟩,-⟩:=HX.o;go_wp2_with fail;refine(M5 p _ aB aD aA ay (HP.o.same HX.o.1)).mono ?_;rintro e w1 ⟨rfl,hb1⟩;have HY:=ah (HX.o.next hb1);clear HX hb1 c0 c1;obtain⟨-,⟨-,c0⟩,⟨-,c1⟩,-⟩:=HY.o;have yH:aj (oZ p=true->(∀d∈p.ds,iw d=true)∧(∀t∈p.ts,eG t.body=true)∧∃t0 r0,p.ts=t0::r0):=ah (λh=>by
  unfold oZ at h;simp only[Bool.and_eq_true,List.all_eq_true,decide_eq_true_eq]at h;refine⟨h.1.1,λt ht=> ?_,?_⟩
  ·have:=h.1.2 t ht;unfold nL at this;simp only[Bool.and_eq_true]at this;exact this.2
  ·cases hts:p.ts with
   |nil=>rw[hts]at h;simp at h
   |cons a b=>exact⟨a,b,rfl⟩)
 cases hS:oZ p
 ·have HE:aj (res=(3,0)):=ah (HS.o.trans (by rw[hS];rfl));clear yH;go_wp2_with fail
  go_ret2
  exact⟨oW (by rw[HE.o];rfl) (by rw[HE.o];rfl),HY.o.1⟩
 ·have HE:aj (res=if(kL p.ds [] 0 0 0 0).1 != 0 then kL p.ds [] 0 0 0 0 else
   if decide ((4:Int)<p.ts.length)then(2,0)else if(jY p).1 != 0 then jY p else
   if decide (60<qO p.ts 0)then(2,0)else((iZ p (jP p) p.ts 0 [] []).err,(iZ p (jP p) p.ts 0 [] []).line)):=ah (HS.o.trans (by rw[hS];rfl))
  have vM:=ah (yH.o hS);have Aa:aj ((kL p.ds [] 0 0 0 0).1=0->p.ds.length<=1000000000000):=ah (λh0=>by have:=Au p.ds [] 0 0 0 0 vM.o.1 h0 (by omega);omega);clear HS yH;go_wp2_with fail;refine(Nn p.ds _ aB aA HP.o.1 HCD.o ((HP.o.same HY.o.1).2.2.1) vM.o.1).mono ?_;rintro e w2 ⟨rfl,hb2⟩;have HZ:=ah (HY.o.next hb2);clear HY hb2 c0 c1;obtain⟨-,⟨-,c0⟩,⟨-,c1⟩,-⟩:=HZ.o;generalize kL p.ds [] 0 0 0 0=dd at *;cases h1:(dd.1 != 0)
  case true=>
   have bV:aj (res=dd):=ah (HE.o.trans (if_pos h1));clear HE vM Aa;go_wp2_with fail
   go_ret2
   exact⟨oW (by rw[bV.o];rfl) (by rw[bV.o];rfl),HZ.o.1⟩
  have IG:aj (res=if decide ((4:Int)<p.ts.length)then(2,0)else if(jY p).1 != 0 then jY p else
   if decide (60<qO p.ts 0)then(2,0)else((iZ p (jP p) p.ts 0 [] []).err,(iZ p (jP p) p.ts 0 [] []).line)):=ah (HE.o.trans (if_neg (by rw[h1];decide)))
  have aO2:=ah (Aa.o (by simpa using h1));clear HE Aa;by_cases h4:(4:Int)<(p.ts.length:Int)
  ·have bV:aj (res=(2,0)):=ah (IG.o.trans (if_pos (by simpa using h4)));clear IG vM;go_wp2_with fail
   go_ret2
   exact⟨oW (by rw[bV.o];rfl) (by rw[bV.o];rfl),HZ.o.1⟩
  have HE2:aj (res=if(jY p).1 != 0 then jY p else
   if decide (60<qO p.ts 0)then(2,0)else((iZ p (jP p) p.ts 0 [] []).err,(iZ p (jP p) p.ts 0 [] []).line)):=ah (IG.o.trans (if_neg (by simpa using h4)))
  have h4':(p.ts.length:Int)<=4:=by omega
  have Gu:aj (p.ts.length<=4):=ah (by omega);have HTZ:=ah (Wd (p:=p));clear IG;go_wp2_with fail;refine(K5 p _ aB aD aA ay (HP.o.same HZ.o.1) HCT.o).mono ?_;rintro e w3 ⟨rfl,hb3⟩;have HV:=ah (HZ.o.next hb3);clear HZ hb3 c0 c1 h1;obtain⟨-,⟨-,c0⟩,⟨-,c1⟩,-⟩:=HV.o;generalize jY p=tt at *;cases h2:(tt.1 != 0)
  case true=>
   have bV:aj (res=tt):=ah (HE2.o.trans (if_pos h2));clear HE2 vM HTZ;go_wp2_with fail
   go_ret2
   exact⟨oW (by rw[bV.o];rfl) (by rw[bV.o];rfl),HV.o.1⟩
  have om:aj (res=if decide (60<qO p.ts 0)then(2,0)else((iZ p (jP p) p.ts 0 [] []).err,(iZ p (jP p) p.ts 0 [] []).line)):=ah (HE2.o.trans (if_neg (by rw[h2];decide)));have HTN:=ah (HTZ.o (by simpa using h2));clear HE2 HTZ;have oU:=(HP.o.same HV.o.1).2.2.2;go_wp2_with fail;go_loopw [8,9] (λs8 s wr=> ∃(k:Nat) (R:List Th) (n:Int),s= .int .i64 k∧s8= .int .i64 n∧k+R.length=p.ts.length∧qO p.ts 0=qO R n∧fQ wr wr.heap.size R aD k∧Sit w wr [(w.heap.size,0,(.slice aB p.ds.length aA)),(w.heap.size,1,(.slice aD p.ts.length ay))]) (λ_ s _=>p.ts.length -(intOf s).toNat)
  case atStart=>exact⟨0,p.ts,0,rfl,rfl,by simp,rfl,oU,HV.o⟩
  case round=>
   obtain⟨k,R,n,rfl,rfl,hlen,heq,hrow,hsit⟩:=hrel;have HU:=ah hsit;have HQ:=ah heq;clear hsit HV c0 c1 oU heq h2;obtain⟨-,⟨-,c0⟩,⟨-,c1⟩,-⟩:=HU.o;cases R with
   |cons t R=>
    obtain⟨⟨b,off,fC,dw,bR,aY,rfl,hB,x0,x1,x2,x3,hok,htx,hst,hcl⟩,hrest⟩:=hrow;simp only[List.length_cons]at hlen;have hkl:k<p.ts.length:=(by omega);have mZ:=ah hok;have HST:=ah hst;clear hok htx hst hcl;go_wp2_with fail;refine(Nl t.body _ bR aY mZ.o.2.2.2 HST.o).mono ?_;rintro e' w4 ⟨rfl,hb4⟩;have jS:=ah hb4;clear hb4 c0 c1 x0 x1 x2 x3;go_wp2_with fail;go_roundw
    case rel=>exact⟨k+1,R,_,by go_num,rfl,by omega,HQ.o.trans rfl,hrest.same jS.o,HU.o.next jS.o⟩
    case measure=>simp[intOf];omega
   |nil=>
    obtain rfl:k=p.ts.length:=(by simpa using hlen);have HN:aj (qO p.ts 0=n):=HQ;by_cases h6:60<n
    ·have bV:aj (res=(2,0)):=ah (om.o.trans (if_pos (by rw[HN.o];simpa using h6)));clear om vM;go_wp2_with fail
     go_ret2
     exact⟨oW (by rw[bV.o];rfl) (by rw[bV.o];rfl),HU.o.1⟩
    ·have h6':n<=60:=(by omega);obtain⟨-,-,t0,r0,hts⟩:=vM.o;have kF:=ah hts;have HHN:aj (jP p=t0.nm):=ah (by unfold jP;rw[hts];rfl);have bV:aj (res=((iZ p t0.nm p.ts 0 [] []).err,(iZ p t0.nm p.ts 0 [] []).line)):=ah (om.o.trans ((if_neg (by rw[HN.o];simpa using h6)).trans (by rw[HHN.o])));clear om hts hrow;go_upto_region 19 with fail;obtain⟨wo,rfl⟩: ∃wo:World,wo=wr:=⟨_,rfl⟩;obtain⟨nb,hnb⟩: ∃n,wo.heap.size=n:=⟨_,rfl⟩;generalize hW2:World.alloc wo _=W2;have al6:=ah (af9 hnb (HP.o.same HU.o.1) hW2);have gB:=ah hnb;have uE:aj (w.heap.size<nb):=ah (by rw[<- hnb];exact HU.o.2.1.1);rw[hnb];clear hW2 hnb c0 c1;have Bc:aj (Below nb wo W2):=ah (by rw[<- gB.o];exact al6.o.2);generalize hL:(⟨nb,nb+1,nb,Nat.le_refl _,Nat.lt_succ_self _⟩:qN)=L at *;have Bf:aj (L.B0=nb∧L.bc=nb):=ah (by rw[<- hL];exact⟨rfl,rfl⟩);have UR:nb=L.bc:=Bf.o.2.symm;have HB0:aj (Below L.B0 wo W2):=ah (by rw[Bf.o.1];exact Bc.o);clear hL;generalize hrr:iZ p t0.nm p.ts 0 [] []=rr at *;have HRR:=ah hrr;rw[UR];clear hrr UR Bc gB;have c1:W2.cell? ⟨w.heap.size,1,none⟩=some (.slice aD p.ts.length ay):=(HB0.o.cell (p:=⟨w.heap.size,1,none⟩) (by have:=uE.o;have:=Bf.o.1;show w.heap.size<_;omega)).trans HU.o.2.2.1.2;go_wp2_with fail;go_loopw [11,12,13] (λs _ _ wr=> ∃(k:Nat) (R:List Th) (f1 g1:List ByteArray) (v1 s1 e1:Value) (i1:Int),s= .int .i64 k∧k+R.length=p.ts.length∧p.ts.drop k=R∧rr=iZ p t0.nm R k (nms f1) (nms g1)∧mg (jK p) (nms f1)∧mg (jU p) (nms g1)∧Below L.B0 wo wr∧jF wr L p aB aD aA ay i1 [] f1 g1 v1 s1 e1) (λs _ _ _=>p.ts.length -(intOf s).toNat)
     case atStart=>exact⟨0,p.ts,[],[],_,_,_,0,rfl,by simp,rfl,HRR.o.symm,⟨List.nodup_nil,by simp[nms]⟩,⟨List.nodup_nil,by simp[nms]⟩,HB0.o,al6.o.1⟩
     case round=>
      obtain⟨k,R,f1,g1,v1,s1,e1,i1,rfl,hlen,hdr,heq,hf1,hg1,hB,hI⟩:=hrel;have HE:=ah heq;have yE:=ah hf1;have uG:=ah hg1;have HB:=ah hB;have HI:=ah hI;have HDR:=ah hdr;clear heq hf1 hg1 hB hI hdr c1;have c1:wr.cell? ⟨w.heap.size,1,none⟩=some (.slice aD p.ts.length ay):=(HB.o.cell (p:=⟨w.heap.size,1,none⟩) (by have:=uE.o;have:=Bf.o.1;show w.heap.size<_;omega)).trans HU.o.2.2.1.2;have HWB:aj (∀w',Below L.B0 wr w'->Below w.heap.size w w'):=ah (λw' hb=>HU.o.1.trans ((HB.o.trans hb).mono (by have:=uE.o;have:=Bf.o.1;omega)));cases R with
      |nil=>
       obtain rfl:k=p.ts.length:=(by simpa using hlen);have HX:aj (rr.err=0∧rr.line=0):=ah (by rw[HE.o];exact⟨rfl,rfl⟩);go_wp2_with fail
       go_ret2
       exact⟨oW (by rw[bV.o,HX.o.1];rfl) (by rw[bV.o,HX.o.2];rfl),HWB.o _ (Below.refl _ _)⟩
      |cons t R=>
       simp only[List.length_cons]at hlen;have hkl:k<p.ts.length:=(by omega);have N8:aj (eG t.body=true):=ah (vM.o.2.1 t (by have:t∈p.ts.drop k:=(by rw[HDR.o];simp);exact List.mem_of_mem_drop this));have c2:wr.cell? ⟨L.bc,2,none⟩=some (.int .i64 i1):=(dO HI.o.blk (j:=2) rfl).2;have f2:wr.frozen? ⟨L.bc,2,none⟩=false:=bG HI.o.blk;go_upto_region 23 with fail;generalize hW3:World.setCell wr _ _=W3;have mK:aj (wr.grownBy W3 (some L.bc)):=ah (by rw[<- hW3];exact bQ _ _ _);have HI3:aj (jF W3 L p aB aD aA ay (k:Int) [] f1 g1 v1 s1 e1):=ah (by rw[<- hW3];exact HI.o.YB);have mQ:=ah (bL mK.o L.c0 HI.o.b0);have HB3:=ah (HB.o.trans mQ.o);have hrow:=HI3.o.dat.2.2.2.drop k;rw[HDR.o,Nat.zero_add]at hrow;obtain⟨⟨bl,off,fC,dw,bR,aY,rfl,hbl,x0,x1,x2,x3,hok,htx,hst,-⟩,-⟩:=hrow;have mZ:=ah hok;have HST:=ah hst;clear hW3 c1 c2 f2 mK HB hok hst htx HI;have c1:W3.cell? ⟨w.heap.size,1,none⟩=some (.slice (some ⟨bl,off,none⟩) p.ts.length ay):=(HB3.o.cell (p:=⟨w.heap.size,1,none⟩) (by have:=uE.o;have:=Bf.o.1;show w.heap.size<_;omega)).trans HU.o.2.2.1.2;have tX:aj (rr=if(fG p k t.nm t0.nm t.body (bS []) (nms f1) (nms g1)).err != 0 then fG p k t.nm t0.nm t.body (bS []) (nms f1) (nms g1)else iZ p t0.nm R (k+1) (fG p k t.nm t0.nm t.body (bS []) (nms f1) (nms g1)).f (fG p k t.nm t0.nm t.body (bS []) (nms f1) (nms g1)).g):=ah HE.o;clear HE;go_wp2_with fail;refine(Wv L p _ _ aA ay k t t0 R r0 HDR.o kF.o (by unfold fD;omega) (by have:=Gu.o;omega) aO2.o HTN.o vM.o.1 t.body W3 bR aY [] f1 g1 v1 s1 e1 mZ.o.2.2.2 HST.o N8.o (by simp) yE.o uG.o HI3.o).mono ?_;rintro e' w4 ⟨rfl,hK4,f4,g4,v4,s4,e4,hO4,hI4,hq4⟩;generalize fG p k t.nm t0.nm t.body (bS []) (nms f1) (nms g1)=r1 at *;have HBK:=ah (hK4.below HI3.o.b0 (λq hq=>(HI3.o.own q hq).1));have dH:=ah (HB3.o.trans HBK.o);have HW4:=ah (HWB.o _ (mQ.o.trans HBK.o));have HI4:=ah hI4;have yG:=ah hq4;clear hK4 hq4 hI4 hO4 x0 x1 x2 x3 c1;cases hr1:(r1.err != 0)
       ·have IW:aj (rr=iZ p t0.nm R (k+1) (nms f4) (nms g4)):=ah (tX.o.trans ((if_neg (by rw[hr1];decide)).trans (by rw[(yG.o (by simpa using hr1)).2.2.1,(yG.o (by simpa using hr1)).2.2.2])));have vH:aj (mg (jK p) (nms f4)∧mg (jU p) (nms g4)):=ah (by have:=yG.o (by simpa using hr1);rw[this.2.2.1,this.2.2.2];exact⟨this.1,this.2.1⟩);have HD7:aj (p.ts.drop (k+1)=R):=ah (by rw[<- List.drop_drop,HDR.o];rfl);clear yG tX;go_wp2_with fail;go_roundw
        case rel=>exact⟨k+1,R,f4,g4,v4,s4,e4,_,by go_num,by omega,HD7.o,IW.o,vH.o.1,vH.o.2,dH.o,HI4.o⟩
        case measure=>simp[intOf];omega
       ·have zm:aj (rr=r1):=ah (tX.o.trans (if_pos hr1));clear tX yG;go_wp2_with fail
        go_ret2
        exact⟨oW (by rw[bV.o,zm.o];rfl) (by rw[bV.o,zm.o];rfl),HW4.o⟩
end Go.Proofs.YtkmllehjemjgpaaGreatDoor
