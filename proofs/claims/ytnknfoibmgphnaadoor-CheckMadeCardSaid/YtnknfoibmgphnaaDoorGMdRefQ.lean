/-
  Contract of the reference's Program; the walks of awake and of the law CheckTells.
-/
import Derived.Test.YtnknfoibmgphnaaDoorGRE
import Derived.Test.YtnknfoibmgphnaaDoorGML
import Derived.Test.YtnknfoibmgphnaaDoorGRF
import Derived.Test.YtnknfoibmgphnaaDoorGRB
set_option linter.unusedSimpArgs false
set_option linter.unusedVariables false
namespace Go.Proofs.YtnknfoibmgphnaaDoor
open Go.RowKit
namespace Md
theorem Iu {p:Pr} (h:(iJ p).1=0):jP p.ds p.ts []=none:=by
 unfold iJ at h
 split at h
 ·simp at h
 ·rename_i h'; exact h'
end Md
open Md
theorem MO {p:Pr} {w W:World} {aC aF:Option Addr} {aA av n:Nat} (hn:w.heap.size=n) (hp:p.At w aC aF)
 (hW:w.alloc (.cells #[.slice aC p.ds.length aA,.slice aF p.ts.length av,.int .i64 0,.slice none 0 0,.slice none 0 0,.slice none 0 0] 60)=W):
 jc W ⟨n,n + 1,n,Nat.le_refl _,Nat.lt_succ_self _⟩ p aC aF aA av 0 [] [] [] (.slice none 0 0) (.slice none 0 0) (.slice none 0 0)∧Below w.heap.size w W:=by
 subst hn
 have hb:Below w.heap.size w W:=by rw [← hW]; exact ay _ _
 refine ⟨{blk:=by rw [← hW]; exact heap_alloc_new _ _,row:=World.ownsRow_nil _ _ _ _,rs:=World.ownsRow_nil _ _ _ _,re:=World.ownsRow_nil _ _ _ _,d1:=by intro k hk; simp [Value.ownBlock] at hk,d2:=by intro k hk; simp [Value.ownBlock] at hk,d3:=by intro k hk; simp [Value.ownBlock] at hk,sz:=by rw [← hW]; simp,dat:=⟨hp.1,hp.2.1,hp.2.2.1.below hb,hp.2.2.2.below hb⟩,lK:=by intro x hx; simp at hx,fo:=by intro x hx; simp at hx,go:=by intro x hx; simp at hx},hb⟩
set_option maxHeartbeats 4000000 in
set_option maxRecDepth 100000 in
theorem Bg (p:Pr) (w:World) (aC aF:Option Addr) (aA av:Nat) (hp:p.At w aC aF) (FH:p.ds.length≤aA) (P7:p.ts.length≤av):
 Calls Tryd.prog 10 #[.agg #[.slice aC p.ds.length aA,.slice aF p.ts.length av]] w fun e w'=>e= .returned (.tuple #[.int .i64 (iV p).1,.int .i64 (iV p).2])∧Below w.heap.size w w':=by
 have HS:Hid (iV p=if !lN p then (3,0) else if (jH p.ds [] 0 0 0 0).1 != 0 then jH p.ds [] 0 0 0 0 else
  if decide ((4:Int) < p.ts.length) then (2,0) else if (iJ p).1 != 0 then iJ p else
  if decide (60 < iw p.ts 0) then (2,0) else ((gG p (gM p) p.ts 0 [] []).err,(gG p (gM p) p.ts 0 [] []).line)):=Lib.hid rfl
 generalize iV p=res at *
 have hld:=hp.1
 have hlt:=hp.2.1
 unfold maxLen at hld hlt
 have HP:=Lib.hid hp
 have Ue:=Lib.hid FH
 have Uy:=Lib.hid P7
 clear hp FH P7
 go_enter Tryd.func10,Tryd.ntmps10
 go_upto_region 1 with fail
 generalize hW:World.alloc w _=W
 generalize Value.agg #[_,_]=a0
 have HX:=Lib.hid ((Sit.start w).kC rfl (.slice aC p.ds.length aA) (.slice aF p.ts.length av) 26)
 rw [hW] at HX
 clear hW
 obtain ⟨-,⟨-,c0⟩,⟨-,c1⟩,-⟩:=HX.out
 go_wp2_with fail
 refine (Cr p _ aC aF aA av (HP.out.same HX.out.1)).mono ?_
 rintro e w1 ⟨rfl,hb1⟩
 have HY:=Lib.hid (HX.out.next hb1)
 clear HX hb1 c0 c1
 obtain ⟨-,⟨-,c0⟩,⟨-,c1⟩,-⟩:=HY.out
 have vL:Hid (lN p=true→(∀d ∈ p.ds,jw d=true)∧(∀t ∈ p.ts,eP t.body=true)∧ ∃t0 r0,p.ts=t0 ::r0):=Lib.hid (fun h=>by
  unfold lN at h
  simp only [Bool.and_eq_true,List.all_eq_true,decide_eq_true_eq] at h
  refine ⟨h.1.1,fun t ht=> ?_,?_⟩
  ·have:=h.1.2 t ht
   unfold kV at this
   simp only [Bool.and_eq_true] at this
   exact this.2
  ·cases hts:p.ts with
   | nil=>rw [hts] at h; simp at h
   | cons a b=>exact ⟨a,b,rfl⟩)
 cases hS:lN p
 ·have HE:Hid (res=(3,0)):=Lib.hid (HS.out.trans (by rw [hS]; rfl))
  clear vL
  go_wp2_with fail
  go_ret2
  exact ⟨mq (by rw [HE.out]; rfl) (by rw [HE.out]; rfl),HY.out.1⟩
 ·have HE:Hid (res=if (jH p.ds [] 0 0 0 0).1 != 0 then jH p.ds [] 0 0 0 0 else
   if decide ((4:Int) < p.ts.length) then (2,0) else if (iJ p).1 != 0 then iJ p else
   if decide (60 < iw p.ts 0) then (2,0) else ((gG p (gM p) p.ts 0 [] []).err,(gG p (gM p) p.ts 0 [] []).line)):=Lib.hid (HS.out.trans (by rw [hS]; rfl))
  have pR:=Lib.hid (vL.out hS)
  have Es:Hid ((jH p.ds [] 0 0 0 0).1=0→p.ds.length≤1000000000000):=Lib.hid (fun h0=>by
   have:=zn p.ds [] 0 0 0 0 pR.out.1 h0 (by omega); omega)
  clear HS vL
  go_wp2_with fail
  refine (Dw p.ds _ aC aA HP.out.1 Ue.out ((HP.out.same HY.out.1).2.2.1) pR.out.1).mono ?_
  rintro e w2 ⟨rfl,hb2⟩
  have HZ:=Lib.hid (HY.out.next hb2)
  clear HY hb2 c0 c1
  obtain ⟨-,⟨-,c0⟩,⟨-,c1⟩,-⟩:=HZ.out
  generalize jH p.ds [] 0 0 0 0=dd at *
  cases h1:(dd.1 != 0)
  case true=>
   have dA:Hid (res=dd):=Lib.hid (HE.out.trans (if_pos h1))
   clear HE pR Es
   go_wp2_with fail
   go_ret2
   exact ⟨mq (by rw [dA.out]; rfl) (by rw [dA.out]; rfl),HZ.out.1⟩
  have zU:Hid (res=if decide ((4:Int) < p.ts.length) then (2,0) else if (iJ p).1 != 0 then iJ p else
   if decide (60 < iw p.ts 0) then (2,0) else ((gG p (gM p) p.ts 0 [] []).err,(gG p (gM p) p.ts 0 [] []).line)):=Lib.hid (HE.out.trans (if_neg (by rw [h1]; decide)))
  have SV:=Lib.hid (Es.out (by simpa using h1))
  clear HE Es
  by_cases h4:(4:Int) < (p.ts.length:Int)
  ·have dA:Hid (res=(2,0)):=Lib.hid (zU.out.trans (if_pos (by simpa using h4)))
   clear zU pR
   go_wp2_with fail
   go_ret2
   exact ⟨mq (by rw [dA.out]; rfl) (by rw [dA.out]; rfl),HZ.out.1⟩
  have HE2:Hid (res=if (iJ p).1 != 0 then iJ p else
   if decide (60 < iw p.ts 0) then (2,0) else ((gG p (gM p) p.ts 0 [] []).err,(gG p (gM p) p.ts 0 [] []).line)):=Lib.hid (zU.out.trans (if_neg (by simpa using h4)))
  have h4':(p.ts.length:Int)≤4:=by omega
  have vN:Hid (p.ts.length≤4):=Lib.hid (by omega)
  have PX:=Lib.hid (Iu (p:=p))
  clear zU
  go_wp2_with fail
  refine (Bh p _ aC aF aA av (HP.out.same HZ.out.1) Uy.out).mono ?_
  rintro e w3 ⟨rfl,hb3⟩
  have HV:=Lib.hid (HZ.out.next hb3)
  clear HZ hb3 c0 c1 h1
  obtain ⟨-,⟨-,c0⟩,⟨-,c1⟩,-⟩:=HV.out
  generalize iJ p=tt at *
  cases h2:(tt.1 != 0)
  case true=>
   have dA:Hid (res=tt):=Lib.hid (HE2.out.trans (if_pos h2))
   clear HE2 pR PX
   go_wp2_with fail
   go_ret2
   exact ⟨mq (by rw [dA.out]; rfl) (by rw [dA.out]; rfl),HV.out.1⟩
  have oW:Hid (res=if decide (60 < iw p.ts 0) then (2,0) else ((gG p (gM p) p.ts 0 [] []).err,(gG p (gM p) p.ts 0 [] []).line)):=Lib.hid (HE2.out.trans (if_neg (by rw [h2]; decide)))
  have TW:=Lib.hid (PX.out (by simpa using h2))
  clear HE2 PX
  have mh:=(HP.out.same HV.out.1).2.2.2
  go_wp2_with fail
  go_loopw [8,9] (fun s8 s wr=> ∃(k:Nat) (R:List Th) (n:Int),s= .int .i64 k∧s8= .int .i64 n∧k + R.length=p.ts.length∧iw p.ts 0=iw R n∧iy wr wr.heap.size R aF k∧Sit w wr [(w.heap.size,0,(.slice aC p.ds.length aA)),(w.heap.size,1,(.slice aF p.ts.length av))]) (fun _ s _=>p.ts.length - (intOf s).toNat)
  case atStart=>exact ⟨0,p.ts,0,rfl,rfl,by simp,rfl,mh,HV.out⟩
  case round=>
   obtain ⟨k,R,n,rfl,rfl,hlen,heq,hrow,hsit⟩:=hrel
   have HU:=Lib.hid hsit
   have HQ:=Lib.hid heq
   clear hsit HV c0 c1 mh heq h2
   obtain ⟨-,⟨-,c0⟩,⟨-,c1⟩,-⟩:=HU.out
   cases R with
   | cons t R=>
     obtain ⟨⟨b,off,iQ,gy,bg,aT,rfl,hB,x0,x1,x2,x3,hok,htx,hst,hcl⟩,hrest⟩:=hrow
     simp only [List.length_cons] at hlen
     have hkl:k < p.ts.length:=by omega
     have lX:=Lib.hid hok
     have HST:=Lib.hid hst
     clear hok htx hst hcl
     go_wp2_with fail
     refine (xw t.body _ bg aT lX.out.2.2.2 HST.out).mono ?_
     rintro e' w4 ⟨rfl,hb4⟩
     have oZ:=Lib.hid hb4
     clear hb4 c0 c1 x0 x1 x2 x3
     go_wp2_with fail
     go_roundw
     case rel=>exact ⟨k + 1,R,_,by go_num,rfl,by omega,HQ.out.trans rfl,hrest.same oZ.out,HU.out.next oZ.out⟩
     case measure=>simp [intOf]; omega
   | nil=>
     obtain rfl:k=p.ts.length:=by simpa using hlen
     have HN:Hid (iw p.ts 0=n):=HQ
     by_cases h6:60 < n
     ·have dA:Hid (res=(2,0)):=Lib.hid (oW.out.trans (if_pos (by rw [HN.out]; simpa using h6)))
      clear oW pR
      go_wp2_with fail
      go_ret2
      exact ⟨mq (by rw [dA.out]; rfl) (by rw [dA.out]; rfl),HU.out.1⟩
     ·have h6':n≤60:=by omega
      obtain ⟨-,-,t0,r0,hts⟩:=pR.out
      have vO:=Lib.hid hts
      have NZ:Hid (gM p=t0.nm):=Lib.hid (by unfold gM; rw [hts]; rfl)
      have dA:Hid (res=((gG p t0.nm p.ts 0 [] []).err,(gG p t0.nm p.ts 0 [] []).line)):=Lib.hid (oW.out.trans ((if_neg (by rw [HN.out]; simpa using h6)).trans (by rw [NZ.out])))
      clear oW hts hrow
      go_upto_region 19 with fail
      obtain ⟨wo,rfl⟩: ∃wo:World,wo=wr:=⟨_,rfl⟩
      obtain ⟨nb,hnb⟩: ∃n,wo.heap.size=n:=⟨_,rfl⟩
      generalize hW2:World.alloc wo _=W2
      have Pd:=Lib.hid (MO hnb (HP.out.same HU.out.1) hW2)
      have rX:=Lib.hid hnb
      have M6:Hid (w.heap.size < nb):=Lib.hid (by rw [← hnb]; exact HU.out.2.1.1)
      rw [hnb]
      clear hW2 hnb c0 c1
      have uJ:Hid (Below nb wo W2):=Lib.hid (by rw [← rX.out]; exact Pd.out.2)
      generalize hL:(⟨nb,nb + 1,nb,Nat.le_refl _,Nat.lt_succ_self _⟩:nu)=L at *
      have EW:Hid (L.B0=nb∧L.bc=nb):=Lib.hid (by rw [← hL]; exact ⟨rfl,rfl⟩)
      have Hu:nb=L.bc:=EW.out.2.symm
      have HB0:Hid (Below L.B0 wo W2):=Lib.hid (by rw [EW.out.1]; exact uJ.out)
      clear hL
      generalize hrr:gG p t0.nm p.ts 0 [] []=rr at *
      have HRR:=Lib.hid hrr
      rw [Hu]
      clear hrr Hu uJ rX
      have c1:W2.cell? ⟨w.heap.size,1,none⟩=some (.slice aF p.ts.length av):=(HB0.out.cell (p:=⟨w.heap.size,1,none⟩) (by have:=M6.out; have:=EW.out.1; show w.heap.size < _; omega)).trans HU.out.2.2.1.2
      go_wp2_with fail
      go_loopw [11,12,13] (fun s _ _ wr=> ∃(k:Nat) (R:List Th) (f1 g1:List ByteArray) (v1 s1 e1:Value) (i1:Int),s= .int .i64 k∧k + R.length=p.ts.length∧p.ts.drop k=R∧rr=gG p t0.nm R k (nms f1) (nms g1)∧kg (je p) (nms f1)∧kg (jm p) (nms g1)∧Below L.B0 wo wr∧jc wr L p aC aF aA av i1 [] f1 g1 v1 s1 e1) (fun s _ _ _=>p.ts.length - (intOf s).toNat)
      case atStart=>exact ⟨0,p.ts,[],[],_,_,_,0,rfl,by simp,rfl,HRR.out.symm,⟨List.nodup_nil,by simp [nms]⟩,⟨List.nodup_nil,by simp [nms]⟩,HB0.out,Pd.out.1⟩
      case round=>
       obtain ⟨k,R,f1,g1,v1,s1,e1,i1,rfl,hlen,hdr,heq,hf1,hg1,hB,hI⟩:=hrel
       have HE:=Lib.hid heq
       have xM:=Lib.hid hf1
       have qE:=Lib.hid hg1
       have HB:=Lib.hid hB
       have HI:=Lib.hid hI
       have HDR:=Lib.hid hdr
       clear heq hf1 hg1 hB hI hdr c1
       have c1:wr.cell? ⟨w.heap.size,1,none⟩=some (.slice aF p.ts.length av):=(HB.out.cell (p:=⟨w.heap.size,1,none⟩) (by have:=M6.out; have:=EW.out.1; show w.heap.size < _; omega)).trans HU.out.2.2.1.2
       have Rj:Hid (∀w',Below L.B0 wr w'→Below w.heap.size w w'):=Lib.hid (fun w' hb=>HU.out.1.trans ((HB.out.trans hb).mono (by have:=M6.out; have:=EW.out.1; omega)))
       cases R with
       | nil=>
         obtain rfl:k=p.ts.length:=by simpa using hlen
         have HX:Hid (rr.err=0∧rr.line=0):=Lib.hid (by rw [HE.out]; exact ⟨rfl,rfl⟩)
         go_wp2_with fail
         go_ret2
         exact ⟨mq (by rw [dA.out,HX.out.1]; rfl) (by rw [dA.out,HX.out.2]; rfl),Rj.out _ (Below.refl _ _)⟩
       | cons t R=>
         simp only [List.length_cons] at hlen
         have hkl:k < p.ts.length:=by omega
         have bP:Hid (eP t.body=true):=Lib.hid (pR.out.2.1 t (by
          have:t ∈ p.ts.drop k:=by rw [HDR.out]; simp
          exact List.mem_of_mem_drop this))
         have c2:wr.cell? ⟨L.bc,2,none⟩=some (.int .i64 i1):=(dM HI.out.blk (j:=2) rfl).2
         have f2:wr.frozen? ⟨L.bc,2,none⟩=false:=dH HI.out.blk
         go_upto_region 23 with fail
         generalize hW3:World.setCell wr _ _=W3
         have Hq:Hid (wr.grownBy W3 (some L.bc)):=Lib.hid (by rw [← hW3]; exact dY _ _ _)
         have HI3:Hid (jc W3 L p aC aF aA av (k:Int) [] f1 g1 v1 s1 e1):=Lib.hid (by rw [← hW3]; exact HI.out.Kh)
         have FT:=Lib.hid (fC Hq.out L.c0 HI.out.b0)
         have HB3:=Lib.hid (HB.out.trans FT.out)
         have hrow:=HI3.out.dat.2.2.2.drop k
         rw [HDR.out,Nat.zero_add] at hrow
         obtain ⟨⟨bl,off,iQ,gy,bg,aT,rfl,hbl,x0,x1,x2,x3,hok,htx,hst,-⟩,-⟩:=hrow
         have lX:=Lib.hid hok
         have HST:=Lib.hid hst
         clear hW3 c1 c2 f2 Hq HB hok hst htx HI
         have c1:W3.cell? ⟨w.heap.size,1,none⟩=some (.slice (some ⟨bl,off,none⟩) p.ts.length av):=(HB3.out.cell (p:=⟨w.heap.size,1,none⟩) (by have:=M6.out; have:=EW.out.1; show w.heap.size < _; omega)).trans HU.out.2.2.1.2
         have pq:Hid (rr=if (dh p k t.nm t0.nm t.body (bF []) (nms f1) (nms g1)).err != 0 then dh p k t.nm t0.nm t.body (bF []) (nms f1) (nms g1) else gG p t0.nm R (k + 1) (dh p k t.nm t0.nm t.body (bF []) (nms f1) (nms g1)).f (dh p k t.nm t0.nm t.body (bF []) (nms f1) (nms g1)).g):=Lib.hid HE.out
         clear HE
         go_wp2_with fail
         refine (H9 L p _ _ aA av k t t0 R r0 HDR.out vO.out (by unfold aX; omega) (by have:=vN.out; omega) SV.out TW.out pR.out.1 t.body W3 bg aT [] f1 g1 v1 s1 e1 lX.out.2.2.2 HST.out bP.out (by simp) xM.out qE.out HI3.out).mono ?_
         rintro e' w4 ⟨rfl,hK4,f4,g4,v4,s4,e4,hO4,Cb,hq4⟩
         generalize dh p k t.nm t0.nm t.body (bF []) (nms f1) (nms g1)=r1 at *
         have Rz:=Lib.hid (hK4.below HI3.out.b0 (fun q hq=>(HI3.out.own q hq).1))
         have gV:=Lib.hid (HB3.out.trans Rz.out)
         have Py:=Lib.hid (Rj.out _ (FT.out.trans Rz.out))
         have HI4:=Lib.hid Cb
         have Av:=Lib.hid hq4
         clear hK4 hq4 Cb hO4 x0 x1 x2 x3 c1
         cases hr1:(r1.err != 0)
         ·have tF:Hid (rr=gG p t0.nm R (k + 1) (nms f4) (nms g4)):=Lib.hid (pq.out.trans ((if_neg (by rw [hr1]; decide)).trans (by rw [(Av.out (by simpa using hr1)).2.2.1,(Av.out (by simpa using hr1)).2.2.2])))
          have pW:Hid (kg (je p) (nms f4)∧kg (jm p) (nms g4)):=Lib.hid (by
           have:=Av.out (by simpa using hr1)
           rw [this.2.2.1,this.2.2.2]; exact ⟨this.1,this.2.1⟩)
          have HD7:Hid (p.ts.drop (k + 1)=R):=Lib.hid (by rw [← List.drop_drop,HDR.out]; rfl)
          clear Av pq
          go_wp2_with fail
          go_roundw
          case rel=>exact ⟨k + 1,R,f4,g4,v4,s4,e4,_,by go_num,by omega,HD7.out,tF.out,pW.out.1,pW.out.2,gV.out,HI4.out⟩
          case measure=>simp [intOf]; omega
         ·have nV:Hid (rr=r1):=Lib.hid (pq.out.trans (if_pos hr1))
          clear pq Av
          go_wp2_with fail
          go_ret2
          exact ⟨mq (by rw [dA.out,nV.out]; rfl) (by rw [dA.out,nV.out]; rfl),Py.out⟩
end Go.Proofs.YtnknfoibmgphnaaDoor
