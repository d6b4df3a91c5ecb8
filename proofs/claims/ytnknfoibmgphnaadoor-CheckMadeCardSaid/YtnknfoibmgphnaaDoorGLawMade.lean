/-
  The law CheckMade, walked: it returns true for every input.
-/
import Derived.Test.YtnknfoibmgphnaaDoorGPL
import Derived.Test.YtnknfoibmgphnaaDoorGRF
set_option linter.unusedSimpArgs false
set_option linter.unusedVariables false
namespace Go.Proofs.YtnknfoibmgphnaaDoor
open Go.RowKit
open Md
theorem uP.next {w w':World} {zs:List Int} {ao:Option Addr} (h:uP w w.heap.size zs ao) (hb:Below w.heap.size w w'):uP w' w'.heap.size zs ao:=fun k hk=>by
 obtain ⟨b,off,h1,h2,h3⟩:=(h.below hb) k hk
 exact ⟨b,off,h1,Nat.lt_of_lt_of_le h2 hb.size,h3⟩
def CQ:Prop:= ∀(w:World) (zs:List Int) (ao:Option Addr) (cap:Nat),uP w w.heap.size zs ao→zs.length≤9223372036854775807→Calls Tryd.prog 4 #[.slice ao zs.length cap] w (QT w)
theorem qV {p:Pr} {w:World} {aC aF:Option Addr} {aA av nD nT:Nat} {e l:Int} (hp:p.At w aC aF) (dL:dZ w) (hD:p.ds.length=nD) (hT:p.ts.length=nT) (he:iV p=(e,l)):
 Calls Tryd.prog 5 #[.agg #[.slice aC nD aA,.slice aF nT av]] w fun e' w'=>e'= .returned (.tuple #[.int .i64 e,.int .i64 l])∧Below w.heap.size w w':=by
 subst hD hT
 have:=ED p w aC aF aA av hp dL
 rw [he] at this
 exact this
set_option maxHeartbeats 8000000 in
set_option maxRecDepth 100000 in
theorem K5 (Ls:CQ) (ao:Option Addr) (cap:Nat) (zs:List Int) (hcap:zs.length≤maxLen) (n:Nat) (hn:n≤255) (w:World) (hz:uP w w.heap.size zs ao) (dL:dZ w):
 Calls Tryd.prog 3 #[.slice ao zs.length cap,.int .u8 n] w fun e w'=>e= .returned (.bool true)∧Below w.heap.size w w':=by
 have HZ:=Lib.hid hz
 have iW:=Lib.hid dL
 have Pt:=Lib.hid Ls
 unfold maxLen at hcap
 clear hz dL Ls
 by_cases V8:200 < zs.length
 ·go_enter Tryd.func3,Tryd.ntmps3
  go_wp2_with fail
  go_ret
  exact ⟨rfl,Below.refl _ _⟩
 ·go_enter Tryd.func3,Tryd.ntmps3
  go_wp2_with fail
  refine (Pt.out w zs ao cap HZ.out (by omega)).mono ?_
  rintro e w1 ⟨gD,gT,av,bZ,rfl,hO,hb⟩
  have HA:=Lib.hid hO.at
  have Rm:=Lib.hid hO.zero
  have HB:=Lib.hid hb
  have hTL:(bZ.map (fun x:bU=>x.t)).length=bZ.length:=List.length_map _
  clear hO hb
  go_upto_region 4 with fail
  generalize hW:World.alloc w1 _=w2
  have HB2:Hid (Below w1.heap.size w1 w2):=Lib.hid (by rw [← hW]; exact ay _ _)
  have HX:Hid (w2.heap[w1.heap.size]? =some (.cells #[.slice (some ⟨gD,0,none⟩) 9 9,.slice (some ⟨gT,0,none⟩) bZ.length av] 26 (0,0))):=Lib.hid (by rw [← hW]; exact heap_alloc_new _ _)
  clear hW
  have y0:=bL (j:=0) HX.out rfl
  have y1:=bL (j:=1) HX.out rfl
  have C8:=Lib.hid hTL
  clear hTL
  go_wp2_with fail
  refine (qV (p:=⟨gQ,bZ.map (fun x:bU=>x.t)⟩) (HA.out.1.same HB2.out) ((iW.out.same HB.out).same HB2.out) rfl C8.out Rm.out).mono ?_
  rintro e w3 ⟨rfl,hb⟩
  have HB3:Hid (Below w.heap.size w w3):=Lib.hid ((HB.out.trans (HB2.out.mono HB.out.size)).trans (hb.mono (Nat.le_trans HB.out.size HB2.out.size)))
  clear hb HA Rm HB HB2 HX y0 y1 C8
  go_wp2_with fail
  generalize Value.agg #[_,_]=a0
  refine (Pt.out w3 zs ao cap (HZ.out.next HB3.out) (by omega)).mono ?_
  clear bZ gD gT av
  rintro e w4 ⟨gD,gT,av,bZ,rfl,hO,hb⟩
  have HO:=Lib.hid hO
  have gV:=Lib.hid (HB3.out.trans (hb.mono HB3.out.size))
  have R3:=Lib.hid ((iW.out.same HB3.out).same hb)
  have HW3:Hid (w.heap.size≤w3.heap.size):=Lib.hid HB3.out.size
  have UA:Hid (w.heap.size≤w4.heap.size):=Lib.hid gV.out.size
  clear hO hb HB3 HZ Pt
  go_upto_region 8 with fail
  obtain ⟨qb,LC⟩: ∃g,w4.heap.size=g:=⟨_,rfl⟩
  generalize hW:World.alloc w4 _=w5
  have oZ:Hid (Below w4.heap.size w4 w5):=Lib.hid (by rw [← hW]; exact ay _ _)
  have HX:Hid (w5.heap[qb]? =some (.cells #[.slice (some ⟨gD,0,none⟩) 9 9,.slice (some ⟨gT,0,none⟩) bZ.length av] 26 (0,0))):=Lib.hid (by rw [← hW,← LC]; exact heap_alloc_new _ _)
  have Cg:=Lib.hid (HO.out.next (bT oZ.out))
  have HQ:=Lib.hid LC
  have KH:=Lib.hid (gV.out.trans (oZ.out.mono gV.out.size))
  have BU:=Lib.hid (R3.out.same oZ.out)
  have HF:=Lib.hid HO.out.few
  have TD:Hid (iy w4 w4.heap.size (bZ.map (fun x:bU=>x.t)) (some ⟨gT,0,none⟩) 0):=Lib.hid HO.out.at.1.2.2.2
  have KV:=Lib.hid HO.out.made
  have TQ:Hid (gD < w4.heap.size∧gT < w4.heap.size):=Lib.hid ⟨(Array.getElem?_eq_some_iff.1 HO.out.dec).1,(HO.out.row.lt gT rfl).2⟩
  rw [LC]
  clear hW LC HO gV R3
  go_wp2_with fail
  go_loopw [9,10] (fun v9 v10 wr=> ∃(i:Nat) (z:Int),v9= .int .i64 z∧v10= .int .i64 i∧i≤bZ.length∧iw ((bZ.map (fun x:bU=>x.t)).drop i) z=iw (bZ.map (fun x:bU=>x.t)) 0∧Below w5.heap.size w5 wr) (fun _ i _=>bZ.length - (intOf i).toNat)
  case atStart=>exact ⟨0,0,rfl,rfl,Nat.zero_le _,rfl,Below.refl _ _⟩
  case round=>
   obtain ⟨i,z,rfl,rfl,hi,hc,hb⟩:=hrel
   have HC:=Lib.hid hc
   have Fq:=Lib.hid hb
   have uO:=Lib.hid ((hb.block _ (Array.getElem?_eq_some_iff.1 HX.out).1).trans HX.out)
   have HOr:=Lib.hid (Cg.out.next (bT hb))
   have y1:=bL (j:=1) uO.out rfl
   clear hc hb
   by_cases hlt:i < bZ.length
   ·obtain ⟨x,hx⟩: ∃x,bZ[i]? =some x:=⟨_,List.getElem?_eq_getElem hlt⟩
    have hxm:=List.mem_of_getElem? hx
    have y3:wr.cell? ⟨gT,i * 4 + 3,none⟩=some (.slice x.bg x.t.body.len x.aT):=(jX jL HOr.out.row).2.2 i x hx 3 _ rfl
    have Fg:=Lib.hid (HOr.out.inner x hxm)
    have R7:=Lib.hid (HOr.out.uf x hxm)
    have hb0:(0:Int)≤(i:Int):=by omega
    have hb1:(i:Int) < (bZ.length:Int):=by omega
    have HDR:Hid ((bZ.map (fun x:bU=>x.t)).drop i=x.t ::(bZ.map (fun x:bU=>x.t)).drop (i + 1)):=Lib.hid (by
     rw [List.drop_eq_getElem_cons (by rw [List.length_map]; exact hlt)]
     congr 1
     rw [List.getElem_map]
     have:=(List.getElem?_eq_some_iff.1 hx).2
     rw [this])
    clear hx hxm
    go_wp2_with fail
    refine (xw x.t.body wr x.bg x.aT R7.out.1.1.2.2.2 Fg.out.2).mono ?_
    rintro e w6 ⟨rfl,hb⟩
    have bY:=Lib.hid (Fq.out.trans (hb.mono Fq.out.size))
    have pq:Hid (iw ((bZ.map (fun x:bU=>x.t)).drop (i + 1)) (wrap64 (z + nO x.t.body))=iw (bZ.map (fun x:bU=>x.t)) 0):=Lib.hid (by
     have:=HC.out
     rw [HDR.out,iw] at this; exact this)
    have hwi:IntKind.i64.wrap ((i:Int) + 1)=(i:Int) + 1:=IntWalk.i64_in _ (by have:=HF.out.2; omega)
    clear hb y1 y3 HC HDR Fg R7
    go_wp2_with fail
    go_roundw
    case rel=>exact ⟨i + 1,_,by first | rfl | go_num,by go_num,by omega,pq.out,bY.out⟩
    case measure=>simp [intOf]; omega
   ·have hi2:i=bZ.length:=by omega
    have hz:z=iw (bZ.map (fun x:bU=>x.t)) 0:=by
     have:=HC.out
     rw [hi2,List.drop_of_length_le (by rw [List.length_map]; exact Nat.le_refl _)] at this
     exact this
    have Ri:=Lib.hid hz
    clear hz HC
    by_cases h50:50 < z
    ·go_wp2_with fail
     go_ret
     exact ⟨rfl,KH.out.trans (Fq.out.mono KH.out.size)⟩
    ·go_upto_region 13 with fail
     obtain ⟨m,hm⟩: ∃m,bZ.length=m + 1:=⟨bZ.length - 1,by have:=HF.out.1; omega⟩
     have HM:=Lib.hid hm
     rw [hm] at uO
     rw [hm]
     have Vj:IntKind.i64.wrap (m:Int)=(m:Int):=IntWalk.i64_in _ (by have:=HF.out.2; omega)
     clear y1 hm hi2 hlt hi
     have y1:=bL (j:=1) uO.out rfl
     have hc4:(n:Int) % 4=0∨(n:Int) % 4=1∨(n:Int) % 4=2∨(n:Int) % 4=3:=by omega
     have KS:Hid (iw (bZ.map (fun x:bU=>x.t)) 0≤50):=Lib.hid (by have:=Ri.out; omega)
     have Fp:Hid (iV ⟨gQ,bZ.map (fun x:bU=>x.t)⟩=(0,0)):=Lib.hid HOr.out.zero
     have Vp:=Lib.hid (BU.out.same Fq.out)
     have tQ:=Lib.hid (KH.out.trans (Fq.out.mono KH.out.size))
     have qh:Hid (gD < qb∧gT < qb∧qb < wr.heap.size):=Lib.hid (by
      have h1:=(Array.getElem?_eq_some_iff.1 uO.out).1
      have h2:=TQ.out; have h3:=HQ.out; omega)
     clear Ri
     rcases hc4 with hr | hr | hr | hr
     ·go_upto_region 18 with fail
      have y0:=bL (j:=0) uO.out rfl
      have kX:Hid (Below wr.heap.size wr (wr.alloc (.cells (rC qU).toArray 37))):=Lib.hid (ay _ _)
      have rz:=Lib.hid (jM (heap_alloc_new wr (.cells (rC qU).toArray 37)))
      have Rn:=Lib.hid (jM ((kX.out.block gD (by have:=qh.out; omega)).trans HOr.out.dec))
      have vE:=Lib.hid ((kX.out.block qb qh.out.2.2).trans uO.out)
      obtain ⟨i0,hi,hz0,hz1,hz2⟩:=jI (α:=Nat) (β:=Nat) Qn
      go_wp2_with (at_builtin; refine wpList_append_grows _ rfl _ _ 23 rfl 37 i0 _ 6 64 Tryd.underlying23 hi hz0 hz1 hz2 rfl (by decide) (some ⟨gD,0,none⟩) 9 9 (gQ.flatMap rC) rfl (by simp) rfl (fun b e=>by injection e with e; subst e; exact Rn.out) ⟨wr.heap.size,0,none⟩ 1 1 (rC qU) rfl rfl rz.out (MV _) (by decide) (by unfold maxLen; decide) (by decide) ?_)
      clear hi hz0 hz1 hz2
      intro v' w7 hown hgr
      obtain ⟨g',cap',rfl,hg',-⟩:=hown.form (by decide)
      have nV:=Lib.hid ((hgr.block qb (by simp; have:=qh.out; omega) (by simp)).trans vE.out)
      have HOW:=Lib.hid hown
      have TY:Hid (qb < g'):=Lib.hid (by have:=qh.out; omega)
      have DK:Hid (Below wr.heap.size wr w7):=Lib.hid (kX.out.trans ⟨hgr.os,hgr.tape,hgr.output,hgr.size,fun k hk=>hgr.block k (by simp; omega) (by simp)⟩)
      have z0:=bL (j:=0) nV.out rfl
      have f0:w7.frozen? ⟨qb,0,none⟩=false:=dH nV.out
      clear hown hgr hg' y0 y1 rz Rn vE kX
      go_upto_region 19 with fail
      generalize ou:World.setCell w7 _ _=w8
      have Pm:Hid (w8.heap[qb]? =some (.cells #[.slice (some ⟨g',0,none⟩) 10 cap',.slice (some ⟨gT,0,none⟩) (m + 1) av] 26 (0,0))):=Lib.hid (by rw [← ou,dN nV.out]; rfl)
      have Sv:Hid (w.heap.size≤qb):=Lib.hid (by have:=UA.out; have:=HQ.out; omega)
      have BN:Hid (Below qb w4 w8∧Below w.heap.size w w8):=Lib.hid (by
       have h1:=HQ.out; have h2:=qh.out; have h3:=Sv.out
       have wR:Below qb w4 w5:=by rw [← h1]; exact oZ.out
       have hB:Below qb w4 w7:=(wR.trans (Fq.out.mono (by have:=wR.size; omega))).trans (DK.out.mono (by omega))
       rw [← ou]
       exact ⟨hB.setCell (Nat.le_refl qb) _,(tQ.out.trans (DK.out.mono tQ.out.size)).setCell h3 _⟩)
      have oO:Hid (w8.ownsRow 0 37 6 (.slice (some ⟨g',0,none⟩) 10 cap') 10 ((gQ++[qU]).flatMap rC)):=Lib.hid (by
       rw [← ou,List.flatMap_append,List.flatMap_singleton]
       exact iA HOW.out (fun k e=>aO _ _ _ rfl (by have e:g'=k:=by injection e
                                                   have:=TY.out; show qb≠k; omega)) (Nat.zero_le _))
      have TK:Hid (Pr.At w8 ⟨gQ++[qU],bZ.map (fun x:bU=>x.t)⟩ (some ⟨g',0,none⟩) (some ⟨gT,0,none⟩)):=Lib.hid (by
       obtain ⟨-,hg,hcs⟩:=jX (xs:=gQ++[qU]) (n:=10) yF oO.out
       refine ⟨by show 10≤maxLen; unfold maxLen; decide,by show (bZ.map (fun x:bU=>x.t)).length≤maxLen; rw [List.length_map]; have:=HF.out; unfold maxLen; omega,?_,?_⟩
       ·refine Gn (gQ++[qU]) 0 (fun d hd=> ?_) (fun i d hd=>⟨g',rfl,hg,fun j u hu=>by rw [Nat.zero_add]; exact hcs i d hd j u hu⟩)
        rcases List.mem_append.1 hd with hd | hd
        ·exact (ES d hd).1
        ·rw [List.mem_singleton.1 hd]; exact ⟨by unfold aX; decide,by unfold aX; decide,by unfold maxLen; decide,by unfold aX; decide,by unfold aX; decide,by unfold maxLen; decide⟩
       ·have:=TD.out
        rw [HQ.out] at this
        exact (this.below BN.out.1).mono (by have:=(Array.getElem?_eq_some_iff.1 Pm.out).1; omega))
      have C8:Hid ((bZ.map (fun x:bU=>x.t)).length=m + 1):=Lib.hid (by rw [List.length_map]; exact HM.out)
      clear ou oO HOW nV DK z0 f0
      have y0:=bL (j:=0) Pm.out rfl
      have y1:=bL (j:=1) Pm.out rfl
      go_wp2_with fail
      refine (qV (p:=⟨gQ++[qU],bZ.map (fun x:bU=>x.t)⟩) TK.out (iW.out.same BN.out.2) rfl C8.out (Qs KV.out (by rw [Fp.out]))).mono ?_
      rintro e w9 ⟨rfl,hb⟩
      have oL:=Lib.hid (BN.out.2.trans (hb.mono BN.out.2.size))
      clear hb
      go_wp2_with fail
      go_ret
      exact ⟨rfl,oL.out⟩
     ·go_upto_region 22 with fail
      have hd1:Below wr.heap.size wr (wr.drewN 1):=below_drewN (Below.refl _ _) 1
      refine cu (by kernel_rfl) rfl ?_
      refine bG 0 1 [] [[],[0],[0],[0,1,2]] [[]] (fun _ w'=>Below wr.heap.size wr w') (fun w w'=>Below w.heap.size w w') [77] rfl rfl (by rfl) (by kernel_rfl) (by kernel_rfl) (by kernel_rfl) (by kernel_rfl) (by kernel_rfl) (by rfl) (fun _=>Below.refl _ _) (by rfl) hd1 ?_
      simp only [List.take_succ_cons,List.take_zero,List.drop_zero,List.drop_succ_cons,gP,List.map_cons,List.map_nil]
      refine aH.some (fun v w'=> ∃b,v= .pointer (some ⟨b,0,none⟩)∧wr.heap.size≤b∧w'.heap[b]? =some (.cells #[.bool false] 4 (0,0))) ?_ ?_ ?_
      ·rintro v w1 w' hle ⟨g,h1,h2,h3⟩
       exact ⟨g,h1,h2,(hle.block g (Array.getElem?_eq_some_iff.1 h3).1).trans h3⟩
      ·intro c A w' hok hC hO hD
       simp [go_sem,gd,Oper.wp]
       exact ak.mk (d:=_) (v:= .pointer (some ⟨_,0,none⟩)) (ay _ _) (hC.trans ((ay _ _).mono hC.size)) ⟨_,rfl,hC.size,heap_alloc_new _ _⟩
      try simp only [List.nil_append,List.cons_append]
      refine aH.done ?_
      intro wz bK
      try simp only [List.drop_zero,List.drop_succ_cons]
      intro v0 h0
      obtain ⟨cb,rfl,hcb,hcl⟩:=h0
      refine rV ?_
      go_simp
      have Em:=Lib.hid (And.intro hcb hcl)
      have CS:=Lib.hid bK
      clear hcb hcl bK hd1
      refine bG 1 3 [] [[],[0],[0],[0,1,2]] [[],[]] (fun _ w'=>Below wr.heap.size wr w'∧NP w' cb) (fun _ _=>True) [] rfl rfl (by rfl) (by kernel_rfl) (by kernel_rfl) (by kernel_rfl) (by kernel_rfl) (by kernel_rfl) (by rfl) (fun _=>trivial) (by rfl) ⟨CS.out,false,Em.out.2⟩ ?_
      simp only [List.take_succ_cons,List.take_zero,List.drop_zero,List.drop_succ_cons,gP,List.map_cons,List.map_nil]
      refine aH.some (fun _ _=>True) (fun _ _ _ _ _=>trivial) ?_ ?_
      ·intro c A w' hok hC hO hD
       have xQ:=hO 77 (by rfl)
       simp [Act.eval] at xQ
       obtain ⟨DJ,xb,hC2⟩:=hC
       have k1:w'.cell? ⟨cb,0,none⟩=some (.bool xb):=bL hC2 rfl
       have k2:w'.frozen? ⟨cb,0,none⟩=false:=dH hC2
       simp [go_sem,gd,Oper.wp,xQ,k1,k2]
       exact ak.mF (v:=undef) trivial ⟨DJ.setCell Em.out.1 _,_,by rw [dN hC2]; rfl⟩ trivial
      refine aH.some (fun _ _=>True) (fun _ _ _ _ _=>trivial) ?_ ?_
      ·intro c A w' hok hC hO hD
       have xQ:=hO 77 (by rfl)
       simp [Act.eval] at xQ
       obtain ⟨DJ,xb,hC2⟩:=hC
       have k1:w'.cell? ⟨cb,0,none⟩=some (.bool xb):=bL hC2 rfl
       have k2:w'.frozen? ⟨cb,0,none⟩=false:=dH hC2
       simp [go_sem,gd,Oper.wp,xQ,k1,k2]
       exact ak.mF (v:=undef) trivial ⟨DJ.setCell Em.out.1 _,_,by rw [dN hC2]; rfl⟩ trivial
      try simp only [List.nil_append,List.cons_append]
      refine aH.done ?_
      intro wz bK
      try simp only [List.drop_zero,List.drop_succ_cons]
      intro v0 h0 v1 h1
      clear h0 h1
      refine rV ?_
      go_simp
      obtain ⟨hq1,q,hq2⟩:=bK
      have mO:=Lib.hid hq1
      have kq:wz.cell? ⟨cb,0,none⟩=some (.bool q):=bL hq2 rfl
      clear hq1 hq2
      refine gY 3 [[],[0],[0],[0,1,2]] rfl rfl rfl rfl rfl (by kernel_rfl) (by kernel_rfl) (by kernel_rfl) ?_
      simp [go_sem,Oper.wp,kq]
      refine dQ rfl ?_
      go_simp
      clear kq
      cases q
      ·have kW:=Lib.hid (HOr.out.next (bT mO.out))
       obtain ⟨wq,hwq⟩: ∃W:World,W=wz:=⟨_,rfl⟩
       rw [← hwq]
       rw [← hwq] at mO kW
       clear hwq
       obtain ⟨pre,x,l,vB,hth,hL⟩:=kW.out.la
       obtain rfl:=hL.v
       obtain rfl:m=pre.length:=by have:=HM.out; rw [hth,List.length_append,List.length_singleton] at this; omega
       obtain rfl:bZ=pre++[x]:=hth
       have HL:=Lib.hid hL
       have rM:=Lib.hid ((mO.out.block qb qh.out.2.2).trans uO.out)
       have hcl:wq.cell? ⟨gT,pre.length * 4 + 3,none⟩=some (.slice x.bg l.length x.aT):=by
        have:=(jX jL kW.out.row).2.2 pre.length x (mM pre x) 3 _ rfl
        rw [hL.bd,jK] at this; exact this
       have sZ:=Lib.hid hcl
       have kF:Hid (gT < wq.heap.size∧qb < wq.heap.size∧gT≠qb):=Lib.hid (by have:=qh.out; have:=mO.out.size; omega)
       have xH:Hid ((Value.slice x.bg l.length x.aT).ownBlock≠some qb):=Lib.hid (fun e=>yM hL.own rM.out (by decide) qb e rfl)
       have zW:Hid ((Value.slice x.bg l.length x.aT).ownBlock≠some gT):=Lib.hid (fun e=>(hL.ne gT e).1 rfl)
       have Dj:Hid (Below w.heap.size w wq):=Lib.hid (tQ.out.trans (mO.out.mono tQ.out.size))
       have hb0:(0:Int)≤(pre.length:Int):=by omega
       have hb1:(pre.length:Int) < (pre.length:Int) + 1:=by omega
       have uT:Hid (l.length + 1≤maxLen∧(l.length + 1) * 176≤140737488355328∧w3.heap.size + 1≤wq.heap.size):=Lib.hid (by
        have h1:=hL.few; have h2:=kW.out.lt; have h3:=kF.out
        refine ⟨by unfold maxLen; omega,by omega,by omega⟩)
       have C8:Hid ((((pre++[x]).map (fun y:bU=>y.t))).length=pre.length + 1):=Lib.hid (by simp)
       clear hL y1 hcl
       go_upto_region 25 with fail
       refine uE (nZ wq 8 10 11 14 (vg wq (w3.heap.size + 1) (Value.slice x.bg l.length x.aT).ownBlock (l.length + 1) (l.flatMap aD.f++aD.f (⟨⟨10,78,uH,⟨#[]⟩,.nil,0,0,⟨#[]⟩,.nil⟩,.nil,.nil,gq⟩:aD))) ⟨gT,pre.length * 4 + 3,none⟩ (uN (l.length + 1)) (aD.f (⟨⟨10,78,uH,⟨#[]⟩,.nil,0,0,⟨#[]⟩,.nil⟩,.nil,.nil,gq⟩:aD)).toArray 42) (Ag.le wq.heap.size) [92,93,94,95,96,97,98,99,100,101,102,103,104,105] ⟨none,false,none⟩ (by kernel_rfl) (by kernel_rfl) (fun g w=>Ag.le_refl _ g w) (by rfl) nZ.start ?_
       apply jo.step
       case aB=>
        intro D A g w' hDn hC hO hD
        have e8:=hO 8 (by rfl)
        simp [Act.eval] at e8
        simp [iB,iq,aj,Act.eval,Region.binds] at hD
        simp [go_sem,kQ,Oper.wp,hD,e8]
        exact fZ.mk (Ag.le_refl _ _ _) (hC.skip _ (by decide)) (iq.mk _ _ _)
       apply jo.step
       case aB=>
        intro D A g w' hDn hC hO hD
        have z1:=hC.cell kF.out.2.1 xH.out kF.out.2.2 (bL (j:=1) rM.out rfl)
        simp [iB,iq,aj,Act.eval,Region.binds] at hD
        simp [go_sem,kQ,Oper.wp,hD,z1]
        exact fZ.mk (Ag.le_refl _ _ _) (hC.skip _ (by decide)) (iq.mk _ _ _)
       apply jo.step
       case aB=>
        intro D A g w' hDn hC hO hD
        have e11:=hO 11 (by rfl)
        simp [Act.eval] at e11
        simp [iB,iq,aj,Act.eval,Region.binds] at hD
        simp [go_sem,kQ,Oper.wp,hD,e11]
        exact fZ.mk (Ag.le_refl _ _ _) (hC.skip _ (by decide)) (iq.mk _ _ _)
       apply jo.step
       case aB=>
        intro D A g w' hDn hC hO hD
        have e8:=hO 8 (by rfl)
        simp [Act.eval] at e8
        simp [iB,iq,aj,Act.eval,Region.binds] at hD
        simp [go_sem,kQ,Oper.wp,hD,e8]
        exact fZ.mk (Ag.le_refl _ _ _) (hC.skip _ (by decide)) (iq.mk _ _ _)
       apply jo.step
       case aB=>
        intro D A g w' hDn hC hO hD
        have z1:=hC.cell kF.out.2.1 xH.out kF.out.2.2 (bL (j:=1) rM.out rfl)
        simp [iB,iq,aj,Act.eval,Region.binds] at hD
        simp [go_sem,kQ,Oper.wp,hD,z1]
        exact fZ.mk (Ag.le_refl _ _ _) (hC.skip _ (by decide)) (iq.mk _ _ _)
       apply jo.step
       case aB=>
        intro D A g w' hDn hC hO hD
        have e11:=hO 11 (by rfl)
        simp [Act.eval] at e11
        simp [iB,iq,aj,Act.eval,Region.binds] at hD
        simp [go_sem,kQ,Oper.wp,hD,e11]
        exact fZ.mk (Ag.le_refl _ _ _) (hC.skip _ (by decide)) (iq.mk _ _ _)
       apply jo.step
       case aB=>
        intro D A g w' hDn hC hO hD
        simp [iB,iq,aj,Act.eval,Region.binds] at hD
        simp [go_sem,kQ,Oper.wp,hD,hb0,hb1]
        exact fZ.mk (Ag.le_refl _ _ _) (hC.skip _ (by decide)) (iq.mk _ _ _)
       apply jo.step
       case aB=>
        intro D A g w' hDn hC hO hD
        simp [iB,iq,aj,Act.eval,Region.binds] at hD
        simp [go_sem,kQ,Oper.wp,hD]
        exact fZ.mk (Ag.le_refl _ _ _) (hC.skip _ (by decide)) (iq.mk _ _ _)
       refine jo.some (fun v g _=>v= .slice x.bg l.length x.aT∧g.h=true) (fun v g w g' w' hle h=>⟨h.1,hle.2.1 h.2⟩) ?_ ?_
       ·intro D A g w' hDn hC hO hD
        simp [iB,iq,aj,Act.eval,Region.binds] at hD
        obtain ⟨hp,hle,hm⟩:=hC.Qw hDn (by decide)
        have z3:=((hC.pre hp).cell (p:=⟨gT,pre.length * 4 + 3,none⟩) kF.out.1).trans sZ.out
        simp [go_sem,kQ,Oper.wp,hD,z3]
        exact fZ.mk hle hm ⟨rfl,rfl⟩
       apply jo.step
       case aB=>
        intro D A g w' hDn hC hO hD
        simp [iB,iq,aj,Act.eval,Region.binds] at hD
        simp [go_sem,kQ,Oper.wp,hD]
        exact fZ.mk (Ag.le_refl _ _ _) (hC.skip _ (by decide)) (iq.mk _ _ _)
       refine jo.some (fun v g _=> ∃b,v= .slice (some ⟨b,0,none⟩) 1 1∧g.o=some b) (fun v g w g' w' hle h=>by obtain ⟨b,h1,h2⟩:=h; exact ⟨b,h1,hle.1 b h2⟩) ?_ ?_
       ·intro D A g w' hDn hC hO hD
        simp [iB,iq,aj,Act.eval,Region.binds] at hD
        simp [go_sem,kQ,Oper.wp,hD]
        have hM:=hC.Oj hDn (by decide)
        exact fZ.mk hM.1 hM.2 ⟨_,rfl,rfl⟩
       refine jo.some (fun v g _=> ∃q,g.p=some q∧v=uN (l.length + 1) q) (fun v g w g' w' hle h=>by obtain ⟨q,h1,h2⟩:=h; exact ⟨q,hle.2.2.1 q h1,h2⟩) ?_ ?_
       ·intro D A g w' hDn hC hO hD
        simp [iB,iq,aj,Act.eval,Region.binds] at hD
        obtain ⟨⟨hs1,hh⟩,bb,hs2,hb⟩:=hD
        simp only [kQ,if_true]
        have hbl:=hC.pre (hC.mQ hDn)
        obtain ⟨Te,JH⟩:=hC.row bb hb
        have hown:=iA HL.out.own (fun k e=>hbl.block k (HL.out.own.lt k e).2) (Nat.le_refl _)
        obtain ⟨i0,hi0,hz0,hz1,hz2⟩:=jI (α:=Nat) (β:=Nat) sH
        refine wp_append_lies w' _ _ _ (by rfl) (w3.heap.size + 1) 42 i0 _ 11 176 Tryd.underlying33 hi0 hz0 hz1 hz2 (by rfl) (by omega) (.slice x.bg l.length x.aT) l.length (l.flatMap aD.f) (by simp [Act.eval,hs1]) hown ⟨bb,0,none⟩ 1 1 (aD.f (⟨⟨10,78,uH,⟨#[]⟩,.nil,0,0,⟨#[]⟩,.nil⟩,.nil,.nil,gq⟩:aD)) (by simp [Act.eval,hs2]) (by rfl) (jM JH) (qO _) (by decide) uT.out.1 uT.out.2.1 (Nat.le_trans uT.out.2.2 hbl.size) _ rfl ?_
        intro g' cap' w5 hown5 hgr hmv zy
        have hM:=hC.Pb (q:=(g',cap')) (w':=w5) hDn (by decide) hb hh ⟨hown5,vk (oH hbl) hgr,by rcases hmv with h | h; exact .inl h; exact .inr (by rw [h]; exact hbl.size)⟩ hgr.size (fun k h1 h2=>hgr.block k h2 (fun e=>by have:=(HL.out.own.lt k e.symm).2; omega))
        exact fZ.mk hM.1 hM.2 ⟨(g',cap'),rfl,rfl⟩
       apply jo.step
       case aB=>
        intro D A g w' hDn hC hO hD
        simp [iB,iq,aj,Act.eval,Region.binds] at hD
        simp [go_sem,kQ,Oper.wp,hD,hb0,hb1]
        exact fZ.mk (Ag.le_refl _ _ _) (hC.skip _ (by decide)) (iq.mk _ _ _)
       apply jo.step
       case aB=>
        intro D A g w' hDn hC hO hD
        simp [iB,iq,aj,Act.eval,Region.binds] at hD
        simp [go_sem,kQ,Oper.wp,hD]
        exact fZ.mk (Ag.le_refl _ _ _) (hC.skip _ (by decide)) (iq.mk _ _ _)
       refine jo.some (fun _ _ _=>True) (fun _ _ _ _ _ _ _=>trivial) ?_ ?_
       ·intro D A g w' hDn hC hO hD
        simp [iB,iq,aj,Act.eval,Region.binds] at hD
        obtain ⟨hs1,⟨qa,qc,hq,hs2⟩,-⟩:=hD
        have hR:=hC.post (qa,qc) hq hDn
        have hblk:=hR.2.1.block gT kF.out.1 (fun e=>zW.out e.symm)
        have z3:=(World.cell?_of_block (a:=⟨gT,pre.length * 4 + 3,none⟩) hblk).trans sZ.out
        have f3:w'.frozen? ⟨gT,pre.length * 4 + 3,none⟩=false:=by
         rw [World.frozen?_of_block (a:=⟨gT,pre.length * 4 + 3,none⟩) hblk]
         rcases kW.out.row.2 with ⟨h1,-⟩ | ⟨g0,cap0,cur,h1,-,h3,-⟩
         ·cases h1
         ·injection h1 with h1; injection h1 with h1; injection h1 with h1; subst h1; exact dH h3
        unfold uN at hs2
        simp [go_sem,kQ,Oper.wp,hs1,hs2,z3,f3]
        have hM:=hC.Nb hDn hq kF.out.1 (by decide) (by decide)
        exact fZ.mF (v:=undef) hM.1 hM.2 trivial
       refine jo.done ?_
       intro D g wz hD hC
       simp only [BZ,List.nil_append,List.cons_append,List.map_cons,List.map_nil]
       intro v0 h0 v1 h1 v2 h2 v3 h3 v4 h4 v5 h5 v6 h6 v7 h7 v8 h8 v9 h9 v10 h10 v11 h11 v12 h12 v13 mP v14 lG
       obtain ⟨q,hq,rfl⟩:=h11
       obtain ⟨w5,hR,hW⟩:=hC.fin q hq (hD 14 (by simp))
       have HR:=Lib.hid hR
       have HW:=Lib.hid hW
       clear hC hD hR hq hW
       refine KN ?_
       go_simp
       go_upto_region 26 with fail
       have tq:=Lib.hid (yQ kW.out HL.out HR.out HW.out ⟨by unfold aX; decide,by unfold aX; decide,by unfold maxLen; decide,jD,nil_le,nE,Nat.zero_le _,Nat.zero_le _⟩ ⟨trivial,trivial,trivial,trivial⟩)
       have uU:Hid (wz.heap[qb]? =some (.cells #[.slice (some ⟨gD,0,none⟩) 9 9,.slice (some ⟨gT,0,none⟩) (pre.length + 1) av] 26 (0,0))):=Lib.hid (by rw [HW.out]; exact (aO _ _ _ rfl kF.out.2.2).trans ((HR.out.2.1.block qb kF.out.2.1 (fun e=>xH.out e.symm)).trans rM.out))
       have oL:Hid (Below w.heap.size w wz):=Lib.hid (by
        have h1:=kW.out.lt; have h2:=HW3.out; have h3:=Dj.out
        have hR2:=HR.out.2.1
        have hb:Below w.heap.size w w5:=⟨hR2.os.trans h3.os,hR2.tape.trans h3.tape,hR2.output.trans h3.output,Nat.le_trans h3.size hR2.size,fun k hk=>(hR2.block k (Nat.lt_of_lt_of_le hk h3.size) (fun e=>by have:=(HL.out.own.lt k e.symm).1; omega)).trans (h3.block k hk)⟩
        rw [HW.out]; exact hb.setCell (by show w.heap.size≤gT; omega) _)
       clear HW HR
       have y0:=bL (j:=0) uU.out rfl
       have y1:=bL (j:=1) uU.out rfl
       go_wp2_with fail
       refine (qV (nD:=9) (nT:=pre.length + 1) tq.out (iW.out.same oL.out) rfl (by simp) (LW (p:=⟨gQ,(pre++[x]).map (fun y:bU=>y.t)⟩) (t:=x.t) KV.out (by rw [Fp.out]) (by rw [List.map_append]; rfl) KS.out)).mono ?_
       rintro e wA ⟨rfl,hb⟩
       have kX:=Lib.hid (oL.out.trans (hb.mono oL.out.size))
       clear hb
       go_wp2_with fail
       go_ret
       exact ⟨rfl,kX.out⟩
      ·have kW:=Lib.hid (HOr.out.next (bT mO.out))
       obtain ⟨wq,hwq⟩: ∃W:World,W=wz:=⟨_,rfl⟩
       rw [← hwq]
       rw [← hwq] at mO kW
       clear hwq
       obtain ⟨pre,x,l,vB,hth,hL⟩:=kW.out.la
       obtain rfl:=hL.v
       obtain rfl:m=pre.length:=by have:=HM.out; rw [hth,List.length_append,List.length_singleton] at this; omega
       obtain rfl:bZ=pre++[x]:=hth
       have HL:=Lib.hid hL
       have rM:=Lib.hid ((mO.out.block qb qh.out.2.2).trans uO.out)
       have hcl:wq.cell? ⟨gT,pre.length * 4 + 3,none⟩=some (.slice x.bg l.length x.aT):=by
        have:=(jX jL kW.out.row).2.2 pre.length x (mM pre x) 3 _ rfl
        rw [hL.bd,jK] at this; exact this
       have sZ:=Lib.hid hcl
       have kF:Hid (gT < wq.heap.size∧qb < wq.heap.size∧gT≠qb):=Lib.hid (by have:=qh.out; have:=mO.out.size; omega)
       have xH:Hid ((Value.slice x.bg l.length x.aT).ownBlock≠some qb):=Lib.hid (fun e=>yM hL.own rM.out (by decide) qb e rfl)
       have zW:Hid ((Value.slice x.bg l.length x.aT).ownBlock≠some gT):=Lib.hid (fun e=>(hL.ne gT e).1 rfl)
       have Dj:Hid (Below w.heap.size w wq):=Lib.hid (tQ.out.trans (mO.out.mono tQ.out.size))
       have hb0:(0:Int)≤(pre.length:Int):=by omega
       have hb1:(pre.length:Int) < (pre.length:Int) + 1:=by omega
       have uT:Hid (l.length + 1≤maxLen∧(l.length + 1) * 176≤140737488355328∧w3.heap.size + 1≤wq.heap.size):=Lib.hid (by
        have h1:=hL.few; have h2:=kW.out.lt; have h3:=kF.out
        refine ⟨by unfold maxLen; omega,by omega,by omega⟩)
       have C8:Hid ((((pre++[x]).map (fun y:bU=>y.t))).length=pre.length + 1):=Lib.hid (by simp)
       clear hL y1 hcl
       go_upto_region 23 with fail
       have y1:=bL (j:=1) rM.out rfl
       have y3:=sZ.out
       have kX:Hid (Below wq.heap.size wq (wq.alloc (.cells (aD.f xA).toArray 42))):=Lib.hid (ay _ _)
       have rz:=Lib.hid (jM (heap_alloc_new wq (.cells (aD.f xA).toArray 42)))
       have Rf:=Lib.hid (iA HL.out.own (fun k e=>kX.out.block k (HL.out.own.lt k e).2) (Nat.le_refl _))
       have hbs:w3.heap.size + 1≤wq.heap.size + 1:=Nat.le_succ_of_le uT.out.2.2
       obtain ⟨hkl,hkb,-⟩:=uT.out
       obtain ⟨i0,hi,hz0,hz1,hz2⟩:=jI (α:=Nat) (β:=Nat) sH
       go_wp2_with (at_builtin; refine wpList_append_lies _ rfl _ _ 33 rfl (w3.heap.size + 1) 42 i0 _ 11 176 Tryd.underlying33 hi hz0 hz1 hz2 rfl (by decide) (.slice x.bg l.length x.aT) l.length (l.flatMap aD.f) rfl Rf.out ⟨wq.heap.size,0,none⟩ 1 1 (aD.f xA) rfl rfl rz.out (qO _) (by decide) hkl hkb (by simpa using hbs) _ rfl ?_)
       clear hi hz0 hz1 hz2 hkl hkb hbs
       intro g' cap' w7 hown hgr hmv Jf
       have gX:Hid (vg wq (w3.heap.size + 1) (Value.slice x.bg l.length x.aT).ownBlock (l.length + 1) (l.flatMap aD.f++aD.f xA) (g',cap') w7):=Lib.hid ⟨hown,vk (oH kX.out) hgr,by rcases hmv with h | h; exact .inl h; exact .inr (by have:=kX.out.size; simp at h this; omega)⟩
       have hblk:=gX.out.2.1.block gT kF.out.1 (fun e=>zW.out e.symm)
       have z3:=(World.cell?_of_block (a:=⟨gT,pre.length * 4 + 3,none⟩) hblk).trans sZ.out
       have f3:w7.frozen? ⟨gT,pre.length * 4 + 3,none⟩=false:=by
        rw [World.frozen?_of_block (a:=⟨gT,pre.length * 4 + 3,none⟩) hblk]
        rcases kW.out.row.2 with ⟨h1,-⟩ | ⟨g0,cap0,cur,h1,-,h3,-⟩
        ·cases h1
        ·injection h1 with h1; injection h1 with h1; injection h1 with h1; subst h1; exact dH h3
       clear hown hgr hmv Jf hblk y1 y3 rz Rf kX
       go_upto_region 24 with fail
       generalize ou:World.setCell w7 _ _=w8
       have BK:Hid (w8.ownsRow (w3.heap.size + 1) 42 11 (.slice (some ⟨g',0,none⟩) (l.length + 1) cap') (l++[xA]).length ((l++[xA]).flatMap aD.f)):=Lib.hid (by
        rw [← ou,List.flatMap_append,List.flatMap_singleton,List.length_append,List.length_singleton]
        refine iA gX.out.1 (fun k e=>aO _ _ _ rfl ?_) (Nat.le_refl _)
        have e:g'=k:=by injection e
        subst e
        show gT≠g'
        rcases gX.out.2.2 with h | h
        ·exact fun e=>zW.out (by rw [h,e])
        ·have:=kF.out.1; exact fun e=>by have h:wq.heap.size≤g':=h; omega)
       have CU:Hid (w8.there g' (l.length * 11) 11):=Lib.hid (by
        have h:=BK.out
        rw [List.length_append,List.length_singleton] at h
        exact sG h)
       have hl0:(0:Int)≤(l.length:Int):=by omega
       have hl1:(l.length:Int) < (l.length:Int) + 1:=by omega
       have GH:=Lib.hid ou
       clear ou z3 f3 hb0 hb1
       go_upto_region 26 with (refine wpList_store_mid (by rfl) _ _ _ (by rfl) g' (l.length * 11) (aD.f (⟨⟨10,78,uH,⟨#[]⟩,.nil,0,0,⟨#[]⟩,.nil⟩,.nil,.nil,gq⟩:aD)).toArray (by rfl) (by rfl) CU.out Cw (all_oneCell_toArray (qO _)) ?_)
       generalize yU:World.setCells _ _ _ _=wz
       have qG:=Lib.hid (F9 (w9:=wz) (s:=(⟨⟨10,78,uH,⟨#[]⟩,.nil,0,0,⟨#[]⟩,.nil⟩,.nil,.nil,gq⟩:aD)) (q:=(g',cap')) kW.out HL.out gX.out (by rw [← yU,← GH.out]; rfl))
       obtain ⟨w5,HR,HW⟩: ∃w5:World,Hid (vg wq (w3.heap.size + 1) (Value.slice x.bg l.length x.aT).ownBlock (l.length + 1) (l.flatMap aD.f++aD.f (⟨⟨10,78,uH,⟨#[]⟩,.nil,0,0,⟨#[]⟩,.nil⟩,.nil,.nil,gq⟩:aD)) (g',cap') w5)∧Hid (wz=w5.setCell ⟨gT,pre.length * 4 + 3,none⟩ (uN (l.length + 1) (g',cap'))):=⟨_,Lib.hid qG.out.1,Lib.hid qG.out.2⟩
       clear yU GH qG gX BK CU
       have tq:=Lib.hid (yQ kW.out HL.out HR.out HW.out ⟨by unfold aX; decide,by unfold aX; decide,by unfold maxLen; decide,jD,nil_le,nE,Nat.zero_le _,Nat.zero_le _⟩ ⟨trivial,trivial,trivial,trivial⟩)
       have uU:Hid (wz.heap[qb]? =some (.cells #[.slice (some ⟨gD,0,none⟩) 9 9,.slice (some ⟨gT,0,none⟩) (pre.length + 1) av] 26 (0,0))):=Lib.hid (by rw [HW.out]; exact (aO _ _ _ rfl kF.out.2.2).trans ((HR.out.2.1.block qb kF.out.2.1 (fun e=>xH.out e.symm)).trans rM.out))
       have oL:Hid (Below w.heap.size w wz):=Lib.hid (by
        have h1:=kW.out.lt; have h2:=HW3.out; have h3:=Dj.out
        have hR2:=HR.out.2.1
        have hb:Below w.heap.size w w5:=⟨hR2.os.trans h3.os,hR2.tape.trans h3.tape,hR2.output.trans h3.output,Nat.le_trans h3.size hR2.size,fun k hk=>(hR2.block k (Nat.lt_of_lt_of_le hk h3.size) (fun e=>by have:=(HL.out.own.lt k e.symm).1; omega)).trans (h3.block k hk)⟩
        rw [HW.out]; exact hb.setCell (by show w.heap.size≤gT; omega) _)
       clear HW HR
       have y0:=bL (j:=0) uU.out rfl
       have y1:=bL (j:=1) uU.out rfl
       go_wp2_with fail
       refine (qV (nD:=9) (nT:=pre.length + 1) tq.out (iW.out.same oL.out) rfl (by simp) (LW (p:=⟨gQ,(pre++[x]).map (fun y:bU=>y.t)⟩) (t:=x.t) KV.out (by rw [Fp.out]) (by rw [List.map_append]; rfl) KS.out)).mono ?_
       rintro e wA ⟨rfl,hb⟩
       have kX:=Lib.hid (oL.out.trans (hb.mono oL.out.size))
       clear hb
       go_wp2_with fail
       go_ret
       exact ⟨rfl,kX.out⟩
     ·go_upto_region 30 with fail
      obtain ⟨sb,hsb⟩: ∃g,wr.heap.size=g:=⟨_,rfl⟩
      generalize hWs:World.alloc wr _=ws
      have Ua:Hid (Below wr.heap.size wr ws):=Lib.hid (by rw [← hWs]; exact ay _ _)
      have Tv:Hid (ws.heap[sb]? =some (.cells (aD.f (⟨⟨1,79,⟨#[120]⟩,⟨#[]⟩,.nil,1,0,⟨#[]⟩,.nil⟩,.nil,.nil,gq⟩:aD)).toArray 42 (0,0))):=Lib.hid (by rw [← hWs,← hsb]; exact heap_alloc_new _ _)
      have bP:=Lib.hid hsb
      rw [hsb]
      clear hWs hsb y1
      go_wp2_with fail
      obtain ⟨wv,hwv⟩: ∃W:World,W=wr:=⟨_,rfl⟩
      subst hwv
      go_loopw [13] (fun v13 wl=> ∃(j:Nat) (s:aD),v13= .int .i64 j∧j≤6∧Below sb wv wl∧wl.heap[sb]? =some (.cells (aD.f s).toArray 42 (0,0))∧aN [s]=vo j∧ko s.h s.b s.e∧iX (sb + 1) wl s.I) (fun j _=>6 - (intOf j).toNat)
      case atStart=>exact ⟨0,_,rfl,by decide,by rw [← bP.out]; exact Ua.out,Tv.out,rfl,⟨by unfold aX; decide,by unfold aX; decide,by unfold maxLen; decide,jD,nil_le,⟨by unfold aX; decide,ny,jD,nil_le⟩,Nat.zero_le _,Nat.zero_le _⟩,fun _ _=>⟨trivial,trivial,trivial,trivial⟩⟩
      case round=>
       obtain ⟨j,s,rfl,hj,hbl,rR,hst,hok,KJ⟩:=hrel
       have BQ:=Lib.hid hbl
       have lY:=Lib.hid rR
       have BR:=Lib.hid (And.intro hst (And.intro hok KJ))
       clear hbl rR hst hok KJ
       by_cases Vi:j < 6
       ·obtain ⟨⟨x0,x1,x2,x3,x4,x5,x6,x7,x8,x9,x10⟩,-⟩:=dD (Q:=True) (And.intro trivial lY.out)
        have xf: ∀k,wr.frozen? ⟨sb,k,none⟩=false:=fun k=>dH lY.out
        have f0:=xf 0
        have f1:=xf 1
        have f2:=xf 2
        have f3:=xf 3
        have f4:=xf 4
        have f5:=xf 5
        have f6:=xf 6
        have f7:=xf 7
        have f8:=xf 8
        have f9:=xf 9
        have f10:=xf 10
        have hlt:sb < wr.heap.size:=(Array.getElem?_eq_some_iff.1 lY.out).1
        clear xf
        have P6:=Lib.hid (JU (by have:=bP.out; omega) BQ.out lY.out BR.out.2.1 BR.out.2.2)
        go_wp2_with fail
        go_roundw
        case rel=>exact ⟨j + 1,wQ s wr.heap.size,by go_num,by omega,P6.out.1,P6.out.2.1,by show aR.cons _ (aN [s]) .nil .nil=D7 (vo j); rw [BR.out.1]; rfl,Ov s wr.heap.size,P6.out.2.2⟩
        case measure=>simp [intOf]; omega
       ·have hj2:j=6:=by omega
        go_upto_region 34 with fail
        have M4:Hid (Below wv.heap.size wv wr):=Lib.hid (by rw [bP.out]; exact BQ.out)
        have Gz:=HOr
        clear HOr
        have HOr:=Lib.hid (Gz.out.next (bT M4.out))
        have uO:=Lib.hid ((M4.out.block qb qh.out.2.2).trans uO.out)
        have tQ:=Lib.hid (tQ.out.trans (M4.out.mono tQ.out.size))
        have GQ:=qh
        have qh:Hid (gD < qb∧gT < qb∧qb < wr.heap.size):=Lib.hid (by have:=GQ.out; have:=M4.out.size; omega)
        have QX:Hid (aR.cons s.h s.b s.e .nil=vo 6):=Lib.hid (by have:=BR.out.1; rw [hj2] at this; exact this)
        have y1:True:=trivial
        clear hj2
        have hd1:Below wr.heap.size wr (wr.drewN 1):=below_drewN (Below.refl _ _) 1
        refine cu (by kernel_rfl) rfl ?_
        refine bG 0 1 [] [[],[0],[0],[0,1,2]] [[]] (fun _ w'=>Below wr.heap.size wr w') (fun w w'=>Below w.heap.size w w') [129] rfl rfl (by rfl) (by kernel_rfl) (by kernel_rfl) (by kernel_rfl) (by kernel_rfl) (by kernel_rfl) (by rfl) (fun _=>Below.refl _ _) (by rfl) hd1 ?_
        simp only [List.take_succ_cons,List.take_zero,List.drop_zero,List.drop_succ_cons,gP,List.map_cons,List.map_nil]
        refine aH.some (fun v w'=> ∃b,v= .pointer (some ⟨b,0,none⟩)∧wr.heap.size≤b∧w'.heap[b]? =some (.cells #[.bool false] 4 (0,0))) ?_ ?_ ?_
        ·rintro v w1 w' hle ⟨g,h1,h2,h3⟩
         exact ⟨g,h1,h2,(hle.block g (Array.getElem?_eq_some_iff.1 h3).1).trans h3⟩
        ·intro c A w' hok hC hO hD
         simp [go_sem,gd,Oper.wp]
         exact ak.mk (d:=_) (v:= .pointer (some ⟨_,0,none⟩)) (ay _ _) (hC.trans ((ay _ _).mono hC.size)) ⟨_,rfl,hC.size,heap_alloc_new _ _⟩
        try simp only [List.nil_append,List.cons_append]
        refine aH.done ?_
        intro wz bK
        try simp only [List.drop_zero,List.drop_succ_cons]
        intro v0 h0
        obtain ⟨cb,rfl,hcb,hcl⟩:=h0
        refine rV ?_
        go_simp
        have Em:=Lib.hid (And.intro hcb hcl)
        have CS:=Lib.hid bK
        clear hcb hcl bK hd1
        refine bG 1 3 [] [[],[0],[0],[0,1,2]] [[],[]] (fun _ w'=>Below wr.heap.size wr w'∧NP w' cb) (fun _ _=>True) [] rfl rfl (by rfl) (by kernel_rfl) (by kernel_rfl) (by kernel_rfl) (by kernel_rfl) (by kernel_rfl) (by rfl) (fun _=>trivial) (by rfl) ⟨CS.out,false,Em.out.2⟩ ?_
        simp only [List.take_succ_cons,List.take_zero,List.drop_zero,List.drop_succ_cons,gP,List.map_cons,List.map_nil]
        refine aH.some (fun _ _=>True) (fun _ _ _ _ _=>trivial) ?_ ?_
        ·intro c A w' hok hC hO hD
         have xQ:=hO 129 (by rfl)
         simp [Act.eval] at xQ
         obtain ⟨DJ,xb,hC2⟩:=hC
         have k1:w'.cell? ⟨cb,0,none⟩=some (.bool xb):=bL hC2 rfl
         have k2:w'.frozen? ⟨cb,0,none⟩=false:=dH hC2
         simp [go_sem,gd,Oper.wp,xQ,k1,k2]
         exact ak.mF (v:=undef) trivial ⟨DJ.setCell Em.out.1 _,_,by rw [dN hC2]; rfl⟩ trivial
        refine aH.some (fun _ _=>True) (fun _ _ _ _ _=>trivial) ?_ ?_
        ·intro c A w' hok hC hO hD
         have xQ:=hO 129 (by rfl)
         simp [Act.eval] at xQ
         obtain ⟨DJ,xb,hC2⟩:=hC
         have k1:w'.cell? ⟨cb,0,none⟩=some (.bool xb):=bL hC2 rfl
         have k2:w'.frozen? ⟨cb,0,none⟩=false:=dH hC2
         simp [go_sem,gd,Oper.wp,xQ,k1,k2]
         exact ak.mF (v:=undef) trivial ⟨DJ.setCell Em.out.1 _,_,by rw [dN hC2]; rfl⟩ trivial
        try simp only [List.nil_append,List.cons_append]
        refine aH.done ?_
        intro wz bK
        try simp only [List.drop_zero,List.drop_succ_cons]
        intro v0 h0 v1 h1
        clear h0 h1
        refine rV ?_
        go_simp
        obtain ⟨hq1,q,hq2⟩:=bK
        have mO:=Lib.hid hq1
        have kq:wz.cell? ⟨cb,0,none⟩=some (.bool q):=bL hq2 rfl
        clear hq1 hq2
        refine gY 3 [[],[0],[0],[0,1,2]] rfl rfl rfl rfl rfl (by kernel_rfl) (by kernel_rfl) (by kernel_rfl) ?_
        simp [go_sem,Oper.wp,kq]
        refine dQ rfl ?_
        go_simp
        clear kq
        cases q
        ·have kW:=Lib.hid (HOr.out.next (bT mO.out))
         obtain ⟨wq,hwq⟩: ∃W:World,W=wz:=⟨_,rfl⟩
         rw [← hwq]
         rw [← hwq] at mO kW
         clear hwq
         obtain ⟨pre,x,l,vB,hth,hL⟩:=kW.out.la
         obtain rfl:=hL.v
         obtain rfl:m=pre.length:=by have:=HM.out; rw [hth,List.length_append,List.length_singleton] at this; omega
         obtain rfl:bZ=pre++[x]:=hth
         have HL:=Lib.hid hL
         have rM:=Lib.hid ((mO.out.block qb qh.out.2.2).trans uO.out)
         have hcl:wq.cell? ⟨gT,pre.length * 4 + 3,none⟩=some (.slice x.bg l.length x.aT):=by
          have:=(jX jL kW.out.row).2.2 pre.length x (mM pre x) 3 _ rfl
          rw [hL.bd,jK] at this; exact this
         have sZ:=Lib.hid hcl
         have kF:Hid (gT < wq.heap.size∧qb < wq.heap.size∧gT≠qb):=Lib.hid (by have:=qh.out; have:=mO.out.size; omega)
         have xH:Hid ((Value.slice x.bg l.length x.aT).ownBlock≠some qb):=Lib.hid (fun e=>yM hL.own rM.out (by decide) qb e rfl)
         have zW:Hid ((Value.slice x.bg l.length x.aT).ownBlock≠some gT):=Lib.hid (fun e=>(hL.ne gT e).1 rfl)
         have Dj:Hid (Below w.heap.size w wq):=Lib.hid (tQ.out.trans (mO.out.mono tQ.out.size))
         have hb0:(0:Int)≤(pre.length:Int):=by omega
         have hb1:(pre.length:Int) < (pre.length:Int) + 1:=by omega
         have uT:Hid (l.length + 1≤maxLen∧(l.length + 1) * 176≤140737488355328∧w3.heap.size + 1≤wq.heap.size):=Lib.hid (by
          have h1:=hL.few; have h2:=kW.out.lt; have h3:=kF.out
          refine ⟨by unfold maxLen; omega,by omega,by omega⟩)
         have C8:Hid ((((pre++[x]).map (fun y:bU=>y.t))).length=pre.length + 1):=Lib.hid (by simp)
         clear hL y1 hcl
         have wT:Hid ((Value.slice x.bg l.length x.aT).ownBlock≠some sb):=Lib.hid (fun e=>by
          obtain ⟨Kg,x0,l0,OB,zB,hL0⟩:=Gz.out.la
          have hx0:x0=x:=by
           have:=congrArg List.getLast? zB
           simpa using this.symm
          subst hx0
          have hv0:=hL0.v
          subst hv0
          have:=(hL0.own.lt sb (wH e)).2
          have:=bP.out
          omega)
         have gW:Hid (sb < wq.heap.size∧gT≠sb∧wq.heap[sb]? =some (.cells (aD.f s).toArray 42 (0,0))∧iX (sb + 1) wq s.I):=Lib.hid (by
          have h1:=(Array.getElem?_eq_some_iff.1 lY.out).1
          have h2:=(mO.out.block sb h1).trans lY.out
          exact ⟨(Array.getElem?_eq_some_iff.1 h2).1,by have:=GQ.out; have:=bP.out; omega,h2,BR.out.2.2.next (bT mO.out)⟩)
         go_upto_region 37 with fail
         refine uE (nZ wq 8 10 11 14 (vg wq (w3.heap.size + 1) (Value.slice x.bg l.length x.aT).ownBlock (l.length + 1) (l.flatMap aD.f++aD.f s)) ⟨gT,pre.length * 4 + 3,none⟩ (uN (l.length + 1)) (aD.f s).toArray 42) (Ag.le wq.heap.size) [144,145,146,147,148,149,150,151,152,153,154,155,156,157] ⟨none,false,none⟩ (by kernel_rfl) (by kernel_rfl) (fun g w=>Ag.le_refl _ g w) (by rfl) nZ.start ?_
         apply jo.step
         case aB=>
          intro D A g w' hDn hC hO hD
          have e8:=hO 8 (by rfl)
          simp [Act.eval] at e8
          simp [iB,iq,aj,Act.eval,Region.binds] at hD
          simp [go_sem,kQ,Oper.wp,hD,e8]
          exact fZ.mk (Ag.le_refl _ _ _) (hC.skip _ (by decide)) (iq.mk _ _ _)
         apply jo.step
         case aB=>
          intro D A g w' hDn hC hO hD
          have z1:=hC.cell kF.out.2.1 xH.out kF.out.2.2 (bL (j:=1) rM.out rfl)
          simp [iB,iq,aj,Act.eval,Region.binds] at hD
          simp [go_sem,kQ,Oper.wp,hD,z1]
          exact fZ.mk (Ag.le_refl _ _ _) (hC.skip _ (by decide)) (iq.mk _ _ _)
         apply jo.step
         case aB=>
          intro D A g w' hDn hC hO hD
          have e11:=hO 11 (by rfl)
          simp [Act.eval] at e11
          simp [iB,iq,aj,Act.eval,Region.binds] at hD
          simp [go_sem,kQ,Oper.wp,hD,e11]
          exact fZ.mk (Ag.le_refl _ _ _) (hC.skip _ (by decide)) (iq.mk _ _ _)
         apply jo.step
         case aB=>
          intro D A g w' hDn hC hO hD
          have e8:=hO 8 (by rfl)
          simp [Act.eval] at e8
          simp [iB,iq,aj,Act.eval,Region.binds] at hD
          simp [go_sem,kQ,Oper.wp,hD,e8]
          exact fZ.mk (Ag.le_refl _ _ _) (hC.skip _ (by decide)) (iq.mk _ _ _)
         apply jo.step
         case aB=>
          intro D A g w' hDn hC hO hD
          have z1:=hC.cell kF.out.2.1 xH.out kF.out.2.2 (bL (j:=1) rM.out rfl)
          simp [iB,iq,aj,Act.eval,Region.binds] at hD
          simp [go_sem,kQ,Oper.wp,hD,z1]
          exact fZ.mk (Ag.le_refl _ _ _) (hC.skip _ (by decide)) (iq.mk _ _ _)
         apply jo.step
         case aB=>
          intro D A g w' hDn hC hO hD
          have e11:=hO 11 (by rfl)
          simp [Act.eval] at e11
          simp [iB,iq,aj,Act.eval,Region.binds] at hD
          simp [go_sem,kQ,Oper.wp,hD,e11]
          exact fZ.mk (Ag.le_refl _ _ _) (hC.skip _ (by decide)) (iq.mk _ _ _)
         apply jo.step
         case aB=>
          intro D A g w' hDn hC hO hD
          simp [iB,iq,aj,Act.eval,Region.binds] at hD
          simp [go_sem,kQ,Oper.wp,hD,hb0,hb1]
          exact fZ.mk (Ag.le_refl _ _ _) (hC.skip _ (by decide)) (iq.mk _ _ _)
         apply jo.step
         case aB=>
          intro D A g w' hDn hC hO hD
          simp [iB,iq,aj,Act.eval,Region.binds] at hD
          simp [go_sem,kQ,Oper.wp,hD]
          exact fZ.mk (Ag.le_refl _ _ _) (hC.skip _ (by decide)) (iq.mk _ _ _)
         refine jo.some (fun v g _=>v= .slice x.bg l.length x.aT∧g.h=true) (fun v g w g' w' hle h=>⟨h.1,hle.2.1 h.2⟩) ?_ ?_
         ·intro D A g w' hDn hC hO hD
          simp [iB,iq,aj,Act.eval,Region.binds] at hD
          obtain ⟨hp,hle,hm⟩:=hC.Qw hDn (by decide)
          have z3:=((hC.pre hp).cell (p:=⟨gT,pre.length * 4 + 3,none⟩) kF.out.1).trans sZ.out
          simp [go_sem,kQ,Oper.wp,hD,z3]
          exact fZ.mk hle hm ⟨rfl,rfl⟩
         apply jo.step
         case aB=>
          intro D A g w' hDn hC hO hD
          have e12:=hO 12 (by rfl)
          simp [Act.eval] at e12
          have z0:=hC.cell gW.out.1 wT.out gW.out.2.1 (bL (j:=0) gW.out.2.2.1 rfl)
          have z1:=hC.cell gW.out.1 wT.out gW.out.2.1 (bL (j:=1) gW.out.2.2.1 rfl)
          have z2:=hC.cell gW.out.1 wT.out gW.out.2.1 (bL (j:=2) gW.out.2.2.1 rfl)
          have z3:=hC.cell gW.out.1 wT.out gW.out.2.1 (bL (j:=3) gW.out.2.2.1 rfl)
          have z4:=hC.cell gW.out.1 wT.out gW.out.2.1 (bL (j:=4) gW.out.2.2.1 rfl)
          have z5:=hC.cell gW.out.1 wT.out gW.out.2.1 (bL (j:=5) gW.out.2.2.1 rfl)
          have z6:=hC.cell gW.out.1 wT.out gW.out.2.1 (bL (j:=6) gW.out.2.2.1 rfl)
          have z7:=hC.cell gW.out.1 wT.out gW.out.2.1 (bL (j:=7) gW.out.2.2.1 rfl)
          have z8:=hC.cell gW.out.1 wT.out gW.out.2.1 (bL (j:=8) gW.out.2.2.1 rfl)
          have z9:=hC.cell gW.out.1 wT.out gW.out.2.1 (bL (j:=9) gW.out.2.2.1 rfl)
          have fF:=hC.cell gW.out.1 wT.out gW.out.2.1 (bL (j:=10) gW.out.2.2.1 rfl)
          simp [iB,iq,aj,Act.eval,Region.binds] at hD
          simp [go_sem,kQ,Oper.wp,hD,e12,z0,z1,z2,z3,z4,z5,z6,z7,z8,z9,fF]
          exact fZ.mk (Ag.le_refl _ _ _) (hC.skip _ (by decide)) (iq.mk _ _ _)
         refine jo.some (fun v g _=> ∃b,v= .slice (some ⟨b,0,none⟩) 1 1∧g.o=some b) (fun v g w g' w' hle h=>by obtain ⟨b,h1,h2⟩:=h; exact ⟨b,h1,hle.1 b h2⟩) ?_ ?_
         ·intro D A g w' hDn hC hO hD
          simp [iB,iq,aj,Act.eval,Region.binds] at hD
          simp [go_sem,kQ,Oper.wp,hD]
          have hM:=hC.Oj hDn (by decide)
          exact fZ.mk hM.1 hM.2 ⟨_,rfl,rfl⟩
         refine jo.some (fun v g _=> ∃q,g.p=some q∧v=uN (l.length + 1) q) (fun v g w g' w' hle h=>by obtain ⟨q,h1,h2⟩:=h; exact ⟨q,hle.2.2.1 q h1,h2⟩) ?_ ?_
         ·intro D A g w' hDn hC hO hD
          simp [iB,iq,aj,Act.eval,Region.binds] at hD
          obtain ⟨⟨hs1,hh⟩,bb,hs2,hb⟩:=hD
          simp only [kQ,if_true]
          have hbl:=hC.pre (hC.mQ hDn)
          obtain ⟨Te,JH⟩:=hC.row bb hb
          have hown:=iA HL.out.own (fun k e=>hbl.block k (HL.out.own.lt k e).2) (Nat.le_refl _)
          obtain ⟨i0,hi0,hz0,hz1,hz2⟩:=jI (α:=Nat) (β:=Nat) sH
          refine wp_append_lies w' _ _ _ (by rfl) (w3.heap.size + 1) 42 i0 _ 11 176 Tryd.underlying33 hi0 hz0 hz1 hz2 (by rfl) (by omega) (.slice x.bg l.length x.aT) l.length (l.flatMap aD.f) (by simp [Act.eval,hs1]) hown ⟨bb,0,none⟩ 1 1 (aD.f s) (by simp [Act.eval,hs2]) (by rfl) (jM JH) (qO _) (by decide) uT.out.1 uT.out.2.1 (Nat.le_trans uT.out.2.2 hbl.size) _ rfl ?_
          intro g' cap' w5 hown5 hgr hmv zy
          have hM:=hC.Pb (q:=(g',cap')) (w':=w5) hDn (by decide) hb hh ⟨hown5,vk (oH hbl) hgr,by rcases hmv with h | h; exact .inl h; exact .inr (by rw [h]; exact hbl.size)⟩ hgr.size (fun k h1 h2=>hgr.block k h2 (fun e=>by have:=(HL.out.own.lt k e.symm).2; omega))
          exact fZ.mk hM.1 hM.2 ⟨(g',cap'),rfl,rfl⟩
         apply jo.step
         case aB=>
          intro D A g w' hDn hC hO hD
          simp [iB,iq,aj,Act.eval,Region.binds] at hD
          simp [go_sem,kQ,Oper.wp,hD,hb0,hb1]
          exact fZ.mk (Ag.le_refl _ _ _) (hC.skip _ (by decide)) (iq.mk _ _ _)
         apply jo.step
         case aB=>
          intro D A g w' hDn hC hO hD
          simp [iB,iq,aj,Act.eval,Region.binds] at hD
          simp [go_sem,kQ,Oper.wp,hD]
          exact fZ.mk (Ag.le_refl _ _ _) (hC.skip _ (by decide)) (iq.mk _ _ _)
         refine jo.some (fun _ _ _=>True) (fun _ _ _ _ _ _ _=>trivial) ?_ ?_
         ·intro D A g w' hDn hC hO hD
          simp [iB,iq,aj,Act.eval,Region.binds] at hD
          obtain ⟨hs1,⟨qa,qc,hq,hs2⟩,-⟩:=hD
          have hR:=hC.post (qa,qc) hq hDn
          have hblk:=hR.2.1.block gT kF.out.1 (fun e=>zW.out e.symm)
          have z3:=(World.cell?_of_block (a:=⟨gT,pre.length * 4 + 3,none⟩) hblk).trans sZ.out
          have f3:w'.frozen? ⟨gT,pre.length * 4 + 3,none⟩=false:=by
           rw [World.frozen?_of_block (a:=⟨gT,pre.length * 4 + 3,none⟩) hblk]
           rcases kW.out.row.2 with ⟨h1,-⟩ | ⟨g0,cap0,cur,h1,-,h3,-⟩
           ·cases h1
           ·injection h1 with h1; injection h1 with h1; injection h1 with h1; subst h1; exact dH h3
          unfold uN at hs2
          simp [go_sem,kQ,Oper.wp,hs1,hs2,z3,f3]
          have hM:=hC.Nb hDn hq kF.out.1 (by decide) (by decide)
          exact fZ.mF (v:=undef) hM.1 hM.2 trivial
         refine jo.done ?_
         intro D g wz hD hC
         simp only [BZ,List.nil_append,List.cons_append,List.map_cons,List.map_nil]
         intro v0 h0 v1 h1 v2 h2 v3 h3 v4 h4 v5 h5 v6 h6 v7 h7 v8 h8 v9 h9 v10 h10 v11 h11 v12 h12 v13 mP v14 lG
         obtain ⟨q,hq,rfl⟩:=h11
         obtain ⟨w5,hR,hW⟩:=hC.fin q hq (hD 14 (by simp))
         have HR:=Lib.hid hR
         have HW:=Lib.hid hW
         clear hC hD hR hq hW
         refine KN ?_
         go_simp
         have qA:Hid (s.I wz):=Lib.hid (gW.out.2.2.2 wz (by
          have hR2:=HR.out.2.1
          rw [HW.out]
          refine ⟨by simpa [World.setCell] using hR2.size,fun k k1 k2=>(aO _ _ _ rfl (by show gT≠k; have:=GQ.out; have:=bP.out; omega)).trans (hR2.block k k2 (fun e=> ?_))⟩
          obtain ⟨Kg,x0,l0,OB,zB,hL0⟩:=Gz.out.la
          have hx0:x0=x:=by
           have:=congrArg List.getLast? zB
           simpa using this.symm
          subst hx0
          have hv0:=hL0.v
          subst hv0
          have:=(hL0.own.lt k (wH e.symm)).2
          have:=bP.out
          omega))
         go_upto_region 38 with fail
         have tq:=Lib.hid (yQ kW.out HL.out HR.out HW.out BR.out.2.1 qA.out)
         have uU:Hid (wz.heap[qb]? =some (.cells #[.slice (some ⟨gD,0,none⟩) 9 9,.slice (some ⟨gT,0,none⟩) (pre.length + 1) av] 26 (0,0))):=Lib.hid (by rw [HW.out]; exact (aO _ _ _ rfl kF.out.2.2).trans ((HR.out.2.1.block qb kF.out.2.1 (fun e=>xH.out e.symm)).trans rM.out))
         have oL:Hid (Below w.heap.size w wz):=Lib.hid (by
          have h1:=kW.out.lt; have h2:=HW3.out; have h3:=Dj.out
          have hR2:=HR.out.2.1
          have hb:Below w.heap.size w w5:=⟨hR2.os.trans h3.os,hR2.tape.trans h3.tape,hR2.output.trans h3.output,Nat.le_trans h3.size hR2.size,fun k hk=>(hR2.block k (Nat.lt_of_lt_of_le hk h3.size) (fun e=>by have:=(HL.out.own.lt k e.symm).1; omega)).trans (h3.block k hk)⟩
          rw [HW.out]; exact hb.setCell (by show w.heap.size≤gT; omega) _)
         clear HW HR
         have y0:=bL (j:=0) uU.out rfl
         have y1:=bL (j:=1) uU.out rfl
         go_wp2_with fail
         refine (qV (nD:=9) (nT:=pre.length + 1) tq.out (iW.out.same oL.out) rfl (by simp) (show _=((2:Int),(79:Int)) by rw [QX.out]; exact LZ (p:=⟨gQ,(pre++[x]).map (fun y:bU=>y.t)⟩) (a:=pre.map (fun y:bU=>y.t)) (t:=x.t) (by rw [Fp.out]) (by rw [List.map_append]; rfl) KS.out)).mono ?_
         rintro e wA ⟨rfl,hb⟩
         have kX:=Lib.hid (oL.out.trans (hb.mono oL.out.size))
         clear hb
         go_wp2_with fail
         go_ret
         exact ⟨rfl,kX.out⟩
        ·have kW:=Lib.hid (HOr.out.next (bT mO.out))
         obtain ⟨wq,hwq⟩: ∃W:World,W=wz:=⟨_,rfl⟩
         rw [← hwq]
         rw [← hwq] at mO kW
         clear hwq
         obtain ⟨pre,x,l,vB,hth,hL⟩:=kW.out.la
         obtain rfl:=hL.v
         obtain rfl:m=pre.length:=by have:=HM.out; rw [hth,List.length_append,List.length_singleton] at this; omega
         obtain rfl:bZ=pre++[x]:=hth
         have HL:=Lib.hid hL
         have rM:=Lib.hid ((mO.out.block qb qh.out.2.2).trans uO.out)
         have hcl:wq.cell? ⟨gT,pre.length * 4 + 3,none⟩=some (.slice x.bg l.length x.aT):=by
          have:=(jX jL kW.out.row).2.2 pre.length x (mM pre x) 3 _ rfl
          rw [hL.bd,jK] at this; exact this
         have sZ:=Lib.hid hcl
         have kF:Hid (gT < wq.heap.size∧qb < wq.heap.size∧gT≠qb):=Lib.hid (by have:=qh.out; have:=mO.out.size; omega)
         have xH:Hid ((Value.slice x.bg l.length x.aT).ownBlock≠some qb):=Lib.hid (fun e=>yM hL.own rM.out (by decide) qb e rfl)
         have zW:Hid ((Value.slice x.bg l.length x.aT).ownBlock≠some gT):=Lib.hid (fun e=>(hL.ne gT e).1 rfl)
         have Dj:Hid (Below w.heap.size w wq):=Lib.hid (tQ.out.trans (mO.out.mono tQ.out.size))
         have hb0:(0:Int)≤(pre.length:Int):=by omega
         have hb1:(pre.length:Int) < (pre.length:Int) + 1:=by omega
         have uT:Hid (l.length + 1≤maxLen∧(l.length + 1) * 176≤140737488355328∧w3.heap.size + 1≤wq.heap.size):=Lib.hid (by
          have h1:=hL.few; have h2:=kW.out.lt; have h3:=kF.out
          refine ⟨by unfold maxLen; omega,by omega,by omega⟩)
         have C8:Hid ((((pre++[x]).map (fun y:bU=>y.t))).length=pre.length + 1):=Lib.hid (by simp)
         clear hL y1 hcl
         have wT:Hid ((Value.slice x.bg l.length x.aT).ownBlock≠some sb):=Lib.hid (fun e=>by
          obtain ⟨Kg,x0,l0,OB,zB,hL0⟩:=Gz.out.la
          have hx0:x0=x:=by
           have:=congrArg List.getLast? zB
           simpa using this.symm
          subst hx0
          have hv0:=hL0.v
          subst hv0
          have:=(hL0.own.lt sb (wH e)).2
          have:=bP.out
          omega)
         have gW:Hid (sb < wq.heap.size∧gT≠sb∧wq.heap[sb]? =some (.cells (aD.f s).toArray 42 (0,0))∧iX (sb + 1) wq s.I):=Lib.hid (by
          have h1:=(Array.getElem?_eq_some_iff.1 lY.out).1
          have h2:=(mO.out.block sb h1).trans lY.out
          exact ⟨(Array.getElem?_eq_some_iff.1 h2).1,by have:=GQ.out; have:=bP.out; omega,h2,BR.out.2.2.next (bT mO.out)⟩)
         have hd1:Below wq.heap.size wq (wq.drewN 1):=below_drewN (Below.refl _ _) 1
         have Y1: ∀w',Below wq.heap.size wq w'→w'.cell? ⟨qb,1,none⟩=some (.slice (some ⟨gT,0,none⟩) (pre.length + 1) av):=fun w' h=>bL ((h.block qb kF.out.2.1).trans rM.out) rfl
         have Y3: ∀w',Below wq.heap.size wq w'→w'.cell? ⟨gT,pre.length * 4 + 3,none⟩=some (.slice x.bg l.length x.aT):=fun w' h=>(h.cell (p:=⟨gT,pre.length * 4 + 3,none⟩) kF.out.1).trans sZ.out
         have Z0: ∀w',Below wq.heap.size wq w'→w'.cell? ⟨sb,0,none⟩=_:=fun w' h=>(h.cell (p:=⟨sb,0,none⟩) gW.out.1).trans (bL (j:=0) gW.out.2.2.1 rfl)
         have Z1: ∀w',Below wq.heap.size wq w'→w'.cell? ⟨sb,1,none⟩=_:=fun w' h=>(h.cell (p:=⟨sb,1,none⟩) gW.out.1).trans (bL (j:=1) gW.out.2.2.1 rfl)
         have Z2: ∀w',Below wq.heap.size wq w'→w'.cell? ⟨sb,2,none⟩=_:=fun w' h=>(h.cell (p:=⟨sb,2,none⟩) gW.out.1).trans (bL (j:=2) gW.out.2.2.1 rfl)
         have Z3: ∀w',Below wq.heap.size wq w'→w'.cell? ⟨sb,3,none⟩=_:=fun w' h=>(h.cell (p:=⟨sb,3,none⟩) gW.out.1).trans (bL (j:=3) gW.out.2.2.1 rfl)
         have Z4: ∀w',Below wq.heap.size wq w'→w'.cell? ⟨sb,4,none⟩=_:=fun w' h=>(h.cell (p:=⟨sb,4,none⟩) gW.out.1).trans (bL (j:=4) gW.out.2.2.1 rfl)
         have Z5: ∀w',Below wq.heap.size wq w'→w'.cell? ⟨sb,5,none⟩=_:=fun w' h=>(h.cell (p:=⟨sb,5,none⟩) gW.out.1).trans (bL (j:=5) gW.out.2.2.1 rfl)
         have Z6: ∀w',Below wq.heap.size wq w'→w'.cell? ⟨sb,6,none⟩=_:=fun w' h=>(h.cell (p:=⟨sb,6,none⟩) gW.out.1).trans (bL (j:=6) gW.out.2.2.1 rfl)
         have Z7: ∀w',Below wq.heap.size wq w'→w'.cell? ⟨sb,7,none⟩=_:=fun w' h=>(h.cell (p:=⟨sb,7,none⟩) gW.out.1).trans (bL (j:=7) gW.out.2.2.1 rfl)
         have Z8: ∀w',Below wq.heap.size wq w'→w'.cell? ⟨sb,8,none⟩=_:=fun w' h=>(h.cell (p:=⟨sb,8,none⟩) gW.out.1).trans (bL (j:=8) gW.out.2.2.1 rfl)
         have Z9: ∀w',Below wq.heap.size wq w'→w'.cell? ⟨sb,9,none⟩=_:=fun w' h=>(h.cell (p:=⟨sb,9,none⟩) gW.out.1).trans (bL (j:=9) gW.out.2.2.1 rfl)
         have QN: ∀w',Below wq.heap.size wq w'→w'.cell? ⟨sb,10,none⟩=_:=fun w' h=>(h.cell (p:=⟨sb,10,none⟩) gW.out.1).trans (bL (j:=10) gW.out.2.2.1 rfl)
         go_upto_region 35 with fail
         refine cu (by kernel_rfl) rfl ?_
         refine bG 0 9 [] [[],[0],[],[0,1,2],[0,1,2,3],[0,1,2,3,4],[],[0,1,2,3,4,5],[],[0,1,2,3,4,5,6,7,8],[0,1,2,3,4,5,6,7,8,9],[0,1,2,3,4,5,6,7,8,9,10],[0,1,2,3,4,5,6,7,8,9,10,11]] [[],[],[],[],[],[],[],[],[]] (fun _ w'=>Below wq.heap.size wq w') (fun w w'=>Below w.heap.size w w') [131,132,133,134,135,136,137,138,139] rfl rfl (by rfl) (by kernel_rfl) (by kernel_rfl) (by kernel_rfl) (by kernel_rfl) (by kernel_rfl) (by rfl) (fun _=>Below.refl _ _) (by rfl) hd1 ?_
         simp only [List.take_succ_cons,List.take_zero,List.drop_zero,List.drop_succ_cons,gP,List.map_cons,List.map_nil]
         apply aH.step
         case aB=>
          intro c A w' hok hC hO hD
          have e8:=hO 8 (by rfl)
          simp [Act.eval] at e8
          simp [au,ah,aj,Act.eval,Region.binds] at hD
          simp [go_sem,gd,Oper.wp,hD,e8]
          exact ak.mk (Below.refl _ _) hC (ah.mk _ _)
         apply aH.step
         case aB=>
          intro c A w' hok hC hO hD
          simp [au,ah,aj,Act.eval,Region.binds] at hD
          simp [go_sem,gd,Oper.wp,hD,Y1,hC]
          exact ak.mk (Below.refl _ _) hC (ah.mk _ _)
         apply aH.step
         case aB=>
          intro c A w' hok hC hO hD
          have e11:=hO 11 (by rfl)
          simp [Act.eval] at e11
          simp [au,ah,aj,Act.eval,Region.binds] at hD
          simp [go_sem,gd,Oper.wp,hD,e11]
          exact ak.mk (Below.refl _ _) hC (ah.mk _ _)
         simp only [List.nil_append,List.cons_append]
         apply aH.step
         case aB=>
          intro c A w' hok hC hO hD
          simp [au,ah,aj,Act.eval,Region.binds] at hD
          simp [go_sem,gd,Oper.wp,hD,hb0,hb1]
          exact ak.mk (Below.refl _ _) hC (ah.mk _ _)
         apply aH.step
         case aB=>
          intro c A w' hok hC hO hD
          simp [au,ah,aj,Act.eval,Region.binds] at hD
          simp [go_sem,gd,Oper.wp,hD]
          exact ak.mk (Below.refl _ _) hC (ah.mk _ _)
         simp only [List.nil_append,List.cons_append]
         apply aH.step
         case aB=>
          intro c A w' hok hC hO hD
          simp [au,ah,aj,Act.eval,Region.binds] at hD
          simp [go_sem,gd,Oper.wp,hD,Y3,hC]
          exact ak.mk (Below.refl _ _) hC (ah.mk _ _)
         apply aH.step
         case aB=>
          intro c A w' hok hC hO hD
          have e12:=hO 12 (by rfl)
          simp [Act.eval] at e12
          simp [au,ah,aj,Act.eval,Region.binds] at hD
          simp [go_sem,gd,Oper.wp,hD,e12,Z0,Z1,Z2,Z3,Z4,Z5,Z6,Z7,Z8,Z9,QN,hC]
          exact ak.mk (Below.refl _ _) hC (ah.mk _ _)
         apply aH.step
         case aB=>
          intro c A w' hok hC hO hD
          simp [au,ah,aj,Act.eval,Region.binds] at hD
          simp [go_sem,gd,Oper.wp,hD]
          exact ak.mk (Below.refl _ _) hC (ah.mk _ _)
         simp only [List.nil_append,List.cons_append]
         refine aH.some (fun v w'=> ∃bb,v= .slice (some ⟨bb,0,none⟩) 1 1∧wq.heap.size≤bb∧w'.heap[bb]? =some (.cells (aD.f xA).toArray 42 (0,0))) ?_ ?_ ?_
         ·rintro v w1 w' hle ⟨g,h1,h2,h3⟩
          exact ⟨g,h1,h2,(hle.block g (Array.getElem?_eq_some_iff.1 h3).1).trans h3⟩
         ·intro c A w' hok hC hO hD
          simp [go_sem,gd,Oper.wp]
          exact ak.mk (d:=_) (v:= .slice (some ⟨_,0,none⟩) 1 1) (ay _ _) (hC.trans ((ay _ _).mono hC.size)) ⟨_,rfl,hC.size,heap_alloc_new _ _⟩
         try simp only [List.nil_append,List.cons_append]
         refine aH.done ?_
         intro wz bK
         try simp only [List.drop_zero,List.drop_succ_cons]
         intro v0 h0 v1 h1 v2 h2 v3 h3 v4 h4 v5 h5 v6 h6 v7 h7 v8 h8
         have h0':=Eq.symm (show v0=_ from h0)
         subst h0'
         have h1':=Eq.symm (show v1=_ from h1)
         subst h1'
         have h2':=Eq.symm (show v2=_ from h2)
         subst h2'
         have h3':=Eq.symm (show v3=_ from h3)
         subst h3'
         have h4':=Eq.symm (show v4=_ from h4)
         subst h4'
         have h5':=Eq.symm (show v5=_ from h5)
         subst h5'
         have h6':=Eq.symm (show v6=_ from h6)
         subst h6'
         have ND:=Eq.symm (show v7=_ from h7)
         subst ND
         clear h0 h1 h2 h3 h4 h5 h6 h7
         obtain ⟨bb,rfl,hbb,hcell⟩:=h8
         refine rV ?_
         go_simp
         refine gY 9 [[],[0],[],[0,1,2],[0,1,2,3],[0,1,2,3,4],[],[0,1,2,3,4,5],[],[0,1,2,3,4,5,6,7,8],[0,1,2,3,4,5,6,7,8,9],[0,1,2,3,4,5,6,7,8,9,10],[0,1,2,3,4,5,6,7,8,9,10,11]] rfl rfl rfl rfl rfl (by kernel_rfl) (by kernel_rfl) (by kernel_rfl) ?_
         obtain ⟨i0,hi0,hz0,hz1,hz2⟩:=jI (α:=Nat) (β:=Nat) sH
         have Pj:=Lib.hid bK
         have hown:=iA HL.out.own (fun k e=>bK.block k (HL.out.own.lt k e).2) (Nat.le_refl _)
         refine wp_append_lies wz _ _ _ (by rfl) (w3.heap.size + 1) 42 i0 _ 11 176 Tryd.underlying33 hi0 hz0 hz1 hz2 (by rfl) (by omega) (.slice x.bg l.length x.aT) l.length (l.flatMap aD.f) (by rfl) hown ⟨bb,0,none⟩ 1 1 (aD.f xA) (by rfl) (by rfl) (jM hcell) (qO _) (by decide) uT.out.1 uT.out.2.1 (Nat.le_trans uT.out.2.2 bK.size) _ rfl ?_
         intro g' cap' w7 LU hgr hmv Jf
         have gX:Hid (vg wq (w3.heap.size + 1) (Value.slice x.bg l.length x.aT).ownBlock (l.length + 1) (l.flatMap aD.f++aD.f xA) (g',cap') w7):=Lib.hid ⟨LU,vk (oH Pj.out) hgr,by rcases hmv with h | h; exact .inl h; exact .inr (by rw [h]; exact Pj.out.size)⟩
         have hblk:=gX.out.2.1.block gT kF.out.1 (fun e=>zW.out e.symm)
         have z3:=(World.cell?_of_block (a:=⟨gT,pre.length * 4 + 3,none⟩) hblk).trans sZ.out
         have f3:w7.frozen? ⟨gT,pre.length * 4 + 3,none⟩=false:=by
          rw [World.frozen?_of_block (a:=⟨gT,pre.length * 4 + 3,none⟩) hblk]
          rcases kW.out.row.2 with ⟨h1,-⟩ | ⟨g0,cap0,cur,h1,-,h3,-⟩
          ·cases h1
          ·injection h1 with h1; injection h1 with h1; injection h1 with h1; subst h1; exact dH h3
         clear hi0 hz0 hz1 hz2 hcell bK hbb hown LU hgr hmv Jf hblk hd1 Y1 Y3 Z0 Z1 Z2 Z3 Z4 Z5 Z6 Z7 Z8 Z9 QN
         go_simp
         refine bG 10 12 [] [[],[0],[],[0,1,2],[0,1,2,3],[0,1,2,3,4],[],[0,1,2,3,4,5],[],[0,1,2,3,4,5,6,7,8],[0,1,2,3,4,5,6,7,8,9],[0,1,2,3,4,5,6,7,8,9,10],[0,1,2,3,4,5,6,7,8,9,10,11]] [[],[]] (fun _ w'=>w'=w7) (fun w w'=>w=w') [141,142] rfl rfl (by rfl) (by kernel_rfl) (by kernel_rfl) (by kernel_rfl) (by kernel_rfl) (by kernel_rfl) (by rfl) (fun _=>rfl) (by rfl) rfl ?_
         simp only [List.take_succ_cons,List.take_zero,List.drop_zero,List.drop_succ_cons,gP,List.map_cons,List.map_nil]
         apply aH.step
         case aB=>
          intro c A w' hok hC hO hD
          have Od:=hO 132 (by rfl)
          have Oh:=hO 133 (by rfl)
          simp [Act.eval] at Od Oh
          simp [au,ah,aj,Act.eval,Region.binds] at hD
          simp [go_sem,gd,Oper.wp,hD,Od,Oh,hb0,hb1]
          exact ak.mk rfl hC (ah.mk _ _)
         apply aH.step
         case aB=>
          intro c A w' hok hC hO hD
          simp [au,ah,aj,Act.eval,Region.binds] at hD
          simp [go_sem,gd,Oper.wp,hD]
          exact ak.mk rfl hC (ah.mk _ _)
         try simp only [List.nil_append,List.cons_append]
         refine aH.done ?_
         intro wz bK
         try simp only [List.drop_zero,List.drop_succ_cons]
         intro v0 h0 v1 h1
         have h0':=Eq.symm (show v0=_ from h0)
         subst h0'
         have h1':=Eq.symm (show v1=_ from h1)
         subst h1'
         clear h0 h1
         refine bM.nil ?_
         go_simp
         refine gY 12 [[],[0],[],[0,1,2],[0,1,2,3],[0,1,2,3,4],[],[0,1,2,3,4,5],[],[0,1,2,3,4,5,6,7,8],[0,1,2,3,4,5,6,7,8,9],[0,1,2,3,4,5,6,7,8,9,10],[0,1,2,3,4,5,6,7,8,9,10,11]] rfl rfl rfl rfl rfl (by kernel_rfl) (by kernel_rfl) (by kernel_rfl) ?_
         subst bK
         simp [go_sem,Oper.wp,z3,f3]
         refine dQ rfl ?_
         go_simp
         generalize ou:World.setCell _ _ _=w8
         have BK:Hid (w8.ownsRow (w3.heap.size + 1) 42 11 (.slice (some ⟨g',0,none⟩) (l.length + 1) cap') (l++[xA]).length ((l++[xA]).flatMap aD.f)):=Lib.hid (by
          rw [← ou,List.flatMap_append,List.flatMap_singleton,List.length_append,List.length_singleton]
          refine iA gX.out.1 (fun k e=>aO _ _ _ rfl ?_) (Nat.le_refl _)
          have e:g'=k:=by injection e
          subst e
          show gT≠g'
          rcases gX.out.2.2 with h | h
          ·exact fun e=>zW.out (by rw [h,e])
          ·have:=kF.out.1; exact fun e=>by have h:wq.heap.size≤g':=h; omega)
         have CU:Hid (w8.there g' (l.length * 11) 11):=Lib.hid (by
          have h:=BK.out
          rw [List.length_append,List.length_singleton] at h
          exact sG h)
         have hl0:(0:Int)≤(l.length:Int):=by omega
         have hl1:(l.length:Int) < (l.length:Int) + 1:=by omega
         have GH:=Lib.hid ou
         clear ou z3 f3 hb0 hb1
         go_upto_region 38 with (refine wpList_store_mid (by rfl) _ _ _ (by rfl) g' (l.length * 11) (aD.f s).toArray (by rfl) (by rfl) CU.out Cw (all_oneCell_toArray (qO _)) ?_)
         generalize yU:World.setCells _ _ _ _=wz
         have qG:=Lib.hid (F9 (w9:=wz) (s:=s) (q:=(g',cap')) kW.out HL.out gX.out (by rw [← yU,← GH.out]; rfl))
         obtain ⟨w5,HR,HW⟩: ∃w5:World,Hid (vg wq (w3.heap.size + 1) (Value.slice x.bg l.length x.aT).ownBlock (l.length + 1) (l.flatMap aD.f++aD.f s) (g',cap') w5)∧Hid (wz=w5.setCell ⟨gT,pre.length * 4 + 3,none⟩ (uN (l.length + 1) (g',cap'))):=⟨_,Lib.hid qG.out.1,Lib.hid qG.out.2⟩
         clear yU GH qG gX BK CU
         have qA:Hid (s.I wz):=Lib.hid (gW.out.2.2.2 wz (by
          have hR2:=HR.out.2.1
          rw [HW.out]
          refine ⟨by simpa [World.setCell] using hR2.size,fun k k1 k2=>(aO _ _ _ rfl (by show gT≠k; have:=GQ.out; have:=bP.out; omega)).trans (hR2.block k k2 (fun e=> ?_))⟩
          obtain ⟨Kg,x0,l0,OB,zB,hL0⟩:=Gz.out.la
          have hx0:x0=x:=by
           have:=congrArg List.getLast? zB
           simpa using this.symm
          subst hx0
          have hv0:=hL0.v
          subst hv0
          have:=(hL0.own.lt k (wH e.symm)).2
          have:=bP.out
          omega))
         have tq:=Lib.hid (yQ kW.out HL.out HR.out HW.out BR.out.2.1 qA.out)
         have uU:Hid (wz.heap[qb]? =some (.cells #[.slice (some ⟨gD,0,none⟩) 9 9,.slice (some ⟨gT,0,none⟩) (pre.length + 1) av] 26 (0,0))):=Lib.hid (by rw [HW.out]; exact (aO _ _ _ rfl kF.out.2.2).trans ((HR.out.2.1.block qb kF.out.2.1 (fun e=>xH.out e.symm)).trans rM.out))
         have oL:Hid (Below w.heap.size w wz):=Lib.hid (by
          have h1:=kW.out.lt; have h2:=HW3.out; have h3:=Dj.out
          have hR2:=HR.out.2.1
          have hb:Below w.heap.size w w5:=⟨hR2.os.trans h3.os,hR2.tape.trans h3.tape,hR2.output.trans h3.output,Nat.le_trans h3.size hR2.size,fun k hk=>(hR2.block k (Nat.lt_of_lt_of_le hk h3.size) (fun e=>by have:=(HL.out.own.lt k e.symm).1; omega)).trans (h3.block k hk)⟩
          rw [HW.out]; exact hb.setCell (by show w.heap.size≤gT; omega) _)
         clear HW HR
         have y0:=bL (j:=0) uU.out rfl
         have y1:=bL (j:=1) uU.out rfl
         go_wp2_with fail
         refine (qV (nD:=9) (nT:=pre.length + 1) tq.out (iW.out.same oL.out) rfl (by simp) (show _=((2:Int),(79:Int)) by rw [QX.out]; exact LZ (p:=⟨gQ,(pre++[x]).map (fun y:bU=>y.t)⟩) (a:=pre.map (fun y:bU=>y.t)) (t:=x.t) (by rw [Fp.out]) (by rw [List.map_append]; rfl) KS.out)).mono ?_
         rintro e wA ⟨rfl,hb⟩
         have kX:=Lib.hid (oL.out.trans (hb.mono oL.out.size))
         clear hb
         go_wp2_with fail
         go_ret
         exact ⟨rfl,kX.out⟩
     ·go_upto_region 40 with fail
      obtain ⟨pre,x,l,vB,hth,hL⟩:=HOr.out.la
      have rZ:=Lib.hid hth
      have HL:=Lib.hid hL
      have hmp:m=pre.length:=by have:=HM.out; rw [hth,List.length_append,List.length_singleton] at this; omega
      have U0:=Lib.hid hmp
      clear hth hL hmp
      obtain rfl:m=pre.length:=U0.out
      obtain rfl:bZ=pre++[x]:=rZ.out
      have hcl:=jX jL HOr.out.row
      have hxo:=HOr.out.uf x (by simp)
      have htx:=(HOr.out.inner x (by simp)).1
      rw [hxo.2.1] at htx
      obtain ⟨⟨bl,ol,hal,hbl,hc0,-⟩,⟨TP,Ut,Oi,-,hc1,-⟩,-⟩:=htx
      have dw:=Lib.hid hal
      obtain ⟨rfl,rfl⟩:bl=TP∧ol=Ut:=by
       have:=hal.symm.trans Oi
       injection this with e; injection e with e1 e2
       exact ⟨e1,e2⟩
      have LQ:=Lib.hid (And.intro hbl (And.intro hc0 hc1))
      have hc2:wr.cell? ⟨gT,pre.length * 4 + 2,none⟩=some (.slice (some ⟨bl,ol,none⟩) 2 2):=by
       have:=hcl.2.2 pre.length x (mM pre x) 2 _ rfl
       rw [hxo.2.1,hxo.2.2,hal] at this; exact this
      have hc3:wr.cell? ⟨gT,pre.length * 4 + 1,none⟩=some (.int .i64 x.t.line):=hcl.2.2 pre.length x (mM pre x) 1 _ rfl
      have Fz:Hid (gT < wr.heap.size):=Lib.hid hcl.2.1
      have hd1:Below wr.heap.size wr (wr.drewN 1):=below_drewN (Below.refl _ _) 1
      have Y1: ∀w',Below wr.heap.size wr w'→w'.cell? ⟨qb,1,none⟩=some (.slice (some ⟨gT,0,none⟩) (pre.length + 1) av):=fun w' h=>bL ((h.block qb qh.out.2.2).trans uO.out) rfl
      have Y3: ∀w',Below wr.heap.size wr w'→w'.cell? ⟨gT,pre.length * 4 + 2,none⟩=some (.slice (some ⟨bl,ol,none⟩) 2 2):=fun w' h=>(h.cell Fz.out).trans hc2
      have Y4: ∀w',Below wr.heap.size wr w'→w'.cell? ⟨gT,pre.length * 4 + 1,none⟩=some (.int .i64 x.t.line):=fun w' h=>(h.cell Fz.out).trans hc3
      have hb0:(0:Int)≤(pre.length:Int):=by omega
      have hb1:(pre.length:Int) < (pre.length:Int) + 1:=by omega
      clear hcl hxo hal Oi hbl hc0 hc1 hc2 hc3 y1
      refine cu (by kernel_rfl) rfl ?_
      refine bG 0 11 [] [[],[0],[],[],[3],[],[3,4,5],[3,4,5,6],[3,4,5,6,7],[],[3,4,5,6,7,8,9],[0,1,2,3,4,5,6,7,8,9,10],[0,1,2,3,4,5,6,7,8,9,10,11],[0,1,2,3,4,5,6,7,8,9,10,11,12]] [[],[],[],[],[],[],[],[],[],[],[]] (fun _ w'=>Below wr.heap.size wr w') (fun w w'=>Below w.heap.size w w') [169,170,171,172,173,174,175,176,177,178,179] rfl rfl (by rfl) (by kernel_rfl) (by kernel_rfl) (by kernel_rfl) (by kernel_rfl) (by kernel_rfl) (by rfl) (fun _=>Below.refl _ _) (by rfl) hd1 ?_
      simp only [List.take_succ_cons,List.take_zero,List.drop_zero,List.drop_succ_cons,gP,List.map_cons,List.map_nil]
      apply aH.step
      case aB=>
       intro c A w' hok hC hO hD
       have e8:=hO 8 (by rfl)
       simp [Act.eval] at e8
       simp [au,ah,aj,Act.eval,Region.binds] at hD
       simp [go_sem,gd,Oper.wp,hD,e8]
       exact ak.mk (Below.refl _ _) hC (ah.mk _ _)
      apply aH.step
      case aB=>
       intro c A w' hok hC hO hD
       simp [au,ah,aj,Act.eval,Region.binds] at hD
       simp [go_sem,gd,Oper.wp,hD,Y1,hC]
       exact ak.mk (Below.refl _ _) hC (ah.mk _ _)
      apply aH.step
      case aB=>
       intro c A w' hok hC hO hD
       have e11:=hO 11 (by rfl)
       simp [Act.eval] at e11
       simp [au,ah,aj,Act.eval,Region.binds] at hD
       simp [go_sem,gd,Oper.wp,hD,e11]
       exact ak.mk (Below.refl _ _) hC (ah.mk _ _)
      simp only [List.nil_append,List.cons_append]
      apply aH.step
      case aB=>
       intro c A w' hok hC hO hD
       have e8:=hO 8 (by rfl)
       simp [Act.eval] at e8
       simp [au,ah,aj,Act.eval,Region.binds] at hD
       simp [go_sem,gd,Oper.wp,hD,e8]
       exact ak.mk (Below.refl _ _) hC (ah.mk _ _)
      apply aH.step
      case aB=>
       intro c A w' hok hC hO hD
       simp [au,ah,aj,Act.eval,Region.binds] at hD
       simp [go_sem,gd,Oper.wp,hD,Y1,hC]
       exact ak.mk (Below.refl _ _) hC (ah.mk _ _)
      apply aH.step
      case aB=>
       intro c A w' hok hC hO hD
       have e11:=hO 11 (by rfl)
       simp [Act.eval] at e11
       simp [au,ah,aj,Act.eval,Region.binds] at hD
       simp [go_sem,gd,Oper.wp,hD,e11]
       exact ak.mk (Below.refl _ _) hC (ah.mk _ _)
      simp only [List.nil_append,List.cons_append]
      apply aH.step
      case aB=>
       intro c A w' hok hC hO hD
       simp [au,ah,aj,Act.eval,Region.binds] at hD
       simp [go_sem,gd,Oper.wp,hD,hb0,hb1]
       exact ak.mk (Below.refl _ _) hC (ah.mk _ _)
      apply aH.step
      case aB=>
       intro c A w' hok hC hO hD
       simp [au,ah,aj,Act.eval,Region.binds] at hD
       simp [go_sem,gd,Oper.wp,hD]
       exact ak.mk (Below.refl _ _) hC (ah.mk _ _)
      simp only [List.nil_append,List.cons_append]
      apply aH.step
      case aB=>
       intro c A w' hok hC hO hD
       simp [au,ah,aj,Act.eval,Region.binds] at hD
       simp [go_sem,gd,Oper.wp,hD,Y3,hC]
       exact ak.mk (Below.refl _ _) hC (ah.mk _ _)
      refine aH.some (fun v w'=> ∃bb,v= .slice (some ⟨bb,0,none⟩) 1 1∧wr.heap.size≤bb∧w'.heap[bb]? =some (.cells (uI gL).toArray 9 (0,0))) ?_ ?_ ?_
      ·rintro v w1 w' hle ⟨g,h1,h2,h3⟩
       exact ⟨g,h1,h2,(hle.block g (Array.getElem?_eq_some_iff.1 h3).1).trans h3⟩
      ·intro c A w' hok hC hO hD
       simp [au,ah,aj,Act.eval,Region.binds] at hD
       simp [go_sem,gd,Oper.wp,hD]
       exact ak.mk (d:=_) (v:= .slice (some ⟨_,0,none⟩) 1 1) (ay _ _) (hC.trans ((ay _ _).mono hC.size)) ⟨_,rfl,hC.size,heap_alloc_new _ _⟩
      refine aH.some (fun v w'=> ∃g' cap',v= .slice (some ⟨g',0,none⟩) 3 cap'∧wr.heap.size≤g'∧w'.ownsRow 0 9 1 (.slice (some ⟨g',0,none⟩) 3 cap') 3 ((gJ++[gL]).flatMap uI)) ?_ ?_ ?_
      ·rintro v w1 w' hle ⟨g',cap',h1,h2,h3⟩
       exact ⟨g',cap',h1,h2,iA h3 (fun k e=>hle.block k (h3.lt k e).2) (Nat.le_refl _)⟩
      ·intro c A w' hok hC hO hD
       simp [au,ah,aj,Act.eval,Region.binds] at hD
       simp only [gd,if_true]
       obtain ⟨hD1,bb,hD2,hD3,hD4⟩:=hD
       obtain ⟨i0,hi0,hz0,hz1,hz2⟩:=jI (α:=Nat) (β:=Nat) LV
       refine Bo w' _ _ _ (by rfl) 9 i0 _ 1 16 Tryd.underlying32 hi0 hz0 hz1 hz2 (by rfl) (by omega) ⟨bl,ol,none⟩ 2 2 (gJ.flatMap uI) (by simp [Act.eval,hD1]) (by rfl) (fun j u hu=> ?_) ⟨bb,0,none⟩ 1 1 (uI gL) (by simp [Act.eval,hD2]) (by rfl) (jM hD4) (by decide) (by unfold maxLen; decide) (by decide) (fun v' w5 hown hgr=> ?_)
       ·have hc0:=(hC.cell LQ.out.1).trans LQ.out.2.1
        have hc1:=(hC.cell LQ.out.1).trans LQ.out.2.2
        have:j=0∨j=1:=by
         have:=(List.getElem?_eq_some_iff.1 hu).1
         simp [gJ,uI] at this; omega
        rcases this with rfl | rfl
        ·simp [gJ,uI] at hu; subst hu; simpa [Addr.add] using hc0
        ·simp [gJ,uI] at hu; subst hu; simpa [Addr.add] using hc1
       ·obtain ⟨g',cap',rfl,hg',-⟩:=hown.form (by decide)
        have hb5:Below w'.heap.size w' w5:=⟨hgr.os,hgr.tape,hgr.output,hgr.size,fun k hk=>hgr.block k hk (by simp)⟩
        exact ak.mk hb5 (hC.trans (hb5.mono hC.size)) ⟨g',cap',rfl,Nat.le_trans hC.size hg',iA hown (fun _ _=>rfl) (Nat.zero_le _)⟩
      try simp only [List.nil_append,List.cons_append]
      refine aH.done ?_
      intro wz bK
      try simp only [List.drop_zero,List.drop_succ_cons]
      intro v0 h0 v1 h1 v2 h2 v3 h3 v4 h4 v5 h5 v6 h6 v7 h7 v8 h8 v9 h9 v10 h10
      have h0':=Eq.symm (show v0=_ from h0)
      subst h0'
      have h1':=Eq.symm (show v1=_ from h1)
      subst h1'
      have h2':=Eq.symm (show v2=_ from h2)
      subst h2'
      have h3':=Eq.symm (show v3=_ from h3)
      subst h3'
      have h4':=Eq.symm (show v4=_ from h4)
      subst h4'
      have h5':=Eq.symm (show v5=_ from h5)
      subst h5'
      have h6':=Eq.symm (show v6=_ from h6)
      subst h6'
      have ND:=Eq.symm (show v7=_ from h7)
      subst ND
      have h8':=Eq.symm (show v8=_ from h8)
      subst h8'
      clear h0 h1 h2 h3 h4 h5 h6 h7 h8 h9
      obtain ⟨g',cap',rfl,hg',hown⟩:=h10
      refine rV ?_
      go_simp
      have xq:=Lib.hid bK
      have HOW:=Lib.hid (And.intro hg' hown)
      have y1:=Y1 wz bK
      have y3:=Y3 wz bK
      have y4:=Y4 wz bK
      have su:Hid (wz.ownsRow (w3.heap.size + 1) 35 4 (.slice (some ⟨gT,0,none⟩) (pre.length + 1) av) (pre++[x]).length ((pre++[x]).flatMap bU.f)):=Lib.hid (by
       have h:=iA HOr.out.row (fun k e=>bK.block k (HOr.out.row.lt k e).2) (Nat.le_refl _)
       rw [show (pre++[x]).length=pre.length + 1 by simp] at h ⊢
       exact h)
      have fz: ∀j,wz.frozen? ⟨gT,j,none⟩=false:=fun j=>by
       rcases su.out.2 with ⟨h1,-⟩ | ⟨g0,cap0,cur,h1,-,h3,-⟩
       ·cases h1
       ·injection h1 with h1; injection h1 with h1; injection h1 with h1; subst h1; exact dH h3
      have f3:=fz (pre.length * 4 + 2)
      have f4:=fz (pre.length * 4 + 1)
      clear hd1 Y1 Y3 Y4 bK hg' hown
      refine bG 11 13 [] [[],[0],[],[],[3],[],[3,4,5],[3,4,5,6],[3,4,5,6,7],[],[3,4,5,6,7,8,9],[0,1,2,3,4,5,6,7,8,9,10],[0,1,2,3,4,5,6,7,8,9,10,11],[0,1,2,3,4,5,6,7,8,9,10,11,12]] [[],[]] (fun _ w'=>w'=wz) (fun w w'=>w=w') [180,181] rfl rfl (by rfl) (by kernel_rfl) (by kernel_rfl) (by kernel_rfl) (by kernel_rfl) (by kernel_rfl) (by rfl) (fun _=>rfl) (by rfl) rfl ?_
      simp only [List.take_succ_cons,List.take_zero,List.drop_zero,List.drop_succ_cons,gP,List.map_cons,List.map_nil]
      apply aH.step
      case aB=>
       intro c A w' hok hC hO hD
       have e170:=hO 170 (by rfl)
       have Pn:=hO 171 (by rfl)
       simp [Act.eval] at e170 Pn
       simp [au,ah,aj,Act.eval,Region.binds] at hD
       simp [go_sem,gd,Oper.wp,hD,e170,Pn,hb0,hb1]
       exact ak.mk rfl hC (ah.mk _ _)
      apply aH.step
      case aB=>
       intro c A w' hok hC hO hD
       simp [au,ah,aj,Act.eval,Region.binds] at hD
       simp [go_sem,gd,Oper.wp,hD]
       exact ak.mk rfl hC (ah.mk _ _)
      try simp only [List.nil_append,List.cons_append]
      refine aH.done ?_
      intro wz bK
      try simp only [List.drop_zero,List.drop_succ_cons]
      intro v0 h0 v1 h1
      have h0':=Eq.symm (show v0=_ from h0)
      subst h0'
      have h1':=Eq.symm (show v1=_ from h1)
      subst h1'
      clear h0 h1
      refine bM.nil ?_
      go_simp
      refine gY 13 [[],[0],[],[],[3],[],[3,4,5],[3,4,5,6],[3,4,5,6,7],[],[3,4,5,6,7,8,9],[0,1,2,3,4,5,6,7,8,9,10],[0,1,2,3,4,5,6,7,8,9,10,11],[0,1,2,3,4,5,6,7,8,9,10,11,12]] rfl rfl rfl rfl rfl (by kernel_rfl) (by kernel_rfl) (by kernel_rfl) ?_
      subst bK
      simp [go_sem,Oper.wp,y3,f3]
      refine dQ rfl ?_
      go_simp
      have NU:=Lib.hid ((xq.out.block qb qh.out.2.2).trans uO.out)
      have QJ:gT≠qb:=by have:=qh.out; omega
      generalize ou:World.setCell wz _ _=w8
      have FB:Hid (∀k,k≠gT→w8.heap[k]? =wz.heap[k]?):=Lib.hid (fun k h=>by rw [← ou]; exact aO _ _ _ rfl (fun e=>h e.symm))
      have PL:Hid (w8.heap.size=wz.heap.size∧Below w.heap.size w w8):=Lib.hid (by
       have h1:=tQ.out.trans (xq.out.mono tQ.out.size)
       rw [← ou]; exact ⟨by simp [World.setCell],h1.setCell (by show w.heap.size≤gT; have:=HOr.out.lt; have:=HW3.out; omega) _⟩)
      have oO:Hid (w8.ownsRow (w3.heap.size + 1) 35 4 (.slice (some ⟨gT,0,none⟩) (pre.length + 1) av) (pre++[(⟨{x.t with bH:=gJ++[gL]},some ⟨g',0,none⟩,cap',x.bg,x.aT⟩:bU)]).length ((pre++[(⟨{x.t with bH:=gJ++[gL]},some ⟨g',0,none⟩,cap',x.bg,x.aT⟩:bU)]).flatMap bU.f)):=Lib.hid (by
       rw [← ou]
       have:=zN (j:=2) (x':=(⟨{x.t with bH:=gJ++[gL]},some ⟨g',0,none⟩,cap',x.bg,x.aT⟩:bU)) jL su.out (mM pre x) (by decide) rfl
       rw [zx] at this; exact this)
      have y1':w8.cell? ⟨qb,1,none⟩=some (.slice (some ⟨gT,0,none⟩) (pre.length + 1) av):=bL ((FB.out qb (fun e=>QJ e.symm)).trans NU.out) rfl
      have UH:w8.cell? ⟨gT,pre.length * 4 + 1,none⟩=some (.int .i64 x.t.line):=(jX jL oO.out).2.2 pre.length _ (mM pre _) 1 _ rfl
      have Ud:w8.frozen? ⟨gT,pre.length * 4 + 1,none⟩=false:=by
       rcases oO.out.2 with ⟨h1,-⟩ | ⟨g0,cap0,cur,h1,-,h3,-⟩
       ·cases h1
       ·injection h1 with h1; injection h1 with h1; injection h1 with h1; subst h1; exact dH h3
      clear ou y1 y3 y4 fz f3 f4
      go_upto_region 42 with fail
      generalize yU:World.setCell w8 _ _=w9
      have Li:Hid (∀k,k≠gT→w9.heap[k]? =wz.heap[k]?):=Lib.hid (fun k h=>by rw [← yU]; exact (aO _ _ _ rfl (fun e=>h e.symm)).trans (FB.out k h))
      have M7:Hid (w9.heap.size=wz.heap.size∧Below w.heap.size w w9):=Lib.hid (by
       rw [← yU]; exact ⟨by simp [World.setCell]; exact PL.out.1,PL.out.2.setCell (by show w.heap.size≤gT; have:=HOr.out.lt; have:=HW3.out; omega) _⟩)
      have Rp:Hid (w9.ownsRow (w3.heap.size + 1) 35 4 (.slice (some ⟨gT,0,none⟩) (pre.length + 1) av) (pre.length + 1) ((pre++[(⟨{x.t with bH:=gJ++[gL],line:=80},some ⟨g',0,none⟩,cap',x.bg,x.aT⟩:bU)]).flatMap bU.f)):=Lib.hid (by
       rw [← yU]
       have:=zN (j:=1) (x':=(⟨{x.t with bH:=gJ++[gL],line:=80},some ⟨g',0,none⟩,cap',x.bg,x.aT⟩:bU)) jL oO.out (mM pre _) (by decide) rfl
       rw [zx,List.length_append,List.length_singleton] at this; exact this)
      have uU:=Lib.hid ((Li.out qb (fun e=>QJ e.symm)).trans NU.out)
      have tq:Hid (Pr.At w9 ⟨gQ,pre.map (fun y:bU=>y.t)++[{x.t with bH:=gJ++[gL],line:=80}]⟩ (some ⟨gD,0,none⟩) (some ⟨gT,0,none⟩)):=Lib.hid (Am.bH (B':=0) HOr.out HL.out (iA HOW.out.2 (fun k e=>Li.out k (by
       have e:g'=k:=by injection e
       have:=HOW.out.1; have:=qh.out; omega)) (Nat.le_refl _)) (fun k h1 h2 h3=>(Li.out k h3).trans (xq.out.block k h2)) (by rw [M7.out.1]; exact xq.out.size) Rp.out)
      clear yU y1' UH Ud oO Rp PL FB Li HOW su xq NU
      have y0:=bL (j:=0) uU.out rfl
      have y1:=bL (j:=1) uU.out rfl
      go_wp2_with fail
      refine (qV (p:=⟨gQ,pre.map (fun y:bU=>y.t)++[{x.t with bH:=gJ++[gL],line:=80}]⟩) tq.out (iW.out.same M7.out.2) rfl (by simp) (Qq (p:=⟨gQ,(pre++[x]).map (fun y:bU=>y.t)⟩) KV.out (by rw [Fp.out]) (by rw [List.map_append]; rfl))).mono ?_
      rintro e wA ⟨rfl,hb⟩
      have kX:=Lib.hid (M7.out.2.trans (hb.mono M7.out.2.size))
      clear hb
      go_wp2_with fail
      go_ret
      exact ⟨rfl,kX.out⟩
end Go.Proofs.YtnknfoibmgphnaaDoor
