/-
  Contract of the reference's Expr.
-/
import Derived.Test.YtehnipchbmjlhaaGreatDoorGUD
import Derived.Test.YtehnipchbmjlhaaGreatDoorGUA
import Derived.Test.YtehnipchbmjlhaaGreatDoorGUB
import Derived.Test.YtehnipchbmjlhaaGreatDoorGRG
import Derived.Test.YtehnipchbmjlhaaGreatDoorGRE
set_option linter.unusedSimpArgs false
set_option linter.unusedVariables false
namespace Go.Proofs.YtehnipchbmjlhaaGreatDoor
open Go.RowKit
open Md Pz
theorem YG {w W:World} {ao:Option Addr} {cap:Nat} {ts:aj} (hW:w.alloc (.cells #[.slice ao ts.length cap,.int .i64 0,.int .i64 0] 93)=W) (ht:nU w w.heap.size ts ao 0) (ok: ∀t ∈ ts,FD t) (tl:(∀t ∈ ts,TL 4097 t)∧ts.length≤4096):dZ W (nY w ao cap ts) (.go ts):=by
 subst hW
 exact ⟨⟨0,0,Nat.zero_le _,⟨rfl,rfl⟩,heap_alloc_new _ _⟩,ht.below (ah _ _),⟨ok,tl.2⟩,tl.1⟩
theorem R5 {ts:aj} {n:Int} :Av ts (.bad n)= .bad n:=rfl
theorem Sn {ts:aj} :Av ts (.go [])= .go []:=rfl
theorem PW {ts:aj} {t:Tk.Tok} {r:aj} :Av ts (.go (t ::r))= .bad (bV ts (t ::r)):=rfl
theorem Kk {s:List UInt8} (h: ¬ (Tk.scan s).2.1=0):qW s=(e0,((Tk.scan s).2.1:Int),((Tk.scan s).2.2:Int)):=by unfold qW; rw [if_neg h]; rfl
theorem Nj {s:List UInt8} (h:(Tk.scan s).2.1=0):qW s=Mq (iO (Tk.scan s).1 (.go (Tk.scan s).1)).1 (Av (Tk.scan s).1 (iO (Tk.scan s).1 (.go (Tk.scan s).1)).2):=by unfold qW; rw [if_pos h]
set_option maxHeartbeats 4000000 in
set_option maxRecDepth 100000 in
theorem Ko (s:ByteArray) (w:World) (hm:s.size≤maxLen):
 Calls Tryz.prog 22 #[.string s] w (EK w (dV s.data.toList)):=by
 rw [← N8]
 have FY:=Lib.hid (Fa s.data.toList)
 have qJ:=Lib.hid (ES s.data.toList)
 obtain ⟨res,gB⟩: ∃res,Hid (qW s.data.toList=res):=⟨_,Lib.hid rfl⟩
 have tO:Hid (¬ (Tk.scan s.data.toList).2.1=0→res=(e0,((Tk.scan s.data.toList).2.1:Int),((Tk.scan s.data.toList).2.2:Int))):=Lib.hid (fun h=>gB.out.symm.trans (Kk h))
 have HE2:Hid ((Tk.scan s.data.toList).2.1=0→res=Mq (iO (Tk.scan s.data.toList).1 (.go (Tk.scan s.data.toList).1)).1 (Av (Tk.scan s.data.toList).1 (iO (Tk.scan s.data.toList).1 (.go (Tk.scan s.data.toList).1)).2)):=Lib.hid (fun h=>gB.out.symm.trans (Nj h))
 have xq:Hid (∀w,Calls Tryz.prog 44 #[.string s] w (uX w (Tk.scan s.data.toList))):=Lib.hid (fun w=>Kw s w hm)
 rw [gB.out]
 clear gB hm
 generalize Tk.scan s.data.toList=sc at *
 go_enter Tryz.func22,Tryz.ntmps22
 go_upto_region 1 with fail
 generalize hW:World.alloc w _=W0
 have HB0:Hid (Below w.heap.size w W0):=Lib.hid (by rw [← hW]; exact ah _ _)
 have HZ0:Hid (W0.heap[w.heap.size]? =some (.cells K9 45 (0,0))):=Lib.hid (by rw [← hW]; exact heap_alloc_new _ _)
 clear hW
 go_wp2_with fail
 refine (xq.out _).mono ?_
 rintro e w1 ⟨v,rfl,hown,hb⟩
 obtain ⟨ao,cap,rfl,htk⟩:=Ai hown
 have zT:=Lib.hid htk
 have HB1:=Lib.hid (HB0.out.trans (hb.mono HB0.out.size))
 have HZ1:=Lib.hid ((hb.block _ (Array.getElem?_eq_some_iff.1 HZ0.out).1).trans HZ0.out)
 clear hown hb htk xq HB0 HZ0
 have hlt:w.heap.size < w1.heap.size:=(Array.getElem?_eq_some_iff.1 HZ1.out).1
 by_cases h0:sc.2.1=0
 ·have ni:=Lib.hid (HE2.out h0)
  have AA:=Lib.hid (And.intro qJ.out.1 qJ.out.2.1)
  have hq:(((sc.2.1:Nat):Int) == 0)=true:=by rw [h0]; rfl
  rw [h0]
  go_upto_region 5 with fail
  generalize hW:World.alloc w1 _=W1
  have HR1:=Lib.hid (YG hW zT.out FY.out AA.out)
  have HB2:Hid (Below w.heap.size w W1):=Lib.hid (by rw [← hW]; exact HB1.out.trans ((ah w1 _).mono HB1.out.size))
  have HZ2:Hid (W1.heap[w.heap.size]? =some (.cells K9 45 (0,0))):=Lib.hid (by rw [← hW]; exact ((ah w1 _).block _ hlt).trans HZ1.out)
  have HX:Hid (∀(R:Rp) (wr:World),dZ wr R (.go sc.1)→R.ts=sc.1→Calls Tryz.prog 53 #[.pointer (some ⟨R.br,0,none⟩),.int .i64 1] wr (ow R wr (iO sc.1 (.go sc.1)))):=Lib.hid (fun R wr h e=>by rw [← e]; rw [← e] at h; exact Oc R _ wr h)
  generalize iO sc.1 (.go sc.1)=pr at *
  obtain ⟨x,s'⟩:=pr
  clear hW tO HE2 qJ FY zT AA HB1 HZ1 h0 hq
  go_wp2_with fail
  refine (HX.out _ _ HR1.out rfl).mono ?_
  rintro e w2 ⟨v,rfl,⟨dJ,bS,rfl,hok,hst⟩,h2,h3⟩
  have HV:=Lib.hid (And.intro hok hst)
  have HR2:=Lib.hid h2
  have HG2:=Lib.hid h3
  clear hok hst h2 h3 HX
  unfold exV
  go_upto_region 6 with fail
  generalize hW:World.alloc w2 _=W3
  have oF:Hid (Below w2.heap.size w2 W3):=Lib.hid (by rw [← hW]; exact ah w2 _)
  have HB3:Hid (Below w.heap.size w W3):=Lib.hid ((HB2.out.trans (dX HG2.out (Nat.le_of_lt hlt) HB2.out.size)).trans (oF.out.mono (Nat.le_trans HB2.out.size HG2.out.size)))
  have HR3:=Lib.hid (HR2.out.below oF.out)
  have HZ3:Hid (W3.heap[w.heap.size]? =some (.cells K9 45 (0,0))):=Lib.hid (by
   have k1:=(Array.getElem?_eq_some_iff.1 HZ2.out).1
   exact (oF.out.block _ (Nat.lt_of_lt_of_le k1 HG2.out.size)).trans ((HG2.out.block _ k1 (by simp [nY]; omega)).trans HZ2.out))
  have HD3:Hid (W3.heap[w2.heap.size]? =some (.cells #[.int .i64 x.op,.int .i64 x.n,.string x.nm,.slice dJ x.kids.len bS] 45 (0,0))):=Lib.hid (by rw [← hW]; exact heap_alloc_new _ _)
  have HKX:Hid (bD W1.heap.size W3 (fun w2=>x.kids.At w2 w2.heap.size dJ 0)):=Lib.hid (HV.out.2.next (aK oF.out))
  have HW1:Hid (w1.heap.size < W1.heap.size∧W1.heap.size≤W3.heap.size):=Lib.hid ⟨HR1.out.lt,Nat.le_trans HG2.out.size oF.out.size⟩
  clear hW HR2 HG2 oF HZ2 HB2 HR1
  have Rh:Hid (w1.heap.size < W3.heap.size):=Lib.hid (by have:=HW1.out; omega)
  cases s' with
  | bad n=>
    rw [R5] at ni
    have iG:Hid (res=(e0,3,n)):=ni
    obtain ⟨pos,bad,⟨hp,hp2,hl,al6,hbr⟩,HS,⟨jq,jm⟩,c0,c1,c2,f1,f2⟩:=HR3.out.open
    obtain ⟨rfl,hn1,hn2⟩:=HS.out
    have c0:W3.cell? ⟨w1.heap.size,0,none⟩=some (.slice ao sc.1.length cap):=c0
    have c1:W3.cell? ⟨w1.heap.size,1,none⟩=some (.int .i64 (pos:Int)):=c1
    have c2:W3.cell? ⟨w1.heap.size,2,none⟩=some (.int .i64 bad):=c2
    have hq:(bad == 0)=false:=by rw [beq_eq_false_iff_ne]; omega
    have hq2:decide ((0:Int) < bad)=true:=decide_eq_true (by omega)
    clear HS f1 f2
    go_upto_region 9 with fail
    obtain ⟨WR,OC⟩: ∃WR,WR=W3:=⟨_,rfl⟩
    rw [← OC] at c2 Rh HZ3 HB3 ⊢
    have Py:=HZ3
    have vX:=Rh
    have XF:=HB3
    clear OC
    have KP: ∀(x:Bool) w',jD (fun w'=>w'=WR.drewN 1) (fun w'=>w'=(WR.drewN 1).setCells w.heap.size 0 [.int .i64 0,.int .i64 0,.string ⟨#[]⟩,.slice none 0 0]) [x] w'→w'.cell? ⟨w1.heap.size,2,none⟩=some (.int .i64 bad):=fun x w' h=>by
     cases x
     ·have h:w'=_:=h
      rw [h]; exact c2
     ·have h:w'=_:=h
      rw [h]; exact (World.cell?_of_block (a:=⟨w1.heap.size,2,none⟩) ((aO w.heap.size _ 0 (WR.drewN 1)).block _ vX.out (by simp; omega))).trans c2
    refine eG (by kernel_rfl) rfl ?_
    refine dS 0 8 [5] [[],[],[1],[1,2],[1,2,3],[0],[0,5],[0,1,2,3,4,5,6]] [[some false],[none],[none],[none],[none],[some false],[some true],[some true]] (jD (fun w'=>w'=WR.drewN 1) (fun w'=>w'=(WR.drewN 1).setCells w.heap.size 0 [.int .i64 0,.int .i64 0,.string ⟨#[]⟩,.slice none 0 0])) (fun _ _=>True) [47,48,49,50,51,3,4] rfl rfl (by rfl) (by kernel_rfl) (by kernel_rfl) (by kernel_rfl) (by kernel_rfl) (by kernel_rfl) (by rfl) (fun _=>trivial) (by rfl) rfl ?_
    simp only [List.take_succ_cons,List.take_zero,List.drop_zero,List.drop_succ_cons,jW,List.map_cons,List.map_nil]
    apply aG.step
    case aF=>
     intro c A w' hok hC hO hD
     simp [aC,aB,au,Act.eval,Region.binds] at hD
     simp [go_sem,gd,Oper.wp,hD]
     exact aA.mk trivial (jD.skip (by rfl) hC) (aB.mk _ _)
    apply aG.step
    case aF=>
     intro c A w' hok hC hO hD
     have e8:=hO 8 (by rfl)
     simp [Act.eval] at e8
     simp [aC,aB,au,Act.eval,Region.binds] at hD
     simp [go_sem,gd,Oper.wp,hD,e8]
     exact aA.mk trivial (jD.skip (by rfl) hC) (aB.mk _ _)
    apply aG.step
    case aF=>
     intro c A w' hok hC hO hD
     simp [aC,aB,au,Act.eval,Region.binds] at hD
     simp [go_sem,gd,Oper.wp,hD]
     exact aA.mk trivial (jD.skip (by rfl) hC) (aB.mk _ _)
    apply aG.step
    case aF=>
     intro c A w' hok hC hO hD
     simp [aC,aB,au,Act.eval,Region.binds] at hD
     simp [go_sem,gd,Oper.wp,hD]
     exact aA.mk trivial (jD.skip (by rfl) hC) (aB.mk _ _)
    simp only [List.nil_append,List.cons_append]
    apply aG.step
    case aF=>
     intro c A w' hok hC hO hD
     obtain ⟨x,rfl⟩:=hC.bits
     have hb:=KP x w' hC
     simp [aC,aB,au,Act.eval,Region.binds] at hD
     simp [go_sem,gd,Oper.wp,hD,hb]
     exact aA.mk trivial (jD.skip (by rfl) hC) (aB.mk _ _)
    refine aG.some (fun _ _=>True) (fun _ _ _ _ _=>trivial) ?_ ?_
    ·intro c A w' hok hC hO hD
     obtain ⟨x,rfl⟩:=hC.bits
     obtain ⟨rfl,-⟩:=hok
     have hC:w'=_:=hC
     have e2:=hO 2 (by rfl)
     simp [Act.eval] at e2
     simp [aC,aB,au,Act.eval,Region.binds] at hD
     simp only [gd,if_true]
     refine wp_store_mid _ _ _ (by rfl) w.heap.size 0 ([.int .i64 0,.int .i64 0,.string ⟨#[]⟩,.slice none 0 0]).toArray (by simp [Act.eval,e2]) (by simp [Act.eval,hD]) (by rw [hC]; exact mo Py.out (Nat.le_refl 4)) II (by simp [Value.oneCell']) ?_
     exact aA.wV trivial (jD.fire (by rfl) (by rw [hC])) trivial
    apply aG.step
    case aF=>
     intro c A w' hok hC hO hD
     simp [aC,aB,au,Act.eval,Region.binds] at hD
     simp [go_sem,gd,Oper.wp,hD]
     exact aA.mk trivial (jD.skip (by rfl) hC) (aB.mk _ _)
    apply aG.step
    case aF=>
     intro c A w' hok hC hO hD
     simp [aC,aB,au,Act.eval,Region.binds] at hD
     simp [go_sem,gd,Oper.wp,hD]
     exact aA.mk trivial (jD.skip (by rfl) hC) (aB.mk _ _)
    try simp only [List.nil_append,List.cons_append]
    refine aG.done ?_
    intro w9 sD
    try simp only [List.drop_succ_cons,List.drop_zero]
    intro x0 h0 x1 h1 x2 h2 x3 h3 x4 h4 x5 h5 x6 h6 x7 h7
    have h6':=Eq.symm (show x6=_ from h6)
    subst h6'
    have uY:=Eq.symm (show x7=_ from h7)
    subst uY
    clear h0 h1 h2 h3 h4 h5 h6 h7 KP
    refine kJ ?_
    refine fU rfl ?_
    have zY:Hid (w9=(WR.drewN 1).setCells w.heap.size 0 [.int .i64 0,.int .i64 0,.string ⟨#[]⟩,.slice none 0 0]):=Lib.hid sD
    clear sD
    have fV:w9.heap[w.heap.size]? =some (.cells #[.int .i64 0,.int .i64 0,.string ⟨#[]⟩,.slice none 0 0] 45 (0,0)):=by rw [zY.out]; exact gG Py.out rfl
    have y0:w9.cell? ⟨w.heap.size,0,none⟩=some (.int .i64 0):=ak fV rfl
    have y1:w9.cell? ⟨w.heap.size,1,none⟩=some (.int .i64 0):=ak fV rfl
    have y2:w9.cell? ⟨w.heap.size,2,none⟩=some (.string ⟨#[]⟩):=ak fV rfl
    have y3:w9.cell? ⟨w.heap.size,3,none⟩=some (.slice none 0 0):=ak fV rfl
    have O4:Hid (Below w.heap.size w w9):=Lib.hid (by rw [zY.out]; exact Di (below_drewN XF.out 1) 0 _)
    clear fV
    go_simp
    go_wp2_with fail
    exact bodyPost_ret (v:= .tuple #[.agg #[.int .i64 0,.int .i64 0,.string ⟨#[]⟩,.slice none 0 0],.int .i64 3,.int .i64 _]) (by simp [results,Tryz.results22,go_sem,y0,y1,y2,y3]) rfl (uw iG.out O4.out)
  | go r=>
    have HEN:=Lib.hid ni.out
    obtain ⟨pos,bad,⟨hp,hp2,hl,al6,hbr⟩,HS,⟨jq,jm⟩,c0,c1,c2,f1,f2⟩:=HR3.out.open
    obtain ⟨rfl,hd⟩:=HS.out
    have hd:sc.1.drop pos=r:=hd
    have c0:W3.cell? ⟨w1.heap.size,0,none⟩=some (.slice ao sc.1.length cap):=c0
    have c1:W3.cell? ⟨w1.heap.size,1,none⟩=some (.int .i64 (pos:Int)):=c1
    have c2:W3.cell? ⟨w1.heap.size,2,none⟩=some (.int .i64 0):=c2
    clear HS f1 f2 jq jm
    cases r with
    | nil=>
      rw [Sn] at ni
      have iG:Hid (res=(x,0,0)):=ni
      have hpos:sc.1.length≤pos:=List.drop_eq_nil_iff.1 hd
      have hq:decide (pos < sc.1.length)=false:=by rw [decide_eq_false_iff_not]; omega
      obtain ⟨⟨y0,y1,y2,y3⟩,f0,f1,f2,f3⟩:=cO HZ3.out
      have d0:W3.cell? ⟨w2.heap.size,0,none⟩=some (.int .i64 x.op):=ak HD3.out rfl
      have d1:W3.cell? ⟨w2.heap.size,1,none⟩=some (.int .i64 x.n):=ak HD3.out rfl
      have d2:W3.cell? ⟨w2.heap.size,2,none⟩=some (.string x.nm):=ak HD3.out rfl
      have d3:W3.cell? ⟨w2.heap.size,3,none⟩=some (.slice dJ x.kids.len bS):=ak HD3.out rfl
      have hlt3:w.heap.size < W3.heap.size:=(Array.getElem?_eq_some_iff.1 HZ3.out).1
      have Cc:Hid (∀W,fF W3 w.heap.size (.int .i64 x.op) (.int .i64 x.n) (.string x.nm) (.slice dJ x.kids.len bS)=W→EK w res (.returned (.tuple #[.agg #[.int .i64 x.op,.int .i64 x.n,.string x.nm,.slice dJ x.kids.len bS],.int .i64 0,.int .i64 0])) W):=Lib.hid (fun W hW=>by
       subst hW
       have ha:=rA W3 w.heap.size (.int .i64 x.op) (.int .i64 x.n) (.string x.nm) (.slice dJ x.kids.len bS)
       exact OP iG.out HV.out.1 ((HKX.out.next (ha.mono (by have:=HW1.out; omega))).now) (bF (bF (bF (bF HB3.out _ _ (Nat.le_refl _)) _ _ (Nat.le_refl _)) _ _ (Nat.le_refl _)) _ _ (Nat.le_refl _)))
      clear hd hpos HEN ni
      go_wp2_with fail
      exact bodyPost_ret (v:= .tuple #[.agg #[.int .i64 x.op,.int .i64 x.n,.string x.nm,.slice dJ x.kids.len bS],.int .i64 0,.int .i64 0]) (by simp [results,Tryz.results22,go_sem,y0,y1,y2,y3,hlt3]) rfl (Cc.out _ rfl)
    | cons t q=>
      rw [PW] at ni
      have hpos:pos < sc.1.length:=by
       have:=congrArg List.length hd; simp at this; omega
      have hq:decide (pos < sc.1.length)=true:=decide_eq_true hpos
      obtain ⟨n,hn⟩: ∃n,bV sc.1 (t ::q)=n:=⟨_,rfl⟩
      have iG:Hid (res=(e0,3,n)):=Lib.hid (by rw [← hn]; exact ni.out)
      have HFL:Hid (∀W,dZ W (nY w1 ao cap sc.1) (.go (t ::q))→Calls Tryz.prog 54 #[.pointer (some ⟨w1.heap.size,0,none⟩)] W fun e w'=>e= .returned (.tuple #[])∧dZ w' (nY w1 ao cap sc.1) (.bad n)∧W.grownBy w' (some w1.heap.size)):=Lib.hid (fun W h=>by
       have:=yU _ _ W h
       rw [← hn]; exact this)
      clear hd hn HEN ni
      go_wp2_with fail
      refine (HFL.out _ HR3.out).mono ?_
      rintro e w4 ⟨rfl,h2,h3⟩
      have HR4:=Lib.hid h2
      have dN:Hid (Below w.heap.size w w4):=Lib.hid (HB3.out.trans (dX h3 (Nat.le_of_lt hlt) HB3.out.size))
      have eO:Hid (w4.heap[w.heap.size]? =some (.cells K9 45 (0,0))):=Lib.hid ((h3.block _ (Array.getElem?_eq_some_iff.1 HZ3.out).1 (by simp; omega)).trans HZ3.out)
      have YS:Hid (w1.heap.size < w4.heap.size):=Lib.hid (by have:=Rh.out; have:=h3.size; omega)
      clear h2 h3 c0 c1 c2
      obtain ⟨pos',bad',-,HS',⟨jq,jm⟩,c0,c1,c2,f1,f2⟩:=HR4.out.open
      obtain ⟨rfl,hn1,hn2⟩:=HS'.out
      have c2:w4.cell? ⟨w1.heap.size,2,none⟩=some (.int .i64 bad'):=c2
      have hq2:decide ((0:Int) < bad')=true:=decide_eq_true (by omega)
      clear HS' f1 f2 c0 c1
      go_upto_region 9 with fail
      obtain ⟨WR,OC⟩: ∃WR,WR=w4:=⟨_,rfl⟩
      rw [← OC] at c2 YS eO dN ⊢
      have Py:=eO
      have vX:=YS
      have XF:=dN
      clear OC
      have KP: ∀(x:Bool) w',jD (fun w'=>w'=WR.drewN 1) (fun w'=>w'=(WR.drewN 1).setCells w.heap.size 0 [.int .i64 0,.int .i64 0,.string ⟨#[]⟩,.slice none 0 0]) [x] w'→w'.cell? ⟨w1.heap.size,2,none⟩=some (.int .i64 bad'):=fun x w' h=>by
       cases x
       ·have h:w'=_:=h
        rw [h]; exact c2
       ·have h:w'=_:=h
        rw [h]; exact (World.cell?_of_block (a:=⟨w1.heap.size,2,none⟩) ((aO w.heap.size _ 0 (WR.drewN 1)).block _ vX.out (by simp; omega))).trans c2
      refine eG (by kernel_rfl) rfl ?_
      refine dS 0 8 [5] [[],[],[1],[1,2],[1,2,3],[0],[0,5],[0,1,2,3,4,5,6]] [[some false],[none],[none],[none],[none],[some false],[some true],[some true]] (jD (fun w'=>w'=WR.drewN 1) (fun w'=>w'=(WR.drewN 1).setCells w.heap.size 0 [.int .i64 0,.int .i64 0,.string ⟨#[]⟩,.slice none 0 0])) (fun _ _=>True) [47,48,49,50,51,3,4] rfl rfl (by rfl) (by kernel_rfl) (by kernel_rfl) (by kernel_rfl) (by kernel_rfl) (by kernel_rfl) (by rfl) (fun _=>trivial) (by rfl) rfl ?_
      simp only [List.take_succ_cons,List.take_zero,List.drop_zero,List.drop_succ_cons,jW,List.map_cons,List.map_nil]
      apply aG.step
      case aF=>
       intro c A w' hok hC hO hD
       simp [aC,aB,au,Act.eval,Region.binds] at hD
       simp [go_sem,gd,Oper.wp,hD]
       exact aA.mk trivial (jD.skip (by rfl) hC) (aB.mk _ _)
      apply aG.step
      case aF=>
       intro c A w' hok hC hO hD
       have e8:=hO 8 (by rfl)
       simp [Act.eval] at e8
       simp [aC,aB,au,Act.eval,Region.binds] at hD
       simp [go_sem,gd,Oper.wp,hD,e8]
       exact aA.mk trivial (jD.skip (by rfl) hC) (aB.mk _ _)
      apply aG.step
      case aF=>
       intro c A w' hok hC hO hD
       simp [aC,aB,au,Act.eval,Region.binds] at hD
       simp [go_sem,gd,Oper.wp,hD]
       exact aA.mk trivial (jD.skip (by rfl) hC) (aB.mk _ _)
      apply aG.step
      case aF=>
       intro c A w' hok hC hO hD
       simp [aC,aB,au,Act.eval,Region.binds] at hD
       simp [go_sem,gd,Oper.wp,hD]
       exact aA.mk trivial (jD.skip (by rfl) hC) (aB.mk _ _)
      simp only [List.nil_append,List.cons_append]
      apply aG.step
      case aF=>
       intro c A w' hok hC hO hD
       obtain ⟨x,rfl⟩:=hC.bits
       have hb:=KP x w' hC
       simp [aC,aB,au,Act.eval,Region.binds] at hD
       simp [go_sem,gd,Oper.wp,hD,hb]
       exact aA.mk trivial (jD.skip (by rfl) hC) (aB.mk _ _)
      refine aG.some (fun _ _=>True) (fun _ _ _ _ _=>trivial) ?_ ?_
      ·intro c A w' hok hC hO hD
       obtain ⟨x,rfl⟩:=hC.bits
       obtain ⟨rfl,-⟩:=hok
       have hC:w'=_:=hC
       have e2:=hO 2 (by rfl)
       simp [Act.eval] at e2
       simp [aC,aB,au,Act.eval,Region.binds] at hD
       simp only [gd,if_true]
       refine wp_store_mid _ _ _ (by rfl) w.heap.size 0 ([.int .i64 0,.int .i64 0,.string ⟨#[]⟩,.slice none 0 0]).toArray (by simp [Act.eval,e2]) (by simp [Act.eval,hD]) (by rw [hC]; exact mo Py.out (Nat.le_refl 4)) II (by simp [Value.oneCell']) ?_
       exact aA.wV trivial (jD.fire (by rfl) (by rw [hC])) trivial
      apply aG.step
      case aF=>
       intro c A w' hok hC hO hD
       simp [aC,aB,au,Act.eval,Region.binds] at hD
       simp [go_sem,gd,Oper.wp,hD]
       exact aA.mk trivial (jD.skip (by rfl) hC) (aB.mk _ _)
      apply aG.step
      case aF=>
       intro c A w' hok hC hO hD
       simp [aC,aB,au,Act.eval,Region.binds] at hD
       simp [go_sem,gd,Oper.wp,hD]
       exact aA.mk trivial (jD.skip (by rfl) hC) (aB.mk _ _)
      try simp only [List.nil_append,List.cons_append]
      refine aG.done ?_
      intro w9 sD
      try simp only [List.drop_succ_cons,List.drop_zero]
      intro x0 h0 x1 h1 x2 h2 x3 h3 x4 h4 x5 h5 x6 h6 x7 h7
      have h6':=Eq.symm (show x6=_ from h6)
      subst h6'
      have uY:=Eq.symm (show x7=_ from h7)
      subst uY
      clear h0 h1 h2 h3 h4 h5 h6 h7 KP
      refine kJ ?_
      refine fU rfl ?_
      have zY:Hid (w9=(WR.drewN 1).setCells w.heap.size 0 [.int .i64 0,.int .i64 0,.string ⟨#[]⟩,.slice none 0 0]):=Lib.hid sD
      clear sD
      have fV:w9.heap[w.heap.size]? =some (.cells #[.int .i64 0,.int .i64 0,.string ⟨#[]⟩,.slice none 0 0] 45 (0,0)):=by rw [zY.out]; exact gG Py.out rfl
      have y0:w9.cell? ⟨w.heap.size,0,none⟩=some (.int .i64 0):=ak fV rfl
      have y1:w9.cell? ⟨w.heap.size,1,none⟩=some (.int .i64 0):=ak fV rfl
      have y2:w9.cell? ⟨w.heap.size,2,none⟩=some (.string ⟨#[]⟩):=ak fV rfl
      have y3:w9.cell? ⟨w.heap.size,3,none⟩=some (.slice none 0 0):=ak fV rfl
      have O4:Hid (Below w.heap.size w w9):=Lib.hid (by rw [zY.out]; exact Di (below_drewN XF.out 1) 0 _)
      clear fV
      go_simp
      go_wp2_with fail
      exact bodyPost_ret (v:= .tuple #[.agg #[.int .i64 0,.int .i64 0,.string ⟨#[]⟩,.slice none 0 0],.int .i64 3,.int .i64 _]) (by simp [results,Tryz.results22,go_sem,y0,y1,y2,y3]) rfl (uw iG.out O4.out)
 ·have hq:(((sc.2.1:Nat):Int) == 0)=false:=by rw [beq_eq_false_iff_ne]; omega
  have iG:=Lib.hid (tO.out h0)
  have y0:w1.cell? ⟨w.heap.size,0,none⟩=some (.int .i64 0):=ak HZ1.out rfl
  have y1:w1.cell? ⟨w.heap.size,1,none⟩=some (.int .i64 0):=ak HZ1.out rfl
  have y2:w1.cell? ⟨w.heap.size,2,none⟩=some (.string ⟨#[]⟩):=ak HZ1.out rfl
  have y3:w1.cell? ⟨w.heap.size,3,none⟩=some (.slice none 0 0):=ak HZ1.out rfl
  have f0:w1.frozen? ⟨w.heap.size,0,none⟩=false:=aD HZ1.out
  have f1:w1.frozen? ⟨w.heap.size,1,none⟩=false:=aD HZ1.out
  have f2:w1.frozen? ⟨w.heap.size,2,none⟩=false:=aD HZ1.out
  have f3:w1.frozen? ⟨w.heap.size,3,none⟩=false:=aD HZ1.out
  go_wp2_with fail
  exact bodyPost_ret (v:= .tuple #[.agg #[.int .i64 0,.int .i64 0,.string ⟨#[]⟩,.slice none 0 0],.int .i64 (sc.2.1:Int),.int .i64 (sc.2.2:Int)]) (by simp [results,Tryz.results22,go_sem,y0,y1,y2,y3,hlt]) rfl (uw iG.out (bF (bF (bF (bF HB1.out _ _ (Nat.le_refl _)) _ _ (Nat.le_refl _)) _ _ (Nat.le_refl _)) _ _ (Nat.le_refl _)))
end Go.Proofs.YtehnipchbmjlhaaGreatDoor
