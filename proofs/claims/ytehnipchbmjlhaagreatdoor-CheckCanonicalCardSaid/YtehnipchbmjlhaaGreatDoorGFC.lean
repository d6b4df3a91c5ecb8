/-
  Contract of the printer's decl (printed by gen_fmp.py).
  Contract of the printer's Program.
-/
import Derived.Test.YtehnipchbmjlhaaGreatDoorGFB
set_option linter.unusedSimpArgs false
set_option linter.unusedVariables false
set_option maxHeartbeats 40000000
set_option maxRecDepth 1000000
section
namespace Go.Proofs.YtehnipchbmjlhaaGreatDoor
open Go.RowKit
open Md Fm
theorem Wo (n:Int) (h0: -9223372036854775808≤n) (h1:n≤9223372036854775807) (w:World) (ht:jU w):
 Calls Tryz.prog 60 #[.int .i64 n] w fun e w'=>e= .returned (.string (lT n))∧Below w.heap.size w w':=
 (Tryz.strconv_Itoa n h0 h1 w ht).mono fun _ _ ⟨he,k,os,hw⟩=>⟨he,hw ▸ Lib.below_grow _ w (Nat.le_refl _) k os⟩
theorem Ho (k:Int):(pI k).size≤11:=by
 unfold pI
 simp only [apply_ite ByteArray.size]
 repeat (refine Io (by decide) ?_)
 decide
theorem Kj {d:De} (h:fG d=true):(1≤d.kind∧d.kind≤6)∧d.nm.size≤12∧d.on.size≤12∧0≤d.size:=by
 unfold fG at h
 simp only [Bool.and_eq_true,decide_eq_true_eq] at h
 obtain ⟨⟨⟨⟨h1,h2⟩,h3⟩,h4,-⟩,-,h5⟩:=h
 refine ⟨⟨h1,h2⟩,?_,?_,h4⟩
 ·unfold Tk.dZ at h3
  simp only [Bool.and_eq_true,decide_eq_true_eq] at h3
  rw [Lib.size_eq]; exact h3.1.1.2
 ·unfold iU at h5
  split at h5
  ·unfold Tk.dZ at h5
   simp only [Bool.and_eq_true,decide_eq_true_eq] at h5
   rw [Lib.size_eq]; exact h5.1.1.2
  ·rw [Lib.size_eq,List.isEmpty_iff.1 h5]; exact Nat.zero_le _
theorem Ec {c:Prop} [Decidable c] (a b:ByteArray): ∃x,(c→x=a)∧(¬ c→x=b)∧(if c then a else b)=x:=⟨_,fun h=>if_pos h,fun h=>if_neg h,rfl⟩
theorem MJ (d:De) (h:1≤d.kind∧d.kind≤6): ∃s1 s2 s3 s4:ByteArray,s1=(pI d.kind++⟨#[32]⟩)++d.nm∧(0 < d.size→s2=((s1++⟨#[91]⟩)++lT d.size)++⟨#[93]⟩)∧(¬ 0 < d.size→s2=s1)∧((d.init != 0)=true→s3=(s2++⟨#[32,61,32]⟩)++lT d.init)∧((d.init != 0)=false→s3=s2)∧((d.kind == 5)=true→s4=(s3++⟨#[32]⟩)++d.on)∧((d.kind == 5)=false→s4=s3)∧BG d=s4++⟨#[59,10]⟩:=by
 obtain ⟨s2,a2,b2,e2⟩:=Ec (c:=0 < d.size) (((((pI d.kind++⟨#[32]⟩)++d.nm)++⟨#[91]⟩)++lT d.size)++⟨#[93]⟩) ((pI d.kind++⟨#[32]⟩)++d.nm)
 obtain ⟨s3,a3,b3,e3⟩:=Ec (c:=(d.init != 0)=true) ((s2++⟨#[32,61,32]⟩)++lT d.init) s2
 obtain ⟨s4,a4,b4,e4⟩:=Ec (c:=(d.kind == 5)=true) ((s3++⟨#[32]⟩)++d.on) s3
 refine ⟨_,s2,s3,s4,rfl,a2,b2,a3,fun e=>b3 (by rw [e]; decide),a4,fun e=>b4 (by rw [e]; decide),?_⟩
 unfold BG
 rw [if_neg (by simp; omega),← e4,← e3,← e2]
theorem Iq (d:De) (hok:d.Ok) (h:fG d=true):(BG d).size≤1000:=by
 obtain ⟨hk,hn,ho,-⟩:=Kj h
 obtain ⟨s1,s2,s3,s4,e1,a2,b2,a3,b3,a4,b4,e⟩:=MJ d hk
 have hw:=Ho d.kind
 have hi1:=uQ d.size hok.2.2.2.1
 have hi2:=uQ d.init hok.2.2.2.2.1
 have f1:(⟨#[32]⟩:ByteArray).size=1:=rfl
 have f2:(⟨#[91]⟩:ByteArray).size=1:=rfl
 have f3:(⟨#[93]⟩:ByteArray).size=1:=rfl
 have f4:(⟨#[32,61,32]⟩:ByteArray).size=3:=rfl
 have f5:(⟨#[59,10]⟩:ByteArray).size=2:=rfl
 have s1s:s1.size≤30:=by rw [e1]; simp only [ByteArray.size_append,f1]; omega
 have s2s:s2.size≤60:=by
  by_cases hc:0 < d.size
  ·rw [a2 hc]; simp only [ByteArray.size_append,f2,f3]; omega
  ·rw [b2 hc]; omega
 have s3s:s3.size≤90:=by
  cases hc:(d.init != 0)
  ·rw [b3 hc]; omega
  ·rw [a3 hc]; simp only [ByteArray.size_append,f4]; omega
 have s4s:s4.size≤120:=by
  cases hc:(d.kind == 5)
  ·rw [b4 hc]; omega
  ·rw [a4 hc]; simp only [ByteArray.size_append,f1]; omega
 rw [e]; simp only [ByteArray.size_append,f5]; omega
theorem OP (d:De) (w:World) (hok:d.Ok) (hsh:fG d=true) (hp:jU w):
 Calls Tryz.prog 30 #[.agg #[.int .i64 d.kind,.int .i64 d.line,.string d.nm,.int .i64 d.size,.int .i64 d.init,.string d.on]] w fun e w'=>e= .returned (.string (BG d))∧Below w.heap.size w w':=by
 obtain ⟨⟨hk1,hk2⟩,hnm,hon,hsz0⟩:=Kj hsh
 obtain ⟨s1,s2,s3,s4,e1,a2,b2,a3,b3,a4,b4,e⟩:=MJ d ⟨hk1,hk2⟩
 obtain ⟨-,-,-,hI1,hI2,-⟩:=hok
 have hz1:=uQ d.size hI1
 have hz2:=uQ d.init hI2
 have HW:=Lib.hid (Ho d.kind)
 have iR:=Lib.hid hp
 obtain ⟨kind,line,nm,size,init,on⟩:=d
 dsimp only at *
 have HS:=Lib.hid (And.intro e1 (And.intro a2 (And.intro b2 (And.intro a3 (And.intro b3 (And.intro a4 b4))))))
 rw [e]
 clear e e1 a2 b2 a3 b3 a4 b4 hsh hp
 have HIT:=Lib.hid (fun w hp=>Wo size hI1.1 hI1.2 w hp)
 have zu:=Lib.hid (fun w hp=>BD init hI2.1 hI2.2 w hp)
 clear hI1 hI2
 generalize lT size=tz at *
 generalize lT init=ti at *
 have hc:kind=1∨kind=2∨kind=3∨kind=4∨kind=5∨kind=6:=by omega
 clear hk1 hk2
 rcases hc with rfl | rfl | rfl | rfl | rfl | rfl
 ·obtain ⟨wd,dL⟩: ∃wd,Hid (pI 1=wd):=⟨_,Lib.hid rfl⟩
  have hwd:wd.size≤11:=by rw [← dL.out]; exact HW.out
  rw [dL.out] at HS
  go_enter Tryz.func30,Tryz.ntmps30
  go_upto_region 1 with fail
  have HZ:=Lib.hid ((Sit.start w).yV (n:=w.heap.size) rfl (.int .i64 1) (.int .i64 line) (.string nm) (.int .i64 size) (.int .i64 init) (.string on) 62)
  generalize hW:World.alloc w _=W
  rw [hW] at HZ
  clear hW
  go_upto_region 2 with fail
  have HY:=Lib.hid (HZ.out.next (ah W (.cells #[.string ⟨#[]⟩,.string ⟨#[118,97,114]⟩,.string ⟨#[118,111,108,97,116,105,108,101]⟩,.string ⟨#[109,117,116,101,120]⟩,.string ⟨#[114,119,108,111,99,107]⟩,.string ⟨#[99,111,110,100]⟩,.string ⟨#[102,117,116,117,114,101]⟩] 9)))
  have dM:=Lib.hid (heap_alloc_new W (.cells #[.string ⟨#[]⟩,.string ⟨#[118,97,114]⟩,.string ⟨#[118,111,108,97,116,105,108,101]⟩,.string ⟨#[109,117,116,101,120]⟩,.string ⟨#[114,119,108,111,99,107]⟩,.string ⟨#[99,111,110,100]⟩,.string ⟨#[102,117,116,117,114,101]⟩] 9))
  generalize hW:World.alloc W _=W1
  rw [hW] at HY dM
  clear hW HZ
  have cw:W1.cell? ⟨W.heap.size,1,none⟩=some (.string wd):=by rw [← dL.out]; exact aG dM.out rfl
  obtain ⟨wb,hwb⟩: ∃g,W.heap.size=g:=⟨_,rfl⟩
  rw [hwb] at cw ⊢
  clear dM hwb HW dL
  obtain ⟨-,⟨-,c0⟩,⟨-,c1⟩,⟨-,c2⟩,⟨-,c3⟩,⟨-,c4⟩,⟨-,c5⟩,-⟩:=HY.out
  go_upto_region 4 with fail
  go_quiet (fail)
  generalize hW:World.drewN W1 _=W2
  have HV:=Lib.hid (HY.out.next (show Below W1.heap.size W1 W2 by rw [← hW]; exact below_drewN (Below.refl _ _) _))
  clear hW cw c0 c1 c2 c3 c4 c5 HY
  obtain ⟨-,⟨-,c0⟩,⟨-,c1⟩,⟨-,c2⟩,⟨-,c3⟩,⟨-,c4⟩,⟨-,c5⟩,-⟩:=HV.out
  skip
  by_cases hs:0 < size
  ·go_wp2_with fail
   refine (HIT.out _ (iR.out.next HV.out.1)).mono ?_
   rintro e w4 ⟨rfl,hb⟩
   have HU:=Lib.hid (HV.out.next hb)
   clear hb c0 c1 c2 c3 c4 c5
   obtain ⟨-,⟨-,c0⟩,⟨-,c1⟩,⟨-,c2⟩,⟨-,c3⟩,⟨-,c4⟩,⟨-,c5⟩,-⟩:=HU.out
   cases hi:(init != 0)
   ·go_wp2_with fail
    go_ret
    exact ⟨by rw [HS.out.2.2.2.2.2.2 rfl,HS.out.2.2.2.2.1 hi,HS.out.2.1 hs,HS.out.1]; rfl,HU.out.1⟩
   ·go_wp2_with fail
    refine (zu.out _ (iR.out.next HU.out.1)).mono ?_
    rintro e w5 ⟨rfl,hb⟩
    have HT:=Lib.hid (HU.out.next hb)
    clear hb c0 c1 c2 c3 c4 c5
    obtain ⟨-,⟨-,c0⟩,⟨-,c1⟩,⟨-,c2⟩,⟨-,c3⟩,⟨-,c4⟩,⟨-,c5⟩,-⟩:=HT.out
    go_wp2_with fail
    go_ret
    exact ⟨by rw [HS.out.2.2.2.2.2.2 rfl,HS.out.2.2.2.1 hi,HS.out.2.1 hs,HS.out.1]; rfl,HT.out.1⟩
  ·cases hi:(init != 0)
   ·go_wp2_with fail
    go_ret
    exact ⟨by rw [HS.out.2.2.2.2.2.2 rfl,HS.out.2.2.2.2.1 hi,HS.out.2.2.1 hs,HS.out.1]; rfl,HV.out.1⟩
   ·go_wp2_with fail
    refine (zu.out _ (iR.out.next HV.out.1)).mono ?_
    rintro e w5 ⟨rfl,hb⟩
    have HT:=Lib.hid (HV.out.next hb)
    clear hb c0 c1 c2 c3 c4 c5
    obtain ⟨-,⟨-,c0⟩,⟨-,c1⟩,⟨-,c2⟩,⟨-,c3⟩,⟨-,c4⟩,⟨-,c5⟩,-⟩:=HT.out
    go_wp2_with fail
    go_ret
    exact ⟨by rw [HS.out.2.2.2.2.2.2 rfl,HS.out.2.2.2.1 hi,HS.out.2.2.1 hs,HS.out.1]; rfl,HT.out.1⟩
 ·obtain ⟨wd,dL⟩: ∃wd,Hid (pI 2=wd):=⟨_,Lib.hid rfl⟩
  have hwd:wd.size≤11:=by rw [← dL.out]; exact HW.out
  rw [dL.out] at HS
  go_enter Tryz.func30,Tryz.ntmps30
  go_upto_region 1 with fail
  have HZ:=Lib.hid ((Sit.start w).yV (n:=w.heap.size) rfl (.int .i64 2) (.int .i64 line) (.string nm) (.int .i64 size) (.int .i64 init) (.string on) 62)
  generalize hW:World.alloc w _=W
  rw [hW] at HZ
  clear hW
  go_upto_region 2 with fail
  have HY:=Lib.hid (HZ.out.next (ah W (.cells #[.string ⟨#[]⟩,.string ⟨#[118,97,114]⟩,.string ⟨#[118,111,108,97,116,105,108,101]⟩,.string ⟨#[109,117,116,101,120]⟩,.string ⟨#[114,119,108,111,99,107]⟩,.string ⟨#[99,111,110,100]⟩,.string ⟨#[102,117,116,117,114,101]⟩] 9)))
  have dM:=Lib.hid (heap_alloc_new W (.cells #[.string ⟨#[]⟩,.string ⟨#[118,97,114]⟩,.string ⟨#[118,111,108,97,116,105,108,101]⟩,.string ⟨#[109,117,116,101,120]⟩,.string ⟨#[114,119,108,111,99,107]⟩,.string ⟨#[99,111,110,100]⟩,.string ⟨#[102,117,116,117,114,101]⟩] 9))
  generalize hW:World.alloc W _=W1
  rw [hW] at HY dM
  clear hW HZ
  have cw:W1.cell? ⟨W.heap.size,2,none⟩=some (.string wd):=by rw [← dL.out]; exact aG dM.out rfl
  obtain ⟨wb,hwb⟩: ∃g,W.heap.size=g:=⟨_,rfl⟩
  rw [hwb] at cw ⊢
  clear dM hwb HW dL
  obtain ⟨-,⟨-,c0⟩,⟨-,c1⟩,⟨-,c2⟩,⟨-,c3⟩,⟨-,c4⟩,⟨-,c5⟩,-⟩:=HY.out
  go_upto_region 4 with fail
  go_quiet (fail)
  generalize hW:World.drewN W1 _=W2
  have HV:=Lib.hid (HY.out.next (show Below W1.heap.size W1 W2 by rw [← hW]; exact below_drewN (Below.refl _ _) _))
  clear hW cw c0 c1 c2 c3 c4 c5 HY
  obtain ⟨-,⟨-,c0⟩,⟨-,c1⟩,⟨-,c2⟩,⟨-,c3⟩,⟨-,c4⟩,⟨-,c5⟩,-⟩:=HV.out
  skip
  by_cases hs:0 < size
  ·go_wp2_with fail
   refine (HIT.out _ (iR.out.next HV.out.1)).mono ?_
   rintro e w4 ⟨rfl,hb⟩
   have HU:=Lib.hid (HV.out.next hb)
   clear hb c0 c1 c2 c3 c4 c5
   obtain ⟨-,⟨-,c0⟩,⟨-,c1⟩,⟨-,c2⟩,⟨-,c3⟩,⟨-,c4⟩,⟨-,c5⟩,-⟩:=HU.out
   cases hi:(init != 0)
   ·go_wp2_with fail
    go_ret
    exact ⟨by rw [HS.out.2.2.2.2.2.2 rfl,HS.out.2.2.2.2.1 hi,HS.out.2.1 hs,HS.out.1]; rfl,HU.out.1⟩
   ·go_wp2_with fail
    refine (zu.out _ (iR.out.next HU.out.1)).mono ?_
    rintro e w5 ⟨rfl,hb⟩
    have HT:=Lib.hid (HU.out.next hb)
    clear hb c0 c1 c2 c3 c4 c5
    obtain ⟨-,⟨-,c0⟩,⟨-,c1⟩,⟨-,c2⟩,⟨-,c3⟩,⟨-,c4⟩,⟨-,c5⟩,-⟩:=HT.out
    go_wp2_with fail
    go_ret
    exact ⟨by rw [HS.out.2.2.2.2.2.2 rfl,HS.out.2.2.2.1 hi,HS.out.2.1 hs,HS.out.1]; rfl,HT.out.1⟩
  ·cases hi:(init != 0)
   ·go_wp2_with fail
    go_ret
    exact ⟨by rw [HS.out.2.2.2.2.2.2 rfl,HS.out.2.2.2.2.1 hi,HS.out.2.2.1 hs,HS.out.1]; rfl,HV.out.1⟩
   ·go_wp2_with fail
    refine (zu.out _ (iR.out.next HV.out.1)).mono ?_
    rintro e w5 ⟨rfl,hb⟩
    have HT:=Lib.hid (HV.out.next hb)
    clear hb c0 c1 c2 c3 c4 c5
    obtain ⟨-,⟨-,c0⟩,⟨-,c1⟩,⟨-,c2⟩,⟨-,c3⟩,⟨-,c4⟩,⟨-,c5⟩,-⟩:=HT.out
    go_wp2_with fail
    go_ret
    exact ⟨by rw [HS.out.2.2.2.2.2.2 rfl,HS.out.2.2.2.1 hi,HS.out.2.2.1 hs,HS.out.1]; rfl,HT.out.1⟩
 ·obtain ⟨wd,dL⟩: ∃wd,Hid (pI 3=wd):=⟨_,Lib.hid rfl⟩
  have hwd:wd.size≤11:=by rw [← dL.out]; exact HW.out
  rw [dL.out] at HS
  go_enter Tryz.func30,Tryz.ntmps30
  go_upto_region 1 with fail
  have HZ:=Lib.hid ((Sit.start w).yV (n:=w.heap.size) rfl (.int .i64 3) (.int .i64 line) (.string nm) (.int .i64 size) (.int .i64 init) (.string on) 62)
  generalize hW:World.alloc w _=W
  rw [hW] at HZ
  clear hW
  go_upto_region 2 with fail
  have HY:=Lib.hid (HZ.out.next (ah W (.cells #[.string ⟨#[]⟩,.string ⟨#[118,97,114]⟩,.string ⟨#[118,111,108,97,116,105,108,101]⟩,.string ⟨#[109,117,116,101,120]⟩,.string ⟨#[114,119,108,111,99,107]⟩,.string ⟨#[99,111,110,100]⟩,.string ⟨#[102,117,116,117,114,101]⟩] 9)))
  have dM:=Lib.hid (heap_alloc_new W (.cells #[.string ⟨#[]⟩,.string ⟨#[118,97,114]⟩,.string ⟨#[118,111,108,97,116,105,108,101]⟩,.string ⟨#[109,117,116,101,120]⟩,.string ⟨#[114,119,108,111,99,107]⟩,.string ⟨#[99,111,110,100]⟩,.string ⟨#[102,117,116,117,114,101]⟩] 9))
  generalize hW:World.alloc W _=W1
  rw [hW] at HY dM
  clear hW HZ
  have cw:W1.cell? ⟨W.heap.size,3,none⟩=some (.string wd):=by rw [← dL.out]; exact aG dM.out rfl
  obtain ⟨wb,hwb⟩: ∃g,W.heap.size=g:=⟨_,rfl⟩
  rw [hwb] at cw ⊢
  clear dM hwb HW dL
  obtain ⟨-,⟨-,c0⟩,⟨-,c1⟩,⟨-,c2⟩,⟨-,c3⟩,⟨-,c4⟩,⟨-,c5⟩,-⟩:=HY.out
  go_upto_region 4 with fail
  go_quiet (fail)
  generalize hW:World.drewN W1 _=W2
  have HV:=Lib.hid (HY.out.next (show Below W1.heap.size W1 W2 by rw [← hW]; exact below_drewN (Below.refl _ _) _))
  clear hW cw c0 c1 c2 c3 c4 c5 HY
  obtain ⟨-,⟨-,c0⟩,⟨-,c1⟩,⟨-,c2⟩,⟨-,c3⟩,⟨-,c4⟩,⟨-,c5⟩,-⟩:=HV.out
  skip
  by_cases hs:0 < size
  ·go_wp2_with fail
   refine (HIT.out _ (iR.out.next HV.out.1)).mono ?_
   rintro e w4 ⟨rfl,hb⟩
   have HU:=Lib.hid (HV.out.next hb)
   clear hb c0 c1 c2 c3 c4 c5
   obtain ⟨-,⟨-,c0⟩,⟨-,c1⟩,⟨-,c2⟩,⟨-,c3⟩,⟨-,c4⟩,⟨-,c5⟩,-⟩:=HU.out
   cases hi:(init != 0)
   ·go_wp2_with fail
    go_ret
    exact ⟨by rw [HS.out.2.2.2.2.2.2 rfl,HS.out.2.2.2.2.1 hi,HS.out.2.1 hs,HS.out.1]; rfl,HU.out.1⟩
   ·go_wp2_with fail
    refine (zu.out _ (iR.out.next HU.out.1)).mono ?_
    rintro e w5 ⟨rfl,hb⟩
    have HT:=Lib.hid (HU.out.next hb)
    clear hb c0 c1 c2 c3 c4 c5
    obtain ⟨-,⟨-,c0⟩,⟨-,c1⟩,⟨-,c2⟩,⟨-,c3⟩,⟨-,c4⟩,⟨-,c5⟩,-⟩:=HT.out
    go_wp2_with fail
    go_ret
    exact ⟨by rw [HS.out.2.2.2.2.2.2 rfl,HS.out.2.2.2.1 hi,HS.out.2.1 hs,HS.out.1]; rfl,HT.out.1⟩
  ·cases hi:(init != 0)
   ·go_wp2_with fail
    go_ret
    exact ⟨by rw [HS.out.2.2.2.2.2.2 rfl,HS.out.2.2.2.2.1 hi,HS.out.2.2.1 hs,HS.out.1]; rfl,HV.out.1⟩
   ·go_wp2_with fail
    refine (zu.out _ (iR.out.next HV.out.1)).mono ?_
    rintro e w5 ⟨rfl,hb⟩
    have HT:=Lib.hid (HV.out.next hb)
    clear hb c0 c1 c2 c3 c4 c5
    obtain ⟨-,⟨-,c0⟩,⟨-,c1⟩,⟨-,c2⟩,⟨-,c3⟩,⟨-,c4⟩,⟨-,c5⟩,-⟩:=HT.out
    go_wp2_with fail
    go_ret
    exact ⟨by rw [HS.out.2.2.2.2.2.2 rfl,HS.out.2.2.2.1 hi,HS.out.2.2.1 hs,HS.out.1]; rfl,HT.out.1⟩
 ·obtain ⟨wd,dL⟩: ∃wd,Hid (pI 4=wd):=⟨_,Lib.hid rfl⟩
  have hwd:wd.size≤11:=by rw [← dL.out]; exact HW.out
  rw [dL.out] at HS
  go_enter Tryz.func30,Tryz.ntmps30
  go_upto_region 1 with fail
  have HZ:=Lib.hid ((Sit.start w).yV (n:=w.heap.size) rfl (.int .i64 4) (.int .i64 line) (.string nm) (.int .i64 size) (.int .i64 init) (.string on) 62)
  generalize hW:World.alloc w _=W
  rw [hW] at HZ
  clear hW
  go_upto_region 2 with fail
  have HY:=Lib.hid (HZ.out.next (ah W (.cells #[.string ⟨#[]⟩,.string ⟨#[118,97,114]⟩,.string ⟨#[118,111,108,97,116,105,108,101]⟩,.string ⟨#[109,117,116,101,120]⟩,.string ⟨#[114,119,108,111,99,107]⟩,.string ⟨#[99,111,110,100]⟩,.string ⟨#[102,117,116,117,114,101]⟩] 9)))
  have dM:=Lib.hid (heap_alloc_new W (.cells #[.string ⟨#[]⟩,.string ⟨#[118,97,114]⟩,.string ⟨#[118,111,108,97,116,105,108,101]⟩,.string ⟨#[109,117,116,101,120]⟩,.string ⟨#[114,119,108,111,99,107]⟩,.string ⟨#[99,111,110,100]⟩,.string ⟨#[102,117,116,117,114,101]⟩] 9))
  generalize hW:World.alloc W _=W1
  rw [hW] at HY dM
  clear hW HZ
  have cw:W1.cell? ⟨W.heap.size,4,none⟩=some (.string wd):=by rw [← dL.out]; exact aG dM.out rfl
  obtain ⟨wb,hwb⟩: ∃g,W.heap.size=g:=⟨_,rfl⟩
  rw [hwb] at cw ⊢
  clear dM hwb HW dL
  obtain ⟨-,⟨-,c0⟩,⟨-,c1⟩,⟨-,c2⟩,⟨-,c3⟩,⟨-,c4⟩,⟨-,c5⟩,-⟩:=HY.out
  go_upto_region 4 with fail
  go_quiet (fail)
  generalize hW:World.drewN W1 _=W2
  have HV:=Lib.hid (HY.out.next (show Below W1.heap.size W1 W2 by rw [← hW]; exact below_drewN (Below.refl _ _) _))
  clear hW cw c0 c1 c2 c3 c4 c5 HY
  obtain ⟨-,⟨-,c0⟩,⟨-,c1⟩,⟨-,c2⟩,⟨-,c3⟩,⟨-,c4⟩,⟨-,c5⟩,-⟩:=HV.out
  skip
  by_cases hs:0 < size
  ·go_wp2_with fail
   refine (HIT.out _ (iR.out.next HV.out.1)).mono ?_
   rintro e w4 ⟨rfl,hb⟩
   have HU:=Lib.hid (HV.out.next hb)
   clear hb c0 c1 c2 c3 c4 c5
   obtain ⟨-,⟨-,c0⟩,⟨-,c1⟩,⟨-,c2⟩,⟨-,c3⟩,⟨-,c4⟩,⟨-,c5⟩,-⟩:=HU.out
   cases hi:(init != 0)
   ·go_wp2_with fail
    go_ret
    exact ⟨by rw [HS.out.2.2.2.2.2.2 rfl,HS.out.2.2.2.2.1 hi,HS.out.2.1 hs,HS.out.1]; rfl,HU.out.1⟩
   ·go_wp2_with fail
    refine (zu.out _ (iR.out.next HU.out.1)).mono ?_
    rintro e w5 ⟨rfl,hb⟩
    have HT:=Lib.hid (HU.out.next hb)
    clear hb c0 c1 c2 c3 c4 c5
    obtain ⟨-,⟨-,c0⟩,⟨-,c1⟩,⟨-,c2⟩,⟨-,c3⟩,⟨-,c4⟩,⟨-,c5⟩,-⟩:=HT.out
    go_wp2_with fail
    go_ret
    exact ⟨by rw [HS.out.2.2.2.2.2.2 rfl,HS.out.2.2.2.1 hi,HS.out.2.1 hs,HS.out.1]; rfl,HT.out.1⟩
  ·cases hi:(init != 0)
   ·go_wp2_with fail
    go_ret
    exact ⟨by rw [HS.out.2.2.2.2.2.2 rfl,HS.out.2.2.2.2.1 hi,HS.out.2.2.1 hs,HS.out.1]; rfl,HV.out.1⟩
   ·go_wp2_with fail
    refine (zu.out _ (iR.out.next HV.out.1)).mono ?_
    rintro e w5 ⟨rfl,hb⟩
    have HT:=Lib.hid (HV.out.next hb)
    clear hb c0 c1 c2 c3 c4 c5
    obtain ⟨-,⟨-,c0⟩,⟨-,c1⟩,⟨-,c2⟩,⟨-,c3⟩,⟨-,c4⟩,⟨-,c5⟩,-⟩:=HT.out
    go_wp2_with fail
    go_ret
    exact ⟨by rw [HS.out.2.2.2.2.2.2 rfl,HS.out.2.2.2.1 hi,HS.out.2.2.1 hs,HS.out.1]; rfl,HT.out.1⟩
 ·obtain ⟨wd,dL⟩: ∃wd,Hid (pI 5=wd):=⟨_,Lib.hid rfl⟩
  have hwd:wd.size≤11:=by rw [← dL.out]; exact HW.out
  rw [dL.out] at HS
  go_enter Tryz.func30,Tryz.ntmps30
  go_upto_region 1 with fail
  have HZ:=Lib.hid ((Sit.start w).yV (n:=w.heap.size) rfl (.int .i64 5) (.int .i64 line) (.string nm) (.int .i64 size) (.int .i64 init) (.string on) 62)
  generalize hW:World.alloc w _=W
  rw [hW] at HZ
  clear hW
  go_upto_region 2 with fail
  have HY:=Lib.hid (HZ.out.next (ah W (.cells #[.string ⟨#[]⟩,.string ⟨#[118,97,114]⟩,.string ⟨#[118,111,108,97,116,105,108,101]⟩,.string ⟨#[109,117,116,101,120]⟩,.string ⟨#[114,119,108,111,99,107]⟩,.string ⟨#[99,111,110,100]⟩,.string ⟨#[102,117,116,117,114,101]⟩] 9)))
  have dM:=Lib.hid (heap_alloc_new W (.cells #[.string ⟨#[]⟩,.string ⟨#[118,97,114]⟩,.string ⟨#[118,111,108,97,116,105,108,101]⟩,.string ⟨#[109,117,116,101,120]⟩,.string ⟨#[114,119,108,111,99,107]⟩,.string ⟨#[99,111,110,100]⟩,.string ⟨#[102,117,116,117,114,101]⟩] 9))
  generalize hW:World.alloc W _=W1
  rw [hW] at HY dM
  clear hW HZ
  have cw:W1.cell? ⟨W.heap.size,5,none⟩=some (.string wd):=by rw [← dL.out]; exact aG dM.out rfl
  obtain ⟨wb,hwb⟩: ∃g,W.heap.size=g:=⟨_,rfl⟩
  rw [hwb] at cw ⊢
  clear dM hwb HW dL
  obtain ⟨-,⟨-,c0⟩,⟨-,c1⟩,⟨-,c2⟩,⟨-,c3⟩,⟨-,c4⟩,⟨-,c5⟩,-⟩:=HY.out
  go_upto_region 4 with fail
  go_quiet (fail)
  generalize hW:World.drewN W1 _=W2
  have HV:=Lib.hid (HY.out.next (show Below W1.heap.size W1 W2 by rw [← hW]; exact below_drewN (Below.refl _ _) _))
  clear hW cw c0 c1 c2 c3 c4 c5 HY
  obtain ⟨-,⟨-,c0⟩,⟨-,c1⟩,⟨-,c2⟩,⟨-,c3⟩,⟨-,c4⟩,⟨-,c5⟩,-⟩:=HV.out
  skip
  by_cases hs:0 < size
  ·go_wp2_with fail
   refine (HIT.out _ (iR.out.next HV.out.1)).mono ?_
   rintro e w4 ⟨rfl,hb⟩
   have HU:=Lib.hid (HV.out.next hb)
   clear hb c0 c1 c2 c3 c4 c5
   obtain ⟨-,⟨-,c0⟩,⟨-,c1⟩,⟨-,c2⟩,⟨-,c3⟩,⟨-,c4⟩,⟨-,c5⟩,-⟩:=HU.out
   cases hi:(init != 0)
   ·go_wp2_with fail
    go_ret
    exact ⟨by rw [HS.out.2.2.2.2.2.1 rfl,HS.out.2.2.2.2.1 hi,HS.out.2.1 hs,HS.out.1]; rfl,HU.out.1⟩
   ·go_wp2_with fail
    refine (zu.out _ (iR.out.next HU.out.1)).mono ?_
    rintro e w5 ⟨rfl,hb⟩
    have HT:=Lib.hid (HU.out.next hb)
    clear hb c0 c1 c2 c3 c4 c5
    obtain ⟨-,⟨-,c0⟩,⟨-,c1⟩,⟨-,c2⟩,⟨-,c3⟩,⟨-,c4⟩,⟨-,c5⟩,-⟩:=HT.out
    go_wp2_with fail
    go_ret
    exact ⟨by rw [HS.out.2.2.2.2.2.1 rfl,HS.out.2.2.2.1 hi,HS.out.2.1 hs,HS.out.1]; rfl,HT.out.1⟩
  ·cases hi:(init != 0)
   ·go_wp2_with fail
    go_ret
    exact ⟨by rw [HS.out.2.2.2.2.2.1 rfl,HS.out.2.2.2.2.1 hi,HS.out.2.2.1 hs,HS.out.1]; rfl,HV.out.1⟩
   ·go_wp2_with fail
    refine (zu.out _ (iR.out.next HV.out.1)).mono ?_
    rintro e w5 ⟨rfl,hb⟩
    have HT:=Lib.hid (HV.out.next hb)
    clear hb c0 c1 c2 c3 c4 c5
    obtain ⟨-,⟨-,c0⟩,⟨-,c1⟩,⟨-,c2⟩,⟨-,c3⟩,⟨-,c4⟩,⟨-,c5⟩,-⟩:=HT.out
    go_wp2_with fail
    go_ret
    exact ⟨by rw [HS.out.2.2.2.2.2.1 rfl,HS.out.2.2.2.1 hi,HS.out.2.2.1 hs,HS.out.1]; rfl,HT.out.1⟩
 ·obtain ⟨wd,dL⟩: ∃wd,Hid (pI 6=wd):=⟨_,Lib.hid rfl⟩
  have hwd:wd.size≤11:=by rw [← dL.out]; exact HW.out
  rw [dL.out] at HS
  go_enter Tryz.func30,Tryz.ntmps30
  go_upto_region 1 with fail
  have HZ:=Lib.hid ((Sit.start w).yV (n:=w.heap.size) rfl (.int .i64 6) (.int .i64 line) (.string nm) (.int .i64 size) (.int .i64 init) (.string on) 62)
  generalize hW:World.alloc w _=W
  rw [hW] at HZ
  clear hW
  go_upto_region 2 with fail
  have HY:=Lib.hid (HZ.out.next (ah W (.cells #[.string ⟨#[]⟩,.string ⟨#[118,97,114]⟩,.string ⟨#[118,111,108,97,116,105,108,101]⟩,.string ⟨#[109,117,116,101,120]⟩,.string ⟨#[114,119,108,111,99,107]⟩,.string ⟨#[99,111,110,100]⟩,.string ⟨#[102,117,116,117,114,101]⟩] 9)))
  have dM:=Lib.hid (heap_alloc_new W (.cells #[.string ⟨#[]⟩,.string ⟨#[118,97,114]⟩,.string ⟨#[118,111,108,97,116,105,108,101]⟩,.string ⟨#[109,117,116,101,120]⟩,.string ⟨#[114,119,108,111,99,107]⟩,.string ⟨#[99,111,110,100]⟩,.string ⟨#[102,117,116,117,114,101]⟩] 9))
  generalize hW:World.alloc W _=W1
  rw [hW] at HY dM
  clear hW HZ
  have cw:W1.cell? ⟨W.heap.size,6,none⟩=some (.string wd):=by rw [← dL.out]; exact aG dM.out rfl
  obtain ⟨wb,hwb⟩: ∃g,W.heap.size=g:=⟨_,rfl⟩
  rw [hwb] at cw ⊢
  clear dM hwb HW dL
  obtain ⟨-,⟨-,c0⟩,⟨-,c1⟩,⟨-,c2⟩,⟨-,c3⟩,⟨-,c4⟩,⟨-,c5⟩,-⟩:=HY.out
  go_upto_region 4 with fail
  go_quiet (fail)
  generalize hW:World.drewN W1 _=W2
  have HV:=Lib.hid (HY.out.next (show Below W1.heap.size W1 W2 by rw [← hW]; exact below_drewN (Below.refl _ _) _))
  clear hW cw c0 c1 c2 c3 c4 c5 HY
  obtain ⟨-,⟨-,c0⟩,⟨-,c1⟩,⟨-,c2⟩,⟨-,c3⟩,⟨-,c4⟩,⟨-,c5⟩,-⟩:=HV.out
  skip
  by_cases hs:0 < size
  ·go_wp2_with fail
   refine (HIT.out _ (iR.out.next HV.out.1)).mono ?_
   rintro e w4 ⟨rfl,hb⟩
   have HU:=Lib.hid (HV.out.next hb)
   clear hb c0 c1 c2 c3 c4 c5
   obtain ⟨-,⟨-,c0⟩,⟨-,c1⟩,⟨-,c2⟩,⟨-,c3⟩,⟨-,c4⟩,⟨-,c5⟩,-⟩:=HU.out
   cases hi:(init != 0)
   ·go_wp2_with fail
    go_ret
    exact ⟨by rw [HS.out.2.2.2.2.2.2 rfl,HS.out.2.2.2.2.1 hi,HS.out.2.1 hs,HS.out.1]; rfl,HU.out.1⟩
   ·go_wp2_with fail
    refine (zu.out _ (iR.out.next HU.out.1)).mono ?_
    rintro e w5 ⟨rfl,hb⟩
    have HT:=Lib.hid (HU.out.next hb)
    clear hb c0 c1 c2 c3 c4 c5
    obtain ⟨-,⟨-,c0⟩,⟨-,c1⟩,⟨-,c2⟩,⟨-,c3⟩,⟨-,c4⟩,⟨-,c5⟩,-⟩:=HT.out
    go_wp2_with fail
    go_ret
    exact ⟨by rw [HS.out.2.2.2.2.2.2 rfl,HS.out.2.2.2.1 hi,HS.out.2.1 hs,HS.out.1]; rfl,HT.out.1⟩
  ·cases hi:(init != 0)
   ·go_wp2_with fail
    go_ret
    exact ⟨by rw [HS.out.2.2.2.2.2.2 rfl,HS.out.2.2.2.2.1 hi,HS.out.2.2.1 hs,HS.out.1]; rfl,HV.out.1⟩
   ·go_wp2_with fail
    refine (zu.out _ (iR.out.next HV.out.1)).mono ?_
    rintro e w5 ⟨rfl,hb⟩
    have HT:=Lib.hid (HV.out.next hb)
    clear hb c0 c1 c2 c3 c4 c5
    obtain ⟨-,⟨-,c0⟩,⟨-,c1⟩,⟨-,c2⟩,⟨-,c3⟩,⟨-,c4⟩,⟨-,c5⟩,-⟩:=HT.out
    go_wp2_with fail
    go_ret
    exact ⟨by rw [HS.out.2.2.2.2.2.2 rfl,HS.out.2.2.2.1 hi,HS.out.2.2.1 hs,HS.out.1]; rfl,HT.out.1⟩
end Go.Proofs.YtehnipchbmjlhaaGreatDoor
end
section
namespace Go.Proofs.YtehnipchbmjlhaaGreatDoor
open Go.RowKit
open Md Fm
theorem yN {s:ByteArray} (h:Tk.dZ s.data.toList=true):s.size≤12:=by
 unfold Tk.dZ at h
 simp only [Bool.and_eq_true,decide_eq_true_eq] at h
 rw [Lib.size_eq]; exact h.1.1.2
theorem GU {w:World} {B:Nat} : ∀ {l:List De} {ao:Option Addr} {k:Nat},iL w B l ao k→l.all fG=true→(Aa l).size≤1000 * l.length
 | [],_,_,_,_=>Nat.zero_le _
 | d ::r,ao,k,h,hs=>by
   obtain ⟨⟨b,off,e,hB,c0,c1,c2,c3,c4,c5,hok⟩,hr⟩:=h
   rw [List.all_cons,Bool.and_eq_true] at hs
   have h1:=Iq d hok hs.1
   have h2:=GU hr hs.2
   simp only [Aa,ByteArray.size_append,List.length_cons]; omega
theorem Cb: ∀ {l:List ByteArray} (c:Bool),(l.all fun s=>Tk.dZ s.data.toList)=true→(qz c l).size≤14 * l.length
 | [],_,_=>Nat.zero_le _
 | s ::r,c,hs=>by
   rw [List.all_cons,Bool.and_eq_true] at hs
   have h1:=yN hs.1
   have h2:=Cb false hs.2
   have e1:(⟨#[44,32]⟩:ByteArray).size=2:=rfl
   unfold qz
   cases c
   ·simp only [Bool.false_eq_true,if_false,ByteArray.size_append,List.length_cons,e1]; omega
   ·simp only [if_true,ByteArray.size_append,List.length_cons]; omega
theorem Fp {w:World} {B:Nat} {l:aN} {ao:Option Addr} (h:l.At w B ao 0) (hq:jr l≤1000000000000):(jT l 1).size≤2000000000000:=by
 have h1:=xJ 1 h
 have h2:=vC l
 omega
theorem Ri {w:World} {B:Nat} {t:Th} {ao:Option Addr} (h:t.body.At w B ao 0) (hs:jh t=true) (hq:t.bH.length≤10∧jr t.body≤1000000000000):(Fv t).size≤2000000001000:=by
 unfold jh at hs
 simp only [Bool.and_eq_true] at hs
 have h1:=yN hs.1.1
 have h2:=Cb true hs.1.2
 have h3:=Fp h hq.2
 have e1:(⟨#[116,104,114,101,97,100,32]⟩:ByteArray).size=7:=rfl
 have e2:(⟨#[40]⟩:ByteArray).size=1:=rfl
 have e3:(⟨#[41,32,123,10]⟩:ByteArray).size=4:=rfl
 have e4:(⟨#[125,10]⟩:ByteArray).size=2:=rfl
 unfold Fv
 simp only [ByteArray.size_append,e1,e2,e3,e4]; omega
theorem IE {w:World} {B:Nat} : ∀ {l:List Th} {ao:Option Addr} {k:Nat},iI w B l ao k→l.all jh=true→(∀t ∈ l,t.bH.length≤10∧jr t.body≤1000000000000)→(uf l).size≤2000000001000 * l.length
 | [],_,_,_,_,_=>Nat.zero_le _
 | t ::r,ao,k,h,hs,hq=>by
   obtain ⟨⟨b,off,fC,dN,bG,aS,e,hB,c0,c1,c2,c3,hok,htx,Bw,-⟩,hr⟩:=h
   rw [List.all_cons,Bool.and_eq_true] at hs
   have h1:=Ri Bw hs.1 (hq t (List.mem_cons_self ..))
   have h2:=IE hr hs.2 (fun t ht=>hq t (List.mem_cons_of_mem _ ht))
   simp only [uf,ByteArray.size_append,List.length_cons]; omega
def Rl (p:Pr):Prop:=nQ p=true∧p.ts.length≤5∧p.ds.length≤1000∧ ∀t ∈ p.ts,t.bH.length≤10∧jr t.body≤1000000000000
theorem R8 {w:World} {p:Pr} {aH aI:Option Addr} (hat:p.At w aH aI) (h:Rl p):(sM p).size≤11000000000000:=by
 obtain ⟨hs,ht,hd,hw⟩:=h
 unfold nQ at hs
 simp only [Bool.and_eq_true] at hs
 have h1:=GU hat.2.2.1 hs.1.1
 have h2:=IE hat.2.2.2 hs.1.2 hw
 unfold sM
 rw [ByteArray.size_append]; omega
theorem Ig (p:Pr) (w:World) (aH aI:Option Addr) (aC aD:Nat) (hat:p.At w aH aI) (hf:Rl p) (hp:jU w):
 Calls Tryz.prog 10 #[.agg #[.slice aH p.ds.length aC,.slice aI p.ts.length aD]] w fun e w'=>e= .returned (.string (sM p))∧Below w.heap.size w w':=by
 have hld:p.ds.length≤1000:=hf.2.2.1
 have hlt:p.ts.length≤1000:=Nat.le_trans hf.2.1 (by decide)
 have hs1:p.ds.all fG=true∧p.ts.all jh=true:=by
  have:=hf.1; unfold nQ at this; simp only [Bool.and_eq_true] at this; exact this.1
 have jV:=Lib.hid (R8 hat hf)
 have HAT:=Lib.hid hat
 have iR:=Lib.hid hp
 have HST:=Lib.hid (And.intro hs1.2 hf.2.2.2)
 have hsd:=hs1.1
 obtain ⟨res,je⟩: ∃res,Hid (sM p=res):=⟨_,Lib.hid rfl⟩
 rw [je.out] at jV ⊢
 have kQ:Hid (Aa p.ds++uf p.ts=res):=Lib.hid je.out
 clear hat hf hp hs1 je
 go_enter Tryz.func10,Tryz.ntmps10
 go_upto_region 1 with fail
 have HX:=Lib.hid ((Sit.start w).zf (n:=w.heap.size) rfl (.slice aH p.ds.length aC) (.slice aI p.ts.length aD) 26)
 generalize hW:World.alloc w _=W at *
 clear hW
 obtain ⟨-,⟨-,c0⟩,⟨-,c1⟩,-⟩:=HX.out
 go_wp2_with fail
 go_loopw [3,4] (fun s i wr=> ∃(k:Nat) (R:List De) (t:ByteArray),i= .int .i64 k∧s= .string t∧k + R.length=p.ds.length∧(t++Aa R)++uf p.ts=res∧R.all fG=true∧iL wr wr.heap.size R aH k∧Sit w wr [(w.heap.size,0,.slice aH p.ds.length aC),(w.heap.size,1,.slice aI p.ts.length aD)]) (fun _ i _=>p.ds.length - (intOf i).toNat)
 case atStart=>exact ⟨0,p.ds,⟨#[]⟩,rfl,rfl,by simp,by rw [wP]; exact kQ.out,hsd,(HAT.out.same HX.out.1).2.2.1,HX.out⟩
 case round=>
  obtain ⟨k,R,t,rfl,rfl,hlen,heq,hsr,hrow,hsit⟩:=hrel
  have HE:=Lib.hid heq
  have HS:=Lib.hid hsit
  clear hsit heq HX c0 c1 hsd kQ
  obtain ⟨-,⟨-,c0⟩,⟨-,c1⟩,-⟩:=HS.out
  match R,hlen,hsr,hrow,HE with
  | [],hlen,_,_,HE=>
    obtain rfl:k=p.ds.length:=by simpa using hlen
    have HR:Hid (t++uf p.ts=res):=Lib.hid (by have:=HE.out; simp only [Aa] at this; rw [nV] at this; exact this)
    have hth:=(HAT.out.same HS.out.1).2.2.2
    clear hlen HE
    go_wp2_with fail
    go_loopw [3,5] (fun s i wr=> ∃(k:Nat) (R:List Th) (t:ByteArray),i= .int .i64 k∧s= .string t∧k + R.length=p.ts.length∧t++uf R=res∧(R.all jh=true∧ ∀t ∈ R,t.bH.length≤10∧jr t.body≤1000000000000)∧iI wr wr.heap.size R aI k∧Sit w wr [(w.heap.size,0,.slice aH p.ds.length aC),(w.heap.size,1,.slice aI p.ts.length aD)]) (fun _ i _=>p.ts.length - (intOf i).toNat)
    case atStart=>exact ⟨0,p.ts,t,rfl,rfl,by simp,HR.out,HST.out,hth,HS.out⟩
    case round=>
     obtain ⟨k,R,t,rfl,rfl,hlen,heq,hsr,hrow,hsit⟩:=hrel
     have HE:=Lib.hid heq
     have HS:=Lib.hid hsit
     clear hsit heq c0 c1 hth HR
     obtain ⟨-,⟨-,c0⟩,⟨-,c1⟩,-⟩:=HS.out
     match R,hlen,hsr,hrow,HE with
     | [],hlen,_,_,HE=>
       obtain rfl:k=p.ts.length:=by simpa using hlen
       have HR:Hid (t=res):=Lib.hid (by have:=HE.out; simp only [uf] at this; rw [nV] at this; exact this)
       go_wp2_with fail
       go_ret
       exact ⟨by rw [← HR.out]; rfl,HS.out.1⟩
     | th ::R,hlen,hsr,hrow,HE=>
       obtain ⟨⟨bl,off,fC,dN,bG,aS,rfl,hbl,x0,x1,x2,x3,hok,htx,Bw,-⟩,hq1⟩:=hrow
       have KY:=hsr.1
       rw [List.all_cons,Bool.and_eq_true] at KY
       have hsh:=KY.1
       unfold jh at hsh
       simp only [Bool.and_eq_true] at hsh
       have hqq:=hsr.2 th (List.mem_cons_self ..)
       have hnm:=yN hsh.1.1
       have tO:=Lib.hid hsh.1.2
       have hbz:=Fp Bw hqq.2
       have hlz:=Cb true hsh.1.2
       have hts:t.size≤2001000001000000:=by
        have h1:=jV.out
        rw [← HE.out,ByteArray.size_append] at h1
        omega
       have HB:=Lib.hid (fun W hb=>M6 th.body W bG aS 1 hok.2.2.2 hsh.2 (by omega) (Bw.same hb) (iR.out.next (HS.out.1.trans (hb.mono HS.out.1.size))))
       have HR:=Lib.hid (And.intro hq1 (And.intro KY.2 (fun t ht=>hsr.2 t (List.mem_cons_of_mem _ ht))))
       have zB:=Lib.hid htx
       have HLEN:=Lib.hid hlen
       have hkl:k < p.ts.length:=by simp only [List.length_cons] at hlen; omega
       have hll:th.bH.length≤10:=hqq.1
       have HE2:Hid ((t++Fv th)++uf R=res):=Lib.hid (by rw [jW]; exact HE.out)
       unfold Fv at HE2
       clear hsr KY hsh hqq hok htx Bw hq1 hlen HE
       obtain ⟨nm,line,bH,body⟩:=th
       dsimp only at *
       generalize jT body 1=tb at *
       go_upto_region 10 with fail
       have HZ:=Lib.hid (HS.out.qU (n:=wr.heap.size) rfl (.string nm) (.int .i64 line) (.slice fC bH.length dN) (.slice bG body.len aS) 67)
       have xu:=Lib.hid (ah wr (.cells #[.string nm,.int .i64 line,.slice fC bH.length dN,.slice bG body.len aS] 67))
       generalize hW:World.alloc wr _=W at *
       clear hW c0 c1 x0 x1 x2 x3
       obtain ⟨-,⟨-,c0⟩,⟨-,c1⟩,⟨-,c2⟩,⟨-,c3⟩,⟨-,c4⟩,⟨-,c5⟩,-⟩:=HZ.out
       obtain ⟨pt,Yq⟩: ∃pt,Hid (((t++⟨#[116,104,114,101,97,100,32]⟩)++nm)++⟨#[40]⟩=pt∧pt.size≤2001000001000100):=⟨_,Lib.hid ⟨rfl,by
        simp only [ByteArray.size_append,show (⟨#[116,104,114,101,97,100,32]⟩:ByteArray).size=7 from rfl,show (⟨#[40]⟩:ByteArray).size=1 from rfl]; omega⟩⟩
       have HU:Hid (((pt++qz true bH)++⟨#[41,32,123,10]⟩++tb++⟨#[125,10]⟩)++uf R=res):=Lib.hid (by
        rw [← HE2.out,← Yq.out.1]; simp only [jW])
       go_wp2_with fail
       rw [Yq.out.1]
       go_loopw [3,7] (fun s i wq=> ∃(j:Nat) (L:List ByteArray) (a:ByteArray),i= .int .i64 j∧s= .string a∧j + L.length=bH.length∧a++qz (j == 0) L=pt++qz true bH∧(L.all fun s=>Tk.dZ s.data.toList)=true∧iX wq wq.heap.size L fC j∧Below W.heap.size W wq) (fun _ i _=>bH.length - (intOf i).toNat)
       case atStart=>exact ⟨0,bH,pt,rfl,rfl,by simp,rfl,tO.out,zB.out.same xu.out,Below.refl _ _⟩
       case round=>
        obtain ⟨j,L,a,rfl,rfl,hlen,heq,hal,hrow,hbq⟩:=hrel
        have HQ:=Lib.hid heq
        have Yf:=Lib.hid (HZ.out.next hbq)
        have BH:=Lib.hid hbq
        clear heq hbq c0 c1 c2 c3 c4 c5
        obtain ⟨-,⟨-,c0⟩,⟨-,c1⟩,⟨-,c2⟩,⟨-,c3⟩,⟨-,c4⟩,⟨-,c5⟩,-⟩:=Yf.out
        have has:a.size≤2001000001000300:=by
         have h1:=congrArg ByteArray.size HQ.out
         simp only [ByteArray.size_append] at h1
         have h2:=Yq.out.2
         omega
        match L,hlen,hal,hrow,HQ with
        | [],hlen,_,_,HQ=>
          obtain rfl:j=bH.length:=by simpa using hlen
          have HR2:Hid (pt++qz true bH=a):=Lib.hid (by have:=HQ.out; simp only [qz] at this; rw [nV] at this; exact this.symm)
          have qo:=Lib.hid (HB.out _ (xu.out.trans (BH.out.mono xu.out.size)))
          go_wp2_with fail
          refine qo.out.mono ?_
          rintro e' w2 ⟨rfl,hb2⟩
          have HB3:=Lib.hid hb2
          clear hb2 c0 c1 c2 c3 c4 c5
          go_wp2_with fail
          go_roundw
          case rel=>exact ⟨k + 1,R,(((a++⟨#[41,32,123,10]⟩)++tb)++⟨#[125,10]⟩),by go_num,rfl,by have:=HLEN.out; simp only [List.length_cons] at this; omega,by rw [← HR2.out]; exact HU.out,HR.out.2,HR.out.1.same (xu.out.trans ((BH.out.trans (HB3.out.mono BH.out.size)).mono xu.out.size)),HS.out.next (xu.out.trans ((BH.out.trans (HB3.out.mono BH.out.size)).mono xu.out.size))⟩
          case measure=>simp [intOf]; omega
        | s ::L,hlen,hal,hrow,HQ=>
          obtain ⟨⟨bl2,off2,rfl,as1,y0,hys⟩,hq2⟩:=hrow
          rw [List.all_cons,Bool.and_eq_true] at hal
          have hsz:=yN hal.1
          have HL2:=Lib.hid (And.intro hq2 hal.2)
          have hjl:j < bH.length:=by simp only [List.length_cons] at hlen; omega
          have SG:=Lib.hid hlen
          clear hal hq2 hlen
          by_cases hj:0 < (j:Int)
          ·have hj0:(j == 0)=false:=by simp; omega
           have qp:Hid (((a++⟨#[44,32]⟩)++s)++qz false L=pt++qz true bH):=Lib.hid (by have:=HQ.out; rw [hj0] at this; simp only [qz,Bool.false_eq_true,if_false] at this; rw [← this]; simp only [jW])
           clear HQ
           go_wp2_with fail
           go_roundw
           case rel=>exact ⟨j + 1,L,(a++⟨#[44,32]⟩)++s,by go_num,rfl,by have:=SG.out; simp only [List.length_cons] at this; omega,qp.out,HL2.out.2,HL2.out.1,BH.out⟩
           case measure=>simp [intOf]; omega
          ·obtain rfl:j=0:=by omega
           have qp:Hid ((a++s)++qz false L=pt++qz true bH):=Lib.hid (by have:=HQ.out; simp only [qz,show ((0:Nat) == 0)=true from rfl,if_true] at this; rw [← this]; simp only [jW])
           clear HQ hj
           rw [Nat.add_zero] at y0
           go_wp2_with fail
           go_roundw
           case rel=>exact ⟨1,L,a++s,rfl,rfl,by have:=SG.out; simp only [List.length_cons] at this; omega,qp.out,HL2.out.2,HL2.out.1,BH.out⟩
           case measure=>simp [intOf]; omega
  | d ::R,hlen,hsr,hrow,HE=>
    obtain ⟨⟨bl,off,rfl,hbl,x0,x1,x2,x3,x4,x5,hok⟩,hq1⟩:=hrow
    rw [List.all_cons,Bool.and_eq_true] at hsr
    have hdz:=Iq d hok hsr.1
    have hts:t.size≤2001000001000000:=by
     have h1:=jV.out
     rw [← HE.out,ByteArray.size_append,ByteArray.size_append] at h1
     omega
    have HC:=Lib.hid (OP d wr hok hsr.1 (iR.out.next HS.out.1))
    have HE2:Hid (((t++BG d)++Aa R)++uf p.ts=res):=Lib.hid (by rw [jW t]; exact HE.out)
    have HR:=Lib.hid (And.intro hq1 hsr.2)
    have HLEN:=Lib.hid hlen
    have hkl:k < p.ds.length:=by simp only [List.length_cons] at hlen; omega
    clear hsr hok hq1 hlen HE
    generalize BG d=td at *
    go_wp2_with fail
    refine HC.out.mono ?_
    rintro e' w2 ⟨rfl,hb2⟩
    have HB3:=Lib.hid hb2
    clear hb2 x0 x1 x2 x3 x4 x5
    go_wp2_with fail
    go_roundw
    case rel=>exact ⟨k + 1,R,t++td,by go_num,rfl,by have:=HLEN.out; simp only [List.length_cons] at this; omega,HE2.out,HR.out.2,HR.out.1.same HB3.out,HS.out.next HB3.out⟩
    case measure=>simp [intOf]; omega
end Go.Proofs.YtehnipchbmjlhaaGreatDoor
end
