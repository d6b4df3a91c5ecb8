/-
  Contract of the printer's decl (printed by gen_fmp.py).
  Contract of the printer's Program.
-/
import Derived.Test.YtehnipchbmjlhaaGreatDoorGFB
set_option linter.unusedSimpArgs false
set_option linter.unusedVariables false
set_option maxHeartbeats 40000000
set_option maxRecDepth 1000000
section
namespace Go.Proofs.YtehnipchbmjlhaaGreatDoor
open Go.RowKit
open Md Fm
theorem YI (n:Int) (h0: -9223372036854775808≤n) (h1:n≤9223372036854775807) (w:World) (ht:kQ w):
 Calls Tryz.prog 60 #[.int .i64 n] w fun e w'=>e= .returned (.string (xR n))∧Below w.heap.size w w':=
 (Tryz.strconv_Itoa n h0 h1 w ht).mono fun _ _ ⟨he,k,os,hw⟩=>⟨he,hw ▸ Lib.below_grow _ w (Nat.le_refl _) k os⟩
theorem JO (k:Int):(A9 k).size≤11:=by
 unfold A9
 simp only [apply_ite ByteArray.size]
 repeat (refine JZ (by decide) ?_)
 decide
theorem Ll {d:De} (h:jv d=true):(1≤d.kind∧d.kind≤6)∧d.nm.size≤12∧d.on.size≤12∧0≤d.size:=by
 unfold jv at h
 simp only [Bool.and_eq_true,decide_eq_true_eq] at h
 obtain ⟨⟨⟨⟨h1,h2⟩,h3⟩,h4,-⟩,-,h5⟩:=h
 refine ⟨⟨h1,h2⟩,?_,?_,h4⟩
 ·unfold Tk.gM at h3
  simp only [Bool.and_eq_true,decide_eq_true_eq] at h3
  rw [Lib.size_eq]; exact h3.1.1.2
 ·unfold jw at h5
  split at h5
  ·unfold Tk.gM at h5
   simp only [Bool.and_eq_true,decide_eq_true_eq] at h5
   rw [Lib.size_eq]; exact h5.1.1.2
  ·rw [Lib.size_eq,List.isEmpty_iff.1 h5]; exact Nat.zero_le _
theorem Fz {c:Prop} [Decidable c] (a b:ByteArray): ∃x,(c→x=a)∧(¬ c→x=b)∧(if c then a else b)=x:=⟨_,fun h=>if_pos h,fun h=>if_neg h,rfl⟩
theorem Pp (d:De) (h:1≤d.kind∧d.kind≤6): ∃s1 s2 s3 s4:ByteArray,s1=(A9 d.kind++⟨#[32]⟩)++d.nm∧(0 < d.size→s2=((s1++⟨#[91]⟩)++xR d.size)++⟨#[93]⟩)∧(¬ 0 < d.size→s2=s1)∧((d.init != 0)=true→s3=(s2++⟨#[32,61,32]⟩)++xR d.init)∧((d.init != 0)=false→s3=s2)∧((d.kind == 5)=true→s4=(s3++⟨#[32]⟩)++d.on)∧((d.kind == 5)=false→s4=s3)∧Jq d=s4++⟨#[59,10]⟩:=by
 obtain ⟨s2,a2,b2,e2⟩:=Fz (c:=0 < d.size) (((((A9 d.kind++⟨#[32]⟩)++d.nm)++⟨#[91]⟩)++xR d.size)++⟨#[93]⟩) ((A9 d.kind++⟨#[32]⟩)++d.nm)
 obtain ⟨s3,a3,b3,e3⟩:=Fz (c:=(d.init != 0)=true) ((s2++⟨#[32,61,32]⟩)++xR d.init) s2
 obtain ⟨s4,a4,b4,e4⟩:=Fz (c:=(d.kind == 5)=true) ((s3++⟨#[32]⟩)++d.on) s3
 refine ⟨_,s2,s3,s4,rfl,a2,b2,a3,fun e=>b3 (by rw [e]; decide),a4,fun e=>b4 (by rw [e]; decide),?_⟩
 unfold Jq
 rw [if_neg (by simp; omega),← e4,← e3,← e2]
theorem Ib (d:De) (hok:d.Ok) (h:jv d=true):(Jq d).size≤1000:=by
 obtain ⟨hk,hn,ho,-⟩:=Ll h
 obtain ⟨s1,s2,s3,s4,e1,a2,b2,a3,b3,a4,b4,e⟩:=Pp d hk
 have hw:=JO d.kind
 have hi1:=wF d.size hok.2.2.2.1
 have hi2:=wF d.init hok.2.2.2.2.1
 have f1:(⟨#[32]⟩:ByteArray).size=1:=rfl
 have f2:(⟨#[91]⟩:ByteArray).size=1:=rfl
 have f3:(⟨#[93]⟩:ByteArray).size=1:=rfl
 have f4:(⟨#[32,61,32]⟩:ByteArray).size=3:=rfl
 have f5:(⟨#[59,10]⟩:ByteArray).size=2:=rfl
 have s1s:s1.size≤30:=by rw [e1]; simp only [ByteArray.size_append,f1]; omega
 have s2s:s2.size≤60:=by
  by_cases hc:0 < d.size
  ·rw [a2 hc]; simp only [ByteArray.size_append,f2,f3]; omega
  ·rw [b2 hc]; omega
 have s3s:s3.size≤90:=by
  cases hc:(d.init != 0)
  ·rw [b3 hc]; omega
  ·rw [a3 hc]; simp only [ByteArray.size_append,f4]; omega
 have s4s:s4.size≤120:=by
  cases hc:(d.kind == 5)
  ·rw [b4 hc]; omega
  ·rw [a4 hc]; simp only [ByteArray.size_append,f1]; omega
 rw [e]; simp only [ByteArray.size_append,f5]; omega
theorem OJ (d:De) (w:World) (hok:d.Ok) (hsh:jv d=true) (hp:kQ w):
 Calls Tryz.prog 30 #[.agg #[.int .i64 d.kind,.int .i64 d.line,.string d.nm,.int .i64 d.size,.int .i64 d.init,.string d.on]] w fun e w'=>e= .returned (.string (Jq d))∧Below w.heap.size w w':=by
 obtain ⟨⟨hk1,hk2⟩,hnm,hon,hsz0⟩:=Ll hsh
 obtain ⟨s1,s2,s3,s4,e1,a2,b2,a3,b3,a4,b4,e⟩:=Pp d ⟨hk1,hk2⟩
 obtain ⟨-,-,-,hI1,hI2,-⟩:=hok
 have hz1:=wF d.size hI1
 have hz2:=wF d.init hI2
 have HW:=Lib.hid (JO d.kind)
 have jr:=Lib.hid hp
 obtain ⟨kind,line,nm,size,init,on⟩:=d
 dsimp only at *
 have HS:=Lib.hid (And.intro e1 (And.intro a2 (And.intro b2 (And.intro a3 (And.intro b3 (And.intro a4 b4))))))
 rw [e]
 clear e e1 a2 b2 a3 b3 a4 b4 hsh hp
 have HIT:=Lib.hid (fun w hp=>YI size hI1.1 hI1.2 w hp)
 have Ae:=Lib.hid (fun w hp=>Cy init hI2.1 hI2.2 w hp)
 clear hI1 hI2
 generalize xR size=tz at *
 generalize xR init=ti at *
 have hc:kind=1∨kind=2∨kind=3∨kind=4∨kind=5∨kind=6:=by omega
 clear hk1 hk2
 rcases hc with rfl | rfl | rfl | rfl | rfl | rfl
 ·obtain ⟨wd,dK⟩: ∃wd,Hid (A9 1=wd):=⟨_,Lib.hid rfl⟩
  have hwd:wd.size≤11:=by rw [← dK.out]; exact HW.out
  rw [dK.out] at HS
  go_enter Tryz.func30,Tryz.ntmps30
  go_upto_region 1 with fail
  have HZ:=Lib.hid ((Sit.start w).Bh (n:=w.heap.size) rfl (.int .i64 1) (.int .i64 line) (.string nm) (.int .i64 size) (.int .i64 init) (.string on) 62)
  generalize hW:World.alloc w _=W
  rw [hW] at HZ
  clear hW
  go_upto_region 2 with fail
  have HY:=Lib.hid (HZ.out.next (ah W (.cells #[.string ⟨#[]⟩,.string ⟨#[118,97,114]⟩,.string ⟨#[118,111,108,97,116,105,108,101]⟩,.string ⟨#[109,117,116,101,120]⟩,.string ⟨#[114,119,108,111,99,107]⟩,.string ⟨#[99,111,110,100]⟩,.string ⟨#[102,117,116,117,114,101]⟩] 9)))
  have dM:=Lib.hid (heap_alloc_new W (.cells #[.string ⟨#[]⟩,.string ⟨#[118,97,114]⟩,.string ⟨#[118,111,108,97,116,105,108,101]⟩,.string ⟨#[109,117,116,101,120]⟩,.string ⟨#[114,119,108,111,99,107]⟩,.string ⟨#[99,111,110,100]⟩,.string ⟨#[102,117,116,117,114,101]⟩] 9))
  generalize hW:World.alloc W _=W1
  rw [hW] at HY dM
  clear hW HZ
  have cw:W1.cell? ⟨W.heap.size,1,none⟩=some (.string wd):=by rw [← dK.out]; exact aj dM.out rfl
  obtain ⟨wb,hwb⟩: ∃g,W.heap.size=g:=⟨_,rfl⟩
  rw [hwb] at cw ⊢
  clear dM hwb HW dK
  obtain ⟨-,⟨-,c0⟩,⟨-,c1⟩,⟨-,c2⟩,⟨-,c3⟩,⟨-,c4⟩,⟨-,c5⟩,-⟩:=HY.out
  go_upto_region 4 with fail
  go_quiet (fail)
  generalize hW:World.drewN W1 _=W2
  have HV:=Lib.hid (HY.out.next (show Below W1.heap.size W1 W2 by rw [← hW]; exact below_drewN (Below.refl _ _) _))
  clear hW cw c0 c1 c2 c3 c4 c5 HY
  obtain ⟨-,⟨-,c0⟩,⟨-,c1⟩,⟨-,c2⟩,⟨-,c3⟩,⟨-,c4⟩,⟨-,c5⟩,-⟩:=HV.out
  skip
  by_cases hs:0 < size
  ·go_wp2_with fail
   refine (HIT.out _ (jr.out.next HV.out.1)).mono ?_
   rintro e w4 ⟨rfl,hb⟩
   have HU:=Lib.hid (HV.out.next hb)
   clear hb c0 c1 c2 c3 c4 c5
   obtain ⟨-,⟨-,c0⟩,⟨-,c1⟩,⟨-,c2⟩,⟨-,c3⟩,⟨-,c4⟩,⟨-,c5⟩,-⟩:=HU.out
   cases hi:(init != 0)
   ·go_wp2_with fail
    go_ret
    exact ⟨by rw [HS.out.2.2.2.2.2.2 rfl,HS.out.2.2.2.2.1 hi,HS.out.2.1 hs,HS.out.1]; rfl,HU.out.1⟩
   ·go_wp2_with fail
    refine (Ae.out _ (jr.out.next HU.out.1)).mono ?_
    rintro e w5 ⟨rfl,hb⟩
    have HT:=Lib.hid (HU.out.next hb)
    clear hb c0 c1 c2 c3 c4 c5
    obtain ⟨-,⟨-,c0⟩,⟨-,c1⟩,⟨-,c2⟩,⟨-,c3⟩,⟨-,c4⟩,⟨-,c5⟩,-⟩:=HT.out
    go_wp2_with fail
    go_ret
    exact ⟨by rw [HS.out.2.2.2.2.2.2 rfl,HS.out.2.2.2.1 hi,HS.out.2.1 hs,HS.out.1]; rfl,HT.out.1⟩
  ·cases hi:(init != 0)
   ·go_wp2_with fail
    go_ret
    exact ⟨by rw [HS.out.2.2.2.2.2.2 rfl,HS.out.2.2.2.2.1 hi,HS.out.2.2.1 hs,HS.out.1]; rfl,HV.out.1⟩
   ·go_wp2_with fail
    refine (Ae.out _ (jr.out.next HV.out.1)).mono ?_
    rintro e w5 ⟨rfl,hb⟩
    have HT:=Lib.hid (HV.out.next hb)
    clear hb c0 c1 c2 c3 c4 c5
    obtain ⟨-,⟨-,c0⟩,⟨-,c1⟩,⟨-,c2⟩,⟨-,c3⟩,⟨-,c4⟩,⟨-,c5⟩,-⟩:=HT.out
    go_wp2_with fail
    go_ret
    exact ⟨by rw [HS.out.2.2.2.2.2.2 rfl,HS.out.2.2.2.1 hi,HS.out.2.2.1 hs,HS.out.1]; rfl,HT.out.1⟩
 ·obtain ⟨wd,dK⟩: ∃wd,Hid (A9 2=wd):=⟨_,Lib.hid rfl⟩
  have hwd:wd.size≤11:=by rw [← dK.out]; exact HW.out
  rw [dK.out] at HS
  go_enter Tryz.func30,Tryz.ntmps30
  go_upto_region 1 with fail
  have HZ:=Lib.hid ((Sit.start w).Bh (n:=w.heap.size) rfl (.int .i64 2) (.int .i64 line) (.string nm) (.int .i64 size) (.int .i64 init) (.string on) 62)
  generalize hW:World.alloc w _=W
  rw [hW] at HZ
  clear hW
  go_upto_region 2 with fail
  have HY:=Lib.hid (HZ.out.next (ah W (.cells #[.string ⟨#[]⟩,.string ⟨#[118,97,114]⟩,.string ⟨#[118,111,108,97,116,105,108,101]⟩,.string ⟨#[109,117,116,101,120]⟩,.string ⟨#[114,119,108,111,99,107]⟩,.string ⟨#[99,111,110,100]⟩,.string ⟨#[102,117,116,117,114,101]⟩] 9)))
  have dM:=Lib.hid (heap_alloc_new W (.cells #[.string ⟨#[]⟩,.string ⟨#[118,97,114]⟩,.string ⟨#[118,111,108,97,116,105,108,101]⟩,.string ⟨#[109,117,116,101,120]⟩,.string ⟨#[114,119,108,111,99,107]⟩,.string ⟨#[99,111,110,100]⟩,.string ⟨#[102,117,116,117,114,101]⟩] 9))
  generalize hW:World.alloc W _=W1
  rw [hW] at HY dM
  clear hW HZ
  have cw:W1.cell? ⟨W.heap.size,2,none⟩=some (.string wd):=by rw [← dK.out]; exact aj dM.out rfl
  obtain ⟨wb,hwb⟩: ∃g,W.heap.size=g:=⟨_,rfl⟩
  rw [hwb] at cw ⊢
  clear dM hwb HW dK
  obtain ⟨-,⟨-,c0⟩,⟨-,c1⟩,⟨-,c2⟩,⟨-,c3⟩,⟨-,c4⟩,⟨-,c5⟩,-⟩:=HY.out
  go_upto_region 4 with fail
  go_quiet (fail)
  generalize hW:World.drewN W1 _=W2
  have HV:=Lib.hid (HY.out.next (show Below W1.heap.size W1 W2 by rw [← hW]; exact below_drewN (Below.refl _ _) _))
  clear hW cw c0 c1 c2 c3 c4 c5 HY
  obtain ⟨-,⟨-,c0⟩,⟨-,c1⟩,⟨-,c2⟩,⟨-,c3⟩,⟨-,c4⟩,⟨-,c5⟩,-⟩:=HV.out
  skip
  by_cases hs:0 < size
  ·go_wp2_with fail
   refine (HIT.out _ (jr.out.next HV.out.1)).mono ?_
   rintro e w4 ⟨rfl,hb⟩
   have HU:=Lib.hid (HV.out.next hb)
   clear hb c0 c1 c2 c3 c4 c5
   obtain ⟨-,⟨-,c0⟩,⟨-,c1⟩,⟨-,c2⟩,⟨-,c3⟩,⟨-,c4⟩,⟨-,c5⟩,-⟩:=HU.out
   cases hi:(init != 0)
   ·go_wp2_with fail
    go_ret
    exact ⟨by rw [HS.out.2.2.2.2.2.2 rfl,HS.out.2.2.2.2.1 hi,HS.out.2.1 hs,HS.out.1]; rfl,HU.out.1⟩
   ·go_wp2_with fail
    refine (Ae.out _ (jr.out.next HU.out.1)).mono ?_
    rintro e w5 ⟨rfl,hb⟩
    have HT:=Lib.hid (HU.out.next hb)
    clear hb c0 c1 c2 c3 c4 c5
    obtain ⟨-,⟨-,c0⟩,⟨-,c1⟩,⟨-,c2⟩,⟨-,c3⟩,⟨-,c4⟩,⟨-,c5⟩,-⟩:=HT.out
    go_wp2_with fail
    go_ret
    exact ⟨by rw [HS.out.2.2.2.2.2.2 rfl,HS.out.2.2.2.1 hi,HS.out.2.1 hs,HS.out.1]; rfl,HT.out.1⟩
  ·cases hi:(init != 0)
   ·go_wp2_with fail
    go_ret
    exact ⟨by rw [HS.out.2.2.2.2.2.2 rfl,HS.out.2.2.2.2.1 hi,HS.out.2.2.1 hs,HS.out.1]; rfl,HV.out.1⟩
   ·go_wp2_with fail
    refine (Ae.out _ (jr.out.next HV.out.1)).mono ?_
    rintro e w5 ⟨rfl,hb⟩
    have HT:=Lib.hid (HV.out.next hb)
    clear hb c0 c1 c2 c3 c4 c5
    obtain ⟨-,⟨-,c0⟩,⟨-,c1⟩,⟨-,c2⟩,⟨-,c3⟩,⟨-,c4⟩,⟨-,c5⟩,-⟩:=HT.out
    go_wp2_with fail
    go_ret
    exact ⟨by rw [HS.out.2.2.2.2.2.2 rfl,HS.out.2.2.2.1 hi,HS.out.2.2.1 hs,HS.out.1]; rfl,HT.out.1⟩
 ·obtain ⟨wd,dK⟩: ∃wd,Hid (A9 3=wd):=⟨_,Lib.hid rfl⟩
  have hwd:wd.size≤11:=by rw [← dK.out]; exact HW.out
  rw [dK.out] at HS
  go_enter Tryz.func30,Tryz.ntmps30
  go_upto_region 1 with fail
  have HZ:=Lib.hid ((Sit.start w).Bh (n:=w.heap.size) rfl (.int .i64 3) (.int .i64 line) (.string nm) (.int .i64 size) (.int .i64 init) (.string on) 62)
  generalize hW:World.alloc w _=W
  rw [hW] at HZ
  clear hW
  go_upto_region 2 with fail
  have HY:=Lib.hid (HZ.out.next (ah W (.cells #[.string ⟨#[]⟩,.string ⟨#[118,97,114]⟩,.string ⟨#[118,111,108,97,116,105,108,101]⟩,.string ⟨#[109,117,116,101,120]⟩,.string ⟨#[114,119,108,111,99,107]⟩,.string ⟨#[99,111,110,100]⟩,.string ⟨#[102,117,116,117,114,101]⟩] 9)))
  have dM:=Lib.hid (heap_alloc_new W (.cells #[.string ⟨#[]⟩,.string ⟨#[118,97,114]⟩,.string ⟨#[118,111,108,97,116,105,108,101]⟩,.string ⟨#[109,117,116,101,120]⟩,.string ⟨#[114,119,108,111,99,107]⟩,.string ⟨#[99,111,110,100]⟩,.string ⟨#[102,117,116,117,114,101]⟩] 9))
  generalize hW:World.alloc W _=W1
  rw [hW] at HY dM
  clear hW HZ
  have cw:W1.cell? ⟨W.heap.size,3,none⟩=some (.string wd):=by rw [← dK.out]; exact aj dM.out rfl
  obtain ⟨wb,hwb⟩: ∃g,W.heap.size=g:=⟨_,rfl⟩
  rw [hwb] at cw ⊢
  clear dM hwb HW dK
  obtain ⟨-,⟨-,c0⟩,⟨-,c1⟩,⟨-,c2⟩,⟨-,c3⟩,⟨-,c4⟩,⟨-,c5⟩,-⟩:=HY.out
  go_upto_region 4 with fail
  go_quiet (fail)
  generalize hW:World.drewN W1 _=W2
  have HV:=Lib.hid (HY.out.next (show Below W1.heap.size W1 W2 by rw [← hW]; exact below_drewN (Below.refl _ _) _))
  clear hW cw c0 c1 c2 c3 c4 c5 HY
  obtain ⟨-,⟨-,c0⟩,⟨-,c1⟩,⟨-,c2⟩,⟨-,c3⟩,⟨-,c4⟩,⟨-,c5⟩,-⟩:=HV.out
  skip
  by_cases hs:0 < size
  ·go_wp2_with fail
   refine (HIT.out _ (jr.out.next HV.out.1)).mono ?_
   rintro e w4 ⟨rfl,hb⟩
   have HU:=Lib.hid (HV.out.next hb)
   clear hb c0 c1 c2 c3 c4 c5
   obtain ⟨-,⟨-,c0⟩,⟨-,c1⟩,⟨-,c2⟩,⟨-,c3⟩,⟨-,c4⟩,⟨-,c5⟩,-⟩:=HU.out
   cases hi:(init != 0)
   ·go_wp2_with fail
    go_ret
    exact ⟨by rw [HS.out.2.2.2.2.2.2 rfl,HS.out.2.2.2.2.1 hi,HS.out.2.1 hs,HS.out.1]; rfl,HU.out.1⟩
   ·go_wp2_with fail
    refine (Ae.out _ (jr.out.next HU.out.1)).mono ?_
    rintro e w5 ⟨rfl,hb⟩
    have HT:=Lib.hid (HU.out.next hb)
    clear hb c0 c1 c2 c3 c4 c5
    obtain ⟨-,⟨-,c0⟩,⟨-,c1⟩,⟨-,c2⟩,⟨-,c3⟩,⟨-,c4⟩,⟨-,c5⟩,-⟩:=HT.out
    go_wp2_with fail
    go_ret
    exact ⟨by rw [HS.out.2.2.2.2.2.2 rfl,HS.out.2.2.2.1 hi,HS.out.2.1 hs,HS.out.1]; rfl,HT.out.1⟩
  ·cases hi:(init != 0)
   ·go_wp2_with fail
    go_ret
    exact ⟨by rw [HS.out.2.2.2.2.2.2 rfl,HS.out.2.2.2.2.1 hi,HS.out.2.2.1 hs,HS.out.1]; rfl,HV.out.1⟩
   ·go_wp2_with fail
    refine (Ae.out _ (jr.out.next HV.out.1)).mono ?_
    rintro e w5 ⟨rfl,hb⟩
    have HT:=Lib.hid (HV.out.next hb)
    clear hb c0 c1 c2 c3 c4 c5
    obtain ⟨-,⟨-,c0⟩,⟨-,c1⟩,⟨-,c2⟩,⟨-,c3⟩,⟨-,c4⟩,⟨-,c5⟩,-⟩:=HT.out
    go_wp2_with fail
    go_ret
    exact ⟨by rw [HS.out.2.2.2.2.2.2 rfl,HS.out.2.2.2.1 hi,HS.out.2.2.1 hs,HS.out.1]; rfl,HT.out.1⟩
 ·obtain ⟨wd,dK⟩: ∃wd,Hid (A9 4=wd):=⟨_,Lib.hid rfl⟩
  have hwd:wd.size≤11:=by rw [← dK.out]; exact HW.out
  rw [dK.out] at HS
  go_enter Tryz.func30,Tryz.ntmps30
  go_upto_region 1 with fail
  have HZ:=Lib.hid ((Sit.start w).Bh (n:=w.heap.size) rfl (.int .i64 4) (.int .i64 line) (.string nm) (.int .i64 size) (.int .i64 init) (.string on) 62)
  generalize hW:World.alloc w _=W
  rw [hW] at HZ
  clear hW
  go_upto_region 2 with fail
  have HY:=Lib.hid (HZ.out.next (ah W (.cells #[.string ⟨#[]⟩,.string ⟨#[118,97,114]⟩,.string ⟨#[118,111,108,97,116,105,108,101]⟩,.string ⟨#[109,117,116,101,120]⟩,.string ⟨#[114,119,108,111,99,107]⟩,.string ⟨#[99,111,110,100]⟩,.string ⟨#[102,117,116,117,114,101]⟩] 9)))
  have dM:=Lib.hid (heap_alloc_new W (.cells #[.string ⟨#[]⟩,.string ⟨#[118,97,114]⟩,.string ⟨#[118,111,108,97,116,105,108,101]⟩,.string ⟨#[109,117,116,101,120]⟩,.string ⟨#[114,119,108,111,99,107]⟩,.string ⟨#[99,111,110,100]⟩,.string ⟨#[102,117,116,117,114,101]⟩] 9))
  generalize hW:World.alloc W _=W1
  rw [hW] at HY dM
  clear hW HZ
  have cw:W1.cell? ⟨W.heap.size,4,none⟩=some (.string wd):=by rw [← dK.out]; exact aj dM.out rfl
  obtain ⟨wb,hwb⟩: ∃g,W.heap.size=g:=⟨_,rfl⟩
  rw [hwb] at cw ⊢
  clear dM hwb HW dK
  obtain ⟨-,⟨-,c0⟩,⟨-,c1⟩,⟨-,c2⟩,⟨-,c3⟩,⟨-,c4⟩,⟨-,c5⟩,-⟩:=HY.out
  go_upto_region 4 with fail
  go_quiet (fail)
  generalize hW:World.drewN W1 _=W2
  have HV:=Lib.hid (HY.out.next (show Below W1.heap.size W1 W2 by rw [← hW]; exact below_drewN (Below.refl _ _) _))
  clear hW cw c0 c1 c2 c3 c4 c5 HY
  obtain ⟨-,⟨-,c0⟩,⟨-,c1⟩,⟨-,c2⟩,⟨-,c3⟩,⟨-,c4⟩,⟨-,c5⟩,-⟩:=HV.out
  skip
  by_cases hs:0 < size
  ·go_wp2_with fail
   refine (HIT.out _ (jr.out.next HV.out.1)).mono ?_
   rintro e w4 ⟨rfl,hb⟩
   have HU:=Lib.hid (HV.out.next hb)
   clear hb c0 c1 c2 c3 c4 c5
   obtain ⟨-,⟨-,c0⟩,⟨-,c1⟩,⟨-,c2⟩,⟨-,c3⟩,⟨-,c4⟩,⟨-,c5⟩,-⟩:=HU.out
   cases hi:(init != 0)
   ·go_wp2_with fail
    go_ret
    exact ⟨by rw [HS.out.2.2.2.2.2.2 rfl,HS.out.2.2.2.2.1 hi,HS.out.2.1 hs,HS.out.1]; rfl,HU.out.1⟩
   ·go_wp2_with fail
    refine (Ae.out _ (jr.out.next HU.out.1)).mono ?_
    rintro e w5 ⟨rfl,hb⟩
    have HT:=Lib.hid (HU.out.next hb)
    clear hb c0 c1 c2 c3 c4 c5
    obtain ⟨-,⟨-,c0⟩,⟨-,c1⟩,⟨-,c2⟩,⟨-,c3⟩,⟨-,c4⟩,⟨-,c5⟩,-⟩:=HT.out
    go_wp2_with fail
    go_ret
    exact ⟨by rw [HS.out.2.2.2.2.2.2 rfl,HS.out.2.2.2.1 hi,HS.out.2.1 hs,HS.out.1]; rfl,HT.out.1⟩
  ·cases hi:(init != 0)
   ·go_wp2_with fail
    go_ret
    exact ⟨by rw [HS.out.2.2.2.2.2.2 rfl,HS.out.2.2.2.2.1 hi,HS.out.2.2.1 hs,HS.out.1]; rfl,HV.out.1⟩
   ·go_wp2_with fail
    refine (Ae.out _ (jr.out.next HV.out.1)).mono ?_
    rintro e w5 ⟨rfl,hb⟩
    have HT:=Lib.hid (HV.out.next hb)
    clear hb c0 c1 c2 c3 c4 c5
    obtain ⟨-,⟨-,c0⟩,⟨-,c1⟩,⟨-,c2⟩,⟨-,c3⟩,⟨-,c4⟩,⟨-,c5⟩,-⟩:=HT.out
    go_wp2_with fail
    go_ret
    exact ⟨by rw [HS.out.2.2.2.2.2.2 rfl,HS.out.2.2.2.1 hi,HS.out.2.2.1 hs,HS.out.1]; rfl,HT.out.1⟩
 ·obtain ⟨wd,dK⟩: ∃wd,Hid (A9 5=wd):=⟨_,Lib.hid rfl⟩
  have hwd:wd.size≤11:=by rw [← dK.out]; exact HW.out
  rw [dK.out] at HS
  go_enter Tryz.func30,Tryz.ntmps30
  go_upto_region 1 with fail
  have HZ:=Lib.hid ((Sit.start w).Bh (n:=w.heap.size) rfl (.int .i64 5) (.int .i64 line) (.string nm) (.int .i64 size) (.int .i64 init) (.string on) 62)
  generalize hW:World.alloc w _=W
  rw [hW] at HZ
  clear hW
  go_upto_region 2 with fail
  have HY:=Lib.hid (HZ.out.next (ah W (.cells #[.string ⟨#[]⟩,.string ⟨#[118,97,114]⟩,.string ⟨#[118,111,108,97,116,105,108,101]⟩,.string ⟨#[109,117,116,101,120]⟩,.string ⟨#[114,119,108,111,99,107]⟩,.string ⟨#[99,111,110,100]⟩,.string ⟨#[102,117,116,117,114,101]⟩] 9)))
  have dM:=Lib.hid (heap_alloc_new W (.cells #[.string ⟨#[]⟩,.string ⟨#[118,97,114]⟩,.string ⟨#[118,111,108,97,116,105,108,101]⟩,.string ⟨#[109,117,116,101,120]⟩,.string ⟨#[114,119,108,111,99,107]⟩,.string ⟨#[99,111,110,100]⟩,.string ⟨#[102,117,116,117,114,101]⟩] 9))
  generalize hW:World.alloc W _=W1
  rw [hW] at HY dM
  clear hW HZ
  have cw:W1.cell? ⟨W.heap.size,5,none⟩=some (.string wd):=by rw [← dK.out]; exact aj dM.out rfl
  obtain ⟨wb,hwb⟩: ∃g,W.heap.size=g:=⟨_,rfl⟩
  rw [hwb] at cw ⊢
  clear dM hwb HW dK
  obtain ⟨-,⟨-,c0⟩,⟨-,c1⟩,⟨-,c2⟩,⟨-,c3⟩,⟨-,c4⟩,⟨-,c5⟩,-⟩:=HY.out
  go_upto_region 4 with fail
  go_quiet (fail)
  generalize hW:World.drewN W1 _=W2
  have HV:=Lib.hid (HY.out.next (show Below W1.heap.size W1 W2 by rw [← hW]; exact below_drewN (Below.refl _ _) _))
  clear hW cw c0 c1 c2 c3 c4 c5 HY
  obtain ⟨-,⟨-,c0⟩,⟨-,c1⟩,⟨-,c2⟩,⟨-,c3⟩,⟨-,c4⟩,⟨-,c5⟩,-⟩:=HV.out
  skip
  by_cases hs:0 < size
  ·go_wp2_with fail
   refine (HIT.out _ (jr.out.next HV.out.1)).mono ?_
   rintro e w4 ⟨rfl,hb⟩
   have HU:=Lib.hid (HV.out.next hb)
   clear hb c0 c1 c2 c3 c4 c5
   obtain ⟨-,⟨-,c0⟩,⟨-,c1⟩,⟨-,c2⟩,⟨-,c3⟩,⟨-,c4⟩,⟨-,c5⟩,-⟩:=HU.out
   cases hi:(init != 0)
   ·go_wp2_with fail
    go_ret
    exact ⟨by rw [HS.out.2.2.2.2.2.1 rfl,HS.out.2.2.2.2.1 hi,HS.out.2.1 hs,HS.out.1]; rfl,HU.out.1⟩
   ·go_wp2_with fail
    refine (Ae.out _ (jr.out.next HU.out.1)).mono ?_
    rintro e w5 ⟨rfl,hb⟩
    have HT:=Lib.hid (HU.out.next hb)
    clear hb c0 c1 c2 c3 c4 c5
    obtain ⟨-,⟨-,c0⟩,⟨-,c1⟩,⟨-,c2⟩,⟨-,c3⟩,⟨-,c4⟩,⟨-,c5⟩,-⟩:=HT.out
    go_wp2_with fail
    go_ret
    exact ⟨by rw [HS.out.2.2.2.2.2.1 rfl,HS.out.2.2.2.1 hi,HS.out.2.1 hs,HS.out.1]; rfl,HT.out.1⟩
  ·cases hi:(init != 0)
   ·go_wp2_with fail
    go_ret
    exact ⟨by rw [HS.out.2.2.2.2.2.1 rfl,HS.out.2.2.2.2.1 hi,HS.out.2.2.1 hs,HS.out.1]; rfl,HV.out.1⟩
   ·go_wp2_with fail
    refine (Ae.out _ (jr.out.next HV.out.1)).mono ?_
    rintro e w5 ⟨rfl,hb⟩
    have HT:=Lib.hid (HV.out.next hb)
    clear hb c0 c1 c2 c3 c4 c5
    obtain ⟨-,⟨-,c0⟩,⟨-,c1⟩,⟨-,c2⟩,⟨-,c3⟩,⟨-,c4⟩,⟨-,c5⟩,-⟩:=HT.out
    go_wp2_with fail
    go_ret
    exact ⟨by rw [HS.out.2.2.2.2.2.1 rfl,HS.out.2.2.2.1 hi,HS.out.2.2.1 hs,HS.out.1]; rfl,HT.out.1⟩
 ·obtain ⟨wd,dK⟩: ∃wd,Hid (A9 6=wd):=⟨_,Lib.hid rfl⟩
  have hwd:wd.size≤11:=by rw [← dK.out]; exact HW.out
  rw [dK.out] at HS
  go_enter Tryz.func30,Tryz.ntmps30
  go_upto_region 1 with fail
  have HZ:=Lib.hid ((Sit.start w).Bh (n:=w.heap.size) rfl (.int .i64 6) (.int .i64 line) (.string nm) (.int .i64 size) (.int .i64 init) (.string on) 62)
  generalize hW:World.alloc w _=W
  rw [hW] at HZ
  clear hW
  go_upto_region 2 with fail
  have HY:=Lib.hid (HZ.out.next (ah W (.cells #[.string ⟨#[]⟩,.string ⟨#[118,97,114]⟩,.string ⟨#[118,111,108,97,116,105,108,101]⟩,.string ⟨#[109,117,116,101,120]⟩,.string ⟨#[114,119,108,111,99,107]⟩,.string ⟨#[99,111,110,100]⟩,.string ⟨#[102,117,116,117,114,101]⟩] 9)))
  have dM:=Lib.hid (heap_alloc_new W (.cells #[.string ⟨#[]⟩,.string ⟨#[118,97,114]⟩,.string ⟨#[118,111,108,97,116,105,108,101]⟩,.string ⟨#[109,117,116,101,120]⟩,.string ⟨#[114,119,108,111,99,107]⟩,.string ⟨#[99,111,110,100]⟩,.string ⟨#[102,117,116,117,114,101]⟩] 9))
  generalize hW:World.alloc W _=W1
  rw [hW] at HY dM
  clear hW HZ
  have cw:W1.cell? ⟨W.heap.size,6,none⟩=some (.string wd):=by rw [← dK.out]; exact aj dM.out rfl
  obtain ⟨wb,hwb⟩: ∃g,W.heap.size=g:=⟨_,rfl⟩
  rw [hwb] at cw ⊢
  clear dM hwb HW dK
  obtain ⟨-,⟨-,c0⟩,⟨-,c1⟩,⟨-,c2⟩,⟨-,c3⟩,⟨-,c4⟩,⟨-,c5⟩,-⟩:=HY.out
  go_upto_region 4 with fail
  go_quiet (fail)
  generalize hW:World.drewN W1 _=W2
  have HV:=Lib.hid (HY.out.next (show Below W1.heap.size W1 W2 by rw [← hW]; exact below_drewN (Below.refl _ _) _))
  clear hW cw c0 c1 c2 c3 c4 c5 HY
  obtain ⟨-,⟨-,c0⟩,⟨-,c1⟩,⟨-,c2⟩,⟨-,c3⟩,⟨-,c4⟩,⟨-,c5⟩,-⟩:=HV.out
  skip
  by_cases hs:0 < size
  ·go_wp2_with fail
   refine (HIT.out _ (jr.out.next HV.out.1)).mono ?_
   rintro e w4 ⟨rfl,hb⟩
   have HU:=Lib.hid (HV.out.next hb)
   clear hb c0 c1 c2 c3 c4 c5
   obtain ⟨-,⟨-,c0⟩,⟨-,c1⟩,⟨-,c2⟩,⟨-,c3⟩,⟨-,c4⟩,⟨-,c5⟩,-⟩:=HU.out
   cases hi:(init != 0)
   ·go_wp2_with fail
    go_ret
    exact ⟨by rw [HS.out.2.2.2.2.2.2 rfl,HS.out.2.2.2.2.1 hi,HS.out.2.1 hs,HS.out.1]; rfl,HU.out.1⟩
   ·go_wp2_with fail
    refine (Ae.out _ (jr.out.next HU.out.1)).mono ?_
    rintro e w5 ⟨rfl,hb⟩
    have HT:=Lib.hid (HU.out.next hb)
    clear hb c0 c1 c2 c3 c4 c5
    obtain ⟨-,⟨-,c0⟩,⟨-,c1⟩,⟨-,c2⟩,⟨-,c3⟩,⟨-,c4⟩,⟨-,c5⟩,-⟩:=HT.out
    go_wp2_with fail
    go_ret
    exact ⟨by rw [HS.out.2.2.2.2.2.2 rfl,HS.out.2.2.2.1 hi,HS.out.2.1 hs,HS.out.1]; rfl,HT.out.1⟩
  ·cases hi:(init != 0)
   ·go_wp2_with fail
    go_ret
    exact ⟨by rw [HS.out.2.2.2.2.2.2 rfl,HS.out.2.2.2.2.1 hi,HS.out.2.2.1 hs,HS.out.1]; rfl,HV.out.1⟩
   ·go_wp2_with fail
    refine (Ae.out _ (jr.out.next HV.out.1)).mono ?_
    rintro e w5 ⟨rfl,hb⟩
    have HT:=Lib.hid (HV.out.next hb)
    clear hb c0 c1 c2 c3 c4 c5
    obtain ⟨-,⟨-,c0⟩,⟨-,c1⟩,⟨-,c2⟩,⟨-,c3⟩,⟨-,c4⟩,⟨-,c5⟩,-⟩:=HT.out
    go_wp2_with fail
    go_ret
    exact ⟨by rw [HS.out.2.2.2.2.2.2 rfl,HS.out.2.2.2.1 hi,HS.out.2.2.1 hs,HS.out.1]; rfl,HT.out.1⟩
end Go.Proofs.YtehnipchbmjlhaaGreatDoor
end
section
namespace Go.Proofs.YtehnipchbmjlhaaGreatDoor
open Go.RowKit
open Md Fm
theorem zP {s:ByteArray} (h:Tk.gM s.data.toList=true):s.size≤12:=by
 unfold Tk.gM at h
 simp only [Bool.and_eq_true,decide_eq_true_eq] at h
 rw [Lib.size_eq]; exact h.1.1.2
theorem IQ {w:World} {B:Nat} : ∀ {l:List De} {ao:Option Addr} {k:Nat},kg w B l ao k→l.all jv=true→(Gm l).size≤1000 * l.length
 | [],_,_,_,_=>Nat.zero_le _
 | d ::r,ao,k,h,hs=>by
   obtain ⟨⟨b,off,e,hB,c0,c1,c2,c3,c4,c5,hok⟩,hr⟩:=h
   rw [List.all_cons,Bool.and_eq_true] at hs
   have h1:=Ib d hok hs.1
   have h2:=IQ hr hs.2
   simp only [Gm,ByteArray.size_append,List.length_cons]; omega
theorem CW: ∀ {l:List ByteArray} (c:Bool),(l.all fun s=>Tk.gM s.data.toList)=true→(vO c l).size≤14 * l.length
 | [],_,_=>Nat.zero_le _
 | s ::r,c,hs=>by
   rw [List.all_cons,Bool.and_eq_true] at hs
   have h1:=zP hs.1
   have h2:=CW false hs.2
   have e1:(⟨#[44,32]⟩:ByteArray).size=2:=rfl
   unfold vO
   cases c
   ·simp only [Bool.false_eq_true,if_false,ByteArray.size_append,List.length_cons,e1]; omega
   ·simp only [if_true,ByteArray.size_append,List.length_cons]; omega
theorem Gs {w:World} {B:Nat} {l:aS} {ao:Option Addr} (h:l.At w B ao 0) (hq:jU l≤1000000000000):(nE l 1).size≤2000000000000:=by
 have h1:=zn 1 h
 have h2:=wE l
 omega
theorem TD {w:World} {B:Nat} {t:Th} {ao:Option Addr} (h:t.body.At w B ao 0) (hs:mW t=true) (hq:t.bZ.length≤10∧jU t.body≤1000000000000):(OW t).size≤2000000001000:=by
 unfold mW at hs
 simp only [Bool.and_eq_true] at hs
 have h1:=zP hs.1.1
 have h2:=CW true hs.1.2
 have h3:=Gs h hq.2
 have e1:(⟨#[116,104,114,101,97,100,32]⟩:ByteArray).size=7:=rfl
 have e2:(⟨#[40]⟩:ByteArray).size=1:=rfl
 have e3:(⟨#[41,32,123,10]⟩:ByteArray).size=4:=rfl
 have e4:(⟨#[125,10]⟩:ByteArray).size=2:=rfl
 unfold OW
 simp only [ByteArray.size_append,e1,e2,e3,e4]; omega
theorem J6 {w:World} {B:Nat} : ∀ {l:List Th} {ao:Option Addr} {k:Nat},jZ w B l ao k→l.all mW=true→(∀t ∈ l,t.bZ.length≤10∧jU t.body≤1000000000000)→(Ai l).size≤2000000001000 * l.length
 | [],_,_,_,_,_=>Nat.zero_le _
 | t ::r,ao,k,h,hs,hq=>by
   obtain ⟨⟨b,off,fP,dn,bC,aV,e,hB,c0,c1,c2,c3,hok,htx,Ao,-⟩,hr⟩:=h
   rw [List.all_cons,Bool.and_eq_true] at hs
   have h1:=TD Ao hs.1 (hq t (List.mem_cons_self ..))
   have h2:=J6 hr hs.2 (fun t ht=>hq t (List.mem_cons_of_mem _ ht))
   simp only [Ai,ByteArray.size_append,List.length_cons]; omega
def RS (p:Pr):Prop:=yx p=true∧p.ts.length≤5∧p.ds.length≤1000∧ ∀t ∈ p.ts,t.bZ.length≤10∧jU t.body≤1000000000000
theorem Ka {w:World} {p:Pr} {bY dV:Option Addr} (hat:p.At w bY dV) (h:RS p):(Q7 p).size≤11000000000000:=by
 obtain ⟨hs,ht,hd,hw⟩:=h
 unfold yx at hs
 simp only [Bool.and_eq_true] at hs
 have h1:=IQ hat.2.2.1 hs.1.1
 have h2:=J6 hat.2.2.2 hs.1.2 hw
 unfold Q7
 rw [ByteArray.size_append]; omega
theorem Ie (p:Pr) (w:World) (bY dV:Option Addr) (bM bW:Nat) (hat:p.At w bY dV) (hf:RS p) (hp:kQ w):
 Calls Tryz.prog 10 #[.agg #[.slice bY p.ds.length bM,.slice dV p.ts.length bW]] w fun e w'=>e= .returned (.string (Q7 p))∧Below w.heap.size w w':=by
 have hld:p.ds.length≤1000:=hf.2.2.1
 have hlt:p.ts.length≤1000:=Nat.le_trans hf.2.1 (by decide)
 have hs1:p.ds.all jv=true∧p.ts.all mW=true:=by
  have:=hf.1; unfold yx at this; simp only [Bool.and_eq_true] at this; exact this.1
 have iD:=Lib.hid (Ka hat hf)
 have HAT:=Lib.hid hat
 have jr:=Lib.hid hp
 have HST:=Lib.hid (And.intro hs1.2 hf.2.2.2)
 have hsd:=hs1.1
 obtain ⟨res,fG⟩: ∃res,Hid (Q7 p=res):=⟨_,Lib.hid rfl⟩
 rw [fG.out] at iD ⊢
 have iX:Hid (Gm p.ds++Ai p.ts=res):=Lib.hid fG.out
 clear hat hf hp hs1 fG
 go_enter Tryz.func10,Tryz.ntmps10
 go_upto_region 1 with fail
 have HX:=Lib.hid ((Sit.start w).FH (n:=w.heap.size) rfl (.slice bY p.ds.length bM) (.slice dV p.ts.length bW) 26)
 generalize hW:World.alloc w _=W at *
 clear hW
 obtain ⟨-,⟨-,c0⟩,⟨-,c1⟩,-⟩:=HX.out
 go_wp2_with fail
 go_loopw [3,4] (fun s i wr=> ∃(k:Nat) (R:List De) (t:ByteArray),i= .int .i64 k∧s= .string t∧k + R.length=p.ds.length∧(t++Gm R)++Ai p.ts=res∧R.all jv=true∧kg wr wr.heap.size R bY k∧Sit w wr [(w.heap.size,0,.slice bY p.ds.length bM),(w.heap.size,1,.slice dV p.ts.length bW)]) (fun _ i _=>p.ds.length - (intOf i).toNat)
 case atStart=>exact ⟨0,p.ds,⟨#[]⟩,rfl,rfl,by simp,by rw [wW]; exact iX.out,hsd,(HAT.out.same HX.out.1).2.2.1,HX.out⟩
 case round=>
  obtain ⟨k,R,t,rfl,rfl,hlen,heq,hsr,hrow,hsit⟩:=hrel
  have HE:=Lib.hid heq
  have HS:=Lib.hid hsit
  clear hsit heq HX c0 c1 hsd iX
  obtain ⟨-,⟨-,c0⟩,⟨-,c1⟩,-⟩:=HS.out
  match R,hlen,hsr,hrow,HE with
  | [],hlen,_,_,HE=>
    obtain rfl:k=p.ds.length:=by simpa using hlen
    have HR:Hid (t++Ai p.ts=res):=Lib.hid (by have:=HE.out; simp only [Gm] at this; rw [oz] at this; exact this)
    have hth:=(HAT.out.same HS.out.1).2.2.2
    clear hlen HE
    go_wp2_with fail
    go_loopw [3,5] (fun s i wr=> ∃(k:Nat) (R:List Th) (t:ByteArray),i= .int .i64 k∧s= .string t∧k + R.length=p.ts.length∧t++Ai R=res∧(R.all mW=true∧ ∀t ∈ R,t.bZ.length≤10∧jU t.body≤1000000000000)∧jZ wr wr.heap.size R dV k∧Sit w wr [(w.heap.size,0,.slice bY p.ds.length bM),(w.heap.size,1,.slice dV p.ts.length bW)]) (fun _ i _=>p.ts.length - (intOf i).toNat)
    case atStart=>exact ⟨0,p.ts,t,rfl,rfl,by simp,HR.out,HST.out,hth,HS.out⟩
    case round=>
     obtain ⟨k,R,t,rfl,rfl,hlen,heq,hsr,hrow,hsit⟩:=hrel
     have HE:=Lib.hid heq
     have HS:=Lib.hid hsit
     clear hsit heq c0 c1 hth HR
     obtain ⟨-,⟨-,c0⟩,⟨-,c1⟩,-⟩:=HS.out
     match R,hlen,hsr,hrow,HE with
     | [],hlen,_,_,HE=>
       obtain rfl:k=p.ts.length:=by simpa using hlen
       have HR:Hid (t=res):=Lib.hid (by have:=HE.out; simp only [Ai] at this; rw [oz] at this; exact this)
       go_wp2_with fail
       go_ret
       exact ⟨by rw [← HR.out]; rfl,HS.out.1⟩
     | th ::R,hlen,hsr,hrow,HE=>
       obtain ⟨⟨bl,off,fP,dn,bC,aV,rfl,hbl,x0,x1,x2,x3,hok,htx,Ao,-⟩,hq1⟩:=hrow
       have Mw:=hsr.1
       rw [List.all_cons,Bool.and_eq_true] at Mw
       have hsh:=Mw.1
       unfold mW at hsh
       simp only [Bool.and_eq_true] at hsh
       have hqq:=hsr.2 th (List.mem_cons_self ..)
       have hnm:=zP hsh.1.1
       have qR:=Lib.hid hsh.1.2
       have hbz:=Gs Ao hqq.2
       have hlz:=CW true hsh.1.2
       have hts:t.size≤2001000001000000:=by
        have h1:=iD.out
        rw [← HE.out,ByteArray.size_append] at h1
        omega
       have HB:=Lib.hid (fun W hb=>MN th.body W bC aV 1 hok.2.2.2 hsh.2 (by omega) (Ao.same hb) (jr.out.next (HS.out.1.trans (hb.mono HS.out.1.size))))
       have HR:=Lib.hid (And.intro hq1 (And.intro Mw.2 (fun t ht=>hsr.2 t (List.mem_cons_of_mem _ ht))))
       have vE:=Lib.hid htx
       have HLEN:=Lib.hid hlen
       have hkl:k < p.ts.length:=by simp only [List.length_cons] at hlen; omega
       have hll:th.bZ.length≤10:=hqq.1
       have HE2:Hid ((t++OW th)++Ai R=res):=Lib.hid (by rw [kP]; exact HE.out)
       unfold OW at HE2
       clear hsr Mw hsh hqq hok htx Ao hq1 hlen HE
       obtain ⟨nm,line,bZ,body⟩:=th
       dsimp only at *
       generalize nE body 1=tb at *
       go_upto_region 10 with fail
       have HZ:=Lib.hid (HS.out.xX (n:=wr.heap.size) rfl (.string nm) (.int .i64 line) (.slice fP bZ.length dn) (.slice bC body.len aV) 67)
       have wu:=Lib.hid (ah wr (.cells #[.string nm,.int .i64 line,.slice fP bZ.length dn,.slice bC body.len aV] 67))
       generalize hW:World.alloc wr _=W at *
       clear hW c0 c1 x0 x1 x2 x3
       obtain ⟨-,⟨-,c0⟩,⟨-,c1⟩,⟨-,c2⟩,⟨-,c3⟩,⟨-,c4⟩,⟨-,c5⟩,-⟩:=HZ.out
       obtain ⟨pt,XO⟩: ∃pt,Hid (((t++⟨#[116,104,114,101,97,100,32]⟩)++nm)++⟨#[40]⟩=pt∧pt.size≤2001000001000100):=⟨_,Lib.hid ⟨rfl,by
        simp only [ByteArray.size_append,show (⟨#[116,104,114,101,97,100,32]⟩:ByteArray).size=7 from rfl,show (⟨#[40]⟩:ByteArray).size=1 from rfl]; omega⟩⟩
       have HU:Hid (((pt++vO true bZ)++⟨#[41,32,123,10]⟩++tb++⟨#[125,10]⟩)++Ai R=res):=Lib.hid (by
        rw [← HE2.out,← XO.out.1]; simp only [kP])
       go_wp2_with fail
       rw [XO.out.1]
       go_loopw [3,7] (fun s i wq=> ∃(j:Nat) (L:List ByteArray) (a:ByteArray),i= .int .i64 j∧s= .string a∧j + L.length=bZ.length∧a++vO (j == 0) L=pt++vO true bZ∧(L.all fun s=>Tk.gM s.data.toList)=true∧mo wq wq.heap.size L fP j∧Below W.heap.size W wq) (fun _ i _=>bZ.length - (intOf i).toNat)
       case atStart=>exact ⟨0,bZ,pt,rfl,rfl,by simp,rfl,qR.out,vE.out.same wu.out,Below.refl _ _⟩
       case round=>
        obtain ⟨j,L,a,rfl,rfl,hlen,heq,hal,hrow,hbq⟩:=hrel
        have HQ:=Lib.hid heq
        have Xo:=Lib.hid (HZ.out.next hbq)
        have CK:=Lib.hid hbq
        clear heq hbq c0 c1 c2 c3 c4 c5
        obtain ⟨-,⟨-,c0⟩,⟨-,c1⟩,⟨-,c2⟩,⟨-,c3⟩,⟨-,c4⟩,⟨-,c5⟩,-⟩:=Xo.out
        have has:a.size≤2001000001000300:=by
         have h1:=congrArg ByteArray.size HQ.out
         simp only [ByteArray.size_append] at h1
         have h2:=XO.out.2
         omega
        match L,hlen,hal,hrow,HQ with
        | [],hlen,_,_,HQ=>
          obtain rfl:j=bZ.length:=by simpa using hlen
          have HR2:Hid (pt++vO true bZ=a):=Lib.hid (by have:=HQ.out; simp only [vO] at this; rw [oz] at this; exact this.symm)
          have qB:=Lib.hid (HB.out _ (wu.out.trans (CK.out.mono wu.out.size)))
          go_wp2_with fail
          refine qB.out.mono ?_
          rintro e' w2 ⟨rfl,hb2⟩
          have HB3:=Lib.hid hb2
          clear hb2 c0 c1 c2 c3 c4 c5
          go_wp2_with fail
          go_roundw
          case rel=>exact ⟨k + 1,R,(((a++⟨#[41,32,123,10]⟩)++tb)++⟨#[125,10]⟩),by go_num,rfl,by have:=HLEN.out; simp only [List.length_cons] at this; omega,by rw [← HR2.out]; exact HU.out,HR.out.2,HR.out.1.same (wu.out.trans ((CK.out.trans (HB3.out.mono CK.out.size)).mono wu.out.size)),HS.out.next (wu.out.trans ((CK.out.trans (HB3.out.mono CK.out.size)).mono wu.out.size))⟩
          case measure=>simp [intOf]; omega
        | s ::L,hlen,hal,hrow,HQ=>
          obtain ⟨⟨nZ,off2,rfl,lD,y0,hys⟩,hq2⟩:=hrow
          rw [List.all_cons,Bool.and_eq_true] at hal
          have hsz:=zP hal.1
          have HL2:=Lib.hid (And.intro hq2 hal.2)
          have hjl:j < bZ.length:=by simp only [List.length_cons] at hlen; omega
          have U5:=Lib.hid hlen
          clear hal hq2 hlen
          by_cases hj:0 < (j:Int)
          ·have hj0:(j == 0)=false:=by simp; omega
           have rJ:Hid (((a++⟨#[44,32]⟩)++s)++vO false L=pt++vO true bZ):=Lib.hid (by have:=HQ.out; rw [hj0] at this; simp only [vO,Bool.false_eq_true,if_false] at this; rw [← this]; simp only [kP])
           clear HQ
           go_wp2_with fail
           go_roundw
           case rel=>exact ⟨j + 1,L,(a++⟨#[44,32]⟩)++s,by go_num,rfl,by have:=U5.out; simp only [List.length_cons] at this; omega,rJ.out,HL2.out.2,HL2.out.1,CK.out⟩
           case measure=>simp [intOf]; omega
          ·obtain rfl:j=0:=by omega
           have rJ:Hid ((a++s)++vO false L=pt++vO true bZ):=Lib.hid (by have:=HQ.out; simp only [vO,show ((0:Nat) == 0)=true from rfl,if_true] at this; rw [← this]; simp only [kP])
           clear HQ hj
           rw [Nat.add_zero] at y0
           go_wp2_with fail
           go_roundw
           case rel=>exact ⟨1,L,a++s,rfl,rfl,by have:=U5.out; simp only [List.length_cons] at this; omega,rJ.out,HL2.out.2,HL2.out.1,CK.out⟩
           case measure=>simp [intOf]; omega
  | d ::R,hlen,hsr,hrow,HE=>
    obtain ⟨⟨bl,off,rfl,hbl,x0,x1,x2,x3,x4,x5,hok⟩,hq1⟩:=hrow
    rw [List.all_cons,Bool.and_eq_true] at hsr
    have hdz:=Ib d hok hsr.1
    have hts:t.size≤2001000001000000:=by
     have h1:=iD.out
     rw [← HE.out,ByteArray.size_append,ByteArray.size_append] at h1
     omega
    have HC:=Lib.hid (OJ d wr hok hsr.1 (jr.out.next HS.out.1))
    have HE2:Hid (((t++Jq d)++Gm R)++Ai p.ts=res):=Lib.hid (by rw [kP t]; exact HE.out)
    have HR:=Lib.hid (And.intro hq1 hsr.2)
    have HLEN:=Lib.hid hlen
    have hkl:k < p.ds.length:=by simp only [List.length_cons] at hlen; omega
    clear hsr hok hq1 hlen HE
    generalize Jq d=td at *
    go_wp2_with fail
    refine HC.out.mono ?_
    rintro e' w2 ⟨rfl,hb2⟩
    have HB3:=Lib.hid hb2
    clear hb2 x0 x1 x2 x3 x4 x5
    go_wp2_with fail
    go_roundw
    case rel=>exact ⟨k + 1,R,t++td,by go_num,rfl,by have:=HLEN.out; simp only [List.length_cons] at this; omega,HE2.out,HR.out.2,HR.out.1.same HB3.out,HS.out.next HB3.out⟩
    case measure=>simp [intOf]; omega
end Go.Proofs.YtehnipchbmjlhaaGreatDoor
end
