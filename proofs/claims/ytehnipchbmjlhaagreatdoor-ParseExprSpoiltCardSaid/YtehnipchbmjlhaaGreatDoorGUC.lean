/-
  The second parser's state; contracts of its methods fail, is, kind.
  Contracts of the second parser's methods is, kind, want, name, number, line.
  Contracts of the second parser's methods kind, want, name, line.
  Contracts of the second parser's methods number, line, binary, word.
  Contracts of the second parser's methods binary, word, declares.
-/
import Derived.Test.YtehnipchbmjlhaaGreatDoorGUB
import Derived.Test.YtehnipchbmjlhaaGreatDoorGRA
import Derived.Test.YtehnipchbmjlhaaGreatDoorGUA
import Derived.Test.YtehnipchbmjlhaaGreatDoorGZB
import Derived.Test.YtehnipchbmjlhaaGreatDoorGMB
section
set_option linter.unusedSimpArgs false
set_option linter.unusedVariables false
namespace Go.Proofs.YtehnipchbmjlhaaGreatDoor
open Go.RowKit
open Md Pz
def N9 (ts:aj) (pos:Nat) (bad:Int):St→Prop
 | .go r=>bad=0∧ts.drop pos=r
 | .bad n=>bad=n∧1≤n∧n≤4097
structure dZ (w:World) (R:Rp) (s:St):Prop where
 blk: ∃(pos:Nat) (bad:Int),pos≤R.ts.length∧N9 R.ts pos bad s∧w.heap[R.br]? =some (.cells #[.slice R.ao R.ts.length R.cap,.int .i64 (pos:Int),.int .i64 bad] 93 (0,0))
 tok:nU w R.B0 R.ts R.ao 0
 ok:uZ R.ts∧R.ts.length≤4096
 tl:I9 R.ts
section
variable {w w':World} {R:Rp} {s:St}
theorem dZ.lt (h:dZ w R s):R.br < w.heap.size:=by obtain ⟨a,b,-,-,h⟩:=h.blk; exact (Array.getElem?_eq_some_iff.1 h).1
theorem N9.mem {ts:aj} {pos:Nat} {bad:Int} (h:N9 ts pos bad s): ∀t ∈ s.toks,t ∈ ts:=by
 cases s with
 | go r=>obtain ⟨-,rfl⟩:=h; exact fun t ht=>List.mem_of_mem_drop ht
 | bad n=>intro t ht; cases ht
theorem dZ.ts (h:dZ w R s):uZ s.toks:=by
 obtain ⟨a,b,-,hs,-⟩:=h.blk
 exact fun t ht=>h.ok.1 t (hs.mem t ht)
theorem dZ.U2 (h:dZ w R s):I9 s.toks:=by
 obtain ⟨a,b,-,hs,-⟩:=h.blk
 exact fun t ht=>h.tl t (hs.mem t ht)
theorem dZ.len (h:dZ w R s):s.toks.length≤4096:=by
 obtain ⟨a,b,-,hs,-⟩:=h.blk
 cases s with
 | go r=>obtain ⟨-,rfl⟩:=hs; have:=h.ok.2; show (R.ts.drop a).length≤_; simp; omega
 | bad n=>exact Nat.zero_le _
theorem dZ.below (h:dZ w R s) (hb:Below w.heap.size w w'):dZ w' R s:=by
 obtain ⟨a,b,h1,h2,h3⟩:=h.blk
 exact ⟨⟨a,b,h1,h2,(hb.block _ h.lt).trans h3⟩,h.tok.below (hb.mono (Nat.le_trans R.b0 (Nat.le_of_lt h.lt))),h.ok,h.tl⟩
theorem dZ.open (h:dZ w R s): ∃(pos:Nat) (bad:Int),(pos≤R.ts.length∧pos≤4096∧R.ts.length≤4096∧R.br < w.heap.size∧R.B0≤R.br)∧Hid (N9 R.ts pos bad s)∧(0≤bad∧bad≤4097)∧w.cell? ⟨R.br,0,none⟩=some (.slice R.ao R.ts.length R.cap)∧w.cell? ⟨R.br,1,none⟩=some (.int .i64 (pos:Int))∧w.cell? ⟨R.br,2,none⟩=some (.int .i64 bad)∧
 w.frozen? ⟨R.br,1,none⟩=false∧w.frozen? ⟨R.br,2,none⟩=false:=by
 obtain ⟨pos,bad,h1,h2,h3⟩:=h.blk
 have:=h.ok.2
 have hl:=h.lt
 have hb:=R.b0
 refine ⟨pos,bad,by omega,Lib.hid h2,?_,ak h3 rfl,ak h3 rfl,ak h3 rfl,aD h3,aD h3⟩
 cases s with
 | go r=>rw [h2.1]; omega
 | bad n=>rw [h2.1]; exact ⟨by have:=h2.2.1; omega,h2.2.2⟩
theorem dZ.bH (h:dZ w R s) {pos:Nat} (hp:w.cell? ⟨R.br,1,none⟩=some (.int .i64 (pos:Int))) (hne:s.toks≠[]):dZ (w.setCell ⟨R.br,1,none⟩ (.int .i64 ((pos:Int) + 1))) R s.bH:=by
 obtain ⟨pos',bad,h1,h2,h3⟩:=h.blk
 have e:pos'=pos:=by
  have:=ak (j:=1) h3 rfl
  rw [hp] at this
  injection this with this; injection this with _ this; omega
 subst e
 cases s with
 | bad n=>exact absurd rfl hne
 | go r=>
   obtain ⟨rfl,hd⟩:=h2
   have hlt:pos' < R.ts.length:=by
    have hne:r≠[]:=hne
    have:=congrArg List.length hd; simp at this
    have:=List.length_pos_iff.2 hne; omega
   refine ⟨⟨pos' + 1,0,hlt,⟨rfl,?_⟩,by rw [aR h3]; rfl⟩,h.tok.below (dX (bU _ _ _) R.b0 (Nat.le_trans R.b0 (Nat.le_of_lt h.lt))),h.ok,h.tl⟩
   rw [← List.drop_drop,hd]; simp
theorem dZ.fail (h:dZ w R s) {n:Int} (hg:s.good=true) (hn:n=bV R.ts s.toks):dZ (w.setCell ⟨R.br,2,none⟩ (.int .i64 n)) R (Pz.fail R.ts s):=by
 obtain ⟨pos,bad,h1,h2,h3⟩:=h.blk
 cases s with
 | bad n=>cases hg
 | go r=>
   refine ⟨⟨pos,n,h1,⟨hn,?_⟩,by rw [aR h3]; rfl⟩,h.tok.below (dX (bU _ _ _) R.b0 (Nat.le_trans R.b0 (Nat.le_of_lt h.lt))),h.ok,h.tl⟩
   have hq: ∀t ∈ R.ts,1≤t.line∧t.line≤4097:=fun t ht=>(h.tl t ht).1
   obtain ⟨-,rfl⟩:=h2
   show 1≤bV R.ts (R.ts.drop pos)∧bV R.ts (R.ts.drop pos)≤4097
   unfold bV
   cases hr:R.ts.drop pos with
   | cons t q=>
     have:=hq t (List.mem_of_mem_drop (by rw [hr]; exact List.mem_cons_self))
     dsimp only; omega
   | nil=>
     dsimp only
     cases hl:R.ts.getLast? with
     | none=>decide
     | some t=>have:=hq t (List.mem_of_getLast? hl); dsimp only; omega
end
theorem AV {R:Rp} {s:St} {w W:World} {n:Int} (h:dZ w R s) (hg:s.good=true) (hb:Below w.heap.size w W) (hn:n=bV R.ts s.toks):
 (Ending.returned (.tuple #[])=Ending.returned (.tuple #[]))∧dZ (W.setCell ⟨R.br,2,none⟩ (.int .i64 n)) R (Pz.fail R.ts s)∧w.grownBy (W.setCell ⟨R.br,2,none⟩ (.int .i64 n)) (some R.br):=
 ⟨rfl,(h.below hb).fail hg hn,cu (aQ hb) (bU _ _ _)⟩
set_option maxRecDepth 100000 in
set_option maxHeartbeats 1000000 in
theorem yU (R:Rp) (s:St) (w:World) (hI:dZ w R s):
 Calls Tryz.prog 54 #[.pointer (some ⟨R.br,0,none⟩)] w fun e w'=>e= .returned (.tuple #[])∧dZ w' R (Pz.fail R.ts s)∧w.grownBy w' (some R.br):=by
 obtain ⟨pos,bad,⟨hp,hp2,hl,hlt,hbr⟩,HS,⟨jq,jm⟩,c0,c1,c2,f1,f2⟩:=hI.open
 have HI:=Lib.hid hI
 clear hI
 cases s with
 | bad n=>
   obtain ⟨rfl,hn1,hn2⟩:=HS.out
   clear HS
   go_enter Tryz.func54,Tryz.ntmps54
   have hb:decide ((0:Int) < bad)=true:=decide_eq_true (by omega)
   go_wp2_with fail
   exact bodyPost_ret (v:= .tuple #[]) (by simp [results,Tryz.results54,go_sem]) rfl ⟨rfl,HI.out,Bp _⟩
 | go r=>
   obtain ⟨rfl,hd⟩:=HS.out
   have HD:=Lib.hid hd
   clear HS hd jq jm
   by_cases hr:R.ts.length≤pos
   ·have HR:Hid (r=[]):=Lib.hid (by rw [← HD.out]; exact List.drop_eq_nil_iff.2 hr)
    have hq:decide (pos < R.ts.length)=false:=by rw [decide_eq_false_iff_not]; omega
    by_cases h0:R.ts.length=0
    ·have HL:Hid ((1:Int)=bV R.ts r):=Lib.hid (by
      have e:R.ts=[]:=List.length_eq_zero_iff.1 h0
      rw [HR.out,e]; simp [bV])
     rw [h0] at c0 hq
     clear h0 hr
     go_enter Tryz.func54,Tryz.ntmps54
     go_upto_region 2 with fail
     go_quiet (fail)
     go_wp2_with fail
     exact bodyPost_end (v:= .tuple #[]) (by simp [results,Tryz.results54,go_sem]) rfl (AV HI.out rfl (below_drewN (Below.refl _ _) _) HL.out)
    ·obtain ⟨n,hn⟩: ∃n,R.ts.length=n + 1:=⟨R.ts.length - 1,by omega⟩
     obtain ⟨t,ht,hlast⟩:=last_at hn
     have HL:Hid ((t.line:Int)=bV R.ts r):=Lib.hid (by rw [HR.out]; simp [bV,hlast])
     have hT':=HI.out.tok.drop n
     rw [Nat.zero_add] at hT'
     obtain ⟨b,off,hao,hb,e0,e1,e2⟩:=wD ht hT'
     rw [hao] at c0
     have h0':decide (0 < R.ts.length)=true:=by rw [decide_eq_true_iff]; omega
     have hw:IntKind.i64.wrap ((R.ts.length:Int) - 1)=(n:Int):=by rw [hn]; rw [show ((n + 1:Nat):Int) - 1=(n:Int) by omega]; exact IntWalk.i64_in _ (by omega)
     have hb0:(0:Int)≤(n:Int):=by omega
     have hb1:(n:Int) < (R.ts.length:Int):=by omega
     clear hT' ht hlast hao e0 e1 hr h0
     have HN:=Lib.hid hn
     have Ep:Hid (b < w.heap.size):=Lib.hid (by omega)
     clear hn hb
     go_enter Tryz.func54,Tryz.ntmps54
     go_upto_region 2 with fail
     go_quiet (fail)
     generalize hW:World.drewN w _=W1
     have HB:Hid (Below w.heap.size w W1):=Lib.hid (by rw [← hW]; exact below_drewN (Below.refl _ _) _)
     clear hW
     have c0:=(HB.out.cell (p:=⟨R.br,0,none⟩) hlt).trans c0
     have c1:=(HB.out.cell (p:=⟨R.br,1,none⟩) hlt).trans c1
     have c2:=(HB.out.cell (p:=⟨R.br,2,none⟩) hlt).trans c2
     have f2:=(HB.out.frozen (p:=⟨R.br,2,none⟩) hlt).trans f2
     have e2:=(HB.out.cell (p:=⟨b,off + n * 3 + 2,none⟩) Ep.out).trans e2
     go_upto_region 5 with fail
     go_still_tail 14,(by kernel_rfl)
     change wpList _ _ _ _ _ (World.drew _)
     go_wp2_with fail
     exact bodyPost_end (v:= .tuple #[]) (by simp [results,Tryz.results54,go_sem]) rfl (AV HI.out rfl (below_drewN HB.out 1) HL.out)
   ·obtain ⟨t,q,hr'⟩: ∃t q,r=t ::q:=by
     cases hrs:r with
     | nil=>rw [hrs] at HD; exact absurd (List.drop_eq_nil_iff.1 HD.out) hr
     | cons t q=>exact ⟨t,q,rfl⟩
    have HL:Hid ((t.line:Int)=bV R.ts r):=Lib.hid (by rw [hr']; rfl)
    have hT':=HI.out.tok.drop pos
    rw [Nat.zero_add] at hT'
    obtain ⟨b,off,hao,hb,e0,e1,e2⟩:=wD (HD.out.trans hr') hT'
    rw [hao] at c0
    have hq:decide (pos < R.ts.length)=true:=by rw [decide_eq_true_iff]; omega
    have hb0:(0:Int)≤(pos:Int):=by omega
    have hb1:(pos:Int) < (R.ts.length:Int):=by omega
    have Ep:Hid (b < w.heap.size):=Lib.hid (by omega)
    clear hT' hao e0 e1 hr hr' hb
    go_enter Tryz.func54,Tryz.ntmps54
    go_upto_region 2 with fail
    go_quiet (fail)
    generalize hW:World.drewN w _=W1
    have HB:Hid (Below w.heap.size w W1):=Lib.hid (by rw [← hW]; exact below_drewN (Below.refl _ _) _)
    clear hW
    have c0:=(HB.out.cell (p:=⟨R.br,0,none⟩) hlt).trans c0
    have c1:=(HB.out.cell (p:=⟨R.br,1,none⟩) hlt).trans c1
    have c2:=(HB.out.cell (p:=⟨R.br,2,none⟩) hlt).trans c2
    have f2:=(HB.out.frozen (p:=⟨R.br,2,none⟩) hlt).trans f2
    have e2:=(HB.out.cell (p:=⟨b,off + pos * 3 + 2,none⟩) Ep.out).trans e2
    go_upto_region 3 with fail
    go_still_tail 12,(by kernel_rfl)
    change wpList _ _ _ _ _ (World.drew _)
    go_wp2_with fail
    exact bodyPost_end (v:= .tuple #[]) (by simp [results,Tryz.results54,go_sem]) rfl (AV HI.out rfl (below_drewN HB.out 1) HL.out)
end Go.Proofs.YtehnipchbmjlhaaGreatDoor
end
section
set_option linter.unusedSimpArgs false
set_option linter.unusedVariables false
namespace Go.Proofs.YtehnipchbmjlhaaGreatDoor
open Go.RowKit
open Md Pz
theorem at_nil (x:List UInt8):at' x []=false:=by simp [at',nextK]
set_option maxRecDepth 100000 in
set_option maxHeartbeats 2000000 in
theorem Ir (R:Rp) (s:St) (w:World) (x:ByteArray) {l:List UInt8} (hx:x.data.toList=l) (hI:dZ w R s):
 Calls Tryz.prog 81 #[.pointer (some ⟨R.br,0,none⟩),.string x] w fun e w'=>e= .returned (.bool (at' l s.toks))∧Below w.heap.size w w':=by
 obtain ⟨pos,bad,⟨hp,hp2,hl,hlt,hbr⟩,HS,⟨jq,jm⟩,c0,c1,c2,f1,f2⟩:=hI.open
 have HI:=Lib.hid hI
 have HX:=Lib.hid (M4 x hx s.toks)
 clear hI hx
 cases s with
 | bad n=>
   obtain ⟨rfl,hn1,hn2⟩:=HS.out
   clear HS
   have hq:(bad == 0)=false:=by rw [beq_eq_false_iff_ne]; omega
   have HA:Hid (at' l (St.bad bad).toks=false):=Lib.hid (at_nil l)
   go_enter Tryz.func81,Tryz.ntmps81
   go_upto_region 1 with fail
   go_quiet (fail)
   go_wp2_with fail
   go_ret
   exact ⟨bG HA.out.symm,below_drewN (Below.refl _ _) _⟩
 | go r=>
   obtain ⟨rfl,hd⟩:=HS.out
   have HD:=Lib.hid hd
   clear HS hd jq jm
   by_cases hr:R.ts.length≤pos
   ·have HR:Hid (at' l r=false):=Lib.hid (by rw [show r=[] by rw [← HD.out]; exact List.drop_eq_nil_iff.2 hr]; exact at_nil l)
    have hq:decide (pos < R.ts.length)=false:=by rw [decide_eq_false_iff_not]; omega
    go_enter Tryz.func81,Tryz.ntmps81
    go_upto_region 1 with fail
    go_quiet (fail)
    go_wp2_with fail
    go_ret
    exact ⟨bG HR.out.symm,below_drewN (Below.refl _ _) _⟩
   ·obtain ⟨t,q,hr'⟩: ∃t q,r=t ::q:=by
     cases hrs:r with
     | nil=>rw [hrs] at HD; exact absurd (List.drop_eq_nil_iff.1 HD.out) hr
     | cons t q=>exact ⟨t,q,rfl⟩
    have hT':=HI.out.tok.drop pos
    rw [Nat.zero_add] at hT'
    obtain ⟨b,off,hao,hb,e0,e1,e2⟩:=wD (HD.out.trans hr') hT'
    rw [hao] at c0
    have hq:decide (pos < R.ts.length)=true:=by rw [decide_eq_true_iff]; omega
    have hb0:(0:Int)≤(pos:Int):=by omega
    have hb1:(pos:Int) < (R.ts.length:Int):=by omega
    have HE:Hid (at' l (St.go r).toks=((((t.kind:Int) == 3) || ((t.kind:Int) == 4)) && ((tx t.text).toList == x.toList))):=Lib.hid (by rw [HX.out,show (St.go r).toks=r from rfl,hr']; rfl)
    generalize at' l (St.go r).toks=res at *
    clear hT' hao e2 hr hr' hb HX
    generalize tx t.text=tt at *
    generalize (t.kind:Int)=kk at *
    cases ht:(tt.toList == x.toList)
    ·have DJ:Hid (res=false):=Lib.hid (by rw [HE.out,ht,Bool.and_false])
     clear HE
     go_enter Tryz.func81,Tryz.ntmps81
     go_upto_region 1 with fail
     go_quiet (fail)
     go_wp2_with fail
     go_ret
     exact ⟨bG DJ.out.symm,below_drewN (Below.refl _ _) _⟩
    ·cases h3:(kk == 3)
     ·have DJ:Hid (res=(kk == 4)):=Lib.hid (by rw [HE.out,ht,h3,Bool.and_true,Bool.false_or])
      clear HE
      cases h4:(kk == 4)
      all_goals
       go_enter Tryz.func81,Tryz.ntmps81
       go_upto_region 1 with fail
       go_quiet (fail)
       go_wp2_with fail
       go_ret
       exact ⟨bG (DJ.out.trans h4).symm,below_drewN (Below.refl _ _) _⟩
     ·have DJ:Hid (res=true):=Lib.hid (by rw [HE.out,ht,h3]; rfl)
      clear HE
      go_enter Tryz.func81,Tryz.ntmps81
      go_upto_region 1 with fail
      go_quiet (fail)
      go_wp2_with fail
      go_ret
      exact ⟨bG DJ.out.symm,below_drewN (Below.refl _ _) _⟩
end Go.Proofs.YtehnipchbmjlhaaGreatDoor
end
section
set_option linter.unusedSimpArgs false
set_option linter.unusedVariables false
namespace Go.Proofs.YtehnipchbmjlhaaGreatDoor
open Go.RowKit
open Md Pz
set_option maxRecDepth 100000 in
set_option maxHeartbeats 2000000 in
theorem CW (R:Rp) (s:St) (w:World) (k:Int) (n:Nat) (hk:k=n) (hn:1≤n) (hI:dZ w R s):
 Calls Tryz.prog 84 #[.pointer (some ⟨R.br,0,none⟩),.int .i64 k] w fun e w'=>e= .returned (.bool (nextK s.toks == n))∧Below w.heap.size w w':=by
 obtain ⟨pos,bad,⟨hp,hp2,hl,hlt,hbr⟩,HS,⟨jq,jm⟩,c0,c1,c2,f1,f2⟩:=hI.open
 have HI:=Lib.hid hI
 have HN0:Hid ((0 == n)=false):=Lib.hid (by rw [beq_eq_false_iff_ne]; omega)
 have HK:=Lib.hid hk
 clear hI hk
 cases s with
 | bad m=>
   obtain ⟨rfl,hn1,hn2⟩:=HS.out
   clear HS
   have hq:(bad == 0)=false:=by rw [beq_eq_false_iff_ne]; omega
   have HA:Hid ((nextK (St.bad bad).toks == n)=false):=HN0
   go_enter Tryz.func84,Tryz.ntmps84
   go_upto_region 1 with fail
   go_quiet (fail)
   go_wp2_with fail
   go_ret
   exact ⟨bG HA.out.symm,below_drewN (Below.refl _ _) _⟩
 | go r=>
   obtain ⟨rfl,hd⟩:=HS.out
   have HD:=Lib.hid hd
   clear HS hd jq jm
   by_cases hr:R.ts.length≤pos
   ·have HR:Hid ((nextK (St.go r).toks == n)=false):=Lib.hid (by rw [show r=[] by rw [← HD.out]; exact List.drop_eq_nil_iff.2 hr]; exact HN0.out)
    have hq:decide (pos < R.ts.length)=false:=by rw [decide_eq_false_iff_not]; omega
    go_enter Tryz.func84,Tryz.ntmps84
    go_upto_region 1 with fail
    go_quiet (fail)
    go_wp2_with fail
    go_ret
    exact ⟨bG HR.out.symm,below_drewN (Below.refl _ _) _⟩
   ·obtain ⟨t,q,hr'⟩: ∃t q,r=t ::q:=by
     cases hrs:r with
     | nil=>rw [hrs] at HD; exact absurd (List.drop_eq_nil_iff.1 HD.out) hr
     | cons t q=>exact ⟨t,q,rfl⟩
    have hT':=HI.out.tok.drop pos
    rw [Nat.zero_add] at hT'
    obtain ⟨b,off,hao,hb,e0,e1,e2⟩:=wD (HD.out.trans hr') hT'
    rw [hao] at c0
    have hq:decide (pos < R.ts.length)=true:=by rw [decide_eq_true_iff]; omega
    have hb0:(0:Int)≤(pos:Int):=by omega
    have hb1:(pos:Int) < (R.ts.length:Int):=by omega
    have HE:Hid ((nextK (St.go r).toks == n)=((t.kind:Int) == k)):=Lib.hid (by rw [HK.out,show (St.go r).toks=r from rfl,hr']; exact pG n (t ::q))
    generalize (nextK (St.go r).toks == n)=res at *
    clear hT' hao e1 e2 hr hr' hb
    generalize (t.kind:Int)=kk at *
    cases h3:(kk == k)
    all_goals
     go_enter Tryz.func84,Tryz.ntmps84
     go_upto_region 1 with fail
     go_quiet (fail)
     go_wp2_with fail
     go_ret
     exact ⟨bG (HE.out.trans h3).symm,below_drewN (Below.refl _ _) _⟩
theorem OT {ts:aj} {l:List UInt8} {s:St} (h:at' l s.toks=true):gu ts l s=s.bH:=by unfold gu; rw [if_pos h]
theorem OD {ts:aj} {l:List UInt8} {s:St} (h:at' l s.toks=false):gu ts l s=Pz.fail ts s:=by unfold gu; rw [if_neg (by rw [h]; decide)]
theorem yB {s:St} {l:List UInt8} (h:at' l s.toks=true):s.toks≠[]:=by
 obtain ⟨t,r,e⟩:=yG h
 rw [e]; exact List.cons_ne_nil _ _
set_option maxRecDepth 100000 in
set_option maxHeartbeats 1000000 in
theorem IE (R:Rp) (s:St) (w:World) (x:ByteArray) {l:List UInt8} (hx:x.data.toList=l) (hI:dZ w R s):
 Calls Tryz.prog 86 #[.pointer (some ⟨R.br,0,none⟩),.string x] w fun e w'=>e= .returned (.tuple #[])∧dZ w' R (gu R.ts l s)∧w.grownBy w' (some R.br):=by
 have HIS:=Lib.hid (Ir R s w x hx hI)
 have HI:=Lib.hid hI
 clear hI hx
 cases h:at' l s.toks
 ·rw [h] at HIS
  rw [OD h]
  go_enter Tryz.func86,Tryz.ntmps86
  go_wp2_with fail
  refine HIS.out.mono ?_
  rintro e w1 ⟨rfl,hb⟩
  have HB:=Lib.hid hb
  clear hb
  go_wp2_with fail
  refine (yU R s _ (HI.out.below HB.out)).mono ?_
  rintro e w2 ⟨rfl,h1,h2⟩
  go_wp2_with fail
  exact bodyPost_ret (v:= .tuple #[]) (by simp [results,Tryz.results86,go_sem]) rfl ⟨rfl,h1,cu (aQ HB.out) h2⟩
 ·rw [h] at HIS
  rw [OT h]
  have nG:=Lib.hid (yB h)
  go_enter Tryz.func86,Tryz.ntmps86
  go_wp2_with fail
  refine HIS.out.mono ?_
  rintro e w1 ⟨rfl,hb⟩
  have HB:=Lib.hid hb
  have HI1:=Lib.hid (HI.out.below hb)
  obtain ⟨pos,bad,⟨hp,hp2,hl,hlt,hbr⟩,HS,⟨jq,jm⟩,c0,c1,c2,f1,f2⟩:=HI1.out.open
  have HC:=Lib.hid c1
  clear hb
  go_wp2_with fail
  exact bodyPost_end (v:= .tuple #[]) (by simp [results,Tryz.results86,go_sem]) rfl ⟨rfl,HI1.out.bH HC.out nG.out,cu (aQ HB.out) (bU _ _ _)⟩
theorem dZ.head {w:World} {R:Rp} {s:St} (h:dZ w R s) {pos:Nat} (hp:w.cell? ⟨R.br,1,none⟩=some (.int .i64 (pos:Int))) (hne:s.toks≠[]):
 pos < R.ts.length∧ ∃b off,R.ao=some ⟨b,off,none⟩∧b < R.B0∧w.cell? ⟨b,off + pos * 3,none⟩=some (.int .i64 ((nextK s.toks:Nat):Int))∧w.cell? ⟨b,off + pos * 3 + 1,none⟩=some (.string (tx (ay s.toks)))∧w.cell? ⟨b,off + pos * 3 + 2,none⟩=some (.int .i64 ((aU s.toks:Nat):Int)):=by
 obtain ⟨pos',bad,h1,h2,h3⟩:=h.blk
 have e:pos'=pos:=by
  have:=ak (j:=1) h3 rfl
  rw [hp] at this
  injection this with this; injection this with _ this; omega
 subst e
 cases s with
 | bad n=>exact absurd rfl hne
 | go r=>
   obtain ⟨-,hd⟩:=h2
   cases r with
   | nil=>exact absurd rfl hne
   | cons t q=>
     have hlt:pos' < R.ts.length:=by
      have:=congrArg List.length hd; simp at this; omega
     have hT:=h.tok.drop pos'
     rw [Nat.zero_add] at hT
     obtain ⟨b,off,hao,hb,e0,e1,e2⟩:=wD hd hT
     exact ⟨hlt,b,off,hao,hb,e0,e1,e2⟩
theorem Od {ts:aj} {s:St} (h:isName s.toks=true):fu ts s=(tx (ay s.toks),s.bH):=by unfold fu; rw [if_pos h]
theorem PY {ts:aj} {s:St} (h:isName s.toks=false):fu ts s=(⟨#[]⟩,Pz.fail ts s):=by unfold fu; rw [if_neg (by rw [h]; decide)]
theorem kne {s:St} {k:Nat} (hk:1≤k) (h:(nextK s.toks == k)=true):s.toks≠[]:=by
 intro e; rw [e] at h
 have h:(0 == k)=true:=h
 rw [beq_iff_eq] at h; omega
def NmR (R:Rp) (w:World) (q:ByteArray × St) (e:Ending) (w':World):Prop:=e= .returned (.string q.1)∧dZ w' R q.2∧w.grownBy w' (some R.br)
set_option maxRecDepth 100000 in
set_option maxHeartbeats 1000000 in
theorem NQ (R:Rp) (s:St) (w:World) (hI:dZ w R s):
 Calls Tryz.prog 83 #[.pointer (some ⟨R.br,0,none⟩)] w (NmR R w (fu R.ts s)):=by
 have HK:=Lib.hid (CW R s w 1 1 rfl (Nat.le_refl _) hI)
 have HI:=Lib.hid hI
 clear hI
 cases h:(nextK s.toks == 1)
 ·rw [h] at HK
  rw [PY h]
  go_enter Tryz.func83,Tryz.ntmps83
  go_wp2_with fail
  refine HK.out.mono ?_
  rintro e w1 ⟨rfl,hb⟩
  have HB:=Lib.hid hb
  clear hb
  go_wp2_with fail
  refine (yU R s _ (HI.out.below HB.out)).mono ?_
  rintro e w2 ⟨rfl,h1,h2⟩
  go_wp2_with fail
  go_ret
  exact ⟨rfl,h1,cu (aQ HB.out) h2⟩
 ·rw [h] at HK
  rw [Od h]
  have nG:=Lib.hid (kne (Nat.le_refl _) h)
  go_enter Tryz.func83,Tryz.ntmps83
  go_wp2_with fail
  refine HK.out.mono ?_
  rintro e w1 ⟨rfl,hb⟩
  have HB:=Lib.hid hb
  have HI1:=Lib.hid (HI.out.below hb)
  obtain ⟨pos,bad,⟨hp,hp2,hl,hlt,hbr⟩,HS,⟨jq,jm⟩,c0,c1,c2,f1,f2⟩:=HI1.out.open
  have HC:=Lib.hid c1
  obtain ⟨hpl,b,off,hao,hbb,e0,e1,e2⟩:=HI1.out.head c1 nG.out
  have HA:=Lib.hid (HI1.out.bH c1 nG.out)
  clear hb c2 f2 e0 e2
  go_upto_region 5 with fail
  generalize hW:World.setCell w1 _ _=W2
  rw [hW] at HA
  have d0:W2.cell? ⟨R.br,0,none⟩=some (.slice (some ⟨b,off,none⟩) R.ts.length R.cap):=by
   obtain ⟨_,_,_,h3⟩:=HA.out.blk
   rw [← hao]; exact ak h3.2 rfl
  have d1:W2.cell? ⟨R.br,1,none⟩=some (.int .i64 ((pos:Int) + 1)):=by
   obtain ⟨p2,b2,-,-,h3⟩:=HI1.out.blk
   rw [← hW]; exact ak (aR h3 _) rfl
  have d2:W2.cell? ⟨b,off + pos * 3 + 1,none⟩=some (.string (tx (ay s.toks))):=by
   rw [← hW]; exact (World.cell?_of_block (a:=⟨b,_,none⟩) (aM w1 ⟨R.br,1,none⟩ _ rfl (by show R.br≠b; omega))).trans e1
  have HG:Hid (w.grownBy W2 (some R.br)):=Lib.hid (by rw [← hW]; exact cu (aQ HB.out) (bU _ _ _))
  have hw:IntKind.i64.wrap ((pos:Int) + 1 - 1)=(pos:Int):=by rw [show (pos:Int) + 1 - 1=(pos:Int) by omega]; exact IntWalk.i64_in _ (by omega)
  have hb0:(0:Int)≤(pos:Int):=by omega
  have hb1:(pos:Int) < (R.ts.length:Int):=by omega
  clear hW c0 c1 f1 e1
  go_quiet (fail)
  go_wp2_with fail
  go_ret
  exact ⟨rfl,HA.out.below (below_drewN (Below.refl _ _) _),cu HG.out (aQ (below_drewN (Below.refl _ _) _))⟩
end Go.Proofs.YtehnipchbmjlhaaGreatDoor
end
section
set_option linter.unusedSimpArgs false
set_option linter.unusedVariables false
namespace Go.Proofs.YtehnipchbmjlhaaGreatDoor
open Go.RowKit
open Md Pz
theorem JH {ts:aj} {s:St} (h:isNum s.toks=true):Ht ts s=(((Tk.val (ay s.toks):Nat):Int),s.bH):=by unfold Ht; rw [if_pos h]
theorem Rm {ts:aj} {s:St} (h:isNum s.toks=false):Ht ts s=(0,Pz.fail ts s):=by unfold Ht; rw [if_neg (by rw [h]; decide)]
theorem Qy {l:List UInt8} (h:(l.isEmpty=false∧l.all Tk.bW=true)∧Tk.jo l=true):qY l=(Tk.val l,true):=by
 unfold qY; rw [h.1.2,h.2,h.1.1]; rfl
theorem MW {w0:World} {R:Rp} {s:St} (h:isNum s.toks=true) (hI:dZ w0 R s) (w:World):
 Calls Tryz.prog 79 #[.string (tx (ay s.toks))] w fun e w'=>e= .returned (.tuple #[.int .i64 ((Tk.val (ay s.toks):Nat):Int),.bool true])∧w=w':=by
 have hsz:(tx (ay s.toks)).size≤maxLen:=by
  obtain ⟨t,r,hr⟩: ∃t r,s.toks=t ::r:=by
   cases hs:s.toks with
   | nil=>rw [hs] at h; exact absurd h (by simp [isNum,nextK])
   | cons t r=>exact ⟨t,r,rfl⟩
  have:=(hI.U2 t (by rw [hr]; simp)).2.2.2
  rw [hr]; show t.text.toArray.size≤_
  unfold maxLen; simp; omega
 have hN:=Ec (tx (ay s.toks)) w hsz
 rw [show (tx (ay s.toks)).data.toList=ay s.toks from by simp [tx],Qy (Ip hI.ts h)] at hN
 exact hN
def NuR (R:Rp) (w:World) (q:Int × St) (e:Ending) (w':World):Prop:=e= .returned (.int .i64 q.1)∧dZ w' R q.2∧w.grownBy w' (some R.br)
set_option maxRecDepth 100000 in
set_option maxHeartbeats 1000000 in
theorem Ri (R:Rp) (s:St) (w:World) (hI:dZ w R s):
 Calls Tryz.prog 85 #[.pointer (some ⟨R.br,0,none⟩)] w (NuR R w (Ht R.ts s)):=by
 have HK:=Lib.hid (CW R s w 2 2 rfl (by decide) hI)
 have HI:=Lib.hid hI
 cases h:(nextK s.toks == 2)
 ·clear hI
  rw [h] at HK
  rw [Rm h]
  go_enter Tryz.func85,Tryz.ntmps85
  go_wp2_with fail
  refine HK.out.mono ?_
  rintro e w1 ⟨rfl,hb⟩
  have HB:=Lib.hid hb
  clear hb
  go_wp2_with fail
  refine (yU R s _ (HI.out.below HB.out)).mono ?_
  rintro e w2 ⟨rfl,h1,h2⟩
  go_wp2_with fail
  go_ret
  exact ⟨rfl,h1,cu (aQ HB.out) h2⟩
 ·have HNB:=Lib.hid (fun w=>MW h hI w)
  clear hI
  rw [h] at HK
  rw [JH h]
  have nG:=Lib.hid (kne (by decide) h)
  generalize ((Tk.val (ay s.toks):Nat):Int)=vv at *
  go_enter Tryz.func85,Tryz.ntmps85
  go_wp2_with fail
  refine HK.out.mono ?_
  rintro e w1 ⟨rfl,hb⟩
  have HB:=Lib.hid hb
  have HI1:=Lib.hid (HI.out.below hb)
  obtain ⟨pos,bad,⟨hp,hp2,hl,hlt,hbr⟩,HS,⟨jq,jm⟩,c0,c1,c2,f1,f2⟩:=HI1.out.open
  have HC:=Lib.hid c1
  obtain ⟨hpl,b,off,hao,hbb,e0,e1,e2⟩:=HI1.out.head c1 nG.out
  have HA:=Lib.hid (HI1.out.bH c1 nG.out)
  clear hb c2 f2 e0 e2
  go_upto_region 5 with fail
  generalize hW:World.setCell w1 _ _=W2
  rw [hW] at HA
  have d0:W2.cell? ⟨R.br,0,none⟩=some (.slice (some ⟨b,off,none⟩) R.ts.length R.cap):=by
   obtain ⟨_,_,_,h3⟩:=HA.out.blk
   rw [← hao]; exact ak h3.2 rfl
  have d1:W2.cell? ⟨R.br,1,none⟩=some (.int .i64 ((pos:Int) + 1)):=by
   obtain ⟨p2,b2,-,-,h3⟩:=HI1.out.blk
   rw [← hW]; exact ak (aR h3 _) rfl
  have d2:W2.cell? ⟨b,off + pos * 3 + 1,none⟩=some (.string (tx (ay s.toks))):=by
   rw [← hW]; exact (World.cell?_of_block (a:=⟨b,_,none⟩) (aM w1 ⟨R.br,1,none⟩ _ rfl (by show R.br≠b; omega))).trans e1
  have HG:Hid (w.grownBy W2 (some R.br)):=Lib.hid (by rw [← hW]; exact cu (aQ HB.out) (bU _ _ _))
  have hw:IntKind.i64.wrap ((pos:Int) + 1 - 1)=(pos:Int):=by rw [show (pos:Int) + 1 - 1=(pos:Int) by omega]; exact IntWalk.i64_in _ (by omega)
  have hb0:(0:Int)≤(pos:Int):=by omega
  have hb1:(pos:Int) < (R.ts.length:Int):=by omega
  clear hW c0 c1 f1 e1
  go_quiet (first | (go_at_call 79; refine uG (HNB.out _)))
  go_wp2_with fail
  go_ret
  exact ⟨rfl,HA.out.below (below_drewN (Below.refl _ _) _),cu HG.out (aQ (below_drewN (Below.refl _ _) _))⟩
end Go.Proofs.YtehnipchbmjlhaaGreatDoor
end
section
set_option linter.unusedSimpArgs false
set_option linter.unusedVariables false
namespace Go.Proofs.YtehnipchbmjlhaaGreatDoor
open Go.RowKit
open Md Pz
def Ld:Array Value:=(wF.map fun x=>Value.string (tx x.1)).toArray
def NY:Array Value:=(wF.map fun x=>Value.int .i64 x.2.1).toArray
def WT:Array Value:=(wF.map fun x=>Value.int .i64 x.2.2).toArray
def CB (w:World) (g:Nat):Prop:=w.heap[g]? =some (.cells Ld 9 (0,0))∧w.heap[g + 1]? =some (.cells NY 3 (0,0))∧w.heap[g + 1 + 1]? =some (.cells WT 3 (0,0))
theorem CB.below {w w':World} {g:Nat} (h:CB w g) (hb:Below w.heap.size w w'):CB w' g:=by
 obtain ⟨h1,h2,h3⟩:=h
 exact ⟨(hb.block _ (Array.getElem?_eq_some_iff.1 h1).1).trans h1,(hb.block _ (Array.getElem?_eq_some_iff.1 h2).1).trans h2,(hb.block _ (Array.getElem?_eq_some_iff.1 h3).1).trans h3⟩
theorem drop_cons {α:Type} {l:List α} {k:Nat} {x:α} {r:List α} (h:l.drop k=x ::r):l[k]? =some x∧l.drop (k + 1)=r:=by
 constructor
 ·have:=congrArg (·[0]?) h; simpa using this
 ·rw [← List.drop_drop,h]; rfl
theorem CB.cells {w:World} {g k:Nat} {x:List UInt8 × Int × Int} (h:CB w g) (hx:wF[k]? =some x):
 w.cell? ⟨g,k,none⟩=some (.string (tx x.1))∧w.cell? ⟨g + 1,k,none⟩=some (.int .i64 x.2.1)∧w.cell? ⟨g + 1 + 1,k,none⟩=some (.int .i64 x.2.2):=
 ⟨ak h.1 (by simp [Ld,hx]),ak h.2.1 (by simp [NY,hx]),ak h.2.2 (by simp [WT,hx])⟩
set_option maxRecDepth 100000 in
set_option maxHeartbeats 2000000 in
theorem KG (R:Rp) (s:St) (w:World) (lv:Int) (hI:dZ w R s):
 Calls Tryz.prog 93 #[.pointer (some ⟨R.br,0,none⟩),.int .i64 lv] w fun e w'=>e= .returned (.int .i64 (opAt lv s.toks))∧Below w.heap.size w w':=by
 have HE:=Lib.hid (YJ lv hI.ts)
 have HI:=Lib.hid hI
 clear hI
 generalize opAt lv s.toks=spec at *
 go_enter Tryz.func93,Tryz.ntmps93
 go_upto_region 4 with fail
 generalize hW:World.alloc (World.alloc (World.alloc w _) _) _=W
 have HB:Hid (Below w.heap.size w W):=Lib.hid (by rw [← hW]; exact ((ah w _).alloc (by simp) _).alloc (by simp <;> omega) _)
 have HT:Hid (CB W w.heap.size):=Lib.hid (by
  rw [← hW]
  refine ⟨?_,?_,?_⟩
  ·rw [heap_alloc_old _ _ (by simp <;> omega),heap_alloc_old _ _ (by simp <;> omega)]; exact heap_alloc_new _ _
  ·rw [heap_alloc_old _ _ (by simp <;> omega)]
   have:=heap_alloc_new (w.alloc (.cells Ld 9)) (.cells NY 3)
   rw [show (w.alloc (.cells Ld 9)).heap.size=w.heap.size + 1 by simp] at this; exact this
  ·have:=heap_alloc_new ((w.alloc (.cells Ld 9)).alloc (.cells NY 3)) (.cells WT 3)
   rw [show ((w.alloc (.cells Ld 9)).alloc (.cells NY 3)).heap.size=w.heap.size + 1 + 1 by simp] at this; exact this)
 clear hW
 go_wp2_with fail
 go_loopw [8] (fun i wr=> ∃(k:Nat) (r:List (List UInt8 × Int × Int)),i= .int .i64 (k:Nat)∧k + r.length=13∧wF.drop k=r∧spec=zK lv s.toks r∧CB wr w.heap.size∧Below w.heap.size w wr) (fun i _=>13 - (intOf i).toNat)
 case atStart=>exact ⟨0,wF,rfl,rfl,rfl,HE.out.symm,HT.out,HB.out⟩
 case round=>
  obtain ⟨k,r,rfl,hlen,hdr,hsp,hat,hbl⟩:=hrel
  have HS:=Lib.hid hsp
  have HD:=Lib.hid hdr
  have HA:=Lib.hid hat
  have HL:=Lib.hid hbl
  clear hsp hdr hat hbl HB HT HE
  cases r with
  | nil=>
    obtain rfl:k=13:=by simpa using hlen
    go_wp2_with fail
    go_ret
    exact ⟨um HS.out.symm,HL.out⟩
  | cons x r=>
    obtain ⟨hx,hdr⟩:=drop_cons HD.out
    obtain ⟨y0,y1,y2⟩:=HA.out.cells hx
    have HD2:=Lib.hid hdr
    have hk:k < 13:=by simp only [List.length_cons] at hlen; omega
    have hb0:(0:Int)≤(k:Int):=by omega
    have hb1:(k:Int) < 13:=by omega
    have HI1:=Lib.hid (HI.out.below HL.out)
    clear hx hdr HD
    cases h1:(x.2.2 == lv)
    ·have HS2:Hid (spec=zK lv s.toks r):=Lib.hid (by
      rw [HS.out]; conv=>lhs; unfold zK
      rw [h1,Bool.false_and,if_neg (by decide)])
     go_wp2_with fail
     go_roundw
     case rel=>exact ⟨k + 1,r,by go_num,by simp only [List.length_cons] at hlen; omega,HD2.out,HS2.out,HA.out,HL.out⟩
     case measure=>simp [intOf]; omega
    ·have HIS:=Lib.hid (Ir R s wr (tx x.1) (l:=x.1) (by simp [tx]) HI1.out)
     have nI:Hid (spec=if at' x.1 s.toks then x.2.1 else zK lv s.toks r):=Lib.hid (by
      rw [HS.out]; conv=>lhs; unfold zK
      rw [h1,Bool.true_and])
     cases h2:at' x.1 s.toks
     ·rw [h2] at HIS nI
      have HS2:Hid (spec=zK lv s.toks r):=Lib.hid (nI.out.trans (if_neg (by decide)))
      clear h2 nI HS
      go_wp2_with fail
      refine HIS.out.mono ?_
      rintro e w2 ⟨rfl,hb⟩
      have HL2:=Lib.hid (HL.out.trans (hb.mono HL.out.size))
      have HA2:=Lib.hid (HA.out.below hb)
      clear hb y0 y1 y2
      go_wp2_with fail
      go_roundw
      case rel=>exact ⟨k + 1,r,by go_num,by simp only [List.length_cons] at hlen; omega,HD2.out,HS2.out,HA2.out,HL2.out⟩
      case measure=>simp [intOf]; omega
     ·rw [h2] at HIS nI
      have HS2:Hid (spec=x.2.1):=Lib.hid (nI.out.trans (if_pos rfl))
      clear h2 nI HS
      go_wp2_with fail
      refine HIS.out.mono ?_
      rintro e w2 ⟨rfl,hb⟩
      have HL2:=Lib.hid (HL.out.trans (hb.mono HL.out.size))
      have HA2:=Lib.hid (HA.out.below hb)
      have y1':=(hb.cell (p:=⟨w.heap.size + 1,k,none⟩) (by have:=(Array.getElem?_eq_some_iff.1 HA.out.2.1).1; exact this)).trans y1
      clear hb y0 y1 y2
      go_wp2_with fail
      go_ret
      exact ⟨um HS2.out.symm,HL2.out⟩
end Go.Proofs.YtehnipchbmjlhaaGreatDoor
end
