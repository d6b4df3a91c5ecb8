/-
  The second parser's state; contracts of its methods fail, is, kind.
  Contracts of the second parser's methods is, kind, want, name, number, line.
  Contracts of the second parser's methods kind, want, name, line.
  Contracts of the second parser's methods number, line, binary, word.
  Contracts of the second parser's methods binary, word, declares.
-/
import Derived.Test.YtehnipchbmjlhaaGreatDoorGUB
import Derived.Test.YtehnipchbmjlhaaGreatDoorGRA
import Derived.Test.YtehnipchbmjlhaaGreatDoorGUA
import Derived.Test.YtehnipchbmjlhaaGreatDoorGZB
import Derived.Test.YtehnipchbmjlhaaGreatDoorGMB
set_option linter.unusedSimpArgs false
set_option linter.unusedVariables false
set_option maxHeartbeats 40000000
set_option maxRecDepth 1000000
section
namespace Go.Proofs.YtehnipchbmjlhaaGreatDoor
open Go.RowKit
open Md Pz
def Nc (ts:ak) (pos:Nat) (bad:Int):St→Prop
 | .go r=>bad=0∧ts.drop pos=r
 | .bad n=>bad=n∧1≤n∧n≤4097
structure bn (w:World) (R:Rp) (s:St):Prop where
 blk: ∃(pos:Nat) (bad:Int),pos≤R.ts.length∧Nc R.ts pos bad s∧w.heap[R.br]? =some (.cells #[.slice R.ao R.ts.length R.cap,.int .i64 (pos:Int),.int .i64 bad] 93 (0,0))
 tok:oI w R.B0 R.ts R.ao 0
 ok:kW R.ts∧R.ts.length≤4096
 tl:CB R.ts
section
variable {w w':World} {R:Rp} {s:St}
theorem bn.lt (h:bn w R s):R.br < w.heap.size:=by obtain ⟨a,b,-,-,h⟩:=h.blk; exact (Array.getElem?_eq_some_iff.1 h).1
theorem Nc.mem {ts:ak} {pos:Nat} {bad:Int} (h:Nc ts pos bad s): ∀t ∈ s.toks,t ∈ ts:=by
 cases s with
 | go r=>obtain ⟨-,rfl⟩:=h; exact fun t ht=>List.mem_of_mem_drop ht
 | bad n=>intro t ht; cases ht
theorem bn.ts (h:bn w R s):kW s.toks:=by
 obtain ⟨a,b,-,hs,-⟩:=h.blk
 exact fun t ht=>h.ok.1 t (hs.mem t ht)
theorem bn.DX (h:bn w R s):CB s.toks:=by
 obtain ⟨a,b,-,hs,-⟩:=h.blk
 exact fun t ht=>h.tl t (hs.mem t ht)
theorem bn.len (h:bn w R s):s.toks.length≤4096:=by
 obtain ⟨a,b,-,hs,-⟩:=h.blk
 cases s with
 | go r=>obtain ⟨-,rfl⟩:=hs; have:=h.ok.2; show (R.ts.drop a).length≤_; simp; omega
 | bad n=>exact Nat.zero_le _
theorem bn.below (h:bn w R s) (hb:Below w.heap.size w w'):bn w' R s:=by
 obtain ⟨a,b,h1,h2,h3⟩:=h.blk
 exact ⟨⟨a,b,h1,h2,(hb.block _ h.lt).trans h3⟩,h.tok.below (hb.mono (Nat.le_trans R.b0 (Nat.le_of_lt h.lt))),h.ok,h.tl⟩
theorem bn.open (h:bn w R s): ∃(pos:Nat) (bad:Int),(pos≤R.ts.length∧pos≤4096∧R.ts.length≤4096∧R.br < w.heap.size∧R.B0≤R.br)∧Hid (Nc R.ts pos bad s)∧(0≤bad∧bad≤4097)∧w.cell? ⟨R.br,0,none⟩=some (.slice R.ao R.ts.length R.cap)∧w.cell? ⟨R.br,1,none⟩=some (.int .i64 (pos:Int))∧w.cell? ⟨R.br,2,none⟩=some (.int .i64 bad)∧
 w.frozen? ⟨R.br,1,none⟩=false∧w.frozen? ⟨R.br,2,none⟩=false:=by
 obtain ⟨pos,bad,h1,h2,h3⟩:=h.blk
 have:=h.ok.2
 have hl:=h.lt
 have hb:=R.b0
 refine ⟨pos,bad,by omega,Lib.hid h2,?_,aj h3 rfl,aj h3 rfl,aj h3 rfl,aF h3,aF h3⟩
 cases s with
 | go r=>rw [h2.1]; omega
 | bad n=>rw [h2.1]; exact ⟨by have:=h2.2.1; omega,h2.2.2⟩
theorem bn.aD (h:bn w R s) {pos:Nat} (hp:w.cell? ⟨R.br,1,none⟩=some (.int .i64 (pos:Int))) (hne:s.toks≠[]):bn (w.setCell ⟨R.br,1,none⟩ (.int .i64 ((pos:Int) + 1))) R s.aD:=by
 obtain ⟨pos',bad,h1,h2,h3⟩:=h.blk
 have e:pos'=pos:=by
  have:=aj (j:=1) h3 rfl
  rw [hp] at this
  injection this with this; injection this with _ this; omega
 subst e
 cases s with
 | bad n=>exact absurd rfl hne
 | go r=>
   obtain ⟨rfl,hd⟩:=h2
   have hlt:pos' < R.ts.length:=by
    have hne:r≠[]:=hne
    have:=congrArg List.length hd; simp at this
    have:=List.length_pos_iff.2 hne; omega
   refine ⟨⟨pos' + 1,0,hlt,⟨rfl,?_⟩,by rw [aW h3]; rfl⟩,h.tok.below (fu (cu _ _ _) R.b0 (Nat.le_trans R.b0 (Nat.le_of_lt h.lt))),h.ok,h.tl⟩
   rw [← List.drop_drop,hd]; simp
theorem bn.fail (h:bn w R s) {n:Int} (hg:s.good=true) (hn:n=bR R.ts s.toks):bn (w.setCell ⟨R.br,2,none⟩ (.int .i64 n)) R (Pz.fail R.ts s):=by
 obtain ⟨pos,bad,h1,h2,h3⟩:=h.blk
 cases s with
 | bad n=>cases hg
 | go r=>
   refine ⟨⟨pos,n,h1,⟨hn,?_⟩,by rw [aW h3]; rfl⟩,h.tok.below (fu (cu _ _ _) R.b0 (Nat.le_trans R.b0 (Nat.le_of_lt h.lt))),h.ok,h.tl⟩
   have hq: ∀t ∈ R.ts,1≤t.line∧t.line≤4097:=fun t ht=>(h.tl t ht).1
   obtain ⟨-,rfl⟩:=h2
   show 1≤bR R.ts (R.ts.drop pos)∧bR R.ts (R.ts.drop pos)≤4097
   unfold bR
   cases hr:R.ts.drop pos with
   | cons t q=>
     have:=hq t (List.mem_of_mem_drop (by rw [hr]; exact List.mem_cons_self))
     dsimp only; omega
   | nil=>
     dsimp only
     cases hl:R.ts.getLast? with
     | none=>decide
     | some t=>have:=hq t (List.mem_of_getLast? hl); dsimp only; omega
end
theorem Bp {R:Rp} {s:St} {w W:World} {n:Int} (h:bn w R s) (hg:s.good=true) (hb:Below w.heap.size w W) (hn:n=bR R.ts s.toks):
 (Ending.returned (.tuple #[])=Ending.returned (.tuple #[]))∧bn (W.setCell ⟨R.br,2,none⟩ (.int .i64 n)) R (Pz.fail R.ts s)∧w.grownBy (W.setCell ⟨R.br,2,none⟩ (.int .i64 n)) (some R.br):=
 ⟨rfl,(h.below hb).fail hg hn,bD (aH hb) (cu _ _ _)⟩
theorem zV (R:Rp) (s:St) (w:World) (hI:bn w R s):
 Calls Tryz.prog 54 #[.pointer (some ⟨R.br,0,none⟩)] w fun e w'=>e= .returned (.tuple #[])∧bn w' R (Pz.fail R.ts s)∧w.grownBy w' (some R.br):=by
 obtain ⟨pos,bad,⟨hp,hp2,hl,hlt,hbr⟩,HS,⟨bL,bK⟩,c0,c1,c2,f1,f2⟩:=hI.open
 have HI:=Lib.hid hI
 clear hI
 cases s with
 | bad n=>
   obtain ⟨rfl,hn1,hn2⟩:=HS.out
   clear HS
   go_enter Tryz.func54,Tryz.ntmps54
   have hb:decide ((0:Int) < bad)=true:=decide_eq_true (by omega)
   go_wp2_with fail
   exact bodyPost_ret (v:= .tuple #[]) (by simp [results,Tryz.results54,go_sem]) rfl ⟨rfl,HI.out,Ca _⟩
 | go r=>
   obtain ⟨rfl,hd⟩:=HS.out
   have HD:=Lib.hid hd
   clear HS hd bL bK
   by_cases hr:R.ts.length≤pos
   ·have HR:Hid (r=[]):=Lib.hid (by rw [← HD.out]; exact List.drop_eq_nil_iff.2 hr)
    have hq:decide (pos < R.ts.length)=false:=by rw [decide_eq_false_iff_not]; omega
    by_cases h0:R.ts.length=0
    ·have HL:Hid ((1:Int)=bR R.ts r):=Lib.hid (by
      have e:R.ts=[]:=List.length_eq_zero_iff.1 h0
      rw [HR.out,e]; simp [bR])
     rw [h0] at c0 hq
     clear h0 hr
     go_enter Tryz.func54,Tryz.ntmps54
     go_upto_region 2 with fail
     go_quiet (fail)
     go_wp2_with fail
     exact bodyPost_end (v:= .tuple #[]) (by simp [results,Tryz.results54,go_sem]) rfl (Bp HI.out rfl (below_drewN (Below.refl _ _) _) HL.out)
    ·obtain ⟨n,hn⟩: ∃n,R.ts.length=n + 1:=⟨R.ts.length - 1,by omega⟩
     obtain ⟨t,ht,hlast⟩:=last_at hn
     have HL:Hid ((t.line:Int)=bR R.ts r):=Lib.hid (by rw [HR.out]; simp [bR,hlast])
     have hT':=HI.out.tok.drop n
     rw [Nat.zero_add] at hT'
     obtain ⟨b,off,hao,hb,e0,e1,e2⟩:=xM ht hT'
     rw [hao] at c0
     have h0':decide (0 < R.ts.length)=true:=by rw [decide_eq_true_iff]; omega
     have hw:IntKind.i64.wrap ((R.ts.length:Int) - 1)=(n:Int):=by rw [hn]; rw [show ((n + 1:Nat):Int) - 1=(n:Int) by omega]; exact IntWalk.i64_in _ (by omega)
     have hb0:(0:Int)≤(n:Int):=by omega
     have hb1:(n:Int) < (R.ts.length:Int):=by omega
     clear hT' ht hlast hao e0 e1 hr h0
     have HN:=Lib.hid hn
     have Bz:Hid (b < w.heap.size):=Lib.hid (by omega)
     clear hn hb
     go_enter Tryz.func54,Tryz.ntmps54
     go_upto_region 2 with fail
     go_quiet (fail)
     generalize hW:World.drewN w _=W1
     have HB:Hid (Below w.heap.size w W1):=Lib.hid (by rw [← hW]; exact below_drewN (Below.refl _ _) _)
     clear hW
     have c0:=(HB.out.cell (p:=⟨R.br,0,none⟩) hlt).trans c0
     have c1:=(HB.out.cell (p:=⟨R.br,1,none⟩) hlt).trans c1
     have c2:=(HB.out.cell (p:=⟨R.br,2,none⟩) hlt).trans c2
     have f2:=(HB.out.frozen (p:=⟨R.br,2,none⟩) hlt).trans f2
     have e2:=(HB.out.cell (p:=⟨b,off + n * 3 + 2,none⟩) Bz.out).trans e2
     go_upto_region 5 with fail
     go_still_tail 14,(by kernel_rfl)
     change wpList _ _ _ _ _ (World.drew _)
     go_wp2_with fail
     exact bodyPost_end (v:= .tuple #[]) (by simp [results,Tryz.results54,go_sem]) rfl (Bp HI.out rfl (below_drewN HB.out 1) HL.out)
   ·obtain ⟨t,q,hr'⟩: ∃t q,r=t ::q:=by
     cases hrs:r with
     | nil=>rw [hrs] at HD; exact absurd (List.drop_eq_nil_iff.1 HD.out) hr
     | cons t q=>exact ⟨t,q,rfl⟩
    have HL:Hid ((t.line:Int)=bR R.ts r):=Lib.hid (by rw [hr']; rfl)
    have hT':=HI.out.tok.drop pos
    rw [Nat.zero_add] at hT'
    obtain ⟨b,off,hao,hb,e0,e1,e2⟩:=xM (HD.out.trans hr') hT'
    rw [hao] at c0
    have hq:decide (pos < R.ts.length)=true:=by rw [decide_eq_true_iff]; omega
    have hb0:(0:Int)≤(pos:Int):=by omega
    have hb1:(pos:Int) < (R.ts.length:Int):=by omega
    have Bz:Hid (b < w.heap.size):=Lib.hid (by omega)
    clear hT' hao e0 e1 hr hr' hb
    go_enter Tryz.func54,Tryz.ntmps54
    go_upto_region 2 with fail
    go_quiet (fail)
    generalize hW:World.drewN w _=W1
    have HB:Hid (Below w.heap.size w W1):=Lib.hid (by rw [← hW]; exact below_drewN (Below.refl _ _) _)
    clear hW
    have c0:=(HB.out.cell (p:=⟨R.br,0,none⟩) hlt).trans c0
    have c1:=(HB.out.cell (p:=⟨R.br,1,none⟩) hlt).trans c1
    have c2:=(HB.out.cell (p:=⟨R.br,2,none⟩) hlt).trans c2
    have f2:=(HB.out.frozen (p:=⟨R.br,2,none⟩) hlt).trans f2
    have e2:=(HB.out.cell (p:=⟨b,off + pos * 3 + 2,none⟩) Bz.out).trans e2
    go_upto_region 3 with fail
    go_still_tail 12,(by kernel_rfl)
    change wpList _ _ _ _ _ (World.drew _)
    go_wp2_with fail
    exact bodyPost_end (v:= .tuple #[]) (by simp [results,Tryz.results54,go_sem]) rfl (Bp HI.out rfl (below_drewN HB.out 1) HL.out)
end Go.Proofs.YtehnipchbmjlhaaGreatDoor
end
section
namespace Go.Proofs.YtehnipchbmjlhaaGreatDoor
open Go.RowKit
open Md Pz
theorem at_nil (x:List UInt8):at' x []=false:=by simp [at',nextK]
theorem nS (R:Rp) (s:St) (w:World) (x:ByteArray) {l:List UInt8} (hx:x.data.toList=l) (hI:bn w R s):
 Calls Tryz.prog 81 #[.pointer (some ⟨R.br,0,none⟩),.string x] w fun e w'=>e= .returned (.bool (at' l s.toks))∧Below w.heap.size w w':=by
 obtain ⟨pos,bad,⟨hp,hp2,hl,hlt,hbr⟩,HS,⟨bL,bK⟩,c0,c1,c2,f1,f2⟩:=hI.open
 have HI:=Lib.hid hI
 have HX:=Lib.hid (Lu x hx s.toks)
 clear hI hx
 cases s with
 | bad n=>
   obtain ⟨rfl,hn1,hn2⟩:=HS.out
   clear HS
   have hq:(bad == 0)=false:=by rw [beq_eq_false_iff_ne]; omega
   have HA:Hid (at' l (St.bad bad).toks=false):=Lib.hid (at_nil l)
   go_enter Tryz.func81,Tryz.ntmps81
   go_upto_region 1 with fail
   go_quiet (fail)
   go_wp2_with fail
   go_ret
   exact ⟨bG HA.out.symm,below_drewN (Below.refl _ _) _⟩
 | go r=>
   obtain ⟨rfl,hd⟩:=HS.out
   have HD:=Lib.hid hd
   clear HS hd bL bK
   by_cases hr:R.ts.length≤pos
   ·have HR:Hid (at' l r=false):=Lib.hid (by rw [show r=[] by rw [← HD.out]; exact List.drop_eq_nil_iff.2 hr]; exact at_nil l)
    have hq:decide (pos < R.ts.length)=false:=by rw [decide_eq_false_iff_not]; omega
    go_enter Tryz.func81,Tryz.ntmps81
    go_upto_region 1 with fail
    go_quiet (fail)
    go_wp2_with fail
    go_ret
    exact ⟨bG HR.out.symm,below_drewN (Below.refl _ _) _⟩
   ·obtain ⟨t,q,hr'⟩: ∃t q,r=t ::q:=by
     cases hrs:r with
     | nil=>rw [hrs] at HD; exact absurd (List.drop_eq_nil_iff.1 HD.out) hr
     | cons t q=>exact ⟨t,q,rfl⟩
    have hT':=HI.out.tok.drop pos
    rw [Nat.zero_add] at hT'
    obtain ⟨b,off,hao,hb,e0,e1,e2⟩:=xM (HD.out.trans hr') hT'
    rw [hao] at c0
    have hq:decide (pos < R.ts.length)=true:=by rw [decide_eq_true_iff]; omega
    have hb0:(0:Int)≤(pos:Int):=by omega
    have hb1:(pos:Int) < (R.ts.length:Int):=by omega
    have HE:Hid (at' l (St.go r).toks=((((t.kind:Int) == 3) || ((t.kind:Int) == 4)) && ((tx t.text).toList == x.toList))):=Lib.hid (by rw [HX.out,show (St.go r).toks=r from rfl,hr']; rfl)
    generalize at' l (St.go r).toks=res at *
    clear hT' hao e2 hr hr' hb HX
    generalize tx t.text=tt at *
    generalize (t.kind:Int)=kk at *
    cases ht:(tt.toList == x.toList)
    ·have Eo:Hid (res=false):=Lib.hid (by rw [HE.out,ht,Bool.and_false])
     clear HE
     go_enter Tryz.func81,Tryz.ntmps81
     go_upto_region 1 with fail
     go_quiet (fail)
     go_wp2_with fail
     go_ret
     exact ⟨bG Eo.out.symm,below_drewN (Below.refl _ _) _⟩
    ·cases h3:(kk == 3)
     ·have Eo:Hid (res=(kk == 4)):=Lib.hid (by rw [HE.out,ht,h3,Bool.and_true,Bool.false_or])
      clear HE
      cases h4:(kk == 4)
      all_goals
       go_enter Tryz.func81,Tryz.ntmps81
       go_upto_region 1 with fail
       go_quiet (fail)
       go_wp2_with fail
       go_ret
       exact ⟨bG (Eo.out.trans h4).symm,below_drewN (Below.refl _ _) _⟩
     ·have Eo:Hid (res=true):=Lib.hid (by rw [HE.out,ht,h3]; rfl)
      clear HE
      go_enter Tryz.func81,Tryz.ntmps81
      go_upto_region 1 with fail
      go_quiet (fail)
      go_wp2_with fail
      go_ret
      exact ⟨bG Eo.out.symm,below_drewN (Below.refl _ _) _⟩
end Go.Proofs.YtehnipchbmjlhaaGreatDoor
end
section
namespace Go.Proofs.YtehnipchbmjlhaaGreatDoor
open Go.RowKit
open Md Pz
theorem Dv (R:Rp) (s:St) (w:World) (k:Int) (n:Nat) (hk:k=n) (hn:1≤n) (hI:bn w R s):
 Calls Tryz.prog 84 #[.pointer (some ⟨R.br,0,none⟩),.int .i64 k] w fun e w'=>e= .returned (.bool (nextK s.toks == n))∧Below w.heap.size w w':=by
 obtain ⟨pos,bad,⟨hp,hp2,hl,hlt,hbr⟩,HS,⟨bL,bK⟩,c0,c1,c2,f1,f2⟩:=hI.open
 have HI:=Lib.hid hI
 have HN0:Hid ((0 == n)=false):=Lib.hid (by rw [beq_eq_false_iff_ne]; omega)
 have HK:=Lib.hid hk
 clear hI hk
 cases s with
 | bad m=>
   obtain ⟨rfl,hn1,hn2⟩:=HS.out
   clear HS
   have hq:(bad == 0)=false:=by rw [beq_eq_false_iff_ne]; omega
   have HA:Hid ((nextK (St.bad bad).toks == n)=false):=HN0
   go_enter Tryz.func84,Tryz.ntmps84
   go_upto_region 1 with fail
   go_quiet (fail)
   go_wp2_with fail
   go_ret
   exact ⟨bG HA.out.symm,below_drewN (Below.refl _ _) _⟩
 | go r=>
   obtain ⟨rfl,hd⟩:=HS.out
   have HD:=Lib.hid hd
   clear HS hd bL bK
   by_cases hr:R.ts.length≤pos
   ·have HR:Hid ((nextK (St.go r).toks == n)=false):=Lib.hid (by rw [show r=[] by rw [← HD.out]; exact List.drop_eq_nil_iff.2 hr]; exact HN0.out)
    have hq:decide (pos < R.ts.length)=false:=by rw [decide_eq_false_iff_not]; omega
    go_enter Tryz.func84,Tryz.ntmps84
    go_upto_region 1 with fail
    go_quiet (fail)
    go_wp2_with fail
    go_ret
    exact ⟨bG HR.out.symm,below_drewN (Below.refl _ _) _⟩
   ·obtain ⟨t,q,hr'⟩: ∃t q,r=t ::q:=by
     cases hrs:r with
     | nil=>rw [hrs] at HD; exact absurd (List.drop_eq_nil_iff.1 HD.out) hr
     | cons t q=>exact ⟨t,q,rfl⟩
    have hT':=HI.out.tok.drop pos
    rw [Nat.zero_add] at hT'
    obtain ⟨b,off,hao,hb,e0,e1,e2⟩:=xM (HD.out.trans hr') hT'
    rw [hao] at c0
    have hq:decide (pos < R.ts.length)=true:=by rw [decide_eq_true_iff]; omega
    have hb0:(0:Int)≤(pos:Int):=by omega
    have hb1:(pos:Int) < (R.ts.length:Int):=by omega
    have HE:Hid ((nextK (St.go r).toks == n)=((t.kind:Int) == k)):=Lib.hid (by rw [HK.out,show (St.go r).toks=r from rfl,hr']; exact qE n (t ::q))
    generalize (nextK (St.go r).toks == n)=res at *
    clear hT' hao e1 e2 hr hr' hb
    generalize (t.kind:Int)=kk at *
    cases h3:(kk == k)
    all_goals
     go_enter Tryz.func84,Tryz.ntmps84
     go_upto_region 1 with fail
     go_quiet (fail)
     go_wp2_with fail
     go_ret
     exact ⟨bG (HE.out.trans h3).symm,below_drewN (Below.refl _ _) _⟩
theorem Qh {ts:ak} {l:List UInt8} {s:St} (h:at' l s.toks=true):aR ts l s=s.aD:=by unfold aR; rw [if_pos h]
theorem P9 {ts:ak} {l:List UInt8} {s:St} (h:at' l s.toks=false):aR ts l s=Pz.fail ts s:=by unfold aR; rw [if_neg (by rw [h]; decide)]
theorem lN {s:St} {l:List UInt8} (h:at' l s.toks=true):s.toks≠[]:=by
 obtain ⟨t,r,e⟩:=yM h
 rw [e]; exact List.cons_ne_nil _ _
theorem fC (R:Rp) (s:St) (w:World) (x:ByteArray) {l:List UInt8} (hx:x.data.toList=l) (hI:bn w R s):
 Calls Tryz.prog 86 #[.pointer (some ⟨R.br,0,none⟩),.string x] w fun e w'=>e= .returned (.tuple #[])∧bn w' R (aR R.ts l s)∧w.grownBy w' (some R.br):=by
 have HIS:=Lib.hid (nS R s w x hx hI)
 have HI:=Lib.hid hI
 clear hI hx
 cases h:at' l s.toks
 ·rw [h] at HIS
  rw [P9 h]
  go_enter Tryz.func86,Tryz.ntmps86
  go_wp2_with fail
  refine HIS.out.mono ?_
  rintro e w1 ⟨rfl,hb⟩
  have HB:=Lib.hid hb
  clear hb
  go_wp2_with fail
  refine (zV R s _ (HI.out.below HB.out)).mono ?_
  rintro e w2 ⟨rfl,h1,h2⟩
  go_wp2_with fail
  exact bodyPost_ret (v:= .tuple #[]) (by simp [results,Tryz.results86,go_sem]) rfl ⟨rfl,h1,bD (aH HB.out) h2⟩
 ·rw [h] at HIS
  rw [Qh h]
  have iQ:=Lib.hid (lN h)
  go_enter Tryz.func86,Tryz.ntmps86
  go_wp2_with fail
  refine HIS.out.mono ?_
  rintro e w1 ⟨rfl,hb⟩
  have HB:=Lib.hid hb
  have HI1:=Lib.hid (HI.out.below hb)
  obtain ⟨pos,bad,⟨hp,hp2,hl,hlt,hbr⟩,HS,⟨bL,bK⟩,c0,c1,c2,f1,f2⟩:=HI1.out.open
  have HC:=Lib.hid c1
  clear hb
  go_wp2_with fail
  exact bodyPost_end (v:= .tuple #[]) (by simp [results,Tryz.results86,go_sem]) rfl ⟨rfl,HI1.out.aD HC.out iQ.out,bD (aH HB.out) (cu _ _ _)⟩
theorem bn.head {w:World} {R:Rp} {s:St} (h:bn w R s) {pos:Nat} (hp:w.cell? ⟨R.br,1,none⟩=some (.int .i64 (pos:Int))) (hne:s.toks≠[]):
 pos < R.ts.length∧ ∃b off,R.ao=some ⟨b,off,none⟩∧b < R.B0∧w.cell? ⟨b,off + pos * 3,none⟩=some (.int .i64 ((nextK s.toks:Nat):Int))∧w.cell? ⟨b,off + pos * 3 + 1,none⟩=some (.string (tx (ay s.toks)))∧w.cell? ⟨b,off + pos * 3 + 2,none⟩=some (.int .i64 ((aK s.toks:Nat):Int)):=by
 obtain ⟨pos',bad,h1,h2,h3⟩:=h.blk
 have e:pos'=pos:=by
  have:=aj (j:=1) h3 rfl
  rw [hp] at this
  injection this with this; injection this with _ this; omega
 subst e
 cases s with
 | bad n=>exact absurd rfl hne
 | go r=>
   obtain ⟨-,hd⟩:=h2
   cases r with
   | nil=>exact absurd rfl hne
   | cons t q=>
     have hlt:pos' < R.ts.length:=by
      have:=congrArg List.length hd; simp at this; omega
     have hT:=h.tok.drop pos'
     rw [Nat.zero_add] at hT
     obtain ⟨b,off,hao,hb,e0,e1,e2⟩:=xM hd hT
     exact ⟨hlt,b,off,hao,hb,e0,e1,e2⟩
theorem Q8 {ts:ak} {s:St} (h:isName s.toks=true):aJ ts s=(tx (ay s.toks),s.aD):=by unfold aJ; rw [if_pos h]
theorem OY {ts:ak} {s:St} (h:isName s.toks=false):aJ ts s=(⟨#[]⟩,Pz.fail ts s):=by unfold aJ; rw [if_neg (by rw [h]; decide)]
theorem XB {s:St} {k:Nat} (hk:1≤k) (h:(nextK s.toks == k)=true):s.toks≠[]:=by
 intro e; rw [e] at h
 have h:(0 == k)=true:=h
 rw [beq_iff_eq] at h; omega
def qP (R:Rp) (w:World) (q:ByteArray × St) (e:Ending) (w':World):Prop:=e= .returned (.string q.1)∧bn w' R q.2∧w.grownBy w' (some R.br)
theorem gQ (R:Rp) (s:St) (w:World) (hI:bn w R s):
 Calls Tryz.prog 83 #[.pointer (some ⟨R.br,0,none⟩)] w (qP R w (aJ R.ts s)):=by
 have HK:=Lib.hid (Dv R s w 1 1 rfl (Nat.le_refl _) hI)
 have HI:=Lib.hid hI
 clear hI
 cases h:(nextK s.toks == 1)
 ·rw [h] at HK
  rw [OY h]
  go_enter Tryz.func83,Tryz.ntmps83
  go_wp2_with fail
  refine HK.out.mono ?_
  rintro e w1 ⟨rfl,hb⟩
  have HB:=Lib.hid hb
  clear hb
  go_wp2_with fail
  refine (zV R s _ (HI.out.below HB.out)).mono ?_
  rintro e w2 ⟨rfl,h1,h2⟩
  go_wp2_with fail
  go_ret
  exact ⟨rfl,h1,bD (aH HB.out) h2⟩
 ·rw [h] at HK
  rw [Q8 h]
  have iQ:=Lib.hid (XB (Nat.le_refl _) h)
  go_enter Tryz.func83,Tryz.ntmps83
  go_wp2_with fail
  refine HK.out.mono ?_
  rintro e w1 ⟨rfl,hb⟩
  have HB:=Lib.hid hb
  have HI1:=Lib.hid (HI.out.below hb)
  obtain ⟨pos,bad,⟨hp,hp2,hl,hlt,hbr⟩,HS,⟨bL,bK⟩,c0,c1,c2,f1,f2⟩:=HI1.out.open
  have HC:=Lib.hid c1
  obtain ⟨hpl,b,off,hao,hbb,e0,e1,e2⟩:=HI1.out.head c1 iQ.out
  have HA:=Lib.hid (HI1.out.aD c1 iQ.out)
  clear hb c2 f2 e0 e2
  go_upto_region 5 with fail
  generalize hW:World.setCell w1 _ _=W2
  rw [hW] at HA
  have d0:W2.cell? ⟨R.br,0,none⟩=some (.slice (some ⟨b,off,none⟩) R.ts.length R.cap):=by
   obtain ⟨_,_,_,h3⟩:=HA.out.blk
   rw [← hao]; exact aj h3.2 rfl
  have d1:W2.cell? ⟨R.br,1,none⟩=some (.int .i64 ((pos:Int) + 1)):=by
   obtain ⟨p2,b2,-,-,h3⟩:=HI1.out.blk
   rw [← hW]; exact aj (aW h3 _) rfl
  have d2:W2.cell? ⟨b,off + pos * 3 + 1,none⟩=some (.string (tx (ay s.toks))):=by
   rw [← hW]; exact (World.cell?_of_block (a:=⟨b,_,none⟩) (aN w1 ⟨R.br,1,none⟩ _ rfl (by show R.br≠b; omega))).trans e1
  have HG:Hid (w.grownBy W2 (some R.br)):=Lib.hid (by rw [← hW]; exact bD (aH HB.out) (cu _ _ _))
  have hw:IntKind.i64.wrap ((pos:Int) + 1 - 1)=(pos:Int):=by rw [show (pos:Int) + 1 - 1=(pos:Int) by omega]; exact IntWalk.i64_in _ (by omega)
  have hb0:(0:Int)≤(pos:Int):=by omega
  have hb1:(pos:Int) < (R.ts.length:Int):=by omega
  clear hW c0 c1 f1 e1
  go_quiet (fail)
  go_wp2_with fail
  go_ret
  exact ⟨rfl,HA.out.below (below_drewN (Below.refl _ _) _),bD HG.out (aH (below_drewN (Below.refl _ _) _))⟩
end Go.Proofs.YtehnipchbmjlhaaGreatDoor
end
section
namespace Go.Proofs.YtehnipchbmjlhaaGreatDoor
open Go.RowKit
open Md Pz
theorem I8 {ts:ak} {s:St} (h:isNum s.toks=true):jH ts s=(((Tk.val (ay s.toks):Nat):Int),s.aD):=by unfold jH; rw [if_pos h]
theorem SB {ts:ak} {s:St} (h:isNum s.toks=false):jH ts s=(0,Pz.fail ts s):=by unfold jH; rw [if_neg (by rw [h]; decide)]
theorem Rv {l:List UInt8} (h:(l.isEmpty=false∧l.all Tk.eF=true)∧Tk.kU l=true):sO l=(Tk.val l,true):=by
 unfold sO; rw [h.1.2,h.2,h.1.1]; rfl
theorem Er {w0:World} {R:Rp} {s:St} (h:isNum s.toks=true) (hI:bn w0 R s) (w:World):
 Calls Tryz.prog 79 #[.string (tx (ay s.toks))] w fun e w'=>e= .returned (.tuple #[.int .i64 ((Tk.val (ay s.toks):Nat):Int),.bool true])∧w=w':=by
 have hsz:(tx (ay s.toks)).size≤maxLen:=by
  obtain ⟨t,r,hr⟩: ∃t r,s.toks=t ::r:=by
   cases hs:s.toks with
   | nil=>rw [hs] at h; exact absurd h (by simp [isNum,nextK])
   | cons t r=>exact ⟨t,r,rfl⟩
  have:=(hI.DX t (by rw [hr]; simp)).2.2.2
  rw [hr]; show t.text.toArray.size≤_
  unfold maxLen; simp; omega
 have hN:=DZ (tx (ay s.toks)) w hsz
 rw [show (tx (ay s.toks)).data.toList=ay s.toks from by simp [tx],Rv (JD hI.ts h)] at hN
 exact hN
def NuR (R:Rp) (w:World) (q:Int × St) (e:Ending) (w':World):Prop:=e= .returned (.int .i64 q.1)∧bn w' R q.2∧w.grownBy w' (some R.br)
theorem su (R:Rp) (s:St) (w:World) (hI:bn w R s):
 Calls Tryz.prog 85 #[.pointer (some ⟨R.br,0,none⟩)] w (NuR R w (jH R.ts s)):=by
 have HK:=Lib.hid (Dv R s w 2 2 rfl (by decide) hI)
 have HI:=Lib.hid hI
 cases h:(nextK s.toks == 2)
 ·clear hI
  rw [h] at HK
  rw [SB h]
  go_enter Tryz.func85,Tryz.ntmps85
  go_wp2_with fail
  refine HK.out.mono ?_
  rintro e w1 ⟨rfl,hb⟩
  have HB:=Lib.hid hb
  clear hb
  go_wp2_with fail
  refine (zV R s _ (HI.out.below HB.out)).mono ?_
  rintro e w2 ⟨rfl,h1,h2⟩
  go_wp2_with fail
  go_ret
  exact ⟨rfl,h1,bD (aH HB.out) h2⟩
 ·have U1:=Lib.hid (fun w=>Er h hI w)
  clear hI
  rw [h] at HK
  rw [I8 h]
  have iQ:=Lib.hid (XB (by decide) h)
  generalize ((Tk.val (ay s.toks):Nat):Int)=vv at *
  go_enter Tryz.func85,Tryz.ntmps85
  go_wp2_with fail
  refine HK.out.mono ?_
  rintro e w1 ⟨rfl,hb⟩
  have HB:=Lib.hid hb
  have HI1:=Lib.hid (HI.out.below hb)
  obtain ⟨pos,bad,⟨hp,hp2,hl,hlt,hbr⟩,HS,⟨bL,bK⟩,c0,c1,c2,f1,f2⟩:=HI1.out.open
  have HC:=Lib.hid c1
  obtain ⟨hpl,b,off,hao,hbb,e0,e1,e2⟩:=HI1.out.head c1 iQ.out
  have HA:=Lib.hid (HI1.out.aD c1 iQ.out)
  clear hb c2 f2 e0 e2
  go_upto_region 5 with fail
  generalize hW:World.setCell w1 _ _=W2
  rw [hW] at HA
  have d0:W2.cell? ⟨R.br,0,none⟩=some (.slice (some ⟨b,off,none⟩) R.ts.length R.cap):=by
   obtain ⟨_,_,_,h3⟩:=HA.out.blk
   rw [← hao]; exact aj h3.2 rfl
  have d1:W2.cell? ⟨R.br,1,none⟩=some (.int .i64 ((pos:Int) + 1)):=by
   obtain ⟨p2,b2,-,-,h3⟩:=HI1.out.blk
   rw [← hW]; exact aj (aW h3 _) rfl
  have d2:W2.cell? ⟨b,off + pos * 3 + 1,none⟩=some (.string (tx (ay s.toks))):=by
   rw [← hW]; exact (World.cell?_of_block (a:=⟨b,_,none⟩) (aN w1 ⟨R.br,1,none⟩ _ rfl (by show R.br≠b; omega))).trans e1
  have HG:Hid (w.grownBy W2 (some R.br)):=Lib.hid (by rw [← hW]; exact bD (aH HB.out) (cu _ _ _))
  have hw:IntKind.i64.wrap ((pos:Int) + 1 - 1)=(pos:Int):=by rw [show (pos:Int) + 1 - 1=(pos:Int) by omega]; exact IntWalk.i64_in _ (by omega)
  have hb0:(0:Int)≤(pos:Int):=by omega
  have hb1:(pos:Int) < (R.ts.length:Int):=by omega
  clear hW c0 c1 f1 e1
  go_quiet (first | (go_at_call 79; refine sj (U1.out _)))
  go_wp2_with fail
  go_ret
  exact ⟨rfl,HA.out.below (below_drewN (Below.refl _ _) _),bD HG.out (aH (below_drewN (Below.refl _ _) _))⟩
theorem AL (R:Rp) (s:St) (w:World) (hI:bn w R s):
 Calls Tryz.prog 82 #[.pointer (some ⟨R.br,0,none⟩)] w fun e w'=>e= .returned (.int .i64 ((aK s.toks:Nat):Int))∧Below w.heap.size w w':=by
 obtain ⟨pos,bad,⟨hp,hp2,hl,hlt,hbr⟩,HS,⟨bL,bK⟩,c0,c1,c2,f1,f2⟩:=hI.open
 have HI:=Lib.hid hI
 clear hI
 cases s with
 | bad m=>
   obtain ⟨rfl,hn1,hn2⟩:=HS.out
   clear HS
   have hq:decide ((0:Int) < bad)=true:=decide_eq_true (by omega)
   go_enter Tryz.func82,Tryz.ntmps82
   go_upto_region 1 with fail
   go_quiet (fail)
   go_wp2_with fail
   go_ret
   exact ⟨rfl,below_drewN (Below.refl _ _) _⟩
 | go r=>
   obtain ⟨rfl,hd⟩:=HS.out
   have HD:=Lib.hid hd
   clear HS hd bL bK
   by_cases hr:R.ts.length≤pos
   ·have HR:Hid ((0:Int)=((aK (St.go r).toks:Nat):Int)):=Lib.hid (by rw [show r=[] by rw [← HD.out]; exact List.drop_eq_nil_iff.2 hr]; rfl)
    have hq:decide (R.ts.length≤pos)=true:=by rw [decide_eq_true_iff]; omega
    go_enter Tryz.func82,Tryz.ntmps82
    go_upto_region 1 with fail
    go_quiet (fail)
    go_wp2_with fail
    go_ret
    exact ⟨qg HR.out,below_drewN (Below.refl _ _) _⟩
   ·have hne:(St.go r).toks≠[]:=by
     intro e
     have e:r=[]:=e
     rw [e] at HD; exact absurd (List.drop_eq_nil_iff.1 HD.out) hr
    obtain ⟨hpl,b,off,hao,hbb,e0,e1,e2⟩:=HI.out.head c1 hne
    rw [hao] at c0
    have hq:decide (R.ts.length≤pos)=false:=by rw [decide_eq_false_iff_not]; omega
    have hb0:(0:Int)≤(pos:Int):=by omega
    have hb1:(pos:Int) < (R.ts.length:Int):=by omega
    have Bz:Hid (b < w.heap.size):=Lib.hid (by omega)
    generalize ((aK (St.go r).toks:Nat):Int)=ll at *
    clear hao e0 e1 hr hne
    go_enter Tryz.func82,Tryz.ntmps82
    go_upto_region 1 with fail
    go_quiet (fail)
    generalize hW:World.drewN w _=W1
    have HB:Hid (Below w.heap.size w W1):=Lib.hid (by rw [← hW]; exact below_drewN (Below.refl _ _) _)
    clear hW
    have c0:=(HB.out.cell (p:=⟨R.br,0,none⟩) hlt).trans c0
    have c1:=(HB.out.cell (p:=⟨R.br,1,none⟩) hlt).trans c1
    have e2:=(HB.out.cell (p:=⟨b,off + pos * 3 + 2,none⟩) Bz.out).trans e2
    go_upto_region 3 with fail
    go_quiet (fail)
    go_wp2_with fail
    go_ret
    exact ⟨rfl,below_drewN HB.out _⟩
end Go.Proofs.YtehnipchbmjlhaaGreatDoor
end
section
namespace Go.Proofs.YtehnipchbmjlhaaGreatDoor
open Go.RowKit
open Md Pz
def M0:Array Value:=(xG.map fun x=>Value.string (tx x.1)).toArray
def Q9:Array Value:=(xG.map fun x=>Value.int .i64 x.2.1).toArray
def YV:Array Value:=(xG.map fun x=>Value.int .i64 x.2.2).toArray
def Dr (w:World) (g:Nat):Prop:=w.heap[g]? =some (.cells M0 9 (0,0))∧w.heap[g + 1]? =some (.cells Q9 3 (0,0))∧w.heap[g + 1 + 1]? =some (.cells YV 3 (0,0))
theorem Dr.below {w w':World} {g:Nat} (h:Dr w g) (hb:Below w.heap.size w w'):Dr w' g:=by
 obtain ⟨h1,h2,h3⟩:=h
 exact ⟨(hb.block _ (Array.getElem?_eq_some_iff.1 h1).1).trans h1,(hb.block _ (Array.getElem?_eq_some_iff.1 h2).1).trans h2,(hb.block _ (Array.getElem?_eq_some_iff.1 h3).1).trans h3⟩
theorem drop_cons {α:Type} {l:List α} {k:Nat} {x:α} {r:List α} (h:l.drop k=x ::r):l[k]? =some x∧l.drop (k + 1)=r:=by
 constructor
 ·have:=congrArg (·[0]?) h; simpa using this
 ·rw [← List.drop_drop,h]; rfl
theorem Dr.cells {w:World} {g k:Nat} {x:List UInt8 × Int × Int} (h:Dr w g) (hx:xG[k]? =some x):
 w.cell? ⟨g,k,none⟩=some (.string (tx x.1))∧w.cell? ⟨g + 1,k,none⟩=some (.int .i64 x.2.1)∧w.cell? ⟨g + 1 + 1,k,none⟩=some (.int .i64 x.2.2):=
 ⟨aj h.1 (by simp [M0,hx]),aj h.2.1 (by simp [Q9,hx]),aj h.2.2 (by simp [YV,hx])⟩
theorem KJ (R:Rp) (s:St) (w:World) (lv:Int) (hI:bn w R s):
 Calls Tryz.prog 93 #[.pointer (some ⟨R.br,0,none⟩),.int .i64 lv] w fun e w'=>e= .returned (.int .i64 (opAt lv s.toks))∧Below w.heap.size w w':=by
 have HE:=Lib.hid (YD lv hI.ts)
 have HI:=Lib.hid hI
 clear hI
 generalize opAt lv s.toks=spec at *
 go_enter Tryz.func93,Tryz.ntmps93
 go_upto_region 4 with fail
 generalize hW:World.alloc (World.alloc (World.alloc w _) _) _=W
 have HB:Hid (Below w.heap.size w W):=Lib.hid (by rw [← hW]; exact ((ah w _).alloc (by simp) _).alloc (by simp <;> omega) _)
 have HT:Hid (Dr W w.heap.size):=Lib.hid (by
  rw [← hW]
  refine ⟨?_,?_,?_⟩
  ·rw [heap_alloc_old _ _ (by simp <;> omega),heap_alloc_old _ _ (by simp <;> omega)]; exact heap_alloc_new _ _
  ·rw [heap_alloc_old _ _ (by simp <;> omega)]
   have:=heap_alloc_new (w.alloc (.cells M0 9)) (.cells Q9 3)
   rw [show (w.alloc (.cells M0 9)).heap.size=w.heap.size + 1 by simp] at this; exact this
  ·have:=heap_alloc_new ((w.alloc (.cells M0 9)).alloc (.cells Q9 3)) (.cells YV 3)
   rw [show ((w.alloc (.cells M0 9)).alloc (.cells Q9 3)).heap.size=w.heap.size + 1 + 1 by simp] at this; exact this)
 clear hW
 go_wp2_with fail
 go_loopw [8] (fun i wr=> ∃(k:Nat) (r:List (List UInt8 × Int × Int)),i= .int .i64 (k:Nat)∧k + r.length=13∧xG.drop k=r∧spec=Ab lv s.toks r∧Dr wr w.heap.size∧Below w.heap.size w wr) (fun i _=>13 - (intOf i).toNat)
 case atStart=>exact ⟨0,xG,rfl,rfl,rfl,HE.out.symm,HT.out,HB.out⟩
 case round=>
  obtain ⟨k,r,rfl,hlen,hdr,hsp,hat,hbl⟩:=hrel
  have HS:=Lib.hid hsp
  have HD:=Lib.hid hdr
  have HA:=Lib.hid hat
  have HL:=Lib.hid hbl
  clear hsp hdr hat hbl HB HT HE
  cases r with
  | nil=>
    obtain rfl:k=13:=by simpa using hlen
    go_wp2_with fail
    go_ret
    exact ⟨qg HS.out.symm,HL.out⟩
  | cons x r=>
    obtain ⟨hx,hdr⟩:=drop_cons HD.out
    obtain ⟨y0,y1,y2⟩:=HA.out.cells hx
    have HD2:=Lib.hid hdr
    have hk:k < 13:=by simp only [List.length_cons] at hlen; omega
    have hb0:(0:Int)≤(k:Int):=by omega
    have hb1:(k:Int) < 13:=by omega
    have HI1:=Lib.hid (HI.out.below HL.out)
    clear hx hdr HD
    cases h1:(x.2.2 == lv)
    ·have HS2:Hid (spec=Ab lv s.toks r):=Lib.hid (by
      rw [HS.out]; conv=>lhs; unfold Ab
      rw [h1,Bool.false_and,if_neg (by decide)])
     go_wp2_with fail
     go_roundw
     case rel=>exact ⟨k + 1,r,by go_num,by simp only [List.length_cons] at hlen; omega,HD2.out,HS2.out,HA.out,HL.out⟩
     case measure=>simp [intOf]; omega
    ·have HIS:=Lib.hid (nS R s wr (tx x.1) (l:=x.1) (by simp [tx]) HI1.out)
     have kr:Hid (spec=if at' x.1 s.toks then x.2.1 else Ab lv s.toks r):=Lib.hid (by
      rw [HS.out]; conv=>lhs; unfold Ab
      rw [h1,Bool.true_and])
     cases h2:at' x.1 s.toks
     ·rw [h2] at HIS kr
      have HS2:Hid (spec=Ab lv s.toks r):=Lib.hid (kr.out.trans (if_neg (by decide)))
      clear h2 kr HS
      go_wp2_with fail
      refine HIS.out.mono ?_
      rintro e w2 ⟨rfl,hb⟩
      have HL2:=Lib.hid (HL.out.trans (hb.mono HL.out.size))
      have HA2:=Lib.hid (HA.out.below hb)
      clear hb y0 y1 y2
      go_wp2_with fail
      go_roundw
      case rel=>exact ⟨k + 1,r,by go_num,by simp only [List.length_cons] at hlen; omega,HD2.out,HS2.out,HA2.out,HL2.out⟩
      case measure=>simp [intOf]; omega
     ·rw [h2] at HIS kr
      have HS2:Hid (spec=x.2.1):=Lib.hid (kr.out.trans (if_pos rfl))
      clear h2 kr HS
      go_wp2_with fail
      refine HIS.out.mono ?_
      rintro e w2 ⟨rfl,hb⟩
      have HL2:=Lib.hid (HL.out.trans (hb.mono HL.out.size))
      have HA2:=Lib.hid (HA.out.below hb)
      have y1':=(hb.cell (p:=⟨w.heap.size + 1,k,none⟩) (by have:=(Array.getElem?_eq_some_iff.1 HA.out.2.1).1; exact this)).trans y1
      clear hb y0 y1 y2
      go_wp2_with fail
      go_ret
      exact ⟨qg HS2.out.symm,HL2.out⟩
def SS:Array Value:=(Gw.map fun x=>Value.string (tx x)).toArray
theorem Qr (R:Rp) (s:St) (w:World) (hI:bn w R s):
 Calls Tryz.prog 132 #[.pointer (some ⟨R.br,0,none⟩)] w fun e w'=>e= .returned (.int .i64 (dU s.toks))∧Below w.heap.size w w':=by
 have HE:=Lib.hid (V5 hI.ts hI.DX)
 have HI:=Lib.hid hI
 clear hI
 generalize dU s.toks=spec at *
 go_enter Tryz.func132,Tryz.ntmps132
 go_upto_region 2 with fail
 generalize hW:World.alloc w _=W
 have HB:Hid (Below w.heap.size w W):=Lib.hid (by rw [← hW]; exact ah w _)
 have HT:Hid (W.heap[w.heap.size]? =some (.cells SS 9 (0,0))):=Lib.hid (by rw [← hW]; exact heap_alloc_new _ _)
 clear hW
 go_wp2_with fail
 go_loopw [4] (fun i wr=> ∃(k:Nat) (r:List (List UInt8)),i= .int .i64 (k:Nat)∧k + r.length=14∧Gw.drop k=r∧spec=qV s.toks r (2 + (k:Int))∧wr.heap[w.heap.size]? =some (.cells SS 9 (0,0))∧Below w.heap.size w wr) (fun i _=>14 - (intOf i).toNat)
 case atStart=>exact ⟨0,Gw,rfl,rfl,rfl,HE.out.symm,HT.out,HB.out⟩
 case round=>
  obtain ⟨k,r,rfl,hlen,hdr,hsp,hat,hbl⟩:=hrel
  have HS:=Lib.hid hsp
  have HD:=Lib.hid hdr
  have HA:=Lib.hid hat
  have HL:=Lib.hid hbl
  clear hsp hdr hat hbl HB HT HE
  cases r with
  | nil=>
    obtain rfl:k=14:=by simpa using hlen
    go_wp2_with fail
    go_ret
    exact ⟨qg HS.out.symm,HL.out⟩
  | cons x r=>
    obtain ⟨hx,hdr⟩:=drop_cons HD.out
    have y0:wr.cell? ⟨w.heap.size,k,none⟩=some (.string (tx x)):=aj HA.out (by simp [SS,hx])
    have HD2:=Lib.hid hdr
    have hk:k < 14:=by simp only [List.length_cons] at hlen; omega
    have hb0:(0:Int)≤(k:Int):=by omega
    have hb1:(k:Int) < 14:=by omega
    have HI1:=Lib.hid (HI.out.below HL.out)
    have HIS:=Lib.hid (nS R s wr (tx x) (l:=x) (by simp [tx]) HI1.out)
    have kr:Hid (spec=if at' x s.toks then 2 + (k:Int) else qV s.toks r (2 + (k:Int) + 1)):=Lib.hid (by
     rw [HS.out]; conv=>lhs; unfold qV)
    clear hx hdr HD HS
    cases h2:at' x s.toks
    ·rw [h2] at HIS kr
     have HS2:Hid (spec=qV s.toks r (2 + (k:Int) + 1)):=Lib.hid (kr.out.trans (if_neg (by decide)))
     clear h2 kr
     go_wp2_with fail
     refine HIS.out.mono ?_
     rintro e w2 ⟨rfl,hb⟩
     have HL2:=Lib.hid (HL.out.trans (hb.mono HL.out.size))
     have HA2:=Lib.hid ((hb.block _ (Array.getElem?_eq_some_iff.1 HA.out).1).trans HA.out)
     clear hb y0
     go_wp2_with fail
     go_roundw
     case rel=>exact ⟨k + 1,r,by go_num,by simp only [List.length_cons] at hlen; omega,HD2.out,by rw [HS2.out]; congr 1,HA2.out,HL2.out⟩
     case measure=>simp [intOf]; omega
    ·rw [h2] at HIS kr
     have HS2:Hid (spec=2 + (k:Int)):=Lib.hid (kr.out.trans (if_pos rfl))
     clear h2 kr
     go_wp2_with fail
     refine HIS.out.mono ?_
     rintro e w2 ⟨rfl,hb⟩
     have HL2:=Lib.hid (HL.out.trans (hb.mono HL.out.size))
     clear hb y0
     go_wp2_with fail
     go_ret
     exact ⟨qg (by rw [HS2.out]; omega),HL2.out⟩
theorem R4 {r:ak} (h: ∀t ∈ r,xK t) (hl:CB r):isDecl r= !(qV r yF 1 == 0):=by
 rw [decl_eq h hl]
 unfold isDecl DJ
 cases nextK r == 3
 ·rfl
 ·rfl
theorem PO {r:ak} (h: ∀t ∈ r,xK t) (hl:CB r):isDecl r=(at' [118,97,114] r || (at' [118,111,108,97,116,105,108,101] r || (at' [109,117,116,101,120] r || (at' [114,119,108,111,99,107] r || (at' [99,111,110,100] r || at' [102,117,116,117,114,101] r))))):=by
 rw [R4 h hl]
 unfold yF
 simp only [qV]
 cases at' [118,97,114] r <;> cases at' [118,111,108,97,116,105,108,101] r <;> cases at' [109,117,116,101,120] r <;> cases at' [114,119,108,111,99,107] r <;> cases at' [99,111,110,100] r <;> cases at' [102,117,116,117,114,101] r <;> rfl
theorem Bq (R:Rp) (s:St) (w:World) (hI:bn w R s):
 Calls Tryz.prog 45 #[.pointer (some ⟨R.br,0,none⟩)] w fun e w'=>e= .returned (.bool (isDecl s.toks))∧Below w.heap.size w w':=by
 have HE:=Lib.hid (PO hI.ts hI.DX)
 have HI:=Lib.hid hI
 clear hI
 generalize isDecl s.toks=spec at *
 have H1:Hid (∀w,bn w R s→Calls Tryz.prog 81 #[.pointer (some ⟨R.br,0,none⟩),.string ⟨#[118,97,114]⟩] w fun e w'=>e= .returned (.bool (at' [118,97,114] s.toks))∧Below w.heap.size w w'):=Lib.hid (fun w h=>nS R s w _ rfl h)
 have H2:Hid (∀w,bn w R s→Calls Tryz.prog 81 #[.pointer (some ⟨R.br,0,none⟩),.string ⟨#[118,111,108,97,116,105,108,101]⟩] w fun e w'=>e= .returned (.bool (at' [118,111,108,97,116,105,108,101] s.toks))∧Below w.heap.size w w'):=Lib.hid (fun w h=>nS R s w _ rfl h)
 have H3:Hid (∀w,bn w R s→Calls Tryz.prog 81 #[.pointer (some ⟨R.br,0,none⟩),.string ⟨#[109,117,116,101,120]⟩] w fun e w'=>e= .returned (.bool (at' [109,117,116,101,120] s.toks))∧Below w.heap.size w w'):=Lib.hid (fun w h=>nS R s w _ rfl h)
 have H4:Hid (∀w,bn w R s→Calls Tryz.prog 81 #[.pointer (some ⟨R.br,0,none⟩),.string ⟨#[114,119,108,111,99,107]⟩] w fun e w'=>e= .returned (.bool (at' [114,119,108,111,99,107] s.toks))∧Below w.heap.size w w'):=Lib.hid (fun w h=>nS R s w _ rfl h)
 have H5:Hid (∀w,bn w R s→Calls Tryz.prog 81 #[.pointer (some ⟨R.br,0,none⟩),.string ⟨#[99,111,110,100]⟩] w fun e w'=>e= .returned (.bool (at' [99,111,110,100] s.toks))∧Below w.heap.size w w'):=Lib.hid (fun w h=>nS R s w _ rfl h)
 have H6:Hid (∀w,bn w R s→Calls Tryz.prog 81 #[.pointer (some ⟨R.br,0,none⟩),.string ⟨#[102,117,116,117,114,101]⟩] w fun e w'=>e= .returned (.bool (at' [102,117,116,117,114,101] s.toks))∧Below w.heap.size w w'):=Lib.hid (fun w h=>nS R s w _ rfl h)
 generalize at' [118,97,114] s.toks=b1 at *
 generalize at' [118,111,108,97,116,105,108,101] s.toks=b2 at *
 generalize at' [109,117,116,101,120] s.toks=b3 at *
 generalize at' [114,119,108,111,99,107] s.toks=b4 at *
 generalize at' [99,111,110,100] s.toks=b5 at *
 generalize at' [102,117,116,117,114,101] s.toks=b6 at *
 go_enter Tryz.func45,Tryz.ntmps45
 go_wp2_with fail
 refine (H1.out _ HI.out).mono ?_
 rintro e w1 ⟨rfl,hb⟩
 have HB:=Lib.hid hb
 clear hb
 cases b1
 case true=>
  go_wp2_with fail
  go_ret
  exact ⟨bG HE.out.symm,HB.out⟩
 go_wp2_with fail
 refine (H2.out _ (HI.out.below HB.out)).mono ?_
 rintro e w2 ⟨rfl,hb⟩
 have HB2:=Lib.hid (HB.out.trans (hb.mono HB.out.size))
 clear hb HB
 cases b2
 case true=>
  go_wp2_with fail
  go_ret
  exact ⟨bG HE.out.symm,HB2.out⟩
 go_wp2_with fail
 refine (H3.out _ (HI.out.below HB2.out)).mono ?_
 rintro e w3 ⟨rfl,hb⟩
 have HB3:=Lib.hid (HB2.out.trans (hb.mono HB2.out.size))
 clear hb HB2
 cases b3
 case true=>
  go_wp2_with fail
  go_ret
  exact ⟨bG HE.out.symm,HB3.out⟩
 go_wp2_with fail
 refine (H4.out _ (HI.out.below HB3.out)).mono ?_
 rintro e w4 ⟨rfl,hb⟩
 have dh:=Lib.hid (HB3.out.trans (hb.mono HB3.out.size))
 clear hb HB3
 cases b4
 case true=>
  go_wp2_with fail
  go_ret
  exact ⟨bG HE.out.symm,dh.out⟩
 go_wp2_with fail
 refine (H5.out _ (HI.out.below dh.out)).mono ?_
 rintro e w5 ⟨rfl,hb⟩
 have iR:=Lib.hid (dh.out.trans (hb.mono dh.out.size))
 clear hb dh
 cases b5
 case true=>
  go_wp2_with fail
  go_ret
  exact ⟨bG HE.out.symm,iR.out⟩
 go_wp2_with fail
 refine (H6.out _ (HI.out.below iR.out)).mono ?_
 rintro e w6 ⟨rfl,hb⟩
 have Ac:=Lib.hid (iR.out.trans (hb.mono iR.out.size))
 clear hb iR
 go_wp2_with fail
 go_ret
 exact ⟨bG HE.out.symm,Ac.out⟩
end Go.Proofs.YtehnipchbmjlhaaGreatDoor
end
