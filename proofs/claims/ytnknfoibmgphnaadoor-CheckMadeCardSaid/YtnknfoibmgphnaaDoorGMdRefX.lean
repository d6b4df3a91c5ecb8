/-
  Contracts of the reference's want, Nodes, names, Expr.
-/
import Derived.Test.YtnknfoibmgphnaaDoorGRA
import Derived.Test.YtnknfoibmgphnaaDoorGRF
import Derived.Deep.CutBlock
namespace Go.Proofs.YtnknfoibmgphnaaDoor
open Go.RowKit
open Md
set_option maxHeartbeats 1000000 in
theorem fM (p:Pr) (i:Int) (nm:ByteArray) (a b:Int) (w:World) (aC aF:Option Addr) (aA av:Nat) (hi:aX i) (hp:p.At w aC aF):
 Calls Tryd.prog 50 #[.agg #[.slice aC p.ds.length aA,.slice aF p.ts.length av],.int .i64 i,.string nm,.int .i64 a,.int .i64 b] w fun e w'=>e= .returned (.int .i64 (bR (conv (mean p i nm)) a b))∧Below w.heap.size w w':=by
 have HP:=Lib.hid hp
 clear hp
 go_enter Tryd.func50,Tryd.ntmps50
 go_wp2_with fail
 refine (Gc p i nm _ aC aF aA av hi (HP.out.same (ay _ _))).mono ?_
 rintro e w2 ⟨rfl,hb2⟩
 have HB:=Lib.hid ((ay w (.cells #[.slice aC p.ds.length aA,.slice aF p.ts.length av] 26)).trans (hb2.mono (by simp)))
 clear hb2
 have HE:Hid (bR (conv (mean p i nm)) a b=if conv (mean p i nm) == 0 then 5 else if (conv (mean p i nm) != a) && (conv (mean p i nm) != b) then 6 else 0):=Lib.hid rfl
 generalize hmm:conv (mean p i nm)=m at *
 have HM:=Lib.hid hmm
 clear hmm
 go_wp2_with fail
 all_goals go_ret
 all_goals refine ⟨aS ?_,HB.out⟩
 all_goals rw [HM.out,HE.out]
 all_goals (go_light; grind)
def yK (op n:Int) (nm:ByteArray) (kids:bJ):Prop:=
 ∀(w:World) (ao:Option Addr) (cap:Nat),lI op n nm kids→kids.At w w.heap.size ao 0→
  Calls Tryd.prog 71 #[.agg #[.int .i64 op,.int .i64 n,.string nm,.slice ao kids.len cap]] w fun e w'=>e= .returned (.tuple #[.int .i64 (ext kids).1,.int .i64 (ext kids).2])∧Below w.heap.size w w'
set_option maxHeartbeats 2000000 in
theorem Gg (op n:Int) (nm:ByteArray) (kids:bJ) (ih:kids.All yK):yK op n nm kids:=by
 intro w ao cap hok hat
 obtain ⟨-,-,-,hl⟩:=hok
 unfold maxLen at hl
 have qJ:=Lib.hid ih
 have HAT:=Lib.hid hat
 clear ih hat
 go_enter Tryd.func71,Tryd.ntmps71
 go_upto_region 2 with fail
 generalize hW:World.alloc w _=W
 generalize Value.agg #[_,_,_,_]=a0
 have HX:=Lib.hid ((Sit.start w).qX rfl (.int .i64 op) (.int .i64 n) (.string nm) (.slice ao kids.len cap) 40)
 rw [hW] at HX
 clear hW
 go_wp2_with fail
 go_loopw [4,5,6,7,8] (fun s4 s5 s _ _ wr=> ∃(k:Nat) (R:bJ) (a d:Int),s= .int .i64 k∧s4= .int .i64 a∧s5= .int .i64 d∧k + R.len=kids.len∧tV kids 1 0=tV R a d∧R.All yK∧R.At wr wr.heap.size ao k∧Sit w wr [(w.heap.size,0,.int .i64 op),(w.heap.size,1,.int .i64 n),(w.heap.size,2,.string nm),(w.heap.size,3,.slice ao kids.len cap)]) (fun _ _ s _ _ _=>kids.len - (intOf s).toNat)
 case atStart=>exact ⟨0,kids,1,0,rfl,rfl,rfl,by simp,rfl,qJ.out,HAT.out.same HX.out.1,HX.out⟩
 case round=>
  obtain ⟨k,R,a,d,rfl,rfl,rfl,hlen,heq,hall,hrow,hB⟩:=hrel
  have HE:=Lib.hid heq
  have HY:=Lib.hid hB
  clear heq hB HX
  obtain ⟨-,⟨-,c0⟩,⟨-,c1⟩,⟨-,c2⟩,⟨-,c3⟩,-⟩:=HY.out
  cases R with
  | nil=>
    obtain rfl:k=kids.len:=by simpa [bJ.len] using hlen
    go_wp2_with fail
    go_ret2
    exact ⟨iH (ext_nil HE.out).1 (ext_nil HE.out).2,HY.out.1⟩
  | cons op' n' nm' fq rest=>
    obtain ⟨⟨b,off,jO,cap',rfl,ni,x0,x1,x2,x3,hok',jy⟩,hrest⟩:=hrow
    obtain ⟨lT,kZ⟩:=hall
    have hlt:k < kids.len:=by simp only [bJ.len] at hlen; omega
    go_wp2_with fail
    refine (lT _ _ _ hok' jy).mono ?_
    rintro e w2 ⟨rfl,hb2⟩
    have HB3:=Lib.hid hb2
    clear hb2 x0 x1 x2 x3 c0 c1 c2 c3 jy
    go_wp2_with fail
    go_roundw
    case rel=>exact ⟨k + 1,rest,_,_,by go_num,rfl,rfl,by simp only [bJ.len] at hlen; omega,HE.out,kZ,hrest.same HB3.out,HY.out.next HB3.out⟩
    case measure=>simp [intOf]; omega
theorem Ew (op n:Int) (nm:ByteArray) (kids:bJ):yK op n nm kids:=bJ.uy Gg op n nm kids
def sK (p:Pr) (i:Int) (op n:Int) (nm:ByteArray) (kids:bJ):Prop:=
 ∀(w:World) (aC aF ao:Option Addr) (aA av cap:Nat),aX i→p.At w aC aF→lI op n nm kids→kids.At w w.heap.size ao 0→
  Calls Tryd.prog 72 #[.agg #[.slice aC p.ds.length aA,.slice aF p.ts.length av],.int .i64 i,.agg #[.int .i64 op,.int .i64 n,.string nm,.slice ao kids.len cap]] w fun e w'=>e= .returned (.int .i64 (oU p i op nm kids))∧Below w.heap.size w w'
set_option maxHeartbeats 2000000 in
theorem Cu (p:Pr) (i:Int) (op n:Int) (nm:ByteArray) (kids:bJ) (ih:kids.All (sK p i)):sK p i op n nm kids:=by
 intro w aC aF ao aA av cap hi hp hok hat
 obtain ⟨-,-,-,hl⟩:=hok
 unfold maxLen at hl
 have qJ:=Lib.hid ih
 have HAT:=Lib.hid hat
 have HP:=Lib.hid hp
 clear ih hat hp
 go_enter Tryd.func72,Tryd.ntmps72
 go_upto_region 1 with fail
 generalize hW:World.alloc (World.alloc w _) _=W
 generalize Value.agg #[_,_]=a0
 generalize Value.agg #[_,_,_,_]=a1
 have HX:=Lib.hid (((Sit.start w).kC rfl (.slice aC p.ds.length aA) (.slice aF p.ts.length av) 26).qX (n:=w.heap.size + 1) (by simp) (.int .i64 op) (.int .i64 n) (.string nm) (.slice ao kids.len cap) 40)
 rw [hW] at HX
 clear hW
 obtain ⟨-,⟨-,c0⟩,⟨-,c1⟩,⟨-,c2⟩,⟨-,c3⟩,⟨-,c4⟩,⟨-,c5⟩,-⟩:=HX.out
 go_upto_block 0 with (fail)
 go_cut [7,10] (fun s7 _ W2=>s7= .int .i64 (mV p i op nm)∧Sit w W2 [(w.heap.size + 1,0,.int .i64 op),(w.heap.size + 1,1,.int .i64 n),(w.heap.size + 1,2,.string nm),(w.heap.size + 1,3,.slice ao kids.len cap),(w.heap.size,0,.slice aC p.ds.length aA),(w.heap.size,1,.slice aF p.ts.length av)])
 case first=>
  cases h2:(op == 2)
  ·cases h3:(op == 3)
   ·have HE:Hid (mV p i op nm=0):=Lib.hid (by unfold mV; rw [h2,h3]; rfl)
    go_wp2_with fail
    go_meet
    exact ⟨by rw [HE.out],HX.out⟩
   ·have HE:Hid (mV p i op nm=bR (conv (mean p i nm)) 2 2):=Lib.hid (by unfold mV; rw [h2,h3]; exact (Er _ 3 (sN p i nm) (by decide)).symm)
    go_wp2_with fail
    refine (fM p i nm 2 2 _ aC aF aA av hi (HP.out.same HX.out.1)).mono ?_
    rintro e w2 ⟨rfl,hb2⟩
    go_wp2_with fail
    go_meet
    exact ⟨by rw [HE.out],HX.out.next hb2⟩
  ·have HE:Hid (mV p i op nm=bR (conv (mean p i nm)) 8 1):=Lib.hid (by unfold mV; rw [h2]; exact (Dr _ 1 2 (sN p i nm) (by decide) (by decide)).symm)
   go_wp2_with fail
   refine (fM p i nm 8 1 _ aC aF aA av hi (HP.out.same HX.out.1)).mono ?_
   rintro e w2 ⟨rfl,hb2⟩
   go_wp2_with fail
   go_meet
   exact ⟨by rw [HE.out],HX.out.next hb2⟩
 case rest=>
  obtain ⟨rfl,hX⟩:=hcut
  have HY:=Lib.hid hX
  clear hX HX c0 c1 c2 c3 c4 c5
  have HR:Hid (oU p i op nm kids=if mV p i op nm == 0 then nC p i kids else mV p i op nm):=Lib.hid rfl
  generalize mV p i op nm=r0 at *
  go_wp2_with fail
  go_loopw [7,8] (fun s7 s8 wr=> ∃(k:Nat) (R:bJ) (r:Int),s8= .int .i64 k∧s7= .int .i64 r∧k + R.len=kids.len∧oU p i op nm kids=(if r == 0 then nC p i R else r)∧R.All (sK p i)∧R.At wr wr.heap.size ao k∧Sit w wr [(w.heap.size + 1,0,.int .i64 op),(w.heap.size + 1,1,.int .i64 n),(w.heap.size + 1,2,.string nm),(w.heap.size + 1,3,.slice ao kids.len cap),(w.heap.size,0,.slice aC p.ds.length aA),(w.heap.size,1,.slice aF p.ts.length av)]) (fun _ s _=>kids.len - (intOf s).toNat)
  case atStart=>exact ⟨0,kids,r0,rfl,rfl,by simp,HR.out,qJ.out,HAT.out.same HY.out.1,HY.out⟩
  case round=>
   obtain ⟨k,R,r,rfl,rfl,hlen,heq,hall,hrow,hsit⟩:=hrel
   have HE:=Lib.hid heq
   have HZ:=Lib.hid hsit
   clear heq hsit
   obtain ⟨-,⟨-,c0⟩,⟨-,c1⟩,⟨-,c2⟩,⟨-,c3⟩,⟨-,c4⟩,⟨-,c5⟩,-⟩:=HZ.out
   cases R with
   | nil=>
     obtain rfl:k=kids.len:=by simpa [bJ.len] using hlen
     go_wp2_with fail
     go_ret
     exact ⟨aS (HE.out.trans (by cases h:(r == 0) <;> simp_all [nC])).symm,HZ.out.1⟩
   | cons op' n' nm' fq rest=>
     obtain ⟨⟨b,off,jO,cap',rfl,ni,x0,x1,x2,x3,hok',jy⟩,hrest⟩:=hrow
     obtain ⟨lT,kZ⟩:=hall
     have hlt:k < kids.len:=by simp only [bJ.len] at hlen; omega
     cases hr:(r == 0)
     ·have dA:=Lib.hid (HE.out.trans (by rw [hr]; rfl:_=r))
      go_wp2_with fail
      go_ret
      exact ⟨aS dA.out.symm,HZ.out.1⟩
     ·have dA:=Lib.hid (HE.out.trans (by rw [hr]; rfl:_=nC p i (.cons op' n' nm' fq rest)))
      go_wp2_with fail
      obtain ⟨T,F,qz,hst,hF,hnext⟩:=calm wr
      have HF:=Lib.hid hF
      have bS:=Lib.hid hnext
      clear hnext hF
      have d0:=fun x=>(HZ.out.next (HF.out x)).2.1.2
      have d1:=fun x=>(HZ.out.next (HF.out x)).2.2.1.2
      have d2:=fun x=>(HZ.out.next (HF.out x)).2.2.2.1.2
      have d3:=fun x=>(HZ.out.next (HF.out x)).2.2.2.2.1.2
      have d4:=fun x=>(HZ.out.next (HF.out x)).2.2.2.2.2.1.2
      have d5:=fun x=>(HZ.out.next (HF.out x)).2.2.2.2.2.2.1.2
      have y0:=fun x=>((HF.out x).cell (p:=⟨b,off + k * 4,none⟩) ni).trans x0
      have y1:=fun x=>((HF.out x).cell (p:=⟨b,off + k * 4 + 1,none⟩) ni).trans x1
      have y2:=fun x=>((HF.out x).cell (p:=⟨b,off + k * 4 + 2,none⟩) ni).trans x2
      have y3:=fun x=>((HF.out x).cell (p:=⟨b,off + k * 4 + 3,none⟩) ni).trans x3
      clear c0 c1 c2 c3 c4 c5 x0 x1 x2 x3
      have hk0:(0:Int)≤k:=by omega
      have hk1:(k:Int) < kids.len:=by omega
      refine gF F (by kernel_rfl) (by kernel_rfl) hst ?_
      repeat (any_goals (first | go_big_quiet_step ((go_at_call 72; refine (lT _ aC aF jO aA av cap' hi ((HP.out.same HZ.out.1).same (HF.out _)) hok' (jy.same (HF.out _))).mono ?_; rintro e w' ⟨rfl,hb⟩; exact ⟨rfl,bS.out _ _ hb⟩)) | (refine wpQuiet_step (fun K hK=> ?_); go_simp; first | (refine hK _ ?_; clear hK K) | (split <;> first | (refine hK _ ?_; clear hK K) | (apply Exists.intro; refine ⟨fun _=> ?_,hK _ ?_⟩; ((go_at_call 72; refine (lT _ aC aF jO aA av cap' hi ((HP.out.same HZ.out.1).same (HF.out _)) hok' (jy.same (HF.out _))).mono ?_; rintro e w' ⟨rfl,hb⟩; exact ⟨rfl,bS.out _ _ hb⟩)); clear hK K)))))
      all_goals (refine wpQuiet_nil ?_; rintro _ ⟨x,rfl⟩)
      have HB2:=Lib.hid (HF.out x)
      clear d0 d1 d2 d3 d4 d5 y0 y1 y2 y3 HF bS hst
      generalize F x=W2 at *
      go_wp2_with fail
      go_roundw
      case rel=>exact ⟨k + 1,rest,_,by go_num,rfl,by simp only [bJ.len] at hlen; omega,dA.out.trans (C9 p i op' n' nm' fq rest),kZ,hrest.same HB2.out,HZ.out.next HB2.out⟩
      case measure=>simp [intOf]; omega
theorem DV (p:Pr) (i:Int) (op n:Int) (nm:ByteArray) (kids:bJ):sK p i op n nm kids:=bJ.uy (Cu p i) op n nm kids
set_option maxHeartbeats 2000000 in
theorem kJ (p:Pr) (i:Int) (op n:Int) (nm:ByteArray) (kids:bJ) (w:World) (aC aF ao:Option Addr) (aA av cap:Nat) (hi:aX i) (hp:p.At w aC aF) (hok:lI op n nm kids) (hat:kids.At w w.heap.size ao 0):
 Calls Tryd.prog 51 #[.agg #[.slice aC p.ds.length aA,.slice aF p.ts.length av],.int .i64 i,.agg #[.int .i64 op,.int .i64 n,.string nm,.slice ao kids.len cap]] w fun e w'=>e= .returned (.int .i64 (iE p i op n nm kids))∧Below w.heap.size w w':=by
 have HAT:=Lib.hid hat
 have HP:=Lib.hid hp
 clear hat hp
 go_enter Tryd.func51,Tryd.ntmps51
 go_upto_region 1 with fail
 generalize hW:World.alloc (World.alloc w _) _=W
 generalize Value.agg #[_,_]=a0
 generalize Value.agg #[_,_,_,_]=a1
 have HX:=Lib.hid (((Sit.start w).kC rfl (.slice aC p.ds.length aA) (.slice aF p.ts.length av) 26).qX (n:=w.heap.size + 1) (by simp) (.int .i64 op) (.int .i64 n) (.string nm) (.slice ao kids.len cap) 40)
 rw [hW] at HX
 clear hW
 obtain ⟨-,⟨-,c0⟩,⟨-,c1⟩,⟨-,c2⟩,⟨-,c3⟩,⟨-,c4⟩,⟨-,c5⟩,-⟩:=HX.out
 go_wp2_with fail
 refine (oQ op n nm kids _ ao cap hok (HAT.out.same HX.out.1)).mono ?_
 rintro e w1 ⟨rfl,hb1⟩
 have HY:=Lib.hid (HX.out.next hb1)
 clear HX hb1 c0 c1 c2 c3 c4 c5
 obtain ⟨-,⟨-,c0⟩,⟨-,c1⟩,⟨-,c2⟩,⟨-,c3⟩,⟨-,c4⟩,⟨-,c5⟩,-⟩:=HY.out
 cases hS:jN op n nm kids
 ·have HE:Hid (iE p i op n nm kids=3):=Lib.hid (by unfold iE; rw [hS]; rfl)
  go_wp2_with fail
  go_ret
  exact ⟨aS HE.out.symm,HY.out.1⟩
 ·have HE:Hid (iE p i op n nm kids=if decide (24 < (ext kids).1) || decide (6 < (ext kids).2) then 2 else oU p i op nm kids):=Lib.hid (by unfold iE; rw [hS]; rfl)
  go_wp2_with fail
  refine (Ew op n nm kids _ ao cap hok (HAT.out.same HY.out.1)).mono ?_
  rintro e w2 ⟨rfl,hb2⟩
  have HZ:=Lib.hid (HY.out.next hb2)
  clear HY hb2 c0 c1 c2 c3 c4 c5
  obtain ⟨-,⟨-,c0⟩,⟨-,c1⟩,⟨-,c2⟩,⟨-,c3⟩,⟨-,c4⟩,⟨-,c5⟩,-⟩:=HZ.out
  generalize (ext kids).1=a at *
  generalize (ext kids).2=d at *
  cases h1:decide (24 < a)
  ·cases h2:decide (6 < d)
   ·have dA:=Lib.hid (HE.out.trans (by rw [h1,h2]; rfl:_=oU p i op nm kids))
    have q1:a≤24:=by simpa using h1
    have q2:d≤6:=by simpa using h2
    go_wp2_with fail
    refine (DV p i op n nm kids _ aC aF ao aA av cap hi (HP.out.same HZ.out.1) hok (HAT.out.same HZ.out.1)).mono ?_
    rintro e w3 ⟨rfl,hb3⟩
    go_wp2_with fail
    go_ret
    exact ⟨aS dA.out.symm,(HZ.out.next hb3).1⟩
   ·have dA:=Lib.hid (HE.out.trans (if_pos (by rw [h1,h2]; rfl)))
    have q1:a≤24:=by simpa using h1
    have q2:6 < d:=by simpa using h2
    go_wp2_with fail
    go_ret
    exact ⟨aS dA.out.symm,HZ.out.1⟩
  ·have dA:=Lib.hid (HE.out.trans (if_pos (by rw [h1]; rfl)))
   have q1:24 < a:=by simpa using h1
   go_wp2_with fail
   go_ret
   exact ⟨aS dA.out.symm,HZ.out.1⟩
end Go.Proofs.YtnknfoibmgphnaaDoor
