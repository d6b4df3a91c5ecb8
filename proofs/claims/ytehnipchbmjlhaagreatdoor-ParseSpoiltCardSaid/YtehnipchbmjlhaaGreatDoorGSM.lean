/-
  Contract of the reference's SameExpr at two expressions that are alike.
  A region that draws its order, with a ghost beside the world: whatever came up first, what each operation yields has a property that stays. No program in sight.
  Two boxes that are made in an open order, then filled. No program in sight.
  Contracts of the reference's SameTexts and SameStmts where the lists are alike.
  Contract of the reference's Same where two programs are alike.
-/
import Derived.Test.YtehnipchbmjlhaaGreatDoorGMA
import Derived.StillTailTactics
import Derived.Deep.QuietTactic
import Derived.Test.YtehnipchbmjlhaaGreatDoorGMB
import Derived.Deep.MidRow
import Derived.Sort.AtCall
import Derived.Deep.RegionWith
set_option linter.unusedSimpArgs false
set_option linter.unusedVariables false
set_option maxHeartbeats 40000000
set_option maxRecDepth 1000000
section
namespace Go.Proofs.YtehnipchbmjlhaaGreatDoor
open Go.RowKit
open Md
def Ep (op n:Int) (nm:ByteArray) (kids:aZ):Prop:=
 ∀(w:World) (ao:Option Addr) (cap:Nat) (oL:Option Addr) (cap2:Nat),qO op n nm kids→kids.At w w.heap.size ao 0→kids.At w w.heap.size oL 0→
  Calls Tryz.prog 23 #[.agg #[.int .i64 op,.int .i64 n,.string nm,.slice ao kids.len cap],.agg #[.int .i64 op,.int .i64 n,.string nm,.slice oL kids.len cap2]] w fun e w'=>e= .returned (.bool true)∧Below w.heap.size w w'
theorem Hf (op n:Int) (nm:ByteArray) (kids:aZ) (ih:kids.All Ep):Ep op n nm kids:=by
 intro w ao cap oL cap2 hok hat XK
 have hl:=hok.2.2.2
 unfold maxLen at hl
 have fD:=Lib.hid ih
 have HAT:=Lib.hid hat
 have AV:=Lib.hid XK
 clear ih hat XK hok
 go_enter Tryz.func23,Tryz.ntmps23
 go_upto_region 1 with fail
 have HX:=Lib.hid (((Sit.start w).xX rfl (.int .i64 op) (.int .i64 n) (.string nm) (.slice ao kids.len cap) 45).xX (n:=w.heap.size + 1) (by simp) (.int .i64 op) (.int .i64 n) (.string nm) (.slice oL kids.len cap2) 45)
 generalize hW:World.alloc (World.alloc w _) _=W at *
 clear hW
 obtain ⟨-,⟨-,c0⟩,⟨-,c1⟩,⟨-,c2⟩,⟨-,c3⟩,⟨-,c4⟩,⟨-,c5⟩,⟨-,c6⟩,⟨-,c7⟩,-⟩:=HX.out
 go_wp2_with fail
 go_loopw [5] (fun i wr=> ∃(k:Nat) (R:aZ),i= .int .i64 (k:Nat)∧k + R.len=kids.len∧R.All Ep∧R.At wr wr.heap.size ao k∧R.At wr wr.heap.size oL k∧Sit w wr [(w.heap.size + 1,0,.int .i64 op),(w.heap.size + 1,1,.int .i64 n),(w.heap.size + 1,2,.string nm),(w.heap.size + 1,3,.slice oL kids.len cap2),(w.heap.size,0,.int .i64 op),(w.heap.size,1,.int .i64 n),(w.heap.size,2,.string nm),(w.heap.size,3,.slice ao kids.len cap)]) (fun i _=>kids.len - (intOf i).toNat)
 case atStart=>exact ⟨0,kids,rfl,Nat.zero_add _,fD.out,HAT.out.same HX.out.1,AV.out.same HX.out.1,HX.out⟩
 case round=>
  obtain ⟨k,R,rfl,hlen,hall,hrow,hrow2,hsit⟩:=hrel
  have HY:=Lib.hid hsit
  clear hsit HX c0 c1 c2 c3 c4 c5 c6 c7
  obtain ⟨-,⟨-,c0⟩,⟨-,c1⟩,⟨-,c2⟩,⟨-,c3⟩,⟨-,c4⟩,⟨-,c5⟩,⟨-,c6⟩,⟨-,c7⟩,-⟩:=HY.out
  cases R with
  | nil=>
    obtain rfl:k=kids.len:=by simpa [aZ.len] using hlen
    go_wp2_with fail
    go_ret
    exact ⟨rfl,HY.out.1⟩
  | cons op' n' nm' gJ rest=>
    obtain ⟨⟨b,off,jf,cap',rfl,hbB,x0,x1,x2,x3,hok',xA⟩,hrest⟩:=hrow
    obtain ⟨⟨b2,off2,ap3,ZP,rfl,ax2,y0,y1,y2,y3,-,QE⟩,Qp⟩:=hrow2
    obtain ⟨zL,xw⟩:=hall
    have hlt:k < kids.len:=by simp only [aZ.len] at hlen; omega
    have hb0:(0:Int)≤(k:Int):=by omega
    have hb1:(k:Int) < (kids.len:Int):=by omega
    have HK:=Lib.hid (And.intro xA (And.intro QE (And.intro hrest (And.intro Qp hok'))))
    have HS:=Lib.hid zL
    clear xA QE hrest Qp hok' zL
    go_upto_region 6 with fail
    go_still_tail 10,(by kernel_rfl)
    change wpList _ _ _ _ _ (World.drew _)
    have hbd:Below wr.heap.size wr wr.drew:=below_drewN (Below.refl _ _) 1
    go_wp2_with fail
    refine (HS.out _ jf cap' ap3 ZP HK.out.2.2.2.2 (HK.out.1.same hbd) (HK.out.2.1.same hbd)).mono ?_
    rintro e w2 ⟨rfl,hb2⟩
    have hb3:Below wr.heap.size wr w2:=hbd.trans (hb2.mono hbd.size)
    have HZ:=Lib.hid (HY.out.next hb3)
    have HR:=Lib.hid (And.intro (HK.out.2.2.1.same hb3) (HK.out.2.2.2.1.same hb3))
    clear hb2 hb3 hbd HY HK x0 x1 x2 x3 y0 y1 y2 y3 c0 c1 c2 c3 c4 c5 c6 c7
    go_wp2_with fail
    go_roundw
    case rel=>exact ⟨k + 1,rest,by go_num,by simp only [aZ.len] at hlen; omega,xw,HR.out.1,HR.out.2,HZ.out⟩
    case measure=>simp [intOf]; omega
theorem vo (op n:Int) (nm:ByteArray) (kids:aZ):Ep op n nm kids:=aZ.Ig Hf op n nm kids
end Go.Proofs.YtehnipchbmjlhaaGreatDoor
end
section
namespace Go.Proofs.YtehnipchbmjlhaaGreatDoor
open Go.RowKit
abbrev RG (G:Type):=Value→G→World→Prop
section
variable {G:Type}
def fV (ents:List (Option Tmp × RG G)) (A:Act) (g:G) (w:World):List Edge→Prop
 | []=>True
 | e ::r=>(if Region.binds .any e=true then (match ents[e.on]? with | some (d,R)=>R (au A d) g w | none=>True) else True)∧fV ents A g w r
def jk (ents:List (Option Tmp × RG G)) (A:Act) (o:Oper):Bool:=
 match o.guard with
 | none=>true
 | some (g,b)=>match ents[g]? with
   | some (some d,_)=>match A.eval (.tmp d) with
     | .bool x=>x == b
     | _=>false
   | _=>false
def dF (C:G→World→Prop) (Le:G→World→G→World→Prop) (R:RG G) (A:Act) (dst:Option Tmp) (g:G) (w:World) (a':Act) (w':World):Prop:=
 ∃v g',a'=A.put dst v∧Le g w g' w'∧C g' w'∧R (if dst.isSome then v else undef) g' w'
theorem dF.mk {C:G→World→Prop} {Le:G→World→G→World→Prop} {R:RG G} {A:Act} {d:Tmp} {g g':G} {w w':World} {v:Value} (hle:Le g w g' w') (hC:C g' w') (hR:R v g' w'):dF C Le R A (some d) g w (A.put (some d) v) w':=⟨v,g',rfl,hle,hC,hR⟩
theorem dF.yU {C:G→World→Prop} {Le:G→World→G→World→Prop} {R:RG G} {A:Act} {g g':G} {w w':World} {v:Value} (hle:Le g w g' w') (hC:C g' w') (hR:R undef g' w'):dF C Le R A none g w (A.put none v) w':=⟨v,g',rfl,hle,hC,hR⟩
def wN (D:Nat→Bool) (i:Nat):Nat→Bool:=fun k=>D k || k == i
def Ih (P:Program) (a0:Act) (Q:Exit→Act→World→Prop) (C:(Nat→Bool)→G→World→Prop) (Le:G→World→G→World→Prop) (cK:List Tmp) (ents:List (Option Tmp × RG G)) (o:Oper) (R:RG G) (i:Nat):Prop:=
 ∀D A g w,D i=false→C D g w→(∀s,cK.contains s=false→A.eval (.tmp s)=a0.eval (.tmp s))→fV ents A g w o.after.toList→
  if jk ents A o then o.wp P A w (dF (C (wN D i)) Le R A o.dst g w) Q else (C (wN D i) g w∧R undef g w)
def fF (c:Value):RG G:=fun v _ _=>v=c
theorem fF.mk (c:Value) (g:G) (w:World):fF c c g w:=rfl
def EI (g:G) (ents:List (Option Tmp × RG G)):List (Option Tmp × RP):=ents.map fun x=>(x.1,fun v w=>x.2 v g w)
def gP (P:Program) (a0:Act) (Q:Exit→Act→World→Prop) (C:(Nat→Bool)→G→World→Prop) (Le:G→World→G→World→Prop) (cK:List Tmp):List Oper→List (Option Tmp × RG G)→Prop
 | [],ents=> ∀D g w,(∀i,i < ents.length→D i=true)→C D g w→eD w (fun a=>Q .normal a w) (EI g ents) a0
 | o ::rest,ents=> ∃R:RG G,(∀v g w g' w',Le g w g' w'→R v g w→R v g' w')∧Ih P a0 Q C Le cK ents o R ents.length∧gP P a0 Q C Le cK rest (ents++[(o.dst,R)])
variable {P:Program} {a0:Act} {Q:Exit→Act→World→Prop} {C:(Nat→Bool)→G→World→Prop} {Le:G→World→G→World→Prop} {cK:List Tmp}
theorem gP.full: ∀ {l:List Oper} {ents:List (Option Tmp × RG G)},gP P a0 Q C Le cK l ents→ ∃full:List (Option Tmp × RG G),full.length=ents.length + l.length∧full.take ents.length=ents∧
 (∀(i:Nat) (o:Oper),l[i]? =some o→ ∃R,full[ents.length + i]? =some (o.dst,R)∧(∀v g w g' w',Le g w g' w'→R v g w→R v g' w')∧Ih P a0 Q C Le cK (full.take (ents.length + i)) o R (ents.length + i))∧
 ∀D g w,(∀i,i < full.length→D i=true)→C D g w→eD w (fun a=>Q .normal a w) (EI g full) a0
 | [],ents,h=>⟨ents,by simp,by simp,by simp,h⟩
 | o ::rest,ents,h=>by
   obtain ⟨R,hm,ho,hr⟩:=h
   obtain ⟨full,h1,h2,h3,h4⟩:=gP.full hr
   simp only [List.length_append,List.length_cons,List.length_nil,Nat.zero_add] at h1 h2 h3
   have hlen:ents.length < full.length:=by omega
   have hget:full[ents.length]? =some (o.dst,R):=by
    have:=congrArg (fun l=>l[ents.length]?) h2
    simpa using this
   refine ⟨full,by simp; omega,?_,?_,h4⟩
   ·have:=congrArg (List.take ents.length) h2
    simpa [List.take_take] using this
   ·intro i o' hi
    cases i with
    | zero=>
      simp only [List.getElem?_cons_zero,Option.some.injEq] at hi
      subst hi
      refine ⟨R,by simpa using hget,hm,?_⟩
      have:full.take (ents.length + 0)=ents:=by
       have:=congrArg (List.take ents.length) h2
       simpa [List.take_take] using this
      rw [this]; exact ho
    | succ i=>
      have hi':rest[i]? =some o':=by simpa using hi
      have:=h3 i o' hi'
      rw [show ents.length + (i + 1)=ents.length + 1 + i by omega]
      exact this
theorem gP.step {o:Oper} {rest:List Oper} {ents:List (Option Tmp × RG G)} {v:Value} (aG:Ih P a0 Q C Le cK ents o (fF v) ents.length) (hrest:gP P a0 Q C Le cK rest (ents++[(o.dst,fF v)])):gP P a0 Q C Le cK (o ::rest) ents:=
 ⟨fF v,fun _ _ _ _ _ _ h=>h,aG,hrest⟩
theorem gP.some {o:Oper} {rest:List Oper} {ents:List (Option Tmp × RG G)} (R:RG G) (hmono: ∀v g w g' w',Le g w g' w'→R v g w→R v g' w') (aG:Ih P a0 Q C Le cK ents o R ents.length) (hrest:gP P a0 Q C Le cK rest (ents++[(o.dst,R)])):gP P a0 Q C Le cK (o ::rest) ents:=
 ⟨R,hmono,aG,hrest⟩
theorem gP.done {ents:List (Option Tmp × RG G)} (h: ∀D g w,(∀i,i < ents.length→D i=true)→C D g w→eD w (fun a=>Q .normal a w) (EI g ents) a0):gP P a0 Q C Le cK [] ents:=h
theorem JM {full:List (Option Tmp × RG G)} {A:Act} {g:G} {w:World} {i:Nat} : ∀ {l:List Edge},(∀e ∈ l,Region.binds .any e=true→ ∀(d:Option Tmp) (R:RG G),full[e.on]? =some (d,R)→R (au A d) g w)→fV (full.take i) A g w l
 | [],_=>trivial
 | e ::r,h=>by
   refine ⟨?_,JM fun e' he'=>h e' (by simp [he'])⟩
   split
   case isFalse=>trivial
   case isTrue hb=>
   cases hg:(full.take i)[e.on]? with
   | none=>trivial
   | some x=>
     obtain ⟨d,R⟩:=x
     rw [List.getElem?_take] at hg
     split at hg
     ·exact h e (by simp) hb d R hg
     ·cases hg
def Ec (listed:Array Bool):Nat→Bool:=fun i=>listed.getD i false
theorem Vq {listed:Array Bool} {i:Nat} (hi:i < listed.size):Ec (listed.setIfInBounds i true)=wN (Ec listed) i:=by
 funext k
 unfold Ec wN
 by_cases hk:i=k
 ·subst hk; simp [hi]
 ·rw [getD_set_ne false hk]
  have:(k == i)=false:=by rw [beq_eq_false_iff_ne]; exact fun e=>hk e.symm
  rw [this,Bool.or_false]
def TW (a0:Act) (C:(Nat→Bool)→G→World→Prop) (full:List (Option Tmp × RG G)) (n:Nat) (listed:Array Bool) (a:Act) (g:G) (w:World):Prop:=
 listed.size=n∧C (Ec listed) g w∧a.defers=a0.defers∧a.tmps.size=a0.tmps.size∧
 (∀s:Nat,(∀(i:Nat) (d:Tmp) (R:RG G),full[i]? =some (some d,R)→listed.getD i false=true→d≠s)→a.tmps[s]? =a0.tmps[s]?)∧
 ∀(i:Nat) (d:Option Tmp) (R:RG G),full[i]? =some (d,R)→listed.getD i false=true→R (au a d) g w
theorem VR {ops:Array Oper} {full:List (Option Tmp × RG G)} {o:Oper} {A:Act} {i:Nat} (hf: ∀(k:Nat) (ok:Oper),ops[k]? =some ok→ ∃R,full[k]? =some (ok.dst,R)) (hlen:full.length=ops.size)
 (hg: ∀g b,o.guard=some (g,b)→g < i):Region.wanted o (yielded ops A.tmps)=jk (full.take i) A o:=by
 unfold Region.wanted jk
 cases ho:o.guard with
 | none=>rfl
 | some x=>
   obtain ⟨g,b⟩:=x
   have hgi:=hg g b ho
   simp only
   rw [List.getElem?_take,if_pos hgi]
   unfold yielded
   cases hk:ops[g]? with
   | none=>
     have:full[g]? =none:=List.getElem?_eq_none (by rw [hlen]; exact Array.getElem?_eq_none_iff.1 hk)
     rw [this]; rfl
   | some ok=>
     obtain ⟨R,hR⟩:=hf g ok hk
     rw [hR]
     simp only [Option.bind_some]
     cases hd:ok.dst with
     | none=>rfl
     | some d=>
       simp only [Option.bind_some,Act.eval]
       cases ht:A.tmps[d]? with
       | none=>simp [ht,undef]
       | some v=>
         simp only [Array.getD_eq_getD_getElem?,ht,Option.getD_some]
         cases v <;> first | rfl | (rename_i x; cases x <;> cases b <;> rfl)
theorem QC {l:List Oper} {full:List (Option Tmp × RG G)} (yE: ∀g w,Le g w g w) (hbd: ∀d ∈ cK,d < a0.tmps.size) (hlen:full.length=l.length) (hnd:(l.filterMap (·.dst)).Nodup) (ou:l.filterMap (·.dst)=cK)
 (hed: ∀(i:Nat) (o:Oper),l[i]? =some o→ ∀d ∈ kS o,d < i) (hgu: ∀(i:Nat) (o:Oper),l[i]? =some o→ ∀g b,o.guard=some (g,b)→g < i)
 (hf: ∀(i:Nat) (o:Oper),l[i]? =some o→ ∃R,full[i]? =some (o.dst,R)∧(∀v g w g' w',Le g w g' w'→R v g w→R v g' w')∧Ih P a0 Q C Le cK (full.take i) o R i)
 (hend: ∀D g w,(∀i,i < full.length→D i=true)→C D g w→eD w (fun a=>Q .normal a w) (EI g full) a0):
 ∀(fuel:Nat) (listed:Array Bool) (a:Act) (g:G) (w:World),cnt listed l.length≤fuel→TW a0 C full l.length listed a g w→wpAny P .any l.toArray Q fuel listed a w:=by
 have hmono: ∀(i:Nat) (d:Option Tmp) (R:RG G),full[i]? =some (d,R)→ ∀v g w g' w',Le g w g' w'→R v g w→R v g' w':=fun i d R hi=>by
  have hlt:i < l.length:=by rw [← hlen]; exact (List.getElem?_eq_some_iff.1 hi).1
  obtain ⟨R',h1,h2,-⟩:=hf i l[i] (List.getElem?_eq_getElem hlt)
  rw [hi] at h1
  simp only [Option.some.injEq,Prod.mk.injEq] at h1
  rw [h1.2]; exact h2
 have hdst: ∀(i:Nat) (d:Option Tmp) (R:RG G),full[i]? =some (d,R)→ ∃o,l[i]? =some o∧o.dst=d:=fun i d R hi=>by
  have hlt:i < l.length:=by rw [← hlen]; exact (List.getElem?_eq_some_iff.1 hi).1
  obtain ⟨R',h1,-⟩:=hf i l[i] (List.getElem?_eq_getElem hlt)
  rw [hi] at h1
  simp only [Option.some.injEq,Prod.mk.injEq] at h1
  exact ⟨l[i],List.getElem?_eq_getElem hlt,h1.1.symm⟩
 have hall: ∀listed a g w,TW a0 C full l.length listed a g w→(∀i,i < l.length→listed.getD i false=true)→Q .normal a w:=fun listed a g w hI ha=>by
  obtain ⟨hsz0,hC,hd,hz,hs,hR⟩:=hI
  refine (hend (Ec listed) g w (fun i hi=>ha i (by rw [← hlen]; exact hi)) hC).use (a':=a) (fun i d R hi=> ?_) hd hz (fun s hne=>hs s (fun i d R hi _=>hne i d (fun v w=>R v g w) (by unfold EI; rw [List.getElem?_map,hi]; rfl)))
  unfold EI at hi
  rw [List.getElem?_map] at hi
  cases hq:full[i]? with
  | none=>rw [hq] at hi; cases hi
  | some x=>
    obtain ⟨d',R'⟩:=x
    rw [hq] at hi
    simp only [Option.map_some,Option.some.injEq,Prod.mk.injEq] at hi
    obtain ⟨rfl,rfl⟩:=hi
    refine hR i d' R' hq (ha i ?_)
    rw [← hlen]; exact (List.getElem?_eq_some_iff.1 hq).1
 have AJ: ∀listed:Array Bool,listed.size=l.length→Region.ready .any l.toArray listed=[]→ ∀i,i < l.length→listed.getD i false=true:=fun listed hsz hr i=>by
  induction i using Nat.strongRecOn with
  | _ i ih=>
    intro hi
    cases hg:listed.getD i false with
    | true=>rfl
    | false=>
      exfalso
      have:i ∈ Region.ready .any l.toArray listed:=mem_ready.2 ⟨by
       have h1:i < listed.size:=by omega
       simp [h1] at hg ⊢; exact hg,l[i],by simp [hi],fun e he hb=>ih e.on (hed i l[i] (List.getElem?_eq_getElem hi) e.on (tY he hb)) (by
        have:=hed i l[i] (List.getElem?_eq_getElem hi) e.on (tY he hb); omega)⟩
      rw [hr] at this; cases this
 intro fuel
 induction fuel with
 | zero=>
   intro listed a g w hc hI
   have ha:=zI (Nat.le_zero.1 hc)
   refine ⟨?_,hall listed a g w hI ha⟩
   rw [List.eq_nil_iff_forall_not_mem]
   intro i hi
   obtain ⟨h0,o,ho,-⟩:=mem_ready.1 hi
   have hlt:i < l.length:=by simpa using (Array.getElem?_eq_some_iff.1 ho).1
   have:=ha i hlt
   have h1:i < listed.size:=by rw [hI.1]; exact hlt
   simp [h1] at h0 this; rw [h0] at this; cases this
 | succ fuel ih=>
   intro listed a g w hc hI
   refine ⟨fun hr=>hall listed a g w hI (AJ listed hI.1 hr),fun i hi=> ?_⟩
   obtain ⟨h0,o,ho,yt⟩:=mem_ready.1 hi
   have hlt:i < l.length:=by simpa using (Array.getElem?_eq_some_iff.1 ho).1
   have hlo:l[i]? =some o:=by simpa using ho
   have hls:i < listed.size:=by rw [hI.1]; exact hlt
   have hun:listed.getD i false=false:=by simp [hls] at h0 ⊢; exact h0
   obtain ⟨R,Cm,hRm,OU⟩:=hf i o hlo
   obtain ⟨hsz,hC,hd,hz,hs,hR⟩:=hI
   have hW:=VR (A:=a) (o:=o) (i:=i) (ops:=l.toArray) (full:=full) (fun k ok hk=>by
    obtain ⟨R',h1,-⟩:=hf k ok (by simpa using hk)
    exact ⟨R',h1⟩) (by simpa using hlen) (hgu i o hlo)
   have hstep:=OU (Ec listed) a g w hun hC (fun s hs'=>by
    have:a.tmps[s]? =a0.tmps[s]?:=hs s (fun k d R' hk _ e=>by
     obtain ⟨ok,hok,hdk⟩:=hdst k (some d) R' hk
     have:d ∈ cK:=by rw [← ou]; exact List.mem_filterMap.2 ⟨ok,List.mem_of_getElem? hok,hdk⟩
     rw [e] at this
     simp at hs'
     exact hs' this)
    simp [Act.eval,this]) (JM (fun e he hb d R' hR'=>hR e.on d R' hR' (yt e (by simpa using he) hb)))
   have hnext: ∀(v:Value) (g':G) (w':World),Le g w g' w'→C (wN (Ec listed) i) g' w'→R (au (a.put o.dst v) o.dst) g' w'→wpAny P .any l.toArray Q fuel (listed.setIfInBounds i true) (a.put o.dst v) w':=fun v g' w' hle hC' hv=>by
    refine ih _ _ g' _ ?_ ⟨by simp [hsz],by rw [Vq hls]; exact hC',?_,?_,?_,?_⟩
    ·have:=Cc hls hun l.length
     rw [if_pos hlt] at this
     omega
    ·cases o.dst <;> simpa [Act.put] using hd
    ·cases o.dst <;> simpa [Act.put] using hz
    ·intro s hne
     have h1:a.tmps[s]? =a0.tmps[s]?:=hs s (fun k d R' hk hl=>hne k d R' hk (getD_set_true hl))
     cases hod:o.dst with
     | none=>simpa [Act.put] using h1
     | some d=>
       have hds:d≠s:=hne i d R (by rw [Cm,hod]) (by simp [hls])
       simp only [Act.put]
       rw [Array.getElem?_setIfInBounds_ne hds]; exact h1
    ·intro k d R' hk hl
     by_cases hik:i=k
     ·subst hik
      rw [Cm] at hk
      simp only [Option.some.injEq,Prod.mk.injEq] at hk
      obtain ⟨rfl,rfl⟩:=hk
      exact hv
     ·have hl':listed.getD k false=true:=by rwa [getD_set_ne false hik] at hl
      have h1:=hmono k d R' hk _ _ _ _ _ hle (hR k d R' hk hl')
      have:au (a.put o.dst v) d=au a d:=by
       cases hod:o.dst with
       | none=>rfl
       | some d1=>
         cases d with
         | none=>rfl
         | some d2=>
           have hne:d1≠d2:=fun e=>by
            obtain ⟨ok,hok,hdk⟩:=hdst k (some d2) R' hk
            exact hik (xu hnd i k o ok d2 hlo hok (by rw [hod,e]) hdk)
           simp [au,Act.eval,Act.put,Array.getElem?_setIfInBounds_ne hne]
      rw [this]; exact h1
   unfold wpOp
   simp only [ho]
   rw [hW]
   cases hgd:jk (full.take i) a o with
   | true=>
     rw [hgd] at hstep
     simp only [if_true] at hstep ⊢
     refine Or.inl (Oper.wp_mono ?_ hstep)
     rintro a' w' ⟨v,g',rfl,hle,hC',hv⟩
     refine hnext v g' w' hle hC' ?_
     cases hod:o.dst with
     | none=>rw [hod] at hv; exact hv
     | some d=>
       rw [hod] at hv
       simp only [Option.isSome_some,if_true] at hv
       have hdl:d < a.tmps.size:=by
        rw [hz]; exact hbd d (by rw [← ou]; exact List.mem_filterMap.2 ⟨o,List.mem_of_getElem? hlo,hod⟩)
       simpa [au,Act.eval,Act.put,hdl] using hv
   | false=>
     rw [hgd] at hstep
     simp only [Bool.false_eq_true,if_false] at hstep ⊢
     refine hnext undef g w (yE g w) hstep.1 ?_
     cases hod:o.dst with
     | none=>exact hstep.2
     | some d=>
       have hdl:d < a.tmps.size:=by
        rw [hz]; exact hbd d (by rw [← ou]; exact List.mem_filterMap.2 ⟨o,List.mem_of_getElem? hlo,hod⟩)
       simpa [au,Act.eval,Act.put,hdl] using hstep.2
theorem rM {id:Nat} {l:List Oper} {w:World} (C:(Nat→Bool)→G→World→Prop) (Le:G→World→G→World→Prop) (cK:List Tmp) (g0:G) (hm:P.follows .mixedOrders=true) (hB:(l.filterMap (·.dst) == cK && Cb l)=true) (yE: ∀g w,Le g w g w) (hbd:(cK.all fun d=>decide (d < a0.tmps.size))=true) (hC:C (fun _=>false) g0 (w.drewN 1))
 (h:gP P a0 Q C Le cK l []):(Code.region id l.toArray true).wp P Q a0 w:=by
 unfold Cb at hB
 simp only [Bool.and_eq_true,beq_iff_eq,decide_eq_true_eq] at hB
 obtain ⟨ou,hnd,hz⟩:=hB
 obtain ⟨full,h1,-,h3,h4⟩:=h.full
 simp only [List.length_nil,Nat.zero_add] at h1 h3
 have hed: ∀(i:Nat) (o:Oper),l[i]? =some o→(∀d ∈ kS o,d < i)∧ ∀g b,o.guard=some (g,b)→g < i:=fun i o hi=>by
  have:=qM hz i o hi
  simp only [Bool.and_eq_true,List.all_eq_true,decide_eq_true_eq] at this
  refine ⟨this.1,fun g b hg=> ?_⟩
  have h2:=this.2
  rw [hg] at h2
  simpa using h2
 refine wp_region_any hm ?_
 have hdr:({w with drawn:=w.drawn + 1} :World)=w.drewN 1:=rfl
 rw [hdr]
 have hD:Ec (Array.replicate l.toArray.size false)=fun _=>false:=by
  funext k; unfold Ec; rw [Array.getD_eq_getD_getElem?]; by_cases hk:k < l.length <;> simp [hk]
 refine QC yE (fun d hd=>by rw [List.all_eq_true] at hbd; simpa using hbd d hd) h1 hnd ou (fun i o hi=>(hed i o hi).1) (fun i o hi=>(hed i o hi).2) h3 h4 _ _ _ g0 _ ?_ ⟨by simp,by rw [hD]; exact hC,rfl,rfl,fun _ _=>rfl,fun i d R _ hl=> ?_⟩
 ·have: ∀n,cnt (Array.replicate l.toArray.size false) n≤n:=fun n=>by
   induction n with
   | zero=>simp [cnt]
   | succ n ih=>simp only [cnt]; split <;> omega
  simpa using this l.length
 ·exfalso
  rw [Array.getD_eq_getD_getElem?] at hl
  by_cases hi:i < l.length
  ·simp [hi] at hl
  ·rw [Array.getElem?_eq_none (by simpa using hi)] at hl; cases hl
end
end Go.Proofs.YtehnipchbmjlhaaGreatDoor
end
section
namespace Go.Proofs.YtehnipchbmjlhaaGreatDoor
open Go.RowKit
theorem CZ {w:World} {K:Act→Prop} {a:Act} (h:K a):eD w K [] a:=h
structure Gb where
 o8:Option Nat
 o9:Option Nat
 s8:Bool
 s9:Bool
def Gb.le (g g':Gb):Prop:=(∀b,g.o8=some b→g'.o8=some b)∧(∀b,g.o9=some b→g'.o9=some b)∧(g.s8=true→g'.s8=true)∧(g.s9=true→g'.s9=true)
theorem Gb.le_refl (g:Gb):g.le g:=⟨fun _ h=>h,fun _ h=>h,fun h=>h,fun h=>h⟩
structure mI (wr:World) (n:Nat) (Z X Y:Array Value) (ty:TypeId) (D:Nat→Bool) (g:Gb) (w:World):Prop where
 bl:Below wr.heap.size wr w
 d8:D n=false→g.o8=none
 d9:D (n + 1)=false→g.o9=none
 e8:D (n + 2)=false→g.s8=false
 e9:D (n + 3)=false→g.s9=false
 f8:g.o8=none→g.s8=false
 f9:g.o9=none→g.s9=false
 b8: ∀b,g.o8=some b→wr.heap.size≤b∧w.heap[b]? =some (.cells (if g.s8 then X else Z) ty (0,0))
 b9: ∀b,g.o9=some b→wr.heap.size≤b∧w.heap[b]? =some (.cells (if g.s9 then Y else Z) ty (0,0))
 ne: ∀b b',g.o8=some b→g.o9=some b'→b≠b'
section
variable {wr w:World} {n:Nat} {Z X Y:Array Value} {ty:TypeId} {D:Nat→Bool} {g:Gb}
theorem ow {D:Nat→Bool} {i k:Nat} (h:wN D i k=false):D k=false:=by
 unfold wN at h; rw [Bool.or_eq_false_iff] at h; exact h.1
theorem I7 {D:Nat→Bool} {i:Nat} (h:wN D i i=false):False:=by
 unfold wN at h; simp at h
theorem mI.start:mI wr n Z X Y ty (fun _=>false) ⟨none,none,false,false⟩ (wr.drewN 1):=
 ⟨below_drewN (Below.refl _ _) 1,fun _=>rfl,fun _=>rfl,fun _=>rfl,fun _=>rfl,fun _=>rfl,fun _=>rfl,(fun b h=>by cases h),(fun b h=>by cases h),(fun b b' h _=>by cases h)⟩
theorem mI.skip (h:mI wr n Z X Y ty D g w) (i:Nat):mI wr n Z X Y ty (wN D i) g w:=
 ⟨h.bl,fun e=>h.d8 (ow e),fun e=>h.d9 (ow e),fun e=>h.e8 (ow e),fun e=>h.e9 (ow e),h.f8,h.f9,h.b8,h.b9,h.ne⟩
theorem mI.Xc (h:mI wr n Z X Y ty D g w) (hD:D n=false):Gb.le g {g with o8:=some w.heap.size} ∧mI wr n Z X Y ty (wN D n) {g with o8:=some w.heap.size} (w.alloc (.cells Z ty)):=by
 have h0:=h.d8 hD
 have hs:=h.f8 h0
 have hb:=ah w (.cells Z ty)
 refine ⟨⟨(fun b e=>by rw [h0] at e; cases e),fun _ e=>e,fun e=>e,fun e=>e⟩,h.bl.trans (hb.mono h.bl.size),fun e=>(I7 e).elim,fun e=>h.d9 (ow e),fun e=>hs,fun e=>h.e9 (ow e),fun _=>hs,h.f9,fun b e=> ?_,fun b e=> ?_,fun b b' e e'=> ?_⟩
 ·injection e with e; subst e
  exact ⟨h.bl.size,by rw [hs]; exact heap_alloc_new _ _⟩
 ·obtain ⟨h1,h2⟩:=h.b9 b e
  exact ⟨h1,(heap_alloc_old _ _ (Array.getElem?_eq_some_iff.1 h2).1).trans h2⟩
 ·injection e with e; subst e
  have:=(Array.getElem?_eq_some_iff.1 (h.b9 b' e').2).1
  omega
theorem mI.XA (h:mI wr n Z X Y ty D g w) (hD:D (n + 1)=false):Gb.le g {g with o9:=some w.heap.size} ∧mI wr n Z X Y ty (wN D (n + 1)) {g with o9:=some w.heap.size} (w.alloc (.cells Z ty)):=by
 have h0:=h.d9 hD
 have hs:=h.f9 h0
 have hb:=ah w (.cells Z ty)
 refine ⟨⟨fun _ e=>e,(fun b e=>by rw [h0] at e; cases e),fun e=>e,fun e=>e⟩,h.bl.trans (hb.mono h.bl.size),fun e=>h.d8 (ow e),fun e=>(I7 e).elim,fun e=>h.e8 (ow e),fun e=>hs,h.f8,fun _=>hs,fun b e=> ?_,fun b e=> ?_,fun b b' e e'=> ?_⟩
 ·obtain ⟨h1,h2⟩:=h.b8 b e
  exact ⟨h1,(heap_alloc_old _ _ (Array.getElem?_eq_some_iff.1 h2).1).trans h2⟩
 ·injection e with e; subst e
  exact ⟨h.bl.size,by rw [hs]; exact heap_alloc_new _ _⟩
 ·injection e' with e'; subst e'
  have:=(Array.getElem?_eq_some_iff.1 (h.b8 b e).2).1
  omega
theorem qQ {w:World} {b k:Nat} {vs:List Value} (hk:k≠b) (hl:k < w.heap.size):(w.setCells b 0 vs).heap[k]? =w.heap[k]?:=
 (aP b vs 0 w).block k hl (by simp; exact hk)
theorem mI.Ye (h:mI wr n Z X Y ty D g w) (hD:D (n + 2)=false) {b:Nat} (hb:g.o8=some b) (hX:X.size=Z.size):Gb.le g {g with s8:=true} ∧mI wr n Z X Y ty (wN D (n + 2)) {g with s8:=true} (w.setCells b 0 X.toList):=by
 obtain ⟨h1,h2⟩:=h.b8 b hb
 rw [h.e8 hD] at h2
 have hg:=aP b X.toList 0 w
 refine ⟨⟨fun _ e=>e,fun _ e=>e,fun _=>rfl,fun e=>e⟩,?_,fun e=>h.d8 (ow e),fun e=>h.d9 (ow e),fun e=>(I7 e).elim,fun e=>h.e9 (ow e),(fun e=>by rw [hb] at e; cases e),h.f9,fun b' e=> ?_,fun b' e=> ?_,h.ne⟩
 ·exact ⟨hg.os.trans h.bl.os,hg.tape.trans h.bl.tape,hg.output.trans h.bl.output,Nat.le_trans h.bl.size hg.size,fun k hk=>(qQ (by omega) (Nat.lt_of_lt_of_le hk h.bl.size)).trans (h.bl.block k hk)⟩
 ·have e':b=b':=by rw [hb] at e; injection e
  subst e'
  exact ⟨h1,(iw h2 (by simp [hX])).trans (by simp)⟩
 ·obtain ⟨h3,h4⟩:=h.b9 b' e
  exact ⟨h3,(qQ (fun e2=>h.ne b b' hb e e2.symm) (Array.getElem?_eq_some_iff.1 h4).1).trans h4⟩
theorem mI.Z4 (h:mI wr n Z X Y ty D g w) (hD:D (n + 3)=false) {b:Nat} (hb:g.o9=some b) (hY:Y.size=Z.size):Gb.le g {g with s9:=true} ∧mI wr n Z X Y ty (wN D (n + 3)) {g with s9:=true} (w.setCells b 0 Y.toList):=by
 obtain ⟨h1,h2⟩:=h.b9 b hb
 rw [h.e9 hD] at h2
 have hg:=aP b Y.toList 0 w
 refine ⟨⟨fun _ e=>e,fun _ e=>e,fun e=>e,fun _=>rfl⟩,?_,fun e=>h.d8 (ow e),fun e=>h.d9 (ow e),fun e=>h.e8 (ow e),fun e=>(I7 e).elim,h.f8,(fun e=>by rw [hb] at e; cases e),fun b' e=> ?_,fun b' e=> ?_,h.ne⟩
 ·exact ⟨hg.os.trans h.bl.os,hg.tape.trans h.bl.tape,hg.output.trans h.bl.output,Nat.le_trans h.bl.size hg.size,fun k hk=>(qQ (by omega) (Nat.lt_of_lt_of_le hk h.bl.size)).trans (h.bl.block k hk)⟩
 ·obtain ⟨h3,h4⟩:=h.b8 b' e
  exact ⟨h3,(qQ (fun e2=>h.ne b' b e hb e2) (Array.getElem?_eq_some_iff.1 h4).1).trans h4⟩
 ·have e':b=b':=by rw [hb] at e; injection e
  subst e'
  exact ⟨h1,(iw h2 (by simp [hY])).trans (by simp)⟩
theorem mI.Kr (h:mI wr n Z X Y ty D g w) (hD:D (n + 2)=false) {b m:Nat} (hb:g.o8=some b) (hm:m≤Z.size):w.there b 0 m:=by
 obtain ⟨h1,h2⟩:=h.b8 b hb
 rw [h.e8 hD] at h2
 exact nW h2 hm
theorem mI.II (h:mI wr n Z X Y ty D g w) (hD:D (n + 3)=false) {b m:Nat} (hb:g.o9=some b) (hm:m≤Z.size):w.there b 0 m:=by
 obtain ⟨h1,h2⟩:=h.b9 b hb
 rw [h.e9 hD] at h2
 exact nW h2 hm
theorem mI.two (h:mI wr n Z X Y ty D g w) {b b':Nat} (h8:g.o8=some b) (h9:g.o9=some b') (hs:g.s8=true) (hs':g.s9=true):
 Below wr.heap.size wr w∧wr.heap.size≤b∧wr.heap.size≤b'∧b≠b'∧w.heap[b]? =some (.cells X ty (0,0))∧w.heap[b']? =some (.cells Y ty (0,0)):=by
 obtain ⟨h1,h2⟩:=h.b8 b h8
 obtain ⟨h3,h4⟩:=h.b9 b' h9
 rw [hs] at h2
 rw [hs'] at h4
 exact ⟨h.bl,h1,h3,h.ne b b' h8 h9,h2,h4⟩
end
end Go.Proofs.YtehnipchbmjlhaaGreatDoor
end
section
namespace Go.Proofs.YtehnipchbmjlhaaGreatDoor
open Go.RowKit
open Md
theorem Ho (l:List ByteArray) (w:World) (ao oL:Option Addr) (cap cap2:Nat) (hl:l.length≤maxLen) (h1:mo w w.heap.size l ao 0) (h2:mo w w.heap.size l oL 0):
 Calls Tryz.prog 35 #[.slice ao l.length cap,.slice oL l.length cap2] w fun e w'=>e= .returned (.bool true)∧Below w.heap.size w w':=by
 unfold maxLen at hl
 go_enter Tryz.func35,Tryz.ntmps35
 go_wp2_with fail
 go_loopw [5] (fun s wr=> ∃(k:Nat) (R:List ByteArray),s= .int .i64 k∧k + R.length=l.length∧mo wr wr.heap.size R ao k∧mo wr wr.heap.size R oL k∧Below w.heap.size w wr) (fun s _=>l.length - (intOf s).toNat)
 case atStart=>exact ⟨0,l,rfl,by simp,h1,h2,Below.refl _ _⟩
 case round=>
  obtain ⟨k,R,rfl,hlen,hr1,hr2,hB⟩:=hrel
  cases R with
  | nil=>
    obtain rfl:k=l.length:=by simpa using hlen
    go_wp2_with fail
    go_ret
    exact ⟨rfl,hB⟩
  | cons s R=>
    obtain ⟨⟨b,off,rfl,hb,x0,-⟩,hr1⟩:=hr1
    obtain ⟨⟨b2,off2,rfl,hb2,y0,-⟩,hr2⟩:=hr2
    have hkl:k < l.length:=by simp only [List.length_cons] at hlen; omega
    have hb0:(0:Int)≤(k:Int):=by omega
    have hb1:(k:Int) < (l.length:Int):=by omega
    have HR:=Lib.hid (And.intro hr1 (And.intro hr2 hB))
    clear hr1 hr2 hB h1 h2
    go_upto_region 6 with fail
    go_quiet (fail)
    generalize hW:World.drewN wr _=W1
    have HB:Hid (Below wr.heap.size wr W1):=Lib.hid (by rw [← hW]; exact below_drewN (Below.refl _ _) _)
    clear hW
    go_wp2_with fail
    go_roundw
    case rel=>exact ⟨k + 1,R,by go_num,by simp only [List.length_cons] at hlen; omega,HR.out.1.same HB.out,HR.out.2.1.same HB.out,HR.out.2.2.trans (HB.out.mono HR.out.2.2.size)⟩
    case measure=>simp [intOf]; omega
namespace Md
def aS.uf (ln:Bool):aS→aS→Prop
 | .nil,.nil=>True
 | .cons h b e r,.cons h' b' e' r'=>(h'= {h with line:=h'.line} ∧(ln=true→h'.line=h.line))∧b.uf ln b'∧e.uf ln e'∧r.uf ln r'
 | _,_=>False
theorem aS.uf.len {ln:Bool} : ∀ {l l':aS},l.uf ln l'→l'.len=l.len
 | .nil,.nil,_=>rfl
 | .cons ..,.cons ..,h=>by simp only [aS.len]; rw [aS.uf.len h.2.2.2]
 | .nil,.cons ..,h=>h.elim
 | .cons ..,.nil,h=>h.elim
theorem aS.uf.refl {ln:Bool} : ∀l:aS,l.uf ln l
 | .nil=>trivial
 | .cons h b e r=>⟨⟨rfl,fun _=>rfl⟩,refl b,refl e,refl r⟩
end Md
def yJ (l:aS):Prop:=
 ∀(w:World) (ao:Option Addr) (cap:Nat) (l':aS) (oL:Option Addr) (cap2:Nat) (ln:Bool),l.len≤maxLen→l.uf ln l'→l.At w w.heap.size ao 0→l'.At w w.heap.size oL 0→
  Calls Tryz.prog 36 #[.slice ao l.len cap,.slice oL l'.len cap2,.bool ln] w fun e w'=>e= .returned (.bool true)∧Below w.heap.size w w'
def zSs:Array Value:= #[.int .i64 0,.int .i64 0,.string ⟨#[]⟩,.string ⟨#[]⟩,.slice none 0 0,.int .i64 0,.int .i64 0,.string ⟨#[]⟩,.slice none 0 0,.slice none 0 0,.slice none 0 0]
theorem Mi:(Tryz.prog.info? 89).map (·.size)=some 11:=by kernel_rfl
def Gf (h:bf) (b e:aS) (s:Sl):Array Value:= #[.int .i64 h.op,.int .i64 h.line,.string h.nm,.string h.arg,.slice s.fH h.idx.len s.dW,.int .i64 h.bV,.int .i64 h.xn,.string h.bU,.slice s.cB h.aO.len s.bF,.slice s.bC b.len s.aV,.slice s.eZ e.len s.dL]
theorem sG (l:aS) (ih:l.All (fun _ b e=>yJ b∧yJ e)):yJ l:=by
 intro w ao cap l' oL cap2 ln hl Sk h1 h2
 unfold maxLen at hl
 have hlen':=Sk.len
 rw [hlen']
 clear hlen'
 go_enter Tryz.func36,Tryz.ntmps36
 go_wp2_with fail
 go_loopw [7] (fun s wr=> ∃(k:Nat) (R R':aS),s= .int .i64 k∧k + R.len=l.len∧R.uf ln R'∧R.All (fun _ b e=>yJ b∧yJ e)∧R.At wr wr.heap.size ao k∧R'.At wr wr.heap.size oL k∧Below w.heap.size w wr) (fun s _=>l.len - (intOf s).toNat)
 case atStart=>exact ⟨0,l,l',rfl,by simp,Sk,ih,h1,h2,Below.refl _ _⟩
 case round=>
  obtain ⟨k,R,R',rfl,hlen,hal,hall,hr1,hr2,hB⟩:=hrel
  clear Sk ih h1 h2
  match R,R',hal with
  | .nil,.nil,_=>
    obtain rfl:k=l.len:=by simpa [aS.len] using hlen
    go_wp2_with fail
    go_ret
    exact ⟨rfl,hB⟩
  | .cons h b e R,.cons h' b' e' R',hal=>
    obtain ⟨⟨hh,hln⟩,RA,RX,Y4⟩:=hal
    obtain ⟨⟨hsb,hse⟩,hall⟩:=hall
    obtain ⟨bl,off,s,rfl,hbl,hin,x0,x1,x2,x3,x4,x5,x6,x7,x8,x9,x10,hq1⟩:=aS.At.head hr1
    obtain ⟨nZ,off2,s2,rfl,lD,hin2,y0,y1,y2,y3,y4,y5,y6,y7,y8,y9,dZ,hq2⟩:=aS.At.head hr2
    clear hr1 hr2
    obtain ⟨line',rfl⟩: ∃n,h'= {h with line:=n} :=⟨_,hh⟩
    dsimp only at y0 y1 y2 y3 y4 y5 y6 y7 y8 y9 dZ hln
    have hkl:k < l.len:=by simp only [aS.len] at hlen; omega
    have hb0:(0:Int)≤(k:Int):=by omega
    have hb1:(k:Int) < (l.len:Int):=by omega
    have jV:=Lib.hid (And.intro hin hin2)
    have Xd:=Lib.hid (And.intro hsb hse)
    have Af:=Lib.hid (And.intro RA (And.intro RX Y4))
    have HR:=Lib.hid (And.intro hq1 (And.intro hq2 hB))
    have iY:=Lib.hid hln
    have XU:=Lib.hid hall
    have HLEN:=Lib.hid hlen
    have e1:=RA.len
    have e2:=RX.len
    rw [e1] at y9
    rw [e2] at dZ
    clear hin hin2 hsb hse RA RX Y4 hq1 hq2 hB hln hall hlen hh e1 e2
    go_upto_region 6 with fail
    refine rM (mI wr 8 zSs (Gf h b e s) (Gf {h with line:=line'} b e s2) 89) (fun g _ g' _=>Gb.le g g') [21,22,23,24,25,26,27,28,8,9] ⟨none,none,false,false⟩ (by kernel_rfl) (by kernel_rfl) (fun g _=>Gb.le_refl g) (by rfl) mI.start ?_
    apply gP.step
    case aG=>
     intro D A g w' hDn hC hO hD
     have e0:=hO 0 (by rfl)
     simp [Act.eval] at e0
     simp [fV,fF,au,Act.eval,Region.binds] at hD
     simp [go_sem,jk,Oper.wp,hD,e0]
     exact dF.mk (Gb.le_refl g) (hC.skip _) (fF.mk _ _ _)
    apply gP.step
    case aG=>
     intro D A g w' hDn hC hO hD
     have e7:=hO 7 (by rfl)
     simp [Act.eval] at e7
     simp [fV,fF,au,Act.eval,Region.binds] at hD
     simp [go_sem,jk,Oper.wp,hD,e7]
     exact dF.mk (Gb.le_refl g) (hC.skip _) (fF.mk _ _ _)
    apply gP.step
    case aG=>
     intro D A g w' hDn hC hO hD
     simp [fV,fF,au,Act.eval,Region.binds] at hD
     simp [go_sem,jk,Oper.wp,hD,hb0,hb1]
     exact dF.mk (Gb.le_refl g) (hC.skip _) (fF.mk _ _ _)
    apply gP.step
    case aG=>
     intro D A g w' hDn hC hO hD
     have z0:=(hC.bl.cell (p:=⟨bl,off + k * 11,none⟩) hbl).trans x0
     have z1:=(hC.bl.cell (p:=⟨bl,off + k * 11 + 1,none⟩) hbl).trans x1
     have z2:=(hC.bl.cell (p:=⟨bl,off + k * 11 + 2,none⟩) hbl).trans x2
     have z3:=(hC.bl.cell (p:=⟨bl,off + k * 11 + 3,none⟩) hbl).trans x3
     have z4:=(hC.bl.cell (p:=⟨bl,off + k * 11 + 4,none⟩) hbl).trans x4
     have z5:=(hC.bl.cell (p:=⟨bl,off + k * 11 + 5,none⟩) hbl).trans x5
     have z6:=(hC.bl.cell (p:=⟨bl,off + k * 11 + 6,none⟩) hbl).trans x6
     have z7:=(hC.bl.cell (p:=⟨bl,off + k * 11 + 7,none⟩) hbl).trans x7
     have z8:=(hC.bl.cell (p:=⟨bl,off + k * 11 + 8,none⟩) hbl).trans x8
     have z9:=(hC.bl.cell (p:=⟨bl,off + k * 11 + 9,none⟩) hbl).trans x9
     have jD:=(hC.bl.cell (p:=⟨bl,off + k * 11 + 10,none⟩) hbl).trans x10
     simp [fV,fF,au,Act.eval,Region.binds] at hD
     simp [go_sem,jk,Oper.wp,hD,z0,z1,z2,z3,z4,z5,z6,z7,z8,z9,jD]
     exact dF.mk (Gb.le_refl g) (hC.skip _) (fF.mk _ _ _)
    apply gP.step
    case aG=>
     intro D A g w' hDn hC hO hD
     have e1:=hO 1 (by rfl)
     simp [Act.eval] at e1
     simp [fV,fF,au,Act.eval,Region.binds] at hD
     simp [go_sem,jk,Oper.wp,hD,e1]
     exact dF.mk (Gb.le_refl g) (hC.skip _) (fF.mk _ _ _)
    apply gP.step
    case aG=>
     intro D A g w' hDn hC hO hD
     have e7:=hO 7 (by rfl)
     simp [Act.eval] at e7
     simp [fV,fF,au,Act.eval,Region.binds] at hD
     simp [go_sem,jk,Oper.wp,hD,e7]
     exact dF.mk (Gb.le_refl g) (hC.skip _) (fF.mk _ _ _)
    apply gP.step
    case aG=>
     intro D A g w' hDn hC hO hD
     simp [fV,fF,au,Act.eval,Region.binds] at hD
     simp [go_sem,jk,Oper.wp,hD,hb0,hb1]
     exact dF.mk (Gb.le_refl g) (hC.skip _) (fF.mk _ _ _)
    apply gP.step
    case aG=>
     intro D A g w' hDn hC hO hD
     have z0:=(hC.bl.cell (p:=⟨nZ,off2 + k * 11,none⟩) lD).trans y0
     have z1:=(hC.bl.cell (p:=⟨nZ,off2 + k * 11 + 1,none⟩) lD).trans y1
     have z2:=(hC.bl.cell (p:=⟨nZ,off2 + k * 11 + 2,none⟩) lD).trans y2
     have z3:=(hC.bl.cell (p:=⟨nZ,off2 + k * 11 + 3,none⟩) lD).trans y3
     have z4:=(hC.bl.cell (p:=⟨nZ,off2 + k * 11 + 4,none⟩) lD).trans y4
     have z5:=(hC.bl.cell (p:=⟨nZ,off2 + k * 11 + 5,none⟩) lD).trans y5
     have z6:=(hC.bl.cell (p:=⟨nZ,off2 + k * 11 + 6,none⟩) lD).trans y6
     have z7:=(hC.bl.cell (p:=⟨nZ,off2 + k * 11 + 7,none⟩) lD).trans y7
     have z8:=(hC.bl.cell (p:=⟨nZ,off2 + k * 11 + 8,none⟩) lD).trans y8
     have z9:=(hC.bl.cell (p:=⟨nZ,off2 + k * 11 + 9,none⟩) lD).trans y9
     have jD:=(hC.bl.cell (p:=⟨nZ,off2 + k * 11 + 10,none⟩) lD).trans dZ
     simp [fV,fF,au,Act.eval,Region.binds] at hD
     simp [go_sem,jk,Oper.wp,hD,z0,z1,z2,z3,z4,z5,z6,z7,z8,z9,jD]
     exact dF.mk (Gb.le_refl g) (hC.skip _) (fF.mk _ _ _)
    refine gP.some (fun v g _=> ∃b,v= .pointer (some ⟨b,0,none⟩)∧g.o8=some b) (fun v g w g' w' hle h=>by obtain ⟨b,h1,h2⟩:=h; exact ⟨b,h1,hle.1 b h2⟩) ?_ ?_
    ·intro D A g w' hDn hC hO hD
     simp [go_sem,jk,Oper.wp]
     have hM:=hC.Xc hDn
     exact dF.mk hM.1 hM.2 ⟨_,rfl,rfl⟩
    refine gP.some (fun v g _=> ∃b,v= .pointer (some ⟨b,0,none⟩)∧g.o9=some b) (fun v g w g' w' hle h=>by obtain ⟨b,h1,h2⟩:=h; exact ⟨b,h1,hle.2.1 b h2⟩) ?_ ?_
    ·intro D A g w' hDn hC hO hD
     simp [go_sem,jk,Oper.wp]
     have hM:=hC.XA hDn
     exact dF.mk hM.1 hM.2 ⟨_,rfl,rfl⟩
    refine gP.some (fun _ g _=>g.s8=true) (fun v g w g' w' hle h=>hle.2.2.1 h) ?_ ?_
    ·intro D A g w' hDn hC hO hD
     simp [fV,fF,au,Act.eval,Region.binds] at hD
     obtain ⟨⟨gb,hv,hgb⟩,hx,-⟩:=hD
     simp only [jk,if_true]
     refine wp_store_mid _ _ _ (by rfl) gb 0 (Gf h b e s) (by simp [Act.eval,hv]) (by simp [Act.eval,hx,Gf]) (hC.Kr hDn hgb (Nat.le_refl _)) Mi (by simp [Value.oneCell',Gf]) ?_
     have hF:=hC.Ye hDn hgb rfl
     exact dF.yU hF.1 hF.2 rfl
    refine gP.some (fun _ g _=>g.s9=true) (fun v g w g' w' hle h=>hle.2.2.2 h) ?_ ?_
    ·intro D A g w' hDn hC hO hD
     simp [fV,fF,au,Act.eval,Region.binds] at hD
     obtain ⟨⟨gb,hv,hgb⟩,hx,-⟩:=hD
     simp only [jk,if_true]
     refine wp_store_mid _ _ _ (by rfl) gb 0 (Gf {h with line:=line'} b e s2) (by simp [Act.eval,hv]) (by simp [Act.eval,hx,Gf]) (hC.II hDn hgb (Nat.le_refl _)) Mi (by simp [Value.oneCell',Gf]) ?_
     have hF:=hC.Z4 hDn hgb rfl
     exact dF.yU hF.1 hF.2 rfl
    refine gP.done ?_
    intro D g W hD hC
    simp only [EI,List.nil_append,List.cons_append,List.map_cons,List.map_nil]
    intro x0' h0' x1' h1' x2' h2' x3' h3' x4' h4' x5' h5' x6' h6' x7' yO x8' h8' x9' QA Xw ET Zh ES
    obtain ⟨g8,rfl,FY⟩:=h8'
    obtain ⟨g9,rfl,Gc⟩:=QA
    obtain ⟨hB,K4,Kg,hne,Ad,Al⟩:=hC.two FY Gc ET ES
    have fT:=Lib.hid (And.intro hB (And.intro K4 (And.intro Kg (And.intro hne (And.intro Ad Al)))))
    clear h0' h1' h2' h3' h4' h5' h6' yO hC hD FY Gc ET ES hB K4 Kg hne Ad Al
    clear x0 x1 x2 x3 x4 x5 x6 x7 x8 x9 x10 y0 y1 y2 y3 y4 y5 y6 y7 y8 y9 dZ
    refine CZ ?_
    go_simp
    obtain ⟨op,line,nm,arg,idx,bV,xn,bU,aO⟩:=h
    dsimp only at jV Af HR iY fT
    have uy:=(Array.getElem?_eq_some_iff.1 fT.out.2.2.2.2.1).1
    have uD:=(Array.getElem?_eq_some_iff.1 fT.out.2.2.2.2.2).1
    have HS:Hid (Sit wr W [(g8,0,.int .i64 op),(g8,1,.int .i64 line),(g8,2,.string nm),(g8,3,.string arg),(g8,4,.slice s.fH idx.len s.dW),(g8,5,.int .i64 bV),(g8,6,.int .i64 xn),(g8,7,.string bU),(g8,8,.slice s.cB aO.len s.bF),(g8,9,.slice s.bC b.len s.aV),(g8,10,.slice s.eZ e.len s.dL),(g9,0,.int .i64 op),(g9,1,.int .i64 line'),(g9,2,.string nm),(g9,3,.string arg),(g9,4,.slice s2.fH idx.len s2.dW),(g9,5,.int .i64 bV),(g9,6,.int .i64 xn),(g9,7,.string bU),(g9,8,.slice s2.cB aO.len s2.bF),(g9,9,.slice s2.bC b.len s2.aV),(g9,10,.slice s2.eZ e.len s2.dL)]):=Lib.hid ⟨fT.out.1,⟨uy,aj fT.out.2.2.2.2.1 rfl⟩,⟨uy,aj fT.out.2.2.2.2.1 rfl⟩,⟨uy,aj fT.out.2.2.2.2.1 rfl⟩,⟨uy,aj fT.out.2.2.2.2.1 rfl⟩,⟨uy,aj fT.out.2.2.2.2.1 rfl⟩,⟨uy,aj fT.out.2.2.2.2.1 rfl⟩,⟨uy,aj fT.out.2.2.2.2.1 rfl⟩,⟨uy,aj fT.out.2.2.2.2.1 rfl⟩,⟨uy,aj fT.out.2.2.2.2.1 rfl⟩,⟨uy,aj fT.out.2.2.2.2.1 rfl⟩,⟨uy,aj fT.out.2.2.2.2.1 rfl⟩,⟨uD,aj fT.out.2.2.2.2.2 rfl⟩,⟨uD,aj fT.out.2.2.2.2.2 rfl⟩,⟨uD,aj fT.out.2.2.2.2.2 rfl⟩,⟨uD,aj fT.out.2.2.2.2.2 rfl⟩,⟨uD,aj fT.out.2.2.2.2.2 rfl⟩,⟨uD,aj fT.out.2.2.2.2.2 rfl⟩,⟨uD,aj fT.out.2.2.2.2.2 rfl⟩,⟨uD,aj fT.out.2.2.2.2.2 rfl⟩,⟨uD,aj fT.out.2.2.2.2.2 rfl⟩,⟨uD,aj fT.out.2.2.2.2.2 rfl⟩,⟨uD,aj fT.out.2.2.2.2.2 rfl⟩,trivial⟩
    have vV:Hid (∀W,Below wr.heap.size wr W→Calls Tryz.prog 36 #[.slice s.bC b.len s.aV,.slice s2.bC b.len s2.aV,.bool ln] W fun e w'=>e= .returned (.bool true)∧Below W.heap.size W w'):=Lib.hid (fun W hB=>by
     have:=Xd.out.1 W s.bC s.aV b' s2.bC s2.aV ln jV.out.1.1.2.2.2.2.2.2.1 Af.out.1 (jV.out.1.same hB).2.2.2.1 (jV.out.2.same hB).2.2.2.1
     rw [Af.out.1.len] at this
     exact this)
    have Ji:Hid (∀W,Below wr.heap.size wr W→Calls Tryz.prog 36 #[.slice s.eZ e.len s.dL,.slice s2.eZ e.len s2.dL,.bool ln] W fun e w'=>e= .returned (.bool true)∧Below W.heap.size W w'):=Lib.hid (fun W hB=>by
     have:=Xd.out.2 W s.eZ s.dL e' s2.eZ s2.dL ln jV.out.1.1.2.2.2.2.2.2.2 Af.out.2.1 (jV.out.1.same hB).2.2.2.2 (jV.out.2.same hB).2.2.2.2
     rw [Af.out.2.1.len] at this
     exact this)
    have tF:Hid (∀W,Below wr.heap.size wr W→Calls Tryz.prog 23 #[.agg #[.int .i64 bV,.int .i64 xn,.string bU,.slice s.cB aO.len s.bF],.agg #[.int .i64 bV,.int .i64 xn,.string bU,.slice s2.cB aO.len s2.bF]] W fun e w'=>e= .returned (.bool true)∧Below W.heap.size W w'):=Lib.hid (fun W hB=>
     vo _ _ _ _ W s.cB s.bF s2.cB s2.bF jV.out.1.1.2.2.2.2.2.1 (jV.out.1.same hB).2.2.1 (jV.out.2.same hB).2.2.1)
    clear Xd uy uD fT
    obtain ⟨-,⟨-,c0⟩,⟨-,c1⟩,⟨-,c2⟩,⟨-,c3⟩,⟨-,c4⟩,⟨-,c5⟩,⟨-,c6⟩,⟨-,c7⟩,⟨-,c8⟩,⟨-,c9⟩,⟨-,c10⟩,⟨-,c11⟩,⟨-,c12⟩,⟨-,c13⟩,⟨-,c14⟩,⟨-,c15⟩,⟨-,c16⟩,⟨-,c17⟩,⟨-,c18⟩,⟨-,c19⟩,⟨-,c20⟩,⟨-,c21⟩,-⟩:=HS.out
    go_upto_region 7 with fail
    go_cut [74] (fun v W'=>v= .bool false∧Sit wr W' [(g8,0,.int .i64 op),(g8,1,.int .i64 line),(g8,2,.string nm),(g8,3,.string arg),(g8,4,.slice s.fH idx.len s.dW),(g8,5,.int .i64 bV),(g8,6,.int .i64 xn),(g8,7,.string bU),(g8,8,.slice s.cB aO.len s.bF),(g8,9,.slice s.bC b.len s.aV),(g8,10,.slice s.eZ e.len s.dL),(g9,0,.int .i64 op),(g9,1,.int .i64 line'),(g9,2,.string nm),(g9,3,.string arg),(g9,4,.slice s2.fH idx.len s2.dW),(g9,5,.int .i64 bV),(g9,6,.int .i64 xn),(g9,7,.string bU),(g9,8,.slice s2.cB aO.len s2.bF),(g9,9,.slice s2.bC b.len s2.aV),(g9,10,.slice s2.eZ e.len s2.dL)])
    case first=>
     cases ln
     ·go_wp2_with fail
      refine (tF.out _ HS.out.1).mono ?_
      rintro e w2 ⟨rfl,hb⟩
      have HS2:=Lib.hid (HS.out.next hb)
      clear hb c0 c1 c2 c3 c4 c5 c6 c7 c8 c9 c10 c11 c12 c13 c14 c15 c16 c17 c18 c19 c20 c21
      obtain ⟨-,⟨-,c0⟩,⟨-,c1⟩,⟨-,c2⟩,⟨-,c3⟩,⟨-,c4⟩,⟨-,c5⟩,⟨-,c6⟩,⟨-,c7⟩,⟨-,c8⟩,⟨-,c9⟩,⟨-,c10⟩,⟨-,c11⟩,⟨-,c12⟩,⟨-,c13⟩,⟨-,c14⟩,⟨-,c15⟩,⟨-,c16⟩,⟨-,c17⟩,⟨-,c18⟩,⟨-,c19⟩,⟨-,c20⟩,⟨-,c21⟩,-⟩:=HS2.out
      go_wp2_with fail
      go_meet
      exact ⟨rfl,HS2.out⟩
     ·have hl:=iY.out rfl
      subst hl
      go_wp2_with fail
      refine (tF.out _ HS.out.1).mono ?_
      rintro e w2 ⟨rfl,hb⟩
      have HS2:=Lib.hid (HS.out.next hb)
      clear hb c0 c1 c2 c3 c4 c5 c6 c7 c8 c9 c10 c11 c12 c13 c14 c15 c16 c17 c18 c19 c20 c21
      obtain ⟨-,⟨-,c0⟩,⟨-,c1⟩,⟨-,c2⟩,⟨-,c3⟩,⟨-,c4⟩,⟨-,c5⟩,⟨-,c6⟩,⟨-,c7⟩,⟨-,c8⟩,⟨-,c9⟩,⟨-,c10⟩,⟨-,c11⟩,⟨-,c12⟩,⟨-,c13⟩,⟨-,c14⟩,⟨-,c15⟩,⟨-,c16⟩,⟨-,c17⟩,⟨-,c18⟩,⟨-,c19⟩,⟨-,c20⟩,⟨-,c21⟩,-⟩:=HS2.out
      go_wp2_with fail
      go_meet
      exact ⟨rfl,HS2.out⟩
    obtain ⟨rfl,hsit⟩:=hcut
    have HT:=Lib.hid hsit
    clear hsit HS c0 c1 c2 c3 c4 c5 c6 c7 c8 c9 c10 c11 c12 c13 c14 c15 c16 c17 c18 c19 c20 c21 tF
    obtain ⟨W3,rfl⟩: ∃W:World,W=wc:=⟨_,rfl⟩
    cases idx with
    | nil=>
      go_upto_region 9 with fail
      obtain ⟨T,F,D7,hst,hF,hnext⟩:=calm W3
      have HF:=Lib.hid hF
      have gL:=Lib.hid hnext
      clear hnext hF
      have d0:=fun x=>(HT.out.next (HF.out x)).2.1.2
      have d1:=fun x=>(HT.out.next (HF.out x)).2.2.1.2
      have d2:=fun x=>(HT.out.next (HF.out x)).2.2.2.1.2
      have d3:=fun x=>(HT.out.next (HF.out x)).2.2.2.2.1.2
      have d4:=fun x=>(HT.out.next (HF.out x)).2.2.2.2.2.1.2
      have d5:=fun x=>(HT.out.next (HF.out x)).2.2.2.2.2.2.1.2
      have d6:=fun x=>(HT.out.next (HF.out x)).2.2.2.2.2.2.2.1.2
      have d7:=fun x=>(HT.out.next (HF.out x)).2.2.2.2.2.2.2.2.1.2
      have d8:=fun x=>(HT.out.next (HF.out x)).2.2.2.2.2.2.2.2.2.1.2
      have d9:=fun x=>(HT.out.next (HF.out x)).2.2.2.2.2.2.2.2.2.2.1.2
      have iJ:=fun x=>(HT.out.next (HF.out x)).2.2.2.2.2.2.2.2.2.2.2.1.2
      have Zm:=fun x=>(HT.out.next (HF.out x)).2.2.2.2.2.2.2.2.2.2.2.2.1.2
      have Z9:=fun x=>(HT.out.next (HF.out x)).2.2.2.2.2.2.2.2.2.2.2.2.2.1.2
      have XH:=fun x=>(HT.out.next (HF.out x)).2.2.2.2.2.2.2.2.2.2.2.2.2.2.1.2
      have Zw:=fun x=>(HT.out.next (HF.out x)).2.2.2.2.2.2.2.2.2.2.2.2.2.2.2.1.2
      have QD:=fun x=>(HT.out.next (HF.out x)).2.2.2.2.2.2.2.2.2.2.2.2.2.2.2.2.1.2
      have Z8:=fun x=>(HT.out.next (HF.out x)).2.2.2.2.2.2.2.2.2.2.2.2.2.2.2.2.2.1.2
      have Yr:=fun x=>(HT.out.next (HF.out x)).2.2.2.2.2.2.2.2.2.2.2.2.2.2.2.2.2.2.1.2
      have Yh:=fun x=>(HT.out.next (HF.out x)).2.2.2.2.2.2.2.2.2.2.2.2.2.2.2.2.2.2.2.1.2
      have Xa:=fun x=>(HT.out.next (HF.out x)).2.2.2.2.2.2.2.2.2.2.2.2.2.2.2.2.2.2.2.2.1.2
      have Y1:=fun x=>(HT.out.next (HF.out x)).2.2.2.2.2.2.2.2.2.2.2.2.2.2.2.2.2.2.2.2.2.1.2
      have XL:=fun x=>(HT.out.next (HF.out x)).2.2.2.2.2.2.2.2.2.2.2.2.2.2.2.2.2.2.2.2.2.2.1.2
      simp only [aZ.len] at d4 QD
      refine lJ F (by kernel_rfl) (by kernel_rfl) hst ?_
      repeat (any_goals (first | go_big_quiet_step ((first | (go_at_call_of 36 (Value.slice s.bC b.len s.aV); refine (vV.out _ (HT.out.1.trans ((HF.out _).mono HT.out.1.size))).mono ?_; rintro e w' ⟨rfl,hb⟩; exact ⟨rfl,gL.out _ _ hb⟩) | (go_at_call_of 36 (Value.slice s.eZ e.len s.dL); refine (Ji.out _ (HT.out.1.trans ((HF.out _).mono HT.out.1.size))).mono ?_; rintro e w' ⟨rfl,hb⟩; exact ⟨rfl,gL.out _ _ hb⟩))) | (refine wpQuiet_step (fun K hK=> ?_); go_simp; first | (refine hK _ ?_; clear hK K) | (split <;> first | (refine hK _ ?_; clear hK K) | (apply Exists.intro; refine ⟨fun _=> ?_,hK _ ?_⟩; ((first | (go_at_call_of 36 (Value.slice s.bC b.len s.aV); refine (vV.out _ (HT.out.1.trans ((HF.out _).mono HT.out.1.size))).mono ?_; rintro e w' ⟨rfl,hb⟩; exact ⟨rfl,gL.out _ _ hb⟩) | (go_at_call_of 36 (Value.slice s.eZ e.len s.dL); refine (Ji.out _ (HT.out.1.trans ((HF.out _).mono HT.out.1.size))).mono ?_; rintro e w' ⟨rfl,hb⟩; exact ⟨rfl,gL.out _ _ hb⟩))); clear hK K)))))
      all_goals (refine wpQuiet_nil ?_; rintro _ ⟨x,rfl⟩)
      have HU:=Lib.hid (HT.out.1.trans ((HF.out x).mono HT.out.1.size))
      clear d0 d1 d2 d3 d4 d5 d6 d7 d8 d9 iJ Zm Z9 XH Zw QD Z8 Yr Yh Xa Y1 XL HF gL hst HT
      generalize F x=W4 at *
      go_wp2_with fail
      go_roundw
      case rel=>exact ⟨k + 1,R,R',by go_num,by have:=HLEN.out; simp only [aS.len] at this; omega,Af.out.2.2,XU.out,HR.out.1.same HU.out,HR.out.2.1.same HU.out,HR.out.2.2.trans (HU.out.mono HR.out.2.2.size)⟩
      case measure=>simp [intOf]; omega
    | cons op0 n0 nm0 U2 TK=>
      obtain ⟨⟨bi,oi,uL,cap0,hei,hbi,p0,p1,p2,p3,hok0,hk0⟩,-⟩:=jV.out.1.2.1
      obtain ⟨⟨bj,oj,DN,zW,hej,hbj,q0,q1,q2,q3,-,hk1⟩,-⟩:=jV.out.2.2.1
      have GU:=Lib.hid (And.intro hbi (And.intro p0 (And.intro p1 (And.intro p2 p3))))
      have FX:=Lib.hid (And.intro hbj (And.intro q0 (And.intro q1 (And.intro q2 q3))))
      have F5:=Lib.hid (And.intro hok0 (And.intro hk0 hk1))
      have HEI:=Lib.hid hei
      have HEJ:=Lib.hid hej
      clear hbi p0 p1 p2 p3 hbj q0 q1 q2 q3 hok0 hk0 hk1 hei hej
      go_upto_region 9 with fail
      obtain ⟨T,F,D7,hst,hF,hnext⟩:=calm W3
      have HF:=Lib.hid hF
      have gL:=Lib.hid hnext
      clear hnext hF
      have d0:=fun x=>(HT.out.next (HF.out x)).2.1.2
      have d1:=fun x=>(HT.out.next (HF.out x)).2.2.1.2
      have d2:=fun x=>(HT.out.next (HF.out x)).2.2.2.1.2
      have d3:=fun x=>(HT.out.next (HF.out x)).2.2.2.2.1.2
      have d4:=fun x=>(HT.out.next (HF.out x)).2.2.2.2.2.1.2
      have d5:=fun x=>(HT.out.next (HF.out x)).2.2.2.2.2.2.1.2
      have d6:=fun x=>(HT.out.next (HF.out x)).2.2.2.2.2.2.2.1.2
      have d7:=fun x=>(HT.out.next (HF.out x)).2.2.2.2.2.2.2.2.1.2
      have d8:=fun x=>(HT.out.next (HF.out x)).2.2.2.2.2.2.2.2.2.1.2
      have d9:=fun x=>(HT.out.next (HF.out x)).2.2.2.2.2.2.2.2.2.2.1.2
      have iJ:=fun x=>(HT.out.next (HF.out x)).2.2.2.2.2.2.2.2.2.2.2.1.2
      have Zm:=fun x=>(HT.out.next (HF.out x)).2.2.2.2.2.2.2.2.2.2.2.2.1.2
      have Z9:=fun x=>(HT.out.next (HF.out x)).2.2.2.2.2.2.2.2.2.2.2.2.2.1.2
      have XH:=fun x=>(HT.out.next (HF.out x)).2.2.2.2.2.2.2.2.2.2.2.2.2.2.1.2
      have Zw:=fun x=>(HT.out.next (HF.out x)).2.2.2.2.2.2.2.2.2.2.2.2.2.2.2.1.2
      have QD:=fun x=>(HT.out.next (HF.out x)).2.2.2.2.2.2.2.2.2.2.2.2.2.2.2.2.1.2
      have Z8:=fun x=>(HT.out.next (HF.out x)).2.2.2.2.2.2.2.2.2.2.2.2.2.2.2.2.2.1.2
      have Yr:=fun x=>(HT.out.next (HF.out x)).2.2.2.2.2.2.2.2.2.2.2.2.2.2.2.2.2.2.1.2
      have Yh:=fun x=>(HT.out.next (HF.out x)).2.2.2.2.2.2.2.2.2.2.2.2.2.2.2.2.2.2.2.1.2
      have Xa:=fun x=>(HT.out.next (HF.out x)).2.2.2.2.2.2.2.2.2.2.2.2.2.2.2.2.2.2.2.2.1.2
      have Y1:=fun x=>(HT.out.next (HF.out x)).2.2.2.2.2.2.2.2.2.2.2.2.2.2.2.2.2.2.2.2.2.1.2
      have XL:=fun x=>(HT.out.next (HF.out x)).2.2.2.2.2.2.2.2.2.2.2.2.2.2.2.2.2.2.2.2.2.2.1.2
      have y0:=fun x=>(((HT.out.1.trans ((HF.out x).mono HT.out.1.size)).cell (p:=⟨bi,oi + 0 * 4,none⟩) GU.out.1)).trans GU.out.2.1
      have y1:=fun x=>(((HT.out.1.trans ((HF.out x).mono HT.out.1.size)).cell (p:=⟨bi,oi + 0 * 4 + 1,none⟩) GU.out.1)).trans GU.out.2.2.1
      have y2:=fun x=>(((HT.out.1.trans ((HF.out x).mono HT.out.1.size)).cell (p:=⟨bi,oi + 0 * 4 + 2,none⟩) GU.out.1)).trans GU.out.2.2.2.1
      have y3:=fun x=>(((HT.out.1.trans ((HF.out x).mono HT.out.1.size)).cell (p:=⟨bi,oi + 0 * 4 + 3,none⟩) GU.out.1)).trans GU.out.2.2.2.2
      have z0:=fun x=>(((HT.out.1.trans ((HF.out x).mono HT.out.1.size)).cell (p:=⟨bj,oj + 0 * 4,none⟩) FX.out.1)).trans FX.out.2.1
      have z1:=fun x=>(((HT.out.1.trans ((HF.out x).mono HT.out.1.size)).cell (p:=⟨bj,oj + 0 * 4 + 1,none⟩) FX.out.1)).trans FX.out.2.2.1
      have z2:=fun x=>(((HT.out.1.trans ((HF.out x).mono HT.out.1.size)).cell (p:=⟨bj,oj + 0 * 4 + 2,none⟩) FX.out.1)).trans FX.out.2.2.2.1
      have z3:=fun x=>(((HT.out.1.trans ((HF.out x).mono HT.out.1.size)).cell (p:=⟨bj,oj + 0 * 4 + 3,none⟩) FX.out.1)).trans FX.out.2.2.2.2
      simp only [Nat.zero_mul,Nat.add_zero] at y0 y1 y2 y3 z0 z1 z2 z3
      simp only [HEI.out,aZ.len] at d4
      simp only [HEJ.out,aZ.len] at QD
      have hz0:(0:Int) < (TK.len:Int) + 1:=by omega
      have hz1:(0:Int) < ((TK.len + 1:Nat):Int):=by omega
      refine lJ F (by kernel_rfl) (by kernel_rfl) hst ?_
      repeat (any_goals (first | go_big_quiet_step ((first | (go_at_call_of 36 (Value.slice s.bC b.len s.aV); refine (vV.out _ (HT.out.1.trans ((HF.out _).mono HT.out.1.size))).mono ?_; rintro e w' ⟨rfl,hb⟩; exact ⟨rfl,gL.out _ _ hb⟩) | (go_at_call_of 36 (Value.slice s.eZ e.len s.dL); refine (Ji.out _ (HT.out.1.trans ((HF.out _).mono HT.out.1.size))).mono ?_; rintro e w' ⟨rfl,hb⟩; exact ⟨rfl,gL.out _ _ hb⟩) | (go_at_call 23; refine (vo op0 n0 nm0 U2 _ uL cap0 DN zW F5.out.1 (F5.out.2.1.same (HT.out.1.trans ((HF.out _).mono HT.out.1.size))) (F5.out.2.2.same (HT.out.1.trans ((HF.out _).mono HT.out.1.size)))).mono ?_; rintro e w' ⟨rfl,hb⟩; exact ⟨rfl,gL.out _ _ hb⟩))) | (refine wpQuiet_step (fun K hK=> ?_); go_simp; first | (refine hK _ ?_; clear hK K) | (split <;> first | (refine hK _ ?_; clear hK K) | (apply Exists.intro; refine ⟨fun _=> ?_,hK _ ?_⟩; ((first | (go_at_call_of 36 (Value.slice s.bC b.len s.aV); refine (vV.out _ (HT.out.1.trans ((HF.out _).mono HT.out.1.size))).mono ?_; rintro e w' ⟨rfl,hb⟩; exact ⟨rfl,gL.out _ _ hb⟩) | (go_at_call_of 36 (Value.slice s.eZ e.len s.dL); refine (Ji.out _ (HT.out.1.trans ((HF.out _).mono HT.out.1.size))).mono ?_; rintro e w' ⟨rfl,hb⟩; exact ⟨rfl,gL.out _ _ hb⟩) | (go_at_call 23; refine (vo op0 n0 nm0 U2 _ uL cap0 DN zW F5.out.1 (F5.out.2.1.same (HT.out.1.trans ((HF.out _).mono HT.out.1.size))) (F5.out.2.2.same (HT.out.1.trans ((HF.out _).mono HT.out.1.size)))).mono ?_; rintro e w' ⟨rfl,hb⟩; exact ⟨rfl,gL.out _ _ hb⟩))); clear hK K)))))
      all_goals (refine wpQuiet_nil ?_; rintro _ ⟨x,rfl⟩)
      have HU:=Lib.hid (HT.out.1.trans ((HF.out x).mono HT.out.1.size))
      clear d0 d1 d2 d3 d4 d5 d6 d7 d8 d9 iJ Zm Z9 XH Zw QD Z8 Yr Yh Xa Y1 XL y0 y1 y2 y3 z0 z1 z2 z3 HF gL hst HT
      generalize F x=W4 at *
      go_wp2_with fail
      go_roundw
      case rel=>exact ⟨k + 1,R,R',by go_num,by have:=HLEN.out; simp only [aS.len] at this; omega,Af.out.2.2,XU.out,HR.out.1.same HU.out,HR.out.2.1.same HU.out,HR.out.2.2.trans (HU.out.mono HR.out.2.2.size)⟩
      case measure=>simp [intOf]; omega
  | .nil,.cons ..,hal=>exact hal.elim
  | .cons ..,.nil,hal=>exact hal.elim
theorem H9 (l:aS):yJ l:=sG l (aS.pQ (fun h b e hb he=>⟨sG b hb,sG e he⟩) l)
end Go.Proofs.YtehnipchbmjlhaaGreatDoor
end
section
namespace Go.Proofs.YtehnipchbmjlhaaGreatDoor
open Go.RowKit
open Md
namespace Md
def JW (ln:Bool):List De→List De→Prop
 | [],[]=>True
 | d ::r,d' ::r'=>(d'= {d with line:=d'.line} ∧(ln=true→d'.line=d.line))∧JW ln r r'
 | _,_=>False
def Jw (ln:Bool):List Th→List Th→Prop
 | [],[]=>True
 | t ::r,t' ::r'=>((t'.nm=t.nm∧t'.bZ=t.bZ)∧(ln=true→t'.line=t.line)∧t.body.uf ln t'.body)∧Jw ln r r'
 | _,_=>False
theorem Jo {ln:Bool} : ∀ {l l':List De},JW ln l l'→l'.length=l.length
 | [],[],_=>rfl
 | _ ::_,_ ::_,h=>by simp only [List.length_cons]; rw [Jo h.2]
 | [],_ ::_,h=>h.elim
 | _ ::_,[],h=>h.elim
theorem JH {ln:Bool} : ∀ {l l':List Th},Jw ln l l'→l'.length=l.length
 | [],[],_=>rfl
 | _ ::_,_ ::_,h=>by simp only [List.length_cons]; rw [JH h.2]
 | [],_ ::_,h=>h.elim
 | _ ::_,[],h=>h.elim
theorem FQ {ln:Bool} : ∀l:List De,JW ln l l
 | []=>trivial
 | _ ::r=>⟨⟨rfl,fun _=>rfl⟩,FQ r⟩
theorem Ga {ln:Bool} : ∀l:List Th,Jw ln l l
 | []=>trivial
 | _ ::r=>⟨⟨⟨rfl,rfl⟩,fun _=>rfl,aS.uf.refl _⟩,Ga r⟩
def Pr.uf (ln:Bool) (p p':Pr):Prop:=JW ln p.ds p'.ds∧Jw ln p.ts p'.ts
theorem Pr.uf.refl {ln:Bool} (p:Pr):p.uf ln p:=⟨FQ _,Ga _⟩
end Md
theorem Ew {B:Nat} {w w':World} (h:Below B w w') (a:Addr) (v:Value) (hb:B≤a.block):Below B w (w'.setCell a v):=
 ⟨h.os,h.tape,h.output,by have:=h.size; simpa [World.setCell] using this,fun k hk=>(aN w' a v rfl (by omega)).trans (h.block k hk)⟩
def ao6:Array Value:= #[.int .i64 0,.int .i64 0,.string ⟨#[]⟩,.int .i64 0,.int .i64 0,.string ⟨#[]⟩]
def an8:Array Value:= #[.string ⟨#[]⟩,.int .i64 0,.slice none 0 0,.slice none 0 0]
def Ak (d:De):Array Value:= #[.int .i64 d.kind,.int .i64 d.line,.string d.nm,.int .i64 d.size,.int .i64 d.init,.string d.on]
theorem qJ {w:World} {b:Nat} {d:De} {t:TypeId} {fr:Nat × Nat} (h:w.heap[b]? =some (.cells (Ak d) t fr)):w.cell? ⟨b,0,none⟩=some (.int .i64 d.kind)∧w.cell? ⟨b,1,none⟩=some (.int .i64 d.line)∧w.cell? ⟨b,2,none⟩=some (.string d.nm)∧w.cell? ⟨b,3,none⟩=some (.int .i64 d.size)∧w.cell? ⟨b,4,none⟩=some (.int .i64 d.init)∧w.cell? ⟨b,5,none⟩=some (.string d.on):=
 ⟨aj h rfl,aj h rfl,aj h rfl,aj h rfl,aj h rfl,aj h rfl⟩
theorem IX:(Tryz.prog.info? 62).map (·.size)=some 6:=by kernel_rfl
theorem Ik:(Tryz.prog.info? 67).map (·.size)=some 4:=by kernel_rfl
theorem Rt (p p':Pr) (ln:Bool) (w:World) (bY dV:Option Addr) (bM bW:Nat) (ER F4:Option Addr) (Hw I6:Nat) (hk:p.uf ln p') (h1:p.At w bY dV) (h2:p'.At w ER F4):
 Calls Tryz.prog 12 #[.agg #[.slice bY p.ds.length bM,.slice dV p.ts.length bW],.agg #[.slice ER p'.ds.length Hw,.slice F4 p'.ts.length I6],.bool ln] w fun e w'=>e= .returned (.bool true)∧Below w.heap.size w w':=by
 have hld:=h1.1
 have hlt:=h1.2.1
 unfold maxLen at hld hlt
 rw [Jo hk.1,JH hk.2]
 have HK:=Lib.hid hk
 have HP:=Lib.hid h1
 have HP':=Lib.hid h2
 clear hk h1 h2
 go_enter Tryz.func12,Tryz.ntmps12
 go_upto_region 1 with fail
 have HX:=Lib.hid (((Sit.start w).FH rfl (.slice bY p.ds.length bM) (.slice dV p.ts.length bW) 26).FH (n:=w.heap.size + 1) (by simp) (.slice ER p.ds.length Hw) (.slice F4 p.ts.length I6) 26)
 generalize hW:World.alloc (World.alloc w _) _=W at *
 clear hW
 obtain ⟨-,⟨-,c0⟩,⟨-,c1⟩,⟨-,c2⟩,⟨-,c3⟩,-⟩:=HX.out
 go_wp2_with fail
 go_loopw [7] (fun s wr=> ∃(k:Nat) (R R':List De),s= .int .i64 k∧k + R.length=p.ds.length∧JW ln R R'∧kg wr wr.heap.size R bY k∧kg wr wr.heap.size R' ER k∧Sit w wr [(w.heap.size + 1,0,.slice ER p.ds.length Hw),(w.heap.size + 1,1,.slice F4 p.ts.length I6),(w.heap.size,0,.slice bY p.ds.length bM),(w.heap.size,1,.slice dV p.ts.length bW)]) (fun s _=>p.ds.length - (intOf s).toNat)
 case atStart=>exact ⟨0,p.ds,p'.ds,rfl,by simp,HK.out.1,(HP.out.same HX.out.1).2.2.1,(HP'.out.same HX.out.1).2.2.1,HX.out⟩
 case round=>
  obtain ⟨k,R,R',rfl,hlen,hal,hr1,hr2,hsit⟩:=hrel
  have HS:=Lib.hid hsit
  clear hsit HX c0 c1 c2 c3
  obtain ⟨-,⟨-,c0⟩,⟨-,c1⟩,⟨-,c2⟩,⟨-,c3⟩,-⟩:=HS.out
  match R,R',hal with
  | [],[],_=>
    obtain rfl:k=p.ds.length:=by simpa using hlen
    clear hlen hal hr1 hr2
    have hr1:=(HP.out.same HS.out.1).2.2.2
    have hr2:=(HP'.out.same HS.out.1).2.2.2
    go_wp2_with fail
    go_loopw [10] (fun s wr=> ∃(k:Nat) (R R':List Th),s= .int .i64 k∧k + R.length=p.ts.length∧Jw ln R R'∧jZ wr wr.heap.size R dV k∧jZ wr wr.heap.size R' F4 k∧Sit w wr [(w.heap.size + 1,0,.slice ER p.ds.length Hw),(w.heap.size + 1,1,.slice F4 p.ts.length I6),(w.heap.size,0,.slice bY p.ds.length bM),(w.heap.size,1,.slice dV p.ts.length bW)]) (fun s _=>p.ts.length - (intOf s).toNat)
    case atStart=>exact ⟨0,p.ts,p'.ts,rfl,by simp,HK.out.2,hr1,hr2,HS.out⟩
    case round=>
     obtain ⟨k,R,R',rfl,hlen,hal,hr1,hr2,hsit⟩:=hrel
     have HS:=Lib.hid hsit
     clear hsit c0 c1 c2 c3
     obtain ⟨-,⟨-,c0⟩,⟨-,c1⟩,⟨-,c2⟩,⟨-,c3⟩,-⟩:=HS.out
     match R,R',hal with
     | [],[],_=>
       obtain rfl:k=p.ts.length:=by simpa using hlen
       go_wp2_with fail
       go_ret
       exact ⟨rfl,HS.out.1⟩
     | t ::R,t' ::R',hal=>
       obtain ⟨⟨⟨hnm,hlc⟩,hln,hbd⟩,hal⟩:=hal
       obtain ⟨⟨bl,off,fP,dn,bC,aV,rfl,hbl,x0,x1,x2,x3,hok,htx,Ao,-⟩,hq1⟩:=hr1
       obtain ⟨⟨nZ,off2,NC,I4,Ju,En,rfl,lD,y0,y1,y2,y3,hok2,SC,Sz,-⟩,hq2⟩:=hr2
       obtain ⟨nm,line,bZ,body⟩:=t
       obtain ⟨nm',line',mg,body'⟩:=t'
       dsimp only at x0 x1 x2 x3 y0 y1 y2 y3 hln hnm hlc hbd htx SC Ao Sz
       subst hnm
       subst hlc
       rw [hbd.len] at y3
       have hkl:k < p.ts.length:=by simp only [List.length_cons] at hlen; omega
       have hb0:(0:Int)≤(k:Int):=by omega
       have hb1:(k:Int) < (p.ts.length:Int):=by omega
       have HR:=Lib.hid (And.intro hq1 hq2)
       have Af:=Lib.hid hal
       have iY:=Lib.hid hln
       have HLEN:=Lib.hid hlen
       have gq:=Lib.hid (And.intro hok hok2)
       have vE:=Lib.hid (And.intro htx SC)
       have Cu:=Lib.hid (And.intro hbd (And.intro Ao Sz))
       have zX:=HS.out.2.1.1
       have hlt1:=HS.out.2.2.2.1.1
       clear hq1 hq2 hal hln hlen hok hok2 htx SC Ao Sz hbd hr1 hr2
       go_upto_region 14 with fail
       refine rM (mI wr 10 an8 #[.string nm',.int .i64 line,.slice fP mg.length dn,.slice bC body.len aV] #[.string nm',.int .i64 line',.slice NC mg.length I4,.slice Ju body.len En] 67) (fun g _ g' _=>Gb.le g g') [60,61,62,63,64,65,66,67,68,69,11,12] ⟨none,none,false,false⟩ (by kernel_rfl) (by kernel_rfl) (fun g _=>Gb.le_refl g) (by rfl) mI.start ?_
       apply gP.step
       case aG=>
        intro D A g w' hDn hC hO hD
        have e3:=hO 3 (by rfl)
        simp [Act.eval] at e3
        simp [fV,fF,au,Act.eval,Region.binds] at hD
        simp [go_sem,jk,Oper.wp,hD,e3]
        exact dF.mk (Gb.le_refl g) (hC.skip _) (fF.mk _ _ _)
       apply gP.step
       case aG=>
        intro D A g w' hDn hC hO hD
        have m0:=(hC.bl.cell (p:=⟨w.heap.size,1,none⟩) hlt1).trans c3
        simp [fV,fF,au,Act.eval,Region.binds] at hD
        simp [go_sem,jk,Oper.wp,hD,m0]
        exact dF.mk (Gb.le_refl g) (hC.skip _) (fF.mk _ _ _)
       apply gP.step
       case aG=>
        intro D A g w' hDn hC hO hD
        have e10:=hO 10 (by rfl)
        simp [Act.eval] at e10
        simp [fV,fF,au,Act.eval,Region.binds] at hD
        simp [go_sem,jk,Oper.wp,hD,e10]
        exact dF.mk (Gb.le_refl g) (hC.skip _) (fF.mk _ _ _)
       apply gP.step
       case aG=>
        intro D A g w' hDn hC hO hD
        simp [fV,fF,au,Act.eval,Region.binds] at hD
        simp [go_sem,jk,Oper.wp,hD,hb0,hb1]
        exact dF.mk (Gb.le_refl g) (hC.skip _) (fF.mk _ _ _)
       apply gP.step
       case aG=>
        intro D A g w' hDn hC hO hD
        have z0:=(hC.bl.cell (p:=⟨bl,off + k * 4,none⟩) hbl).trans x0
        have z1:=(hC.bl.cell (p:=⟨bl,off + k * 4 + 1,none⟩) hbl).trans x1
        have z2:=(hC.bl.cell (p:=⟨bl,off + k * 4 + 2,none⟩) hbl).trans x2
        have z3:=(hC.bl.cell (p:=⟨bl,off + k * 4 + 3,none⟩) hbl).trans x3
        simp [fV,fF,au,Act.eval,Region.binds] at hD
        simp [go_sem,jk,Oper.wp,hD,z0,z1,z2,z3]
        exact dF.mk (Gb.le_refl g) (hC.skip _) (fF.mk _ _ _)
       apply gP.step
       case aG=>
        intro D A g w' hDn hC hO hD
        have e4:=hO 4 (by rfl)
        simp [Act.eval] at e4
        simp [fV,fF,au,Act.eval,Region.binds] at hD
        simp [go_sem,jk,Oper.wp,hD,e4]
        exact dF.mk (Gb.le_refl g) (hC.skip _) (fF.mk _ _ _)
       apply gP.step
       case aG=>
        intro D A g w' hDn hC hO hD
        have m0:=(hC.bl.cell (p:=⟨w.heap.size + 1,1,none⟩) zX).trans c1
        simp [fV,fF,au,Act.eval,Region.binds] at hD
        simp [go_sem,jk,Oper.wp,hD,m0]
        exact dF.mk (Gb.le_refl g) (hC.skip _) (fF.mk _ _ _)
       apply gP.step
       case aG=>
        intro D A g w' hDn hC hO hD
        have e10:=hO 10 (by rfl)
        simp [Act.eval] at e10
        simp [fV,fF,au,Act.eval,Region.binds] at hD
        simp [go_sem,jk,Oper.wp,hD,e10]
        exact dF.mk (Gb.le_refl g) (hC.skip _) (fF.mk _ _ _)
       apply gP.step
       case aG=>
        intro D A g w' hDn hC hO hD
        simp [fV,fF,au,Act.eval,Region.binds] at hD
        simp [go_sem,jk,Oper.wp,hD,hb0,hb1]
        exact dF.mk (Gb.le_refl g) (hC.skip _) (fF.mk _ _ _)
       apply gP.step
       case aG=>
        intro D A g w' hDn hC hO hD
        have z0:=(hC.bl.cell (p:=⟨nZ,off2 + k * 4,none⟩) lD).trans y0
        have z1:=(hC.bl.cell (p:=⟨nZ,off2 + k * 4 + 1,none⟩) lD).trans y1
        have z2:=(hC.bl.cell (p:=⟨nZ,off2 + k * 4 + 2,none⟩) lD).trans y2
        have z3:=(hC.bl.cell (p:=⟨nZ,off2 + k * 4 + 3,none⟩) lD).trans y3
        simp [fV,fF,au,Act.eval,Region.binds] at hD
        simp [go_sem,jk,Oper.wp,hD,z0,z1,z2,z3]
        exact dF.mk (Gb.le_refl g) (hC.skip _) (fF.mk _ _ _)
       refine gP.some (fun v g _=> ∃b,v= .pointer (some ⟨b,0,none⟩)∧g.o8=some b) (fun v g w g' w' hle h=>by obtain ⟨b,h1,h2⟩:=h; exact ⟨b,h1,hle.1 b h2⟩) ?_ ?_
       ·intro D A g w' hDn hC hO hD
        simp [go_sem,jk,Oper.wp]
        have hM:=hC.Xc hDn
        exact dF.mk hM.1 hM.2 ⟨_,rfl,rfl⟩
       refine gP.some (fun v g _=> ∃b,v= .pointer (some ⟨b,0,none⟩)∧g.o9=some b) (fun v g w g' w' hle h=>by obtain ⟨b,h1,h2⟩:=h; exact ⟨b,h1,hle.2.1 b h2⟩) ?_ ?_
       ·intro D A g w' hDn hC hO hD
        simp [go_sem,jk,Oper.wp]
        have hM:=hC.XA hDn
        exact dF.mk hM.1 hM.2 ⟨_,rfl,rfl⟩
       refine gP.some (fun _ g _=>g.s8=true) (fun v g w g' w' hle h=>hle.2.2.1 h) ?_ ?_
       ·intro D A g w' hDn hC hO hD
        simp [fV,fF,au,Act.eval,Region.binds] at hD
        obtain ⟨⟨gb,hv,hgb⟩,hx,-⟩:=hD
        simp only [jk,if_true]
        refine wp_store_mid _ _ _ (by rfl) gb 0 #[.string nm',.int .i64 line,.slice fP mg.length dn,.slice bC body.len aV] (by simp [Act.eval,hv]) (by simp [Act.eval,hx]) (hC.Kr hDn hgb (Nat.le_refl _)) Ik (by simp [Value.oneCell']) ?_
        have hF:=hC.Ye hDn hgb rfl
        exact dF.yU hF.1 hF.2 rfl
       refine gP.some (fun _ g _=>g.s9=true) (fun v g w g' w' hle h=>hle.2.2.2 h) ?_ ?_
       ·intro D A g w' hDn hC hO hD
        simp [fV,fF,au,Act.eval,Region.binds] at hD
        obtain ⟨⟨gb,hv,hgb⟩,hx,-⟩:=hD
        simp only [jk,if_true]
        refine wp_store_mid _ _ _ (by rfl) gb 0 #[.string nm',.int .i64 line',.slice NC mg.length I4,.slice Ju body.len En] (by simp [Act.eval,hv]) (by simp [Act.eval,hx]) (hC.II hDn hgb (Nat.le_refl _)) Ik (by simp [Value.oneCell']) ?_
        have hF:=hC.Z4 hDn hgb rfl
        exact dF.yU hF.1 hF.2 rfl
       refine gP.done ?_
       intro D g W hD hC
       simp only [EI,List.nil_append,List.cons_append,List.map_cons,List.map_nil]
       intro x0' h0' x1' h1' x2' h2' x3' h3' x4' h4' x5' h5' x6' h6' x7' yO x8' h8' x9' QA Xw ET Zh ES an2 Kv al2 Iq
       obtain ⟨g8,rfl,FY⟩:=ET
       obtain ⟨g9,rfl,Gc⟩:=ES
       obtain ⟨hB,K4,Kg,hne,Ad,Al⟩:=hC.two FY Gc Kv Iq
       have xH:Hid (Sit wr W [(g8,0,.string nm'),(g8,1,.int .i64 line),(g8,2,.slice fP mg.length dn),(g8,3,.slice bC body.len aV),(g9,0,.string nm'),(g9,1,.int .i64 line'),(g9,2,.slice NC mg.length I4),(g9,3,.slice Ju body.len En)]):=Lib.hid (by
        have q8:=(Array.getElem?_eq_some_iff.1 Ad).1
        have q9:=(Array.getElem?_eq_some_iff.1 Al).1
        exact ⟨hB,⟨q8,aj Ad rfl⟩,⟨q8,aj Ad rfl⟩,⟨q8,aj Ad rfl⟩,⟨q8,aj Ad rfl⟩,⟨q9,aj Al rfl⟩,⟨q9,aj Al rfl⟩,⟨q9,aj Al rfl⟩,⟨q9,aj Al rfl⟩,trivial⟩)
       have HTT:Hid (∀W,Below wr.heap.size wr W→Calls Tryz.prog 35 #[.slice fP mg.length dn,.slice NC mg.length I4] W fun e w'=>e= .returned (.bool true)∧Below W.heap.size W w'):=Lib.hid (fun W hB=>Ho _ W _ _ _ _ gq.out.1.2.2.1 (vE.out.1.same hB) (vE.out.2.same hB))
       have vV:Hid (∀W,Below wr.heap.size wr W→Calls Tryz.prog 36 #[.slice bC body.len aV,.slice Ju body.len En,.bool ln] W fun e w'=>e= .returned (.bool true)∧Below W.heap.size W w'):=Lib.hid (fun W hB=>by
        have:=H9 body W bC aV body' Ju En ln gq.out.1.2.2.2 Cu.out.1 (Cu.out.2.1.same hB) (Cu.out.2.2.same hB)
        rw [Cu.out.1.len] at this
        exact this)
       clear h0' h1' h2' h3' h4' h5' h6' yO h8' QA hC hD FY Gc Kv Iq hB K4 Kg hne Ad Al zX hlt1
       clear x0 x1 x2 x3 y0 y1 y2 y3 c0 c1 c2 c3
       refine CZ ?_
       go_simp
       obtain ⟨-,⟨-,c0⟩,⟨-,c1⟩,⟨-,c2⟩,⟨-,c3⟩,⟨-,c4⟩,⟨-,c5⟩,⟨-,c6⟩,⟨-,c7⟩,-⟩:=xH.out
       go_upto_region 15 with fail
       go_cut [101] (fun v W'=>v= .bool false∧Below wr.heap.size wr W')
       case first=>
        cases ln
        all_goals (try (have hl:=iY.out rfl; subst hl))
        all_goals
         go_wp2_with fail
         refine (HTT.out _ xH.out.1).mono ?_
         rintro e w2 ⟨rfl,hb⟩
         have HS2:=Lib.hid (xH.out.next hb)
         clear hb c0 c1 c2 c3 c4 c5 c6 c7
         obtain ⟨-,⟨-,c0⟩,⟨-,c1⟩,⟨-,c2⟩,⟨-,c3⟩,⟨-,c4⟩,⟨-,c5⟩,⟨-,c6⟩,⟨-,c7⟩,-⟩:=HS2.out
         go_wp2_with fail
         refine (vV.out _ HS2.out.1).mono ?_
         rintro e w3 ⟨rfl,hb⟩
         have jN:=Lib.hid (HS2.out.next hb)
         clear hb c0 c1 c2 c3 c4 c5 c6 c7
         go_wp2_with fail
         go_meet
         exact ⟨rfl,jN.out.1⟩
       obtain ⟨rfl,hB⟩:=hcut
       obtain ⟨W3,rfl⟩: ∃W:World,W=wc:=⟨_,rfl⟩
       have HU:=Lib.hid hB
       clear hB c0 c1 c2 c3 c4 c5 c6 c7
       go_wp2_with fail
       go_roundw
       case rel=>exact ⟨k + 1,R,R',by go_num,by have:=HLEN.out; simp only [List.length_cons] at this; omega,Af.out,HR.out.1.same HU.out,HR.out.2.same HU.out,HS.out.next HU.out⟩
       case measure=>simp [intOf]; omega
     | [],_ ::_,hal=>exact hal.elim
     | _ ::_,[],hal=>exact hal.elim
  | d ::R,d' ::R',hal=>
    obtain ⟨⟨hh,hln⟩,hal⟩:=hal
    obtain ⟨⟨bl,off,rfl,hbl,x0,x1,x2,x3,x4,x5,hok⟩,hq1⟩:=hr1
    obtain ⟨⟨nZ,off2,rfl,lD,y0,y1,y2,y3,y4,y5,-⟩,hq2⟩:=hr2
    obtain ⟨line',rfl⟩: ∃n,d'= {d with line:=n} :=⟨_,hh⟩
    dsimp only at y0 y1 y2 y3 y4 y5 hln
    obtain ⟨kind,line,nm,size,init,on⟩:=d
    dsimp only at x0 x1 x2 x3 x4 x5 y0 y1 y2 y3 y4 y5 hln
    have hkl:k < p.ds.length:=by simp only [List.length_cons] at hlen; omega
    have hb0:(0:Int)≤(k:Int):=by omega
    have hb1:(k:Int) < (p.ds.length:Int):=by omega
    have HR:=Lib.hid (And.intro hq1 hq2)
    have Af:=Lib.hid hal
    have iY:=Lib.hid hln
    have HLEN:=Lib.hid hlen
    have gq:=Lib.hid hok
    have zX:=HS.out.2.1.1
    have hlt1:=HS.out.2.2.2.1.1
    clear hq1 hq2 hal hln hlen hok hh
    go_upto_region 6 with fail
    refine rM (mI wr 10 ao6 (Ak ⟨kind,line,nm,size,init,on⟩) (Ak ⟨kind,line',nm,size,init,on⟩) 62) (fun g _ g' _=>Gb.le g g') [36,37,38,39,40,41,42,43,44,45,8,9] ⟨none,none,false,false⟩ (by kernel_rfl) (by kernel_rfl) (fun g _=>Gb.le_refl g) (by rfl) mI.start ?_
    apply gP.step
    case aG=>
     intro D A g w' hDn hC hO hD
     have e3:=hO 3 (by rfl)
     simp [Act.eval] at e3
     simp [fV,fF,au,Act.eval,Region.binds] at hD
     simp [go_sem,jk,Oper.wp,hD,e3]
     exact dF.mk (Gb.le_refl g) (hC.skip _) (fF.mk _ _ _)
    apply gP.step
    case aG=>
     intro D A g w' hDn hC hO hD
     have m0:=(hC.bl.cell (p:=⟨w.heap.size,0,none⟩) hlt1).trans c2
     simp [fV,fF,au,Act.eval,Region.binds] at hD
     simp [go_sem,jk,Oper.wp,hD,m0]
     exact dF.mk (Gb.le_refl g) (hC.skip _) (fF.mk _ _ _)
    apply gP.step
    case aG=>
     intro D A g w' hDn hC hO hD
     have e7:=hO 7 (by rfl)
     simp [Act.eval] at e7
     simp [fV,fF,au,Act.eval,Region.binds] at hD
     simp [go_sem,jk,Oper.wp,hD,e7]
     exact dF.mk (Gb.le_refl g) (hC.skip _) (fF.mk _ _ _)
    apply gP.step
    case aG=>
     intro D A g w' hDn hC hO hD
     simp [fV,fF,au,Act.eval,Region.binds] at hD
     simp [go_sem,jk,Oper.wp,hD,hb0,hb1]
     exact dF.mk (Gb.le_refl g) (hC.skip _) (fF.mk _ _ _)
    apply gP.step
    case aG=>
     intro D A g w' hDn hC hO hD
     have z0:=(hC.bl.cell (p:=⟨bl,off + k * 6,none⟩) hbl).trans x0
     have z1:=(hC.bl.cell (p:=⟨bl,off + k * 6 + 1,none⟩) hbl).trans x1
     have z2:=(hC.bl.cell (p:=⟨bl,off + k * 6 + 2,none⟩) hbl).trans x2
     have z3:=(hC.bl.cell (p:=⟨bl,off + k * 6 + 3,none⟩) hbl).trans x3
     have z4:=(hC.bl.cell (p:=⟨bl,off + k * 6 + 4,none⟩) hbl).trans x4
     have z5:=(hC.bl.cell (p:=⟨bl,off + k * 6 + 5,none⟩) hbl).trans x5
     simp [fV,fF,au,Act.eval,Region.binds] at hD
     simp [go_sem,jk,Oper.wp,hD,z0,z1,z2,z3,z4,z5]
     exact dF.mk (Gb.le_refl g) (hC.skip _) (fF.mk _ _ _)
    apply gP.step
    case aG=>
     intro D A g w' hDn hC hO hD
     have e4:=hO 4 (by rfl)
     simp [Act.eval] at e4
     simp [fV,fF,au,Act.eval,Region.binds] at hD
     simp [go_sem,jk,Oper.wp,hD,e4]
     exact dF.mk (Gb.le_refl g) (hC.skip _) (fF.mk _ _ _)
    apply gP.step
    case aG=>
     intro D A g w' hDn hC hO hD
     have m0:=(hC.bl.cell (p:=⟨w.heap.size + 1,0,none⟩) zX).trans c0
     simp [fV,fF,au,Act.eval,Region.binds] at hD
     simp [go_sem,jk,Oper.wp,hD,m0]
     exact dF.mk (Gb.le_refl g) (hC.skip _) (fF.mk _ _ _)
    apply gP.step
    case aG=>
     intro D A g w' hDn hC hO hD
     have e7:=hO 7 (by rfl)
     simp [Act.eval] at e7
     simp [fV,fF,au,Act.eval,Region.binds] at hD
     simp [go_sem,jk,Oper.wp,hD,e7]
     exact dF.mk (Gb.le_refl g) (hC.skip _) (fF.mk _ _ _)
    apply gP.step
    case aG=>
     intro D A g w' hDn hC hO hD
     simp [fV,fF,au,Act.eval,Region.binds] at hD
     simp [go_sem,jk,Oper.wp,hD,hb0,hb1]
     exact dF.mk (Gb.le_refl g) (hC.skip _) (fF.mk _ _ _)
    apply gP.step
    case aG=>
     intro D A g w' hDn hC hO hD
     have z0:=(hC.bl.cell (p:=⟨nZ,off2 + k * 6,none⟩) lD).trans y0
     have z1:=(hC.bl.cell (p:=⟨nZ,off2 + k * 6 + 1,none⟩) lD).trans y1
     have z2:=(hC.bl.cell (p:=⟨nZ,off2 + k * 6 + 2,none⟩) lD).trans y2
     have z3:=(hC.bl.cell (p:=⟨nZ,off2 + k * 6 + 3,none⟩) lD).trans y3
     have z4:=(hC.bl.cell (p:=⟨nZ,off2 + k * 6 + 4,none⟩) lD).trans y4
     have z5:=(hC.bl.cell (p:=⟨nZ,off2 + k * 6 + 5,none⟩) lD).trans y5
     simp [fV,fF,au,Act.eval,Region.binds] at hD
     simp [go_sem,jk,Oper.wp,hD,z0,z1,z2,z3,z4,z5]
     exact dF.mk (Gb.le_refl g) (hC.skip _) (fF.mk _ _ _)
    refine gP.some (fun v g _=> ∃b,v= .pointer (some ⟨b,0,none⟩)∧g.o8=some b) (fun v g w g' w' hle h=>by obtain ⟨b,h1,h2⟩:=h; exact ⟨b,h1,hle.1 b h2⟩) ?_ ?_
    ·intro D A g w' hDn hC hO hD
     simp [go_sem,jk,Oper.wp]
     have hM:=hC.Xc hDn
     exact dF.mk hM.1 hM.2 ⟨_,rfl,rfl⟩
    refine gP.some (fun v g _=> ∃b,v= .pointer (some ⟨b,0,none⟩)∧g.o9=some b) (fun v g w g' w' hle h=>by obtain ⟨b,h1,h2⟩:=h; exact ⟨b,h1,hle.2.1 b h2⟩) ?_ ?_
    ·intro D A g w' hDn hC hO hD
     simp [go_sem,jk,Oper.wp]
     have hM:=hC.XA hDn
     exact dF.mk hM.1 hM.2 ⟨_,rfl,rfl⟩
    refine gP.some (fun _ g _=>g.s8=true) (fun v g w g' w' hle h=>hle.2.2.1 h) ?_ ?_
    ·intro D A g w' hDn hC hO hD
     simp [fV,fF,au,Act.eval,Region.binds] at hD
     obtain ⟨⟨gb,hv,hgb⟩,hx,-⟩:=hD
     simp only [jk,if_true]
     refine wp_store_mid _ _ _ (by rfl) gb 0 (Ak ⟨kind,line,nm,size,init,on⟩) (by simp [Act.eval,hv]) (by simp [Act.eval,hx,Ak]) (hC.Kr hDn hgb (Nat.le_refl _)) IX (by simp [Value.oneCell',Ak]) ?_
     have hF:=hC.Ye hDn hgb rfl
     exact dF.yU hF.1 hF.2 rfl
    refine gP.some (fun _ g _=>g.s9=true) (fun v g w g' w' hle h=>hle.2.2.2 h) ?_ ?_
    ·intro D A g w' hDn hC hO hD
     simp [fV,fF,au,Act.eval,Region.binds] at hD
     obtain ⟨⟨gb,hv,hgb⟩,hx,-⟩:=hD
     simp only [jk,if_true]
     refine wp_store_mid _ _ _ (by rfl) gb 0 (Ak ⟨kind,line',nm,size,init,on⟩) (by simp [Act.eval,hv]) (by simp [Act.eval,hx,Ak]) (hC.II hDn hgb (Nat.le_refl _)) IX (by simp [Value.oneCell',Ak]) ?_
     have hF:=hC.Z4 hDn hgb rfl
     exact dF.yU hF.1 hF.2 rfl
    refine gP.done ?_
    intro D g W hD hC
    simp only [EI,List.nil_append,List.cons_append,List.map_cons,List.map_nil]
    intro x0' h0' x1' h1' x2' h2' x3' h3' x4' h4' x5' h5' x6' h6' x7' yO x8' h8' x9' QA Xw ET Zh ES an2 Kv al2 Iq
    obtain ⟨g8,rfl,FY⟩:=ET
    obtain ⟨g9,rfl,Gc⟩:=ES
    obtain ⟨hB,K4,Kg,hne,Ad,Al⟩:=hC.two FY Gc Kv Iq
    have fT:=Lib.hid (And.intro hB (And.intro K4 (And.intro Kg (And.intro hne (And.intro Ad Al)))))
    clear h0' h1' h2' h3' h4' h5' h6' yO h8' QA hC hD FY Gc Kv Iq hB K4 Kg hne Ad Al zX hlt1
    clear x0 x1 x2 x3 x4 x5 y0 y1 y2 y3 y4 y5 c0 c1 c2 c3
    refine CZ ?_
    go_simp
    cases ln
    ·obtain ⟨e0,e1,e2,e3,e4,e5⟩:=qJ fT.out.2.2.2.2.1
     obtain ⟨u0,u1,u2,u3,u4,u5⟩:=qJ fT.out.2.2.2.2.2
     have f1:W.frozen? ⟨g8,1,none⟩=false:=aF fT.out.2.2.2.2.1
     have f2:W.frozen? ⟨g9,1,none⟩=false:=aF fT.out.2.2.2.2.2
     have hne:=fT.out.2.2.2.1
     have hne':=hne.symm
     go_upto_region 9 with fail
     generalize hW':World.setCell (World.setCell W _ _) _ _=W'
     have Xx:Hid (Below wr.heap.size W W'∧W'.heap[g8]? =some (.cells (Ak ⟨kind,0,nm,size,init,on⟩) 62 (0,0))∧W'.heap[g9]? =some (.cells (Ak ⟨kind,0,nm,size,init,on⟩) 62 (0,0))):=Lib.hid (by
      rw [← hW']
      have q1:(W.setCell ⟨g8,1,none⟩ (.int .i64 0)).heap[g9]? =some (.cells (Ak ⟨kind,line',nm,size,init,on⟩) 62 (0,0)):=(aN W ⟨g8,1,none⟩ _ rfl (by show g8≠g9; exact hne)).trans fT.out.2.2.2.2.2
      exact ⟨Ew (Ew (Below.refl _ _) _ _ fT.out.2.1) _ _ fT.out.2.2.1,by rw [aN _ ⟨g9,1,none⟩ _ rfl (show g9≠g8 from hne'),aW fT.out.2.2.2.2.1]; rfl,by rw [aW q1]; rfl⟩)
     clear hW' e0 e1 e2 e3 e4 e5 u0 u1 u2 u3 u4 u5 f1 f2 hne hne'
     obtain ⟨e0,e1,e2,e3,e4,e5⟩:=qJ Xx.out.2.1
     obtain ⟨u0,u1,u2,u3,u4,u5⟩:=qJ Xx.out.2.2
     dsimp only at e0 e1 e2 e3 e4 e5 u0 u1 u2 u3 u4 u5
     have HU:Hid (Below wr.heap.size wr W'):=Lib.hid (fT.out.1.trans Xx.out.1)
     go_wp2_with fail
     go_roundw
     case rel=>exact ⟨k + 1,R,R',by go_num,by have:=HLEN.out; simp only [List.length_cons] at this; omega,Af.out,HR.out.1.same HU.out,HR.out.2.same HU.out,HS.out.next HU.out⟩
     case measure=>simp [intOf]; omega
    ·have hl:=iY.out rfl
     subst hl
     obtain ⟨e0,e1,e2,e3,e4,e5⟩:=qJ fT.out.2.2.2.2.1
     obtain ⟨u0,u1,u2,u3,u4,u5⟩:=qJ fT.out.2.2.2.2.2
     dsimp only at e0 e1 e2 e3 e4 e5 u0 u1 u2 u3 u4 u5
     have HU:Hid (Below wr.heap.size wr W):=Lib.hid fT.out.1
     go_wp2_with fail
     go_roundw
     case rel=>exact ⟨k + 1,R,R',by go_num,by have:=HLEN.out; simp only [List.length_cons] at this; omega,Af.out,HR.out.1.same HU.out,HR.out.2.same HU.out,HS.out.next HU.out⟩
     case measure=>simp [intOf]; omega
  | [],_ ::_,hal=>exact hal.elim
  | _ ::_,[],hal=>exact hal.elim
end Go.Proofs.YtehnipchbmjlhaaGreatDoor
end
