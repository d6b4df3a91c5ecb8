/-
  Contracts of check.declared and check.meaning.
  Contracts of check.kindOf, extent, names, Expr.
  Maps that a call makes, keyed by texts, with integers and truth values: what they hold as a plain function.
  Contract of check.declarations.
  Contract of check.threads.
-/
import Derived.Test.YtnknfoibmgphnaaDoorGMA
import Derived.Test.YtnknfoibmgphnaaDoorGMC
import Derived.Deep.CutBlock
import Derived.Test.YtnknfoibmgphnaaDoorGMB
import Derived.Maps.Own
import Derived.Maps.OwnSet
import Derived.Maps.Views
section
namespace Go.Proofs.YtnknfoibmgphnaaDoor
open Go.RowKit
open Md
theorem vG (d:De) (w:World):
 Calls Tryd.prog 26 #[.agg #[.int .i64 d.kind,.int .i64 d.line,.string d.nm,.int .i64 d.size,.int .i64 d.init,.string d.on]] w fun e w'=>e= .returned (.int .i64 (fu d))∧Below w.heap.size w w':=by
 unfold fu
 go_enter Tryd.func26,Tryd.ntmps26
 go_wp2
 all_goals go_ret
 all_goals refine ⟨aS ?_,ay _ _⟩
 all_goals first | (simp [*]; done) | (go_light; grind)
theorem G7 (s:ByteArray) (r:List ByteArray) (nm:ByteArray):lW (s ::r) nm=((s.toList == nm.toList) || lW r nm):=by simp [lW]
theorem G9 (d:De) (r:List De) (nm:ByteArray):lg (d ::r) nm=if d.nm.toList == nm.toList then some (fu d) else lg r nm:=by
 unfold lg; rw [List.find?_cons]; cases h:(d.nm.toList == nm.toList) <;> simp
theorem wM (t:Th) (r:List Th) (nm:ByteArray):lV (t ::r) nm=if t.nm.toList == nm.toList then 8 else lV r nm:=by
 unfold lV; rw [List.any_cons]; cases h:(t.nm.toList == nm.toList) <;> simp
theorem yX {ts:List Th} {i:Int} (h: ¬ (0≤i∧i < ts.length)):jQ ts i=[]:=by
 unfold jQ
 split
 ·rw [List.getElem?_eq_none (by omega)]; rfl
 ·rfl
theorem Ao {ts:List Th} {i:Nat} {t:Th} {r:List Th} (h:ts.drop i=t ::r):jQ ts (i:Int)=t.bH:=by
 have h2:ts[i]? =some t:=by have:=List.getElem?_drop (xs:=ts) (i:=i) (j:=0); rw [h] at this; simpa using this.symm
 unfold jQ
 rw [if_pos (by omega)]
 simp [h2]
set_option maxHeartbeats 2000000 in
theorem EJ (p:Pr) (i:Int) (nm:ByteArray) (w:World) (aC aF:Option Addr) (aA av:Nat) (hi:aX i) (hp:p.At w aC aF):
 Calls Tryd.prog 79 #[.agg #[.slice aC p.ds.length aA,.slice aF p.ts.length av],.int .i64 i,.string nm] w fun e w'=>e= .returned (.int .i64 (mean p i nm))∧Below w.heap.size w w':=by
 obtain ⟨i1,i2⟩:=hi
 have hld:=hp.1
 have hlt:=hp.2.1
 unfold maxLen at hld hlt
 have HP:=Lib.hid hp
 clear hp
 go_enter Tryd.func79,Tryd.ntmps79
 go_upto_region 1 with fail
 generalize hW:World.alloc w _=W
 generalize Value.agg #[_,_]=a0
 have HX:=Lib.hid ((Sit.start w).kC rfl (.slice aC p.ds.length aA) (.slice aF p.ts.length av) 26)
 rw [hW] at HX
 clear hW
 obtain ⟨-,⟨-,c0⟩,⟨-,c1⟩,-⟩:=HX.out
 go_cut [21] (fun s W2=>W=W2∧ ∃b,s= .bool b∧decide (0≤i∧i < p.ts.length)=b)
 case first=>
  go_wp2_with fail
  all_goals go_meet
  all_goals exact ⟨rfl,_,rfl,by go_light; grind⟩
 obtain ⟨rfl,bi,rfl,hbi⟩:=hcut
 have Nt:=Lib.hid hbi
 clear hbi
 go_upto_if 21 with fail
 go_cut [6,8] (fun s6 s8 W2=>lW (jQ p.ts i) nm=false∧Sit w W2 [(w.heap.size,0,(.slice aC p.ds.length aA)),(w.heap.size,1,(.slice aF p.ts.length av))])
 case first=>
  cases bi
  ·go_wp2_with fail
   go_meet
   exact ⟨by rw [yX (by simpa using Nt.out)]; rfl,HX.out⟩
  ·have hbi:0≤i∧i < p.ts.length:=by simpa using Nt.out
   obtain ⟨j,rfl⟩:=Int.eq_ofNat_of_zero_le hbi.1
   have hj:j < p.ts.length:=by omega
   have hth:=(HP.out.same HX.out.1).2.2.2.drop j
   cases hd:p.ts.drop j with
   | nil=>exfalso; have:=congrArg List.length hd; simp at this; omega
   | cons t r=>
     rw [hd,Nat.zero_add] at hth
     have HL:=Lib.hid (Ao hd)
     clear hd hbi Nt
     obtain ⟨⟨b,off,iQ,gy,bg,aT,rfl,hB,x0,x1,x2,x3,hok,htx,hst⟩,-⟩:=hth
     have hll:=hok.2.2.1
     unfold maxLen at hll
     clear hst hok
     go_wp2_with fail
     go_loop [8,29] (fun _ s=> ∃(k:Nat) (R:List ByteArray),s= .int .i64 k∧k + R.length=t.bH.length∧lW t.bH nm=lW R nm∧iD W W.heap.size R iQ k) (fun _ s=>t.bH.length - (intOf s).toNat)
     case atStart=>exact ⟨0,t.bH,rfl,by simp,rfl,htx⟩
     case round=>
      obtain ⟨k,R,rfl,hlen,heq,hrow⟩:=hrel
      cases R with
      | nil=>
        obtain rfl:k=t.bH.length:=by simpa using hlen
        go_wp2_with fail
        go_meet
        exact ⟨by rw [HL.out,heq]; rfl,HX.out⟩
      | cons s R=>
        obtain ⟨⟨b',off',rfl,hB',y0,hs⟩,hrest⟩:=hrow
        simp only [List.length_cons] at hlen
        have hkl:k < t.bH.length:=by omega
        rw [G7] at heq
        have HE:=Lib.hid heq
        clear heq
        cases hc:(s.toList == nm.toList)
        ·have dA:=Lib.hid (HE.out.trans (by rw [hc]; rfl:_=lW R nm))
         go_wp2_with fail
         go_round
         case rel=>exact ⟨k + 1,R,by go_num,by omega,dA.out,hrest⟩
         case measure=>simp [intOf]; omega
        ·have dA:=Lib.hid (HE.out.trans (by rw [hc]; rfl:_=true))
         go_wp2_with fail
         go_ret
         exact ⟨aS (by unfold mean; rw [HL.out,dA.out]; rfl),HX.out.1⟩
 case rest=>
  obtain ⟨hno,hX⟩:=hcut
  have HY:=Lib.hid hX
  have HM:Hid (mean p i nm=(lg p.ds nm).getD (lV p.ts nm)):=Lib.hid (by unfold mean; rw [hno]; rfl)
  clear hno hX HX c0 c1
  obtain ⟨-,⟨-,c0⟩,⟨-,c1⟩,-⟩:=HY.out
  have hde:=(HP.out.same HY.out.1).2.2.1
  go_wp2_with fail
  go_loopw [10,40] (fun _ s wr=> ∃(k:Nat) (R:List De),s= .int .i64 k∧k + R.length=p.ds.length∧lg p.ds nm=lg R nm∧iZ wr wr.heap.size R aC k∧Sit w wr [(w.heap.size,0,(.slice aC p.ds.length aA)),(w.heap.size,1,(.slice aF p.ts.length av))]) (fun _ s _=>p.ds.length - (intOf s).toNat)
  case atStart=>exact ⟨0,p.ds,rfl,by simp,rfl,hde,HY.out⟩
  case round=>
   obtain ⟨k,R,rfl,hlen,heq,hrow,hsit⟩:=hrel
   have HZ:=Lib.hid hsit
   clear hsit HY c0 c1 hde
   cases R with
   | nil=>
     obtain rfl:k=p.ds.length:=by simpa using hlen
     obtain ⟨-,⟨-,c0⟩,⟨-,c1⟩,-⟩:=HZ.out
     have hth:=(HP.out.same HZ.out.1).2.2.2
     have QI:=Lib.hid (HM.out.trans (by rw [heq]; rfl:_=lV p.ts nm))
     clear heq HM
     go_wp2_with fail
     go_loopw [12,54] (fun _ s wr=> ∃(k:Nat) (R:List Th),s= .int .i64 k∧k + R.length=p.ts.length∧lV p.ts nm=lV R nm∧iy wr wr.heap.size R aF k∧Sit w wr [(w.heap.size,0,(.slice aC p.ds.length aA)),(w.heap.size,1,(.slice aF p.ts.length av))]) (fun _ s _=>p.ts.length - (intOf s).toNat)
     case atStart=>exact ⟨0,p.ts,rfl,by simp,rfl,hth,HZ.out⟩
     case round=>
      obtain ⟨k,R,rfl,hlen,heq,hrow,hsit⟩:=hrel
      have HU:=Lib.hid hsit
      clear hsit HZ c0 c1 hth
      cases R with
      | nil=>
        obtain rfl:k=p.ts.length:=by simpa using hlen
        go_wp2_with fail
        go_ret
        exact ⟨aS (QI.out.trans heq).symm,HU.out.1⟩
      | cons t R=>
        obtain ⟨⟨b,off,iQ,gy,bg,aT,rfl,hB,x0,x1,x2,x3,hok,htx,hst⟩,hrest⟩:=hrow
        simp only [List.length_cons] at hlen
        have hkl:k < p.ts.length:=by omega
        rw [wM] at heq
        have HE:=Lib.hid heq
        clear heq hok htx hst
        cases hc:(t.nm.toList == nm.toList)
        ·have dA:=Lib.hid (HE.out.trans (by rw [hc]; rfl:_=lV R nm))
         go_wp2_with fail
         go_roundw
         case rel=>exact ⟨k + 1,R,by go_num,by omega,dA.out,hrest.same (ay _ _),HU.out.next (ay _ _)⟩
         case measure=>simp [intOf]; omega
        ·have dA:=Lib.hid (HE.out.trans (if_pos hc))
         go_wp2_with fail
         go_ret
         exact ⟨aS (QI.out.trans dA.out).symm,(HU.out.next (ay _ _)).1⟩
   | cons d R=>
     obtain ⟨⟨b,off,rfl,hB,x0,x1,x2,x3,x4,x5,hok⟩,hrest⟩:=hrow
     simp only [List.length_cons] at hlen
     have hkl:k < p.ds.length:=by omega
     rw [G9] at heq
     have HE:=Lib.hid heq
     clear heq hok
     cases hc:(d.nm.toList == nm.toList)
     ·have dA:=Lib.hid (HE.out.trans (by rw [hc]; rfl:_=lg R nm))
      go_wp2_with fail
      go_roundw
      case rel=>exact ⟨k + 1,R,by go_num,by omega,dA.out,hrest.same (ay _ _),HZ.out.next (ay _ _)⟩
      case measure=>simp [intOf]; omega
     ·have dA:=Lib.hid (HE.out.trans (if_pos hc))
      go_wp2_with fail
      refine (vG d _).mono ?_
      rintro e w2 ⟨rfl,hb2⟩
      go_wp2_with fail
      go_ret
      exact ⟨aS (HM.out.trans (by rw [dA.out]; rfl)).symm,((HZ.out.next (ay _ _)).next hb2).1⟩
theorem nM (d:De):2≤fu d∧fu d≤9∧fu d≠8:=by unfold fu; grind
end Go.Proofs.YtnknfoibmgphnaaDoor
end
section
namespace Go.Proofs.YtnknfoibmgphnaaDoor
open Go.RowKit
namespace Md
def eD (w:World) (B:Nat):List Int→Option Addr→Nat→Prop
 | [],_,_=>True
 | s ::r,ao,k=>(∃b off,ao=some ⟨b,off,none⟩∧b < B∧w.cell? ⟨b,off + k,none⟩=some (.int .i64 s))∧eD w B r ao (k + 1)
section
variable {w w':World} {B B':Nat}
theorem eD.below (hb:Below B w w'): ∀ {l:List Int} {ao:Option Addr} {k:Nat},eD w B l ao k→eD w' B l ao k
 | [],_,_,_=>trivial
 | _ ::_,_,_,⟨⟨b,off,e,hB,c⟩,hr⟩=>⟨⟨b,off,e,hB,(hb.cell hB).trans c⟩,eD.below hb hr⟩
theorem eD.mono (h:B≤B'): ∀ {l:List Int} {ao:Option Addr} {k:Nat},eD w B l ao k→eD w B' l ao k
 | [],_,_,_=>trivial
 | _ ::_,_,_,⟨⟨b,off,e,hB,c⟩,hr⟩=>⟨⟨b,off,e,Nat.lt_of_lt_of_le hB h,c⟩,eD.mono h hr⟩
theorem eD.same {l:List Int} {ao:Option Addr} {k:Nat} (h:eD w w.heap.size l ao k) (hb:Below w.heap.size w w'):eD w' w'.heap.size l ao k:=(h.below hb).mono hb.size
end
def bC (m:Int) (l:List Int):Int:=if m == 0 then 5 else if l.any (fun k=>m == k) then 0 else 6
def tV:bJ→Int→Int→Int × Int
 | .nil,n,d=>(n,d)
 | .cons _ _ _ kids rest,n,d=>tV rest (wrap64 (n + (tV kids 1 0).1)) (max d (wrap64 ((tV kids 1 0).2 + 1)))
def ext (kids:bJ):Int × Int:=((tV kids 1 0).1,wrap64 ((tV kids 1 0).2 + 1))
def mV (p:Pr) (i op:Int) (nm:ByteArray):Int:=if op == 2 then bC (mean p i nm) [1,2] else if op == 3 then bC (mean p i nm) [3] else 0
def nC (p:Pr) (i:Int):bJ→Int
 | .nil=>0
 | .cons op _ nm kids rest=>if mV p i op nm == 0 then (if nC p i kids == 0 then nC p i rest else nC p i kids) else mV p i op nm
def oU (p:Pr) (i op:Int) (nm:ByteArray) (kids:bJ):Int:=if mV p i op nm == 0 then nC p i kids else mV p i op nm
theorem C9 (p:Pr) (i op n:Int) (nm:ByteArray) (kids rest:bJ):nC p i (.cons op n nm kids rest)=if oU p i op nm kids == 0 then nC p i rest else oU p i op nm kids:=by
 rw [nC]; unfold oU
 cases h:(mV p i op nm == 0) <;> simp
 ·intro h'; simp [h'] at h
def iE (p:Pr) (i op n:Int) (nm:ByteArray) (kids:bJ):Int:=
 if jN op n nm kids then (if decide (24 < (ext kids).1) || decide (6 < (ext kids).2) then 2 else oU p i op nm kids) else 3
end Md
open Md
theorem Dh (m k:Int) (l:List Int):(k ::l).any (fun k=>m == k)=((m == k) || l.any (fun k=>m == k)):=by simp
set_option maxHeartbeats 2000000 in
theorem sO (p:Pr) (i:Int) (nm:ByteArray) (l:List Int) (w:World) (aC aF ao:Option Addr) (aA av cap:Nat) (hi:aX i) (hl:l.length≤maxLen) (hp:p.At w aC aF) (hw:eD w w.heap.size l ao 0):
 Calls Tryd.prog 75 #[.agg #[.slice aC p.ds.length aA,.slice aF p.ts.length av],.int .i64 i,.string nm,.slice ao l.length cap] w fun e w'=>e= .returned (.int .i64 (bC (mean p i nm) l))∧Below w.heap.size w w':=by
 unfold maxLen at hl
 have HP:=Lib.hid hp
 have HW:=Lib.hid hw
 clear hp hw
 go_enter Tryd.func75,Tryd.ntmps75
 go_wp2_with fail
 refine (EJ p i nm _ aC aF aA av hi (HP.out.same (ay _ _))).mono ?_
 rintro e w2 ⟨rfl,hb2⟩
 have HB:=Lib.hid ((ay w (.cells #[.slice aC p.ds.length aA,.slice aF p.ts.length av] 26)).trans (hb2.mono (by simp)))
 clear hb2
 have hrow:=HW.out.same HB.out
 generalize hmm:mean p i nm=m at *
 have HM:=Lib.hid hmm
 clear hmm
 cases h0:(m == 0)
 ·go_wp2_with fail
  go_loop [11,20] (fun _ s=> ∃(k:Nat) (R:List Int),s= .int .i64 k∧k + R.length=l.length∧l.any (fun k=>m == k)=R.any (fun k=>m == k)∧eD w2 w2.heap.size R ao k) (fun _ s=>l.length - (intOf s).toNat)
  case atStart=>exact ⟨0,l,rfl,by simp,rfl,hrow⟩
  case round=>
   obtain ⟨k,R,rfl,hlen,heq,hrow'⟩:=hrel
   cases R with
   | nil=>
     obtain rfl:k=l.length:=by simpa using hlen
     have HE:Hid (bC m l=6):=Lib.hid (by unfold bC; rw [h0,heq]; rfl)
     clear heq
     go_wp2_with fail
     go_ret
     exact ⟨aS (by rw [HM.out,HE.out]),HB.out⟩
   | cons a R=>
     obtain ⟨⟨b,off,rfl,hB,y0⟩,hrest⟩:=hrow'
     simp only [List.length_cons] at hlen
     have hkl:k < l.length:=by omega
     rw [Dh] at heq
     have HE:=Lib.hid heq
     clear heq
     cases hc:(m == a)
     ·have dA:=Lib.hid (HE.out.trans (by rw [hc]; rfl:_=R.any (fun k=>m == k)))
      go_wp2_with fail
      go_round
      case rel=>exact ⟨k + 1,R,by go_num,by omega,dA.out,hrest⟩
      case measure=>simp [intOf]; omega
     ·have dA:Hid (bC m l=0):=Lib.hid (by unfold bC; rw [h0,HE.out,hc]; rfl)
      go_wp2_with fail
      go_ret
      exact ⟨aS (by rw [HM.out,dA.out]),HB.out⟩
 ·have HE:Hid (bC m l=5):=Lib.hid (by unfold bC; rw [h0]; rfl)
  go_wp2_with fail
  go_ret
  exact ⟨aS (by rw [HM.out,HE.out]),HB.out⟩
theorem iH {a b c d:Int} (h1:c=a) (h2:d=b):Ending.returned (.tuple #[.int .i64 a,.int .i64 b])= .returned (.tuple #[.int .i64 c,.int .i64 d]):=by rw [h1,h2]
theorem ext_nil {kids:bJ} {a d:Int} (h:tV kids 1 0=tV .nil a d):(ext kids).1=a∧(ext kids).2=wrap64 (d + 1):=by unfold ext; rw [h]; exact ⟨rfl,rfl⟩
def yN (op n:Int) (nm:ByteArray) (kids:bJ):Prop:=
 ∀(w:World) (ao:Option Addr) (cap:Nat),lI op n nm kids→kids.At w w.heap.size ao 0→
  Calls Tryd.prog 77 #[.agg #[.int .i64 op,.int .i64 n,.string nm,.slice ao kids.len cap]] w fun e w'=>e= .returned (.tuple #[.int .i64 (ext kids).1,.int .i64 (ext kids).2])∧Below w.heap.size w w'
set_option maxHeartbeats 2000000 in
theorem EK (op n:Int) (nm:ByteArray) (kids:bJ) (ih:kids.All yN):yN op n nm kids:=by
 intro w ao cap hok hat
 obtain ⟨-,-,-,hl⟩:=hok
 unfold maxLen at hl
 have qJ:=Lib.hid ih
 have HAT:=Lib.hid hat
 clear ih hat
 go_enter Tryd.func77,Tryd.ntmps77
 go_upto_region 2 with fail
 generalize hW:World.alloc w _=W
 generalize Value.agg #[_,_,_,_]=a0
 have HX:=Lib.hid ((Sit.start w).qX rfl (.int .i64 op) (.int .i64 n) (.string nm) (.slice ao kids.len cap) 40)
 rw [hW] at HX
 clear hW
 obtain ⟨-,⟨-,c0⟩,⟨-,c1⟩,⟨-,c2⟩,⟨-,c3⟩,-⟩:=HX.out
 go_wp2_with fail
 go_loopw [4,5,7,8,9,13] (fun s4 s5 _ _ _ s wr=> ∃(k:Nat) (R:bJ) (a d:Int),s= .int .i64 k∧s4= .int .i64 a∧s5= .int .i64 d∧k + R.len=kids.len∧tV kids 1 0=tV R a d∧R.All yN∧R.At wr wr.heap.size ao k∧Below w.heap.size w wr) (fun _ _ _ _ _ s _=>kids.len - (intOf s).toNat)
 case atStart=>exact ⟨0,kids,1,0,rfl,rfl,rfl,by simp,rfl,qJ.out,HAT.out.same HX.out.1,HX.out.1⟩
 case round=>
  obtain ⟨k,R,a,d,rfl,rfl,rfl,hlen,heq,hall,hrow,hB⟩:=hrel
  have HE:=Lib.hid heq
  clear heq c0 c1 c2 c3
  cases R with
  | nil=>
    obtain rfl:k=kids.len:=by simpa [bJ.len] using hlen
    go_wp2_with fail
    go_ret2
    exact ⟨iH (ext_nil HE.out).1 (ext_nil HE.out).2,hB⟩
  | cons op' n' nm' fq rest=>
    obtain ⟨⟨b,off,jO,cap',rfl,ni,x0,x1,x2,x3,hok',jy⟩,hrest⟩:=hrow
    obtain ⟨lT,kZ⟩:=hall
    have hlt:k < kids.len:=by simp only [bJ.len] at hlen; omega
    go_wp2_with fail
    have hba:=ay wr (.cells #[.int .i64 op',.int .i64 n',.string nm',.slice jO fq.len cap'] 40)
    refine (lT _ _ _ hok' (jy.same hba)).mono ?_
    rintro e w2 ⟨rfl,hb2⟩
    have HB3:=Lib.hid (hba.trans (hb2.mono (by simp)))
    clear hba hb2 x0 x1 x2 x3 jy
    go_wp2_with fail
    go_roundw
    case rel=>exact ⟨k + 1,rest,_,_,by go_num,rfl,rfl,by simp only [bJ.len] at hlen; omega,HE.out,kZ,hrest.same HB3.out,hB.trans (HB3.out.mono hB.size)⟩
    case measure=>simp [intOf]; omega
theorem G5 (op n:Int) (nm:ByteArray) (kids:bJ):yN op n nm kids:=bJ.uy EK op n nm kids
def yL (p:Pr) (i:Int) (op n:Int) (nm:ByteArray) (kids:bJ):Prop:=
 ∀(w:World) (aC aF ao:Option Addr) (aA av cap:Nat),aX i→p.At w aC aF→lI op n nm kids→kids.At w w.heap.size ao 0→
  Calls Tryd.prog 78 #[.agg #[.slice aC p.ds.length aA,.slice aF p.ts.length av],.int .i64 i,.agg #[.int .i64 op,.int .i64 n,.string nm,.slice ao kids.len cap]] w fun e w'=>e= .returned (.int .i64 (oU p i op nm kids))∧Below w.heap.size w w'
theorem eU (w:World) (a b:Int) (t:TypeId):eD (w.alloc (.cells #[.int .i64 a,.int .i64 b] t)) (w.alloc (.cells #[.int .i64 a,.int .i64 b] t)).heap.size [a,b] (some ⟨w.heap.size,0,none⟩) 0:=
 ⟨⟨_,_,rfl,by simp,dz w [.int .i64 a,.int .i64 b] t 0⟩,⟨_,_,rfl,by simp,dz w [.int .i64 a,.int .i64 b] t 1⟩,trivial⟩
theorem fH (w:World) (a:Int) (t:TypeId):eD (w.alloc (.cells #[.int .i64 a] t)) (w.alloc (.cells #[.int .i64 a] t)).heap.size [a] (some ⟨w.heap.size,0,none⟩) 0:=
 ⟨⟨_,_,rfl,by simp,dz w [.int .i64 a] t 0⟩,trivial⟩
set_option maxHeartbeats 2000000 in
theorem Gf (p:Pr) (i:Int) (op n:Int) (nm:ByteArray) (kids:bJ) (ih:kids.All (yL p i)):yL p i op n nm kids:=by
 intro w aC aF ao aA av cap hi hp hok hat
 obtain ⟨-,-,-,hl⟩:=hok
 unfold maxLen at hl
 have qJ:=Lib.hid ih
 have HAT:=Lib.hid hat
 have HP:=Lib.hid hp
 clear ih hat hp
 go_enter Tryd.func78,Tryd.ntmps78
 go_upto_region 1 with fail
 generalize hW:World.alloc (World.alloc w _) _=W
 generalize Value.agg #[_,_]=a0
 generalize Value.agg #[_,_,_,_]=a1
 have HX:=Lib.hid (((Sit.start w).kC rfl (.slice aC p.ds.length aA) (.slice aF p.ts.length av) 26).qX (n:=w.heap.size + 1) (by simp) (.int .i64 op) (.int .i64 n) (.string nm) (.slice ao kids.len cap) 40)
 rw [hW] at HX
 clear hW
 obtain ⟨-,⟨-,c0⟩,⟨-,c1⟩,⟨-,c2⟩,⟨-,c3⟩,⟨-,c4⟩,⟨-,c5⟩,-⟩:=HX.out
 go_upto_block 0 with (fail)
 go_cut [7,10] (fun s7 _ W2=>s7= .int .i64 (mV p i op nm)∧Sit w W2 [(w.heap.size + 1,0,.int .i64 op),(w.heap.size + 1,1,.int .i64 n),(w.heap.size + 1,2,.string nm),(w.heap.size + 1,3,.slice ao kids.len cap),(w.heap.size,0,.slice aC p.ds.length aA),(w.heap.size,1,.slice aF p.ts.length av)])
 case first=>
  cases h2:(op == 2)
  ·cases h3:(op == 3)
   ·have HE:Hid (mV p i op nm=0):=Lib.hid (by unfold mV; rw [h2,h3]; rfl)
    go_wp2_with fail
    go_meet
    exact ⟨by rw [HE.out],HX.out⟩
   ·have HE:Hid (mV p i op nm=bC (mean p i nm) [3]):=Lib.hid (by unfold mV; rw [h2,h3]; rfl)
    go_wp2_with fail
    refine (sO p i nm [3] _ aC aF _ aA av _ hi (by decide) ((HP.out.same HX.out.1).same (ay _ _)) (fH W 3 _)).mono ?_
    rintro e w2 ⟨rfl,hb2⟩
    go_wp2_with fail
    go_meet
    exact ⟨by rw [HE.out],(HX.out.next (ay _ _)).next hb2⟩
  ·have HE:Hid (mV p i op nm=bC (mean p i nm) [1,2]):=Lib.hid (by unfold mV; rw [h2]; rfl)
   go_wp2_with fail
   refine (sO p i nm [1,2] _ aC aF _ aA av _ hi (by decide) ((HP.out.same HX.out.1).same (ay _ _)) (eU W 1 2 _)).mono ?_
   rintro e w2 ⟨rfl,hb2⟩
   go_wp2_with fail
   go_meet
   exact ⟨by rw [HE.out],(HX.out.next (ay _ _)).next hb2⟩
 case rest=>
  obtain ⟨rfl,hX⟩:=hcut
  have HY:=Lib.hid hX
  clear hX HX c0 c1 c2 c3 c4 c5
  have HR:Hid (oU p i op nm kids=if mV p i op nm == 0 then nC p i kids else mV p i op nm):=Lib.hid rfl
  generalize mV p i op nm=r0 at *
  go_wp2_with fail
  go_loopw [7,8] (fun s7 s8 wr=> ∃(k:Nat) (R:bJ) (r:Int),s8= .int .i64 k∧s7= .int .i64 r∧k + R.len=kids.len∧oU p i op nm kids=(if r == 0 then nC p i R else r)∧R.All (yL p i)∧R.At wr wr.heap.size ao k∧Sit w wr [(w.heap.size + 1,0,.int .i64 op),(w.heap.size + 1,1,.int .i64 n),(w.heap.size + 1,2,.string nm),(w.heap.size + 1,3,.slice ao kids.len cap),(w.heap.size,0,.slice aC p.ds.length aA),(w.heap.size,1,.slice aF p.ts.length av)]) (fun _ s _=>kids.len - (intOf s).toNat)
  case atStart=>exact ⟨0,kids,r0,rfl,rfl,by simp,HR.out,qJ.out,HAT.out.same HY.out.1,HY.out⟩
  case round=>
   obtain ⟨k,R,r,rfl,rfl,hlen,heq,hall,hrow,hsit⟩:=hrel
   have HE:=Lib.hid heq
   have HZ:=Lib.hid hsit
   clear heq hsit
   obtain ⟨-,⟨-,c0⟩,⟨-,c1⟩,⟨-,c2⟩,⟨-,c3⟩,⟨-,c4⟩,⟨-,c5⟩,-⟩:=HZ.out
   cases R with
   | nil=>
     obtain rfl:k=kids.len:=by simpa [bJ.len] using hlen
     go_wp2_with fail
     go_ret
     exact ⟨aS (HE.out.trans (by cases h:(r == 0) <;> simp_all [nC])).symm,HZ.out.1⟩
   | cons op' n' nm' fq rest=>
     obtain ⟨⟨b,off,jO,cap',rfl,ni,x0,x1,x2,x3,hok',jy⟩,hrest⟩:=hrow
     obtain ⟨lT,kZ⟩:=hall
     have hlt:k < kids.len:=by simp only [bJ.len] at hlen; omega
     cases hr:(r == 0)
     ·have dA:=Lib.hid (HE.out.trans (by rw [hr]; rfl:_=r))
      go_wp2_with fail
      go_ret
      exact ⟨aS dA.out.symm,HZ.out.1⟩
     ·have dA:=Lib.hid (HE.out.trans (by rw [hr]; rfl:_=nC p i (.cons op' n' nm' fq rest)))
      go_wp2_with fail
      obtain ⟨T,F,qz,hst,hF,hnext⟩:=calm wr
      have HF:=Lib.hid hF
      have bS:=Lib.hid hnext
      clear hnext hF
      have d0:=fun x=>(HZ.out.next (HF.out x)).2.1.2
      have d1:=fun x=>(HZ.out.next (HF.out x)).2.2.1.2
      have d2:=fun x=>(HZ.out.next (HF.out x)).2.2.2.1.2
      have d3:=fun x=>(HZ.out.next (HF.out x)).2.2.2.2.1.2
      have d4:=fun x=>(HZ.out.next (HF.out x)).2.2.2.2.2.1.2
      have d5:=fun x=>(HZ.out.next (HF.out x)).2.2.2.2.2.2.1.2
      have y0:=fun x=>((HF.out x).cell (p:=⟨b,off + k * 4,none⟩) ni).trans x0
      have y1:=fun x=>((HF.out x).cell (p:=⟨b,off + k * 4 + 1,none⟩) ni).trans x1
      have y2:=fun x=>((HF.out x).cell (p:=⟨b,off + k * 4 + 2,none⟩) ni).trans x2
      have y3:=fun x=>((HF.out x).cell (p:=⟨b,off + k * 4 + 3,none⟩) ni).trans x3
      clear c0 c1 c2 c3 c4 c5 x0 x1 x2 x3
      have hk0:(0:Int)≤k:=by omega
      have hk1:(k:Int) < kids.len:=by omega
      refine gF F (by kernel_rfl) (by kernel_rfl) hst ?_
      repeat (any_goals (first | go_big_quiet_step ((go_at_call 78; refine (lT _ aC aF jO aA av cap' hi ((HP.out.same HZ.out.1).same (HF.out _)) hok' (jy.same (HF.out _))).mono ?_; rintro e w' ⟨rfl,hb⟩; exact ⟨rfl,bS.out _ _ hb⟩)) | (refine wpQuiet_step (fun K hK=> ?_); go_simp; first | (refine hK _ ?_; clear hK K) | (split <;> first | (refine hK _ ?_; clear hK K) | (apply Exists.intro; refine ⟨fun _=> ?_,hK _ ?_⟩; ((go_at_call 78; refine (lT _ aC aF jO aA av cap' hi ((HP.out.same HZ.out.1).same (HF.out _)) hok' (jy.same (HF.out _))).mono ?_; rintro e w' ⟨rfl,hb⟩; exact ⟨rfl,bS.out _ _ hb⟩)); clear hK K)))))
      all_goals (refine wpQuiet_nil ?_; rintro _ ⟨x,rfl⟩)
      have HB2:=Lib.hid (HF.out x)
      clear d0 d1 d2 d3 d4 d5 y0 y1 y2 y3 HF bS hst
      generalize F x=W2 at *
      go_wp2_with fail
      go_roundw
      case rel=>exact ⟨k + 1,rest,_,by go_num,rfl,by simp only [bJ.len] at hlen; omega,dA.out.trans (C9 p i op' n' nm' fq rest),kZ,hrest.same HB2.out,HZ.out.next HB2.out⟩
      case measure=>simp [intOf]; omega
theorem IC (p:Pr) (i:Int) (op n:Int) (nm:ByteArray) (kids:bJ):yL p i op n nm kids:=bJ.uy (Gf p i) op n nm kids
set_option maxHeartbeats 2000000 in
theorem wU (p:Pr) (i:Int) (op n:Int) (nm:ByteArray) (kids:bJ) (w:World) (aC aF ao:Option Addr) (aA av cap:Nat) (hi:aX i) (hp:p.At w aC aF) (hok:lI op n nm kids) (hat:kids.At w w.heap.size ao 0) (dL:dZ w):
 Calls Tryd.prog 74 #[.agg #[.slice aC p.ds.length aA,.slice aF p.ts.length av],.int .i64 i,.agg #[.int .i64 op,.int .i64 n,.string nm,.slice ao kids.len cap]] w fun e w'=>e= .returned (.int .i64 (iE p i op n nm kids))∧Below w.heap.size w w':=by
 have HAT:=Lib.hid hat
 have HP:=Lib.hid hp
 clear hat hp
 go_enter Tryd.func74,Tryd.ntmps74
 go_upto_region 1 with fail
 generalize hW:World.alloc (World.alloc w _) _=W
 generalize Value.agg #[_,_]=a0
 generalize Value.agg #[_,_,_,_]=a1
 have HX:=Lib.hid (((Sit.start w).kC rfl (.slice aC p.ds.length aA) (.slice aF p.ts.length av) 26).qX (n:=w.heap.size + 1) (by simp) (.int .i64 op) (.int .i64 n) (.string nm) (.slice ao kids.len cap) 40)
 rw [hW] at HX
 clear hW
 obtain ⟨-,⟨-,c0⟩,⟨-,c1⟩,⟨-,c2⟩,⟨-,c3⟩,⟨-,c4⟩,⟨-,c5⟩,-⟩:=HX.out
 go_wp2_with fail
 refine (qZ op n nm kids _ ao cap hok (HAT.out.same HX.out.1) (dL.same HX.out.1)).mono ?_
 rintro e w1 ⟨rfl,hb1⟩
 have HY:=Lib.hid (HX.out.next hb1)
 clear HX hb1 c0 c1 c2 c3 c4 c5
 obtain ⟨-,⟨-,c0⟩,⟨-,c1⟩,⟨-,c2⟩,⟨-,c3⟩,⟨-,c4⟩,⟨-,c5⟩,-⟩:=HY.out
 cases hS:jN op n nm kids
 ·have HE:Hid (iE p i op n nm kids=3):=Lib.hid (by unfold iE; rw [hS]; rfl)
  go_wp2_with fail
  go_ret
  exact ⟨aS HE.out.symm,HY.out.1⟩
 ·have HE:Hid (iE p i op n nm kids=if decide (24 < (ext kids).1) || decide (6 < (ext kids).2) then 2 else oU p i op nm kids):=Lib.hid (by unfold iE; rw [hS]; rfl)
  go_wp2_with fail
  refine (G5 op n nm kids _ ao cap hok (HAT.out.same HY.out.1)).mono ?_
  rintro e w2 ⟨rfl,hb2⟩
  have HZ:=Lib.hid (HY.out.next hb2)
  clear HY hb2 c0 c1 c2 c3 c4 c5
  obtain ⟨-,⟨-,c0⟩,⟨-,c1⟩,⟨-,c2⟩,⟨-,c3⟩,⟨-,c4⟩,⟨-,c5⟩,-⟩:=HZ.out
  generalize (ext kids).1=a at *
  generalize (ext kids).2=d at *
  cases h1:decide (24 < a)
  ·cases h2:decide (6 < d)
   ·have dA:=Lib.hid (HE.out.trans (by rw [h1,h2]; rfl:_=oU p i op nm kids))
    have q1:a≤24:=by simpa using h1
    have q2:d≤6:=by simpa using h2
    go_wp2_with fail
    refine (IC p i op n nm kids _ aC aF ao aA av cap hi (HP.out.same HZ.out.1) hok (HAT.out.same HZ.out.1)).mono ?_
    rintro e w3 ⟨rfl,hb3⟩
    go_wp2_with fail
    go_ret
    exact ⟨aS dA.out.symm,(HZ.out.next hb3).1⟩
   ·have dA:=Lib.hid (HE.out.trans (if_pos (by rw [h1,h2]; rfl)))
    have q1:a≤24:=by simpa using h1
    have q2:6 < d:=by simpa using h2
    go_wp2_with fail
    go_ret
    exact ⟨aS dA.out.symm,HZ.out.1⟩
  ·have dA:=Lib.hid (HE.out.trans (if_pos (by rw [h1]; rfl)))
   have q1:24 < a:=by simpa using h1
   go_wp2_with fail
   go_ret
   exact ⟨aS dA.out.symm,HZ.out.1⟩
end Go.Proofs.YtnknfoibmgphnaaDoor
end
section
namespace Go.Proofs.YtnknfoibmgphnaaDoor
open Go.RowKit
open Md
theorem pX:Maps.Keyed Tryd.prog 9:=Maps.string_keyed Tryd.underlying9
theorem keyOf_str (s:ByteArray) (hs:s.size≤maxLen):keyOf Tryd.prog 9 (.string s)=some (.string s.toList):=by
 unfold keyOf mapKey; simp [Tryd.underlying9,hs,Lib.toList_data]
def mX (w:World) (b n:Nat) (f:List UInt8→Int):Prop:=
 ∃D:DataW Unit,w.ownsMap Tryd.prog 9 (plainElem Tryd.prog 3) b n D∧ ∀l,D.atKey (.string l) (.lit (.int .i64 0))= .lit (.int .i64 (f l))
def iL (w:World) (b n:Nat) (f:List UInt8→Bool):Prop:=
 ∃D:DataW Unit,w.ownsMap Tryd.prog 9 (plainElem Tryd.prog 4) b n D∧ ∀l,D.atKey (.string l) (.lit (.bool false))= .lit (.bool (f l))
theorem mX.made (w:World):mX (w.alloc (.map #[] 0)) w.heap.size 0 (fun _=>0):=⟨_,World.ownsMap_made w _ _ _,fun _=>rfl⟩
theorem iL.made (w:World):iL (w.alloc (.map #[] 0)) w.heap.size 0 (fun _=>false):=⟨_,World.ownsMap_made w _ _ _,fun _=>rfl⟩
theorem mX.lt {w:World} {b n:Nat} {f:List UInt8→Int} (h:mX w b n f):b < w.heap.size:=by obtain ⟨D,h,_⟩:=h; exact h.lt
theorem iL.lt {w:World} {b n:Nat} {f:List UInt8→Bool} (h:iL w b n f):b < w.heap.size:=by obtain ⟨D,h,_⟩:=h; exact h.lt
theorem mX.same {w w':World} {b n:Nat} {f:List UInt8→Int} (h:mX w b n f) (hb:w'.heap[b]? =w.heap[b]?):mX w' b n f:=by
 obtain ⟨D,⟨es,clock,h1,h2⟩,h3⟩:=h; exact ⟨D,⟨es,clock,hb.trans h1,h2⟩,h3⟩
theorem iL.same {w w':World} {b n:Nat} {f:List UInt8→Bool} (h:iL w b n f) (hb:w'.heap[b]? =w.heap[b]?):iL w' b n f:=by
 obtain ⟨D,⟨es,clock,h1,h2⟩,h3⟩:=h; exact ⟨D,⟨es,clock,hb.trans h1,h2⟩,h3⟩
theorem mX.next {w w':World} {b n:Nat} {f:List UInt8→Int} (h:mX w b n f) (hb:Below w.heap.size w w'):mX w' b n f:=h.same (hb.block b h.lt)
theorem iL.next {w w':World} {b n:Nat} {f:List UInt8→Bool} (h:iL w b n f) (hb:Below w.heap.size w w'):iL w' b n f:=h.same (hb.block b h.lt)
theorem Kz (w:World):(zeroValue 3).run Tryd.prog w= .ok (.int .i64 0) w:=by kernel_rfl
theorem GK (w:World):(zeroValue 4).run Tryd.prog w= .ok (.bool false) w:=by kernel_rfl
theorem RH {v:Int} (hv:aX v):(Lit.int .i64 v).wf=true:=by
 unfold Lit.wf; rw [Bool.and_eq_true,decide_eq_true_iff,decide_eq_true_iff]; exact hv
theorem mX.look {w:World} {b n:Nat} {f:List UInt8→Int} (h:mX w b n f) (s:ByteArray) (hs:s.size≤maxLen):
 (Instr.lookup 65 (.map (some b)) (.string s) false).run Tryd.prog w= .ok (.int .i64 (f s.toList)) w:=by
 obtain ⟨D,ho,hf⟩:=h
 obtain ⟨c,hrun,hat,-⟩:=ho.lookup_int (t:=65) pX Tryd.underlying65 Tryd.underlying3 (Kz w) (keyOf_str s hs)
 rw [hf] at hat
 obtain rfl:f s.toList=c:=(Lit.int.inj (DataW.lit.inj hat)).2
 exact hrun
theorem JW {H:Type} {v:Value} {x:Bool} {ps:List MemPlace} (hv:plainElem (H:=H) Tryd.prog 4 v=some (.lit (.bool x),ps)):v= .bool x:=by
 unfold plainElem at hv
 generalize hu:Program.underlying Tryd.prog 4=u at hv
 rw [Tryd.underlying4] at hu
 subst hu
 cases v with
 | bool y=>exact congrArg Value.bool (Lit.bool.inj (DataW.lit.inj (Prod.mk.inj (Option.some.inj hv)).1))
 | _=>exact absurd hv (by intro h; cases h)
theorem iL.look {w:World} {b n:Nat} {f:List UInt8→Bool} (h:iL w b n f) (s:ByteArray) (hs:s.size≤maxLen):
 (Instr.lookup 67 (.map (some b)) (.string s) false).run Tryd.prog w= .ok (.bool (f s.toList)) w:=by
 obtain ⟨D,ho,hf⟩:=h
 obtain ⟨v,ps,hrun,hv⟩:=ho.lookup (t:=67) pX Tryd.underlying67 (GK w) (plainElem_bool Tryd.underlying4 false) (keyOf_str s hs)
 rw [hf] at hv
 have hv':v= .bool (f s.toList):=by
  exact JW hv
 rw [hrun,hv']
theorem mX.put {w:World} {b n:Nat} {f:List UInt8→Int} (h:mX w b n f) (hn:n < maxLen) (s:ByteArray) (hs:s.size≤maxLen) (v:Int) (hv:aX v):
 ∃w',(Instr.mapUpdate 65 (.map (some b)) (.string s) (.int .i64 v)).run Tryd.prog w= .ok () w'∧mX w' b (n + 1) (fun l=>if l=s.toList then v else f l)∧w.grownBy w' (some b):=by
 obtain ⟨D,ho,hf⟩:=h
 obtain ⟨w',hrun,ho',hg⟩:=ho.update (t:=65) pX Tryd.underlying65 hn (keyOf_str s hs) (plainElem_int Tryd.underlying3 (a:=v) (RH hv))
 refine ⟨w',hrun,⟨_,ho',fun l=> ?_⟩,hg⟩
 show _=DataW.lit (.int .i64 (if l=s.toList then v else f l))
 by_cases hl:l=s.toList
 ·subst hl; rw [if_pos rfl,Maps.atKey_put_same ho.isMap (pX.key (keyOf_str s hs))]
 ·rw [if_neg hl,Maps.atKey_put_other (by intro h; injection h with h; exact hl h),hf]
theorem iL.put {w:World} {b n:Nat} {f:List UInt8→Bool} (h:iL w b n f) (hn:n < maxLen) (s:ByteArray) (hs:s.size≤maxLen) (v:Bool):
 ∃w',(Instr.mapUpdate 67 (.map (some b)) (.string s) (.bool v)).run Tryd.prog w= .ok () w'∧iL w' b (n + 1) (fun l=>if l=s.toList then v else f l)∧w.grownBy w' (some b):=by
 obtain ⟨D,ho,hf⟩:=h
 obtain ⟨w',hrun,ho',hg⟩:=ho.update (t:=67) pX Tryd.underlying67 hn (keyOf_str s hs) (plainElem_bool Tryd.underlying4 v)
 refine ⟨w',hrun,⟨_,ho',fun l=> ?_⟩,hg⟩
 show _=DataW.lit (.bool (if l=s.toList then v else f l))
 by_cases hl:l=s.toList
 ·subst hl; rw [if_pos rfl,Maps.atKey_put_same ho.isMap (pX.key (keyOf_str s hs))]
 ·rw [if_neg hl,Maps.atKey_put_other (by intro h; injection h with h; exact hl h),hf]
end Go.Proofs.YtnknfoibmgphnaaDoor
end
section
namespace Go.Proofs.YtnknfoibmgphnaaDoor
open Go.RowKit
namespace Md
def mD (pre:List De) (l:List UInt8):Int:=((pre.find? fun d=>d.nm.toList == l).map fu).getD 0
def dc (d:De) (c:Int):Int:=if d.kind == 1 || d.kind == 2 then c + max d.size 1 else c
def dl (d:De) (l:Int):Int:=if d.kind == 3 || d.kind == 4 then l + 1 else l
def dn (d:De) (n:Int):Int:=if d.kind == 5 then n + 1 else n
def df (d:De) (f:Int):Int:=if d.kind == 6 then f + 1 else f
def lim (c l n f:Int):Bool:=((decide (12 < c) || decide (4 < l)) || decide (2 < n)) || decide (2 < f)
def jH:List De→List De→Int→Int→Int→Int→Int × Int
 | [],_,_,_,_,_=>(0,0)
 | d ::r,pre,c,l,n,f=>
   if mD pre d.nm.toList != 0 then (4,d.line)
   else if decide (4 < d.size) then (2,d.line)
   else if lim (dc d c) (dl d l) (dn d n) (df d f) then (2,d.line)
   else if d.kind == 5 && mD pre d.on.toList == 0 then (5,d.line)
   else if d.kind == 5 && mD pre d.on.toList != 4 then (6,d.line)
   else jH r (pre++[d]) (dc d c) (dl d l) (dn d n) (df d f)
theorem Mt {pre:List De} {l:List UInt8} (h:(mD pre l != 0)=false):pre.find? (fun d=>d.nm.toList == l)=none:=by
 unfold mD at h
 cases hf:pre.find? (fun d=>d.nm.toList == l) with
 | none=>rfl
 | some d=>rw [hf] at h; have:=nM d; simp at h; omega
theorem FI {pre:List De} {d:De} (h:(mD pre d.nm.toList != 0)=false) (l:List UInt8):(if l=d.nm.toList then fu d else mD pre l)=mD (pre++[d]) l:=by
 unfold mD
 rw [List.find?_append]
 by_cases hl:l=d.nm.toList
 ·subst hl; rw [if_pos rfl,Mt h]; simp
 ·rw [if_neg hl]
  have:(d.nm.toList == l)=false:=by rw [beq_eq_false_iff_ne]; exact fun e=>hl e.symm
  simp [this]
theorem Gd (d:De):(fu d == 6)=(d.kind == 5):=by unfold fu; grind
theorem wK {d:De} (h:jw d=true):1≤d.kind∧d.kind≤6∧0≤d.size∧(d.size=0∨d.kind=1):=by
 unfold jw at h; simp at h; omega
theorem xL (d:De) (r pre:List De) (c l n f:Int):jH (d ::r) pre c l n f=(if mD pre d.nm.toList != 0 then (4,d.line)
 else if decide (4 < d.size) then (2,d.line)
 else if lim (dc d c) (dl d l) (dn d n) (df d f) then (2,d.line)
 else if d.kind == 5 && mD pre d.on.toList == 0 then (5,d.line)
 else if d.kind == 5 && mD pre d.on.toList != 4 then (6,d.line)
 else jH r (pre++[d]) (dc d c) (dl d l) (dn d n) (df d f)):=rfl
end Md
open Md
theorem mX.congr {w:World} {b n:Nat} {f g:List UInt8→Int} (h:mX w b n f) (hfg: ∀l,f l=g l):mX w b n g:=by
 obtain ⟨D,h1,h2⟩:=h; exact ⟨D,h1,fun l=>by rw [h2,hfg]⟩
theorem iL.congr {w:World} {b n:Nat} {f g:List UInt8→Bool} (h:iL w b n f) (hfg: ∀l,f l=g l):iL w b n g:=by
 obtain ⟨D,h1,h2⟩:=h; exact ⟨D,h1,fun l=>by rw [h2,hfg]⟩
def PN (ds:List De) (w:World) (res:Int × Int) (g:Nat) (s5 s6 s7 s8 s15:Value) (wr:World):Prop:=
 ∃(k:Nat) (pre R:List De) (c l n f:Int),g=R.length∧s15= .int .i64 k∧pre++R=ds∧pre.length=k∧s5= .int .i64 c∧s6= .int .i64 l∧s7= .int .i64 n∧s8= .int .i64 f∧
  (0≤c∧c≤12∧0≤l∧l≤4∧0≤n∧n≤2∧0≤f∧f≤2)∧res=jH R pre c l n f∧mX wr w.heap.size k (mD pre)∧Below w.heap.size w wr
set_option maxHeartbeats 4000000 in
set_option maxRecDepth 100000 in
theorem zH (ds:List De) (w:World) (ao:Option Addr) (cap:Nat) (hl:ds.length≤maxLen) (hat:iZ w w.heap.size ds ao 0) (hsh: ∀d ∈ ds,jw d=true):
 Calls Tryd.prog 14 #[.slice ao ds.length cap] w fun e w'=>e= .returned (.tuple #[.int .i64 (jH ds [] 0 0 0 0).1,.int .i64 (jH ds [] 0 0 0 0).2])∧Below w.heap.size w w':=by
 generalize hres:jH ds [] 0 0 0 0=res
 have HR:=Lib.hid hres
 have HAT:=Lib.hid hat
 have vL:=Lib.hid hsh
 have hl':=hl
 unfold maxLen at hl
 clear hres hat hsh
 have hmm:= @run_makeMap Tryd.prog
 go_enter Tryd.func14,Tryd.ntmps14
 go_wp2_with fail
 go_loopg [5,6,7,8,10,11,15] ds.length (fun g s5 s6 s7 s8 _ _ s15 wr=>PN ds w res g s5 s6 s7 s8 s15 wr)
 case atStart=>exact ⟨0,[],ds,0,0,0,0,rfl,rfl,rfl,rfl,rfl,rfl,rfl,rfl,by decide,HR.out.symm,(mX.made w).congr (fun _=>rfl),ay _ _⟩
 case round=>
  obtain ⟨k,pre,R,c,l,n,f,rfl,rfl,hds,hk,rfl,rfl,rfl,rfl,⟨q1,q2,l1,l2,n1,n2,f1,f2⟩,hr,hmap,hB⟩:=hrel
  have HE:=Lib.hid hr
  have HM:=Lib.hid hmap
  have HB:=Lib.hid hB
  clear hr hmap hB HR
  have hlen:k + R.length=ds.length:=by rw [← hds,List.length_append,hk]
  have hrow:=(HAT.out.below HB.out).drop k
  rw [Nat.zero_add,← hds,← hk,List.drop_left] at hrow
  rw [hk] at hrow
  cases R with
  | nil=>
    obtain rfl:k=ds.length:=by simpa using hlen
    have HF:=Lib.hid (HE.out.trans (rfl:_=((0:Int),(0:Int))))
    clear HE hds hk hrow
    go_wp2_with fail
    go_ret2
    exact ⟨iH (congrArg Prod.fst HF.out) (congrArg Prod.snd HF.out),HB.out⟩
  | cons d R=>
    have hsd:=wK (vL.out d (by rw [← hds]; simp))
    have pV:=Lib.hid hds
    have HK:=Lib.hid hk
    clear hds hk
    obtain ⟨⟨b,off,rfl,ni,x0,x1,x2,x3,x4,x5,hok⟩,-⟩:=hrow
    simp only [List.length_cons] at hlen
    have hkl:k < ds.length:=by omega
    obtain ⟨g1,g2,g3,g4⟩:=hsd
    rw [xL] at HE
    go_upto_region 6 with fail
    obtain ⟨nb,hnb⟩: ∃n,wr.heap.size=n:=⟨_,rfl⟩
    generalize hW2:World.alloc wr _=W2
    have HB2:Hid (Below w.heap.size w W2):=Lib.hid (by rw [← hW2]; exact HB.out.alloc HB.out.size _)
    have HY:Hid (Sit wr W2 [(nb,0,.int .i64 d.kind),(nb,1,.int .i64 d.line),(nb,2,.string d.nm),(nb,3,.int .i64 d.size),(nb,4,.int .i64 d.init),(nb,5,.string d.on)]):=Lib.hid (by rw [← hW2]; exact (Sit.start wr).Et hnb _ _ _ _ _ _ _)
    have Di:=Lib.hid (HM.out.next HY.out.1)
    rw [hnb]
    clear hW2 hnb x0 x1 x2 x3 x4 x5 HM HB
    obtain ⟨-,⟨-,c0⟩,⟨-,c1⟩,⟨-,c2⟩,⟨-,c3⟩,⟨-,c4⟩,⟨-,c5⟩,-⟩:=HY.out
    have hk1:=Di.out.look d.nm hok.2.2.1
    cases h0:(mD pre d.nm.toList != 0)
    case true=>
     as_aux_lemma=>
      have HF:=Lib.hid (HE.out.trans (if_pos h0))
      go_wp2_with fail
      go_quiet (fail)
      go_wp2_with fail
      go_ret2
      exact ⟨iH (congrArg Prod.fst HF.out) (congrArg Prod.snd HF.out),below_drewN HB2.out _⟩
    have HE2:=Lib.hid (HE.out.trans (if_neg (by rw [h0]; decide)))
    clear HE
    go_upto_region 8 with fail
    cases h1:decide (4 < d.size)
    case true=>
     as_aux_lemma=>
      have HF:=Lib.hid (HE2.out.trans (if_pos h1))
      have h1':4 < d.size:=by simpa using h1
      go_wp2_with fail
      go_quiet (fail)
      go_wp2_with fail
      go_ret2
      exact ⟨iH (congrArg Prod.fst HF.out) (congrArg Prod.snd HF.out),below_drewN HB2.out _⟩
    have oW:=Lib.hid (HE2.out.trans (if_neg (by rw [h1]; decide)))
    have h1':d.size≤4:=by simpa using h1
    clear HE2 h1
    go_upto_region 10 with fail
    go_wp2_with fail
    refine (vG d _).mono ?_
    rintro e w3 ⟨rfl,hb3⟩
    have HZ:=Lib.hid (HY.out.next hb3)
    have HB3:=Lib.hid (HB2.out.trans (hb3.mono HB2.out.size))
    have pK:=Lib.hid (Di.out.next hb3)
    clear hb3 HY HB2 Di c0 c1 c2 c3 c4 c5 hk1
    have QO:=Lib.hid (Gd d)
    have Vq:Hid (∃m,fu d=m):=Lib.hid ⟨_,rfl⟩
    obtain ⟨-,⟨-,c0⟩,⟨-,c1⟩,⟨-,c2⟩,⟨-,c3⟩,⟨-,c4⟩,⟨-,c5⟩,-⟩:=HZ.out
    go_upto_block 2 with (fail)
    go_cut [5,6,7,8,11,33] (fun s5 s6 s7 s8 s11 _ W3=>w3=W3∧s11= .int .i64 (fu d)∧s5= .int .i64 (dc d c)∧s6= .int .i64 (dl d l)∧s7= .int .i64 (dn d n)∧s8= .int .i64 (df d f))
    case first=>
     as_aux_lemma=>
      have hkd:d.kind=1∨d.kind=2∨d.kind=3∨d.kind=4∨d.kind=5∨d.kind=6:=by omega
      rcases hkd with hkd | hkd | hkd | hkd | hkd | hkd
      ·by_cases hs0:d.size=0
       ·have hm:fu d=2:=by simp [fu,hkd,hs0]
        have HA:Hid (dc d c=c + 1∧dl d l=l∧dn d n=n∧df d f=f):=Lib.hid (by simp [dc,dl,dn,df,hkd,hs0] <;> first | rfl | omega)
        have vK:=Lib.hid hm
        rw [hm]
        clear hm hkd hs0
        go_wp2_with fail
        go_meet
        exact ⟨rfl,by rw [vK.out],by rw [HA.out.1],by rw [HA.out.2.1],by rw [HA.out.2.2.1],by rw [HA.out.2.2.2]⟩
       ·have hm:fu d=3:=by simp [fu,hkd,hs0]
        have HA:Hid (dc d c=c + d.size∧dl d l=l∧dn d n=n∧df d f=f):=Lib.hid (by simp [dc,dl,dn,df,hkd] <;> first | rfl | omega)
        have vK:=Lib.hid hm
        rw [hm]
        clear hm hkd hs0
        go_wp2_with fail
        go_meet
        exact ⟨rfl,by rw [vK.out],by rw [HA.out.1],by rw [HA.out.2.1],by rw [HA.out.2.2.1],by rw [HA.out.2.2.2]⟩
      ·have hs0:d.size=0:=by omega
       have hm:fu d=2:=by simp [fu,hkd]
       have HA:Hid (dc d c=c + 1∧dl d l=l∧dn d n=n∧df d f=f):=Lib.hid (by simp [dc,dl,dn,df,hkd,hs0] <;> first | rfl | omega)
       have vK:=Lib.hid hm
       rw [hm]
       clear hm hkd hs0
       go_wp2_with fail
       go_meet
       exact ⟨rfl,by rw [vK.out],by rw [HA.out.1],by rw [HA.out.2.1],by rw [HA.out.2.2.1],by rw [HA.out.2.2.2]⟩
      ·have hm:fu d=4:=by simp [fu,hkd]
       have HA:Hid (dc d c=c∧dl d l=l + 1∧dn d n=n∧df d f=f):=Lib.hid (by simp [dc,dl,dn,df,hkd])
       have vK:=Lib.hid hm
       rw [hm]
       clear hm hkd
       go_wp2_with fail
       go_meet
       exact ⟨rfl,by rw [vK.out],by rw [HA.out.1],by rw [HA.out.2.1],by rw [HA.out.2.2.1],by rw [HA.out.2.2.2]⟩
      ·have hm:fu d=5:=by simp [fu,hkd]
       have HA:Hid (dc d c=c∧dl d l=l + 1∧dn d n=n∧df d f=f):=Lib.hid (by simp [dc,dl,dn,df,hkd])
       have vK:=Lib.hid hm
       rw [hm]
       clear hm hkd
       go_wp2_with fail
       go_meet
       exact ⟨rfl,by rw [vK.out],by rw [HA.out.1],by rw [HA.out.2.1],by rw [HA.out.2.2.1],by rw [HA.out.2.2.2]⟩
      ·have hm:fu d=6:=by simp [fu,hkd]
       have HA:Hid (dc d c=c∧dl d l=l∧dn d n=n + 1∧df d f=f):=Lib.hid (by simp [dc,dl,dn,df,hkd])
       have vK:=Lib.hid hm
       rw [hm]
       clear hm hkd
       go_wp2_with fail
       go_meet
       exact ⟨rfl,by rw [vK.out],by rw [HA.out.1],by rw [HA.out.2.1],by rw [HA.out.2.2.1],by rw [HA.out.2.2.2]⟩
      ·have hm:fu d=7:=by simp [fu,hkd]
       have HA:Hid (dc d c=c∧dl d l=l∧dn d n=n∧df d f=f + 1):=Lib.hid (by simp [dc,dl,dn,df,hkd])
       have vK:=Lib.hid hm
       rw [hm]
       clear hm hkd
       go_wp2_with fail
       go_meet
       exact ⟨rfl,by rw [vK.out],by rw [HA.out.1],by rw [HA.out.2.1],by rw [HA.out.2.2.1],by rw [HA.out.2.2.2]⟩
    obtain ⟨rfl,rfl,rfl,rfl,rfl,rfl⟩:=hcut
    have hc':0≤dc d c∧dc d c≤16:=by unfold dc; split <;> omega
    have hl'':0≤dl d l∧dl d l≤5:=by unfold dl; split <;> omega
    have hn':0≤dn d n∧dn d n≤3:=by unfold dn; split <;> omega
    have hf':0≤df d f∧df d f≤3:=by unfold df; split <;> omega
    generalize hcc:dc d c=c' at *
    generalize hll:dl d l=l' at *
    generalize hnn:dn d n=n' at *
    generalize EX:df d f=f' at *
    clear hcc hll hnn EX
    go_upto_region 23 with fail
    go_cut [70] (fun s' W3=>w3=W3∧s'= .bool (lim c' l' n' f'))
    case first=>
     as_aux_lemma=>
      have HF:Hid (lim c' l' n' f'=(((decide (12 < c') || decide (4 < l')) || decide (2 < n')) || decide (2 < f'))):=Lib.hid rfl
      go_wp2_with fail
      all_goals go_meet
      all_goals exact ⟨rfl,by first | (rw [HF.out]; done) | (rw [HF.out]; congr 1; go_light; grind)⟩
    obtain ⟨rfl,rfl⟩:=hcut
    cases h2:lim c' l' n' f'
    case true=>
     as_aux_lemma=>
      have HF:=Lib.hid (oW.out.trans (if_pos h2))
      go_wp2_with fail
      go_quiet (fail)
      go_wp2_with fail
      go_ret2
      exact ⟨iH (congrArg Prod.fst HF.out) (congrArg Prod.snd HF.out),below_drewN HB3.out _⟩
    have uM:=Lib.hid (oW.out.trans (if_neg (by rw [h2]; decide)))
    have hlim:c'≤12∧l'≤4∧n'≤2∧f'≤2:=by unfold lim at h2; simp at h2; omega
    clear oW h2
    have hkm:k < maxLen:=by omega
    cases h5:(d.kind == 5)
    ·have h6:(fu d == 6)=false:=QO.out.trans h5
     have HF:=Lib.hid (uM.out.trans ((if_neg (by rw [h5]; simp)).trans (if_neg (by rw [h5]; simp))))
     clear uM
     obtain ⟨w4,hup,uF,hg4⟩:=pK.out.put (by omega) d.nm hok.2.2.1 (fu d) (by have:=nM d; unfold aX; omega)
     have lZ:=Lib.hid ((uF.congr (FI h0)))
     have gV:=Lib.hid (HB3.out.trans (fC hg4 (Nat.le_refl _) HB3.out.size))
     clear uF hg4
     go_wp2_with fail
     go_roundg R.length
     case measure=>simp
     case rel=>exact ⟨k + 1,pre++[d],R,c',l',n',f',rfl,by go_num,by rw [List.append_assoc]; exact pV.out,by rw [List.length_append,HK.out]; rfl,rfl,rfl,rfl,rfl,by omega,HF.out,lZ.out,gV.out⟩
    ·have h6:(fu d == 6)=true:=QO.out.trans h5
     have hk2:=pK.out.look d.on hok.2.2.2.2.2
     generalize hmo:mD pre d.on.toList=mo at *
     clear hmo
     cases h7:(mo == 0)
     case true=>
      as_aux_lemma=>
       have HF:=Lib.hid (uM.out.trans (if_pos (by rw [h5,h7]; rfl)))
       go_wp2_with fail
       go_quiet (fail)
       go_wp2_with fail
       go_ret2
       exact ⟨iH (congrArg Prod.fst HF.out) (congrArg Prod.snd HF.out),below_drewN HB3.out _⟩
     have BO:=Lib.hid (uM.out.trans (if_neg (by rw [h5,h7]; decide)))
     clear uM
     cases h8:(mo != 4)
     case true=>
      as_aux_lemma=>
       have HF:=Lib.hid (BO.out.trans (if_pos (by rw [h5,h8]; rfl)))
       go_wp2_with fail
       go_quiet (fail)
       go_wp2_with fail
       go_ret2
       exact ⟨iH (congrArg Prod.fst HF.out) (congrArg Prod.snd HF.out),below_drewN HB3.out _⟩
     have HF:=Lib.hid (BO.out.trans (if_neg (by rw [h5,h8]; decide)))
     clear BO
     obtain ⟨w4,hup,uF,hg4⟩:=pK.out.put (by omega) d.nm hok.2.2.1 (fu d) (by have:=nM d; unfold aX; omega)
     have lZ:=Lib.hid ((uF.congr (FI h0)))
     have gV:=Lib.hid (HB3.out.trans (fC hg4 (Nat.le_refl _) HB3.out.size))
     clear uF hg4
     go_wp2_with fail
     go_roundg R.length
     case measure=>simp
     case rel=>exact ⟨k + 1,pre++[d],R,c',l',n',f',rfl,by go_num,by rw [List.append_assoc]; exact pV.out,by rw [List.length_append,HK.out]; rfl,rfl,rfl,rfl,rfl,by omega,HF.out,lZ.out,gV.out⟩
end Go.Proofs.YtnknfoibmgphnaaDoor
end
section
namespace Go.Proofs.YtnknfoibmgphnaaDoor
open Go.RowKit
namespace Md
def kK (ds:List De) (l:List UInt8):Bool:=ds.any fun d=>d.nm.toList == l
def iO (ts:List Th) (l:List UInt8):Bool:=ts.any fun t=>t.nm.toList == l
def kr (tx:List ByteArray) (l:List UInt8):Bool:=tx.any fun s=>s.toList == l
def jP (ds:List De):List Th→List Th→Option Int
 | [],_=>none
 | t ::r,pre=>if kK ds t.nm.toList || iO pre t.nm.toList then some t.line else jP ds r (pre++[t])
def ku (ds:List De) (ts:List Th):List ByteArray→List ByteArray→Bool
 | [],_=>false
 | s ::r,pre=>((kK ds s.toList || iO ts s.toList) || kr pre s.toList) || ku ds ts r (pre++[s])
def lQ (ds:List De) (ts:List Th):List Th→Int × Int
 | []=>(0,0)
 | t ::r=>if decide ((4:Int) < t.bH.length) then (2,t.line) else if ku ds ts t.bH [] then (4,t.line) else lQ ds ts r
def iJ (p:Pr):Int × Int:=match jP p.ds p.ts [] with
 | some l=>(4,l)
 | none=>lQ p.ds p.ts p.ts
theorem Gj (pre:List De) (d:De) (l:List UInt8):(if l=d.nm.toList then true else kK pre l)=kK (pre++[d]) l:=by
 unfold kK; rw [List.any_append]; by_cases h:l=d.nm.toList
 ·subst h; simp
 ·rw [if_neg h]; have:(d.nm.toList == l)=false:=by rw [beq_eq_false_iff_ne]; exact fun e=>h e.symm
  simp [this]
theorem Gw (ds:List De) (pre:List Th) (t:Th) (l:List UInt8):(if l=t.nm.toList then true else (kK ds l || iO pre l))=(kK ds l || iO (pre++[t]) l):=by
 unfold iO; rw [List.any_append]; by_cases h:l=t.nm.toList
 ·subst h; simp
 ·rw [if_neg h]; have:(t.nm.toList == l)=false:=by rw [beq_eq_false_iff_ne]; exact fun e=>h e.symm
  simp [this]
end Md
open Md
theorem Holds.grown {W W':World} {bm:Nat} (hg:W.grownBy W' (some bm)): ∀ {l:List (Nat × Nat × Value)},(∀f ∈ l,f.1≠bm)→Holds W l→Holds W' l
 | [],_,_=>trivial
 | f ::_,hne,⟨⟨h1,h2⟩,h3⟩=>⟨⟨Nat.lt_of_lt_of_le h1 hg.size,(World.cell?_of_block (a:=⟨f.1,f.2.1,none⟩) (hg.block f.1 h1 (by have:=hne f (by simp); simp; exact this))).trans h2⟩,Holds.grown hg (fun x hx=>hne x (by simp [hx])) h3⟩
theorem Sit.grown {w W W':World} {fs:List (Nat × Nat × Value)} {bm:Nat} (h:Sit w W fs) (hg:W.grownBy W' (some bm)) (hb:w.heap.size≤bm) (hne: ∀f ∈ fs,f.1≠bm):Sit w W' fs:=
 ⟨h.1.trans (fC hg hb h.1.size),h.2.grown hg hne⟩
set_option maxHeartbeats 4000000 in
set_option maxRecDepth 100000 in
theorem EI (p:Pr) (w:World) (aC aF:Option Addr) (aA av:Nat) (hp:p.At w aC aF) (hsum:p.ds.length + p.ts.length < maxLen):
 Calls Tryd.prog 15 #[.agg #[.slice aC p.ds.length aA,.slice aF p.ts.length av]] w fun e w'=>e= .returned (.tuple #[.int .i64 (iJ p).1,.int .i64 (iJ p).2])∧Below w.heap.size w w':=by
 have HR:Hid (iJ p=match jP p.ds p.ts [] with | some l=>(4,l) | none=>lQ p.ds p.ts p.ts):=Lib.hid rfl
 generalize iJ p=res at *
 have hld:=hp.1
 have hlt:=hp.2.1
 unfold maxLen at hld hlt
 have HP:=Lib.hid hp
 clear hp
 have hmm:= @run_makeMap Tryd.prog
 go_enter Tryd.func15,Tryd.ntmps15
 go_upto_region 1 with fail
 generalize hW:World.alloc w _=W
 generalize Value.agg #[_,_]=a0
 have HX:=Lib.hid ((Sit.start w).kC rfl (.slice aC p.ds.length aA) (.slice aF p.ts.length av) 26)
 rw [hW] at HX
 have hsz:W.heap.size=w.heap.size + 1:=by rw [← hW]; simp
 clear hW
 go_upto_region 2 with fail
 have HM:=Lib.hid (iL.made W)
 have HY:=Lib.hid (HX.out.next (ay W (.map #[] 0)))
 rw [hsz] at HM
 generalize World.alloc W _=W1 at *
 clear HX hsz
 obtain ⟨-,⟨-,c0⟩,⟨-,c1⟩,-⟩:=HY.out
 go_wp2_with fail
 go_loopw [6,19] (fun _ s wr=> ∃(k:Nat) (pre R:List De),s= .int .i64 k∧pre++R=p.ds∧pre.length=k∧iL wr (w.heap.size + 1) k (kK pre)∧Sit w wr [(w.heap.size,0,(.slice aC p.ds.length aA)),(w.heap.size,1,(.slice aF p.ts.length av))]) (fun _ s _=>p.ds.length - (intOf s).toNat)
 case atStart=>exact ⟨0,[],p.ds,rfl,rfl,rfl,HM.out.congr (fun _=>rfl),HY.out⟩
 case round=>
  obtain ⟨k,pre,R,rfl,hds,hk,hmap,hsit⟩:=hrel
  have HZ:=Lib.hid hsit
  have Di:=Lib.hid hmap
  clear hsit hmap HY HM c0 c1
  have hlen:k + R.length=p.ds.length:=by rw [← hds,List.length_append,hk]
  have hrow:=(HP.out.2.2.1.below HZ.out.1).drop k
  rw [Nat.zero_add,← hds,← hk,List.drop_left] at hrow
  rw [hk] at hrow
  have pV:=Lib.hid hds
  have HK:=Lib.hid hk
  clear hds hk
  cases R with
  | cons d R=>
    obtain ⟨⟨b,off,rfl,ni,x0,x1,x2,x3,x4,x5,hok⟩,-⟩:=hrow
    simp only [List.length_cons] at hlen
    have hkl:k < p.ds.length:=by omega
    have hba:=ay wr (.cells #[.int .i64 d.kind,.int .i64 d.line,.string d.nm,.int .i64 d.size,.int .i64 d.init,.string d.on] 37)
    obtain ⟨w4,hup,uF,hg4⟩:=(Di.out.next hba).put (by omega) d.nm hok.2.2.1 true
    have lZ:=Lib.hid (uF.congr (Gj pre d))
    have yV:=Lib.hid ((HZ.out.next hba).grown hg4 (by omega) (by simp))
    clear uF hg4 hba hok
    go_wp2_with fail
    go_roundw
    case rel=>exact ⟨k + 1,pre++[d],R,by go_num,by rw [List.append_assoc]; exact pV.out,by rw [List.length_append,HK.out]; rfl,lZ.out,yV.out⟩
    case measure=>simp [intOf]; omega
  | nil=>
    obtain rfl:k=p.ds.length:=by simpa using hlen
    have hpre:pre=p.ds:=by rw [← pV.out,List.append_nil]
    subst hpre
    obtain ⟨-,⟨-,c0⟩,⟨-,c1⟩,-⟩:=HZ.out
    clear hrow hlen pV HK
    go_wp2_with fail
    go_loopw [8,30] (fun _ s wr=> ∃(k:Nat) (pre R:List Th),s= .int .i64 k∧pre++R=p.ts∧pre.length=k∧jP p.ds p.ts []=jP p.ds R pre∧iL wr (w.heap.size + 1) (p.ds.length + k) (fun l=>kK p.ds l || iO pre l)∧Sit w wr [(w.heap.size,0,(.slice aC p.ds.length aA)),(w.heap.size,1,(.slice aF p.ts.length av))]) (fun _ s _=>p.ts.length - (intOf s).toNat)
    case atStart=>exact ⟨0,[],p.ts,rfl,rfl,rfl,rfl,Di.out.congr (fun l=>by simp [iO]),HZ.out⟩
    case round=>
     obtain ⟨k,pre,R,rfl,hds,hk,heq,hmap,hsit⟩:=hrel
     have HU:=Lib.hid hsit
     have pK:=Lib.hid hmap
     have HE:=Lib.hid heq
     clear hsit hmap HZ Di c0 c1 heq
     have hlen:k + R.length=p.ts.length:=by rw [← hds,List.length_append,hk]
     have hrow:=(HP.out.2.2.2.below HU.out.1).drop k
     rw [Nat.zero_add,← hds,← hk,List.drop_left] at hrow
     rw [hk] at hrow
     have pV:=Lib.hid hds
     have HK:=Lib.hid hk
     clear hds hk
     cases R with
     | cons t R=>
       obtain ⟨⟨b,off,iQ,gy,bg,aT,rfl,hB,x0,x1,x2,x3,hok,htx,hst⟩,-⟩:=hrow
       simp only [List.length_cons] at hlen
       have hkl:k < p.ts.length:=by omega
       have hba:=ay wr (.cells #[.string t.nm,.int .i64 t.line,.slice iQ t.bH.length gy,.slice bg t.body.len aT] 35)
       have lZ:=Lib.hid (pK.out.next hba)
       have hlk:=lZ.out.look t.nm hok.1
       have HB3:=Lib.hid (HU.out.next hba).1
       cases nJ:(kK p.ds t.nm.toList || iO pre t.nm.toList)
       ·obtain ⟨w4,hup,uF,hg4⟩:=lZ.out.put (by omega) t.nm hok.1 true
        have eu:=Lib.hid (uF.congr (Gw p.ds pre t))
        have Ui:=Lib.hid ((HU.out.next hba).grown hg4 (by omega) (by simp))
        have dA:=Lib.hid (HE.out.trans (if_neg (by rw [nJ]; decide)))
        clear uF hg4 hba hok htx hst
        go_wp2_with fail
        go_roundw
        case rel=>exact ⟨k + 1,pre++[t],R,by go_num,by rw [List.append_assoc]; exact pV.out,by rw [List.length_append,HK.out]; rfl,dA.out,eu.out,Ui.out⟩
        case measure=>simp [intOf]; omega
       ·have HF:Hid (res=(4,t.line)):=Lib.hid (HR.out.trans (by rw [HE.out.trans (if_pos nJ)]))
        clear hba hok htx hst
        go_wp2_with fail
        go_quiet (fail)
        go_wp2_with fail
        go_ret2
        exact ⟨iH (congrArg Prod.fst HF.out) (congrArg Prod.snd HF.out),below_drewN HB3.out _⟩
     | nil=>
       obtain rfl:k=p.ts.length:=by simpa using hlen
       have hpre:pre=p.ts:=by rw [← pV.out,List.append_nil]
       subst hpre
       have HR2:Hid (res=lQ p.ds p.ts p.ts):=Lib.hid (HR.out.trans (by rw [HE.out]; rfl))
       obtain ⟨-,⟨-,c0⟩,⟨-,c1⟩,-⟩:=HU.out
       clear hrow hlen pV HK HE HR
       generalize EX:(fun l=>kK p.ds l || iO p.ts l)=ff at *
       have UE:=Lib.hid EX
       clear EX
       have hth:=HP.out.2.2.2.below HU.out.1
       go_wp2_with fail
       go_loopw [10,11,12,14,47,60,75] (fun _ _ _ _ s _ _ wr=> ∃(k:Nat) (R:List Th),s= .int .i64 k∧k + R.length=p.ts.length∧lQ p.ds p.ts p.ts=lQ p.ds p.ts R∧iy wr w.heap.size R aF k∧iL wr (w.heap.size + 1) (p.ds.length + p.ts.length) ff∧Sit w wr [(w.heap.size,0,(.slice aC p.ds.length aA)),(w.heap.size,1,(.slice aF p.ts.length av))]) (fun _ _ _ _ s _ _ _=>p.ts.length - (intOf s).toNat)
       case atStart=>exact ⟨0,p.ts,rfl,by simp,rfl,hth,pK.out,HU.out⟩
       case round=>
        obtain ⟨k,R,rfl,hlen,heq,hrow,hmap,hsit⟩:=hrel
        have HV:=Lib.hid hsit
        have lZ:=Lib.hid hmap
        have HE:=Lib.hid (HR2.out.trans heq)
        have Hl:=Lib.hid heq
        clear hsit hmap HU pK c0 c1 heq hth
        cases R with
        | nil=>
          obtain rfl:k=p.ts.length:=by simpa using hlen
          have HF:=Lib.hid (HE.out.trans (rfl:_=((0:Int),(0:Int))))
          go_wp2_with fail
          go_ret2
          exact ⟨iH (congrArg Prod.fst HF.out) (congrArg Prod.snd HF.out),HV.out.1⟩
        | cons t R=>
          obtain ⟨⟨b,off,iQ,gy,bg,aT,rfl,hB,x0,x1,x2,x3,hok,htx,hst⟩,hrest⟩:=hrow
          simp only [List.length_cons] at hlen
          have hkl:k < p.ts.length:=by omega
          have hll:=hok.2.2.1
          have hcl:=hst.2
          unfold maxLen at hll
          clear hst hok
          go_upto_region 17 with fail
          obtain ⟨nb,hnb⟩: ∃n,wr.heap.size=n:=⟨_,rfl⟩
          generalize hW2:World.alloc wr _=W2
          have wS:Hid (Below wr.heap.size wr W2):=Lib.hid (by rw [← hW2]; exact ay _ _)
          have HY:Hid (Sit wr W2 [(nb,0,.string t.nm),(nb,1,.int .i64 t.line),(nb,2,.slice iQ t.bH.length gy),(nb,3,.slice bg t.body.len aT)]):=Lib.hid (by rw [← hW2]; exact (Sit.start wr).qX hnb _ _ _ _ _)
          have QS:=Lib.hid (HV.out.next wS.out)
          have eu:=Lib.hid (lZ.out.next wS.out)
          have HB3:=Lib.hid QS.out.1
          have Ah:=Lib.hid (htx.below (wS.out.mono HV.out.1.size))
          have uj:=Lib.hid (hrest.below (wS.out.mono HV.out.1.size))
          rw [hnb]
          clear hW2 hnb x0 x1 x2 x3 lZ HV htx hrest wS
          obtain ⟨-,⟨-,c0⟩,⟨-,c1⟩,⟨-,c2⟩,⟨-,c3⟩,-⟩:=HY.out
          cases h1:decide ((4:Int) < t.bH.length)
          case true=>
           as_aux_lemma=>
            have HF:=Lib.hid (HE.out.trans (if_pos h1))
            have h1':4 < t.bH.length:=by simp at h1; omega
            clear h1
            go_wp2_with fail
            go_quiet (fail)
            go_wp2_with fail
            go_ret2
            exact ⟨iH (congrArg Prod.fst HF.out) (congrArg Prod.snd HF.out),below_drewN HB3.out _⟩
          have HE2:=Lib.hid (HE.out.trans (if_neg (by rw [h1]; decide)))
          have oW:=Lib.hid (Hl.out.trans (if_neg (by rw [h1]; decide)))
          have h1':t.bH.length≤4:=by simp at h1; omega
          clear HE Hl h1
          go_wp2_with fail
          go_loop [11,12,14,60,75] (fun _ _ _ s _=> ∃(k':Nat) (pre R':List ByteArray),s= .int .i64 k'∧pre++R'=t.bH∧pre.length=k'∧ku p.ds p.ts t.bH []=ku p.ds p.ts R' pre) (fun _ _ _ s _=>t.bH.length - (intOf s).toNat)
          case atStart=>exact ⟨0,[],t.bH,rfl,rfl,rfl,rfl⟩
          case round=>
           obtain ⟨k',pre,R',rfl,hds,hk',heq'⟩:=hrel
           have dA:=Lib.hid heq'
           have hlen':k' + R'.length=t.bH.length:=by rw [← hds,List.length_append,hk']
           have hrow:=Ah.out.drop k'
           rw [Nat.zero_add,← hds,← hk',List.drop_left] at hrow
           rw [hk'] at hrow
           have qG:=Lib.hid ((hds ▸ Ah.out:iD W2 w.heap.size (pre++R') iQ 0).take)
           have pV:=Lib.hid hds
           have HK:=Lib.hid hk'
           clear hds hk' heq'
           cases R' with
           | nil=>
             obtain rfl:k'=t.bH.length:=by simpa using hlen'
             have HF:=Lib.hid (oW.out.trans (if_neg (by rw [dA.out]; simp [ku])))
             go_wp2_with fail
             go_roundw
             case rel=>exact ⟨k + 1,R,by go_num,by omega,HF.out,uj.out,eu.out,QS.out⟩
             case measure=>simp [intOf]; omega
           | cons s R'=>
             obtain ⟨⟨b',off',rfl,hB',y0,hs⟩,-⟩:=hrow
             simp only [List.length_cons] at hlen'
             have hkl':k' < t.bH.length:=by omega
             have hlk:=eu.out.look s hs
             have hfs:ff s.toList=(kK p.ds s.toList || iO p.ts s.toList):=by rw [← UE.out]
             cases nJ:ff s.toList
             case true=>
              as_aux_lemma=>
               have HF:=Lib.hid (HE2.out.trans (if_pos (by rw [dA.out]; unfold ku; rw [← hfs,nJ]; rfl)))
               clear hfs
               go_wp2_with fail
               go_quiet (fail)
               go_wp2_with fail
               go_ret2
               exact ⟨iH (congrArg Prod.fst HF.out) (congrArg Prod.snd HF.out),below_drewN HB3.out _⟩
             have uM:Hid (ku p.ds p.ts t.bH []=(kr pre s.toList || ku p.ds p.ts R' (pre++[s]))):=Lib.hid (dA.out.trans (by rw [ku,← hfs,nJ]; rfl))
             clear hfs dA
             have hk0:(0:Int)≤k':=by omega
             have hk2:k'≤gy:=by omega
             go_wp2_with fail
             go_loop [14,75] (fun _ s'=> ∃(k'':Nat) (Q:List ByteArray),s'= .int .i64 k''∧k'' + Q.length=k'∧kr pre s.toList=kr Q s.toList∧iD W2 w.heap.size Q (some ⟨b',off',none⟩) k'') (fun _ s'=>k' - (intOf s').toNat)
             case atStart=>exact ⟨0,pre,rfl,by rw [Nat.zero_add]; exact HK.out,rfl,qG.out⟩
             case round=>
              obtain ⟨k'',Q,rfl,I4,heq'',NG⟩:=hrel
              have HQ:=Lib.hid heq''
              clear heq''
              cases Q with
              | nil=>
                obtain rfl:k''=k':=by simpa using I4
                have HF:=Lib.hid (uM.out.trans (by rw [HQ.out]; rfl:_=ku p.ds p.ts R' (pre++[s])))
                go_wp2_with fail
                go_round
                case rel=>exact ⟨k'' + 1,pre++[s],R',by go_num,by rw [List.append_assoc]; exact pV.out,by rw [List.length_append,HK.out]; rfl,HF.out⟩
                case measure=>simp [intOf]; omega
              | cons q Q=>
                obtain ⟨⟨b2,off2,hbe,hB2,z0,hq⟩,hrest''⟩:=NG
                obtain ⟨rfl,rfl⟩:b'=b2∧off'=off2:=by injection hbe with h; injection h with h1 h2; exact ⟨h1,h2⟩
                simp only [List.length_cons] at I4
                have UM:k'' < k':=by omega
                clear hbe
                have Af:Hid (kr pre s.toList=((q.toList == s.toList) || kr Q s.toList)):=Lib.hid (HQ.out.trans (by simp [kr]))
                cases hc:(q.toList == s.toList)
                ·have hc':(s.toList == q.toList)=false:=by rw [beq_eq_false_iff_ne] at hc ⊢; exact fun e=>hc e.symm
                 have HF:=Lib.hid (Af.out.trans (by rw [hc]; rfl:_=kr Q s.toList))
                 go_wp2_with fail
                 go_round
                 case rel=>exact ⟨k'' + 1,Q,by go_num,by omega,HF.out,hrest''⟩
                 case measure=>simp [intOf]; omega
                ·have hc':(s.toList == q.toList)=true:=by rw [beq_iff_eq] at hc ⊢; exact hc.symm
                 have HF:=Lib.hid (HE2.out.trans (if_pos (by rw [uM.out,Af.out,hc]; rfl)))
                 go_wp2_with fail
                 go_quiet (fail)
                 go_wp2_with fail
                 go_ret2
                 exact ⟨iH (congrArg Prod.fst HF.out) (congrArg Prod.snd HF.out),below_drewN HB3.out _⟩
end Go.Proofs.YtnknfoibmgphnaaDoor
end
