/-
  Contracts of check.declared and check.meaning.
  Contracts of check.kindOf, extent, names, Expr.
  Maps that a call makes, keyed by texts, with integers and truth values: what they hold as a plain function.
  Contract of check.declarations.
  Contract of check.threads.
-/
import Derived.Test.YtdajkddgnfgijaaGreatDoorGMA
import Derived.Test.YtdajkddgnfgijaaGreatDoorGMC
import Derived.Deep.CutBlock
import Derived.Test.YtdajkddgnfgijaaGreatDoorGMB
import Derived.Maps.Own
import Derived.Maps.OwnSet
import Derived.Maps.Views
section
namespace Go.Proofs.YtdajkddgnfgijaaGreatDoor
open Go.RowKit
open Md
theorem yP (d:De) (w:World):
 Calls Tryz.prog 105 #[.agg #[.int .i64 d.kind,.int .i64 d.line,.string d.nm,.int .i64 d.size,.int .i64 d.init,.string d.on]] w fun e w'=>e= .returned (.int .i64 (fG d))∧Below w.heap.size w w':=by
 unfold fG
 go_enter Tryz.func105,Tryz.ntmps105
 go_wp2
 all_goals go_ret
 all_goals refine ⟨bG ?_,aj _ _⟩
 all_goals first | (simp [*]; done) | (go_light; grind)
theorem M6 (s:ByteArray) (r:List ByteArray) (nm:ByteArray):wY (s ::r) nm=((s.toList == nm.toList) || wY r nm):=by simp [wY]
theorem LY (d:De) (r:List De) (nm:ByteArray):qd (d ::r) nm=if d.nm.toList == nm.toList then some (fG d) else qd r nm:=by
 unfold qd; rw [List.find?_cons]; cases h:(d.nm.toList == nm.toList) <;> simp
theorem Mi (t:Th) (r:List Th) (nm:ByteArray):qE (t ::r) nm=if t.nm.toList == nm.toList then 8 else qE r nm:=by
 unfold qE; rw [List.any_cons]; cases h:(t.nm.toList == nm.toList) <;> simp
theorem Jl {ts:List Th} {i:Int} (h: ¬ (0≤i∧i < ts.length)):yC ts i=[]:=by
 unfold yC
 split
 ·rw [List.getElem?_eq_none (by omega)]; rfl
 ·rfl
theorem Lf {ts:List Th} {i:Nat} {t:Th} {r:List Th} (h:ts.drop i=t ::r):yC ts (i:Int)=t.cZ:=by
 have h2:ts[i]? =some t:=by have:=List.getElem?_drop (xs:=ts) (i:=i) (j:=0); rw [h] at this; simpa using this.symm
 unfold yC
 rw [if_pos (by omega)]
 simp [h2]
set_option maxHeartbeats 2000000 in
theorem JH (p:Pr) (i:Int) (nm:ByteArray) (w:World) (aK aM:Option Addr) (aG aH:Nat) (hi:dR i) (hp:p.At w aK aM):
 Calls Tryz.prog 220 #[.agg #[.slice aK p.ds.length aG,.slice aM p.ts.length aH],.int .i64 i,.string nm] w fun e w'=>e= .returned (.int .i64 (mean p i nm))∧Below w.heap.size w w':=by
 obtain ⟨i1,i2⟩:=hi
 have hld:=hp.1
 have hlt:=hp.2.1
 unfold maxLen at hld hlt
 have HP:=Lib.hid hp
 clear hp
 go_enter Tryz.func220,Tryz.ntmps220
 go_upto_region 1 with fail
 generalize hW:World.alloc w _=W
 generalize Value.agg #[_,_]=a0
 have HX:=Lib.hid ((Sit.start w).EA rfl (.slice aK p.ds.length aG) (.slice aM p.ts.length aH) 25)
 rw [hW] at HX
 clear hW
 obtain ⟨-,⟨-,c0⟩,⟨-,c1⟩,-⟩:=HX.out
 go_cut [21] (fun s W2=>W=W2∧ ∃b,s= .bool b∧decide (0≤i∧i < p.ts.length)=b)
 case first=>
  go_wp2_with fail
  all_goals go_meet
  all_goals exact ⟨rfl,_,rfl,by go_light; grind⟩
 obtain ⟨rfl,bi,rfl,hbi⟩:=hcut
 have Wt:=Lib.hid hbi
 clear hbi
 go_upto_if 21 with fail
 go_cut [6,8] (fun s6 s8 W2=>wY (yC p.ts i) nm=false∧Sit w W2 [(w.heap.size,0,(.slice aK p.ds.length aG)),(w.heap.size,1,(.slice aM p.ts.length aH))])
 case first=>
  cases bi
  ·go_wp2_with fail
   go_meet
   exact ⟨by rw [Jl (by simpa using Wt.out)]; rfl,HX.out⟩
  ·have hbi:0≤i∧i < p.ts.length:=by simpa using Wt.out
   obtain ⟨j,rfl⟩:=Int.eq_ofNat_of_zero_le hbi.1
   have hj:j < p.ts.length:=by omega
   have hth:=(HP.out.same HX.out.1).2.2.2.drop j
   cases hd:p.ts.drop j with
   | nil=>exfalso; have:=congrArg List.length hd; simp at this; omega
   | cons t r=>
     rw [hd,Nat.zero_add] at hth
     have HL:=Lib.hid (Lf hd)
     clear hd hbi Wt
     obtain ⟨⟨b,off,fF,dW,bV,bC,rfl,hB,x0,x1,x2,x3,hok,htx,hst⟩,-⟩:=hth
     have hll:=hok.2.2.1
     unfold maxLen at hll
     clear hst hok
     go_wp2_with fail
     go_loop [8,29] (fun _ s=> ∃(k:Nat) (R:List ByteArray),s= .int .i64 k∧k + R.length=t.cZ.length∧wY t.cZ nm=wY R nm∧gB W W.heap.size R fF k) (fun _ s=>t.cZ.length - (intOf s).toNat)
     case atStart=>exact ⟨0,t.cZ,rfl,by simp,rfl,htx⟩
     case round=>
      obtain ⟨k,R,rfl,hlen,heq,hrow⟩:=hrel
      cases R with
      | nil=>
        obtain rfl:k=t.cZ.length:=by simpa using hlen
        go_wp2_with fail
        go_meet
        exact ⟨by rw [HL.out,heq]; rfl,HX.out⟩
      | cons s R=>
        obtain ⟨⟨b',off',rfl,hB',y0,hs⟩,hrest⟩:=hrow
        simp only [List.length_cons] at hlen
        have hkl:k < t.cZ.length:=by omega
        rw [M6] at heq
        have HE:=Lib.hid heq
        clear heq
        cases hc:(s.toList == nm.toList)
        ·have eF:=Lib.hid (HE.out.trans (by rw [hc]; rfl:_=wY R nm))
         go_wp2_with fail
         go_round
         case rel=>exact ⟨k + 1,R,by go_num,by omega,eF.out,hrest⟩
         case measure=>simp [intOf]; omega
        ·have eF:=Lib.hid (HE.out.trans (by rw [hc]; rfl:_=true))
         go_wp2_with fail
         go_ret
         exact ⟨bG (by unfold mean; rw [HL.out,eF.out]; rfl),HX.out.1⟩
 case rest=>
  obtain ⟨hno,hX⟩:=hcut
  have HY:=Lib.hid hX
  have HM:Hid (mean p i nm=(qd p.ds nm).getD (qE p.ts nm)):=Lib.hid (by unfold mean; rw [hno]; rfl)
  clear hno hX HX c0 c1
  obtain ⟨-,⟨-,c0⟩,⟨-,c1⟩,-⟩:=HY.out
  have hde:=(HP.out.same HY.out.1).2.2.1
  go_wp2_with fail
  go_loopw [10,40] (fun _ s wr=> ∃(k:Nat) (R:List De),s= .int .i64 k∧k + R.length=p.ds.length∧qd p.ds nm=qd R nm∧ig wr wr.heap.size R aK k∧Sit w wr [(w.heap.size,0,(.slice aK p.ds.length aG)),(w.heap.size,1,(.slice aM p.ts.length aH))]) (fun _ s _=>p.ds.length - (intOf s).toNat)
  case atStart=>exact ⟨0,p.ds,rfl,by simp,rfl,hde,HY.out⟩
  case round=>
   obtain ⟨k,R,rfl,hlen,heq,hrow,hsit⟩:=hrel
   have HZ:=Lib.hid hsit
   clear hsit HY c0 c1 hde
   cases R with
   | nil=>
     obtain rfl:k=p.ds.length:=by simpa using hlen
     obtain ⟨-,⟨-,c0⟩,⟨-,c1⟩,-⟩:=HZ.out
     have hth:=(HP.out.same HZ.out.1).2.2.2
     have Zh:=Lib.hid (HM.out.trans (by rw [heq]; rfl:_=qE p.ts nm))
     clear heq HM
     go_wp2_with fail
     go_loopw [12,54] (fun _ s wr=> ∃(k:Nat) (R:List Th),s= .int .i64 k∧k + R.length=p.ts.length∧qE p.ts nm=qE R nm∧gJ wr wr.heap.size R aM k∧Sit w wr [(w.heap.size,0,(.slice aK p.ds.length aG)),(w.heap.size,1,(.slice aM p.ts.length aH))]) (fun _ s _=>p.ts.length - (intOf s).toNat)
     case atStart=>exact ⟨0,p.ts,rfl,by simp,rfl,hth,HZ.out⟩
     case round=>
      obtain ⟨k,R,rfl,hlen,heq,hrow,hsit⟩:=hrel
      have HU:=Lib.hid hsit
      clear hsit HZ c0 c1 hth
      cases R with
      | nil=>
        obtain rfl:k=p.ts.length:=by simpa using hlen
        go_wp2_with fail
        go_ret
        exact ⟨bG (Zh.out.trans heq).symm,HU.out.1⟩
      | cons t R=>
        obtain ⟨⟨b,off,fF,dW,bV,bC,rfl,hB,x0,x1,x2,x3,hok,htx,hst⟩,hrest⟩:=hrow
        simp only [List.length_cons] at hlen
        have hkl:k < p.ts.length:=by omega
        rw [Mi] at heq
        have HE:=Lib.hid heq
        clear heq hok htx hst
        cases hc:(t.nm.toList == nm.toList)
        ·have eF:=Lib.hid (HE.out.trans (by rw [hc]; rfl:_=qE R nm))
         go_wp2_with fail
         go_roundw
         case rel=>exact ⟨k + 1,R,by go_num,by omega,eF.out,hrest.same (aj _ _),HU.out.next (aj _ _)⟩
         case measure=>simp [intOf]; omega
        ·have eF:=Lib.hid (HE.out.trans (if_pos hc))
         go_wp2_with fail
         go_ret
         exact ⟨bG (Zh.out.trans eF.out).symm,(HU.out.next (aj _ _)).1⟩
   | cons d R=>
     obtain ⟨⟨b,off,rfl,hB,x0,x1,x2,x3,x4,x5,hok⟩,hrest⟩:=hrow
     simp only [List.length_cons] at hlen
     have hkl:k < p.ds.length:=by omega
     rw [LY] at heq
     have HE:=Lib.hid heq
     clear heq hok
     cases hc:(d.nm.toList == nm.toList)
     ·have eF:=Lib.hid (HE.out.trans (by rw [hc]; rfl:_=qd R nm))
      go_wp2_with fail
      go_roundw
      case rel=>exact ⟨k + 1,R,by go_num,by omega,eF.out,hrest.same (aj _ _),HZ.out.next (aj _ _)⟩
      case measure=>simp [intOf]; omega
     ·have eF:=Lib.hid (HE.out.trans (if_pos hc))
      go_wp2_with fail
      refine (yP d _).mono ?_
      rintro e w2 ⟨rfl,hb2⟩
      go_wp2_with fail
      go_ret
      exact ⟨bG (HM.out.trans (by rw [eF.out]; rfl)).symm,((HZ.out.next (aj _ _)).next hb2).1⟩
theorem xZ (d:De):2≤fG d∧fG d≤9∧fG d≠8:=by unfold fG; grind
end Go.Proofs.YtdajkddgnfgijaaGreatDoor
end
section
namespace Go.Proofs.YtdajkddgnfgijaaGreatDoor
open Go.RowKit
namespace Md
def dP (w:World) (B:Nat):List Int→Option Addr→Nat→Prop
 | [],_,_=>True
 | s ::r,ao,k=>(∃b off,ao=some ⟨b,off,none⟩∧b < B∧w.cell? ⟨b,off + k,none⟩=some (.int .i64 s))∧dP w B r ao (k + 1)
section
variable {w w':World} {B B':Nat}
theorem dP.below (hb:Below B w w'): ∀ {l:List Int} {ao:Option Addr} {k:Nat},dP w B l ao k→dP w' B l ao k
 | [],_,_,_=>trivial
 | _ ::_,_,_,⟨⟨b,off,e,hB,c⟩,hr⟩=>⟨⟨b,off,e,hB,(hb.cell hB).trans c⟩,dP.below hb hr⟩
theorem dP.mono (h:B≤B'): ∀ {l:List Int} {ao:Option Addr} {k:Nat},dP w B l ao k→dP w B' l ao k
 | [],_,_,_=>trivial
 | _ ::_,_,_,⟨⟨b,off,e,hB,c⟩,hr⟩=>⟨⟨b,off,e,Nat.lt_of_lt_of_le hB h,c⟩,dP.mono h hr⟩
theorem dP.same {l:List Int} {ao:Option Addr} {k:Nat} (h:dP w w.heap.size l ao k) (hb:Below w.heap.size w w'):dP w' w'.heap.size l ao k:=(h.below hb).mono hb.size
end
def bD (m:Int) (l:List Int):Int:=if m == 0 then 5 else if l.any (fun k=>m == k) then 0 else 6
def zu:bL→Int→Int→Int × Int
 | .nil,n,d=>(n,d)
 | .cons _ _ _ kids rest,n,d=>zu rest (wrap64 (n + (zu kids 1 0).1)) (max d (wrap64 ((zu kids 1 0).2 + 1)))
def ext (kids:bL):Int × Int:=((zu kids 1 0).1,wrap64 ((zu kids 1 0).2 + 1))
def rR (p:Pr) (i op:Int) (nm:ByteArray):Int:=if op == 2 then bD (mean p i nm) [1,2] else if op == 3 then bD (mean p i nm) [3] else 0
def tH (p:Pr) (i:Int):bL→Int
 | .nil=>0
 | .cons op _ nm kids rest=>if rR p i op nm == 0 then (if tH p i kids == 0 then tH p i rest else tH p i kids) else rR p i op nm
def xP (p:Pr) (i op:Int) (nm:ByteArray) (kids:bL):Int:=if rR p i op nm == 0 then tH p i kids else rR p i op nm
theorem MX (p:Pr) (i op n:Int) (nm:ByteArray) (kids rest:bL):tH p i (.cons op n nm kids rest)=if xP p i op nm kids == 0 then tH p i rest else xP p i op nm kids:=by
 rw [tH]; unfold xP
 cases h:(rR p i op nm == 0) <;> simp
 ·intro h'; simp [h'] at h
def kU (p:Pr) (i op n:Int) (nm:ByteArray) (kids:bL):Int:=
 if jl op n nm kids then (if decide (24 < (ext kids).1) || decide (6 < (ext kids).2) then 2 else xP p i op nm kids) else 3
end Md
open Md
theorem Gs (m k:Int) (l:List Int):(k ::l).any (fun k=>m == k)=((m == k) || l.any (fun k=>m == k)):=by simp
set_option maxHeartbeats 2000000 in
theorem vF (p:Pr) (i:Int) (nm:ByteArray) (l:List Int) (w:World) (aK aM ao:Option Addr) (aG aH cap:Nat) (hi:dR i) (hl:l.length≤maxLen) (hp:p.At w aK aM) (hw:dP w w.heap.size l ao 0):
 Calls Tryz.prog 208 #[.agg #[.slice aK p.ds.length aG,.slice aM p.ts.length aH],.int .i64 i,.string nm,.slice ao l.length cap] w fun e w'=>e= .returned (.int .i64 (bD (mean p i nm) l))∧Below w.heap.size w w':=by
 unfold maxLen at hl
 have HP:=Lib.hid hp
 have HW:=Lib.hid hw
 clear hp hw
 go_enter Tryz.func208,Tryz.ntmps208
 go_wp2_with fail
 refine (JH p i nm _ aK aM aG aH hi (HP.out.same (aj _ _))).mono ?_
 rintro e w2 ⟨rfl,hb2⟩
 have HB:=Lib.hid ((aj w (.cells #[.slice aK p.ds.length aG,.slice aM p.ts.length aH] 25)).trans (hb2.mono (by simp)))
 clear hb2
 have hrow:=HW.out.same HB.out
 generalize hmm:mean p i nm=m at *
 have HM:=Lib.hid hmm
 clear hmm
 cases h0:(m == 0)
 ·go_wp2_with fail
  go_loop [11,20] (fun _ s=> ∃(k:Nat) (R:List Int),s= .int .i64 k∧k + R.length=l.length∧l.any (fun k=>m == k)=R.any (fun k=>m == k)∧dP w2 w2.heap.size R ao k) (fun _ s=>l.length - (intOf s).toNat)
  case atStart=>exact ⟨0,l,rfl,by simp,rfl,hrow⟩
  case round=>
   obtain ⟨k,R,rfl,hlen,heq,hrow'⟩:=hrel
   cases R with
   | nil=>
     obtain rfl:k=l.length:=by simpa using hlen
     have HE:Hid (bD m l=6):=Lib.hid (by unfold bD; rw [h0,heq]; rfl)
     clear heq
     go_wp2_with fail
     go_ret
     exact ⟨bG (by rw [HM.out,HE.out]),HB.out⟩
   | cons a R=>
     obtain ⟨⟨b,off,rfl,hB,y0⟩,hrest⟩:=hrow'
     simp only [List.length_cons] at hlen
     have hkl:k < l.length:=by omega
     rw [Gs] at heq
     have HE:=Lib.hid heq
     clear heq
     cases hc:(m == a)
     ·have eF:=Lib.hid (HE.out.trans (by rw [hc]; rfl:_=R.any (fun k=>m == k)))
      go_wp2_with fail
      go_round
      case rel=>exact ⟨k + 1,R,by go_num,by omega,eF.out,hrest⟩
      case measure=>simp [intOf]; omega
     ·have eF:Hid (bD m l=0):=Lib.hid (by unfold bD; rw [h0,HE.out,hc]; rfl)
      go_wp2_with fail
      go_ret
      exact ⟨bG (by rw [HM.out,eF.out]),HB.out⟩
 ·have HE:Hid (bD m l=5):=Lib.hid (by unfold bD; rw [h0]; rfl)
  go_wp2_with fail
  go_ret
  exact ⟨bG (by rw [HM.out,HE.out]),HB.out⟩
theorem lF {a b c d:Int} (h1:c=a) (h2:d=b):Ending.returned (.tuple #[.int .i64 a,.int .i64 b])= .returned (.tuple #[.int .i64 c,.int .i64 d]):=by rw [h1,h2]
theorem ext_nil {kids:bL} {a d:Int} (h:zu kids 1 0=zu .nil a d):(ext kids).1=a∧(ext kids).2=wrap64 (d + 1):=by unfold ext; rw [h]; exact ⟨rfl,rfl⟩
def BF (op n:Int) (nm:ByteArray) (kids:bL):Prop:=
 ∀(w:World) (ao:Option Addr) (cap:Nat),uK op n nm kids→kids.At w w.heap.size ao 0→
  Calls Tryz.prog 218 #[.agg #[.int .i64 op,.int .i64 n,.string nm,.slice ao kids.len cap]] w fun e w'=>e= .returned (.tuple #[.int .i64 (ext kids).1,.int .i64 (ext kids).2])∧Below w.heap.size w w'
set_option maxHeartbeats 2000000 in
theorem JI (op n:Int) (nm:ByteArray) (kids:bL) (ih:kids.All BF):BF op n nm kids:=by
 intro w ao cap hok hat
 obtain ⟨-,-,-,hl⟩:=hok
 unfold maxLen at hl
 have kE:=Lib.hid ih
 have HAT:=Lib.hid hat
 clear ih hat
 go_enter Tryz.func218,Tryz.ntmps218
 go_upto_region 2 with fail
 generalize hW:World.alloc w _=W
 generalize Value.agg #[_,_,_,_]=a0
 have HX:=Lib.hid ((Sit.start w).CK rfl (.int .i64 op) (.int .i64 n) (.string nm) (.slice ao kids.len cap) 129)
 rw [hW] at HX
 clear hW
 obtain ⟨-,⟨-,c0⟩,⟨-,c1⟩,⟨-,c2⟩,⟨-,c3⟩,-⟩:=HX.out
 go_wp2_with fail
 go_loopw [4,5,7,8,9,13] (fun s4 s5 _ _ _ s wr=> ∃(k:Nat) (R:bL) (a d:Int),s= .int .i64 k∧s4= .int .i64 a∧s5= .int .i64 d∧k + R.len=kids.len∧zu kids 1 0=zu R a d∧R.All BF∧R.At wr wr.heap.size ao k∧Below w.heap.size w wr) (fun _ _ _ _ _ s _=>kids.len - (intOf s).toNat)
 case atStart=>exact ⟨0,kids,1,0,rfl,rfl,rfl,by simp,rfl,kE.out,HAT.out.same HX.out.1,HX.out.1⟩
 case round=>
  obtain ⟨k,R,a,d,rfl,rfl,rfl,hlen,heq,hall,hrow,hB⟩:=hrel
  have HE:=Lib.hid heq
  clear heq c0 c1 c2 c3
  cases R with
  | nil=>
    obtain rfl:k=kids.len:=by simpa [bL.len] using hlen
    go_wp2_with fail
    go_ret2
    exact ⟨lF (ext_nil HE.out).1 (ext_nil HE.out).2,hB⟩
  | cons op' n' nm' iO rest=>
    obtain ⟨⟨b,off,mH,cap',rfl,mF,x0,x1,x2,x3,hok',oM⟩,hrest⟩:=hrow
    obtain ⟨dh,vB⟩:=hall
    have hlt:k < kids.len:=by simp only [bL.len] at hlen; omega
    go_wp2_with fail
    have hba:=aj wr (.cells #[.int .i64 op',.int .i64 n',.string nm',.slice mH iO.len cap'] 129)
    refine (dh _ _ _ hok' (oM.same hba)).mono ?_
    rintro e w2 ⟨rfl,hb2⟩
    have HB3:=Lib.hid (hba.trans (hb2.mono (by simp)))
    clear hba hb2 x0 x1 x2 x3 oM
    go_wp2_with fail
    go_roundw
    case rel=>exact ⟨k + 1,rest,_,_,by go_num,rfl,rfl,by simp only [bL.len] at hlen; omega,HE.out,vB,hrest.same HB3.out,hB.trans (HB3.out.mono hB.size)⟩
    case measure=>simp [intOf]; omega
theorem Lp (op n:Int) (nm:ByteArray) (kids:bL):BF op n nm kids:=bL.Br JI op n nm kids
def Bz (p:Pr) (i:Int) (op n:Int) (nm:ByteArray) (kids:bL):Prop:=
 ∀(w:World) (aK aM ao:Option Addr) (aG aH cap:Nat),dR i→p.At w aK aM→uK op n nm kids→kids.At w w.heap.size ao 0→
  Calls Tryz.prog 219 #[.agg #[.slice aK p.ds.length aG,.slice aM p.ts.length aH],.int .i64 i,.agg #[.int .i64 op,.int .i64 n,.string nm,.slice ao kids.len cap]] w fun e w'=>e= .returned (.int .i64 (xP p i op nm kids))∧Below w.heap.size w w'
theorem eu (w:World) (a b:Int) (t:TypeId):dP (w.alloc (.cells #[.int .i64 a,.int .i64 b] t)) (w.alloc (.cells #[.int .i64 a,.int .i64 b] t)).heap.size [a,b] (some ⟨w.heap.size,0,none⟩) 0:=
 ⟨⟨_,_,rfl,by simp,bZ w [.int .i64 a,.int .i64 b] t 0⟩,⟨_,_,rfl,by simp,bZ w [.int .i64 a,.int .i64 b] t 1⟩,trivial⟩
theorem eD (w:World) (a:Int) (t:TypeId):dP (w.alloc (.cells #[.int .i64 a] t)) (w.alloc (.cells #[.int .i64 a] t)).heap.size [a] (some ⟨w.heap.size,0,none⟩) 0:=
 ⟨⟨_,_,rfl,by simp,bZ w [.int .i64 a] t 0⟩,trivial⟩
set_option maxHeartbeats 2000000 in
theorem LD (p:Pr) (i:Int) (op n:Int) (nm:ByteArray) (kids:bL) (ih:kids.All (Bz p i)):Bz p i op n nm kids:=by
 intro w aK aM ao aG aH cap hi hp hok hat
 obtain ⟨-,-,-,hl⟩:=hok
 unfold maxLen at hl
 have kE:=Lib.hid ih
 have HAT:=Lib.hid hat
 have HP:=Lib.hid hp
 clear ih hat hp
 go_enter Tryz.func219,Tryz.ntmps219
 go_upto_region 1 with fail
 generalize hW:World.alloc (World.alloc w _) _=W
 generalize Value.agg #[_,_]=a0
 generalize Value.agg #[_,_,_,_]=a1
 have HX:=Lib.hid (((Sit.start w).EA rfl (.slice aK p.ds.length aG) (.slice aM p.ts.length aH) 25).CK (n:=w.heap.size + 1) (by simp) (.int .i64 op) (.int .i64 n) (.string nm) (.slice ao kids.len cap) 129)
 rw [hW] at HX
 clear hW
 obtain ⟨-,⟨-,c0⟩,⟨-,c1⟩,⟨-,c2⟩,⟨-,c3⟩,⟨-,c4⟩,⟨-,c5⟩,-⟩:=HX.out
 go_upto_block 0 with (fail)
 go_cut [7,10] (fun s7 _ W2=>s7= .int .i64 (rR p i op nm)∧Sit w W2 [(w.heap.size + 1,0,.int .i64 op),(w.heap.size + 1,1,.int .i64 n),(w.heap.size + 1,2,.string nm),(w.heap.size + 1,3,.slice ao kids.len cap),(w.heap.size,0,.slice aK p.ds.length aG),(w.heap.size,1,.slice aM p.ts.length aH)])
 case first=>
  cases h2:(op == 2)
  ·cases h3:(op == 3)
   ·have HE:Hid (rR p i op nm=0):=Lib.hid (by unfold rR; rw [h2,h3]; rfl)
    go_wp2_with fail
    go_meet
    exact ⟨by rw [HE.out],HX.out⟩
   ·have HE:Hid (rR p i op nm=bD (mean p i nm) [3]):=Lib.hid (by unfold rR; rw [h2,h3]; rfl)
    go_wp2_with fail
    refine (vF p i nm [3] _ aK aM _ aG aH _ hi (by decide) ((HP.out.same HX.out.1).same (aj _ _)) (eD W 3 _)).mono ?_
    rintro e w2 ⟨rfl,hb2⟩
    go_wp2_with fail
    go_meet
    exact ⟨by rw [HE.out],(HX.out.next (aj _ _)).next hb2⟩
  ·have HE:Hid (rR p i op nm=bD (mean p i nm) [1,2]):=Lib.hid (by unfold rR; rw [h2]; rfl)
   go_wp2_with fail
   refine (vF p i nm [1,2] _ aK aM _ aG aH _ hi (by decide) ((HP.out.same HX.out.1).same (aj _ _)) (eu W 1 2 _)).mono ?_
   rintro e w2 ⟨rfl,hb2⟩
   go_wp2_with fail
   go_meet
   exact ⟨by rw [HE.out],(HX.out.next (aj _ _)).next hb2⟩
 case rest=>
  obtain ⟨rfl,hX⟩:=hcut
  have HY:=Lib.hid hX
  clear hX HX c0 c1 c2 c3 c4 c5
  have HR:Hid (xP p i op nm kids=if rR p i op nm == 0 then tH p i kids else rR p i op nm):=Lib.hid rfl
  generalize rR p i op nm=r0 at *
  go_wp2_with fail
  go_loopw [7,8] (fun s7 s8 wr=> ∃(k:Nat) (R:bL) (r:Int),s8= .int .i64 k∧s7= .int .i64 r∧k + R.len=kids.len∧xP p i op nm kids=(if r == 0 then tH p i R else r)∧R.All (Bz p i)∧R.At wr wr.heap.size ao k∧Sit w wr [(w.heap.size + 1,0,.int .i64 op),(w.heap.size + 1,1,.int .i64 n),(w.heap.size + 1,2,.string nm),(w.heap.size + 1,3,.slice ao kids.len cap),(w.heap.size,0,.slice aK p.ds.length aG),(w.heap.size,1,.slice aM p.ts.length aH)]) (fun _ s _=>kids.len - (intOf s).toNat)
  case atStart=>exact ⟨0,kids,r0,rfl,rfl,by simp,HR.out,kE.out,HAT.out.same HY.out.1,HY.out⟩
  case round=>
   obtain ⟨k,R,r,rfl,rfl,hlen,heq,hall,hrow,hsit⟩:=hrel
   have HE:=Lib.hid heq
   have HZ:=Lib.hid hsit
   clear heq hsit
   obtain ⟨-,⟨-,c0⟩,⟨-,c1⟩,⟨-,c2⟩,⟨-,c3⟩,⟨-,c4⟩,⟨-,c5⟩,-⟩:=HZ.out
   cases R with
   | nil=>
     obtain rfl:k=kids.len:=by simpa [bL.len] using hlen
     go_wp2_with fail
     go_ret
     exact ⟨bG (HE.out.trans (by cases h:(r == 0) <;> simp_all [tH])).symm,HZ.out.1⟩
   | cons op' n' nm' iO rest=>
     obtain ⟨⟨b,off,mH,cap',rfl,mF,x0,x1,x2,x3,hok',oM⟩,hrest⟩:=hrow
     obtain ⟨dh,vB⟩:=hall
     have hlt:k < kids.len:=by simp only [bL.len] at hlen; omega
     cases hr:(r == 0)
     ·have eF:=Lib.hid (HE.out.trans (by rw [hr]; rfl:_=r))
      go_wp2_with fail
      go_ret
      exact ⟨bG eF.out.symm,HZ.out.1⟩
     ·have eF:=Lib.hid (HE.out.trans (by rw [hr]; rfl:_=tH p i (.cons op' n' nm' iO rest)))
      go_wp2_with fail
      obtain ⟨T,F,PD,hst,hF,hnext⟩:=calm wr
      have HF:=Lib.hid hF
      have jo:=Lib.hid hnext
      clear hnext hF
      have d0:=fun x=>(HZ.out.next (HF.out x)).2.1.2
      have d1:=fun x=>(HZ.out.next (HF.out x)).2.2.1.2
      have d2:=fun x=>(HZ.out.next (HF.out x)).2.2.2.1.2
      have d3:=fun x=>(HZ.out.next (HF.out x)).2.2.2.2.1.2
      have d4:=fun x=>(HZ.out.next (HF.out x)).2.2.2.2.2.1.2
      have d5:=fun x=>(HZ.out.next (HF.out x)).2.2.2.2.2.2.1.2
      have y0:=fun x=>((HF.out x).cell (p:=⟨b,off + k * 4,none⟩) mF).trans x0
      have y1:=fun x=>((HF.out x).cell (p:=⟨b,off + k * 4 + 1,none⟩) mF).trans x1
      have y2:=fun x=>((HF.out x).cell (p:=⟨b,off + k * 4 + 2,none⟩) mF).trans x2
      have y3:=fun x=>((HF.out x).cell (p:=⟨b,off + k * 4 + 3,none⟩) mF).trans x3
      clear c0 c1 c2 c3 c4 c5 x0 x1 x2 x3
      have hk0:(0:Int)≤k:=by omega
      have hk1:(k:Int) < kids.len:=by omega
      refine tO F (by kernel_rfl) (by kernel_rfl) hst ?_
      repeat (any_goals (first | go_big_quiet_step ((go_at_call 219; refine (dh _ aK aM mH aG aH cap' hi ((HP.out.same HZ.out.1).same (HF.out _)) hok' (oM.same (HF.out _))).mono ?_; rintro e w' ⟨rfl,hb⟩; exact ⟨rfl,jo.out _ _ hb⟩)) | (refine wpQuiet_step (fun K hK=> ?_); go_simp; first | (refine hK _ ?_; clear hK K) | (split <;> first | (refine hK _ ?_; clear hK K) | (apply Exists.intro; refine ⟨fun _=> ?_,hK _ ?_⟩; ((go_at_call 219; refine (dh _ aK aM mH aG aH cap' hi ((HP.out.same HZ.out.1).same (HF.out _)) hok' (oM.same (HF.out _))).mono ?_; rintro e w' ⟨rfl,hb⟩; exact ⟨rfl,jo.out _ _ hb⟩)); clear hK K)))))
      all_goals (refine wpQuiet_nil ?_; rintro _ ⟨x,rfl⟩)
      have HB2:=Lib.hid (HF.out x)
      clear d0 d1 d2 d3 d4 d5 y0 y1 y2 y3 HF jo hst
      generalize F x=W2 at *
      go_wp2_with fail
      go_roundw
      case rel=>exact ⟨k + 1,rest,_,by go_num,rfl,by simp only [bL.len] at hlen; omega,eF.out.trans (MX p i op' n' nm' iO rest),vB,hrest.same HB2.out,HZ.out.next HB2.out⟩
      case measure=>simp [intOf]; omega
theorem Og (p:Pr) (i:Int) (op n:Int) (nm:ByteArray) (kids:bL):Bz p i op n nm kids:=bL.Br (LD p i) op n nm kids
set_option maxHeartbeats 2000000 in
theorem zR (p:Pr) (i:Int) (op n:Int) (nm:ByteArray) (kids:bL) (w:World) (aK aM ao:Option Addr) (aG aH cap:Nat) (hi:dR i) (hp:p.At w aK aM) (hok:uK op n nm kids) (hat:kids.At w w.heap.size ao 0) (dI:dw w):
 Calls Tryz.prog 207 #[.agg #[.slice aK p.ds.length aG,.slice aM p.ts.length aH],.int .i64 i,.agg #[.int .i64 op,.int .i64 n,.string nm,.slice ao kids.len cap]] w fun e w'=>e= .returned (.int .i64 (kU p i op n nm kids))∧Below w.heap.size w w':=by
 have HAT:=Lib.hid hat
 have HP:=Lib.hid hp
 clear hat hp
 go_enter Tryz.func207,Tryz.ntmps207
 go_upto_region 1 with fail
 generalize hW:World.alloc (World.alloc w _) _=W
 generalize Value.agg #[_,_]=a0
 generalize Value.agg #[_,_,_,_]=a1
 have HX:=Lib.hid (((Sit.start w).EA rfl (.slice aK p.ds.length aG) (.slice aM p.ts.length aH) 25).CK (n:=w.heap.size + 1) (by simp) (.int .i64 op) (.int .i64 n) (.string nm) (.slice ao kids.len cap) 129)
 rw [hW] at HX
 clear hW
 obtain ⟨-,⟨-,c0⟩,⟨-,c1⟩,⟨-,c2⟩,⟨-,c3⟩,⟨-,c4⟩,⟨-,c5⟩,-⟩:=HX.out
 go_wp2_with fail
 refine (tK op n nm kids _ ao cap hok (HAT.out.same HX.out.1) (dI.same HX.out.1)).mono ?_
 rintro e w1 ⟨rfl,hb1⟩
 have HY:=Lib.hid (HX.out.next hb1)
 clear HX hb1 c0 c1 c2 c3 c4 c5
 obtain ⟨-,⟨-,c0⟩,⟨-,c1⟩,⟨-,c2⟩,⟨-,c3⟩,⟨-,c4⟩,⟨-,c5⟩,-⟩:=HY.out
 cases hS:jl op n nm kids
 ·have HE:Hid (kU p i op n nm kids=3):=Lib.hid (by unfold kU; rw [hS]; rfl)
  go_wp2_with fail
  go_ret
  exact ⟨bG HE.out.symm,HY.out.1⟩
 ·have HE:Hid (kU p i op n nm kids=if decide (24 < (ext kids).1) || decide (6 < (ext kids).2) then 2 else xP p i op nm kids):=Lib.hid (by unfold kU; rw [hS]; rfl)
  go_wp2_with fail
  refine (Lp op n nm kids _ ao cap hok (HAT.out.same HY.out.1)).mono ?_
  rintro e w2 ⟨rfl,hb2⟩
  have HZ:=Lib.hid (HY.out.next hb2)
  clear HY hb2 c0 c1 c2 c3 c4 c5
  obtain ⟨-,⟨-,c0⟩,⟨-,c1⟩,⟨-,c2⟩,⟨-,c3⟩,⟨-,c4⟩,⟨-,c5⟩,-⟩:=HZ.out
  generalize (ext kids).1=a at *
  generalize (ext kids).2=d at *
  cases h1:decide (24 < a)
  ·cases h2:decide (6 < d)
   ·have eF:=Lib.hid (HE.out.trans (by rw [h1,h2]; rfl:_=xP p i op nm kids))
    have q1:a≤24:=by simpa using h1
    have q2:d≤6:=by simpa using h2
    go_wp2_with fail
    refine (Og p i op n nm kids _ aK aM ao aG aH cap hi (HP.out.same HZ.out.1) hok (HAT.out.same HZ.out.1)).mono ?_
    rintro e w3 ⟨rfl,hb3⟩
    go_wp2_with fail
    go_ret
    exact ⟨bG eF.out.symm,(HZ.out.next hb3).1⟩
   ·have eF:=Lib.hid (HE.out.trans (if_pos (by rw [h1,h2]; rfl)))
    have q1:a≤24:=by simpa using h1
    have q2:6 < d:=by simpa using h2
    go_wp2_with fail
    go_ret
    exact ⟨bG eF.out.symm,HZ.out.1⟩
  ·have eF:=Lib.hid (HE.out.trans (if_pos (by rw [h1]; rfl)))
   have q1:24 < a:=by simpa using h1
   go_wp2_with fail
   go_ret
   exact ⟨bG eF.out.symm,HZ.out.1⟩
end Go.Proofs.YtdajkddgnfgijaaGreatDoor
end
section
namespace Go.Proofs.YtdajkddgnfgijaaGreatDoor
open Go.RowKit
open Md
theorem qX:Maps.Keyed Tryz.prog 9:=Maps.string_keyed Tryz.underlying9
theorem keyOf_str (s:ByteArray) (hs:s.size≤maxLen):keyOf Tryz.prog 9 (.string s)=some (.string s.toList):=by
 unfold keyOf mapKey; simp [Tryz.underlying9,hs,Lib.toList_data]
def jd (w:World) (b n:Nat) (f:List UInt8→Int):Prop:=
 ∃D:DataW Unit,w.ownsMap Tryz.prog 9 (plainElem Tryz.prog 3) b n D∧ ∀l,D.atKey (.string l) (.lit (.int .i64 0))= .lit (.int .i64 (f l))
def gQ (w:World) (b n:Nat) (f:List UInt8→Bool):Prop:=
 ∃D:DataW Unit,w.ownsMap Tryz.prog 9 (plainElem Tryz.prog 4) b n D∧ ∀l,D.atKey (.string l) (.lit (.bool false))= .lit (.bool (f l))
theorem jd.made (w:World):jd (w.alloc (.map #[] 0)) w.heap.size 0 (fun _=>0):=⟨_,World.ownsMap_made w _ _ _,fun _=>rfl⟩
theorem gQ.made (w:World):gQ (w.alloc (.map #[] 0)) w.heap.size 0 (fun _=>false):=⟨_,World.ownsMap_made w _ _ _,fun _=>rfl⟩
theorem jd.lt {w:World} {b n:Nat} {f:List UInt8→Int} (h:jd w b n f):b < w.heap.size:=by obtain ⟨D,h,_⟩:=h; exact h.lt
theorem gQ.lt {w:World} {b n:Nat} {f:List UInt8→Bool} (h:gQ w b n f):b < w.heap.size:=by obtain ⟨D,h,_⟩:=h; exact h.lt
theorem jd.same {w w':World} {b n:Nat} {f:List UInt8→Int} (h:jd w b n f) (hb:w'.heap[b]? =w.heap[b]?):jd w' b n f:=by
 obtain ⟨D,⟨es,clock,h1,h2⟩,h3⟩:=h; exact ⟨D,⟨es,clock,hb.trans h1,h2⟩,h3⟩
theorem gQ.same {w w':World} {b n:Nat} {f:List UInt8→Bool} (h:gQ w b n f) (hb:w'.heap[b]? =w.heap[b]?):gQ w' b n f:=by
 obtain ⟨D,⟨es,clock,h1,h2⟩,h3⟩:=h; exact ⟨D,⟨es,clock,hb.trans h1,h2⟩,h3⟩
theorem jd.next {w w':World} {b n:Nat} {f:List UInt8→Int} (h:jd w b n f) (hb:Below w.heap.size w w'):jd w' b n f:=h.same (hb.block b h.lt)
theorem gQ.next {w w':World} {b n:Nat} {f:List UInt8→Bool} (h:gQ w b n f) (hb:Below w.heap.size w w'):gQ w' b n f:=h.same (hb.block b h.lt)
theorem Qe (w:World):(zeroValue 3).run Tryz.prog w= .ok (.int .i64 0) w:=by kernel_rfl
theorem Ol (w:World):(zeroValue 4).run Tryz.prog w= .ok (.bool false) w:=by kernel_rfl
theorem ab4 {v:Int} (hv:dR v):(Lit.int .i64 v).wf=true:=by
 unfold Lit.wf; rw [Bool.and_eq_true,decide_eq_true_iff,decide_eq_true_iff]; exact hv
theorem jd.look {w:World} {b n:Nat} {f:List UInt8→Int} (h:jd w b n f) (s:ByteArray) (hs:s.size≤maxLen):
 (Instr.lookup 100 (.map (some b)) (.string s) false).run Tryz.prog w= .ok (.int .i64 (f s.toList)) w:=by
 obtain ⟨D,ho,hf⟩:=h
 obtain ⟨c,hrun,hat,-⟩:=ho.lookup_int (t:=100) qX Tryz.underlying100 Tryz.underlying3 (Qe w) (keyOf_str s hs)
 rw [hf] at hat
 obtain rfl:f s.toList=c:=(Lit.int.inj (DataW.lit.inj hat)).2
 exact hrun
theorem PU {H:Type} {v:Value} {x:Bool} {ps:List MemPlace} (hv:plainElem (H:=H) Tryz.prog 4 v=some (.lit (.bool x),ps)):v= .bool x:=by
 unfold plainElem at hv
 generalize hu:Program.underlying Tryz.prog 4=u at hv
 rw [Tryz.underlying4] at hu
 subst hu
 cases v with
 | bool y=>exact congrArg Value.bool (Lit.bool.inj (DataW.lit.inj (Prod.mk.inj (Option.some.inj hv)).1))
 | _=>exact absurd hv (by intro h; cases h)
theorem gQ.look {w:World} {b n:Nat} {f:List UInt8→Bool} (h:gQ w b n f) (s:ByteArray) (hs:s.size≤maxLen):
 (Instr.lookup 155 (.map (some b)) (.string s) false).run Tryz.prog w= .ok (.bool (f s.toList)) w:=by
 obtain ⟨D,ho,hf⟩:=h
 obtain ⟨v,ps,hrun,hv⟩:=ho.lookup (t:=155) qX Tryz.underlying155 (Ol w) (plainElem_bool Tryz.underlying4 false) (keyOf_str s hs)
 rw [hf] at hv
 have hv':v= .bool (f s.toList):=by
  exact PU hv
 rw [hrun,hv']
theorem jd.put {w:World} {b n:Nat} {f:List UInt8→Int} (h:jd w b n f) (hn:n < maxLen) (s:ByteArray) (hs:s.size≤maxLen) (v:Int) (hv:dR v):
 ∃w',(Instr.mapUpdate 100 (.map (some b)) (.string s) (.int .i64 v)).run Tryz.prog w= .ok () w'∧jd w' b (n + 1) (fun l=>if l=s.toList then v else f l)∧w.grownBy w' (some b):=by
 obtain ⟨D,ho,hf⟩:=h
 obtain ⟨w',hrun,ho',hg⟩:=ho.update (t:=100) qX Tryz.underlying100 hn (keyOf_str s hs) (plainElem_int Tryz.underlying3 (a:=v) (ab4 hv))
 refine ⟨w',hrun,⟨_,ho',fun l=> ?_⟩,hg⟩
 show _=DataW.lit (.int .i64 (if l=s.toList then v else f l))
 by_cases hl:l=s.toList
 ·subst hl; rw [if_pos rfl,Maps.atKey_put_same ho.isMap (qX.key (keyOf_str s hs))]
 ·rw [if_neg hl,Maps.atKey_put_other (by intro h; injection h with h; exact hl h),hf]
theorem gQ.put {w:World} {b n:Nat} {f:List UInt8→Bool} (h:gQ w b n f) (hn:n < maxLen) (s:ByteArray) (hs:s.size≤maxLen) (v:Bool):
 ∃w',(Instr.mapUpdate 155 (.map (some b)) (.string s) (.bool v)).run Tryz.prog w= .ok () w'∧gQ w' b (n + 1) (fun l=>if l=s.toList then v else f l)∧w.grownBy w' (some b):=by
 obtain ⟨D,ho,hf⟩:=h
 obtain ⟨w',hrun,ho',hg⟩:=ho.update (t:=155) qX Tryz.underlying155 hn (keyOf_str s hs) (plainElem_bool Tryz.underlying4 v)
 refine ⟨w',hrun,⟨_,ho',fun l=> ?_⟩,hg⟩
 show _=DataW.lit (.bool (if l=s.toList then v else f l))
 by_cases hl:l=s.toList
 ·subst hl; rw [if_pos rfl,Maps.atKey_put_same ho.isMap (qX.key (keyOf_str s hs))]
 ·rw [if_neg hl,Maps.atKey_put_other (by intro h; injection h with h; exact hl h),hf]
end Go.Proofs.YtdajkddgnfgijaaGreatDoor
end
section
namespace Go.Proofs.YtdajkddgnfgijaaGreatDoor
open Go.RowKit
namespace Md
def mD (pre:List De) (l:List UInt8):Int:=((pre.find? fun d=>d.nm.toList == l).map fG).getD 0
def dc (d:De) (c:Int):Int:=if d.kind == 1 || d.kind == 2 then c + max d.size 1 else c
def dl (d:De) (l:Int):Int:=if d.kind == 3 || d.kind == 4 then l + 1 else l
def dn (d:De) (n:Int):Int:=if d.kind == 5 then n + 1 else n
def df (d:De) (f:Int):Int:=if d.kind == 6 then f + 1 else f
def lim (c l n f:Int):Bool:=((decide (12 < c) || decide (4 < l)) || decide (2 < n)) || decide (2 < f)
def mq:List De→List De→Int→Int→Int→Int→Int × Int
 | [],_,_,_,_,_=>(0,0)
 | d ::r,pre,c,l,n,f=>
   if mD pre d.nm.toList != 0 then (4,d.line)
   else if decide (4 < d.size) then (2,d.line)
   else if lim (dc d c) (dl d l) (dn d n) (df d f) then (2,d.line)
   else if d.kind == 5 && mD pre d.on.toList == 0 then (5,d.line)
   else if d.kind == 5 && mD pre d.on.toList != 4 then (6,d.line)
   else mq r (pre++[d]) (dc d c) (dl d l) (dn d n) (df d f)
theorem KH {pre:List De} {l:List UInt8} (h:(mD pre l != 0)=false):pre.find? (fun d=>d.nm.toList == l)=none:=by
 unfold mD at h
 cases hf:pre.find? (fun d=>d.nm.toList == l) with
 | none=>rfl
 | some d=>rw [hf] at h; have:=xZ d; simp at h; omega
theorem Kh {pre:List De} {d:De} (h:(mD pre d.nm.toList != 0)=false) (l:List UInt8):(if l=d.nm.toList then fG d else mD pre l)=mD (pre++[d]) l:=by
 unfold mD
 rw [List.find?_append]
 by_cases hl:l=d.nm.toList
 ·subst hl; rw [if_pos rfl,KH h]; simp
 ·rw [if_neg hl]
  have:(d.nm.toList == l)=false:=by rw [beq_eq_false_iff_ne]; exact fun e=>hl e.symm
  simp [this]
theorem KY (d:De):(fG d == 6)=(d.kind == 5):=by unfold fG; grind
theorem vG {d:De} (h:kF d=true):1≤d.kind∧d.kind≤6∧0≤d.size∧(d.size=0∨d.kind=1):=by
 unfold kF at h; simp at h; omega
theorem Gd (d:De) (r pre:List De) (c l n f:Int):mq (d ::r) pre c l n f=(if mD pre d.nm.toList != 0 then (4,d.line)
 else if decide (4 < d.size) then (2,d.line)
 else if lim (dc d c) (dl d l) (dn d n) (df d f) then (2,d.line)
 else if d.kind == 5 && mD pre d.on.toList == 0 then (5,d.line)
 else if d.kind == 5 && mD pre d.on.toList != 4 then (6,d.line)
 else mq r (pre++[d]) (dc d c) (dl d l) (dn d n) (df d f)):=rfl
end Md
open Md
theorem jd.congr {w:World} {b n:Nat} {f g:List UInt8→Int} (h:jd w b n f) (hfg: ∀l,f l=g l):jd w b n g:=by
 obtain ⟨D,h1,h2⟩:=h; exact ⟨D,h1,fun l=>by rw [h2,hfg]⟩
theorem gQ.congr {w:World} {b n:Nat} {f g:List UInt8→Bool} (h:gQ w b n f) (hfg: ∀l,f l=g l):gQ w b n g:=by
 obtain ⟨D,h1,h2⟩:=h; exact ⟨D,h1,fun l=>by rw [h2,hfg]⟩
def X8 (ds:List De) (w:World) (res:Int × Int) (g:Nat) (s5 s6 s7 s8 s15:Value) (wr:World):Prop:=
 ∃(k:Nat) (pre R:List De) (c l n f:Int),g=R.length∧s15= .int .i64 k∧pre++R=ds∧pre.length=k∧s5= .int .i64 c∧s6= .int .i64 l∧s7= .int .i64 n∧s8= .int .i64 f∧
  (0≤c∧c≤12∧0≤l∧l≤4∧0≤n∧n≤2∧0≤f∧f≤2)∧res=mq R pre c l n f∧jd wr w.heap.size k (mD pre)∧Below w.heap.size w wr
set_option maxHeartbeats 4000000 in
set_option maxRecDepth 100000 in
theorem CQ (ds:List De) (w:World) (ao:Option Addr) (cap:Nat) (hl:ds.length≤maxLen) (hat:ig w w.heap.size ds ao 0) (hsh: ∀d ∈ ds,kF d=true):
 Calls Tryz.prog 67 #[.slice ao ds.length cap] w fun e w'=>e= .returned (.tuple #[.int .i64 (mq ds [] 0 0 0 0).1,.int .i64 (mq ds [] 0 0 0 0).2])∧Below w.heap.size w w':=by
 generalize hres:mq ds [] 0 0 0 0=res
 have HR:=Lib.hid hres
 have HAT:=Lib.hid hat
 have Gw:=Lib.hid hsh
 have hl':=hl
 unfold maxLen at hl
 clear hres hat hsh
 have hmm:= @run_makeMap Tryz.prog
 go_enter Tryz.func67,Tryz.ntmps67
 go_wp2_with fail
 go_loopg [5,6,7,8,10,11,15] ds.length (fun g s5 s6 s7 s8 _ _ s15 wr=>X8 ds w res g s5 s6 s7 s8 s15 wr)
 case atStart=>exact ⟨0,[],ds,0,0,0,0,rfl,rfl,rfl,rfl,rfl,rfl,rfl,rfl,by decide,HR.out.symm,(jd.made w).congr (fun _=>rfl),aj _ _⟩
 case round=>
  obtain ⟨k,pre,R,c,l,n,f,rfl,rfl,hds,hk,rfl,rfl,rfl,rfl,⟨q1,q2,l1,l2,n1,n2,f1,f2⟩,hr,hmap,hB⟩:=hrel
  have HE:=Lib.hid hr
  have HM:=Lib.hid hmap
  have HB:=Lib.hid hB
  clear hr hmap hB HR
  have hlen:k + R.length=ds.length:=by rw [← hds,List.length_append,hk]
  have hrow:=(HAT.out.below HB.out).drop k
  rw [Nat.zero_add,← hds,← hk,List.drop_left] at hrow
  rw [hk] at hrow
  cases R with
  | nil=>
    obtain rfl:k=ds.length:=by simpa using hlen
    have HF:=Lib.hid (HE.out.trans (rfl:_=((0:Int),(0:Int))))
    clear HE hds hk hrow
    go_wp2_with fail
    go_ret2
    exact ⟨lF (congrArg Prod.fst HF.out) (congrArg Prod.snd HF.out),HB.out⟩
  | cons d R=>
    have hsd:=vG (Gw.out d (by rw [← hds]; simp))
    have zQ:=Lib.hid hds
    have HK:=Lib.hid hk
    clear hds hk
    obtain ⟨⟨b,off,rfl,mF,x0,x1,x2,x3,x4,x5,hok⟩,-⟩:=hrow
    simp only [List.length_cons] at hlen
    have hkl:k < ds.length:=by omega
    obtain ⟨g1,g2,g3,g4⟩:=hsd
    rw [Gd] at HE
    go_upto_region 6 with fail
    obtain ⟨nb,hnb⟩: ∃n,wr.heap.size=n:=⟨_,rfl⟩
    generalize hW2:World.alloc wr _=W2
    have HB2:Hid (Below w.heap.size w W2):=Lib.hid (by rw [← hW2]; exact HB.out.alloc HB.out.size _)
    have HY:Hid (Sit wr W2 [(nb,0,.int .i64 d.kind),(nb,1,.int .i64 d.line),(nb,2,.string d.nm),(nb,3,.int .i64 d.size),(nb,4,.int .i64 d.init),(nb,5,.string d.on)]):=Lib.hid (by rw [← hW2]; exact (Sit.start wr).QN hnb _ _ _ _ _ _ _)
    have Iq:=Lib.hid (HM.out.next HY.out.1)
    rw [hnb]
    clear hW2 hnb x0 x1 x2 x3 x4 x5 HM HB
    obtain ⟨-,⟨-,c0⟩,⟨-,c1⟩,⟨-,c2⟩,⟨-,c3⟩,⟨-,c4⟩,⟨-,c5⟩,-⟩:=HY.out
    have hk1:=Iq.out.look d.nm hok.2.2.1
    cases h0:(mD pre d.nm.toList != 0)
    case true=>
     as_aux_lemma=>
      have HF:=Lib.hid (HE.out.trans (if_pos h0))
      go_wp2_with fail
      go_quiet (fail)
      go_wp2_with fail
      go_ret2
      exact ⟨lF (congrArg Prod.fst HF.out) (congrArg Prod.snd HF.out),below_drewN HB2.out _⟩
    have HE2:=Lib.hid (HE.out.trans (if_neg (by rw [h0]; decide)))
    clear HE
    go_upto_region 8 with fail
    cases h1:decide (4 < d.size)
    case true=>
     as_aux_lemma=>
      have HF:=Lib.hid (HE2.out.trans (if_pos h1))
      have h1':4 < d.size:=by simpa using h1
      go_wp2_with fail
      go_quiet (fail)
      go_wp2_with fail
      go_ret2
      exact ⟨lF (congrArg Prod.fst HF.out) (congrArg Prod.snd HF.out),below_drewN HB2.out _⟩
    have jQ:=Lib.hid (HE2.out.trans (if_neg (by rw [h1]; decide)))
    have h1':d.size≤4:=by simpa using h1
    clear HE2 h1
    go_upto_region 10 with fail
    go_wp2_with fail
    refine (yP d _).mono ?_
    rintro e w3 ⟨rfl,hb3⟩
    have HZ:=Lib.hid (HY.out.next hb3)
    have HB3:=Lib.hid (HB2.out.trans (hb3.mono HB2.out.size))
    have Cu:=Lib.hid (Iq.out.next hb3)
    clear hb3 HY HB2 Iq c0 c1 c2 c3 c4 c5 hk1
    have YL:=Lib.hid (KY d)
    have HDM:Hid (∃m,fG d=m):=Lib.hid ⟨_,rfl⟩
    obtain ⟨-,⟨-,c0⟩,⟨-,c1⟩,⟨-,c2⟩,⟨-,c3⟩,⟨-,c4⟩,⟨-,c5⟩,-⟩:=HZ.out
    go_upto_block 2 with (fail)
    go_cut [5,6,7,8,11,33] (fun s5 s6 s7 s8 s11 _ W3=>w3=W3∧s11= .int .i64 (fG d)∧s5= .int .i64 (dc d c)∧s6= .int .i64 (dl d l)∧s7= .int .i64 (dn d n)∧s8= .int .i64 (df d f))
    case first=>
     as_aux_lemma=>
      have hkd:d.kind=1∨d.kind=2∨d.kind=3∨d.kind=4∨d.kind=5∨d.kind=6:=by omega
      rcases hkd with hkd | hkd | hkd | hkd | hkd | hkd
      ·by_cases hs0:d.size=0
       ·have hm:fG d=2:=by simp [fG,hkd,hs0]
        have HA:Hid (dc d c=c + 1∧dl d l=l∧dn d n=n∧df d f=f):=Lib.hid (by simp [dc,dl,dn,df,hkd,hs0] <;> first | rfl | omega)
        have yL:=Lib.hid hm
        rw [hm]
        clear hm hkd hs0
        go_wp2_with fail
        go_meet
        exact ⟨rfl,by rw [yL.out],by rw [HA.out.1],by rw [HA.out.2.1],by rw [HA.out.2.2.1],by rw [HA.out.2.2.2]⟩
       ·have hm:fG d=3:=by simp [fG,hkd,hs0]
        have HA:Hid (dc d c=c + d.size∧dl d l=l∧dn d n=n∧df d f=f):=Lib.hid (by simp [dc,dl,dn,df,hkd] <;> first | rfl | omega)
        have yL:=Lib.hid hm
        rw [hm]
        clear hm hkd hs0
        go_wp2_with fail
        go_meet
        exact ⟨rfl,by rw [yL.out],by rw [HA.out.1],by rw [HA.out.2.1],by rw [HA.out.2.2.1],by rw [HA.out.2.2.2]⟩
      ·have hs0:d.size=0:=by omega
       have hm:fG d=2:=by simp [fG,hkd]
       have HA:Hid (dc d c=c + 1∧dl d l=l∧dn d n=n∧df d f=f):=Lib.hid (by simp [dc,dl,dn,df,hkd,hs0] <;> first | rfl | omega)
       have yL:=Lib.hid hm
       rw [hm]
       clear hm hkd hs0
       go_wp2_with fail
       go_meet
       exact ⟨rfl,by rw [yL.out],by rw [HA.out.1],by rw [HA.out.2.1],by rw [HA.out.2.2.1],by rw [HA.out.2.2.2]⟩
      ·have hm:fG d=4:=by simp [fG,hkd]
       have HA:Hid (dc d c=c∧dl d l=l + 1∧dn d n=n∧df d f=f):=Lib.hid (by simp [dc,dl,dn,df,hkd])
       have yL:=Lib.hid hm
       rw [hm]
       clear hm hkd
       go_wp2_with fail
       go_meet
       exact ⟨rfl,by rw [yL.out],by rw [HA.out.1],by rw [HA.out.2.1],by rw [HA.out.2.2.1],by rw [HA.out.2.2.2]⟩
      ·have hm:fG d=5:=by simp [fG,hkd]
       have HA:Hid (dc d c=c∧dl d l=l + 1∧dn d n=n∧df d f=f):=Lib.hid (by simp [dc,dl,dn,df,hkd])
       have yL:=Lib.hid hm
       rw [hm]
       clear hm hkd
       go_wp2_with fail
       go_meet
       exact ⟨rfl,by rw [yL.out],by rw [HA.out.1],by rw [HA.out.2.1],by rw [HA.out.2.2.1],by rw [HA.out.2.2.2]⟩
      ·have hm:fG d=6:=by simp [fG,hkd]
       have HA:Hid (dc d c=c∧dl d l=l∧dn d n=n + 1∧df d f=f):=Lib.hid (by simp [dc,dl,dn,df,hkd])
       have yL:=Lib.hid hm
       rw [hm]
       clear hm hkd
       go_wp2_with fail
       go_meet
       exact ⟨rfl,by rw [yL.out],by rw [HA.out.1],by rw [HA.out.2.1],by rw [HA.out.2.2.1],by rw [HA.out.2.2.2]⟩
      ·have hm:fG d=7:=by simp [fG,hkd]
       have HA:Hid (dc d c=c∧dl d l=l∧dn d n=n∧df d f=f + 1):=Lib.hid (by simp [dc,dl,dn,df,hkd])
       have yL:=Lib.hid hm
       rw [hm]
       clear hm hkd
       go_wp2_with fail
       go_meet
       exact ⟨rfl,by rw [yL.out],by rw [HA.out.1],by rw [HA.out.2.1],by rw [HA.out.2.2.1],by rw [HA.out.2.2.2]⟩
    obtain ⟨rfl,rfl,rfl,rfl,rfl,rfl⟩:=hcut
    have hc':0≤dc d c∧dc d c≤16:=by unfold dc; split <;> omega
    have hl'':0≤dl d l∧dl d l≤5:=by unfold dl; split <;> omega
    have hn':0≤dn d n∧dn d n≤3:=by unfold dn; split <;> omega
    have hf':0≤df d f∧df d f≤3:=by unfold df; split <;> omega
    generalize hcc:dc d c=c' at *
    generalize hll:dl d l=l' at *
    generalize hnn:dn d n=n' at *
    generalize R7:df d f=f' at *
    clear hcc hll hnn R7
    go_upto_region 23 with fail
    go_cut [70] (fun s' W3=>w3=W3∧s'= .bool (lim c' l' n' f'))
    case first=>
     as_aux_lemma=>
      have HF:Hid (lim c' l' n' f'=(((decide (12 < c') || decide (4 < l')) || decide (2 < n')) || decide (2 < f'))):=Lib.hid rfl
      go_wp2_with fail
      all_goals go_meet
      all_goals exact ⟨rfl,by first | (rw [HF.out]; done) | (rw [HF.out]; congr 1; go_light; grind)⟩
    obtain ⟨rfl,rfl⟩:=hcut
    cases h2:lim c' l' n' f'
    case true=>
     as_aux_lemma=>
      have HF:=Lib.hid (jQ.out.trans (if_pos h2))
      go_wp2_with fail
      go_quiet (fail)
      go_wp2_with fail
      go_ret2
      exact ⟨lF (congrArg Prod.fst HF.out) (congrArg Prod.snd HF.out),below_drewN HB3.out _⟩
    have uT:=Lib.hid (jQ.out.trans (if_neg (by rw [h2]; decide)))
    have hlim:c'≤12∧l'≤4∧n'≤2∧f'≤2:=by unfold lim at h2; simp at h2; omega
    clear jQ h2
    have hkm:k < maxLen:=by omega
    cases h5:(d.kind == 5)
    ·have h6:(fG d == 6)=false:=YL.out.trans h5
     have HF:=Lib.hid (uT.out.trans ((if_neg (by rw [h5]; simp)).trans (if_neg (by rw [h5]; simp))))
     clear uT
     obtain ⟨w4,hup,qM,hg4⟩:=Cu.out.put (by omega) d.nm hok.2.2.1 (fG d) (by have:=xZ d; unfold dR; omega)
     have vQ:=Lib.hid ((qM.congr (Kh h0)))
     have eX:=Lib.hid (HB3.out.trans (dB hg4 (Nat.le_refl _) HB3.out.size))
     clear qM hg4
     go_wp2_with fail
     go_roundg R.length
     case measure=>simp
     case rel=>exact ⟨k + 1,pre++[d],R,c',l',n',f',rfl,by go_num,by rw [List.append_assoc]; exact zQ.out,by rw [List.length_append,HK.out]; rfl,rfl,rfl,rfl,rfl,by omega,HF.out,vQ.out,eX.out⟩
    ·have h6:(fG d == 6)=true:=YL.out.trans h5
     have hk2:=Cu.out.look d.on hok.2.2.2.2.2
     generalize hmo:mD pre d.on.toList=mo at *
     clear hmo
     cases h7:(mo == 0)
     case true=>
      as_aux_lemma=>
       have HF:=Lib.hid (uT.out.trans (if_pos (by rw [h5,h7]; rfl)))
       go_wp2_with fail
       go_quiet (fail)
       go_wp2_with fail
       go_ret2
       exact ⟨lF (congrArg Prod.fst HF.out) (congrArg Prod.snd HF.out),below_drewN HB3.out _⟩
     have AB:=Lib.hid (uT.out.trans (if_neg (by rw [h5,h7]; decide)))
     clear uT
     cases h8:(mo != 4)
     case true=>
      as_aux_lemma=>
       have HF:=Lib.hid (AB.out.trans (if_pos (by rw [h5,h8]; rfl)))
       go_wp2_with fail
       go_quiet (fail)
       go_wp2_with fail
       go_ret2
       exact ⟨lF (congrArg Prod.fst HF.out) (congrArg Prod.snd HF.out),below_drewN HB3.out _⟩
     have HF:=Lib.hid (AB.out.trans (if_neg (by rw [h5,h8]; decide)))
     clear AB
     obtain ⟨w4,hup,qM,hg4⟩:=Cu.out.put (by omega) d.nm hok.2.2.1 (fG d) (by have:=xZ d; unfold dR; omega)
     have vQ:=Lib.hid ((qM.congr (Kh h0)))
     have eX:=Lib.hid (HB3.out.trans (dB hg4 (Nat.le_refl _) HB3.out.size))
     clear qM hg4
     go_wp2_with fail
     go_roundg R.length
     case measure=>simp
     case rel=>exact ⟨k + 1,pre++[d],R,c',l',n',f',rfl,by go_num,by rw [List.append_assoc]; exact zQ.out,by rw [List.length_append,HK.out]; rfl,rfl,rfl,rfl,rfl,by omega,HF.out,vQ.out,eX.out⟩
end Go.Proofs.YtdajkddgnfgijaaGreatDoor
end
section
namespace Go.Proofs.YtdajkddgnfgijaaGreatDoor
open Go.RowKit
namespace Md
def qD (ds:List De) (l:List UInt8):Bool:=ds.any fun d=>d.nm.toList == l
def tX (ts:List Th) (l:List UInt8):Bool:=ts.any fun t=>t.nm.toList == l
def AU (tx:List ByteArray) (l:List UInt8):Bool:=tx.any fun s=>s.toList == l
def IE (ds:List De):List Th→List Th→Option Int
 | [],_=>none
 | t ::r,pre=>if qD ds t.nm.toList || tX pre t.nm.toList then some t.line else IE ds r (pre++[t])
def xR (ds:List De) (ts:List Th):List ByteArray→List ByteArray→Bool
 | [],_=>false
 | s ::r,pre=>((qD ds s.toList || tX ts s.toList) || AU pre s.toList) || xR ds ts r (pre++[s])
def AA (ds:List De) (ts:List Th):List Th→Int × Int
 | []=>(0,0)
 | t ::r=>if decide ((4:Int) < t.cZ.length) then (2,t.line) else if xR ds ts t.cZ [] then (4,t.line) else AA ds ts r
def oH (p:Pr):Int × Int:=match IE p.ds p.ts [] with
 | some l=>(4,l)
 | none=>AA p.ds p.ts p.ts
theorem Lg (pre:List De) (d:De) (l:List UInt8):(if l=d.nm.toList then true else qD pre l)=qD (pre++[d]) l:=by
 unfold qD; rw [List.any_append]; by_cases h:l=d.nm.toList
 ·subst h; simp
 ·rw [if_neg h]; have:(d.nm.toList == l)=false:=by rw [beq_eq_false_iff_ne]; exact fun e=>h e.symm
  simp [this]
theorem Lb (ds:List De) (pre:List Th) (t:Th) (l:List UInt8):(if l=t.nm.toList then true else (qD ds l || tX pre l))=(qD ds l || tX (pre++[t]) l):=by
 unfold tX; rw [List.any_append]; by_cases h:l=t.nm.toList
 ·subst h; simp
 ·rw [if_neg h]; have:(t.nm.toList == l)=false:=by rw [beq_eq_false_iff_ne]; exact fun e=>h e.symm
  simp [this]
end Md
open Md
theorem Holds.grown {W W':World} {bm:Nat} (hg:W.grownBy W' (some bm)): ∀ {l:List (Nat × Nat × Value)},(∀f ∈ l,f.1≠bm)→Holds W l→Holds W' l
 | [],_,_=>trivial
 | f ::_,hne,⟨⟨h1,h2⟩,h3⟩=>⟨⟨Nat.lt_of_lt_of_le h1 hg.size,(World.cell?_of_block (a:=⟨f.1,f.2.1,none⟩) (hg.block f.1 h1 (by have:=hne f (by simp); simp; exact this))).trans h2⟩,Holds.grown hg (fun x hx=>hne x (by simp [hx])) h3⟩
theorem Sit.grown {w W W':World} {fs:List (Nat × Nat × Value)} {bm:Nat} (h:Sit w W fs) (hg:W.grownBy W' (some bm)) (hb:w.heap.size≤bm) (hne: ∀f ∈ fs,f.1≠bm):Sit w W' fs:=
 ⟨h.1.trans (dB hg hb h.1.size),h.2.grown hg hne⟩
set_option maxHeartbeats 4000000 in
set_option maxRecDepth 100000 in
theorem Js (p:Pr) (w:World) (aK aM:Option Addr) (aG aH:Nat) (hp:p.At w aK aM) (hsum:p.ds.length + p.ts.length < maxLen):
 Calls Tryz.prog 68 #[.agg #[.slice aK p.ds.length aG,.slice aM p.ts.length aH]] w fun e w'=>e= .returned (.tuple #[.int .i64 (oH p).1,.int .i64 (oH p).2])∧Below w.heap.size w w':=by
 have HR:Hid (oH p=match IE p.ds p.ts [] with | some l=>(4,l) | none=>AA p.ds p.ts p.ts):=Lib.hid rfl
 generalize oH p=res at *
 have hld:=hp.1
 have hlt:=hp.2.1
 unfold maxLen at hld hlt
 have HP:=Lib.hid hp
 clear hp
 have hmm:= @run_makeMap Tryz.prog
 go_enter Tryz.func68,Tryz.ntmps68
 go_upto_region 1 with fail
 generalize hW:World.alloc w _=W
 generalize Value.agg #[_,_]=a0
 have HX:=Lib.hid ((Sit.start w).EA rfl (.slice aK p.ds.length aG) (.slice aM p.ts.length aH) 25)
 rw [hW] at HX
 have hsz:W.heap.size=w.heap.size + 1:=by rw [← hW]; simp
 clear hW
 go_upto_region 2 with fail
 have HM:=Lib.hid (gQ.made W)
 have HY:=Lib.hid (HX.out.next (aj W (.map #[] 0)))
 rw [hsz] at HM
 generalize World.alloc W _=W1 at *
 clear HX hsz
 obtain ⟨-,⟨-,c0⟩,⟨-,c1⟩,-⟩:=HY.out
 go_wp2_with fail
 go_loopw [6,19] (fun _ s wr=> ∃(k:Nat) (pre R:List De),s= .int .i64 k∧pre++R=p.ds∧pre.length=k∧gQ wr (w.heap.size + 1) k (qD pre)∧Sit w wr [(w.heap.size,0,(.slice aK p.ds.length aG)),(w.heap.size,1,(.slice aM p.ts.length aH))]) (fun _ s _=>p.ds.length - (intOf s).toNat)
 case atStart=>exact ⟨0,[],p.ds,rfl,rfl,rfl,HM.out.congr (fun _=>rfl),HY.out⟩
 case round=>
  obtain ⟨k,pre,R,rfl,hds,hk,hmap,hsit⟩:=hrel
  have HZ:=Lib.hid hsit
  have Iq:=Lib.hid hmap
  clear hsit hmap HY HM c0 c1
  have hlen:k + R.length=p.ds.length:=by rw [← hds,List.length_append,hk]
  have hrow:=(HP.out.2.2.1.below HZ.out.1).drop k
  rw [Nat.zero_add,← hds,← hk,List.drop_left] at hrow
  rw [hk] at hrow
  have zQ:=Lib.hid hds
  have HK:=Lib.hid hk
  clear hds hk
  cases R with
  | cons d R=>
    obtain ⟨⟨b,off,rfl,mF,x0,x1,x2,x3,x4,x5,hok⟩,-⟩:=hrow
    simp only [List.length_cons] at hlen
    have hkl:k < p.ds.length:=by omega
    have hba:=aj wr (.cells #[.int .i64 d.kind,.int .i64 d.line,.string d.nm,.int .i64 d.size,.int .i64 d.init,.string d.on] 75)
    obtain ⟨w4,hup,qM,hg4⟩:=(Iq.out.next hba).put (by omega) d.nm hok.2.2.1 true
    have vQ:=Lib.hid (qM.congr (Lg pre d))
    have iD:=Lib.hid ((HZ.out.next hba).grown hg4 (by omega) (by simp))
    clear qM hg4 hba hok
    go_wp2_with fail
    go_roundw
    case rel=>exact ⟨k + 1,pre++[d],R,by go_num,by rw [List.append_assoc]; exact zQ.out,by rw [List.length_append,HK.out]; rfl,vQ.out,iD.out⟩
    case measure=>simp [intOf]; omega
  | nil=>
    obtain rfl:k=p.ds.length:=by simpa using hlen
    have hpre:pre=p.ds:=by rw [← zQ.out,List.append_nil]
    subst hpre
    obtain ⟨-,⟨-,c0⟩,⟨-,c1⟩,-⟩:=HZ.out
    clear hrow hlen zQ HK
    go_wp2_with fail
    go_loopw [8,30] (fun _ s wr=> ∃(k:Nat) (pre R:List Th),s= .int .i64 k∧pre++R=p.ts∧pre.length=k∧IE p.ds p.ts []=IE p.ds R pre∧gQ wr (w.heap.size + 1) (p.ds.length + k) (fun l=>qD p.ds l || tX pre l)∧Sit w wr [(w.heap.size,0,(.slice aK p.ds.length aG)),(w.heap.size,1,(.slice aM p.ts.length aH))]) (fun _ s _=>p.ts.length - (intOf s).toNat)
    case atStart=>exact ⟨0,[],p.ts,rfl,rfl,rfl,rfl,Iq.out.congr (fun l=>by simp [tX]),HZ.out⟩
    case round=>
     obtain ⟨k,pre,R,rfl,hds,hk,heq,hmap,hsit⟩:=hrel
     have HU:=Lib.hid hsit
     have Cu:=Lib.hid hmap
     have HE:=Lib.hid heq
     clear hsit hmap HZ Iq c0 c1 heq
     have hlen:k + R.length=p.ts.length:=by rw [← hds,List.length_append,hk]
     have hrow:=(HP.out.2.2.2.below HU.out.1).drop k
     rw [Nat.zero_add,← hds,← hk,List.drop_left] at hrow
     rw [hk] at hrow
     have zQ:=Lib.hid hds
     have HK:=Lib.hid hk
     clear hds hk
     cases R with
     | cons t R=>
       obtain ⟨⟨b,off,fF,dW,bV,bC,rfl,hB,x0,x1,x2,x3,hok,htx,hst⟩,-⟩:=hrow
       simp only [List.length_cons] at hlen
       have hkl:k < p.ts.length:=by omega
       have hba:=aj wr (.cells #[.string t.nm,.int .i64 t.line,.slice fF t.cZ.length dW,.slice bV t.body.len bC] 93)
       have vQ:=Lib.hid (Cu.out.next hba)
       have hlk:=vQ.out.look t.nm hok.1
       have HB3:=Lib.hid (HU.out.next hba).1
       cases MI:(qD p.ds t.nm.toList || tX pre t.nm.toList)
       ·obtain ⟨w4,hup,qM,hg4⟩:=vQ.out.put (by omega) t.nm hok.1 true
        have RD:=Lib.hid (qM.congr (Lb p.ds pre t))
        have HU4:=Lib.hid ((HU.out.next hba).grown hg4 (by omega) (by simp))
        have eF:=Lib.hid (HE.out.trans (if_neg (by rw [MI]; decide)))
        clear qM hg4 hba hok htx hst
        go_wp2_with fail
        go_roundw
        case rel=>exact ⟨k + 1,pre++[t],R,by go_num,by rw [List.append_assoc]; exact zQ.out,by rw [List.length_append,HK.out]; rfl,eF.out,RD.out,HU4.out⟩
        case measure=>simp [intOf]; omega
       ·have HF:Hid (res=(4,t.line)):=Lib.hid (HR.out.trans (by rw [HE.out.trans (if_pos MI)]))
        clear hba hok htx hst
        go_wp2_with fail
        go_quiet (fail)
        go_wp2_with fail
        go_ret2
        exact ⟨lF (congrArg Prod.fst HF.out) (congrArg Prod.snd HF.out),below_drewN HB3.out _⟩
     | nil=>
       obtain rfl:k=p.ts.length:=by simpa using hlen
       have hpre:pre=p.ts:=by rw [← zQ.out,List.append_nil]
       subst hpre
       have HR2:Hid (res=AA p.ds p.ts p.ts):=Lib.hid (HR.out.trans (by rw [HE.out]; rfl))
       obtain ⟨-,⟨-,c0⟩,⟨-,c1⟩,-⟩:=HU.out
       clear hrow hlen zQ HK HE HR
       generalize R7:(fun l=>qD p.ds l || tX p.ts l)=ff at *
       have WL:=Lib.hid R7
       clear R7
       have hth:=HP.out.2.2.2.below HU.out.1
       go_wp2_with fail
       go_loopw [10,11,12,14,47,60,75] (fun _ _ _ _ s _ _ wr=> ∃(k:Nat) (R:List Th),s= .int .i64 k∧k + R.length=p.ts.length∧AA p.ds p.ts p.ts=AA p.ds p.ts R∧gJ wr w.heap.size R aM k∧gQ wr (w.heap.size + 1) (p.ds.length + p.ts.length) ff∧Sit w wr [(w.heap.size,0,(.slice aK p.ds.length aG)),(w.heap.size,1,(.slice aM p.ts.length aH))]) (fun _ _ _ _ s _ _ _=>p.ts.length - (intOf s).toNat)
       case atStart=>exact ⟨0,p.ts,rfl,by simp,rfl,hth,Cu.out,HU.out⟩
       case round=>
        obtain ⟨k,R,rfl,hlen,heq,hrow,hmap,hsit⟩:=hrel
        have HV:=Lib.hid hsit
        have vQ:=Lib.hid hmap
        have HE:=Lib.hid (HR2.out.trans heq)
        have vk:=Lib.hid heq
        clear hsit hmap HU Cu c0 c1 heq hth
        cases R with
        | nil=>
          obtain rfl:k=p.ts.length:=by simpa using hlen
          have HF:=Lib.hid (HE.out.trans (rfl:_=((0:Int),(0:Int))))
          go_wp2_with fail
          go_ret2
          exact ⟨lF (congrArg Prod.fst HF.out) (congrArg Prod.snd HF.out),HV.out.1⟩
        | cons t R=>
          obtain ⟨⟨b,off,fF,dW,bV,bC,rfl,hB,x0,x1,x2,x3,hok,htx,hst⟩,hrest⟩:=hrow
          simp only [List.length_cons] at hlen
          have hkl:k < p.ts.length:=by omega
          have hll:=hok.2.2.1
          have hcl:=hst.2
          unfold maxLen at hll
          clear hst hok
          go_upto_region 17 with fail
          obtain ⟨nb,hnb⟩: ∃n,wr.heap.size=n:=⟨_,rfl⟩
          generalize hW2:World.alloc wr _=W2
          have Cm:Hid (Below wr.heap.size wr W2):=Lib.hid (by rw [← hW2]; exact aj _ _)
          have HY:Hid (Sit wr W2 [(nb,0,.string t.nm),(nb,1,.int .i64 t.line),(nb,2,.slice fF t.cZ.length dW),(nb,3,.slice bV t.body.len bC)]):=Lib.hid (by rw [← hW2]; exact (Sit.start wr).CK hnb _ _ _ _ _)
          have Cg:=Lib.hid (HV.out.next Cm.out)
          have RD:=Lib.hid (vQ.out.next Cm.out)
          have HB3:=Lib.hid Cg.out.1
          have Cr:=Lib.hid (htx.below (Cm.out.mono HV.out.1.size))
          have jc:=Lib.hid (hrest.below (Cm.out.mono HV.out.1.size))
          rw [hnb]
          clear hW2 hnb x0 x1 x2 x3 vQ HV htx hrest Cm
          obtain ⟨-,⟨-,c0⟩,⟨-,c1⟩,⟨-,c2⟩,⟨-,c3⟩,-⟩:=HY.out
          cases h1:decide ((4:Int) < t.cZ.length)
          case true=>
           as_aux_lemma=>
            have HF:=Lib.hid (HE.out.trans (if_pos h1))
            have h1':4 < t.cZ.length:=by simp at h1; omega
            clear h1
            go_wp2_with fail
            go_quiet (fail)
            go_wp2_with fail
            go_ret2
            exact ⟨lF (congrArg Prod.fst HF.out) (congrArg Prod.snd HF.out),below_drewN HB3.out _⟩
          have HE2:=Lib.hid (HE.out.trans (if_neg (by rw [h1]; decide)))
          have jQ:=Lib.hid (vk.out.trans (if_neg (by rw [h1]; decide)))
          have h1':t.cZ.length≤4:=by simp at h1; omega
          clear HE vk h1
          go_wp2_with fail
          go_loop [11,12,14,60,75] (fun _ _ _ s _=> ∃(k':Nat) (pre R':List ByteArray),s= .int .i64 k'∧pre++R'=t.cZ∧pre.length=k'∧xR p.ds p.ts t.cZ []=xR p.ds p.ts R' pre) (fun _ _ _ s _=>t.cZ.length - (intOf s).toNat)
          case atStart=>exact ⟨0,[],t.cZ,rfl,rfl,rfl,rfl⟩
          case round=>
           obtain ⟨k',pre,R',rfl,hds,hk',heq'⟩:=hrel
           have eF:=Lib.hid heq'
           have hlen':k' + R'.length=t.cZ.length:=by rw [← hds,List.length_append,hk']
           have hrow:=Cr.out.drop k'
           rw [Nat.zero_add,← hds,← hk',List.drop_left] at hrow
           rw [hk'] at hrow
           have K9:=Lib.hid ((hds ▸ Cr.out:gB W2 w.heap.size (pre++R') fF 0).take)
           have zQ:=Lib.hid hds
           have HK:=Lib.hid hk'
           clear hds hk' heq'
           cases R' with
           | nil=>
             obtain rfl:k'=t.cZ.length:=by simpa using hlen'
             have HF:=Lib.hid (jQ.out.trans (if_neg (by rw [eF.out]; simp [xR])))
             go_wp2_with fail
             go_roundw
             case rel=>exact ⟨k + 1,R,by go_num,by omega,HF.out,jc.out,RD.out,Cg.out⟩
             case measure=>simp [intOf]; omega
           | cons s R'=>
             obtain ⟨⟨b',off',rfl,hB',y0,hs⟩,-⟩:=hrow
             simp only [List.length_cons] at hlen'
             have hkl':k' < t.cZ.length:=by omega
             have hlk:=RD.out.look s hs
             have hfs:ff s.toList=(qD p.ds s.toList || tX p.ts s.toList):=by rw [← WL.out]
             cases MI:ff s.toList
             case true=>
              as_aux_lemma=>
               have HF:=Lib.hid (HE2.out.trans (if_pos (by rw [eF.out]; unfold xR; rw [← hfs,MI]; rfl)))
               clear hfs
               go_wp2_with fail
               go_quiet (fail)
               go_wp2_with fail
               go_ret2
               exact ⟨lF (congrArg Prod.fst HF.out) (congrArg Prod.snd HF.out),below_drewN HB3.out _⟩
             have uT:Hid (xR p.ds p.ts t.cZ []=(AU pre s.toList || xR p.ds p.ts R' (pre++[s]))):=Lib.hid (eF.out.trans (by rw [xR,← hfs,MI]; rfl))
             clear hfs eF
             have hk0:(0:Int)≤k':=by omega
             have hk2:k'≤dW:=by omega
             go_wp2_with fail
             go_loop [14,75] (fun _ s'=> ∃(k'':Nat) (Q:List ByteArray),s'= .int .i64 k''∧k'' + Q.length=k'∧AU pre s.toList=AU Q s.toList∧gB W2 w.heap.size Q (some ⟨b',off',none⟩) k'') (fun _ s'=>k' - (intOf s').toNat)
             case atStart=>exact ⟨0,pre,rfl,by rw [Nat.zero_add]; exact HK.out,rfl,K9.out⟩
             case round=>
              obtain ⟨k'',Q,rfl,NT,heq'',Xk⟩:=hrel
              have HQ:=Lib.hid heq''
              clear heq''
              cases Q with
              | nil=>
                obtain rfl:k''=k':=by simpa using NT
                have HF:=Lib.hid (uT.out.trans (by rw [HQ.out]; rfl:_=xR p.ds p.ts R' (pre++[s])))
                go_wp2_with fail
                go_round
                case rel=>exact ⟨k'' + 1,pre++[s],R',by go_num,by rw [List.append_assoc]; exact zQ.out,by rw [List.length_append,HK.out]; rfl,HF.out⟩
                case measure=>simp [intOf]; omega
              | cons q Q=>
                obtain ⟨⟨b2,off2,hbe,hB2,z0,hq⟩,hrest''⟩:=Xk
                obtain ⟨rfl,rfl⟩:b'=b2∧off'=off2:=by injection hbe with h; injection h with h1 h2; exact ⟨h1,h2⟩
                simp only [List.length_cons] at NT
                have an4:k'' < k':=by omega
                clear hbe
                have xK:Hid (AU pre s.toList=((q.toList == s.toList) || AU Q s.toList)):=Lib.hid (HQ.out.trans (by simp [AU]))
                cases hc:(q.toList == s.toList)
                ·have hc':(s.toList == q.toList)=false:=by rw [beq_eq_false_iff_ne] at hc ⊢; exact fun e=>hc e.symm
                 have HF:=Lib.hid (xK.out.trans (by rw [hc]; rfl:_=AU Q s.toList))
                 go_wp2_with fail
                 go_round
                 case rel=>exact ⟨k'' + 1,Q,by go_num,by omega,HF.out,hrest''⟩
                 case measure=>simp [intOf]; omega
                ·have hc':(s.toList == q.toList)=true:=by rw [beq_iff_eq] at hc ⊢; exact hc.symm
                 have HF:=Lib.hid (HE2.out.trans (if_pos (by rw [uT.out,xK.out,hc]; rfl)))
                 go_wp2_with fail
                 go_quiet (fail)
                 go_wp2_with fail
                 go_ret2
                 exact ⟨lF (congrArg Prod.fst HF.out) (congrArg Prod.snd HF.out),below_drewN HB3.out _⟩
end Go.Proofs.YtdajkddgnfgijaaGreatDoor
end
