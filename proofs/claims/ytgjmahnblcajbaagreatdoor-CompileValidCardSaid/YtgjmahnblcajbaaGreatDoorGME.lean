/- Contracts of check.declared and check.meaning. And what hangs on it. -/
import Derived.Test.YtgjmahnblcajbaaGreatDoorGMA
import Derived.Test.YtgjmahnblcajbaaGreatDoorGMC
import Derived.Deep.CutBlock
import Derived.Test.YtgjmahnblcajbaaGreatDoorGMB
import Derived.Maps.Own
import Derived.Maps.OwnSet
import Derived.Maps.Views
set_option linter.unusedSimpArgs false
set_option linter.unusedVariables false
set_option maxHeartbeats 40000000
set_option maxRecDepth 1000000
namespace Go.Proofs.YtgjmahnblcajbaaGreatDoor
open Go.RowKit
open Md
theorem Cg (d:De) (w:World):
 Calls Tryz.prog 79 #[.agg #[.int .i64 d.kind,.int .i64 d.line,.string d.nm,.int .i64 d.size,.int .i64 d.init,.string d.on]] w fun e w'=>e= .returned (.int .i64 (fH d))∧Below w.heap.size w w':=by
 unfold fH;go_enter Tryz.func79,Tryz.ntmps79;go_wp2
 all_goals go_ret
 all_goals refine ⟨dB ?_,au _ _⟩
 all_goals first | (simp [*]; done) | (go_light; grind)
theorem RN (s:ByteArray) (r:List ByteArray) (nm:ByteArray):AL (s ::r) nm=((s.toList == nm.toList) || AL r nm):=by simp [AL]
theorem RX (d:De) (r:List De) (nm:ByteArray):rG (d ::r) nm=if d.nm.toList == nm.toList then some (fH d) else rG r nm:=by
 unfold rG; rw [List.find?_cons]; cases h:(d.nm.toList == nm.toList) <;> simp
theorem RY (t:Th) (r:List Th) (nm:ByteArray):sS (t ::r) nm=if t.nm.toList == nm.toList then 8 else sS r nm:=by
 unfold sS; rw [List.any_cons]; cases h:(t.nm.toList == nm.toList) <;> simp
theorem P9 {ts:List Th} {i:Int} (h: ¬ (0<=i∧i < ts.length)):Cq ts i=[]:=by
 unfold Cq;split
 ·rw [List.getElem?_eq_none (by omega)]; rfl
 ·rfl
theorem RQ {ts:List Th} {i:Nat} {t:Th} {r:List Th} (h:ts.drop i=t ::r):Cq ts (i:Int)=t.cu:=by
 have h2:ts[i]? =some t:=by have:=List.getElem?_drop (xs:=ts) (i:=i) (j:=0); rw [h] at this; simpa using this.symm
 unfold Cq;rw [if_pos (by omega)];simp [h2]
theorem Pf (p:Pr) (i:Int) (nm:ByteArray) (w:World) (aG aH:Option Addr) (aB aD:Nat) (hi:bV i) (hp:p.At w aG aH):
 Calls Tryz.prog 175 #[.agg #[.slice aG p.ds.length aB,.slice aH p.ts.length aD],.int .i64 i,.string nm] w fun e w'=>e= .returned (.int .i64 (mean p i nm))∧Below w.heap.size w w':=by
 obtain ⟨i1,i2⟩:=hi;have hld:=hp.1;have hlt:=hp.2.1;unfold maxLen at hld hlt;have HP:=ah hp;clear hp;go_enter Tryz.func175,Tryz.ntmps175;go_upto_region 1 with fail;generalize hW:World.alloc w _=W;generalize Value.agg #[_,_]=a0;have HX:=ah ((Sit.start w).JI rfl (.slice aG p.ds.length aB) (.slice aH p.ts.length aD) 38);rw [hW] at HX;clear hW;obtain ⟨-,⟨-,c0⟩,⟨-,c1⟩,-⟩:=HX.o;go_cut [21] (fun s W2=>W=W2∧ ∃b,s= .bool b∧decide (0<=i∧i < p.ts.length)=b)
 case first=>
  go_wp2_with fail
  all_goals go_meet
  all_goals exact ⟨rfl,_,rfl,by go_light; grind⟩
 obtain ⟨rfl,bi,rfl,hbi⟩:=hcut;have zi:=ah hbi;clear hbi
 go_upto_if 21 with fail
 go_cut [6,8] (fun s6 s8 W2=>AL (Cq p.ts i) nm=false∧Sit w W2 [(w.heap.size,0,(.slice aG p.ds.length aB)),(w.heap.size,1,(.slice aH p.ts.length aD))])
 case first=>
  cases bi
  ·go_wp2_with fail;go_meet;exact ⟨by rw [P9 (by simpa using zi.o)]; rfl,HX.o⟩
  ·have hbi:0<=i∧i < p.ts.length:=by simpa using zi.o
   obtain ⟨j,rfl⟩:=Int.eq_ofNat_of_zero_le hbi.1;have hj:j < p.ts.length:=by omega
   have hth:=(HP.o.same HX.o.1).2.2.2.drop j;cases hd:p.ts.drop j with
   | nil=>exfalso; have:=congrArg List.length hd; simp at this; omega
   | cons t r=>
     rw [hd,Nat.zero_add] at hth;have HL:=ah (RQ hd);clear hd hbi zi;obtain ⟨⟨b,off,eZ,dM,cK,aZ,rfl,hB,x0,x1,x2,x3,hok,htx,hst⟩,-⟩:=hth;have hll:=hok.2.2.1;unfold maxLen at hll;clear hst hok;go_wp2_with fail;go_loop [8,29] (fun _ s=> ∃(k:Nat) (R:List ByteArray),s= .int .i64 k∧k + R.length=t.cu.length∧AL t.cu nm=AL R nm∧dU W W.heap.size R eZ k) (fun _ s=>t.cu.length - (intOf s).toNat)
     case atStart=>exact ⟨0,t.cu,rfl,by simp,rfl,htx⟩
     case round=>
      obtain ⟨k,R,rfl,hlen,heq,hrow⟩:=hrel;cases R with
      | nil=>obtain rfl:k=t.cu.length:=(by simpa using hlen);go_wp2_with fail;go_meet;exact ⟨by rw [HL.o,heq]; rfl,HX.o⟩
      | cons s R=>
        obtain ⟨⟨b',off',rfl,hB',y0,hs⟩,hrest⟩:=hrow;simp only [List.length_cons] at hlen;have hkl:k < t.cu.length:=(by omega);rw [RN] at heq;have HE:=ah heq;clear heq;cases hc:(s.toList == nm.toList)
        ·have dV:=ah (HE.o.trans (by rw [hc]; rfl:_=AL R nm));go_wp2_with fail;go_round
         case rel=>exact ⟨k + 1,R,by go_num,by omega,dV.o,hrest⟩
         case measure=>simp [intOf]; omega
        ·have dV:=ah (HE.o.trans (by rw [hc]; rfl:_=true));go_wp2_with fail;go_ret;exact ⟨dB (by unfold mean; rw [HL.o,dV.o]; rfl),HX.o.1⟩
 case rest=>
  obtain ⟨hno,hX⟩:=hcut;have HY:=ah hX;have HM:aj (mean p i nm=(rG p.ds nm).getD (sS p.ts nm)):=ah (by unfold mean; rw [hno]; rfl);clear hno hX HX c0 c1;obtain ⟨-,⟨-,c0⟩,⟨-,c1⟩,-⟩:=HY.o;have hde:=(HP.o.same HY.o.1).2.2.1;go_wp2_with fail;go_loopw [10,40] (fun _ s wr=> ∃(k:Nat) (R:List De),s= .int .i64 k∧k + R.length=p.ds.length∧rG p.ds nm=rG R nm∧gQ wr wr.heap.size R aG k∧Sit w wr [(w.heap.size,0,(.slice aG p.ds.length aB)),(w.heap.size,1,(.slice aH p.ts.length aD))]) (fun _ s _=>p.ds.length - (intOf s).toNat)
  case atStart=>exact ⟨0,p.ds,rfl,by simp,rfl,hde,HY.o⟩
  case round=>
   obtain ⟨k,R,rfl,hlen,heq,hrow,hsit⟩:=hrel;have HZ:=ah hsit;clear hsit HY c0 c1 hde;cases R with
   | nil=>
     obtain rfl:k=p.ds.length:=(by simpa using hlen);obtain ⟨-,⟨-,c0⟩,⟨-,c1⟩,-⟩:=HZ.o;have hth:=(HP.o.same HZ.o.1).2.2.2;have HM':=ah (HM.o.trans (by rw [heq]; rfl:_=sS p.ts nm));clear heq HM;go_wp2_with fail;go_loopw [12,54] (fun _ s wr=> ∃(k:Nat) (R:List Th),s= .int .i64 k∧k + R.length=p.ts.length∧sS p.ts nm=sS R nm∧gF wr wr.heap.size R aH k∧Sit w wr [(w.heap.size,0,(.slice aG p.ds.length aB)),(w.heap.size,1,(.slice aH p.ts.length aD))]) (fun _ s _=>p.ts.length - (intOf s).toNat)
     case atStart=>exact ⟨0,p.ts,rfl,by simp,rfl,hth,HZ.o⟩
     case round=>
      obtain ⟨k,R,rfl,hlen,heq,hrow,hsit⟩:=hrel;have HU:=ah hsit;clear hsit HZ c0 c1 hth;cases R with
      | nil=>obtain rfl:k=p.ts.length:=(by simpa using hlen);go_wp2_with fail;go_ret;exact ⟨dB (HM'.o.trans heq).symm,HU.o.1⟩
      | cons t R=>
        obtain ⟨⟨b,off,eZ,dM,cK,aZ,rfl,hB,x0,x1,x2,x3,hok,htx,hst⟩,hrest⟩:=hrow;simp only [List.length_cons] at hlen;have hkl:k < p.ts.length:=(by omega);rw [RY] at heq;have HE:=ah heq;clear heq hok htx hst;cases hc:(t.nm.toList == nm.toList)
        ·have dV:=ah (HE.o.trans (by rw [hc]; rfl:_=sS R nm));go_wp2_with fail;go_roundw
         case rel=>exact ⟨k + 1,R,by go_num,by omega,dV.o,hrest.same (au _ _),HU.o.next (au _ _)⟩
         case measure=>simp [intOf]; omega
        ·have dV:=ah (HE.o.trans (if_pos hc));go_wp2_with fail;go_ret;exact ⟨dB (HM'.o.trans dV.o).symm,(HU.o.next (au _ _)).1⟩
   | cons d R=>
     obtain ⟨⟨b,off,rfl,hB,x0,x1,x2,x3,x4,x5,hok⟩,hrest⟩:=hrow;simp only [List.length_cons] at hlen;have hkl:k < p.ds.length:=(by omega);rw [RX] at heq;have HE:=ah heq;clear heq hok;cases hc:(d.nm.toList == nm.toList)
     ·have dV:=ah (HE.o.trans (by rw [hc]; rfl:_=rG R nm));go_wp2_with fail;go_roundw
      case rel=>exact ⟨k + 1,R,by go_num,by omega,dV.o,hrest.same (au _ _),HZ.o.next (au _ _)⟩
      case measure=>simp [intOf]; omega
     ·have dV:=ah (HE.o.trans (if_pos hc));go_wp2_with fail;refine (Cg d _).mono ?_;rintro e w2 ⟨rfl,hb2⟩;go_wp2_with fail;go_ret;exact ⟨dB (HM.o.trans (by rw [dV.o]; rfl)).symm,((HZ.o.next (au _ _)).next hb2).1⟩
theorem Bo (d:De):2<=fH d∧fH d<=9∧fH d≠8:=by unfold fH; grind
namespace Md
def dS (w:World) (B:Nat):List Int->Option Addr->Nat->Prop
 | [],_,_=>True
 | s ::r,ao,k=>(∃b off,ao=some ⟨b,off,none⟩∧b < B∧w.cell? ⟨b,off + k,none⟩=some (.int .i64 s))∧dS w B r ao (k + 1)
section
variable {w w':World} {B B':Nat}
theorem dS.below (hb:Below B w w'): ∀ {l:List Int} {ao:Option Addr} {k:Nat},dS w B l ao k->dS w' B l ao k
 | [],_,_,_=>trivial
 | _ ::_,_,_,⟨⟨b,off,e,hB,c⟩,hr⟩=>⟨⟨b,off,e,hB,(hb.cell hB).trans c⟩,dS.below hb hr⟩
theorem dS.mono (h:B<=B'): ∀ {l:List Int} {ao:Option Addr} {k:Nat},dS w B l ao k->dS w B' l ao k
 | [],_,_,_=>trivial
 | _ ::_,_,_,⟨⟨b,off,e,hB,c⟩,hr⟩=>⟨⟨b,off,e,Nat.lt_of_lt_of_le hB h,c⟩,dS.mono h hr⟩
theorem dS.same {l:List Int} {ao:Option Addr} {k:Nat} (h:dS w w.heap.size l ao k) (hb:Below w.heap.size w w'):dS w' w'.heap.size l ao k:=(h.below hb).mono hb.size
end
def dF (m:Int) (l:List Int):Int:=if m == 0 then 5 else if l.any (fun k=>m == k) then 0 else 6
def CZ:bf->Int->Int->Int × Int
 | .nil,n,d=>(n,d)
 | .cons _ _ _ kids rest,n,d=>CZ rest (wrap64 (n + (CZ kids 1 0).1)) (max d (wrap64 ((CZ kids 1 0).2 + 1)))
def ext (kids:bf):Int × Int:=((CZ kids 1 0).1,wrap64 ((CZ kids 1 0).2 + 1))
def vG (p:Pr) (i op:Int) (nm:ByteArray):Int:=if op == 2 then dF (mean p i nm) [1,2] else if op == 3 then dF (mean p i nm) [3] else 0
def wR (p:Pr) (i:Int):bf->Int
 | .nil=>0
 | .cons op _ nm kids rest=>if vG p i op nm == 0 then (if wR p i kids == 0 then wR p i rest else wR p i kids) else vG p i op nm
def Bu (p:Pr) (i op:Int) (nm:ByteArray) (kids:bf):Int:=if vG p i op nm == 0 then wR p i kids else vG p i op nm
theorem UH (p:Pr) (i op n:Int) (nm:ByteArray) (kids rest:bf):wR p i (.cons op n nm kids rest)=if Bu p i op nm kids == 0 then wR p i rest else Bu p i op nm kids:=by
 rw [wR]; unfold Bu;cases h:(vG p i op nm == 0) <;> simp
 ·intro h'; simp [h'] at h
def mI (p:Pr) (i op n:Int) (nm:ByteArray) (kids:bf):Int:=
 if jP op n nm kids then (if decide (24 < (ext kids).1) || decide (6 < (ext kids).2) then 2 else Bu p i op nm kids) else 3
end Md
theorem Na (m k:Int) (l:List Int):(k ::l).any (fun k=>m == k)=((m == k) || l.any (fun k=>m == k)):=by simp
theorem yQ (p:Pr) (i:Int) (nm:ByteArray) (l:List Int) (w:World) (aG aH ao:Option Addr) (aB aD cap:Nat) (hi:bV i) (hl:l.length<=maxLen) (hp:p.At w aG aH) (hw:dS w w.heap.size l ao 0):
 Calls Tryz.prog 163 #[.agg #[.slice aG p.ds.length aB,.slice aH p.ts.length aD],.int .i64 i,.string nm,.slice ao l.length cap] w fun e w'=>e= .returned (.int .i64 (dF (mean p i nm) l))∧Below w.heap.size w w':=by
 unfold maxLen at hl;have HP:=ah hp;have HW:=ah hw;clear hp hw;go_enter Tryz.func163,Tryz.ntmps163;go_wp2_with fail;refine (Pf p i nm _ aG aH aB aD hi (HP.o.same (au _ _))).mono ?_;rintro e w2 ⟨rfl,hb2⟩;have HB:=ah ((au w (.cells #[.slice aG p.ds.length aB,.slice aH p.ts.length aD] 38)).trans (hb2.mono (by simp)));clear hb2;have hrow:=HW.o.same HB.o;generalize hmm:mean p i nm=m at *;have HM:=ah hmm;clear hmm;cases h0:(m == 0)
 ·go_wp2_with fail;go_loop [11,20] (fun _ s=> ∃(k:Nat) (R:List Int),s= .int .i64 k∧k + R.length=l.length∧l.any (fun k=>m == k)=R.any (fun k=>m == k)∧dS w2 w2.heap.size R ao k) (fun _ s=>l.length - (intOf s).toNat)
  case atStart=>exact ⟨0,l,rfl,by simp,rfl,hrow⟩
  case round=>
   obtain ⟨k,R,rfl,hlen,heq,hrow'⟩:=hrel;cases R with
   | nil=>obtain rfl:k=l.length:=(by simpa using hlen);have HE:aj (dF m l=6):=ah (by unfold dF; rw [h0,heq]; rfl);clear heq;go_wp2_with fail;go_ret;exact ⟨dB (by rw [HM.o,HE.o]),HB.o⟩
   | cons a R=>
     obtain ⟨⟨b,off,rfl,hB,y0⟩,hrest⟩:=hrow';simp only [List.length_cons] at hlen;have hkl:k < l.length:=(by omega);rw [Na] at heq;have HE:=ah heq;clear heq;cases hc:(m == a)
     ·have dV:=ah (HE.o.trans (by rw [hc]; rfl:_=R.any (fun k=>m == k)));go_wp2_with fail;go_round
      case rel=>exact ⟨k + 1,R,by go_num,by omega,dV.o,hrest⟩
      case measure=>simp [intOf]; omega
     ·have dV:aj (dF m l=0):=ah (by unfold dF; rw [h0,HE.o,hc]; rfl);go_wp2_with fail;go_ret;exact ⟨dB (by rw [HM.o,dV.o]),HB.o⟩
 ·have HE:aj (dF m l=5):=ah (by unfold dF; rw [h0]; rfl);go_wp2_with fail;go_ret;exact ⟨dB (by rw [HM.o,HE.o]),HB.o⟩
theorem mM {a b c d:Int} (h1:c=a) (h2:d=b):Ending.returned (.tuple #[.int .i64 a,.int .i64 b])= .returned (.tuple #[.int .i64 c,.int .i64 d]):=by rw [h1,h2]
theorem ext_nil {kids:bf} {a d:Int} (h:CZ kids 1 0=CZ .nil a d):(ext kids).1=a∧(ext kids).2=wrap64 (d + 1):=by unfold ext; rw [h]; exact ⟨rfl,rfl⟩
def F9 (op n:Int) (nm:ByteArray) (kids:bf):Prop:=
 ∀(w:World) (ao:Option Addr) (cap:Nat),xW op n nm kids->kids.At w w.heap.size ao 0->
  Calls Tryz.prog 173 #[.agg #[.int .i64 op,.int .i64 n,.string nm,.slice ao kids.len cap]] w fun e w'=>e= .returned (.tuple #[.int .i64 (ext kids).1,.int .i64 (ext kids).2])∧Below w.heap.size w w'
theorem OY (op n:Int) (nm:ByteArray) (kids:bf) (ih:kids.All F9):F9 op n nm kids:=by
 intro w ao cap hok hat;obtain ⟨-,-,-,hl⟩:=hok;unfold maxLen at hl;have lg:=ah ih;have HAT:=ah hat;clear ih hat;go_enter Tryz.func173,Tryz.ntmps173;go_upto_region 2 with fail;generalize hW:World.alloc w _=W;generalize Value.agg #[_,_,_,_]=a0;have HX:=ah ((Sit.start w).Gj rfl (.int .i64 op) (.int .i64 n) (.string nm) (.slice ao kids.len cap) 105);rw [hW] at HX;clear hW;obtain ⟨-,⟨-,c0⟩,⟨-,c1⟩,⟨-,c2⟩,⟨-,c3⟩,-⟩:=HX.o;go_wp2_with fail;go_loopw [4,5,7,8,9,13] (fun s4 s5 _ _ _ s wr=> ∃(k:Nat) (R:bf) (a d:Int),s= .int .i64 k∧s4= .int .i64 a∧s5= .int .i64 d∧k + R.len=kids.len∧CZ kids 1 0=CZ R a d∧R.All F9∧R.At wr wr.heap.size ao k∧Below w.heap.size w wr) (fun _ _ _ _ _ s _=>kids.len - (intOf s).toNat)
 case atStart=>exact ⟨0,kids,1,0,rfl,rfl,rfl,by simp,rfl,lg.o,HAT.o.same HX.o.1,HX.o.1⟩
 case round=>
  obtain ⟨k,R,a,d,rfl,rfl,rfl,hlen,heq,hall,hrow,hB⟩:=hrel;have HE:=ah heq;clear heq c0 c1 c2 c3;cases R with
  | nil=>
    obtain rfl:k=kids.len:=by simpa [bf.len] using hlen
    go_wp2_with fail
    go_ret2
    exact ⟨mM (ext_nil HE.o).1 (ext_nil HE.o).2,hB⟩
  | cons op' n' nm' jg rest=>
    obtain ⟨⟨b,off,mH,cap',rfl,nM,x0,x1,x2,x3,hok',qw⟩,hrest⟩:=hrow;obtain ⟨mh,yN⟩:=hall;have hlt:k < kids.len:=by simp only [bf.len] at hlen; omega
    go_wp2_with fail;have hba:=au wr (.cells #[.int .i64 op',.int .i64 n',.string nm',.slice mH jg.len cap'] 105);refine (mh _ _ _ hok' (qw.same hba)).mono ?_;rintro e w2 ⟨rfl,hb2⟩;have HB3:=ah (hba.trans (hb2.mono (by simp)));clear hba hb2 x0 x1 x2 x3 qw;go_wp2_with fail;go_roundw
    case rel=>exact ⟨k + 1,rest,_,_,by go_num,rfl,rfl,by simp only [bf.len] at hlen; omega,HE.o,yN,hrest.same HB3.o,hB.trans (HB3.o.mono hB.size)⟩
    case measure=>simp [intOf]; omega
theorem Ry (op n:Int) (nm:ByteArray) (kids:bf):F9 op n nm kids:=bf.ER OY op n nm kids
def Fb (p:Pr) (i:Int) (op n:Int) (nm:ByteArray) (kids:bf):Prop:=
 ∀(w:World) (aG aH ao:Option Addr) (aB aD cap:Nat),bV i->p.At w aG aH->xW op n nm kids->kids.At w w.heap.size ao 0->
  Calls Tryz.prog 174 #[.agg #[.slice aG p.ds.length aB,.slice aH p.ts.length aD],.int .i64 i,.agg #[.int .i64 op,.int .i64 n,.string nm,.slice ao kids.len cap]] w fun e w'=>e= .returned (.int .i64 (Bu p i op nm kids))∧Below w.heap.size w w'
theorem jw (w:World) (a b:Int) (t:TypeId):dS (w.alloc (.cells #[.int .i64 a,.int .i64 b] t)) (w.alloc (.cells #[.int .i64 a,.int .i64 b] t)).heap.size [a,b] (some ⟨w.heap.size,0,none⟩) 0:=
 ⟨⟨_,_,rfl,by simp,bS w [.int .i64 a,.int .i64 b] t 0⟩,⟨_,_,rfl,by simp,bS w [.int .i64 a,.int .i64 b] t 1⟩,trivial⟩
theorem gG (w:World) (a:Int) (t:TypeId):dS (w.alloc (.cells #[.int .i64 a] t)) (w.alloc (.cells #[.int .i64 a] t)).heap.size [a] (some ⟨w.heap.size,0,none⟩) 0:=
 ⟨⟨_,_,rfl,by simp,bS w [.int .i64 a] t 0⟩,trivial⟩
theorem RZ (p:Pr) (i:Int) (op n:Int) (nm:ByteArray) (kids:bf) (ih:kids.All (Fb p i)):Fb p i op n nm kids:=by
 intro w aG aH ao aB aD cap hi hp hok hat;obtain ⟨-,-,-,hl⟩:=hok;unfold maxLen at hl;have lg:=ah ih;have HAT:=ah hat;have HP:=ah hp;clear ih hat hp;go_enter Tryz.func174,Tryz.ntmps174;go_upto_region 1 with fail;generalize hW:World.alloc (World.alloc w _) _=W;generalize Value.agg #[_,_]=a0;generalize Value.agg #[_,_,_,_]=a1;have HX:=ah (((Sit.start w).JI rfl (.slice aG p.ds.length aB) (.slice aH p.ts.length aD) 38).Gj (n:=w.heap.size + 1) (by simp) (.int .i64 op) (.int .i64 n) (.string nm) (.slice ao kids.len cap) 105);rw [hW] at HX;clear hW;obtain ⟨-,⟨-,c0⟩,⟨-,c1⟩,⟨-,c2⟩,⟨-,c3⟩,⟨-,c4⟩,⟨-,c5⟩,-⟩:=HX.o;go_upto_block 0 with (fail);go_cut [7,10] (fun s7 _ W2=>s7= .int .i64 (vG p i op nm)∧Sit w W2 [(w.heap.size + 1,0,.int .i64 op),(w.heap.size + 1,1,.int .i64 n),(w.heap.size + 1,2,.string nm),(w.heap.size + 1,3,.slice ao kids.len cap),(w.heap.size,0,.slice aG p.ds.length aB),(w.heap.size,1,.slice aH p.ts.length aD)])
 case first=>
  cases h2:(op == 2)
  ·cases h3:(op == 3)
   ·have HE:aj (vG p i op nm=0):=ah (by unfold vG; rw [h2,h3]; rfl);go_wp2_with fail;go_meet;exact ⟨by rw [HE.o],HX.o⟩
   ·have HE:aj (vG p i op nm=dF (mean p i nm) [3]):=ah (by unfold vG; rw [h2,h3]; rfl);go_wp2_with fail;refine (yQ p i nm [3] _ aG aH _ aB aD _ hi (by decide) ((HP.o.same HX.o.1).same (au _ _)) (gG W 3 _)).mono ?_;rintro e w2 ⟨rfl,hb2⟩;go_wp2_with fail;go_meet;exact ⟨by rw [HE.o],(HX.o.next (au _ _)).next hb2⟩
  ·have HE:aj (vG p i op nm=dF (mean p i nm) [1,2]):=ah (by unfold vG; rw [h2]; rfl);go_wp2_with fail;refine (yQ p i nm [1,2] _ aG aH _ aB aD _ hi (by decide) ((HP.o.same HX.o.1).same (au _ _)) (jw W 1 2 _)).mono ?_;rintro e w2 ⟨rfl,hb2⟩;go_wp2_with fail;go_meet;exact ⟨by rw [HE.o],(HX.o.next (au _ _)).next hb2⟩
 case rest=>
  obtain ⟨rfl,hX⟩:=hcut;have HY:=ah hX;clear hX HX c0 c1 c2 c3 c4 c5;have HR:aj (Bu p i op nm kids=if vG p i op nm == 0 then wR p i kids else vG p i op nm):=ah rfl;generalize vG p i op nm=r0 at *;go_wp2_with fail;go_loopw [7,8] (fun s7 s8 wr=> ∃(k:Nat) (R:bf) (r:Int),s8= .int .i64 k∧s7= .int .i64 r∧k + R.len=kids.len∧Bu p i op nm kids=(if r == 0 then wR p i R else r)∧R.All (Fb p i)∧R.At wr wr.heap.size ao k∧Sit w wr [(w.heap.size + 1,0,.int .i64 op),(w.heap.size + 1,1,.int .i64 n),(w.heap.size + 1,2,.string nm),(w.heap.size + 1,3,.slice ao kids.len cap),(w.heap.size,0,.slice aG p.ds.length aB),(w.heap.size,1,.slice aH p.ts.length aD)]) (fun _ s _=>kids.len - (intOf s).toNat)
  case atStart=>exact ⟨0,kids,r0,rfl,rfl,by simp,HR.o,lg.o,HAT.o.same HY.o.1,HY.o⟩
  case round=>
   obtain ⟨k,R,r,rfl,rfl,hlen,heq,hall,hrow,hsit⟩:=hrel;have HE:=ah heq;have HZ:=ah hsit;clear heq hsit;obtain ⟨-,⟨-,c0⟩,⟨-,c1⟩,⟨-,c2⟩,⟨-,c3⟩,⟨-,c4⟩,⟨-,c5⟩,-⟩:=HZ.o;cases R with
   | nil=>obtain rfl:k=kids.len:=(by simpa [bf.len] using hlen);go_wp2_with fail;go_ret;exact ⟨dB (HE.o.trans (by cases h:(r == 0) <;> simp_all [wR])).symm,HZ.o.1⟩
   | cons op' n' nm' jg rest=>
     obtain ⟨⟨b,off,mH,cap',rfl,nM,x0,x1,x2,x3,hok',qw⟩,hrest⟩:=hrow;obtain ⟨mh,yN⟩:=hall;have hlt:k < kids.len:=(by simp only [bf.len] at hlen; omega);cases hr:(r == 0)
     ·have dV:=ah (HE.o.trans (by rw [hr]; rfl:_=r));go_wp2_with fail;go_ret;exact ⟨dB dV.o.symm,HZ.o.1⟩
     ·have dV:=ah (HE.o.trans (by rw [hr]; rfl:_=wR p i (.cons op' n' nm' jg rest)));go_wp2_with fail;obtain ⟨T,F,GA,hst,hF,hnext⟩:=calm wr;have HF:=ah hF;have eY:=ah hnext;clear hnext hF;have d0:=fun x=>(HZ.o.next (HF.o x)).2.1.2;have d1:=fun x=>(HZ.o.next (HF.o x)).2.2.1.2;have d2:=fun x=>(HZ.o.next (HF.o x)).2.2.2.1.2;have d3:=fun x=>(HZ.o.next (HF.o x)).2.2.2.2.1.2;have d4:=fun x=>(HZ.o.next (HF.o x)).2.2.2.2.2.1.2;have d5:=fun x=>(HZ.o.next (HF.o x)).2.2.2.2.2.2.1.2;have y0:=fun x=>((HF.o x).cell (p:=⟨b,off + k * 4,none⟩) nM).trans x0;have y1:=fun x=>((HF.o x).cell (p:=⟨b,off + k * 4 + 1,none⟩) nM).trans x1;have y2:=fun x=>((HF.o x).cell (p:=⟨b,off + k * 4 + 2,none⟩) nM).trans x2;have y3:=fun x=>((HF.o x).cell (p:=⟨b,off + k * 4 + 3,none⟩) nM).trans x3;clear c0 c1 c2 c3 c4 c5 x0 x1 x2 x3;have hk0:(0:Int)<=k:=(by omega);have hk1:(k:Int) < kids.len:=(by omega);refine jo F (by kernel_rfl) (by kernel_rfl) hst ?_
      repeat (any_goals (first | go_big_quiet_step ((go_at_call 174; refine (mh _ aG aH mH aB aD cap' hi ((HP.o.same HZ.o.1).same (HF.o _)) hok' (qw.same (HF.o _))).mono ?_; rintro e w' ⟨rfl,hb⟩; exact ⟨rfl,eY.o _ _ hb⟩)) | (refine wpQuiet_step (fun K hK=> ?_); go_simp; first | (refine hK _ ?_; clear hK K) | (split <;> first | (refine hK _ ?_; clear hK K) | (apply Exists.intro; refine ⟨fun _=> ?_,hK _ ?_⟩; ((go_at_call 174; refine (mh _ aG aH mH aB aD cap' hi ((HP.o.same HZ.o.1).same (HF.o _)) hok' (qw.same (HF.o _))).mono ?_; rintro e w' ⟨rfl,hb⟩; exact ⟨rfl,eY.o _ _ hb⟩)); clear hK K)))))
      all_goals (refine wpQuiet_nil ?_; rintro _ ⟨x,rfl⟩)
      have HB2:=ah (HF.o x);clear d0 d1 d2 d3 d4 d5 y0 y1 y2 y3 HF eY hst;generalize F x=W2 at *;go_wp2_with fail;go_roundw
      case rel=>exact ⟨k + 1,rest,_,by go_num,rfl,by simp only [bf.len] at hlen; omega,dV.o.trans (UH p i op' n' nm' jg rest),yN,hrest.same HB2.o,HZ.o.next HB2.o⟩
      case measure=>simp [intOf]; omega
theorem UG (p:Pr) (i:Int) (op n:Int) (nm:ByteArray) (kids:bf):Fb p i op n nm kids:=bf.ER (RZ p i) op n nm kids
theorem Dm (p:Pr) (i:Int) (op n:Int) (nm:ByteArray) (kids:bf) (w:World) (aG aH ao:Option Addr) (aB aD cap:Nat) (hi:bV i) (hp:p.At w aG aH) (hok:xW op n nm kids) (hat:kids.At w w.heap.size ao 0) (dH:cB w):
 Calls Tryz.prog 162 #[.agg #[.slice aG p.ds.length aB,.slice aH p.ts.length aD],.int .i64 i,.agg #[.int .i64 op,.int .i64 n,.string nm,.slice ao kids.len cap]] w fun e w'=>e= .returned (.int .i64 (mI p i op n nm kids))∧Below w.heap.size w w':=by
 have HAT:=ah hat;have HP:=ah hp;clear hat hp;go_enter Tryz.func162,Tryz.ntmps162;go_upto_region 1 with fail;generalize hW:World.alloc (World.alloc w _) _=W;generalize Value.agg #[_,_]=a0;generalize Value.agg #[_,_,_,_]=a1;have HX:=ah (((Sit.start w).JI rfl (.slice aG p.ds.length aB) (.slice aH p.ts.length aD) 38).Gj (n:=w.heap.size + 1) (by simp) (.int .i64 op) (.int .i64 n) (.string nm) (.slice ao kids.len cap) 105);rw [hW] at HX;clear hW;obtain ⟨-,⟨-,c0⟩,⟨-,c1⟩,⟨-,c2⟩,⟨-,c3⟩,⟨-,c4⟩,⟨-,c5⟩,-⟩:=HX.o;go_wp2_with fail;refine (wL op n nm kids _ ao cap hok (HAT.o.same HX.o.1) (dH.same HX.o.1)).mono ?_;rintro e w1 ⟨rfl,hb1⟩;have HY:=ah (HX.o.next hb1);clear HX hb1 c0 c1 c2 c3 c4 c5;obtain ⟨-,⟨-,c0⟩,⟨-,c1⟩,⟨-,c2⟩,⟨-,c3⟩,⟨-,c4⟩,⟨-,c5⟩,-⟩:=HY.o;cases hS:jP op n nm kids
 ·have HE:aj (mI p i op n nm kids=3):=ah (by unfold mI; rw [hS]; rfl);go_wp2_with fail;go_ret;exact ⟨dB HE.o.symm,HY.o.1⟩
 ·have HE:aj (mI p i op n nm kids=if decide (24 < (ext kids).1) || decide (6 < (ext kids).2) then 2 else Bu p i op nm kids):=ah (by unfold mI; rw [hS]; rfl);go_wp2_with fail;refine (Ry op n nm kids _ ao cap hok (HAT.o.same HY.o.1)).mono ?_;rintro e w2 ⟨rfl,hb2⟩;have HZ:=ah (HY.o.next hb2);clear HY hb2 c0 c1 c2 c3 c4 c5;obtain ⟨-,⟨-,c0⟩,⟨-,c1⟩,⟨-,c2⟩,⟨-,c3⟩,⟨-,c4⟩,⟨-,c5⟩,-⟩:=HZ.o;generalize (ext kids).1=a at *;generalize (ext kids).2=d at *;cases h1:decide (24 < a)
  ·cases h2:decide (6 < d)
   ·have dV:=ah (HE.o.trans (by rw [h1,h2]; rfl:_=Bu p i op nm kids));have q1:a<=24:=(by simpa using h1);have q2:d<=6:=(by simpa using h2);go_wp2_with fail;refine (UG p i op n nm kids _ aG aH ao aB aD cap hi (HP.o.same HZ.o.1) hok (HAT.o.same HZ.o.1)).mono ?_;rintro e w3 ⟨rfl,hb3⟩;go_wp2_with fail;go_ret;exact ⟨dB dV.o.symm,(HZ.o.next hb3).1⟩
   ·have dV:=ah (HE.o.trans (if_pos (by rw [h1,h2]; rfl)));have q1:a<=24:=(by simpa using h1);have q2:6 < d:=(by simpa using h2);go_wp2_with fail;go_ret;exact ⟨dB dV.o.symm,HZ.o.1⟩
  ·have dV:=ah (HE.o.trans (if_pos (by rw [h1]; rfl)));have q1:24 < a:=by simpa using h1
   go_wp2_with fail;go_ret;exact ⟨dB dV.o.symm,HZ.o.1⟩
theorem uH:Maps.Keyed Tryz.prog 9:=Maps.string_keyed Tryz.underlying9
theorem keyOf_str (s:ByteArray) (hs:s.size<=maxLen):keyOf Tryz.prog 9 (.string s)=some (.string s.toList):=by
 unfold keyOf mapKey; simp [Tryz.underlying9,hs,Lib.toList_data]
def jC (w:World) (b n:Nat) (f:List UInt8->Int):Prop:=
 ∃D:DataW Unit,w.ownsMap Tryz.prog 9 (plainElem Tryz.prog 3) b n D∧ ∀l,D.atKey (.string l) (.lit (.int .i64 0))= .lit (.int .i64 (f l))
def gT (w:World) (b n:Nat) (f:List UInt8->Bool):Prop:=
 ∃D:DataW Unit,w.ownsMap Tryz.prog 9 (plainElem Tryz.prog 4) b n D∧ ∀l,D.atKey (.string l) (.lit (.bool false))= .lit (.bool (f l))
theorem jC.made (w:World):jC (w.alloc (.map #[] 0)) w.heap.size 0 (fun _=>0):=⟨_,World.ownsMap_made w _ _ _,fun _=>rfl⟩
theorem gT.made (w:World):gT (w.alloc (.map #[] 0)) w.heap.size 0 (fun _=>false):=⟨_,World.ownsMap_made w _ _ _,fun _=>rfl⟩
theorem jC.lt {w:World} {b n:Nat} {f:List UInt8->Int} (h:jC w b n f):b < w.heap.size:=by obtain ⟨D,h,_⟩:=h; exact h.lt
theorem gT.lt {w:World} {b n:Nat} {f:List UInt8->Bool} (h:gT w b n f):b < w.heap.size:=by obtain ⟨D,h,_⟩:=h; exact h.lt
theorem jC.same {w w':World} {b n:Nat} {f:List UInt8->Int} (h:jC w b n f) (hb:w'.heap[b]? =w.heap[b]?):jC w' b n f:=by
 obtain ⟨D,⟨es,clock,h1,h2⟩,h3⟩:=h; exact ⟨D,⟨es,clock,hb.trans h1,h2⟩,h3⟩
theorem gT.same {w w':World} {b n:Nat} {f:List UInt8->Bool} (h:gT w b n f) (hb:w'.heap[b]? =w.heap[b]?):gT w' b n f:=by
 obtain ⟨D,⟨es,clock,h1,h2⟩,h3⟩:=h; exact ⟨D,⟨es,clock,hb.trans h1,h2⟩,h3⟩
theorem jC.next {w w':World} {b n:Nat} {f:List UInt8->Int} (h:jC w b n f) (hb:Below w.heap.size w w'):jC w' b n f:=h.same (hb.block b h.lt)
theorem gT.next {w w':World} {b n:Nat} {f:List UInt8->Bool} (h:gT w b n f) (hb:Below w.heap.size w w'):gT w' b n f:=h.same (hb.block b h.lt)
theorem XK (w:World):(zeroValue 3).run Tryz.prog w= .ok (.int .i64 0) w:=by kernel_rfl
theorem Vo (w:World):(zeroValue 4).run Tryz.prog w= .ok (.bool false) w:=by kernel_rfl
theorem aO1 {v:Int} (hv:bV v):(Lit.int .i64 v).wf=true:=by
 unfold Lit.wf; rw [Bool.and_eq_true,decide_eq_true_iff,decide_eq_true_iff]; exact hv
theorem jC.look {w:World} {b n:Nat} {f:List UInt8->Int} (h:jC w b n f) (s:ByteArray) (hs:s.size<=maxLen):
 (Instr.lookup 84 (.map (some b)) (.string s) false).run Tryz.prog w= .ok (.int .i64 (f s.toList)) w:=by
 obtain ⟨D,ho,hf⟩:=h;obtain ⟨c,hrun,hat,-⟩:=ho.lookup_int (t:=84) uH Tryz.underlying84 Tryz.underlying3 (XK w) (keyOf_str s hs);rw [hf] at hat;obtain rfl:f s.toList=c:=(Lit.int.inj (DataW.lit.inj hat)).2;exact hrun
theorem VT {H:Type} {v:Value} {x:Bool} {ps:List MemPlace} (hv:plainElem (H:=H) Tryz.prog 4 v=some (.lit (.bool x),ps)):v= .bool x:=by
 unfold plainElem at hv;generalize hu:Program.underlying Tryz.prog 4=u at hv;rw [Tryz.underlying4] at hu;subst hu;cases v with
 | bool y=>exact congrArg Value.bool (Lit.bool.inj (DataW.lit.inj (Prod.mk.inj (Option.some.inj hv)).1))
 | _=>exact absurd hv (by intro h; cases h)
theorem gT.look {w:World} {b n:Nat} {f:List UInt8->Bool} (h:gT w b n f) (s:ByteArray) (hs:s.size<=maxLen):
 (Instr.lookup 92 (.map (some b)) (.string s) false).run Tryz.prog w= .ok (.bool (f s.toList)) w:=by
 obtain ⟨D,ho,hf⟩:=h;obtain ⟨v,ps,hrun,hv⟩:=ho.lookup (t:=92) uH Tryz.underlying92 (Vo w) (plainElem_bool Tryz.underlying4 false) (keyOf_str s hs);rw [hf] at hv;have hv':v= .bool (f s.toList):=by exact VT hv
 rw [hrun,hv']
theorem jC.put {w:World} {b n:Nat} {f:List UInt8->Int} (h:jC w b n f) (hn:n < maxLen) (s:ByteArray) (hs:s.size<=maxLen) (v:Int) (hv:bV v):
 ∃w',(Instr.mapUpdate 84 (.map (some b)) (.string s) (.int .i64 v)).run Tryz.prog w= .ok () w'∧jC w' b (n + 1) (fun l=>if l=s.toList then v else f l)∧w.grownBy w' (some b):=by
 obtain ⟨D,ho,hf⟩:=h;obtain ⟨w',hrun,ho',hg⟩:=ho.update (t:=84) uH Tryz.underlying84 hn (keyOf_str s hs) (plainElem_int Tryz.underlying3 (a:=v) (aO1 hv));refine ⟨w',hrun,⟨_,ho',fun l=> ?_⟩,hg⟩;show _=DataW.lit (.int .i64 (if l=s.toList then v else f l));by_cases hl:l=s.toList
 ·subst hl; rw [if_pos rfl,Maps.atKey_put_same ho.isMap (uH.key (keyOf_str s hs))]
 ·rw [if_neg hl,Maps.atKey_put_other (by intro h; injection h with h; exact hl h),hf]
theorem gT.put {w:World} {b n:Nat} {f:List UInt8->Bool} (h:gT w b n f) (hn:n < maxLen) (s:ByteArray) (hs:s.size<=maxLen) (v:Bool):
 ∃w',(Instr.mapUpdate 92 (.map (some b)) (.string s) (.bool v)).run Tryz.prog w= .ok () w'∧gT w' b (n + 1) (fun l=>if l=s.toList then v else f l)∧w.grownBy w' (some b):=by
 obtain ⟨D,ho,hf⟩:=h;obtain ⟨w',hrun,ho',hg⟩:=ho.update (t:=92) uH Tryz.underlying92 hn (keyOf_str s hs) (plainElem_bool Tryz.underlying4 v);refine ⟨w',hrun,⟨_,ho',fun l=> ?_⟩,hg⟩;show _=DataW.lit (.bool (if l=s.toList then v else f l));by_cases hl:l=s.toList
 ·subst hl; rw [if_pos rfl,Maps.atKey_put_same ho.isMap (uH.key (keyOf_str s hs))]
 ·rw [if_neg hl,Maps.atKey_put_other (by intro h; injection h with h; exact hl h),hf]
namespace Md
def mD (pre:List De) (l:List UInt8):Int:=((pre.find? fun d=>d.nm.toList == l).map fH).getD 0
def dc (d:De) (c:Int):Int:=if d.kind == 1 || d.kind == 2 then c + max d.size 1 else c
def dl (d:De) (l:Int):Int:=if d.kind == 3 || d.kind == 4 then l + 1 else l
def dn (d:De) (n:Int):Int:=if d.kind == 5 then n + 1 else n
def df (d:De) (f:Int):Int:=if d.kind == 6 then f + 1 else f
def lim (c l n f:Int):Bool:=((decide (12 < c) || decide (4 < l)) || decide (2 < n)) || decide (2 < f)
def nH:List De->List De->Int->Int->Int->Int->Int × Int
 | [],_,_,_,_,_=>(0,0)
 | d ::r,pre,c,l,n,f=>
   if mD pre d.nm.toList != 0 then (4,d.line)
   else if decide (4 < d.size) then (2,d.line)
   else if lim (dc d c) (dl d l) (dn d n) (df d f) then (2,d.line)
   else if d.kind == 5 && mD pre d.on.toList == 0 then (5,d.line)
   else if d.kind == 5 && mD pre d.on.toList != 4 then (6,d.line)
   else nH r (pre++[d]) (dc d c) (dl d l) (dn d n) (df d f)
theorem Qy {pre:List De} {l:List UInt8} (h:(mD pre l != 0)=false):pre.find? (fun d=>d.nm.toList == l)=none:=by
 unfold mD at h;cases hf:pre.find? (fun d=>d.nm.toList == l) with
 | none=>rfl
 | some d=>rw [hf] at h; have:=Bo d; simp at h; omega
theorem Qz {pre:List De} {d:De} (h:(mD pre d.nm.toList != 0)=false) (l:List UInt8):(if l=d.nm.toList then fH d else mD pre l)=mD (pre++[d]) l:=by
 unfold mD;rw [List.find?_append];by_cases hl:l=d.nm.toList
 ·subst hl; rw [if_pos rfl,Qy h]; simp
 ·rw [if_neg hl];have:(d.nm.toList == l)=false:=by rw [beq_eq_false_iff_ne]; exact fun e=>hl e.symm
  simp [this]
theorem Rq (d:De):(fH d == 6)=(d.kind == 5):=by unfold fH; grind
theorem yR {d:De} (h:lM d=true):1<=d.kind∧d.kind<=6∧0<=d.size∧(d.size=0∨d.kind=1):=by
 unfold lM at h; simp at h; omega
theorem Lc (d:De) (r pre:List De) (c l n f:Int):nH (d ::r) pre c l n f=(if mD pre d.nm.toList != 0 then (4,d.line)
 else if decide (4 < d.size) then (2,d.line)
 else if lim (dc d c) (dl d l) (dn d n) (df d f) then (2,d.line)
 else if d.kind == 5 && mD pre d.on.toList == 0 then (5,d.line)
 else if d.kind == 5 && mD pre d.on.toList != 4 then (6,d.line)
 else nH r (pre++[d]) (dc d c) (dl d l) (dn d n) (df d f)):=rfl
end Md
theorem jC.congr {w:World} {b n:Nat} {f g:List UInt8->Int} (h:jC w b n f) (hfg: ∀l,f l=g l):jC w b n g:=by
 obtain ⟨D,h1,h2⟩:=h; exact ⟨D,h1,fun l=>by rw [h2,hfg]⟩
theorem gT.congr {w:World} {b n:Nat} {f g:List UInt8->Bool} (h:gT w b n f) (hfg: ∀l,f l=g l):gT w b n g:=by
 obtain ⟨D,h1,h2⟩:=h; exact ⟨D,h1,fun l=>by rw [h2,hfg]⟩
def aa6 (ds:List De) (w:World) (res:Int × Int) (g:Nat) (s5 s6 s7 s8 s15:Value) (wr:World):Prop:=
 ∃(k:Nat) (pre R:List De) (c l n f:Int),g=R.length∧s15= .int .i64 k∧pre++R=ds∧pre.length=k∧s5= .int .i64 c∧s6= .int .i64 l∧s7= .int .i64 n∧s8= .int .i64 f∧
  (0<=c∧c<=12∧0<=l∧l<=4∧0<=n∧n<=2∧0<=f∧f<=2)∧res=nH R pre c l n f∧jC wr w.heap.size k (mD pre)∧Below w.heap.size w wr
theorem Gq (ds:List De) (w:World) (ao:Option Addr) (cap:Nat) (hl:ds.length<=maxLen) (hat:gQ w w.heap.size ds ao 0) (hsh: ∀d ∈ ds,lM d=true):
 Calls Tryz.prog 52 #[.slice ao ds.length cap] w fun e w'=>e= .returned (.tuple #[.int .i64 (nH ds [] 0 0 0 0).1,.int .i64 (nH ds [] 0 0 0 0).2])∧Below w.heap.size w w':=by
 generalize hres:nH ds [] 0 0 0 0=res;have HR:=ah hres;have HAT:=ah hat;have MJ:=ah hsh;have hl':=hl;unfold maxLen at hl;clear hres hat hsh;have hmm:= @run_makeMap Tryz.prog;go_enter Tryz.func52,Tryz.ntmps52;go_wp2_with fail;go_loopg [5,6,7,8,10,11,15] ds.length (fun g s5 s6 s7 s8 _ _ s15 wr=>aa6 ds w res g s5 s6 s7 s8 s15 wr)
 case atStart=>exact ⟨0,[],ds,0,0,0,0,rfl,rfl,rfl,rfl,rfl,rfl,rfl,rfl,by decide,HR.o.symm,(jC.made w).congr (fun _=>rfl),au _ _⟩
 case round=>
  obtain ⟨k,pre,R,c,l,n,f,rfl,rfl,hds,hk,rfl,rfl,rfl,rfl,⟨q1,q2,l1,l2,n1,n2,f1,f2⟩,hr,hmap,hB⟩:=hrel;have HE:=ah hr;have HM:=ah hmap;have HB:=ah hB;clear hr hmap hB HR;have hlen:k + R.length=ds.length:=by rw [<- hds,List.length_append,hk]
  have hrow:=(HAT.o.below HB.o).drop k;rw [Nat.zero_add,<- hds,<- hk,List.drop_left] at hrow;rw [hk] at hrow;cases R with
  | nil=>
    obtain rfl:k=ds.length:=by simpa using hlen
    have HF:=ah (HE.o.trans (rfl:_=((0:Int),(0:Int))));clear HE hds hk hrow;go_wp2_with fail
    go_ret2
    exact ⟨mM (congrArg Prod.fst HF.o) (congrArg Prod.snd HF.o),HB.o⟩
  | cons d R=>
    have hsd:=yR (MJ.o d (by rw [<- hds]; simp));have uK:=ah hds;have HK:=ah hk;clear hds hk;obtain ⟨⟨b,off,rfl,nM,x0,x1,x2,x3,x4,x5,hok⟩,-⟩:=hrow;simp only [List.length_cons] at hlen;have hkl:k < ds.length:=by omega
    obtain ⟨g1,g2,g3,g4⟩:=hsd;rw [Lc] at HE;go_upto_region 6 with fail;obtain ⟨nb,hnb⟩: ∃n,wr.heap.size=n:=⟨_,rfl⟩;generalize hW2:World.alloc wr _=W2;have HB2:aj (Below w.heap.size w W2):=ah (by rw [<- hW2]; exact HB.o.alloc HB.o.size _);have HY:aj (Sit wr W2 [(nb,0,.int .i64 d.kind),(nb,1,.int .i64 d.line),(nb,2,.string d.nm),(nb,3,.int .i64 d.size),(nb,4,.int .i64 d.init),(nb,5,.string d.on)]):=ah (by rw [<- hW2]; exact (Sit.start wr).VU hnb _ _ _ _ _ _ _);have Mt:=ah (HM.o.next HY.o.1);rw [hnb];clear hW2 hnb x0 x1 x2 x3 x4 x5 HM HB;obtain ⟨-,⟨-,c0⟩,⟨-,c1⟩,⟨-,c2⟩,⟨-,c3⟩,⟨-,c4⟩,⟨-,c5⟩,-⟩:=HY.o;have hk1:=Mt.o.look d.nm hok.2.2.1;cases h0:(mD pre d.nm.toList != 0)
    case true=>
     as_aux_lemma=>
      have HF:=ah (HE.o.trans (if_pos h0));go_wp2_with fail;go_quiet (fail);go_wp2_with fail
      go_ret2
      exact ⟨mM (congrArg Prod.fst HF.o) (congrArg Prod.snd HF.o),below_drewN HB2.o _⟩
    have HE2:=ah (HE.o.trans (if_neg (by rw [h0]; decide)));clear HE;go_upto_region 8 with fail;cases h1:decide (4 < d.size)
    case true=>
     as_aux_lemma=>
      have HF:=ah (HE2.o.trans (if_pos h1));have h1':4 < d.size:=(by simpa using h1);go_wp2_with fail;go_quiet (fail);go_wp2_with fail
      go_ret2
      exact ⟨mM (congrArg Prod.fst HF.o) (congrArg Prod.snd HF.o),below_drewN HB2.o _⟩
    have iy:=ah (HE2.o.trans (if_neg (by rw [h1]; decide)));have h1':d.size<=4:=by simpa using h1
    clear HE2 h1;go_upto_region 10 with fail;go_wp2_with fail;refine (Cg d _).mono ?_;rintro e w3 ⟨rfl,hb3⟩;have HZ:=ah (HY.o.next hb3);have HB3:=ah (HB2.o.trans (hb3.mono HB2.o.size));have FK:=ah (Mt.o.next hb3);clear hb3 HY HB2 Mt c0 c1 c2 c3 c4 c5 hk1;have HFV:=ah (Rq d);have HDM:aj (∃m,fH d=m):=ah ⟨_,rfl⟩;obtain ⟨-,⟨-,c0⟩,⟨-,c1⟩,⟨-,c2⟩,⟨-,c3⟩,⟨-,c4⟩,⟨-,c5⟩,-⟩:=HZ.o;go_upto_block 2 with (fail);go_cut [5,6,7,8,11,33] (fun s5 s6 s7 s8 s11 _ W3=>w3=W3∧s11= .int .i64 (fH d)∧s5= .int .i64 (dc d c)∧s6= .int .i64 (dl d l)∧s7= .int .i64 (dn d n)∧s8= .int .i64 (df d f))
    case first=>
     as_aux_lemma=>
      have hkd:d.kind=1∨d.kind=2∨d.kind=3∨d.kind=4∨d.kind=5∨d.kind=6:=(by omega);rcases hkd with hkd | hkd | hkd | hkd | hkd | hkd
      ·by_cases hs0:d.size=0
       ·have hm:fH d=2:=(by simp [fH,hkd,hs0]);have HA:aj (dc d c=c + 1∧dl d l=l∧dn d n=n∧df d f=f):=ah (by simp [dc,dl,dn,df,hkd,hs0] <;> first | rfl | omega);have BM:=ah hm;rw [hm];clear hm hkd hs0;go_wp2_with fail;go_meet;exact ⟨rfl,by rw [BM.o],by rw [HA.o.1],by rw [HA.o.2.1],by rw [HA.o.2.2.1],by rw [HA.o.2.2.2]⟩
       ·have hm:fH d=3:=(by simp [fH,hkd,hs0]);have HA:aj (dc d c=c + d.size∧dl d l=l∧dn d n=n∧df d f=f):=ah (by simp [dc,dl,dn,df,hkd] <;> first | rfl | omega);have BM:=ah hm;rw [hm];clear hm hkd hs0;go_wp2_with fail;go_meet;exact ⟨rfl,by rw [BM.o],by rw [HA.o.1],by rw [HA.o.2.1],by rw [HA.o.2.2.1],by rw [HA.o.2.2.2]⟩
      ·have hs0:d.size=0:=(by omega);have hm:fH d=2:=(by simp [fH,hkd]);have HA:aj (dc d c=c + 1∧dl d l=l∧dn d n=n∧df d f=f):=ah (by simp [dc,dl,dn,df,hkd,hs0] <;> first | rfl | omega);have BM:=ah hm;rw [hm];clear hm hkd hs0;go_wp2_with fail;go_meet;exact ⟨rfl,by rw [BM.o],by rw [HA.o.1],by rw [HA.o.2.1],by rw [HA.o.2.2.1],by rw [HA.o.2.2.2]⟩
      ·have hm:fH d=4:=(by simp [fH,hkd]);have HA:aj (dc d c=c∧dl d l=l + 1∧dn d n=n∧df d f=f):=ah (by simp [dc,dl,dn,df,hkd]);have BM:=ah hm;rw [hm];clear hm hkd;go_wp2_with fail;go_meet;exact ⟨rfl,by rw [BM.o],by rw [HA.o.1],by rw [HA.o.2.1],by rw [HA.o.2.2.1],by rw [HA.o.2.2.2]⟩
      ·have hm:fH d=5:=(by simp [fH,hkd]);have HA:aj (dc d c=c∧dl d l=l + 1∧dn d n=n∧df d f=f):=ah (by simp [dc,dl,dn,df,hkd]);have BM:=ah hm;rw [hm];clear hm hkd;go_wp2_with fail;go_meet;exact ⟨rfl,by rw [BM.o],by rw [HA.o.1],by rw [HA.o.2.1],by rw [HA.o.2.2.1],by rw [HA.o.2.2.2]⟩
      ·have hm:fH d=6:=(by simp [fH,hkd]);have HA:aj (dc d c=c∧dl d l=l∧dn d n=n + 1∧df d f=f):=ah (by simp [dc,dl,dn,df,hkd]);have BM:=ah hm;rw [hm];clear hm hkd;go_wp2_with fail;go_meet;exact ⟨rfl,by rw [BM.o],by rw [HA.o.1],by rw [HA.o.2.1],by rw [HA.o.2.2.1],by rw [HA.o.2.2.2]⟩
      ·have hm:fH d=7:=(by simp [fH,hkd]);have HA:aj (dc d c=c∧dl d l=l∧dn d n=n∧df d f=f + 1):=ah (by simp [dc,dl,dn,df,hkd]);have BM:=ah hm;rw [hm];clear hm hkd;go_wp2_with fail;go_meet;exact ⟨rfl,by rw [BM.o],by rw [HA.o.1],by rw [HA.o.2.1],by rw [HA.o.2.2.1],by rw [HA.o.2.2.2]⟩
    obtain ⟨rfl,rfl,rfl,rfl,rfl,rfl⟩:=hcut;have hc':0<=dc d c∧dc d c<=16:=by unfold dc; split <;> omega
    have hl'':0<=dl d l∧dl d l<=5:=by unfold dl; split <;> omega
    have hn':0<=dn d n∧dn d n<=3:=by unfold dn; split <;> omega
    have hf':0<=df d f∧df d f<=3:=by unfold df; split <;> omega
    generalize hcc:dc d c=c' at *;generalize hll:dl d l=l' at *;generalize hnn:dn d n=n' at *;generalize Yy:df d f=f' at *;clear hcc hll hnn Yy;go_upto_region 23 with fail;go_cut [70] (fun s' W3=>w3=W3∧s'= .bool (lim c' l' n' f'))
    case first=>
     as_aux_lemma=>
      have HF:aj (lim c' l' n' f'=(((decide (12 < c') || decide (4 < l')) || decide (2 < n')) || decide (2 < f'))):=ah rfl;go_wp2_with fail
      all_goals go_meet
      all_goals exact ⟨rfl,by first | (rw [HF.o]; done) | (rw [HF.o]; congr 1; go_light; grind)⟩
    obtain ⟨rfl,rfl⟩:=hcut;cases h2:lim c' l' n' f'
    case true=>
     as_aux_lemma=>
      have HF:=ah (iy.o.trans (if_pos h2));go_wp2_with fail;go_quiet (fail);go_wp2_with fail
      go_ret2
      exact ⟨mM (congrArg Prod.fst HF.o) (congrArg Prod.snd HF.o),below_drewN HB3.o _⟩
    have qE:=ah (iy.o.trans (if_neg (by rw [h2]; decide)));have hlim:c'<=12∧l'<=4∧n'<=2∧f'<=2:=by unfold lim at h2; simp at h2; omega
    clear iy h2;have hkm:k < maxLen:=by omega
    cases h5:(d.kind == 5)
    ·have h6:(fH d == 6)=false:=HFV.o.trans h5;have HF:=ah (qE.o.trans ((if_neg (by rw [h5]; simp)).trans (if_neg (by rw [h5]; simp))));clear qE;obtain ⟨w4,hup,ug,hg4⟩:=FK.o.put (by omega) d.nm hok.2.2.1 (fH d) (by have:=Bo d; unfold bV; omega);have zq:=ah ((ug.congr (Qz h0)));have dG:=ah (HB3.o.trans (bK hg4 (Nat.le_refl _) HB3.o.size));clear ug hg4;go_wp2_with fail;go_roundg R.length
     case measure=>simp
     case rel=>exact ⟨k + 1,pre++[d],R,c',l',n',f',rfl,by go_num,by rw [List.append_assoc]; exact uK.o,by rw [List.length_append,HK.o]; rfl,rfl,rfl,rfl,rfl,by omega,HF.o,zq.o,dG.o⟩
    ·have h6:(fH d == 6)=true:=HFV.o.trans h5;have hk2:=FK.o.look d.on hok.2.2.2.2.2;generalize hmo:mD pre d.on.toList=mo at *;clear hmo;cases h7:(mo == 0)
     case true=>
      as_aux_lemma=>
       have HF:=ah (qE.o.trans (if_pos (by rw [h5,h7]; rfl)));go_wp2_with fail;go_quiet (fail);go_wp2_with fail
       go_ret2
       exact ⟨mM (congrArg Prod.fst HF.o) (congrArg Prod.snd HF.o),below_drewN HB3.o _⟩
     have zm:=ah (qE.o.trans (if_neg (by rw [h5,h7]; decide)));clear qE;cases h8:(mo != 4)
     case true=>
      as_aux_lemma=>
       have HF:=ah (zm.o.trans (if_pos (by rw [h5,h8]; rfl)));go_wp2_with fail;go_quiet (fail);go_wp2_with fail
       go_ret2
       exact ⟨mM (congrArg Prod.fst HF.o) (congrArg Prod.snd HF.o),below_drewN HB3.o _⟩
     have HF:=ah (zm.o.trans (if_neg (by rw [h5,h8]; decide)));clear zm;obtain ⟨w4,hup,ug,hg4⟩:=FK.o.put (by omega) d.nm hok.2.2.1 (fH d) (by have:=Bo d; unfold bV; omega);have zq:=ah ((ug.congr (Qz h0)));have dG:=ah (HB3.o.trans (bK hg4 (Nat.le_refl _) HB3.o.size));clear ug hg4;go_wp2_with fail;go_roundg R.length
     case measure=>simp
     case rel=>exact ⟨k + 1,pre++[d],R,c',l',n',f',rfl,by go_num,by rw [List.append_assoc]; exact uK.o,by rw [List.length_append,HK.o]; rfl,rfl,rfl,rfl,rfl,by omega,HF.o,zq.o,dG.o⟩
namespace Md
def sU (ds:List De) (l:List UInt8):Bool:=ds.any fun d=>d.nm.toList == l
def xg (ts:List Th) (l:List UInt8):Bool:=ts.any fun t=>t.nm.toList == l
def EL (tx:List ByteArray) (l:List UInt8):Bool:=tx.any fun s=>s.toList == l
def OD (ds:List De):List Th->List Th->Option Int
 | [],_=>none
 | t ::r,pre=>if sU ds t.nm.toList || xg pre t.nm.toList then some t.line else OD ds r (pre++[t])
def Br (ds:List De) (ts:List Th):List ByteArray->List ByteArray->Bool
 | [],_=>false
 | s ::r,pre=>((sU ds s.toList || xg ts s.toList) || EL pre s.toList) || Br ds ts r (pre++[s])
def F6 (ds:List De) (ts:List Th):List Th->Int × Int
 | []=>(0,0)
 | t ::r=>if decide ((4:Int) < t.cu.length) then (2,t.line) else if Br ds ts t.cu [] then (4,t.line) else F6 ds ts r
def qh (p:Pr):Int × Int:=match OD p.ds p.ts [] with
 | some l=>(4,l)
 | none=>F6 p.ds p.ts p.ts
theorem SB (pre:List De) (d:De) (l:List UInt8):(if l=d.nm.toList then true else sU pre l)=sU (pre++[d]) l:=by
 unfold sU; rw [List.any_append]; by_cases h:l=d.nm.toList
 ·subst h; simp
 ·rw [if_neg h]; have:(d.nm.toList == l)=false:=by rw [beq_eq_false_iff_ne]; exact fun e=>h e.symm
  simp [this]
theorem SC (ds:List De) (pre:List Th) (t:Th) (l:List UInt8):(if l=t.nm.toList then true else (sU ds l || xg pre l))=(sU ds l || xg (pre++[t]) l):=by
 unfold xg; rw [List.any_append]; by_cases h:l=t.nm.toList
 ·subst h; simp
 ·rw [if_neg h]; have:(t.nm.toList == l)=false:=by rw [beq_eq_false_iff_ne]; exact fun e=>h e.symm
  simp [this]
end Md
theorem Holds.grown {W W':World} {bm:Nat} (hg:W.grownBy W' (some bm)): ∀ {l:List (Nat × Nat × Value)},(∀f ∈ l,f.1≠bm)->Holds W l->Holds W' l
 | [],_,_=>trivial
 | f ::_,hne,⟨⟨h1,h2⟩,h3⟩=>⟨⟨Nat.lt_of_lt_of_le h1 hg.size,(World.cell?_of_block (a:=⟨f.1,f.2.1,none⟩) (hg.block f.1 h1 (by have:=hne f (by simp); simp; exact this))).trans h2⟩,Holds.grown hg (fun x hx=>hne x (by simp [hx])) h3⟩
theorem Sit.grown {w W W':World} {fs:List (Nat × Nat × Value)} {bm:Nat} (h:Sit w W fs) (hg:W.grownBy W' (some bm)) (hb:w.heap.size<=bm) (hne: ∀f ∈ fs,f.1≠bm):Sit w W' fs:=
 ⟨h.1.trans (bK hg hb h.1.size),h.2.grown hg hne⟩
theorem Pt (p:Pr) (w:World) (aG aH:Option Addr) (aB aD:Nat) (hp:p.At w aG aH) (hsum:p.ds.length + p.ts.length < maxLen):
 Calls Tryz.prog 53 #[.agg #[.slice aG p.ds.length aB,.slice aH p.ts.length aD]] w fun e w'=>e= .returned (.tuple #[.int .i64 (qh p).1,.int .i64 (qh p).2])∧Below w.heap.size w w':=by
 have HR:aj (qh p=match OD p.ds p.ts [] with | some l=>(4,l) | none=>F6 p.ds p.ts p.ts):=ah rfl;generalize qh p=res at *;have hld:=hp.1;have hlt:=hp.2.1;unfold maxLen at hld hlt;have HP:=ah hp;clear hp;have hmm:= @run_makeMap Tryz.prog;go_enter Tryz.func53,Tryz.ntmps53;go_upto_region 1 with fail;generalize hW:World.alloc w _=W;generalize Value.agg #[_,_]=a0;have HX:=ah ((Sit.start w).JI rfl (.slice aG p.ds.length aB) (.slice aH p.ts.length aD) 38);rw [hW] at HX;have hsz:W.heap.size=w.heap.size + 1:=by rw [<- hW]; simp
 clear hW;go_upto_region 2 with fail;have HM:=ah (gT.made W);have HY:=ah (HX.o.next (au W (.map #[] 0)));rw [hsz] at HM;generalize World.alloc W _=W1 at *;clear HX hsz;obtain ⟨-,⟨-,c0⟩,⟨-,c1⟩,-⟩:=HY.o;go_wp2_with fail;go_loopw [6,19] (fun _ s wr=> ∃(k:Nat) (pre R:List De),s= .int .i64 k∧pre++R=p.ds∧pre.length=k∧gT wr (w.heap.size + 1) k (sU pre)∧Sit w wr [(w.heap.size,0,(.slice aG p.ds.length aB)),(w.heap.size,1,(.slice aH p.ts.length aD))]) (fun _ s _=>p.ds.length - (intOf s).toNat)
 case atStart=>exact ⟨0,[],p.ds,rfl,rfl,rfl,HM.o.congr (fun _=>rfl),HY.o⟩
 case round=>
  obtain ⟨k,pre,R,rfl,hds,hk,hmap,hsit⟩:=hrel;have HZ:=ah hsit;have Mt:=ah hmap;clear hsit hmap HY HM c0 c1;have hlen:k + R.length=p.ds.length:=by rw [<- hds,List.length_append,hk]
  have hrow:=(HP.o.2.2.1.below HZ.o.1).drop k;rw [Nat.zero_add,<- hds,<- hk,List.drop_left] at hrow;rw [hk] at hrow;have uK:=ah hds;have HK:=ah hk;clear hds hk;cases R with
  | cons d R=>
    obtain ⟨⟨b,off,rfl,nM,x0,x1,x2,x3,x4,x5,hok⟩,-⟩:=hrow;simp only [List.length_cons] at hlen;have hkl:k < p.ds.length:=by omega
    have hba:=au wr (.cells #[.int .i64 d.kind,.int .i64 d.line,.string d.nm,.int .i64 d.size,.int .i64 d.init,.string d.on] 86);obtain ⟨w4,hup,ug,hg4⟩:=(Mt.o.next hba).put (by omega) d.nm hok.2.2.1 true;have zq:=ah (ug.congr (SB pre d));have iN:=ah ((HZ.o.next hba).grown hg4 (by omega) (by simp));clear ug hg4 hba hok;go_wp2_with fail;go_roundw
    case rel=>exact ⟨k + 1,pre++[d],R,by go_num,by rw [List.append_assoc]; exact uK.o,by rw [List.length_append,HK.o]; rfl,zq.o,iN.o⟩
    case measure=>simp [intOf]; omega
  | nil=>
    obtain rfl:k=p.ds.length:=by simpa using hlen
    have hpre:pre=p.ds:=by rw [<- uK.o,List.append_nil]
    subst hpre;obtain ⟨-,⟨-,c0⟩,⟨-,c1⟩,-⟩:=HZ.o;clear hrow hlen uK HK;go_wp2_with fail;go_loopw [8,30] (fun _ s wr=> ∃(k:Nat) (pre R:List Th),s= .int .i64 k∧pre++R=p.ts∧pre.length=k∧OD p.ds p.ts []=OD p.ds R pre∧gT wr (w.heap.size + 1) (p.ds.length + k) (fun l=>sU p.ds l || xg pre l)∧Sit w wr [(w.heap.size,0,(.slice aG p.ds.length aB)),(w.heap.size,1,(.slice aH p.ts.length aD))]) (fun _ s _=>p.ts.length - (intOf s).toNat)
    case atStart=>exact ⟨0,[],p.ts,rfl,rfl,rfl,rfl,Mt.o.congr (fun l=>by simp [xg]),HZ.o⟩
    case round=>
     obtain ⟨k,pre,R,rfl,hds,hk,heq,hmap,hsit⟩:=hrel;have HU:=ah hsit;have FK:=ah hmap;have HE:=ah heq;clear hsit hmap HZ Mt c0 c1 heq;have hlen:k + R.length=p.ts.length:=(by rw [<- hds,List.length_append,hk]);have hrow:=(HP.o.2.2.2.below HU.o.1).drop k;rw [Nat.zero_add,<- hds,<- hk,List.drop_left] at hrow;rw [hk] at hrow;have uK:=ah hds;have HK:=ah hk;clear hds hk;cases R with
     | cons t R=>
       obtain ⟨⟨b,off,eZ,dM,cK,aZ,rfl,hB,x0,x1,x2,x3,hok,htx,hst⟩,-⟩:=hrow;simp only [List.length_cons] at hlen;have hkl:k < p.ts.length:=(by omega);have hba:=au wr (.cells #[.string t.nm,.int .i64 t.line,.slice eZ t.cu.length dM,.slice cK t.body.len aZ] 71);have zq:=ah (FK.o.next hba);have hlk:=zq.o.look t.nm hok.1;have HB3:=ah (HU.o.next hba).1;cases Un:(sU p.ds t.nm.toList || xg pre t.nm.toList)
       ·obtain ⟨w4,hup,ug,hg4⟩:=zq.o.put (by omega) t.nm hok.1 true;have XY:=ah (ug.congr (SC p.ds pre t));have HU4:=ah ((HU.o.next hba).grown hg4 (by omega) (by simp));have dV:=ah (HE.o.trans (if_neg (by rw [Un]; decide)));clear ug hg4 hba hok htx hst;go_wp2_with fail;go_roundw
        case rel=>exact ⟨k + 1,pre++[t],R,by go_num,by rw [List.append_assoc]; exact uK.o,by rw [List.length_append,HK.o]; rfl,dV.o,XY.o,HU4.o⟩
        case measure=>simp [intOf]; omega
       ·have HF:aj (res=(4,t.line)):=ah (HR.o.trans (by rw [HE.o.trans (if_pos Un)]));clear hba hok htx hst;go_wp2_with fail;go_quiet (fail);go_wp2_with fail
        go_ret2
        exact ⟨mM (congrArg Prod.fst HF.o) (congrArg Prod.snd HF.o),below_drewN HB3.o _⟩
     | nil=>
       obtain rfl:k=p.ts.length:=(by simpa using hlen);have hpre:pre=p.ts:=(by rw [<- uK.o,List.append_nil]);subst hpre;have HR2:aj (res=F6 p.ds p.ts p.ts):=ah (HR.o.trans (by rw [HE.o]; rfl));obtain ⟨-,⟨-,c0⟩,⟨-,c1⟩,-⟩:=HU.o;clear hrow hlen uK HK HE HR;generalize Yy:(fun l=>sU p.ds l || xg p.ts l)=ff at *;have I5:=ah Yy;clear Yy;have hth:=HP.o.2.2.2.below HU.o.1;go_wp2_with fail;go_loopw [10,11,12,14,47,60,75] (fun _ _ _ _ s _ _ wr=> ∃(k:Nat) (R:List Th),s= .int .i64 k∧k + R.length=p.ts.length∧F6 p.ds p.ts p.ts=F6 p.ds p.ts R∧gF wr w.heap.size R aH k∧gT wr (w.heap.size + 1) (p.ds.length + p.ts.length) ff∧Sit w wr [(w.heap.size,0,(.slice aG p.ds.length aB)),(w.heap.size,1,(.slice aH p.ts.length aD))]) (fun _ _ _ _ s _ _ _=>p.ts.length - (intOf s).toNat)
       case atStart=>exact ⟨0,p.ts,rfl,by simp,rfl,hth,FK.o,HU.o⟩
       case round=>
        obtain ⟨k,R,rfl,hlen,heq,hrow,hmap,hsit⟩:=hrel;have HV:=ah hsit;have zq:=ah hmap;have HE:=ah (HR2.o.trans heq);have yu:=ah heq;clear hsit hmap HU FK c0 c1 heq hth;cases R with
        | nil=>
          obtain rfl:k=p.ts.length:=(by simpa using hlen);have HF:=ah (HE.o.trans (rfl:_=((0:Int),(0:Int))));go_wp2_with fail
          go_ret2
          exact ⟨mM (congrArg Prod.fst HF.o) (congrArg Prod.snd HF.o),HV.o.1⟩
        | cons t R=>
          obtain ⟨⟨b,off,eZ,dM,cK,aZ,rfl,hB,x0,x1,x2,x3,hok,htx,hst⟩,hrest⟩:=hrow;simp only [List.length_cons] at hlen;have hkl:k < p.ts.length:=(by omega);have hll:=hok.2.2.1;have hcl:=hst.2;unfold maxLen at hll;clear hst hok;go_upto_region 17 with fail;obtain ⟨nb,hnb⟩: ∃n,wr.heap.size=n:=⟨_,rfl⟩;generalize hW2:World.alloc wr _=W2;have Ku:aj (Below wr.heap.size wr W2):=ah (by rw [<- hW2]; exact au _ _);have HY:aj (Sit wr W2 [(nb,0,.string t.nm),(nb,1,.int .i64 t.line),(nb,2,.slice eZ t.cu.length dM),(nb,3,.slice cK t.body.len aZ)]):=ah (by rw [<- hW2]; exact (Sit.start wr).Gj hnb _ _ _ _ _);have FM:=ah (HV.o.next Ku.o);have XY:=ah (zq.o.next Ku.o);have HB3:=ah FM.o.1;have BR:=ah (htx.below (Ku.o.mono HV.o.1.size));have gU:=ah (hrest.below (Ku.o.mono HV.o.1.size));rw [hnb];clear hW2 hnb x0 x1 x2 x3 zq HV htx hrest Ku;obtain ⟨-,⟨-,c0⟩,⟨-,c1⟩,⟨-,c2⟩,⟨-,c3⟩,-⟩:=HY.o;cases h1:decide ((4:Int) < t.cu.length)
          case true=>
           as_aux_lemma=>
            have HF:=ah (HE.o.trans (if_pos h1));have h1':4 < t.cu.length:=(by simp at h1; omega);clear h1;go_wp2_with fail;go_quiet (fail);go_wp2_with fail
            go_ret2
            exact ⟨mM (congrArg Prod.fst HF.o) (congrArg Prod.snd HF.o),below_drewN HB3.o _⟩
          have HE2:=ah (HE.o.trans (if_neg (by rw [h1]; decide)));have iy:=ah (yu.o.trans (if_neg (by rw [h1]; decide)));have h1':t.cu.length<=4:=(by simp at h1; omega);clear HE yu h1;go_wp2_with fail;go_loop [11,12,14,60,75] (fun _ _ _ s _=> ∃(k':Nat) (pre R':List ByteArray),s= .int .i64 k'∧pre++R'=t.cu∧pre.length=k'∧Br p.ds p.ts t.cu []=Br p.ds p.ts R' pre) (fun _ _ _ s _=>t.cu.length - (intOf s).toNat)
          case atStart=>exact ⟨0,[],t.cu,rfl,rfl,rfl,rfl⟩
          case round=>
           obtain ⟨k',pre,R',rfl,hds,hk',heq'⟩:=hrel;have dV:=ah heq';have hlen':k' + R'.length=t.cu.length:=(by rw [<- hds,List.length_append,hk']);have hrow:=BR.o.drop k';rw [Nat.zero_add,<- hds,<- hk',List.drop_left] at hrow;rw [hk'] at hrow;have KE:=ah ((hds ▸ BR.o:dU W2 w.heap.size (pre++R') eZ 0).take);have uK:=ah hds;have HK:=ah hk';clear hds hk' heq';cases R' with
           | nil=>
             obtain rfl:k'=t.cu.length:=(by simpa using hlen');have HF:=ah (iy.o.trans (if_neg (by rw [dV.o]; simp [Br])));go_wp2_with fail;go_roundw
             case rel=>exact ⟨k + 1,R,by go_num,by omega,HF.o,gU.o,XY.o,FM.o⟩
             case measure=>simp [intOf]; omega
           | cons s R'=>
             obtain ⟨⟨b',off',rfl,hB',y0,hs⟩,-⟩:=hrow;simp only [List.length_cons] at hlen';have hkl':k' < t.cu.length:=(by omega);have hlk:=XY.o.look s hs;have hfs:ff s.toList=(sU p.ds s.toList || xg p.ts s.toList):=(by rw [<- I5.o]);cases Un:ff s.toList
             case true=>
              as_aux_lemma=>
               have HF:=ah (HE2.o.trans (if_pos (by rw [dV.o]; unfold Br; rw [<- hfs,Un]; rfl)));clear hfs;go_wp2_with fail;go_quiet (fail);go_wp2_with fail
               go_ret2
               exact ⟨mM (congrArg Prod.fst HF.o) (congrArg Prod.snd HF.o),below_drewN HB3.o _⟩
             have qE:aj (Br p.ds p.ts t.cu []=(EL pre s.toList || Br p.ds p.ts R' (pre++[s]))):=ah (dV.o.trans (by rw [Br,<- hfs,Un]; rfl));clear hfs dV;have hk0:(0:Int)<=k':=(by omega);have hk2:k'<=dM:=(by omega);go_wp2_with fail;go_loop [14,75] (fun _ s'=> ∃(k'':Nat) (Q:List ByteArray),s'= .int .i64 k''∧k'' + Q.length=k'∧EL pre s.toList=EL Q s.toList∧dU W2 w.heap.size Q (some ⟨b',off',none⟩) k'') (fun _ s'=>k' - (intOf s').toNat)
             case atStart=>exact ⟨0,pre,rfl,by rw [Nat.zero_add]; exact HK.o,rfl,KE.o⟩
             case round=>
              obtain ⟨k'',Q,rfl,Ui,heq'',ak9⟩:=hrel;have HQ:=ah heq'';clear heq'';cases Q with
              | nil=>
                obtain rfl:k''=k':=(by simpa using Ui);have HF:=ah (qE.o.trans (by rw [HQ.o]; rfl:_=Br p.ds p.ts R' (pre++[s])));go_wp2_with fail;go_round
                case rel=>exact ⟨k'' + 1,pre++[s],R',by go_num,by rw [List.append_assoc]; exact uK.o,by rw [List.length_append,HK.o]; rfl,HF.o⟩
                case measure=>simp [intOf]; omega
              | cons q Q=>
                obtain ⟨⟨b2,off2,hbe,hB2,z0,hq⟩,hrest''⟩:=ak9;obtain ⟨rfl,rfl⟩:b'=b2∧off'=off2:=(by injection hbe with h; injection h with h1 h2; exact ⟨h1,h2⟩);simp only [List.length_cons] at Ui;have aZ0:k'' < k':=(by omega);clear hbe;have mF:aj (EL pre s.toList=((q.toList == s.toList) || EL Q s.toList)):=ah (HQ.o.trans (by simp [EL]));cases hc:(q.toList == s.toList)
                ·have hc':(s.toList == q.toList)=false:=(by rw [beq_eq_false_iff_ne] at hc ⊢; exact fun e=>hc e.symm);have HF:=ah (mF.o.trans (by rw [hc]; rfl:_=EL Q s.toList));go_wp2_with fail;go_round
                 case rel=>exact ⟨k'' + 1,Q,by go_num,by omega,HF.o,hrest''⟩
                 case measure=>simp [intOf]; omega
                ·have hc':(s.toList == q.toList)=true:=(by rw [beq_iff_eq] at hc ⊢; exact hc.symm);have HF:=ah (HE2.o.trans (if_pos (by rw [qE.o,mF.o,hc]; rfl)));go_wp2_with fail;go_quiet (fail);go_wp2_with fail
                 go_ret2
                 exact ⟨mM (congrArg Prod.fst HF.o) (congrArg Prod.snd HF.o),below_drewN HB3.o _⟩
end Go.Proofs.YtgjmahnblcajbaaGreatDoor
