/- Contracts of check.declared and check.meaning. And what hangs on it. -/
import Derived.Test.YtkmllehjemjgpaaGreatDoorGMA
import Derived.Test.YtkmllehjemjgpaaGreatDoorGMC
import Derived.Deep.CutBlock
import Derived.Test.YtkmllehjemjgpaaGreatDoorGMB
import Derived.Maps.Own
import Derived.Maps.OwnSet
import Derived.Maps.Views
set_option linter.unusedSimpArgs false
set_option linter.unusedVariables false
set_option maxHeartbeats 40000000
set_option maxRecDepth 1000000
namespace Go.Proofs.YtkmllehjemjgpaaGreatDoor
open Go.RowKit
open Md
theorem Cw (d:De) (w:World):
 Calls Tryz.prog 48 #[.agg #[.int .i64 d.kind,.int .i64 d.line,.string d.nm,.int .i64 d.size,.int .i64 d.init,.string d.on]] w λe w'=>e= .returned (.int .i64 (eO d))∧Below w.heap.size w w':=by
 unfold eO;go_enter Tryz.func48,Tryz.ntmps48;go_wp2
 all_goals go_ret
 all_goals refine⟨aV ?_,ak _ _⟩
 all_goals first|(simp[*];done)|(go_light;grind)
theorem Sz (s:ByteArray) (r:List ByteArray) (nm:ByteArray):qm (s::r) nm=((s.toList==nm.toList)||qm r nm):=by simp[qm]
theorem SF (d:De) (r:List De) (nm:ByteArray):oN (d::r) nm=if d.nm.toList==nm.toList then some (eO d)else oN r nm:=by
 unfold oN;rw[List.find?_cons];cases h:(d.nm.toList==nm.toList) <;> simp
theorem SG (t:Th) (r:List Th) (nm:ByteArray):qV (t::r) nm=if t.nm.toList==nm.toList then 8 else qV r nm:=by
 unfold qV;rw[List.any_cons];cases h:(t.nm.toList==nm.toList) <;> simp
theorem GU {ts:List Th} {i:Int} (h: ¬(0<=i∧i<ts.length)):pO ts i=[]:=by
 unfold pO;split
 ·rw[List.getElem?_eq_none (by omega)];rfl
 ·rfl
theorem JD {ts:List Th} {i:Nat} {t:Th} {r:List Th} (h:ts.drop i=t::r):pO ts (i:Int)=t.bg:=by
 have h2:ts[i]? =some t:=by have:=List.getElem?_drop (xs:=ts) (i:=i) (j:=0);rw[h]at this;simpa using this.symm
 unfold pO;rw[if_pos (by omega)];simp[h2]
theorem PN (p:Pr) (i:Int) (nm:ByteArray) (w:World) (aB aD:Option Addr) (aA ay:Nat) (hi:fD i) (hp:p.At w aB aD):
 Calls Tryz.prog 156 #[.agg #[.slice aB p.ds.length aA,.slice aD p.ts.length ay],.int .i64 i,.string nm] w λe w'=>e= .returned (.int .i64 (mean p i nm))∧Below w.heap.size w w':=by
 obtain⟨i1,i2⟩:=hi;have hld:=hp.1;have hlt:=hp.2.1;unfold maxLen at hld hlt;have HP:=ah hp;clear hp;go_enter Tryz.func156,Tryz.ntmps156;go_upto_region 1 with fail;generalize hW:World.alloc w _=W;generalize Value.agg #[_,_]=a0;have HX:=ah ((Sit.start w).vg rfl (.slice aB p.ds.length aA) (.slice aD p.ts.length ay) 25);rw[hW]at HX;clear hW;obtain⟨-,⟨-,c0⟩,⟨-,c1⟩,-⟩:=HX.o;go_cut [21] (λs W2=>W=W2∧∃b,s= .bool b∧decide (0<=i∧i<p.ts.length)=b)
 case first=>
  go_wp2_with fail
  all_goals go_meet
  all_goals exact⟨rfl,_,rfl,by go_light;grind⟩
 obtain⟨rfl,bi,rfl,hbi⟩:=hcut;have HBI:=ah hbi;clear hbi
 go_upto_if 21 with fail
 go_cut [6,8] (λs6 s8 W2=>qm (pO p.ts i) nm=false∧Sit w W2 [(w.heap.size,0,(.slice aB p.ds.length aA)),(w.heap.size,1,(.slice aD p.ts.length ay))])
 case first=>
  cases bi
  ·go_wp2_with fail;go_meet;exact⟨by rw[GU (by simpa using HBI.o)];rfl,HX.o⟩
  ·have hbi:0<=i∧i<p.ts.length:=by simpa using HBI.o
   obtain⟨j,rfl⟩:=Int.eq_ofNat_of_zero_le hbi.1;have hj:j<p.ts.length:=by omega
   have hth:=(HP.o.same HX.o.1).2.2.2.drop j;cases hd:p.ts.drop j with
   |nil=>exfalso;have:=congrArg List.length hd;simp at this;omega
   |cons t r=>
    rw[hd,Nat.zero_add]at hth;have HL:=ah (JD hd);clear hd hbi HBI;obtain⟨⟨b,off,fC,dw,bR,aY,rfl,hB,x0,x1,x2,x3,hok,htx,hst⟩,-⟩:=hth;have hll:=hok.2.2.1;unfold maxLen at hll;clear hst hok;go_wp2_with fail;go_loop [8,29] (λ_ s=> ∃(k:Nat) (R:List ByteArray),s= .int .i64 k∧k+R.length=t.bg.length∧qm t.bg nm=qm R nm∧eD W W.heap.size R fC k) (λ_ s=>t.bg.length -(intOf s).toNat)
    case atStart=>exact⟨0,t.bg,rfl,by simp,rfl,htx⟩
    case round=>
     obtain⟨k,R,rfl,hlen,heq,hrow⟩:=hrel;cases R with
     |nil=>obtain rfl:k=t.bg.length:=(by simpa using hlen);go_wp2_with fail;go_meet;exact⟨by rw[HL.o,heq];rfl,HX.o⟩
     |cons s R=>
      obtain⟨⟨b',off',rfl,hB',y0,hs⟩,hrest⟩:=hrow;simp only[List.length_cons]at hlen;have hkl:k<t.bg.length:=(by omega);rw[Sz]at heq;have HE:=ah heq;clear heq;cases hc:(s.toList==nm.toList)
      ·have bV:=ah (HE.o.trans (by rw[hc];rfl:_=qm R nm));go_wp2_with fail;go_round
       case rel=>exact⟨k+1,R,by go_num,by omega,bV.o,hrest⟩
       case measure=>simp[intOf];omega
      ·have bV:=ah (HE.o.trans (by rw[hc];rfl:_=true));go_wp2_with fail;go_ret;exact⟨aV (by unfold mean;rw[HL.o,bV.o];rfl),HX.o.1⟩
 case rest=>
  obtain⟨hno,hX⟩:=hcut;have HY:=ah hX;have HM:aj (mean p i nm=(oN p.ds nm).getD (qV p.ts nm)):=ah (by unfold mean;rw[hno];rfl);clear hno hX HX c0 c1;obtain⟨-,⟨-,c0⟩,⟨-,c1⟩,-⟩:=HY.o;have hde:=(HP.o.same HY.o.1).2.2.1;go_wp2_with fail;go_loopw [10,40] (λ_ s wr=> ∃(k:Nat) (R:List De),s= .int .i64 k∧k+R.length=p.ds.length∧oN p.ds nm=oN R nm∧gM wr wr.heap.size R aB k∧Sit w wr [(w.heap.size,0,(.slice aB p.ds.length aA)),(w.heap.size,1,(.slice aD p.ts.length ay))]) (λ_ s _=>p.ds.length -(intOf s).toNat)
  case atStart=>exact⟨0,p.ds,rfl,by simp,rfl,hde,HY.o⟩
  case round=>
   obtain⟨k,R,rfl,hlen,heq,hrow,hsit⟩:=hrel;have HZ:=ah hsit;clear hsit HY c0 c1 hde;cases R with
   |nil=>
    obtain rfl:k=p.ds.length:=(by simpa using hlen);obtain⟨-,⟨-,c0⟩,⟨-,c1⟩,-⟩:=HZ.o;have hth:=(HP.o.same HZ.o.1).2.2.2;have HM':=ah (HM.o.trans (by rw[heq];rfl:_=qV p.ts nm));clear heq HM;go_wp2_with fail;go_loopw [12,54] (λ_ s wr=> ∃(k:Nat) (R:List Th),s= .int .i64 k∧k+R.length=p.ts.length∧qV p.ts nm=qV R nm∧fQ wr wr.heap.size R aD k∧Sit w wr [(w.heap.size,0,(.slice aB p.ds.length aA)),(w.heap.size,1,(.slice aD p.ts.length ay))]) (λ_ s _=>p.ts.length -(intOf s).toNat)
    case atStart=>exact⟨0,p.ts,rfl,by simp,rfl,hth,HZ.o⟩
    case round=>
     obtain⟨k,R,rfl,hlen,heq,hrow,hsit⟩:=hrel;have HU:=ah hsit;clear hsit HZ c0 c1 hth;cases R with
     |nil=>obtain rfl:k=p.ts.length:=(by simpa using hlen);go_wp2_with fail;go_ret;exact⟨aV (HM'.o.trans heq).symm,HU.o.1⟩
     |cons t R=>
      obtain⟨⟨b,off,fC,dw,bR,aY,rfl,hB,x0,x1,x2,x3,hok,htx,hst⟩,hrest⟩:=hrow;simp only[List.length_cons]at hlen;have hkl:k<p.ts.length:=(by omega);rw[SG]at heq;have HE:=ah heq;clear heq hok htx hst;cases hc:(t.nm.toList==nm.toList)
      ·have bV:=ah (HE.o.trans (by rw[hc];rfl:_=qV R nm));go_wp2_with fail;go_roundw
       case rel=>exact⟨k+1,R,by go_num,by omega,bV.o,hrest.same (ak _ _),HU.o.next (ak _ _)⟩
       case measure=>simp[intOf];omega
      ·have bV:=ah (HE.o.trans (if_pos hc));go_wp2_with fail;go_ret;exact⟨aV (HM'.o.trans bV.o).symm,(HU.o.next (ak _ _)).1⟩
   |cons d R=>
    obtain⟨⟨b,off,rfl,hB,x0,x1,x2,x3,x4,x5,hok⟩,hrest⟩:=hrow;simp only[List.length_cons]at hlen;have hkl:k<p.ds.length:=(by omega);rw[SF]at heq;have HE:=ah heq;clear heq hok;cases hc:(d.nm.toList==nm.toList)
    ·have bV:=ah (HE.o.trans (by rw[hc];rfl:_=oN R nm));go_wp2_with fail;go_roundw
     case rel=>exact⟨k+1,R,by go_num,by omega,bV.o,hrest.same (ak _ _),HZ.o.next (ak _ _)⟩
     case measure=>simp[intOf];omega
    ·have bV:=ah (HE.o.trans (if_pos hc));go_wp2_with fail;refine(Cw d _).mono ?_;rintro e w2 ⟨rfl,hb2⟩;go_wp2_with fail;go_ret;exact⟨aV (HM.o.trans (by rw[bV.o];rfl)).symm,((HZ.o.next (ak _ _)).next hb2).1⟩
theorem rG (d:De):2<=eO d∧eO d<=9∧eO d≠8:=by unfold eO;grind
namespace Md
def eH (w:World) (B:Nat):List Int->Option Addr->Nat->Prop
 | [],_,_=>True
 |s::r,ao,k=>(∃b off,ao=some ⟨b,off,none⟩∧b<B∧w.cell? ⟨b,off+k,none⟩=some (.int .i64 s))∧eH w B r ao (k+1)
section
variable {w w':World} {B B':Nat}
theorem eH.below (hb:Below B w w'): ∀ {l:List Int} {ao:Option Addr} {k:Nat},eH w B l ao k->eH w' B l ao k
 | [],_,_,_=>trivial
 |_::_,_,_,⟨⟨b,off,e,hB,c⟩,hr⟩=>⟨⟨b,off,e,hB,(hb.cell hB).trans c⟩,eH.below hb hr⟩
theorem eH.mono (h:B<=B'): ∀ {l:List Int} {ao:Option Addr} {k:Nat},eH w B l ao k->eH w B' l ao k
 | [],_,_,_=>trivial
 |_::_,_,_,⟨⟨b,off,e,hB,c⟩,hr⟩=>⟨⟨b,off,e,Nat.lt_of_lt_of_le hB h,c⟩,eH.mono h hr⟩
theorem eH.same {l:List Int} {ao:Option Addr} {k:Nat} (h:eH w w.heap.size l ao k) (hb:Below w.heap.size w w'):eH w' w'.heap.size l ao k:=(h.below hb).mono hb.size
end
def dh (m:Int) (l:List Int):Int:=if m==0 then 5 else if l.any (λk=>m==k)then 0 else 6
def Av:bC->Int->Int->Int×Int
 | .nil,n,d=>(n,d)
 | .cons _ _ _ kids rest,n,d=>Av rest (wrap64 (n+(Av kids 1 0).1)) (max d (wrap64 ((Av kids 1 0).2+1)))
def ext (kids:bC):Int×Int:=((Av kids 1 0).1,wrap64 ((Av kids 1 0).2+1))
def pQ (p:Pr) (i op:Int) (nm:ByteArray):Int:=if op==2 then dh (mean p i nm) [1,2]else if op==3 then dh (mean p i nm) [3]else 0
def sW (p:Pr) (i:Int):bC->Int
 | .nil=>0
 | .cons op _ nm kids rest=>if pQ p i op nm==0 then(if sW p i kids==0 then sW p i rest else sW p i kids)else pQ p i op nm
def vB (p:Pr) (i op:Int) (nm:ByteArray) (kids:bC):Int:=if pQ p i op nm==0 then sW p i kids else pQ p i op nm
theorem LH (p:Pr) (i op n:Int) (nm:ByteArray) (kids rest:bC):sW p i (.cons op n nm kids rest)=if vB p i op nm kids==0 then sW p i rest else vB p i op nm kids:=by
 rw[sW];unfold vB;cases h:(pQ p i op nm==0) <;> simp
 ·intro h';simp[h']at h
def kg (p:Pr) (i op n:Int) (nm:ByteArray) (kids:bC):Int:=
 if iY op n nm kids then(if decide (24<(ext kids).1)||decide (6<(ext kids).2)then 2 else vB p i op nm kids)else 3
end Md
theorem Nw (m k:Int) (l:List Int):(k::l).any (λk=>m==k)=((m==k)||l.any (λk=>m==k)):=by simp
theorem zM (p:Pr) (i:Int) (nm:ByteArray) (l:List Int) (w:World) (aB aD ao:Option Addr) (aA ay cap:Nat) (hi:fD i) (hl:l.length<=maxLen) (hp:p.At w aB aD) (hw:eH w w.heap.size l ao 0):
 Calls Tryz.prog 148 #[.agg #[.slice aB p.ds.length aA,.slice aD p.ts.length ay],.int .i64 i,.string nm,.slice ao l.length cap] w λe w'=>e= .returned (.int .i64 (dh (mean p i nm) l))∧Below w.heap.size w w':=by
 unfold maxLen at hl;have HP:=ah hp;have HW:=ah hw;clear hp hw;go_enter Tryz.func148,Tryz.ntmps148;go_wp2_with fail;refine(PN p i nm _ aB aD aA ay hi (HP.o.same (ak _ _))).mono ?_;rintro e w2 ⟨rfl,hb2⟩;have HB:=ah ((ak w (.cells #[.slice aB p.ds.length aA,.slice aD p.ts.length ay] 25)).trans (hb2.mono (by simp)));clear hb2;have hrow:=HW.o.same HB.o;generalize hmm:mean p i nm=m at *;have HM:=ah hmm;clear hmm;cases h0:(m==0)
 ·go_wp2_with fail;go_loop [11,20] (λ_ s=> ∃(k:Nat) (R:List Int),s= .int .i64 k∧k+R.length=l.length∧l.any (λk=>m==k)=R.any (λk=>m==k)∧eH w2 w2.heap.size R ao k) (λ_ s=>l.length -(intOf s).toNat)
  case atStart=>exact⟨0,l,rfl,by simp,rfl,hrow⟩
  case round=>
   obtain⟨k,R,rfl,hlen,heq,hrow'⟩:=hrel;cases R with
   |nil=>obtain rfl:k=l.length:=(by simpa using hlen);have HE:aj (dh m l=6):=ah (by unfold dh;rw[h0,heq];rfl);clear heq;go_wp2_with fail;go_ret;exact⟨aV (by rw[HM.o,HE.o]),HB.o⟩
   |cons a R=>
    obtain⟨⟨b,off,rfl,hB,y0⟩,hrest⟩:=hrow';simp only[List.length_cons]at hlen;have hkl:k<l.length:=(by omega);rw[Nw]at heq;have HE:=ah heq;clear heq;cases hc:(m==a)
    ·have bV:=ah (HE.o.trans (by rw[hc];rfl:_=R.any (λk=>m==k)));go_wp2_with fail;go_round
     case rel=>exact⟨k+1,R,by go_num,by omega,bV.o,hrest⟩
     case measure=>simp[intOf];omega
    ·have bV:aj (dh m l=0):=ah (by unfold dh;rw[h0,HE.o,hc];rfl);go_wp2_with fail;go_ret;exact⟨aV (by rw[HM.o,bV.o]),HB.o⟩
 ·have HE:aj (dh m l=5):=ah (by unfold dh;rw[h0];rfl);go_wp2_with fail;go_ret;exact⟨aV (by rw[HM.o,HE.o]),HB.o⟩
theorem iU {a b c d:Int} (h1:c=a) (h2:d=b):Ending.returned (.tuple #[.int .i64 a,.int .i64 b])= .returned (.tuple #[.int .i64 c,.int .i64 d]):=by rw[h1,h2]
theorem ext_nil {kids:bC} {a d:Int} (h:Av kids 1 0=Av .nil a d):(ext kids).1=a∧(ext kids).2=wrap64 (d+1):=by unfold ext;rw[h];exact⟨rfl,rfl⟩
def FM (op n:Int) (nm:ByteArray) (kids:bC):Prop:=
 ∀(w:World) (ao:Option Addr) (cap:Nat),sD op n nm kids->kids.At w w.heap.size ao 0->
  Calls Tryz.prog 154 #[.agg #[.int .i64 op,.int .i64 n,.string nm,.slice ao kids.len cap]] w λe w'=>e= .returned (.tuple #[.int .i64 (ext kids).1,.int .i64 (ext kids).2])∧Below w.heap.size w w'
theorem PD (op n:Int) (nm:ByteArray) (kids:bC) (ih:kids.All FM):FM op n nm kids:=by
 intro w ao cap hok hat;obtain⟨-,-,-,hl⟩:=hok;unfold maxLen at hl;have qp:=ah ih;have HAT:=ah hat;clear ih hat;go_enter Tryz.func154,Tryz.ntmps154;go_upto_region 2 with fail;generalize hW:World.alloc w _=W;generalize Value.agg #[_,_,_,_]=a0;have HX:=ah ((Sit.start w).yh rfl (.int .i64 op) (.int .i64 n) (.string nm) (.slice ao kids.len cap) 88);rw[hW]at HX;clear hW;obtain⟨-,⟨-,c0⟩,⟨-,c1⟩,⟨-,c2⟩,⟨-,c3⟩,-⟩:=HX.o;go_wp2_with fail;go_loopw [4,5,7,8,9,13] (λs4 s5 _ _ _ s wr=> ∃(k:Nat) (R:bC) (a d:Int),s= .int .i64 k∧s4= .int .i64 a∧s5= .int .i64 d∧k+R.len=kids.len∧Av kids 1 0=Av R a d∧R.All FM∧R.At wr wr.heap.size ao k∧Below w.heap.size w wr) (λ_ _ _ _ _ s _=>kids.len -(intOf s).toNat)
 case atStart=>exact⟨0,kids,1,0,rfl,rfl,rfl,by simp,rfl,qp.o,HAT.o.same HX.o.1,HX.o.1⟩
 case round=>
  obtain⟨k,R,a,d,rfl,rfl,rfl,hlen,heq,hall,hrow,hB⟩:=hrel;have HE:=ah heq;clear heq c0 c1 c2 c3;cases R with
  |nil=>
   obtain rfl:k=kids.len:=by simpa[bC.len]using hlen
   go_wp2_with fail
   go_ret2
   exact⟨iU (ext_nil HE.o).1 (ext_nil HE.o).2,hB⟩
  |cons op' n' nm' iD rest=>
   obtain⟨⟨b,off,nR,cap',rfl,iL,x0,x1,x2,x3,hok',ko⟩,hrest⟩:=hrow;obtain⟨gP,nX⟩:=hall;have hlt:k<kids.len:=by simp only[bC.len]at hlen;omega
   go_wp2_with fail;have hba:=ak wr (.cells #[.int .i64 op',.int .i64 n',.string nm',.slice nR iD.len cap'] 88);refine(gP _ _ _ hok' (ko.same hba)).mono ?_;rintro e w2 ⟨rfl,hb2⟩;have HB3:=ah (hba.trans (hb2.mono (by simp)));clear hba hb2 x0 x1 x2 x3 ko;go_wp2_with fail;go_roundw
   case rel=>exact⟨k+1,rest,_,_,by go_num,rfl,rfl,by simp only[bC.len]at hlen;omega,HE.o,nX,hrest.same HB3.o,hB.trans (HB3.o.mono hB.size)⟩
   case measure=>simp[intOf];omega
theorem Sg (op n:Int) (nm:ByteArray) (kids:bC):FM op n nm kids:=bC.wY PD op n nm kids
def FP (p:Pr) (i:Int) (op n:Int) (nm:ByteArray) (kids:bC):Prop:=
 ∀(w:World) (aB aD ao:Option Addr) (aA ay cap:Nat),fD i->p.At w aB aD->sD op n nm kids->kids.At w w.heap.size ao 0->
  Calls Tryz.prog 155 #[.agg #[.slice aB p.ds.length aA,.slice aD p.ts.length ay],.int .i64 i,.agg #[.int .i64 op,.int .i64 n,.string nm,.slice ao kids.len cap]] w λe w'=>e= .returned (.int .i64 (vB p i op nm kids))∧Below w.heap.size w w'
theorem kM (w:World) (a b:Int) (t:TypeId):eH (w.alloc (.cells #[.int .i64 a,.int .i64 b] t)) (w.alloc (.cells #[.int .i64 a,.int .i64 b] t)).heap.size [a,b] (some ⟨w.heap.size,0,none⟩) 0:=
 ⟨⟨_,_,rfl,by simp,dB w [.int .i64 a,.int .i64 b] t 0⟩,⟨_,_,rfl,by simp,dB w [.int .i64 a,.int .i64 b] t 1⟩,trivial⟩
theorem iq (w:World) (a:Int) (t:TypeId):eH (w.alloc (.cells #[.int .i64 a] t)) (w.alloc (.cells #[.int .i64 a] t)).heap.size [a] (some ⟨w.heap.size,0,none⟩) 0:=
 ⟨⟨_,_,rfl,by simp,dB w [.int .i64 a] t 0⟩,trivial⟩
theorem SH (p:Pr) (i:Int) (op n:Int) (nm:ByteArray) (kids:bC) (ih:kids.All (FP p i)):FP p i op n nm kids:=by
 intro w aB aD ao aA ay cap hi hp hok hat;obtain⟨-,-,-,hl⟩:=hok;unfold maxLen at hl;have qp:=ah ih;have HAT:=ah hat;have HP:=ah hp;clear ih hat hp;go_enter Tryz.func155,Tryz.ntmps155;go_upto_region 1 with fail;generalize hW:World.alloc (World.alloc w _) _=W;generalize Value.agg #[_,_]=a0;generalize Value.agg #[_,_,_,_]=a1;have HX:=ah (((Sit.start w).vg rfl (.slice aB p.ds.length aA) (.slice aD p.ts.length ay) 25).yh (n:=w.heap.size+1) (by simp) (.int .i64 op) (.int .i64 n) (.string nm) (.slice ao kids.len cap) 88);rw[hW]at HX;clear hW;obtain⟨-,⟨-,c0⟩,⟨-,c1⟩,⟨-,c2⟩,⟨-,c3⟩,⟨-,c4⟩,⟨-,c5⟩,-⟩:=HX.o;go_upto_block 0 with(fail);go_cut [7,10] (λs7 _ W2=>s7= .int .i64 (pQ p i op nm)∧Sit w W2 [(w.heap.size+1,0,.int .i64 op),(w.heap.size+1,1,.int .i64 n),(w.heap.size+1,2,.string nm),(w.heap.size+1,3,.slice ao kids.len cap),(w.heap.size,0,.slice aB p.ds.length aA),(w.heap.size,1,.slice aD p.ts.length ay)])
 case first=>
  cases h2:(op==2)
  ·cases h3:(op==3)
   ·have HE:aj (pQ p i op nm=0):=ah (by unfold pQ;rw[h2,h3];rfl);go_wp2_with fail;go_meet;exact⟨by rw[HE.o],HX.o⟩
   ·have HE:aj (pQ p i op nm=dh (mean p i nm) [3]):=ah (by unfold pQ;rw[h2,h3];rfl);go_wp2_with fail;refine(zM p i nm [3] _ aB aD _ aA ay _ hi (by decide) ((HP.o.same HX.o.1).same (ak _ _)) (iq W 3 _)).mono ?_;rintro e w2 ⟨rfl,hb2⟩;go_wp2_with fail;go_meet;exact⟨by rw[HE.o],(HX.o.next (ak _ _)).next hb2⟩
  ·have HE:aj (pQ p i op nm=dh (mean p i nm) [1,2]):=ah (by unfold pQ;rw[h2];rfl);go_wp2_with fail;refine(zM p i nm [1,2] _ aB aD _ aA ay _ hi (by decide) ((HP.o.same HX.o.1).same (ak _ _)) (kM W 1 2 _)).mono ?_;rintro e w2 ⟨rfl,hb2⟩;go_wp2_with fail;go_meet;exact⟨by rw[HE.o],(HX.o.next (ak _ _)).next hb2⟩
 case rest=>
  obtain⟨rfl,hX⟩:=hcut;have HY:=ah hX;clear hX HX c0 c1 c2 c3 c4 c5;have HR:aj (vB p i op nm kids=if pQ p i op nm==0 then sW p i kids else pQ p i op nm):=ah rfl;generalize pQ p i op nm=r0 at *;go_wp2_with fail;go_loopw [7,8] (λs7 s8 wr=> ∃(k:Nat) (R:bC) (r:Int),s8= .int .i64 k∧s7= .int .i64 r∧k+R.len=kids.len∧vB p i op nm kids=(if r==0 then sW p i R else r)∧R.All (FP p i)∧R.At wr wr.heap.size ao k∧Sit w wr [(w.heap.size+1,0,.int .i64 op),(w.heap.size+1,1,.int .i64 n),(w.heap.size+1,2,.string nm),(w.heap.size+1,3,.slice ao kids.len cap),(w.heap.size,0,.slice aB p.ds.length aA),(w.heap.size,1,.slice aD p.ts.length ay)]) (λ_ s _=>kids.len -(intOf s).toNat)
  case atStart=>exact⟨0,kids,r0,rfl,rfl,by simp,HR.o,qp.o,HAT.o.same HY.o.1,HY.o⟩
  case round=>
   obtain⟨k,R,r,rfl,rfl,hlen,heq,hall,hrow,hsit⟩:=hrel;have HE:=ah heq;have HZ:=ah hsit;clear heq hsit;obtain⟨-,⟨-,c0⟩,⟨-,c1⟩,⟨-,c2⟩,⟨-,c3⟩,⟨-,c4⟩,⟨-,c5⟩,-⟩:=HZ.o;cases R with
   |nil=>obtain rfl:k=kids.len:=(by simpa[bC.len]using hlen);go_wp2_with fail;go_ret;exact⟨aV (HE.o.trans (by cases h:(r==0) <;> simp_all[sW])).symm,HZ.o.1⟩
   |cons op' n' nm' iD rest=>
    obtain⟨⟨b,off,nR,cap',rfl,iL,x0,x1,x2,x3,hok',ko⟩,hrest⟩:=hrow;obtain⟨gP,nX⟩:=hall;have hlt:k<kids.len:=(by simp only[bC.len]at hlen;omega);cases hr:(r==0)
    ·have bV:=ah (HE.o.trans (by rw[hr];rfl:_=r));go_wp2_with fail;go_ret;exact⟨aV bV.o.symm,HZ.o.1⟩
    ·have bV:=ah (HE.o.trans (by rw[hr];rfl:_=sW p i (.cons op' n' nm' iD rest)));go_wp2_with fail;obtain⟨T,F,yX,hst,hF,hnext⟩:=calm wr;have HF:=ah hF;have dJ:=ah hnext;clear hnext hF;have d0:=λx=>(HZ.o.next (HF.o x)).2.1.2;have d1:=λx=>(HZ.o.next (HF.o x)).2.2.1.2;have d2:=λx=>(HZ.o.next (HF.o x)).2.2.2.1.2;have d3:=λx=>(HZ.o.next (HF.o x)).2.2.2.2.1.2;have d4:=λx=>(HZ.o.next (HF.o x)).2.2.2.2.2.1.2;have d5:=λx=>(HZ.o.next (HF.o x)).2.2.2.2.2.2.1.2;have y0:=λx=>((HF.o x).cell (p:=⟨b,off+k*4,none⟩) iL).trans x0;have y1:=λx=>((HF.o x).cell (p:=⟨b,off+k*4+1,none⟩) iL).trans x1;have y2:=λx=>((HF.o x).cell (p:=⟨b,off+k*4+2,none⟩) iL).trans x2;have y3:=λx=>((HF.o x).cell (p:=⟨b,off+k*4+3,none⟩) iL).trans x3;clear c0 c1 c2 c3 c4 c5 x0 x1 x2 x3;have hk0:(0:Int)<=k:=(by omega);have hk1:(k:Int)<kids.len:=(by omega);refine gZ F (by kernel_rfl) (by kernel_rfl) hst ?_
     repeat (any_goals (first|go_big_quiet_step ((go_at_call 155;refine(gP _ aB aD nR aA ay cap' hi ((HP.o.same HZ.o.1).same (HF.o _)) hok' (ko.same (HF.o _))).mono ?_;rintro e w' ⟨rfl,hb⟩;exact⟨rfl,dJ.o _ _ hb⟩))|(refine wpQuiet_step (λK hK=> ?_);go_simp;first|(refine hK _ ?_;clear hK K)|(split <;> first|(refine hK _ ?_;clear hK K)|(apply Exists.intro;refine⟨λ_=> ?_,hK _ ?_⟩;((go_at_call 155;refine(gP _ aB aD nR aA ay cap' hi ((HP.o.same HZ.o.1).same (HF.o _)) hok' (ko.same (HF.o _))).mono ?_;rintro e w' ⟨rfl,hb⟩;exact⟨rfl,dJ.o _ _ hb⟩));clear hK K)))))
     all_goals (refine wpQuiet_nil ?_;rintro _ ⟨x,rfl⟩)
     have HB2:=ah (HF.o x);clear d0 d1 d2 d3 d4 d5 y0 y1 y2 y3 HF dJ hst;generalize F x=W2 at *;go_wp2_with fail;go_roundw
     case rel=>exact⟨k+1,rest,_,by go_num,rfl,by simp only[bC.len]at hlen;omega,bV.o.trans (LH p i op' n' nm' iD rest),nX,hrest.same HB2.o,HZ.o.next HB2.o⟩
     case measure=>simp[intOf];omega
theorem Vr (p:Pr) (i:Int) (op n:Int) (nm:ByteArray) (kids:bC):FP p i op n nm kids:=bC.wY (SH p i) op n nm kids
theorem DN (p:Pr) (i:Int) (op n:Int) (nm:ByteArray) (kids:bC) (w:World) (aB aD ao:Option Addr) (aA ay cap:Nat) (hi:fD i) (hp:p.At w aB aD) (hok:sD op n nm kids) (hat:kids.At w w.heap.size ao 0) (dG:dD w):
 Calls Tryz.prog 147 #[.agg #[.slice aB p.ds.length aA,.slice aD p.ts.length ay],.int .i64 i,.agg #[.int .i64 op,.int .i64 n,.string nm,.slice ao kids.len cap]] w λe w'=>e= .returned (.int .i64 (kg p i op n nm kids))∧Below w.heap.size w w':=by
 have HAT:=ah hat;have HP:=ah hp;clear hat hp;go_enter Tryz.func147,Tryz.ntmps147;go_upto_region 1 with fail;generalize hW:World.alloc (World.alloc w _) _=W;generalize Value.agg #[_,_]=a0;generalize Value.agg #[_,_,_,_]=a1;have HX:=ah (((Sit.start w).vg rfl (.slice aB p.ds.length aA) (.slice aD p.ts.length ay) 25).yh (n:=w.heap.size+1) (by simp) (.int .i64 op) (.int .i64 n) (.string nm) (.slice ao kids.len cap) 88);rw[hW]at HX;clear hW;obtain⟨-,⟨-,c0⟩,⟨-,c1⟩,⟨-,c2⟩,⟨-,c3⟩,⟨-,c4⟩,⟨-,c5⟩,-⟩:=HX.o;go_wp2_with fail;refine(xX op n nm kids _ ao cap hok (HAT.o.same HX.o.1) (dG.same HX.o.1)).mono ?_;rintro e w1 ⟨rfl,hb1⟩;have HY:=ah (HX.o.next hb1);clear HX hb1 c0 c1 c2 c3 c4 c5;obtain⟨-,⟨-,c0⟩,⟨-,c1⟩,⟨-,c2⟩,⟨-,c3⟩,⟨-,c4⟩,⟨-,c5⟩,-⟩:=HY.o;cases hS:iY op n nm kids
 ·have HE:aj (kg p i op n nm kids=3):=ah (by unfold kg;rw[hS];rfl);go_wp2_with fail;go_ret;exact⟨aV HE.o.symm,HY.o.1⟩
 ·have HE:aj (kg p i op n nm kids=if decide (24<(ext kids).1)||decide (6<(ext kids).2)then 2 else vB p i op nm kids):=ah (by unfold kg;rw[hS];rfl);go_wp2_with fail;refine(Sg op n nm kids _ ao cap hok (HAT.o.same HY.o.1)).mono ?_;rintro e w2 ⟨rfl,hb2⟩;have HZ:=ah (HY.o.next hb2);clear HY hb2 c0 c1 c2 c3 c4 c5;obtain⟨-,⟨-,c0⟩,⟨-,c1⟩,⟨-,c2⟩,⟨-,c3⟩,⟨-,c4⟩,⟨-,c5⟩,-⟩:=HZ.o;generalize (ext kids).1=a at *;generalize (ext kids).2=d at *;cases h1:decide (24<a)
  ·cases h2:decide (6<d)
   ·have bV:=ah (HE.o.trans (by rw[h1,h2];rfl:_=vB p i op nm kids));have q1:a<=24:=(by simpa using h1);have q2:d<=6:=(by simpa using h2);go_wp2_with fail;refine(Vr p i op n nm kids _ aB aD ao aA ay cap hi (HP.o.same HZ.o.1) hok (HAT.o.same HZ.o.1)).mono ?_;rintro e w3 ⟨rfl,hb3⟩;go_wp2_with fail;go_ret;exact⟨aV bV.o.symm,(HZ.o.next hb3).1⟩
   ·have bV:=ah (HE.o.trans (if_pos (by rw[h1,h2];rfl)));have q1:a<=24:=(by simpa using h1);have q2:6<d:=(by simpa using h2);go_wp2_with fail;go_ret;exact⟨aV bV.o.symm,HZ.o.1⟩
  ·have bV:=ah (HE.o.trans (if_pos (by rw[h1];rfl)));have q1:24<a:=by simpa using h1
   go_wp2_with fail;go_ret;exact⟨aV bV.o.symm,HZ.o.1⟩
theorem wu:Maps.Keyed Tryz.prog 9:=Maps.string_keyed Tryz.underlying9
theorem keyOf_str (s:ByteArray) (hs:s.size<=maxLen):keyOf Tryz.prog 9 (.string s)=some (.string s.toList):=by
 unfold keyOf mapKey;simp[Tryz.underlying9,hs,Lib.toList_data]
def kY (w:World) (b n:Nat) (f:List UInt8->Int):Prop:=
 ∃D:DataW Unit,w.ownsMap Tryz.prog 9 (plainElem Tryz.prog 3) b n D∧∀l,D.atKey (.string l) (.lit (.int .i64 0))= .lit (.int .i64 (f l))
def iN (w:World) (b n:Nat) (f:List UInt8->Bool):Prop:=
 ∃D:DataW Unit,w.ownsMap Tryz.prog 9 (plainElem Tryz.prog 4) b n D∧∀l,D.atKey (.string l) (.lit (.bool false))= .lit (.bool (f l))
theorem kY.made (w:World):kY (w.alloc (.map #[] 0)) w.heap.size 0 (λ_=>0):=⟨_,World.ownsMap_made w _ _ _,λ_=>rfl⟩
theorem iN.made (w:World):iN (w.alloc (.map #[] 0)) w.heap.size 0 (λ_=>false):=⟨_,World.ownsMap_made w _ _ _,λ_=>rfl⟩
theorem kY.lt {w:World} {b n:Nat} {f:List UInt8->Int} (h:kY w b n f):b<w.heap.size:=by obtain⟨D,h,_⟩:=h;exact h.lt
theorem iN.lt {w:World} {b n:Nat} {f:List UInt8->Bool} (h:iN w b n f):b<w.heap.size:=by obtain⟨D,h,_⟩:=h;exact h.lt
theorem kY.same {w w':World} {b n:Nat} {f:List UInt8->Int} (h:kY w b n f) (hb:w'.heap[b]? =w.heap[b]?):kY w' b n f:=by
 obtain⟨D,⟨es,clock,h1,h2⟩,h3⟩:=h;exact⟨D,⟨es,clock,hb.trans h1,h2⟩,h3⟩
theorem iN.same {w w':World} {b n:Nat} {f:List UInt8->Bool} (h:iN w b n f) (hb:w'.heap[b]? =w.heap[b]?):iN w' b n f:=by
 obtain⟨D,⟨es,clock,h1,h2⟩,h3⟩:=h;exact⟨D,⟨es,clock,hb.trans h1,h2⟩,h3⟩
theorem kY.next {w w':World} {b n:Nat} {f:List UInt8->Int} (h:kY w b n f) (hb:Below w.heap.size w w'):kY w' b n f:=h.same (hb.block b h.lt)
theorem iN.next {w w':World} {b n:Nat} {f:List UInt8->Bool} (h:iN w b n f) (hb:Below w.heap.size w w'):iN w' b n f:=h.same (hb.block b h.lt)
theorem YZ (w:World):(zeroValue 3).run Tryz.prog w= .ok (.int .i64 0) w:=by kernel_rfl
theorem WB (w:World):(zeroValue 4).run Tryz.prog w= .ok (.bool false) w:=by kernel_rfl
theorem aX7 {v:Int} (hv:fD v):(Lit.int .i64 v).wf=true:=by
 unfold Lit.wf;rw[Bool.and_eq_true,decide_eq_true_iff,decide_eq_true_iff];exact hv
theorem kY.look {w:World} {b n:Nat} {f:List UInt8->Int} (h:kY w b n f) (s:ByteArray) (hs:s.size<=maxLen):
 (Instr.lookup 73 (.map (some b)) (.string s) false).run Tryz.prog w= .ok (.int .i64 (f s.toList)) w:=by
 obtain⟨D,ho,hf⟩:=h;obtain⟨c,hrun,hat,-⟩:=ho.lookup_int (t:=73) wu Tryz.underlying73 Tryz.underlying3 (YZ w) (keyOf_str s hs);rw[hf]at hat;obtain rfl:f s.toList=c:=(Lit.int.inj (DataW.lit.inj hat)).2;exact hrun
theorem Xr {H:Type} {v:Value} {x:Bool} {ps:List MemPlace} (hv:plainElem (H:=H) Tryz.prog 4 v=some (.lit (.bool x),ps)):v= .bool x:=by
 unfold plainElem at hv;generalize hu:Program.underlying Tryz.prog 4=u at hv;rw[Tryz.underlying4]at hu;subst hu;cases v with
 |bool y=>exact congrArg Value.bool (Lit.bool.inj (DataW.lit.inj (Prod.mk.inj (Option.some.inj hv)).1))
 |_=>exact absurd hv (by intro h;cases h)
theorem iN.look {w:World} {b n:Nat} {f:List UInt8->Bool} (h:iN w b n f) (s:ByteArray) (hs:s.size<=maxLen):
 (Instr.lookup 107 (.map (some b)) (.string s) false).run Tryz.prog w= .ok (.bool (f s.toList)) w:=by
 obtain⟨D,ho,hf⟩:=h;obtain⟨v,ps,hrun,hv⟩:=ho.lookup (t:=107) wu Tryz.underlying107 (WB w) (plainElem_bool Tryz.underlying4 false) (keyOf_str s hs);rw[hf]at hv;have hv':v= .bool (f s.toList):=by exact Xr hv
 rw[hrun,hv']
theorem kY.put {w:World} {b n:Nat} {f:List UInt8->Int} (h:kY w b n f) (hn:n<maxLen) (s:ByteArray) (hs:s.size<=maxLen) (v:Int) (hv:fD v):
 ∃w',(Instr.mapUpdate 73 (.map (some b)) (.string s) (.int .i64 v)).run Tryz.prog w= .ok () w'∧kY w' b (n+1) (λl=>if l=s.toList then v else f l)∧w.grownBy w' (some b):=by
 obtain⟨D,ho,hf⟩:=h;obtain⟨w',hrun,ho',hg⟩:=ho.update (t:=73) wu Tryz.underlying73 hn (keyOf_str s hs) (plainElem_int Tryz.underlying3 (a:=v) (aX7 hv));refine⟨w',hrun,⟨_,ho',λl=> ?_⟩,hg⟩;show _=DataW.lit (.int .i64 (if l=s.toList then v else f l));by_cases hl:l=s.toList
 ·subst hl;rw[if_pos rfl,Maps.atKey_put_same ho.isMap (wu.key (keyOf_str s hs))]
 ·rw[if_neg hl,Maps.atKey_put_other (by intro h;injection h with h;exact hl h),hf]
theorem iN.put {w:World} {b n:Nat} {f:List UInt8->Bool} (h:iN w b n f) (hn:n<maxLen) (s:ByteArray) (hs:s.size<=maxLen) (v:Bool):
 ∃w',(Instr.mapUpdate 107 (.map (some b)) (.string s) (.bool v)).run Tryz.prog w= .ok () w'∧iN w' b (n+1) (λl=>if l=s.toList then v else f l)∧w.grownBy w' (some b):=by
 obtain⟨D,ho,hf⟩:=h;obtain⟨w',hrun,ho',hg⟩:=ho.update (t:=107) wu Tryz.underlying107 hn (keyOf_str s hs) (plainElem_bool Tryz.underlying4 v);refine⟨w',hrun,⟨_,ho',λl=> ?_⟩,hg⟩;show _=DataW.lit (.bool (if l=s.toList then v else f l));by_cases hl:l=s.toList
 ·subst hl;rw[if_pos rfl,Maps.atKey_put_same ho.isMap (wu.key (keyOf_str s hs))]
 ·rw[if_neg hl,Maps.atKey_put_other (by intro h;injection h with h;exact hl h),hf]
namespace Md
def mD (pre:List De) (l:List UInt8):Int:=((pre.find? λd=>d.nm.toList==l).map eO).getD 0
def dc (d:De) (c:Int):Int:=if d.kind==1||d.kind==2 then c+max d.size 1 else c
def dl (d:De) (l:Int):Int:=if d.kind==3||d.kind==4 then l+1 else l
def dn (d:De) (n:Int):Int:=if d.kind==5 then n+1 else n
def df (d:De) (f:Int):Int:=if d.kind==6 then f+1 else f
def lim (c l n f:Int):Bool:=((decide (12<c)||decide (4<l))||decide (2<n))||decide (2<f)
def kL:List De->List De->Int->Int->Int->Int->Int×Int
 | [],_,_,_,_,_=>(0,0)
 |d::r,pre,c,l,n,f=>
  if mD pre d.nm.toList != 0 then(4,d.line)
  else if decide (4<d.size)then(2,d.line)
  else if lim (dc d c) (dl d l) (dn d n) (df d f)then(2,d.line)
  else if d.kind==5&&mD pre d.on.toList==0 then(5,d.line)
  else if d.kind==5&&mD pre d.on.toList != 4 then(6,d.line)
  else kL r (pre++[d]) (dc d c) (dl d l) (dn d n) (df d f)
theorem R4 {pre:List De} {l:List UInt8} (h:(mD pre l != 0)=false):pre.find? (λd=>d.nm.toList==l)=none:=by
 unfold mD at h;cases hf:pre.find? (λd=>d.nm.toList==l)with
 |none=>rfl
 |some d=>rw[hf]at h;have:=rG d;simp at h;omega
theorem R5 {pre:List De} {d:De} (h:(mD pre d.nm.toList != 0)=false) (l:List UInt8):(if l=d.nm.toList then eO d else mD pre l)=mD (pre++[d]) l:=by
 unfold mD;rw[List.find?_append];by_cases hl:l=d.nm.toList
 ·subst hl;rw[if_pos rfl,R4 h];simp
 ·rw[if_neg hl];have:(d.nm.toList==l)=false:=by rw[beq_eq_false_iff_ne];exact λe=>hl e.symm
  simp[this]
theorem Sc (d:De):(eO d==6)=(d.kind==5):=by unfold eO;grind
theorem tT {d:De} (h:iw d=true):1<=d.kind∧d.kind<=6∧0<=d.size∧(d.size=0∨d.kind=1):=by
 unfold iw at h;simp at h;omega
theorem ER (d:De) (r pre:List De) (c l n f:Int):kL (d::r) pre c l n f=(if mD pre d.nm.toList != 0 then(4,d.line)
 else if decide (4<d.size)then(2,d.line)
 else if lim (dc d c) (dl d l) (dn d n) (df d f)then(2,d.line)
 else if d.kind==5&&mD pre d.on.toList==0 then(5,d.line)
 else if d.kind==5&&mD pre d.on.toList != 4 then(6,d.line)
 else kL r (pre++[d]) (dc d c) (dl d l) (dn d n) (df d f)):=rfl
end Md
theorem kY.congr {w:World} {b n:Nat} {f g:List UInt8->Int} (h:kY w b n f) (hfg: ∀l,f l=g l):kY w b n g:=by
 obtain⟨D,h1,h2⟩:=h;exact⟨D,h1,λl=>by rw[h2,hfg]⟩
theorem iN.congr {w:World} {b n:Nat} {f g:List UInt8->Bool} (h:iN w b n f) (hfg: ∀l,f l=g l):iN w b n g:=by
 obtain⟨D,h1,h2⟩:=h;exact⟨D,h1,λl=>by rw[h2,hfg]⟩
def ag5 (ds:List De) (w:World) (res:Int×Int) (g:Nat) (s5 s6 s7 s8 s15:Value) (wr:World):Prop:=
 ∃(k:Nat) (pre R:List De) (c l n f:Int),g=R.length∧s15= .int .i64 k∧pre++R=ds∧pre.length=k∧s5= .int .i64 c∧s6= .int .i64 l∧s7= .int .i64 n∧s8= .int .i64 f∧
  (0<=c∧c<=12∧0<=l∧l<=4∧0<=n∧n<=2∧0<=f∧f<=2)∧res=kL R pre c l n f∧kY wr w.heap.size k (mD pre)∧Below w.heap.size w wr
theorem I7 (ds:List De) (w:World) (ao:Option Addr) (cap:Nat) (hl:ds.length<=maxLen) (hat:gM w w.heap.size ds ao 0) (hsh: ∀d∈ds,iw d=true):
 Calls Tryz.prog 27 #[.slice ao ds.length cap] w λe w'=>e= .returned (.tuple #[.int .i64 (kL ds [] 0 0 0 0).1,.int .i64 (kL ds [] 0 0 0 0).2])∧Below w.heap.size w w':=by
 generalize hres:kL ds [] 0 0 0 0=res;have HR:=ah hres;have HAT:=ah hat;have yH:=ah hsh;have hl':=hl;unfold maxLen at hl;clear hres hat hsh;have hmm:= @run_makeMap Tryz.prog;go_enter Tryz.func27,Tryz.ntmps27;go_wp2_with fail;go_loopg [5,6,7,8,10,11,15] ds.length (λg s5 s6 s7 s8 _ _ s15 wr=>ag5 ds w res g s5 s6 s7 s8 s15 wr)
 case atStart=>exact⟨0,[],ds,0,0,0,0,rfl,rfl,rfl,rfl,rfl,rfl,rfl,rfl,by decide,HR.o.symm,(kY.made w).congr (λ_=>rfl),ak _ _⟩
 case round=>
  obtain⟨k,pre,R,c,l,n,f,rfl,rfl,hds,hk,rfl,rfl,rfl,rfl,⟨q1,q2,l1,l2,n1,n2,f1,f2⟩,hr,hmap,hB⟩:=hrel;have HE:=ah hr;have HM:=ah hmap;have HB:=ah hB;clear hr hmap hB HR;have hlen:k+R.length=ds.length:=by rw[<- hds,List.length_append,hk]
  have hrow:=(HAT.o.below HB.o).drop k;rw[Nat.zero_add,<- hds,<- hk,List.drop_left]at hrow;rw[hk]at hrow;cases R with
  |nil=>
   obtain rfl:k=ds.length:=by simpa using hlen
   have HF:=ah (HE.o.trans (rfl:_=((0:Int),(0:Int))));clear HE hds hk hrow;go_wp2_with fail
   go_ret2
   exact⟨iU (congrArg Prod.fst HF.o) (congrArg Prod.snd HF.o),HB.o⟩
  |cons d R=>
   have hsd:=tT (yH.o d (by rw[<- hds];simp));have tY:=ah hds;have HK:=ah hk;clear hds hk;obtain⟨⟨b,off,rfl,iL,x0,x1,x2,x3,x4,x5,hok⟩,-⟩:=hrow;simp only[List.length_cons]at hlen;have hkl:k<ds.length:=by omega
   obtain⟨g1,g2,g3,g4⟩:=hsd;rw[ER]at HE;go_upto_region 6 with fail;obtain⟨nb,hnb⟩: ∃n,wr.heap.size=n:=⟨_,rfl⟩;generalize hW2:World.alloc wr _=W2;have HB2:aj (Below w.heap.size w W2):=ah (by rw[<- hW2];exact HB.o.alloc HB.o.size _);have HY:aj (Sit wr W2 [(nb,0,.int .i64 d.kind),(nb,1,.int .i64 d.line),(nb,2,.string d.nm),(nb,3,.int .i64 d.size),(nb,4,.int .i64 d.init),(nb,5,.string d.on)]):=ah (by rw[<- hW2];exact(Sit.start wr).Ny hnb _ _ _ _ _ _ _);have ML:=ah (HM.o.next HY.o.1);rw[hnb];clear hW2 hnb x0 x1 x2 x3 x4 x5 HM HB;obtain⟨-,⟨-,c0⟩,⟨-,c1⟩,⟨-,c2⟩,⟨-,c3⟩,⟨-,c4⟩,⟨-,c5⟩,-⟩:=HY.o;have hk1:=ML.o.look d.nm hok.2.2.1;cases h0:(mD pre d.nm.toList != 0)
   case true=>
    as_aux_lemma=>
     have HF:=ah (HE.o.trans (if_pos h0));go_wp2_with fail;go_quiet (fail);go_wp2_with fail
     go_ret2
     exact⟨iU (congrArg Prod.fst HF.o) (congrArg Prod.snd HF.o),below_drewN HB2.o _⟩
   have HE2:=ah (HE.o.trans (if_neg (by rw[h0];decide)));clear HE;go_upto_region 8 with fail;cases h1:decide (4<d.size)
   case true=>
    as_aux_lemma=>
     have HF:=ah (HE2.o.trans (if_pos h1));have h1':4<d.size:=(by simpa using h1);go_wp2_with fail;go_quiet (fail);go_wp2_with fail
     go_ret2
     exact⟨iU (congrArg Prod.fst HF.o) (congrArg Prod.snd HF.o),below_drewN HB2.o _⟩
   have om:=ah (HE2.o.trans (if_neg (by rw[h1];decide)));have h1':d.size<=4:=by simpa using h1
   clear HE2 h1;go_upto_region 10 with fail;go_wp2_with fail;refine(Cw d _).mono ?_;rintro e w3 ⟨rfl,hb3⟩;have HZ:=ah (HY.o.next hb3);have HB3:=ah (HB2.o.trans (hb3.mono HB2.o.size));have Gt:=ah (ML.o.next hb3);clear hb3 HY HB2 ML c0 c1 c2 c3 c4 c5 hk1;have HFV:=ah (Sc d);have HDM:aj (∃m,eO d=m):=ah ⟨_,rfl⟩;obtain⟨-,⟨-,c0⟩,⟨-,c1⟩,⟨-,c2⟩,⟨-,c3⟩,⟨-,c4⟩,⟨-,c5⟩,-⟩:=HZ.o;go_upto_block 2 with(fail);go_cut [5,6,7,8,11,33] (λs5 s6 s7 s8 s11 _ W3=>w3=W3∧s11= .int .i64 (eO d)∧s5= .int .i64 (dc d c)∧s6= .int .i64 (dl d l)∧s7= .int .i64 (dn d n)∧s8= .int .i64 (df d f))
   case first=>
    as_aux_lemma=>
     have hkd:d.kind=1∨d.kind=2∨d.kind=3∨d.kind=4∨d.kind=5∨d.kind=6:=(by omega);rcases hkd with hkd|hkd|hkd|hkd|hkd|hkd
     ·by_cases hs0:d.size=0
      ·have hm:eO d=2:=(by simp[eO,hkd,hs0]);have HA:aj (dc d c=c+1∧dl d l=l∧dn d n=n∧df d f=f):=ah (by simp[dc,dl,dn,df,hkd,hs0] <;> first|rfl|omega);have Cg:=ah hm;rw[hm];clear hm hkd hs0;go_wp2_with fail;go_meet;exact⟨rfl,by rw[Cg.o],by rw[HA.o.1],by rw[HA.o.2.1],by rw[HA.o.2.2.1],by rw[HA.o.2.2.2]⟩
      ·have hm:eO d=3:=(by simp[eO,hkd,hs0]);have HA:aj (dc d c=c+d.size∧dl d l=l∧dn d n=n∧df d f=f):=ah (by simp[dc,dl,dn,df,hkd] <;> first|rfl|omega);have Cg:=ah hm;rw[hm];clear hm hkd hs0;go_wp2_with fail;go_meet;exact⟨rfl,by rw[Cg.o],by rw[HA.o.1],by rw[HA.o.2.1],by rw[HA.o.2.2.1],by rw[HA.o.2.2.2]⟩
     ·have hs0:d.size=0:=(by omega);have hm:eO d=2:=(by simp[eO,hkd]);have HA:aj (dc d c=c+1∧dl d l=l∧dn d n=n∧df d f=f):=ah (by simp[dc,dl,dn,df,hkd,hs0] <;> first|rfl|omega);have Cg:=ah hm;rw[hm];clear hm hkd hs0;go_wp2_with fail;go_meet;exact⟨rfl,by rw[Cg.o],by rw[HA.o.1],by rw[HA.o.2.1],by rw[HA.o.2.2.1],by rw[HA.o.2.2.2]⟩
     ·have hm:eO d=4:=(by simp[eO,hkd]);have HA:aj (dc d c=c∧dl d l=l+1∧dn d n=n∧df d f=f):=ah (by simp[dc,dl,dn,df,hkd]);have Cg:=ah hm;rw[hm];clear hm hkd;go_wp2_with fail;go_meet;exact⟨rfl,by rw[Cg.o],by rw[HA.o.1],by rw[HA.o.2.1],by rw[HA.o.2.2.1],by rw[HA.o.2.2.2]⟩
     ·have hm:eO d=5:=(by simp[eO,hkd]);have HA:aj (dc d c=c∧dl d l=l+1∧dn d n=n∧df d f=f):=ah (by simp[dc,dl,dn,df,hkd]);have Cg:=ah hm;rw[hm];clear hm hkd;go_wp2_with fail;go_meet;exact⟨rfl,by rw[Cg.o],by rw[HA.o.1],by rw[HA.o.2.1],by rw[HA.o.2.2.1],by rw[HA.o.2.2.2]⟩
     ·have hm:eO d=6:=(by simp[eO,hkd]);have HA:aj (dc d c=c∧dl d l=l∧dn d n=n+1∧df d f=f):=ah (by simp[dc,dl,dn,df,hkd]);have Cg:=ah hm;rw[hm];clear hm hkd;go_wp2_with fail;go_meet;exact⟨rfl,by rw[Cg.o],by rw[HA.o.1],by rw[HA.o.2.1],by rw[HA.o.2.2.1],by rw[HA.o.2.2.2]⟩
     ·have hm:eO d=7:=(by simp[eO,hkd]);have HA:aj (dc d c=c∧dl d l=l∧dn d n=n∧df d f=f+1):=ah (by simp[dc,dl,dn,df,hkd]);have Cg:=ah hm;rw[hm];clear hm hkd;go_wp2_with fail;go_meet;exact⟨rfl,by rw[Cg.o],by rw[HA.o.1],by rw[HA.o.2.1],by rw[HA.o.2.2.1],by rw[HA.o.2.2.2]⟩
   obtain⟨rfl,rfl,rfl,rfl,rfl,rfl⟩:=hcut;have hc':0<=dc d c∧dc d c<=16:=by unfold dc;split <;> omega
   have hl'':0<=dl d l∧dl d l<=5:=by unfold dl;split <;> omega
   have hn':0<=dn d n∧dn d n<=3:=by unfold dn;split <;> omega
   have hf':0<=df d f∧df d f<=3:=by unfold df;split <;> omega
   generalize hcc:dc d c=c' at *;generalize hll:dl d l=l' at *;generalize hnn:dn d n=n' at *;generalize QN:df d f=f' at *;clear hcc hll hnn QN;go_upto_region 23 with fail;go_cut [70] (λs' W3=>w3=W3∧s'= .bool (lim c' l' n' f'))
   case first=>
    as_aux_lemma=>
     have HF:aj (lim c' l' n' f'=(((decide (12<c')||decide (4<l'))||decide (2<n'))||decide (2<f'))):=ah rfl;go_wp2_with fail
     all_goals go_meet
     all_goals exact⟨rfl,by first|(rw[HF.o];done)|(rw[HF.o];congr 1;go_light;grind)⟩
   obtain⟨rfl,rfl⟩:=hcut;cases h2:lim c' l' n' f'
   case true=>
    as_aux_lemma=>
     have HF:=ah (om.o.trans (if_pos h2));go_wp2_with fail;go_quiet (fail);go_wp2_with fail
     go_ret2
     exact⟨iU (congrArg Prod.fst HF.o) (congrArg Prod.snd HF.o),below_drewN HB3.o _⟩
   have zh:=ah (om.o.trans (if_neg (by rw[h2];decide)));have hlim:c'<=12∧l'<=4∧n'<=2∧f'<=2:=by unfold lim at h2;simp at h2;omega
   clear om h2;have hkm:k<maxLen:=by omega
   cases h5:(d.kind==5)
   ·have h6:(eO d==6)=false:=HFV.o.trans h5;have HF:=ah (zh.o.trans ((if_neg (by rw[h5];simp)).trans (if_neg (by rw[h5];simp))));clear zh;obtain⟨w4,hup,vW,hg4⟩:=Gt.o.put (by omega) d.nm hok.2.2.1 (eO d) (by have:=rG d;unfold fD;omega);have Ac:=ah ((vW.congr (R5 h0)));have dH:=ah (HB3.o.trans (bL hg4 (Nat.le_refl _) HB3.o.size));clear vW hg4;go_wp2_with fail;go_roundg R.length
    case measure=>simp
    case rel=>exact⟨k+1,pre++[d],R,c',l',n',f',rfl,by go_num,by rw[List.append_assoc];exact tY.o,by rw[List.length_append,HK.o];rfl,rfl,rfl,rfl,rfl,by omega,HF.o,Ac.o,dH.o⟩
   ·have h6:(eO d==6)=true:=HFV.o.trans h5;have hk2:=Gt.o.look d.on hok.2.2.2.2.2;generalize hmo:mD pre d.on.toList=mo at *;clear hmo;cases h7:(mo==0)
    case true=>
     as_aux_lemma=>
      have HF:=ah (zh.o.trans (if_pos (by rw[h5,h7];rfl)));go_wp2_with fail;go_quiet (fail);go_wp2_with fail
      go_ret2
      exact⟨iU (congrArg Prod.fst HF.o) (congrArg Prod.snd HF.o),below_drewN HB3.o _⟩
    have KH:=ah (zh.o.trans (if_neg (by rw[h5,h7];decide)));clear zh;cases h8:(mo != 4)
    case true=>
     as_aux_lemma=>
      have HF:=ah (KH.o.trans (if_pos (by rw[h5,h8];rfl)));go_wp2_with fail;go_quiet (fail);go_wp2_with fail
      go_ret2
      exact⟨iU (congrArg Prod.fst HF.o) (congrArg Prod.snd HF.o),below_drewN HB3.o _⟩
    have HF:=ah (KH.o.trans (if_neg (by rw[h5,h8];decide)));clear KH;obtain⟨w4,hup,vW,hg4⟩:=Gt.o.put (by omega) d.nm hok.2.2.1 (eO d) (by have:=rG d;unfold fD;omega);have Ac:=ah ((vW.congr (R5 h0)));have dH:=ah (HB3.o.trans (bL hg4 (Nat.le_refl _) HB3.o.size));clear vW hg4;go_wp2_with fail;go_roundg R.length
    case measure=>simp
    case rel=>exact⟨k+1,pre++[d],R,c',l',n',f',rfl,by go_num,by rw[List.append_assoc];exact tY.o,by rw[List.length_append,HK.o];rfl,rfl,rfl,rfl,rfl,by omega,HF.o,Ac.o,dH.o⟩
namespace Md
def mY (ds:List De) (l:List UInt8):Bool:=ds.any λd=>d.nm.toList==l
def mJ (ts:List Th) (l:List UInt8):Bool:=ts.any λt=>t.nm.toList==l
def mI (tx:List ByteArray) (l:List UInt8):Bool:=tx.any λs=>s.toList==l
def tF (ds:List De):List Th->List Th->Option Int
 | [],_=>none
 |t::r,pre=>if mY ds t.nm.toList||mJ pre t.nm.toList then some t.line else tF ds r (pre++[t])
def rP (ds:List De) (ts:List Th):List ByteArray->List ByteArray->Bool
 | [],_=>false
 |s::r,pre=>((mY ds s.toList||mJ ts s.toList)||mI pre s.toList)||rP ds ts r (pre++[s])
def ze (ds:List De) (ts:List Th):List Th->Int×Int
 | []=>(0,0)
 |t::r=>if decide ((4:Int)<t.bg.length)then(2,t.line)else if rP ds ts t.bg []then(4,t.line)else ze ds ts r
def jY (p:Pr):Int×Int:=match tF p.ds p.ts []with
 |some l=>(4,l)
 |none=>ze p.ds p.ts p.ts
theorem Tg (pre:List De) (d:De) (l:List UInt8):(if l=d.nm.toList then true else mY pre l)=mY (pre++[d]) l:=by
 unfold mY;rw[List.any_append];by_cases h:l=d.nm.toList
 ·subst h;simp
 ·rw[if_neg h];have:(d.nm.toList==l)=false:=by rw[beq_eq_false_iff_ne];exact λe=>h e.symm
  simp[this]
theorem Ti (ds:List De) (pre:List Th) (t:Th) (l:List UInt8):(if l=t.nm.toList then true else(mY ds l||mJ pre l))=(mY ds l||mJ (pre++[t]) l):=by
 unfold mJ;rw[List.any_append];by_cases h:l=t.nm.toList
 ·subst h;simp
 ·rw[if_neg h];have:(t.nm.toList==l)=false:=by rw[beq_eq_false_iff_ne];exact λe=>h e.symm
  simp[this]
end Md
theorem Holds.grown {W W':World} {bm:Nat} (hg:W.grownBy W' (some bm)): ∀ {l:List (Nat×Nat×Value)},(∀f∈l,f.1≠bm)->Holds W l->Holds W' l
 | [],_,_=>trivial
 |f::_,hne,⟨⟨h1,h2⟩,h3⟩=>⟨⟨Nat.lt_of_lt_of_le h1 hg.size,(World.cell?_of_block (a:=⟨f.1,f.2.1,none⟩) (hg.block f.1 h1 (by have:=hne f (by simp);simp;exact this))).trans h2⟩,Holds.grown hg (λx hx=>hne x (by simp[hx])) h3⟩
theorem Sit.grown {w W W':World} {fs:List (Nat×Nat×Value)} {bm:Nat} (h:Sit w W fs) (hg:W.grownBy W' (some bm)) (hb:w.heap.size<=bm) (hne: ∀f∈fs,f.1≠bm):Sit w W' fs:=
 ⟨h.1.trans (bL hg hb h.1.size),h.2.grown hg hne⟩
theorem PZ (p:Pr) (w:World) (aB aD:Option Addr) (aA ay:Nat) (hp:p.At w aB aD) (hsum:p.ds.length+p.ts.length<maxLen):
 Calls Tryz.prog 28 #[.agg #[.slice aB p.ds.length aA,.slice aD p.ts.length ay]] w λe w'=>e= .returned (.tuple #[.int .i64 (jY p).1,.int .i64 (jY p).2])∧Below w.heap.size w w':=by
 have HR:aj (jY p=match tF p.ds p.ts []with|some l=>(4,l)|none=>ze p.ds p.ts p.ts):=ah rfl;generalize jY p=res at *;have hld:=hp.1;have hlt:=hp.2.1;unfold maxLen at hld hlt;have HP:=ah hp;clear hp;have hmm:= @run_makeMap Tryz.prog;go_enter Tryz.func28,Tryz.ntmps28;go_upto_region 1 with fail;generalize hW:World.alloc w _=W;generalize Value.agg #[_,_]=a0;have HX:=ah ((Sit.start w).vg rfl (.slice aB p.ds.length aA) (.slice aD p.ts.length ay) 25);rw[hW]at HX;have hsz:W.heap.size=w.heap.size+1:=by rw[<- hW];simp
 clear hW;go_upto_region 2 with fail;have HM:=ah (iN.made W);have HY:=ah (HX.o.next (ak W (.map #[] 0)));rw[hsz]at HM;generalize World.alloc W _=W1 at *;clear HX hsz;obtain⟨-,⟨-,c0⟩,⟨-,c1⟩,-⟩:=HY.o;go_wp2_with fail;go_loopw [6,19] (λ_ s wr=> ∃(k:Nat) (pre R:List De),s= .int .i64 k∧pre++R=p.ds∧pre.length=k∧iN wr (w.heap.size+1) k (mY pre)∧Sit w wr [(w.heap.size,0,(.slice aB p.ds.length aA)),(w.heap.size,1,(.slice aD p.ts.length ay))]) (λ_ s _=>p.ds.length -(intOf s).toNat)
 case atStart=>exact⟨0,[],p.ds,rfl,rfl,rfl,HM.o.congr (λ_=>rfl),HY.o⟩
 case round=>
  obtain⟨k,pre,R,rfl,hds,hk,hmap,hsit⟩:=hrel;have HZ:=ah hsit;have ML:=ah hmap;clear hsit hmap HY HM c0 c1;have hlen:k+R.length=p.ds.length:=by rw[<- hds,List.length_append,hk]
  have hrow:=(HP.o.2.2.1.below HZ.o.1).drop k;rw[Nat.zero_add,<- hds,<- hk,List.drop_left]at hrow;rw[hk]at hrow;have tY:=ah hds;have HK:=ah hk;clear hds hk;cases R with
  |cons d R=>
   obtain⟨⟨b,off,rfl,iL,x0,x1,x2,x3,x4,x5,hok⟩,-⟩:=hrow;simp only[List.length_cons]at hlen;have hkl:k<p.ds.length:=by omega
   have hba:=ak wr (.cells #[.int .i64 d.kind,.int .i64 d.line,.string d.nm,.int .i64 d.size,.int .i64 d.init,.string d.on] 75);obtain⟨w4,hup,vW,hg4⟩:=(ML.o.next hba).put (by omega) d.nm hok.2.2.1 true;have Ac:=ah (vW.congr (Tg pre d));have Ey:=ah ((HZ.o.next hba).grown hg4 (by omega) (by simp));clear vW hg4 hba hok;go_wp2_with fail;go_roundw
   case rel=>exact⟨k+1,pre++[d],R,by go_num,by rw[List.append_assoc];exact tY.o,by rw[List.length_append,HK.o];rfl,Ac.o,Ey.o⟩
   case measure=>simp[intOf];omega
  |nil=>
   obtain rfl:k=p.ds.length:=by simpa using hlen
   have hpre:pre=p.ds:=by rw[<- tY.o,List.append_nil]
   subst hpre;obtain⟨-,⟨-,c0⟩,⟨-,c1⟩,-⟩:=HZ.o;clear hrow hlen tY HK;go_wp2_with fail;go_loopw [8,30] (λ_ s wr=> ∃(k:Nat) (pre R:List Th),s= .int .i64 k∧pre++R=p.ts∧pre.length=k∧tF p.ds p.ts []=tF p.ds R pre∧iN wr (w.heap.size+1) (p.ds.length+k) (λl=>mY p.ds l||mJ pre l)∧Sit w wr [(w.heap.size,0,(.slice aB p.ds.length aA)),(w.heap.size,1,(.slice aD p.ts.length ay))]) (λ_ s _=>p.ts.length -(intOf s).toNat)
   case atStart=>exact⟨0,[],p.ts,rfl,rfl,rfl,rfl,ML.o.congr (λl=>by simp[mJ]),HZ.o⟩
   case round=>
    obtain⟨k,pre,R,rfl,hds,hk,heq,hmap,hsit⟩:=hrel;have HU:=ah hsit;have Gt:=ah hmap;have HE:=ah heq;clear hsit hmap HZ ML c0 c1 heq;have hlen:k+R.length=p.ts.length:=(by rw[<- hds,List.length_append,hk]);have hrow:=(HP.o.2.2.2.below HU.o.1).drop k;rw[Nat.zero_add,<- hds,<- hk,List.drop_left]at hrow;rw[hk]at hrow;have tY:=ah hds;have HK:=ah hk;clear hds hk;cases R with
    |cons t R=>
     obtain⟨⟨b,off,fC,dw,bR,aY,rfl,hB,x0,x1,x2,x3,hok,htx,hst⟩,-⟩:=hrow;simp only[List.length_cons]at hlen;have hkl:k<p.ts.length:=(by omega);have hba:=ak wr (.cells #[.string t.nm,.int .i64 t.line,.slice fC t.bg.length dw,.slice bR t.body.len aY] 52);have Ac:=ah (Gt.o.next hba);have hlk:=Ac.o.look t.nm hok.1;have HB3:=ah (HU.o.next hba).1;cases sQ:(mY p.ds t.nm.toList||mJ pre t.nm.toList)
     ·obtain⟨w4,hup,vW,hg4⟩:=Ac.o.put (by omega) t.nm hok.1 true;have Ze:=ah (vW.congr (Ti p.ds pre t));have HU4:=ah ((HU.o.next hba).grown hg4 (by omega) (by simp));have bV:=ah (HE.o.trans (if_neg (by rw[sQ];decide)));clear vW hg4 hba hok htx hst;go_wp2_with fail;go_roundw
      case rel=>exact⟨k+1,pre++[t],R,by go_num,by rw[List.append_assoc];exact tY.o,by rw[List.length_append,HK.o];rfl,bV.o,Ze.o,HU4.o⟩
      case measure=>simp[intOf];omega
     ·have HF:aj (res=(4,t.line)):=ah (HR.o.trans (by rw[HE.o.trans (if_pos sQ)]));clear hba hok htx hst;go_wp2_with fail;go_quiet (fail);go_wp2_with fail
      go_ret2
      exact⟨iU (congrArg Prod.fst HF.o) (congrArg Prod.snd HF.o),below_drewN HB3.o _⟩
    |nil=>
     obtain rfl:k=p.ts.length:=(by simpa using hlen);have hpre:pre=p.ts:=(by rw[<- tY.o,List.append_nil]);subst hpre;have HR2:aj (res=ze p.ds p.ts p.ts):=ah (HR.o.trans (by rw[HE.o];rfl));obtain⟨-,⟨-,c0⟩,⟨-,c1⟩,-⟩:=HU.o;clear hrow hlen tY HK HE HR;generalize QN:(λl=>mY p.ds l||mJ p.ts l)=ff at *;have Z7:=ah QN;clear QN;have hth:=HP.o.2.2.2.below HU.o.1;go_wp2_with fail;go_loopw [10,11,12,14,47,60,75] (λ_ _ _ _ s _ _ wr=> ∃(k:Nat) (R:List Th),s= .int .i64 k∧k+R.length=p.ts.length∧ze p.ds p.ts p.ts=ze p.ds p.ts R∧fQ wr w.heap.size R aD k∧iN wr (w.heap.size+1) (p.ds.length+p.ts.length) ff∧Sit w wr [(w.heap.size,0,(.slice aB p.ds.length aA)),(w.heap.size,1,(.slice aD p.ts.length ay))]) (λ_ _ _ _ s _ _ _=>p.ts.length -(intOf s).toNat)
     case atStart=>exact⟨0,p.ts,rfl,by simp,rfl,hth,Gt.o,HU.o⟩
     case round=>
      obtain⟨k,R,rfl,hlen,heq,hrow,hmap,hsit⟩:=hrel;have HV:=ah hsit;have Ac:=ah hmap;have HE:=ah (HR2.o.trans heq);have Eh:=ah heq;clear hsit hmap HU Gt c0 c1 heq hth;cases R with
      |nil=>
       obtain rfl:k=p.ts.length:=(by simpa using hlen);have HF:=ah (HE.o.trans (rfl:_=((0:Int),(0:Int))));go_wp2_with fail
       go_ret2
       exact⟨iU (congrArg Prod.fst HF.o) (congrArg Prod.snd HF.o),HV.o.1⟩
      |cons t R=>
       obtain⟨⟨b,off,fC,dw,bR,aY,rfl,hB,x0,x1,x2,x3,hok,htx,hst⟩,hrest⟩:=hrow;simp only[List.length_cons]at hlen;have hkl:k<p.ts.length:=(by omega);have hll:=hok.2.2.1;have hcl:=hst.2;unfold maxLen at hll;clear hst hok;go_upto_region 17 with fail;obtain⟨nb,hnb⟩: ∃n,wr.heap.size=n:=⟨_,rfl⟩;generalize hW2:World.alloc wr _=W2;have mh:aj (Below wr.heap.size wr W2):=ah (by rw[<- hW2];exact ak _ _);have HY:aj (Sit wr W2 [(nb,0,.string t.nm),(nb,1,.int .i64 t.line),(nb,2,.slice fC t.bg.length dw),(nb,3,.slice bR t.body.len aY)]):=ah (by rw[<- hW2];exact(Sit.start wr).yh hnb _ _ _ _ _);have xL:=ah (HV.o.next mh.o);have Ze:=ah (Ac.o.next mh.o);have HB3:=ah xL.o.1;have Ah:=ah (htx.below (mh.o.mono HV.o.1.size));have jE:=ah (hrest.below (mh.o.mono HV.o.1.size));rw[hnb];clear hW2 hnb x0 x1 x2 x3 Ac HV htx hrest mh;obtain⟨-,⟨-,c0⟩,⟨-,c1⟩,⟨-,c2⟩,⟨-,c3⟩,-⟩:=HY.o;cases h1:decide ((4:Int)<t.bg.length)
       case true=>
        as_aux_lemma=>
         have HF:=ah (HE.o.trans (if_pos h1));have h1':4<t.bg.length:=(by simp at h1;omega);clear h1;go_wp2_with fail;go_quiet (fail);go_wp2_with fail
         go_ret2
         exact⟨iU (congrArg Prod.fst HF.o) (congrArg Prod.snd HF.o),below_drewN HB3.o _⟩
       have HE2:=ah (HE.o.trans (if_neg (by rw[h1];decide)));have om:=ah (Eh.o.trans (if_neg (by rw[h1];decide)));have h1':t.bg.length<=4:=(by simp at h1;omega);clear HE Eh h1;go_wp2_with fail;go_loop [11,12,14,60,75] (λ_ _ _ s _=> ∃(k':Nat) (pre R':List ByteArray),s= .int .i64 k'∧pre++R'=t.bg∧pre.length=k'∧rP p.ds p.ts t.bg []=rP p.ds p.ts R' pre) (λ_ _ _ s _=>t.bg.length -(intOf s).toNat)
       case atStart=>exact⟨0,[],t.bg,rfl,rfl,rfl,rfl⟩
       case round=>
        obtain⟨k',pre,R',rfl,hds,hk',heq'⟩:=hrel;have bV:=ah heq';have hlen':k'+R'.length=t.bg.length:=(by rw[<- hds,List.length_append,hk']);have hrow:=Ah.o.drop k';rw[Nat.zero_add,<- hds,<- hk',List.drop_left]at hrow;rw[hk']at hrow;have vK:=ah ((hds ▸ Ah.o:eD W2 w.heap.size (pre++R') fC 0).take);have tY:=ah hds;have HK:=ah hk';clear hds hk' heq';cases R' with
        |nil=>
         obtain rfl:k'=t.bg.length:=(by simpa using hlen');have HF:=ah (om.o.trans (if_neg (by rw[bV.o];simp[rP])));go_wp2_with fail;go_roundw
         case rel=>exact⟨k+1,R,by go_num,by omega,HF.o,jE.o,Ze.o,xL.o⟩
         case measure=>simp[intOf];omega
        |cons s R'=>
         obtain⟨⟨b',off',rfl,hB',y0,hs⟩,-⟩:=hrow;simp only[List.length_cons]at hlen';have hkl':k'<t.bg.length:=(by omega);have hlk:=Ze.o.look s hs;have hfs:ff s.toList=(mY p.ds s.toList||mJ p.ts s.toList):=(by rw[<- Z7.o]);cases sQ:ff s.toList
         case true=>
          as_aux_lemma=>
           have HF:=ah (HE2.o.trans (if_pos (by rw[bV.o];unfold rP;rw[<- hfs,sQ];rfl)));clear hfs;go_wp2_with fail;go_quiet (fail);go_wp2_with fail
           go_ret2
           exact⟨iU (congrArg Prod.fst HF.o) (congrArg Prod.snd HF.o),below_drewN HB3.o _⟩
         have zh:aj (rP p.ds p.ts t.bg []=(mI pre s.toList||rP p.ds p.ts R' (pre++[s]))):=ah (bV.o.trans (by rw[rP,<- hfs,sQ];rfl));clear hfs bV;have hk0:(0:Int)<=k':=(by omega);have hk2:k'<=dw:=(by omega);go_wp2_with fail;go_loop [14,75] (λ_ s'=> ∃(k'':Nat) (Q:List ByteArray),s'= .int .i64 k''∧k''+Q.length=k'∧mI pre s.toList=mI Q s.toList∧eD W2 w.heap.size Q (some ⟨b',off',none⟩) k'') (λ_ s'=>k' -(intOf s').toNat)
         case atStart=>exact⟨0,pre,rfl,by rw[Nat.zero_add];exact HK.o,rfl,vK.o⟩
         case round=>
          obtain⟨k'',Q,rfl,V3,heq'',av4⟩:=hrel;have HQ:=ah heq'';clear heq'';cases Q with
          |nil=>
           obtain rfl:k''=k':=(by simpa using V3);have HF:=ah (zh.o.trans (by rw[HQ.o];rfl:_=rP p.ds p.ts R' (pre++[s])));go_wp2_with fail;go_round
           case rel=>exact⟨k''+1,pre++[s],R',by go_num,by rw[List.append_assoc];exact tY.o,by rw[List.length_append,HK.o];rfl,HF.o⟩
           case measure=>simp[intOf];omega
          |cons q Q=>
           obtain⟨⟨b2,off2,hbe,hB2,z0,hq⟩,hrest''⟩:=av4;obtain⟨rfl,rfl⟩:b'=b2∧off'=off2:=(by injection hbe with h;injection h with h1 h2;exact⟨h1,h2⟩);simp only[List.length_cons]at V3;have bh3:k''<k':=(by omega);clear hbe;have Er:aj (mI pre s.toList=((q.toList==s.toList)||mI Q s.toList)):=ah (HQ.o.trans (by simp[mI]));cases hc:(q.toList==s.toList)
           ·have hc':(s.toList==q.toList)=false:=(by rw[beq_eq_false_iff_ne]at hc⊢;exact λe=>hc e.symm);have HF:=ah (Er.o.trans (by rw[hc];rfl:_=mI Q s.toList));go_wp2_with fail;go_round
            case rel=>exact⟨k''+1,Q,by go_num,by omega,HF.o,hrest''⟩
            case measure=>simp[intOf];omega
           ·have hc':(s.toList==q.toList)=true:=(by rw[beq_iff_eq]at hc⊢;exact hc.symm);have HF:=ah (HE2.o.trans (if_pos (by rw[zh.o,Er.o,hc];rfl)));go_wp2_with fail;go_quiet (fail);go_wp2_with fail
            go_ret2
            exact⟨iU (congrArg Prod.fst HF.o) (congrArg Prod.snd HF.o),below_drewN HB3.o _⟩
end Go.Proofs.YtkmllehjemjgpaaGreatDoor
