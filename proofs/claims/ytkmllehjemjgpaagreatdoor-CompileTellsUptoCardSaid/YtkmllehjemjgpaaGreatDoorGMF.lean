/- Contracts of check.first, nesting, and of the checker's kind, expr, own, mutexOf. And what hangs on it. -/
import Derived.Test.YtkmllehjemjgpaaGreatDoorGMC
import Derived.Test.YtkmllehjemjgpaaGreatDoorGME
import Derived.Test.YtkmllehjemjgpaaGreatDoorGMX
import Derived.Test.YtkmllehjemjgpaaGreatDoorGMB
set_option linter.unusedSimpArgs false
set_option linter.unusedVariables false
set_option maxHeartbeats 40000000
set_option maxRecDepth 1000000
namespace Go.Proofs.YtkmllehjemjgpaaGreatDoor
open Go.RowKit
namespace Md
def eF:List Int->Int
 | []=>0
 |a::r=>if a != 0 then a else eF r
def nest (b:Bool):Int:=if b then 7 else 0
def nU (ds:List De) (nm:ByteArray):ByteArray:=((ds.find? λd=>d.kind==5&&d.nm.toList==nm.toList).map (·.on)).getD ⟨#[]⟩
theorem PO (d:De) (r:List De) (nm:ByteArray):nU (d::r) nm=if d.kind==5&&d.nm.toList==nm.toList then d.on else nU r nm:=by
 unfold nU;rw[List.find?_cons];cases h:(d.kind==5&&d.nm.toList==nm.toList) <;> simp
end Md
open Md
def sK (bc:Nat) (p:Pr) (aB aD:Option Addr) (aA ay:Nat) (i:Int) (bK:Option Addr) (vw aU bs bt:Nat):List (Nat×Nat×Value):=
 [(bc,0,.slice aB p.ds.length aA),(bc,1,.slice aD p.ts.length ay),(bc,2,.int .i64 i),(bc,3,.slice bK vw aU),(bc,4,.map (some bs)),(bc,5,.map (some bt))]
theorem lu (b:Bool) (w:World):
 Calls Tryz.prog 118 #[.bool b] w λe w'=>e= .returned (.int .i64 (nest b))∧w=w':=by
 cases b
 all_goals go_enter Tryz.func118,Tryz.ntmps118;go_wp2;go_ret;exact⟨rfl,rfl⟩
theorem jL (l:List Int) (w:World) (ao:Option Addr) (cap:Nat) (hl:l.length<=maxLen) (hat:eH w w.heap.size l ao 0):
 Calls Tryz.prog 116 #[.slice ao l.length cap] w λe w'=>e= .returned (.int .i64 (eF l))∧w=w':=by
 unfold maxLen at hl;generalize hres:eF l=res;have HR:=ah hres;clear hres;go_enter Tryz.func116,Tryz.ntmps116;go_wp2_with fail;go_loop [4,7] (λ_ s=> ∃(k:Nat) (R:List Int),s= .int .i64 k∧k+R.length=l.length∧res=eF R∧eH w w.heap.size R ao k) (λ_ s=>l.length -(intOf s).toNat)
 case atStart=>exact⟨0,l,rfl,by simp,HR.o.symm,hat⟩
 case round=>
  obtain⟨k,R,rfl,hlen,heq,hrow⟩:=hrel;have HE:=ah heq;clear heq;cases R with
  |nil=>
   obtain rfl:k=l.length:=by simpa using hlen
   go_wp2_with fail;go_ret;exact⟨aV HE.o.symm,rfl⟩
  |cons a R=>
   obtain⟨⟨b,off,rfl,hB,y0⟩,hrest⟩:=hrow;simp only[List.length_cons]at hlen;have hkl:k<l.length:=by omega
   cases hc:(a != 0)
   ·have bV:=ah (HE.o.trans (if_neg (by rw[hc];decide)));go_wp2_with fail;go_round
    case rel=>exact⟨k+1,R,by go_num,by omega,bV.o,hrest⟩
    case measure=>simp[intOf];omega
   ·have bV:=ah (HE.o.trans (if_pos hc));go_wp2_with fail;go_ret;exact⟨aV bV.o.symm,rfl⟩
section
variable (p:Pr) (w:World) (aB aD:Option Addr) (aA ay:Nat) (i:Int) (bK:Option Addr) (vw aU bs bt bc:Nat)
theorem jO (nm:ByteArray) (l:List Int) (ao:Option Addr) (cap:Nat) (hi:fD i) (hl:l.length<=maxLen) (hp:p.At w aB aD) (hw:eH w w.heap.size l ao 0) (hh:Holds w (sK bc p aB aD aA ay i bK vw aU bs bt)):
 Calls Tryz.prog 117 #[.pointer (some ⟨bc,0,none⟩),.string nm,.slice ao l.length cap] w λe w'=>e= .returned (.int .i64 (dh (mean p i nm) l))∧Below w.heap.size w w':=by
 have HH:=ah (show Sit w w _ from⟨Below.refl _ _,hh⟩);have HP:=ah hp;have HW:=ah hw;clear hp hw hh;go_enter Tryz.func117,Tryz.ntmps117;go_wp2_with fail;obtain⟨T,F,yX,hst,hF,hnext⟩:=calm w;have HF:=ah hF;have dJ:=ah hnext;clear hnext hF;have d0:=λx=>(HH.o.next (HF.o x)).2.1.2;have d1:=λx=>(HH.o.next (HF.o x)).2.2.1.2;have d2:=λx=>(HH.o.next (HF.o x)).2.2.2.1.2;have d3:=λx=>(HH.o.next (HF.o x)).2.2.2.2.1.2;have d4:=λx=>(HH.o.next (HF.o x)).2.2.2.2.2.1.2;have d5:=λx=>(HH.o.next (HF.o x)).2.2.2.2.2.2.1.2;refine gZ F (by kernel_rfl) (by kernel_rfl) hst ?_
 repeat (any_goals (first|go_big_quiet_step ((go_at_call 148;refine(zM p i nm l _ aB aD ao aA ay cap hi hl (HP.o.same (HF.o _)) (HW.o.same (HF.o _))).mono ?_;rintro e w' ⟨rfl,hb⟩;exact⟨rfl,dJ.o _ _ hb⟩))|(refine wpQuiet_step (λK hK=> ?_);go_simp;first|(refine hK _ ?_;clear hK K)|(split <;> first|(refine hK _ ?_;clear hK K)|(apply Exists.intro;refine⟨λ_=> ?_,hK _ ?_⟩;((go_at_call 148;refine(zM p i nm l _ aB aD ao aA ay cap hi hl (HP.o.same (HF.o _)) (HW.o.same (HF.o _))).mono ?_;rintro e w' ⟨rfl,hb⟩;exact⟨rfl,dJ.o _ _ hb⟩));clear hK K)))))
 all_goals (refine wpQuiet_nil ?_;rintro _ ⟨x,rfl⟩)
 go_wp2_with fail;go_ret;exact⟨rfl,HF.o x⟩
theorem wQ (op n:Int) (nm:ByteArray) (kids:bC) (ao:Option Addr) (cap:Nat) (hi:fD i) (hp:p.At w aB aD) (hok:sD op n nm kids) (hat:kids.At w w.heap.size ao 0) (dG:dD w) (hh:Holds w (sK bc p aB aD aA ay i bK vw aU bs bt)):
 Calls Tryz.prog 115 #[.pointer (some ⟨bc,0,none⟩),.agg #[.int .i64 op,.int .i64 n,.string nm,.slice ao kids.len cap]] w λe w'=>e= .returned (.int .i64 (kg p i op n nm kids))∧Below w.heap.size w w':=by
 have HH:=ah (show Sit w w _ from⟨Below.refl _ _,hh⟩);have HP:=ah hp;have HAT:=ah hat;have iF:=ah dG;clear hp hat hh dG;go_enter Tryz.func115,Tryz.ntmps115;go_upto_region 1 with fail;generalize hW:World.alloc w _=W;generalize Value.agg #[_,_,_,_]=a0;have HX:=ah (HH.o.yh rfl (.int .i64 op) (.int .i64 n) (.string nm) (.slice ao kids.len cap) 88);rw[hW]at HX;clear hW;obtain⟨T,F,yX,hst,hF,hnext⟩:=calm W;have HF:=ah hF;have dJ:=ah hnext;clear hnext hF;have d0:=λx=>(HX.o.next (HF.o x)).2.1.2;have d1:=λx=>(HX.o.next (HF.o x)).2.2.1.2;have d2:=λx=>(HX.o.next (HF.o x)).2.2.2.1.2;have d3:=λx=>(HX.o.next (HF.o x)).2.2.2.2.1.2;have d4:=λx=>(HX.o.next (HF.o x)).2.2.2.2.2.1.2;have d5:=λx=>(HX.o.next (HF.o x)).2.2.2.2.2.2.1.2;have d6:=λx=>(HX.o.next (HF.o x)).2.2.2.2.2.2.2.1.2;have d7:=λx=>(HX.o.next (HF.o x)).2.2.2.2.2.2.2.2.1.2;have d8:=λx=>(HX.o.next (HF.o x)).2.2.2.2.2.2.2.2.2.1.2;have d9:=λx=>(HX.o.next (HF.o x)).2.2.2.2.2.2.2.2.2.2.1.2;refine gZ F (by kernel_rfl) (by kernel_rfl) hst ?_
 repeat (any_goals (first|go_big_quiet_step ((go_at_call 147;refine(DN p i op n nm kids _ aB aD ao aA ay cap hi ((HP.o.same HX.o.1).same (HF.o _)) hok ((HAT.o.same HX.o.1).same (HF.o _)) ((iF.o.same HX.o.1).same (HF.o _))).mono ?_;rintro e w' ⟨rfl,hb⟩;exact⟨rfl,dJ.o _ _ hb⟩))|(refine wpQuiet_step (λK hK=> ?_);go_simp;first|(refine hK _ ?_;clear hK K)|(split <;> first|(refine hK _ ?_;clear hK K)|(apply Exists.intro;refine⟨λ_=> ?_,hK _ ?_⟩;((go_at_call 147;refine(DN p i op n nm kids _ aB aD ao aA ay cap hi ((HP.o.same HX.o.1).same (HF.o _)) hok ((HAT.o.same HX.o.1).same (HF.o _)) ((iF.o.same HX.o.1).same (HF.o _))).mono ?_;rintro e w' ⟨rfl,hb⟩;exact⟨rfl,dJ.o _ _ hb⟩));clear hK K)))))
 all_goals (refine wpQuiet_nil ?_;rintro _ ⟨x,rfl⟩)
 go_wp2_with fail;go_ret;exact⟨rfl,(HX.o.next (HF.o x)).1⟩
theorem Lg (j:Nat) (t:Th) (r:List Th) (hd:p.ts.drop j=t::r) (hp:p.At w aB aD) (hh:Holds w (sK bc p aB aD aA ay (j:Int) bK vw aU bs bt)):
 Calls Tryz.prog 122 #[.pointer (some ⟨bc,0,none⟩)] w λe w'=>e= .returned (.string t.nm)∧Below w.heap.size w w':=by
 have HH:=ah (show Sit w w _ from⟨Below.refl _ _,hh⟩);have hj:j<p.ts.length:=by have:=congrArg List.length hd;simp at this;omega
 have hth:=hp.2.2.2.drop j;rw[hd,Nat.zero_add]at hth;obtain⟨⟨b,off,fC,dw,bR,aY,rfl,hB,x0,-⟩,-⟩:=hth;clear hp hd hh;obtain⟨-,⟨-,c0⟩,⟨-,c1⟩,⟨-,c2⟩,⟨-,c3⟩,⟨-,c4⟩,⟨-,c5⟩,-⟩:=HH.o;have hj0:(0:Int)<=j:=by omega
 have hj1:(j:Int)<p.ts.length:=by omega
 go_enter Tryz.func122,Tryz.ntmps122;go_wp2_with fail;go_quiet (fail);go_wp2_with fail;go_ret;exact⟨rfl,below_drewN (Below.refl _ _) _⟩
theorem rD (nm:ByteArray) (hp:p.At w aB aD) (hh:Holds w (sK bc p aB aD aA ay i bK vw aU bs bt)):
 Calls Tryz.prog 121 #[.pointer (some ⟨bc,0,none⟩),.string nm] w λe w'=>e= .returned (.string (nU p.ds nm))∧Below w.heap.size w w':=by
 have HH:=ah (show Sit w w _ from⟨Below.refl _ _,hh⟩);have HP:=ah hp;have hld:=hp.1;unfold maxLen at hld;generalize hres:nU p.ds nm=res;have HR:=ah hres;clear hp hh hres;obtain⟨-,⟨-,c0⟩,⟨-,c1⟩,⟨-,c2⟩,⟨-,c3⟩,⟨-,c4⟩,⟨-,c5⟩,-⟩:=HH.o;go_enter Tryz.func121,Tryz.ntmps121;go_wp2_with fail;go_loopw [6,13] (λ_ s wr=> ∃(k:Nat) (R:List De),s= .int .i64 k∧k+R.length=p.ds.length∧res=nU R nm∧gM wr wr.heap.size R aB k∧Below w.heap.size w wr) (λ_ s _=>p.ds.length -(intOf s).toNat)
 case atStart=>exact⟨0,p.ds,rfl,by simp,HR.o.symm,HP.o.2.2.1,Below.refl _ _⟩
 case round=>
  obtain⟨k,R,rfl,hlen,heq,hrow,hB⟩:=hrel;have HE:=ah heq;have HB:=ah hB;clear heq hB c0 c1 c2 c3 c4 c5;cases R with
  |nil=>
   obtain rfl:k=p.ds.length:=by simpa using hlen
   go_wp2_with fail;go_ret;exact⟨by rw[HE.o];rfl,HB.o⟩
  |cons d R=>
   obtain⟨⟨b,off,rfl,hB,x0,x1,x2,x3,x4,x5,hok⟩,hrest⟩:=hrow;simp only[List.length_cons]at hlen;have hkl:k<p.ds.length:=by omega
   rw[PO]at HE;have HB2:=ah (HB.o.trans ((ak wr (.cells #[.int .i64 d.kind,.int .i64 d.line,.string d.nm,.int .i64 d.size,.int .i64 d.init,.string d.on] 75)).mono HB.o.size));clear hok;cases h5:(d.kind==5)
   ·have bV:=ah (HE.o.trans (if_neg (by rw[h5];simp)));go_wp2_with fail;go_roundw
    case rel=>exact⟨k+1,R,by go_num,by omega,bV.o,hrest.same (ak _ _),HB2.o⟩
    case measure=>simp[intOf];omega
   ·cases hc:(d.nm.toList==nm.toList)
    ·have bV:=ah (HE.o.trans (if_neg (by rw[h5,hc];decide)));go_wp2_with fail;go_roundw
     case rel=>exact⟨k+1,R,by go_num,by omega,bV.o,hrest.same (ak _ _),HB2.o⟩
     case measure=>simp[intOf];omega
    ·have bV:=ah (HE.o.trans (if_pos (by rw[h5,hc];rfl)));go_wp2_with fail;go_ret;exact⟨by rw[bV.o];rfl,HB2.o⟩
end
namespace Md
def dW:aH->List Int->Bool
 | .nil,_=>false
 | .cons h _ _ r,l=>(l.any λk=>h.op==k)||dW r l
def pY:aH->ByteArray->List Int->Bool
 | .nil,_,_=>false
 | .cons h _ _ r,nm,l=>(l.any λk=>h.op==k&&h.nm.toList==nm.toList)||pY r nm l
end Md
section
variable (p:Pr) (w:World) (aB aD:Option Addr) (aA ay:Nat) (i:Int) (bK:Option Addr) (aU bs bt bc:Nat)
theorem kH (ar:aH) (l:List Int) (ao:Option Addr) (cap:Nat) (hl:l.length<=maxLen) (hw:eH w w.heap.size l ao 0) (har:ar.len<=maxLen) (hat:ar.At w w.heap.size bK 0) (hh:Holds w (sK bc p aB aD aA ay i bK ar.len aU bs bt)):
 Calls Tryz.prog 119 #[.pointer (some ⟨bc,0,none⟩),.slice ao l.length cap] w λe w'=>e= .returned (.bool (dW ar l))∧Below w.heap.size w w':=by
 have HH:=ah (show Sit w w _ from⟨Below.refl _ _,hh⟩);have HW:=ah hw;have HAT:=ah hat;generalize hres:dW ar l=res;have HR:=ah hres;unfold maxLen at hl har;clear hh hw hat hres;obtain⟨-,⟨-,c0⟩,⟨-,c1⟩,⟨-,c2⟩,⟨-,c3⟩,⟨-,c4⟩,⟨-,c5⟩,-⟩:=HH.o;go_enter Tryz.func119,Tryz.ntmps119;go_wp2_with fail;go_loopw [6,8,14,18,19,20] (λ_ _ s _ _ _ wr=> ∃(k:Nat) (R:aH),s= .int .i64 k∧k+R.len=ar.len∧res=dW R l∧R.At wr wr.heap.size bK k∧Below w.heap.size w wr) (λ_ _ s _ _ _ _=>ar.len -(intOf s).toNat)
 case atStart=>exact⟨0,ar,rfl,by simp,HR.o.symm,HAT.o,Below.refl _ _⟩
 case round=>
  obtain⟨k,R,rfl,hlen,heq,hrow,hB⟩:=hrel;have HE:=ah heq;have HB:=ah hB;clear heq hB c0 c1 c2 c3 c4 c5;cases R with
  |nil=>
   obtain rfl:k=ar.len:=by simpa[aH.len]using hlen
   go_wp2_with fail;go_ret;exact⟨aZ HE.o.symm,HB.o⟩
  |cons h b e R=>
   obtain⟨bl,off,s,rfl,hbl,hin,x0,x1,x2,x3,x4,x5,x6,x7,x8,x9,x10,hrest⟩:=aH.At.head hrow;have hkl:k<ar.len:=by simp only[aH.len]at hlen;omega
   clear hrow hin;go_upto_region 4 with fail;obtain⟨nb,hnb⟩: ∃n,wr.heap.size=n:=⟨_,rfl⟩;generalize hW2:World.alloc wr _=W2;have HY:aj (Sit wr W2 (ql nb h b e s [])):=ah (by rw[<- hW2];exact(Sit.start wr).tK hnb _ _ _ _ _ _ _ _ _ _ _ _);have HB2:=ah (HB.o.trans (HY.o.1.mono HB.o.size));have jE:=ah (hrest.same HY.o.1);have Js:=HW.o.same HB2.o;rw[hnb];clear hW2 hnb x0 x1 x2 x3 x4 x5 x6 x7 x8 x9 x10 hrest;obtain⟨-,⟨-,c0⟩,⟨-,c1⟩,⟨-,c2⟩,⟨-,c3⟩,⟨-,c4⟩,⟨-,c5⟩,⟨-,c6⟩,⟨-,c7⟩,⟨-,c8⟩,⟨-,c9⟩,⟨-,c10⟩,-⟩:=HY.o;clear c1 c2 c3 c4 c5 c6 c7 c8 c9 c10;go_wp2_with fail;go_loop [8,20] (λ_ s'=> ∃(k':Nat) (Q:List Int),s'= .int .i64 k'∧k'+Q.length=l.length∧(l.any λk=>h.op==k)=(Q.any λk=>h.op==k)∧eH W2 W2.heap.size Q ao k') (λ_ s'=>l.length -(intOf s').toNat)
   case atStart=>exact⟨0,l,rfl,by simp,rfl,Js⟩
   case round=>
    obtain⟨k',Q,rfl,hlen',heq',hrow'⟩:=hrel;have HQ:=ah heq';clear heq' Js;cases Q with
    |nil=>
     obtain rfl:k'=l.length:=(by simpa using hlen');have HF:aj (res=dW R l):=ah (HE.o.trans (by rw[dW,HQ.o];rfl));go_wp2_with fail;go_roundw
     case rel=>exact⟨k+1,R,by go_num,by simp only[aH.len]at hlen;omega,HF.o,jE.o,HB2.o⟩
     case measure=>simp[intOf];omega
    |cons q Q=>
     obtain⟨⟨b2,off2,rfl,hB2,z0⟩,hrest'⟩:=hrow';simp only[List.length_cons]at hlen';have hkl':k'<l.length:=(by omega);have Er:aj ((l.any λk=>h.op==k)=((h.op==q)||(Q.any λk=>h.op==k))):=ah (HQ.o.trans (by simp));cases hc:(h.op==q)
     ·have HF:=ah (Er.o.trans (by rw[hc];rfl:_=(Q.any λk=>h.op==k)));go_wp2_with fail;go_round
      case rel=>exact⟨k'+1,Q,by go_num,by omega,HF.o,hrest'⟩
      case measure=>simp[intOf];omega
     ·have HF:aj (res=true):=ah (HE.o.trans (by rw[dW,Er.o,hc];rfl));go_wp2_with fail;go_ret;exact⟨aZ HF.o.symm,HB2.o⟩
theorem nT (ar:aH) (nm:ByteArray) (l:List Int) (ao:Option Addr) (cap:Nat) (hl:l.length<=maxLen) (hw:eH w w.heap.size l ao 0) (har:ar.len<=maxLen) (hat:ar.At w w.heap.size bK 0) (hh:Holds w (sK bc p aB aD aA ay i bK ar.len aU bs bt)):
 Calls Tryz.prog 120 #[.pointer (some ⟨bc,0,none⟩),.string nm,.slice ao l.length cap] w λe w'=>e= .returned (.bool (pY ar nm l))∧Below w.heap.size w w':=by
 have HH:=ah (show Sit w w _ from⟨Below.refl _ _,hh⟩);have HW:=ah hw;have HAT:=ah hat;generalize hres:pY ar nm l=res;have HR:=ah hres;unfold maxLen at hl har;clear hh hw hat hres;obtain⟨-,⟨-,c0⟩,⟨-,c1⟩,⟨-,c2⟩,⟨-,c3⟩,⟨-,c4⟩,⟨-,c5⟩,-⟩:=HH.o;go_enter Tryz.func120,Tryz.ntmps120;go_wp2_with fail;go_loopw [8,10,16,20,21,22] (λ_ _ s _ _ _ wr=> ∃(k:Nat) (R:aH),s= .int .i64 k∧k+R.len=ar.len∧res=pY R nm l∧R.At wr wr.heap.size bK k∧Below w.heap.size w wr) (λ_ _ s _ _ _ _=>ar.len -(intOf s).toNat)
 case atStart=>exact⟨0,ar,rfl,by simp,HR.o.symm,HAT.o,Below.refl _ _⟩
 case round=>
  obtain⟨k,R,rfl,hlen,heq,hrow,hB⟩:=hrel;have HE:=ah heq;have HB:=ah hB;clear heq hB c0 c1 c2 c3 c4 c5;cases R with
  |nil=>
   obtain rfl:k=ar.len:=by simpa[aH.len]using hlen
   go_wp2_with fail;go_ret;exact⟨aZ HE.o.symm,HB.o⟩
  |cons h b e R=>
   obtain⟨bl,off,s,rfl,hbl,hin,x0,x1,x2,x3,x4,x5,x6,x7,x8,x9,x10,hrest⟩:=aH.At.head hrow;have hkl:k<ar.len:=by simp only[aH.len]at hlen;omega
   clear hrow hin;go_upto_region 4 with fail;obtain⟨nb,hnb⟩: ∃n,wr.heap.size=n:=⟨_,rfl⟩;generalize hW2:World.alloc wr _=W2;have HY:aj (Sit wr W2 (ql nb h b e s [])):=ah (by rw[<- hW2];exact(Sit.start wr).tK hnb _ _ _ _ _ _ _ _ _ _ _ _);have HB2:=ah (HB.o.trans (HY.o.1.mono HB.o.size));have jE:=ah (hrest.same HY.o.1);have Js:=HW.o.same HB2.o;rw[hnb];clear hW2 hnb x0 x1 x2 x3 x4 x5 x6 x7 x8 x9 x10 hrest;obtain⟨-,⟨-,c0⟩,⟨-,c1⟩,⟨-,c2⟩,⟨-,c3⟩,⟨-,c4⟩,⟨-,c5⟩,⟨-,c6⟩,⟨-,c7⟩,⟨-,c8⟩,⟨-,c9⟩,⟨-,c10⟩,-⟩:=HY.o;clear c1 c3 c4 c5 c6 c7 c8 c9 c10;go_wp2_with fail;go_loop [10,22] (λ_ s'=> ∃(k':Nat) (Q:List Int),s'= .int .i64 k'∧k'+Q.length=l.length∧(l.any λk=>h.op==k&&h.nm.toList==nm.toList)=(Q.any λk=>h.op==k&&h.nm.toList==nm.toList)∧eH W2 W2.heap.size Q ao k') (λ_ s'=>l.length -(intOf s').toNat)
   case atStart=>exact⟨0,l,rfl,by simp,rfl,Js⟩
   case round=>
    obtain⟨k',Q,rfl,hlen',heq',hrow'⟩:=hrel;have HQ:=ah heq';clear heq' Js;cases Q with
    |nil=>
     obtain rfl:k'=l.length:=(by simpa using hlen');have HF:aj (res=pY R nm l):=ah (HE.o.trans (by rw[pY,HQ.o];rfl));go_wp2_with fail;go_roundw
     case rel=>exact⟨k+1,R,by go_num,by simp only[aH.len]at hlen;omega,HF.o,jE.o,HB2.o⟩
     case measure=>simp[intOf];omega
    |cons q Q=>
     obtain⟨⟨b2,off2,rfl,hB2,z0⟩,hrest'⟩:=hrow';simp only[List.length_cons]at hlen';have hkl':k'<l.length:=(by omega);have Er:aj ((l.any λk=>h.op==k&&h.nm.toList==nm.toList)=((h.op==q&&h.nm.toList==nm.toList)||(Q.any λk=>h.op==k&&h.nm.toList==nm.toList))):=ah (HQ.o.trans (by simp));cases hc:(h.op==q)
     ·have HF:=ah (Er.o.trans (by rw[hc];rfl:_=(Q.any λk=>h.op==k&&h.nm.toList==nm.toList)));go_wp2_with fail;go_round
      case rel=>exact⟨k'+1,Q,by go_num,by omega,HF.o,hrest'⟩
      case measure=>simp[intOf];omega
     ·cases hn:(h.nm.toList==nm.toList)
      ·have HF:=ah (Er.o.trans (by rw[hc,hn];rfl:_=(Q.any λk=>h.op==k&&h.nm.toList==nm.toList)));rw[hn]at HF;go_wp2_with fail;go_round
       case rel=>exact⟨k'+1,Q,by go_num,by omega,HF.o,hrest'⟩
       case measure=>simp[intOf];omega
      ·have HF:aj (res=true):=ah (HE.o.trans (by rw[pY,Er.o,hc,hn];rfl));go_wp2_with fail;go_ret;exact⟨aZ HF.o.symm,HB2.o⟩
end
namespace Md
def ex1 (p:Pr) (i:Int):bC->Int
 | .nil=>0
 | .cons op n nm kids _=>kg p i op n nm kids
def EI (p:Pr) (i:Int) (h:cB):Int:=
 if decide ((h.idx.len:Int)=0)then eF [dh (mean p i h.nm) [1,2],kg p i h.cu h.xn h.bZ h.aK]else eF [dh (mean p i h.nm) [3],ex1 p i h.idx,kg p i h.cu h.xn h.bZ h.aK]
end Md
theorem zK (w:World) (a b c:Int) (t:TypeId):eH (w.alloc (.cells #[.int .i64 a,.int .i64 b,.int .i64 c] t)) (w.alloc (.cells #[.int .i64 a,.int .i64 b,.int .i64 c] t)).heap.size [a,b,c] (some ⟨w.heap.size,0,none⟩) 0:=
 ⟨⟨_,_,rfl,by simp,dB w [.int .i64 a,.int .i64 b,.int .i64 c] t 0⟩,⟨_,_,rfl,by simp,dB w [.int .i64 a,.int .i64 b,.int .i64 c] t 1⟩,⟨_,_,rfl,by simp,dB w [.int .i64 a,.int .i64 b,.int .i64 c] t 2⟩,trivial⟩
theorem dA.nil {w:World} {K:Act->Prop} {a:Act} (h:K a):dA w K [] a:=h
section
variable (p:Pr) (w:World) (aB aD:Option Addr) (aA ay:Nat) (i:Int) (bK:Option Addr) (vw aU bs bt bc:Nat)
theorem NJ (h:cB) (b e:aH) (s:Sl) (hi:fD i) (hp:p.At w aB aD) (hin:BO w h b e s) (dG:dD w) (hh:Holds w (sK bc p aB aD aA ay i bK vw aU bs bt)):
 Calls Tryz.prog 114 #[.pointer (some ⟨bc,0,none⟩),jD h b e s] w λe' w'=>e'= .returned (.int .i64 (EI p i h))∧Below w.heap.size w w':=by
 have HH:=ah (show Sit w w _ from⟨Below.refl _ _,hh⟩);obtain⟨eu,dI,dR,cO,bR,aY,fH,dX⟩:=s;have hil:=hin.1.2.2.2.2.1;have hxk:=hin.1.2.2.2.2.2.1;unfold maxLen at hil;have HE:aj (EI p i h=if decide ((h.idx.len:Int)=0)then eF [dh (mean p i h.nm) [1,2],kg p i h.cu h.xn h.bZ h.aK]else eF [dh (mean p i h.nm) [3],ex1 p i h.idx,kg p i h.cu h.xn h.bZ h.aK]):=ah rfl;generalize EI p i h=res at *;unfold jD;dsimp only;go_enter Tryz.func114,Tryz.ntmps114;go_upto_region 1 with fail;generalize hW:World.alloc w _=W;generalize Value.agg #[_,_,_,_,_,_,_,_,_,_,_]=a0;have HX:aj (Sit w W (ql w.heap.size h b e ⟨eu,dI,dR,cO,bR,aY,fH,dX⟩ (sK bc p aB aD aA ay i bK vw aU bs bt))):=ah (by rw[<- hW];exact HH.o.tK rfl _ _ _ _ _ _ _ _ _ _ _ _);clear hW HH;have HP:=ah (hp.same HX.o.1);have iF:=ah (dG.same HX.o.1);have Mq:=ah (hin.2.2.1.same HX.o.1);have HAI:=ah (hin.2.1.same HX.o.1);have HK:aj (∀w',Below W.heap.size W w'->Holds w' (sK bc p aB aD aA ay i bK vw aU bs bt)):=ah (λw' hb=>(HX.o.next hb).2.2.2.2.2.2.2.2.2.2.2.2);clear hp dG hh hin;have L0: ∀w',Below W.heap.size W w'->w'.cell? ⟨w.heap.size,0,none⟩=some (.int .i64 h.op):=λw' hb=>(HX.o.next hb).2.1.2;have L2: ∀w',Below W.heap.size W w'->w'.cell? ⟨w.heap.size,2,none⟩=some (.string h.nm):=λw' hb=>(HX.o.next hb).2.2.2.1.2;have L3: ∀w',Below W.heap.size W w'->w'.cell? ⟨w.heap.size,3,none⟩=some (.string h.arg):=λw' hb=>(HX.o.next hb).2.2.2.2.1.2;have L4: ∀w',Below W.heap.size W w'->w'.cell? ⟨w.heap.size,4,none⟩=some (.slice eu h.idx.len dI):=λw' hb=>(HX.o.next hb).2.2.2.2.2.1.2;have L5: ∀w',Below W.heap.size W w'->w'.cell? ⟨w.heap.size,5,none⟩=some (.int .i64 h.cu):=λw' hb=>(HX.o.next hb).2.2.2.2.2.2.1.2;have L6: ∀w',Below W.heap.size W w'->w'.cell? ⟨w.heap.size,6,none⟩=some (.int .i64 h.xn):=λw' hb=>(HX.o.next hb).2.2.2.2.2.2.2.1.2;have L7: ∀w',Below W.heap.size W w'->w'.cell? ⟨w.heap.size,7,none⟩=some (.string h.bZ):=λw' hb=>(HX.o.next hb).2.2.2.2.2.2.2.2.1.2;have L8: ∀w',Below W.heap.size W w'->w'.cell? ⟨w.heap.size,8,none⟩=some (.slice dR h.aK.len cO):=λw' hb=>(HX.o.next hb).2.2.2.2.2.2.2.2.2.1.2;have l4:=L4 W (Below.refl _ _);cases hix:h.idx with
 |nil=>
  have h0:h.idx.len=0:=by rw[hix];rfl
  have HF:=ah (HE.o.trans (if_pos (by rw[h0];rfl)));rw[h0]at l4;clear HE hix L4 h0;go_upto_region 2 with fail;refine qE (λw'=>Below W.heap.size W w') (λw w'=>Below w.heap.size w w') [9,10,11,12,13,14,15,16,17,18,19,4] (by kernel_rfl) (by kernel_rfl) (λ_=>Below.refl _ _) (by rfl) (below_drewN (Below.refl _ _) 1) ?_
  iterate 3
   apply dQ.step
   case aJ=>intro β A w' hβ hC hO hD;have e0:=hO 0 (by rfl);have e3:=hO 3 (by rfl);simp[Act.eval]at e0 e3;simp[Act.eval]at hD;simp[go_sem,gd,Oper.wp,e0,e3,hD,L2,hC];exact aG.mk (Below.refl _ _) hC (aW.mk _ _)
  refine dQ.some (λv w'=> ∃b,v= .slice (some ⟨b,0,none⟩) 2 2∧eH w' w'.heap.size [1,2] (some ⟨b,0,none⟩) 0) ?_ ?_ ?_
  ·rintro v w w' hle ⟨b,rfl,hin⟩;exact⟨b,rfl,hin.same hle⟩
  ·intro β A w' hβ hC hO hD;simp[go_sem,gd,Oper.wp];exact aG.mk (d:=_) (v:= .slice (some ⟨_,0,none⟩) 2 2) (ak _ _) (hC.trans ((ak _ _).mono hC.size)) ⟨_,rfl,kM _ 1 2 _⟩
  apply dQ.step
  case aJ=>intro β A w' hβ hC hO hD;simp[Act.eval]at hD;obtain⟨d9,rU,b12,zu,aB8⟩:=hD;simp[go_sem,gd,Oper.wp,d9,rU,zu];refine(jO p w' aB aD aA ay _ bK _ aU bs bt bc h.nm [1,2] _ 2 hi (by decide) (HP.o.same hC) aB8 (HK.o _ hC)).mono ?_;rintro e' w2 ⟨rfl,hb⟩;exact aG.mk hb (hC.trans (hb.mono hC.size)) (aW.mk _ _)
  iterate 3
   apply dQ.step
   case aJ=>intro β A w' hβ hC hO hD;have e0:=hO 0 (by rfl);have e3:=hO 3 (by rfl);simp[Act.eval]at e0 e3;simp[Act.eval]at hD;simp[go_sem,gd,Oper.wp,e0,e3,hD,L5,L6,L7,L8,hC];exact aG.mk (Below.refl _ _) hC (aW.mk _ _)
  apply dQ.step
  case aJ=>intro β A w' hβ hC hO hD;simp[Act.eval]at hD;obtain⟨uO,zw,-⟩:=hD;simp[go_sem,gd,Oper.wp,uO,zw];refine(wQ p w' aB aD aA ay _ bK _ aU bs bt bc h.cu h.xn h.bZ h.aK dR cO hi (HP.o.same hC) hxk (Mq.o.same hC) (iF.o.same hC) (HK.o _ hC)).mono ?_;rintro e' w2 ⟨rfl,hb⟩;exact aG.mk hb (hC.trans (hb.mono hC.size)) (aW.mk _ _)
  refine dQ.some (λv w'=> ∃b,v= .slice (some ⟨b,0,none⟩) 2 2∧eH w' w'.heap.size [dh (mean p i h.nm) [1,2],kg p i h.cu h.xn h.bZ h.aK] (some ⟨b,0,none⟩) 0) ?_ ?_ ?_
  ·rintro v w w' hle ⟨b,rfl,hin⟩;exact⟨b,rfl,hin.same hle⟩
  ·intro β A w' hβ hC hO hD;simp[Act.eval]at hD;simp[go_sem,gd,Oper.wp,hD];exact aG.mk (d:=_) (v:= .slice (some ⟨_,0,none⟩) 2 2) (ak _ _) (hC.trans ((ak _ _).mono hC.size)) ⟨_,rfl,kM _ _ _ _⟩
  apply dQ.step
  case aJ=>intro β A w' hβ hC hO hD;simp[Act.eval]at hD;obtain⟨⟨b18,zx,aB9⟩,-⟩:=hD;simp[go_sem,gd,Oper.wp,zx];refine(jL [dh (mean p i h.nm) [1,2],kg p i h.cu h.xn h.bZ h.aK] w' _ _ (by simp[maxLen]) aB9).mono ?_;rintro e' w2 ⟨rfl,rfl⟩;exact aG.mk (Below.refl _ _) hC (aW.mk _ _)
  apply dQ.step
  case aJ=>intro β A w' hβ hC hO hD;have e0:=hO 0 (by rfl);have e3:=hO 3 (by rfl);simp[Act.eval]at e0 e3;simp[Act.eval]at hD;simp[go_sem,gd,Oper.wp,e0,e3,hD];exact aG.mk (Below.refl _ _) hC (aW.mk _ _)
  intro wz bH;intro v0 h0 v1 h1 v2 h2 v3 h3 v4 h4 v5 h5 v6 h6 v7 h7 v8 h8 v9 h9 v10 h10 v11 h11;have Ic:v11=_:=h11;subst Ic;clear h0 h1 h2 h3 h4 h5 h6 h7 h8 h9 h10 h11;refine dA.nil ?_;go_wp2_with fail;go_ret;exact⟨aV HF.o.symm,(HX.o.next bH).1⟩
 |cons op' n' nm' iD rest=>
  have hrow:=HAI.o;rw[hix]at hrow;have HF:aj (res=eF [dh (mean p i h.nm) [3],kg p i op' n' nm' iD,kg p i h.cu h.xn h.bZ h.aK]):=ah (HE.o.trans ((if_neg (by rw[hix,decide_eq_true_iff];simp only[bC.len];omega)).trans (by rw[hix];rfl)));have hpos:0<h.idx.len:=by rw[hix];simp[bC.len]
  have hpos':(0:Int)<h.idx.len:=by omega
  have hne0:((h.idx.len:Int)==0)=false:=by rw[beq_eq_false_iff_ne];omega
  obtain⟨⟨b',off',nR,cap',rfl,iL,x0,x1,x2,x3,hok',ko⟩,-⟩:=hrow;simp only[Nat.zero_mul,Nat.add_zero]at x0 x1 x2 x3;have M0:=fM iL x0;have M1:=fM iL x1;have M2:=fM iL x2;have M3:=fM iL x3;have HAK:=ah ko;clear HE hix x0 x1 x2 x3 ko;go_upto_region 3 with fail;refine qE (λw'=>Below W.heap.size W w') (λw w'=>Below w.heap.size w w') [20,21,22,23,24,25,26,27,28,29,30,31,32,33,34,35,36,4] (by kernel_rfl) (by kernel_rfl) (λ_=>Below.refl _ _) (by rfl) (below_drewN (Below.refl _ _) 1) ?_
  iterate 3
   apply dQ.step
   case aJ=>intro β A w' hβ hC hO hD;have e0:=hO 0 (by rfl);have e3:=hO 3 (by rfl);simp[Act.eval]at e0 e3;simp[Act.eval]at hD;simp[go_sem,gd,Oper.wp,e0,e3,hD,L2,hC];exact aG.mk (Below.refl _ _) hC (aW.mk _ _)
  refine dQ.some (λv w'=> ∃b,v= .slice (some ⟨b,0,none⟩) 1 1∧eH w' w'.heap.size [3] (some ⟨b,0,none⟩) 0) ?_ ?_ ?_
  ·rintro v w w' hle ⟨b,rfl,hin⟩;exact⟨b,rfl,hin.same hle⟩
  ·intro β A w' hβ hC hO hD;simp[go_sem,gd,Oper.wp];exact aG.mk (d:=_) (v:= .slice (some ⟨_,0,none⟩) 1 1) (ak _ _) (hC.trans ((ak _ _).mono hC.size)) ⟨_,rfl,iq _ 3 _⟩
  apply dQ.step
  case aJ=>intro β A w' hβ hC hO hD;simp[Act.eval]at hD;obtain⟨d20,d22,b23,d23,aC0⟩:=hD;simp[go_sem,gd,Oper.wp,d20,d22,d23];refine(jO p w' aB aD aA ay _ bK _ aU bs bt bc h.nm [3] _ 1 hi (by decide) (HP.o.same hC) aC0 (HK.o _ hC)).mono ?_;rintro e' w2 ⟨rfl,hb⟩;exact aG.mk hb (hC.trans (hb.mono hC.size)) (aW.mk _ _)
  iterate 5
   apply dQ.step
   case aJ=>intro β A w' hβ hC hO hD;have e0:=hO 0 (by rfl);have e3:=hO 3 (by rfl);simp[Act.eval]at e0 e3;simp[Act.eval]at hD;simp[go_sem,gd,Oper.wp,e0,e3,hD,L4,hC,hpos,hpos',M0,M1,M2,M3];exact aG.mk (Below.refl _ _) hC (aW.mk _ _)
  apply dQ.step
  case aJ=>intro β A w' hβ hC hO hD;simp[Act.eval]at hD;obtain⟨d25,d29,-⟩:=hD;simp[go_sem,gd,Oper.wp,d25,d29];refine(wQ p w' aB aD aA ay _ bK _ aU bs bt bc op' n' nm' iD nR cap' hi (HP.o.same hC) hok' (HAK.o.same hC) (iF.o.same hC) (HK.o _ hC)).mono ?_;rintro e' w2 ⟨rfl,hb⟩;exact aG.mk hb (hC.trans (hb.mono hC.size)) (aW.mk _ _)
  iterate 3
   apply dQ.step
   case aJ=>intro β A w' hβ hC hO hD;have e0:=hO 0 (by rfl);have e3:=hO 3 (by rfl);simp[Act.eval]at e0 e3;simp[Act.eval]at hD;simp[go_sem,gd,Oper.wp,e0,e3,hD,L5,L6,L7,L8,hC];exact aG.mk (Below.refl _ _) hC (aW.mk _ _)
  apply dQ.step
  case aJ=>intro β A w' hβ hC hO hD;simp[Act.eval]at hD;obtain⟨d31,d33,-⟩:=hD;simp[go_sem,gd,Oper.wp,d31,d33];refine(wQ p w' aB aD aA ay _ bK _ aU bs bt bc h.cu h.xn h.bZ h.aK dR cO hi (HP.o.same hC) hxk (Mq.o.same hC) (iF.o.same hC) (HK.o _ hC)).mono ?_;rintro e' w2 ⟨rfl,hb⟩;exact aG.mk hb (hC.trans (hb.mono hC.size)) (aW.mk _ _)
  refine dQ.some (λv w'=> ∃b,v= .slice (some ⟨b,0,none⟩) 3 3∧eH w' w'.heap.size [dh (mean p i h.nm) [3],kg p i op' n' nm' iD,kg p i h.cu h.xn h.bZ h.aK] (some ⟨b,0,none⟩) 0) ?_ ?_ ?_
  ·rintro v w w' hle ⟨b,rfl,hin⟩;exact⟨b,rfl,hin.same hle⟩
  ·intro β A w' hβ hC hO hD;simp[Act.eval]at hD;simp[go_sem,gd,Oper.wp,hD];exact aG.mk (d:=_) (v:= .slice (some ⟨_,0,none⟩) 3 3) (ak _ _) (hC.trans ((ak _ _).mono hC.size)) ⟨_,rfl,zK _ _ _ _ _⟩
  apply dQ.step
  case aJ=>intro β A w' hβ hC hO hD;simp[Act.eval]at hD;obtain⟨⟨b35,d35,aC1⟩,-⟩:=hD;simp[go_sem,gd,Oper.wp,d35];refine(jL [dh (mean p i h.nm) [3],kg p i op' n' nm' iD,kg p i h.cu h.xn h.bZ h.aK] w' _ _ (by simp[maxLen]) aC1).mono ?_;rintro e' w2 ⟨rfl,rfl⟩;exact aG.mk (Below.refl _ _) hC (aW.mk _ _)
  apply dQ.step
  case aJ=>intro β A w' hβ hC hO hD;have e0:=hO 0 (by rfl);have e3:=hO 3 (by rfl);simp[Act.eval]at e0 e3;simp[Act.eval]at hD;simp[go_sem,gd,Oper.wp,e0,e3,hD];exact aG.mk (Below.refl _ _) hC (aW.mk _ _)
  intro wz bH;intro v0 h0 v1 h1 v2 h2 v3 h3 v4 h4 v5 h5 v6 h6 v7 h7 v8 h8 v9 h9 v10 h10 v11 h11 v12 h12 v13 Az v14 um v15 zA v16 h16 v17 GK;have aV3:v17=_:=GK;subst aV3;clear h0 h1 h2 h3 h4 h5 h6 h7 h8 h9 h10 h11 h12 Az um zA h16 GK;refine dA.nil ?_;go_wp2_with fail;go_ret;exact⟨aV HF.o.symm,(HX.o.next bH).1⟩
end
def yA (f:List UInt8->Bool) (l:List UInt8):List UInt8->Bool:=λx=>if x=l then true else f x
def jR (b:Bool):Int:=if b then 8 else 0
def Xi (nm:ByteArray) (w:World) (bs n:Nat) (f:List UInt8->Bool) (e:Ending) (w':World):Prop:=
 e= .returned (.int .i64 (jR (f nm.toList)))∧iN w' bs (n+1) (yA f nm.toList)∧w.grownBy w' (some bs)
theorem OE (nm:ByteArray) (w:World) (bs n:Nat) (f:List UInt8->Bool) (hn:n<maxLen) (hs:nm.size<=maxLen) (hm:iN w bs n f):
 Calls Tryz.prog 123 #[.map (some bs),.string nm] w (Xi nm w bs n f):=by
 have HM:=ah hm;have hlk:=hm.look nm hs;clear hm;cases hf:f nm.toList
 ·obtain⟨w4,hup,vW,hg4⟩:=HM.o.put hn nm hs true;have Ac:=ah vW;have HG:=ah hg4;clear vW hg4 hn hs;go_enter Tryz.func123,Tryz.ntmps123;go_wp2_with fail;go_ret;exact⟨by rw[hf];rfl,Ac.o,HG.o⟩
 ·have Ac:aj (iN w bs (n+1) (yA f nm.toList)):=ah (by
   obtain⟨D,h1,h2⟩:=HM.o;refine⟨D,h1.mono (by omega),λl=> ?_⟩;rw[h2];unfold yA;by_cases h:l=nm.toList
   ·rw[if_pos h,h,hf]
   ·rw[if_neg h])
  clear hn hs;go_enter Tryz.func123,Tryz.ntmps123;go_wp2_with fail;go_ret;exact⟨by rw[hf];rfl,Ac.o,⟨rfl,rfl,rfl,Nat.le_refl _,λ_ _ _=>rfl⟩⟩
end Go.Proofs.YtkmllehjemjgpaaGreatDoor
