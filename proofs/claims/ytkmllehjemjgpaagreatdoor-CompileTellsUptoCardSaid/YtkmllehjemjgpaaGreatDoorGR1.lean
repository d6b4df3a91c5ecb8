/- The reference's At: the place of a text in a row. And what hangs on it. -/
import Derived.Test.YtkmllehjemjgpaaGreatDoorGMA
import Derived.Test.YtkmllehjemjgpaaGreatDoorGME
set_option linter.unusedSimpArgs false
set_option linter.unusedVariables false
set_option maxHeartbeats 40000000
set_option maxRecDepth 1000000
namespace Go.Proofs.YtkmllehjemjgpaaGreatDoor
open Go.RowKit
namespace Md
def fidx {α:Type} (f:α->Bool):List α->Nat->Int
 | [],_=> -1
 |x::r,k=>if f x then(k:Int)else fidx f r (k+1)
theorem oF {α:Type} (f:α->Bool): ∀(l:List α) (k:Nat),(fidx f l k= -1∧l.find? f=none∧l.any f=false)∨∃(j:Nat) (d:α) (r:List α),j<l.length∧fidx f l k=((k+j:Nat):Int)∧l.drop j=d::r∧l.find? f=some d∧l.any f=true
 | [],_=>Or.inl ⟨rfl,rfl,rfl⟩
 |x::r,k=>by
  cases h:f x
  ·rcases oF f r (k+1)with⟨h1,h2,h3⟩|⟨j,d,r',h0,h1,h2,h3,h4⟩
   ·exact Or.inl ⟨by simp[fidx,h,h1],by simp[h,h2],by simp[h,h3]⟩
   ·exact Or.inr ⟨j+1,d,r',by simp;omega,by simp only[fidx,h];rw[if_neg (by decide),h1];omega,by simpa using h2,by simp[h,h3],by simp[h,h4]⟩
  ·exact Or.inr ⟨0,x,r,by simp,by simp[fidx,h],rfl,by simp[h],by simp[h]⟩
def Hw (l:List ByteArray) (nm:ByteArray):Int:=fidx (λs=>s.toList==nm.toList) l 0
end Md
open Md
theorem je (l:List ByteArray) (nm:ByteArray) (w:World) (ao:Option Addr) (cap:Nat) (hl:l.length<=maxLen) (hw:eD w w.heap.size l ao 0):
 Calls Tryz.prog 65 #[.slice ao l.length cap,.string nm] w λe w'=>e= .returned (.int .i64 (Hw l nm))∧w=w':=by
 unfold maxLen at hl;go_enter Tryz.func65,Tryz.ntmps65;go_wp2_with fail;go_loop [5] (λs=> ∃(k:Nat) (R:List ByteArray),s= .int .i64 k∧k+R.length=l.length∧Hw l nm=fidx (λs=>s.toList==nm.toList) R k∧eD w w.heap.size R ao k) (λs=>l.length -(intOf s).toNat)
 case atStart=>exact⟨0,l,rfl,by simp,rfl,hw⟩
 case round=>
  obtain⟨k,R,rfl,hlen,heq,hrow⟩:=hrel;have HE:=ah heq;clear heq;cases R with
  |nil=>
   obtain rfl:k=l.length:=by simpa using hlen
   go_wp2_with fail;go_ret;exact⟨aV HE.o.symm,rfl⟩
  |cons s R=>
   obtain⟨⟨b,off,rfl,hB,y0,hs⟩,hrest⟩:=hrow;simp only[List.length_cons]at hlen;have hkl:k<l.length:=by omega
   cases hc:(s.toList==nm.toList)
   ·have bV:=ah (HE.o.trans (if_neg (show ¬(s.toList==nm.toList)=true by rw[hc];decide)));go_wp2_with fail;go_round
    case rel=>exact⟨k+1,R,by go_num,by omega,bV.o,hrest⟩
    case measure=>simp[intOf];omega
   ·have bV:=ah (HE.o.trans (if_pos hc));go_wp2_with fail;go_ret;exact⟨aV bV.o.symm,rfl⟩
namespace Md
def xZ (l:List De) (nm:ByteArray):Int:=fidx (λd=>d.nm.toList==nm.toList) l 0
def oQ (l:List Th) (nm:ByteArray):Int:=fidx (λt=>t.nm.toList==nm.toList) l 0
def conv (m:Int):Int:=if m==0 then 0 else if m==1 then 8 else if m==9 then 9 else m -1
def eY (k a b:Int):Int:=if k==0 then 5 else if(k != a)&&(k != b)then 6 else 0
theorem zP (p:Pr) (i:Int) (nm:ByteArray):0<=mean p i nm∧mean p i nm<=9:=by
 unfold mean oN qV;split
 ·decide
 ·cases p.ds.find? (λd=>d.nm.toList==nm.toList)with
  |none=>simp;split <;> decide
  |some d=>have:=rG d;simp;omega
theorem ten {m:Int} (h:0<=m∧m<=9):m=0∨m=1∨m=2∨m=3∨m=4∨m=5∨m=6∨m=7∨m=8∨m=9:=by omega
theorem Dj {m a:Int} (hm:0<=m∧m<=9) (ha:0<=a∧a<=9):(conv m==conv a)=(m==a):=by
 rcases ten hm with rfl|rfl|rfl|rfl|rfl|rfl|rfl|rfl|rfl|rfl <;> rcases ten ha with rfl|rfl|rfl|rfl|rfl|rfl|rfl|rfl|rfl|rfl <;> rfl
theorem Lh {m:Int} (hm:0<=m∧m<=9):(conv m==0)=(m==0):=Dj hm (a:=0) (by decide)
theorem Pj (m a:Int) (hm:0<=m∧m<=9) (ha:0<=a∧a<=9):eY (conv m) (conv a) (conv a)=dh m [a]:=by
 unfold eY dh bne;rw[Lh hm,Dj hm ha];simp only[List.any_cons,List.any_nil,Bool.or_false];cases h:(m==a) <;> rfl
theorem Pk (m a b:Int) (hm:0<=m∧m<=9) (ha:0<=a∧a<=9) (hb:0<=b∧b<=9):eY (conv m) (conv a) (conv b)=dh m [a,b]:=by
 unfold eY dh bne;rw[Lh hm,Dj hm ha,Dj hm hb];simp only[List.any_cons,List.any_nil,Bool.or_false];cases h:(m==a) <;> cases h':(m==b) <;> rfl
end Md
theorem nJ (l:List De) (nm:ByteArray) (w:World) (ao:Option Addr) (cap:Nat) (hl:l.length<=maxLen) (hw:gM w w.heap.size l ao 0):
 Calls Tryz.prog 63 #[.slice ao l.length cap,.string nm] w λe w'=>e= .returned (.int .i64 (xZ l nm))∧w=w':=by
 unfold maxLen at hl;go_enter Tryz.func63,Tryz.ntmps63;go_wp2_with fail;go_loop [5] (λs=> ∃(k:Nat) (R:List De),s= .int .i64 k∧k+R.length=l.length∧xZ l nm=fidx (λd=>d.nm.toList==nm.toList) R k∧gM w w.heap.size R ao k) (λs=>l.length -(intOf s).toNat)
 case atStart=>exact⟨0,l,rfl,by simp,rfl,hw⟩
 case round=>
  obtain⟨k,R,rfl,hlen,heq,hrow⟩:=hrel;have HE:=ah heq;clear heq;cases R with
  |nil=>
   obtain rfl:k=l.length:=by simpa using hlen
   go_wp2_with fail;go_ret;exact⟨aV HE.o.symm,rfl⟩
  |cons s R=>
   obtain⟨⟨b,off,rfl,hB,y0,y1,y2,y3,y4,y5,hs⟩,hrest⟩:=hrow;simp only[List.length_cons]at hlen;have hkl:k<l.length:=by omega
   cases hc:(s.nm.toList==nm.toList)
   ·have bV:=ah (HE.o.trans (if_neg (show ¬(s.nm.toList==nm.toList)=true by rw[hc];decide)));go_wp2_with fail;go_round
    case rel=>exact⟨k+1,R,by go_num,by omega,bV.o,hrest⟩
    case measure=>simp[intOf];omega
   ·have bV:=ah (HE.o.trans (if_pos hc));go_wp2_with fail;go_ret;exact⟨aV bV.o.symm,rfl⟩
theorem gL (l:List Th) (nm:ByteArray) (w:World) (ao:Option Addr) (cap:Nat) (hl:l.length<=maxLen) (hw:fQ w w.heap.size l ao 0):
 Calls Tryz.prog 64 #[.slice ao l.length cap,.string nm] w λe w'=>e= .returned (.int .i64 (oQ l nm))∧w=w':=by
 unfold maxLen at hl;go_enter Tryz.func64,Tryz.ntmps64;go_wp2_with fail;go_loop [5] (λs=> ∃(k:Nat) (R:List Th),s= .int .i64 k∧k+R.length=l.length∧oQ l nm=fidx (λd=>d.nm.toList==nm.toList) R k∧fQ w w.heap.size R ao k) (λs=>l.length -(intOf s).toNat)
 case atStart=>exact⟨0,l,rfl,by simp,rfl,hw⟩
 case round=>
  obtain⟨k,R,rfl,hlen,heq,hrow⟩:=hrel;have HE:=ah heq;clear heq;cases R with
  |nil=>
   obtain rfl:k=l.length:=by simpa using hlen
   go_wp2_with fail;go_ret;exact⟨aV HE.o.symm,rfl⟩
  |cons s R=>
   obtain⟨⟨b,off,fC,dw,bR,aY,rfl,hB,y0,y1,y2,y3,hs,ht,hst⟩,hrest⟩:=hrow;simp only[List.length_cons]at hlen;have hkl:k<l.length:=by omega
   clear hs ht hst;cases hc:(s.nm.toList==nm.toList)
   ·have bV:=ah (HE.o.trans (if_neg (show ¬(s.nm.toList==nm.toList)=true by rw[hc];decide)));go_wp2_with fail;go_round
    case rel=>exact⟨k+1,R,by go_num,by omega,bV.o,hrest⟩
    case measure=>simp[intOf];omega
   ·have bV:=ah (HE.o.trans (if_pos hc));go_wp2_with fail;go_ret;exact⟨aV bV.o.symm,rfl⟩
theorem Yd {p:Pr} {i:Int} {nm:ByteArray} (h:qm (pO p.ts i) nm=true):conv (mean p i nm)=8:=by unfold mean;rw[h];rfl
theorem Yc {p:Pr} {i:Int} {nm:ByteArray} {d:De} (h:qm (pO p.ts i) nm=false) (hd:p.ds.find? (λd=>d.nm.toList==nm.toList)=some d):conv (mean p i nm)=conv (eO d):=by
 unfold mean oN;rw[h,hd];rfl
theorem Ye {p:Pr} {i:Int} {nm:ByteArray} {b:Bool} (h:qm (pO p.ts i) nm=false) (hd:p.ds.find? (λd=>d.nm.toList==nm.toList)=none) (ht:p.ts.any (λt=>t.nm.toList==nm.toList)=b):conv (mean p i nm)=if b then 7 else 0:=by
 unfold mean oN qV;rw[h,hd,ht];cases b <;> rfl
theorem Uv (d:De):conv (eO d)=if d.kind==1 then(if d.size != 0 then 2 else 1)else if d.kind==2 then 1 else if(d.kind==3||d.kind==4)||(d.kind==5||d.kind==6)then d.kind else 9:=by
 by_cases h1:d.kind=1
 ·by_cases h0:d.size=0 <;> simp[eO,conv,h1,h0]
 by_cases h2:d.kind=2
 ·simp[eO,conv,h2]
 by_cases h3:d.kind=3
 ·simp[eO,conv,h3]
 by_cases h4:d.kind=4
 ·simp[eO,conv,h4]
 by_cases h5:d.kind=5
 ·simp[eO,conv,h5]
 by_cases h6:d.kind=6
 ·simp[eO,conv,h6]
 simp[eO,conv,h1,h2,h3,h4,h5,h6]
theorem RH (p:Pr) (i:Int) (nm:ByteArray) (w:World) (aB aD:Option Addr) (aA ay:Nat) (hi:fD i) (hp:p.At w aB aD):
 Calls Tryz.prog 130 #[.agg #[.slice aB p.ds.length aA,.slice aD p.ts.length ay],.int .i64 i,.string nm] w λe w'=>e= .returned (.int .i64 (conv (mean p i nm)))∧Below w.heap.size w w':=by
 obtain⟨i1,i2⟩:=hi;have hld:=hp.1;have hlt:=hp.2.1;have Sv:=hp.1;have hlt':=hp.2.1;unfold maxLen at hld hlt;have HP:=ah hp;clear hp;go_enter Tryz.func130,Tryz.ntmps130;go_upto_region 1 with fail;generalize hW:World.alloc w _=W;generalize Value.agg #[_,_]=a0;have HX:=ah ((Sit.start w).vg rfl (.slice aB p.ds.length aA) (.slice aD p.ts.length ay) 25);rw[hW]at HX;clear hW;obtain⟨-,⟨-,c0⟩,⟨-,c1⟩,-⟩:=HX.o;go_cut [27] (λs W2=>W=W2∧s= .bool (qm (pO p.ts i) nm))
 case first=>
  cases hbi:decide (0<=i∧i<p.ts.length)
  ·have HN:aj (qm (pO p.ts i) nm=false):=ah (by rw[GU (by simpa using hbi)];rfl);rcases(show i<0∨(0<=i∧(p.ts.length:Int)<=i) by simp at hbi;omega)with h|⟨h,h'⟩
   all_goals clear hbi
   all_goals go_wp2_with fail
   all_goals go_meet
   all_goals exact⟨rfl,by rw[HN.o]⟩
  ·have as6:0<=i∧i<p.ts.length:=by simpa using hbi
   clear hbi;obtain⟨j,rfl⟩:=Int.eq_ofNat_of_zero_le as6.1;have hj:j<p.ts.length:=by omega
   have hth:=(HP.o.same HX.o.1).2.2.2.drop j;cases hd:p.ts.drop j with
   |nil=>exfalso;have:=congrArg List.length hd;simp at this;omega
   |cons t r=>
    rw[hd,Nat.zero_add]at hth;have HL:=ah (JD hd);clear hd as6;obtain⟨⟨b,off,fC,dw,bR,aY,rfl,hB,x0,x1,x2,x3,hok,htx,hst⟩,-⟩:=hth;have hll:=hok.2.2.1;clear hst hok;go_wp2_with fail;refine(je t.bg nm _ fC dw hll htx).mono ?_;rintro e w2 ⟨rfl,rfl⟩;rcases oF (λs:ByteArray=>s.toList==nm.toList) t.bg 0 with⟨h1,h2,h3⟩|⟨j',d,r',h0,h1,h2,h3,h4⟩
    ·have HT:aj (qm (pO p.ts j) nm=false):=ah (by rw[HL.o];exact h3);have h1':Hw t.bg nm= -1:=h1;rw[h1'];clear h1 h2 h3 h1';go_wp2_with fail;go_meet;exact⟨rfl,by rw[HT.o]⟩
    ·have HT:aj (qm (pO p.ts j) nm=true):=ah (by rw[HL.o];exact h4);have h1':Hw t.bg nm=(j':Int):=(by rw[<- Nat.zero_add j'];exact h1);rw[h1'];clear h1 h2 h3 h1' h4;go_wp2_with fail;go_meet;exact⟨rfl,by rw[HT.o]⟩
 case rest=>
  obtain⟨rfl,rfl⟩:=hcut;cases hloc:qm (pO p.ts i) nm
  ·go_wp2_with fail;refine(nJ p.ds nm _ aB aA Sv (HP.o.same HX.o.1).2.2.1).mono ?_;rintro e w2 ⟨rfl,rfl⟩;rcases oF (λd:De=>d.nm.toList==nm.toList) p.ds 0 with⟨h1,h2,h3⟩|⟨j',d,r',h0,h1,h2,h3,h4⟩
   ·have h1':xZ p.ds nm= -1:=h1;rw[h1'];have HK:=ah (λb ht=>Ye (b:=b) hloc h2 ht);clear h1 h2 h3 h1' hloc;go_wp2_with fail;refine(gL p.ts nm _ aD ay hlt' (HP.o.same HX.o.1).2.2.2).mono ?_;rintro e w2 ⟨rfl,rfl⟩;rcases oF (λd:Th=>d.nm.toList==nm.toList) p.ts 0 with⟨h1,h2,h3⟩|⟨j',d,r',h0,h1,h2,h3,h4⟩
    ·have h1':oQ p.ts nm= -1:=h1;rw[h1'];have HK':=ah (HK.o _ h3);clear h1 h2 h3 h1' HK;go_wp2_with fail;go_ret;exact⟨aV HK'.o.symm,HX.o.1⟩
    ·have h1':oQ p.ts nm=(j':Int):=(by rw[<- Nat.zero_add j'];exact h1);rw[h1'];have HK':=ah (HK.o _ h4);clear h1 h2 h3 h1' h4 HK;go_wp2_with fail;go_ret;exact⟨aV HK'.o.symm,HX.o.1⟩
   ·have h1':xZ p.ds nm=(j':Int):=(by rw[<- Nat.zero_add j'];exact h1);rw[h1'];have HK:=ah ((Yc hloc h3).trans (Uv d));have hth:=(HP.o.same HX.o.1).2.2.1.drop j';rw[h2,Nat.zero_add]at hth;obtain⟨⟨b,off,rfl,hB,x0,x1,x2,x3,x4,x5,hok⟩,-⟩:=hth;clear h1 h2 h3 h4 h1' hloc hok;go_wp2_with fail
    all_goals go_ret
    all_goals refine⟨aV (HK.o.trans ?_).symm,HX.o.1⟩
    all_goals (go_light;grind)
  ·have HK:=ah (Yd hloc);go_wp2_with fail;go_ret;exact⟨aV HK.o.symm,HX.o.1⟩
end Go.Proofs.YtkmllehjemjgpaaGreatDoor
