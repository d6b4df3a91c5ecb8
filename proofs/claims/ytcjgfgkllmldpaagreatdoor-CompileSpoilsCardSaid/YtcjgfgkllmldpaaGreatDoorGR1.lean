/- Contracts of the reference's want, Nodes, names, Expr. And what hangs on it. -/
import Derived.Test.YtcjgfgkllmldpaaGreatDoorGR0
import Derived.Test.YtcjgfgkllmldpaaGreatDoorGMJ
set_option linter.unusedSimpArgs false
set_option linter.unusedVariables false
set_option maxHeartbeats 40000000
set_option maxRecDepth 1000000
namespace Go.Proofs.YtcjgfgkllmldpaaGreatDoor
open Go.RowKit
open Md
theorem jB (p:Pr) (i:Int) (nm:ByteArray) (a b:Int) (w:World) (aQ aR:Option Addr) (aJ aH:Nat) (hi:cO i) (hp:p.At w aQ aR):
 Calls Tryz.prog 122 #[.agg #[.slice aQ p.ds.length aJ,.slice aR p.ts.length aH],.int .i64 i,.string nm,.int .i64 a,.int .i64 b] w λe w'=>e= .returned (.int .i64 (gV (conv (mean p i nm)) a b))∧Below w.heap.size w w':=by
 have HP:=ah hp;clear hp;go_enter Tryz.func122,Tryz.ntmps122;go_wp2_with fail;refine(YJ p i nm _ aQ aR aJ aH hi (HP.o.same (aA _ _))).mono ?_;rintro e w2 ⟨rfl,hb2⟩;have HB:=ah ((aA w (.cells #[.slice aQ p.ds.length aJ,.slice aR p.ts.length aH] 52)).trans (hb2.mono ahh));clear hb2;have HE:aj (gV (conv (mean p i nm)) a b=if conv (mean p i nm)==0 then 5 else if(conv (mean p i nm) != a)&&(conv (mean p i nm) != b)then 6 else 0):=ah rfl;generalize hmm:conv (mean p i nm)=m at *;have HM:=ah hmm;clear hmm;go_wp2_with fail
 all_goals go_ret
 all_goals refine⟨dh ?_,HB.o⟩
 all_goals rw[HM.o,HE.o]
 all_goals (go_light;grind)
def L9 (op n:Int) (nm:ByteArray) (kids:bV):Prop:=
 ∀(w:World) (ao:Option Addr) (cap:Nat),qR op n nm kids->kids.At w w.heap.size ao 0->
  Calls Tryz.prog 149 #[.agg #[.int .i64 op,.int .i64 n,.string nm,.slice ao kids.len cap]] w λe w'=>e= .returned (.tuple #[.int .i64 (ext kids).1,.int .i64 (ext kids).2])∧Below w.heap.size w w'
theorem YK (op n:Int) (nm:ByteArray) (kids:bV) (ih:kids.All L9):L9 op n nm kids:=by
 intro w ao cap hok hat;obtain⟨-,-,-,hl⟩:=hok;unfold maxLen at hl;have oH:=ah ih;have HAT:=ah hat;clear ih hat;go_enter Tryz.func149,Tryz.ntmps149;go_upto_region 2 with fail;generalize hW:World.alloc w _=W;generalize Value.agg #[_,_,_,_]=a0;have HX:=ah ((Sit.start w).Bd rfl (.int .i64 op) (.int .i64 n) (.string nm) (.slice ao kids.len cap) 80);rw[hW]at HX;clear hW;go_wp2_with fail;go_loopw [4,5,6,7,8] (λs4 s5 s _ _ wr=> ∃(k:Nat) (R:bV) (a d:Int),s= .int .i64 k∧s4= .int .i64 a∧s5= .int .i64 d∧k+R.len=kids.len∧Eh kids 1 0=Eh R a d∧R.All L9∧R.At wr wr.heap.size ao k∧Sit w wr [(w.heap.size,0,.int .i64 op),(w.heap.size,1,.int .i64 n),(w.heap.size,2,.string nm),(w.heap.size,3,.slice ao kids.len cap)]) (λ_ _ s _ _ _=>kids.len -(intOf s).toNat)
 case atStart=>exact⟨0,kids,1,0,rfl,rfl,rfl,ahh,rfl,oH.o,HAT.o.same HX.o.1,HX.o⟩
 case round=>
  obtain⟨k,R,a,d,rfl,rfl,rfl,hlen,heq,hall,hrow,hB⟩:=hrel;have HE:=ah heq;have HY:=ah hB;clear heq hB HX;obtain⟨c0,c1,c2,c3,-⟩:=HY.o.cs;cases R with
  |nil=>
   obtain rfl:k=kids.len:=afs
   go_wp2_with fail
   go_ret2
   exact⟨jW (ext_nil HE.o).1 (ext_nil HE.o).2,HY.o.1⟩
  |cons op' n' nm' iy rest=>
   obtain⟨⟨b,off,mK,cap',rfl,jT,x0,x1,x2,x3,hok',mF⟩,hrest⟩:=hrow;obtain⟨jV,pR⟩:=hall;have hlt:k<kids.len:=acD
   go_wp2_with fail;refine(jV _ _ _ hok' mF).mono ?_;rintro e w2 ⟨rfl,hb2⟩;have HB3:=ah hb2;clear hb2 x0 x1 x2 x3 c0 c1 c2 c3 mF;go_wp2_with fail;go_roundw
   case rel=>exact⟨k+1,rest,_,_,ahj,rfl,rfl,acD,HE.o,pR,hrest.same HB3.o,HY.o.next HB3.o⟩
   case measure=>simp[intOf];omega
theorem TV (op n:Int) (nm:ByteArray) (kids:bV):L9 op n nm kids:=bV.BS YK op n nm kids
def Da (p:Pr) (i:Int) (op n:Int) (nm:ByteArray) (kids:bV):Prop:=
 ∀(w:World) (aQ aR ao:Option Addr) (aJ aH cap:Nat),cO i->p.At w aQ aR->qR op n nm kids->kids.At w w.heap.size ao 0->
  Calls Tryz.prog 150 #[.agg #[.slice aQ p.ds.length aJ,.slice aR p.ts.length aH],.int .i64 i,.agg #[.int .i64 op,.int .i64 n,.string nm,.slice ao kids.len cap]] w λe w'=>e= .returned (.int .i64 (yV p i op nm kids))∧Below w.heap.size w w'
theorem RI (p:Pr) (i:Int) (op n:Int) (nm:ByteArray) (kids:bV) (ih:kids.All (Da p i)):Da p i op n nm kids:=by
 intro w aQ aR ao aJ aH cap hi hp hok hat;obtain⟨-,-,-,hl⟩:=hok;unfold maxLen at hl;have oH:=ah ih;have HAT:=ah hat;have HP:=ah hp;clear ih hat hp;go_enter Tryz.func150,Tryz.ntmps150;go_upto_region 1 with fail;generalize hW:World.alloc (World.alloc w _) _=W;generalize Value.agg #[_,_]=a0;generalize Value.agg #[_,_,_,_]=a1;have HX:=ah (((Sit.start w).yP rfl (.slice aQ p.ds.length aJ) (.slice aR p.ts.length aH) 52).Bd (n:=w.heap.size+1) ahh (.int .i64 op) (.int .i64 n) (.string nm) (.slice ao kids.len cap) 80);rw[hW]at HX;clear hW;obtain⟨c0,c1,c2,c3,c4,c5,-⟩:=HX.o.cs;go_upto_block 0 with(fail);go_cut [7,10] (λs7 _ W2=>s7= .int .i64 (rP p i op nm)∧Sit w W2 [(w.heap.size+1,0,.int .i64 op),(w.heap.size+1,1,.int .i64 n),(w.heap.size+1,2,.string nm),(w.heap.size+1,3,.slice ao kids.len cap),(w.heap.size,0,.slice aQ p.ds.length aJ),(w.heap.size,1,.slice aR p.ts.length aH)])
 case first=>
  cases h2:(op==2)
  ·cases h3:(op==3)
   ·have HE:aj (rP p i op nm=0):=ah agx;go_wp2_with fail;go_meet;exact⟨aiz,HX.o⟩
   ·have HE:aj (rP p i op nm=gV (conv (mean p i nm)) 2 2):=ah (by unfold rP;rw[h2,h3];exact(VK _ 3 (Dh p i nm) ahg).symm);go_wp2_with fail;refine(jB p i nm 2 2 _ aQ aR aJ aH hi (HP.o.same HX.o.1)).mono ?_;rintro e w2 ⟨rfl,hb2⟩;go_wp2_with fail;go_meet;exact⟨aiz,HX.o.next hb2⟩
  ·have HE:aj (rP p i op nm=gV (conv (mean p i nm)) 8 1):=ah (by unfold rP;rw[h2];exact(VL _ 1 2 (Dh p i nm) ahg ahg).symm);go_wp2_with fail;refine(jB p i nm 8 1 _ aQ aR aJ aH hi (HP.o.same HX.o.1)).mono ?_;rintro e w2 ⟨rfl,hb2⟩;go_wp2_with fail;go_meet;exact⟨aiz,HX.o.next hb2⟩
 case rest=>
  obtain⟨rfl,hX⟩:=hcut;have HY:=ah hX;clear hX HX c0 c1 c2 c3 c4 c5;have HR:aj (yV p i op nm kids=if rP p i op nm==0 then wH p i kids else rP p i op nm):=ah rfl;generalize rP p i op nm=r0 at *;go_wp2_with fail;go_loopw [7,8] (λs7 s8 wr=> ∃(k:Nat) (R:bV) (r:Int),s8= .int .i64 k∧s7= .int .i64 r∧k+R.len=kids.len∧yV p i op nm kids=(if r==0 then wH p i R else r)∧R.All (Da p i)∧R.At wr wr.heap.size ao k∧Sit w wr [(w.heap.size+1,0,.int .i64 op),(w.heap.size+1,1,.int .i64 n),(w.heap.size+1,2,.string nm),(w.heap.size+1,3,.slice ao kids.len cap),(w.heap.size,0,.slice aQ p.ds.length aJ),(w.heap.size,1,.slice aR p.ts.length aH)]) (λ_ s _=>kids.len -(intOf s).toNat)
  case atStart=>exact⟨0,kids,r0,rfl,rfl,ahh,HR.o,oH.o,HAT.o.same HY.o.1,HY.o⟩
  case round=>
   obtain⟨k,R,r,rfl,rfl,hlen,heq,hall,hrow,hsit⟩:=hrel;have HE:=ah heq;have HZ:=ah hsit;clear heq hsit;obtain⟨c0,c1,c2,c3,c4,c5,-⟩:=HZ.o.cs;cases R with
   |nil=>obtain rfl:k=kids.len:=afs;go_wp2_with fail;go_ret;exact⟨dh (HE.o.trans aen).symm,HZ.o.1⟩
   |cons op' n' nm' iy rest=>
    obtain⟨⟨b,off,mK,cap',rfl,jT,x0,x1,x2,x3,hok',mF⟩,hrest⟩:=hrow;obtain⟨jV,pR⟩:=hall;have hlt:k<kids.len:=acD;cases hr:(r==0)
    ·have dP:=ah (HE.o.trans (by rw[hr];rfl:_=r));go_wp2_with fail;go_ret;exact⟨dh dP.o.symm,HZ.o.1⟩
    ·have dP:=ah (HE.o.trans (by rw[hr];rfl:_=wH p i (.cons op' n' nm' iy rest)));go_wp2_with fail;obtain⟨T,F,yU,hst,hF,hnext⟩:=calm wr;have HF:=ah hF;have dN:=ah hnext;clear hnext hF;obtain⟨d0,d1,d2,d3,d4,d5,-⟩:=HZ.o.Ca HF.o;have y0:=λx=>((HF.o x).cell (p:=⟨b,off+k*4,none⟩) jT).trans x0;have y1:=λx=>((HF.o x).cell (p:=⟨b,off+k*4+1,none⟩) jT).trans x1;have y2:=λx=>((HF.o x).cell (p:=⟨b,off+k*4+2,none⟩) jT).trans x2;have y3:=λx=>((HF.o x).cell (p:=⟨b,off+k*4+3,none⟩) jT).trans x3;clear c0 c1 c2 c3 c4 c5 x0 x1 x2 x3;have hk0:(0:Int)<=k:=ahf;have hk1:(k:Int)<kids.len:=ahf;refine gX F ahe ahe hst ?_
     repeat (any_goals (first|go_big_quiet_step ((go_at_call 150;refine(jV _ aQ aR mK aJ aH cap' hi ((HP.o.same HZ.o.1).same (HF.o _)) hok' (mF.same (HF.o _))).mono ?_;rintro e w' ⟨rfl,hb⟩;exact⟨rfl,dN.o _ _ hb⟩))|(refine wpQuiet_step (λK hK=> ?_);go_simp;first|(refine hK _ ?_;clear hK K)|(split <;> first|(refine hK _ ?_;clear hK K)|(apply Exists.intro;refine⟨λ_=> ?_,hK _ ?_⟩;((go_at_call 150;refine(jV _ aQ aR mK aJ aH cap' hi ((HP.o.same HZ.o.1).same (HF.o _)) hok' (mF.same (HF.o _))).mono ?_;rintro e w' ⟨rfl,hb⟩;exact⟨rfl,dN.o _ _ hb⟩));clear hK K)))))
     all_goals (refine wpQuiet_nil ?_;rintro _ ⟨x,rfl⟩)
     exact AaP
theorem TU (p:Pr) (i:Int) (op n:Int) (nm:ByteArray) (kids:bV):Da p i op n nm kids:=bV.BS (RI p i) op n nm kids
theorem jO (p:Pr) (i:Int) (op n:Int) (nm:ByteArray) (kids:bV) (w:World) (aQ aR ao:Option Addr) (aJ aH cap:Nat) (hi:cO i) (hp:p.At w aQ aR) (hok:qR op n nm kids) (hat:kids.At w w.heap.size ao 0):
 Calls Tryz.prog 123 #[.agg #[.slice aQ p.ds.length aJ,.slice aR p.ts.length aH],.int .i64 i,.agg #[.int .i64 op,.int .i64 n,.string nm,.slice ao kids.len cap]] w λe w'=>e= .returned (.int .i64 (nO p i op n nm kids))∧Below w.heap.size w w':=by
 have HAT:=ah hat;have HP:=ah hp;clear hat hp;go_enter Tryz.func123,Tryz.ntmps123;go_upto_region 1 with fail;generalize hW:World.alloc (World.alloc w _) _=W;generalize Value.agg #[_,_]=a0;generalize Value.agg #[_,_,_,_]=a1;have HX:=ah (((Sit.start w).yP rfl (.slice aQ p.ds.length aJ) (.slice aR p.ts.length aH) 52).Bd (n:=w.heap.size+1) ahh (.int .i64 op) (.int .i64 n) (.string nm) (.slice ao kids.len cap) 80);rw[hW]at HX;clear hW;obtain⟨c0,c1,c2,c3,c4,c5,-⟩:=HX.o.cs;go_wp2_with fail;refine(xQ op n nm kids _ ao cap hok (HAT.o.same HX.o.1)).mono ?_;rintro e w1 ⟨rfl,hb1⟩;have HY:=ah (HX.o.next hb1);clear HX hb1 c0 c1 c2 c3 c4 c5;obtain⟨c0,c1,c2,c3,c4,c5,-⟩:=HY.o.cs;cases hS:jZ op n nm kids
 ·have HE:aj (nO p i op n nm kids=3):=ah afY;go_wp2_with fail;go_ret;exact⟨dh HE.o.symm,HY.o.1⟩
 ·have HE:aj (nO p i op n nm kids=if decide (24<(ext kids).1)||decide (6<(ext kids).2)then 2 else yV p i op nm kids):=ah afY;go_wp2_with fail;refine(TV op n nm kids _ ao cap hok (HAT.o.same HY.o.1)).mono ?_;rintro e w2 ⟨rfl,hb2⟩;have HZ:=ah (HY.o.next hb2);clear HY hb2 c0 c1 c2 c3 c4 c5;obtain⟨c0,c1,c2,c3,c4,c5,-⟩:=HZ.o.cs;generalize (ext kids).1=a at *;generalize (ext kids).2=d at *;cases h1:decide (24<a)
  ·cases h2:decide (6<d)
   ·have dP:=ah (HE.o.trans (by rw[h1,h2];rfl:_=yV p i op nm kids));have q1:a<=24:=ahm;have q2:d<=6:=aho;go_wp2_with fail;refine(TU p i op n nm kids _ aQ aR ao aJ aH cap hi (HP.o.same HZ.o.1) hok (HAT.o.same HZ.o.1)).mono ?_;rintro e w3 ⟨rfl,hb3⟩;go_wp2_with fail;go_ret;exact⟨dh dP.o.symm,(HZ.o.next hb3).1⟩
   ·have dP:=ah (HE.o.trans (if_pos (by rw[h1,h2];rfl)));have q1:a<=24:=ahm;have q2:6<d:=aho;go_wp2_with fail;go_ret;exact⟨dh dP.o.symm,HZ.o.1⟩
  ·have dP:=ah (HE.o.trans (if_pos ahP));have q1:24<a:=by simpa using h1
   go_wp2_with fail;go_ret;exact⟨dh dP.o.symm,HZ.o.1⟩
theorem QL (ds:List De) (nm:ByteArray):(Bc ds nm= -1∧oN ds nm.toList=false)∨∃j:Nat,Bc ds nm=(j:Int)∧oN ds nm.toList=true:=by
 rcases qw (λd:De=>d.nm.toList==nm.toList) ds 0 with⟨h1,h2,h3⟩|⟨j,d,r,h0,h1,h2,h3,h4⟩
 ·exact Or.inl ⟨h1,h3⟩
 ·exact Or.inr ⟨j,agO,h4⟩
theorem QN (ts:List Th) (nm:ByteArray):(qV ts nm= -1∧om ts nm.toList=false)∨∃j:Nat,qV ts nm=(j:Int)∧om ts nm.toList=true:=by
 rcases qw (λd:Th=>d.nm.toList==nm.toList) ts 0 with⟨h1,h2,h3⟩|⟨j,d,r,h0,h1,h2,h3,h4⟩
 ·exact Or.inl ⟨h1,h3⟩
 ·exact Or.inr ⟨j,agO,h4⟩
theorem JU (ts:List ByteArray) (nm:ByteArray):(MQ ts nm= -1∧nY ts nm.toList=false)∨∃j:Nat,MQ ts nm=(j:Int)∧nY ts nm.toList=true:=by
 rcases qw (λd:ByteArray=>d.toList==nm.toList) ts 0 with⟨h1,h2,h3⟩|⟨j,d,r,h0,h1,h2,h3,h4⟩
 ·exact Or.inl ⟨h1,h3⟩
 ·exact Or.inr ⟨j,agO,h4⟩
theorem PD (p:Pr) (w:World) (aQ aR:Option Addr) (aJ aH:Nat) (hp:p.At w aQ aR) (GJ:p.ts.length<=aH):
 Calls Tryz.prog 48 #[.agg #[.slice aQ p.ds.length aJ,.slice aR p.ts.length aH]] w λe w'=>e= .returned (.tuple #[.int .i64 (mq p).1,.int .i64 (mq p).2])∧Below w.heap.size w w':=by
 have HR:aj (mq p=match wQ p.ds p.ts []with|some l=>(4,l)|none=>Ci p.ds p.ts p.ts):=ah rfl;generalize mq p=res at *;have hld:=hp.1;have hlt:=hp.2.1;have Zf:=hp.1;have hlt':=hp.2.1;unfold maxLen at hld hlt;have HP:=ah hp;clear hp;go_enter Tryz.func48,Tryz.ntmps48;go_upto_region 1 with fail;generalize hW:World.alloc w _=W;generalize Value.agg #[_,_]=a0;have HX:=ah ((Sit.start w).yP rfl (.slice aQ p.ds.length aJ) (.slice aR p.ts.length aH) 52);rw[hW]at HX;clear hW;go_wp2_with fail;go_loopg [4,5] p.ts.length (λg s _ wr=> ∃(k:Nat) (pre R:List Th),g=R.length∧s= .int .i64 k∧pre++R=p.ts∧pre.length=k∧wQ p.ds p.ts []=wQ p.ds R pre∧Sit w wr [(w.heap.size,0,(.slice aQ p.ds.length aJ)),(w.heap.size,1,(.slice aR p.ts.length aH))])
 case atStart=>exact⟨0,[],p.ts,rfl,rfl,rfl,rfl,rfl,HX.o⟩
 case round=>
  obtain⟨k,pre,R,rfl,rfl,hds,hk,heq,hsit⟩:=hrel;have HU:=ah hsit;have HE:=ah heq;clear hsit heq HX;have hlen:k+R.length=p.ts.length:=afJ
  have hrow:=(HP.o.2.2.2.below HU.o.1).drop k;rw[aU,<- hds,<- hk,List.drop_left]at hrow;rw[hk]at hrow;have xD:=ah ((hds ▸ HP.o.2.2.2:iP w w.heap.size (pre++R) aR 0).take);have sO:=ah hds;have HK:=ah hk;clear hds hk;cases R with
  |cons t R=>
   obtain⟨⟨b,off,iO,eF,dR,dA,rfl,hB,x0,x1,x2,x3,hok,htx,hst⟩,-⟩:=hrow;simp only[aB]at hlen;have hkl:k<p.ts.length:=ahf
   clear htx hst;obtain⟨c0,c1,-⟩:=HU.o.cs;go_upto_region 5 with fail;clear c0 c1;obtain⟨nb,hnb⟩: ∃n,wr.heap.size=n:=⟨_,rfl⟩;generalize hW2:World.alloc wr _=W2;have HY:aj (Sit w W2 ((nb,0,.string t.nm)::(nb,1,.int .i64 t.line)::(nb,2,.slice iO t.cZ.length eF)::(nb,3,.slice dR t.body.len dA)::[(w.heap.size,0,(.slice aQ p.ds.length aJ)),(w.heap.size,1,(.slice (some ⟨b,off,none⟩) p.ts.length aH))])):=ah (by rw[<- hW2];exact HU.o.Bd hnb _ _ _ _ _);rw[hnb];clear hW2 hnb x0 x1 x2 x3 HU;obtain⟨c0,c1,c2,c3,c4,c5,-⟩:=HY.o.cs;have hpl:pre.length<=maxLen:=aiw
   have zR:aj (∀nq:Nat,Calls Tryz.prog 80 #[.slice aQ p.ds.length aJ,.string t.nm] (W2.drewN nq) λe w'=>e= .returned (.int .i64 (Bc p.ds t.nm))∧W2.drewN nq=w'):=ah (λnq=>by have hb':=below_drewN (n:=nq) HY.o.1;exact pJ p.ds t.nm (W2.drewN nq) aQ aJ Zf ((HP.o.2.2.1.below hb').mono hb'.size));have M7:aj (∀nq:Nat,Calls Tryz.prog 81 #[.slice (some ⟨b,off,none⟩) k aH,.string t.nm] (W2.drewN nq) λe w'=>e= .returned (.int .i64 (qV pre t.nm))∧W2.drewN nq=w'):=ah (λnq=>by have hb':=below_drewN (n:=nq) HY.o.1;have:=jo pre t.nm (W2.drewN nq) (some ⟨b,off,none⟩) aH hpl ((xD.o.below hb').mono hb'.size);rw[HK.o]at this;exact this);have hk0:(0:Int)<=k:=ahf
   have hk1:(k:Int)<=aH:=ahf
   have hk2:k<=aH:=ahf
   go_cut [37] (λs' W3=>s'= .bool (oN p.ds t.nm.toList||om pre t.nm.toList)∧Sit w W3 ((nb,0,.string t.nm)::(nb,1,.int .i64 t.line)::(nb,2,.slice iO t.cZ.length eF)::(nb,3,.slice dR t.body.len dA)::[(w.heap.size,0,(.slice aQ p.ds.length aJ)),(w.heap.size,1,(.slice (some ⟨b,off,none⟩) p.ts.length aH))]))
   case first=>
    as_aux_lemma=>
     rcases QL p.ds t.nm with⟨e1,e2⟩|⟨j,e1,e2⟩
     ·rw[e1]at zR;rcases QN pre t.nm with⟨e3,e4⟩|⟨j',e3,e4⟩
      all_goals rw[e3]at M7;have HF:=ah e2;have HG:=ah e4;clear e1 e2 e3 e4;go_quiet (first|(go_at_call 80;exact kJ (zR.o _))|(go_at_call 81;exact kJ (M7.o _)));go_wp2_with fail;go_meet;exact⟨by rw[HF.o,HG.o];rfl,HY.o.draws _⟩
     ·rw[e1]at zR;have HF:=ah e2;have hj:decide ((j:Int) ≥ 0)=true:=ahh;clear e1 e2;go_quiet (first|(go_at_call 80;exact kJ (zR.o _))|(go_at_call 81;exact kJ (M7.o _)));go_wp2_with fail;go_meet;exact⟨by rw[HF.o];rfl,HY.o.draws _⟩
   obtain⟨rfl,hX⟩:=hcut;have HZ:=ah hX;have HB3:=ah hX.1;clear hX HY zR M7 c0 c1 c2 c3 c4 c5;cases vZ:(oN p.ds t.nm.toList||om pre t.nm.toList)
   ·have dP:=ah (HE.o.trans (if_neg (by rw[vZ];decide)));go_wp2_with fail;go_roundg R.length
    case measure=>simp
    case rel=>exact⟨k+1,pre++[t],R,rfl,ahj,acE,afC,dP.o,⟨HZ.o.1,HZ.o.2.2.2.2.2⟩⟩
   ·have HF:aj (res=(4,t.line)):=ah (HR.o.trans aeY);obtain⟨c0,c1,c2,c3,c4,c5,-⟩:=HZ.o.cs;exact Abl
  |nil=>
   obtain rfl:k=p.ts.length:=afb
   have HR2:aj (res=Ci p.ds p.ts p.ts):=ah (HR.o.trans ahC);clear hrow hlen sO HK HE HR xD;have hth:=HP.o.2.2.2.below HU.o.1;obtain⟨c0,c1,-⟩:=HU.o.cs;go_wp2_with fail;go_loopg [6,7,8,9] p.ts.length (λg s _ _ _ wr=> ∃(k:Nat) (R:List Th),g=R.length∧s= .int .i64 k∧k+R.length=p.ts.length∧Ci p.ds p.ts p.ts=Ci p.ds p.ts R∧iP wr w.heap.size R aR k∧Sit w wr [(w.heap.size,0,(.slice aQ p.ds.length aJ)),(w.heap.size,1,(.slice aR p.ts.length aH))])
   case atStart=>exact⟨0,p.ts,rfl,rfl,ahh,rfl,hth,HU.o⟩
   case round=>
    obtain⟨k,R,rfl,rfl,hlen,heq,hrow,hsit⟩:=hrel;have HV:=ah hsit;have HE:=ah (HR2.o.trans heq);have Jr:=ah heq;clear hsit HU c0 c1 heq hth;obtain⟨c0,c1,-⟩:=HV.o.cs;cases R with
    |nil=>
     obtain rfl:k=p.ts.length:=afb;have HF:=ah (HE.o.trans (rfl:_=((0:Int),(0:Int))));go_wp2_with fail
     go_ret2
     exact⟨jW (congrArg Prod.fst HF.o) (congrArg Prod.snd HF.o),HV.o.1⟩
    |cons t R=>
     obtain⟨⟨b,off,iO,eF,dR,dA,rfl,hB,x0,x1,x2,x3,hok,htx,hst⟩,hrest⟩:=hrow;simp only[aB]at hlen;have hkl:k<p.ts.length:=ahf;have bW3:=hok.2.2.1;have hll:=hok.2.2.1;have hcl:=hst.2;unfold maxLen at hll;clear hst hok;go_upto_region 11 with fail;clear c0 c1;obtain⟨nb,hnb⟩: ∃n,wr.heap.size=n:=⟨_,rfl⟩;generalize hW2:World.alloc wr _=W2;have HY:aj (Sit w W2 ((nb,0,.string t.nm)::(nb,1,.int .i64 t.line)::(nb,2,.slice iO t.cZ.length eF)::(nb,3,.slice dR t.body.len dA)::[(w.heap.size,0,(.slice aQ p.ds.length aJ)),(w.heap.size,1,(.slice (some ⟨b,off,none⟩) p.ts.length aH))])):=ah (by rw[<- hW2];exact HV.o.Bd hnb _ _ _ _ _);have mZ:aj (Below wr.heap.size wr W2):=ah afl;have AB:=ah (htx.below (mZ.o.mono HV.o.1.size));have kg:=ah (hrest.below (mZ.o.mono HV.o.1.size));have HB3:=ah HY.o.1;rw[hnb];clear hW2 hnb x0 x1 x2 x3 HV htx hrest mZ;obtain⟨c0,c1,c2,c3,c4,c5,-⟩:=HY.o.cs;cases h1:decide ((4:Int)<t.cZ.length)
     case true=>
      as_aux_lemma=>
       have HF:=ah (HE.o.trans (if_pos h1));have h1':4<t.cZ.length:=agj;clear h1;go_wp2_with fail;go_quiet (fail);go_wp2_with fail
       go_ret2
       exact⟨jW (congrArg Prod.fst HF.o) (congrArg Prod.snd HF.o),below_drewN HB3.o _⟩
     have HE2:=ah (HE.o.trans (if_neg ahr));have kF:=ah (Jr.o.trans (if_neg ahr));have h1':t.cZ.length<=4:=agj;clear HE Jr h1;go_wp2_with fail;go_loopg [8,9] t.cZ.length (λg s _ wx=>W2=wx∧∃(k':Nat) (pre R':List ByteArray),g=R'.length∧s= .int .i64 k'∧pre++R'=t.cZ∧pre.length=k'∧uS p.ds p.ts t.cZ []=uS p.ds p.ts R' pre)
     case atStart=>exact⟨rfl,0,[],t.cZ,rfl,rfl,rfl,rfl,rfl⟩
     case round=>
      obtain⟨rfl,k',pre,R',rfl,rfl,hds,hk',heq'⟩:=hrel;have dP:=ah heq';have hlen':k'+R'.length=t.cZ.length:=(by rw[<- hds,au,hk']);have hrow:=AB.o.drop k';rw[aU,<- hds,<- hk',List.drop_left]at hrow;rw[hk']at hrow;have xD:=ah ((hds ▸ AB.o:fT W2 w.heap.size (pre++R') iO 0).take);have sO:=ah hds;have HK:=ah hk';clear hds hk' heq';cases R' with
      |nil=>
       obtain rfl:k'=t.cZ.length:=afE;have HF:=ah (kF.o.trans (if_neg (by rw[dP.o];simp[uS])));go_wp2_with fail;go_roundg R.length
       case measure=>simp
       case rel=>exact⟨k+1,R,rfl,ahj,ahf,HF.o,kg.o,⟨HY.o.1,HY.o.2.2.2.2.2⟩⟩
      |cons s R'=>
       obtain⟨⟨b',off',rfl,hB',y0,hs⟩,-⟩:=hrow;simp only[aB]at hlen';have hkl':k'<t.cZ.length:=ahf;have HL:aj (uS p.ds p.ts t.cZ []=((oN p.ds s.toList||om p.ts s.toList)||nY pre s.toList||uS p.ds p.ts R' (pre++[s]))):=ah (dP.o.trans (by rw[uS]));have hpl:pre.length<=maxLen:=aiw;have zR:=ah (pJ p.ds s W2 aQ aJ Zf ((HP.o.2.2.1.below HY.o.1).mono HY.o.1.size));have M7:=ah (jo p.ts s W2 (some ⟨b,off,none⟩) aH hlt' ((HP.o.2.2.2.below HY.o.1).mono HY.o.1.size));have M8:=ah (jK pre s W2 (some ⟨b',off',none⟩) eF hpl (xD.o.mono HY.o.1.size));rw[HK.o]at M8;have hk0:(0:Int)<=k':=ahf;have hk1:(k':Int)<=eF:=ahf;have hk2:k'<=eF:=ahf;clear dP;go_upto_region 17 with fail;go_cut [90] (λs' W3=>W2=W3∧s'= .bool ((oN p.ds s.toList||om p.ts s.toList)||nY pre s.toList))
       case first=>
        as_aux_lemma=>
         rcases QL p.ds s with⟨e1,e2⟩|⟨j,e1,e2⟩
         ·rcases QN p.ts s with⟨e3,e4⟩|⟨j,e3,e4⟩
          ·rcases JU pre s with⟨e5,e6⟩|⟨j,e5,e6⟩
           all_goals rw[e1]at zR;rw[e3]at M7;rw[e5]at M8;have HF:aj (oN p.ds s.toList=false∧om p.ts s.toList=false∧nY pre s.toList=_):=ah ⟨e2,e4,e6⟩;clear e1 e2 e3 e4 e5 e6;go_wp2_with (first|(go_at_call 80;refine zR.o.mono ?_;rintro e w' ⟨rfl,rfl⟩)|(go_at_call 81;refine M7.o.mono ?_;rintro e w' ⟨rfl,rfl⟩)|(go_at_call 36;refine M8.o.mono ?_;rintro e w' ⟨rfl,rfl⟩));go_meet;exact⟨rfl,by rw[HF.o.1,HF.o.2.1,HF.o.2.2];rfl⟩
          ·rw[e1]at zR;rw[e3]at M7;have HF:aj (oN p.ds s.toList=false∧om p.ts s.toList=true):=ah ⟨e2,e4⟩;clear e1 e2 e3 e4;go_wp2_with (first|(go_at_call 80;refine zR.o.mono ?_;rintro e w' ⟨rfl,rfl⟩)|(go_at_call 81;refine M7.o.mono ?_;rintro e w' ⟨rfl,rfl⟩));go_meet;exact⟨rfl,by rw[HF.o.1,HF.o.2];rfl⟩
         ·rw[e1]at zR;have HF:=ah e2;clear e1 e2;go_wp2_with (go_at_call 80;refine zR.o.mono ?_;rintro e w' ⟨rfl,rfl⟩);go_meet;exact⟨rfl,by rw[HF.o];rfl⟩
       obtain⟨rfl,rfl⟩:=hcut;clear zR M7 M8;cases vZ:((oN p.ds s.toList||om p.ts s.toList)||nY pre s.toList)
       ·have HF:aj (uS p.ds p.ts t.cZ []=uS p.ds p.ts R' (pre++[s])):=ah (HL.o.trans (by rw[vZ];rfl));go_wp2_with fail;go_roundg R'.length
        case measure=>simp
        case rel=>exact⟨rfl,k'+1,pre++[s],R',rfl,ahj,acE,afC,HF.o⟩
       ·have HF:=ah (HE2.o.trans (if_pos (by rw[HL.o,vZ];rfl)));exact Abl
def AY (l:bf):Prop:= ∀(w:World) (ao:Option Addr) (cap:Nat),l.len<=maxLen->l.At w w.heap.size ao 0->
 Calls Tryz.prog 49 #[.slice ao l.len cap] w λe w'=>e= .returned (.int .i64 (Ib l))∧Below w.heap.size w w'
theorem FI (l:bf) (hall:l.All λ_ b e=>AY b∧AY e):AY l:=by
 intro w ao cap hl hat;generalize hres:Ib l=res;have HR:=ah hres;have HAT:=ah hat;have lG:=ah hall;unfold maxLen at hl;clear hres hat hall;go_enter Tryz.func49,Tryz.ntmps49;go_wp2_with fail;go_loopw [3,4] (λs3 s wr=> ∃(k:Nat) (R:bf) (n:Int),s= .int .i64 k∧s3= .int .i64 n∧k+R.len=l.len∧res=K5 R n∧(R.All λ_ b e=>AY b∧AY e)∧R.At wr wr.heap.size ao k∧Below w.heap.size w wr) (λ_ s _=>l.len -(intOf s).toNat)
 case atStart=>exact⟨0,l,l.len,rfl,rfl,ahh,HR.o.symm,lG.o,HAT.o,ak _ _⟩
 case round=>
  obtain⟨k,R,n,rfl,rfl,hlen,heq,pR,hrow,hB⟩:=hrel;have HE:=ah heq;have HB:=ah hB;clear heq hB;cases R with
  |nil=>
   obtain rfl:k=l.len:=afk
   go_wp2_with fail;go_ret;exact⟨dh HE.o.symm,HB.o⟩
  |cons h b e R=>
   obtain⟨bl,off,s,rfl,hbl,hin,-,-,-,-,-,-,-,-,-,x9,x10,hrest⟩:=bf.At.head hrow;obtain⟨⟨hsb,hse⟩,En⟩:=pR;have eX:=ah hsb;have Gb:=ah hse;have fF:=ah hin;have hkl:k<l.len:=acB
   have hk0:(0:Int)<=k:=ahf
   have hk1:(k:Int)<l.len:=ahf
   clear hrow hin hsb hse;go_wp2_with fail;obtain⟨T,F,yU,hst,hF,hnext⟩:=calm wr;have HF:=ah hF;have dN:=ah hnext;clear hF hnext;have y9:=λx=>((HF.o x).cell (p:=⟨bl,off+k*11+9,none⟩) hbl).trans x9;have jM:=λx=>((HF.o x).cell (p:=⟨bl,off+k*11+10,none⟩) hbl).trans x10;clear x9 x10;refine gX F ahe ahe hst ?_
   repeat (any_goals (first|go_big_quiet_step ((first|(go_at_call_of 49 (Value.slice s.dR b.len s.dA);refine(eX.o _ s.dR s.dA fF.o.1.2.2.2.2.2.2.1 (fF.o.same (HF.o _)).2.2.2.1).mono ?_;rintro e w' ⟨rfl,hb⟩;exact⟨rfl,dN.o _ _ hb⟩)|(go_at_call_of 49 (Value.slice s.jc e.len s.gZ);refine(Gb.o _ s.jc s.gZ fF.o.1.2.2.2.2.2.2.2 (fF.o.same (HF.o _)).2.2.2.2).mono ?_;rintro e w' ⟨rfl,hb⟩;exact⟨rfl,dN.o _ _ hb⟩)))|(refine wpQuiet_step (λK hK=> ?_);go_simp;first|(refine hK _ ?_;clear hK K)|(split <;> first|(refine hK _ ?_;clear hK K)|(apply Exists.intro;refine⟨λ_=> ?_,hK _ ?_⟩;((first|(go_at_call_of 49 (Value.slice s.dR b.len s.dA);refine(eX.o _ s.dR s.dA fF.o.1.2.2.2.2.2.2.1 (fF.o.same (HF.o _)).2.2.2.1).mono ?_;rintro e w' ⟨rfl,hb⟩;exact⟨rfl,dN.o _ _ hb⟩)|(go_at_call_of 49 (Value.slice s.jc e.len s.gZ);refine(Gb.o _ s.jc s.gZ fF.o.1.2.2.2.2.2.2.2 (fF.o.same (HF.o _)).2.2.2.2).mono ?_;rintro e w' ⟨rfl,hb⟩;exact⟨rfl,dN.o _ _ hb⟩)));clear hK K)))))
   all_goals (refine wpQuiet_nil ?_;rintro _ ⟨x,rfl⟩)
   have HB2:=ah (HF.o x);clear y9 jM HF dN hst;generalize F x=W3 at *;go_wp2_with fail;go_roundw
   case rel=>exact⟨k+1,R,_,ahj,rfl,acB,HE.o.trans (show K5 R (wrap64 (n+(Ib b+Ib e)))=_ by rw[<- wrap_in']),En,hrest.same HB2.o,HB.o.trans (HB2.o.mono HB.o.size)⟩
   case measure=>simp[intOf];omega
theorem TS (l:bf):AY l:=FI l (bf.qG (λ_ b e hb he=>⟨FI b hb,FI e he⟩) l)
theorem Xk (pre:List De) (nm:ByteArray):(Bc pre nm= -1∧mD pre nm.toList=0)∨∃(j:Nat) (d:De) (r:List De),j<pre.length∧Bc pre nm=(j:Int)∧pre.drop j=d::r∧mD pre nm.toList=gM d:=by
 unfold Bc mD;rcases qw (λd:De=>d.nm.toList==nm.toList) pre 0 with⟨h1,h2,h3⟩|⟨j,d,r,h0,h1,h2,h3,h4⟩
 ·exact Or.inl ⟨h1,by rw[h2];rfl⟩
 ·exact Or.inr ⟨j,d,r,h0,by rw[h1,aU],h2,by rw[h3];rfl⟩
theorem VZ {d:De} :(gM d != 4)=(d.kind != 3):=ag7
def aK9 (ds:List De) (w:World) (res:Int×Int) (g:Nat) (s4 s5 s6 s7 s8:Value) (wr:World):Prop:=
 ∃(k:Nat) (pre R:List De) (c l n f:Int),g=R.length∧s8= .int .i64 k∧pre++R=ds∧pre.length=k∧s4= .int .i64 c∧s5= .int .i64 l∧s6= .int .i64 n∧s7= .int .i64 f∧
  (0<=c∧c<=12∧0<=l∧l<=4∧0<=n∧n<=2∧0<=f∧f<=2)∧res=mY R pre c l n f∧Below w.heap.size w wr
theorem TT (ds:List De) (w:World) (ao:Option Addr) (cap:Nat) (hl:ds.length<=maxLen) (hcap:ds.length<=cap) (hat:jG w w.heap.size ds ao 0) (hsh: ∀d∈ds,jF d=true):
 Calls Tryz.prog 47 #[.slice ao ds.length cap] w λe w'=>e= .returned (.tuple #[.int .i64 (mY ds [] 0 0 0 0).1,.int .i64 (mY ds [] 0 0 0 0).2])∧Below w.heap.size w w':=by
 generalize hres:mY ds [] 0 0 0 0=res;have HR:=ah hres;have HAT:=ah hat;have BF:=ah hsh;have hl':=hl;unfold maxLen at hl;clear hres hat hsh;go_enter Tryz.func47,Tryz.ntmps47;go_wp2_with fail;go_loopg [4,5,6,7,8,9,10] ds.length (λg s4 s5 s6 s7 s8 _ _ wr=>aK9 ds w res g s4 s5 s6 s7 s8 wr)
 case atStart=>exact⟨0,[],ds,0,0,0,0,rfl,rfl,rfl,rfl,rfl,rfl,rfl,rfl,ahg,HR.o.symm,ak _ _⟩
 case round=>
  obtain⟨k,pre,R,c,l,n,f,rfl,rfl,hds,hk,rfl,rfl,rfl,rfl,⟨q1,q2,l1,l2,n1,n2,f1,f2⟩,hr,hB⟩:=hrel;have HE:=ah hr;have HB:=ah hB;clear hr hB HR;have hlen:k+R.length=ds.length:=afJ
  have hrow:=(HAT.o.below HB.o).drop k;rw[aU,<- hds,<- hk,List.drop_left]at hrow;rw[hk]at hrow;cases R with
  |nil=>
   obtain rfl:k=ds.length:=afb
   have HF:=ah (HE.o.trans (rfl:_=((0:Int),(0:Int))));clear HE hds hk hrow;go_wp2_with fail
   go_ret2
   exact⟨jW (congrArg Prod.fst HF.o) (congrArg Prod.snd HF.o),HB.o⟩
  |cons d R=>
   have hsd:=xg (BF.o d (by rw[<- hds];simp));have sO:=ah hds;have HK:=ah hk;have xD:=ah ((hds ▸ HAT.o:jG w w.heap.size (pre++d::R) ao 0).take);clear hds hk;obtain⟨⟨b,off,rfl,jT,x0,x1,x2,x3,x4,x5,hok⟩,-⟩:=hrow;simp only[aB]at hlen;have hkl:k<ds.length:=ahf
   obtain⟨g1,g2,g3,g4⟩:=hsd;rw[K8]at HE;go_upto_region 6 with fail;obtain⟨nb,hnb⟩: ∃n,wr.heap.size=n:=⟨_,rfl⟩;generalize hW2:World.alloc wr _=W2;have HB2:aj (Below w.heap.size w W2):=ah adI;have HY:aj (Sit wr W2 [(nb,0,.int .i64 d.kind),(nb,1,.int .i64 d.line),(nb,2,.string d.nm),(nb,3,.int .i64 d.size),(nb,4,.int .i64 d.init),(nb,5,.string d.on)]):=ah abN;rw[hnb];clear hW2 hnb x0 x1 x2 x3 x4 x5 HB;obtain⟨c0,c1,c2,c3,c4,c5,-⟩:=HY.o.cs;have hpl:pre.length<=maxLen:=aiw
   have zR:aj (∀(nm:ByteArray) (nq:Nat),Calls Tryz.prog 80 #[.slice (some ⟨b,off,none⟩) k cap,.string nm] (W2.drewN nq) λe w'=>e= .returned (.int .i64 (Bc pre nm))∧W2.drewN nq=w'):=ah (λnm nq=>by have hb':=below_drewN (n:=nq) HB2.o;have:=pJ pre nm (W2.drewN nq) (some ⟨b,off,none⟩) cap hpl ((xD.o.below hb').mono hb'.size);rw[HK.o]at this;exact this);have hk0:(0:Int)<=k:=ahf
   have hk1:(k:Int)<=cap:=ahf
   have hk2:k<=cap:=ahf
   go_quiet ((go_at_call 80;exact kJ (zR.o _ _)));have HZ:=ah (HY.o.draws nq);have HB3:=ah (below_drewN (n:=nq) HB2.o);clear HY HB2 zR c0 c1 c2 c3 c4 c5;generalize W2.drewN nq=w3 at *;obtain⟨c0,c1,c2,c3,c4,c5,-⟩:=HZ.o.cs;rcases Xk pre d.nm with⟨e1,e2⟩|⟨j,d',r,e0,e1,-,e2⟩
   case inr=>
    as_aux_lemma=>
     rw[e1];have HF:=ah (HE.o.trans (if_pos (by rw[e2,bne_iff_ne];have:=uP d';omega)));clear e1 e2;go_wp2_with fail;go_quiet (fail);go_wp2_with fail
     go_ret2
     exact⟨jW (congrArg Prod.fst HF.o) (congrArg Prod.snd HF.o),below_drewN HB3.o _⟩
   rw[e1];have h0:(mD pre d.nm.toList != 0)=false:=by rw[e2];rfl
   have HE2:=ah (HE.o.trans (if_neg (by rw[h0];decide)));clear HE e1 e2;go_upto_region 8 with fail;cases h1:decide (4<d.size)
   case true=>
    as_aux_lemma=>
     have HF:=ah (HE2.o.trans (if_pos h1));have h1':4<d.size:=ahm;go_wp2_with fail;go_quiet (fail);go_wp2_with fail
     go_ret2
     exact⟨jW (congrArg Prod.fst HF.o) (congrArg Prod.snd HF.o),below_drewN HB3.o _⟩
   have kF:=ah (HE2.o.trans (if_neg ahr));have h1':d.size<=4:=ahm
   clear HE2 h1;go_upto_region 10 with fail;go_upto_block 2 with(fail);go_cut [4,5,6,7,36] (λs4 s5 s6 s7 _ W3=>w3=W3∧s4= .int .i64 (dc d c)∧s5= .int .i64 (dl d l)∧s6= .int .i64 (dn d n)∧s7= .int .i64 (df d f))
   case first=>
    as_aux_lemma=>
     have hkd:d.kind=1∨d.kind=2∨d.kind=3∨d.kind=4∨d.kind=5∨d.kind=6:=ahf;have hmx:0<=max d.size 1∧max d.size 1<=4:=ahf;rcases hkd with hkd|hkd|hkd|hkd|hkd|hkd
     ·have HA:aj (dc d c=c+max d.size 1∧dl d l=l∧dn d n=n∧df d f=f):=ah aaZ;have hk3:(d.kind==1)=true:=ahl;exact Aba
     ·have HA:aj (dc d c=c+max d.size 1∧dl d l=l∧dn d n=n∧df d f=f):=ah aaZ;have hk3:(d.kind==1)=false:=ahl;have hk4:(d.kind==2)=true:=ahl;have hk5:(d.kind==3)=false:=ahl;exact Abg
     ·have HA:aj (dc d c=c∧dl d l=l+1∧dn d n=n∧df d f=f):=ah aaZ;have hk3:(d.kind==1)=false:=ahl;have hk4:(d.kind==2)=false:=ahl;have hk5:(d.kind==3)=true:=ahl;exact Abg
     ·have HA:aj (dc d c=c∧dl d l=l+1∧dn d n=n∧df d f=f):=ah aaZ;have hk3:(d.kind==1)=false:=ahl;have hk4:(d.kind==2)=false:=ahl;have hk5:(d.kind==3)=false:=ahl;have UH:(d.kind==4)=true:=ahl;have hk7:(d.kind==5)=false:=ahl;clear hkd;go_wp2_with fail;go_meet;exact⟨rfl,ah1,ahS,ahI,ahH⟩
     ·have HA:aj (dc d c=c∧dl d l=l∧dn d n=n+1∧df d f=f):=ah aaZ;have hk3:(d.kind==1)=false:=ahl;have hk4:(d.kind==2)=false:=ahl;have hk5:(d.kind==3)=false:=ahl;have UH:(d.kind==4)=false:=ahl;have hk7:(d.kind==5)=true:=ahl;clear hkd;go_wp2_with fail;go_meet;exact⟨rfl,ah1,ahS,ahI,ahH⟩
     ·have HA:aj (dc d c=c∧dl d l=l∧dn d n=n∧df d f=f+1):=ah aaZ;have hk3:(d.kind==1)=false:=ahl;exact Aba
   obtain⟨rfl,rfl,rfl,rfl,rfl⟩:=hcut;have hc':0<=dc d c∧dc d c<=16:=by unfold dc;split <;> omega
   have hl'':0<=dl d l∧dl d l<=5:=by unfold dl;split <;> omega
   have hn':0<=dn d n∧dn d n<=3:=by unfold dn;split <;> omega
   have hf':0<=df d f∧df d f<=3:=by unfold df;split <;> omega
   generalize hcc:dc d c=c' at *;generalize hll:dl d l=l' at *;generalize hnn:dn d n=n' at *;generalize XB:df d f=f' at *;clear hcc hll hnn XB;go_upto_region 20 with fail;go_cut [69] (λs' W3=>w3=W3∧s'= .bool (lim c' l' n' f'))
   case first=>
    as_aux_lemma=>
     have HF:aj (lim c' l' n' f'=(((decide (12<c')||decide (4<l'))||decide (2<n'))||decide (2<f'))):=ah rfl;go_wp2_with fail
     all_goals go_meet
     all_goals exact⟨rfl,abQ⟩
   obtain⟨rfl,rfl⟩:=hcut;cases h2:lim c' l' n' f'
   case true=>
    as_aux_lemma=>
     have HF:=ah (kF.o.trans (if_pos h2));go_wp2_with fail;go_quiet (fail);go_wp2_with fail
     go_ret2
     exact⟨jW (congrArg Prod.fst HF.o) (congrArg Prod.snd HF.o),below_drewN HB3.o _⟩
   have vK:=ah (kF.o.trans (if_neg ahz));have hlim:c'<=12∧l'<=4∧n'<=2∧f'<=2:=aeC
   clear kF h2;go_upto_region 22 with fail;cases h5:(d.kind==5)
   ·have HF:=ah (vK.o.trans ((if_neg aik).trans (if_neg aik)));clear vK;go_wp2_with fail;go_roundg R.length
    case measure=>simp
    case rel=>exact⟨k+1,pre++[d],R,c',l',n',f',rfl,ahj,acE,afC,rfl,rfl,rfl,rfl,ahf,HF.o,HB3.o⟩
   ·go_wp2_with fail;have zR:aj (∀(nm:ByteArray) (nq:Nat),Calls Tryz.prog 80 #[.slice (some ⟨b,off,none⟩) k cap,.string nm] (w3.drewN nq) λe w'=>e= .returned (.int .i64 (Bc pre nm))∧w3.drewN nq=w'):=ah (λnm nq=>by have hb':=below_drewN (n:=nq) HB3.o;have:=pJ pre nm (w3.drewN nq) (some ⟨b,off,none⟩) cap hpl ((xD.o.below hb').mono hb'.size);rw[HK.o]at this;exact this);go_quiet ((go_at_call 80;exact kJ (zR.o _ _)));have HZ2:=ah (HZ.o.draws nq);have dL:=ah (below_drewN (n:=nq) HB3.o);clear HZ zR c0 c1 c2 c3 c4 c5 HB3;generalize w3.drewN nq=w5 at *;have HB3:=dL;clear dL;obtain⟨c0,c1,c2,c3,c4,c5,-⟩:=HZ2.o.cs;rcases Xk pre d.on with⟨e1,e2⟩|⟨j,d',r,e0,e1,e3,e2⟩
    ·have HF:=ah (vK.o.trans (if_pos (by rw[h5,e2];rfl)));rw[e1];clear e1 e2;exact Abl
    ·have IX:=ah (vK.o.trans (if_neg (by rw[h5,e2];have:=uP d';simp;omega)));rw[e2,VZ]at IX;have hrow:=(xD.o.below HB3.o).drop j;rw[e3,aU]at hrow;obtain⟨⟨b2,off2,hbe,bV9,z0,-⟩,-⟩:=hrow;obtain⟨rfl,rfl⟩:b=b2∧off=off2:=abm;have hjl:j<ds.length:=(by have:=HK.o;omega);rw[e1];clear e1 e2 e3 hbe vK;cases h8:(d'.kind != 3)
     case true=>
      as_aux_lemma=>
       have HF:=ah (IX.o.trans (if_pos (by rw[h5,h8];rfl)));go_wp2_with fail;go_quiet (fail);go_wp2_with fail
       go_ret2
       exact⟨jW (congrArg Prod.fst HF.o) (congrArg Prod.snd HF.o),below_drewN HB3.o _⟩
     have HF:=ah (IX.o.trans (if_neg (by rw[h5,h8];decide)));clear IX;go_wp2_with fail;go_roundg R.length
     case measure=>simp
     case rel=>exact⟨k+1,pre++[d],R,c',l',n',f',rfl,ahj,acE,afC,rfl,rfl,rfl,rfl,ahf,HF.o,HB3.o⟩
theorem Vd (s:ByteArray):lQ s true=Tk.ji s.data.toList:=rfl
theorem Vb (s:ByteArray):lQ s false=decide (s.toList=[]):=by unfold lQ;rw[Lib.toList_data,Bool.eq_iff_iff];simp
theorem LH (d:De) (w:World) (hok:d.Ok):
 Calls Tryz.prog 78 #[.agg #[.int .i64 d.kind,.int .i64 d.line,.string d.nm,.int .i64 d.size,.int .i64 d.init,.string d.on]] w λe w'=>e= .returned (.bool (jF d))∧Below w.heap.size w w':=by
 obtain⟨⟨k1,k2⟩,-,hm,-,⟨i1,i2⟩,ho⟩:=hok;obtain⟨kind,line,nm,size,init,on⟩:=d;have HE:aj (jF ⟨kind,line,nm,size,init,on⟩=((((decide (1<=kind)&&decide (kind<=6))&&Tk.ji nm.data.toList)&&(decide (0<=size)&&(decide (size=0)||decide (kind=1))))&&((!decide (init= -9223372036854775808)&&(decide (init=0)||(decide (kind=1)||decide (kind=2))))&&lQ on (kind==5)))):=ah abT;dsimp only at *;generalize jF ⟨kind,line,nm,size,init,on⟩=res at *;go_enter Tryz.func78,Tryz.ntmps78;go_upto_region 1 with fail;generalize hW:World.alloc w _=W;generalize Value.agg #[_,_,_,_,_,_]=a0;have HX:=ah ((Sit.start w).U7 rfl (.int .i64 kind) (.int .i64 line) (.string nm) (.int .i64 size) (.int .i64 init) (.string on) 118);rw[hW]at HX;clear hW;obtain⟨c0,c1,c2,c3,c4,c5,-⟩:=HX.o.cs;go_cut [31] (λs W2=> ∃b,s= .bool b∧(!b)=(((decide (1<=kind)&&decide (kind<=6))&&Tk.ji nm.data.toList)&&(decide (0<=size)&&(decide (size=0)||decide (kind=1))))∧Sit w W2 [(w.heap.size,0,.int .i64 kind),(w.heap.size,1,.int .i64 line),(w.heap.size,2,.string nm),(w.heap.size,3,.int .i64 size),(w.heap.size,4,.int .i64 init),(w.heap.size,5,.string on)])
 case first=>
  cases hr:decide (1<=kind∧kind<=6)
  ·have hr':kind<1∨(1<=kind∧6<kind):=by simp at hr;omega
   clear hr;rcases hr' with hr|⟨hr,hr'⟩
   all_goals go_wp2_with fail
   all_goals go_meet
   all_goals exact⟨_,rfl,ahD,HX.o⟩
  ·have hr':1<=kind∧kind<=6:=by simpa using hr
   obtain⟨g1,g2⟩:=hr';clear hr;go_wp2_with fail;refine(jl _ _ hm).mono ?_;rintro e w3 ⟨rfl,hb3⟩;have HZ:=ah (HX.o.next hb3);clear hb3 HX c0 c1 c2 c3 c4 c5;obtain⟨c0,c1,c2,c3,c4,c5,-⟩:=HZ.o.cs;cases hq:Tk.ji nm.data.toList
   all_goals go_wp2_with fail
   all_goals go_meet
   all_goals exact⟨_,rfl,by rw[hq];go_light;grind,HZ.o⟩
 obtain⟨b1,rfl,hb1,hX⟩:=hcut;have HY:=ah hX;have HB1:=ah hb1;clear hX HX hb1 c0 c1 c2 c3 c4 c5;rw[<- HB1.o]at HE;clear HB1;cases b1
 case true=>go_wp2_with fail;go_ret;exact⟨bZ (HE.o.trans ahh).symm,HY.o.1⟩
 obtain⟨c0,c1,c2,c3,c4,c5,-⟩:=HY.o.cs;go_upto_region 3 with fail;go_cut [50] (λs W2=> ∃b,s= .bool b∧(!b)=lQ on (kind==5)∧Sit w W2 [(w.heap.size,0,.int .i64 kind),(w.heap.size,1,.int .i64 line),(w.heap.size,2,.string nm),(w.heap.size,3,.int .i64 size),(w.heap.size,4,.int .i64 init),(w.heap.size,5,.string on)])
 case first=>
  cases h5:(kind==5)
  ·have h5':(kind != 5)=true:=by unfold bne;rw[h5];rfl
   have HN:=ah (Vb on);go_wp2_with fail
   all_goals go_meet
   all_goals exact⟨_,rfl,by rw[h5,HN.o];first|(simp;done)|(go_light;grind),HY.o⟩
  ·have h5':(kind != 5)=false:=by unfold bne;rw[h5];rfl
   have HN:=ah (Vd on);go_wp2_with fail;refine(jl _ _ ho).mono ?_;rintro e w3 ⟨rfl,hb3⟩;have HZ:=ah (HY.o.next hb3);clear hb3 HY c0 c1 c2 c3 c4 c5;obtain⟨c0,c1,c2,c3,c4,c5,-⟩:=HZ.o.cs;cases hq:Tk.ji on.data.toList
   all_goals go_wp2_with fail
   all_goals go_meet
   all_goals exact⟨_,rfl,by rw[h5,HN.o,hq];rfl,HZ.o⟩
 obtain⟨b2,rfl,hb2,hX⟩:=hcut;have HZ:=ah hX;have HB2:=ah hb2;clear hX HY hb2 c0 c1 c2 c3 c4 c5;rw[<- HB2.o]at HE;clear HB2;cases b2
 case true=>go_wp2_with fail;go_ret;exact⟨bZ (HE.o.trans ahh).symm,HZ.o.1⟩
 obtain⟨c0,c1,c2,c3,c4,c5,-⟩:=HZ.o.cs;go_wp2_with fail
 all_goals go_ret
 all_goals refine⟨bZ (HE.o.trans ?_).symm,HZ.o.1⟩
 all_goals (go_light;grind)
theorem ad8 (op n:Int) (nm:ByteArray) (len cap:Nat) (ao:Option Addr) (w:World):
 Calls Tryz.prog 147 #[.agg #[.int .i64 op,.int .i64 n,.string nm,.slice ao len cap]] w λe w'=>e= .returned (.bool (rU op n nm len))∧Below w.heap.size w w':=by
 have HE:aj (rU op n nm len=(((decide (op=0)&&decide (n=0))&&decide (nm.toList=[]))&&decide (len=0))):=ah ad1;generalize rU op n nm len=res at *;go_enter Tryz.func147,Tryz.ntmps147;go_wp2
 all_goals go_ret
 all_goals refine⟨bZ ?_,aA _ _⟩
 all_goals rw[HE.o]
 all_goals (go_light;grind)
def E5 (h:dM) (b e:bf):Prop:=
 ∀(w:World) (s:Sl),FJ w h b e s->
  Calls Tryz.prog 119 #[iG h b e s] w λe' w'=>e'= .returned (.bool (EG h b e))∧Below w.heap.size w w'
theorem Bb (l:bf) (hall:l.All E5) (w:World) (ao:Option Addr) (cap:Nat) (hl:l.len<=maxLen) (hat:l.At w w.heap.size ao 0):
 Calls Tryz.prog 79 #[.slice ao l.len cap] w λe' w'=>e'= .returned (.bool (gy l))∧Below w.heap.size w w':=by
 unfold maxLen at hl;go_enter Tryz.func79,Tryz.ntmps79;go_wp2_with fail;go_loopw [3] (λs wr=> ∃(k:Nat) (R:bf),s= .int .i64 k∧k+R.len=l.len∧gy l=gy R∧R.All E5∧R.At wr wr.heap.size ao k∧Below w.heap.size w wr) (λs _=>l.len -(intOf s).toNat)
 case atStart=>exact⟨0,l,rfl,ahh,rfl,hall,hat,ak _ _⟩
 case round=>
  obtain⟨k,R,rfl,hlen,heq,pR,hrow,hB⟩:=hrel;have HE:=ah heq;clear heq;cases R with
  |nil=>
   obtain rfl:k=l.len:=afk
   go_wp2_with fail;go_ret;exact⟨bZ HE.o.symm,hB⟩
  |cons h b e R=>
   obtain⟨bl,off,s,rfl,hbl,hin,x0,x1,x2,x3,x4,x5,x6,x7,x8,x9,x10,hrest⟩:=bf.At.head hrow;obtain⟨jV,En⟩:=pR;have hkl:k<l.len:=acB
   clear hrow;go_wp2_with fail;refine(jV _ s hin).mono ?_;rintro e' w2 ⟨rfl,hb2⟩;have HB3:=ah hb2;clear hb2 x0 x1 x2 x3 x4 x5 x6 x7 x8 x9 x10 hin;exact Aar
theorem bn5 {op:Int} (h1:1<=op) (h2:op<=15):fN op= !((op==2||op==3)||(op==7||op==8)):=by
 rw[Bool.eq_iff_iff];unfold fN;simp;omega
theorem JI (h:dM) (b e:bf) (ihb:b.All E5) (ihe:e.All E5):E5 h b e:=by
 intro w s hin;obtain⟨gu,eG,gY,fD,dR,dA,jc,gZ⟩:=s;have HS:aj (EG h b e=((((fO h.op&&(lQ h.nm (fN h.op)&&lQ h.arg (fA h.op)))&&((decide ((h.idx.len:Int)<=1)&&(!decide ((h.idx.len:Int)=1)||fI h.op))&&nD h.idx))&&
  ((if fX h.op then jZ h.dY h.xn h.dX h.bM else rU h.dY h.xn h.dX h.bM.len)&&((fB h.op||decide ((b.len:Int)<=0))&&(fE h.op||decide ((e.len:Int)<=0)))))&&(gy b&&gy e))):=ah (by
  unfold EG oM;rw[XI,XH,Lr,Lr])
 generalize EG h b e=res at *;have fF:=ah hin;have WO:=ah ihb;have HIE:=ah ihe;obtain⟨⟨⟨o1,o2⟩,-,hm,ha,hil,hxk,hbl,hel⟩,-⟩:=hin;clear ihb ihe;have bJ4:=hil;have aw0:=hbl;have aw3:=hel;have hxl:=hxk.2.2.2;unfold maxLen at hil hbl hel hxl;unfold iG;dsimp only;go_enter Tryz.func119,Tryz.ntmps119;go_upto_region 1 with fail;generalize hW:World.alloc w _=W;generalize Value.agg #[_,_,_,_,_,_,_,_,_,_,_]=a0;have HX:aj (Sit w W (xL w.heap.size h b e ⟨gu,eG,gY,fD,dR,dA,jc,gZ⟩ [])):=ah abq;clear hW;obtain⟨c0,c1,c2,c3,c4,c5,c6,c7,c8,c9,c10,-⟩:=HX.o.cs;go_cut [13] (λs' W3=>W=W3∧∃t,s'= .bool t∧(!t)=(decide (1<=h.op)&&decide (h.op<=15)))
 case first=>
  as_aux_lemma=>
   go_wp2_with fail
   all_goals go_meet
   all_goals exact⟨rfl,_,rfl,ahD⟩
 obtain⟨rfl,t1,rfl,ht1⟩:=hcut;cases t1
 case true=>
  as_aux_lemma=>have HT:aj (fO h.op=false):=ah ht1.symm;rw[HT.o]at HS;go_wp2_with fail;go_ret;exact⟨bZ (HS.o.trans ahh).symm,HX.o.1⟩
 have hr:1<=h.op∧h.op<=15:=by simpa using ht1.symm
 obtain⟨g1,g2⟩:=hr;rw[show fO h.op=true from ht1.symm,bn5 g1 g2]at HS;clear ht1;go_upto_region 3 with fail;go_cut [3] (λs' W3=>W=W3∧s'= .bool ((h.op==2||h.op==3)||(h.op==7||h.op==8)))
 case first=>
  as_aux_lemma=>
   go_wp2_with fail
   all_goals go_meet
   all_goals exact⟨rfl,by congr 1;go_light;grind⟩
 obtain⟨rfl,rfl⟩:=hcut;generalize ((h.op==2||h.op==3)||(h.op==7||h.op==8))=bn at *;go_upto_region 4 with fail;go_cut [3,47] (λ_ s' W2=> ∃t,s'= .bool t∧(!t)=lQ h.nm (!bn)∧Sit w W2 (xL w.heap.size h b e ⟨gu,eG,gY,fD,dR,dA,jc,gZ⟩ []))
 case first=>
  as_aux_lemma=>
   cases bn
   ·have HN:=ah (Vd h.nm);go_wp2_with fail;refine(jl _ _ hm).mono ?_;rintro e' w3 ⟨rfl,hb3⟩;have HZ:=ah (HX.o.next hb3);clear hb3 HX c0 c1 c2 c3 c4 c5 c6 c7 c8 c9 c10;obtain⟨c0,c1,c2,c3,c4,c5,c6,c7,c8,c9,c10,-⟩:=HZ.o.cs;cases hq:Tk.ji h.nm.data.toList
    all_goals go_wp2_with fail
    all_goals go_meet
    all_goals exact⟨_,rfl,(HN.o.trans hq).symm,HZ.o⟩
   ·have HN:=ah (Vb h.nm);go_wp2_with fail
    all_goals go_meet
    all_goals exact⟨_,rfl,(show _=lQ h.nm false by rw[HN.o];first|(simp;done)|(go_light;grind)),HX.o⟩
 obtain⟨t2,rfl,ht2,hX⟩:=hcut;have HY:=ah hX;have HT2:=ah ht2;clear hX ht2 HX c0 c1 c2 c3 c4 c5 c6 c7 c8 c9 c10;rw[<- HT2.o]at HS;clear HT2;cases t2
 case true=>
  as_aux_lemma=>go_wp2_with fail;go_ret;exact⟨bZ (HS.o.trans ahh).symm,HY.o.1⟩
 obtain⟨c0,c1,c2,c3,c4,c5,c6,c7,c8,c9,c10,-⟩:=HY.o.cs;go_upto_region 6 with fail;go_cut [66] (λs' W2=> ∃t,s'= .bool t∧(!t)=lQ h.arg (fA h.op)∧Sit w W2 (xL w.heap.size h b e ⟨gu,eG,gY,fD,dR,dA,jc,gZ⟩ []))
 case first=>
  as_aux_lemma=>
   cases R6:(h.op==15)
   ·have bI7:(h.op != 15)=true:=(by unfold bne;rw[R6];rfl);have HN:aj (lQ h.arg (fA h.op)=decide (h.arg.toList=[])):=ah (by unfold fA;rw[R6];exact Vb h.arg);go_wp2_with fail
    all_goals go_meet
    all_goals exact⟨_,rfl,(by rw[HN.o];first|(simp;done)|(go_light;grind)),HY.o⟩
   ·have bI7:(h.op != 15)=false:=(by unfold bne;rw[R6];rfl);have HN:aj (lQ h.arg (fA h.op)=Tk.ji h.arg.data.toList):=ah (by unfold fA;rw[R6];exact Vd h.arg);go_wp2_with fail;refine(jl _ _ ha).mono ?_;rintro e' w3 ⟨rfl,hb3⟩;have HZ:=ah (HY.o.next hb3);clear hb3 HY c0 c1 c2 c3 c4 c5 c6 c7 c8 c9 c10;obtain⟨c0,c1,c2,c3,c4,c5,c6,c7,c8,c9,c10,-⟩:=HZ.o.cs;cases hq:Tk.ji h.arg.data.toList
    all_goals go_wp2_with fail
    all_goals go_meet
    all_goals exact⟨_,rfl,(HN.o.trans hq).symm,HZ.o⟩
 obtain⟨t3,rfl,ht3,hX⟩:=hcut;have HZ:=ah hX;have HT3:=ah ht3;clear hX ht3 HY c0 c1 c2 c3 c4 c5 c6 c7 c8 c9 c10;rw[<- HT3.o]at HS;clear HT3;cases t3
 case true=>
  as_aux_lemma=>go_wp2_with fail;go_ret;exact⟨bZ (HS.o.trans ahh).symm,HZ.o.1⟩
 obtain⟨c0,c1,c2,c3,c4,c5,c6,c7,c8,c9,c10,-⟩:=HZ.o.cs;go_upto_region 8 with fail;go_cut [95] (λs' W2=> ∃t,s'= .bool t∧(!t)=((decide ((h.idx.len:Int)<=1)&&(!decide ((h.idx.len:Int)=1)||fI h.op))&&nD h.idx)∧Sit w W2 (xL w.heap.size h b e ⟨gu,eG,gY,fD,dR,dA,jc,gZ⟩ []))
 case first=>
  as_aux_lemma=>
   have hrow:=(fF.o.same HZ.o.1).2.1;generalize hix:h.idx=ix at hrow c4 hil;have EM:=ah hix;clear hix;cases ix with
   |nil=>
    simp only[bV.len]at c4;clear hrow;cases hI:(h.op==1)
    ·have hI':(h.op != 1)=true:=afV;go_wp2_with fail;go_meet;exact⟨_,rfl,by rw[EM.o];rfl,HZ.o⟩
    ·have hI':(h.op != 1)=false:=afV;go_wp2_with fail;go_meet;exact⟨_,rfl,by rw[EM.o];rfl,HZ.o⟩
   |cons op' n' nm' iy rest=>
    obtain⟨⟨b',off',mK,cap',rfl,jT,x0,x1,x2,x3,hok',mF⟩,hrest⟩:=hrow;cases rest with
    |nil=>
     simp only[bV.len,aU]at c4;simp only[Nat.zero_mul,Nat.add_zero]at x0 x1 x2 x3;cases hI:(h.op==1)
     ·have hI':(h.op != 1)=true:=afV;have HL:aj (fI h.op=false):=ah hI;go_wp2_with fail;go_meet;exact⟨_,rfl,by rw[EM.o,HL.o];rfl,HZ.o⟩
     ·have hI':(h.op != 1)=false:=afV;have HL:aj (fI h.op=true):=ah hI;go_wp2_with fail;refine(xQ op' n' nm' iy _ _ _ hok' mF).mono ?_;rintro e' w3 ⟨rfl,hb3⟩;have HV:=ah (HZ.o.next hb3);clear hb3;cases hq:jZ op' n' nm' iy
      all_goals go_wp2_with fail
      all_goals go_meet
      all_goals exact⟨_,rfl,by rw[EM.o,HL.o,nX,hq];rfl,HV.o⟩
    |cons op2 n2 nm2 OJ P6=>have hl2:2<=(bV.cons op' n' nm' iy (bV.cons op2 n2 nm2 OJ P6)).len:=(by simp only[bV.len];omega);have HL:aj (((decide (((bV.cons op' n' nm' iy (bV.cons op2 n2 nm2 OJ P6)).len:Int)<=1)&&(!decide (((bV.cons op' n' nm' iy (bV.cons op2 n2 nm2 OJ P6)).len:Int)=1)||fI h.op))&&nD (bV.cons op' n' nm' iy (bV.cons op2 n2 nm2 OJ P6)))=false):=ah (by rw[decide_eq_false ahf];rfl);clear x0 x1 x2 x3 hrest mF hok';generalize (bV.cons op' n' nm' iy (bV.cons op2 n2 nm2 OJ P6))=ix at *;have hl3:1<ix.len:=ahf;go_wp2_with fail;go_meet;exact⟨_,rfl,by rw[EM.o,HL.o];rfl,HZ.o⟩
 obtain⟨t4,rfl,ht4,hX⟩:=hcut;have HU:=ah hX;have Gc:=ah ht4;clear hX ht4 HZ c0 c1 c2 c3 c4 c5 c6 c7 c8 c9 c10;rw[<- Gc.o]at HS;clear Gc;cases t4
 case true=>
  as_aux_lemma=>go_wp2_with fail;go_ret;exact⟨bZ (HS.o.trans ahh).symm,HU.o.1⟩
 obtain⟨c0,c1,c2,c3,c4,c5,c6,c7,c8,c9,c10,-⟩:=HU.o.cs;go_upto_region 10 with fail;go_cut [4] (λs' W3=>wc=W3∧s'= .bool (fX h.op))
 case first=>
  as_aux_lemma=>
   have HF:aj (fX h.op=((h.op==1||h.op==2)||(h.op==3||h.op==14))):=ah rfl;go_wp2_with fail
   all_goals go_meet
   all_goals exact⟨rfl,aeS⟩
 obtain⟨rfl,rfl⟩:=hcut;generalize fX h.op=bX at *;go_upto_region 11 with fail;go_cut [4,130] (λ_ s' W3=> ∃t,s'= .bool t∧(!t)=(if bX then jZ h.dY h.xn h.dX h.bM else rU h.dY h.xn h.dX h.bM.len)∧Sit w W3 (xL w.heap.size h b e ⟨gu,eG,gY,fD,dR,dA,jc,gZ⟩ []))
 case first=>
  as_aux_lemma=>
   cases bX
   ·go_wp2_with fail;refine(ad8 _ _ _ _ _ _ _).mono ?_;rintro e' w3 ⟨rfl,hb3⟩;have HV:=ah (HU.o.next hb3);clear hb3;cases hq:rU h.dY h.xn h.dX h.bM.len
    all_goals go_wp2_with fail
    all_goals go_meet
    all_goals exact⟨_,rfl,hq.symm,HV.o⟩
   ·go_wp2_with fail;refine(xQ _ _ _ _ _ _ _ hxk (fF.o.same HU.o.1).2.2.1).mono ?_;rintro e' w3 ⟨rfl,hb3⟩;have HV:=ah (HU.o.next hb3);clear hb3 HU c0 c1 c2 c3 c4 c5 c6 c7 c8 c9 c10;obtain⟨c0,c1,c2,c3,c4,c5,c6,c7,c8,c9,c10,-⟩:=HV.o.cs;cases hq:jZ h.dY h.xn h.dX h.bM
    all_goals go_wp2_with fail
    all_goals go_meet
    all_goals exact⟨_,rfl,hq.symm,HV.o⟩
 obtain⟨t5,rfl,ht5,hX⟩:=hcut;have HV:=ah hX;have HT5:=ah ht5;clear hX ht5 HU c0 c1 c2 c3 c4 c5 c6 c7 c8 c9 c10;rw[<- HT5.o]at HS;clear HT5;cases t5
 case true=>
  as_aux_lemma=>go_wp2_with fail;go_ret;exact⟨bZ (HS.o.trans ahh).symm,HV.o.1⟩
 obtain⟨c0,c1,c2,c3,c4,c5,c6,c7,c8,c9,c10,-⟩:=HV.o.cs;go_upto_region 13 with fail;go_cut [5] (λs' W3=>wc=W3∧s'= .bool (fB h.op))
 case first=>
  as_aux_lemma=>
   have HF:aj (fB h.op=(decide (2<=h.op)&&decide (h.op<=8))):=ah rfl;go_wp2_with fail
   all_goals go_meet
   all_goals exact⟨rfl,aeS⟩
 obtain⟨rfl,rfl⟩:=hcut;generalize fB h.op=bB at *;go_upto_region 14 with fail;go_cut [5,157] (λ_ s' W3=>wc=W3∧∃t,s'= .bool t∧(!t)=((bB||decide ((b.len:Int)<=0))&&(fE h.op||decide ((e.len:Int)<=0))))
 case first=>
  as_aux_lemma=>
   have HF:aj (fE h.op=(h.op==2)):=ah rfl;cases bB
   all_goals cases h2:(h.op==2)
   all_goals try have h2':(h.op != 2)=true:=by unfold bne;rw[h2];rfl
   all_goals try have h2':(h.op != 2)=false:=by unfold bne;rw[h2];rfl
   all_goals go_wp2_with fail
   all_goals go_meet
   all_goals exact⟨rfl,_,rfl,by rw[HF.o,h2];go_light;grind⟩
 obtain⟨rfl,t6,rfl,ht6⟩:=hcut;have Cq:=ah ht6;rw[<- Cq.o]at HS;clear Cq ht6;cases t6
 case true=>
  as_aux_lemma=>go_wp2_with fail;go_ret;exact⟨bZ (HS.o.trans ahh).symm,HV.o.1⟩
 go_wp2_with fail;refine(Bb b WO.o _ _ _ aw0 (fF.o.same HV.o.1).2.2.2.1).mono ?_;rintro e' w4 ⟨rfl,hb4⟩;have HA:=ah (HV.o.next hb4);clear hb4 HV c0 c1 c2 c3 c4 c5 c6 c7 c8 c9 c10;obtain⟨c0,c1,c2,c3,c4,c5,c6,c7,c8,c9,c10,-⟩:=HA.o.cs;cases hq:gy b
 ·rw[hq]at HS;go_wp2_with fail;go_ret;exact⟨bZ (HS.o.trans ahh).symm,HA.o.1⟩
 ·rw[hq]at HS;go_wp2_with fail;refine(Bb e HIE.o _ _ _ aw3 (fF.o.same HA.o.1).2.2.2.2).mono ?_;rintro e' w5 ⟨rfl,hb5⟩;go_wp2_with fail;go_ret;exact⟨bZ (HS.o.trans ahh).symm,(HA.o.next hb5).1⟩
theorem JJ (l:bf) (w:World) (ao:Option Addr) (cap:Nat) (hl:l.len<=maxLen) (hat:l.At w w.heap.size ao 0):
 Calls Tryz.prog 79 #[.slice ao l.len cap] w λe' w'=>e'= .returned (.bool (gy l))∧Below w.heap.size w w':=
 Bb l (bf.qG JI l) w ao cap hl hat
theorem RJ (p:Pr) (w:World) (aQ aR:Option Addr) (aJ aH:Nat) (hp:p.At w aQ aR):
 Calls Tryz.prog 46 #[.agg #[.slice aQ p.ds.length aJ,.slice aR p.ts.length aH]] w λe w'=>e= .returned (.bool (qZ p))∧Below w.heap.size w w':=by
 have HS:aj (qZ p=((p.ds.all jF&&p.ts.all pK)&&decide ((0:Int)<p.ts.length))):=ah rfl;generalize qZ p=res at *;have hld:=hp.1;have hlt:=hp.2.1;unfold maxLen at hld hlt;have HP:=ah hp;clear hp;go_enter Tryz.func46,Tryz.ntmps46;go_upto_region 1 with fail;generalize hW:World.alloc w _=W;generalize Value.agg #[_,_]=a0;have HX:=ah ((Sit.start w).yP rfl (.slice aQ p.ds.length aJ) (.slice aR p.ts.length aH) 52);rw[hW]at HX;clear hW;have hde:=(HP.o.same HX.o.1).2.2.1;go_wp2_with fail;go_loopw [3] (λs wr=> ∃(k:Nat) (R:List De),s= .int .i64 k∧k+R.length=p.ds.length∧p.ds.all jF=R.all jF∧jG wr wr.heap.size R aQ k∧Sit w wr [(w.heap.size,0,(.slice aQ p.ds.length aJ)),(w.heap.size,1,(.slice aR p.ts.length aH))]) (λs _=>p.ds.length -(intOf s).toNat)
 case atStart=>exact⟨0,p.ds,rfl,ahh,rfl,hde,HX.o⟩
 case round=>
  obtain⟨k,R,rfl,hlen,heq,hrow,hsit⟩:=hrel;have HZ:=ah hsit;have HE:=ah heq;clear hsit HX hde heq;obtain⟨c0,c1,-⟩:=HZ.o.cs;cases R with
  |cons d R=>
   obtain⟨⟨b,off,rfl,hB,x0,x1,x2,x3,x4,x5,hok⟩,hrest⟩:=hrow;simp only[aB]at hlen;have hkl:k<p.ds.length:=ahf
   have kK:=ah hok;clear hok;go_wp2_with fail;refine(LH d _ kK.o).mono ?_;rintro e' w2 ⟨rfl,hb2⟩;have HB3:=ah hb2;clear hb2 x0 x1 x2 x3 x4 x5 c0 c1;exact AaO
  |nil=>
   obtain rfl:k=p.ds.length:=afb
   rw[HE.o]at HS;have hth:=(HP.o.same HZ.o.1).2.2.2;clear HE hrow hlen;go_wp2_with fail;go_loopg [4,5,6] p.ts.length (λg s _ _ wr=> ∃(k:Nat) (R:List Th),g=R.length∧s= .int .i64 k∧k+R.length=p.ts.length∧p.ts.all pK=R.all pK∧iP wr wr.heap.size R aR k∧Sit w wr [(w.heap.size,0,(.slice aQ p.ds.length aJ)),(w.heap.size,1,(.slice aR p.ts.length aH))])
   case atStart=>exact⟨0,p.ts,rfl,rfl,ahh,rfl,hth,HZ.o⟩
   case round=>
    obtain⟨k,R,rfl,rfl,hlen,heq,hrow,hsit⟩:=hrel;have HU:=ah hsit;have HE:=ah heq;clear hsit HZ c0 c1 hth heq;obtain⟨c0,c1,-⟩:=HU.o.cs;cases R with
    |nil=>obtain rfl:k=p.ts.length:=afb;rw[HE.o]at HS;go_wp2_with fail;go_ret;exact⟨bZ (HS.o.trans ahh).symm,HU.o.1⟩
    |cons t R=>
     obtain⟨⟨b,off,iO,eF,dR,dA,rfl,hB,x0,x1,x2,x3,hok,htx,hst⟩,hrest⟩:=hrow;simp only[aB]at hlen;have hkl:k<p.ts.length:=ahf;have hll:=hok.2.2.1;have kK:=ah hok;have AB:=ah htx;have HST:=ah hst;unfold maxLen at hll;clear hok htx hst;go_upto_region 10 with fail;clear c0 c1;obtain⟨n2,hn2⟩: ∃n,wr.heap.size=n:=⟨_,rfl⟩;generalize hW2:World.alloc wr _=W2;have HB2:aj (Below wr.heap.size wr W2):=ah afl;have HV:aj (Sit w W2 ((n2,0,.string t.nm)::(n2,1,.int .i64 t.line)::(n2,2,.slice iO t.cZ.length eF)::(n2,3,.slice dR t.body.len dA)::[(w.heap.size,0,(.slice aQ p.ds.length aJ)),(w.heap.size,1,(.slice (some ⟨b,off,none⟩) p.ts.length aH))])):=ah ac7;rw[hn2];clear hW2 hn2 x0 x1 x2 x3;have hrow:=AB.o.same HB2.o;go_wp2_with fail;obtain⟨wo,rfl⟩: ∃wo:World,wo=wr:=⟨_,rfl⟩;go_loopw [6] (λs wr=> ∃(k:Nat) (R:List ByteArray),s= .int .i64 k∧k+R.length=t.cZ.length∧t.cZ.all (λs=>Tk.ji s.data.toList)=R.all (λs=>Tk.ji s.data.toList)∧fT wr wr.heap.size R iO k∧Below wo.heap.size wo wr∧Sit w wr ((n2,0,.string t.nm)::(n2,1,.int .i64 t.line)::(n2,2,.slice iO t.cZ.length eF)::(n2,3,.slice dR t.body.len dA)::[(w.heap.size,0,(.slice aQ p.ds.length aJ)),(w.heap.size,1,(.slice (some ⟨b,off,none⟩) p.ts.length aH))])) (λs _=>t.cZ.length -(intOf s).toNat)
     case atStart=>exact⟨0,t.cZ,rfl,ahh,rfl,hrow,HB2.o,HV.o⟩
     case round=>
      obtain⟨k',R',rfl,hlen',heq',hrow',hbo,OA⟩:=hrel;have HC:=ah OA;have EK:=ah hbo;have dP:=ah heq';clear OA HV hrow heq' hbo HB2;obtain⟨c0,c1,c2,c3,c4,c5,-⟩:=HC.o.cs;cases R' with
      |cons s R'=>
       obtain⟨⟨b',off',rfl,hB',y0,hs⟩,hrest'⟩:=hrow';simp only[aB]at hlen';have hkl':k'<t.cZ.length:=ahf;go_wp2_with fail;refine(jl _ _ hs).mono ?_;rintro e' w3 ⟨rfl,hb3⟩;have dL:=ah hb3;clear hb3 c0 c1 c2 c3 c4 c5 y0;exact Aaq
      |nil=>
       obtain rfl:k'=t.cZ.length:=afE;go_wp2_with fail;refine(jl _ _ kK.o.1).mono ?_;rintro e' w3 ⟨rfl,hb3⟩;have dL:=ah (EK.o.trans (hb3.mono EK.o.size));have HD:=ah (HC.o.next hb3);clear hb3 c0 c1 c2 c3 c4 c5 HC EK;cases hN:Tk.ji t.nm.data.toList
       ·rw[HE.o,List.all_cons,show pK t=false by unfold pK;rw[hN];rfl]at HS;go_wp2_with fail;go_ret;exact⟨bZ (HS.o.trans ahh).symm,HD.o.1⟩
       ·obtain⟨c0,c1,c2,c3,c4,c5,-⟩:=HD.o.cs;go_wp2_with fail;refine(JJ t.body _ _ _ kK.o.2.2.2 (HST.o.1.same dL.o)).mono ?_;rintro e' w4 ⟨rfl,hb4⟩;have iU:=ah (dL.o.trans (hb4.mono dL.o.size));have WI:=ah (HD.o.next hb4);clear hb4 c0 c1 c2 c3 c4 c5;have HT:aj (pK t=gy t.body):=ah (by unfold pK;rw[hN,dP.o];rfl);cases Kk:gy t.body
        ·rw[HE.o,List.all_cons,HT.o,Kk]at HS;go_wp2_with fail;go_ret;exact⟨bZ (HS.o.trans ahh).symm,WI.o.1⟩
        ·have HF:=ah (HE.o.trans (by rw[List.all_cons,HT.o,Kk];rfl:_=R.all pK));go_wp2_with fail;go_roundg R.length
         case measure=>simp
         case rel=>exact⟨k+1,R,rfl,ahj,ahf,HF.o,hrest.same iU.o,HU.o.next iU.o⟩
end Go.Proofs.YtcjgfgkllmldpaaGreatDoor
