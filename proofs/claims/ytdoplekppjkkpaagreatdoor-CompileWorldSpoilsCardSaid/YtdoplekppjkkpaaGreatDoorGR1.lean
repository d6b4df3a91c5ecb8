/- Contracts of the reference's want, Nodes, names, Expr. And what hangs on it. -/
import Derived.Test.YtdoplekppjkkpaaGreatDoorGR0
import Derived.Test.YtdoplekppjkkpaaGreatDoorGMJ
set_option linter.unusedSimpArgs false
set_option linter.unusedVariables false
set_option maxHeartbeats 40000000
set_option maxRecDepth 1000000
namespace Go.Proofs.YtdoplekppjkkpaaGreatDoor
open Go.RowKit
open Md
theorem jo (p:Pr) (i:Int) (nm:ByteArray) (a b:Int) (w:World) (aK aM:Option Addr) (aH aG:Nat) (hi:bY i) (hp:p.At w aK aM):
 Calls Tryz.prog 75 #[.agg #[.slice aK p.ds.length aH,.slice aM p.ts.length aG],.int .i64 i,.string nm,.int .i64 a,.int .i64 b] w λe w'=>e= .returned (.int .i64 (gN (conv (mean p i nm)) a b))∧Below w.heap.size w w':=by
 have HP:=ah hp;clear hp;go_enter Tryz.func75,Tryz.ntmps75;go_wp2_with fail;refine(V7 p i nm _ aK aM aH aG hi (HP.o.same (ak _ _))).mono ?_;rintro e w2 ⟨rfl,hb2⟩;have HB:=ah ((ak w (.cells #[.slice aK p.ds.length aH,.slice aM p.ts.length aG] 35)).trans (hb2.mono agJ));clear hb2;have HE:aj (gN (conv (mean p i nm)) a b=if conv (mean p i nm)==0 then 5 else if(conv (mean p i nm) != a)&&(conv (mean p i nm) != b)then 6 else 0):=ah rfl;generalize hmm:conv (mean p i nm)=m at *;have HM:=ah hmm;clear hmm;go_wp2_with fail
 all_goals go_ret
 all_goals refine⟨bV ?_,HB.o⟩
 all_goals rw[HM.o,HE.o]
 all_goals (go_light;grind)
def J2 (op n:Int) (nm:ByteArray) (kids:bT):Prop:=
 ∀(w:World) (ao:Option Addr) (cap:Nat),qW op n nm kids->kids.At w w.heap.size ao 0->
  Calls Tryz.prog 109 #[.agg #[.int .i64 op,.int .i64 n,.string nm,.slice ao kids.len cap]] w λe w'=>e= .returned (.tuple #[.int .i64 (ext kids).1,.int .i64 (ext kids).2])∧Below w.heap.size w w'
theorem V8 (op n:Int) (nm:ByteArray) (kids:bT) (ih:kids.All J2):J2 op n nm kids:=by
 intro w ao cap hok hat;obtain⟨-,-,-,hl⟩:=hok;unfold maxLen at hl;have rG:=ah ih;have HAT:=ah hat;clear ih hat;go_enter Tryz.func109,Tryz.ntmps109;go_upto_region 2 with fail;generalize hW:World.alloc w _=W;generalize Value.agg #[_,_,_,_]=a0;have HX:=ah ((Sit.start w).Ac rfl (.int .i64 op) (.int .i64 n) (.string nm) (.slice ao kids.len cap) 72);rw[hW]at HX;clear hW;go_wp2_with fail;go_loopw [4,5,6,7,8] (λs4 s5 s _ _ wr=> ∃(k:Nat) (R:bT) (a d:Int),s= .int .i64 k∧s4= .int .i64 a∧s5= .int .i64 d∧k+R.len=kids.len∧CS kids 1 0=CS R a d∧R.All J2∧R.At wr wr.heap.size ao k∧Sit w wr [(w.heap.size,0,.int .i64 op),(w.heap.size,1,.int .i64 n),(w.heap.size,2,.string nm),(w.heap.size,3,.slice ao kids.len cap)]) (λ_ _ s _ _ _=>kids.len -(intOf s).toNat)
 case atStart=>exact⟨0,kids,1,0,rfl,rfl,rfl,agJ,rfl,rG.o,HAT.o.same HX.o.1,HX.o⟩
 case round=>
  obtain⟨k,R,a,d,rfl,rfl,rfl,hlen,heq,hall,hrow,hB⟩:=hrel;have HE:=ah heq;have HY:=ah hB;clear heq hB HX;obtain⟨-,⟨-,c0⟩,⟨-,c1⟩,⟨-,c2⟩,⟨-,c3⟩,-⟩:=HY.o;cases R with
  |nil=>
   obtain rfl:k=kids.len:=afk
   go_wp2_with fail
   go_ret2
   exact⟨jN (ext_nil HE.o).1 (ext_nil HE.o).2,HY.o.1⟩
  |cons op' n' nm' iw rest=>
   obtain⟨⟨b,off,mh,cap',rfl,lV,x0,x1,x2,x3,hok',lW⟩,hrest⟩:=hrow;obtain⟨kN,pG⟩:=hall;have hlt:k<kids.len:=acB
   go_wp2_with fail;refine(kN _ _ _ hok' lW).mono ?_;rintro e w2 ⟨rfl,hb2⟩;have HB3:=ah hb2;clear hb2 x0 x1 x2 x3 c0 c1 c2 c3 lW;go_wp2_with fail;go_roundw
   case rel=>exact⟨k+1,rest,_,_,agL,rfl,rfl,acB,HE.o,pG,hrest.same HB3.o,HY.o.next HB3.o⟩
   case measure=>simp[intOf];omega
theorem Ql (op n:Int) (nm:ByteArray) (kids:bT):J2 op n nm kids:=bT.AX V8 op n nm kids
def BO (p:Pr) (i:Int) (op n:Int) (nm:ByteArray) (kids:bT):Prop:=
 ∀(w:World) (aK aM ao:Option Addr) (aH aG cap:Nat),bY i->p.At w aK aM->qW op n nm kids->kids.At w w.heap.size ao 0->
  Calls Tryz.prog 110 #[.agg #[.slice aK p.ds.length aH,.slice aM p.ts.length aG],.int .i64 i,.agg #[.int .i64 op,.int .i64 n,.string nm,.slice ao kids.len cap]] w λe w'=>e= .returned (.int .i64 (yc p i op nm kids))∧Below w.heap.size w w'
theorem OM (p:Pr) (i:Int) (op n:Int) (nm:ByteArray) (kids:bT) (ih:kids.All (BO p i)):BO p i op n nm kids:=by
 intro w aK aM ao aH aG cap hi hp hok hat;obtain⟨-,-,-,hl⟩:=hok;unfold maxLen at hl;have rG:=ah ih;have HAT:=ah hat;have HP:=ah hp;clear ih hat hp;go_enter Tryz.func110,Tryz.ntmps110;go_upto_region 1 with fail;generalize hW:World.alloc (World.alloc w _) _=W;generalize Value.agg #[_,_]=a0;generalize Value.agg #[_,_,_,_]=a1;have HX:=ah (((Sit.start w).xV rfl (.slice aK p.ds.length aH) (.slice aM p.ts.length aG) 35).Ac (n:=w.heap.size+1) agJ (.int .i64 op) (.int .i64 n) (.string nm) (.slice ao kids.len cap) 72);rw[hW]at HX;clear hW;obtain⟨-,⟨-,c0⟩,⟨-,c1⟩,⟨-,c2⟩,⟨-,c3⟩,⟨-,c4⟩,⟨-,c5⟩,-⟩:=HX.o;go_upto_block 0 with(fail);go_cut [7,10] (λs7 _ W2=>s7= .int .i64 (qO p i op nm)∧Sit w W2 [(w.heap.size+1,0,.int .i64 op),(w.heap.size+1,1,.int .i64 n),(w.heap.size+1,2,.string nm),(w.heap.size+1,3,.slice ao kids.len cap),(w.heap.size,0,.slice aK p.ds.length aH),(w.heap.size,1,.slice aM p.ts.length aG)])
 case first=>
  cases h2:(op==2)
  ·cases h3:(op==3)
   ·have HE:aj (qO p i op nm=0):=ah afZ;go_wp2_with fail;go_meet;exact⟨ahU,HX.o⟩
   ·have HE:aj (qO p i op nm=gN (conv (mean p i nm)) 2 2):=ah (by unfold qO;rw[h2,h3];exact(Sb _ 3 (BX p i nm) agI).symm);go_wp2_with fail;refine(jo p i nm 2 2 _ aK aM aH aG hi (HP.o.same HX.o.1)).mono ?_;rintro e w2 ⟨rfl,hb2⟩;go_wp2_with fail;go_meet;exact⟨ahU,HX.o.next hb2⟩
  ·have HE:aj (qO p i op nm=gN (conv (mean p i nm)) 8 1):=ah (by unfold qO;rw[h2];exact(Sc _ 1 2 (BX p i nm) agI agI).symm);go_wp2_with fail;refine(jo p i nm 8 1 _ aK aM aH aG hi (HP.o.same HX.o.1)).mono ?_;rintro e w2 ⟨rfl,hb2⟩;go_wp2_with fail;go_meet;exact⟨ahU,HX.o.next hb2⟩
 case rest=>
  obtain⟨rfl,hX⟩:=hcut;have HY:=ah hX;clear hX HX c0 c1 c2 c3 c4 c5;have HR:aj (yc p i op nm kids=if qO p i op nm==0 then vS p i kids else qO p i op nm):=ah rfl;generalize qO p i op nm=r0 at *;go_wp2_with fail;go_loopw [7,8] (λs7 s8 wr=> ∃(k:Nat) (R:bT) (r:Int),s8= .int .i64 k∧s7= .int .i64 r∧k+R.len=kids.len∧yc p i op nm kids=(if r==0 then vS p i R else r)∧R.All (BO p i)∧R.At wr wr.heap.size ao k∧Sit w wr [(w.heap.size+1,0,.int .i64 op),(w.heap.size+1,1,.int .i64 n),(w.heap.size+1,2,.string nm),(w.heap.size+1,3,.slice ao kids.len cap),(w.heap.size,0,.slice aK p.ds.length aH),(w.heap.size,1,.slice aM p.ts.length aG)]) (λ_ s _=>kids.len -(intOf s).toNat)
  case atStart=>exact⟨0,kids,r0,rfl,rfl,agJ,HR.o,rG.o,HAT.o.same HY.o.1,HY.o⟩
  case round=>
   obtain⟨k,R,r,rfl,rfl,hlen,heq,hall,hrow,hsit⟩:=hrel;have HE:=ah heq;have HZ:=ah hsit;clear heq hsit;obtain⟨-,⟨-,c0⟩,⟨-,c1⟩,⟨-,c2⟩,⟨-,c3⟩,⟨-,c4⟩,⟨-,c5⟩,-⟩:=HZ.o;cases R with
   |nil=>obtain rfl:k=kids.len:=afk;go_wp2_with fail;go_ret;exact⟨bV (HE.o.trans aef).symm,HZ.o.1⟩
   |cons op' n' nm' iw rest=>
    obtain⟨⟨b,off,mh,cap',rfl,lV,x0,x1,x2,x3,hok',lW⟩,hrest⟩:=hrow;obtain⟨kN,pG⟩:=hall;have hlt:k<kids.len:=acB;cases hr:(r==0)
    ·have dG:=ah (HE.o.trans (by rw[hr];rfl:_=r));go_wp2_with fail;go_ret;exact⟨bV dG.o.symm,HZ.o.1⟩
    ·have dG:=ah (HE.o.trans (by rw[hr];rfl:_=vS p i (.cons op' n' nm' iw rest)));go_wp2_with fail;obtain⟨T,F,Ah,hst,hF,hnext⟩:=calm wr;have HF:=ah hF;have dh:=ah hnext;clear hnext hF;have d0:=λx=>(HZ.o.next (HF.o x)).2.1.2;have d1:=λx=>(HZ.o.next (HF.o x)).2.2.1.2;have d2:=λx=>(HZ.o.next (HF.o x)).2.2.2.1.2;have d3:=λx=>(HZ.o.next (HF.o x)).2.2.2.2.1.2;have d4:=λx=>(HZ.o.next (HF.o x)).2.2.2.2.2.1.2;have d5:=λx=>(HZ.o.next (HF.o x)).2.2.2.2.2.2.1.2;have y0:=λx=>((HF.o x).cell (p:=⟨b,off+k*4,none⟩) lV).trans x0;have y1:=λx=>((HF.o x).cell (p:=⟨b,off+k*4+1,none⟩) lV).trans x1;have y2:=λx=>((HF.o x).cell (p:=⟨b,off+k*4+2,none⟩) lV).trans x2;have y3:=λx=>((HF.o x).cell (p:=⟨b,off+k*4+3,none⟩) lV).trans x3;clear c0 c1 c2 c3 c4 c5 x0 x1 x2 x3;have hk0:(0:Int)<=k:=agH;have hk1:(k:Int)<kids.len:=agH;refine iI F agG agG hst ?_
     repeat (any_goals (first|go_big_quiet_step ((go_at_call 110;refine(kN _ aK aM mh aH aG cap' hi ((HP.o.same HZ.o.1).same (HF.o _)) hok' (lW.same (HF.o _))).mono ?_;rintro e w' ⟨rfl,hb⟩;exact⟨rfl,dh.o _ _ hb⟩))|(refine wpQuiet_step (λK hK=> ?_);go_simp;first|(refine hK _ ?_;clear hK K)|(split <;> first|(refine hK _ ?_;clear hK K)|(apply Exists.intro;refine⟨λ_=> ?_,hK _ ?_⟩;((go_at_call 110;refine(kN _ aK aM mh aH aG cap' hi ((HP.o.same HZ.o.1).same (HF.o _)) hok' (lW.same (HF.o _))).mono ?_;rintro e w' ⟨rfl,hb⟩;exact⟨rfl,dh.o _ _ hb⟩));clear hK K)))))
     all_goals (refine wpQuiet_nil ?_;rintro _ ⟨x,rfl⟩)
     have HB2:=ah (HF.o x);clear d0 d1 d2 d3 d4 d5 y0 y1 y2 y3 HF dh hst;generalize F x=W2 at *;go_wp2_with fail;go_roundw
     case rel=>exact⟨k+1,rest,_,agL,rfl,acB,dG.o.trans (Ox p i op' n' nm' iw rest),pG,hrest.same HB2.o,HZ.o.next HB2.o⟩
     case measure=>simp[intOf];omega
theorem Qk (p:Pr) (i:Int) (op n:Int) (nm:ByteArray) (kids:bT):BO p i op n nm kids:=bT.AX (OM p i) op n nm kids
theorem jE (p:Pr) (i:Int) (op n:Int) (nm:ByteArray) (kids:bT) (w:World) (aK aM ao:Option Addr) (aH aG cap:Nat) (hi:bY i) (hp:p.At w aK aM) (hok:qW op n nm kids) (hat:kids.At w w.heap.size ao 0):
 Calls Tryz.prog 76 #[.agg #[.slice aK p.ds.length aH,.slice aM p.ts.length aG],.int .i64 i,.agg #[.int .i64 op,.int .i64 n,.string nm,.slice ao kids.len cap]] w λe w'=>e= .returned (.int .i64 (lU p i op n nm kids))∧Below w.heap.size w w':=by
 have HAT:=ah hat;have HP:=ah hp;clear hat hp;go_enter Tryz.func76,Tryz.ntmps76;go_upto_region 1 with fail;generalize hW:World.alloc (World.alloc w _) _=W;generalize Value.agg #[_,_]=a0;generalize Value.agg #[_,_,_,_]=a1;have HX:=ah (((Sit.start w).xV rfl (.slice aK p.ds.length aH) (.slice aM p.ts.length aG) 35).Ac (n:=w.heap.size+1) agJ (.int .i64 op) (.int .i64 n) (.string nm) (.slice ao kids.len cap) 72);rw[hW]at HX;clear hW;obtain⟨-,⟨-,c0⟩,⟨-,c1⟩,⟨-,c2⟩,⟨-,c3⟩,⟨-,c4⟩,⟨-,c5⟩,-⟩:=HX.o;go_wp2_with fail;refine(wZ op n nm kids _ ao cap hok (HAT.o.same HX.o.1)).mono ?_;rintro e w1 ⟨rfl,hb1⟩;have HY:=ah (HX.o.next hb1);clear HX hb1 c0 c1 c2 c3 c4 c5;obtain⟨-,⟨-,c0⟩,⟨-,c1⟩,⟨-,c2⟩,⟨-,c3⟩,⟨-,c4⟩,⟨-,c5⟩,-⟩:=HY.o;cases hS:jW op n nm kids
 ·have HE:aj (lU p i op n nm kids=3):=ah afM;go_wp2_with fail;go_ret;exact⟨bV HE.o.symm,HY.o.1⟩
 ·have HE:aj (lU p i op n nm kids=if decide (24<(ext kids).1)||decide (6<(ext kids).2)then 2 else yc p i op nm kids):=ah afM;go_wp2_with fail;refine(Ql op n nm kids _ ao cap hok (HAT.o.same HY.o.1)).mono ?_;rintro e w2 ⟨rfl,hb2⟩;have HZ:=ah (HY.o.next hb2);clear HY hb2 c0 c1 c2 c3 c4 c5;obtain⟨-,⟨-,c0⟩,⟨-,c1⟩,⟨-,c2⟩,⟨-,c3⟩,⟨-,c4⟩,⟨-,c5⟩,-⟩:=HZ.o;generalize (ext kids).1=a at *;generalize (ext kids).2=d at *;cases h1:decide (24<a)
  ·cases h2:decide (6<d)
   ·have dG:=ah (HE.o.trans (by rw[h1,h2];rfl:_=yc p i op nm kids));have q1:a<=24:=agO;have q2:d<=6:=agQ;go_wp2_with fail;refine(Qk p i op n nm kids _ aK aM ao aH aG cap hi (HP.o.same HZ.o.1) hok (HAT.o.same HZ.o.1)).mono ?_;rintro e w3 ⟨rfl,hb3⟩;go_wp2_with fail;go_ret;exact⟨bV dG.o.symm,(HZ.o.next hb3).1⟩
   ·have dG:=ah (HE.o.trans (if_pos (by rw[h1,h2];rfl)));have q1:a<=24:=agO;have q2:6<d:=agQ;go_wp2_with fail;go_ret;exact⟨bV dG.o.symm,HZ.o.1⟩
  ·have dG:=ah (HE.o.trans (if_pos ahs));have q1:24<a:=by simpa using h1
   go_wp2_with fail;go_ret;exact⟨bV dG.o.symm,HZ.o.1⟩
theorem O1 (ds:List De) (nm:ByteArray):(Ab ds nm= -1∧oo ds nm.toList=false)∨∃j:Nat,Ab ds nm=(j:Int)∧oo ds nm.toList=true:=by
 rcases pW (λd:De=>d.nm.toList==nm.toList) ds 0 with⟨h1,h2,h3⟩|⟨j,d,r,h0,h1,h2,h3,h4⟩
 ·exact Or.inl ⟨h1,h3⟩
 ·exact Or.inr ⟨j,agt,h4⟩
theorem O4 (ts:List Th) (nm:ByteArray):(qE ts nm= -1∧nP ts nm.toList=false)∨∃j:Nat,qE ts nm=(j:Int)∧nP ts nm.toList=true:=by
 rcases pW (λd:Th=>d.nm.toList==nm.toList) ts 0 with⟨h1,h2,h3⟩|⟨j,d,r,h0,h1,h2,h3,h4⟩
 ·exact Or.inl ⟨h1,h3⟩
 ·exact Or.inr ⟨j,agt,h4⟩
theorem Hq (ts:List ByteArray) (nm:ByteArray):(K6 ts nm= -1∧nN ts nm.toList=false)∨∃j:Nat,K6 ts nm=(j:Int)∧nN ts nm.toList=true:=by
 rcases pW (λd:ByteArray=>d.toList==nm.toList) ts 0 with⟨h1,h2,h3⟩|⟨j,d,r,h0,h1,h2,h3,h4⟩
 ·exact Or.inl ⟨h1,h3⟩
 ·exact Or.inr ⟨j,agt,h4⟩
theorem MH (p:Pr) (w:World) (aK aM:Option Addr) (aH aG:Nat) (hp:p.At w aK aM) (JM:p.ts.length<=aG):
 Calls Tryz.prog 29 #[.agg #[.slice aK p.ds.length aH,.slice aM p.ts.length aG]] w λe w'=>e= .returned (.tuple #[.int .i64 (lM p).1,.int .i64 (lM p).2])∧Below w.heap.size w w':=by
 have HR:aj (lM p=match wC p.ds p.ts []with|some l=>(4,l)|none=>Bj p.ds p.ts p.ts):=ah rfl;generalize lM p=res at *;have hld:=hp.1;have hlt:=hp.2.1;have VA:=hp.1;have hlt':=hp.2.1;unfold maxLen at hld hlt;have HP:=ah hp;clear hp;go_enter Tryz.func29,Tryz.ntmps29;go_upto_region 1 with fail;generalize hW:World.alloc w _=W;generalize Value.agg #[_,_]=a0;have HX:=ah ((Sit.start w).xV rfl (.slice aK p.ds.length aH) (.slice aM p.ts.length aG) 35);rw[hW]at HX;clear hW;go_wp2_with fail;go_loopg [4,5] p.ts.length (λg s _ wr=> ∃(k:Nat) (pre R:List Th),g=R.length∧s= .int .i64 k∧pre++R=p.ts∧pre.length=k∧wC p.ds p.ts []=wC p.ds R pre∧Sit w wr [(w.heap.size,0,(.slice aK p.ds.length aH)),(w.heap.size,1,(.slice aM p.ts.length aG))])
 case atStart=>exact⟨0,[],p.ts,rfl,rfl,rfl,rfl,rfl,HX.o⟩
 case round=>
  obtain⟨k,pre,R,rfl,rfl,hds,hk,heq,hsit⟩:=hrel;have HU:=ah hsit;have HE:=ah heq;clear hsit heq HX;have hlen:k+R.length=p.ts.length:=afx
  have hrow:=(HP.o.2.2.2.below HU.o.1).drop k;rw[aU,<- hds,<- hk,List.drop_left]at hrow;rw[hk]at hrow;have yA:=ah ((hds ▸ HP.o.2.2.2:iG w w.heap.size (pre++R) aM 0).take);have rP:=ah hds;have HK:=ah hk;clear hds hk;cases R with
  |cons t R=>
   obtain⟨⟨b,off,iU,eU,dB,cu,rfl,hB,x0,x1,x2,x3,hok,htx,hst⟩,-⟩:=hrow;simp only[aD]at hlen;have hkl:k<p.ts.length:=agH
   clear htx hst;obtain⟨-,⟨-,c0⟩,⟨-,c1⟩,-⟩:=HU.o;go_upto_region 5 with fail;clear c0 c1;obtain⟨nb,hnb⟩: ∃n,wr.heap.size=n:=⟨_,rfl⟩;generalize hW2:World.alloc wr _=W2;have HY:aj (Sit w W2 ((nb,0,.string t.nm)::(nb,1,.int .i64 t.line)::(nb,2,.slice iU t.cZ.length eU)::(nb,3,.slice dB t.body.len cu)::[(w.heap.size,0,(.slice aK p.ds.length aH)),(w.heap.size,1,(.slice (some ⟨b,off,none⟩) p.ts.length aG))])):=ah (by rw[<- hW2];exact HU.o.Ac hnb _ _ _ _ _);rw[hnb];clear hW2 hnb x0 x1 x2 x3 HU;obtain⟨-,⟨-,c0⟩,⟨-,c1⟩,⟨-,c2⟩,⟨-,c3⟩,⟨-,c4⟩,⟨-,c5⟩,-⟩:=HY.o;have hpl:pre.length<=maxLen:=ahR
   have yV:aj (∀nq:Nat,Calls Tryz.prog 47 #[.slice aK p.ds.length aH,.string t.nm] (W2.drewN nq) λe w'=>e= .returned (.int .i64 (Ab p.ds t.nm))∧W2.drewN nq=w'):=ah (λnq=>by have hb':=below_drewN (n:=nq) HY.o.1;exact oP p.ds t.nm (W2.drewN nq) aK aH VA ((HP.o.2.2.1.below hb').mono hb'.size));have Jw:aj (∀nq:Nat,Calls Tryz.prog 48 #[.slice (some ⟨b,off,none⟩) k aG,.string t.nm] (W2.drewN nq) λe w'=>e= .returned (.int .i64 (qE pre t.nm))∧W2.drewN nq=w'):=ah (λnq=>by have hb':=below_drewN (n:=nq) HY.o.1;have:=jk pre t.nm (W2.drewN nq) (some ⟨b,off,none⟩) aG hpl ((yA.o.below hb').mono hb'.size);rw[HK.o]at this;exact this);have hk0:(0:Int)<=k:=agH
   have hk1:(k:Int)<=aG:=agH
   have hk2:k<=aG:=agH
   go_cut [37] (λs' W3=>s'= .bool (oo p.ds t.nm.toList||nP pre t.nm.toList)∧Sit w W3 ((nb,0,.string t.nm)::(nb,1,.int .i64 t.line)::(nb,2,.slice iU t.cZ.length eU)::(nb,3,.slice dB t.body.len cu)::[(w.heap.size,0,(.slice aK p.ds.length aH)),(w.heap.size,1,(.slice (some ⟨b,off,none⟩) p.ts.length aG))]))
   case first=>
    as_aux_lemma=>
     rcases O1 p.ds t.nm with⟨e1,e2⟩|⟨j,e1,e2⟩
     ·rw[e1]at yV;rcases O4 pre t.nm with⟨e3,e4⟩|⟨j',e3,e4⟩
      all_goals rw[e3]at Jw;have HF:=ah e2;have HG:=ah e4;clear e1 e2 e3 e4;go_quiet (first|(go_at_call 47;exact oQ (yV.o _))|(go_at_call 48;exact oQ (Jw.o _)));go_wp2_with fail;go_meet;exact⟨by rw[HF.o,HG.o];rfl,HY.o.draws _⟩
     ·rw[e1]at yV;have HF:=ah e2;have hj:decide ((j:Int) ≥ 0)=true:=agJ;clear e1 e2;go_quiet (first|(go_at_call 47;exact oQ (yV.o _))|(go_at_call 48;exact oQ (Jw.o _)));go_wp2_with fail;go_meet;exact⟨by rw[HF.o];rfl,HY.o.draws _⟩
   obtain⟨rfl,hX⟩:=hcut;have HZ:=ah hX;have HB3:=ah hX.1;clear hX HY yV Jw c0 c1 c2 c3 c4 c5;cases vN:(oo p.ds t.nm.toList||nP pre t.nm.toList)
   ·have dG:=ah (HE.o.trans (if_neg (by rw[vN];decide)));go_wp2_with fail;go_roundg R.length
    case measure=>simp
    case rel=>exact⟨k+1,pre++[t],R,rfl,agL,acC,afn,dG.o,⟨HZ.o.1,HZ.o.2.2.2.2.2⟩⟩
   ·have HF:aj (res=(4,t.line)):=ah (HR.o.trans aeL);obtain⟨-,⟨-,c0⟩,⟨-,c1⟩,⟨-,c2⟩,⟨-,c3⟩,⟨-,c4⟩,⟨-,c5⟩,-⟩:=HZ.o;exact Aaw
  |nil=>
   obtain rfl:k=p.ts.length:=aeQ
   have HR2:aj (res=Bj p.ds p.ts p.ts):=ah (HR.o.trans ahb);clear hrow hlen rP HK HE HR yA;have hth:=HP.o.2.2.2.below HU.o.1;obtain⟨-,⟨-,c0⟩,⟨-,c1⟩,-⟩:=HU.o;go_wp2_with fail;go_loopg [6,7,8,9] p.ts.length (λg s _ _ _ wr=> ∃(k:Nat) (R:List Th),g=R.length∧s= .int .i64 k∧k+R.length=p.ts.length∧Bj p.ds p.ts p.ts=Bj p.ds p.ts R∧iG wr w.heap.size R aM k∧Sit w wr [(w.heap.size,0,(.slice aK p.ds.length aH)),(w.heap.size,1,(.slice aM p.ts.length aG))])
   case atStart=>exact⟨0,p.ts,rfl,rfl,agJ,rfl,hth,HU.o⟩
   case round=>
    obtain⟨k,R,rfl,rfl,hlen,heq,hrow,hsit⟩:=hrel;have HV:=ah hsit;have HE:=ah (HR2.o.trans heq);have GA:=ah heq;clear hsit HU c0 c1 heq hth;obtain⟨-,⟨-,c0⟩,⟨-,c1⟩,-⟩:=HV.o;cases R with
    |nil=>
     obtain rfl:k=p.ts.length:=aeQ;have HF:=ah (HE.o.trans (rfl:_=((0:Int),(0:Int))));go_wp2_with fail
     go_ret2
     exact⟨jN (congrArg Prod.fst HF.o) (congrArg Prod.snd HF.o),HV.o.1⟩
    |cons t R=>
     obtain⟨⟨b,off,iU,eU,dB,cu,rfl,hB,x0,x1,x2,x3,hok,htx,hst⟩,hrest⟩:=hrow;simp only[aD]at hlen;have hkl:k<p.ts.length:=agH;have bO5:=hok.2.2.1;have hll:=hok.2.2.1;have hcl:=hst.2;unfold maxLen at hll;clear hst hok;go_upto_region 11 with fail;clear c0 c1;obtain⟨nb,hnb⟩: ∃n,wr.heap.size=n:=⟨_,rfl⟩;generalize hW2:World.alloc wr _=W2;have HY:aj (Sit w W2 ((nb,0,.string t.nm)::(nb,1,.int .i64 t.line)::(nb,2,.slice iU t.cZ.length eU)::(nb,3,.slice dB t.body.len cu)::[(w.heap.size,0,(.slice aK p.ds.length aH)),(w.heap.size,1,(.slice (some ⟨b,off,none⟩) p.ts.length aG))])):=ah (by rw[<- hW2];exact HV.o.Ac hnb _ _ _ _ _);have yt:aj (Below wr.heap.size wr W2):=ah afb;have zW:=ah (htx.below (yt.o.mono HV.o.1.size));have kL:=ah (hrest.below (yt.o.mono HV.o.1.size));have HB3:=ah HY.o.1;rw[hnb];clear hW2 hnb x0 x1 x2 x3 HV htx hrest yt;obtain⟨-,⟨-,c0⟩,⟨-,c1⟩,⟨-,c2⟩,⟨-,c3⟩,⟨-,c4⟩,⟨-,c5⟩,-⟩:=HY.o;cases h1:decide ((4:Int)<t.cZ.length)
     case true=>
      as_aux_lemma=>
       have HF:=ah (HE.o.trans (if_pos h1));have h1':4<t.cZ.length:=afQ;clear h1;go_wp2_with fail;go_quiet (fail);go_wp2_with fail
       go_ret2
       exact⟨jN (congrArg Prod.fst HF.o) (congrArg Prod.snd HF.o),below_drewN HB3.o _⟩
     have HE2:=ah (HE.o.trans (if_neg agW));have kU:=ah (GA.o.trans (if_neg agW));have h1':t.cZ.length<=4:=afQ;clear HE GA h1;go_wp2_with fail;go_loopg [8,9] t.cZ.length (λg s _ wx=>W2=wx∧∃(k':Nat) (pre R':List ByteArray),g=R'.length∧s= .int .i64 k'∧pre++R'=t.cZ∧pre.length=k'∧uD p.ds p.ts t.cZ []=uD p.ds p.ts R' pre)
     case atStart=>exact⟨rfl,0,[],t.cZ,rfl,rfl,rfl,rfl,rfl⟩
     case round=>
      obtain⟨rfl,k',pre,R',rfl,rfl,hds,hk',heq'⟩:=hrel;have dG:=ah heq';have hlen':k'+R'.length=t.cZ.length:=(by rw[<- hds,aA,hk']);have hrow:=zW.o.drop k';rw[aU,<- hds,<- hk',List.drop_left]at hrow;rw[hk']at hrow;have yA:=ah ((hds ▸ zW.o:fP W2 w.heap.size (pre++R') iU 0).take);have rP:=ah hds;have HK:=ah hk';clear hds hk' heq';cases R' with
      |nil=>
       obtain rfl:k'=t.cZ.length:=afs;have HF:=ah (kU.o.trans (if_neg (by rw[dG.o];simp[uD])));go_wp2_with fail;go_roundg R.length
       case measure=>simp
       case rel=>exact⟨k+1,R,rfl,agL,agH,HF.o,kL.o,⟨HY.o.1,HY.o.2.2.2.2.2⟩⟩
      |cons s R'=>
       obtain⟨⟨b',off',rfl,hB',y0,hs⟩,-⟩:=hrow;simp only[aD]at hlen';have hkl':k'<t.cZ.length:=agH;have HL:aj (uD p.ds p.ts t.cZ []=((oo p.ds s.toList||nP p.ts s.toList)||nN pre s.toList||uD p.ds p.ts R' (pre++[s]))):=ah (dG.o.trans (by rw[uD]));have hpl:pre.length<=maxLen:=ahR;have yV:=ah (oP p.ds s W2 aK aH VA ((HP.o.2.2.1.below HY.o.1).mono HY.o.1.size));have Jw:=ah (jk p.ts s W2 (some ⟨b,off,none⟩) aG hlt' ((HP.o.2.2.2.below HY.o.1).mono HY.o.1.size));have JC:=ah (nH pre s W2 (some ⟨b',off',none⟩) eU hpl (yA.o.mono HY.o.1.size));rw[HK.o]at JC;have hk0:(0:Int)<=k':=agH;have hk1:(k':Int)<=eU:=agH;have hk2:k'<=eU:=agH;clear dG;go_upto_region 17 with fail;go_cut [90] (λs' W3=>W2=W3∧s'= .bool ((oo p.ds s.toList||nP p.ts s.toList)||nN pre s.toList))
       case first=>
        as_aux_lemma=>
         rcases O1 p.ds s with⟨e1,e2⟩|⟨j,e1,e2⟩
         ·rcases O4 p.ts s with⟨e3,e4⟩|⟨j,e3,e4⟩
          ·rcases Hq pre s with⟨e5,e6⟩|⟨j,e5,e6⟩
           all_goals rw[e1]at yV;rw[e3]at Jw;rw[e5]at JC;have HF:aj (oo p.ds s.toList=false∧nP p.ts s.toList=false∧nN pre s.toList=_):=ah ⟨e2,e4,e6⟩;clear e1 e2 e3 e4 e5 e6;go_wp2_with (first|(go_at_call 47;refine yV.o.mono ?_;rintro e w' ⟨rfl,rfl⟩)|(go_at_call 48;refine Jw.o.mono ?_;rintro e w' ⟨rfl,rfl⟩)|(go_at_call 23;refine JC.o.mono ?_;rintro e w' ⟨rfl,rfl⟩));go_meet;exact⟨rfl,by rw[HF.o.1,HF.o.2.1,HF.o.2.2];rfl⟩
          ·rw[e1]at yV;rw[e3]at Jw;have HF:aj (oo p.ds s.toList=false∧nP p.ts s.toList=true):=ah ⟨e2,e4⟩;clear e1 e2 e3 e4;go_wp2_with (first|(go_at_call 47;refine yV.o.mono ?_;rintro e w' ⟨rfl,rfl⟩)|(go_at_call 48;refine Jw.o.mono ?_;rintro e w' ⟨rfl,rfl⟩));go_meet;exact⟨rfl,by rw[HF.o.1,HF.o.2];rfl⟩
         ·rw[e1]at yV;have HF:=ah e2;clear e1 e2;go_wp2_with (go_at_call 47;refine yV.o.mono ?_;rintro e w' ⟨rfl,rfl⟩);go_meet;exact⟨rfl,by rw[HF.o];rfl⟩
       obtain⟨rfl,rfl⟩:=hcut;clear yV Jw JC;cases vN:((oo p.ds s.toList||nP p.ts s.toList)||nN pre s.toList)
       ·have HF:aj (uD p.ds p.ts t.cZ []=uD p.ds p.ts R' (pre++[s])):=ah (HL.o.trans (by rw[vN];rfl));go_wp2_with fail;go_roundg R'.length
        case measure=>simp
        case rel=>exact⟨rfl,k'+1,pre++[s],R',rfl,agL,acC,afn,HF.o⟩
       ·have HF:=ah (HE2.o.trans (if_pos (by rw[HL.o,vN];rfl)));exact Aaw
def A8 (l:aZ):Prop:= ∀(w:World) (ao:Option Addr) (cap:Nat),l.len<=maxLen->l.At w w.heap.size ao 0->
 Calls Tryz.prog 30 #[.slice ao l.len cap] w λe w'=>e= .returned (.int .i64 (Fz l))∧Below w.heap.size w w'
theorem Ef (l:aZ) (hall:l.All λ_ b e=>A8 b∧A8 e):A8 l:=by
 intro w ao cap hl hat;generalize hres:Fz l=res;have HR:=ah hres;have HAT:=ah hat;have jZ:=ah hall;unfold maxLen at hl;clear hres hat hall;go_enter Tryz.func30,Tryz.ntmps30;go_wp2_with fail;go_loopw [3,4] (λs3 s wr=> ∃(k:Nat) (R:aZ) (n:Int),s= .int .i64 k∧s3= .int .i64 n∧k+R.len=l.len∧res=I5 R n∧(R.All λ_ b e=>A8 b∧A8 e)∧R.At wr wr.heap.size ao k∧Below w.heap.size w wr) (λ_ s _=>l.len -(intOf s).toNat)
 case atStart=>exact⟨0,l,l.len,rfl,rfl,agJ,HR.o.symm,jZ.o,HAT.o,au _ _⟩
 case round=>
  obtain⟨k,R,n,rfl,rfl,hlen,heq,pG,hrow,hB⟩:=hrel;have HE:=ah heq;have HB:=ah hB;clear heq hB;cases R with
  |nil=>
   obtain rfl:k=l.len:=aeY
   go_wp2_with fail;go_ret;exact⟨bV HE.o.symm,HB.o⟩
  |cons h b e R=>
   obtain⟨bl,off,s,rfl,hbl,hin,-,-,-,-,-,-,-,-,-,x9,x10,hrest⟩:=aZ.At.head hrow;obtain⟨⟨hsb,hse⟩,D5⟩:=pG;have dM:=ah hsb;have EB:=ah hse;have iA:=ah hin;have hkl:k<l.len:=acz
   have hk0:(0:Int)<=k:=agH
   have hk1:(k:Int)<l.len:=agH
   clear hrow hin hsb hse;go_wp2_with fail;obtain⟨T,F,Ah,hst,hF,hnext⟩:=calm wr;have HF:=ah hF;have dh:=ah hnext;clear hF hnext;have y9:=λx=>((HF.o x).cell (p:=⟨bl,off+k*11+9,none⟩) hbl).trans x9;have jD:=λx=>((HF.o x).cell (p:=⟨bl,off+k*11+10,none⟩) hbl).trans x10;clear x9 x10;refine iI F agG agG hst ?_
   repeat (any_goals (first|go_big_quiet_step ((first|(go_at_call_of 30 (Value.slice s.dB b.len s.cu);refine(dM.o _ s.dB s.cu iA.o.1.2.2.2.2.2.2.1 (iA.o.same (HF.o _)).2.2.2.1).mono ?_;rintro e w' ⟨rfl,hb⟩;exact⟨rfl,dh.o _ _ hb⟩)|(go_at_call_of 30 (Value.slice s.iD e.len s.gu);refine(EB.o _ s.iD s.gu iA.o.1.2.2.2.2.2.2.2 (iA.o.same (HF.o _)).2.2.2.2).mono ?_;rintro e w' ⟨rfl,hb⟩;exact⟨rfl,dh.o _ _ hb⟩)))|(refine wpQuiet_step (λK hK=> ?_);go_simp;first|(refine hK _ ?_;clear hK K)|(split <;> first|(refine hK _ ?_;clear hK K)|(apply Exists.intro;refine⟨λ_=> ?_,hK _ ?_⟩;((first|(go_at_call_of 30 (Value.slice s.dB b.len s.cu);refine(dM.o _ s.dB s.cu iA.o.1.2.2.2.2.2.2.1 (iA.o.same (HF.o _)).2.2.2.1).mono ?_;rintro e w' ⟨rfl,hb⟩;exact⟨rfl,dh.o _ _ hb⟩)|(go_at_call_of 30 (Value.slice s.iD e.len s.gu);refine(EB.o _ s.iD s.gu iA.o.1.2.2.2.2.2.2.2 (iA.o.same (HF.o _)).2.2.2.2).mono ?_;rintro e w' ⟨rfl,hb⟩;exact⟨rfl,dh.o _ _ hb⟩)));clear hK K)))))
   all_goals (refine wpQuiet_nil ?_;rintro _ ⟨x,rfl⟩)
   have HB2:=ah (HF.o x);clear y9 jD HF dh hst;generalize F x=W3 at *;go_wp2_with fail;go_roundw
   case rel=>exact⟨k+1,R,_,agL,rfl,acz,HE.o.trans (show I5 R (wrap64 (n+(Fz b+Fz e)))=_ by rw[<- wrap_in']),D5,hrest.same HB2.o,HB.o.trans (HB2.o.mono HB.o.size)⟩
   case measure=>simp[intOf];omega
theorem Qi (l:aZ):A8 l:=Ef l (aZ.nQ (λ_ b e hb he=>⟨Ef b hb,Ef e he⟩) l)
theorem TR (pre:List De) (nm:ByteArray):(Ab pre nm= -1∧mD pre nm.toList=0)∨∃(j:Nat) (d:De) (r:List De),j<pre.length∧Ab pre nm=(j:Int)∧pre.drop j=d::r∧mD pre nm.toList=gK d:=by
 unfold Ab mD;rcases pW (λd:De=>d.nm.toList==nm.toList) pre 0 with⟨h1,h2,h3⟩|⟨j,d,r,h0,h1,h2,h3,h4⟩
 ·exact Or.inl ⟨h1,by rw[h2];rfl⟩
 ·exact Or.inr ⟨j,d,r,h0,by rw[h1,aU],h2,by rw[h3];rfl⟩
theorem Sy {d:De} :(gK d != 4)=(d.kind != 3):=agE
def at5 (ds:List De) (w:World) (res:Int×Int) (g:Nat) (s4 s5 s6 s7 s8:Value) (wr:World):Prop:=
 ∃(k:Nat) (pre R:List De) (c l n f:Int),g=R.length∧s8= .int .i64 k∧pre++R=ds∧pre.length=k∧s4= .int .i64 c∧s5= .int .i64 l∧s6= .int .i64 n∧s7= .int .i64 f∧
  (0<=c∧c<=12∧0<=l∧l<=4∧0<=n∧n<=2∧0<=f∧f<=2)∧res=mK R pre c l n f∧Below w.heap.size w wr
theorem Qj (ds:List De) (w:World) (ao:Option Addr) (cap:Nat) (hl:ds.length<=maxLen) (hcap:ds.length<=cap) (hat:jv w w.heap.size ds ao 0) (hsh: ∀d∈ds,jw d=true):
 Calls Tryz.prog 28 #[.slice ao ds.length cap] w λe w'=>e= .returned (.tuple #[.int .i64 (mK ds [] 0 0 0 0).1,.int .i64 (mK ds [] 0 0 0 0).2])∧Below w.heap.size w w':=by
 generalize hres:mK ds [] 0 0 0 0=res;have HR:=ah hres;have HAT:=ah hat;have Cv:=ah hsh;have hl':=hl;unfold maxLen at hl;clear hres hat hsh;go_enter Tryz.func28,Tryz.ntmps28;go_wp2_with fail;go_loopg [4,5,6,7,8,9,10] ds.length (λg s4 s5 s6 s7 s8 _ _ wr=>at5 ds w res g s4 s5 s6 s7 s8 wr)
 case atStart=>exact⟨0,[],ds,0,0,0,0,rfl,rfl,rfl,rfl,rfl,rfl,rfl,rfl,agI,HR.o.symm,au _ _⟩
 case round=>
  obtain⟨k,pre,R,c,l,n,f,rfl,rfl,hds,hk,rfl,rfl,rfl,rfl,⟨q1,q2,l1,l2,n1,n2,f1,f2⟩,hr,hB⟩:=hrel;have HE:=ah hr;have HB:=ah hB;clear hr hB HR;have hlen:k+R.length=ds.length:=afx
  have hrow:=(HAT.o.below HB.o).drop k;rw[aU,<- hds,<- hk,List.drop_left]at hrow;rw[hk]at hrow;cases R with
  |nil=>
   obtain rfl:k=ds.length:=aeQ
   have HF:=ah (HE.o.trans (rfl:_=((0:Int),(0:Int))));clear HE hds hk hrow;go_wp2_with fail
   go_ret2
   exact⟨jN (congrArg Prod.fst HF.o) (congrArg Prod.snd HF.o),HB.o⟩
  |cons d R=>
   have hsd:=wO (Cv.o d (by rw[<- hds];simp));have rP:=ah hds;have HK:=ah hk;have yA:=ah ((hds ▸ HAT.o:jv w w.heap.size (pre++d::R) ao 0).take);clear hds hk;obtain⟨⟨b,off,rfl,lV,x0,x1,x2,x3,x4,x5,hok⟩,-⟩:=hrow;simp only[aD]at hlen;have hkl:k<ds.length:=agH
   obtain⟨g1,g2,g3,g4⟩:=hsd;rw[I6]at HE;go_upto_region 6 with fail;obtain⟨nb,hnb⟩: ∃n,wr.heap.size=n:=⟨_,rfl⟩;generalize hW2:World.alloc wr _=W2;have HB2:aj (Below w.heap.size w W2):=ah adA;have HY:aj (Sit wr W2 [(nb,0,.int .i64 d.kind),(nb,1,.int .i64 d.line),(nb,2,.string d.nm),(nb,3,.int .i64 d.size),(nb,4,.int .i64 d.init),(nb,5,.string d.on)]):=ah abH;rw[hnb];clear hW2 hnb x0 x1 x2 x3 x4 x5 HB;obtain⟨-,⟨-,c0⟩,⟨-,c1⟩,⟨-,c2⟩,⟨-,c3⟩,⟨-,c4⟩,⟨-,c5⟩,-⟩:=HY.o;have hpl:pre.length<=maxLen:=ahR
   have yV:aj (∀(nm:ByteArray) (nq:Nat),Calls Tryz.prog 47 #[.slice (some ⟨b,off,none⟩) k cap,.string nm] (W2.drewN nq) λe w'=>e= .returned (.int .i64 (Ab pre nm))∧W2.drewN nq=w'):=ah (λnm nq=>by have hb':=below_drewN (n:=nq) HB2.o;have:=oP pre nm (W2.drewN nq) (some ⟨b,off,none⟩) cap hpl ((yA.o.below hb').mono hb'.size);rw[HK.o]at this;exact this);have hk0:(0:Int)<=k:=agH
   have hk1:(k:Int)<=cap:=agH
   have hk2:k<=cap:=agH
   go_quiet ((go_at_call 47;exact oQ (yV.o _ _)));have HZ:=ah (HY.o.draws nq);have HB3:=ah (below_drewN (n:=nq) HB2.o);clear HY HB2 yV c0 c1 c2 c3 c4 c5;generalize W2.drewN nq=w3 at *;obtain⟨-,⟨-,c0⟩,⟨-,c1⟩,⟨-,c2⟩,⟨-,c3⟩,⟨-,c4⟩,⟨-,c5⟩,-⟩:=HZ.o;rcases TR pre d.nm with⟨e1,e2⟩|⟨j,d',r,e0,e1,-,e2⟩
   case inr=>
    as_aux_lemma=>
     rw[e1];have HF:=ah (HE.o.trans (if_pos (by rw[e2,bne_iff_ne];have:=uq d';omega)));clear e1 e2;go_wp2_with fail;go_quiet (fail);go_wp2_with fail
     go_ret2
     exact⟨jN (congrArg Prod.fst HF.o) (congrArg Prod.snd HF.o),below_drewN HB3.o _⟩
   rw[e1];have h0:(mD pre d.nm.toList != 0)=false:=by rw[e2];rfl
   have HE2:=ah (HE.o.trans (if_neg (by rw[h0];decide)));clear HE e1 e2;go_upto_region 8 with fail;cases h1:decide (4<d.size)
   case true=>
    as_aux_lemma=>
     have HF:=ah (HE2.o.trans (if_pos h1));have h1':4<d.size:=agO;go_wp2_with fail;go_quiet (fail);go_wp2_with fail
     go_ret2
     exact⟨jN (congrArg Prod.fst HF.o) (congrArg Prod.snd HF.o),below_drewN HB3.o _⟩
   have kU:=ah (HE2.o.trans (if_neg agW));have h1':d.size<=4:=agO
   clear HE2 h1;go_upto_region 10 with fail;go_upto_block 2 with(fail);go_cut [4,5,6,7,36] (λs4 s5 s6 s7 _ W3=>w3=W3∧s4= .int .i64 (dc d c)∧s5= .int .i64 (dl d l)∧s6= .int .i64 (dn d n)∧s7= .int .i64 (df d f))
   case first=>
    as_aux_lemma=>
     have hkd:d.kind=1∨d.kind=2∨d.kind=3∨d.kind=4∨d.kind=5∨d.kind=6:=agH;have hmx:0<=max d.size 1∧max d.size 1<=4:=agH;rcases hkd with hkd|hkd|hkd|hkd|hkd|hkd
     ·have HA:aj (dc d c=c+max d.size 1∧dl d l=l∧dn d n=n∧df d f=f):=ah aaL;have hk3:(d.kind==1)=true:=agM;have hk4:(d.kind==2)=false:=agM;exact Aat
     ·have HA:aj (dc d c=c+max d.size 1∧dl d l=l∧dn d n=n∧df d f=f):=ah aaL;have hk3:(d.kind==1)=false:=agM;have hk4:(d.kind==2)=true:=agM;exact Aat
     ·have HA:aj (dc d c=c∧dl d l=l+1∧dn d n=n∧df d f=f):=ah aaL;have hk3:(d.kind==1)=false:=agM;have hk4:(d.kind==2)=false:=agM;have hk5:(d.kind==3)=true:=agM;have QY:(d.kind==4)=false:=agM;have XT:(d.kind==5)=false:=agM;clear hkd;go_wp2_with fail;go_meet;exact⟨rfl,ahJ,ahD,ahx,ahw⟩
     ·have HA:aj (dc d c=c∧dl d l=l+1∧dn d n=n∧df d f=f):=ah aaL;have hk3:(d.kind==1)=false:=agM;have hk4:(d.kind==2)=false:=agM;have hk5:(d.kind==3)=false:=agM;have QY:(d.kind==4)=true:=agM;have XT:(d.kind==5)=false:=agM;clear hkd;go_wp2_with fail;go_meet;exact⟨rfl,ahJ,ahD,ahx,ahw⟩
     ·have HA:aj (dc d c=c∧dl d l=l∧dn d n=n+1∧df d f=f):=ah aaL;have hk3:(d.kind==1)=false:=agM;have hk4:(d.kind==2)=false:=agM;have hk5:(d.kind==3)=false:=agM;have QY:(d.kind==4)=false:=agM;have XT:(d.kind==5)=true:=agM;clear hkd;go_wp2_with fail;go_meet;exact⟨rfl,ahJ,ahD,ahx,ahw⟩
     ·have HA:aj (dc d c=c∧dl d l=l∧dn d n=n∧df d f=f+1):=ah aaL;have hk3:(d.kind==1)=false:=agM;have hk4:(d.kind==2)=false:=agM;exact Aat
   obtain⟨rfl,rfl,rfl,rfl,rfl⟩:=hcut;have hc':0<=dc d c∧dc d c<=16:=by unfold dc;split <;> omega
   have hl'':0<=dl d l∧dl d l<=5:=by unfold dl;split <;> omega
   have hn':0<=dn d n∧dn d n<=3:=by unfold dn;split <;> omega
   have hf':0<=df d f∧df d f<=3:=by unfold df;split <;> omega
   generalize hcc:dc d c=c' at *;generalize hll:dl d l=l' at *;generalize hnn:dn d n=n' at *;generalize Uc:df d f=f' at *;clear hcc hll hnn Uc;go_upto_region 20 with fail;go_cut [69] (λs' W3=>w3=W3∧s'= .bool (lim c' l' n' f'))
   case first=>
    as_aux_lemma=>
     have HF:aj (lim c' l' n' f'=(((decide (12<c')||decide (4<l'))||decide (2<n'))||decide (2<f'))):=ah rfl;go_wp2_with fail
     all_goals go_meet
     all_goals exact⟨rfl,abJ⟩
   obtain⟨rfl,rfl⟩:=hcut;cases h2:lim c' l' n' f'
   case true=>
    as_aux_lemma=>
     have HF:=ah (kU.o.trans (if_pos h2));go_wp2_with fail;go_quiet (fail);go_wp2_with fail
     go_ret2
     exact⟨jN (congrArg Prod.fst HF.o) (congrArg Prod.snd HF.o),below_drewN HB3.o _⟩
   have uT:=ah (kU.o.trans (if_neg ahl));have hlim:c'<=12∧l'<=4∧n'<=2∧f'<=2:=aep
   clear kU h2;go_upto_region 22 with fail;cases h5:(d.kind==5)
   ·have HF:=ah (uT.o.trans ((if_neg ahA).trans (if_neg ahA)));clear uT;go_wp2_with fail;go_roundg R.length
    case measure=>simp
    case rel=>exact⟨k+1,pre++[d],R,c',l',n',f',rfl,agL,acC,afn,rfl,rfl,rfl,rfl,agH,HF.o,HB3.o⟩
   ·go_wp2_with fail;have yV:aj (∀(nm:ByteArray) (nq:Nat),Calls Tryz.prog 47 #[.slice (some ⟨b,off,none⟩) k cap,.string nm] (w3.drewN nq) λe w'=>e= .returned (.int .i64 (Ab pre nm))∧w3.drewN nq=w'):=ah (λnm nq=>by have hb':=below_drewN (n:=nq) HB3.o;have:=oP pre nm (w3.drewN nq) (some ⟨b,off,none⟩) cap hpl ((yA.o.below hb').mono hb'.size);rw[HK.o]at this;exact this);go_quiet ((go_at_call 47;exact oQ (yV.o _ _)));have HZ2:=ah (HZ.o.draws nq);have dR:=ah (below_drewN (n:=nq) HB3.o);clear HZ yV c0 c1 c2 c3 c4 c5 HB3;generalize w3.drewN nq=w5 at *;have HB3:=dR;clear dR;obtain⟨-,⟨-,c0⟩,⟨-,c1⟩,⟨-,c2⟩,⟨-,c3⟩,⟨-,c4⟩,⟨-,c5⟩,-⟩:=HZ2.o;rcases TR pre d.on with⟨e1,e2⟩|⟨j,d',r,e0,e1,e3,e2⟩
    ·have HF:=ah (uT.o.trans (if_pos (by rw[h5,e2];rfl)));rw[e1];clear e1 e2;exact Aaw
    ·have G6:=ah (uT.o.trans (if_neg (by rw[h5,e2];have:=uq d';simp;omega)));rw[e2,Sy]at G6;have hrow:=(yA.o.below HB3.o).drop j;rw[e3,aU]at hrow;obtain⟨⟨b2,off2,hbe,bO1,z0,-⟩,-⟩:=hrow;obtain⟨rfl,rfl⟩:b=b2∧off=off2:=abm;have hjl:j<ds.length:=(by have:=HK.o;omega);rw[e1];clear e1 e2 e3 hbe uT;cases h8:(d'.kind != 3)
     case true=>
      as_aux_lemma=>
       have HF:=ah (G6.o.trans (if_pos (by rw[h5,h8];rfl)));go_wp2_with fail;go_quiet (fail);go_wp2_with fail
       go_ret2
       exact⟨jN (congrArg Prod.fst HF.o) (congrArg Prod.snd HF.o),below_drewN HB3.o _⟩
     have HF:=ah (G6.o.trans (if_neg (by rw[h5,h8];decide)));clear G6;go_wp2_with fail;go_roundg R.length
     case measure=>simp
     case rel=>exact⟨k+1,pre++[d],R,c',l',n',f',rfl,agL,acC,afn,rfl,rfl,rfl,rfl,agH,HF.o,HB3.o⟩
theorem Rk (s:ByteArray):kZ s true=Tk.jf s.data.toList:=rfl
theorem Rj (s:ByteArray):kZ s false=decide (s.toList=[]):=by unfold kZ;rw[Lib.toList_data,Bool.eq_iff_iff];simp
theorem Jm (d:De) (w:World) (hok:d.Ok):
 Calls Tryz.prog 45 #[.agg #[.int .i64 d.kind,.int .i64 d.line,.string d.nm,.int .i64 d.size,.int .i64 d.init,.string d.on]] w λe w'=>e= .returned (.bool (jw d))∧Below w.heap.size w w':=by
 obtain⟨⟨k1,k2⟩,-,hm,-,⟨i1,i2⟩,ho⟩:=hok;obtain⟨kind,line,nm,size,init,on⟩:=d;have HE:aj (jw ⟨kind,line,nm,size,init,on⟩=((((decide (1<=kind)&&decide (kind<=6))&&Tk.jf nm.data.toList)&&(decide (0<=size)&&(decide (size=0)||decide (kind=1))))&&((!decide (init= -9223372036854775808)&&(decide (init=0)||(decide (kind=1)||decide (kind=2))))&&kZ on (kind==5)))):=ah abL;dsimp only at *;generalize jw ⟨kind,line,nm,size,init,on⟩=res at *;go_enter Tryz.func45,Tryz.ntmps45;go_upto_region 1 with fail;generalize hW:World.alloc w _=W;generalize Value.agg #[_,_,_,_,_,_]=a0;have HX:=ah ((Sit.start w).Qt rfl (.int .i64 kind) (.int .i64 line) (.string nm) (.int .i64 size) (.int .i64 init) (.string on) 55);rw[hW]at HX;clear hW;obtain⟨-,⟨-,c0⟩,⟨-,c1⟩,⟨-,c2⟩,⟨-,c3⟩,⟨-,c4⟩,⟨-,c5⟩,-⟩:=HX.o;go_cut [31] (λs W2=> ∃b,s= .bool b∧(!b)=(((decide (1<=kind)&&decide (kind<=6))&&Tk.jf nm.data.toList)&&(decide (0<=size)&&(decide (size=0)||decide (kind=1))))∧Sit w W2 [(w.heap.size,0,.int .i64 kind),(w.heap.size,1,.int .i64 line),(w.heap.size,2,.string nm),(w.heap.size,3,.int .i64 size),(w.heap.size,4,.int .i64 init),(w.heap.size,5,.string on)])
 case first=>
  cases hr:decide (1<=kind∧kind<=6)
  ·have hr':kind<1∨(1<=kind∧6<kind):=by simp at hr;omega
   clear hr;rcases hr' with hr|⟨hr,hr'⟩
   all_goals go_wp2_with fail
   all_goals go_meet
   all_goals exact⟨_,rfl,ahg,HX.o⟩
  ·have hr':1<=kind∧kind<=6:=by simpa using hr
   obtain⟨g1,g2⟩:=hr';clear hr;go_wp2_with fail;refine(ji _ _ hm).mono ?_;rintro e w3 ⟨rfl,hb3⟩;have HZ:=ah (HX.o.next hb3);clear hb3 HX c0 c1 c2 c3 c4 c5;obtain⟨-,⟨-,c0⟩,⟨-,c1⟩,⟨-,c2⟩,⟨-,c3⟩,⟨-,c4⟩,⟨-,c5⟩,-⟩:=HZ.o;cases hq:Tk.jf nm.data.toList
   all_goals go_wp2_with fail
   all_goals go_meet
   all_goals exact⟨_,rfl,by rw[hq];go_light;grind,HZ.o⟩
 obtain⟨b1,rfl,hb1,hX⟩:=hcut;have HY:=ah hX;have HB1:=ah hb1;clear hX HX hb1 c0 c1 c2 c3 c4 c5;rw[<- HB1.o]at HE;clear HB1;cases b1
 case true=>go_wp2_with fail;go_ret;exact⟨bW (HE.o.trans agJ).symm,HY.o.1⟩
 obtain⟨-,⟨-,c0⟩,⟨-,c1⟩,⟨-,c2⟩,⟨-,c3⟩,⟨-,c4⟩,⟨-,c5⟩,-⟩:=HY.o;go_upto_region 3 with fail;go_cut [50] (λs W2=> ∃b,s= .bool b∧(!b)=kZ on (kind==5)∧Sit w W2 [(w.heap.size,0,.int .i64 kind),(w.heap.size,1,.int .i64 line),(w.heap.size,2,.string nm),(w.heap.size,3,.int .i64 size),(w.heap.size,4,.int .i64 init),(w.heap.size,5,.string on)])
 case first=>
  cases h5:(kind==5)
  ·have h5':(kind != 5)=true:=by unfold bne;rw[h5];rfl
   have HN:=ah (Rj on);go_wp2_with fail
   all_goals go_meet
   all_goals exact⟨_,rfl,by rw[h5,HN.o];first|(simp;done)|(go_light;grind),HY.o⟩
  ·have h5':(kind != 5)=false:=by unfold bne;rw[h5];rfl
   have HN:=ah (Rk on);go_wp2_with fail;refine(ji _ _ ho).mono ?_;rintro e w3 ⟨rfl,hb3⟩;have HZ:=ah (HY.o.next hb3);clear hb3 HY c0 c1 c2 c3 c4 c5;obtain⟨-,⟨-,c0⟩,⟨-,c1⟩,⟨-,c2⟩,⟨-,c3⟩,⟨-,c4⟩,⟨-,c5⟩,-⟩:=HZ.o;cases hq:Tk.jf on.data.toList
   all_goals go_wp2_with fail
   all_goals go_meet
   all_goals exact⟨_,rfl,by rw[h5,HN.o,hq];rfl,HZ.o⟩
 obtain⟨b2,rfl,hb2,hX⟩:=hcut;have HZ:=ah hX;have HB2:=ah hb2;clear hX HY hb2 c0 c1 c2 c3 c4 c5;rw[<- HB2.o]at HE;clear HB2;cases b2
 case true=>go_wp2_with fail;go_ret;exact⟨bW (HE.o.trans agJ).symm,HZ.o.1⟩
 obtain⟨-,⟨-,c0⟩,⟨-,c1⟩,⟨-,c2⟩,⟨-,c3⟩,⟨-,c4⟩,⟨-,c5⟩,-⟩:=HZ.o;go_wp2_with fail
 all_goals go_ret
 all_goals refine⟨bW (HE.o.trans ?_).symm,HZ.o.1⟩
 all_goals (go_light;grind)
theorem Xg (op n:Int) (nm:ByteArray) (len cap:Nat) (ao:Option Addr) (w:World):
 Calls Tryz.prog 107 #[.agg #[.int .i64 op,.int .i64 n,.string nm,.slice ao len cap]] w λe w'=>e= .returned (.bool (qV op n nm len))∧Below w.heap.size w w':=by
 have HE:aj (qV op n nm len=(((decide (op=0)&&decide (n=0))&&decide (nm.toList=[]))&&decide (len=0))):=ah adO;generalize qV op n nm len=res at *;go_enter Tryz.func107,Tryz.ntmps107;go_wp2
 all_goals go_ret
 all_goals refine⟨bW ?_,ak _ _⟩
 all_goals rw[HE.o]
 all_goals (go_light;grind)
def CF (h:dF) (b e:aZ):Prop:=
 ∀(w:World) (s:Sl),Eh w h b e s->
  Calls Tryz.prog 72 #[iE h b e s] w λe' w'=>e'= .returned (.bool (Dh h b e))∧Below w.heap.size w w'
theorem Aa (l:aZ) (hall:l.All CF) (w:World) (ao:Option Addr) (cap:Nat) (hl:l.len<=maxLen) (hat:l.At w w.heap.size ao 0):
 Calls Tryz.prog 46 #[.slice ao l.len cap] w λe' w'=>e'= .returned (.bool (gQ l))∧Below w.heap.size w w':=by
 unfold maxLen at hl;go_enter Tryz.func46,Tryz.ntmps46;go_wp2_with fail;go_loopw [3] (λs wr=> ∃(k:Nat) (R:aZ),s= .int .i64 k∧k+R.len=l.len∧gQ l=gQ R∧R.All CF∧R.At wr wr.heap.size ao k∧Below w.heap.size w wr) (λs _=>l.len -(intOf s).toNat)
 case atStart=>exact⟨0,l,rfl,agJ,rfl,hall,hat,au _ _⟩
 case round=>
  obtain⟨k,R,rfl,hlen,heq,pG,hrow,hB⟩:=hrel;have HE:=ah heq;clear heq;cases R with
  |nil=>
   obtain rfl:k=l.len:=aeY
   go_wp2_with fail;go_ret;exact⟨bW HE.o.symm,hB⟩
  |cons h b e R=>
   obtain⟨bl,off,s,rfl,hbl,hin,x0,x1,x2,x3,x4,x5,x6,x7,x8,x9,x10,hrest⟩:=aZ.At.head hrow;obtain⟨kN,D5⟩:=pG;have hkl:k<l.len:=acz
   clear hrow;go_wp2_with fail;refine(kN _ s hin).mono ?_;rintro e' w2 ⟨rfl,hb2⟩;have HB3:=ah hb2;clear hb2 x0 x1 x2 x3 x4 x5 x6 x7 x8 x9 x10 hin;cases hS:Dh h b e
   ·have HF:=ah (HE.o.trans (by rw[BZ,hS];rfl:gQ (.cons h b e R)=false));go_wp2_with fail;go_ret;exact⟨bW HF.o.symm,hB.trans (HB3.o.mono hB.size)⟩
   ·have HF:=ah (HE.o.trans (by rw[BZ,hS];rfl:gQ (.cons h b e R)=gQ R));go_wp2_with fail;go_roundw
    case rel=>exact⟨k+1,R,agL,acz,HF.o,D5,hrest.same HB3.o,hB.trans (HB3.o.mono hB.size)⟩
    case measure=>simp[intOf];omega
theorem aX0 {op:Int} (h1:1<=op) (h2:op<=15):fN op= !((op==2||op==3)||(op==7||op==8)):=by
 rw[Bool.eq_iff_iff];unfold fN;simp;omega
theorem GY (h:dF) (b e:aZ) (ihb:b.All CF) (Yh:e.All CF):CF h b e:=by
 intro w s hin;obtain⟨gU,gy,fT,eB,dB,cu,iD,gu⟩:=s;have HS:aj (Dh h b e=((((fO h.op&&(kZ h.nm (fN h.op)&&kZ h.arg (fA h.op)))&&((decide ((h.idx.len:Int)<=1)&&(!decide ((h.idx.len:Int)=1)||fI h.op))&&mZ h.idx))&&
  ((if fX h.op then jW h.dP h.xn h.dO h.bJ else qV h.dP h.xn h.dO h.bJ.len)&&((fB h.op||decide ((b.len:Int)<=0))&&(fE h.op||decide ((e.len:Int)<=0)))))&&(gQ b&&gQ e))):=ah (by
  unfold Dh om;rw[Uh,Ug,Jb,Jb])
 generalize Dh h b e=res at *;have iA:=ah hin;have PD:=ah ihb;have HIE:=ah Yh;obtain⟨⟨⟨o1,o2⟩,-,hm,ha,hil,hxk,hbl,hel⟩,-⟩:=hin;clear ihb Yh;have by2:=hil;have ab6:=hbl;have ab8:=hel;have hxl:=hxk.2.2.2;unfold maxLen at hil hbl hel hxl;unfold iE;dsimp only;go_enter Tryz.func72,Tryz.ntmps72;go_upto_region 1 with fail;generalize hW:World.alloc w _=W;generalize Value.agg #[_,_,_,_,_,_,_,_,_,_,_]=a0;have HX:aj (Sit w W (rM w.heap.size h b e ⟨gU,gy,fT,eB,dB,cu,iD,gu⟩ [])):=ah abn;clear hW;obtain⟨-,⟨-,c0⟩,⟨-,c1⟩,⟨-,c2⟩,⟨-,c3⟩,⟨-,c4⟩,⟨-,c5⟩,⟨-,c6⟩,⟨-,c7⟩,⟨-,c8⟩,⟨-,c9⟩,⟨-,c10⟩,-⟩:=HX.o;go_cut [13] (λs' W3=>W=W3∧∃t,s'= .bool t∧(!t)=(decide (1<=h.op)&&decide (h.op<=15)))
 case first=>
  as_aux_lemma=>
   go_wp2_with fail
   all_goals go_meet
   all_goals exact⟨rfl,_,rfl,ahg⟩
 obtain⟨rfl,t1,rfl,ht1⟩:=hcut;cases t1
 case true=>
  as_aux_lemma=>have HT:aj (fO h.op=false):=ah ht1.symm;rw[HT.o]at HS;go_wp2_with fail;go_ret;exact⟨bW (HS.o.trans agJ).symm,HX.o.1⟩
 have hr:1<=h.op∧h.op<=15:=by simpa using ht1.symm
 obtain⟨g1,g2⟩:=hr;rw[show fO h.op=true from ht1.symm,aX0 g1 g2]at HS;clear ht1;go_upto_region 3 with fail;go_cut [3] (λs' W3=>W=W3∧s'= .bool ((h.op==2||h.op==3)||(h.op==7||h.op==8)))
 case first=>
  as_aux_lemma=>
   go_wp2_with fail
   all_goals go_meet
   all_goals exact⟨rfl,by congr 1;go_light;grind⟩
 obtain⟨rfl,rfl⟩:=hcut;generalize ((h.op==2||h.op==3)||(h.op==7||h.op==8))=bn at *;go_upto_region 4 with fail;go_cut [3,47] (λ_ s' W2=> ∃t,s'= .bool t∧(!t)=kZ h.nm (!bn)∧Sit w W2 (rM w.heap.size h b e ⟨gU,gy,fT,eB,dB,cu,iD,gu⟩ []))
 case first=>
  as_aux_lemma=>
   cases bn
   ·have HN:=ah (Rk h.nm);go_wp2_with fail;refine(ji _ _ hm).mono ?_;rintro e' w3 ⟨rfl,hb3⟩;have HZ:=ah (HX.o.next hb3);clear hb3 HX c0 c1 c2 c3 c4 c5 c6 c7 c8 c9 c10;obtain⟨-,⟨-,c0⟩,⟨-,c1⟩,⟨-,c2⟩,⟨-,c3⟩,⟨-,c4⟩,⟨-,c5⟩,⟨-,c6⟩,⟨-,c7⟩,⟨-,c8⟩,⟨-,c9⟩,⟨-,c10⟩,-⟩:=HZ.o;cases hq:Tk.jf h.nm.data.toList
    all_goals go_wp2_with fail
    all_goals go_meet
    all_goals exact⟨_,rfl,(HN.o.trans hq).symm,HZ.o⟩
   ·have HN:=ah (Rj h.nm);go_wp2_with fail
    all_goals go_meet
    all_goals exact⟨_,rfl,(show _=kZ h.nm false by rw[HN.o];first|(simp;done)|(go_light;grind)),HX.o⟩
 obtain⟨t2,rfl,ht2,hX⟩:=hcut;have HY:=ah hX;have HT2:=ah ht2;clear hX ht2 HX c0 c1 c2 c3 c4 c5 c6 c7 c8 c9 c10;rw[<- HT2.o]at HS;clear HT2;cases t2
 case true=>
  as_aux_lemma=>go_wp2_with fail;go_ret;exact⟨bW (HS.o.trans agJ).symm,HY.o.1⟩
 obtain⟨-,⟨-,c0⟩,⟨-,c1⟩,⟨-,c2⟩,⟨-,c3⟩,⟨-,c4⟩,⟨-,c5⟩,⟨-,c6⟩,⟨-,c7⟩,⟨-,c8⟩,⟨-,c9⟩,⟨-,c10⟩,-⟩:=HY.o;go_upto_region 6 with fail;go_cut [66] (λs' W2=> ∃t,s'= .bool t∧(!t)=kZ h.arg (fA h.op)∧Sit w W2 (rM w.heap.size h b e ⟨gU,gy,fT,eB,dB,cu,iD,gu⟩ []))
 case first=>
  as_aux_lemma=>
   cases BG:(h.op==15)
   ·have bx3:(h.op != 15)=true:=(by unfold bne;rw[BG];rfl);have HN:aj (kZ h.arg (fA h.op)=decide (h.arg.toList=[])):=ah (by unfold fA;rw[BG];exact Rj h.arg);go_wp2_with fail
    all_goals go_meet
    all_goals exact⟨_,rfl,(by rw[HN.o];first|(simp;done)|(go_light;grind)),HY.o⟩
   ·have bx3:(h.op != 15)=false:=(by unfold bne;rw[BG];rfl);have HN:aj (kZ h.arg (fA h.op)=Tk.jf h.arg.data.toList):=ah (by unfold fA;rw[BG];exact Rk h.arg);go_wp2_with fail;refine(ji _ _ ha).mono ?_;rintro e' w3 ⟨rfl,hb3⟩;have HZ:=ah (HY.o.next hb3);clear hb3 HY c0 c1 c2 c3 c4 c5 c6 c7 c8 c9 c10;obtain⟨-,⟨-,c0⟩,⟨-,c1⟩,⟨-,c2⟩,⟨-,c3⟩,⟨-,c4⟩,⟨-,c5⟩,⟨-,c6⟩,⟨-,c7⟩,⟨-,c8⟩,⟨-,c9⟩,⟨-,c10⟩,-⟩:=HZ.o;cases hq:Tk.jf h.arg.data.toList
    all_goals go_wp2_with fail
    all_goals go_meet
    all_goals exact⟨_,rfl,(HN.o.trans hq).symm,HZ.o⟩
 obtain⟨t3,rfl,ht3,hX⟩:=hcut;have HZ:=ah hX;have HT3:=ah ht3;clear hX ht3 HY c0 c1 c2 c3 c4 c5 c6 c7 c8 c9 c10;rw[<- HT3.o]at HS;clear HT3;cases t3
 case true=>
  as_aux_lemma=>go_wp2_with fail;go_ret;exact⟨bW (HS.o.trans agJ).symm,HZ.o.1⟩
 obtain⟨-,⟨-,c0⟩,⟨-,c1⟩,⟨-,c2⟩,⟨-,c3⟩,⟨-,c4⟩,⟨-,c5⟩,⟨-,c6⟩,⟨-,c7⟩,⟨-,c8⟩,⟨-,c9⟩,⟨-,c10⟩,-⟩:=HZ.o;go_upto_region 8 with fail;go_cut [95] (λs' W2=> ∃t,s'= .bool t∧(!t)=((decide ((h.idx.len:Int)<=1)&&(!decide ((h.idx.len:Int)=1)||fI h.op))&&mZ h.idx)∧Sit w W2 (rM w.heap.size h b e ⟨gU,gy,fT,eB,dB,cu,iD,gu⟩ []))
 case first=>
  as_aux_lemma=>
   have hrow:=(iA.o.same HZ.o.1).2.1;generalize hix:h.idx=ix at hrow c4 hil;have Dn:=ah hix;clear hix;cases ix with
   |nil=>
    simp only[bT.len]at c4;clear hrow;cases hI:(h.op==1)
    ·have hI':(h.op != 1)=true:=afK;go_wp2_with fail;go_meet;exact⟨_,rfl,by rw[Dn.o];rfl,HZ.o⟩
    ·have hI':(h.op != 1)=false:=afK;go_wp2_with fail;go_meet;exact⟨_,rfl,by rw[Dn.o];rfl,HZ.o⟩
   |cons op' n' nm' iw rest=>
    obtain⟨⟨b',off',mh,cap',rfl,lV,x0,x1,x2,x3,hok',lW⟩,hrest⟩:=hrow;cases rest with
    |nil=>
     simp only[bT.len,aU]at c4;simp only[Nat.zero_mul,Nat.add_zero]at x0 x1 x2 x3;cases hI:(h.op==1)
     ·have hI':(h.op != 1)=true:=afK;have HL:aj (fI h.op=false):=ah hI;go_wp2_with fail;go_meet;exact⟨_,rfl,by rw[Dn.o,HL.o];rfl,HZ.o⟩
     ·have hI':(h.op != 1)=false:=afK;have HL:aj (fI h.op=true):=ah hI;go_wp2_with fail;refine(wZ op' n' nm' iw _ _ _ hok' lW).mono ?_;rintro e' w3 ⟨rfl,hb3⟩;have HV:=ah (HZ.o.next hb3);clear hb3;cases hq:jW op' n' nm' iw
      all_goals go_wp2_with fail
      all_goals go_meet
      all_goals exact⟨_,rfl,by rw[Dn.o,HL.o,nL,hq];rfl,HV.o⟩
    |cons op2 n2 Yv M4 Mf=>have hl2:2<=(bT.cons op' n' nm' iw (bT.cons op2 n2 Yv M4 Mf)).len:=(by simp only[bT.len];omega);have HL:aj (((decide (((bT.cons op' n' nm' iw (bT.cons op2 n2 Yv M4 Mf)).len:Int)<=1)&&(!decide (((bT.cons op' n' nm' iw (bT.cons op2 n2 Yv M4 Mf)).len:Int)=1)||fI h.op))&&mZ (bT.cons op' n' nm' iw (bT.cons op2 n2 Yv M4 Mf)))=false):=ah (by rw[decide_eq_false agH];rfl);clear x0 x1 x2 x3 hrest lW hok';generalize (bT.cons op' n' nm' iw (bT.cons op2 n2 Yv M4 Mf))=ix at *;have hl3:1<ix.len:=agH;go_wp2_with fail;go_meet;exact⟨_,rfl,by rw[Dn.o,HL.o];rfl,HZ.o⟩
 obtain⟨t4,rfl,XZ,hX⟩:=hcut;have HU:=ah hX;have EC:=ah XZ;clear hX XZ HZ c0 c1 c2 c3 c4 c5 c6 c7 c8 c9 c10;rw[<- EC.o]at HS;clear EC;cases t4
 case true=>
  as_aux_lemma=>go_wp2_with fail;go_ret;exact⟨bW (HS.o.trans agJ).symm,HU.o.1⟩
 obtain⟨-,⟨-,c0⟩,⟨-,c1⟩,⟨-,c2⟩,⟨-,c3⟩,⟨-,c4⟩,⟨-,c5⟩,⟨-,c6⟩,⟨-,c7⟩,⟨-,c8⟩,⟨-,c9⟩,⟨-,c10⟩,-⟩:=HU.o;go_upto_region 10 with fail;go_cut [4] (λs' W3=>wc=W3∧s'= .bool (fX h.op))
 case first=>
  as_aux_lemma=>
   have HF:aj (fX h.op=((h.op==1||h.op==2)||(h.op==3||h.op==14))):=ah rfl;go_wp2_with fail
   all_goals go_meet
   all_goals exact⟨rfl,aeG⟩
 obtain⟨rfl,rfl⟩:=hcut;generalize fX h.op=bX at *;go_upto_region 11 with fail;go_cut [4,130] (λ_ s' W3=> ∃t,s'= .bool t∧(!t)=(if bX then jW h.dP h.xn h.dO h.bJ else qV h.dP h.xn h.dO h.bJ.len)∧Sit w W3 (rM w.heap.size h b e ⟨gU,gy,fT,eB,dB,cu,iD,gu⟩ []))
 case first=>
  as_aux_lemma=>
   cases bX
   ·go_wp2_with fail;refine(Xg _ _ _ _ _ _ _).mono ?_;rintro e' w3 ⟨rfl,hb3⟩;have HV:=ah (HU.o.next hb3);clear hb3;cases hq:qV h.dP h.xn h.dO h.bJ.len
    all_goals go_wp2_with fail
    all_goals go_meet
    all_goals exact⟨_,rfl,hq.symm,HV.o⟩
   ·go_wp2_with fail;refine(wZ _ _ _ _ _ _ _ hxk (iA.o.same HU.o.1).2.2.1).mono ?_;rintro e' w3 ⟨rfl,hb3⟩;have HV:=ah (HU.o.next hb3);clear hb3 HU c0 c1 c2 c3 c4 c5 c6 c7 c8 c9 c10;obtain⟨-,⟨-,c0⟩,⟨-,c1⟩,⟨-,c2⟩,⟨-,c3⟩,⟨-,c4⟩,⟨-,c5⟩,⟨-,c6⟩,⟨-,c7⟩,⟨-,c8⟩,⟨-,c9⟩,⟨-,c10⟩,-⟩:=HV.o;cases hq:jW h.dP h.xn h.dO h.bJ
    all_goals go_wp2_with fail
    all_goals go_meet
    all_goals exact⟨_,rfl,hq.symm,HV.o⟩
 obtain⟨t5,rfl,ht5,hX⟩:=hcut;have HV:=ah hX;have HT5:=ah ht5;clear hX ht5 HU c0 c1 c2 c3 c4 c5 c6 c7 c8 c9 c10;rw[<- HT5.o]at HS;clear HT5;cases t5
 case true=>
  as_aux_lemma=>go_wp2_with fail;go_ret;exact⟨bW (HS.o.trans agJ).symm,HV.o.1⟩
 obtain⟨-,⟨-,c0⟩,⟨-,c1⟩,⟨-,c2⟩,⟨-,c3⟩,⟨-,c4⟩,⟨-,c5⟩,⟨-,c6⟩,⟨-,c7⟩,⟨-,c8⟩,⟨-,c9⟩,⟨-,c10⟩,-⟩:=HV.o;go_upto_region 13 with fail;go_cut [5] (λs' W3=>wc=W3∧s'= .bool (fB h.op))
 case first=>
  as_aux_lemma=>
   have HF:aj (fB h.op=(decide (2<=h.op)&&decide (h.op<=8))):=ah rfl;go_wp2_with fail
   all_goals go_meet
   all_goals exact⟨rfl,aeG⟩
 obtain⟨rfl,rfl⟩:=hcut;generalize fB h.op=bB at *;go_upto_region 14 with fail;go_cut [5,157] (λ_ s' W3=>wc=W3∧∃t,s'= .bool t∧(!t)=((bB||decide ((b.len:Int)<=0))&&(fE h.op||decide ((e.len:Int)<=0))))
 case first=>
  as_aux_lemma=>
   have HF:aj (fE h.op=(h.op==2)):=ah rfl;cases bB
   all_goals cases h2:(h.op==2)
   all_goals try have h2':(h.op != 2)=true:=by unfold bne;rw[h2];rfl
   all_goals try have h2':(h.op != 2)=false:=by unfold bne;rw[h2];rfl
   all_goals go_wp2_with fail
   all_goals go_meet
   all_goals exact⟨rfl,_,rfl,by rw[HF.o,h2];go_light;grind⟩
 obtain⟨rfl,t6,rfl,ht6⟩:=hcut;have Br:=ah ht6;rw[<- Br.o]at HS;clear Br ht6;cases t6
 case true=>
  as_aux_lemma=>go_wp2_with fail;go_ret;exact⟨bW (HS.o.trans agJ).symm,HV.o.1⟩
 go_wp2_with fail;refine(Aa b PD.o _ _ _ ab6 (iA.o.same HV.o.1).2.2.2.1).mono ?_;rintro e' w4 ⟨rfl,hb4⟩;have HA:=ah (HV.o.next hb4);clear hb4 HV c0 c1 c2 c3 c4 c5 c6 c7 c8 c9 c10;obtain⟨-,⟨-,c0⟩,⟨-,c1⟩,⟨-,c2⟩,⟨-,c3⟩,⟨-,c4⟩,⟨-,c5⟩,⟨-,c6⟩,⟨-,c7⟩,⟨-,c8⟩,⟨-,c9⟩,⟨-,c10⟩,-⟩:=HA.o;cases hq:gQ b
 ·rw[hq]at HS;go_wp2_with fail;go_ret;exact⟨bW (HS.o.trans agJ).symm,HA.o.1⟩
 ·rw[hq]at HS;go_wp2_with fail;refine(Aa e HIE.o _ _ _ ab8 (iA.o.same HA.o.1).2.2.2.2).mono ?_;rintro e' w5 ⟨rfl,hb5⟩;go_wp2_with fail;go_ret;exact⟨bW (HS.o.trans agJ).symm,(HA.o.next hb5).1⟩
theorem GZ (l:aZ) (w:World) (ao:Option Addr) (cap:Nat) (hl:l.len<=maxLen) (hat:l.At w w.heap.size ao 0):
 Calls Tryz.prog 46 #[.slice ao l.len cap] w λe' w'=>e'= .returned (.bool (gQ l))∧Below w.heap.size w w':=
 Aa l (aZ.nQ GY l) w ao cap hl hat
theorem OO (p:Pr) (w:World) (aK aM:Option Addr) (aH aG:Nat) (hp:p.At w aK aM):
 Calls Tryz.prog 27 #[.agg #[.slice aK p.ds.length aH,.slice aM p.ts.length aG]] w λe w'=>e= .returned (.bool (rE p))∧Below w.heap.size w w':=by
 have HS:aj (rE p=((p.ds.all jw&&p.ts.all pO)&&decide ((0:Int)<p.ts.length))):=ah rfl;generalize rE p=res at *;have hld:=hp.1;have hlt:=hp.2.1;unfold maxLen at hld hlt;have HP:=ah hp;clear hp;go_enter Tryz.func27,Tryz.ntmps27;go_upto_region 1 with fail;generalize hW:World.alloc w _=W;generalize Value.agg #[_,_]=a0;have HX:=ah ((Sit.start w).xV rfl (.slice aK p.ds.length aH) (.slice aM p.ts.length aG) 35);rw[hW]at HX;clear hW;have hde:=(HP.o.same HX.o.1).2.2.1;go_wp2_with fail;go_loopw [3] (λs wr=> ∃(k:Nat) (R:List De),s= .int .i64 k∧k+R.length=p.ds.length∧p.ds.all jw=R.all jw∧jv wr wr.heap.size R aK k∧Sit w wr [(w.heap.size,0,(.slice aK p.ds.length aH)),(w.heap.size,1,(.slice aM p.ts.length aG))]) (λs _=>p.ds.length -(intOf s).toNat)
 case atStart=>exact⟨0,p.ds,rfl,agJ,rfl,hde,HX.o⟩
 case round=>
  obtain⟨k,R,rfl,hlen,heq,hrow,hsit⟩:=hrel;have HZ:=ah hsit;have HE:=ah heq;clear hsit HX hde heq;obtain⟨-,⟨-,c0⟩,⟨-,c1⟩,-⟩:=HZ.o;cases R with
  |cons d R=>
   obtain⟨⟨b,off,rfl,hB,x0,x1,x2,x3,x4,x5,hok⟩,hrest⟩:=hrow;simp only[aD]at hlen;have hkl:k<p.ds.length:=agH
   have kK:=ah hok;clear hok;go_wp2_with fail;refine(Jm d _ kK.o).mono ?_;rintro e' w2 ⟨rfl,hb2⟩;have HB3:=ah hb2;clear hb2 x0 x1 x2 x3 x4 x5 c0 c1;cases hS:jw d
   ·rw[HE.o,List.all_cons,hS]at HS;go_wp2_with fail;go_ret;exact⟨bW (HS.o.trans agJ).symm,(HZ.o.next HB3.o).1⟩
   ·have HF:=ah (HE.o.trans (by rw[List.all_cons,hS];rfl:_=R.all jw));go_wp2_with fail;go_roundw
    case rel=>exact⟨k+1,R,agL,agH,HF.o,hrest.same HB3.o,HZ.o.next HB3.o⟩
    case measure=>simp[intOf];omega
  |nil=>
   obtain rfl:k=p.ds.length:=aeQ
   rw[HE.o]at HS;have hth:=(HP.o.same HZ.o.1).2.2.2;clear HE hrow hlen;go_wp2_with fail;go_loopg [4,5,6] p.ts.length (λg s _ _ wr=> ∃(k:Nat) (R:List Th),g=R.length∧s= .int .i64 k∧k+R.length=p.ts.length∧p.ts.all pO=R.all pO∧iG wr wr.heap.size R aM k∧Sit w wr [(w.heap.size,0,(.slice aK p.ds.length aH)),(w.heap.size,1,(.slice aM p.ts.length aG))])
   case atStart=>exact⟨0,p.ts,rfl,rfl,agJ,rfl,hth,HZ.o⟩
   case round=>
    obtain⟨k,R,rfl,rfl,hlen,heq,hrow,hsit⟩:=hrel;have HU:=ah hsit;have HE:=ah heq;clear hsit HZ c0 c1 hth heq;obtain⟨-,⟨-,c0⟩,⟨-,c1⟩,-⟩:=HU.o;cases R with
    |nil=>obtain rfl:k=p.ts.length:=aeQ;rw[HE.o]at HS;go_wp2_with fail;go_ret;exact⟨bW (HS.o.trans agJ).symm,HU.o.1⟩
    |cons t R=>
     obtain⟨⟨b,off,iU,eU,dB,cu,rfl,hB,x0,x1,x2,x3,hok,htx,hst⟩,hrest⟩:=hrow;simp only[aD]at hlen;have hkl:k<p.ts.length:=agH;have hll:=hok.2.2.1;have kK:=ah hok;have zW:=ah htx;have HST:=ah hst;unfold maxLen at hll;clear hok htx hst;go_upto_region 10 with fail;clear c0 c1;obtain⟨n2,hn2⟩: ∃n,wr.heap.size=n:=⟨_,rfl⟩;generalize hW2:World.alloc wr _=W2;have HB2:aj (Below wr.heap.size wr W2):=ah afb;have HV:aj (Sit w W2 ((n2,0,.string t.nm)::(n2,1,.int .i64 t.line)::(n2,2,.slice iU t.cZ.length eU)::(n2,3,.slice dB t.body.len cu)::[(w.heap.size,0,(.slice aK p.ds.length aH)),(w.heap.size,1,(.slice (some ⟨b,off,none⟩) p.ts.length aG))])):=ah acU;rw[hn2];clear hW2 hn2 x0 x1 x2 x3;have hrow:=zW.o.same HB2.o;go_wp2_with fail;obtain⟨wo,rfl⟩: ∃wo:World,wo=wr:=⟨_,rfl⟩;go_loopw [6] (λs wr=> ∃(k:Nat) (R:List ByteArray),s= .int .i64 k∧k+R.length=t.cZ.length∧t.cZ.all (λs=>Tk.jf s.data.toList)=R.all (λs=>Tk.jf s.data.toList)∧fP wr wr.heap.size R iU k∧Below wo.heap.size wo wr∧Sit w wr ((n2,0,.string t.nm)::(n2,1,.int .i64 t.line)::(n2,2,.slice iU t.cZ.length eU)::(n2,3,.slice dB t.body.len cu)::[(w.heap.size,0,(.slice aK p.ds.length aH)),(w.heap.size,1,(.slice (some ⟨b,off,none⟩) p.ts.length aG))])) (λs _=>t.cZ.length -(intOf s).toNat)
     case atStart=>exact⟨0,t.cZ,rfl,agJ,rfl,hrow,HB2.o,HV.o⟩
     case round=>
      obtain⟨k',R',rfl,hlen',heq',hrow',XR,LQ⟩:=hrel;have HC:=ah LQ;have Dm:=ah XR;have dG:=ah heq';clear LQ HV hrow heq' XR HB2;obtain⟨-,⟨-,c0⟩,⟨-,c1⟩,⟨-,c2⟩,⟨-,c3⟩,⟨-,c4⟩,⟨-,c5⟩,-⟩:=HC.o;cases R' with
      |cons s R'=>
       obtain⟨⟨b',off',rfl,hB',y0,hs⟩,hrest'⟩:=hrow';simp only[aD]at hlen';have hkl':k'<t.cZ.length:=agH;go_wp2_with fail;refine(ji _ _ hs).mono ?_;rintro e' w3 ⟨rfl,hb3⟩;have dR:=ah hb3;clear hb3 c0 c1 c2 c3 c4 c5 y0;exact Aam
      |nil=>
       obtain rfl:k'=t.cZ.length:=afs;go_wp2_with fail;refine(ji _ _ kK.o.1).mono ?_;rintro e' w3 ⟨rfl,hb3⟩;have dR:=ah (Dm.o.trans (hb3.mono Dm.o.size));have HD:=ah (HC.o.next hb3);clear hb3 c0 c1 c2 c3 c4 c5 HC Dm;cases hN:Tk.jf t.nm.data.toList
       ·rw[HE.o,List.all_cons,show pO t=false by unfold pO;rw[hN];rfl]at HS;go_wp2_with fail;go_ret;exact⟨bW (HS.o.trans agJ).symm,HD.o.1⟩
       ·obtain⟨-,⟨-,c0⟩,⟨-,c1⟩,⟨-,c2⟩,⟨-,c3⟩,⟨-,c4⟩,⟨-,c5⟩,-⟩:=HD.o;go_wp2_with fail;refine(GZ t.body _ _ _ kK.o.2.2.2 (HST.o.1.same dR.o)).mono ?_;rintro e' w4 ⟨rfl,hb4⟩;have kg:=ah (dR.o.trans (hb4.mono dR.o.size));have Tg:=ah (HD.o.next hb4);clear hb4 c0 c1 c2 c3 c4 c5;have HT:aj (pO t=gQ t.body):=ah (by unfold pO;rw[hN,dG.o];rfl);cases Ij:gQ t.body
        ·rw[HE.o,List.all_cons,HT.o,Ij]at HS;go_wp2_with fail;go_ret;exact⟨bW (HS.o.trans agJ).symm,Tg.o.1⟩
        ·have HF:=ah (HE.o.trans (by rw[List.all_cons,HT.o,Ij];rfl:_=R.all pO));go_wp2_with fail;go_roundg R.length
         case measure=>simp
         case rel=>exact⟨k+1,R,rfl,agL,agH,HF.o,hrest.same kg.o,HU.o.next kg.o⟩
end Go.Proofs.YtdoplekppjkkpaaGreatDoor
