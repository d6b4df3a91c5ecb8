/- Contracts of the reference's want, Nodes, names, Expr. And what hangs on it. -/
import Derived.Test.YtmildapbbcbbhaaGreatDoorGR0
import Derived.Test.YtmildapbbcbbhaaGreatDoorGMJ
set_option linter.unusedSimpArgs false
set_option linter.unusedVariables false
set_option maxHeartbeats 40000000
set_option maxRecDepth 1000000
namespace Go.Proofs.YtmildapbbcbbhaaGreatDoor
open Go.RowKit
open Md
theorem je (p:Pr) (i:Int) (nm:ByteArray) (a b:Int) (w:World) (aK aM:Option Addr) (aH aD:Nat) (hi:bW i) (hp:p.At w aK aM):
 Calls Tryz.prog 83 #[.agg #[.slice aK p.ds.length aH,.slice aM p.ts.length aD],.int .i64 i,.string nm,.int .i64 a,.int .i64 b] w λe w'=>e= .returned (.int .i64 (gM (conv (mean p i nm)) a b))∧Below w.heap.size w w':=by
 have HP:=ah hp;clear hp;go_enter Tryz.func83,Tryz.ntmps83;go_wp2_with fail;refine(UE p i nm _ aK aM aH aD hi (HP.o.same (au _ _))).mono ?_;rintro e w2 ⟨rfl,hb2⟩;have HB:=ah ((au w (.cells #[.slice aK p.ds.length aH,.slice aM p.ts.length aD] 26)).trans (hb2.mono (by simp)));clear hb2;have HE:aj (gM (conv (mean p i nm)) a b=if conv (mean p i nm)==0 then 5 else if(conv (mean p i nm) != a)&&(conv (mean p i nm) != b)then 6 else 0):=ah rfl;generalize hmm:conv (mean p i nm)=m at *;have HM:=ah hmm;clear hmm;go_wp2_with fail
 all_goals go_ret
 all_goals refine⟨bV ?_,HB.o⟩
 all_goals rw[HM.o,HE.o]
 all_goals (go_light;grind)
def Hw (op n:Int) (nm:ByteArray) (kids:bJ):Prop:=
 ∀(w:World) (ao:Option Addr) (cap:Nat),qP op n nm kids->kids.At w w.heap.size ao 0->
  Calls Tryz.prog 114 #[.agg #[.int .i64 op,.int .i64 n,.string nm,.slice ao kids.len cap]] w λe w'=>e= .returned (.tuple #[.int .i64 (ext kids).1,.int .i64 (ext kids).2])∧Below w.heap.size w w'
theorem UF (op n:Int) (nm:ByteArray) (kids:bJ) (ih:kids.All Hw):Hw op n nm kids:=by
 intro w ao cap hok hat;obtain⟨-,-,-,hl⟩:=hok;unfold maxLen at hl;have ru:=ah ih;have HAT:=ah hat;clear ih hat;go_enter Tryz.func114,Tryz.ntmps114;go_upto_region 2 with fail;generalize hW:World.alloc w _=W;generalize Value.agg #[_,_,_,_]=a0;have HX:=ah ((Sit.start w).zi rfl (.int .i64 op) (.int .i64 n) (.string nm) (.slice ao kids.len cap) 60);rw[hW]at HX;clear hW;go_wp2_with fail;go_loopw [4,5,6,7,8] (λs4 s5 s _ _ wr=> ∃(k:Nat) (R:bJ) (a d:Int),s= .int .i64 k∧s4= .int .i64 a∧s5= .int .i64 d∧k+R.len=kids.len∧Ci kids 1 0=Ci R a d∧R.All Hw∧R.At wr wr.heap.size ao k∧Sit w wr [(w.heap.size,0,.int .i64 op),(w.heap.size,1,.int .i64 n),(w.heap.size,2,.string nm),(w.heap.size,3,.slice ao kids.len cap)]) (λ_ _ s _ _ _=>kids.len -(intOf s).toNat)
 case atStart=>exact⟨0,kids,1,0,rfl,rfl,rfl,by simp,rfl,ru.o,HAT.o.same HX.o.1,HX.o⟩
 case round=>
  obtain⟨k,R,a,d,rfl,rfl,rfl,hlen,heq,hall,hrow,hB⟩:=hrel;have HE:=ah heq;have HY:=ah hB;clear heq hB HX;obtain⟨-,⟨-,c0⟩,⟨-,c1⟩,⟨-,c2⟩,⟨-,c3⟩,-⟩:=HY.o;cases R with
  |nil=>
   obtain rfl:k=kids.len:=by simpa[bJ.len]using hlen
   go_wp2_with fail
   go_ret2
   exact⟨jN (ext_nil HE.o).1 (ext_nil HE.o).2,HY.o.1⟩
  |cons op' n' nm' gZ rest=>
   obtain⟨⟨b,off,mF,cap',rfl,mV,x0,x1,x2,x3,hok',lK⟩,hrest⟩:=hrow;obtain⟨kN,oZ⟩:=hall;have hlt:k<kids.len:=by simp only[bJ.len]at hlen;omega
   go_wp2_with fail;refine(kN _ _ _ hok' lK).mono ?_;rintro e w2 ⟨rfl,hb2⟩;have HB3:=ah hb2;clear hb2 x0 x1 x2 x3 c0 c1 c2 c3 lK;go_wp2_with fail;go_roundw
   case rel=>exact⟨k+1,rest,_,_,by go_num,rfl,rfl,by simp only[bJ.len]at hlen;omega,HE.o,oZ,hrest.same HB3.o,HY.o.next HB3.o⟩
   case measure=>simp[intOf];omega
theorem PG (op n:Int) (nm:ByteArray) (kids:bJ):Hw op n nm kids:=bJ.zZ UF op n nm kids
def Bf (p:Pr) (i:Int) (op n:Int) (nm:ByteArray) (kids:bJ):Prop:=
 ∀(w:World) (aK aM ao:Option Addr) (aH aD cap:Nat),bW i->p.At w aK aM->qP op n nm kids->kids.At w w.heap.size ao 0->
  Calls Tryz.prog 115 #[.agg #[.slice aK p.ds.length aH,.slice aM p.ts.length aD],.int .i64 i,.agg #[.int .i64 op,.int .i64 n,.string nm,.slice ao kids.len cap]] w λe w'=>e= .returned (.int .i64 (uK p i op nm kids))∧Below w.heap.size w w'
theorem O6 (p:Pr) (i:Int) (op n:Int) (nm:ByteArray) (kids:bJ) (ih:kids.All (Bf p i)):Bf p i op n nm kids:=by
 intro w aK aM ao aH aD cap hi hp hok hat;obtain⟨-,-,-,hl⟩:=hok;unfold maxLen at hl;have ru:=ah ih;have HAT:=ah hat;have HP:=ah hp;clear ih hat hp;go_enter Tryz.func115,Tryz.ntmps115;go_upto_region 1 with fail;generalize hW:World.alloc (World.alloc w _) _=W;generalize Value.agg #[_,_]=a0;generalize Value.agg #[_,_,_,_]=a1;have HX:=ah (((Sit.start w).wG rfl (.slice aK p.ds.length aH) (.slice aM p.ts.length aD) 26).zi (n:=w.heap.size+1) (by simp) (.int .i64 op) (.int .i64 n) (.string nm) (.slice ao kids.len cap) 60);rw[hW]at HX;clear hW;obtain⟨-,⟨-,c0⟩,⟨-,c1⟩,⟨-,c2⟩,⟨-,c3⟩,⟨-,c4⟩,⟨-,c5⟩,-⟩:=HX.o;go_upto_block 0 with(fail);go_cut [7,10] (λs7 _ W2=>s7= .int .i64 (oI p i op nm)∧Sit w W2 [(w.heap.size+1,0,.int .i64 op),(w.heap.size+1,1,.int .i64 n),(w.heap.size+1,2,.string nm),(w.heap.size+1,3,.slice ao kids.len cap),(w.heap.size,0,.slice aK p.ds.length aH),(w.heap.size,1,.slice aM p.ts.length aD)])
 case first=>
  cases h2:(op==2)
  ·cases h3:(op==3)
   ·have HE:aj (oI p i op nm=0):=ah (by unfold oI;rw[h2,h3];rfl);go_wp2_with fail;go_meet;exact⟨by rw[HE.o],HX.o⟩
   ·have HE:aj (oI p i op nm=gM (conv (mean p i nm)) 2 2):=ah (by unfold oI;rw[h2,h3];exact(Rk _ 3 (Bo p i nm) (by decide)).symm);go_wp2_with fail;refine(je p i nm 2 2 _ aK aM aH aD hi (HP.o.same HX.o.1)).mono ?_;rintro e w2 ⟨rfl,hb2⟩;go_wp2_with fail;go_meet;exact⟨by rw[HE.o],HX.o.next hb2⟩
  ·have HE:aj (oI p i op nm=gM (conv (mean p i nm)) 8 1):=ah (by unfold oI;rw[h2];exact(Rl _ 1 2 (Bo p i nm) (by decide) (by decide)).symm);go_wp2_with fail;refine(je p i nm 8 1 _ aK aM aH aD hi (HP.o.same HX.o.1)).mono ?_;rintro e w2 ⟨rfl,hb2⟩;go_wp2_with fail;go_meet;exact⟨by rw[HE.o],HX.o.next hb2⟩
 case rest=>
  obtain⟨rfl,hX⟩:=hcut;have HY:=ah hX;clear hX HX c0 c1 c2 c3 c4 c5;have HR:aj (uK p i op nm kids=if oI p i op nm==0 then qj p i kids else oI p i op nm):=ah rfl;generalize oI p i op nm=r0 at *;go_wp2_with fail;go_loopw [7,8] (λs7 s8 wr=> ∃(k:Nat) (R:bJ) (r:Int),s8= .int .i64 k∧s7= .int .i64 r∧k+R.len=kids.len∧uK p i op nm kids=(if r==0 then qj p i R else r)∧R.All (Bf p i)∧R.At wr wr.heap.size ao k∧Sit w wr [(w.heap.size+1,0,.int .i64 op),(w.heap.size+1,1,.int .i64 n),(w.heap.size+1,2,.string nm),(w.heap.size+1,3,.slice ao kids.len cap),(w.heap.size,0,.slice aK p.ds.length aH),(w.heap.size,1,.slice aM p.ts.length aD)]) (λ_ s _=>kids.len -(intOf s).toNat)
  case atStart=>exact⟨0,kids,r0,rfl,rfl,by simp,HR.o,ru.o,HAT.o.same HY.o.1,HY.o⟩
  case round=>
   obtain⟨k,R,r,rfl,rfl,hlen,heq,hall,hrow,hsit⟩:=hrel;have HE:=ah heq;have HZ:=ah hsit;clear heq hsit;obtain⟨-,⟨-,c0⟩,⟨-,c1⟩,⟨-,c2⟩,⟨-,c3⟩,⟨-,c4⟩,⟨-,c5⟩,-⟩:=HZ.o;cases R with
   |nil=>obtain rfl:k=kids.len:=(by simpa[bJ.len]using hlen);go_wp2_with fail;go_ret;exact⟨bV (HE.o.trans (by cases h:(r==0) <;> simp_all[qj])).symm,HZ.o.1⟩
   |cons op' n' nm' gZ rest=>
    obtain⟨⟨b,off,mF,cap',rfl,mV,x0,x1,x2,x3,hok',lK⟩,hrest⟩:=hrow;obtain⟨kN,oZ⟩:=hall;have hlt:k<kids.len:=(by simp only[bJ.len]at hlen;omega);cases hr:(r==0)
    ·have dL:=ah (HE.o.trans (by rw[hr];rfl:_=r));go_wp2_with fail;go_ret;exact⟨bV dL.o.symm,HZ.o.1⟩
    ·have dL:=ah (HE.o.trans (by rw[hr];rfl:_=qj p i (.cons op' n' nm' gZ rest)));go_wp2_with fail;obtain⟨T,F,Af,hst,hF,hnext⟩:=calm wr;have HF:=ah hF;have dB:=ah hnext;clear hnext hF;have d0:=λx=>(HZ.o.next (HF.o x)).2.1.2;have d1:=λx=>(HZ.o.next (HF.o x)).2.2.1.2;have d2:=λx=>(HZ.o.next (HF.o x)).2.2.2.1.2;have d3:=λx=>(HZ.o.next (HF.o x)).2.2.2.2.1.2;have d4:=λx=>(HZ.o.next (HF.o x)).2.2.2.2.2.1.2;have d5:=λx=>(HZ.o.next (HF.o x)).2.2.2.2.2.2.1.2;have y0:=λx=>((HF.o x).cell (p:=⟨b,off+k*4,none⟩) mV).trans x0;have y1:=λx=>((HF.o x).cell (p:=⟨b,off+k*4+1,none⟩) mV).trans x1;have y2:=λx=>((HF.o x).cell (p:=⟨b,off+k*4+2,none⟩) mV).trans x2;have y3:=λx=>((HF.o x).cell (p:=⟨b,off+k*4+3,none⟩) mV).trans x3;clear c0 c1 c2 c3 c4 c5 x0 x1 x2 x3;have hk0:(0:Int)<=k:=(by omega);have hk1:(k:Int)<kids.len:=(by omega);refine jh F (by kernel_rfl) (by kernel_rfl) hst ?_
     repeat (any_goals (first|go_big_quiet_step ((go_at_call 115;refine(kN _ aK aM mF aH aD cap' hi ((HP.o.same HZ.o.1).same (HF.o _)) hok' (lK.same (HF.o _))).mono ?_;rintro e w' ⟨rfl,hb⟩;exact⟨rfl,dB.o _ _ hb⟩))|(refine wpQuiet_step (λK hK=> ?_);go_simp;first|(refine hK _ ?_;clear hK K)|(split <;> first|(refine hK _ ?_;clear hK K)|(apply Exists.intro;refine⟨λ_=> ?_,hK _ ?_⟩;((go_at_call 115;refine(kN _ aK aM mF aH aD cap' hi ((HP.o.same HZ.o.1).same (HF.o _)) hok' (lK.same (HF.o _))).mono ?_;rintro e w' ⟨rfl,hb⟩;exact⟨rfl,dB.o _ _ hb⟩));clear hK K)))))
     all_goals (refine wpQuiet_nil ?_;rintro _ ⟨x,rfl⟩)
     have HB2:=ah (HF.o x);clear d0 d1 d2 d3 d4 d5 y0 y1 y2 y3 HF dB hst;generalize F x=W2 at *;go_wp2_with fail;go_roundw
     case rel=>exact⟨k+1,rest,_,by go_num,rfl,by simp only[bJ.len]at hlen;omega,dL.o.trans (NP p i op' n' nm' gZ rest),oZ,hrest.same HB2.o,HZ.o.next HB2.o⟩
     case measure=>simp[intOf];omega
theorem PE (p:Pr) (i:Int) (op n:Int) (nm:ByteArray) (kids:bJ):Bf p i op n nm kids:=bJ.zZ (O6 p i) op n nm kids
theorem jA (p:Pr) (i:Int) (op n:Int) (nm:ByteArray) (kids:bJ) (w:World) (aK aM ao:Option Addr) (aH aD cap:Nat) (hi:bW i) (hp:p.At w aK aM) (hok:qP op n nm kids) (hat:kids.At w w.heap.size ao 0):
 Calls Tryz.prog 84 #[.agg #[.slice aK p.ds.length aH,.slice aM p.ts.length aD],.int .i64 i,.agg #[.int .i64 op,.int .i64 n,.string nm,.slice ao kids.len cap]] w λe w'=>e= .returned (.int .i64 (jW p i op n nm kids))∧Below w.heap.size w w':=by
 have HAT:=ah hat;have HP:=ah hp;clear hat hp;go_enter Tryz.func84,Tryz.ntmps84;go_upto_region 1 with fail;generalize hW:World.alloc (World.alloc w _) _=W;generalize Value.agg #[_,_]=a0;generalize Value.agg #[_,_,_,_]=a1;have HX:=ah (((Sit.start w).wG rfl (.slice aK p.ds.length aH) (.slice aM p.ts.length aD) 26).zi (n:=w.heap.size+1) (by simp) (.int .i64 op) (.int .i64 n) (.string nm) (.slice ao kids.len cap) 60);rw[hW]at HX;clear hW;obtain⟨-,⟨-,c0⟩,⟨-,c1⟩,⟨-,c2⟩,⟨-,c3⟩,⟨-,c4⟩,⟨-,c5⟩,-⟩:=HX.o;go_wp2_with fail;refine(vJ op n nm kids _ ao cap hok (HAT.o.same HX.o.1)).mono ?_;rintro e w1 ⟨rfl,hb1⟩;have HY:=ah (HX.o.next hb1);clear HX hb1 c0 c1 c2 c3 c4 c5;obtain⟨-,⟨-,c0⟩,⟨-,c1⟩,⟨-,c2⟩,⟨-,c3⟩,⟨-,c4⟩,⟨-,c5⟩,-⟩:=HY.o;cases hS:jQ op n nm kids
 ·have HE:aj (jW p i op n nm kids=3):=ah (by unfold jW;rw[hS];rfl);go_wp2_with fail;go_ret;exact⟨bV HE.o.symm,HY.o.1⟩
 ·have HE:aj (jW p i op n nm kids=if decide (24<(ext kids).1)||decide (6<(ext kids).2)then 2 else uK p i op nm kids):=ah (by unfold jW;rw[hS];rfl);go_wp2_with fail;refine(PG op n nm kids _ ao cap hok (HAT.o.same HY.o.1)).mono ?_;rintro e w2 ⟨rfl,hb2⟩;have HZ:=ah (HY.o.next hb2);clear HY hb2 c0 c1 c2 c3 c4 c5;obtain⟨-,⟨-,c0⟩,⟨-,c1⟩,⟨-,c2⟩,⟨-,c3⟩,⟨-,c4⟩,⟨-,c5⟩,-⟩:=HZ.o;generalize (ext kids).1=a at *;generalize (ext kids).2=d at *;cases h1:decide (24<a)
  ·cases h2:decide (6<d)
   ·have dL:=ah (HE.o.trans (by rw[h1,h2];rfl:_=uK p i op nm kids));have q1:a<=24:=(by simpa using h1);have q2:d<=6:=(by simpa using h2);go_wp2_with fail;refine(PE p i op n nm kids _ aK aM ao aH aD cap hi (HP.o.same HZ.o.1) hok (HAT.o.same HZ.o.1)).mono ?_;rintro e w3 ⟨rfl,hb3⟩;go_wp2_with fail;go_ret;exact⟨bV dL.o.symm,(HZ.o.next hb3).1⟩
   ·have dL:=ah (HE.o.trans (if_pos (by rw[h1,h2];rfl)));have q1:a<=24:=(by simpa using h1);have q2:6<d:=(by simpa using h2);go_wp2_with fail;go_ret;exact⟨bV dL.o.symm,HZ.o.1⟩
  ·have dL:=ah (HE.o.trans (if_pos (by rw[h1];rfl)));have q1:24<a:=by simpa using h1
   go_wp2_with fail;go_ret;exact⟨bV dL.o.symm,HZ.o.1⟩
theorem Nb (ds:List De) (nm:ByteArray):(zh ds nm= -1∧nu ds nm.toList=false)∨∃j:Nat,zh ds nm=(j:Int)∧nu ds nm.toList=true:=by
 rcases pO (λd:De=>d.nm.toList==nm.toList) ds 0 with⟨h1,h2,h3⟩|⟨j,d,r,h0,h1,h2,h3,h4⟩
 ·exact Or.inl ⟨h1,h3⟩
 ·exact Or.inr ⟨j,by rw[<- aU j];exact h1,h4⟩
theorem Nf (ts:List Th) (nm:ByteArray):(qz ts nm= -1∧nH ts nm.toList=false)∨∃j:Nat,qz ts nm=(j:Int)∧nH ts nm.toList=true:=by
 rcases pO (λd:Th=>d.nm.toList==nm.toList) ts 0 with⟨h1,h2,h3⟩|⟨j,d,r,h0,h1,h2,h3,h4⟩
 ·exact Or.inl ⟨h1,h3⟩
 ·exact Or.inr ⟨j,by rw[<- aU j];exact h1,h4⟩
theorem Gm (ts:List ByteArray) (nm:ByteArray):(LV ts nm= -1∧nG ts nm.toList=false)∨∃j:Nat,LV ts nm=(j:Int)∧nG ts nm.toList=true:=by
 rcases pO (λd:ByteArray=>d.toList==nm.toList) ts 0 with⟨h1,h2,h3⟩|⟨j,d,r,h0,h1,h2,h3,h4⟩
 ·exact Or.inl ⟨h1,h3⟩
 ·exact Or.inr ⟨j,by rw[<- aU j];exact h1,h4⟩
theorem LK (p:Pr) (w:World) (aK aM:Option Addr) (aH aD:Nat) (hp:p.At w aK aM) (Qi:p.ts.length<=aD):
 Calls Tryz.prog 26 #[.agg #[.slice aK p.ds.length aH,.slice aM p.ts.length aD]] w λe w'=>e= .returned (.tuple #[.int .i64 (kF p).1,.int .i64 (kF p).2])∧Below w.heap.size w w':=by
 have HR:aj (kF p=match qZ p.ds p.ts []with|some l=>(4,l)|none=>vN p.ds p.ts p.ts):=ah rfl;generalize kF p=res at *;have hld:=hp.1;have hlt:=hp.2.1;have Vf:=hp.1;have hlt':=hp.2.1;unfold maxLen at hld hlt;have HP:=ah hp;clear hp;go_enter Tryz.func26,Tryz.ntmps26;go_upto_region 1 with fail;generalize hW:World.alloc w _=W;generalize Value.agg #[_,_]=a0;have HX:=ah ((Sit.start w).wG rfl (.slice aK p.ds.length aH) (.slice aM p.ts.length aD) 26);rw[hW]at HX;clear hW;go_wp2_with fail;go_loopg [4,5] p.ts.length (λg s _ wr=> ∃(k:Nat) (pre R:List Th),g=R.length∧s= .int .i64 k∧pre++R=p.ts∧pre.length=k∧qZ p.ds p.ts []=qZ p.ds R pre∧Sit w wr [(w.heap.size,0,(.slice aK p.ds.length aH)),(w.heap.size,1,(.slice aM p.ts.length aD))])
 case atStart=>exact⟨0,[],p.ts,rfl,rfl,rfl,rfl,rfl,HX.o⟩
 case round=>
  obtain⟨k,pre,R,rfl,rfl,hds,hk,heq,hsit⟩:=hrel;have HU:=ah hsit;have HE:=ah heq;clear hsit heq HX;have hlen:k+R.length=p.ts.length:=by rw[<- hds,ay,hk]
  have hrow:=(HP.o.2.2.2.below HU.o.1).drop k;rw[aU,<- hds,<- hk,List.drop_left]at hrow;rw[hk]at hrow;have BP:=ah ((hds ▸ HP.o.2.2.2:iJ w w.heap.size (pre++R) aM 0).take);have vg:=ah hds;have HK:=ah hk;clear hds hk;cases R with
  |cons t R=>
   obtain⟨⟨b,off,iR,eX,dH,cu,rfl,hB,x0,x1,x2,x3,hok,htx,hst⟩,-⟩:=hrow;simp only[aA]at hlen;have hkl:k<p.ts.length:=by omega
   clear htx hst;obtain⟨-,⟨-,c0⟩,⟨-,c1⟩,-⟩:=HU.o;go_upto_region 5 with fail;clear c0 c1;obtain⟨nb,hnb⟩: ∃n,wr.heap.size=n:=⟨_,rfl⟩;generalize hW2:World.alloc wr _=W2;have HY:aj (Sit w W2 ((nb,0,.string t.nm)::(nb,1,.int .i64 t.line)::(nb,2,.slice iR t.cO.length eX)::(nb,3,.slice dH t.body.len cu)::[(w.heap.size,0,(.slice aK p.ds.length aH)),(w.heap.size,1,(.slice (some ⟨b,off,none⟩) p.ts.length aD))])):=ah (by rw[<- hW2];exact HU.o.zi hnb _ _ _ _ _);rw[hnb];clear hW2 hnb x0 x1 x2 x3 HU;obtain⟨-,⟨-,c0⟩,⟨-,c1⟩,⟨-,c2⟩,⟨-,c3⟩,⟨-,c4⟩,⟨-,c5⟩,-⟩:=HY.o;have hpl:pre.length<=maxLen:=by rw[HK.o];omega
   have xK:aj (∀nq:Nat,Calls Tryz.prog 52 #[.slice aK p.ds.length aH,.string t.nm] (W2.drewN nq) λe w'=>e= .returned (.int .i64 (zh p.ds t.nm))∧W2.drewN nq=w'):=ah (λnq=>by have hb':=below_drewN (n:=nq) HY.o.1;exact oJ p.ds t.nm (W2.drewN nq) aK aH Vf ((HP.o.2.2.1.below hb').mono hb'.size));have IB:aj (∀nq:Nat,Calls Tryz.prog 53 #[.slice (some ⟨b,off,none⟩) k aD,.string t.nm] (W2.drewN nq) λe w'=>e= .returned (.int .i64 (qz pre t.nm))∧W2.drewN nq=w'):=ah (λnq=>by have hb':=below_drewN (n:=nq) HY.o.1;have:=jc pre t.nm (W2.drewN nq) (some ⟨b,off,none⟩) aD hpl ((BP.o.below hb').mono hb'.size);rw[HK.o]at this;exact this);have hk0:(0:Int)<=k:=by omega
   have hk1:(k:Int)<=aD:=by omega
   have hk2:k<=aD:=by omega
   go_cut [37] (λs' W3=>s'= .bool (nu p.ds t.nm.toList||nH pre t.nm.toList)∧Sit w W3 ((nb,0,.string t.nm)::(nb,1,.int .i64 t.line)::(nb,2,.slice iR t.cO.length eX)::(nb,3,.slice dH t.body.len cu)::[(w.heap.size,0,(.slice aK p.ds.length aH)),(w.heap.size,1,(.slice (some ⟨b,off,none⟩) p.ts.length aD))]))
   case first=>
    as_aux_lemma=>
     rcases Nb p.ds t.nm with⟨e1,e2⟩|⟨j,e1,e2⟩
     ·rw[e1]at xK;rcases Nf pre t.nm with⟨e3,e4⟩|⟨j',e3,e4⟩
      all_goals rw[e3]at IB;have HF:=ah e2;have HG:=ah e4;clear e1 e2 e3 e4;go_quiet (first|(go_at_call 52;exact oK (xK.o _))|(go_at_call 53;exact oK (IB.o _)));go_wp2_with fail;go_meet;exact⟨by rw[HF.o,HG.o];rfl,HY.o.draws _⟩
     ·rw[e1]at xK;have HF:=ah e2;have hj:decide ((j:Int) ≥ 0)=true:=(by simp);clear e1 e2;go_quiet (first|(go_at_call 52;exact oK (xK.o _))|(go_at_call 53;exact oK (IB.o _)));go_wp2_with fail;go_meet;exact⟨by rw[HF.o];rfl,HY.o.draws _⟩
   obtain⟨rfl,hX⟩:=hcut;have HZ:=ah hX;have HB3:=ah hX.1;clear hX HY xK IB c0 c1 c2 c3 c4 c5;cases uF:(nu p.ds t.nm.toList||nH pre t.nm.toList)
   ·have dL:=ah (HE.o.trans (if_neg (by rw[uF];decide)));go_wp2_with fail;go_roundg R.length
    case measure=>simp
    case rel=>exact⟨k+1,pre++[t],R,rfl,by go_num,by rw[List.append_assoc];exact vg.o,by rw[ay,HK.o];rfl,dL.o,⟨HZ.o.1,HZ.o.2.2.2.2.2⟩⟩
   ·have HF:aj (res=(4,t.line)):=ah (HR.o.trans (by rw[HE.o.trans (if_pos uF)]));obtain⟨-,⟨-,c0⟩,⟨-,c1⟩,⟨-,c2⟩,⟨-,c3⟩,⟨-,c4⟩,⟨-,c5⟩,-⟩:=HZ.o;go_wp2_with fail;go_quiet (fail);go_wp2_with fail
    go_ret2
    exact⟨jN (congrArg Prod.fst HF.o) (congrArg Prod.snd HF.o),below_drewN HB3.o _⟩
  |nil=>
   obtain rfl:k=p.ts.length:=by simpa using hlen
   have HR2:aj (res=vN p.ds p.ts p.ts):=ah (HR.o.trans (by rw[HE.o];rfl));clear hrow hlen vg HK HE HR BP;have hth:=HP.o.2.2.2.below HU.o.1;obtain⟨-,⟨-,c0⟩,⟨-,c1⟩,-⟩:=HU.o;go_wp2_with fail;go_loopg [6,7,8,9] p.ts.length (λg s _ _ _ wr=> ∃(k:Nat) (R:List Th),g=R.length∧s= .int .i64 k∧k+R.length=p.ts.length∧vN p.ds p.ts p.ts=vN p.ds p.ts R∧iJ wr w.heap.size R aM k∧Sit w wr [(w.heap.size,0,(.slice aK p.ds.length aH)),(w.heap.size,1,(.slice aM p.ts.length aD))])
   case atStart=>exact⟨0,p.ts,rfl,rfl,by simp,rfl,hth,HU.o⟩
   case round=>
    obtain⟨k,R,rfl,rfl,hlen,heq,hrow,hsit⟩:=hrel;have HV:=ah hsit;have HE:=ah (HR2.o.trans heq);have MJ:=ah heq;clear hsit HU c0 c1 heq hth;obtain⟨-,⟨-,c0⟩,⟨-,c1⟩,-⟩:=HV.o;cases R with
    |nil=>
     obtain rfl:k=p.ts.length:=(by simpa using hlen);have HF:=ah (HE.o.trans (rfl:_=((0:Int),(0:Int))));go_wp2_with fail
     go_ret2
     exact⟨jN (congrArg Prod.fst HF.o) (congrArg Prod.snd HF.o),HV.o.1⟩
    |cons t R=>
     obtain⟨⟨b,off,iR,eX,dH,cu,rfl,hB,x0,x1,x2,x3,hok,htx,hst⟩,hrest⟩:=hrow;simp only[aA]at hlen;have hkl:k<p.ts.length:=(by omega);have bM5:=hok.2.2.1;have hll:=hok.2.2.1;have hcl:=hst.2;unfold maxLen at hll;clear hst hok;go_upto_region 11 with fail;clear c0 c1;obtain⟨nb,hnb⟩: ∃n,wr.heap.size=n:=⟨_,rfl⟩;generalize hW2:World.alloc wr _=W2;have HY:aj (Sit w W2 ((nb,0,.string t.nm)::(nb,1,.int .i64 t.line)::(nb,2,.slice iR t.cO.length eX)::(nb,3,.slice dH t.body.len cu)::[(w.heap.size,0,(.slice aK p.ds.length aH)),(w.heap.size,1,(.slice (some ⟨b,off,none⟩) p.ts.length aD))])):=ah (by rw[<- hW2];exact HV.o.zi hnb _ _ _ _ _);have BG:aj (Below wr.heap.size wr W2):=ah (by rw[<- hW2];exact au _ _);have BU:=ah (htx.below (BG.o.mono HV.o.1.size));have mQ:=ah (hrest.below (BG.o.mono HV.o.1.size));have HB3:=ah HY.o.1;rw[hnb];clear hW2 hnb x0 x1 x2 x3 HV htx hrest BG;obtain⟨-,⟨-,c0⟩,⟨-,c1⟩,⟨-,c2⟩,⟨-,c3⟩,⟨-,c4⟩,⟨-,c5⟩,-⟩:=HY.o;cases h1:decide ((4:Int)<t.cO.length)
     case true=>
      as_aux_lemma=>
       have HF:=ah (HE.o.trans (if_pos h1));have h1':4<t.cO.length:=(by simp at h1;omega);clear h1;go_wp2_with fail;go_quiet (fail);go_wp2_with fail
       go_ret2
       exact⟨jN (congrArg Prod.fst HF.o) (congrArg Prod.snd HF.o),below_drewN HB3.o _⟩
     have HE2:=ah (HE.o.trans (if_neg (by rw[h1];decide)));have pG:=ah (MJ.o.trans (if_neg (by rw[h1];decide)));have h1':t.cO.length<=4:=(by simp at h1;omega);clear HE MJ h1;go_wp2_with fail;go_loopg [8,9] t.cO.length (λg s _ wx=>W2=wx∧∃(k':Nat) (pre R':List ByteArray),g=R'.length∧s= .int .i64 k'∧pre++R'=t.cO∧pre.length=k'∧qB p.ds p.ts t.cO []=qB p.ds p.ts R' pre)
     case atStart=>exact⟨rfl,0,[],t.cO,rfl,rfl,rfl,rfl,rfl⟩
     case round=>
      obtain⟨rfl,k',pre,R',rfl,rfl,hds,hk',heq'⟩:=hrel;have dL:=ah heq';have hlen':k'+R'.length=t.cO.length:=(by rw[<- hds,ay,hk']);have hrow:=BU.o.drop k';rw[aU,<- hds,<- hk',List.drop_left]at hrow;rw[hk']at hrow;have BP:=ah ((hds ▸ BU.o:fJ W2 w.heap.size (pre++R') iR 0).take);have vg:=ah hds;have HK:=ah hk';clear hds hk' heq';cases R' with
      |nil=>
       obtain rfl:k'=t.cO.length:=(by simpa using hlen');have HF:=ah (pG.o.trans (if_neg (by rw[dL.o];simp[qB])));go_wp2_with fail;go_roundg R.length
       case measure=>simp
       case rel=>exact⟨k+1,R,rfl,by go_num,by omega,HF.o,mQ.o,⟨HY.o.1,HY.o.2.2.2.2.2⟩⟩
      |cons s R'=>
       obtain⟨⟨b',off',rfl,hB',y0,hs⟩,-⟩:=hrow;simp only[aA]at hlen';have hkl':k'<t.cO.length:=(by omega);have HL:aj (qB p.ds p.ts t.cO []=((nu p.ds s.toList||nH p.ts s.toList)||nG pre s.toList||qB p.ds p.ts R' (pre++[s]))):=ah (dL.o.trans (by rw[qB]));have hpl:pre.length<=maxLen:=(by rw[HK.o];omega);have xK:=ah (oJ p.ds s W2 aK aH Vf ((HP.o.2.2.1.below HY.o.1).mono HY.o.1.size));have IB:=ah (jc p.ts s W2 (some ⟨b,off,none⟩) aD hlt' ((HP.o.2.2.2.below HY.o.1).mono HY.o.1.size));have IJ:=ah (nV pre s W2 (some ⟨b',off',none⟩) eX hpl (BP.o.mono HY.o.1.size));rw[HK.o]at IJ;have hk0:(0:Int)<=k':=(by omega);have hk1:(k':Int)<=eX:=(by omega);have hk2:k'<=eX:=(by omega);clear dL;go_upto_region 17 with fail;go_cut [90] (λs' W3=>W2=W3∧s'= .bool ((nu p.ds s.toList||nH p.ts s.toList)||nG pre s.toList))
       case first=>
        as_aux_lemma=>
         rcases Nb p.ds s with⟨e1,e2⟩|⟨j,e1,e2⟩
         ·rcases Nf p.ts s with⟨e3,e4⟩|⟨j,e3,e4⟩
          ·rcases Gm pre s with⟨e5,e6⟩|⟨j,e5,e6⟩
           all_goals rw[e1]at xK;rw[e3]at IB;rw[e5]at IJ;have HF:aj (nu p.ds s.toList=false∧nH p.ts s.toList=false∧nG pre s.toList=_):=ah ⟨e2,e4,e6⟩;clear e1 e2 e3 e4 e5 e6;go_wp2_with (first|(go_at_call 52;refine xK.o.mono ?_;rintro e w' ⟨rfl,rfl⟩)|(go_at_call 53;refine IB.o.mono ?_;rintro e w' ⟨rfl,rfl⟩)|(go_at_call 54;refine IJ.o.mono ?_;rintro e w' ⟨rfl,rfl⟩));go_meet;exact⟨rfl,by rw[HF.o.1,HF.o.2.1,HF.o.2.2];rfl⟩
          ·rw[e1]at xK;rw[e3]at IB;have HF:aj (nu p.ds s.toList=false∧nH p.ts s.toList=true):=ah ⟨e2,e4⟩;clear e1 e2 e3 e4;go_wp2_with (first|(go_at_call 52;refine xK.o.mono ?_;rintro e w' ⟨rfl,rfl⟩)|(go_at_call 53;refine IB.o.mono ?_;rintro e w' ⟨rfl,rfl⟩));go_meet;exact⟨rfl,by rw[HF.o.1,HF.o.2];rfl⟩
         ·rw[e1]at xK;have HF:=ah e2;clear e1 e2;go_wp2_with (go_at_call 52;refine xK.o.mono ?_;rintro e w' ⟨rfl,rfl⟩);go_meet;exact⟨rfl,by rw[HF.o];rfl⟩
       obtain⟨rfl,rfl⟩:=hcut;clear xK IB IJ;cases uF:((nu p.ds s.toList||nH p.ts s.toList)||nG pre s.toList)
       ·have HF:aj (qB p.ds p.ts t.cO []=qB p.ds p.ts R' (pre++[s])):=ah (HL.o.trans (by rw[uF];rfl));go_wp2_with fail;go_roundg R'.length
        case measure=>simp
        case rel=>exact⟨rfl,k'+1,pre++[s],R',rfl,by go_num,by rw[List.append_assoc];exact vg.o,by rw[ay,HK.o];rfl,HF.o⟩
       ·have HF:=ah (HE2.o.trans (if_pos (by rw[HL.o,uF];rfl)));go_wp2_with fail;go_quiet (fail);go_wp2_with fail
        go_ret2
        exact⟨jN (congrArg Prod.fst HF.o) (congrArg Prod.snd HF.o),below_drewN HB3.o _⟩
def za (l:aY):Prop:= ∀(w:World) (ao:Option Addr) (cap:Nat),l.len<=maxLen->l.At w w.heap.size ao 0->
 Calls Tryz.prog 27 #[.slice ao l.len cap] w λe w'=>e= .returned (.int .i64 (EO l))∧Below w.heap.size w w'
theorem Dy (l:aY) (hall:l.All λ_ b e=>za b∧za e):za l:=by
 intro w ao cap hl hat;generalize hres:EO l=res;have HR:=ah hres;have HAT:=ah hat;have ku:=ah hall;unfold maxLen at hl;clear hres hat hall;go_enter Tryz.func27,Tryz.ntmps27;go_wp2_with fail;go_loopw [3,4] (λs3 s wr=> ∃(k:Nat) (R:aY) (n:Int),s= .int .i64 k∧s3= .int .i64 n∧k+R.len=l.len∧res=Gt R n∧(R.All λ_ b e=>za b∧za e)∧R.At wr wr.heap.size ao k∧Below w.heap.size w wr) (λ_ s _=>l.len -(intOf s).toNat)
 case atStart=>exact⟨0,l,l.len,rfl,rfl,by simp,HR.o.symm,ku.o,HAT.o,ak _ _⟩
 case round=>
  obtain⟨k,R,n,rfl,rfl,hlen,heq,oZ,hrow,hB⟩:=hrel;have HE:=ah heq;have HB:=ah hB;clear heq hB;cases R with
  |nil=>
   obtain rfl:k=l.len:=by simpa[aY.len]using hlen
   go_wp2_with fail;go_ret;exact⟨bV HE.o.symm,HB.o⟩
  |cons h b e R=>
   obtain⟨bl,off,s,rfl,hbl,hin,-,-,-,-,-,-,-,-,-,x9,x10,hrest⟩:=aY.At.head hrow;obtain⟨⟨hsb,hse⟩,Cq⟩:=oZ;have dO:=ah hsb;have E8:=ah hse;have iq:=ah hin;have hkl:k<l.len:=by simp only[aY.len]at hlen;omega
   have hk0:(0:Int)<=k:=by omega
   have hk1:(k:Int)<l.len:=by omega
   clear hrow hin hsb hse;go_wp2_with fail;obtain⟨T,F,Af,hst,hF,hnext⟩:=calm wr;have HF:=ah hF;have dB:=ah hnext;clear hF hnext;have y9:=λx=>((HF.o x).cell (p:=⟨bl,off+k*11+9,none⟩) hbl).trans x9;have jy:=λx=>((HF.o x).cell (p:=⟨bl,off+k*11+10,none⟩) hbl).trans x10;clear x9 x10;refine jh F (by kernel_rfl) (by kernel_rfl) hst ?_
   repeat (any_goals (first|go_big_quiet_step ((first|(go_at_call_of 27 (Value.slice s.dH b.len s.cu);refine(dO.o _ s.dH s.cu iq.o.1.2.2.2.2.2.2.1 (iq.o.same (HF.o _)).2.2.2.1).mono ?_;rintro e w' ⟨rfl,hb⟩;exact⟨rfl,dB.o _ _ hb⟩)|(go_at_call_of 27 (Value.slice s.iC e.len s.gy);refine(E8.o _ s.iC s.gy iq.o.1.2.2.2.2.2.2.2 (iq.o.same (HF.o _)).2.2.2.2).mono ?_;rintro e w' ⟨rfl,hb⟩;exact⟨rfl,dB.o _ _ hb⟩)))|(refine wpQuiet_step (λK hK=> ?_);go_simp;first|(refine hK _ ?_;clear hK K)|(split <;> first|(refine hK _ ?_;clear hK K)|(apply Exists.intro;refine⟨λ_=> ?_,hK _ ?_⟩;((first|(go_at_call_of 27 (Value.slice s.dH b.len s.cu);refine(dO.o _ s.dH s.cu iq.o.1.2.2.2.2.2.2.1 (iq.o.same (HF.o _)).2.2.2.1).mono ?_;rintro e w' ⟨rfl,hb⟩;exact⟨rfl,dB.o _ _ hb⟩)|(go_at_call_of 27 (Value.slice s.iC e.len s.gy);refine(E8.o _ s.iC s.gy iq.o.1.2.2.2.2.2.2.2 (iq.o.same (HF.o _)).2.2.2.2).mono ?_;rintro e w' ⟨rfl,hb⟩;exact⟨rfl,dB.o _ _ hb⟩)));clear hK K)))))
   all_goals (refine wpQuiet_nil ?_;rintro _ ⟨x,rfl⟩)
   have HB2:=ah (HF.o x);clear y9 jy HF dB hst;generalize F x=W3 at *;go_wp2_with fail;go_roundw
   case rel=>exact⟨k+1,R,_,by go_num,rfl,by simp only[aY.len]at hlen;omega,HE.o.trans (show Gt R (wrap64 (n+(EO b+EO e)))=_ by rw[<- wrap_in']),Cq,hrest.same HB2.o,HB.o.trans (HB2.o.mono HB.o.size)⟩
   case measure=>simp[intOf];omega
theorem Py (l:aY):za l:=Dy l (aY.nW (λ_ b e hb he=>⟨Dy b hb,Dy e he⟩) l)
theorem SH (pre:List De) (nm:ByteArray):(zh pre nm= -1∧mD pre nm.toList=0)∨∃(j:Nat) (d:De) (r:List De),j<pre.length∧zh pre nm=(j:Int)∧pre.drop j=d::r∧mD pre nm.toList=gI d:=by
 unfold zh mD;rcases pO (λd:De=>d.nm.toList==nm.toList) pre 0 with⟨h1,h2,h3⟩|⟨j,d,r,h0,h1,h2,h3,h4⟩
 ·exact Or.inl ⟨h1,by rw[h2];rfl⟩
 ·exact Or.inr ⟨j,d,r,h0,by rw[h1,aU],h2,by rw[h3];rfl⟩
theorem Ru {d:De} :(gI d != 4)=(d.kind != 3):=by unfold gI;grind
def aq1 (ds:List De) (w:World) (res:Int×Int) (g:Nat) (s4 s5 s6 s7 s8:Value) (wr:World):Prop:=
 ∃(k:Nat) (pre R:List De) (c l n f:Int),g=R.length∧s8= .int .i64 k∧pre++R=ds∧pre.length=k∧s4= .int .i64 c∧s5= .int .i64 l∧s6= .int .i64 n∧s7= .int .i64 f∧
  (0<=c∧c<=12∧0<=l∧l<=4∧0<=n∧n<=2∧0<=f∧f<=2)∧res=mg R pre c l n f∧Below w.heap.size w wr
theorem PD (ds:List De) (w:World) (ao:Option Addr) (cap:Nat) (hl:ds.length<=maxLen) (hcap:ds.length<=cap) (hat:jo w w.heap.size ds ao 0) (hsh: ∀d∈ds,jG d=true):
 Calls Tryz.prog 25 #[.slice ao ds.length cap] w λe w'=>e= .returned (.tuple #[.int .i64 (mg ds [] 0 0 0 0).1,.int .i64 (mg ds [] 0 0 0 0).2])∧Below w.heap.size w w':=by
 generalize hres:mg ds [] 0 0 0 0=res;have HR:=ah hres;have HAT:=ah hat;have BR:=ah hsh;have hl':=hl;unfold maxLen at hl;clear hres hat hsh;go_enter Tryz.func25,Tryz.ntmps25;go_wp2_with fail;go_loopg [4,5,6,7,8,9,10] ds.length (λg s4 s5 s6 s7 s8 _ _ wr=>aq1 ds w res g s4 s5 s6 s7 s8 wr)
 case atStart=>exact⟨0,[],ds,0,0,0,0,rfl,rfl,rfl,rfl,rfl,rfl,rfl,rfl,by decide,HR.o.symm,ak _ _⟩
 case round=>
  obtain⟨k,pre,R,c,l,n,f,rfl,rfl,hds,hk,rfl,rfl,rfl,rfl,⟨q1,q2,l1,l2,n1,n2,f1,f2⟩,hr,hB⟩:=hrel;have HE:=ah hr;have HB:=ah hB;clear hr hB HR;have hlen:k+R.length=ds.length:=by rw[<- hds,ay,hk]
  have hrow:=(HAT.o.below HB.o).drop k;rw[aU,<- hds,<- hk,List.drop_left]at hrow;rw[hk]at hrow;cases R with
  |nil=>
   obtain rfl:k=ds.length:=by simpa using hlen
   have HF:=ah (HE.o.trans (rfl:_=((0:Int),(0:Int))));clear HE hds hk hrow;go_wp2_with fail
   go_ret2
   exact⟨jN (congrArg Prod.fst HF.o) (congrArg Prod.snd HF.o),HB.o⟩
  |cons d R=>
   have hsd:=yE (BR.o d (by rw[<- hds];simp));have vg:=ah hds;have HK:=ah hk;have BP:=ah ((hds ▸ HAT.o:jo w w.heap.size (pre++d::R) ao 0).take);clear hds hk;obtain⟨⟨b,off,rfl,mV,x0,x1,x2,x3,x4,x5,hok⟩,-⟩:=hrow;simp only[aA]at hlen;have hkl:k<ds.length:=by omega
   obtain⟨g1,g2,g3,g4⟩:=hsd;rw[Gv]at HE;go_upto_region 6 with fail;obtain⟨nb,hnb⟩: ∃n,wr.heap.size=n:=⟨_,rfl⟩;generalize hW2:World.alloc wr _=W2;have HB2:aj (Below w.heap.size w W2):=ah (by rw[<- hW2];exact HB.o.alloc HB.o.size _);have HY:aj (Sit wr W2 [(nb,0,.int .i64 d.kind),(nb,1,.int .i64 d.line),(nb,2,.string d.nm),(nb,3,.int .i64 d.size),(nb,4,.int .i64 d.init),(nb,5,.string d.on)]):=ah (by rw[<- hW2];exact(Sit.start wr).PV hnb _ _ _ _ _ _ _);rw[hnb];clear hW2 hnb x0 x1 x2 x3 x4 x5 HB;obtain⟨-,⟨-,c0⟩,⟨-,c1⟩,⟨-,c2⟩,⟨-,c3⟩,⟨-,c4⟩,⟨-,c5⟩,-⟩:=HY.o;have hpl:pre.length<=maxLen:=by rw[HK.o];omega
   have xK:aj (∀(nm:ByteArray) (nq:Nat),Calls Tryz.prog 52 #[.slice (some ⟨b,off,none⟩) k cap,.string nm] (W2.drewN nq) λe w'=>e= .returned (.int .i64 (zh pre nm))∧W2.drewN nq=w'):=ah (λnm nq=>by have hb':=below_drewN (n:=nq) HB2.o;have:=oJ pre nm (W2.drewN nq) (some ⟨b,off,none⟩) cap hpl ((BP.o.below hb').mono hb'.size);rw[HK.o]at this;exact this);have hk0:(0:Int)<=k:=by omega
   have hk1:(k:Int)<=cap:=by omega
   have hk2:k<=cap:=by omega
   go_quiet ((go_at_call 52;exact oK (xK.o _ _)));have HZ:=ah (HY.o.draws nq);have HB3:=ah (below_drewN (n:=nq) HB2.o);clear HY HB2 xK c0 c1 c2 c3 c4 c5;generalize W2.drewN nq=w3 at *;obtain⟨-,⟨-,c0⟩,⟨-,c1⟩,⟨-,c2⟩,⟨-,c3⟩,⟨-,c4⟩,⟨-,c5⟩,-⟩:=HZ.o;rcases SH pre d.nm with⟨e1,e2⟩|⟨j,d',r,e0,e1,-,e2⟩
   case inr=>
    as_aux_lemma=>
     rw[e1];have HF:=ah (HE.o.trans (if_pos (by rw[e2,bne_iff_ne];have:=sU d';omega)));clear e1 e2;go_wp2_with fail;go_quiet (fail);go_wp2_with fail
     go_ret2
     exact⟨jN (congrArg Prod.fst HF.o) (congrArg Prod.snd HF.o),below_drewN HB3.o _⟩
   rw[e1];have h0:(mD pre d.nm.toList != 0)=false:=by rw[e2];rfl
   have HE2:=ah (HE.o.trans (if_neg (by rw[h0];decide)));clear HE e1 e2;go_upto_region 8 with fail;cases h1:decide (4<d.size)
   case true=>
    as_aux_lemma=>
     have HF:=ah (HE2.o.trans (if_pos h1));have h1':4<d.size:=(by simpa using h1);go_wp2_with fail;go_quiet (fail);go_wp2_with fail
     go_ret2
     exact⟨jN (congrArg Prod.fst HF.o) (congrArg Prod.snd HF.o),below_drewN HB3.o _⟩
   have pG:=ah (HE2.o.trans (if_neg (by rw[h1];decide)));have h1':d.size<=4:=by simpa using h1
   clear HE2 h1;go_upto_region 10 with fail;go_upto_block 2 with(fail);go_cut [4,5,6,7,36] (λs4 s5 s6 s7 _ W3=>w3=W3∧s4= .int .i64 (dc d c)∧s5= .int .i64 (dl d l)∧s6= .int .i64 (dn d n)∧s7= .int .i64 (df d f))
   case first=>
    as_aux_lemma=>
     have hkd:d.kind=1∨d.kind=2∨d.kind=3∨d.kind=4∨d.kind=5∨d.kind=6:=(by omega);have hmx:0<=max d.size 1∧max d.size 1<=4:=(by omega);rcases hkd with hkd|hkd|hkd|hkd|hkd|hkd
     ·have HA:aj (dc d c=c+max d.size 1∧dl d l=l∧dn d n=n∧df d f=f):=ah (by simp[dc,dl,dn,df,hkd] <;> first|rfl|omega);have hk3:(d.kind==1)=true:=(by rw[hkd];rfl);have hk4:(d.kind==2)=false:=(by rw[hkd];rfl);have hk5:(d.kind==3)=false:=(by rw[hkd];rfl);have Qr:(d.kind==4)=false:=(by rw[hkd];rfl);have Xt:(d.kind==5)=false:=(by rw[hkd];rfl);clear hkd;go_wp2_with fail;go_meet;exact⟨rfl,by rw[HA.o.1],by rw[HA.o.2.1],by rw[HA.o.2.2.1],by rw[HA.o.2.2.2]⟩
     ·have HA:aj (dc d c=c+max d.size 1∧dl d l=l∧dn d n=n∧df d f=f):=ah (by simp[dc,dl,dn,df,hkd] <;> first|rfl|omega);have hk3:(d.kind==1)=false:=(by rw[hkd];rfl);have hk4:(d.kind==2)=true:=(by rw[hkd];rfl);have hk5:(d.kind==3)=false:=(by rw[hkd];rfl);have Qr:(d.kind==4)=false:=(by rw[hkd];rfl);have Xt:(d.kind==5)=false:=(by rw[hkd];rfl);clear hkd;go_wp2_with fail;go_meet;exact⟨rfl,by rw[HA.o.1],by rw[HA.o.2.1],by rw[HA.o.2.2.1],by rw[HA.o.2.2.2]⟩
     ·have HA:aj (dc d c=c∧dl d l=l+1∧dn d n=n∧df d f=f):=ah (by simp[dc,dl,dn,df,hkd] <;> first|rfl|omega);have hk3:(d.kind==1)=false:=(by rw[hkd];rfl);have hk4:(d.kind==2)=false:=(by rw[hkd];rfl);have hk5:(d.kind==3)=true:=(by rw[hkd];rfl);have Qr:(d.kind==4)=false:=(by rw[hkd];rfl);have Xt:(d.kind==5)=false:=(by rw[hkd];rfl);clear hkd;go_wp2_with fail;go_meet;exact⟨rfl,by rw[HA.o.1],by rw[HA.o.2.1],by rw[HA.o.2.2.1],by rw[HA.o.2.2.2]⟩
     ·have HA:aj (dc d c=c∧dl d l=l+1∧dn d n=n∧df d f=f):=ah (by simp[dc,dl,dn,df,hkd] <;> first|rfl|omega);have hk3:(d.kind==1)=false:=(by rw[hkd];rfl);have hk4:(d.kind==2)=false:=(by rw[hkd];rfl);have hk5:(d.kind==3)=false:=(by rw[hkd];rfl);have Qr:(d.kind==4)=true:=(by rw[hkd];rfl);have Xt:(d.kind==5)=false:=(by rw[hkd];rfl);clear hkd;go_wp2_with fail;go_meet;exact⟨rfl,by rw[HA.o.1],by rw[HA.o.2.1],by rw[HA.o.2.2.1],by rw[HA.o.2.2.2]⟩
     ·have HA:aj (dc d c=c∧dl d l=l∧dn d n=n+1∧df d f=f):=ah (by simp[dc,dl,dn,df,hkd] <;> first|rfl|omega);have hk3:(d.kind==1)=false:=(by rw[hkd];rfl);have hk4:(d.kind==2)=false:=(by rw[hkd];rfl);have hk5:(d.kind==3)=false:=(by rw[hkd];rfl);have Qr:(d.kind==4)=false:=(by rw[hkd];rfl);have Xt:(d.kind==5)=true:=(by rw[hkd];rfl);clear hkd;go_wp2_with fail;go_meet;exact⟨rfl,by rw[HA.o.1],by rw[HA.o.2.1],by rw[HA.o.2.2.1],by rw[HA.o.2.2.2]⟩
     ·have HA:aj (dc d c=c∧dl d l=l∧dn d n=n∧df d f=f+1):=ah (by simp[dc,dl,dn,df,hkd] <;> first|rfl|omega);have hk3:(d.kind==1)=false:=(by rw[hkd];rfl);have hk4:(d.kind==2)=false:=(by rw[hkd];rfl);have hk5:(d.kind==3)=false:=(by rw[hkd];rfl);have Qr:(d.kind==4)=false:=(by rw[hkd];rfl);have Xt:(d.kind==5)=false:=(by rw[hkd];rfl);clear hkd;go_wp2_with fail;go_meet;exact⟨rfl,by rw[HA.o.1],by rw[HA.o.2.1],by rw[HA.o.2.2.1],by rw[HA.o.2.2.2]⟩
   obtain⟨rfl,rfl,rfl,rfl,rfl⟩:=hcut;have hc':0<=dc d c∧dc d c<=16:=by unfold dc;split <;> omega
   have hl'':0<=dl d l∧dl d l<=5:=by unfold dl;split <;> omega
   have hn':0<=dn d n∧dn d n<=3:=by unfold dn;split <;> omega
   have hf':0<=df d f∧df d f<=3:=by unfold df;split <;> omega
   generalize hcc:dc d c=c' at *;generalize hll:dl d l=l' at *;generalize hnn:dn d n=n' at *;generalize TA:df d f=f' at *;clear hcc hll hnn TA;go_upto_region 20 with fail;go_cut [69] (λs' W3=>w3=W3∧s'= .bool (lim c' l' n' f'))
   case first=>
    as_aux_lemma=>
     have HF:aj (lim c' l' n' f'=(((decide (12<c')||decide (4<l'))||decide (2<n'))||decide (2<f'))):=ah rfl;go_wp2_with fail
     all_goals go_meet
     all_goals exact⟨rfl,by first|(rw[HF.o];done)|(rw[HF.o];congr 1;go_light;grind)⟩
   obtain⟨rfl,rfl⟩:=hcut;cases h2:lim c' l' n' f'
   case true=>
    as_aux_lemma=>
     have HF:=ah (pG.o.trans (if_pos h2));go_wp2_with fail;go_quiet (fail);go_wp2_with fail
     go_ret2
     exact⟨jN (congrArg Prod.fst HF.o) (congrArg Prod.snd HF.o),below_drewN HB3.o _⟩
   have Ap:=ah (pG.o.trans (if_neg (by rw[h2];decide)));have hlim:c'<=12∧l'<=4∧n'<=2∧f'<=2:=by unfold lim at h2;simp at h2;omega
   clear pG h2;go_upto_region 22 with fail;cases h5:(d.kind==5)
   ·have HF:=ah (Ap.o.trans ((if_neg (by rw[h5];simp)).trans (if_neg (by rw[h5];simp))));clear Ap;go_wp2_with fail;go_roundg R.length
    case measure=>simp
    case rel=>exact⟨k+1,pre++[d],R,c',l',n',f',rfl,by go_num,by rw[List.append_assoc];exact vg.o,by rw[ay,HK.o];rfl,rfl,rfl,rfl,rfl,by omega,HF.o,HB3.o⟩
   ·go_wp2_with fail;have xK:aj (∀(nm:ByteArray) (nq:Nat),Calls Tryz.prog 52 #[.slice (some ⟨b,off,none⟩) k cap,.string nm] (w3.drewN nq) λe w'=>e= .returned (.int .i64 (zh pre nm))∧w3.drewN nq=w'):=ah (λnm nq=>by have hb':=below_drewN (n:=nq) HB3.o;have:=oJ pre nm (w3.drewN nq) (some ⟨b,off,none⟩) cap hpl ((BP.o.below hb').mono hb'.size);rw[HK.o]at this;exact this);go_quiet ((go_at_call 52;exact oK (xK.o _ _)));have HZ2:=ah (HZ.o.draws nq);have eF:=ah (below_drewN (n:=nq) HB3.o);clear HZ xK c0 c1 c2 c3 c4 c5 HB3;generalize w3.drewN nq=w5 at *;have HB3:=eF;clear eF;obtain⟨-,⟨-,c0⟩,⟨-,c1⟩,⟨-,c2⟩,⟨-,c3⟩,⟨-,c4⟩,⟨-,c5⟩,-⟩:=HZ2.o;rcases SH pre d.on with⟨e1,e2⟩|⟨j,d',r,e0,e1,e3,e2⟩
    ·have HF:=ah (Ap.o.trans (if_pos (by rw[h5,e2];rfl)));rw[e1];clear e1 e2;go_wp2_with fail;go_quiet (fail);go_wp2_with fail
     go_ret2
     exact⟨jN (congrArg Prod.fst HF.o) (congrArg Prod.snd HF.o),below_drewN HB3.o _⟩
    ·have MK:=ah (Ap.o.trans (if_neg (by rw[h5,e2];have:=sU d';simp;omega)));rw[e2,Ru]at MK;have hrow:=(BP.o.below HB3.o).drop j;rw[e3,aU]at hrow;obtain⟨⟨b2,off2,hbe,bM1,z0,-⟩,-⟩:=hrow;obtain⟨rfl,rfl⟩:b=b2∧off=off2:=(by injection hbe with h;injection h with h1 h2;exact⟨h1,h2⟩);have hjl:j<ds.length:=(by have:=HK.o;omega);rw[e1];clear e1 e2 e3 hbe Ap;cases h8:(d'.kind != 3)
     case true=>
      as_aux_lemma=>
       have HF:=ah (MK.o.trans (if_pos (by rw[h5,h8];rfl)));go_wp2_with fail;go_quiet (fail);go_wp2_with fail
       go_ret2
       exact⟨jN (congrArg Prod.fst HF.o) (congrArg Prod.snd HF.o),below_drewN HB3.o _⟩
     have HF:=ah (MK.o.trans (if_neg (by rw[h5,h8];decide)));clear MK;go_wp2_with fail;go_roundg R.length
     case measure=>simp
     case rel=>exact⟨k+1,pre++[d],R,c',l',n',f',rfl,by go_num,by rw[List.append_assoc];exact vg.o,by rw[ay,HK.o];rfl,rfl,rfl,rfl,rfl,by omega,HF.o,HB3.o⟩
theorem QH (s:ByteArray):kE s true=Tk.jv s.data.toList:=rfl
theorem QG (s:ByteArray):kE s false=decide (s.toList=[]):=by unfold kE;rw[Lib.toList_data,Bool.eq_iff_iff];simp
theorem Il (d:De) (w:World) (hok:d.Ok):
 Calls Tryz.prog 49 #[.agg #[.int .i64 d.kind,.int .i64 d.line,.string d.nm,.int .i64 d.size,.int .i64 d.init,.string d.on]] w λe w'=>e= .returned (.bool (jG d))∧Below w.heap.size w w':=by
 obtain⟨⟨k1,k2⟩,-,hm,-,⟨i1,i2⟩,ho⟩:=hok;obtain⟨kind,line,nm,size,init,on⟩:=d;have HE:aj (jG ⟨kind,line,nm,size,init,on⟩=((((decide (1<=kind)&&decide (kind<=6))&&Tk.jv nm.data.toList)&&(decide (0<=size)&&(decide (size=0)||decide (kind=1))))&&((!decide (init= -9223372036854775808)&&(decide (init=0)||(decide (kind=1)||decide (kind=2))))&&kE on (kind==5)))):=ah (by unfold jG;simp only[bne];rw[Bool.eq_iff_iff];simp);dsimp only at *;generalize jG ⟨kind,line,nm,size,init,on⟩=res at *;go_enter Tryz.func49,Tryz.ntmps49;go_upto_region 1 with fail;generalize hW:World.alloc w _=W;generalize Value.agg #[_,_,_,_,_,_]=a0;have HX:=ah ((Sit.start w).PV rfl (.int .i64 kind) (.int .i64 line) (.string nm) (.int .i64 size) (.int .i64 init) (.string on) 43);rw[hW]at HX;clear hW;obtain⟨-,⟨-,c0⟩,⟨-,c1⟩,⟨-,c2⟩,⟨-,c3⟩,⟨-,c4⟩,⟨-,c5⟩,-⟩:=HX.o;go_cut [31] (λs W2=> ∃b,s= .bool b∧(!b)=(((decide (1<=kind)&&decide (kind<=6))&&Tk.jv nm.data.toList)&&(decide (0<=size)&&(decide (size=0)||decide (kind=1))))∧Sit w W2 [(w.heap.size,0,.int .i64 kind),(w.heap.size,1,.int .i64 line),(w.heap.size,2,.string nm),(w.heap.size,3,.int .i64 size),(w.heap.size,4,.int .i64 init),(w.heap.size,5,.string on)])
 case first=>
  cases hr:decide (1<=kind∧kind<=6)
  ·have hr':kind<1∨(1<=kind∧6<kind):=by simp at hr;omega
   clear hr;rcases hr' with hr|⟨hr,hr'⟩
   all_goals go_wp2_with fail
   all_goals go_meet
   all_goals exact⟨_,rfl,by go_light;grind,HX.o⟩
  ·have hr':1<=kind∧kind<=6:=by simpa using hr
   obtain⟨g1,g2⟩:=hr';clear hr;go_wp2_with fail;refine(nA _ _ hm).mono ?_;rintro e w3 ⟨rfl,hb3⟩;have HZ:=ah (HX.o.next hb3);clear hb3 HX c0 c1 c2 c3 c4 c5;obtain⟨-,⟨-,c0⟩,⟨-,c1⟩,⟨-,c2⟩,⟨-,c3⟩,⟨-,c4⟩,⟨-,c5⟩,-⟩:=HZ.o;cases hq:Tk.jv nm.data.toList
   all_goals go_wp2_with fail
   all_goals go_meet
   all_goals exact⟨_,rfl,by rw[hq];go_light;grind,HZ.o⟩
 obtain⟨b1,rfl,hb1,hX⟩:=hcut;have HY:=ah hX;have HB1:=ah hb1;clear hX HX hb1 c0 c1 c2 c3 c4 c5;rw[<- HB1.o]at HE;clear HB1;cases b1
 case true=>go_wp2_with fail;go_ret;exact⟨bR (HE.o.trans (by simp)).symm,HY.o.1⟩
 obtain⟨-,⟨-,c0⟩,⟨-,c1⟩,⟨-,c2⟩,⟨-,c3⟩,⟨-,c4⟩,⟨-,c5⟩,-⟩:=HY.o;go_upto_region 3 with fail;go_cut [50] (λs W2=> ∃b,s= .bool b∧(!b)=kE on (kind==5)∧Sit w W2 [(w.heap.size,0,.int .i64 kind),(w.heap.size,1,.int .i64 line),(w.heap.size,2,.string nm),(w.heap.size,3,.int .i64 size),(w.heap.size,4,.int .i64 init),(w.heap.size,5,.string on)])
 case first=>
  cases h5:(kind==5)
  ·have h5':(kind != 5)=true:=by unfold bne;rw[h5];rfl
   have HN:=ah (QG on);go_wp2_with fail
   all_goals go_meet
   all_goals exact⟨_,rfl,by rw[h5,HN.o];first|(simp;done)|(go_light;grind),HY.o⟩
  ·have h5':(kind != 5)=false:=by unfold bne;rw[h5];rfl
   have HN:=ah (QH on);go_wp2_with fail;refine(nA _ _ ho).mono ?_;rintro e w3 ⟨rfl,hb3⟩;have HZ:=ah (HY.o.next hb3);clear hb3 HY c0 c1 c2 c3 c4 c5;obtain⟨-,⟨-,c0⟩,⟨-,c1⟩,⟨-,c2⟩,⟨-,c3⟩,⟨-,c4⟩,⟨-,c5⟩,-⟩:=HZ.o;cases hq:Tk.jv on.data.toList
   all_goals go_wp2_with fail
   all_goals go_meet
   all_goals exact⟨_,rfl,by rw[h5,HN.o,hq];rfl,HZ.o⟩
 obtain⟨b2,rfl,hb2,hX⟩:=hcut;have HZ:=ah hX;have HB2:=ah hb2;clear hX HY hb2 c0 c1 c2 c3 c4 c5;rw[<- HB2.o]at HE;clear HB2;cases b2
 case true=>go_wp2_with fail;go_ret;exact⟨bR (HE.o.trans (by simp)).symm,HZ.o.1⟩
 obtain⟨-,⟨-,c0⟩,⟨-,c1⟩,⟨-,c2⟩,⟨-,c3⟩,⟨-,c4⟩,⟨-,c5⟩,-⟩:=HZ.o;go_wp2_with fail
 all_goals go_ret
 all_goals refine⟨bR (HE.o.trans ?_).symm,HZ.o.1⟩
 all_goals (go_light;grind)
theorem WO (op n:Int) (nm:ByteArray) (len cap:Nat) (ao:Option Addr) (w:World):
 Calls Tryz.prog 112 #[.agg #[.int .i64 op,.int .i64 n,.string nm,.slice ao len cap]] w λe w'=>e= .returned (.bool (qo op n nm len))∧Below w.heap.size w w':=by
 have HE:aj (qo op n nm len=(((decide (op=0)&&decide (n=0))&&decide (nm.toList=[]))&&decide (len=0))):=ah (by unfold qo;rw[Bool.eq_iff_iff];simp);generalize qo op n nm len=res at *;go_enter Tryz.func112,Tryz.ntmps112;go_wp2
 all_goals go_ret
 all_goals refine⟨bR ?_,au _ _⟩
 all_goals rw[HE.o]
 all_goals (go_light;grind)
def C9 (h:dD) (b e:aY):Prop:=
 ∀(w:World) (s:Sl),DF w h b e s->
  Calls Tryz.prog 80 #[iy h b e s] w λe' w'=>e'= .returned (.bool (CG h b e))∧Below w.heap.size w w'
theorem zf (l:aY) (hall:l.All C9) (w:World) (ao:Option Addr) (cap:Nat) (hl:l.len<=maxLen) (hat:l.At w w.heap.size ao 0):
 Calls Tryz.prog 51 #[.slice ao l.len cap] w λe' w'=>e'= .returned (.bool (gN l))∧Below w.heap.size w w':=by
 unfold maxLen at hl;go_enter Tryz.func51,Tryz.ntmps51;go_wp2_with fail;go_loopw [3] (λs wr=> ∃(k:Nat) (R:aY),s= .int .i64 k∧k+R.len=l.len∧gN l=gN R∧R.All C9∧R.At wr wr.heap.size ao k∧Below w.heap.size w wr) (λs _=>l.len -(intOf s).toNat)
 case atStart=>exact⟨0,l,rfl,by simp,rfl,hall,hat,ak _ _⟩
 case round=>
  obtain⟨k,R,rfl,hlen,heq,oZ,hrow,hB⟩:=hrel;have HE:=ah heq;clear heq;cases R with
  |nil=>
   obtain rfl:k=l.len:=by simpa[aY.len]using hlen
   go_wp2_with fail;go_ret;exact⟨bR HE.o.symm,hB⟩
  |cons h b e R=>
   obtain⟨bl,off,s,rfl,hbl,hin,x0,x1,x2,x3,x4,x5,x6,x7,x8,x9,x10,hrest⟩:=aY.At.head hrow;obtain⟨kN,Cq⟩:=oZ;have hkl:k<l.len:=by simp only[aY.len]at hlen;omega
   clear hrow;go_wp2_with fail;refine(kN _ s hin).mono ?_;rintro e' w2 ⟨rfl,hb2⟩;have HB3:=ah hb2;clear hb2 x0 x1 x2 x3 x4 x5 x6 x7 x8 x9 x10 hin;cases hS:CG h b e
   ·have HF:=ah (HE.o.trans (by rw[Bp,hS];rfl:gN (.cons h b e R)=false));go_wp2_with fail;go_ret;exact⟨bR HF.o.symm,hB.trans (HB3.o.mono hB.size)⟩
   ·have HF:=ah (HE.o.trans (by rw[Bp,hS];rfl:gN (.cons h b e R)=gN R));go_wp2_with fail;go_roundw
    case rel=>exact⟨k+1,R,by go_num,by simp only[aY.len]at hlen;omega,HF.o,Cq,hrest.same HB3.o,hB.trans (HB3.o.mono hB.size)⟩
    case measure=>simp[intOf];omega
theorem aU0 {op:Int} (h1:1<=op) (h2:op<=15):fN op= !((op==2||op==3)||(op==7||op==8)):=by
 rw[Bool.eq_iff_iff];unfold fN;simp;omega
theorem Gf (h:dD) (b e:aY) (ihb:b.All C9) (XB:e.All C9):C9 h b e:=by
 intro w s hin;obtain⟨fQ,eU,fT,eu,dH,cu,iC,gy⟩:=s;have HS:aj (CG h b e=((((fO h.op&&(kE h.nm (fN h.op)&&kE h.arg (fA h.op)))&&((decide ((h.idx.len:Int)<=1)&&(!decide ((h.idx.len:Int)=1)||fI h.op))&&mh h.idx))&&
  ((if fX h.op then jQ h.dN h.xn h.dJ h.bG else qo h.dN h.xn h.dJ h.bG.len)&&((fB h.op||decide ((b.len:Int)<=0))&&(fE h.op||decide ((e.len:Int)<=0)))))&&(gN b&&gN e))):=ah (by
  unfold CG ni;rw[TJ,TI,Ib,Ib])
 generalize CG h b e=res at *;have iq:=ah hin;have OW:=ah ihb;have HIE:=ah XB;obtain⟨⟨⟨o1,o2⟩,-,hm,ha,hil,hxk,hbl,hel⟩,-⟩:=hin;clear ihb XB;have bu1:=hil;have ZR:=hbl;have ZU:=hel;have hxl:=hxk.2.2.2;unfold maxLen at hil hbl hel hxl;unfold iy;dsimp only;go_enter Tryz.func80,Tryz.ntmps80;go_upto_region 1 with fail;generalize hW:World.alloc w _=W;generalize Value.agg #[_,_,_,_,_,_,_,_,_,_,_]=a0;have HX:aj (Sit w W (rA w.heap.size h b e ⟨fQ,eU,fT,eu,dH,cu,iC,gy⟩ [])):=ah (by rw[<- hW];exact(Sit.start w).uW rfl _ _ _ _ _ _ _ _ _ _ _ _);clear hW;obtain⟨-,⟨-,c0⟩,⟨-,c1⟩,⟨-,c2⟩,⟨-,c3⟩,⟨-,c4⟩,⟨-,c5⟩,⟨-,c6⟩,⟨-,c7⟩,⟨-,c8⟩,⟨-,c9⟩,⟨-,c10⟩,-⟩:=HX.o;go_cut [13] (λs' W3=>W=W3∧∃t,s'= .bool t∧(!t)=(decide (1<=h.op)&&decide (h.op<=15)))
 case first=>
  as_aux_lemma=>
   go_wp2_with fail
   all_goals go_meet
   all_goals exact⟨rfl,_,rfl,by go_light;grind⟩
 obtain⟨rfl,t1,rfl,ht1⟩:=hcut;cases t1
 case true=>
  as_aux_lemma=>have HT:aj (fO h.op=false):=ah ht1.symm;rw[HT.o]at HS;go_wp2_with fail;go_ret;exact⟨bR (HS.o.trans (by simp)).symm,HX.o.1⟩
 have hr:1<=h.op∧h.op<=15:=by simpa using ht1.symm
 obtain⟨g1,g2⟩:=hr;rw[show fO h.op=true from ht1.symm,aU0 g1 g2]at HS;clear ht1;go_upto_region 3 with fail;go_cut [3] (λs' W3=>W=W3∧s'= .bool ((h.op==2||h.op==3)||(h.op==7||h.op==8)))
 case first=>
  as_aux_lemma=>
   go_wp2_with fail
   all_goals go_meet
   all_goals exact⟨rfl,by congr 1;go_light;grind⟩
 obtain⟨rfl,rfl⟩:=hcut;generalize ((h.op==2||h.op==3)||(h.op==7||h.op==8))=bn at *;go_upto_region 4 with fail;go_cut [3,47] (λ_ s' W2=> ∃t,s'= .bool t∧(!t)=kE h.nm (!bn)∧Sit w W2 (rA w.heap.size h b e ⟨fQ,eU,fT,eu,dH,cu,iC,gy⟩ []))
 case first=>
  as_aux_lemma=>
   cases bn
   ·have HN:=ah (QH h.nm);go_wp2_with fail;refine(nA _ _ hm).mono ?_;rintro e' w3 ⟨rfl,hb3⟩;have HZ:=ah (HX.o.next hb3);clear hb3 HX c0 c1 c2 c3 c4 c5 c6 c7 c8 c9 c10;obtain⟨-,⟨-,c0⟩,⟨-,c1⟩,⟨-,c2⟩,⟨-,c3⟩,⟨-,c4⟩,⟨-,c5⟩,⟨-,c6⟩,⟨-,c7⟩,⟨-,c8⟩,⟨-,c9⟩,⟨-,c10⟩,-⟩:=HZ.o;cases hq:Tk.jv h.nm.data.toList
    all_goals go_wp2_with fail
    all_goals go_meet
    all_goals exact⟨_,rfl,(HN.o.trans hq).symm,HZ.o⟩
   ·have HN:=ah (QG h.nm);go_wp2_with fail
    all_goals go_meet
    all_goals exact⟨_,rfl,(show _=kE h.nm false by rw[HN.o];first|(simp;done)|(go_light;grind)),HX.o⟩
 obtain⟨t2,rfl,ht2,hX⟩:=hcut;have HY:=ah hX;have HT2:=ah ht2;clear hX ht2 HX c0 c1 c2 c3 c4 c5 c6 c7 c8 c9 c10;rw[<- HT2.o]at HS;clear HT2;cases t2
 case true=>
  as_aux_lemma=>go_wp2_with fail;go_ret;exact⟨bR (HS.o.trans (by simp)).symm,HY.o.1⟩
 obtain⟨-,⟨-,c0⟩,⟨-,c1⟩,⟨-,c2⟩,⟨-,c3⟩,⟨-,c4⟩,⟨-,c5⟩,⟨-,c6⟩,⟨-,c7⟩,⟨-,c8⟩,⟨-,c9⟩,⟨-,c10⟩,-⟩:=HY.o;go_upto_region 6 with fail;go_cut [66] (λs' W2=> ∃t,s'= .bool t∧(!t)=kE h.arg (fA h.op)∧Sit w W2 (rA w.heap.size h b e ⟨fQ,eU,fT,eu,dH,cu,iC,gy⟩ []))
 case first=>
  as_aux_lemma=>
   cases AU:(h.op==15)
   ·have bt0:(h.op != 15)=true:=(by unfold bne;rw[AU];rfl);have HN:aj (kE h.arg (fA h.op)=decide (h.arg.toList=[])):=ah (by unfold fA;rw[AU];exact QG h.arg);go_wp2_with fail
    all_goals go_meet
    all_goals exact⟨_,rfl,(by rw[HN.o];first|(simp;done)|(go_light;grind)),HY.o⟩
   ·have bt0:(h.op != 15)=false:=(by unfold bne;rw[AU];rfl);have HN:aj (kE h.arg (fA h.op)=Tk.jv h.arg.data.toList):=ah (by unfold fA;rw[AU];exact QH h.arg);go_wp2_with fail;refine(nA _ _ ha).mono ?_;rintro e' w3 ⟨rfl,hb3⟩;have HZ:=ah (HY.o.next hb3);clear hb3 HY c0 c1 c2 c3 c4 c5 c6 c7 c8 c9 c10;obtain⟨-,⟨-,c0⟩,⟨-,c1⟩,⟨-,c2⟩,⟨-,c3⟩,⟨-,c4⟩,⟨-,c5⟩,⟨-,c6⟩,⟨-,c7⟩,⟨-,c8⟩,⟨-,c9⟩,⟨-,c10⟩,-⟩:=HZ.o;cases hq:Tk.jv h.arg.data.toList
    all_goals go_wp2_with fail
    all_goals go_meet
    all_goals exact⟨_,rfl,(HN.o.trans hq).symm,HZ.o⟩
 obtain⟨t3,rfl,ht3,hX⟩:=hcut;have HZ:=ah hX;have HT3:=ah ht3;clear hX ht3 HY c0 c1 c2 c3 c4 c5 c6 c7 c8 c9 c10;rw[<- HT3.o]at HS;clear HT3;cases t3
 case true=>
  as_aux_lemma=>go_wp2_with fail;go_ret;exact⟨bR (HS.o.trans (by simp)).symm,HZ.o.1⟩
 obtain⟨-,⟨-,c0⟩,⟨-,c1⟩,⟨-,c2⟩,⟨-,c3⟩,⟨-,c4⟩,⟨-,c5⟩,⟨-,c6⟩,⟨-,c7⟩,⟨-,c8⟩,⟨-,c9⟩,⟨-,c10⟩,-⟩:=HZ.o;go_upto_region 8 with fail;go_cut [95] (λs' W2=> ∃t,s'= .bool t∧(!t)=((decide ((h.idx.len:Int)<=1)&&(!decide ((h.idx.len:Int)=1)||fI h.op))&&mh h.idx)∧Sit w W2 (rA w.heap.size h b e ⟨fQ,eU,fT,eu,dH,cu,iC,gy⟩ []))
 case first=>
  as_aux_lemma=>
   have hrow:=(iq.o.same HZ.o.1).2.1;generalize hix:h.idx=ix at hrow c4 hil;have MQ:=ah hix;clear hix;cases ix with
   |nil=>
    simp only[bJ.len]at c4;clear hrow;cases hI:(h.op==1)
    ·have hI':(h.op != 1)=true:=(by unfold bne;rw[hI];rfl);go_wp2_with fail;go_meet;exact⟨_,rfl,by rw[MQ.o];rfl,HZ.o⟩
    ·have hI':(h.op != 1)=false:=(by unfold bne;rw[hI];rfl);go_wp2_with fail;go_meet;exact⟨_,rfl,by rw[MQ.o];rfl,HZ.o⟩
   |cons op' n' nm' gZ rest=>
    obtain⟨⟨b',off',mF,cap',rfl,mV,x0,x1,x2,x3,hok',lK⟩,hrest⟩:=hrow;cases rest with
    |nil=>
     simp only[bJ.len,aU]at c4;simp only[Nat.zero_mul,Nat.add_zero]at x0 x1 x2 x3;cases hI:(h.op==1)
     ·have hI':(h.op != 1)=true:=(by unfold bne;rw[hI];rfl);have HL:aj (fI h.op=false):=ah hI;go_wp2_with fail;go_meet;exact⟨_,rfl,by rw[MQ.o,HL.o];rfl,HZ.o⟩
     ·have hI':(h.op != 1)=false:=(by unfold bne;rw[hI];rfl);have HL:aj (fI h.op=true):=ah hI;go_wp2_with fail;refine(vJ op' n' nm' gZ _ _ _ hok' lK).mono ?_;rintro e' w3 ⟨rfl,hb3⟩;have HV:=ah (HZ.o.next hb3);clear hb3;cases hq:jQ op' n' nm' gZ
      all_goals go_wp2_with fail
      all_goals go_meet
      all_goals exact⟨_,rfl,by rw[MQ.o,HL.o,nE,hq];rfl,HV.o⟩
    |cons op2 n2 XU KX Lg=>have hl2:2<=(bJ.cons op' n' nm' gZ (bJ.cons op2 n2 XU KX Lg)).len:=(by simp only[bJ.len];omega);have HL:aj (((decide (((bJ.cons op' n' nm' gZ (bJ.cons op2 n2 XU KX Lg)).len:Int)<=1)&&(!decide (((bJ.cons op' n' nm' gZ (bJ.cons op2 n2 XU KX Lg)).len:Int)=1)||fI h.op))&&mh (bJ.cons op' n' nm' gZ (bJ.cons op2 n2 XU KX Lg)))=false):=ah (by rw[decide_eq_false (by omega)];rfl);clear x0 x1 x2 x3 hrest lK hok';generalize (bJ.cons op' n' nm' gZ (bJ.cons op2 n2 XU KX Lg))=ix at *;have hl3:1<ix.len:=(by omega);go_wp2_with fail;go_meet;exact⟨_,rfl,by rw[MQ.o,HL.o];rfl,HZ.o⟩
 obtain⟨t4,rfl,Xw,hX⟩:=hcut;have HU:=ah hX;have E9:=ah Xw;clear hX Xw HZ c0 c1 c2 c3 c4 c5 c6 c7 c8 c9 c10;rw[<- E9.o]at HS;clear E9;cases t4
 case true=>
  as_aux_lemma=>go_wp2_with fail;go_ret;exact⟨bR (HS.o.trans (by simp)).symm,HU.o.1⟩
 obtain⟨-,⟨-,c0⟩,⟨-,c1⟩,⟨-,c2⟩,⟨-,c3⟩,⟨-,c4⟩,⟨-,c5⟩,⟨-,c6⟩,⟨-,c7⟩,⟨-,c8⟩,⟨-,c9⟩,⟨-,c10⟩,-⟩:=HU.o;go_upto_region 10 with fail;go_cut [4] (λs' W3=>wc=W3∧s'= .bool (fX h.op))
 case first=>
  as_aux_lemma=>
   have HF:aj (fX h.op=((h.op==1||h.op==2)||(h.op==3||h.op==14))):=ah rfl;go_wp2_with fail
   all_goals go_meet
   all_goals exact⟨rfl,by rw[HF.o];congr 1;go_light;grind⟩
 obtain⟨rfl,rfl⟩:=hcut;generalize fX h.op=bX at *;go_upto_region 11 with fail;go_cut [4,130] (λ_ s' W3=> ∃t,s'= .bool t∧(!t)=(if bX then jQ h.dN h.xn h.dJ h.bG else qo h.dN h.xn h.dJ h.bG.len)∧Sit w W3 (rA w.heap.size h b e ⟨fQ,eU,fT,eu,dH,cu,iC,gy⟩ []))
 case first=>
  as_aux_lemma=>
   cases bX
   ·go_wp2_with fail;refine(WO _ _ _ _ _ _ _).mono ?_;rintro e' w3 ⟨rfl,hb3⟩;have HV:=ah (HU.o.next hb3);clear hb3;cases hq:qo h.dN h.xn h.dJ h.bG.len
    all_goals go_wp2_with fail
    all_goals go_meet
    all_goals exact⟨_,rfl,hq.symm,HV.o⟩
   ·go_wp2_with fail;refine(vJ _ _ _ _ _ _ _ hxk (iq.o.same HU.o.1).2.2.1).mono ?_;rintro e' w3 ⟨rfl,hb3⟩;have HV:=ah (HU.o.next hb3);clear hb3 HU c0 c1 c2 c3 c4 c5 c6 c7 c8 c9 c10;obtain⟨-,⟨-,c0⟩,⟨-,c1⟩,⟨-,c2⟩,⟨-,c3⟩,⟨-,c4⟩,⟨-,c5⟩,⟨-,c6⟩,⟨-,c7⟩,⟨-,c8⟩,⟨-,c9⟩,⟨-,c10⟩,-⟩:=HV.o;cases hq:jQ h.dN h.xn h.dJ h.bG
    all_goals go_wp2_with fail
    all_goals go_meet
    all_goals exact⟨_,rfl,hq.symm,HV.o⟩
 obtain⟨t5,rfl,ht5,hX⟩:=hcut;have HV:=ah hX;have HT5:=ah ht5;clear hX ht5 HU c0 c1 c2 c3 c4 c5 c6 c7 c8 c9 c10;rw[<- HT5.o]at HS;clear HT5;cases t5
 case true=>
  as_aux_lemma=>go_wp2_with fail;go_ret;exact⟨bR (HS.o.trans (by simp)).symm,HV.o.1⟩
 obtain⟨-,⟨-,c0⟩,⟨-,c1⟩,⟨-,c2⟩,⟨-,c3⟩,⟨-,c4⟩,⟨-,c5⟩,⟨-,c6⟩,⟨-,c7⟩,⟨-,c8⟩,⟨-,c9⟩,⟨-,c10⟩,-⟩:=HV.o;go_upto_region 13 with fail;go_cut [5] (λs' W3=>wc=W3∧s'= .bool (fB h.op))
 case first=>
  as_aux_lemma=>
   have HF:aj (fB h.op=(decide (2<=h.op)&&decide (h.op<=8))):=ah rfl;go_wp2_with fail
   all_goals go_meet
   all_goals exact⟨rfl,by rw[HF.o];congr 1;go_light;grind⟩
 obtain⟨rfl,rfl⟩:=hcut;generalize fB h.op=bB at *;go_upto_region 14 with fail;go_cut [5,157] (λ_ s' W3=>wc=W3∧∃t,s'= .bool t∧(!t)=((bB||decide ((b.len:Int)<=0))&&(fE h.op||decide ((e.len:Int)<=0))))
 case first=>
  as_aux_lemma=>
   have HF:aj (fE h.op=(h.op==2)):=ah rfl;cases bB
   all_goals cases h2:(h.op==2)
   all_goals try have h2':(h.op != 2)=true:=by unfold bne;rw[h2];rfl
   all_goals try have h2':(h.op != 2)=false:=by unfold bne;rw[h2];rfl
   all_goals go_wp2_with fail
   all_goals go_meet
   all_goals exact⟨rfl,_,rfl,by rw[HF.o,h2];go_light;grind⟩
 obtain⟨rfl,t6,rfl,ht6⟩:=hcut;have Av:=ah ht6;rw[<- Av.o]at HS;clear Av ht6;cases t6
 case true=>
  as_aux_lemma=>go_wp2_with fail;go_ret;exact⟨bR (HS.o.trans (by simp)).symm,HV.o.1⟩
 go_wp2_with fail;refine(zf b OW.o _ _ _ ZR (iq.o.same HV.o.1).2.2.2.1).mono ?_;rintro e' w4 ⟨rfl,hb4⟩;have HA:=ah (HV.o.next hb4);clear hb4 HV c0 c1 c2 c3 c4 c5 c6 c7 c8 c9 c10;obtain⟨-,⟨-,c0⟩,⟨-,c1⟩,⟨-,c2⟩,⟨-,c3⟩,⟨-,c4⟩,⟨-,c5⟩,⟨-,c6⟩,⟨-,c7⟩,⟨-,c8⟩,⟨-,c9⟩,⟨-,c10⟩,-⟩:=HA.o;cases hq:gN b
 ·rw[hq]at HS;go_wp2_with fail;go_ret;exact⟨bR (HS.o.trans (by simp)).symm,HA.o.1⟩
 ·rw[hq]at HS;go_wp2_with fail;refine(zf e HIE.o _ _ _ ZU (iq.o.same HA.o.1).2.2.2.2).mono ?_;rintro e' w5 ⟨rfl,hb5⟩;go_wp2_with fail;go_ret;exact⟨bR (HS.o.trans (by simp)).symm,(HA.o.next hb5).1⟩
theorem Gg (l:aY) (w:World) (ao:Option Addr) (cap:Nat) (hl:l.len<=maxLen) (hat:l.At w w.heap.size ao 0):
 Calls Tryz.prog 51 #[.slice ao l.len cap] w λe' w'=>e'= .returned (.bool (gN l))∧Below w.heap.size w w':=
 zf l (aY.nW Gf l) w ao cap hl hat
theorem O7 (p:Pr) (w:World) (aK aM:Option Addr) (aH aD:Nat) (hp:p.At w aK aM):
 Calls Tryz.prog 24 #[.agg #[.slice aK p.ds.length aH,.slice aM p.ts.length aD]] w λe w'=>e= .returned (.bool (pE p))∧Below w.heap.size w w':=by
 have HS:aj (pE p=((p.ds.all jG&&p.ts.all oL)&&decide ((0:Int)<p.ts.length))):=ah rfl;generalize pE p=res at *;have hld:=hp.1;have hlt:=hp.2.1;unfold maxLen at hld hlt;have HP:=ah hp;clear hp;go_enter Tryz.func24,Tryz.ntmps24;go_upto_region 1 with fail;generalize hW:World.alloc w _=W;generalize Value.agg #[_,_]=a0;have HX:=ah ((Sit.start w).wG rfl (.slice aK p.ds.length aH) (.slice aM p.ts.length aD) 26);rw[hW]at HX;clear hW;have hde:=(HP.o.same HX.o.1).2.2.1;go_wp2_with fail;go_loopw [3] (λs wr=> ∃(k:Nat) (R:List De),s= .int .i64 k∧k+R.length=p.ds.length∧p.ds.all jG=R.all jG∧jo wr wr.heap.size R aK k∧Sit w wr [(w.heap.size,0,(.slice aK p.ds.length aH)),(w.heap.size,1,(.slice aM p.ts.length aD))]) (λs _=>p.ds.length -(intOf s).toNat)
 case atStart=>exact⟨0,p.ds,rfl,by simp,rfl,hde,HX.o⟩
 case round=>
  obtain⟨k,R,rfl,hlen,heq,hrow,hsit⟩:=hrel;have HZ:=ah hsit;have HE:=ah heq;clear hsit HX hde heq;obtain⟨-,⟨-,c0⟩,⟨-,c1⟩,-⟩:=HZ.o;cases R with
  |cons d R=>
   obtain⟨⟨b,off,rfl,hB,x0,x1,x2,x3,x4,x5,hok⟩,hrest⟩:=hrow;simp only[aA]at hlen;have hkl:k<p.ds.length:=by omega
   have kU:=ah hok;clear hok;go_wp2_with fail;refine(Il d _ kU.o).mono ?_;rintro e' w2 ⟨rfl,hb2⟩;have HB3:=ah hb2;clear hb2 x0 x1 x2 x3 x4 x5 c0 c1;cases hS:jG d
   ·rw[HE.o,List.all_cons,hS]at HS;go_wp2_with fail;go_ret;exact⟨bR (HS.o.trans (by simp)).symm,(HZ.o.next HB3.o).1⟩
   ·have HF:=ah (HE.o.trans (by rw[List.all_cons,hS];rfl:_=R.all jG));go_wp2_with fail;go_roundw
    case rel=>exact⟨k+1,R,by go_num,by omega,HF.o,hrest.same HB3.o,HZ.o.next HB3.o⟩
    case measure=>simp[intOf];omega
  |nil=>
   obtain rfl:k=p.ds.length:=by simpa using hlen
   rw[HE.o]at HS;have hth:=(HP.o.same HZ.o.1).2.2.2;clear HE hrow hlen;go_wp2_with fail;go_loopg [4,5,6] p.ts.length (λg s _ _ wr=> ∃(k:Nat) (R:List Th),g=R.length∧s= .int .i64 k∧k+R.length=p.ts.length∧p.ts.all oL=R.all oL∧iJ wr wr.heap.size R aM k∧Sit w wr [(w.heap.size,0,(.slice aK p.ds.length aH)),(w.heap.size,1,(.slice aM p.ts.length aD))])
   case atStart=>exact⟨0,p.ts,rfl,rfl,by simp,rfl,hth,HZ.o⟩
   case round=>
    obtain⟨k,R,rfl,rfl,hlen,heq,hrow,hsit⟩:=hrel;have HU:=ah hsit;have HE:=ah heq;clear hsit HZ c0 c1 hth heq;obtain⟨-,⟨-,c0⟩,⟨-,c1⟩,-⟩:=HU.o;cases R with
    |nil=>obtain rfl:k=p.ts.length:=(by simpa using hlen);rw[HE.o]at HS;go_wp2_with fail;go_ret;exact⟨bR (HS.o.trans (by simp)).symm,HU.o.1⟩
    |cons t R=>
     obtain⟨⟨b,off,iR,eX,dH,cu,rfl,hB,x0,x1,x2,x3,hok,htx,hst⟩,hrest⟩:=hrow;simp only[aA]at hlen;have hkl:k<p.ts.length:=(by omega);have hll:=hok.2.2.1;have kU:=ah hok;have BU:=ah htx;have HST:=ah hst;unfold maxLen at hll;clear hok htx hst;go_upto_region 10 with fail;clear c0 c1;obtain⟨n2,hn2⟩: ∃n,wr.heap.size=n:=⟨_,rfl⟩;generalize hW2:World.alloc wr _=W2;have HB2:aj (Below wr.heap.size wr W2):=ah (by rw[<- hW2];exact au _ _);have HV:aj (Sit w W2 ((n2,0,.string t.nm)::(n2,1,.int .i64 t.line)::(n2,2,.slice iR t.cO.length eX)::(n2,3,.slice dH t.body.len cu)::[(w.heap.size,0,(.slice aK p.ds.length aH)),(w.heap.size,1,(.slice (some ⟨b,off,none⟩) p.ts.length aD))])):=ah (by rw[<- hW2];exact HU.o.zi hn2 _ _ _ _ _);rw[hn2];clear hW2 hn2 x0 x1 x2 x3;have hrow:=BU.o.same HB2.o;go_wp2_with fail;obtain⟨wo,rfl⟩: ∃wo:World,wo=wr:=⟨_,rfl⟩;go_loopw [6] (λs wr=> ∃(k:Nat) (R:List ByteArray),s= .int .i64 k∧k+R.length=t.cO.length∧t.cO.all (λs=>Tk.jv s.data.toList)=R.all (λs=>Tk.jv s.data.toList)∧fJ wr wr.heap.size R iR k∧Below wo.heap.size wo wr∧Sit w wr ((n2,0,.string t.nm)::(n2,1,.int .i64 t.line)::(n2,2,.slice iR t.cO.length eX)::(n2,3,.slice dH t.body.len cu)::[(w.heap.size,0,(.slice aK p.ds.length aH)),(w.heap.size,1,(.slice (some ⟨b,off,none⟩) p.ts.length aD))])) (λs _=>t.cO.length -(intOf s).toNat)
     case atStart=>exact⟨0,t.cO,rfl,by simp,rfl,hrow,HB2.o,HV.o⟩
     case round=>
      obtain⟨k',R',rfl,hlen',heq',hrow',Xr,KN⟩:=hrel;have HC:=ah KN;have CP:=ah Xr;have dL:=ah heq';clear KN HV hrow heq' Xr HB2;obtain⟨-,⟨-,c0⟩,⟨-,c1⟩,⟨-,c2⟩,⟨-,c3⟩,⟨-,c4⟩,⟨-,c5⟩,-⟩:=HC.o;cases R' with
      |cons s R'=>
       obtain⟨⟨b',off',rfl,hB',y0,hs⟩,hrest'⟩:=hrow';simp only[aA]at hlen';have hkl':k'<t.cO.length:=(by omega);go_wp2_with fail;refine(nA _ _ hs).mono ?_;rintro e' w3 ⟨rfl,hb3⟩;have eF:=ah hb3;clear hb3 c0 c1 c2 c3 c4 c5 y0;cases GJ:Tk.jv s.data.toList
       ·rw[HE.o,List.all_cons,show oL t=false by unfold oL;rw[dL.o,List.all_cons,GJ];simp]at HS;go_wp2_with fail;go_ret;exact⟨bR (HS.o.trans (by simp)).symm,(HC.o.next eF.o).1⟩
       ·have HF:=ah (dL.o.trans (by rw[List.all_cons,GJ];rfl:_=R'.all (λs=>Tk.jv s.data.toList)));go_wp2_with fail;go_roundw
        case rel=>exact⟨k'+1,R',by go_num,by omega,HF.o,hrest'.same eF.o,CP.o.trans (eF.o.mono CP.o.size),HC.o.next eF.o⟩
        case measure=>simp[intOf];omega
      |nil=>
       obtain rfl:k'=t.cO.length:=(by simpa using hlen');go_wp2_with fail;refine(nA _ _ kU.o.1).mono ?_;rintro e' w3 ⟨rfl,hb3⟩;have eF:=ah (CP.o.trans (hb3.mono CP.o.size));have HD:=ah (HC.o.next hb3);clear hb3 c0 c1 c2 c3 c4 c5 HC CP;cases hN:Tk.jv t.nm.data.toList
       ·rw[HE.o,List.all_cons,show oL t=false by unfold oL;rw[hN];rfl]at HS;go_wp2_with fail;go_ret;exact⟨bR (HS.o.trans (by simp)).symm,HD.o.1⟩
       ·obtain⟨-,⟨-,c0⟩,⟨-,c1⟩,⟨-,c2⟩,⟨-,c3⟩,⟨-,c4⟩,⟨-,c5⟩,-⟩:=HD.o;go_wp2_with fail;refine(Gg t.body _ _ _ kU.o.2.2.2 (HST.o.1.same eF.o)).mono ?_;rintro e' w4 ⟨rfl,hb4⟩;have nN:=ah (eF.o.trans (hb4.mono eF.o.size));have RV:=ah (HD.o.next hb4);clear hb4 c0 c1 c2 c3 c4 c5;have HT:aj (oL t=gN t.body):=ah (by unfold oL;rw[hN,dL.o];rfl);cases GJ:gN t.body
        ·rw[HE.o,List.all_cons,HT.o,GJ]at HS;go_wp2_with fail;go_ret;exact⟨bR (HS.o.trans (by simp)).symm,RV.o.1⟩
        ·have HF:=ah (HE.o.trans (by rw[List.all_cons,HT.o,GJ];rfl:_=R.all oL));go_wp2_with fail;go_roundg R.length
         case measure=>simp
         case rel=>exact⟨k+1,R,rfl,by go_num,by omega,HF.o,hrest.same nN.o,HU.o.next nN.o⟩
end Go.Proofs.YtmildapbbcbbhaaGreatDoor
