/- Contract of the reader's program, for the fixed one. And what hangs on it. -/
import Derived.Test.YtkmllehjemjgpaaGreatDoorGRD
import Derived.Test.YtkmllehjemjgpaaGreatDoorGTC
set_option linter.unusedSimpArgs false
set_option linter.unusedVariables false
set_option maxHeartbeats 40000000
set_option maxRecDepth 1000000
namespace Go.Proofs.YtkmllehjemjgpaaGreatDoor
open Go.RowKit
open Md Pz
theorem ac8:(Tryz.prog.info? 75).map (λi=>(i.zero,i.size,i.bytes))=some (some (.agg FL),6,64):=by kernel_rfl
theorem aw5: ∃i0,Tryz.prog.info? 75=some i0∧i0.zero=some (.agg FL)∧i0.size=6∧i0.bytes=64:=info_parts ac8
theorem ad1:(Tryz.prog.info? 52).map (λi=>(i.zero,i.size,i.bytes))=some (some (.agg Rt),4,72):=by kernel_rfl
theorem aw7: ∃i0,Tryz.prog.info? 52=some i0∧i0.zero=some (.agg Rt)∧i0.size=4∧i0.bytes=72:=info_parts ad1
def RJ (R:Rp) (w:World) (res:nE Pr) (e:Ending) (w':World):Prop:=
 match res with
 | .ok p r=>(∃aB aA aD ay,e= .returned (.tuple #[.agg #[.slice aB p.ds.length aA,.slice aD p.ts.length ay],.bool (!p.ts.isEmpty)])∧(p.ds.length<=4096∧p.ts.length<=4096∧p.ds.length<=aA∧p.ts.length<=ay)∧ig w.heap.size w' (λw2=>gM w2 w2.heap.size p.ds aB 0∧fQ w2 w2.heap.size p.ts aD 0))∧dM w' R r∧w.grownBy w' (some R.br)
 | .no r=>(∃a n c a' n' c',e= .returned (.tuple #[.agg #[.slice a n c,.slice a' n' c'],.bool false]))∧dM w' R r∧w.grownBy w' (some R.br)
def Wy:Array Value:= #[.slice none 0 0,.slice none 0 0]
structure Pg (R:Rp) (bp:Nat) (w W:World) (vD vT:Value) (rest:aO):Prop where
 rd:dM W R rest
 gr:w.grownBy W (some R.br)
 lt:R.br<w.heap.size∧w.heap.size<bp∧bp<W.heap.size
 z:W.heap[w.heap.size]? =some (.cells Wy 25 (0,0))
 blk:W.heap[bp]? =some (.cells #[vD,vT] 25 (0,0))
section
variable {R:Rp} {bp:Nat} {w W W':World} {vD vT:Value} {rest rest':aO}
theorem Pg.then (h:Pg R bp w W vD vT rest) (h1:dM W' R rest') (h2:W.grownBy W' (some R.br)):Pg R bp w W' vD vT rest':=
 ⟨h1,gY h.gr h2,⟨h.lt.1,h.lt.2.1,Nat.lt_of_lt_of_le h.lt.2.2 h2.size⟩,(h2.block _ (Array.getElem?_eq_some_iff.1 h.z).1 (by have:=h.lt;simp;omega)).trans h.z,(h2.block _ (Array.getElem?_eq_some_iff.1 h.blk).1 (by have:=h.lt;simp;omega)).trans h.blk⟩
theorem Pg.below (h:Pg R bp w W vD vT rest) (hb:Below W.heap.size W W'):Pg R bp w W' vD vT rest:=h.then (h.rd.below hb) (iR hb)
theorem Pg.put (h:Pg R bp w W vD vT rest) (hr:dM W' R rest) (hg:w.grownBy W' (some R.br)) (hB:Below (bp+1) W W') (j:Nat) (v vD' vT':Value) (hy:(#[vD,vT]:Array Value).setIfInBounds j v= #[vD',vT']):Pg R bp w (W'.setCell ⟨bp,j,none⟩ v) vD' vT' rest:=
 ⟨tu hr _ _ (by have:=h.lt;have:=R.b0;show R.B0<=bp;omega) (by have:=h.lt;show bp≠R.br;omega),Ay hg _ _ (by have:=h.lt;show _<=bp;omega),by have h1:=h.lt;have h2:=hB.size;simp[World.setCell];omega,(bY W' _ _ rfl (by have:=h.lt;show bp≠_;omega)).trans ((hB.block _ (by have:=h.lt;omega)).trans h.z),by rw[eZ ((hB.block _ (Nat.lt_succ_self _)).trans h.blk),hy]⟩
theorem Pg.cells (h:Pg R bp w W vD vT rest):W.cell? ⟨bp,0,none⟩=some vD∧W.cell? ⟨bp,1,none⟩=some vT∧∀j,W.frozen? ⟨bp,j,none⟩=false:=
 ⟨au h.blk rfl,au h.blk rfl,λ_=>bG h.blk⟩
end
theorem ad9:(Tryz.prog.info? 25).map (·.size)=some 2:=by kernel_rfl
theorem ay1 {R:Rp} {w W:World} {p:Pr} {aB aD:Option Addr} {aA ay:Nat} {r:aO} {res:nE Pr} {B:Nat} (e:res= .ok p r) (hl:p.ds.length<=4096∧p.ts.length<=4096∧p.ds.length<=aA∧p.ts.length<=ay)
 (hst:ig B W (λw2=>gM w2 w2.heap.size p.ds aB 0∧fQ w2 w2.heap.size p.ts aD 0)) (hB:w.heap.size<B) (hr:dM W R r) (hg:w.grownBy W (some R.br)) (hlt:R.br<w.heap.size):
 RJ R w res (.returned (.tuple #[.agg #[.slice aB p.ds.length aA,.slice aD p.ts.length ay],.bool (!p.ts.isEmpty)])) (W.setCells w.heap.size 0 [.slice aB p.ds.length aA,.slice aD p.ts.length ay]):=by
 subst e;exact⟨⟨aB,aA,aD,ay,rfl,hl,(hst.next ⟨(bU w.heap.size _ 0 W).size,λk h1 h2=>(bU w.heap.size _ 0 W).block k h2 (by simp;omega)⟩).mono (Nat.le_of_lt hB)⟩,AV hr (bU _ _ _ _) (by have:=R.b0;omega) (by omega),uQ hg _ _ _ (Nat.le_refl _)⟩
def zo (P S:World->Prop):List Bool->World->Prop
 | [x],w=>if x then S w else P w
 |_,_=>False
section
variable {P S:World->Prop} {c:List Bool} {w w':World} {k i:Nat}
theorem zo.bits (h:zo P S c w): ∃x,c=[x]:=by
 match c,h with
 | [x],_=>exact⟨x,rfl⟩
 | [],h=>exact h.elim
 |_::_::_,h=>exact h.elim
theorem zo.skip (h1:(k==i)=false) (h:zo P S c w):zo P S (gJ [k] c i) w:=by
 obtain⟨x,rfl⟩:=h.bits;simp only[gJ,h1,Bool.or_false];exact h
theorem zo.fire (h1:(k==i)=true) (h:S w):zo P S (gJ [k] [false] i) w:=by
 simp only[gJ,h1,Bool.or_true];exact h
end
theorem Vm (rest:aO):isDecl rest=((((nextK rest:Nat):Int)==3)&&(pX (aQ rest) != 0)):=by
 unfold isDecl;rw[LC 3];rfl
theorem lF.ap7 {B:Nat} {w w1 w2:World} (h:lF B w w1) (hb:Below w.heap.size w1 w2):lF B w w2:=⟨Nat.le_trans h.1 hb.size,λk h1 h2=>(hb.block k h2).trans (h.2 k h1 h2)⟩
theorem ad8 {R:Rp} {w:World} {ts:aO} {bp:Nat} (hI:dM w R ts) (hg:w.heap.size+1=bp): ∀W,((w.alloc (.cells #[.slice none 0 0,.slice none 0 0] 25)).alloc (.cells #[.slice none 0 0,.slice none 0 0] 25))=W->Pg R bp w W (.slice none 0 0) (.slice none 0 0) ts:=by
 intro W hW;have hb1:Below w.heap.size w (w.alloc (.cells #[.slice none 0 0,.slice none 0 0] 25)):=ak _ _;have hz1:(w.alloc (.cells #[.slice none 0 0,.slice none 0 0] 25)).heap[w.heap.size]? =some (.cells Wy 25 (0,0)):=heap_alloc_new _ _;have hs1:(w.alloc (.cells #[.slice none 0 0,.slice none 0 0] 25)).heap.size=bp:=by simp[hg]
 generalize w.alloc (.cells #[.slice none 0 0,.slice none 0 0] 25)=W1 at *;have hb2:Below w.heap.size w W:=by rw[<- hW];exact hb1.alloc hb1.size _
 exact⟨hI.below hb2,iR hb2,⟨hI.lt,by omega,by rw[<- hW];simp;omega⟩,by rw[<- hW];exact(heap_alloc_old _ _ (Array.getElem?_eq_some_iff.1 hz1).1).trans hz1,by rw[<- hW,<- hs1];exact heap_alloc_new _ _⟩
inductive Dz:aO->List De->aO->Prop
 |nil {ts:aO} :isDecl ts=false->Dz ts [] ts
 |cons {ts q r:aO} {d:De} {m:List De} :isDecl ts=true->isName ts.tail=true->KzR ⟨pX (aQ ts),((dV ts:Nat):Int),tx (aQ ts.tail),0,0,⟨#[]⟩⟩ ts.tail.tail d q->at' [59] q=true->Dz q.tail m r->Dz ts (d::m) r
inductive Tz (S:aO->aH->aO->Prop):aO->List Th->aO->Prop
 |nil {ts:aO} :at' [116,104,114,101,97,100] ts=false->Tz S ts [] ts
 |cons {ts r q r':aO} {l:List ByteArray} {b:aH} {m:List Th} :at' [116,104,114,101,97,100] ts=true->isName ts.tail=true->at' [40] ts.tail.tail=true->LzR ts.tail.tail.tail l r->S r b q->Tz S q m r'->Tz S ts (⟨tx (aQ ts.tail),dV ts,l,b⟩::m) r'
theorem T9 (R:Rp) (S:aO->aH->aO->Prop) (N9:aj (∀r b q,S r b q->tJ R r b q)) (ts r1 r9:aO) (ds:List De) (th:List Th) (hD:Dz ts ds r1) (hT:Tz S r1 th r9) (hl:ds.length<=4096∧th.length<=4096) (w:World) (hI:dM w R ts):
 Calls Tryz.prog 73 #[.pointer (some ⟨R.br,0,none⟩)] w (RJ R w (.ok ⟨ds,th⟩ r9)):=by
 have HI:=ah hI;have oH:=ah hI.lt;have HDT:=ah (And.intro hD hT);have DU:=ah hl;have hf0:=aU8;have hf1:=aU9;clear hI hD hT hl;go_enter Tryz.func73,Tryz.ntmps73;go_upto_block 0 with fail;obtain⟨bp,hg⟩: ∃g,w.heap.size+1=g:=⟨_,rfl⟩;rw[hg];generalize hW:World.alloc (World.alloc w _) _=W0;have MR:aj (Pg R bp w W0 (.slice none 0 0) (.slice none 0 0) ts):=ah (ad8 HI.o hg W0 hW);clear hW hg;go_cut [] (λW'=> ∃vD,Pg R bp w W' vD (.slice none 0 0) r1∧FN (bp+1) W' vD ds∧(∀d∈ds,d.Ok))
 case first=>
  obtain⟨i0,hi,hz0,hz1,hz2⟩:=aw5;have dY:=ah (And.intro hi (And.intro hz0 (And.intro hz1 hz2)));clear hi hz0 hz1 hz2;go_wp2_with fail;go_loopg [5,6] ds.length (λgk _ _ wr=> ∃(l m:List De) (rest:aO) (vD:Value),gk=m.length∧Dz rest m r1∧l++m=ds∧Pg R bp w wr vD (.slice none 0 0) rest∧FN (bp+1) wr vD l∧(∀d∈l,d.Ok))
  case atStart=>exact⟨[],ds,ts,_,rfl,HDT.o.1,rfl,MR.o,Grow.nil _ _ _ _ _ _,by simp⟩
  case round=>
   obtain⟨l,m,rest,vD,rfl,hz,hlm,hs,hg,hok⟩:=hrel;have IK:=ah hlm;have TF:aj (l.length+m.length<=4096):=ah (by have h1:=congrArg List.length hlm;simp only[List.length_append]at h1;have:=DU.o;omega);have HS:=ah hs;have HG:=ah hg;have mZ:=ah hok;have HDZ:=ah hz;obtain⟨av,cv,hv⟩:=hg.len;have dJ:=ah (λw hI=>qb R rest w hI);unfold vE at dJ;have Qa:=ah (λw=>ET (tx (aQ rest)) (l:=aQ rest) (Ku _) w);clear hlm hs hg hok hz MR;subst hv;go_upto_region 2 with fail;go_cut [19] (λs19 W'=>s19= .bool (isDecl rest)∧Below wr.heap.size wr W')
   case first=>
    have HE:=ah (Vm rest);generalize isDecl rest=b at *;generalize ((nextK rest:Nat):Int)=k at *;generalize tx (aQ rest)=s at *;generalize pX (aQ rest)=dc at *;cases hk:(k==3)
    ·go_wp2_with fail;refine(dJ.o _ HS.o.rd).mono ?_;rintro e w1 ⟨rfl,h2⟩;have HB1:=ah h2;clear h2;go_wp2_with fail;go_meet;exact⟨by rw[HE.o,hk];rfl,HB1.o⟩
    ·go_wp2_with fail;refine(dJ.o _ HS.o.rd).mono ?_;rintro e w1 ⟨rfl,h2⟩;have HB1:=ah h2;have HR1:=ah (HS.o.rd.below h2);clear h2;go_wp2_with fail;refine(dJ.o _ HR1.o).mono ?_;rintro e w2 ⟨rfl,h2⟩;have HB2:=ah (HB1.o.trans (h2.mono HB1.o.size));clear h2;go_wp2_with fail;refine(Qa.o _).mono ?_;rintro e w3 ⟨rfl,rfl⟩;go_wp2_with fail;go_meet;exact⟨by rw[HE.o,hk];rfl,HB2.o⟩
   obtain⟨rfl,hB⟩:=hcut;obtain⟨W1,rfl⟩: ∃W:World,W=wc:=⟨_,rfl⟩;have kE:=ah (HS.o.below hB);have uG:=ah (HG.o.next (dN hB));clear hB HS HG dJ Qa;cases HDZ.o with
   |nil hd=>have hq:l=ds:=(by rw[<- IK.o,List.append_nil]);subst hq;rw[hd];go_wp2_with fail;go_meet;exact⟨_,kE.o,uG.o,mZ.o⟩
   | @cons _ q _ d m hd hn hk h4 hzz=>
     have HC:=ah (Ka R rest q d W1 kE.o.rd hd hn hk h4);have Qn:=ah hzz;obtain⟨r,HRQ⟩: ∃r,aj (q.tail=r):=⟨_,ah rfl⟩;rw[HRQ.o]at HC Qn;rw[hd];clear hn hk h4 hzz HDZ hd;go_wp2_with fail;refine HC.o.mono ?_;clear HC;rintro e w2 ⟨⟨O8,rfl⟩,h2,h3⟩;have HDO:=ah O8;have HS2:=ah (kE.o.then h2 h3);have HG2:=ah (uG.o.next (yJ h3 (by have:=kE.o.lt;omega)));clear h2 h3 kE uG O8;unfold UC;go_upto_region 4 with fail;obtain⟨gd,hg⟩: ∃g,w2.heap.size=g:=⟨_,rfl⟩;generalize hW:World.alloc w2 _=W3;have jZ:aj (Pg R bp w W3 _ _ r):=ah (by rw[<- hW];exact HS2.o.below (ak _ _));have Cb:aj (FN (bp+1) W3 _ l):=ah (by rw[<- hW];exact HG2.o.next (dN (ak _ _)));have HB3:aj (W3.heap[gd]? =some (.cells (rV d).toArray 75 (0,0))):=ah (by rw[<- hW,<- hg];exact heap_alloc_new _ _);rw[hg];clear hW hg HS2 HG2;obtain⟨e0,e1,e2,e3,e4,e5⟩:(W3.cell? ⟨gd,0,none⟩=some (.int .i64 d.kind)∧W3.cell? ⟨gd,1,none⟩=some (.int .i64 d.line)∧W3.cell? ⟨gd,2,none⟩=some (.string d.nm)∧W3.cell? ⟨gd,3,none⟩=some (.int .i64 d.size)∧W3.cell? ⟨gd,4,none⟩=some (.int .i64 d.init)∧W3.cell? ⟨gd,5,none⟩=some (.string d.on)):=⟨au HB3.o rfl,au HB3.o rfl,au HB3.o rfl,au HB3.o rfl,au HB3.o rfl,au HB3.o rfl⟩;obtain⟨c0,c1,fc⟩:=jZ.o.cells;clear fc;have oo:=ah (Cb.o.next (dN (ak W3 (.cells (rV d).toArray 75))));have iG:=ah (gq (heap_alloc_new W3 (.cells (rV d).toArray 75)));obtain⟨hi,hz0,hz1,hz2⟩:=dY.o;have hbs:bp+1<=W3.heap.size+1:=(by have:=jZ.o.lt;omega);have hkl:l.length+1<=maxLen:=(by have:=TF.o;simp only[List.length_cons]at this;unfold maxLen;omega);have au9:(l.length+1)*64<=140737488355328:=(by have:=TF.o;simp only[List.length_cons]at this;omega);go_wp2_with (at_builtin;refine wpList_append_lies _ rfl _ _ 22 rfl (bp+1) 75 i0 _ 6 64 Tryz.underlying22 hi hz0 hz1 hz2 rfl (by decide) _ _ _ rfl oo.o.own ⟨W3.heap.size,0,none⟩ 1 1 (rV d) rfl rfl iG.o (by simp[rV,Value.oneCell']) (by decide) hkl au9 (by simpa using hbs) _ rfl ?_);clear hi hz0 hz1 hz2;intro g cap w9 hown hgr hmv hlt2;have nN:aj (∀k,(Value.slice av (l).length cv).ownBlock=some k->bp+1<=k):=ah (λk hk=>(Cb.o.lt k hk).1);have tV:aj (Below (bp+1) (W3.alloc (.cells (rV d).toArray 75)) w9):=ah (uM hgr nN.o (by simpa using hbs));have qY:aj (Below (bp+1) W3 w9):=ah (((ak W3 (.cells (rV d).toArray 75)).mono jZ.o.lt.2.2).trans tV.o);have zn:aj (nG (bp+1) (Value.slice av (l).length cv).ownBlock (W3.alloc (.cells (rV d).toArray 75)) (λ_=>True)):=ah (λ_ _=>trivial);have KU:aj (dM w9 R r):=ah (JJ (yx jZ.o.rd _) hgr (λk hk=>by have h1:=nN.o k hk;have h2:=jZ.o.lt;have h3:=R.b0;omega));have Ej:aj (w.grownBy w9 (some R.br)):=ah (Jo (yu jZ.o.gr _) (tV.o.mono (by have:=jZ.o.lt;omega)));have wU:w9.heap[bp]? =some (.cells _ 25 (0,0)):=(qY.o.block _ (Nat.lt_succ_self _)).trans jZ.o.blk;have tZ:=ah (oo.o.push (x:=d) zn.o rfl hown hgr (by simpa using hmv));have c0:w9.cell? ⟨bp,0,none⟩=some (.slice av l.length cv):=au wU rfl;have f0:w9.frozen? ⟨bp,0,none⟩=false:=bG wU;clear hown hgr hmv hlt2 hbs hkl au9 zn iG oo tV wU e0 e1 e2 e3 e4 e5 c1;go_wp2_with fail;generalize hW:World.setCell w9 _ _=KY;have Ht:aj (Pg R bp w KY (.slice (some ⟨g,0,none⟩) (l.length+1) cap) (.slice none 0 0) r):=ah (by rw[<- hW];exact jZ.o.put KU.o Ej.o qY.o 0 _ _ _ rfl);have WO:aj (FN (bp+1) KY (.slice (some ⟨g,0,none⟩) (l.length+1) cap) (l++[d])):=ah (by rw[<- hW];exact tZ.o.next (jg w9 ⟨bp,0,none⟩ _ (Nat.lt_succ_self _)));have Qi:aj (∀y∈l++[d],y.Ok):=ah (λy hy=>by
      rcases List.mem_append.1 hy with hy|hy
      ·exact mZ.o y hy
      ·rw[List.mem_singleton.1 hy];exact HDO.o)
     clear hW c0 f0 jZ KU Ej qY tZ nN Cb HB3;go_roundg m.length
     case measure=>simp
     case rel=>exact⟨l++[d],m,r,_,rfl,Qn.o,by rw[<- IK.o];simp,Ht.o,WO.o,Qi.o⟩
 obtain⟨vD,hP,hG,O8⟩:=hcut;obtain⟨W2,rfl⟩: ∃W:World,W=wc:=⟨_,rfl⟩;obtain⟨aB,aA,hv,xP,av7⟩:=hG.says O8;subst hv;have fU:=ah hP;have HD2:=ah (And.intro xP av7);clear hP hG O8 xP av7 MR;go_upto_block 2 with fail;go_cut [] (λW'=> ∃(lt:List ni) (vT:Value),lt.map (·.t)=th∧Pg R bp w W' (.slice aB ds.length aA) vT r9∧lF (bp+1) W2 W'∧C9 W2.heap.size W' vT lt∧(∀x∈lt,x.t.Ok∧x.t.bg.length<=x.dw))
 case first=>
  obtain⟨i0,hi,hz0,hz1,hz2⟩:=aw7;have dY:=ah (And.intro hi (And.intro hz0 (And.intro hz1 hz2)));have Bf:aj (bp+1<=W2.heap.size∧R.br<bp):=ah (by have:=fU.o.lt;omega);clear hi hz0 hz1 hz2;go_wp2_with fail;go_loopg [7,8] th.length (λgk _ _ wr=> ∃(lt:List ni) (m:List Th) (rs:aO) (vT:Value),gk=m.length∧Tz S rs m r9∧lt.map (·.t)++m=th∧Pg R bp w wr (.slice aB ds.length aA) vT rs∧lF (bp+1) W2 wr∧C9 W2.heap.size wr vT lt∧(∀x∈lt,x.t.Ok∧x.t.bg.length<=x.dw))
  case atStart=>exact⟨[],th,r1,_,rfl,HDT.o.2,rfl,fU.o,lF.refl _ _,Grow.nil _ _ _ _ _ _,by simp⟩
  case round=>
   obtain⟨lt,m,rs,vT,rfl,hz,hlm,hs,ha,hg,hok⟩:=hrel;have IK:=ah hlm;have TF:aj (lt.length+m.length<=4096):=ah (by have h1:=congrArg List.length hlm;simp only[List.length_append,List.length_map]at h1;have:=DU.o;omega);have HS:=ah hs;have HA:=ah ha;have HG:=ah hg;have mZ:=ah hok;obtain⟨av,cv,hv⟩:=hg.len;clear hlm hs ha hg hok fU HD2;subst hv;cases hz with
   | @nil rs hd=>have hq:lt.map (·.t)=th:=(by rw[<- IK.o,List.append_nil]);go_wp2_with fail;refine(J9 R _ _ ⟨#[116,104,114,101,97,100]⟩ rfl HS.o.rd).mono ?_;rw[hd];rintro e w1 ⟨rfl,h2⟩;have kE:=ah (HS.o.below h2);have uG:=ah (HG.o.next (dN h2));have HA1:=ah (HA.o.trans (dN h2));clear h2;go_wp2_with fail;go_meet;exact⟨lt,_,hq,kE.o,HA1.o,uG.o,mZ.o⟩
   | @cons _ rr r r' ll b m hd hn h4 hlz hb hzz=>
     have Qn:=ah hzz;have fP:=ah (N9.o _ _ _ hb);have IX:=ah (λw hI=>Wi R rs rr r ll b w hI hd hn h4 hlz fP);obtain⟨tt,Zm⟩: ∃tt:Th,aj ((⟨tx (aQ rs.tail),((dV rs:Nat):Int),ll,b⟩:Th)=tt):=⟨_,ah rfl⟩;rw[Zm.o]at IX IK;clear hn h4 hlz hb hzz fP Zm;go_wp2_with fail;refine(J9 R _ _ ⟨#[116,104,114,101,97,100]⟩ rfl HS.o.rd).mono ?_;rw[hd];rintro e w1 ⟨rfl,h2⟩;have kE:=ah (HS.o.below h2);have uG:=ah (HG.o.next (dN h2));have HA1:=ah (HA.o.trans (dN h2));clear h2 HS HG HA;have HC:=ah (IX.o w1 kE.o.rd);clear IX;go_wp2_with fail;refine HC.o.mono ?_;clear HC;rintro e w2 ⟨⟨x,hxt,rfl,aw2,aw3⟩,h2,h3⟩;have HXT:=ah hxt;clear hxt;have HXO:=ah aw2;have uf:aj (W2.heap.size<=w1.heap.size):=ah HA1.o.1;have HS2:=ah (kE.o.then h2 h3);have HG2:=ah (uG.o.next (yJ h3 (by have:=Bf.o;omega)));have HA2:=ah (HA1.o.trans (yJ h3 (by have:=Bf.o;omega)));have aO9:=ah uG.o.lt;have uL:=ah aw3;clear h2 h3 kE uG HA1 aw2 aw3;unfold ni.f;go_upto_region 9 with fail;obtain⟨gd,hg⟩: ∃g,w2.heap.size=g:=⟨_,rfl⟩;generalize hW:World.alloc w2 _=W3;have jZ:aj (Pg R bp w W3 _ _ r):=ah (by rw[<- hW];exact HS2.o.below (ak _ _));have Cb:aj (C9 W2.heap.size W3 _ lt):=ah (by rw[<- hW];exact HG2.o.next (dN (ak _ _)));have qd:aj (lF (bp+1) W2 W3):=ah (by rw[<- hW];exact HA2.o.trans (dN (ak _ _)));have zl:aj (ig w1.heap.size W3 (ni.I x)):=ah (by rw[<- hW];exact uL.o.next (dN (ak _ _)));have HB3:aj (W3.heap[gd]? =some (.cells (ni.f x).toArray 52 (0,0))):=ah (by rw[<- hW,<- hg];exact heap_alloc_new _ _);rw[hg];clear hW hg HS2 HG2 HA2 uL;obtain⟨e0,e1,e2,e3⟩:(W3.cell? ⟨gd,0,none⟩=some (.string x.t.nm)∧W3.cell? ⟨gd,1,none⟩=some (.int .i64 x.t.line)∧W3.cell? ⟨gd,2,none⟩=some (.slice x.fC x.t.bg.length x.dw)∧W3.cell? ⟨gd,3,none⟩=some (.slice x.bR x.t.body.len x.aY)):=⟨au HB3.o rfl,au HB3.o rfl,au HB3.o rfl,au HB3.o rfl⟩;obtain⟨c0,c1,fc⟩:=jZ.o.cells;clear fc;have oo:=ah (Cb.o.next (dN (ak W3 (.cells (ni.f x).toArray 52))));have iG:=ah (gq (heap_alloc_new W3 (.cells (ni.f x).toArray 52)));obtain⟨hi,hz0,hz1,hz2⟩:=dY.o;have hbs:W2.heap.size<=W3.heap.size+1:=(by have:=qd.o.1;omega);have hkl:lt.length+1<=maxLen:=(by have:=TF.o;simp only[List.length_cons]at this;unfold maxLen;omega);have av0:(lt.length+1)*72<=140737488355328:=(by have:=TF.o;simp only[List.length_cons]at this;omega);go_wp2_with (at_builtin;refine wpList_append_lies _ rfl _ _ 23 rfl W2.heap.size 52 i0 _ 4 72 Tryz.underlying23 hi hz0 hz1 hz2 rfl (by decide) _ _ _ rfl oo.o.own ⟨W3.heap.size,0,none⟩ 1 1 (ni.f x) rfl rfl iG.o (by simp[ni.f,Value.oneCell']) (by decide) hkl av0 (by simpa using hbs) _ rfl ?_);clear hi hz0 hz1 hz2;intro g cap w9 hown hgr hmv hlt2;have nN:aj (∀k,(Value.slice av lt.length cv).ownBlock=some k->W2.heap.size<=k):=ah (λk hk=>(Cb.o.lt k hk).1);have tV:aj (Below W2.heap.size (W3.alloc (.cells (ni.f x).toArray 52)) w9):=ah (uM hgr nN.o (by simpa using hbs));have qY:aj (Below W2.heap.size W3 w9):=ah (((ak W3 (.cells (ni.f x).toArray 52)).mono qd.o.1).trans tV.o);have zn:aj (nG W2.heap.size (Value.slice av lt.length cv).ownBlock (W3.alloc (.cells (ni.f x).toArray 52)) (ni.I x)):=ah (P5 (zl.o.next (dN (ak _ _))) uf.o (λk hk=>(aO9.o k hk).2));have KU:aj (dM w9 R r):=ah (JJ (yx jZ.o.rd _) hgr (λk hk=>by have h1:=nN.o k hk;have h2:=Bf.o;have h3:=R.b0;omega));have Ej:aj (w.grownBy w9 (some R.br)):=ah (Jo (yu jZ.o.gr _) (tV.o.mono (by have h1:=jZ.o.lt;have h2:=Bf.o;omega)));have wU:w9.heap[bp]? =some (.cells _ 25 (0,0)):=(qY.o.block _ (by have:=Bf.o;omega)).trans jZ.o.blk;have tZ:=ah (oo.o.push (x:=x) zn.o rfl hown hgr (by simpa using hmv));have Ec:aj (lF (bp+1) W2 w9):=ah (qd.o.ap7 qY.o);have c1:w9.cell? ⟨bp,1,none⟩=some (.slice av lt.length cv):=au wU rfl;have f1:w9.frozen? ⟨bp,1,none⟩=false:=bG wU;clear hown hgr hmv hlt2 hbs hkl av0 zn iG oo tV wU e0 e1 e2 e3 c0;go_wp2_with fail;generalize hW:World.setCell w9 _ _=KY;have Ht:aj (Pg R bp w KY (.slice aB ds.length aA) (.slice (some ⟨g,0,none⟩) (lt.length+1) cap) r):=ah (by rw[<- hW];exact jZ.o.put KU.o Ej.o (qY.o.mono Bf.o.1) 1 _ _ _ rfl);have WO:aj (C9 W2.heap.size KY (.slice (some ⟨g,0,none⟩) (lt.length+1) cap) (lt++[x])):=ah (by rw[<- hW];exact tZ.o.next (jg w9 ⟨bp,1,none⟩ _ Bf.o.1));have aN8:aj (lF (bp+1) W2 KY):=ah (by rw[<- hW];exact Ec.o.trans (jg w9 ⟨bp,1,none⟩ _ (Nat.lt_succ_self _)));have Qi:aj (∀y∈lt++[x],y.t.Ok∧y.t.bg.length<=y.dw):=ah (λy hy=>by
      rcases List.mem_append.1 hy with hy|hy
      ·exact mZ.o y hy
      ·rw[List.mem_singleton.1 hy];exact HXO.o)
     clear hW c1 f1 jZ KU Ej qY tZ nN Cb HB3 Ec qd;go_roundg m.length
     case measure=>simp
     case rel=>exact⟨lt++[x],m,r,_,rfl,Qn.o,by rw[<- IK.o,<- HXT.o];simp,Ht.o,aN8.o,WO.o,Qi.o⟩
 obtain⟨lt,vT,hrt,hP,hA,hG,hok⟩:=hcut;obtain⟨W8,rfl⟩: ∃W:World,W=wc:=⟨_,rfl⟩;obtain⟨aD,ay,hv,vV,XW⟩:=hG.says hok;subst hv;have sG:aj (lt.length=th.length):=ah (by rw[<- hrt,List.length_map]);rw[hrt]at XW hP;rw[sG.o]at vV;have sH:=ah hP;have HST:aj (ds.length<=aA∧th.length<=ay∧ig (bp+1) W8 (λw2=>gM w2 w2.heap.size ds aB 0∧fQ w2 w2.heap.size th aD 0)):=ah ⟨HD2.o.1,vV,λw2 h2=>⟨HD2.o.2 w2 (hA.trans h2),XW w2 (h2.mono fU.o.lt.2.2)⟩⟩;have jT:=DU;clear hP hA hG hok vV XW hrt HD2 sG DU fU;clear hf0 hf1;have HT0:aj (decide ((0:Int)<(th.length:Int))= !th.isEmpty):=ah (by cases th <;> simp);have TU:aj (Below W8.heap.size W8 (W8.drewN 1)):=ah (below_drewN (Below.refl _ _) 1);have IL:=ah (sH.o.below TU.o);have KP: ∀(x:Bool) w',zo (λw'=>w'=W8.drewN 1) (λw'=>w'=(W8.drewN 1).setCells w.heap.size 0 [.slice aB ds.length aA,.slice aD th.length ay]) [x] w'->w'.heap[bp]? =some (.cells #[.slice aB ds.length aA,.slice aD th.length ay] 25 (0,0)):=λx w' h=>by
  cases x
  ·have h:w'=_:=h;rw[h];exact IL.o.blk
  ·have h:w'=_:=h;rw[h];exact((bU w.heap.size _ 0 (W8.drewN 1)).block _ IL.o.lt.2.2 (by have:=IL.o.lt;simp;omega)).trans IL.o.blk
 go_upto_region 12 with fail;refine bf (by kernel_rfl) rfl ?_;refine aX 0 7 [5] [[],[],[1],[1,2],[1,2,3],[0],[0,1,2,3,4,5]] [[some false],[none],[none],[none],[none],[some false],[some true]] (zo (λw'=>w'=W8.drewN 1) (λw'=>w'=(W8.drewN 1).setCells w.heap.size 0 [.slice aB ds.length aA,.slice aD th.length ay])) (λ_ _=>True) [50,51,52,53,54,3] rfl rfl (by rfl) (by kernel_rfl) (by kernel_rfl) (by kernel_rfl) (by kernel_rfl) (by kernel_rfl) (by rfl) (λ_=>trivial) (by rfl) rfl ?_;simp only[eP,jq];apply aR.step
 case aJ=>intro c A w' hok hC hO hD;obtain⟨x,rfl⟩:=hC.bits;have hb:=KP x w' hC;have k0:w'.cell? ⟨bp,0,none⟩=some (.slice aB ds.length aA):=au hb rfl;have k1:w'.cell? ⟨bp,1,none⟩=some (.slice aD th.length ay):=au hb rfl;have e4:=hO 4 (by rfl);simp[Act.eval]at e4;simp[Act.eval]at hD;simp[go_sem,gd,Oper.wp,e4,k0,k1];exact aG.mk trivial (zo.skip (by rfl) hC) (aW.mk _ _)
 apply aR.step
 case aJ=>intro c A w' hok hC hO hD;have e4:=hO 4 (by rfl);simp[Act.eval]at e4;simp[Act.eval]at hD;simp[go_sem,gd,Oper.wp,hD,e4];exact aG.mk trivial (zo.skip (by rfl) hC) (aW.mk _ _)
 apply aR.step
 case aJ=>intro c A w' hok hC hO hD;obtain⟨x,rfl⟩:=hC.bits;have hb:=KP x w' hC;have k1:w'.cell? ⟨bp,1,none⟩=some (.slice aD th.length ay):=au hb rfl;simp[Act.eval]at hD;simp[go_sem,gd,Oper.wp,hD,k1];exact aG.mk trivial (zo.skip (by rfl) hC) (aW.mk _ _)
 apply aR.step
 case aJ=>intro c A w' hok hC hO hD;simp[Act.eval]at hD;simp[go_sem,gd,Oper.wp,hD];exact aG.mk trivial (zo.skip (by rfl) hC) (aW.mk _ _)
 try simp only[bP]
 refine aR.step (v:= .bool (!th.isEmpty)) ?_ ?_
 ·intro c A w' hok hC hO hD;simp[Act.eval]at hD;simp[go_sem,gd,Oper.wp,hD];exact aG.mk trivial (zo.skip (by rfl) hC) (show Value.bool _=_ by rw[<- HT0.o];simp)
 refine aR.some (λ_ _=>True) (λ_ _ _ _ _=>trivial) ?_ ?_
 ·intro c A w' hok hC hO hD;obtain⟨x,rfl⟩:=hC.bits;obtain⟨rfl,-⟩:=hok;have hC:w'=_:=hC;have e2:=hO 2 (by rfl);simp[Act.eval]at e2;simp[Act.eval]at hD;simp only[gd,if_true];refine wp_store_mid _ _ _ (by rfl) w.heap.size 0 #[.slice aB ds.length aA,.slice aD th.length ay] (by simp[Act.eval,e2]) (by simp[Act.eval,hD]) (by rw[hC];exact CS IL.o.z (Nat.le_refl 2)) ad9 (by simp[Value.oneCell']) ?_;exact aG.yQ trivial (zo.fire (by rfl) (by rw[hC])) trivial
 apply aR.step
 case aJ=>intro c A w' hok hC hO hD;simp[Act.eval]at hD;simp[go_sem,gd,Oper.wp,hD];exact aG.mk trivial (zo.skip (by rfl) hC) (aW.mk _ _)
 try simp only[bP]
 refine aR.done ?_;intro w9 ZF
 try simp only[List.drop_succ_cons,List.drop_zero]
 intro x0 h0 x1 h1 x2 h2 x3 h3 x4 h4 x5 h5 x6 h6;have h6':=Eq.symm (show x6=_ from h6);subst h6';clear h0 h1 h2 h3 h4 h5 h6 KP;refine BP ?_;refine bT rfl ?_;have HW9:aj (w9=(W8.drewN 1).setCells w.heap.size 0 [.slice aB ds.length aA,.slice aD th.length ay]):=ah ZF;have tV:aj (w9.heap[w.heap.size]? =some (.cells #[.slice aB ds.length aA,.slice aD th.length ay] 25 (0,0))):=ah (by rw[HW9.o];exact iE IL.o.z rfl);clear ZF;have y0:w9.cell? ⟨w.heap.size,0,none⟩=some (.slice aB ds.length aA):=au tV.o rfl;have y1:w9.cell? ⟨w.heap.size,1,none⟩=some (.slice aD th.length ay):=au tV.o rfl;go_simp;go_wp2_with fail;exact bodyPost_ret (v:= .tuple #[.agg #[.slice aB ds.length aA,.slice aD th.length ay],.bool (!th.isEmpty)]) (by simp[results,Tryz.results73,go_sem,y0,y1]) rfl (by rw[HW9.o];exact ay1 rfl ⟨jT.o.1,jT.o.2,HST.o.1,HST.o.2.1⟩ (HST.o.2.2.next (dN TU.o)) (by have:=IL.o.lt;omega) IL.o.rd IL.o.gr oH.o)
theorem af3 (t:Tk.Tok):(Tk.Tok.cells t).length=3:=rfl
theorem Rn {w:World} {g B:Nat} {ts:aO} (hB:g<B): ∀(l:aO) (k:Nat),(∀i t,l[i]? =some t->∀j u,(Tk.Tok.cells t)[j]? =some u->w.cell? ⟨g,(k+i)*3+j,none⟩=some u)->uZ w B l (some ⟨g,0,none⟩) k
 | [],_,_=>trivial
 |t::r,k,h=>by
  have h0:=h 0 t rfl;refine⟨⟨g,0,rfl,hB,?_,?_,?_⟩,Rn (ts:=ts) hB r (k+1) (λi t' ht j u hu=>by rw[show k+1+i=k+(i+1) by omega];exact h (i+1) t' (by simpa using ht) j u hu)⟩
  ·have:=h0 0 _ rfl;rw[Nat.zero_add];exact this
  ·have:=h0 1 _ rfl;rw[Nat.zero_add];exact this
  ·have:=h0 2 _ rfl;rw[Nat.zero_add];exact this
theorem Wj {w:World} {base:Nat} {v:Value} {ts:aO} (h:w.ownsRow base 145 3 v ts.length (Tk.cellsOf ts)): ∃ao cap,v= .slice ao ts.length cap∧uZ w w.heap.size ts ao 0:=by
 rcases h.2 with⟨h1,h2⟩|⟨g,cap,cur,h1,hB,hg,hc,-,hs,ht⟩
 ·have:ts=[]:=by
   cases ts with
   |nil=>rfl
   |cons t r=>simp at h2
  subst this;exact⟨none,0,h1,trivial⟩
 ·refine⟨some ⟨g,0,none⟩,cap,h1,Rn (ts:=ts) (Array.getElem?_eq_some_iff.1 hg).1 ts 0 (λi t hi j u hu=> ?_)⟩;have hF:=flat_get af3 ts i t j u hi hu;have hF':(Tk.cellsOf ts)[i*3+j]? =some u:=hF;rw[<- ht]at hF';have hlt:=(List.getElem?_eq_some_iff.1 hF').1;rw[List.getElem?_take_of_lt (by rw[List.length_take]at hlt;omega)]at hF';rw[Nat.zero_add];exact au hg (by rw[<- hF'];simp)
def Ta (w:World) (ao:Option Addr) (cap:Nat) (ts:aO):Rp:=⟨w.heap.size,w.heap.size,ao,cap,ts,Nat.le_refl _⟩
theorem ay3 {w W:World} {ao:Option Addr} {cap:Nat} {ts:aO} (hW:w.alloc (.cells #[.slice ao ts.length cap,.int .i64 0] 123)=W) (ht:uZ w w.heap.size ts ao 0) (ok: ∀t∈ts,Ub t) (tl:(∀t∈ts,TL 4097 t)∧ts.length<=4096):dM W (Ta w ao cap ts) ts:=by
 subst hW;exact⟨⟨0,Nat.zero_le _,rfl,heap_alloc_new _ _⟩,ht.below (ak _ _),⟨ok,tl.2⟩,tl.1⟩
theorem Xj (s:ByteArray) (w:World) (dG:dD w) (hm:s.size<=maxLen) (p:Pr) (h0:(Tk.scan s.data.toList).2.1=0) (hsc: ∀t∈(Tk.scan s.data.toList).1,Ub t) (htl:(∀t∈(Tk.scan s.data.toList).1,TL 4097 t)∧(Tk.scan s.data.toList).1.length<=4096) (hpr: ∀(R:Rp) (wr:World),dM wr R (Tk.scan s.data.toList).1->Calls Tryz.prog 73 #[.pointer (some ⟨R.br,0,none⟩)] wr (RJ R wr (.ok p []))) (hts:p.ts.isEmpty=false):
 Calls Tryz.prog 39 #[.string s] w λe w'=> ∃aB aA aD ay,e= .returned (.tuple #[.agg #[.slice aB p.ds.length aA,.slice aD p.ts.length ay],.int .i64 0,.int .i64 0])∧p.At w' aB aD∧Below w.heap.size w w':=by
 have iF:=ah dG;have TK:=ah hsc;have Zl:=ah htl;have HSN:aj (∀w,dD w->Calls Tryz.prog 72 #[.string s] w (Ns w (Tk.scan s.data.toList))):=ah (λw h=>Xl s w h hm);have uK:=ah hpr;clear dG hm hpr hsc htl;generalize Tk.scan s.data.toList=sc at *;go_enter Tryz.func39,Tryz.ntmps39;go_upto_region 1 with fail;generalize hW:World.alloc w _=W0;have HB0:aj (Below w.heap.size w W0):=ah (by rw[<- hW];exact ak _ _);have HZ0:aj (W0.heap[w.heap.size]? =some (.cells Wy 25 (0,0))):=ah (by rw[<- hW];exact heap_alloc_new _ _);clear hW;go_wp2_with fail;refine(HSN.o _ (iF.o.same HB0.o)).mono ?_;rintro e w1 ⟨v,rfl,hown,hb⟩;obtain⟨ao,cap,rfl,htk⟩:=Wj hown;have Ql:=ah htk;have HB1:=ah (HB0.o.trans (hb.mono HB0.o.size));have HZ1:=ah ((hb.block _ (Array.getElem?_eq_some_iff.1 HZ0.o).1).trans HZ0.o);clear hown hb htk HSN HB0 HZ0;have y0:w1.cell? ⟨w.heap.size,0,none⟩=some (.slice none 0 0):=au HZ1.o rfl;have y1:w1.cell? ⟨w.heap.size,1,none⟩=some (.slice none 0 0):=au HZ1.o rfl;have f0:w1.frozen? ⟨w.heap.size,0,none⟩=false:=bG HZ1.o;have f1:w1.frozen? ⟨w.heap.size,1,none⟩=false:=bG HZ1.o;have hlt:w.heap.size<w1.heap.size:=(Array.getElem?_eq_some_iff.1 HZ1.o).1;have al8:=Zl;rw[h0];go_upto_region 5 with fail;generalize hW:World.alloc w1 _=W1;have HR1:=ah (ay3 hW Ql.o TK.o al8.o);have HB2:aj (Below w.heap.size w W1):=ah (by rw[<- hW];exact HB1.o.trans ((ak w1 _).mono HB1.o.size));have HZ2:aj (W1.heap[w.heap.size]? =some (.cells Wy 25 (0,0))):=ah (by rw[<- hW];exact((ak w1 _).block _ hlt).trans HZ1.o);clear hW y0 y1 f0 f1 Zl TK iF Ql al8 HB1 HZ1;go_wp2_with fail;refine(uK.o _ _ HR1.o).mono ?_;rintro e w2 ⟨⟨a,c,a',c',rfl,hl,hst⟩,h1,h2⟩;rw[hts];obtain⟨r,Zh⟩: ∃r:aO,aj (([]:aO)=r):=⟨_,ah rfl⟩;rw[Zh.o]at h1;obtain⟨n,HN⟩: ∃n,aj (p.ds.length=n):=⟨_,ah rfl⟩;obtain⟨n',HN'⟩: ∃n,aj (p.ts.length=n):=⟨_,ah rfl⟩;rw[HN.o,HN'.o]at hl⊢;have HP:=ah (And.intro hl hst);go_upto_region 6 with fail;generalize hW:World.alloc w2 _=W3;have HG:=ah h2;have HB3:aj (Below w.heap.size w W3):=ah (by rw[<- hW];exact(HB2.o.trans (bL h2 (Nat.le_of_lt hlt) HB2.o.size)).trans ((ak w2 _).mono (Nat.le_trans HB2.o.size h2.size)));have Rx:aj (Below w2.heap.size w2 W3):=ah (by rw[<- hW];exact ak w2 _);have HR3:aj (dM W3 (Ta w1 ao cap sc.1) r):=ah (h1.below Rx.o);have HZ3:aj (W3.heap[w.heap.size]? =some (.cells Wy 25 (0,0))):=ah (by have k1:=(Array.getElem?_eq_some_iff.1 HZ2.o).1;exact(Rx.o.block _ (Nat.lt_of_lt_of_le k1 h2.size)).trans ((h2.block _ k1 (by simp[Ta];omega)).trans HZ2.o));have HD3:aj (W3.heap[w2.heap.size]? =some (.cells #[.slice a n c,.slice a' n' c'] 25 (0,0))):=ah (by rw[<- hW];exact heap_alloc_new _ _);obtain⟨pos,hpos,hdrop,c0,c1⟩:=HR3.o.pos;have c0:W3.cell? ⟨w1.heap.size,0,none⟩=some (.slice ao sc.1.length cap):=c0;have c1:W3.cell? ⟨w1.heap.size,1,none⟩=some (.int .i64 (pos:Int)):=c1;have hpos:pos<=sc.1.length:=hpos;have hdrop:sc.1.drop pos=r:=hdrop;have hlt3:w.heap.size<W3.heap.size:=(Array.getElem?_eq_some_iff.1 HZ3.o).1;have hq: ¬pos<sc.1.length:=by rw[<- Zh.o]at hdrop;have:=List.drop_eq_nil_iff.1 hdrop;omega
 have hltW:w.heap.size<W1.heap.size:=(Array.getElem?_eq_some_iff.1 HZ2.o).1;clear hW h1 h2 hl hst uK HR1 HZ2 hpos hdrop;go_quiet (fail);generalize vS:World.drewN W3 _=W4;have dH:aj (Below W3.heap.size W3 W4):=ah (by rw[<- vS];exact below_drewN (Below.refl _ _) _);clear vS;have Ey:=ah ((dH.o.block _ hlt3).trans HZ3.o);have HD4:=ah ((dH.o.block _ (Array.getElem?_eq_some_iff.1 HD3.o).1).trans HD3.o);have y0:W4.cell? ⟨w.heap.size,0,none⟩=some (.slice none 0 0):=au Ey.o rfl;have y1:W4.cell? ⟨w.heap.size,1,none⟩=some (.slice none 0 0):=au Ey.o rfl;have f0:W4.frozen? ⟨w.heap.size,0,none⟩=false:=bG Ey.o;have f1:W4.frozen? ⟨w.heap.size,1,none⟩=false:=bG Ey.o;have d0:W4.cell? ⟨w2.heap.size,0,none⟩=some (.slice a n c):=au HD4.o rfl;have d1:W4.cell? ⟨w2.heap.size,1,none⟩=some (.slice a' n' c'):=au HD4.o rfl;have Dp:w.heap.size<W4.heap.size:=(Array.getElem?_eq_some_iff.1 Ey.o).1;go_wp2_with fail;obtain⟨hl,hst⟩:=HP.o;have hfin:lF W1.heap.size w2 ((W4.setCell ⟨w.heap.size,0,none⟩ (.slice a n c)).setCell ⟨w.heap.size,1,none⟩ (.slice a' n' c')):=
  ((dN (B:=W1.heap.size) (Rx.o.trans (dH.o.mono Rx.o.size))).trans (jg W4 _ _ hltW)).trans (jg _ _ _ hltW)
 have hat:=(hst.next hfin).now;exact bodyPost_ret (v:= .tuple #[.agg #[.slice a n c,.slice a' n' c'],.int .i64 0,.int .i64 0]) (by simp[results,Tryz.results39,go_sem,y0,y1,Dp]) rfl ⟨a,c,a',c',by rw[HN.o,HN'.o],⟨by rw[HN.o];unfold maxLen;omega,by rw[HN'.o];unfold maxLen;omega,hat⟩,oC (oC (HB3.o.trans (dH.o.mono HB3.o.size)) _ _ (Nat.le_refl _)) _ _ (Nat.le_refl _)⟩
end Go.Proofs.YtkmllehjemjgpaaGreatDoor
