/- Plain functions of the token layer: what a text's tokens are, over lists of bytes. No program in sight. And what hangs on it. -/
import Derived.WalkSmall
import Derived.Deep.QuietTactic
import Derived.BigQuiet
import Derived.Deep.DeepCutAuto
import Derived.Deep.AppendLies
import Derived.Deep.MidRow
import Derived.Maps.Own
import Derived.Maps.OwnSet
import Derived.Maps.Views
import Derived.IntWalk
import Derived.Outline
import Derived.StillTailTactics
import Derived.Deep.CutBlock
import Derived.Deep.RegionWith
import Derived.Laws.RangeAny
import Derived.ArgAppend
import Derived.ProofKit
import Derived.OpenShut
import Derived.Deep.DeepHandedRow
import Derived.Lib.LaidTab
import Derived.Stop.LaidErr
import Derived.ChangeArms
import Derived.Deep.Slices
import Derived.Lib.ParseIntB
import Derived.Lib.AtoiErrMem
import Derived.Deep.LoopGhost
import Derived.SizedLaws
import Derived.Laws.MakeOwn
import Derived.Laws.Append
import Derived.Maps.AppendAt
import Derived.Lib.Strings
import Derived.Lib.Bytealg
import Derived.Lib.TrimByte
import Derived.Laws.Strings
import Derived.Test.YtdoplekppjkkpaaGreatDoorChecked
import Derived.WalkKit
import Derived.WalkSpells
import Derived.WalkLawsBesides
import Derived.Lib.Walk
import Derived.Lib.Hide
import Derived.Deep.Light
import Derived.Laws.Strings2
set_option linter.unusedSimpArgs false
set_option linter.unusedVariables false
set_option maxHeartbeats 40000000
set_option maxRecDepth 1000000
section
namespace Go.Proofs.YtdoplekppjkkpaaGreatDoor.Tk
def tO (c:Int):Bool:=(decide (97<=c)&&decide (c<=122))||(decide (65<=c)&&decide (c<=90))
def rV (c:Int):Bool:=decide (48<=c)&&decide (c<=57)
def MX (c:Int):Bool:=(tO c||rV c)||c==95
def BI (c:UInt8):Bool:=tO c.toNat
def mI (c:UInt8):Bool:=rV c.toNat
def lX (c:UInt8):Bool:=MX c.toNat
def Iw:List (List UInt8):=[[118,97,114],[118,111,108,97,116,105,108,101],[109,117,116,101,120],[114,119,108,111,99,107],[99,111,110,100],[102,117,116,117,114,101],[116,104,114,101,97,100],[105,102],[101,108,115,101],[119,104,105,108,101],[108,111,99,107],[114,101,97,100],[119,114,105,116,101],[116,114,97,110,115,97,99,116,105,111,110],[97,116,111,109,105,99],[119,97,105,116],[110,111,116,105,102,121],[110,111,116,105,102,121,97,108,108],[115,112,97,119,110],[106,111,105,110],[115,101,116],[103,101,116]]
def vP (l:List UInt8):Bool:=Iw.contains l
def sgs:List (List UInt8):=[[124,124],[38,38],[61,61],[33,61],[60,61],[62,61],[60],[62],[43],[45],[42],[47],[37],[33],[61],[40],[41],[91],[93],[123],[125],[44],[59]]
def oF (l:List UInt8):List UInt8:=(sgs.find? λg=>g.isPrefixOf l).getD []
def val (l:List UInt8):Nat:=l.foldl (λn c=>10*n+(c.toNat -48)) 0
def zF (l:List UInt8):Bool:=decide (val l<=9223372036854775807)
def jf (l:List UInt8):Bool:=(decide (1<=l.length)&&decide (l.length<=12)&& !vP l)&&(l.head?.any BI&&l.all lX)
structure Tok where
 kind:Nat
 text:List UInt8
 line:Nat
def uR (l:List UInt8):Nat×Nat×List UInt8:=
 if 12<(l.takeWhile lX).length then(2,0,[])else(0,if vP (l.takeWhile lX)then 3 else 1,l.takeWhile lX)
def Dc (l:List UInt8):Nat×Nat×List UInt8:=
 if((l.dropWhile mI).head?.any lX)|| !zF (l.takeWhile mI)then(3,0,[])else(0,2,l.takeWhile mI)
def Nb (l:List UInt8):Nat×Nat×List UInt8:=
 if(oF l).isEmpty then(3,0,[])else(0,4,oF l)
def first (l:List UInt8):Nat×Nat×List UInt8:=
 if BI (l.headD 0)then uR l else if mI (l.headD 0)then Dc l else Nb l
def mX:Nat->List UInt8->Nat->List Tok->List Tok×Nat×Nat
 |_,[],_,acc=>(acc,0,0)
 |0,_::_,_,acc=>(acc,0,0)
 |f+1,c::r,line,acc=>
  if c=10 then mX f r (line+1) acc
  else if c=32∨c=9∨c=13 then mX f r line acc
  else if [47,47].isPrefixOf (c::r)then mX f ((c::r).dropWhile (· != 10)) line acc
  else if(first (c::r)).1=0 then mX f ((c::r).drop (first (c::r)).2.2.length) line (acc++[⟨(first (c::r)).2.1,(first (c::r)).2.2,line⟩])
  else([],(first (c::r)).1,line)
def scan (l:List UInt8):List Tok×Nat×Nat:=
 if 4096<l.length then([],2,0)else mX l.length l 1 []
def Tok.cells (t:Tok):List Value:=[.int .i64 t.kind,.string ⟨t.text.toArray⟩,.int .i64 t.line]
def cellsOf (l:List Tok):List Value:=l.flatMap Tok.cells
end Go.Proofs.YtdoplekppjkkpaaGreatDoor.Tk
end
section
namespace Go.Proofs.YtdoplekppjkkpaaGreatDoor.Tk
theorem Gm (p:UInt8->Bool): ∀(l:List UInt8) (n:Nat),n<=l.length->(∀j (h:j<l.length),j<n->p l[j]=true)->(∀h:n<l.length,p l[n]=false)->(l.takeWhile p).length=n
 | [],n,hn,_,_=>by simp at hn;simp[hn]
 |c::l,0,_,_,h2=>by have:=h2 (by simp);simp only[List.getElem_cons_zero]at this;simp[this]
 |c::l,n+1,hn,h1,h2=>by
  have h0:=h1 0 (by simp) (by omega);simp only[List.getElem_cons_zero]at h0;rw[List.takeWhile_cons,if_pos h0,List.length_cons];congr 1;refine Gm p l n (by simpa using hn) (λj h hj=> ?_) (λh=> ?_)
  ·have:=h1 (j+1) (by simpa using h) (by omega);simpa using this
  ·have:=h2 (by simpa using h);simpa using this
theorem take_takeWhile (p:UInt8->Bool): ∀(l:List UInt8),l.take (l.takeWhile p).length=l.takeWhile p
 | []=>rfl
 |c::l=>by
  rw[List.takeWhile_cons];split
  ·simp[take_takeWhile p l]
  ·rfl
theorem wK (p:UInt8->Bool): ∀(l:List UInt8),l.drop (l.takeWhile p).length=l.dropWhile p
 | []=>rfl
 |c::l=>by
  rw[List.takeWhile_cons,List.dropWhile_cons];split
  ·simp[wK p l]
  ·rfl
theorem AQ (p:UInt8->Bool): ∀l:List UInt8,(l.takeWhile p).length<=l.length
 | []=>Nat.le_refl _
 |c::l=>by rw[List.takeWhile_cons];have:=AQ p l;split <;> simp <;> omega
theorem D9 (c:UInt8): ∀l:List UInt8,Lib.indexByte l c=if(l.takeWhile (· != c)).length<l.length then((l.takeWhile (· != c)).length:Int)else -1
 | []=>rfl
 |b::l=>by
  unfold Lib.indexByte;rw[D9 c l,List.takeWhile_cons];by_cases h:b=c
  ·subst h;simp
  ·have h1:(b==c)=false:=by simpa using h
   have h2:(b != c)=true:=by simpa using h
   rw[h1,h2,if_pos rfl,if_neg (by simp),List.length_cons,List.length_cons];generalize (l.takeWhile (· != c)).length=n;by_cases h3:n<l.length
   ·have h4:n+1<l.length+1:=(by omega);have h5:((n:Int)== -1)=false:=(by simp);simp[h3,h5]
   ·have h4: ¬n+1<l.length+1:=(by omega);simp[h3]
def Gf (l:List UInt8):Nat:=(l.takeWhile (· != 10)).length
theorem Xm (l:List UInt8):Gf l<=l.length:=AQ _ _
theorem aK4 (l:List UInt8) (h:0<=Lib.indexByte l 10):Lib.indexByte l 10=Gf l:=by
 rw[D9]at h⊢;by_cases h3:(l.takeWhile (· != 10)).length<l.length
 ·rw[if_pos h3];rfl
 ·rw[if_neg h3]at h;omega
theorem aK5 (l:List UInt8) (h:Lib.indexByte l 10<0):l.length=Gf l:=by
 rw[D9]at h;by_cases h3:(l.takeWhile (· != 10)).length<l.length
 ·rw[if_pos h3]at h;omega
 ·have:=AQ (· != 10) l;unfold Gf;omega
def qp (t s:ByteArray):Prop:=t.data.toList.dropWhile (· ==48)=s.data.toList.dropWhile (· ==48)
theorem qp.refl (s:ByteArray):qp s s:=rfl
theorem vI (t:ByteArray) (h:0<t.size):t.data.toList=t[0]::t.data.toList.drop 1:=by
 have h':0<t.data.toList.length:=by rw[<- Lib.size_eq];exact h
 have:=List.drop_eq_getElem_cons h';rw[List.drop_zero]at this;exact this
theorem qp.step {t s:ByteArray} (h:qp t s) (h0:0<t.size) (he:t[0]=48):qp (t.extract 1 t.size) s:=by
 unfold qp at h⊢;rw[Lib.extract_data,<- h]
 conv=>rhs;rw[vI t h0]
 rw[List.dropWhile_cons,if_pos (by rw[he];rfl),List.take_of_length_le (by simp)]
theorem qp.done {t s:ByteArray} (h:qp t s) (he: ∀h0:0<t.size,t[0]≠48):t=⟨(s.data.toList.dropWhile (· ==48)).toArray⟩:=by
 unfold qp at h;rw[<- h];have e:t.data.toList.dropWhile (· ==48)=t.data.toList:=by
  by_cases h0:0<t.size
  ·rw[vI t h0,List.dropWhile_cons,if_neg (by simpa using he h0)]
  ·have:t.data.toList.length=0:=by rw[<- Lib.size_eq];omega
   rw[List.eq_nil_of_length_eq_zero this];rfl
 rw[e]
end Go.Proofs.YtdoplekppjkkpaaGreatDoor.Tk
end
section
namespace Go.Proofs.YtdoplekppjkkpaaGreatDoor
open Go.RowKit
section
variable {P:Prop}
theorem θ(h:P:=by rw[<- hW];exact((Mm.refl T H w).rD (Hx.refl w H) _ _).then_ ((ak _ _).mono aeU) (ak _ _).size):P:=h
theorem ν(h:P:=by rw[<- hW,heap_alloc_old _ _ (by simp[World.setCell];exact bf.o.t)];exact bg w _ _ rfl T.tm.symm):P:=h
theorem ξ(h:P:=by obtain⟨g',e,hg',hc'⟩:=h2 (i+1) y ahM;exact⟨g',e,hg',λj u hu=>by rw[show k+1+i=k+(i+1) by omega];exact hc' j u hu⟩):P:=h
theorem ο(h:P:=by have:=heap_alloc_new ((w.alloc (.cells #[.slice aK p.ds.length aH,.slice aM p.ts.length aG] 35)).alloc (.cells #[.slice none 0 0,.slice none 0 0,.slice none 0 0,.slice none 0 0,.slice none 0 0,.slice none 0 0] 30)) (.cells #[.slice none 0 0,.slice none 0 0,.slice none 0 0,.slice none 0 0,.slice none 0 0,.slice none 0 0] 30);rw[<- hW,<- hbp];simpa using this):P:=h
theorem υ(h:P:=by rw[hz];exact hbd d (by rw[<- uN];exact List.mem_filterMap.2 ⟨o,List.mem_of_getElem? hlo,hod⟩)):P:=h
theorem χ(h:P:=by have:=heap_alloc_new (w.alloc (.cells #[.slice aK p.ds.length aH,.slice aM p.ts.length aG] 35)) (.cells #[.slice none 0 0,.slice none 0 0,.slice none 0 0,.slice none 0 0,.slice none 0 0,.slice none 0 0] 30);rw[<- hW,<- hbp,heap_alloc_old _ _ agJ];simpa using this):P:=h
theorem Δ(h:P:=by have:a.tmps[s]? =a0.tmps[s]?:=hs s (λk d R' hk _ e=>by obtain⟨ok,hok,hdk⟩:=hdst k (some d) R' hk;have:d∈fF:=(by rw[<- uN];exact List.mem_filterMap.2 ⟨ok,List.mem_of_getElem? hok,hdk⟩);rw[e]at this;simp at hs';exact hs' this);simp[Act.eval,this]):P:=h
theorem Θ(h:P:=by obtain⟨q1,q2,q3,-⟩:=Tf.o;unfold rE at q1;simp only[aP,List.all_eq_true]at q1;have:=CQ p.ds [] 0 0 0 0 q1.1.1 q2 agH;exact⟨agH,q3,λd hd=>⟨q1.1.1 d hd,I7 _ _ _ _ _ _ q2 d hd⟩⟩):P:=h
theorem Ξ(h:P:=by rw[bg _ _ _ rfl (by show bp+2≠nb;have h5:=fC.o;have h6:=lQ.o;omega)];exact(hgr.block nb (aR PK.o iW.o.size) (λe=>PL.o (by rw[nA.o];exact e.symm))).trans ((iW.o.block nb PK.o).trans uI.o)):P:=h
theorem Ω(h:P:=by have e:W'.ts=p.ts.map (·.nm):=(by rw[<- Ny.o,GA.o,Jl,HW0.o.1];rfl);intro x hx;rw[e]at hx;obtain⟨t,ht,rfl⟩:=List.mem_map.1 hx;exact(HTO.o t ht).1):P:=h
theorem aac(h:P:=by have:=yR hz i o hi;simp only[aP,List.all_eq_true,decide_eq_true_eq]at this;refine⟨this.1,λg b hg=> ?_⟩;have h2:=this.2;rw[hg]at h2;simpa using h2):P:=h
theorem aad(h:P:=by rw[<- hW,<- hbp,heap_alloc_old _ _ ahj,heap_alloc_old _ _ ahj];exact heap_alloc_new _ _):P:=h
theorem aae(h:P:=by rw[qm.o];exact⟨trivial,trivial,trivial,trivial,trivial,trivial,bF _,bF _,bF _,bF _,bF _,bF _,λc hc=>by cases hc⟩):P:=h
theorem aaf(h:P:=by rw[<- nJ p j h.nm 5 4 agI rfl,<- vJ,oC,Ko 5 6 h.nm (hnm agV)];unfold jG;simp[hc]):P:=h
theorem aag(h:P:=by obtain⟨ok,hok,hdk⟩:=hdst k (some d2) R' hk;exact hik (DZ hnd i k o ok d2 hlo hok (by rw[hod,e]) hdk)):P:=h
theorem aah(h:P:=by first|exact HR.o|exact HR.o.symm|(rw[<- HR.o];first|rfl|simp_all)):P:=h
theorem aai(h:P:=by rw[nA.o];rcases hmv with e|e;exact .inl e;exact .inr (by rw[e];simp)):P:=h
theorem aaj(h:P:=by obtain⟨g,h1,-,h3,h4⟩:=hc i x hx;exact⟨g,h1,h3,λj u hu=>by rw[aU];exact h4 j u hu⟩):P:=h
theorem aak(h:P:=by first|exact(HX.o.next hB).1|exact(HX.o.next (hB.alloc hB.size _)).1):P:=h
theorem aal(h:P:=by have:=HL.o;simp only[jr,jc,aA,aD,aW]at *;(unfold jB at *;omega)):P:=h
theorem aam(h:P:=by first|exact HR.o.symm|(rw[HR.o];first|done|rfl|simp[kF,nest])):P:=h
theorem aan(h:P:=by rw[List.flatMap_append,List.flatMap_singleton,aA];exact hown):P:=h
theorem aao(h:P:=by rw[<- hW2];exact(Sit.start wr).wH hnb _ _ _ _ _ _ _ _ _ _ _ _):P:=h
theorem aap(h:P:=by rw[fC.o];exact xC.o.trans ((ak _ _).mono afc)):P:=h
theorem aaq(h:P:=by rw[zJ aeX aeX rfl];unfold Ll CO;rw[iO.o];simp):P:=h
theorem aar(h:P:=by have:=HL.o;simp only[jr,jc,aA,aD,aW]at *;(have:=Js.o;unfold jB at *;omega)):P:=h
theorem aas(h:P:=by rw[fC.o];exact(by repeat (first|exact Cj.o|refine below_drewN ?_ _))):P:=h
theorem aat(h:P:=by have:=HL.o;unfold jB at this;simp only[jc,aA,aD,aW]at *;omega):P:=h
theorem aau(h:P:=by have:=HL.o;simp only[jr,jc,aA,aD,aW]at *;(have:=Mw.o;have:=Js.o;unfold jB at *;omega)):P:=h
theorem aav(h:P:=by rw[<- hW];exact((below_drewN (au w.heap.size w) _).block _ HI.o.lt).trans HB.o):P:=h
theorem aaw(h:P:=by have:=congrArg (List.drop 1) HQ.o;rw[List.drop_drop]at this;simpa using this):P:=h
theorem aax(h:P:=by have:=HL.o;simp only[jr,jc,aA,aD,aW]at *;(have:=HVX.o;unfold jB at *;omega)):P:=h
theorem aay(h:P:=by rw[List.mem_singleton.1 hy];exact λ_ _=>⟨trivial,trivial,trivial,trivial⟩):P:=h
theorem aaz(h:P:=by rw[List.mem_singleton.1 hy];exact xq aeO HS'.o wL tT sb0 sb0):P:=h
theorem aaA(h:P:=by simp[results,Tryz.results151,go_sem,iE,y0,y1,y2,y3,y4,y5,y6,y7,y8,y9,jD]):P:=h
theorem aaB(h:P:=by show T.bm≠g;have:=HG.o;have:=bf.o.m;have:=dM.o;have:=S5.o.m.size;omega):P:=h
theorem aaC(h:P:=by rw[<- hW];exact((ak _ _).alloc agJ _).alloc ahj _):P:=h
theorem aaD(h:P:=by rw[<- HR.o];unfold vW;rw[if_neg agK,if_pos agK]):P:=h
theorem aaE(h:P:=by have:=HL.o;have:=Js.o;simp only[aA,aW,aD]at *;unfold jB at *;omega):P:=h
theorem aaF(h:P:=by intro e;injection e with e;exact hI.nt (by rw[<- k5,h1,<- e];rfl)):P:=h
theorem aaG(h:P:=by unfold gY;repeat (first|exact aX|refine aY _ ?_)):P:=h
theorem aaH(h:P:=by rw[<- hW];exact(HI0.o.left (tV _)).below (ak _ _)):P:=h
theorem aaI(h:P:=by have:=hi;simp only[kR]at this;simpa using this):P:=h
theorem aaJ(h:P:=by have h5:=HR.o.ws.sz;have h6:=HR.o.g0;omega):P:=h
theorem aaK(h:P:=by rw[<- hW];exact HH.o.wH rfl _ _ _ _ _ _ _ _ _ _ _ _):P:=h
theorem aaL(h:P:=by simp[dc,dl,dn,df,hkd] <;> first|rfl|omega):P:=h
theorem aaM(h:P:=by rw[<- hlen];exact(List.getElem?_eq_some_iff.1 hi).1):P:=h
theorem aaN(h:P:=by rw[<- hW,<- hnb];exact aQ (heap_alloc_new _ _) rfl):P:=h
theorem aaO(h:P:=by have:=HW.o;rw[hnb]at this;exact this.below HB.o):P:=h
theorem aaP(h:P:=by rw[<- hW,<- hnb];exact heap_alloc_new _ _):P:=h
theorem aaQ(h:P:=by have:=HL.o;simp only[jc,aA,aW]at *;omega):P:=h
theorem aaR(h:P:=by have:=h.size;simpa[World.setCell]using this):P:=h
theorem aaS(h:P:=by rw[<- hW,<- hg];exact heap_alloc_new _ _):P:=h
theorem aaT(h:P:=by rw[<- hW2,<- hcb];exact heap_alloc_new _ _):P:=h
theorem aaU(h:P:=by rw[<- hW];exact⟨agJ,aQ (heap_alloc_new _ _) rfl⟩):P:=h
theorem aaV(h:P:=by have h1:i<listed.size:=agH;simp[h1]at hg⊢;exact hg):P:=h
theorem aaW(h:P:=by rw[<- Jr.o,List.getElem?_append_right agH];simp):P:=h
theorem aaX(h:P:=by have:=congrArg (λl=>l[ents.length]?) h2;simpa using this):P:=h
theorem aaY(h:P:=by have:=HL.o;simp only[jc,aA,aW]at *;(have:=GQ.o;omega)):P:=h
theorem aaZ(h:P:=by repeat (first|exact HBn.o|refine below_drewN ?_ _)):P:=h
theorem abb(h:P:=by have:=Ns.o;have:=zT.o.1;show w.heap.size<_;omega):P:=h
theorem abd(h:P:=by intro e;exact h.nm (by rw[<- k5,h1,<- e];rfl)):P:=h
theorem abe(h:P:=by rw[List.all_eq_true]at hbd;simpa using hbd d hd):P:=h
theorem abf(h:P:=by rw[Bool.eq_iff_iff,beq_iff_eq,beq_iff_eq];omega):P:=h
theorem abg(h:P:=by rw[Bool.eq_false_iff];exact λe=>hc ⟨h,e⟩):P:=h
theorem abh(h:P:=by have:=h.lt;have:=R.b0;show R.B0<=bt;omega):P:=h
theorem abj(h:P:=by have:=Jr.o;simp only[aA,aD,aW]at hkn;omega):P:=h
theorem abk(h:P:=by obtain⟨R',h1,-⟩:=hf k ok aho;exact⟨R',h1⟩):P:=h
theorem abl(h:P:=by rw[<- hW];exact iL w8 ⟨bt,3,none⟩ _ (Nat.lt_succ_self _)):P:=h
theorem abm(h:P:=by injection hbe with h;injection h with h1 h2;exact⟨h1,h2⟩):P:=h
theorem abn(h:P:=by rw[<- hW];exact(Sit.start w).wH rfl _ _ _ _ _ _ _ _ _ _ _ _):P:=h
theorem abo(h:P:=by simp[results,Tryz.results50,go_sem,exV,bT.len,y0,y1,y2,y3]):P:=h
theorem abp(h:P:=by rw[<- hW];exact(heap_alloc_old _ _ (aO HZ2.o)).trans HZ2.o):P:=h
theorem abq(h:P:=by rw[qQ (.inr aeX)];unfold zG;rw[iO.o];rfl):P:=h
theorem abr(h:P:=by rw[<- hW];exact RL HE.o.2 (bS (ak _ _)) (Nat.le_of_eq hg)):P:=h
theorem abt(h:P:=by rw[<- hW];exact(heap_alloc_old _ _ (aO HZ1.o)).trans HZ1.o):P:=h
theorem abu(h:P:=by rw[<- hWf];exact(Mm.of_below dw.o).rD (Hx.refl _ _) _ _):P:=h
theorem abv(h:P:=by intro u hu;simp[rJ]at hu;rcases hu with rfl|rfl|rfl <;> rfl):P:=h
theorem abw(h:P:=by rw[gX,if_neg (by rw[rW,decide_eq_true_iff];omega)];rfl):P:=h
theorem abx(h:P:=by have h1:=HR.o.few;have h2:=HMX.o;rw[Q7.o,aA,Fy];omega):P:=h
theorem aby(h:P:=by have h1:=Ay.o;have h2:=HL.o;simp only[aA,aD,aW];omega):P:=h
theorem abz(h:P:=by have h1:=Aw.o;have h2:=HS.o.sz;have h3:=HS.o.lt;omega):P:=h
theorem abA(h:P:=by simp[results,Tryz.results99,go_sem,fD.f,y0,y1,y2,y3]):P:=h
theorem abB(h:P:=by rw[<- zR.o,E9 (f:=λy=>y.nm) HX.o,List.append_assoc]):P:=h
theorem abC(h:P:=by have h1:=h.lt;have h2:=hB.size;simp[World.setCell];omega):P:=h
theorem abD(h:P:=by dsimp only at h0 h1 h2 h3 h4 h5⊢;rw[h0,h1,h2,h3,h4,h5]):P:=h
theorem abE(h:P:=by rw[mg.o.2.2.2.2.2];have:=Lc.o.2.2.2;unfold maxLen;omega):P:=h
theorem abF(h:P:=by rw[mg.o.2.2.2.2.1];have:=Lc.o.2.2.1;unfold maxLen;omega):P:=h
theorem abG(h:P:=by rw[Bool.eq_iff_iff,decide_eq_true_iff,beq_iff_eq];omega):P:=h
theorem abH(h:P:=by rw[<- hW2];exact(Sit.start wr).Qt hnb _ _ _ _ _ _ _):P:=h
theorem abI(h:P:=by have:=KW.o;simp only[aD]at this;unfold maxLen;omega):P:=h
theorem abJ(h:P:=by first|(rw[HF.o];done)|(rw[HF.o];congr 1;go_light;grind)):P:=h
theorem abK(h:P:=by rw[hz];exact hbd d (hmem i d R ahL Vz)):P:=h
theorem abL(h:P:=by unfold jw;simp only[bne];rw[Bool.eq_iff_iff];simp):P:=h
theorem abM(h:P:=by rw[<- hW];exact(Fr.refl _ _ _).set _ _ (.inl rfl)):P:=h
theorem abN(h:P:=by have:=HB.o;rw[<- hnb]at this;exact jX.o.same this):P:=h
theorem abO(h:P:=by have:=hnx.1;rw[<- Lib.size_eq]at this;exact this):P:=h
theorem abP(h:P:=by have:=Ey.o;rw[IntWalk.i64_in _ agH];omega):P:=h
theorem abQ(h:P:=by rw[mg.o.2.2.2.1];have:=Lc.o.2.1;unfold maxLen;omega):P:=h
theorem abR(h:P:=by have:=CQ p.ds [] 0 0 0 0 yB.o.1 h0 agH;omega):P:=h
theorem abS(h:P:=by have h1:=mg.o.2.1;have h2:=Nz.o;unfold maxLen;omega):P:=h
theorem abT(h:P:=by have:=hed i l[i] (bC hi) e.on (AU he hb);omega):P:=h
theorem abU(h:P:=by simp[dc,dl,dn,df,hkd,hs0] <;> first|rfl|omega):P:=h
theorem abV(h:P:=by rw[tu]at h;injection h with h;subst h;exact bF _):P:=h
theorem abW(h:P:=by have:=congrArg List.length hm;simp at this;omega):P:=h
theorem abX(h:P:=by have:=congrArg List.length hd;simp at this;omega):P:=h
theorem abY(h:P:=by have h5:=fC.o.1;have h6:=HR.o.mlt;simp;omega):P:=h
theorem abZ(h:P:=by have h1:=Ck.o;have h2:=HSL.o;simp only[aA];omega):P:=h
theorem acd(h:P:=by unfold jG;rcases hc with hc|hc <;> simp[hc]):P:=h
theorem ace(h:P:=by rw[mg.o.2.2.1];have:=Lc.o.1;unfold maxLen;omega):P:=h
theorem acf(h:P:=by have:=Yy HP.o.rd.ts.tail h2;unfold bY;omega):P:=h
theorem acg(h:P:=by have:=HI3.o.sz;have:=L.c1;show L.bc<_;omega):P:=h
theorem ach(h:P:=by simpa using HM.o.next (below_drewN (au _ _) 1)):P:=h
theorem aci(h:P:=by show L.gb≠nb;have:=uV.o;have:=fC.o;omega):P:=h
theorem acj(h:P:=by simp[results,Tryz.results94,go_sem,zN,hc]):P:=h
theorem acn(h:P:=by rw[<- hW];exact HG2.o.next (bS (ak _ _))):P:=h
theorem aco(h:P:=by rw[<- hW];exact HB1.o.alloc HB1.o.size _):P:=h
theorem acp(h:P:=by rcases hc with hc|hc|hc <;> (rw[hc];rfl)):P:=h
theorem acr(h:P:=by show(1:Nat)<=maxLen;unfold maxLen;decide):P:=h
theorem acs(h:P:=by rw[<- hW];exact HE.o.2.next (bS (ak _ _))):P:=h
theorem acu(h:P:=by rw[<- hW,<- hs1];exact heap_alloc_new _ _):P:=h
theorem acv(h:P:=by show(2:Nat)<=maxLen;unfold maxLen;decide):P:=h
theorem acw(h:P:=by have:=hv k e;have:=L.c0;have:=L.c1;omega):P:=h
theorem acy(h:P:=by rw[beq_eq_false_iff_ne];omega):P:=h
theorem acz(h:P:=by simp only[aZ.len]at hlen;omega):P:=h
theorem acA(h:P:=by rw[<- hW];exact heap_alloc_new _ _):P:=h
theorem acB(h:P:=by simp only[bT.len]at hlen;omega):P:=h
theorem acC(h:P:=by rw[List.append_assoc];exact rP.o):P:=h
theorem acD(h:P:=by simp[results,Tryz.results65,go_sem]):P:=h
theorem acE(h:P:=by have:=bf.o.t;have:=dM.o;omega):P:=h
theorem acF(h:P:=by rw[List.length_take]at hlt;omega):P:=h
theorem acG(h:P:=by rw[<- hW];exact(Wk.start HI.o).alloc _):P:=h
theorem acH(h:P:=by simp[results,Tryz.results122,go_sem]):P:=h
theorem acI(h:P:=by simp[results,Tryz.results89,go_sem]):P:=h
theorem acJ(h:P:=by unfold lK gD;rw[HK.o];exact⟨rfl,rfl⟩):P:=h
theorem acK(h:P:=by simpa using hC.below (ak _ _)):P:=h
theorem acL(h:P:=by rw[<- hW,<- hnb];exact ak _ _):P:=h
theorem acM(h:P:=by rcases hc with hc|hc <;> (rw[hc];rfl)):P:=h
theorem acN(h:P:=by rw[HE.o,vsA];simp[h1,h2,h3,bne,h4]):P:=h
theorem acO(h:P:=by have:=Dp.o;simp only[jc]at *;omega):P:=h
theorem acP(h:P:=by have:=AB.o;unfold jB at this;omega):P:=h
theorem acQ(h:P:=by have:=Ti.o;unfold maxLen;omega):P:=h
theorem acR(h:P:=by rw[<- CX];exact uw _ _ _ _ _):P:=h
theorem acS(h:P:=by cases hv:v.ownBlock <;> simp):P:=h
theorem acT(h:P:=by have h6:=sH.o.lt;have h7:=sH.o.sz;omega):P:=h
theorem acU(h:P:=by rw[<- hW2];exact HU.o.Ac hn2 _ _ _ _ _):P:=h
theorem acV(h:P:=by have h1:=kI.o.size;have h2:=mU.o;omega):P:=h
theorem acW(h:P:=by rw[List.flatMap_singleton];exact hown):P:=h
theorem acX(h:P:=by rw[IntWalk.i64_in _ agH];omega):P:=h
theorem acY(h:P:=by simp[results,Tryz.results124,go_sem]):P:=h
theorem acZ(h:P:=by rw[<- hW,NP.o];exact HX.o t0 r0 NP.o):P:=h
theorem ac2(h:P:=by simp[results,Tryz.results82,go_sem]):P:=h
theorem ac3(h:P:=by have:=HR.o.few;unfold maxLen;omega):P:=h
theorem ac4(h:P:=by have:=Ck.o;unfold jB at this;omega):P:=h
theorem ada(h:P:=by intro k hk;simp[Value.ownBlock]at hk):P:=h
theorem adb(h:P:=by show 9<=maxLen;unfold maxLen;decide):P:=h
theorem ade(h:P:=by rwa [getD_set_ne false hik]at hl):P:=h
theorem adf(h:P:=by rw[decide_eq_false_iff_not];omega):P:=h
theorem adg(h:P:=by have h1:=Ay.o;have h2:=HL.o;omega):P:=h
theorem adh(h:P:=by have:=h.lt;show bt≠R.br;omega):P:=h
theorem adi(h:P:=by rw[ai0 hsd];unfold jG;simp[hc]):P:=h
theorem adj(h:P:=by rw[<- List.append_assoc];exact k1):P:=h
theorem adk(h:P:=by have:=(hrow.lt _ e.symm).1;omega):P:=h
theorem adl(h:P:=by rw[decide_eq_true_iff];omega):P:=h
theorem adn(h:P:=by have:=h.lt;show bt≠_;omega):P:=h
theorem ado(h:P:=by have:=h.hn _ e;have:=h.lt;omega):P:=h
theorem adp(h:P:=by rw[<- Lib.size_eq];exact hlt):P:=h
theorem adq(h:P:=by rw[<- Lib.size_eq];exact hk):P:=h
theorem adr(h:P:=by have:=h.o.t;have:=h.l;omega):P:=h
theorem ads(h:P:=by have:=h.o.m;have:=h.l;omega):P:=h
theorem adt(h:P:=by have:=h.lt;show _<=bt;omega):P:=h
theorem adu(h:P:=by simpa[Value.ownBlock]using hk):P:=h
theorem adv(h:P:=by have:=L.b1;have:=h.g;omega):P:=h
theorem adw(h:P:=by subst q;exact(hg _).1 _ _ c0):P:=h
theorem adx(h:P:=by rw[Lib.toList_data];exact hx):P:=h
theorem ady(h:P:=by have:=hr1 agI;omega):P:=h
theorem adz(h:P:=by rw[<- hW];exact HF.o.set _ _ (.inl rfl)):P:=h
theorem adA(h:P:=by rw[<- hW2];exact HB.o.alloc HB.o.size _):P:=h
theorem adB(h:P:=by have:=HB1.o.size;have:=HB2.o.size;omega):P:=h
theorem adC(h:P:=by have h5:=jF.o.sz;have h6:=HR.o.g0;omega):P:=h
theorem adD(h:P:=by have h1:=HS.o.lt;have h2:=HS.o.sz;omega):P:=h
theorem adE(h:P:=by have h1:=(aO Fp.o);have h2:=Ns.o;omega):P:=h
theorem adF(h:P:=by rw[uT.o,Nat.sub_self];cases Q <;> rfl):P:=h
theorem adG(h:P:=by intro h;injection h with h;exact hl h):P:=h
theorem adH(h:P:=by have:=KW.o;simp only[aD]at this;omega):P:=h
theorem adI(h:P:=by have h1:=sI.o;have h2:=HB2.o.size;omega):P:=h
theorem adJ(h:P:=by rw[<- hW];exact HS2.o.below (ak _ _)):P:=h
theorem adK(h:P:=by simp[results,Tryz.results94,go_sem]):P:=h
theorem adL(h:P:=by simp[results,Tryz.results83,go_sem]):P:=h
theorem adM(h:P:=by rw[<- hw];exact qC.o.below (ak _ _)):P:=h
theorem adN(h:P:=by rw[<- hW];exact S3.o.below (ak _ _)):P:=h
theorem adO(h:P:=by unfold qV;rw[Bool.eq_iff_iff];simp):P:=h
theorem adP(h:P:=by unfold kR;(repeat' split) <;> simp):P:=h
theorem adQ(h:P:=by rw[List.getElem?_toArray];exact hu):P:=h
theorem adR(h:P:=by rw[HCA.o,HN9.o,<- Q7.o];exact tZ.o):P:=h
theorem adS(h:P:=by have:=this.few;unfold maxLen;omega):P:=h
theorem adT(h:P:=by have:=mg.o.1;simp only[aA,aD,aW];omega):P:=h
theorem adU(h:P:=by have:=h.sz;have:=L.c0;have:=L.c1;omega):P:=h
theorem adV(h:P:=by have:=h.len;simp only[aD]at this;omega):P:=h
theorem adW(h:P:=by have h1:=Aw.o;have h2:=HG0.o;omega):P:=h
theorem adX(h:P:=by rw[fJ];exact noop agG):P:=h
theorem adY(h:P:=by rw[Hw,WT.o,Q7.o,aU,List.append_assoc]):P:=h
theorem adZ(h:P:=by rw[gX,if_pos (by rw[rW,QJ];rfl)]):P:=h
theorem aea(h:P:=by rw[<- hW];exact hb1.alloc hb1.size _):P:=h
theorem aeb(h:P:=by have:=iW.o.size;simp at e this;omega):P:=h
theorem aec(h:P:=by show L.gb≠bc;have:=uV.o;omega):P:=h
theorem aed(h:P:=by rw[mg.o.2.2.2.2.2];exact JA.o.2):P:=h
theorem aee(h:P:=by rw[<- List.drop_drop,HDR.o];rfl):P:=h
theorem aef(h:P:=by cases h:(r==0) <;> simp_all[vS]):P:=h
theorem aeg(h:P:=by show bc<=L.gb;have:=uV.o;omega):P:=h
theorem aeh(h:P:=by rw[<- hW];exact lZ.o.nm _ yx.o):P:=h
theorem aei(h:P:=by intro r hr;simp[kR]at hr;omega):P:=h
theorem aej(h:P:=by have:=Tj.o;unfold maxLen;omega):P:=h
theorem aek(h:P:=by have:=HR.o.few;unfold bY;omega):P:=h
theorem ael(h:P:=by rw[<- hW];exact(Dy w _ _ _).2):P:=h
theorem aem(h:P:=by rw[<- hW];exact(Dy w _ _ _).1):P:=h
theorem aen(h:P:=by have:=(h.row.lt k hk).1;omega):P:=h
theorem aeo(h:P:=by first|rfl|(simp only[Ae];rfl)):P:=h
theorem aep(h:P:=by unfold lim at h2;simp at h2;omega):P:=h
theorem aer(h:P:=by simpa[Value.ownBlock]using e):P:=h
theorem aes(h:P:=by rw[Bool.eq_iff_iff];simp;omega):P:=h
theorem aeu(h:P:=by rw[<- hW];exact qJ.o.alloc _):P:=h
theorem aev(h:P:=by rw[<- hW];exact HI.o.draws _):P:=h
theorem aew(h:P:=by have:=uE.o;show bd≠_;omega):P:=h
theorem aex(h:P:=by have:=h.lt;show tb≠_;omega):P:=h
theorem aey(h:P:=by have:=h.lt;show pb≠_;omega):P:=h
theorem aez(h:P:=by have:=(h.rs.lt k hk).1;omega):P:=h
theorem aeA(h:P:=by have:=(h.re.lt k hk).1;omega):P:=h
theorem aeB(h:P:=by have:=mg.o.1;unfold maxLen;omega):P:=h
theorem aeC(h:P:=by have:=hb.size;simp at this;omega):P:=h
theorem aeD(h:P:=by have:=h.hne _ e;have:=h.lt;omega):P:=h
theorem aeE(h:P:=by simp[List.getElem?_replicate,h]):P:=h
theorem aeF(h:P:=by rw[mg.o.2.2.1];exact JA.o.1):P:=h
theorem aeG(h:P:=by rw[HF.o];congr 1;go_light;grind):P:=h
theorem aeH(h:P:=by rw[<- KV.o,List.append_nil]):P:=h
theorem aeI(h:P:=by obtain⟨D,h,_⟩:=h;exact h.lt):P:=h
theorem aeJ(h:P:=by simp[Value.ownBlock];omega):P:=h
theorem aeK(h:P:=by rw[HV.o,HC.o.2.1,G7.o];rfl):P:=h
theorem aeL(h:P:=by rw[HE.o.trans (if_pos vN)]):P:=h
theorem aeM(h:P:=by have:=uq d;unfold bY;omega):P:=h
theorem aeN(h:P:=by have:=HK.o;show 0+1<=3*K;omega):P:=h
theorem aeO(h:P:=by unfold bY;decide):P:=h
theorem aeP(h:P:=by unfold maxLen;decide):P:=h
theorem aeQ(h:P:=by simpa using hlen):P:=h
theorem aeR(h:P:=by have:=bf.o.t;omega):P:=h
theorem aeS(h:P:=by unfold maxLen;omega):P:=h
theorem aeT(h:P:=by have:=h.lt;omega):P:=h
theorem aeU(h:P:=by simp[World.setCell]):P:=h
theorem aeV(h:P:=by simpa using hbs):P:=h
theorem aeW(h:P:=by rw[<- hW];exact ak _ _):P:=h
theorem aeX(h:P:=by rw[iO.o];decide):P:=h
theorem aeY(h:P:=by simpa[aZ.len]using hlen):P:=h
theorem aeZ(h:P:=by have:=HR.o.few;omega):P:=h
theorem afa(h:P:=by have:=kJ.o;omega):P:=h
theorem afb(h:P:=by rw[<- hW2];exact ak _ _):P:=h
theorem afc(h:P:=by have:=ou.o;omega):P:=h
theorem afd(h:P:=by have:=Aw.o;omega):P:=h
theorem afe(h:P:=by unfold jG;simp[hc]):P:=h
theorem aff(h:P:=by have:=mU.o;omega):P:=h
theorem afg(h:P:=by rw[nA.o];exact hgr):P:=h
theorem afh(h:P:=by simpa using hr1):P:=h
theorem afi(h:P:=by have:=lQ.o;omega):P:=h
theorem afj(h:P:=by rw[fJ];kernel_rfl):P:=h
theorem afk(h:P:=by simpa[bT.len]using hlen):P:=h
theorem afl(h:P:=by simpa using hC.below hb):P:=h
theorem afm(h:P:=by simpa using hmv):P:=h
theorem afn(h:P:=by rw[aA,HK.o];rfl):P:=h
theorem afo(h:P:=by unfold lJ;rw[HK.o];rfl):P:=h
theorem afp(h:P:=by simp[Act.eval,hD]):P:=h
theorem afq(h:P:=by simp[Value.ownBlock]):P:=h
theorem afr(h:P:=by have:=dM.o;omega):P:=h
theorem afs(h:P:=by simpa using hlen'):P:=h
theorem aft(h:P:=by have:=hC.2.lt;omega):P:=h
theorem afu(h:P:=by have:=kJ.o;simp;omega):P:=h
theorem afv(h:P:=by have:=h.lt;simp;omega):P:=h
theorem afw(h:P:=by simpa using(aO ho)):P:=h
theorem afx(h:P:=by rw[<- hds,aA,hk]):P:=h
theorem afy(h:P:=by rw[fC.o];exact sG.o.b):P:=h
theorem afz(h:P:=by rw[fC.o];exact gL.o.b):P:=h
theorem afA(h:P:=by rw[e];exact hb.size):P:=h
theorem afB(h:P:=by unfold bY;omega):P:=h
theorem afC(h:P:=by rw[uS.o];exact HB3.o):P:=h
theorem afD(h:P:=by rw[HN.o];simpa using h6):P:=h
theorem afE(h:P:=by have:=(hvB k e).1;omega):P:=h
theorem afF(h:P:=by simpa using AA.o):P:=h
theorem afG(h:P:=by rw[hI.1];exact hlt):P:=h
theorem afH(h:P:=by rw[HRR.o,EX.o];rfl):P:=h
theorem afI(h:P:=by have:=hI.few;omega):P:=h
theorem afJ(h:P:=by rw[<- hacc];simp;omega):P:=h
theorem afK(h:P:=by unfold bne;rw[hI];rfl):P:=h
theorem afL(h:P:=by simp[dc,dl,dn,df,hkd]):P:=h
theorem afM(h:P:=by unfold lU;rw[hS];rfl):P:=h
theorem afN(h:P:=by rw[uf.o.1];simp[gY]):P:=h
theorem afO(h:P:=by intro x hx;simp at hx):P:=h
theorem afP(h:P:=by rw[fC.o];exact JX.o):P:=h
theorem afQ(h:P:=by simp at h1;omega):P:=h
theorem afR(h:P:=by have:=bf.o;omega):P:=h
theorem afS(h:P:=by have:=R.b0;omega):P:=h
theorem afT(h:P:=by have:=PY.o;omega):P:=h
theorem afU(h:P:=by have:=L.c1;omega):P:=h
theorem afV(h:P:=by have:=Ey.o;omega):P:=h
theorem afW(h:P:=by have:=uE.o;omega):P:=h
theorem afX(h:P:=by simpa using hr2):P:=h
theorem afY(h:P:=by have:=uV.o;omega):P:=h
theorem afZ(h:P:=by unfold qO;rw[h2,h3];rfl):P:=h
theorem aga(h:P:=by simp[qK,Value.oneCell']):P:=h
theorem agb(h:P:=by simp[hls]at h0⊢;exact h0):P:=h
theorem agc(h:P:=by have:=h.2.1;omega):P:=h
theorem agd(h:P:=by have:=HKJ.o;omega):P:=h
theorem agf(h:P:=by rw[hR,List.length_drop]):P:=h
theorem agh(h:P:=by simpa using dG.o):P:=h
theorem agi(h:P:=by simpa using HI.o):P:=h
theorem agj(h:P:=by rw[dI h.blk];rfl):P:=h
theorem agk(h:P:=by rw[uf.o.2];exact PI.o):P:=h
theorem agl(h:P:=by rw[<- hW,<- hnb];simp):P:=h
theorem agm(h:P:=by rw[<- aU j'];exact h1):P:=h
theorem agn(h:P:=by injection e with e;omega):P:=h
theorem agp(h:P:=by simp[Value.oneCell']):P:=h
theorem agq(h:P:=by simp at hlen;omega):P:=h
theorem agr(h:P:=by rw[uf.o];simp[gY]):P:=h
theorem ags(h:P:=by rw[<- hW];simp;omega):P:=h
theorem agt(h:P:=by rw[<- aU j];exact h1):P:=h
theorem agu(h:P:=by have:=bf.o.m;omega):P:=h
theorem agv(h:P:=by simpa using lZ.o):P:=h
theorem agw(h:P:=by simp[bT.len,maxLen]):P:=h
theorem agx(h:P:=by have:=zT.o;omega):P:=h
theorem agy(h:P:=by have:=h.2.2.1;omega):P:=h
theorem agz(h:P:=by first|rfl|simp_all):P:=h
theorem agA(h:P:=by rw[HR.o];exact q1):P:=h
theorem agB(h:P:=by simp[bT.len]at h):P:=h
theorem agC(h:P:=by rw[HE.o];exact⟨rfl,rfl⟩):P:=h
theorem agD(h:P:=by unfold jB;omega):P:=h
theorem agE(h:P:=by unfold gK;grind):P:=h
theorem agF(h:P:=by rw[rW];exact hA):P:=h
theorem agG(h:P:=by kernel_rfl):P:=h
theorem agH(h:P:=by omega):P:=h
theorem agI(h:P:=by decide):P:=h
theorem agJ(h:P:=by simp):P:=h
theorem agK(h:P:=by simp;omega):P:=h
theorem agL(h:P:=by go_num):P:=h
theorem agM(h:P:=by rw[hkd];rfl):P:=h
theorem agN(h:P:=by rw[dG.o];rfl):P:=h
theorem agO(h:P:=by simpa using h1):P:=h
theorem agP(h:P:=by subst h;simp):P:=h
theorem agQ(h:P:=by simpa using h2):P:=h
theorem agR(h:P:=by rw[HT.o];rfl):P:=h
theorem agS(h:P:=by simpa using hC):P:=h
theorem agT(h:P:=by simp[gY]):P:=h
theorem agU(h:P:=by simp[maxLen]):P:=h
theorem agV(h:P:=by rw[hc];rfl):P:=h
theorem agW(h:P:=by rw[h1];decide):P:=h
theorem agX(h:P:=by decide+kernel):P:=h
theorem agY(h:P:=by cases e):P:=h
theorem agZ(h:P:=by simpa using hx):P:=h
theorem aha(h:P:=by rw[HX.o];rfl):P:=h
theorem ahb(h:P:=by rw[HE.o];rfl):P:=h
theorem ahc(h:P:=by simp[hy]):P:=h
theorem ahd(h:P:=by simpa using he):P:=h
theorem ahe(h:P:=by simp at h):P:=h
theorem ahf(h:P:=by rw[e];rfl):P:=h
theorem ahg(h:P:=by go_light;grind):P:=h
theorem ahh(h:P:=by cases h):P:=h
theorem ahi(h:P:=by simpa using hi):P:=h
theorem ahj(h:P:=by simp <;> omega):P:=h
theorem ahk(h:P:=by rw[HT2.o];rfl):P:=h
theorem ahl(h:P:=by rw[h2];decide):P:=h
theorem ahm(h:P:=by rw[wR.o];rfl):P:=h
theorem ahn(h:P:=by simpa using zq):P:=h
theorem aho(h:P:=by simpa using hk):P:=h
theorem ahp(h:P:=by rw[<- hF];simp):P:=h
theorem ahq(h:P:=by rw[dI k4];rfl):P:=h
theorem ahr(h:P:=by simpa using h4):P:=h
theorem ahs(h:P:=by rw[h1];rfl):P:=h
theorem aht(h:P:=by simp;exact hc):P:=h
theorem ahu(h:P:=by simp[oG]):P:=h
theorem ahv(h:P:=by simp[gK,hkd]):P:=h
theorem ahw(h:P:=by rw[HA.o.2.2.2]):P:=h
theorem ahx(h:P:=by rw[HA.o.2.2.1]):P:=h
theorem ahy(h:P:=by first|rfl|simp):P:=h
theorem ahz(h:P:=by rw[h];decide):P:=h
theorem ahA(h:P:=by rw[h5];simp):P:=h
theorem ahB(h:P:=by cases hx):P:=h
theorem ahC(h:P:=by rw[hr1];decide):P:=h
theorem ahD(h:P:=by rw[HA.o.2.1]):P:=h
theorem ahE(h:P:=by rw[sJ.o];omega):P:=h
theorem ahF(h:P:=by simp;exact h1):P:=h
theorem ahG(h:P:=by simpa using hl):P:=h
theorem ahH(h:P:=by rw[HL.o];omega):P:=h
theorem ahI(h:P:=by rw[yM,Al,nR]):P:=h
theorem ahJ(h:P:=by rw[HA.o.1]):P:=h
theorem ahK(h:P:=by rw[hS];rfl):P:=h
theorem ahL(h:P:=by rw[JK,hod]):P:=h
theorem ahM(h:P:=by simpa using hy):P:=h
theorem ahN(h:P:=by simpa using hu):P:=h
theorem ahO(h:P:=by simpa using h5):P:=h
theorem ahP(h:P:=by simpa using h3):P:=h
theorem ahQ(h:P:=by rw[HR2.o,hv]):P:=h
theorem ahR(h:P:=by rw[HK.o];omega):P:=h
theorem ahS(h:P:=by rfl):P:=h
theorem ahT(h:P:=by simpa using h):P:=h
theorem ahU(h:P:=by rw[HE.o]):P:=h
end
section
variable {P:Prop}
theorem Aaa(h:P:=by
 clear hk;have uf:aj (lK W g d= {W with cs:=W.cs++mF d} ∧gD W g d=g):=ah acJ;have UU:aj (mY w4 bm n (gD W g d)):=ah agk;have PU:aj (0<=d.size∧d.size<=4):=ah (by have o1:=(HR.o.ok d aX).1;unfold jw at o1;simp only[aP,decide_eq_true_eq]at o1;exact⟨o1.1.2.1,hs4⟩);obtain⟨Gd,Xr,hv0,-,-,-⟩:=eY wJ (jF.o.own (r:=⟨39,5,s.v0,W.cs.length,W.cs.flatMap kM⟩) agT);have hv0:s.v0= .slice Gd W.cs.length Xr:=hv0;have Lb:=ah hv0;have hc0:=jF.o.cells.2.1;rw[hv0]at hc0;have Ay:=ah (aI jF.o.cells.1 hc0);have yX:=ah fC.o.2;clear hv0 hc0;go_wp2_with fail;have V0:=lG Ay.o.1 Ay.o.2;have Y0:=lG yX.o z0;have Y1:=lG yX.o z1;have Y2:=lG yX.o z2;have Y3:=lG yX.o z3;have Y4:=lG yX.o z4;have Y5:=lG yX.o z5;clear z0 z1 z2 z3 z4 z5;refine eu agG rfl ?_;refine dD 0 4 [] [[],[0],[],[2],[0,1,2,3],[0,1,2,3,4],[0,1,2,3,4,5]] [[],[],[],[]] (λ_ w'=>Below w4.heap.size w4 w') (λw w'=>Below w.heap.size w w') [34,35,36,37] rfl rfl ahS agG agG agG agG agG ahS (λ_=>au _ _) ahS (below_drewN (au _ _) 1) ?_;simp only[jH,nY]
 iterate 3
  apply bZ.step
  case bL=>intro c A w' hok hC hO hD;have e3:=hO 3 ahS;have e8:=hO 8 ahS;simp[Act.eval]at e3 e8;simp[Act.eval]at hD;simp[go_sem,gd,Oper.wp,hD,e3,e8,V0,hC,Y0,Y1,Y2,Y3,Y4,Y5];exact AaH
 refine bZ.some (λv w'=>aA5 d v w') ?_ ?_ ?_
 ·rintro v wa wb hle ⟨gc,EY,h1,h2,h3,h4⟩;exact⟨gc,EY,h1,h2,h3,λj u hu=>(hle.cell (World.block_lt_of_cell? _ _ (h4 j u hu))).trans (h4 j u hu)⟩
 ·intro c A w' hok hC hO hD;simp[Act.eval]at hD;simp[go_sem,gd,Oper.wp,hD];refine(O8 d w' PU.o.1 PU.o.2).mono ?_;rintro e w5 ⟨gc,EY,rfl,h4,h2,h3,hb⟩;exact aV.mk hb (hC.trans (hb.mono hC.size)) ⟨gc,EY,rfl,h2,h3,h4⟩
 try simp only[dY]
 try simp only[dY]
 refine bZ.done ?_;intro wz dL
 try simp only[jH]
 iterate 3 refine tH ?_
 intro v3 h3;obtain⟨gc,EY,rfl,hl0,hl4,hnews⟩:=h3;refine xO ?_;go_simp;have uF:=ah dL;have qm:=ah (jF.o.below dL);have Cr:=ah (UU.o.next dL);have qj:aj (Below (bp+2) wr wz):=ah ((dR.o.trans (dL.mono dR.o.size)).mono aaJ);clear V0 Y0 Y1 Y2 Y3 Y4 Y5 dL;refine dZ 4 [[],[0],[],[2],[0,1,2,3],[0,1,2,3,4],[0,1,2,3,4,5]] rfl rfl rfl rfl rfl agG agG agG ?_;obtain⟨i0,hi0,hz0,hz1,hz2⟩:=infoP Ir;have hk0:W.cs.length<=1000:=aeZ;have hfc:((mF d).flatMap kM).length=(mF d).length*5:=ru wJ _;refine wp_append_lies wz _ _ _ ahS w3.heap.size 39 i0 _ 5 48 Tryz.underlying24 hi0 hz0 hz1 hz2 ahS agH (.slice Gd W.cs.length Xr) W.cs.length (W.cs.flatMap kM) ahS (show wz.ownsRow _ _ _ _ _ _ by rw[<- Lb.o];exact qm.o.own (r:=⟨39,5,s.v0,W.cs.length,W.cs.flatMap kM⟩) agT) ⟨gc,0,none⟩ (mF d).length EY ((mF d).flatMap kM) ahS hfc hnews (λu hu=>by obtain⟨x,-,hx⟩:=List.mem_flatMap.1 hu;exact Qv x u hx) hl0 aeS agH qm.o.sz _ rfl ?_;intro g' cap' w5 hown hgr hmv jQ;have dU:=ah (qm.o.add (s':= {s with v0:= .slice (some ⟨g',0,none⟩) (W.cs.length+(mF d).length) cap'}) (W':=lK W g d) (pre:=[]) (r:=⟨39,5,s.v0,W.cs.length,W.cs.flatMap kM⟩) (post:=[_,_,_,_,_]) (j:=0) (au _ _) rfl (by rw[Lb.o];exact hgr) (by rw[Lb.o];exact hmv) hown afN rfl);have cj:=dU.o.2.2.1.trans qm.o.cells.2.1;have fj:=dU.o.2.2.2.1 0;clear hown hgr hmv jQ hnews hi0 hz0 hz1 hz2 hk0 hfc;rw[Lb.o]at cj;go_simp;refine dZ 5 [[],[0],[],[2],[0,1,2,3],[0,1,2,3,4],[0,1,2,3,4,5]] rfl rfl rfl rfl rfl agG agG agG ?_;simp[go_sem,Oper.wp];refine dZ 6 [[],[0],[],[2],[0,1,2,3],[0,1,2,3,4],[0,1,2,3,4,5]] rfl rfl rfl rfl rfl agG agG agG ?_;simp[go_sem,Oper.wp,cj,fj];refine fU rfl ?_;go_simp;generalize sO:World.setCell w5 _ _=w6 at *;have HN:aj (H9 p w3 w3.heap.size (bp+2) bm _ (bp+2) w6 _ (lK W g d) (gD W g d) n (k+1) R):=ah (HR.o.next dU.o.1 (Cr.o.same (dU.o.2.2.2.2 bm HR.o.mlt HR.o.IB)) agH (qj.o.trans (dU.o.2.1 _ (aB _))));clear cj fj hl0 hl4;go_wp2_with fail;go_roundw
 case rel=>exact⟨k+1,R,_,_,_,_,agL,HN.o⟩
 case measure=>simp[intOf];omega):P:=h
theorem Aab(h:P:=by
 clear hi hz0 hz1 hz2 hk0 hk1 mV hbs;intro g' cap' w5 hown hgr hmv jQ;have dU:=ah (Cy.o.add (s':= {s with v1:= .slice (some ⟨g',0,none⟩) (W.ls.length+1) cap'}) (W':=lK W g d) (pre:=[_]) (r:=⟨42,2,s.v1,W.ls.length,W.ls.flatMap mH⟩) (post:=[_,_,_,_]) (j:=1) iW.o rfl afg aai hown afN rfl);clear hown hgr hmv jQ iX mR;have cj:=dU.o.2.2.1.trans c1;have fj:=dU.o.2.2.2.1 1;clear c0 c1 c2 c3 c4 c5;go_upto_region 21 with fail;generalize sO:World.setCell w5 _ _=w6 at *;have HN:aj (H9 p w3 w3.heap.size (bp+2) bm _ (bp+2) w6 _ (lK W g d) (gD W g d) (n+1) (k+1) R):=ah (HR.o.next dU.o.1 (Cr.o.same (dU.o.2.2.2.2 bm HR.o.mlt HR.o.IB)) agH (qj.o.trans (dU.o.2.1 _ (aB _))));clear cj fj;go_wp2_with fail;go_roundw
 case rel=>exact⟨k+1,R,_,_,_,_,agL,HN.o⟩
 case measure=>simp[intOf];omega):P:=h
theorem Aac(h:P:=by clear hi hz0 hz1 hz2 hk0 hk1 mV hbs;intro g' cap' w5 hown hgr hmv jQ;have dU:=ah (jF.o.add (s':= {s with v1:= .slice (some ⟨g',0,none⟩) (W.ls.length+1) cap'}) (W':=lJ W d) (pre:=[_]) (r:=⟨42,2,s.v1,W.ls.length,W.ls.flatMap mH⟩) (post:=[_,_,_,_]) (j:=1) iW.o rfl afg aai hown agr rfl);clear hown hgr hmv jQ iX mR;have cj:=dU.o.2.2.1.trans c1;have fj:=dU.o.2.2.2.1 1;clear c0 c1 c2 c3 c4 c5;go_upto_region 7 with fail;exact Aar):P:=h
theorem Aad(h:P:=by have HI3:=ah S3.o.i;have lu:=HI3;have gq:=ah (show Mm T H wb _ from S3.o.m);exact Aai):P:=h
theorem Aae(h:P:=by have lu:=gV;have gq:=ah (show Mm T H wb _ from Mm.refl _ _ _);exact Aai):P:=h
theorem Aaf(h:P:=by
 clear La Il vN he1;refine iI F agG agG hst ?_
 repeat (any_goals (first|go_big_quiet_step ((first|(go_at_call 23;refine(nH gs h.nm _ jK jd aej ((jP.o.same HY.o.1).same (HF.o _))).mono ?_;rintro e w' ⟨rfl,rfl⟩;rw[Gt.o];exact⟨rfl,dh.o _ _ (au _ _)⟩)))|(refine wpQuiet_step (λK hK=> ?_);go_simp;first|(refine hK _ ?_;clear hK K)|(split <;> first|(refine hK _ ?_;clear hK K)|(apply Exists.intro;refine⟨λ_=> ?_,hK _ ?_⟩;((first|(go_at_call 23;refine(nH gs h.nm _ jK jd aej ((jP.o.same HY.o.1).same (HF.o _))).mono ?_;rintro e w' ⟨rfl,rfl⟩;rw[Gt.o];exact⟨rfl,dh.o _ _ (au _ _)⟩)));clear hK K)))))
 all_goals (refine wpQuiet_nil ?_;rintro _ ⟨x,rfl⟩)
 replace HY:=ah (HY.o.next (HF.o x));clear d0 d1 d2 d3 d4 d5 d6 d7 d8 d9 sN vF Bz DF xE DI BA DJ BD HF dh hst;generalize F x=W2 at *;go_wp2_with fail;go_meet;exact⟨by first|(rw[WR.o];rfl)|simp[WR.o],HY.o⟩):P:=h
theorem Aag(h:P:=by
 clear hop;cases tx
 all_goals
  repeat
   go_wp2_with fail
   first
   |(go_at_call 77;refine(iV _ _).mono ?_;rintro e' W' ⟨rfl,rfl⟩)
   |(go_at_call 74;refine(jJ _ _ _).mono ?_;rintro e' W' ⟨rfl,rfl⟩)
   |(go_at_call 48;refine(jk p.ts h.nm _ aM aG HP.o.2.1 (HP.o.same HY.o.1).2.2.2).mono ?_;rintro e' W' ⟨rfl,rfl⟩;rw[HKK.o])
   |(first
     |(go_at_call 75;refine(jo p i h.nm _ _ _ aK aM aH aG hi (HP.o.same HY.o.1)).mono ?_)
     |(go_at_call 76;refine(jE p i h.dP h.xn h.dO h.bJ _ aK aM s.fT aH aG s.eB hi (HP.o.same HY.o.1) oU.o.1.2.2.2.2.2.1 (oU.o.2.2.1.same HY.o.1)).mono ?_)
     |(go_at_call 73;refine(iT p _ aK aM aH aG i cO bR bc kr pJ je jK pI jd ar _ _ h.nm jZ.o (lq.o.same HY.o.1) (mW HY.o)).mono ?_)
     rintro e' W ⟨rfl,hb⟩;replace HY:=ah (HY.o.next hb);clear hb c0 c1 c2 c3 c4 c5 c6 c7 c8 c9 c10 c11 c12 c13 c14 c15 c16 c17 c18;obtain⟨-,⟨-,c0⟩,⟨-,c1⟩,⟨-,c2⟩,⟨-,c3⟩,⟨-,c4⟩,⟨-,c5⟩,⟨-,c6⟩,⟨-,c7⟩,⟨-,c8⟩,⟨-,c9⟩,⟨-,c10⟩,⟨-,c11⟩,⟨-,c12⟩,⟨-,c13⟩,⟨-,c14⟩,⟨-,c15⟩,⟨-,c16⟩,⟨-,c17⟩,⟨-,c18⟩,-⟩:=HY.o;skip)
  go_wp2_with fail;go_ret;exact⟨bV aam,HY.o.1⟩):P:=h
theorem Aah(h:P:=by
 clear hop
 repeat
  go_wp2_with fail
  first
  |(go_at_call 77;refine(iV _ _).mono ?_;rintro e' W' ⟨rfl,rfl⟩)
  |(go_at_call 74;refine(jJ _ _ _).mono ?_;rintro e' W' ⟨rfl,rfl⟩)
  |(go_at_call 48;refine(jk p.ts h.nm _ aM aG HP.o.2.1 (HP.o.same HY.o.1).2.2.2).mono ?_;rintro e' W' ⟨rfl,rfl⟩;rw[HKK.o])
  |(first
    |(go_at_call 75;refine(jo p i h.nm _ _ _ aK aM aH aG hi (HP.o.same HY.o.1)).mono ?_)
    |(go_at_call 76;refine(jE p i h.dP h.xn h.dO h.bJ _ aK aM s.fT aH aG s.eB hi (HP.o.same HY.o.1) oU.o.1.2.2.2.2.2.1 (oU.o.2.2.1.same HY.o.1)).mono ?_)
    |(go_at_call 73;refine(iT p _ aK aM aH aG i cO bR bc kr pJ je jK pI jd ar _ _ h.nm jZ.o (lq.o.same HY.o.1) (mW HY.o)).mono ?_)
    rintro e' W ⟨rfl,hb⟩;replace HY:=ah (HY.o.next hb);clear hb c0 c1 c2 c3 c4 c5 c6 c7 c8 c9 c10 c11 c12 c13 c14 c15 c16 c17 c18;obtain⟨-,⟨-,c0⟩,⟨-,c1⟩,⟨-,c2⟩,⟨-,c3⟩,⟨-,c4⟩,⟨-,c5⟩,⟨-,c6⟩,⟨-,c7⟩,⟨-,c8⟩,⟨-,c9⟩,⟨-,c10⟩,⟨-,c11⟩,⟨-,c12⟩,⟨-,c13⟩,⟨-,c14⟩,⟨-,c15⟩,⟨-,c16⟩,⟨-,c17⟩,⟨-,c18⟩,-⟩:=HY.o;skip)
 go_wp2_with fail;go_ret;exact⟨bV aam,HY.o.1⟩):P:=h
theorem Aai(h:P:=by have lF:=ah (gq.o.keep iJ.o aeR agu (λe=>by have:=bf.o.h _ e;omega));go_wp2_with fail;refine(HE.o 1 agI _ H hs lu.o).mono ?_;rintro e w5 ⟨v,rfl,⟨xo,xn,xm,xk,xa,xc,rfl,hok,hst⟩,hM,hI⟩;have HX:=ah (aI hok (hst.mono gq.o.size));have fZ:=ah (gq.o.trans (Hx.refl _ _) (hM.mm (H:=H)));have gL:=ah hI;have gI:=ah (hM.keep lF.o aeR);clear hok hst hM hI;go_wp2_with fail;refine(fH ⟨#[120]⟩ xo xn xm xk xa xc w5).mono ?_;rintro e w6 ⟨rfl,hb⟩;have dw:=ah hb;have iF:=ah ((hb.block _ (aO gI.o)).trans gI.o);obtain⟨⟨y0,y1,y2,y3,y4,y5,y6,y7,y8,y9,jD⟩,fz⟩:=gJ iF.o;have f0:=fz 0;have f1:=fz 1;have f2:=fz 2;have f3:=fz 3;have f4:=fz 4;have f5:=fz 5;have f6:=fz 6;have f7:=fz 7;have f8:=fz 8;have f9:=fz 9;have f10:=fz 10;clear fz;clear hb;unfold iE fK jT;go_wp2_with fail;exact iy (jg (vG xo xn xm xk xa xc) jR.o bf.o dM.o (fZ.o.then_ (dw.o.mono fZ.o.size) dw.o.size) (Hx.refl _ _) (gL.o.below dw.o) (qP aeO aeP HX.o.1) (iZ gZ (.iM (HX.o.2.next (bS dw.o)) (aB _) (λk h1 _ e=>absurd (bf.o.h _ e) afr)) dV dV) iF.o rfl) ahS rfl):P:=h
theorem Aaj(h:P:=by
 rintro e w3 ⟨rfl,hb3⟩;have HB3:=ah (nW.o.trans (hb3.mono nW.o.size));have HR3:=ah (kL.o.same hb3);clear hb3 z0 z1;cases hc:(x.nm.toList==nm.toList)
 ·have dG:=ah (HE.o.trans (if_neg (show ¬(x.nm.toList==nm.toList)=true by rw[hc];decide)));go_wp2_with fail;go_roundw
  case rel=>exact⟨k+1,R,agL,agH,agh,HR3.o,HB3.o⟩
  case measure=>simp[intOf];omega
 ·have dG:=ah (HE.o.trans (if_pos hc));go_wp2_with fail;go_ret;exact⟨bV dG.o.symm,HB3.o⟩):P:=h
theorem Aak(h:P:=by
 obtain⟨g,b⟩:=x;have hgi:=hg g b ho;simp only;rw[List.getElem?_take,if_pos hgi];unfold yielded;cases hk:ops[g]? with
 |none=>have:full[g]? =none:=List.getElem?_eq_none (by rw[hlen];exact Array.getElem?_eq_none_iff.1 hk);rw[this];rfl
 |some ok=>
  obtain⟨R,hR⟩:=hf g ok hk;rw[hR];simp only[Option.bind_some];cases hd:ok.dst with
  |none=>rfl
  |some d=>
   simp only[Option.bind_some,Act.eval];cases ht:A.tmps[d]? with
   |none=>simp[ht,undef]
   |some v=>simp only[Array.getD_eq_getD_getElem?,ht,Option.getD_some];cases v <;> first|rfl|(rename_i x;cases x <;> cases b <;> rfl)):P:=h
theorem Aal(h:P:=by
 intro i o' hi;cases i with
 |zero=>simp only[List.getElem?_cons_zero,Option.some.injEq]at hi;subst hi;refine⟨R,by simpa using hget,hm,?_⟩;have:full.take (ents.length+0)=ents:=(by have:=congrArg (List.take ents.length) h2;simpa[List.take_take]using this);rw[this];exact ho
 |succ i=>have hi':rest[i]? =some o':=ahi;have:=h3 i o' hi';rw[show ents.length+(i+1)=ents.length+1+i by omega];exact this):P:=h
theorem Aam(h:P:=by
 cases Ij:Tk.jf s.data.toList
 ·rw[HE.o,List.all_cons,show pO t=false by unfold pO;rw[dG.o,List.all_cons,Ij];simp]at HS;go_wp2_with fail;go_ret;exact⟨bW (HS.o.trans agJ).symm,(HC.o.next dR.o).1⟩
 ·have HF:=ah (dG.o.trans (by rw[List.all_cons,Ij];rfl:_=R'.all (λs=>Tk.jf s.data.toList)));go_wp2_with fail;go_roundw
  case rel=>exact⟨k'+1,R',agL,agH,HF.o,hrest'.same dR.o,Dm.o.trans (dR.o.mono Dm.o.size),HC.o.next dR.o⟩
  case measure=>simp[intOf];omega):P:=h
theorem Aan(h:P:=by refine wp_store_mid _ _ _ ahS w.heap.size 0 (bQ.f (⟨fK 1 s .nil xo xn xm xk,.nil,.nil,jT xa xc⟩:bQ)).toArray ahS ahS (IK Q9.o (aB 11)) as1 (all_oneCell_toArray (KI _)) ?_;refine fU rfl ?_;go_simp;go_wp2_with fail;exact iy (jg (⟨fK 1 s .nil xo xn xm xk,.nil,.nil,jT xa xc⟩:bQ) jR.o bf.o dM.o (WC.o.1.mm (H:=H)) (Hx.refl _ _) WC.o.2 (qP aeO HX.o.1 HX.o.2.1) (iZ gZ (.iM HX.o.2.2 (aB _) (λk h1 _ e=>absurd (bf.o.h _ e) afr)) dV dV) Q9.o rfl) ahS rfl):P:=h
theorem Aao(h:P:=by go_wp2_with fail;refine(jo p i h.nm 6 6 _ aK aM aH aG hi (HP.o.same HY.o.1)).mono ?_;rintro e' W ⟨rfl,hb⟩;replace HY:=ah (HY.o.next hb);clear hb c0 c1 c2 c3 c4 c5 c6 c7 c8 c9 c10 c11 c12 c13 c14 c15 c16 c17 c18;obtain⟨-,⟨-,c0⟩,⟨-,c1⟩,⟨-,c2⟩,⟨-,c3⟩,⟨-,c4⟩,⟨-,c5⟩,⟨-,c6⟩,⟨-,c7⟩,⟨-,c8⟩,⟨-,c9⟩,⟨-,c10⟩,⟨-,c11⟩,⟨-,c12⟩,⟨-,c13⟩,⟨-,c14⟩,⟨-,c15⟩,⟨-,c16⟩,⟨-,c17⟩,⟨-,c18⟩,-⟩:=HY.o;go_wp2_with fail;refine(iV _ _).mono ?_;rintro e' W' ⟨rfl,rfl⟩;go_wp2_with fail;refine(jJ _ _ _).mono ?_;rintro e' W' ⟨rfl,rfl⟩;go_wp2_with fail;go_meet;exact⟨rfl,HY.o⟩):P:=h
theorem Aap(h:P:=by rintro e w3 ⟨rfl,hem⟩;obtain⟨v9,dJ⟩:=S1.o.then hem;have S2:=ah dJ;have uU:=ah (S1.o.i.keep hem.choose_spec.2.1);clear hem dJ;go_wp2_with fail;exact bodyPost_end (v:= .tuple #[]) acD rfl ⟨rfl,S2.o.tK rfl abq⟩):P:=h
theorem Aaq(h:P:=by rintro e w2 ⟨rfl,hem⟩;obtain⟨v9,a9,b9,pq,dJ⟩:=S1.o.list hem;clear hem;refine fU rfl ?_;go_simp;go_wp2_with fail;exact bodyPost_end (v:= .tuple #[]) acD rfl ⟨rfl,dJ.tK pq aaq⟩):P:=h
theorem Aar(h:P:=by
 generalize sO:World.setCell w5 _ _=w6 at *;have HN:aj (GV p w3 w3.heap.size (bp+2) _ (bp+2) w6 _ (lJ W d) (k+1) R):=ah (HR.o.next dU.o.1 (qj.o.trans (dU.o.2.1 _ (aB _))));clear cj fj;go_wp2_with fail;go_roundw
 case rel=>exact⟨k+1,R,_,_,agL,HN.o⟩
 case measure=>simp[intOf];omega):P:=h
theorem Aas(h:P:=by
 obtain⟨wV,left',wT,vV,vX,wU,xL,iH,c0',c1',c2',c3',rR,mq,mE,lH,cf',hv',hrow'⟩:=gV.o.reads;clear c0' c1' c3' mq mE lH cf' hv' hrow' iH;by_cases h1:(0:Int)<(d:Int)
 ·by_cases h2:0<left'
  ·go_wp2_with fail;go_meet;exact⟨⟨_,rfl,λ_=>agH⟩,rfl⟩
  ·go_wp2_with fail;go_meet;exact⟨⟨_,rfl,λ_=>agH⟩,rfl⟩
 ·go_wp2_with fail;go_meet;exact⟨⟨false,rfl,λh=>ahh⟩,rfl⟩):P:=h
theorem Aat(h:P:=by have hk5:(d.kind==3)=false:=agM;have QY:(d.kind==4)=false:=agM;have XT:(d.kind==5)=false:=agM;clear hkd;go_wp2_with fail;go_meet;exact⟨rfl,ahJ,ahD,ahx,ahw⟩):P:=h
theorem Aau(h:P:=by intro β A w' hβ hC hO hD;have e0:=hO 0 ahS;have e3:=hO 3 ahS;simp[Act.eval]at e0 e3;simp[Act.eval]at hD;simp[go_sem,gd,Oper.wp,e0,e3,hD,L2,hC];exact AaH):P:=h
theorem Aav(h:P:=by intro β A w' hβ hC hO hD;have e0:=hO 0 ahS;have e3:=hO 3 ahS;simp[Act.eval]at e0 e3;simp[Act.eval]at hD;simp[go_sem,gd,Oper.wp,e0,e3,hD];exact AaH):P:=h
theorem Aaw(h:P:=by
 go_wp2_with fail;go_quiet (fail);go_wp2_with fail
 go_ret2
 exact⟨jN (congrArg Prod.fst HF.o) (congrArg Prod.snd HF.o),below_drewN HB3.o _⟩):P:=h
theorem Aax(h:P:=by intro β A w' hβ hC hO hD;have e0:=hO 0 ahS;have e3:=hO 3 ahS;simp[Act.eval]at e0 e3;simp[Act.eval]at hD;simp[go_sem,gd,Oper.wp,e0,e3,hD];exact aV.mk (iR _) agS (cB.mk _ _)):P:=h
theorem Aay(h:P:=by intro D A g w' hDn hC hO hD;simp[uL,vg,iY,Act.eval,Region.binds]at hD;simp[go_sem,CV,Oper.wp,hD];exact oW.mk (Ag.le_refl _ _ _) (hC.skip _ agI) (vg.mk _ _ _)):P:=h
theorem Aaz(h:P:=by go_wp2_with fail;go_quiet (fail);go_wp2_with fail;go_quiet (fail);go_wp2_with fail;go_ret;exact⟨ahk,aas⟩):P:=h
theorem AaA(h:P:=by have HT:aj (res=false):=ah (Gw.o (by unfold oz;omega));exact AaG):P:=h
theorem AaB(h:P:=by go_wp2_with fail;go_meet;exact⟨rfl,by rw[Ew.o],ahJ,ahD,ahx,ahw⟩):P:=h
theorem AaC(h:P:=by
 go_wp2_with fail;go_round
 case rel=>exact⟨k+1,R,agL,agH,dG.o,hrest⟩
 case measure=>simp[intOf];omega):P:=h
theorem AaD(h:P:=by rintro e' w2 ⟨rfl,hb⟩;exact aV.mk hb (hC.trans (hb.mono hC.size)) (cB.mk _ _)):P:=h
theorem AaE(h:P:=by rintro v w w' hle ⟨b,rfl,hin⟩;exact⟨b,rfl,hin.same hle⟩):P:=h
theorem AaF(h:P:=by exact aV.mk trivial (C3.skip ahS ahS ahS hC) (cB.mk _ _)):P:=h
theorem AaG(h:P:=by go_wp2_with fail;go_ret;exact⟨agR,by rw[fC.o];exact HB.o⟩):P:=h
theorem AaH(h:P:=by exact aV.mk (au _ _) hC (cB.mk _ _)):P:=h
end
theorem aO {α:Type _} {a:Array α} {i:Nat} {x:α} (h:a[i]? =some x):i<a.size:=(Array.getElem?_eq_some_iff.1 h).1
theorem aA {α:Type _} {a b:List α} :(a++b).length=a.length+b.length:=List.length_append
theorem aD {α:Type _} {a:α} {l:List α} :(a::l).length=l.length+1:=List.length_cons
theorem aW {α:Type _} :([]:List α).length=0:=List.length_nil
theorem gH {α:Type _} {β:Type _} {l:List α} (f:α->β):(l.map f).length=l.length:=List.length_map f
theorem aR {n m k:Nat} (h:n<m) (g:m<=k):n<k:=Nat.lt_of_lt_of_le h g
theorem aJ {n m k:Nat} (h:n<=m) (g:m<=k):n<=k:=Nat.le_trans h g
theorem aB (n:Nat):n<=n:=Nat.le_refl n
theorem bF (n:Nat):0<=n:=Nat.zero_le n
theorem aU (n:Nat):0+n=n:=Nat.zero_add n
theorem jl (n:Nat):n<=n+1:=Nat.le_succ n
theorem bH {n m:Nat} (h:n<m):n<=m:=Nat.le_of_lt h
theorem aP (a b:Bool):((a&&b)=true)=(a=true∧b=true):=Bool.and_eq_true a b
theorem aI {a b:Prop} (h:a) (g:b):a∧b:=⟨h,g⟩
theorem aX {α:Type _} {a:α} {l:List α} :a∈a::l:=List.mem_cons_self
theorem aY {α:Type _} (b:α) {a:α} {l:List α} (h:a∈l):a∈b::l:=List.mem_cons_of_mem b h
theorem bC {α:Type _} {l:List α} {i:Nat} (h:i<l.length):l[i]? =some l[i]:=List.getElem?_eq_getElem h
theorem au (B:Nat) (w:World):Below B w w:=Below.refl B w
def aj (p:Prop):Prop:=p
theorem aj.o {p:Prop} (h:aj p):p:=h
theorem ah {p:Prop} (h:p):aj p:=h
theorem dY {α:Type} :(∀l:List α,[]++l=l)∧∀(a:α) (l m:List α),(a::l)++m=a::(l++m):=⟨λ_=>rfl,λ_ _ _=>rfl⟩
theorem Ov (w:World) (cs:List Value) (t:TypeId) (k:Nat):(w.alloc (.cells cs.toArray t)).cell? ⟨w.heap.size,k,none⟩=cs[k]?:=by
 rw[cell_of_row _ w.heap.size k cs.toArray t (0,0) (heap_alloc_new w _)];simp
end Go.Proofs.YtdoplekppjkkpaaGreatDoor
end
section
namespace Go.Proofs.YtdoplekppjkkpaaGreatDoor
open Go.RowKit
def Da (k:Nat):List UInt8:=Tk.Iw.getD k []
def N7 (k:Nat):ByteArray:=⟨(Da k).toArray⟩
theorem Rc (k:Nat) (h:k<Tk.Iw.length):Da k=Tk.Iw[k]:=by unfold Da;simp[h]
theorem bW {a b:Bool} (h:a=b):Ending.returned (.bool a)= .returned (.bool b):=by rw[h]
theorem bV {k:IntKind} {a b:Int} (h:a=b):Ending.returned (.int k a)= .returned (.int k b):=by rw[h]
def Jc:Array Value:=(Tk.Iw.map λl=>Value.string ⟨l.toArray⟩).toArray
def dW (w:World):Prop:= ∃t fr,w.heap[0]? =some (.cells Jc t fr)
theorem dW.below {B:Nat} {w w':World} (h:dW w) (hb:Below B w w') (hB:0<B):dW w':=by
 obtain⟨t,fr,h⟩:=h;exact⟨t,fr,(hb.block _ hB).trans h⟩
theorem dW.lt {w:World} (h:dW w):0<w.heap.size:=by
 obtain⟨t,fr,h⟩:=h;exact(aO h)
theorem dW.same {w w':World} (h:dW w) (hb:Below w.heap.size w w'):dW w':=h.below hb h.lt
theorem dW.alloc {w:World} (h:dW w) (o:Obj):dW (w.alloc o):=h.same ((au _ _).alloc (aB _) o)
theorem ad8 (k:Nat) (hk:k<22) (w:World):(Instr.index 148 (.agg Jc) (.int .i64 (k:Int))).run Tryz.prog w= .ok (.string (N7 k)) w:=by
 rcases(show k=0∨k=1∨k=2∨k=3∨k=4∨k=5∨k=6∨k=7∨k=8∨k=9∨k=10∨k=11∨k=12∨k=13∨k=14∨k=15∨k=16∨k=17∨k=18∨k=19∨k=20∨k=21 by omega)with rfl|rfl|rfl|rfl|rfl|rfl|rfl|rfl|rfl|rfl|rfl|rfl|rfl|rfl|rfl|rfl|rfl|rfl|rfl|rfl|rfl|rfl <;> kernel_rfl
theorem JQ (k:Nat):(N7 k).toList=Da k:=by
 unfold N7;rw[Lib.toList_data]
theorem Yo (k:Nat) (hk:k<22) (l:List UInt8) (h:(l==Da k)=true):Tk.vP l=true:=by
 have hl:Tk.Iw.length=22:=rfl;unfold Tk.vP;rw[List.contains_iff_mem,show l=Da k from ahT,Rc _ agH];exact List.getElem_mem _
theorem ar3 (l:List UInt8) (h: ∀k<22,(l==Da k)=false):Tk.vP l=false:=by
 have hl:Tk.Iw.length=22:=rfl;unfold Tk.vP;rw[Bool.eq_false_iff];intro hc;rw[List.contains_iff_mem]at hc;obtain⟨k,hk,e⟩:=List.getElem_of_mem hc;have:=h k agH;rw[Rc _ hk,e]at this;simp at this
def Qd (l:List UInt8) (k:Nat):Prop:= ∀j<k,(l==Da j)=false
theorem Qd.step {l:List UInt8} {k:Nat} (h:Qd l k) (hk:(l==Da k)=false):Qd l (k+1):=by
 intro j hj;by_cases e:j=k
 ·subst e;exact hk
 ·exact h j agH
theorem Bc (s:ByteArray) (w:World) (h:dW w):
 Calls Tryz.prog 55 #[.string s] w λe w'=>e= .returned (.bool (Tk.vP s.data.toList))∧w=w':=by
 obtain⟨t,fr,hg⟩:=h;rw[<- Lib.toList_data];go_enter Tryz.func55,Tryz.ntmps55;go_wp2_with (refine wpList_load_row rfl 148 _ rfl 0 rfl t _ fr _ hg Tryz.underlying148 rfl agG ?_);clear hg;go_loop [6] (λi=> ∃k:Nat,k<=22∧i= .int .i64 k∧Qd s.toList k) (λi=>22 -(intOf i).toNat)
 case atStart=>exact⟨0,bF _,rfl,λj hj=>absurd hj agH⟩
 case round=>
  obtain⟨k,hk,rfl,hno⟩:=hrel;by_cases hlt:k<22
  ·have hix:=ad8 k hlt;have hat:=JQ k;by_cases he:(s.toList==Da k)=true
   ·go_wp2;go_ret;exact⟨bW (Yo k hlt _ he).symm,rfl⟩
   ·have he':(s.toList==Da k)=false:=ahd;clear he;go_wp2;go_round
    case rel=>exact⟨k+1,agH,agL,hno.step he'⟩
    case measure=>simp[intOf];omega
  ·obtain rfl:k=22:=by omega
   go_wp2;go_ret;exact⟨bW (ar3 _ hno).symm,rfl⟩
end Go.Proofs.YtdoplekppjkkpaaGreatDoor
end
section
namespace Go.Proofs.YtdoplekppjkkpaaGreatDoor
open Go.RowKit
theorem aR4 (c:UInt8):Tk.lX c=((Tk.BI c||Tk.mI c)||((c.toNat:Int)==95)):=rfl
theorem R8 (c:UInt8) (h:Tk.BI c=true):Tk.lX c=true:=by rw[aR4,h];rfl
theorem DU (c:UInt8):(Tk.lX c=true∧Tk.tO (c.toNat:Int)=true)∨(Tk.lX c=true∧Tk.tO (c.toNat:Int)=false∧Tk.rV (c.toNat:Int)=true)∨
 (Tk.lX c=true∧Tk.tO (c.toNat:Int)=false∧Tk.rV (c.toNat:Int)=false∧((c.toNat:Int)==95)=true)∨
 (Tk.lX c=false∧Tk.tO (c.toNat:Int)=false∧Tk.rV (c.toNat:Int)=false∧((c.toNat:Int)==95)=false):=by
 have e:Tk.lX c=((Tk.tO (c.toNat:Int)||Tk.rV (c.toNat:Int))||((c.toNat:Int)==95)):=rfl;rw[e];cases Tk.tO (c.toNat:Int) <;> cases Tk.rV (c.toNat:Int) <;> cases ((c.toNat:Int)==95) <;> simp
end Go.Proofs.YtdoplekppjkkpaaGreatDoor
end
section
namespace Go.Proofs.YtdoplekppjkkpaaGreatDoor.Tk
theorem Cc (c:UInt8):mI c=true↔48<=c.toNat∧c.toNat<=57:=by
 unfold mI rV;simp only[aP,decide_eq_true_eq];omega
theorem XC (l:List UInt8): ∀n:Nat,l.foldl (λn c=>10*n+(c.toNat -48)) n=n*10 ^ l.length+val l:=by
 induction l with
 |nil=>intro n;simp[val]
 |cons c l ih=>intro n;have h0:=ih (10*0+(c.toNat -48));have h1:=ih (10*n+(c.toNat -48));unfold val;simp only[List.foldl_cons];rw[h1,h0,aD,Nat.pow_succ];simp only[Nat.mul_zero,aU,Nat.add_mul];rw[Nat.add_assoc,Nat.mul_comm 10 n,Nat.mul_assoc,Nat.mul_comm 10]
theorem yj (c:UInt8) (l:List UInt8):val (c::l)=(c.toNat -48)*10 ^ l.length+val l:=by
 have:=XC l (10*0+(c.toNat -48));unfold val at *;simp only[List.foldl_cons];rw[this];simp
theorem F9: ∀(l:List UInt8),l.all mI=true->val l<10 ^ l.length
 | [],_=>by simp[val]
 |c::l,h=>by rw[List.all_cons,aP,Cc]at h;have:=F9 l h.2;rw[yj,aD,Nat.pow_succ];have h9:(c.toNat -48)*10 ^ l.length<=9*10 ^ l.length:=Nat.mul_le_mul_right _ agH;omega
theorem aW2 (c:UInt8) (l:List UInt8) (h:mI c=true) (h0:c≠48):10 ^ l.length<=val (c::l):=by
 rw[Cc]at h;have hc:c.toNat≠48:=λe=>h0 (UInt8.toNat_inj.1 e);rw[yj];have:1*10 ^ l.length<=(c.toNat -48)*10 ^ l.length:=Nat.mul_le_mul_right _ agH;omega
theorem FV: ∀l:List UInt8,val (l.dropWhile (· ==48))=val l
 | []=>rfl
 |c::l=>by
  rw[List.dropWhile_cons];split
  ·rename_i h;have:c=48:=by simpa using h
   subst this;rw[FV l,yj];simp
  ·rfl
theorem Fv (p q:UInt8->Bool): ∀l:List UInt8,l.all p=true->(l.dropWhile q).all p=true
 | [],_=>rfl
 |c::l,h=>by
  rw[List.dropWhile_cons];split
  ·rw[List.all_cons,aP]at h;exact Fv p q l h.2
  ·exact h
theorem Rf: ∀(a b:List UInt8),a.all mI=true->b.all mI=true->a.length=b.length->Op.bytesLess a b=decide (val a<val b)
 | [],[],_,_,_=>rfl
 |a::x,b::y,ha,hb,hl=>by
  rw[List.all_cons,aP]at ha hb;have hl':x.length=y.length:=ahG
  have ih:=Rf x y ha.2 hb.2 hl';have hx:=F9 x ha.2;have hy:=F9 y hb.2;have h1:=(Cc a).1 ha.1;have h2:=(Cc b).1 hb.1;unfold Op.bytesLess;rw[ih,yj,yj,hl'];rw[hl']at hx;generalize 10 ^ y.length=T at *;rcases Nat.lt_trichotomy a.toNat b.toNat with h|h|h
  ·have e1:a<b:=UInt8.lt_iff_toNat_lt.2 h;have:(a.toNat -48)*T+T<=(b.toNat -48)*T:=by
    have:=Nat.mul_le_mul_right T (show a.toNat -48+1<=b.toNat -48 by omega)
    rwa [Nat.add_mul,Nat.one_mul]at this
   have e2:(a.toNat -48)*T+val x<(b.toNat -48)*T+val y:=agH
   simp[e1,e2]
  ·have e1:a=b:=UInt8.toNat_inj.1 h;subst e1;have e2: ¬a<a:=by rw[UInt8.lt_iff_toNat_lt];omega
   simp
  ·have e1: ¬a<b:=by rw[UInt8.lt_iff_toNat_lt];omega
   have e2:a≠b:=λe=>by rw[e]at h;omega
   have:(b.toNat -48)*T+T<=(a.toNat -48)*T:=by
    have:=Nat.mul_le_mul_right T (show b.toNat -48+1<=a.toNat -48 by omega)
    rwa [Nat.add_mul,Nat.one_mul]at this
   have e3: ¬(a.toNat -48)*T+val x<(b.toNat -48)*T+val y:=agH
   simp[e1,e2,e3]
 | [],_::_,_,_,h=>ahe
 |_::_,[],_,_,h=>ahe
theorem val_inj: ∀(a b:List UInt8),a.all mI=true->b.all mI=true->a.length=b.length->val a=val b->a=b
 | [],[],_,_,_,_=>rfl
 |a::x,b::y,ha,hb,hl,hv=>by
  rw[List.all_cons,aP]at ha hb;have hl':x.length=y.length:=ahG
  have hx:=F9 x ha.2;have hy:=F9 y hb.2;have h1:=(Cc a).1 ha.1;have h2:=(Cc b).1 hb.1;have hv':=hv;rw[yj,yj,hl']at hv;rw[hl']at hx;have hab:a.toNat=b.toNat:=by
   generalize 10 ^ y.length=T at *;rcases Nat.lt_trichotomy a.toNat b.toNat with h|h|h
   ·have:=Nat.mul_le_mul_right T (show a.toNat -48+1<=b.toNat -48 by omega);rw[Nat.add_mul,Nat.one_mul]at this;omega
   ·exact h
   ·have:=Nat.mul_le_mul_right T (show b.toNat -48+1<=a.toNat -48 by omega);rw[Nat.add_mul,Nat.one_mul]at this;omega
  obtain rfl:a=b:=UInt8.toNat_inj.1 hab;rw[val_inj x y ha.2 hb.2 hl' agH]
 | [],_::_,_,_,h,_=>ahe
 |_::_,[],_,_,h,_=>ahe
def great:List UInt8:=[57,50,50,51,51,55,50,48,51,54,56,53,52,55,55,53,56,48,55]
theorem DL:val great=9223372036854775807:=agI
theorem Oh:great.all mI=true:=agI
theorem Oi:great.length=19:=rfl
theorem VU (l:List UInt8) (h:l.all mI=true) (hl:19<(l.dropWhile (· ==48)).length):zF l=false:=by
 have ht:=Fv mI (· ==48) l h;unfold zF;rw[<- FV l];have hh: ∀c r,l.dropWhile (· ==48)=c::r->c≠48:=by intro c r e;have:=List.head?_dropWhile_not (· ==48) l;rw[e]at this;simpa using this
 generalize l.dropWhile (· ==48)=t at *
 match t,hl,ht,hh with
 |c::r,hl,ht,hh=>rw[List.all_cons,aP]at ht;have h1:=aW2 c r ht.1 (hh c r rfl);have h2:10 ^ 19<=10 ^ r.length:=Nat.pow_le_pow_right agH (by simp at hl;omega);have h3:(10:Nat) ^ 19=10000000000000000000:=rfl;rw[h3]at h2;simp only[decide_eq_false_iff_not];omega
theorem SX (l:List UInt8) (h:l.all mI=true) (hl:(l.dropWhile (· ==48)).length<19):zF l=true:=by
 have ht:=Fv mI (· ==48) l h;unfold zF;rw[<- FV l];generalize l.dropWhile (· ==48)=t at *;have h1:=F9 t ht;have h2:10 ^ t.length<=10 ^ 18:=Nat.pow_le_pow_right agH agH;have h3:(10:Nat) ^ 18=1000000000000000000:=rfl;rw[h3]at h2;simp only[decide_eq_true_eq];omega
theorem af5 (l:List UInt8) (h:l.all mI=true) (hl:(l.dropWhile (· ==48)).length=19):
 (!(Op.bytesLess (l.dropWhile (· ==48)) great||(l.dropWhile (· ==48))==great))= !zF l:=by
 have ht:=Fv mI (· ==48) l h;unfold zF;rw[<- FV l];generalize l.dropWhile (· ==48)=t at *;rw[Rf t great ht Oh (by rw[hl,Oi]),DL];congr 1;by_cases e:val t=9223372036854775807
 ·have:t=great:=val_inj t great ht Oh (by rw[hl,Oi]) (by rw[e,DL]);rw[this,DL];simp
 ·have hne:(t==great)=false:=by rw[beq_eq_false_iff_ne];intro e';rw[e',DL]at e;exact e rfl
  rw[hne,Bool.or_false,decide_eq_decide];omega
def Eo:List (List UInt8):=[[124,124],[38,38],[61,61],[33,61],[60,61],[62,61]]
def O9:List UInt8:=[60,62,43,45,42,47,37,33,61,40,41,91,93,123,125,44,59]
theorem aV2:sgs=Eo++O9.map λc=>[c]:=rfl
theorem Ki (n:Nat) (l:List UInt8): ∀gs:List (List UInt8),(∀g∈gs,g.length=n)->gs.find? (λg=>g.isPrefixOf l)=if gs.contains (l.take n)then some (l.take n)else none
 | [],_=>rfl
 |g::gs,h=>by
  have hg:g.length=n:=h g (aX ..);have ih:=Ki n l gs λx hx=>h x (aY _ hx);rw[List.find?_cons,ih,List.contains_cons];by_cases e:g.isPrefixOf l=true
  ·have e1:l.take n=g:=by obtain⟨r,rfl⟩:=List.isPrefixOf_iff_prefix.1 e;rw[<- hg];simp
   rw[e,e1];simp
  ·have e0:g.isPrefixOf l=false:=Bool.eq_false_iff.2 e;have e1:(l.take n==g)=false:=by rw[beq_eq_false_iff_ne];intro e2;exact e (List.isPrefixOf_iff_prefix.2 (e2 ▸ List.take_prefix _ _))
   rw[e0,e1];simp
theorem F6 (l:List UInt8):oF l=if Eo.contains (l.take 2)then l.take 2 else if(O9.map λc=>[c]).contains (l.take 1)then l.take 1 else []:=by
 unfold oF;rw[aV2,List.find?_append,Ki 2 l Eo agI,Ki 1 l (O9.map λc=>[c]) agI];split
 ·rfl
 ·split <;> rfl
theorem Qx (a:UInt8):(O9.map λc=>[c]).contains [a]=O9.contains a:=by
 simp[O9]
theorem EW (c:UInt8): ∀l:List UInt8,l.contains c=decide (0<=Lib.indexByte l c)
 | []=>rfl
 |b::l=>by
  have ih:=EW c l;have hg:=Lib.indexByte_ge l c;have hc:Lib.indexByte (b::l) c=if b==c then 0 else if Lib.indexByte l c== -1 then -1 else Lib.indexByte l c+1:=rfl
  rw[List.contains_cons,ih,hc];by_cases h:b=c
  ·subst h;simp
  ·have h1:(b==c)=false:=by simpa using h
   have h2:(c==b)=false:=by simpa using Ne.symm h
   rw[h1,h2];simp only[Bool.false_or,Bool.false_eq_true,if_false,decide_eq_decide];by_cases h3:Lib.indexByte l c= -1
   ·simp[h3]
   ·rw[if_neg ahP];omega
end Go.Proofs.YtdoplekppjkkpaaGreatDoor.Tk
end
section
namespace Go.Proofs.YtdoplekppjkkpaaGreatDoor.Tk
theorem YI (f line:Nat) (acc:List Tok):mX f [] line acc=(acc,0,0):=by cases f <;> rfl
theorem RU (p:UInt8->Bool) (c:UInt8) (r:List UInt8) (h:p c=true):1<=((c::r).takeWhile p).length:=by
 rw[List.takeWhile_cons,if_pos h];simp
theorem aw6 (c:UInt8) (h:BI c=true):lX c=true:=by
 have e:lX c=((BI c||mI c)||((c.toNat:Int)==95)):=rfl;rw[e,h];rfl
theorem XB (c:UInt8) (r:List UInt8) (h:(first (c::r)).1=0):1<=(first (c::r)).2.2.length∧(first (c::r)).2.2.length<=(c::r).length∧(c::r).take (first (c::r)).2.2.length=(first (c::r)).2.2:=by
 have hh:(c::r).headD 0=c:=rfl;unfold first at h⊢;rw[hh]at h⊢;by_cases hL:BI c=true
 ·rw[if_pos hL]at h⊢;unfold uR at h⊢;by_cases h12:12<((c::r).takeWhile lX).length
  ·rw[if_pos h12]at h;cases h
  ·rw[if_neg h12];exact⟨RU _ _ _ (aw6 c hL),AQ _ _,take_takeWhile _ _⟩
 ·rw[if_neg hL]at h⊢;by_cases hD:mI c=true
  ·rw[if_pos hD]at h⊢;unfold Dc at h⊢;split at h
   ·cases h
   ·rename_i h2;rw[if_neg h2];exact⟨RU _ _ _ hD,AQ _ _,take_takeWhile _ _⟩
  ·rw[if_neg hD]at h⊢;unfold Nb at h⊢;split at h
   ·cases h
   ·rename_i h2;rw[if_neg h2];have hlen:oF (c::r)≠[]:=λe=>h2 ahf;refine⟨?_,?_,?_⟩
    ·cases hs:oF (c::r)with
     |nil=>exact absurd hs hlen
     |cons a b=>simp
    ·show(oF (c::r)).length<=_;rw[F6];split
     ·rw[List.length_take];omega
     ·split
      ·rw[List.length_take];omega
      ·simp
    ·show(c::r).take (oF (c::r)).length=oF (c::r);rw[F6];split
     ·rw[List.length_take,List.take_eq_take_iff];omega
     ·split
      ·rw[List.length_take,List.take_eq_take_iff];omega
      ·rfl
theorem ag7 (f:Nat) (r:List UInt8) (line:Nat) (acc:List Tok):mX (f+1) (10::r) line acc=mX f r (line+1) acc:=by
 rw[mX,if_pos rfl]
theorem SY (f:Nat) (c:UInt8) (r:List UInt8) (line:Nat) (acc:List Tok) (h:c=32∨c=9∨c=13):mX (f+1) (c::r) line acc=mX f r line acc:=by
 have h1:c≠10:=by rcases h with rfl|rfl|rfl <;> decide
 rw[mX,if_neg h1,if_pos h]
theorem YG (f:Nat) (c:UInt8) (r:List UInt8) (line:Nat) (acc:List Tok) (h1:c≠10) (h2: ¬(c=32∨c=9∨c=13)) (h3:[47,47].isPrefixOf (c::r)=true):mX (f+1) (c::r) line acc=mX f ((c::r).dropWhile (· != 10)) line acc:=by
 rw[mX,if_neg h1,if_neg h2,if_pos h3]
theorem YJ (f:Nat) (c:UInt8) (r:List UInt8) (line:Nat) (acc:List Tok) (h1:c≠10) (h2: ¬(c=32∨c=9∨c=13)) (h3:[47,47].isPrefixOf (c::r)=false) (h4:(first (c::r)).1=0):
 mX (f+1) (c::r) line acc=mX f ((c::r).drop (first (c::r)).2.2.length) line (acc++[⟨(first (c::r)).2.1,(first (c::r)).2.2,line⟩]):=by
 rw[mX,if_neg h1,if_neg h2,if_neg (by rw[h3];decide),if_pos h4]
theorem YH (f:Nat) (c:UInt8) (r:List UInt8) (line:Nat) (acc:List Tok) (h1:c≠10) (h2: ¬(c=32∨c=9∨c=13)) (h3:[47,47].isPrefixOf (c::r)=false) (h4:(first (c::r)).1≠0):
 mX (f+1) (c::r) line acc=([],(first (c::r)).1,line):=by
 rw[mX,if_neg h1,if_neg h2,if_neg (by rw[h3];decide),if_neg h4]
def SP (l:List UInt8) (R:List Tok×Nat×Nat) (k line:Nat) (acc:List Tok):Prop:=
 k<=l.length∧line<=k+1∧acc.length<=k∧∃f,(l.drop k).length<=f∧mX f (l.drop k) line acc=R
theorem SP.start (l:List UInt8):SP l (mX l.length l 1 []) 0 1 []:=⟨bF _,aB _,aB _,l.length,aB _,rfl⟩
section
variable {l:List UInt8} {R:List Tok×Nat×Nat} {k line:Nat} {acc:List Tok}
theorem SP.cut (h:SP l R k line acc) (hk:k<l.length): ∃f,(l.drop (k+1)).length<=f∧mX (f+1) (l[k]::l.drop (k+1)) line acc=R:=by
 obtain⟨_,_,_,f,hf,hR⟩:=h;rw[List.drop_eq_getElem_cons hk]at hf hR;cases f with
 |zero=>simp at hf;omega
 |succ f=>exact⟨f,by rw[aD]at hf;omega,hR⟩
theorem SP.nl (h:SP l R k line acc) (hk:k<l.length) (hc:l[k]=10):SP l R (k+1) (line+1) acc:=by
 obtain⟨f,hf,hR⟩:=h.cut hk;rw[hc,ag7]at hR;exact⟨hk,agc,agy,f,hf,hR⟩
theorem SP.blank (h:SP l R k line acc) (hk:k<l.length) (hc:l[k]=32∨l[k]=9∨l[k]=13):SP l R (k+1) line acc:=by
 obtain⟨f,hf,hR⟩:=h.cut hk;rw[SY _ _ _ _ _ hc]at hR;exact⟨hk,agc,agy,f,hf,hR⟩
theorem SP.Gf (h:SP l R k line acc) (hk:k<l.length) (h1:l[k]≠10) (h2: ¬(l[k]=32∨l[k]=9∨l[k]=13)) (h3:[47,47].isPrefixOf (l.drop k)=true):SP l R (k+Tk.Gf (l.drop k)) line acc∧1<=Tk.Gf (l.drop k):=by
 obtain⟨f,hf,hR⟩:=h.cut hk;have e:=List.drop_eq_getElem_cons hk;rw[e]at h3;rw[YG _ _ _ _ _ h1 h2 h3,<- e,<- wK,List.drop_drop]at hR;have hle:=Xm (l.drop k);rw[List.length_drop]at hle;have h1':1<=Tk.Gf (l.drop k):=by unfold Tk.Gf;rw[e];exact RU (· != 10) _ _ agO
 refine⟨⟨agH,agc,agy,f,?_,hR⟩,h1'⟩;rw[List.length_drop]at hf⊢;omega
theorem SP.tok (h:SP l R k line acc) (hk:k<l.length) (h1:l[k]≠10) (h2: ¬(l[k]=32∨l[k]=9∨l[k]=13)) (h3:[47,47].isPrefixOf (l.drop k)=false) (h4:(first (l.drop k)).1=0):
 SP l R (k+(first (l.drop k)).2.2.length) line (acc++[⟨(first (l.drop k)).2.1,(first (l.drop k)).2.2,line⟩])∧1<=(first (l.drop k)).2.2.length:=by
 obtain⟨f,hf,hR⟩:=h.cut hk;have e:=List.drop_eq_getElem_cons hk;rw[e]at h3 h4;have hl:=XB _ _ h4;rw[YJ _ _ _ _ _ h1 h2 h3 h4,<- e,List.drop_drop]at hR;rw[<- e]at hl h4;rw[List.length_drop]at hl;refine⟨⟨agH,agc,?_,f,?_,hR⟩,hl.1⟩
 ·rw[aA];have:=h.2.2.1;simp;omega
 ·rw[List.length_drop]at hf⊢;omega
theorem SP.err (h:SP l R k line acc) (hk:k<l.length) (h1:l[k]≠10) (h2: ¬(l[k]=32∨l[k]=9∨l[k]=13)) (h3:[47,47].isPrefixOf (l.drop k)=false) (h4:(first (l.drop k)).1≠0):
 R=([],(first (l.drop k)).1,line):=by
 obtain⟨f,hf,hR⟩:=h.cut hk;have e:=List.drop_eq_getElem_cons hk;rw[e]at h3 h4;rw[YH _ _ _ _ _ h1 h2 h3 h4,<- e]at hR;exact hR.symm
theorem SP.done (h:SP l R k line acc) (hk: ¬k<l.length):R=(acc,0,0):=by
 obtain⟨_,_,_,f,hf,hR⟩:=h;rw[List.drop_of_length_le agH,YI]at hR;exact hR.symm
end
theorem Qw (l m:List Tok):cellsOf (l++m)=cellsOf l++cellsOf m:=by unfold cellsOf;rw[List.flatMap_append]
theorem cells_one (t:Tok):cellsOf [t]=t.cells:=by unfold cellsOf;simp
end Go.Proofs.YtdoplekppjkkpaaGreatDoor.Tk
end
section
namespace Go.Proofs.YtdoplekppjkkpaaGreatDoor
open Go.RowKit
theorem oD (c:Int) (w:World):
 Calls Tryz.prog 121 #[.int .u8 c] w λe w'=>e= .returned (.bool (Tk.tO c))∧w=w':=by
 unfold Tk.tO;go_enter Tryz.func121,Tryz.ntmps121;go_wp2
 all_goals go_ret
 all_goals first|(simp[*];done)|(simp[*];omega)
theorem nZ (c:Int) (w:World):
 Calls Tryz.prog 123 #[.int .u8 c] w λe w'=>e= .returned (.bool (Tk.rV c))∧w=w':=by
 unfold Tk.rV;go_enter Tryz.func123,Tryz.ntmps123;go_wp2
 all_goals go_ret
 all_goals first|(simp[*];done)|(simp[*];omega)
theorem OL (s p:ByteArray) (w:World):
 Calls Tryz.prog 92 #[.string s,.string p] w λe w'=>e= .returned (.bool (Lib.hasPrefix s.data.toList p.data.toList))∧w=w':=by
 rw[<- Lib.hasPrefix_of_take,<- Lib.size_eq,<- Lib.size_eq];go_enter Tryz.func92,Tryz.ntmps92;go_wp2
 ·rename_i h;go_ret;refine⟨?_,rfl⟩;show Ending.returned (Value.bool ((s.extract 0 p.size).toList==p.toList))=_;rw[Lib.extract_toList,Lib.toList_data];simp[h]
 ·rename_i h;go_ret;refine⟨?_,rfl⟩;show Ending.returned (Value.bool false)=_;simp[h]
theorem C8 (s:ByteArray) (c:Int) (w:World):
 Calls Tryz.prog 148 #[.string s,.int .u8 c] w λe w'=>e= .returned (.int .i64 (Lib.indexByte s.data.toList c.toNat.toUInt8))∧w=w':=by
 go_enter Tryz.func148,Tryz.ntmps148;go_wp2;rw[run_callFunc_extern Tryz.func155 agG agG agG (e:=Extern.BytealgIndexByte.indexByte) agG,Lib.run_indexByteString];simp only[Result.andThen];rw[Oper.upon_value];go_wp2;go_ret;exact⟨rfl,rfl⟩
theorem Bb (s:ByteArray) (c:Int) (w:World):
 Calls Tryz.prog 120 #[.string s,.int .u8 c] w λe w'=>e= .returned (.int .i64 (Lib.indexByte s.data.toList c.toNat.toUInt8))∧w=w':=by
 go_enter Tryz.func120,Tryz.ntmps120;go_wp2_with (go_at_call 148;refine(C8 _ _ _).mono ?_;rintro e w' ⟨rfl,rfl⟩);go_ret;exact⟨rfl,rfl⟩
end Go.Proofs.YtdoplekppjkkpaaGreatDoor
end
section
namespace Go.Proofs.YtdoplekppjkkpaaGreatDoor
open Go.RowKit
theorem Sv (s:ByteArray) (w:World) (_hs:s.size<=4096):
 Calls Tryz.prog 93 #[.string s] w λe w'=>e= .returned (.int .i64 (Tk.Gf s.data.toList))∧w=w':=by
 have hle:=Tk.Xm s.data.toList;have hsz:=Lib.size_eq s;by_cases h:0<=Lib.indexByte s.data.toList 10
 ·have he:=Tk.aK4 _ h;rw[<- he];clear he hsz;go_enter Tryz.func93,Tryz.ntmps93;go_wp2_with (go_at_call 120;refine(Bb _ _ _).mono ?_;rintro e w' ⟨rfl,rfl⟩);go_ret;exact⟨rfl,rfl⟩
 ·have h':Lib.indexByte s.data.toList 10<0:=by omega
  have he:=Tk.aK5 _ h';rw[<- he,<- hsz];clear he hsz h;go_enter Tryz.func93,Tryz.ntmps93;go_wp2_with (go_at_call 120;refine(Bb _ _ _).mono ?_;rintro e w' ⟨rfl,rfl⟩);go_ret;exact⟨rfl,rfl⟩
theorem KJ (s:ByteArray) (w:World):
 Calls Tryz.prog 156 #[.string s,.int .u8 48] w λe w'=>e= .returned (.string ⟨(s.data.toList.dropWhile (· ==48)).toArray⟩)∧w=w':=by
 go_enter Tryz.func156,Tryz.ntmps156;go_wp2;go_loop [0] (λv=> ∃t:ByteArray,v= .string t∧Tk.qp t s) (λv=>Lib.strSize v)
 case atStart=>exact⟨s,rfl,Tk.qp.refl s⟩
 case round=>
  obtain⟨t,rfl,ht⟩:=hrel;by_cases h0:0<t.size
  ·by_cases he:t[0]=48
   ·have hb:((t[0].toNat:Int)==48)=true:=(by rw[he];rfl);have hst:=ht.step h0 he;have hz:(t.extract 1 t.size).size<t.size:=(by simp[ByteArray.size_extract];omega);have H:=ah he;clear he;go_wp2;go_round
    case rel=>exact⟨_,rfl,hst⟩
    case measure=>exact hz
   ·have hb:((t[0].toNat:Int)==48)=false:=(by rw[beq_eq_false_iff_ne];intro h;exact he (UInt8.toNat_inj.1 (by rw[show t[0].toNat=48 from agH];rfl)));have hd:=ht.done (λ_=>he);have H:=ah hd;clear hd he;go_wp2;go_ret;exact⟨congrArg (λx=>Ending.returned (.string x)) H.o,rfl⟩
  ·have hd:=ht.done (λh=>absurd h h0);have H:=ah hd;clear hd;go_wp2;go_ret;exact⟨congrArg (λx=>Ending.returned (.string x)) H.o,rfl⟩
theorem OP (s:ByteArray) (w:World) (h:s.toList.isEmpty=false):
 Calls Tryz.prog 149 #[.string s,.string ⟨#[48]⟩] w λe w'=>e= .returned (.string ⟨(s.data.toList.dropWhile (· ==48)).toArray⟩)∧w=w':=by
 have h2:s.toList≠[]:=by intro e;rw[e]at h;cases h
 go_enter Tryz.func149,Tryz.ntmps149;go_wp2_with (go_at_call 156;refine(KJ _ _).mono ?_;rintro e w' ⟨rfl,rfl⟩);go_ret;exact⟨rfl,rfl⟩
def zN (r:Nat×Nat×List UInt8):Value:= .tuple #[.agg #[.int .i64 r.2.1,.string ⟨r.2.2.toArray⟩,.int .i64 0],.int .i64 r.1]
theorem av9 (s:ByteArray) (h:0<s.size):s.data.toList.headD 0=s[0]:=by
 rw[Tk.vI s h];rfl
theorem aV0 (s:ByteArray) (h:0<s.size):((Tk.oF s.data.toList).length:Int)=if 2<=(s.size:Int)∧Tk.Eo.contains (s.extract 0 2).toList=true then 2 else if(0:Int)<=Lib.indexByte Tk.O9 s[0]then 1 else 0:=by
 have hl:=Lib.size_eq s;rw[Tk.F6,Lib.extract_toList];simp only[List.drop_zero,Nat.sub_zero];have h1:s.data.toList.take 1=[s[0]]:=by rw[Tk.vI s h];rfl
 rw[h1,Tk.Qx,Tk.EW];by_cases h2:Tk.Eo.contains (s.data.toList.take 2)=true
 ·have h3:(s.data.toList.take 2).length=2:=by
   have: ∀x,Tk.Eo.contains x=true->x.length=2:=by intro x hx;rw[List.contains_iff_mem]at hx;have: ∀y∈Tk.Eo,y.length=2:=agI;exact this x hx
   exact this _ h2
  have h4:2<=(s.size:Int):=by rw[List.length_take]at h3;omega
  rw[if_pos h2,if_pos ⟨h4,h2⟩,h3];rfl
 ·rw[if_neg h2];have h6: ¬(2<=(s.size:Int)∧Tk.Eo.contains (s.data.toList.take 2)=true):=λh=>h2 h.2;rw[if_neg h6];by_cases h5:(0:Int)<=Lib.indexByte Tk.O9 s[0]
  ·rw[if_pos h5,if_pos ahO];rfl
  ·rw[if_neg h5,if_neg ahO];rfl
theorem ay2 (s:ByteArray) (h:0<s.size):((Tk.oF s.data.toList).length:Int)=if decide (2<=(s.size:Int))&&(((s.extract 0 2).toList== [124,124])||(((s.extract 0 2).toList== [38,38])||(((s.extract 0 2).toList== [61,61])||(((s.extract 0 2).toList== [33,61])||(((s.extract 0 2).toList== [60,61])||((s.extract 0 2).toList== [62,61]))))))then 2 else if(0:Int)<=Lib.indexByte [60,62,43,45,42,47,37,33,61,40,41,91,93,123,125,44,59] s[0]then 1 else 0:=by
 rw[aV0 s h];have e:Tk.Eo.contains (s.extract 0 2).toList=(((s.extract 0 2).toList== [124,124])||(((s.extract 0 2).toList== [38,38])||(((s.extract 0 2).toList== [61,61])||(((s.extract 0 2).toList== [33,61])||(((s.extract 0 2).toList== [60,61])||((s.extract 0 2).toList== [62,61])))))):=by unfold Tk.Eo;simp only[List.contains_cons,List.contains_nil,Bool.or_false]
 rw[<- e];simp only[aP,decide_eq_true_eq];rfl
theorem RA (s:ByteArray) (w:World) (h:0<s.size):
 Calls Tryz.prog 125 #[.string s] w λe w'=>e= .returned (.int .i64 (Tk.oF s.data.toList).length)∧w=w':=by
 have H:=ah (ay2 s h);go_enter Tryz.func125,Tryz.ntmps125;go_wp2_with (go_at_call 120;refine(Bb _ _ _).mono ?_;rintro e w' ⟨rfl,rfl⟩)
 all_goals go_ret
 all_goals (refine⟨bV ?_,rfl⟩;rw[H.o];clear H;go_light;first|(exfalso;simp_all;done)|(simp only[*,Bool.or_true,Bool.true_or,Bool.or_false,Bool.and_true,Bool.and_false,decide_true,if_true,if_false,Bool.false_eq_true];done)|(rw[if_neg (by simp only[*,Bool.or_false,Bool.and_false,Bool.false_eq_true,not_false_eq_true])];first|(rw[if_pos (by assumption)];done)|(rw[if_neg agH];done))|(rw[if_neg agK];first|(rw[if_pos (by assumption)];done)|(rw[if_neg agH];done)))
theorem QA (s:ByteArray) (j:Nat) (h:j<s.data.toList.length):s.data.toList[j]=s[j]'(by rw[Lib.size_eq];exact h):=rfl
def Ga (p:UInt8->Bool) (s:ByteArray) (k:Nat):Prop:= ∀j (h:j<s.size),j<k->p s[j]=true
theorem Ga.step {p:UInt8->Bool} {s:ByteArray} {k:Nat} (h:Ga p s k) (hk:k<s.size) (hp:p s[k]=true):Ga p s (k+1):=by
 intro j hj hjk;by_cases e:j=k
 ·subst e;exact hp
 ·exact h j hj agH
theorem Ga.one {p:UInt8->Bool} {s:ByteArray} (h:0<s.size) (hp:p s[0]=true):Ga p s 1:=by
 intro j hj h1;obtain rfl:j=0:=agH
 exact hp
theorem Ga.len {p:UInt8->Bool} {s:ByteArray} {k:Nat} (h:Ga p s k) (hk:k<=s.size) (hp: ∀h:k<s.size,p s[k]=false):(s.data.toList.takeWhile p).length=k:=by
 refine Tk.Gm p _ k adq (λj hj hjk=> ?_) (λhj=> ?_)
 ·rw[QA];exact h j _ hjk
 ·rw[QA];exact hp _
theorem FD {p:UInt8->Bool} {s:ByteArray} {k:Nat} (h:(s.data.toList.takeWhile p).length=k):s.extract 0 k=⟨(s.data.toList.takeWhile p).toArray⟩:=by
 rw[Lib.extract_upto,<- h,Tk.take_takeWhile]
theorem LB {p:UInt8->Bool} {s:ByteArray} {k:Nat} (h:(s.data.toList.takeWhile p).length=k):(s.extract 0 k).data.toList=s.data.toList.takeWhile p:=by
 rw[FD h]
theorem Wx (l:List UInt8) (k:Nat) (h:(l.takeWhile Tk.lX).length=k) (h12:12<k):Tk.uR l=(2,0,[]):=by
 unfold Tk.uR;rw[if_pos agH]
theorem aj1 (l:List UInt8) (k:Nat) (h:(l.takeWhile Tk.lX).length=k) (h12: ¬12<k) (hk:Tk.vP (l.takeWhile Tk.lX)=true):Tk.uR l=(0,3,l.takeWhile Tk.lX):=by
 unfold Tk.uR;rw[if_neg agH,if_pos hk]
theorem aj2 (l:List UInt8) (k:Nat) (h:(l.takeWhile Tk.lX).length=k) (h12: ¬12<k) (hk:Tk.vP (l.takeWhile Tk.lX)=false):Tk.uR l=(0,1,l.takeWhile Tk.lX):=by
 unfold Tk.uR;rw[if_neg agH,if_neg (by rw[hk];decide)]
theorem aj3 (s:ByteArray) (w:World) (hs:s.size<=4096) (h0:0<s.size) (hL:Tk.BI s[0]=true) (eG:dW w):
 Calls Tryz.prog 122 #[.string s] w λe w'=>e= .returned (zN (Tk.uR s.data.toList))∧Below w.heap.size w w':=by
 have hI0:=R8 _ hL;have HL:=ah hL;clear hL;go_enter Tryz.func122,Tryz.ntmps122;go_wp2;go_loop [4] (λi=> ∃k:Nat,1<=k∧k<=s.size∧i= .int .i64 k∧Ga Tk.lX s k) (λi=>s.size -(intOf i).toNat)
 case atStart=>exact⟨1,aB _,h0,rfl,Ga.one h0 hI0⟩
 case round=>
  obtain⟨k,hk1,hk,rfl,hin⟩:=hrel;clear hI0;by_cases hc: ∃h:k<s.size,Tk.lX s[k]=true
  ·obtain⟨hlt,hi⟩:=hc;have hst:=hin.step hlt hi;rcases DU s[k]with⟨_,h1⟩|⟨_,h1,h2⟩|⟨_,h1,h2,h3⟩|⟨h4,_⟩
   case inr.inr.inr=>rw[hi]at h4;cases h4
   all_goals
    clear hi;go_wp2_with (first|(go_at_call 121;refine(oD _ _).mono ?_;rintro e w' ⟨rfl,rfl⟩)|(go_at_call 123;refine(nZ _ _).mono ?_;rintro e w' ⟨rfl,rfl⟩));go_round
    case rel=>exact⟨k+1,agH,agH,agL,hst⟩
    case measure=>simp[intOf];omega
  ·have hlen:(s.data.toList.takeWhile Tk.lX).length=k:=hin.len hk (λh=>abg);have ed:s.data.toList.take k=s.data.toList.takeWhile Tk.lX:=by rw[<- hlen,Tk.take_takeWhile]
   have EX:=ah (FD hlen);have HR:aj ((12<k∧Tk.uR s.data.toList=(2,0,[]))∨(¬12<k∧Tk.vP (s.data.toList.take k)=true∧Tk.uR s.data.toList=(0,3,s.data.toList.takeWhile Tk.lX))∨
    (¬12<k∧Tk.vP (s.data.toList.take k)=false∧Tk.uR s.data.toList=(0,1,s.data.toList.takeWhile Tk.lX))):=by
    apply ah;rw[ed];by_cases h12:12<k
    ·exact .inl ⟨h12,Wx _ k hlen h12⟩
    ·cases hK:Tk.vP (s.data.toList.takeWhile Tk.lX)
     ·exact .inr (.inr ⟨h12,rfl,aj2 _ k hlen h12 hK⟩)
     ·exact .inr (.inl ⟨h12,rfl,aj1 _ k hlen h12 hK⟩)
   have HC:aj (k<s.size->∃h:k<s.size,Tk.lX s[k]=false):=ah λh=>⟨h,abg⟩;clear hc ed hlen;have go: ∀Z:Prop,((hlt:k<s.size)->Tk.tO (s[k].toNat:Int)=false->Tk.rV (s[k].toNat:Int)=false->((s[k].toNat:Int)==95)=false->Z)->(¬k<s.size->Z)->Z:=by
    intro Z h1 h2;by_cases hlt:k<s.size
    ·obtain⟨_,hi⟩:=HC.o hlt;rcases DU s[k]with⟨h,_⟩|⟨h,_⟩|⟨h,_⟩|⟨_,ha,hb,hcc⟩
     ·rw[hi]at h;cases h
     ·rw[hi]at h;cases h
     ·rw[hi]at h;cases h
     ·exact h1 hlt ha hb hcc
    ·exact h2 hlt
   rcases HR.o with⟨h12,hR⟩|⟨h12,hK,hR⟩|⟨h12,hK,hR⟩
   all_goals have HRR:=ah hR;clear hR HR;refine go _ (λhlt t1 t2 t3=> ?_) (λhlt=> ?_)
   all_goals clear go;go_wp2_with (first|(go_at_call 121;refine(oD _ _).mono ?_;rintro e w' ⟨rfl,rfl⟩)|(go_at_call 123;refine(nZ _ _).mono ?_;rintro e w' ⟨rfl,rfl⟩)|(go_at_call 55;refine(Bc _ _ (eG.alloc _)).mono ?_;rintro e w' ⟨rfl,rfl⟩))
   ·exact bodyPost_ret (v:= .tuple #[.agg #[.int .i64 0,.string ⟨#[]⟩,.int .i64 0],.int .i64 2]) acH rfl ⟨by rw[HRR.o];rfl,(au _ _).alloc (aB _) _⟩
   ·exact bodyPost_ret (v:= .tuple #[.agg #[.int .i64 0,.string ⟨#[]⟩,.int .i64 0],.int .i64 2]) acH rfl ⟨by rw[HRR.o];rfl,(au _ _).alloc (aB _) _⟩
   ·exact bodyPost_ret (v:= .tuple #[.agg #[.int .i64 3,.string (s.extract 0 k),.int .i64 0],.int .i64 0]) acH rfl ⟨afH,(au _ _).alloc (aB _) _⟩
   ·exact bodyPost_ret (v:= .tuple #[.agg #[.int .i64 3,.string (s.extract 0 k),.int .i64 0],.int .i64 0]) acH rfl ⟨afH,(au _ _).alloc (aB _) _⟩
   ·exact bodyPost_ret (v:= .tuple #[.agg #[.int .i64 1,.string (s.extract 0 k),.int .i64 0],.int .i64 0]) acH rfl ⟨afH,(au _ _).alloc (aB _) _⟩
   ·exact bodyPost_ret (v:= .tuple #[.agg #[.int .i64 1,.string (s.extract 0 k),.int .i64 0],.int .i64 0]) acH rfl ⟨afH,(au _ _).alloc (aB _) _⟩
end Go.Proofs.YtdoplekppjkkpaaGreatDoor
end
section
namespace Go.Proofs.YtdoplekppjkkpaaGreatDoor
open Go.RowKit
def FW (s:ByteArray):ByteArray:=⟨(s.data.toList.dropWhile (· ==48)).toArray⟩
theorem Td (s:ByteArray):(FW s).toList=s.data.toList.dropWhile (· ==48):=by unfold FW;rw[Lib.toList_data]
theorem Zg (s:ByteArray):(FW s).size=(s.data.toList.dropWhile (· ==48)).length:=by unfold FW;exact Lib.size_mk _
theorem Vd (s:ByteArray) (w:World) (h:s.toList.isEmpty=false):
 Calls Tryz.prog 149 #[.string s,.string ⟨#[48]⟩] w λe w'=>e= .returned (.string (FW s))∧w=w':=OP s w h
def Qf (z:ByteArray) (R:Nat×Nat×List UInt8) (k:Nat) (l:List UInt8):Prop:=
 (19<z.size∧R=(3,0,[]))∨(z.size<19∧R=(0,2,l))∨
 (z.size=19∧Op.bytesLess z.toList [57,50,50,51,51,55,50,48,51,54,56,53,52,55,55,53,56,48,55]=true∧R=(0,2,l))∨
 (z.size=19∧Op.bytesLess z.toList [57,50,50,51,51,55,50,48,51,54,56,53,52,55,55,53,56,48,55]=false∧(z.toList== [57,50,50,51,51,55,50,48,51,54,56,53,52,55,55,53,56,48,55])=true∧R=(0,2,l))∨
 (z.size=19∧Op.bytesLess z.toList [57,50,50,51,51,55,50,48,51,54,56,53,52,55,55,53,56,48,55]=false∧(z.toList== [57,50,50,51,51,55,50,48,51,54,56,53,52,55,55,53,56,48,55])=false∧R=(3,0,[]))∧0<=k
theorem Li (p:UInt8->Bool): ∀l:List UInt8,(l.takeWhile p).all p=true
 | []=>rfl
 |c::l=>by
  rw[List.takeWhile_cons];split
  ·rename_i h;rw[List.all_cons,h,Li p l];rfl
  ·rfl
theorem af6 (l:List UInt8) (h:(l.dropWhile Tk.mI).head?.any Tk.lX=true):Tk.Dc l=(3,0,[]):=by
 unfold Tk.Dc;rw[h];rfl
theorem aT0 (s:ByteArray) (k:Nat) (hlen:(s.data.toList.takeWhile Tk.mI).length=k) (h:(s.data.toList.dropWhile Tk.mI).head?.any Tk.lX=false):
 Qf (FW (s.extract 0 k)) (Tk.Dc s.data.toList) k (s.data.toList.takeWhile Tk.mI):=by
 have ha:=Li Tk.mI s.data.toList;unfold Qf Tk.Dc;rw[Td,Zg,LB hlen,h,Bool.false_or];generalize s.data.toList.takeWhile Tk.mI=d at *;rcases Nat.lt_trichotomy 19 (d.dropWhile (· ==48)).length with h1|h1|h1
 ·left;refine⟨h1,?_⟩;rw[Tk.VU d ha h1];rfl
 ·right;right;have hq:=Tk.af5 d ha h1.symm;unfold Tk.great at hq;generalize Op.bytesLess (d.dropWhile (· ==48)) [57,50,50,51,51,55,50,48,51,54,56,53,52,55,55,53,56,48,55]=a at *;generalize (d.dropWhile (· ==48)== [57,50,50,51,51,55,50,48,51,54,56,53,52,55,55,53,56,48,55])=b at *;rw[<- hq];cases a <;> cases b <;> simp[h1.symm]
 ·right;left;refine⟨h1,?_⟩;rw[Tk.SX d ha h1];rfl
theorem Ub {p q:UInt8->Bool} {s:ByteArray} {k:Nat} (h:(s.data.toList.takeWhile p).length=k) (hlt:k<s.size):(s.data.toList.dropWhile p).head?.any q=q s[k]:=by
 have e:s.data.toList.dropWhile p=s.data.toList.drop k:=by rw[<- h,Tk.wK]
 have hl:k<s.data.toList.length:=adp
 rw[e,List.drop_eq_getElem_cons hl];rfl
theorem QO {p q:UInt8->Bool} {s:ByteArray} {k:Nat} (h:(s.data.toList.takeWhile p).length=k) (hlt: ¬k<s.size):(s.data.toList.dropWhile p).head?.any q=false:=by
 have e:s.data.toList.dropWhile p=s.data.toList.drop k:=by rw[<- h,Tk.wK]
 rw[e,List.drop_of_length_le (by rw[<- Lib.size_eq];omega)];rfl
theorem VW (s:ByteArray) (w:World) (hs:s.size<=4096) (h0:0<s.size) (hD:Tk.mI s[0]=true):
 Calls Tryz.prog 124 #[.string s] w λe w'=>e= .returned (zN (Tk.Dc s.data.toList))∧Below w.heap.size w w':=by
 have hin1:Ga Tk.mI s 1:=Ga.one h0 hD;clear hD;go_enter Tryz.func124,Tryz.ntmps124;go_wp2;go_loop [4] (λi=> ∃k:Nat,1<=k∧k<=s.size∧i= .int .i64 k∧Ga Tk.mI s k) (λi=>s.size -(intOf i).toNat)
 case atStart=>exact⟨1,aB _,h0,rfl,hin1⟩
 case round=>
  obtain⟨k,hk1,hk,rfl,hin⟩:=hrel;clear hin1;by_cases hc: ∃h:k<s.size,Tk.mI s[k]=true
  ·obtain⟨hlt,hi⟩:=hc;have hst:=hin.step hlt hi;have h1:Tk.rV (s[k].toNat:Int)=true:=hi;clear hi;go_wp2_with (go_at_call 123;refine(nZ _ _).mono ?_;rintro e w' ⟨rfl,rfl⟩);go_round
   case rel=>exact⟨k+1,agH,agH,agL,hst⟩
   case measure=>simp[intOf];omega
  ·have hlen:(s.data.toList.takeWhile Tk.mI).length=k:=hin.len hk (λh=>abg);have EX:=ah (FD hlen);have hne:(s.extract 0 k).toList.isEmpty=false:=by
    rw[Lib.extract_toList];have:0<s.data.toList.length:=(by rw[<- Lib.size_eq];exact h0);cases hd:s.data.toList with
    |nil=>rw[hd]at this;simp at this
    |cons a r=>simp;omega
   by_cases hA: ∃h:k<s.size,Tk.lX s[k]=true
   ·obtain⟨hlt,hi⟩:=hA;have h2:Tk.rV (s[k].toNat:Int)=false:=(by show Tk.mI s[k]=false;rw[Bool.eq_false_iff];exact λe=>hc ⟨hlt,e⟩);have HR:aj (Tk.Dc s.data.toList=(3,0,[])):=ah (af6 _ (by rw[Ub hlen hlt];exact hi));clear hc hlen;rcases DU s[k]with⟨_,h1⟩|⟨_,_,h3⟩|⟨_,h1,_,h3⟩|⟨h4,_⟩
    case inr.inr.inr=>rw[hi]at h4;cases h4
    case inr.inl=>rw[h2]at h3;cases h3
    all_goals clear hi;go_wp2_with (first|(go_at_call 121;refine(oD _ _).mono ?_;rintro e w' ⟨rfl,rfl⟩)|(go_at_call 123;refine(nZ _ _).mono ?_;rintro e w' ⟨rfl,rfl⟩));exact bodyPost_ret (v:= .tuple #[.agg #[.int .i64 0,.string ⟨#[]⟩,.int .i64 0],.int .i64 3]) acY rfl ⟨by rw[HR.o];rfl,(au _ _).alloc (aB _) _⟩
   ·have HN:aj (Qf (FW (s.extract 0 k)) (Tk.Dc s.data.toList) k (s.data.toList.takeWhile Tk.mI)):=by
     refine ah (aT0 s k hlen ?_);by_cases hlt:k<s.size
     ·rw[Ub hlen hlt,Bool.eq_false_iff];exact λe=>hA ⟨hlt,e⟩
     ·exact QO hlen hlt
    have go: ∀Z:Prop,((hlt:k<s.size)->Tk.tO (s[k].toNat:Int)=false->Tk.rV (s[k].toNat:Int)=false->((s[k].toNat:Int)==95)=false->Z)->(¬k<s.size->Z)->Z:=by
     intro Z h1 h2;by_cases hlt:k<s.size
     ·rcases DU s[k]with⟨h,_⟩|⟨h,_⟩|⟨h,_⟩|⟨_,ha,hb,hcc⟩
      ·exact absurd ⟨hlt,h⟩ hA
      ·exact absurd ⟨hlt,h⟩ hA
      ·exact absurd ⟨hlt,h⟩ hA
      ·exact h1 hlt ha hb hcc
     ·exact h2 hlt
    clear hc hA hlen;rcases HN.o with⟨z1,hR⟩|⟨z1,hR⟩|⟨z1,z2,hR⟩|⟨z1,z2,z3,hR⟩|⟨⟨z1,z2,z3,hR⟩,_⟩
    all_goals have HRR:=ah hR;have zb:(((FW (s.extract 0 k)).size:Int)==19)=decide ((FW (s.extract 0 k)).size=19):=aes;clear hR HN;refine go _ (λhlt t1 t2 t3=> ?_) (λhlt=> ?_)
    all_goals clear go;go_wp2_with (first|(go_at_call 121;refine(oD _ _).mono ?_;rintro e w' ⟨rfl,rfl⟩)|(go_at_call 123;refine(nZ _ _).mono ?_;rintro e w' ⟨rfl,rfl⟩)|(go_at_call 149;refine(Vd _ _ hne).mono ?_;rintro e w' ⟨rfl,rfl⟩))
    all_goals first
     |exact bodyPost_ret (v:= .tuple #[.agg #[.int .i64 0,.string ⟨#[]⟩,.int .i64 0],.int .i64 3]) acY rfl ⟨by rw[HRR.o];rfl,(au _ _).alloc (aB _) _⟩
     |exact bodyPost_ret (v:= .tuple #[.agg #[.int .i64 2,.string (s.extract 0 k),.int .i64 0],.int .i64 0]) acY rfl ⟨afH,(au _ _).alloc (aB _) _⟩
end Go.Proofs.YtdoplekppjkkpaaGreatDoor
end
section
namespace Go.Proofs.YtdoplekppjkkpaaGreatDoor
open Go.RowKit
theorem ap0 {W w1:World} (hb:Below W.heap.size W w1):(∀b o,b<W.heap.size->w1.cell? ⟨b,o,none⟩=W.cell? ⟨b,o,none⟩)∧(∀b o,b<W.heap.size->w1.frozen? ⟨b,o,none⟩=W.frozen? ⟨b,o,none⟩):=
 ⟨λb o h=>hb.cell (p:=⟨b,o,none⟩) h,λb o h=>hb.frozen (p:=⟨b,o,none⟩) h⟩
theorem aZ6 (l:List UInt8):(Tk.oF l).length<=l.length:=by
 rw[Tk.F6];split
 ·rw[List.length_take];omega
 ·split
  ·rw[List.length_take];omega
  ·simp
theorem ay3 (l:List UInt8):l.take (Tk.oF l).length=Tk.oF l:=by
 rw[Tk.F6];split
 ·rw[List.length_take,List.take_eq_take_iff];omega
 ·split
  ·rw[List.length_take,List.take_eq_take_iff];omega
  ·rfl
theorem Oe (s:ByteArray) (w:World) (hs:s.size<=4096) (h0:0<s.size) (eG:dW w):
 Calls Tryz.prog 94 #[.string s] w λe w'=>e= .returned (zN (Tk.first s.data.toList))∧Below w.heap.size w w':=by
 have hhd:=av9 s h0;cases hL:Tk.BI s[0]
 ·have h1:Tk.tO (s[0].toNat:Int)=false:=hL;cases hD:Tk.mI s[0]
  ·have h2:Tk.rV (s[0].toNat:Int)=false:=hD;have HR:aj (Tk.first s.data.toList=Tk.Nb s.data.toList):=by apply ah;unfold Tk.first;rw[hhd,hL,hD];rfl
   clear hhd hL hD;have HE:aj (s.extract 0 (Tk.oF s.data.toList).length=⟨(Tk.oF s.data.toList).toArray⟩):=by apply ah;rw[Lib.extract_upto,ay3]
   have hle:(Tk.oF s.data.toList).length<=s.size:=by rw[Lib.size_eq];exact aZ6 _
   have HS:aj (Tk.Nb s.data.toList=if(Tk.oF s.data.toList).isEmpty then(3,0,[])else(0,4,Tk.oF s.data.toList)):=ah rfl;by_cases hn:(Tk.oF s.data.toList).length=0
   ·have hn0:Tk.oF s.data.toList=[]:=List.eq_nil_of_length_eq_zero hn;have HS2:aj (Tk.Nb s.data.toList=(3,0,[])):=(by apply ah;rw[HS.o,hn0];rfl);have hb0:(((Tk.oF s.data.toList).length:Int)==0)=true:=(by rw[hn];rfl);clear HS HE hn hn0;go_enter Tryz.func94,Tryz.ntmps94;go_wp2_with (first|(go_at_call 121;refine(oD _ _).mono ?_;rintro e w' ⟨rfl,rfl⟩)|(go_at_call 123;refine(nZ _ _).mono ?_;rintro e w' ⟨rfl,rfl⟩)|(go_at_call 125;refine(RA _ _ h0).mono ?_;rintro e w' ⟨rfl,rfl⟩));exact bodyPost_ret (v:= .tuple #[.agg #[.int .i64 0,.string ⟨#[]⟩,.int .i64 0],.int .i64 3]) adK rfl ⟨by rw[HR.o,HS2.o];rfl,(au _ _).alloc (aB _) _⟩
   ·have HS2:aj (Tk.Nb s.data.toList=(0,4,Tk.oF s.data.toList)):=(by apply ah;rw[HS.o,if_neg];intro h;exact hn (by rw[List.isEmpty_iff]at h;rw[h];rfl));have hb0:(((Tk.oF s.data.toList).length:Int)==0)=false:=acy;clear HS;go_enter Tryz.func94,Tryz.ntmps94;go_wp2_with (first|(go_at_call 121;refine(oD _ _).mono ?_;rintro e w' ⟨rfl,rfl⟩)|(go_at_call 123;refine(nZ _ _).mono ?_;rintro e w' ⟨rfl,rfl⟩)|(go_at_call 125;refine(RA _ _ h0).mono ?_;rintro e w' ⟨rfl,rfl⟩));exact bodyPost_ret (v:= .tuple #[.agg #[.int .i64 4,.string (s.extract 0 (Tk.oF s.data.toList).length),.int .i64 0],.int .i64 0]) adK rfl ⟨by rw[HR.o,HS2.o,HE.o];rfl,(au _ _).alloc (aB _) _⟩
  ·have h2:Tk.rV (s[0].toNat:Int)=true:=hD;have HR:aj (Tk.first s.data.toList=Tk.Dc s.data.toList):=by apply ah;unfold Tk.first;rw[hhd,hL,hD];rfl
   clear hhd;generalize hr:Tk.Dc s.data.toList=r at *;have Hr:=ah hr;clear hr;go_enter Tryz.func94,Tryz.ntmps94;go_wp2_with (first|(go_at_call 121;refine(oD _ _).mono ?_;rintro e w' ⟨rfl,rfl⟩)|(go_at_call 123;refine(nZ _ _).mono ?_;rintro e w' ⟨rfl,rfl⟩));refine(VW s _ hs h0 hD).mono ?_;rintro e w1 ⟨rfl,hb⟩;rw[Hr.o];obtain⟨hc,hf⟩:=ap0 hb;have hz:w.heap.size<w1.heap.size:=aeC
   unfold zN;go_wp2;refine bodyPost_ret (v:=zN r) acj rfl ⟨by rw[HR.o],?_⟩;exact(((((au _ _).alloc (aB _) _).trans (hb.mono agJ)).setCell agJ _).setCell agJ _).setCell agJ _
 ·have HR:aj (Tk.first s.data.toList=Tk.uR s.data.toList):=by apply ah;unfold Tk.first;rw[hhd,if_pos hL]
  have h1:Tk.tO (s[0].toNat:Int)=true:=hL;clear hhd;generalize hr:Tk.uR s.data.toList=r at *;have Hr:=ah hr;clear hr;go_enter Tryz.func94,Tryz.ntmps94;go_wp2_with (first|(go_at_call 121;refine(oD _ _).mono ?_;rintro e w' ⟨rfl,rfl⟩)|(go_at_call 123;refine(nZ _ _).mono ?_;rintro e w' ⟨rfl,rfl⟩));refine(aj3 s _ hs h0 hL (eG.alloc _)).mono ?_;rintro e w1 ⟨rfl,hb⟩;rw[Hr.o];obtain⟨hc,hf⟩:=ap0 hb;have hz:w.heap.size<w1.heap.size:=aeC
  unfold zN;go_wp2;refine bodyPost_ret (v:=zN r) acj rfl ⟨by rw[HR.o],?_⟩;exact(((((au _ _).alloc (aB _) _).trans (hb.mono agJ)).setCell agJ _).setCell agJ _).setCell agJ _
end Go.Proofs.YtdoplekppjkkpaaGreatDoor
end
section
namespace Go.Proofs.YtdoplekppjkkpaaGreatDoor
open Go.RowKit
theorem Tryz.infoTok:(Tryz.prog.info? 158).map (λi=>(i.zero,i.size,i.bytes))=some (some (.agg #[.int .i64 0,.string ⟨#[]⟩,.int .i64 0]),3,32):=agG
def Qm (w:World) (r:List Tk.Tok×Nat×Nat) (e:Ending) (w':World):Prop:=
 ∃v:Value,e= .returned (.tuple #[v,.int .i64 r.2.1,.int .i64 r.2.2])∧w'.ownsRow w.heap.size 158 3 v r.1.length (Tk.cellsOf r.1)∧Below w.heap.size w w'
theorem own_below {w w':World} {base:Nat} {e:TypeId} {size:Nat} {v:Value} {n:Nat} {xs:List Value} (h:w.ownsRow base e size v n xs) (hb:Below w.heap.size w w'):w'.ownsRow base e size v n xs:=
 h.kept (row:=none) ⟨hb.os,hb.tape,hb.output,hb.size,λi hi _=>hb.block i hi⟩ acS
theorem ai6 {w1 w2:World} {base:Nat} {e:TypeId} {size:Nat} {u:Value} {n:Nat} {xs:List Value} (h:w1.ownsRow base e size u n xs) (cs:Array Value) (t:TypeId) (o:Obj)
 (hg:((w1.alloc (.cells cs t)).alloc o).grownBy w2 u.ownBlock) (j:Nat):w2.cell? ⟨w1.heap.size,j,none⟩=cs[j]?:=by
 have e1:w2.heap[w1.heap.size]? =((w1.alloc (.cells cs t)).alloc o).heap[w1.heap.size]?:=hg.block _ agK (λe=>by have:=(h.lt _ e.symm).2;omega);have e2:((w1.alloc (.cells cs t)).alloc o).heap[w1.heap.size]? =some (.cells cs t (0,0)):=by rw[Below.heap_alloc _ _ _ agJ];exact heap_alloc_new w1 _
 exact cell_of_row w2 w1.heap.size j cs t (0,0) (e1.trans e2)
theorem Z6 {B:Nat} {w w1 w2:World} {e:TypeId} {size:Nat} {u:Value} {n:Nat} {xs:List Value} (h:w1.ownsRow B e size u n xs) (hb:Below B w w1) (hB:B<=w1.heap.size) (o1 o2:Obj)
 (hg:((w1.alloc o1).alloc o2).grownBy w2 u.ownBlock):Below B w w2:=
 ((hb.alloc hB o1).alloc agK o2).grown hg agK (λk hk=>(h.lt _ hk).1)
def aU1 (s:ByteArray):Bool:=[47,47].isPrefixOf s.data.toList
def Vi (s:ByteArray):Nat:=Tk.Gf s.data.toList
theorem ze (s:ByteArray) (w:World):
 Calls Tryz.prog 92 #[.string s,.string ⟨#[47,47]⟩] w λe w'=>e= .returned (.bool (aU1 s))∧w=w':=OL s _ w
theorem Xn (s:ByteArray) (w:World) (hs:s.size<=4096):
 Calls Tryz.prog 93 #[.string s] w λe w'=>e= .returned (.int .i64 (Vi s))∧w=w':=Sv s w hs
theorem E8 (s:ByteArray) (k:Nat):(s.extract k s.size).data.toList=s.data.toList.drop k:=by
 rw[Lib.extract_data,List.take_of_length_le (by rw[List.length_drop,Lib.size_eq];exact aB _)]
theorem aZ2 (c:UInt8) (h:c≠10):((c.toNat:Int)==10)=false:=by
 rw[beq_eq_false_iff_ne];intro e;exact h (UInt8.toNat_inj.1 (by rw[show c.toNat=10 from agH];rfl))
theorem Sn (c:UInt8):((c=32∨c=9∨c=13)∧(((c.toNat:Int)==32)=true∨(((c.toNat:Int)==32)=false∧((c.toNat:Int)==9)=true)∨(((c.toNat:Int)==32)=false∧((c.toNat:Int)==9)=false∧((c.toNat:Int)==13)=true)))∨
 (¬(c=32∨c=9∨c=13)∧((c.toNat:Int)==32)=false∧((c.toNat:Int)==9)=false∧((c.toNat:Int)==13)=false):=by
 by_cases h1:c=32
 ·subst h1;left;exact⟨.inl rfl,.inl rfl⟩
 ·by_cases h2:c=9
  ·subst h2;left;exact⟨.inr (.inl rfl),.inr (.inl ⟨rfl,rfl⟩)⟩
  ·by_cases h3:c=13
   ·subst h3;left;exact⟨.inr (.inr rfl),.inr (.inr ⟨rfl,rfl,rfl⟩)⟩
   ·right;have nb: ∀x:UInt8,c≠x->((c.toNat:Int)==(x.toNat:Int))=false:=(by intro x h;rw[beq_eq_false_iff_ne];intro e;exact h (UInt8.toNat_inj.1 agH));exact⟨by simp[h1,h2,h3],nb 32 h1,nb 9 h2,nb 13 h3⟩
theorem ZT (s:ByteArray) (w:World) (eG:dW w) (hm:s.size<=maxLen):
 Calls Tryz.prog 67 #[.string s] w (Qm w (Tk.scan s.data.toList)):=by
 have hsz:=Lib.size_eq s;unfold maxLen at hm;by_cases hbig:4096<s.size
 ·have HR:aj (Tk.scan s.data.toList=([],2,0)):=by apply ah;unfold Tk.scan;rw[if_pos agH]
  clear hsz;go_enter Tryz.func67,Tryz.ntmps67;go_wp2
  go_ret3
  rw[HR.o];exact⟨_,rfl,World.ownsRow_nil _ _ _ _,au _ _⟩
 ·have HR:aj (Tk.scan s.data.toList=Tk.mX s.data.toList.length s.data.toList 1 []):=by apply ah;unfold Tk.scan;rw[if_neg agH]
  have hst:=Tk.SP.start s.data.toList;rw[<- HR.o]at hst;generalize Tk.scan s.data.toList=R at *;clear HR hsz;obtain⟨i0,hi,hz0,hz1,hz2⟩:=info_parts Tryz.infoTok;have hs:s.size<=4096:=agH
  clear hbig hm;go_enter Tryz.func67,Tryz.ntmps67;go_wp2;go_loopw [5,6,7] (λv ln i wr=> ∃(k line:Nat) (acc:List Tk.Tok),i= .int .i64 k∧ln= .int .i64 line∧Tk.SP s.data.toList R k line acc∧
   wr.ownsRow w.heap.size 158 3 v acc.length (Tk.cellsOf acc)∧Below w.heap.size w wr) (λ_ _ i _=>s.size -(intOf i).toNat)
  case atStart=>exact⟨0,1,[],rfl,rfl,hst,World.ownsRow_nil _ _ _ _,au _ _⟩
  case round=>
   obtain⟨k,line,acc,rfl,rfl,hsp,hown,hbel⟩:=hrel;clear hst;have hk:k<=s.size:=by rw[Lib.size_eq];exact hsp.1
   have bL7:line<=k+1:=hsp.2.1;by_cases hlt:k<s.size
   ·have hlt':k<s.data.toList.length:=adp;have hget:s.data.toList[k]=s[k]:=rfl;by_cases h10:s[k]=10
    ·have hnx:=hsp.nl hlt' h10;have hb:((s[k].toNat:Int)==10)=true:=(by rw[h10];rfl);clear h10 hget;go_wp2;go_roundw
     case rel=>exact⟨k+1,line+1,acc,agL,agL,hnx,hown,hbel⟩
     case measure=>simp[intOf];omega
    ·have hb:=aZ2 _ h10;rcases Sn s[k]with⟨hbl,hcase⟩|⟨hbl,t1,t2,t3⟩
     ·have hnx:=hsp.blank hlt' hbl;clear h10 hget hbl;rcases hcase with t1|⟨t1,t2⟩|⟨t1,t2,t3⟩
      all_goals
       go_wp2;go_roundw
       case rel=>exact⟨k+1,line,acc,agL,rfl,hnx,hown,hbel⟩
       case measure=>simp[intOf];omega
     ·have hts:(s.extract k s.size).size=s.size -k:=agJ;have aO9:dW wr:=eG.below hbel eG.lt;cases hp:aU1 (s.extract k s.size)
      ·have hp':[47,47].isPrefixOf (s.data.toList.drop k)=false:=(by rw[<- E8];exact hp);have hte:(s.extract k s.size).size<=4096:=agH;have ht0:0<(s.extract k s.size).size:=agH;have hok:=λh4=>hsp.tok hlt' h10 hbl hp' h4;have ab9:=λh4=>hsp.err hlt' h10 hbl hp' h4;have Hd:=ah (E8 s k);clear h10 hget hbl hp' hts;generalize hr:Tk.first (s.data.toList.drop k)=r at *;have Hr:=ah hr;clear hr;obtain⟨en,kind,text⟩:=r;by_cases he:en=0
       ·subst he;obtain⟨hnx,htl⟩:=hok rfl;simp only[]at hnx htl;clear hok ab9;have hle:k+text.length<=s.size:=abO;have hacc:acc.length<=4096:=(by have:=hsp.2.2.1;omega);have hth:(⟨text.toArray⟩:ByteArray).size=text.length:=Lib.size_mk _;go_wp2_with (go_at_call 92;refine(ze _ _).mono ?_;rintro e w' ⟨rfl,rfl⟩);refine(Oe _ _ hte ht0 aO9).mono ?_;rintro e w1 ⟨rfl,hb1⟩;rw[Hd.o,Hr.o];unfold zN;have hown1:=own_below hown hb1;have hbs:=hbel.size;have bO4:=hb1.size;go_wp2_with (at_builtin;refine wpList_append_own _ rfl _ _ 132 rfl w.heap.size 158 i0 _ 3 32 Tryz.underlying132 hi hz0 hz1 hz2 rfl agI _ _ _ rfl ((hown1.alloc _).alloc _) ⟨w1.heap.size+1,0,none⟩ 1 1 [.int .i64 kind,.string ⟨text.toArray⟩,.int .i64 line] rfl rfl ?c1 ?c2 ?c3 ?c4 ?c5 ?_)
        case c1=>
         intro j u hj
         match j,hj with
         |0,hj=>simp at hj;subst hj;simp[Addr.add]
         |1,hj=>simp at hj;subst hj;simp[Addr.add]
         |2,hj=>simp at hj;subst hj;simp[Addr.add]
        case c2=>intro u hu;simp at hu;rcases hu with rfl|rfl|rfl <;> rfl
        case c3=>unfold maxLen;omega
        case c4=>omega
        case c5=>simp;omega
        intro v' w2 hown2 hgrow2 _;have hcell:=ai6 hown1 _ _ _ hgrow2 1;have aX1:=Z6 hown1 (hbel.trans (hb1.mono hbs)) agH _ _ hgrow2;have hown3:w2.ownsRow w.heap.size 158 3 v' (acc++[(⟨kind,text,line⟩:Tk.Tok)]).length (Tk.cellsOf (acc++[(⟨kind,text,line⟩:Tk.Tok)])):=(by rw[Tk.Qw,Tk.cells_one,aA];exact hown2);clear hown2 hgrow2 hown1 hown hb1 hbel hi hz0 hz1 hz2;simp only[List.getElem?_toArray,List.getElem?_cons_succ,List.getElem?_cons_zero]at hcell;go_wp2;go_roundw
        case rel=>exact⟨k+text.length,line,_,agL,rfl,hnx,hown3,aX1⟩
        case measure=>simp[intOf];omega
       ·have hR:=ah (ab9 he);have he1:((en:Int)==0)=false:=acy;have he2:((en:Int) != 0)=true:=(by rw[bne_iff_ne];omega);clear hok ab9 he;go_wp2_with (go_at_call 92;refine(ze _ _).mono ?_;rintro e w' ⟨rfl,rfl⟩);refine(Oe _ _ hte ht0 aO9).mono ?_;rintro e w1 ⟨rfl,hb1⟩;rw[Hd.o,Hr.o];unfold zN;have hbs:=hbel.size;go_wp2
        go_ret3
        rw[hR.o];exact⟨_,rfl,World.ownsRow_nil _ _ _ _,(hbel.trans (hb1.mono hbs)).alloc (by have:=hb1.size;omega) _⟩
      ·have hp':[47,47].isPrefixOf (s.data.toList.drop k)=true:=(by rw[<- E8];exact hp);obtain⟨hnx,hc1⟩:=hsp.Gf hlt' h10 hbl hp';rw[<- E8]at hnx hc1;have hc1':1<=Vi (s.extract k s.size):=hc1;have hle:k+Vi (s.extract k s.size)<=s.size:=abO;have hte:(s.extract k s.size).size<=4096:=agH;clear h10 hget hbl hp' hc1 hts;go_wp2_with (first|(go_at_call 92;refine(ze _ _).mono ?_;rintro e w' ⟨rfl,rfl⟩)|(go_at_call 93;refine(Xn _ _ hte).mono ?_;rintro e w' ⟨rfl,rfl⟩));go_roundw
       case rel=>exact⟨k+Vi (s.extract k s.size),line,acc,agL,rfl,hnx,hown,hbel⟩
       case measure=>simp[intOf];omega
   ·have hR:=ah (hsp.done adp);go_wp2
    go_ret3
    rw[hR.o];exact⟨_,rfl,hown,hbel⟩
end Go.Proofs.YtdoplekppjkkpaaGreatDoor
end
