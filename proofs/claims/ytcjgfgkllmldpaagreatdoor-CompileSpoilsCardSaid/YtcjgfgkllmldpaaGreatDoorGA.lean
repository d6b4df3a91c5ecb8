/- Plain functions of the token layer: what a text's tokens are, over lists of bytes. No program in sight. And what hangs on it. -/
import Derived.WalkSmall
import Derived.Deep.QuietTactic
import Derived.BigQuiet
import Derived.Deep.DeepCutAuto
import Derived.Deep.AppendLies
import Derived.Deep.MidRow
import Derived.Maps.Own
import Derived.Maps.OwnSet
import Derived.Maps.Views
import Derived.IntWalk
import Derived.Outline
import Derived.StillTailTactics
import Derived.Deep.CutBlock
import Derived.Deep.RegionWith
import Derived.Laws.RangeAny
import Derived.ArgAppend
import Derived.ProofKit
import Derived.OpenShut
import Derived.Deep.DeepHandedRow
import Derived.Lib.LaidTab
import Derived.Stop.LaidErr
import Derived.ChangeArms
import Derived.Deep.Slices
import Derived.Lib.ParseIntB
import Derived.Lib.AtoiErrMem
import Derived.Deep.LoopGhost
import Derived.SizedLaws
import Derived.Laws.MakeOwn
import Derived.Laws.Append
import Derived.Maps.AppendAt
import Derived.Lib.Strings
import Derived.Lib.Bytealg
import Derived.Lib.TrimByte
import Derived.Laws.Strings
import Derived.Test.YtcjgfgkllmldpaaGreatDoorChecked
import Derived.WalkKit
import Derived.WalkSpells
import Derived.WalkLawsBesides
import Derived.Lib.Walk
import Derived.Lib.Hide
import Derived.Deep.Light
import Derived.Laws.Strings2
set_option linter.unusedSimpArgs false
set_option linter.unusedVariables false
set_option maxHeartbeats 40000000
set_option maxRecDepth 1000000
section
namespace Go.Proofs.YtcjgfgkllmldpaaGreatDoor.Tk
def uD (c:Int):Bool:=(decide (97<=c)&&decide (c<=122))||(decide (65<=c)&&decide (c<=90))
def sU (c:Int):Bool:=decide (48<=c)&&decide (c<=57)
def PZ (c:Int):Bool:=(uD c||sU c)||c==95
def CO (c:UInt8):Bool:=uD c.toNat
def mV (c:UInt8):Bool:=sU c.toNat
def mG (c:UInt8):Bool:=PZ c.toNat
def Ky:List (List UInt8):=[[118,97,114],[118,111,108,97,116,105,108,101],[109,117,116,101,120],[114,119,108,111,99,107],[99,111,110,100],[102,117,116,117,114,101],[116,104,114,101,97,100],[105,102],[101,108,115,101],[119,104,105,108,101],[108,111,99,107],[114,101,97,100],[119,114,105,116,101],[116,114,97,110,115,97,99,116,105,111,110],[97,116,111,109,105,99],[119,97,105,116],[110,111,116,105,102,121],[110,111,116,105,102,121,97,108,108],[115,112,97,119,110],[106,111,105,110],[115,101,116],[103,101,116]]
def wE (l:List UInt8):Bool:=Ky.contains l
def sgs:List (List UInt8):=[[124,124],[38,38],[61,61],[33,61],[60,61],[62,61],[60],[62],[43],[45],[42],[47],[37],[33],[61],[40],[41],[91],[93],[123],[125],[44],[59]]
def oZ (l:List UInt8):List UInt8:=(sgs.find? λg=>g.isPrefixOf l).getD []
def val (l:List UInt8):Nat:=l.foldl (λn c=>10*n+(c.toNat -48)) 0
def Aj (l:List UInt8):Bool:=decide (val l<=9223372036854775807)
def ji (l:List UInt8):Bool:=(decide (1<=l.length)&&decide (l.length<=12)&& !wE l)&&(l.head?.any CO&&l.all mG)
structure Tok where
 kind:Nat
 text:List UInt8
 line:Nat
def vE (l:List UInt8):Nat×Nat×List UInt8:=
 if 12<(l.takeWhile mG).length then(2,0,[])else(0,if wE (l.takeWhile mG)then 3 else 1,l.takeWhile mG)
def EB (l:List UInt8):Nat×Nat×List UInt8:=
 if((l.dropWhile mV).head?.any mG)|| !Aj (l.takeWhile mV)then(3,0,[])else(0,2,l.takeWhile mV)
def Qc (l:List UInt8):Nat×Nat×List UInt8:=
 if(oZ l).isEmpty then(3,0,[])else(0,4,oZ l)
def first (l:List UInt8):Nat×Nat×List UInt8:=
 if CO (l.headD 0)then vE l else if mV (l.headD 0)then EB l else Qc l
def ny:Nat->List UInt8->Nat->List Tok->List Tok×Nat×Nat
 |_,[],_,acc=>(acc,0,0)
 |0,_::_,_,acc=>(acc,0,0)
 |f+1,c::r,line,acc=>
  if c=10 then ny f r (line+1) acc
  else if c=32∨c=9∨c=13 then ny f r line acc
  else if [47,47].isPrefixOf (c::r)then ny f ((c::r).dropWhile (· != 10)) line acc
  else if(first (c::r)).1=0 then ny f ((c::r).drop (first (c::r)).2.2.length) line (acc++[⟨(first (c::r)).2.1,(first (c::r)).2.2,line⟩])
  else([],(first (c::r)).1,line)
def scan (l:List UInt8):List Tok×Nat×Nat:=
 if 4096<l.length then([],2,0)else ny l.length l 1 []
def Tok.cells (t:Tok):List Value:=[.int .i64 t.kind,.string ⟨t.text.toArray⟩,.int .i64 t.line]
def cellsOf (l:List Tok):List Value:=l.flatMap Tok.cells
end Go.Proofs.YtcjgfgkllmldpaaGreatDoor.Tk
end
section
namespace Go.Proofs.YtcjgfgkllmldpaaGreatDoor.Tk
theorem Jc (p:UInt8->Bool): ∀(l:List UInt8) (n:Nat),n<=l.length->(∀j (h:j<l.length),j<n->p l[j]=true)->(∀h:n<l.length,p l[n]=false)->(l.takeWhile p).length=n
 | [],n,hn,_,_=>by simp at hn;simp[hn]
 |c::l,0,_,_,h2=>by have:=h2 (by simp);simp only[List.getElem_cons_zero]at this;simp[this]
 |c::l,n+1,hn,h1,h2=>by
  have h0:=h1 0 (by simp) (by omega);simp only[List.getElem_cons_zero]at h0;rw[List.takeWhile_cons,if_pos h0,List.length_cons];congr 1;refine Jc p l n (by simpa using hn) (λj h hj=> ?_) (λh=> ?_)
  ·have:=h1 (j+1) (by simpa using h) (by omega);simpa using this
  ·have:=h2 (by simpa using h);simpa using this
theorem take_takeWhile (p:UInt8->Bool): ∀(l:List UInt8),l.take (l.takeWhile p).length=l.takeWhile p
 | []=>rfl
 |c::l=>by
  rw[List.takeWhile_cons];split
  ·simp[take_takeWhile p l]
  ·rfl
theorem wT (p:UInt8->Bool): ∀(l:List UInt8),l.drop (l.takeWhile p).length=l.dropWhile p
 | []=>rfl
 |c::l=>by
  rw[List.takeWhile_cons,List.dropWhile_cons];split
  ·simp[wT p l]
  ·rfl
theorem BO (p:UInt8->Bool): ∀l:List UInt8,(l.takeWhile p).length<=l.length
 | []=>Nat.le_refl _
 |c::l=>by rw[List.takeWhile_cons];have:=BO p l;split <;> simp <;> omega
theorem Eu (c:UInt8): ∀l:List UInt8,Lib.indexByte l c=if(l.takeWhile (· != c)).length<l.length then((l.takeWhile (· != c)).length:Int)else -1
 | []=>rfl
 |b::l=>by
  unfold Lib.indexByte;rw[Eu c l,List.takeWhile_cons];by_cases h:b=c
  ·subst h;simp
  ·have h1:(b==c)=false:=by simpa using h
   have h2:(b != c)=true:=by simpa using h
   rw[h1,h2,if_pos rfl,if_neg (by simp),List.length_cons,List.length_cons];generalize (l.takeWhile (· != c)).length=n;by_cases h3:n<l.length
   ·have h4:n+1<l.length+1:=(by omega);have h5:((n:Int)== -1)=false:=(by simp);simp[h3,h5]
   ·have h4: ¬n+1<l.length+1:=(by omega);simp[h3]
def J7 (l:List UInt8):Nat:=(l.takeWhile (· != 10)).length
theorem ae4 (l:List UInt8):J7 l<=l.length:=BO _ _
theorem ba2 (l:List UInt8) (h:0<=Lib.indexByte l 10):Lib.indexByte l 10=J7 l:=by
 rw[Eu]at h⊢;by_cases h3:(l.takeWhile (· != 10)).length<l.length
 ·rw[if_pos h3];rfl
 ·rw[if_neg h3]at h;omega
theorem ba3 (l:List UInt8) (h:Lib.indexByte l 10<0):l.length=J7 l:=by
 rw[Eu]at h;by_cases h3:(l.takeWhile (· != 10)).length<l.length
 ·rw[if_pos h3]at h;omega
 ·have:=BO (· != 10) l;unfold J7;omega
def qF (t s:ByteArray):Prop:=t.data.toList.dropWhile (· ==48)=s.data.toList.dropWhile (· ==48)
theorem qF.refl (s:ByteArray):qF s s:=rfl
theorem vR (t:ByteArray) (h:0<t.size):t.data.toList=t[0]::t.data.toList.drop 1:=by
 have h':0<t.data.toList.length:=by rw[<- Lib.size_eq];exact h
 have:=List.drop_eq_getElem_cons h';rw[List.drop_zero]at this;exact this
theorem qF.step {t s:ByteArray} (h:qF t s) (h0:0<t.size) (he:t[0]=48):qF (t.extract 1 t.size) s:=by
 unfold qF at h⊢;rw[Lib.extract_data,<- h]
 conv=>rhs;rw[vR t h0]
 rw[List.dropWhile_cons,if_pos (by rw[he];rfl),List.take_of_length_le (by simp)]
theorem qF.done {t s:ByteArray} (h:qF t s) (he: ∀h0:0<t.size,t[0]≠48):t=⟨(s.data.toList.dropWhile (· ==48)).toArray⟩:=by
 unfold qF at h;rw[<- h];have e:t.data.toList.dropWhile (· ==48)=t.data.toList:=by
  by_cases h0:0<t.size
  ·rw[vR t h0,List.dropWhile_cons,if_neg (by simpa using he h0)]
  ·have:t.data.toList.length=0:=by rw[<- Lib.size_eq];omega
   rw[List.eq_nil_of_length_eq_zero this];rfl
 rw[e]
end Go.Proofs.YtcjgfgkllmldpaaGreatDoor.Tk
end
section
namespace Go.Proofs.YtcjgfgkllmldpaaGreatDoor
open Go.RowKit
section
variable {P:Prop}
theorem θ(h:P:=by obtain⟨g',e,hg',hc'⟩:=h2 (i+1) y aip;exact⟨g',e,hg',λj u hu=>by rw[show k+1+i=k+(i+1) by omega];exact hc' j u hu⟩):P:=h
theorem ν(h:P:=by have:=heap_alloc_new ((w.alloc (.cells #[.slice aQ p.ds.length aJ,.slice aR p.ts.length aH] 52)).alloc (.cells #[.slice none 0 0,.slice none 0 0,.slice none 0 0,.slice none 0 0,.slice none 0 0,.slice none 0 0] 29)) (.cells #[.slice none 0 0,.slice none 0 0,.slice none 0 0,.slice none 0 0,.slice none 0 0,.slice none 0 0] 29);rw[<- hW,<- hbp];simpa using this):P:=h
theorem ξ(h:P:=by have:=heap_alloc_new (w.alloc (.cells #[.slice s.aC W.cs.length s.cC,.slice s.aL W.ls.length s.cL,.slice s.aN W.ns.length s.cN,.slice s.aF W.fs.length s.cF,.slice s.aT W.ts.length s.cT,.slice s.aS W.ss.length s.cS] 29)) (.cells #[.int .i64 op,.int .i64 a,.int .i64 b,.int .i64 c,.int .i64 m,.int .i64 st] 40);rw[<- hW,<- hnb];simpa using this):P:=h
theorem ο(h:P:=by obtain⟨h0,h1,h2,h3,h4,h5,hl⟩:=HQ.o;exact⟨(hb.cell (p:=⟨L.gb,0,none⟩) hl).trans h0,(hb.cell (p:=⟨L.gb,1,none⟩) hl).trans h1,(hb.cell (p:=⟨L.gb,2,none⟩) hl).trans h2,(hb.cell (p:=⟨L.gb,3,none⟩) hl).trans h3,(hb.cell (p:=⟨L.gb,4,none⟩) hl).trans h4,(hb.cell (p:=⟨L.gb,5,none⟩) hl).trans h5⟩):P:=h
theorem υ(h:P:=by have:=heap_alloc_new (w.alloc (.cells #[.slice s.aC W.cs.length s.cC,.slice s.aL W.ls.length s.cL,.slice s.aN W.ns.length s.cN,.slice s.aF W.fs.length s.cF,.slice s.aT W.ts.length s.cT,.slice s.aS W.ss.length s.cS] 29)) (.cells #[.int .i64 regs,.slice gu l.length eG] 37);rw[<- hW,<- hnb];simpa using this):P:=h
theorem χ(h:P:=by have:=heap_alloc_new (w.alloc (.cells #[.slice aQ p.ds.length aJ,.slice aR p.ts.length aH] 52)) (.cells #[.slice none 0 0,.slice none 0 0,.slice none 0 0,.slice none 0 0,.slice none 0 0,.slice none 0 0] 29);rw[<- hW,<- hbp,heap_alloc_old _ _ ahh];simpa using this):P:=h
theorem Δ(h:P:=by have:a.tmps[s]? =a0.tmps[s]?:=hs s (λk d R' hk _ e=>by obtain⟨ok,hok,hdk⟩:=hdst k (some d) R' hk;have:d∈fC:=(by rw[<- uZ];exact List.mem_filterMap.2 ⟨ok,List.mem_of_getElem? hok,hdk⟩);rw[e]at this;simp at hs';exact hs' this);simp[Act.eval,this]):P:=h
theorem Θ(h:P:=by obtain⟨q1,q2,q3,-⟩:=WH.o;unfold qZ at q1;simp only[aM,List.all_eq_true]at q1;have:=Ef p.ds [] 0 0 0 0 q1.1.1 q2 ahf;exact⟨ahf,q3,λd hd=>⟨q1.1.1 d hd,K9 _ _ _ _ _ _ q2 d hd⟩⟩):P:=h
theorem Ξ(h:P:=by rw[hz];exact hbd d (by rw[<- uZ];exact List.mem_filterMap.2 ⟨o,List.mem_of_getElem? hlo,hod⟩)):P:=h
theorem Ω(h:P:=by rw[bF _ _ _ rfl (by show bp+2≠nb;have h5:=dG.o;have h6:=kH.o;omega)];exact(hgr.block nb (aV SY.o iJ.o.size) (λe=>T9.o (by rw[nN.o];exact e.symm))).trans ((iJ.o.block nb SY.o).trans tJ.o)):P:=h
theorem aac(h:P:=by have e:W'.ts=p.ts.map (·.nm):=(by rw[<- LU.o,Jr.o,LG,HW0.o.1];rfl);intro x hx;rw[e]at hx;obtain⟨t,ht,rfl⟩:=List.mem_map.1 hx;exact(HTO.o t ht).1):P:=h
theorem aad(h:P:=by have:=zI hz i o hi;simp only[aM,List.all_eq_true,decide_eq_true_eq]at this;refine⟨this.1,λg b hg=> ?_⟩;have h2:=this.2;rw[hg]at h2;simpa using h2):P:=h
theorem aae(h:P:=by have h1:=Te.o.1;unfold qZ at h1;simp only[aM]at h1;have:=List.all_eq_true.1 h1.1.2 t ht;unfold pK at this;simp only[aM]at this;exact this.2):P:=h
theorem aaf(h:P:=by have h1:=HI.o.sz;have h2:=L.b1;refine⟨ahf,(aI HX.o),(aI HQ.o.blk),ahf,λe=> ?_⟩;have:=(HI.o.own _ e).2;omega):P:=h
theorem aag(h:P:=by rw[<- hW,<- hbp,heap_alloc_old _ _ ahF,heap_alloc_old _ _ ahF];exact heap_alloc_new _ _):P:=h
theorem aah(h:P:=by rw[qD.o];exact⟨trivial,trivial,trivial,trivial,trivial,trivial,bC _,bC _,bC _,bC _,bC _,bC _,λc hc=>by cases hc⟩):P:=h
theorem aai(h:P:=by have h1:=HP.o.2.2.2.below (HB3.o.trans (iU.o.mono HB3.o.size));exact h1.mono (by rw[<- hbc];exact HB3.o.size)):P:=h
theorem aaj(h:P:=by rw[<- nW p j h.nm 5 4 ahg rfl,<- vS,oU,Nb 5 6 h.nm (hnm ahO)];unfold lq;simp[hc]):P:=h
theorem aak(h:P:=by rw[nN.o];rcases hmv with e|e;exact .inl e;exact .inr (by rw[e];simp)):P:=h
theorem aal(h:P:=by have:=HL.o;simp only[iX,fH,au,aB,aP]at *;(unfold iT at *;omega)):P:=h
theorem aam(h:P:=by obtain⟨g,h1,-,h3,h4⟩:=hc i x hx;exact⟨g,h1,h3,λj u hu=>by rw[aU];exact h4 j u hu⟩):P:=h
theorem aan(h:P:=by rw[List.flatMap_append,List.flatMap_singleton,au];exact hown):P:=h
theorem aao(h:P:=by have:=HL.o;simp only[iX,fH,au,aB,aP]at *;(have:=HVX.o;unfold iT at *;omega)):P:=h
theorem aap(h:P:=by rw[<- hW,<- hnb,heap_alloc_old _ _ ahh];exact heap_alloc_new _ _):P:=h
theorem aaq(h:P:=by rw[<- hW2];exact(Sit.start wr).Ab hnb _ _ _ _ _ _ _ _ _ _ _ _):P:=h
theorem aar(h:P:=by first|exact HR.o.symm|(rw[HR.o];first|done|rfl|simp[kQ,nest])):P:=h
theorem aas(h:P:=by rw[wZ afg afg rfl];unfold Mf Cw;rw[iC.o];simp):P:=h
theorem aat(h:P:=by have:=HL.o;simp only[iX,fH,au,aB,aP]at *;(have:=LZ.o;unfold iT at *;omega)):P:=h
theorem aau(h:P:=by rw[dG.o];exact(by repeat (first|exact Bz.o|refine below_drewN ?_ _))):P:=h
theorem aav(h:P:=by have:=HL.o;unfold iT at this;simp only[fH,au,aB,aP]at *;omega):P:=h
theorem aaw(h:P:=by have:=HL.o;simp only[iX,fH,au,aB,aP]at *;(have:=HVK.o;have:=HVY.o;have:=rE.o.2.2;omega)):P:=h
theorem aax(h:P:=by have:=HL.o;simp only[iX,fH,au,aB,aP]at *;(have:=Jw.o;have:=LZ.o;unfold iT at *;omega)):P:=h
theorem aay(h:P:=by rw[<- hW];exact((below_drewN (ak w.heap.size w) _).block _ HI.o.lt).trans HB.o):P:=h
theorem aaz(h:P:=by have:=congrArg (List.drop 1) HQ.o;rw[List.drop_drop]at this;simpa using this):P:=h
theorem aaA(h:P:=by rw[List.mem_singleton.1 hy];exact λ_ _=>⟨trivial,trivial,trivial,trivial⟩):P:=h
theorem aaB(h:P:=by rw[List.mem_singleton.1 hy];exact xY ae8 HS'.o wU uF sb0 sb0):P:=h
theorem aaC(h:P:=by have:=HL.o;simp only[iX,fH,au,aB,aP]at *;(have:=Jw.o;unfold iT at *;omega)):P:=h
theorem aaD(h:P:=by have:=HL.o;simp only[au,aP,List.length_singleton];unfold iT at this;omega):P:=h
theorem aaE(h:P:=by simp[results,Tryz.results169,go_sem,iG,y0,y1,y2,y3,y4,y5,y6,y7,y8,y9,jM]):P:=h
theorem aaF(h:P:=by show T.bm≠g;have:=HG.o;have:=bJ.o.m;have:=eX.o;have:=S5.o.m.size;omega):P:=h
theorem aaG(h:P:=by rw[<- hW];exact((aA _ _).alloc ahh _).alloc ahF _):P:=h
theorem aaH(h:P:=by rw[<- HR.o];unfold vW;rw[if_neg ahi,if_pos ahi]):P:=h
theorem aaI(h:P:=by have:=HL.o;have:=LZ.o;simp only[au,aP,aB]at *;unfold iT at *;omega):P:=h
theorem aaJ(h:P:=by intro e;injection e with e;exact hI.nt (by rw[<- k5,h1,<- e];rfl)):P:=h
theorem aaK(h:P:=by have:=HL.o;simp only[fH,au,aP]at *;(have:=AL.o;have:=as6.o;omega)):P:=h
theorem aaL(h:P:=by first|exact HR.o|exact HR.o.symm|(rw[<- HR.o];first|rfl|simp_all)):P:=h
theorem aaM(h:P:=by unfold OV;rw[if_neg ahi,if_pos (by simpa using hop)]):P:=h
theorem aaN(h:P:=by have:=HL.o;have:=rE.o.2.2;have:=HVK.o;simp only[au,aP]at *;omega):P:=h
theorem aaO(h:P:=by have h1:=HB3.o.size;have h2:=iU.o.size;have h3:=iZ.o.size;omega):P:=h
theorem aaP(h:P:=by first|exact(HX.o.next hB).1|exact(HX.o.next (hB.alloc hB.size _)).1):P:=h
theorem aaQ(h:P:=by have:=sw.o;unfold iT at *;rw[hi]at *;simp only[fH]at *;omega):P:=h
theorem aaR(h:P:=by have h1:=HN.o.2.2.1;have h2:=SE.o.1;simp only[Ap]at h1;omega):P:=h
theorem aaS(h:P:=by show _=Ending.returned (Value.bool (m==4||m==5));rw[h4];simp):P:=h
theorem aaT(h:P:=by unfold iB;repeat (first|exact aW|refine aY _ ?_)):P:=h
theorem aaU(h:P:=by have:=HL.o;simp only[fH,au,aP]at *;omega):P:=h
theorem aaV(h:P:=by have h5:=HR.o.ws.sz;have h6:=HR.o.g0;omega):P:=h
theorem aaW(h:P:=by rw[<- hW,<- hnb];exact aG (heap_alloc_new _ _) rfl):P:=h
theorem aaX(h:P:=by rw[<- hW,<- hnb];exact heap_alloc_new _ _):P:=h
theorem aaY(h:P:=by have:=HL.o;simp only[fH,au,aP]at *;(have:=AL.o;omega)):P:=h
theorem aaZ(h:P:=by simp[dc,dl,dn,df,hkd] <;> first|rfl|omega):P:=h
theorem aa0(h:P:=by rw[<- hlen];exact(List.getElem?_eq_some_iff.1 hi).1):P:=h
theorem aa1(h:P:=by have:=HW.o;rw[hnb]at this;exact this.below HB.o):P:=h
theorem aa2(h:P:=by rw[<- hW];exact HH.o.Ab rfl _ _ _ _ _ _ _ _ _ _ _ _):P:=h
theorem aa3(h:P:=by rw[<- hW];exact(aA _ _).alloc ahh _):P:=h
theorem aa5(h:P:=by have:=h.size;simpa[World.setCell]using this):P:=h
theorem aa6(h:P:=by rw[<- hW,<- hg];exact heap_alloc_new _ _):P:=h
theorem aa7(h:P:=by rw[<- hW2,<- hcb];exact heap_alloc_new _ _):P:=h
theorem aa8(h:P:=by rw[<- HR.o];unfold CY;rw[hv];simp[bne,hne]):P:=h
theorem aa9(h:P:=by rw[<- LX.o,List.getElem?_append_right ahf];simp):P:=h
theorem abb(h:P:=by have:=congrArg (λl=>l[ents.length]?) h2;simpa using this):P:=h
theorem abd(h:P:=by have:=EJ.o;have:=Ay.o.1;show w.heap.size<_;omega):P:=h
theorem abe(h:P:=by rw[List.all_eq_true]at hbd;simpa using hbd d hd):P:=h
theorem abf(h:P:=by rw[Bool.eq_iff_iff,beq_iff_eq,beq_iff_eq];omega):P:=h
theorem abg(h:P:=by rw[Bool.eq_false_iff];exact λe=>hc ⟨h,e⟩):P:=h
theorem abh(h:P:=by have:=h.lt;have:=R.b0;show R.B0<=bt;omega):P:=h
theorem abj(h:P:=by have:=LX.o;simp only[au,aB,aP]at hkn;omega):P:=h
theorem abk(h:P:=by obtain⟨R',h1,-⟩:=hf k ok ahJ;exact⟨R',h1⟩):P:=h
theorem abl(h:P:=by rw[<- hW];exact iM w8 ⟨bt,3,none⟩ _ (Nat.lt_succ_self _)):P:=h
theorem abm(h:P:=by injection hbe with h;injection h with h1 h2;exact⟨h1,h2⟩):P:=h
theorem abn(h:P:=by unfold OV;rw[if_neg ahi,if_neg ahi]):P:=h
theorem abo(h:P:=by unfold Df;rw[if_neg ahg,if_pos ahJ]):P:=h
theorem abp(h:P:=by unfold Df;rw[if_neg ahg,if_neg ahJ]):P:=h
theorem abq(h:P:=by rw[<- hW];exact(Sit.start w).Ab rfl _ _ _ _ _ _ _ _ _ _ _ _):P:=h
theorem abr(h:P:=by have h1:=iw.o;have h2:=HB2.o.size;have h4:=HB3.o.size;omega):P:=h
theorem abt(h:P:=by simp[results,Tryz.results88,go_sem,exV,bV.len,y0,y1,y2,y3]):P:=h
theorem abu(h:P:=by rw[<- hW];exact(heap_alloc_old _ _ (aI HZ2.o)).trans HZ2.o):P:=h
theorem abv(h:P:=by rw[pX (.inr afg)];unfold yX;rw[iC.o];rfl):P:=h
theorem abw(h:P:=by rw[<- hW];exact Vw HE.o.2 (bR (aA _ _)) (Nat.le_of_eq hg)):P:=h
theorem abx(h:P:=by rw[<- hW];exact⟨ahh,aG (heap_alloc_new _ _) rfl⟩):P:=h
theorem aby(h:P:=by rw[<- hW];exact(heap_alloc_old _ _ (aI HZ1.o)).trans HZ1.o):P:=h
theorem abz(h:P:=by rw[<- hWf];exact(Mm.of_below dF.o).Nn (Hx.refl _ _) _ _):P:=h
theorem abA(h:P:=by intro u hu;simp[sZ]at hu;rcases hu with rfl|rfl|rfl <;> rfl):P:=h
theorem abB(h:P:=by have h1:i<listed.size:=ahf;simp[h1]at hg⊢;exact hg):P:=h
theorem abC(h:P:=by rw[ig,if_neg (by rw[sV,decide_eq_true_iff];omega)];rfl):P:=h
theorem abD(h:P:=by simp[results,Tryz.results118,go_sem,fZ.f,y0,y1,y2,y3]):P:=h
theorem abE(h:P:=by have h1:=zN.o;have h2:=HS.o.sz;have h3:=HS.o.lt;omega):P:=h
theorem abF(h:P:=by have h1:=xu.o;have h2:=HL.o;simp only[au,aB,aP];omega):P:=h
theorem abG(h:P:=by have h1:=HR.o.few;have h2:=HMX.o;rw[NW.o,au,I8];omega):P:=h
theorem abH(h:P:=by rw[<- Au.o,Fx (f:=λy=>y.nm) HX.o,List.append_assoc]):P:=h
theorem abI(h:P:=by have h1:=kK.o t vg;have h2:=SE.o.2 t vg;exact(h1.and h2)):P:=h
theorem abJ(h:P:=by have h1:=h.lt;have h2:=hB.size;simp[World.setCell];omega):P:=h
theorem abK(h:P:=by rw[lH.o.2.2.2.2.2];have:=NU.o.2.2.2;unfold maxLen;omega):P:=h
theorem abL(h:P:=by rw[lH.o.2.2.2.2.1];have:=NU.o.2.2.1;unfold maxLen;omega):P:=h
theorem abM(h:P:=by rw[Bool.eq_iff_iff,decide_eq_true_iff,beq_iff_eq];omega):P:=h
theorem abN(h:P:=by rw[<- hW2];exact(Sit.start wr).U7 hnb _ _ _ _ _ _ _):P:=h
theorem abO(h:P:=by have:=NJ.o;simp only[aB]at this;unfold maxLen;omega):P:=h
theorem abP(h:P:=by have:=HL.o;simp only[au,aP];unfold iT at this;omega):P:=h
theorem abQ(h:P:=by first|(rw[HF.o];done)|(rw[HF.o];congr 1;go_light;grind)):P:=h
theorem abR(h:P:=by rw[hz];exact hbd d (hmem i d R (by rw[Mj,hod]) Ze)):P:=h
theorem abS(h:P:=by repeat (first|exact HBn.o|refine below_drewN ?_ _)):P:=h
theorem abT(h:P:=by unfold jF;simp only[bne];rw[Bool.eq_iff_iff];simp):P:=h
theorem abU(h:P:=by rw[<- hW];exact(Fr.refl _ _ _).set _ _ (.inl rfl)):P:=h
theorem abV(h:P:=by obtain⟨q,h1,h2⟩:=h;exact⟨q,hle.2.2.1 q h1,h2⟩):P:=h
theorem abW(h:P:=by have:=HB.o;rw[<- hnb]at this;exact kG.o.same this):P:=h
theorem abX(h:P:=by rw[kF.o,show l.length+1 -(k+1)=l.length -k by omega]):P:=h
theorem abY(h:P:=by have:=hnx.1;rw[<- Lib.size_eq]at this;exact this):P:=h
theorem abZ(h:P:=by have:=HL.o;have:=rE.o.2.2;simp only[au,aP];omega):P:=h
theorem ab0(h:P:=by have:=HF0.o.below HB.o;rw[hnb]at this;exact this):P:=h
theorem ab1(h:P:=by have:=DJ.o;rw[IntWalk.i64_in _ ahf];omega):P:=h
theorem ab2(h:P:=by rw[lH.o.2.2.2.1];have:=NU.o.2.1;unfold maxLen;omega):P:=h
theorem ab3(h:P:=by have:=HW.o.below HB.o;rw[hnb]at this;exact this):P:=h
theorem ab4(h:P:=by have:=Ef p.ds [] 0 0 0 0 xE.o.1 h0 ahf;omega):P:=h
theorem ab5(h:P:=by have h1:=lH.o.2.1;have h2:=NC.o;unfold maxLen;omega):P:=h
theorem ab6(h:P:=by have h1:=HL.o;have h2:=Aw.o;have h3:=mZ.o;omega):P:=h
theorem ab7(h:P:=by rw[<- Uv];exact WS.o.trans Qw.o (Kg.set _ _ _)):P:=h
theorem ab8(h:P:=by obtain⟨b,h1,h2⟩:=h;exact⟨b,h1,hle.1 b h2⟩):P:=h
theorem ab9(h:P:=by rw[ug]at h;injection h with h;subst h;exact bC _):P:=h
theorem acd(h:P:=by have:=ak5 HP.o.rd.ts.tail h2;unfold cO;omega):P:=h
theorem ace(h:P:=by have:=HC.o;rw[hnb]at this;exact rR HB.o this):P:=h
theorem acf(h:P:=by have h5:=dG.o.1;have h6:=HR.o.mlt;simp;omega):P:=h
theorem acg(h:P:=by have h1:=zQ.o;have h2:=HSL.o;simp only[au];omega):P:=h
theorem ach(h:P:=by rw[lH.o.2.2.1];have:=NU.o.1;unfold maxLen;omega):P:=h
theorem aci(h:P:=by have:=HI3.o.sz;have:=L.c1;show L.bc<_;omega):P:=h
theorem acj(h:P:=by simp[results,Tryz.results113,go_sem,Ao,hc]):P:=h
theorem acn(h:P:=by show L.gb≠nb;have:=vM.o;have:=dG.o;omega):P:=h
theorem aco(h:P:=by rw[<- hW2,<- hib];exact heap_alloc_new _ _):P:=h
theorem acp(h:P:=by rw[pX (.inl iC.o)];unfold yX;rw[iC.o];rfl):P:=h
theorem acr(h:P:=by rw[<- hW];exact HG2.o.next (bR (aA _ _))):P:=h
theorem acs(h:P:=by rw[<- hW];exact HB1.o.alloc HB1.o.size _):P:=h
theorem acu(h:P:=by show(1:Nat)<=maxLen;unfold maxLen;decide):P:=h
theorem acv(h:P:=by rw[<- hW];exact HE.o.2.next (bR (aA _ _))):P:=h
theorem acw(h:P:=by rw[<- hW,<- hs1];exact heap_alloc_new _ _):P:=h
theorem acy(h:P:=by show(2:Nat)<=maxLen;unfold maxLen;decide):P:=h
theorem acz(h:P:=by have:=hv k e;have:=L.c0;have:=L.c1;omega):P:=h
theorem acA(h:P:=by rw[beq_eq_false_iff_ne];omega):P:=h
theorem acB(h:P:=by simp only[bf.len]at hlen;omega):P:=h
theorem acC(h:P:=by rw[<- hW];exact heap_alloc_new _ _):P:=h
theorem acD(h:P:=by simp only[bV.len]at hlen;omega):P:=h
theorem acE(h:P:=by rw[List.append_assoc];exact sO.o):P:=h
theorem acF(h:P:=by have:=rE.o;simp only[fH]at *;omega):P:=h
theorem acG(h:P:=by have:=bJ.o.t;have:=eX.o;omega):P:=h
theorem acH(h:P:=by simp[results,Tryz.results53,go_sem]):P:=h
theorem acI(h:P:=by rw[List.length_take]at hlt;omega):P:=h
theorem acJ(h:P:=by rw[<- hW];exact(Wk.start HI.o).alloc _):P:=h
theorem acK(h:P:=by simp[results,Tryz.results137,go_sem]):P:=h
theorem acL(h:P:=by simp[results,Tryz.results108,go_sem]):P:=h
theorem acM(h:P:=by rw[<- hW,<- hnb];exact aA _ _):P:=h
theorem acN(h:P:=by simp[results,Tryz.results87,go_sem]):P:=h
theorem acO(h:P:=by unfold mg gD;rw[HK.o];exact⟨rfl,rfl⟩):P:=h
theorem acP(h:P:=by have h1:=iw.o;have h2:=HB2.o.size;omega):P:=h
theorem acQ(h:P:=by have h1:=(aI yN.o);have h2:=EJ.o;omega):P:=h
theorem acR(h:P:=by have:=sw.o;unfold iT at this;omega):P:=h
theorem acS(h:P:=by rw[<- Ad];exact ru _ _ _ _ _):P:=h
theorem acT(h:P:=by unfold je;(repeat' split) <;> simp):P:=h
theorem acU(h:P:=by rw[HE.o,vsA];simp[h1,h2,h3,bne,h4]):P:=h
theorem acV(h:P:=by have:=zQ.o;unfold iT at this;omega):P:=h
theorem acW(h:P:=by have:=this.few;unfold maxLen;omega):P:=h
theorem acX(h:P:=by have:=WL.o;unfold maxLen;omega):P:=h
theorem acY(h:P:=by cases hv:v.ownBlock <;> simp):P:=h
theorem acZ(h:P:=by rw[HV.o,HC.o.2.1,Cn.o];rfl):P:=h
theorem ac0(h:P:=by have h6:=uU.o.lt;have h7:=uU.o.sz;omega):P:=h
theorem ac2(h:P:=by have h1:=iw.o;have h2:=HB3.o.size;omega):P:=h
theorem ac3(h:P:=by have h1:=HB2.o.size;have h2:=jX.o;omega):P:=h
theorem ac7(h:P:=by rw[<- hW2];exact HU.o.Bd hn2 _ _ _ _ _):P:=h
theorem ac9(h:P:=by have h1:=iZ.o.size;have h2:=jX.o;omega):P:=h
theorem ada(h:P:=by rw[List.flatMap_singleton];exact hown):P:=h
theorem adb(h:P:=by rw[IntWalk.i64_in _ ahf];omega):P:=h
theorem ade(h:P:=by simp[results,Tryz.results139,go_sem]):P:=h
theorem adf(h:P:=by simp[results,Tryz.results101,go_sem]):P:=h
theorem adg(h:P:=by rw[<- hW,Qz.o];exact HX.o t0 r0 Qz.o):P:=h
theorem adh(h:P:=by simp[results,Tryz.results84,go_sem]):P:=h
theorem adi(h:P:=by simp[results,Tryz.results83,go_sem]):P:=h
theorem adj(h:P:=by rw[List.getElem?_toArray];exact hu):P:=h
theorem adk(h:P:=by have:=HR.o.few;unfold maxLen;omega):P:=h
theorem adl(h:P:=by intro k hk;simp[Value.ownBlock]at hk):P:=h
theorem adn(h:P:=by rwa [getD_set_ne false hik]at hl):P:=h
theorem ado(h:P:=by rw[decide_eq_false_iff_not];omega):P:=h
theorem adp(h:P:=by have h1:=xu.o;have h2:=HL.o;omega):P:=h
theorem adq(h:P:=by have:=h.lt;show bt≠R.br;omega):P:=h
theorem adr(h:P:=by rw[aB8 hsd];unfold lq;simp[hc]):P:=h
theorem ads(h:P:=by have:=(hrow.lt _ e.symm).1;omega):P:=h
theorem adt(h:P:=by rw[decide_eq_true_iff];omega):P:=h
theorem adu(h:P:=by have:=h.lt;show bt≠_;omega):P:=h
theorem adv(h:P:=by have:=h.hn _ e;have:=h.lt;omega):P:=h
theorem adw(h:P:=by rw[<- Lib.size_eq];exact hlt):P:=h
theorem adx(h:P:=by rw[<- Lib.size_eq];exact hk):P:=h
theorem ady(h:P:=by have:=h.o.t;have:=h.l;omega):P:=h
theorem adz(h:P:=by have:=h.o.m;have:=h.l;omega):P:=h
theorem adA(h:P:=by have:=h.lt;show _<=bt;omega):P:=h
theorem adB(h:P:=by have:=Aw.o;have:=mZ.o;omega):P:=h
theorem adC(h:P:=by simpa[Value.ownBlock]using hk):P:=h
theorem adD(h:P:=by have:=L.b1;have:=h.g;omega):P:=h
theorem adE(h:P:=by subst q;exact(hg _).1 _ _ c0):P:=h
theorem adF(h:P:=by rw[Lib.toList_data];exact hx):P:=h
theorem adG(h:P:=by have:=hr1 ahg;omega):P:=h
theorem adH(h:P:=by rw[<- hW];exact HF.o.set _ _ (.inl rfl)):P:=h
theorem adI(h:P:=by rw[<- hW2];exact HB.o.alloc HB.o.size _):P:=h
theorem adJ(h:P:=by have:=HB1.o.size;have:=HB2.o.size;omega):P:=h
theorem adK(h:P:=by have h5:=jQ.o.sz;have h6:=HR.o.g0;omega):P:=h
theorem adL(h:P:=by have h1:=HS.o.lt;have h2:=HS.o.sz;omega):P:=h
theorem adM(h:P:=by have h1:=HB3.o.size;have h2:=EJ.o;omega):P:=h
theorem adN(h:P:=by have h1:=iZ.o.size;have h2:=Hq.o;omega):P:=h
theorem adO(h:P:=by rw[vK.o,Nat.sub_self];cases Q <;> rfl):P:=h
theorem adP(h:P:=by intro h;injection h with h;exact hl h):P:=h
theorem adQ(h:P:=by have:=NJ.o;simp only[aB]at this;omega):P:=h
theorem adR(h:P:=by have h1:=ql.o;have h2:=HB2.o.size;omega):P:=h
theorem adS(h:P:=by unfold zB;rw[Dw.o,hwi,hjs];simp[hsx]):P:=h
theorem adT(h:P:=by simp[results,Tryz.results113,go_sem]):P:=h
theorem adU(h:P:=by rw[<- hW];exact HS2.o.below (aA _ _)):P:=h
theorem adV(h:P:=by have:=HB.o;rw[hnb]at this;exact this):P:=h
theorem adW(h:P:=by simp[results,Tryz.results74,go_sem]):P:=h
theorem adX(h:P:=by rw[<- hw];exact Co.o.below (aA _ _)):P:=h
theorem adY(h:P:=by rw[<- hW];exact S3.o.below (aA _ _)):P:=h
theorem adZ(h:P:=by have:=(HI.o.own _ e).1;have:=L.b1;omega):P:=h
theorem ad1(h:P:=by unfold rU;rw[Bool.eq_iff_iff];simp):P:=h
theorem ad2(h:P:=by have:=lH.o.1;simp only[au,aB,aP];omega):P:=h
theorem ad5(h:P:=by have:=h.sz;have:=L.c0;have:=L.c1;omega):P:=h
theorem aea(h:P:=by have:=h.len;simp only[aB]at this;omega):P:=h
theorem aeb(h:P:=by have h1:=zN.o;have h2:=HG0.o;omega):P:=h
theorem aec(h:P:=by rw[fK];exact noop ahe):P:=h
theorem aed(h:P:=by rw[ig,if_pos (by rw[sV,Us];rfl)]):P:=h
theorem aee(h:P:=by rw[<- hW];exact hb1.alloc hb1.size _):P:=h
theorem aef(h:P:=by rw[<- HR.o];unfold CY;rw[hv];rfl):P:=h
theorem aeg(h:P:=by have:=sw.o.1;simp only[aP];omega):P:=h
theorem aeh(h:P:=by have:=iJ.o.size;simp at e this;omega):P:=h
theorem aei(h:P:=by have:=SE.o.1;have:=PN p.ts;omega):P:=h
theorem aej(h:P:=by show L.gb≠bc;have:=vM.o;omega):P:=h
theorem aek(h:P:=by show 9<=maxLen;unfold maxLen;decide):P:=h
theorem ael(h:P:=by rw[lH.o.2.2.2.2.2];exact Gf.o.2):P:=h
theorem aem(h:P:=by rw[<- List.drop_drop,HDR.o];rfl):P:=h
theorem aen(h:P:=by cases h:(r==0) <;> simp_all[wH]):P:=h
theorem aeo(h:P:=by show bc<=L.gb;have:=vM.o;omega):P:=h
theorem aep(h:P:=by rw[if_pos ahJ]):P:=h
theorem aer(h:P:=by rw[if_neg ahJ]):P:=h
theorem aes(h:P:=by rw[<- hW];exact mI.o.nm _ zi.o):P:=h
theorem aeu(h:P:=by intro r hr;simp[je]at hr;omega):P:=h
theorem aev(h:P:=by have:=WM.o;unfold maxLen;omega):P:=h
theorem aew(h:P:=by have:=HR.o.few;unfold cO;omega):P:=h
theorem aex(h:P:=by have:=HL.o;unfold maxLen;omega):P:=h
theorem aey(h:P:=by rw[<- hW];exact(F3 w _ _ _).2):P:=h
theorem aez(h:P:=by rw[<- hW];exact(F3 w _ _ _).1):P:=h
theorem aeA(h:P:=by have:=(h.row.lt k hk).1;omega):P:=h
theorem aeB(h:P:=by first|rfl|(simp only[Bh];rfl)):P:=h
theorem aeC(h:P:=by unfold lim at h2;simp at h2;omega):P:=h
theorem aeD(h:P:=by simp[List.getElem?_replicate]at h):P:=h
theorem aeE(h:P:=by rw[<- List.append_assoc];exact k1):P:=h
theorem aeF(h:P:=by simpa[Value.ownBlock]using e):P:=h
theorem aeG(h:P:=by rw[Bool.eq_iff_iff];simp;omega):P:=h
theorem aeH(h:P:=by rw[<- hW];exact qg.o.alloc _):P:=h
theorem aeI(h:P:=by rw[<- hW];exact HI.o.draws _):P:=h
theorem aeJ(h:P:=by have:=rZ.o;show bd≠_;omega):P:=h
theorem aeK(h:P:=by have:=h.lt;show tb≠_;omega):P:=h
theorem aeL(h:P:=by have:=h.lt;show pb≠_;omega):P:=h
theorem aeM(h:P:=by have:=(h.rs.lt k hk).1;omega):P:=h
theorem aeN(h:P:=by have:=(h.re.lt k hk).1;omega):P:=h
theorem aeO(h:P:=by have:=lH.o.1;unfold maxLen;omega):P:=h
theorem aeP(h:P:=by have:=hb.size;simp at this;omega):P:=h
theorem aeQ(h:P:=by have:=h.hne _ e;have:=h.lt;omega):P:=h
theorem aeR(h:P:=by rw[lH.o.2.2.1];exact Gf.o.1):P:=h
theorem aeS(h:P:=by rw[HF.o];congr 1;go_light;grind):P:=h
theorem aeT(h:P:=by rw[<- NI.o,List.append_nil]):P:=h
theorem aeU(h:P:=by obtain⟨D,h,_⟩:=h;exact h.lt):P:=h
theorem aeV(h:P:=by unfold zB;rw[Dw.o,hst];rfl):P:=h
theorem aeW(h:P:=by unfold jE;rw[hwi];simp[hy]):P:=h
theorem aeX(h:P:=by simp[Value.ownBlock];omega):P:=h
theorem aeY(h:P:=by rw[HE.o.trans (if_pos vZ)]):P:=h
theorem aeZ(h:P:=by have:=HK.o;show 0+1<=3*K;omega):P:=h
theorem ae8(h:P:=by unfold cO;decide):P:=h
theorem afa(h:P:=by unfold maxLen;decide):P:=h
theorem afb(h:P:=by simpa using hlen):P:=h
theorem afc(h:P:=by unfold maxLen;omega):P:=h
theorem afd(h:P:=by rw[<- hW];exact aA _ _):P:=h
theorem afe(h:P:=by simpa using hbs):P:=h
theorem aff(h:P:=by have:=h.lt;omega):P:=h
theorem afg(h:P:=by rw[iC.o];decide):P:=h
theorem afh(h:P:=by have:=bJ.o.t;omega):P:=h
theorem afi(h:P:=by have:=iw.o;omega):P:=h
theorem afj(h:P:=by have:=jX.o;omega):P:=h
theorem afk(h:P:=by simpa[bf.len]using hlen):P:=h
theorem afl(h:P:=by rw[<- hW2];exact aA _ _):P:=h
theorem afm(h:P:=by have:=HR.o.few;omega):P:=h
theorem afn(h:P:=by have:=kW.o;omega):P:=h
theorem afo(h:P:=by have:=zN.o;omega):P:=h
theorem afp(h:P:=by simp[World.setCell]):P:=h
theorem afq(h:P:=by rw[nN.o];exact hgr):P:=h
theorem afr(h:P:=by rw[fK];kernel_rfl):P:=h
theorem afs(h:P:=by simpa[bV.len]using hlen):P:=h
theorem aft(h:P:=by rw[<- hW,<- hnb];simp):P:=h
theorem afu(h:P:=by simpa using hr1):P:=h
theorem afv(h:P:=by have:=kH.o;omega):P:=h
theorem afw(h:P:=by simp[Value.ownBlock]):P:=h
theorem afx(h:P:=by have:=hI.few;omega):P:=h
theorem afy(h:P:=by simpa using hmv):P:=h
theorem afz(h:P:=by unfold lZ;rw[HK.o];rfl):P:=h
theorem afA(h:P:=by simp[Act.eval,hD]):P:=h
theorem afB(h:P:=by have:=eX.o;omega):P:=h
theorem afC(h:P:=by rw[au,HK.o];rfl):P:=h
theorem afD(h:P:=by unfold lq;simp[hc]):P:=h
theorem afE(h:P:=by simpa using hlen'):P:=h
theorem afF(h:P:=by have:=kW.o;simp;omega):P:=h
theorem afG(h:P:=by have:=h.lt;simp;omega):P:=h
theorem afH(h:P:=by simpa using(aI ho)):P:=h
theorem afI(h:P:=by first|rfl|simp[tX]):P:=h
theorem afJ(h:P:=by rw[<- hds,au,hk]):P:=h
theorem afK(h:P:=by rw[dG.o];exact gP.o.b):P:=h
theorem afL(h:P:=by rw[e];exact hb.size):P:=h
theorem afM(h:P:=by unfold cO;omega):P:=h
theorem afN(h:P:=by have:=HS2.o;omega):P:=h
theorem afO(h:P:=by rw[HN.o];simpa using h6):P:=h
theorem afP(h:P:=by rw[<- hkt];exact HC.o.1):P:=h
theorem afQ(h:P:=by have:=(hvB k e).1;omega):P:=h
theorem afR(h:P:=by simpa using Jz.o):P:=h
theorem afS(h:P:=by rw[hI.1];exact hlt):P:=h
theorem afT(h:P:=by rw[HRR.o,EX.o];rfl):P:=h
theorem afU(h:P:=by rw[<- hacc];simp;omega):P:=h
theorem afV(h:P:=by unfold bne;rw[hI];rfl):P:=h
theorem afW(h:P:=by simp[dc,dl,dn,df,hkd]):P:=h
theorem afX(h:P:=by rw[xG.o];exact e.symm):P:=h
theorem afY(h:P:=by unfold nO;rw[hS];rfl):P:=h
theorem afZ(h:P:=by simp[Value.oneCell']):P:=h
theorem af4(h:P:=by rw[yK.o];exact hcl'):P:=h
theorem af9(h:P:=by rw[uH.o.1];simp[iB]):P:=h
theorem aga(h:P:=by simpa using HI.o):P:=h
theorem agb(h:P:=by intro x hx;simp at hx):P:=h
theorem agc(h:P:=by simpa using n11):P:=h
theorem agd(h:P:=by have:=Cr.o.1;omega):P:=h
theorem agf(h:P:=by rw[dG.o];exact pY.o):P:=h
theorem agh(h:P:=by rw[dG.o];exact MH.o):P:=h
theorem agi(h:P:=by simpa using DK.o):P:=h
theorem agj(h:P:=by simp at h1;omega):P:=h
theorem agk(h:P:=by have:=qj.o;omega):P:=h
theorem agl(h:P:=by have:=bJ.o;omega):P:=h
theorem agm(h:P:=by have:=R.b0;omega):P:=h
theorem agn(h:P:=by have:=L.c1;omega):P:=h
theorem agp(h:P:=by have:=Hq.o;omega):P:=h
theorem agq(h:P:=by have:=DJ.o;omega):P:=h
theorem agr(h:P:=by have:=rZ.o;omega):P:=h
theorem ags(h:P:=by have:=G7.o.2;omega):P:=h
theorem agt(h:P:=by have:=G7.o.1;omega):P:=h
theorem agu(h:P:=by simpa using hr2):P:=h
theorem agv(h:P:=by rw[rC.o,OB];rfl):P:=h
theorem agw(h:P:=by have:=vM.o;omega):P:=h
theorem agx(h:P:=by unfold rP;rw[h2,h3];rfl):P:=h
theorem agy(h:P:=by simp[sF,Value.oneCell']):P:=h
theorem agz(h:P:=by simp[hls]at h0⊢;exact h0):P:=h
theorem agA(h:P:=by have:=h.2.1;omega):P:=h
theorem agB(h:P:=by rw[hR,List.length_drop]):P:=h
theorem agC(h:P:=by rw[<- tT];exact aA _ _):P:=h
theorem agD(h:P:=by rw[dQ h.blk];rfl):P:=h
theorem agE(h:P:=by rw[uH.o.2];exact SX.o):P:=h
theorem agF(h:P:=by rw[<- aU j'];exact h1):P:=h
theorem agG(h:P:=by injection e with e;omega):P:=h
theorem agH(h:P:=by unfold tq;rw[hok];rfl):P:=h
theorem agI(h:P:=by simpa using n10):P:=h
theorem agJ(h:P:=by rw[h1,h2'];simp):P:=h
theorem agK(h:P:=by rw[xG.o];exact hgr):P:=h
theorem agL(h:P:=by simp at hlen;omega):P:=h
theorem agM(h:P:=by rw[uH.o];simp[iB]):P:=h
theorem agN(h:P:=by rw[<- hW];simp;omega):P:=h
theorem agO(h:P:=by rw[<- aU j];exact h1):P:=h
theorem agP(h:P:=by have:=bJ.o.m;omega):P:=h
theorem agQ(h:P:=by simp[bV.len,maxLen]):P:=h
theorem agR(h:P:=by rw[dG.o];exact Bz.o):P:=h
theorem agS(h:P:=by have:=h.2.2.1;omega):P:=h
theorem agT(h:P:=by have:=HL.o;omega):P:=h
theorem agU(h:P:=by have:=Ay.o;omega):P:=h
theorem agV(h:P:=by rw[HR.o];exact q1):P:=h
theorem agW(h:P:=by subst hop;decide):P:=h
theorem agX(h:P:=by simp[bV.len]at h):P:=h
theorem agY(h:P:=by rw[HE.o];exact⟨rfl,rfl⟩):P:=h
theorem agZ(h:P:=by unfold iT;omega):P:=h
theorem ag7(h:P:=by unfold gM;grind):P:=h
theorem ag8(h:P:=by simpa using n16):P:=h
theorem ag9(h:P:=by simpa using n15):P:=h
theorem aha(h:P:=by simpa using n14):P:=h
theorem ahb(h:P:=by simpa using n13):P:=h
theorem ahc(h:P:=by simpa using n12):P:=h
theorem ahd(h:P:=by rw[sV];exact hA):P:=h
theorem ahe(h:P:=by kernel_rfl):P:=h
theorem ahf(h:P:=by omega):P:=h
theorem ahg(h:P:=by decide):P:=h
theorem ahh(h:P:=by simp):P:=h
theorem ahi(h:P:=by simp;omega):P:=h
theorem ahj(h:P:=by go_num):P:=h
theorem ahk(h:P:=by rw[HT.o];rfl):P:=h
theorem ahl(h:P:=by rw[hkd];rfl):P:=h
theorem ahm(h:P:=by simpa using h1):P:=h
theorem ahn(h:P:=by rw[dP.o];rfl):P:=h
theorem aho(h:P:=by simpa using h2):P:=h
theorem ahp(h:P:=by subst h;simp):P:=h
theorem ahq(h:P:=by simp[iB]):P:=h
theorem ahr(h:P:=by rw[h1];decide):P:=h
theorem ahs(h:P:=by decide+kernel):P:=h
theorem aht(h:P:=by cases e):P:=h
theorem ahu(h:P:=by simpa using hx):P:=h
theorem ahv(h:P:=by simp at h):P:=h
theorem ahw(h:P:=by rw[HX.o];rfl):P:=h
theorem ahx(h:P:=by simp[hy]):P:=h
theorem ahy(h:P:=by simpa using he):P:=h
theorem ahz(h:P:=by rw[h2];decide):P:=h
theorem ahA(h:P:=by rw[HT2.o];rfl):P:=h
theorem ahB(h:P:=by rw[e];rfl):P:=h
theorem ahC(h:P:=by rw[HE.o];rfl):P:=h
theorem ahD(h:P:=by go_light;grind):P:=h
theorem ahE(h:P:=by simpa using hi):P:=h
theorem ahF(h:P:=by simp <;> omega):P:=h
theorem ahG(h:P:=by cases h):P:=h
theorem ahH(h:P:=by rw[HA.o.2.2.2]):P:=h
theorem ahI(h:P:=by rw[HA.o.2.2.1]):P:=h
theorem ahJ(h:P:=by simpa using hk):P:=h
theorem ahK(h:P:=by simpa using Ae):P:=h
theorem ahL(h:P:=by rw[<- hF];simp):P:=h
theorem ahM(h:P:=by rw[dQ k4];rfl):P:=h
theorem ahN(h:P:=by simpa using h4):P:=h
theorem ahO(h:P:=by rw[hc];rfl):P:=h
theorem ahP(h:P:=by rw[h1];rfl):P:=h
theorem ahQ(h:P:=by cases hx):P:=h
theorem ahR(h:P:=by simp;exact hc):P:=h
theorem ahS(h:P:=by rw[HA.o.2.1]):P:=h
theorem ahT(h:P:=by simp[pq]):P:=h
theorem ahU(h:P:=by simp[gM,hkd]):P:=h
theorem ahV(h:P:=by simpa using n9):P:=h
theorem ahW(h:P:=by simpa using n8):P:=h
theorem ahX(h:P:=by simpa using n7):P:=h
theorem ahY(h:P:=by simpa using n6):P:=h
theorem ahZ(h:P:=by first|rfl|simp):P:=h
theorem ah0(h:P:=by rw[h];decide):P:=h
theorem ah1(h:P:=by rw[HA.o.1]):P:=h
theorem ah2(h:P:=by rw[hop];rfl):P:=h
theorem ah3(h:P:=by simpa using oK):P:=h
theorem ah4(h:P:=by rw[hr1];decide):P:=h
theorem ah5(h:P:=by rw[tH.o];omega):P:=h
theorem ah7(h:P:=by simp;exact h1):P:=h
theorem ah8(h:P:=by simpa using hl):P:=h
theorem ah9(h:P:=by simp[maxLen]):P:=h
theorem aia(h:P:=by simp[bne,h2]):P:=h
theorem aib(h:P:=by rw[xH.o];rfl):P:=h
theorem aic(h:P:=by rw[HV.o];rfl):P:=h
theorem aie(h:P:=by rw[HL.o];omega):P:=h
theorem aif(h:P:=by simpa using n4):P:=h
theorem aii(h:P:=by simpa using n3):P:=h
theorem aij(h:P:=by rw[zC,Bq,oC]):P:=h
theorem aik(h:P:=by rw[h5];simp):P:=h
theorem ail(h:P:=by rw[e1];simp):P:=h
theorem ain(h:P:=by rw[hS];rfl):P:=h
theorem aio(h:P:=by rw[HR.o];rfl):P:=h
theorem aip(h:P:=by simpa using hy):P:=h
theorem aiq(h:P:=by simpa using hu):P:=h
theorem air(h:P:=by simpa using h5):P:=h
theorem ais(h:P:=by simpa using h3):P:=h
theorem ait(h:P:=by simp[h0,h1]):P:=h
theorem aiu(h:P:=by rw[kX.o,hs0]):P:=h
theorem aiv(h:P:=by rw[HR2.o,hv]):P:=h
theorem aiw(h:P:=by rw[HK.o];omega):P:=h
theorem aix(h:P:=by rfl):P:=h
theorem aiy(h:P:=by simpa using h):P:=h
theorem aiz(h:P:=by rw[HE.o]):P:=h
end
section
variable {P:Prop}
theorem Aaa(h:P:=by
 clear hk;have uH:aj (mg W g d= {W with cs:=W.cs++mM d} ∧gD W g d=g):=ah acO;have YB:aj (nA w4 bm n (gD W g d)):=ah agE;have Tn:aj (0<=d.size∧d.size<=4):=ah (by have o1:=(HR.o.ok d aW).1;unfold jF at o1;simp only[aM,decide_eq_true_eq]at o1;exact⟨o1.1.2.1,hs4⟩);obtain⟨J5,cp0,hv0,-,-,-⟩:=gN uO (jQ.o.own (r:=⟨42,5,s.v0,W.cs.length,W.cs.flatMap kM⟩) ahq);have hv0:s.v0= .slice J5 W.cs.length cp0:=hv0;have NT:=ah hv0;have hc0:=jQ.o.cells.2.1;rw[hv0]at hc0;have xu:=ah (ay jQ.o.cells.1 hc0);have zU:=ah dG.o.2;clear hv0 hc0;go_wp2_with fail;have V0:=jN xu.o.1 xu.o.2;have Y0:=jN zU.o z0;have Y1:=jN zU.o z1;have Y2:=jN zU.o z2;have Y3:=jN zU.o z3;have Y4:=jN zU.o z4;have Y5:=jN zU.o z5;clear z0 z1 z2 z3 z4 z5;refine cK ahe rfl ?_;refine bW 0 4 [] [[],[0],[],[2],[0,1,2,3],[0,1,2,3,4],[0,1,2,3,4,5]] [[],[],[],[]] (λ_ w'=>Below w4.heap.size w4 w') (λw w'=>Below w.heap.size w w') [34,35,36,37] rfl rfl aix ahe ahe ahe ahe ahe aix (λ_=>ak _ _) aix (below_drewN (ak _ _) 1) ?_;simp only[gJ,kE]
 iterate 3
  apply bH.step
  case cu=>intro c A w' hok hC hO hD;have e3:=hO 3 aix;have e8:=hO 8 aix;simp[Act.eval]at e3 e8;simp[Act.eval]at hD;simp[go_sem,gd,Oper.wp,hD,e3,e8,V0,hC,Y0,Y1,Y2,Y3,Y4,Y5];exact AbN
 refine bH.some (λv w'=>aQ9 d v w') ?_ ?_ ?_
 ·rintro v wa wb hle ⟨gc,Gz,h1,h2,h3,h4⟩;exact⟨gc,Gz,h1,h2,h3,λj u hu=>(hle.cell (World.block_lt_of_cell? _ _ (h4 j u hu))).trans (h4 j u hu)⟩
 ·intro c A w' hok hC hO hD;simp[Act.eval]at hD;simp[go_sem,gd,Oper.wp,hD];refine(QU d w' Tn.o.1 Tn.o.2).mono ?_;rintro e w5 ⟨gc,Gz,rfl,h4,h2,h3,hb⟩;exact aZ.mk hb (hC.trans (hb.mono hC.size)) ⟨gc,Gz,rfl,h2,h3,h4⟩
 try simp only[dI]
 try simp only[dI]
 refine bH.done ?_;intro wz dx
 try simp only[gJ]
 iterate 3 refine kZ ?_
 intro v3 h3;obtain⟨gc,Gz,rfl,hl0,hl4,hnews⟩:=h3;refine mE ?_;go_simp;have qN:=ah dx;have qD:=ah (jQ.o.below dx);have DI:=ah (YB.o.next dx);have qB:aj (Below (bp+2) wr wz):=ah ((dL.o.trans (dx.mono dL.o.size)).mono aaV);clear V0 Y0 Y1 Y2 Y3 Y4 Y5 dx;refine dD 4 [[],[0],[],[2],[0,1,2,3],[0,1,2,3,4],[0,1,2,3,4,5]] rfl rfl rfl rfl rfl ahe ahe ahe ?_;obtain⟨i0,hi0,hz0,hz1,hz2⟩:=infoP Kv;have hk0:W.cs.length<=1000:=afm;have hfc:((mM d).flatMap kM).length=(mM d).length*5:=rW uO _;refine wp_append_lies wz _ _ _ aix w3.heap.size 42 i0 _ 5 48 Tryz.underlying23 hi0 hz0 hz1 hz2 aix ahf (.slice J5 W.cs.length cp0) W.cs.length (W.cs.flatMap kM) aix (show wz.ownsRow _ _ _ _ _ _ by rw[<- NT.o];exact qD.o.own (r:=⟨42,5,s.v0,W.cs.length,W.cs.flatMap kM⟩) ahq) ⟨gc,0,none⟩ (mM d).length Gz ((mM d).flatMap kM) aix hfc hnews (λu hu=>by obtain⟨x,-,hx⟩:=List.mem_flatMap.1 hu;exact U9 x u hx) hl0 afc ahf qD.o.sz _ rfl ?_;intro g' cap' w5 hown hgr hmv jP;have dW:=ah (qD.o.add (s':= {s with v0:= .slice (some ⟨g',0,none⟩) (W.cs.length+(mM d).length) cap'}) (W':=mg W g d) (pre:=[]) (r:=⟨42,5,s.v0,W.cs.length,W.cs.flatMap kM⟩) (post:=[_,_,_,_,_]) (j:=0) (ak _ _) rfl (by rw[NT.o];exact hgr) (by rw[NT.o];exact hmv) hown af9 rfl);have cj:=dW.o.2.2.1.trans qD.o.cells.2.1;have fj:=dW.o.2.2.2.1 0;clear hown hgr hmv jP hnews hi0 hz0 hz1 hz2 hk0 hfc;rw[NT.o]at cj;go_simp;refine dD 5 [[],[0],[],[2],[0,1,2,3],[0,1,2,3,4],[0,1,2,3,4,5]] rfl rfl rfl rfl rfl ahe ahe ahe ?_;simp[go_sem,Oper.wp];refine dD 6 [[],[0],[],[2],[0,1,2,3],[0,1,2,3,4],[0,1,2,3,4,5]] rfl rfl rfl rfl rfl ahe ahe ahe ?_;simp[go_sem,Oper.wp,cj,fj];refine dH rfl ?_;go_simp;generalize tV:World.setCell w5 _ _=w6 at *;have HN:aj (JL p w3 w3.heap.size (bp+2) bm _ (bp+2) w6 _ (mg W g d) (gD W g d) n (k+1) R):=ah (HR.o.next dW.o.1 (DI.o.same (dW.o.2.2.2.2 bm HR.o.mlt HR.o.KC)) ahf (qB.o.trans (dW.o.2.1 _ (aD _))));clear cj fj hl0 hl4;go_wp2_with fail;go_roundw
 case rel=>exact⟨k+1,R,_,_,_,_,ahj,HN.o⟩
 case measure=>simp[intOf];omega):P:=h
theorem Aab(h:P:=by
 go_wp2_with fail;refine(mO x.op wr).mono ?_;rintro e w3 ⟨rfl,rfl⟩;rw[hs0];go_upto_region 13 with fail;obtain⟨wJ,hwJ⟩: ∃W:World,W=wr:=⟨_,rfl⟩;subst hwJ;clear z0
 try clear y0
 go_loopw [6] (λv6 wz=> ∃(j:Nat) (G':List Bool),v6= .int .i64 ((nG l k j:Nat):Int)∧j<=m∧ou wz gb G'∧ou wz (gb+1) S'∧G'.length=l.length∧(∀q:Nat,G'[q]? =some true->G[q]? =some true∨∃t,t<j∧nG l k t=q)∧(∀q:Nat,G[q]? =some true->G'[q]? =some true)∧(∀t,t<j->G'[nG l k t]? =some true)∧dS jd 6 wz gb l (some ⟨b,off,none⟩) 0∧Below gb w wz) (λ_ wz=>JY wz gb)
 case atStart=>exact⟨0,G,rfl,bC _,oG.o,X5.o,HA.o.gl,λq h=> .inl h,λq h=>h,λt h=>ahf,yj.o,HB2.o⟩
 case round=>
  obtain⟨j,G',rfl,hjm,hg,hs,hgl,h1,h2,h3,hf,hb⟩:=hrel;have hcl':=RZ HO.o hkn HP.o.1 j hjm;obtain⟨c',hc'⟩: ∃c,nG l k j=c:=⟨_,rfl⟩;have xq:=ah hc';rw[hc']at hcl';rw[hc'];have BD:=ah (ay h1 (ay h2 h3));have AU:=ah hg;have Tt:=ah hs;have yK:=ah hgl;have tu:=ah hf;have HB3:=ah hb;clear hc' h1 h2 h3 hg hs hgl hf hb;obtain⟨x',hx'⟩: ∃x,l[c']? =some x:=⟨l[c'],aX hcl'⟩;obtain⟨-,Yo,-⟩:=Sb tu.o hx';have Oz:nZ l c'=og x'.op:=(by unfold nZ;rw[hx']);obtain⟨q',hq'⟩:=YQ yK.o hcl';have y0':=AU.o.cell hq';have f0':wr.frozen? ⟨gb,c',none⟩=false:=bG AU.o;have d0:(0:Int)<=(c':Int):=ahf;have d1:(c':Int)<(l.length:Int):=ahf;have ML:=ah Oz;have Tg:=ah hq';clear hx' Oz hq';have LP:aj (∀t,t<=m->um l (nG l k t)):=ah (LY.o.back HP.o.1);have Sy:aj (j=m->AdI l wr gb (gb+1) G' S'∧∀i,i<k+1->um l i):=ah (λe=>⟨⟨AU.o,Tt.o,yK.o,HSL.o,λq h=>by
   rcases BD.o.1 q h with h|⟨t,ht,rfl⟩
   ·exact HA.o.lands q h
   ·exact LP.o t ahf,λq h=>by
   rcases HP.o.2.2 q h with h|⟨t,ht,rfl⟩
   ·exact BD.o.2.1 q h
   ·exact BD.o.2.2 t ahf⟩,λi hi=>by
   rcases Nat.lt_succ_iff_lt_or_eq.1 hi with h|rfl
   ·exact HJ.o i h
   ·exact LP.o 0 (bC _)⟩)
  have Uz:(og x'.op=false)∨(og x'.op=true∧q'=true)∨(og x'.op=true∧q'=false):=(by cases og x'.op <;> cases q' <;> simp);rcases Uz with vY|⟨vY,rfl⟩|⟨vY,rfl⟩
  ·have HE:=ah (Sy.o (by
    rcases Nat.lt_or_eq_of_le hjm with h|h
    ·exfalso;have:=HP.o.1 j h;rw[xq.o,ML.o,vY]at this;cases this
    ·exact h))
   clear y0' f0';go_wp2_with fail;refine(mO x'.op wr).mono ?_;rintro e w3 ⟨rfl,rfl⟩;rw[vY];go_wp2_with fail;go_roundw
   case rel=>exact⟨k+1,G',S',ahj,ahf,HE.o.1,tu.o,HB3.o,HE.o.2⟩
   case measure=>simp[intOf];omega
  ·have HE:=ah (Sy.o (by
    rcases Nat.lt_or_eq_of_le hjm with h|h
    ·exfalso;rcases BD.o.1 c' Tg.o with h4|⟨t,ht,h4⟩
     ·have:=HP.o.2.1 j h;rw[xq.o,h4]at this;cases this
     ·obtain⟨f,hf⟩:=LP.o 0 (bC _);have:=PO (l:=l) (s:=k) (j:=j) (λt ht=>HP.o.1 t ahf) ht (by rw[h4,xq.o]) f 0 ahf;rw[hf]at this;cases this
    ·exact h))
   go_wp2_with fail;refine(mO x'.op wr).mono ?_;rintro e w3 ⟨rfl,rfl⟩;rw[vY];go_wp2_with fail;go_roundw
   case rel=>exact⟨k+1,G',S',ahj,ahf,HE.o.1,tu.o,HB3.o,HE.o.2⟩
   case measure=>simp[intOf];omega
  ·have hjl:j<m:=by
    rcases Nat.lt_or_eq_of_le hjm with h|h
    ·exact h
    ·exfalso;subst h;have e:c'=c:=(by rw[<- xq.o,HC.o]);subst e;rcases WK.o with h|h
     ·rw[ML.o,vY]at h;cases h
     ·have:=BD.o.2.1 _ h;rw[Tg.o]at this;cases this
   have NR:aj (nZ l c'=true):=ah (by rw[ML.o,vY]);go_wp2_with fail;refine(mO x'.op wr).mono ?_;rintro e w3 ⟨rfl,rfl⟩;rw[vY];go_upto_region 14 with fail;generalize hW:World.setCell wr _ _=w4;have Jq:aj (Below gb wr w4):=ah (by rw[<- hW];exact cB (bQ _ _ _) (aD _) (bg (aI AU.o)));have EL:aj (ou w4 gb (G'.set c' true)):=ah (by rw[<- hW];exact AU.o.set c' true);have qj:aj (ou w4 (gb+1) S'):=ah (by rw[<- hW];exact Tt.o.far (λe=>Nat.succ_ne_self _ e.symm) _ _);have Ck:=ah (tu.o.below Jq.o);have dL:=ah (HB3.o.trans Jq.o);clear hW y0' f0' Yo;go_wp2_with fail;refine(Cb HO.o c' NR.o w4 b off cap hl (Ck.o.mono (bg (aI EL.o)))).mono ?_;rintro e w5 ⟨rfl,rfl⟩;go_wp2_with fail;go_roundw
   case rel=>
    refine⟨j+1,G'.set c' true,by rw[<- xq.o];rfl,ahf,EL.o,qj.o,by rw[List.length_set];exact yK.o,λq hq=> ?_,λq hq=> ?_,λt ht=> ?_,Ck.o,dL.o⟩
    ·rcases(I5 af4).1 hq with h|h
     ·exact .inr ⟨j,Nat.lt_succ_self _,by rw[xq.o,h]⟩
     ·rcases BD.o.1 q h with h|⟨t,h1,h2⟩
      ·exact .inl h
      ·exact .inr ⟨t,ahf,h2⟩
    ·exact(I5 af4).2 (.inr (BD.o.2.1 q hq))
    ·rcases Nat.lt_succ_iff_lt_or_eq.1 ht with h|rfl
     ·exact(I5 af4).2 (.inr (BD.o.2.2 t h))
     ·rw[xq.o];exact(I5 af4).2 (.inl rfl)
   case measure=>show JY w4 gb<JY wr gb;rw[Gv EL.o,Gv AU.o];have:=Lf G' c' Tg.o;omega):P:=h
theorem Aac(h:P:=by
 clear hek Cc h1 h2 hwn
 try clear g5
 clear t0 t1 g0 g1 g2 g3 g4;have yL:aj (Ah W th l.length regs k x=((je x).all (λr=>eB r regs)&&tX W l.length x)):=ah (by rw[fF.o,kX.o];rfl);go_wp2_with fail;refine(K6 x w2).mono ?_;rintro e w3 ⟨JQ,FM,rfl,hin,hb3,-⟩;have Dx:=ah hin;have HB3:=ah hb3;have vI:aj (Below nb w w3):=ah (yJ.o.trans (hb3.mono acP));have TA:=ah ((hb3.block nb (aI uh.o)).trans uh.o);have DY:=ah ((hb3.block (nb+1) (aI DX.o)).trans DX.o);have DZ:=ah ((hb3.block ib (aI zk.o)).trans zk.o);have NV:aj (gq w3 w3.heap.size W s):=ah ((X8.o.below (hb3.mono acP)).mono (by have h1:=iw.o;have h2:=HB2.o.size;have h3:=hb3.size;omega));have Ho:aj (dS jd 6 w3 nb R (some ⟨b1,off,none⟩) (k+1)):=ah (Pw.o.below (hb3.mono acP));have FD:aj (Below (nb+2) W1 w3):=ah (MF.o.trans (hb3.mono acP));have Jv:aj ((je x).length<=3):=ah acT;clear hin hb3 x0 x1 x2 x3 x4 x5;have Ga:aj ((je x).all (λr=>eB r regs)=(je x).all (λr=>eB r regs)):=ah rfl;obtain⟨al,hal⟩: ∃q,(je x).all (λr=>eB r regs)=q:=⟨_,rfl⟩;have lG:=ah hal;rw[hal]at yL;clear hal Ga;generalize je x=rs at *;go_wp2_with fail;obtain⟨wI,Ku⟩: ∃W:World,W=wr:=⟨_,rfl⟩;subst Ku;go_loopw [10,80] (λ_ i wq=> ∃(j:Nat) (S:List Int),i= .int .i64 j∧j+S.length=rs.length∧al=S.all (λr=>eB r regs)∧jR wq wq.heap.size S JQ j∧wq=w3) (λ_ i _=>rs.length -(intOf i).toNat)
 case atStart=>exact⟨0,rs,rfl,ahh,lG.o.symm,Dx.o,rfl⟩
 case round=>
  obtain⟨j,S,rfl,oK,heq2,hin2,rfl⟩:=hrel;have HQ:=ah heq2;have h3:=Jv.o;have t0:wr.cell? ⟨nb+1,0,none⟩=some (.int .i64 regs):=aG DY.o rfl;have t1:wr.cell? ⟨nb+1,1,none⟩=some (.slice (some ⟨b1,off,none⟩) l.length eG):=aG DY.o rfl;clear heq2;cases S with
  |nil=>
   obtain rfl:j=rs.length:=ah3;have HA1:aj (al=true):=ah HQ.o;have AV:aj (Ah W th l.length regs k x=tX W l.length x):=ah (by rw[yL.o,HA1.o];rfl);obtain⟨g0,g1,g2,g3,g4,g5⟩:=zn TA.o;obtain⟨x0,x1,x2,x3,x4,x5⟩:=zn DZ.o;go_wp2_with fail;refine(CZ W s l.length x wr NV.o).mono ?_;rintro e w4 ⟨rfl,hb4⟩;have dL:=ah hb4;have Dr:aj (Below nb w w4):=ah (vI.o.trans (hb4.mono abr));have qj:aj (nb+2<=wr.heap.size):=ah abr;clear hb4 g0 g1 g2 g3 g4 g5 x0 x1 x2 x3 x4 x5 t0 t1;cases ho:tX W l.length x
   ·have HT:aj (res=false):=ah (sj.o (by rw[AV.o,ho]));go_wp2_with fail;go_ret;exact⟨ahk,by rw[dG.o];exact Dr.o⟩
   ·have Sw:aj (wC W th l.length regs 0 l=wC W th l.length regs ((k:Int)+1) R):=ah (by rw[rC.o,AV.o,ho];rfl);go_wp2_with fail;go_roundw
    case rel=>exact⟨k+1,R,ahj,ahf,Sw.o,Ho.o.below (dL.o.mono agk),FD.o.trans (dL.o.mono qj.o)⟩
    case measure=>simp[intOf];omega
  |cons r S=>
   obtain⟨⟨b4,Q8,Ii,hb4,y0⟩,oQ⟩:=hin2;subst Ii;simp only[aB]at oK;have hjl:j<rs.length:=ahf;have HR4:=ah oQ;have sP:aj (al=(eB r regs&&S.all (λr=>eB r regs))):=ah (by rw[HQ.o,List.all_cons]);clear oQ HQ;cases hwr:eB r regs
   ·have HT:aj (res=false):=ah (sj.o (by rw[yL.o,sP.o,hwr];rfl));go_wp2_with fail;refine(lF hwr wr).mono ?_;rintro e w5 ⟨rfl,rfl⟩;exact AbM
   ·have zV:aj (al=S.all (λr=>eB r regs)):=ah (by rw[sP.o,hwr];rfl);go_wp2_with fail;refine(lF hwr wr).mono ?_;rintro e w5 ⟨rfl,rfl⟩;go_wp2_with fail;go_roundw
    case rel=>exact⟨j+1,S,ahj,ahf,zV.o,HR4.o,trivial⟩
    case measure=>simp[intOf];omega):P:=h
theorem Aad(h:P:=by
 clear Cc aw6 hqq h1 h2 g5;have Dx:aj (CW W th l.length regs l k x=(((!(x.op==5)||eB x.a l.length)&&(!(x.op==10)||eB x.b l.length))&&(je x).all (λr=>eB r regs))):=ah (by rw[yL.o,kX.o];rfl);have xB:aj (((!(x.op==5)||eB x.a l.length)&&(!(x.op==10)||eB x.b l.length))=false->res=false):=ah (λh=>sj.o (by rw[Dx.o,h];rfl));clear kX yL Dw;have hj:(((x.op==5)=true∧eB x.a l.length=false)∨((x.op==5)=false∧(x.op==10)=true∧eB x.b l.length=false))∨(((x.op==5)=true∧eB x.a l.length=true∧(x.op==10)=false)∨((x.op==5)=false∧(x.op==10)=true∧eB x.b l.length=true)∨((x.op==5)=false∧(x.op==10)=false)):=by
  have e:(x.op==5)=true->(x.op==10)=false:=λh=>by rw[beq_iff_eq]at h;rw[h];rfl
  revert e;cases (x.op==5) <;> cases (x.op==10) <;> cases eB x.a l.length <;> cases eB x.b l.length <;> simp
 rcases hj with(⟨j5,hwi⟩|⟨j5,j10,hwi⟩)|⟨j5,hwi,j10⟩|⟨j5,j10,hwi⟩|⟨j5,j10⟩
 iterate 2
  ·have HT:aj (res=false):=ah (xB.o (by simp[*]));exact Abt
 all_goals
  have AV:aj (CW W th l.length regs l k x=(je x).all (λr=>eB r regs)):=ah (by rw[Dx.o];simp[*])
  first
  |have Rf:=hwi
   go_wp2_with fail;refine(jw Rf w3).mono ?_;rintro e w4 ⟨rfl,rfl⟩;clear Rf hwi;go_upto_region 14 with fail
  |go_upto_region 14 with fail
  try clear hwi
  try clear j10
  clear j5 Dx xB;go_wp2_with fail;refine(KL x w3).mono ?_;rintro e w4 ⟨JQ,FM,rfl,hin,hb4,-⟩;have fF:=ah hin;have Dr:aj (Below nb w w4):=ah (vI.o.trans (hb4.mono (by have h1:=kH.o;omega)));have as8:=ah ((hb4.block (nb+1) (aI DY.o)).trans DY.o);have Tj:aj (dS jd 6 w4 nb R (some ⟨b1,off,none⟩) (k+1)):=ah (Ho.o.below (hb4.mono (by have h1:=kH.o;omega)));have aq4:aj (Below (nb+2) W1 w4):=ah (FD.o.trans (hb4.mono kH.o));have qj:aj (nb+2<=w4.heap.size):=ah (by have h1:=kH.o;have h2:=hb4.size;omega);have Jv:aj ((je x).length<=3):=ah acT;clear hin hb4 x0 x1 x2 x3 x4 x5 t1;obtain⟨al,hal⟩: ∃q,(je x).all (λr=>eB r regs)=q:=⟨_,rfl⟩;have lG:=ah hal;rw[hal]at AV;clear hal;generalize je x=rs at *;go_wp2_with fail;go_loopw [11] (λi wq=> ∃(j:Nat) (S:List Int),i= .int .i64 j∧j+S.length=rs.length∧al=S.all (λr=>eB r regs)∧jR wq wq.heap.size S JQ j∧Below w4.heap.size w4 wq) (λi _=>rs.length -(intOf i).toNat)
  case atStart=>exact⟨0,rs,rfl,ahh,lG.o.symm,fF.o,ak _ _⟩
  case round=>
   obtain⟨j,S,rfl,oK,heq2,hin2,Ij⟩:=hrel;have HQ:=ah heq2;have Dt:=ah Ij;have h3:=Jv.o;have TB:=ah ((Dt.o.block (nb+1) agk).trans as8.o);have aq8:aj (Below nb w wr):=ah (Dr.o.trans (Dt.o.mono agk));have t0:wr.cell? ⟨nb+1,0,none⟩=some (.int .i64 regs):=aG TB.o rfl;have t1:wr.cell? ⟨nb+1,1,none⟩=some (.slice (some ⟨b1,off,none⟩) l.length eG):=aG TB.o rfl;clear heq2 Ij;cases S with
   |nil=>
    obtain rfl:j=rs.length:=ah3;have Sw:aj (res=IE W th l.length regs l ((k:Int)+1) R):=ah (by rw[rC.o,AV.o,HQ.o];rfl);go_wp2_with fail;go_roundw
    case rel=>exact⟨k+1,R,ahj,ahf,Sw.o,Tj.o.below (Dt.o.mono agk),aq4.o.trans (Dt.o.mono qj.o)⟩
    case measure=>simp[intOf];omega
   |cons r S=>
    obtain⟨⟨b4,Q8,Ii,hb4,y0⟩,oQ⟩:=hin2;subst Ii;simp only[aB]at oK;have hjl:j<rs.length:=ahf;have k0:(0:Int)<=(j:Int):=ahf;have k1:(j:Int)<(rs.length:Int):=ahf;have HR4:=ah oQ;have sP:aj (al=(eB r regs&&S.all (λr=>eB r regs))):=ah (by rw[HQ.o,List.all_cons]);clear oQ HQ;cases hwr:eB r regs
    ·have HT:aj (res=false):=ah (sj.o (by rw[AV.o,sP.o,hwr];rfl));go_wp2_with fail;go_quiet ((go_at_call 39;exact kJ (jw hwr _)));go_wp2_with fail;go_ret;exact⟨ahk,by rw[dG.o];exact below_drewN aq8.o _⟩
    ·have zV:aj (al=S.all (λr=>eB r regs)):=ah (by rw[sP.o,hwr];rfl);go_wp2_with fail;go_quiet ((go_at_call 39;exact kJ (jw hwr _)));go_wp2_with fail;go_roundw
     case rel=>exact⟨j+1,S,ahj,ahf,zV.o,HR4.o.same (below_drewN (ak _ _) _),below_drewN Dt.o _⟩
     case measure=>simp[intOf];omega):P:=h
theorem Aae(h:P:=by
 clear hi hz0 hz1 hz2 hk0 hk1 nk hbs;intro g' cap' w5 hown hgr hmv jP;have dW:=ah (DU.o.add (s':= {s with v1:= .slice (some ⟨g',0,none⟩) (W.ls.length+1) cap'}) (W':=mg W g d) (pre:=[_]) (r:=⟨101,2,s.v1,W.ls.length,W.ls.flatMap mW⟩) (post:=[_,_,_,_]) (j:=1) iJ.o rfl afq aak hown af9 rfl);clear hown hgr hmv jP iV ng;have cj:=dW.o.2.2.1.trans c1;have fj:=dW.o.2.2.2.1 1;clear c0 c1 c2 c3 c4 c5;go_upto_region 21 with fail;generalize tV:World.setCell w5 _ _=w6 at *;have HN:aj (JL p w3 w3.heap.size (bp+2) bm _ (bp+2) w6 _ (mg W g d) (gD W g d) (n+1) (k+1) R):=ah (HR.o.next dW.o.1 (DI.o.same (dW.o.2.2.2.2 bm HR.o.mlt HR.o.KC)) ahf (qB.o.trans (dW.o.2.1 _ (aD _))));clear cj fj;go_wp2_with fail;go_roundw
 case rel=>exact⟨k+1,R,_,_,_,_,ahj,HN.o⟩
 case measure=>simp[intOf];omega):P:=h
theorem Aaf(h:P:=by clear hi hz0 hz1 hz2 hk0 hk1 nk hbs;intro g' cap' w5 hown hgr hmv jP;have dW:=ah (jQ.o.add (s':= {s with v1:= .slice (some ⟨g',0,none⟩) (W.ls.length+1) cap'}) (W':=lZ W d) (pre:=[_]) (r:=⟨101,2,s.v1,W.ls.length,W.ls.flatMap mW⟩) (post:=[_,_,_,_]) (j:=1) iJ.o rfl afq aak hown agM rfl);clear hown hgr hmv jP iV ng;have cj:=dW.o.2.2.1.trans c1;have fj:=dW.o.2.2.2.1 1;exact AaH):P:=h
theorem Aag(h:P:=by have lT:=nL;have fV:=ah (show Mm T H wb _ from Mm.refl _ _ _);exact Aal):P:=h
theorem Aah(h:P:=by have HI3:=ah S3.o.i;have lT:=HI3;have fV:=ah (show Mm T H wb _ from S3.o.m);exact Aal):P:=h
theorem Aai(h:P:=by
 clear NS Kn vZ he1;refine gX F ahe ahe hst ?_
 repeat (any_goals (first|go_big_quiet_step ((first|(go_at_call 36;refine(jK gs h.nm _ iL jf aev ((IZ.o.same HY.o.1).same (HF.o _))).mono ?_;rintro e w' ⟨rfl,rfl⟩;rw[Jl.o];exact⟨rfl,dN.o _ _ (ak _ _)⟩)))|(refine wpQuiet_step (λK hK=> ?_);go_simp;first|(refine hK _ ?_;clear hK K)|(split <;> first|(refine hK _ ?_;clear hK K)|(apply Exists.intro;refine⟨λ_=> ?_,hK _ ?_⟩;((first|(go_at_call 36;refine(jK gs h.nm _ iL jf aev ((IZ.o.same HY.o.1).same (HF.o _))).mono ?_;rintro e w' ⟨rfl,rfl⟩;rw[Jl.o];exact⟨rfl,dN.o _ _ (ak _ _)⟩)));clear hK K)))))
 all_goals (refine wpQuiet_nil ?_;rintro _ ⟨x,rfl⟩)
 replace HY:=ah (HY.o.next (HF.o x));clear d0 d1 d2 d3 d4 d5 d6 d7 d8 d9 tN uY Cy F4 yC F5 Cz F6 CB HF dN hst;generalize F x=W2 at *;go_wp2_with fail;go_meet;exact⟨by first|(rw[HUT.o];rfl)|simp[HUT.o],HY.o⟩):P:=h
theorem Aaj(h:P:=by
 clear hop;cases tx
 all_goals
  repeat
   go_wp2_with fail
   first
   |(go_at_call 124;refine(iW _ _).mono ?_;rintro e' W' ⟨rfl,rfl⟩)
   |(go_at_call 121;refine(jS _ _ _).mono ?_;rintro e' W' ⟨rfl,rfl⟩)
   |(go_at_call 81;refine(jo p.ts h.nm _ aR aH HP.o.2.1 (HP.o.same HY.o.1).2.2.2).mono ?_;rintro e' W' ⟨rfl,rfl⟩;rw[HKK.o])
   |(first
     |(go_at_call 122;refine(jB p i h.nm _ _ _ aQ aR aJ aH hi (HP.o.same HY.o.1)).mono ?_)
     |(go_at_call 123;refine(jO p i h.dY h.xn h.dX h.bM _ aQ aR s.gY aJ aH s.fD hi (HP.o.same HY.o.1) kX.o.1.2.2.2.2.2.1 (kX.o.2.2.1.same HY.o.1)).mono ?_)
     |(go_at_call 120;refine(iR p _ aQ aR aJ aH i eZ dU bc kL pV jg iL pU jf ar _ _ h.nm lG.o (pz.o.same HY.o.1) (nu HY.o)).mono ?_)
     rintro e' W ⟨rfl,hb⟩;replace HY:=ah (HY.o.next hb);clear hb c0 c1 c2 c3 c4 c5 c6 c7 c8 c9 c10 c11 c12 c13 c14 c15 c16 c17 c18;obtain⟨c0,c1,c2,c3,c4,c5,c6,c7,c8,c9,c10,c11,c12,c13,c14,c15,c16,c17,c18,-⟩:=HY.o.cs;skip)
  go_wp2_with fail;go_ret;exact⟨dh aar,HY.o.1⟩):P:=h
theorem Aak(h:P:=by
 clear hop
 repeat
  go_wp2_with fail
  first
  |(go_at_call 124;refine(iW _ _).mono ?_;rintro e' W' ⟨rfl,rfl⟩)
  |(go_at_call 121;refine(jS _ _ _).mono ?_;rintro e' W' ⟨rfl,rfl⟩)
  |(go_at_call 81;refine(jo p.ts h.nm _ aR aH HP.o.2.1 (HP.o.same HY.o.1).2.2.2).mono ?_;rintro e' W' ⟨rfl,rfl⟩;rw[HKK.o])
  |(first
    |(go_at_call 122;refine(jB p i h.nm _ _ _ aQ aR aJ aH hi (HP.o.same HY.o.1)).mono ?_)
    |(go_at_call 123;refine(jO p i h.dY h.xn h.dX h.bM _ aQ aR s.gY aJ aH s.fD hi (HP.o.same HY.o.1) kX.o.1.2.2.2.2.2.1 (kX.o.2.2.1.same HY.o.1)).mono ?_)
    |(go_at_call 120;refine(iR p _ aQ aR aJ aH i eZ dU bc kL pV jg iL pU jf ar _ _ h.nm lG.o (pz.o.same HY.o.1) (nu HY.o)).mono ?_)
    rintro e' W ⟨rfl,hb⟩;replace HY:=ah (HY.o.next hb);clear hb c0 c1 c2 c3 c4 c5 c6 c7 c8 c9 c10 c11 c12 c13 c14 c15 c16 c17 c18;obtain⟨c0,c1,c2,c3,c4,c5,c6,c7,c8,c9,c10,c11,c12,c13,c14,c15,c16,c17,c18,-⟩:=HY.o.cs;skip)
 go_wp2_with fail;go_ret;exact⟨dh aar,HY.o.1⟩):P:=h
theorem Aal(h:P:=by have lV:=ah (fV.o.keep qO.o afh agP (λe=>by have:=bJ.o.h _ e;omega));go_wp2_with fail;refine(HE.o 1 ahg _ H hs lT.o).mono ?_;rintro e w5 ⟨v,rfl,⟨xo,xn,xm,xk,xa,xc,rfl,hok,hst⟩,hM,hI⟩;have HX:=ah (ay hok (hst.mono fV.o.size));have fU:=ah (fV.o.trans (Hx.refl _ _) (hM.mm (H:=H)));have gP:=ah hI;have gF:=ah (hM.keep lV.o afh);clear hok hst hM hI;go_wp2_with fail;refine(fJ ⟨#[120]⟩ xo xn xm xk xa xc w5).mono ?_;rintro e w6 ⟨rfl,hb⟩;have dF:=ah hb;have iN:=ah ((hb.block _ (aI gF.o)).trans gF.o);obtain⟨⟨y0,y1,y2,y3,y4,y5,y6,y7,y8,y9,jM⟩,fz⟩:=gL iN.o;have f0:=fz 0;have f1:=fz 1;have f2:=fz 2;have f3:=fz 3;have f4:=fz 4;have f5:=fz 5;have f6:=fz 6;have f7:=fz 7;have f8:=fz 8;have f9:=fz 9;have f10:=fz 10;clear fz;clear hb;unfold iG fP kr;go_wp2_with fail;exact iA (jk (vQ xo xn xm xk xa xc) nM.o bJ.o eX.o (fU.o.then_ (dF.o.mono fU.o.size) dF.o.size) (Hx.refl _ _) (gP.o.below dF.o) (rQ ae8 afa HX.o.1) (iY iq (.iQ (HX.o.2.next (bR dF.o)) (aD _) (λk h1 _ e=>absurd (bJ.o.h _ e) afB)) eu eu) iN.o rfl) aix rfl):P:=h
theorem Aam(h:P:=by
 clear c0 c1 c2 c3 c4 c5;go_upto_region 21 with fail;generalize tV:World.setCell w5 _ _=w6 at *;have HN:aj (JL p w3 w3.heap.size (bp+2) bm _ (bp+2) w6 _ (mg W g d) (gD W g d) n (k+1) R):=ah (HR.o.next dW.o.1 (DI.o.same (dW.o.2.2.2.2 bm HR.o.mlt HR.o.KC)) ahf (qB.o.trans (dW.o.2.1 _ (aD _))));clear cj fj;go_wp2_with fail;go_roundw
 case rel=>exact⟨k+1,R,_,_,_,_,ahj,HN.o⟩
 case measure=>simp[intOf];omega):P:=h
theorem Aan(h:P:=by
 clear hown hgr hmv jP iV ng;have cj:=dW.o.2.2.1.trans c0;have fj:=dW.o.2.2.2.1 0;clear c0 c1 c2 c3 c4 c5;go_upto_region 15 with fail;generalize tV:World.setCell w5 _ _=w6 at *;have dF:aj (Below (bp+2) w4 w6):=ah (iU.o.trans (dW.o.2.1 _ (aD _)));clear cj fj;go_wp2_with fail;go_roundw
 case rel=>exact⟨n+1,_,_,ahj,ahf,by rw[JW,HVO.o,NW.o,aU,List.append_assoc],dW.o.1,dF.o,JC.o,ar8.o⟩
 case measure=>simp[intOf];omega):P:=h
theorem Aao(h:P:=by
 obtain⟨g,b⟩:=x;have hgi:=hg g b ho;simp only;rw[List.getElem?_take,if_pos hgi];unfold yielded;cases hk:ops[g]? with
 |none=>have:full[g]? =none:=List.getElem?_eq_none (by rw[hlen];exact Array.getElem?_eq_none_iff.1 hk);rw[this];rfl
 |some ok=>
  obtain⟨R,hR⟩:=hf g ok hk;rw[hR];simp only[Option.bind_some];cases hd:ok.dst with
  |none=>rfl
  |some d=>
   simp only[Option.bind_some,Act.eval];cases ht:A.tmps[d]? with
   |none=>simp[ht,undef]
   |some v=>simp only[Array.getD_eq_getD_getElem?,ht,Option.getD_some];cases v <;> first|rfl|(rename_i x;cases x <;> cases b <;> rfl)):P:=h
theorem Aap(h:P:=by
 intro i o' hi;cases i with
 |zero=>simp only[List.getElem?_cons_zero,Option.some.injEq]at hi;subst hi;refine⟨R,by simpa using hget,hm,?_⟩;have:full.take (ents.length+0)=ents:=(by have:=congrArg (List.take ents.length) h2;simpa[List.take_take]using this);rw[this];exact ho
 |succ i=>have hi':rest[i]? =some o':=ahE;have:=h3 i o' hi';rw[show ents.length+(i+1)=ents.length+1+i by omega];exact this):P:=h
theorem Aaq(h:P:=by
 cases Kk:Tk.ji s.data.toList
 ·rw[HE.o,List.all_cons,show pK t=false by unfold pK;rw[dP.o,List.all_cons,Kk];simp]at HS;go_wp2_with fail;go_ret;exact⟨bZ (HS.o.trans ahh).symm,(HC.o.next dL.o).1⟩
 ·have HF:=ah (dP.o.trans (by rw[List.all_cons,Kk];rfl:_=R'.all (λs=>Tk.ji s.data.toList)));go_wp2_with fail;go_roundw
  case rel=>exact⟨k'+1,R',ahj,ahf,HF.o,hrest'.same dL.o,EK.o.trans (dL.o.mono EK.o.size),HC.o.next dL.o⟩
  case measure=>simp[intOf];omega):P:=h
theorem Aar(h:P:=by
 cases hS:EG h b e
 ·have HF:=ah (HE.o.trans (by rw[Dj,hS];rfl:gy (.cons h b e R)=false));go_wp2_with fail;go_ret;exact⟨bZ HF.o.symm,hB.trans (HB3.o.mono hB.size)⟩
 ·have HF:=ah (HE.o.trans (by rw[Dj,hS];rfl:gy (.cons h b e R)=gy R));go_wp2_with fail;go_roundw
  case rel=>exact⟨k+1,R,ahj,acB,HF.o,En,hrest.same HB3.o,hB.trans (HB3.o.mono hB.size)⟩
  case measure=>simp[intOf];omega):P:=h
theorem Aas(h:P:=by
 obtain⟨w4,hup,BN,hg4⟩:=vN.o.put ahf d.nm hok.2.2.1 (gM d) (by have:=uP d;unfold cO;omega);have tF:=ah ((BN.congr (XT h0)));have dL:=ah (HB3.o.trans (cB hg4 (aD _) HB3.o.size));clear BN hg4;go_wp2_with fail;go_roundg R.length
 case measure=>simp
 case rel=>exact⟨k+1,pre++[d],R,c',l',n',f',rfl,ahj,acE,afC,rfl,rfl,rfl,rfl,ahf,HF.o,tF.o,dL.o⟩):P:=h
theorem Aat(h:P:=by refine wp_store_mid _ _ _ aix w.heap.size 0 (bU.f (⟨fP 1 s .nil xo xn xm xk,.nil,.nil,kr xa xc⟩:bU)).toArray aix aix (GV TD.o (aD 11)) aJ9 (all_oneCell_toArray (Nt _)) ?_;refine dH rfl ?_;go_simp;go_wp2_with fail;exact iA (jk (⟨fP 1 s .nil xo xn xm xk,.nil,.nil,kr xa xc⟩:bU) nM.o bJ.o eX.o (ZY.o.1.mm (H:=H)) (Hx.refl _ _) ZY.o.2 (rQ ae8 HX.o.1 HX.o.2.1) (iY iq (.iQ HX.o.2.2 (aD _) (λk h1 _ e=>absurd (bJ.o.h _ e) afB)) eu eu) TD.o rfl) aix rfl):P:=h
theorem Aau(h:P:=by go_wp2_with fail;refine(jB p i h.nm 6 6 _ aQ aR aJ aH hi (HP.o.same HY.o.1)).mono ?_;rintro e' W ⟨rfl,hb⟩;replace HY:=ah (HY.o.next hb);clear hb c0 c1 c2 c3 c4 c5 c6 c7 c8 c9 c10 c11 c12 c13 c14 c15 c16 c17 c18;obtain⟨c0,c1,c2,c3,c4,c5,c6,c7,c8,c9,c10,c11,c12,c13,c14,c15,c16,c17,c18,-⟩:=HY.o.cs;go_wp2_with fail;refine(iW _ _).mono ?_;rintro e' W' ⟨rfl,rfl⟩;go_wp2_with fail;refine(jS _ _ _).mono ?_;rintro e' W' ⟨rfl,rfl⟩;go_wp2_with fail;go_meet;exact⟨rfl,HY.o⟩):P:=h
theorem Aav(h:P:=by
 cases hwi:eB a W.ls.length
 ·go_wp2_with fail;refine(jw hwi W1).mono ?_;rintro e w2 ⟨rfl,rfl⟩;go_wp2_with fail;go_ret;exact⟨by show Ending.returned (Value.bool false)= .returned (.bool (jE W a false));unfold jE;rw[hwi];rfl,HB.o⟩
 ·obtain⟨k,y,hk,hkl,hy⟩:=oF hwi;subst hk;obtain⟨b5,IB,hao,hb5,nP⟩:=AO.o.ls.at k y hy;have z0:=nP 1 _ rfl;simp only[aU]at z0;rw[hao]at c1;have k0:(0:Int)<=(k:Int):=by omega
  have k1:(k:Int)<(W.ls.length:Int):=ahf
  have HT:aj (jE W (k:Int) false=(y.rw==false)):=ah aeW;clear nP hao hy;go_wp2_with fail;refine(jw hwi W1).mono ?_;rintro e w2 ⟨rfl,rfl⟩;go_wp2_with fail;go_ret;exact⟨by show _=Ending.returned (Value.bool (jE W (k:Int) false));rw[HT.o];first|rfl|simp|(cases y;simp_all),HB.o⟩):P:=h
theorem Aaw(h:P:=by
 cases hwi:eB a W.ls.length
 ·go_wp2_with fail;refine(jw hwi W1).mono ?_;rintro e w2 ⟨rfl,rfl⟩;go_wp2_with fail;go_ret;exact⟨by show Ending.returned (Value.bool false)= .returned (.bool (jE W a true));unfold jE;rw[hwi];rfl,HB.o⟩
 ·obtain⟨k,y,hk,hkl,hy⟩:=oF hwi;subst hk;obtain⟨b5,IB,hao,hb5,nP⟩:=AO.o.ls.at k y hy;have z0:=nP 1 _ rfl;simp only[aU]at z0;rw[hao]at c1;have k0:(0:Int)<=(k:Int):=by omega
  have k1:(k:Int)<(W.ls.length:Int):=ahf
  have HT:aj (jE W (k:Int) true=(y.rw==true)):=ah aeW;clear nP hao hy;go_wp2_with fail;refine(jw hwi W1).mono ?_;rintro e w2 ⟨rfl,rfl⟩;go_wp2_with fail;go_ret;exact⟨by show _=Ending.returned (Value.bool (jE W (k:Int) true));rw[HT.o];first|rfl|simp|(cases y;simp_all),HB.o⟩):P:=h
theorem Aax(h:P:=by
 obtain⟨k,y,hk,hkl,hy⟩:=oF hwi;subst hk;obtain⟨b5,IB,hao,hb5,nP⟩:=AO.o.cs.at k y hy;have z0:=nP 2 _ rfl;simp only[aU]at z0;rw[hao]at c0;have k0:(0:Int)<=(k:Int):=ahf
 have k1:(k:Int)<(W.cs.length:Int):=ahf
 have HT:aj (BX W (k:Int)=(y.sz==0)):=ah (by unfold BX;rw[hwi];simp[hy]);clear nP hao hy;go_wp2_with fail;refine(jw hwi W1).mono ?_;rintro e w2 ⟨rfl,rfl⟩;go_wp2_with fail;go_ret;exact⟨by show _=Ending.returned (Value.bool (BX W (k:Int)));rw[HT.o];first|rfl|simp|(cases y;simp_all),HB.o⟩):P:=h
theorem Aay(h:P:=by
 cases hc:(x.nm.toList==nm.toList)
 ·have dP:=ah (HE.o.trans (if_neg (show ¬(x.nm.toList==nm.toList)=true by rw[hc];decide)));go_wp2_with fail;go_roundw
  case rel=>exact⟨k+1,R,ahj,ahf,by simpa using dP.o,HR3.o,HB3.o⟩
  case measure=>simp[intOf];omega
 ·have dP:=ah (HE.o.trans (if_pos hc));go_wp2_with fail;go_ret;exact⟨dh dP.o.symm,HB3.o⟩):P:=h
theorem Aaz(h:P:=by rintro e w2 ⟨rfl,hem⟩;obtain⟨v9,a9,b9,lI,bY⟩:=jI.o.list hem;clear hem;clear bP q0 q1 q2 q3 q4 q5 q6 q8 q9 z0 z1 z2 z3 z5 z6 z7 z8 z9 dV;clear z4;go_wp2_with fail;exact bodyPost_end (v:= .tuple #[]) acH rfl ⟨rfl,bY.qW lI aas⟩):P:=h
theorem AaA(h:P:=by intro c A w' hok hC hO hD;simp[Act.eval]at hD;simp[go_sem,gd,Oper.wp,hD];refine(show Calls _ _ _ _ (λe w5=>e= .returned (.int .i64 (gK W.ts h.nm))∧w'=w5)from by rw[<- zm];exact jK W.ts h.nm w' s.aT s.cT (jI.o.i.below hC).wo.lt ((jI.o.i.below hC).wo.ts.mono (jI.o.i.below hC).b0)).mono ?_;rintro e w5 ⟨rfl,rfl⟩;exact aZ.mk (ak _ _) hC rfl):P:=h
theorem AaB(h:P:=by rintro e w3 ⟨rfl,hem⟩;obtain⟨v9,bY⟩:=S1.o.then hem;have S2:=ah bY;have qh:=ah (S1.o.i.keep hem.choose_spec.2.1);clear hem bY;refine dH rfl ?_;go_simp;go_wp2_with fail;exact bodyPost_end (v:= .tuple #[]) acH rfl ⟨rfl,S2.o.qW rfl abv⟩):P:=h
theorem AaC(h:P:=by rintro e w3 ⟨rfl,hem⟩;obtain⟨v9,bY⟩:=jI.o.then hem;have S2:=ah bY;have qh:=ah (jI.o.i.keep hem.choose_spec.2.1);clear hem bY;go_wp2_with fail;exact bodyPost_end (v:= .tuple #[]) acH rfl ⟨rfl,S2.o.qW rfl abv⟩):P:=h
theorem AaD(h:P:=by rintro e w2 ⟨rfl,hem⟩;obtain⟨v9,a9,b9,lI,bY⟩:=S1.o.list hem;clear hem;refine dH rfl ?_;go_simp;go_wp2_with fail;exact bodyPost_end (v:= .tuple #[]) acH rfl ⟨rfl,bY.qW lI aas⟩):P:=h
theorem AaE(h:P:=by rintro e w2 ⟨rfl,hem⟩;obtain⟨v9,a9,b9,lI,bY⟩:=jI.o.list hem;clear hem;clear bP q0 q1 q2 q3 q4 q5 q6 q8 q9 z0 z1 z2 z3 z5 z6 z7 z8 z9 dV;clear z4;go_wp2_with fail;exact bodyPost_end (v:= .tuple #[]) acH rfl ⟨rfl,bY.qW lI ahh⟩):P:=h
theorem AaF(h:P:=by intro c A w' hok hC hO hD;simp[Act.eval]at hD;simp[go_sem,gd,Oper.wp,hD];refine(Dg W.ls h.nm w' s.aL s.cL (jI.o.i.below hC).wo.ll ((jI.o.i.below hC).wo.ls.mono (jI.o.i.below hC).b0)).mono ?_;rintro e w5 ⟨rfl,rfl⟩;exact aZ.mk (ak _ _) hC rfl):P:=h
theorem AaG(h:P:=by intro c A w' hok hC hO hD;have e0:=hO 0 aix;have e3:=hO 3 aix;simp[Act.eval]at e0 e3;simp[Act.eval]at hD;simp[go_sem,gd,Oper.wp,hD,e0,e3,Y0,Y1,Y2,Y3,Y4,Y5,Y6,Y7,Y8,Y9,uJ,hC,Q1];exact AbN):P:=h
theorem AaH(h:P:=by clear c0 c1 c2 c3 c4 c5;go_upto_region 7 with fail;exact Abf):P:=h
theorem AaI(h:P:=by
 have HN9:aj ((max d.size 1).toNat=n):=ah ahf;have dN:aj (JG p w3 w3.heap.size (bp+2) _ (bp+2) wr s (lZ W d) (k+1) R):=ah (HR.o.next (by rw[HCA.o,HN9.o,<- NW.o];exact su.o) (qB.o.trans iU.o));go_wp2_with fail;go_roundw
 case rel=>exact⟨k+1,R,_,_,ahj,dN.o⟩
 case measure=>simp[intOf];omega):P:=h
theorem AaJ(h:P:=by
 intro hi;cases hg:listed.getD i false with
 |true=>rfl
 |false=>exfalso;have:i∈Region.ready .any l.toArray listed:=mem_ready.2 ⟨abB,l[i],by simp[hi],λe he hb=>ih e.on (hed i l[i] (aX hi) e.on (BP he hb)) (by have:=hed i l[i] (aX hi) e.on (BP he hb);omega)⟩;rw[hr]at this;cases this):P:=h
theorem AaK(h:P:=by
 have:gQ (a.put o.dst v) d=gQ a d:=by
  cases hod:o.dst with
  |none=>rfl
  |some d1=>
   cases d with
   |none=>rfl
   |some d2=>
    have hne:d1≠d2:=λe=>by obtain⟨ok,hok,hdk⟩:=hdst k (some d2) R' hk;exact hik (Fq hnd i k o ok d2 hlo hok (by rw[hod,e]) hdk)
    simp[gQ,Act.eval,Act.put,Array.getElem?_setIfInBounds_ne hne]
 rw[this];exact h1):P:=h
theorem AaL(h:P:=by
 intro s hne;have h1:a.tmps[s]? =a0.tmps[s]?:=hs s (λk d R' hk hl=>hne k d R' hk (getD_set_true hl));cases hod:o.dst with
 |none=>simpa[Act.put]using h1
 |some d=>have hds:d≠s:=hne i d R (by rw[Mj,hod]) (by simp[hls]);simp only[Act.put];rw[Array.getElem?_setIfInBounds_ne hds];exact h1):P:=h
theorem AaM(h:P:=by
 cases hod:o.dst with
 |none=>rw[hod]at hv;exact hv
 |some d=>rw[hod]at hv;simp only[Option.isSome_some,if_true]at hv;have hdl:d<a.tmps.size:=Ξ;simpa[gQ,Act.eval,Act.put,hdl]using hv):P:=h
theorem AaN(h:P:=by refine⟨ao,cap,by rw[e,fM],hl,λw2 h2=> ?_⟩;obtain⟨hI,mK,cap',e',-,hc⟩:=h.cells Bt w2 h2;rw[e]at e';injection e' with e1 e2 e3;subst e1;exact Sj l 0 (λx hx=>⟨hok x hx,hI x hx⟩) (λi x hx=>aam)):P:=h
theorem AaO(h:P:=by
 cases hS:jF d
 ·rw[HE.o,List.all_cons,hS]at HS;go_wp2_with fail;go_ret;exact⟨bZ (HS.o.trans ahh).symm,(HZ.o.next HB3.o).1⟩
 ·have HF:=ah (HE.o.trans (by rw[List.all_cons,hS];rfl:_=R.all jF));go_wp2_with fail;go_roundw
  case rel=>exact⟨k+1,R,ahj,ahf,HF.o,hrest.same HB3.o,HZ.o.next HB3.o⟩
  case measure=>simp[intOf];omega):P:=h
theorem AaP(h:P:=by
 have HB2:=ah (HF.o x);clear d0 d1 d2 d3 d4 d5 y0 y1 y2 y3 HF dN hst;generalize F x=W2 at *;go_wp2_with fail;go_roundw
 case rel=>exact⟨k+1,rest,_,ahj,rfl,acD,dP.o.trans (Rl p i op' n' nm' iy rest),pR,hrest.same HB2.o,HZ.o.next HB2.o⟩
 case measure=>simp[intOf];omega):P:=h
theorem AaQ(h:P:=by
 go_enter Tryz.func152,Tryz.ntmps152;go_wp2_with fail;generalize hW:World.alloc w _=W;have HX:=ah (xO.mk hW);clear hW;obtain⟨-,-,c0,c1,c2,c3⟩:=HX.o;go_quiet (first|(go_at_call 171;refine kJ (Ak _ _)));go_wp2_with fail
 all_goals go_ret
 all_goals exact⟨bZ HR.o.symm,(HX.o.draws _).1⟩):P:=h
theorem AaR(h:P:=by have HA:aj (dc d c=c+1∧dl d l=l∧dn d n=n∧df d f=f):=ah (by simp[dc,dl,dn,df,hkd,hs0] <;> first|rfl|omega);have G8:=ah hm;rw[hm];clear hm hkd hs0;go_wp2_with fail;go_meet;exact⟨rfl,by rw[G8.o],ah1,ahS,ahI,ahH⟩):P:=h
theorem AaS(h:P:=by
 rcases h.row.2 with⟨rfl,hn⟩|⟨g',cap,cur,rfl,hb,hg,h1,h2,h3,h4⟩
 ·have:A=[]:=List.eq_nil_of_length_eq_zero hn;subst this;exact⟨none,0,rfl,trivial⟩
 ·refine⟨_,_,rfl,av4 h.b0 (aI hg) A 0 (λj u hu=> ?_) h.tO⟩;rw[Nat.zero_mul,aU,cell_of_row w g' j cur _ (0,0) hg];rw[<- h4,List.getElem?_take]at hu;split at hu
  ·simpa using hu
  ·cases hu):P:=h
theorem AaT(h:P:=by
 have xH:aj (res=r1):=ah (zP.o.trans (if_pos hr1));have HX0:aj (r1.err≠0):=ah afu;clear zP DN;go_wp2_with fail
 go_ret2
 refine⟨qY aib aib,LW.o,λh0=> ?_⟩;rw[xH.o]at h0;exact(HX0.o h0).elim):P:=h
theorem AaU(h:P:=by intro c A w' hok hC hO hD;simp[Act.eval]at hD;obtain⟨⟨s,hs,hsz⟩,xo,xn,xm,xk,xa,xc,hv,hok1,UK⟩:=hD;simp[go_sem,gd,Oper.wp,hs,hv];refine(fJ s xo xn xm xk xa xc w').mono ?_;rintro e w6 ⟨rfl,hb⟩;exact aZ.mk (TF.of_below hb) ⟨hC.1.trans (TF.of_below hb),hC.2.below hb⟩ ⟨s,xo,xn,xm,xk,xa,xc,rfl,hsz,hok1,UK.next (bR hb)⟩):P:=h
theorem AaV(h:P:=by
 cases hc:(x.nm.toList==nm.toList)
 ·have dP:=ah (HE.o.trans (if_neg (show ¬(x.nm.toList==nm.toList)=true by rw[hc];decide)));exact Abh
 ·have dP:=ah (HE.o.trans (if_pos hc));go_wp2_with fail;go_ret;exact⟨dh dP.o.symm,rfl⟩):P:=h
theorem AaW(h:P:=by intro g' cap' w5 hown5 hgr hmv jP;have hM:=hC.bh3 (q:=(g',cap')) (w':=w5) hDn ahg hb hh ⟨hown5,jD (GH hbl) hgr,by rcases hmv with h|h;exact .inl h;exact .inr (by rw[h];exact hbl.size)⟩ hgr.size (λk h1 h2=>hgr.block k h2 (λe=>by have:=HOW.o k e.symm;omega));exact jU.mk hM.1 hM.2 ⟨(g',cap'),rfl,rfl⟩):P:=h
theorem AaX(h:P:=by have z0:=zc 0 _ rfl;have z1:=zc 1 _ rfl;have z2:=zc 2 _ rfl;have z3:=zc 3 _ rfl;have z4:=zc 4 _ rfl;have z5:=zc 5 _ rfl;simp[mR,ni,gQ,Act.eval,Region.binds]at hD;simp[go_sem,tQ,Oper.wp,hD,e3,z0,z1,z2,z3,z4,z5];exact jU.mk (Ag.le_refl _ _ _) (hC.skip _ ahg) (ni.mk _ _ _)):P:=h
theorem AaY(h:P:=by intro D A g w' hDn hC hO hD;have e0:=hO 0 aix;simp[Act.eval]at e0;simp[mR,ni,gQ,Act.eval,Region.binds]at hD;simp[go_sem,tQ,Oper.wp,hD,e0];exact jU.mk (Ag.le_refl _ _ _) (hC.skip _ ahg) (ni.mk _ _ _)):P:=h
theorem AaZ(h:P:=by
 cases hc:(s.nm.toList==nm.toList)
 ·have dP:=ah (HE.o.trans (if_neg (show ¬(s.nm.toList==nm.toList)=true by rw[hc];decide)));exact AbA
 ·have dP:=ah (HE.o.trans (if_pos hc));go_wp2_with fail;go_ret;exact⟨dh dP.o.symm,rfl⟩):P:=h
theorem Aba(h:P:=by have hk4:(d.kind==2)=false:=ahl;have hk5:(d.kind==3)=false:=ahl;exact Abg):P:=h
theorem Abb(h:P:=by intro c A w' hok hC hO hD;obtain⟨x,y,rfl⟩:=hC.bits;obtain⟨rfl,rfl,-⟩:=hok;have hw:w'=W1.alloc _:=hC;subst hw;simp[Act.eval]at hD;simp[go_sem,gd,Oper.wp,hD];exact aZ.EA (v:=undef) trivial (AC.fill aix aix) trivial):P:=h
theorem Abc(h:P:=by intro c A w' hok hC hO hD;have e0:=hO 0 aix;simp[Act.eval]at e0;simp[Act.eval]at hD;simp[go_sem,gd,Oper.wp,hD,e0,K0,K1,AC.below HD1 hC,K2];exact aZ.mk trivial (AC.skip aix aix hC) (dO.mk _ _)):P:=h
theorem Abd(h:P:=by
 have hq':e28= !ek:=(by cases e28 <;> cases ek <;> simp_all);subst hq';cases ek
 ·have HT:aj (res=false):=ah (sj.o NP.o);exact AbH
 ·have HT:aj (res=false):=ah (sj.o NP.o);exact AbH):P:=h
theorem Abe(h:P:=by
 go_wp2_with fail;go_quiet (fail);go_wp2_with fail;go_quiet (fail);go_wp2_with fail;go_roundw
 case rel=>exact⟨k+1,some x,R,ahj,HR2.o,ahf,kF.o,⟨k,rfl,uV.o,by have:=HKJ.o;omega,by have:=HKJ.o;omega⟩,abS⟩
 case measure=>simp[intOf];omega):P:=h
theorem Abf(h:P:=by
 generalize tV:World.setCell w5 _ _=w6 at *;have HN:aj (JG p w3 w3.heap.size (bp+2) _ (bp+2) w6 _ (lZ W d) (k+1) R):=ah (HR.o.next dW.o.1 (qB.o.trans (dW.o.2.1 _ (aD _))));clear cj fj;go_wp2_with fail;go_roundw
 case rel=>exact⟨k+1,R,_,_,ahj,HN.o⟩
 case measure=>simp[intOf];omega):P:=h
theorem Abg(h:P:=by have UH:(d.kind==4)=false:=ahl;have hk7:(d.kind==5)=false:=ahl;clear hkd;go_wp2_with fail;go_meet;exact⟨rfl,ah1,ahS,ahI,ahH⟩):P:=h
theorem Abh(h:P:=by
 go_wp2_with fail;go_round
 case rel=>exact⟨k+1,R,ahj,ahf,by simpa using dP.o,hrest⟩
 case measure=>simp[intOf];omega):P:=h
theorem Abi(h:P:=by exact aZ.mk (d:=_) (v:= .slice (some ⟨_,0,none⟩) 1 1) (aA _ _) (hC.trans ((aA _ _).mono hC.size)) ⟨_,rfl,heap_alloc_new _ _⟩):P:=h
theorem Abj(h:P:=by
 rcases k6.own.2 with h1|⟨g,cap,cur,h1,h2,h3,h4⟩
 ·exact .inl h1
 ·exact .inr ⟨g,cap,cur,h1,h2,(bF w _ _ rfl (by intro e;exact h.nm (by rw[<- k5,h1,<- e];rfl))).trans h3,h4⟩):P:=h
theorem Abk(h:P:=by have G8:=ah hm;rw[hm];clear hm hkd;go_wp2_with fail;go_meet;exact⟨rfl,by rw[G8.o],ah1,ahS,ahI,ahH⟩):P:=h
theorem Abl(h:P:=by
 go_wp2_with fail;go_quiet (fail);go_wp2_with fail
 go_ret2
 exact⟨jW (congrArg Prod.fst HF.o) (congrArg Prod.snd HF.o),below_drewN HB3.o _⟩):P:=h
theorem Abm(h:P:=by intro D A g w' hDn hC hO hD;simp[mR,ni,gQ,Act.eval,Region.binds]at hD;simp[go_sem,tQ,Oper.wp,hD];exact jU.mk (Ag.le_refl _ _ _) (hC.skip _ ahg) (ni.mk _ _ _)):P:=h
theorem Abn(h:P:=by intro c A w' hok hC hO hD;have e8:=hO 8 aix;simp[Act.eval]at e8;simp[Act.eval]at hD;simp[go_sem,gd,Oper.wp,hD,e8];exact aZ.mk rfl hC (dO.mk _ _)):P:=h
theorem Abo(h:P:=by intro c A w' hok hC hO hD;obtain⟨x,y,rfl⟩:=hC.bits;obtain⟨rfl,rfl,-⟩:=hok;have hw:w'=W1:=hC;subst hw;simp[go_sem,gd,Oper.wp];exact aZ.mk trivial (AC.lay aix aix) (dO.mk _ _)):P:=h
theorem Abp(h:P:=by intro c A w' hok hC hO hD;simp[Act.eval]at hD;simp[go_sem,gd,Oper.wp,hD];exact aZ.mk trivial (AC.skip aix aix hC) (dO.mk _ _)):P:=h
theorem Abq(h:P:=by generalize F x=W2 at *;go_wp2_with fail;go_ret;exact⟨dh aar,HY.o.1⟩):P:=h
theorem Abr(h:P:=by rw[hnb];clear hW hnb;go_wp2_with fail;refine(lF hwi W1).mono ?_;rintro e w2 ⟨rfl,rfl⟩;go_wp2_with fail;go_ret;exact⟨rfl,HB.o⟩):P:=h
theorem Abs(h:P:=by go_wp2_with fail;go_quiet (fail);go_wp2_with fail;go_quiet (fail);go_wp2_with fail;go_ret;exact⟨ahA,aau⟩):P:=h
theorem Abt(h:P:=by go_wp2_with fail;refine(jw hwi w3).mono ?_;rintro e w4 ⟨rfl,rfl⟩;exact AbM):P:=h
theorem Abu(h:P:=by have HT:aj (res=false):=ah (Jo.o (by unfold oO;omega));exact AbJ):P:=h
theorem Abv(h:P:=by
 obtain rfl:k=l.length:=afb
 go_wp2_with fail;go_ret;exact⟨dh HE.o.symm,rfl⟩):P:=h
theorem Abw(h:P:=by
 go_enter Tryz.func31,Tryz.ntmps31;go_wp2
 all_goals (go_ret;exact lX (l:=[a]) rfl rfl rfl)):P:=h
theorem Abx(h:P:=by intro c A w' hok hC hO hD;simp[Act.eval]at hD;simp[go_sem,gd,Oper.wp,hD];exact AbN):P:=h
theorem Aby(h:P:=by
 go_enter Tryz.func20,Tryz.ntmps20;go_wp2
 all_goals (go_ret;exact lX (l:=[a]) rfl rfl rfl)):P:=h
theorem Abz(h:P:=by
 go_wp2_with fail;go_round
 case rel=>exact⟨k'+1,Q,ahj,ahf,HF.o,hrest'⟩
 case measure=>simp[intOf];omega):P:=h
theorem AbA(h:P:=by
 go_wp2_with fail;go_round
 case rel=>exact⟨k+1,R,ahj,ahf,dP.o,hrest⟩
 case measure=>simp[intOf];omega):P:=h
theorem AbB(h:P:=by go_wp2_with fail;go_ret;exact⟨ahk,by rw[dG.o];exact pY.o.trans ((aA _ _).mono afi)⟩):P:=h
theorem AbC(h:P:=by go_wp2_with fail;refine(zA _ _ W1).mono ?_;rintro e w2 ⟨rfl,rfl⟩;go_wp2_with fail;go_ret;exact⟨rfl,HB.o⟩):P:=h
theorem AbD(h:P:=by rintro e w5 ⟨rfl,hb⟩;exact aZ.mk hb (hC.trans (hb.mono hC.size)) rfl):P:=h
theorem AbE(h:P:=by rintro e' w2 ⟨rfl,hb⟩;exact aZ.mk hb (hC.trans (hb.mono hC.size)) (dO.mk _ _)):P:=h
theorem AbF(h:P:=by exact aZ.mk trivial (C3.skip aix aix aix hC) (dO.mk _ _)):P:=h
theorem AbG(h:P:=by go_wp2_with fail;go_ret;exact⟨ahk,by rw[dG.o];exact HB0.o⟩):P:=h
theorem AbH(h:P:=by go_wp2_with fail;go_ret;exact⟨ahk,by rw[dG.o];exact yJ.o⟩):P:=h
theorem AbI(h:P:=by go_wp2_with fail;go_ret;exact⟨ahk,by rw[dG.o];exact AQ.o⟩):P:=h
theorem AbJ(h:P:=by go_wp2_with fail;go_ret;exact⟨ahk,by rw[dG.o];exact HB.o⟩):P:=h
theorem AbK(h:P:=by
 go_wp2_with fail
 go_ret2
 rw[HT.o];exact⟨rfl,by rw[vJ.o];exact HB3.o⟩):P:=h
theorem AbL(h:P:=by
 go_wp2_with fail
 go_ret2
 rw[HT.o];exact⟨rfl,by rw[dG.o];exact tC.o.b⟩):P:=h
theorem AbM(h:P:=by go_wp2_with fail;go_ret;exact⟨ahk,by rw[dG.o];exact vI.o⟩):P:=h
theorem AbN(h:P:=by exact aZ.mk (ak _ _) hC (dO.mk _ _)):P:=h
end
theorem aI {α:Type _} {a:Array α} {i:Nat} {x:α} (h:a[i]? =some x):i<a.size:=(Array.getElem?_eq_some_iff.1 h).1
theorem au {α:Type _} {a b:List α} :(a++b).length=a.length+b.length:=List.length_append
theorem aB {α:Type _} {a:α} {l:List α} :(a::l).length=l.length+1:=List.length_cons
theorem aP {α:Type _} :([]:List α).length=0:=List.length_nil
theorem fM {α:Type _} {β:Type _} {l:List α} (f:α->β):(l.map f).length=l.length:=List.length_map f
theorem aV {n m k:Nat} (h:n<m) (g:m<=k):n<k:=Nat.lt_of_lt_of_le h g
theorem aO {n m k:Nat} (h:n<=m) (g:m<=k):n<=k:=Nat.le_trans h g
theorem aD (n:Nat):n<=n:=Nat.le_refl n
theorem bC (n:Nat):0<=n:=Nat.zero_le n
theorem aU (n:Nat):0+n=n:=Nat.zero_add n
theorem jv (n:Nat):n<=n+1:=Nat.le_succ n
theorem bg {n m:Nat} (h:n<m):n<=m:=Nat.le_of_lt h
theorem aM (a b:Bool):((a&&b)=true)=(a=true∧b=true):=Bool.and_eq_true a b
theorem ay {a b:Prop} (h:a) (g:b):a∧b:=⟨h,g⟩
theorem aW {α:Type _} {a:α} {l:List α} :a∈a::l:=List.mem_cons_self
theorem aY {α:Type _} (b:α) {a:α} {l:List α} (h:a∈l):a∈b::l:=List.mem_cons_of_mem b h
theorem aX {α:Type _} {l:List α} {i:Nat} (h:i<l.length):l[i]? =some l[i]:=List.getElem?_eq_getElem h
theorem ak (B:Nat) (w:World):Below B w w:=Below.refl B w
def aj (p:Prop):Prop:=p
theorem aj.o {p:Prop} (h:aj p):p:=h
theorem ah {p:Prop} (h:p):aj p:=h
theorem dI {α:Type} :(∀l:List α,[]++l=l)∧∀(a:α) (l m:List α),(a::l)++m=a::(l++m):=⟨λ_=>rfl,λ_ _ _=>rfl⟩
theorem Rj (w:World) (cs:List Value) (t:TypeId) (k:Nat):(w.alloc (.cells cs.toArray t)).cell? ⟨w.heap.size,k,none⟩=cs[k]?:=by
 rw[cell_of_row _ w.heap.size k cs.toArray t (0,0) (heap_alloc_new w _)];simp
end Go.Proofs.YtcjgfgkllmldpaaGreatDoor
end
section
namespace Go.Proofs.YtcjgfgkllmldpaaGreatDoor
open Go.RowKit
def Ew (k:Nat):List UInt8:=Tk.Ky.getD k []
def Q5 (k:Nat):ByteArray:=⟨(Ew k).toArray⟩
theorem UZ (k:Nat) (h:k<Tk.Ky.length):Ew k=Tk.Ky[k]:=by unfold Ew;simp[h]
theorem bZ {a b:Bool} (h:a=b):Ending.returned (.bool a)= .returned (.bool b):=by rw[h]
theorem dh {k:IntKind} {a b:Int} (h:a=b):Ending.returned (.int k a)= .returned (.int k b):=by rw[h]
def Ls:Array Value:=(Tk.Ky.map λl=>Value.string ⟨l.toArray⟩).toArray
def eD (w:World):Prop:= ∃t fr,w.heap[0]? =some (.cells Ls t fr)
theorem eD.below {B:Nat} {w w':World} (h:eD w) (hb:Below B w w') (hB:0<B):eD w':=by
 obtain⟨t,fr,h⟩:=h;exact⟨t,fr,(hb.block _ hB).trans h⟩
theorem eD.lt {w:World} (h:eD w):0<w.heap.size:=by
 obtain⟨t,fr,h⟩:=h;exact(aI h)
theorem eD.same {w w':World} (h:eD w) (hb:Below w.heap.size w w'):eD w':=h.below hb h.lt
theorem eD.alloc {w:World} (h:eD w) (o:Obj):eD (w.alloc o):=h.same ((ak _ _).alloc (aD _) o)
theorem ay1 (k:Nat) (hk:k<22) (w:World):(Instr.index 179 (.agg Ls) (.int .i64 (k:Int))).run Tryz.prog w= .ok (.string (Q5 k)) w:=by
 rcases(show k=0∨k=1∨k=2∨k=3∨k=4∨k=5∨k=6∨k=7∨k=8∨k=9∨k=10∨k=11∨k=12∨k=13∨k=14∨k=15∨k=16∨k=17∨k=18∨k=19∨k=20∨k=21 by omega)with rfl|rfl|rfl|rfl|rfl|rfl|rfl|rfl|rfl|rfl|rfl|rfl|rfl|rfl|rfl|rfl|rfl|rfl|rfl|rfl|rfl|rfl <;> kernel_rfl
theorem Mr (k:Nat):(Q5 k).toList=Ew k:=by
 unfold Q5;rw[Lib.toList_data]
theorem aj4 (k:Nat) (hk:k<22) (l:List UInt8) (h:(l==Ew k)=true):Tk.wE l=true:=by
 have hl:Tk.Ky.length=22:=rfl;unfold Tk.wE;rw[List.contains_iff_mem,show l=Ew k from aiy,UZ _ ahf];exact List.getElem_mem _
theorem aI3 (l:List UInt8) (h: ∀k<22,(l==Ew k)=false):Tk.wE l=false:=by
 have hl:Tk.Ky.length=22:=rfl;unfold Tk.wE;rw[Bool.eq_false_iff];intro hc;rw[List.contains_iff_mem]at hc;obtain⟨k,hk,e⟩:=List.getElem_of_mem hc;have:=h k ahf;rw[UZ _ hk,e]at this;simp at this
def TK (l:List UInt8) (k:Nat):Prop:= ∀j<k,(l==Ew j)=false
theorem TK.step {l:List UInt8} {k:Nat} (h:TK l k) (hk:(l==Ew k)=false):TK l (k+1):=by
 intro j hj;by_cases e:j=k
 ·subst e;exact hk
 ·exact h j ahf
theorem C8 (s:ByteArray) (w:World) (h:eD w):
 Calls Tryz.prog 93 #[.string s] w λe w'=>e= .returned (.bool (Tk.wE s.data.toList))∧w=w':=by
 obtain⟨t,fr,hg⟩:=h;rw[<- Lib.toList_data];go_enter Tryz.func93,Tryz.ntmps93;go_wp2_with (refine wpList_load_row rfl 179 _ rfl 0 rfl t _ fr _ hg Tryz.underlying179 rfl ahe ?_);clear hg;go_loop [6] (λi=> ∃k:Nat,k<=22∧i= .int .i64 k∧TK s.toList k) (λi=>22 -(intOf i).toNat)
 case atStart=>exact⟨0,bC _,rfl,λj hj=>absurd hj ahf⟩
 case round=>
  obtain⟨k,hk,rfl,hno⟩:=hrel;by_cases hlt:k<22
  ·have hix:=ay1 k hlt;have hat:=Mr k;by_cases he:(s.toList==Ew k)=true
   ·go_wp2;go_ret;exact⟨bZ (aj4 k hlt _ he).symm,rfl⟩
   ·have he':(s.toList==Ew k)=false:=ahy;clear he;go_wp2;go_round
    case rel=>exact⟨k+1,ahf,ahj,hno.step he'⟩
    case measure=>simp[intOf];omega
  ·obtain rfl:k=22:=by omega
   go_wp2;go_ret;exact⟨bZ (aI3 _ hno).symm,rfl⟩
end Go.Proofs.YtcjgfgkllmldpaaGreatDoor
end
section
namespace Go.Proofs.YtcjgfgkllmldpaaGreatDoor
open Go.RowKit
theorem bg6 (c:UInt8):Tk.mG c=((Tk.CO c||Tk.mV c)||((c.toNat:Int)==95)):=rfl
theorem UR (c:UInt8) (h:Tk.CO c=true):Tk.mG c=true:=by rw[bg6,h];rfl
theorem Fj (c:UInt8):(Tk.mG c=true∧Tk.uD (c.toNat:Int)=true)∨(Tk.mG c=true∧Tk.uD (c.toNat:Int)=false∧Tk.sU (c.toNat:Int)=true)∨
 (Tk.mG c=true∧Tk.uD (c.toNat:Int)=false∧Tk.sU (c.toNat:Int)=false∧((c.toNat:Int)==95)=true)∨
 (Tk.mG c=false∧Tk.uD (c.toNat:Int)=false∧Tk.sU (c.toNat:Int)=false∧((c.toNat:Int)==95)=false):=by
 have e:Tk.mG c=((Tk.uD (c.toNat:Int)||Tk.sU (c.toNat:Int))||((c.toNat:Int)==95)):=rfl;rw[e];cases Tk.uD (c.toNat:Int) <;> cases Tk.sU (c.toNat:Int) <;> cases ((c.toNat:Int)==95) <;> simp
end Go.Proofs.YtcjgfgkllmldpaaGreatDoor
end
section
namespace Go.Proofs.YtcjgfgkllmldpaaGreatDoor.Tk
theorem Dn (c:UInt8):mV c=true↔48<=c.toNat∧c.toNat<=57:=by
 unfold mV sU;simp only[aM,decide_eq_true_eq];omega
theorem ag1 (l:List UInt8): ∀n:Nat,l.foldl (λn c=>10*n+(c.toNat -48)) n=n*10 ^ l.length+val l:=by
 induction l with
 |nil=>intro n;simp[val]
 |cons c l ih=>intro n;have h0:=ih (10*0+(c.toNat -48));have h1:=ih (10*n+(c.toNat -48));unfold val;simp only[List.foldl_cons];rw[h1,h0,aB,Nat.pow_succ];simp only[Nat.mul_zero,aU,Nat.add_mul];rw[Nat.add_assoc,Nat.mul_comm 10 n,Nat.mul_assoc,Nat.mul_comm 10]
theorem za (c:UInt8) (l:List UInt8):val (c::l)=(c.toNat -48)*10 ^ l.length+val l:=by
 have:=ag1 l (10*0+(c.toNat -48));unfold val at *;simp only[List.foldl_cons];rw[this];simp
theorem GZ: ∀(l:List UInt8),l.all mV=true->val l<10 ^ l.length
 | [],_=>by simp[val]
 |c::l,h=>by rw[List.all_cons,aM,Dn]at h;have:=GZ l h.2;rw[za,aB,Nat.pow_succ];have h9:(c.toNat -48)*10 ^ l.length<=9*10 ^ l.length:=Nat.mul_le_mul_right _ ahf;omega
theorem bm9 (c:UInt8) (l:List UInt8) (h:mV c=true) (h0:c≠48):10 ^ l.length<=val (c::l):=by
 rw[Dn]at h;have hc:c.toNat≠48:=λe=>h0 (UInt8.toNat_inj.1 e);rw[za];have:1*10 ^ l.length<=(c.toNat -48)*10 ^ l.length:=Nat.mul_le_mul_right _ ahf;omega
theorem IK: ∀l:List UInt8,val (l.dropWhile (· ==48))=val l
 | []=>rfl
 |c::l=>by
  rw[List.dropWhile_cons];split
  ·rename_i h;have:c=48:=by simpa using h
   subst this;rw[IK l,za];simp
  ·rfl
theorem Hz (p q:UInt8->Bool): ∀l:List UInt8,l.all p=true->(l.dropWhile q).all p=true
 | [],_=>rfl
 |c::l,h=>by
  rw[List.dropWhile_cons];split
  ·rw[List.all_cons,aM]at h;exact Hz p q l h.2
  ·exact h
theorem V6: ∀(a b:List UInt8),a.all mV=true->b.all mV=true->a.length=b.length->Op.bytesLess a b=decide (val a<val b)
 | [],[],_,_,_=>rfl
 |a::x,b::y,ha,hb,hl=>by
  rw[List.all_cons,aM]at ha hb;have hl':x.length=y.length:=ah8
  have ih:=V6 x y ha.2 hb.2 hl';have hx:=GZ x ha.2;have hy:=GZ y hb.2;have h1:=(Dn a).1 ha.1;have h2:=(Dn b).1 hb.1;unfold Op.bytesLess;rw[ih,za,za,hl'];rw[hl']at hx;generalize 10 ^ y.length=T at *;rcases Nat.lt_trichotomy a.toNat b.toNat with h|h|h
  ·have e1:a<b:=UInt8.lt_iff_toNat_lt.2 h;have:(a.toNat -48)*T+T<=(b.toNat -48)*T:=by
    have:=Nat.mul_le_mul_right T (show a.toNat -48+1<=b.toNat -48 by omega)
    rwa [Nat.add_mul,Nat.one_mul]at this
   have e2:(a.toNat -48)*T+val x<(b.toNat -48)*T+val y:=ahf
   simp[e1,e2]
  ·have e1:a=b:=UInt8.toNat_inj.1 h;subst e1;have e2: ¬a<a:=by rw[UInt8.lt_iff_toNat_lt];omega
   simp
  ·have e1: ¬a<b:=by rw[UInt8.lt_iff_toNat_lt];omega
   have e2:a≠b:=λe=>by rw[e]at h;omega
   have:(b.toNat -48)*T+T<=(a.toNat -48)*T:=by
    have:=Nat.mul_le_mul_right T (show b.toNat -48+1<=a.toNat -48 by omega)
    rwa [Nat.add_mul,Nat.one_mul]at this
   have e3: ¬(a.toNat -48)*T+val x<(b.toNat -48)*T+val y:=ahf
   simp[e1,e2,e3]
 | [],_::_,_,_,h=>ahv
 |_::_,[],_,_,h=>ahv
theorem val_inj: ∀(a b:List UInt8),a.all mV=true->b.all mV=true->a.length=b.length->val a=val b->a=b
 | [],[],_,_,_,_=>rfl
 |a::x,b::y,ha,hb,hl,hv=>by
  rw[List.all_cons,aM]at ha hb;have hl':x.length=y.length:=ah8
  have hx:=GZ x ha.2;have hy:=GZ y hb.2;have h1:=(Dn a).1 ha.1;have h2:=(Dn b).1 hb.1;have hv':=hv;rw[za,za,hl']at hv;rw[hl']at hx;have hab:a.toNat=b.toNat:=by
   generalize 10 ^ y.length=T at *;rcases Nat.lt_trichotomy a.toNat b.toNat with h|h|h
   ·have:=Nat.mul_le_mul_right T (show a.toNat -48+1<=b.toNat -48 by omega);rw[Nat.add_mul,Nat.one_mul]at this;omega
   ·exact h
   ·have:=Nat.mul_le_mul_right T (show b.toNat -48+1<=a.toNat -48 by omega);rw[Nat.add_mul,Nat.one_mul]at this;omega
  obtain rfl:a=b:=UInt8.toNat_inj.1 hab;rw[val_inj x y ha.2 hb.2 hl' ahf]
 | [],_::_,_,_,h,_=>ahv
 |_::_,[],_,_,h,_=>ahv
def great:List UInt8:=[57,50,50,51,51,55,50,48,51,54,56,53,52,55,55,53,56,48,55]
theorem F8:val great=9223372036854775807:=ahg
theorem R4:great.all mV=true:=ahg
theorem R5:great.length=19:=rfl
theorem Zx (l:List UInt8) (h:l.all mV=true) (hl:19<(l.dropWhile (· ==48)).length):Aj l=false:=by
 have ht:=Hz mV (· ==48) l h;unfold Aj;rw[<- IK l];have hh: ∀c r,l.dropWhile (· ==48)=c::r->c≠48:=by intro c r e;have:=List.head?_dropWhile_not (· ==48) l;rw[e]at this;simpa using this
 generalize l.dropWhile (· ==48)=t at *
 match t,hl,ht,hh with
 |c::r,hl,ht,hh=>rw[List.all_cons,aM]at ht;have h1:=bm9 c r ht.1 (hh c r rfl);have h2:10 ^ 19<=10 ^ r.length:=Nat.pow_le_pow_right ahf (by simp at hl;omega);have h3:(10:Nat) ^ 19=10000000000000000000:=rfl;rw[h3]at h2;simp only[decide_eq_false_iff_not];omega
theorem Wv (l:List UInt8) (h:l.all mV=true) (hl:(l.dropWhile (· ==48)).length<19):Aj l=true:=by
 have ht:=Hz mV (· ==48) l h;unfold Aj;rw[<- IK l];generalize l.dropWhile (· ==48)=t at *;have h1:=GZ t ht;have h2:10 ^ t.length<=10 ^ 18:=Nat.pow_le_pow_right ahf ahf;have h3:(10:Nat) ^ 18=1000000000000000000:=rfl;rw[h3]at h2;simp only[decide_eq_true_eq];omega
theorem az7 (l:List UInt8) (h:l.all mV=true) (hl:(l.dropWhile (· ==48)).length=19):
 (!(Op.bytesLess (l.dropWhile (· ==48)) great||(l.dropWhile (· ==48))==great))= !Aj l:=by
 have ht:=Hz mV (· ==48) l h;unfold Aj;rw[<- IK l];generalize l.dropWhile (· ==48)=t at *;rw[V6 t great ht R4 (by rw[hl,R5]),F8];congr 1;by_cases e:val t=9223372036854775807
 ·have:t=great:=val_inj t great ht R4 (by rw[hl,R5]) (by rw[e,F8]);rw[this,F8];simp
 ·have hne:(t==great)=false:=by rw[beq_eq_false_iff_ne];intro e';rw[e',F8]at e;exact e rfl
  rw[hne,Bool.or_false,decide_eq_decide];omega
def FU:List (List UInt8):=[[124,124],[38,38],[61,61],[33,61],[60,61],[62,61]]
def QV:List UInt8:=[60,62,43,45,42,47,37,33,61,40,41,91,93,123,125,44,59]
theorem bl7:sgs=FU++QV.map λc=>[c]:=rfl
theorem MZ (n:Nat) (l:List UInt8): ∀gs:List (List UInt8),(∀g∈gs,g.length=n)->gs.find? (λg=>g.isPrefixOf l)=if gs.contains (l.take n)then some (l.take n)else none
 | [],_=>rfl
 |g::gs,h=>by
  have hg:g.length=n:=h g (aW ..);have ih:=MZ n l gs λx hx=>h x (aY _ hx);rw[List.find?_cons,ih,List.contains_cons];by_cases e:g.isPrefixOf l=true
  ·have e1:l.take n=g:=by obtain⟨r,rfl⟩:=List.isPrefixOf_iff_prefix.1 e;rw[<- hg];simp
   rw[e,e1];simp
  ·have e0:g.isPrefixOf l=false:=Bool.eq_false_iff.2 e;have e1:(l.take n==g)=false:=by rw[beq_eq_false_iff_ne];intro e2;exact e (List.isPrefixOf_iff_prefix.2 (e2 ▸ List.take_prefix _ _))
   rw[e0,e1];simp
theorem GN (l:List UInt8):oZ l=if FU.contains (l.take 2)then l.take 2 else if(QV.map λc=>[c]).contains (l.take 1)then l.take 1 else []:=by
 unfold oZ;rw[bl7,List.find?_append,MZ 2 l FU ahg,MZ 1 l (QV.map λc=>[c]) ahg];split
 ·rfl
 ·split <;> rfl
theorem Ub (a:UInt8):(QV.map λc=>[c]).contains [a]=QV.contains a:=by
 simp[QV]
theorem Gy (c:UInt8): ∀l:List UInt8,l.contains c=decide (0<=Lib.indexByte l c)
 | []=>rfl
 |b::l=>by
  have ih:=Gy c l;have hg:=Lib.indexByte_ge l c;have hc:Lib.indexByte (b::l) c=if b==c then 0 else if Lib.indexByte l c== -1 then -1 else Lib.indexByte l c+1:=rfl
  rw[List.contains_cons,ih,hc];by_cases h:b=c
  ·subst h;simp
  ·have h1:(b==c)=false:=by simpa using h
   have h2:(c==b)=false:=by simpa using Ne.symm h
   rw[h1,h2];simp only[Bool.false_or,Bool.false_eq_true,if_false,decide_eq_decide];by_cases h3:Lib.indexByte l c= -1
   ·simp[h3]
   ·rw[if_neg ais];omega
end Go.Proofs.YtcjgfgkllmldpaaGreatDoor.Tk
end
section
namespace Go.Proofs.YtcjgfgkllmldpaaGreatDoor.Tk
theorem al9 (f line:Nat) (acc:List Tok):ny f [] line acc=(acc,0,0):=by cases f <;> rfl
theorem VD (p:UInt8->Bool) (c:UInt8) (r:List UInt8) (h:p c=true):1<=((c::r).takeWhile p).length:=by
 rw[List.takeWhile_cons,if_pos h];simp
theorem aN5 (c:UInt8) (h:CO c=true):mG c=true:=by
 have e:mG c=((CO c||mV c)||((c.toNat:Int)==95)):=rfl;rw[e,h];rfl
theorem ag0 (c:UInt8) (r:List UInt8) (h:(first (c::r)).1=0):1<=(first (c::r)).2.2.length∧(first (c::r)).2.2.length<=(c::r).length∧(c::r).take (first (c::r)).2.2.length=(first (c::r)).2.2:=by
 have hh:(c::r).headD 0=c:=rfl;unfold first at h⊢;rw[hh]at h⊢;by_cases hL:CO c=true
 ·rw[if_pos hL]at h⊢;unfold vE at h⊢;by_cases h12:12<((c::r).takeWhile mG).length
  ·rw[if_pos h12]at h;cases h
  ·rw[if_neg h12];exact⟨VD _ _ _ (aN5 c hL),BO _ _,take_takeWhile _ _⟩
 ·rw[if_neg hL]at h⊢;by_cases hD:mV c=true
  ·rw[if_pos hD]at h⊢;unfold EB at h⊢;split at h
   ·cases h
   ·rename_i h2;rw[if_neg h2];exact⟨VD _ _ _ hD,BO _ _,take_takeWhile _ _⟩
  ·rw[if_neg hD]at h⊢;unfold Qc at h⊢;split at h
   ·cases h
   ·rename_i h2;rw[if_neg h2];have hlen:oZ (c::r)≠[]:=λe=>h2 ahB;refine⟨?_,?_,?_⟩
    ·cases hs:oZ (c::r)with
     |nil=>exact absurd hs hlen
     |cons a b=>simp
    ·show(oZ (c::r)).length<=_;rw[GN];split
     ·rw[List.length_take];omega
     ·split
      ·rw[List.length_take];omega
      ·simp
    ·show(c::r).take (oZ (c::r)).length=oZ (c::r);rw[GN];split
     ·rw[List.length_take,List.take_eq_take_iff];omega
     ·split
      ·rw[List.length_take,List.take_eq_take_iff];omega
      ·rfl
theorem aA6 (f:Nat) (r:List UInt8) (line:Nat) (acc:List Tok):ny (f+1) (10::r) line acc=ny f r (line+1) acc:=by
 rw[ny,if_pos rfl]
theorem WA (f:Nat) (c:UInt8) (r:List UInt8) (line:Nat) (acc:List Tok) (h:c=32∨c=9∨c=13):ny (f+1) (c::r) line acc=ny f r line acc:=by
 have h1:c≠10:=by rcases h with rfl|rfl|rfl <;> decide
 rw[ny,if_neg h1,if_pos h]
theorem al7 (f:Nat) (c:UInt8) (r:List UInt8) (line:Nat) (acc:List Tok) (h1:c≠10) (h2: ¬(c=32∨c=9∨c=13)) (h3:[47,47].isPrefixOf (c::r)=true):ny (f+1) (c::r) line acc=ny f ((c::r).dropWhile (· != 10)) line acc:=by
 rw[ny,if_neg h1,if_neg h2,if_pos h3]
theorem am0 (f:Nat) (c:UInt8) (r:List UInt8) (line:Nat) (acc:List Tok) (h1:c≠10) (h2: ¬(c=32∨c=9∨c=13)) (h3:[47,47].isPrefixOf (c::r)=false) (h4:(first (c::r)).1=0):
 ny (f+1) (c::r) line acc=ny f ((c::r).drop (first (c::r)).2.2.length) line (acc++[⟨(first (c::r)).2.1,(first (c::r)).2.2,line⟩]):=by
 rw[ny,if_neg h1,if_neg h2,if_neg (by rw[h3];decide),if_pos h4]
theorem al8 (f:Nat) (c:UInt8) (r:List UInt8) (line:Nat) (acc:List Tok) (h1:c≠10) (h2: ¬(c=32∨c=9∨c=13)) (h3:[47,47].isPrefixOf (c::r)=false) (h4:(first (c::r)).1≠0):
 ny (f+1) (c::r) line acc=([],(first (c::r)).1,line):=by
 rw[ny,if_neg h1,if_neg h2,if_neg (by rw[h3];decide),if_neg h4]
def SP (l:List UInt8) (R:List Tok×Nat×Nat) (k line:Nat) (acc:List Tok):Prop:=
 k<=l.length∧line<=k+1∧acc.length<=k∧∃f,(l.drop k).length<=f∧ny f (l.drop k) line acc=R
theorem SP.start (l:List UInt8):SP l (ny l.length l 1 []) 0 1 []:=⟨bC _,aD _,aD _,l.length,aD _,rfl⟩
section
variable {l:List UInt8} {R:List Tok×Nat×Nat} {k line:Nat} {acc:List Tok}
theorem SP.cut (h:SP l R k line acc) (hk:k<l.length): ∃f,(l.drop (k+1)).length<=f∧ny (f+1) (l[k]::l.drop (k+1)) line acc=R:=by
 obtain⟨_,_,_,f,hf,hR⟩:=h;rw[List.drop_eq_getElem_cons hk]at hf hR;cases f with
 |zero=>simp at hf;omega
 |succ f=>exact⟨f,by rw[aB]at hf;omega,hR⟩
theorem SP.nl (h:SP l R k line acc) (hk:k<l.length) (hc:l[k]=10):SP l R (k+1) (line+1) acc:=by
 obtain⟨f,hf,hR⟩:=h.cut hk;rw[hc,aA6]at hR;exact⟨hk,agA,agS,f,hf,hR⟩
theorem SP.blank (h:SP l R k line acc) (hk:k<l.length) (hc:l[k]=32∨l[k]=9∨l[k]=13):SP l R (k+1) line acc:=by
 obtain⟨f,hf,hR⟩:=h.cut hk;rw[WA _ _ _ _ _ hc]at hR;exact⟨hk,agA,agS,f,hf,hR⟩
theorem SP.J7 (h:SP l R k line acc) (hk:k<l.length) (h1:l[k]≠10) (h2: ¬(l[k]=32∨l[k]=9∨l[k]=13)) (h3:[47,47].isPrefixOf (l.drop k)=true):SP l R (k+Tk.J7 (l.drop k)) line acc∧1<=Tk.J7 (l.drop k):=by
 obtain⟨f,hf,hR⟩:=h.cut hk;have e:=List.drop_eq_getElem_cons hk;rw[e]at h3;rw[al7 _ _ _ _ _ h1 h2 h3,<- e,<- wT,List.drop_drop]at hR;have hle:=ae4 (l.drop k);rw[List.length_drop]at hle;have h1':1<=Tk.J7 (l.drop k):=by unfold Tk.J7;rw[e];exact VD (· != 10) _ _ ahm
 refine⟨⟨ahf,agA,agS,f,?_,hR⟩,h1'⟩;rw[List.length_drop]at hf⊢;omega
theorem SP.tok (h:SP l R k line acc) (hk:k<l.length) (h1:l[k]≠10) (h2: ¬(l[k]=32∨l[k]=9∨l[k]=13)) (h3:[47,47].isPrefixOf (l.drop k)=false) (h4:(first (l.drop k)).1=0):
 SP l R (k+(first (l.drop k)).2.2.length) line (acc++[⟨(first (l.drop k)).2.1,(first (l.drop k)).2.2,line⟩])∧1<=(first (l.drop k)).2.2.length:=by
 obtain⟨f,hf,hR⟩:=h.cut hk;have e:=List.drop_eq_getElem_cons hk;rw[e]at h3 h4;have hl:=ag0 _ _ h4;rw[am0 _ _ _ _ _ h1 h2 h3 h4,<- e,List.drop_drop]at hR;rw[<- e]at hl h4;rw[List.length_drop]at hl;refine⟨⟨ahf,agA,?_,f,?_,hR⟩,hl.1⟩
 ·rw[au];have:=h.2.2.1;simp;omega
 ·rw[List.length_drop]at hf⊢;omega
theorem SP.err (h:SP l R k line acc) (hk:k<l.length) (h1:l[k]≠10) (h2: ¬(l[k]=32∨l[k]=9∨l[k]=13)) (h3:[47,47].isPrefixOf (l.drop k)=false) (h4:(first (l.drop k)).1≠0):
 R=([],(first (l.drop k)).1,line):=by
 obtain⟨f,hf,hR⟩:=h.cut hk;have e:=List.drop_eq_getElem_cons hk;rw[e]at h3 h4;rw[al8 _ _ _ _ _ h1 h2 h3 h4,<- e]at hR;exact hR.symm
theorem SP.done (h:SP l R k line acc) (hk: ¬k<l.length):R=(acc,0,0):=by
 obtain⟨_,_,_,f,hf,hR⟩:=h;rw[List.drop_of_length_le ahf,al9]at hR;exact hR.symm
end
theorem Ua (l m:List Tok):cellsOf (l++m)=cellsOf l++cellsOf m:=by unfold cellsOf;rw[List.flatMap_append]
theorem cells_one (t:Tok):cellsOf [t]=t.cells:=by unfold cellsOf;simp
end Go.Proofs.YtcjgfgkllmldpaaGreatDoor.Tk
end
section
namespace Go.Proofs.YtcjgfgkllmldpaaGreatDoor
open Go.RowKit
theorem oV (c:Int) (w:World):
 Calls Tryz.prog 136 #[.int .u8 c] w λe w'=>e= .returned (.bool (Tk.uD c))∧w=w':=by
 unfold Tk.uD;go_enter Tryz.func136,Tryz.ntmps136;go_wp2
 all_goals go_ret
 all_goals first|(simp[*];done)|(simp[*];omega)
theorem oL (c:Int) (w:World):
 Calls Tryz.prog 138 #[.int .u8 c] w λe w'=>e= .returned (.bool (Tk.sU c))∧w=w':=by
 unfold Tk.sU;go_enter Tryz.func138,Tryz.ntmps138;go_wp2
 all_goals go_ret
 all_goals first|(simp[*];done)|(simp[*];omega)
theorem RH (s p:ByteArray) (w:World):
 Calls Tryz.prog 111 #[.string s,.string p] w λe w'=>e= .returned (.bool (Lib.hasPrefix s.data.toList p.data.toList))∧w=w':=by
 rw[<- Lib.hasPrefix_of_take,<- Lib.size_eq,<- Lib.size_eq];go_enter Tryz.func111,Tryz.ntmps111;go_wp2
 ·rename_i h;go_ret;refine⟨?_,rfl⟩;show Ending.returned (Value.bool ((s.extract 0 p.size).toList==p.toList))=_;rw[Lib.extract_toList,Lib.toList_data];simp[h]
 ·rename_i h;go_ret;refine⟨?_,rfl⟩;show Ending.returned (Value.bool false)=_;simp[h]
theorem Dk (s:ByteArray) (c:Int) (w:World):
 Calls Tryz.prog 166 #[.string s,.int .u8 c] w λe w'=>e= .returned (.int .i64 (Lib.indexByte s.data.toList c.toNat.toUInt8))∧w=w':=by
 go_enter Tryz.func166,Tryz.ntmps166;go_wp2;rw[run_callFunc_extern Tryz.func174 ahe ahe ahe (e:=Extern.BytealgIndexByte.indexByte) ahe,Lib.run_indexByteString];simp only[Result.andThen];rw[Oper.upon_value];go_wp2;go_ret;exact⟨rfl,rfl⟩
theorem BZ (s:ByteArray) (c:Int) (w:World):
 Calls Tryz.prog 135 #[.string s,.int .u8 c] w λe w'=>e= .returned (.int .i64 (Lib.indexByte s.data.toList c.toNat.toUInt8))∧w=w':=by
 go_enter Tryz.func135,Tryz.ntmps135;go_wp2_with (go_at_call 166;refine(Dk _ _ _).mono ?_;rintro e w' ⟨rfl,rfl⟩);go_ret;exact⟨rfl,rfl⟩
end Go.Proofs.YtcjgfgkllmldpaaGreatDoor
end
section
namespace Go.Proofs.YtcjgfgkllmldpaaGreatDoor
open Go.RowKit
theorem VW (s:ByteArray) (w:World) (_hs:s.size<=4096):
 Calls Tryz.prog 112 #[.string s] w λe w'=>e= .returned (.int .i64 (Tk.J7 s.data.toList))∧w=w':=by
 have hle:=Tk.ae4 s.data.toList;have hsz:=Lib.size_eq s;by_cases h:0<=Lib.indexByte s.data.toList 10
 ·have he:=Tk.ba2 _ h;rw[<- he];clear he hsz;go_enter Tryz.func112,Tryz.ntmps112;go_wp2_with (go_at_call 135;refine(BZ _ _ _).mono ?_;rintro e w' ⟨rfl,rfl⟩);go_ret;exact⟨rfl,rfl⟩
 ·have h':Lib.indexByte s.data.toList 10<0:=by omega
  have he:=Tk.ba3 _ h';rw[<- he,<- hsz];clear he hsz h;go_enter Tryz.func112,Tryz.ntmps112;go_wp2_with (go_at_call 135;refine(BZ _ _ _).mono ?_;rintro e w' ⟨rfl,rfl⟩);go_ret;exact⟨rfl,rfl⟩
theorem Nu (s:ByteArray) (w:World):
 Calls Tryz.prog 175 #[.string s,.int .u8 48] w λe w'=>e= .returned (.string ⟨(s.data.toList.dropWhile (· ==48)).toArray⟩)∧w=w':=by
 go_enter Tryz.func175,Tryz.ntmps175;go_wp2;go_loop [0] (λv=> ∃t:ByteArray,v= .string t∧Tk.qF t s) (λv=>Lib.strSize v)
 case atStart=>exact⟨s,rfl,Tk.qF.refl s⟩
 case round=>
  obtain⟨t,rfl,ht⟩:=hrel;by_cases h0:0<t.size
  ·by_cases he:t[0]=48
   ·have hb:((t[0].toNat:Int)==48)=true:=(by rw[he];rfl);have hst:=ht.step h0 he;have hz:(t.extract 1 t.size).size<t.size:=(by simp[ByteArray.size_extract];omega);have H:=ah he;clear he;go_wp2;go_round
    case rel=>exact⟨_,rfl,hst⟩
    case measure=>exact hz
   ·have hb:((t[0].toNat:Int)==48)=false:=(by rw[beq_eq_false_iff_ne];intro h;exact he (UInt8.toNat_inj.1 (by rw[show t[0].toNat=48 from ahf];rfl)));have hd:=ht.done (λ_=>he);have H:=ah hd;clear hd he;go_wp2;go_ret;exact⟨congrArg (λx=>Ending.returned (.string x)) H.o,rfl⟩
  ·have hd:=ht.done (λh=>absurd h h0);have H:=ah hd;clear hd;go_wp2;go_ret;exact⟨congrArg (λx=>Ending.returned (.string x)) H.o,rfl⟩
theorem RL (s:ByteArray) (w:World) (h:s.toList.isEmpty=false):
 Calls Tryz.prog 167 #[.string s,.string ⟨#[48]⟩] w λe w'=>e= .returned (.string ⟨(s.data.toList.dropWhile (· ==48)).toArray⟩)∧w=w':=by
 have h2:s.toList≠[]:=by intro e;rw[e]at h;cases h
 go_enter Tryz.func167,Tryz.ntmps167;go_wp2_with (go_at_call 175;refine(Nu _ _).mono ?_;rintro e w' ⟨rfl,rfl⟩);go_ret;exact⟨rfl,rfl⟩
def Ao (r:Nat×Nat×List UInt8):Value:= .tuple #[.agg #[.int .i64 r.2.1,.string ⟨r.2.2.toArray⟩,.int .i64 0],.int .i64 r.1]
theorem aM7 (s:ByteArray) (h:0<s.size):s.data.toList.headD 0=s[0]:=by
 rw[Tk.vR s h];rfl
theorem bl4 (s:ByteArray) (h:0<s.size):((Tk.oZ s.data.toList).length:Int)=if 2<=(s.size:Int)∧Tk.FU.contains (s.extract 0 2).toList=true then 2 else if(0:Int)<=Lib.indexByte Tk.QV s[0]then 1 else 0:=by
 have hl:=Lib.size_eq s;rw[Tk.GN,Lib.extract_toList];simp only[List.drop_zero,Nat.sub_zero];have h1:s.data.toList.take 1=[s[0]]:=by rw[Tk.vR s h];rfl
 rw[h1,Tk.Ub,Tk.Gy];by_cases h2:Tk.FU.contains (s.data.toList.take 2)=true
 ·have h3:(s.data.toList.take 2).length=2:=by
   have: ∀x,Tk.FU.contains x=true->x.length=2:=by intro x hx;rw[List.contains_iff_mem]at hx;have: ∀y∈Tk.FU,y.length=2:=ahg;exact this x hx
   exact this _ h2
  have h4:2<=(s.size:Int):=by rw[List.length_take]at h3;omega
  rw[if_pos h2,if_pos ⟨h4,h2⟩,h3];rfl
 ·rw[if_neg h2];have h6: ¬(2<=(s.size:Int)∧Tk.FU.contains (s.data.toList.take 2)=true):=λh=>h2 h.2;rw[if_neg h6];by_cases h5:(0:Int)<=Lib.indexByte Tk.QV s[0]
  ·rw[if_pos h5,if_pos air];rfl
  ·rw[if_neg h5,if_neg air];rfl
theorem aO9 (s:ByteArray) (h:0<s.size):((Tk.oZ s.data.toList).length:Int)=if decide (2<=(s.size:Int))&&(((s.extract 0 2).toList== [124,124])||(((s.extract 0 2).toList== [38,38])||(((s.extract 0 2).toList== [61,61])||(((s.extract 0 2).toList== [33,61])||(((s.extract 0 2).toList== [60,61])||((s.extract 0 2).toList== [62,61]))))))then 2 else if(0:Int)<=Lib.indexByte [60,62,43,45,42,47,37,33,61,40,41,91,93,123,125,44,59] s[0]then 1 else 0:=by
 rw[bl4 s h];have e:Tk.FU.contains (s.extract 0 2).toList=(((s.extract 0 2).toList== [124,124])||(((s.extract 0 2).toList== [38,38])||(((s.extract 0 2).toList== [61,61])||(((s.extract 0 2).toList== [33,61])||(((s.extract 0 2).toList== [60,61])||((s.extract 0 2).toList== [62,61])))))):=by unfold Tk.FU;simp only[List.contains_cons,List.contains_nil,Bool.or_false]
 rw[<- e];simp only[aM,decide_eq_true_eq];rfl
theorem Vo (s:ByteArray) (w:World) (h:0<s.size):
 Calls Tryz.prog 140 #[.string s] w λe w'=>e= .returned (.int .i64 (Tk.oZ s.data.toList).length)∧w=w':=by
 have H:=ah (aO9 s h);go_enter Tryz.func140,Tryz.ntmps140;go_wp2_with (go_at_call 135;refine(BZ _ _ _).mono ?_;rintro e w' ⟨rfl,rfl⟩)
 all_goals go_ret
 all_goals (refine⟨dh ?_,rfl⟩;rw[H.o];clear H;go_light;first|(exfalso;simp_all;done)|(simp only[*,Bool.or_true,Bool.true_or,Bool.or_false,Bool.and_true,Bool.and_false,decide_true,if_true,if_false,Bool.false_eq_true];done)|(rw[if_neg (by simp only[*,Bool.or_false,Bool.and_false,Bool.false_eq_true,not_false_eq_true])];first|(rw[if_pos (by assumption)];done)|(rw[if_neg ahf];done))|(rw[if_neg ahi];first|(rw[if_pos (by assumption)];done)|(rw[if_neg ahf];done)))
theorem Ug (s:ByteArray) (j:Nat) (h:j<s.data.toList.length):s.data.toList[j]=s[j]'(by rw[Lib.size_eq];exact h):=rfl
def J2 (p:UInt8->Bool) (s:ByteArray) (k:Nat):Prop:= ∀j (h:j<s.size),j<k->p s[j]=true
theorem J2.step {p:UInt8->Bool} {s:ByteArray} {k:Nat} (h:J2 p s k) (hk:k<s.size) (hp:p s[k]=true):J2 p s (k+1):=by
 intro j hj hjk;by_cases e:j=k
 ·subst e;exact hp
 ·exact h j hj ahf
theorem J2.one {p:UInt8->Bool} {s:ByteArray} (h:0<s.size) (hp:p s[0]=true):J2 p s 1:=by
 intro j hj h1;obtain rfl:j=0:=ahf
 exact hp
theorem J2.len {p:UInt8->Bool} {s:ByteArray} {k:Nat} (h:J2 p s k) (hk:k<=s.size) (hp: ∀h:k<s.size,p s[k]=false):(s.data.toList.takeWhile p).length=k:=by
 refine Tk.Jc p _ k adx (λj hj hjk=> ?_) (λhj=> ?_)
 ·rw[Ug];exact h j _ hjk
 ·rw[Ug];exact hp _
theorem Ig {p:UInt8->Bool} {s:ByteArray} {k:Nat} (h:(s.data.toList.takeWhile p).length=k):s.extract 0 k=⟨(s.data.toList.takeWhile p).toArray⟩:=by
 rw[Lib.extract_upto,<- h,Tk.take_takeWhile]
theorem Oh {p:UInt8->Bool} {s:ByteArray} {k:Nat} (h:(s.data.toList.takeWhile p).length=k):(s.extract 0 k).data.toList=s.data.toList.takeWhile p:=by
 rw[Ig h]
theorem ZT (l:List UInt8) (k:Nat) (h:(l.takeWhile Tk.mG).length=k) (h12:12<k):Tk.vE l=(2,0,[]):=by
 unfold Tk.vE;rw[if_pos ahf]
theorem aC8 (l:List UInt8) (k:Nat) (h:(l.takeWhile Tk.mG).length=k) (h12: ¬12<k) (hk:Tk.wE (l.takeWhile Tk.mG)=true):Tk.vE l=(0,3,l.takeWhile Tk.mG):=by
 unfold Tk.vE;rw[if_neg ahf,if_pos hk]
theorem aC9 (l:List UInt8) (k:Nat) (h:(l.takeWhile Tk.mG).length=k) (h12: ¬12<k) (hk:Tk.wE (l.takeWhile Tk.mG)=false):Tk.vE l=(0,1,l.takeWhile Tk.mG):=by
 unfold Tk.vE;rw[if_neg ahf,if_neg (by rw[hk];decide)]
theorem aD0 (s:ByteArray) (w:World) (hs:s.size<=4096) (h0:0<s.size) (hL:Tk.CO s[0]=true) (fG:eD w):
 Calls Tryz.prog 137 #[.string s] w λe w'=>e= .returned (Ao (Tk.vE s.data.toList))∧Below w.heap.size w w':=by
 have hI0:=UR _ hL;have HL:=ah hL;clear hL;go_enter Tryz.func137,Tryz.ntmps137;go_wp2;go_loop [4] (λi=> ∃k:Nat,1<=k∧k<=s.size∧i= .int .i64 k∧J2 Tk.mG s k) (λi=>s.size -(intOf i).toNat)
 case atStart=>exact⟨1,aD _,h0,rfl,J2.one h0 hI0⟩
 case round=>
  obtain⟨k,hk1,hk,rfl,hin⟩:=hrel;clear hI0;by_cases hc: ∃h:k<s.size,Tk.mG s[k]=true
  ·obtain⟨hlt,hi⟩:=hc;have hst:=hin.step hlt hi;rcases Fj s[k]with⟨_,h1⟩|⟨_,h1,h2⟩|⟨_,h1,h2,h3⟩|⟨h4,_⟩
   case inr.inr.inr=>rw[hi]at h4;cases h4
   all_goals
    clear hi;go_wp2_with (first|(go_at_call 136;refine(oV _ _).mono ?_;rintro e w' ⟨rfl,rfl⟩)|(go_at_call 138;refine(oL _ _).mono ?_;rintro e w' ⟨rfl,rfl⟩));go_round
    case rel=>exact⟨k+1,ahf,ahf,ahj,hst⟩
    case measure=>simp[intOf];omega
  ·have hlen:(s.data.toList.takeWhile Tk.mG).length=k:=hin.len hk (λh=>abg);have ed:s.data.toList.take k=s.data.toList.takeWhile Tk.mG:=by rw[<- hlen,Tk.take_takeWhile]
   have EX:=ah (Ig hlen);have HR:aj ((12<k∧Tk.vE s.data.toList=(2,0,[]))∨(¬12<k∧Tk.wE (s.data.toList.take k)=true∧Tk.vE s.data.toList=(0,3,s.data.toList.takeWhile Tk.mG))∨
    (¬12<k∧Tk.wE (s.data.toList.take k)=false∧Tk.vE s.data.toList=(0,1,s.data.toList.takeWhile Tk.mG))):=by
    apply ah;rw[ed];by_cases h12:12<k
    ·exact .inl ⟨h12,ZT _ k hlen h12⟩
    ·cases hK:Tk.wE (s.data.toList.takeWhile Tk.mG)
     ·exact .inr (.inr ⟨h12,rfl,aC9 _ k hlen h12 hK⟩)
     ·exact .inr (.inl ⟨h12,rfl,aC8 _ k hlen h12 hK⟩)
   have HC:aj (k<s.size->∃h:k<s.size,Tk.mG s[k]=false):=ah λh=>⟨h,abg⟩;clear hc ed hlen;have go: ∀Z:Prop,((hlt:k<s.size)->Tk.uD (s[k].toNat:Int)=false->Tk.sU (s[k].toNat:Int)=false->((s[k].toNat:Int)==95)=false->Z)->(¬k<s.size->Z)->Z:=by
    intro Z h1 h2;by_cases hlt:k<s.size
    ·obtain⟨_,hi⟩:=HC.o hlt;rcases Fj s[k]with⟨h,_⟩|⟨h,_⟩|⟨h,_⟩|⟨_,ha,hb,hcc⟩
     ·rw[hi]at h;cases h
     ·rw[hi]at h;cases h
     ·rw[hi]at h;cases h
     ·exact h1 hlt ha hb hcc
    ·exact h2 hlt
   rcases HR.o with⟨h12,hR⟩|⟨h12,hK,hR⟩|⟨h12,hK,hR⟩
   all_goals have HRR:=ah hR;clear hR HR;refine go _ (λhlt t1 t2 t3=> ?_) (λhlt=> ?_)
   all_goals clear go;go_wp2_with (first|(go_at_call 136;refine(oV _ _).mono ?_;rintro e w' ⟨rfl,rfl⟩)|(go_at_call 138;refine(oL _ _).mono ?_;rintro e w' ⟨rfl,rfl⟩)|(go_at_call 93;refine(C8 _ _ (fG.alloc _)).mono ?_;rintro e w' ⟨rfl,rfl⟩))
   ·exact bodyPost_ret (v:= .tuple #[.agg #[.int .i64 0,.string ⟨#[]⟩,.int .i64 0],.int .i64 2]) acK rfl ⟨by rw[HRR.o];rfl,(ak _ _).alloc (aD _) _⟩
   ·exact bodyPost_ret (v:= .tuple #[.agg #[.int .i64 0,.string ⟨#[]⟩,.int .i64 0],.int .i64 2]) acK rfl ⟨by rw[HRR.o];rfl,(ak _ _).alloc (aD _) _⟩
   ·exact bodyPost_ret (v:= .tuple #[.agg #[.int .i64 3,.string (s.extract 0 k),.int .i64 0],.int .i64 0]) acK rfl ⟨afT,(ak _ _).alloc (aD _) _⟩
   ·exact bodyPost_ret (v:= .tuple #[.agg #[.int .i64 3,.string (s.extract 0 k),.int .i64 0],.int .i64 0]) acK rfl ⟨afT,(ak _ _).alloc (aD _) _⟩
   ·exact bodyPost_ret (v:= .tuple #[.agg #[.int .i64 1,.string (s.extract 0 k),.int .i64 0],.int .i64 0]) acK rfl ⟨afT,(ak _ _).alloc (aD _) _⟩
   ·exact bodyPost_ret (v:= .tuple #[.agg #[.int .i64 1,.string (s.extract 0 k),.int .i64 0],.int .i64 0]) acK rfl ⟨afT,(ak _ _).alloc (aD _) _⟩
end Go.Proofs.YtcjgfgkllmldpaaGreatDoor
end
section
namespace Go.Proofs.YtcjgfgkllmldpaaGreatDoor
open Go.RowKit
def IL (s:ByteArray):ByteArray:=⟨(s.data.toList.dropWhile (· ==48)).toArray⟩
theorem WE (s:ByteArray):(IL s).toList=s.data.toList.dropWhile (· ==48):=by unfold IL;rw[Lib.toList_data]
theorem ap5 (s:ByteArray):(IL s).size=(s.data.toList.dropWhile (· ==48)).length:=by unfold IL;exact Lib.size_mk _
theorem YO (s:ByteArray) (w:World) (h:s.toList.isEmpty=false):
 Calls Tryz.prog 167 #[.string s,.string ⟨#[48]⟩] w λe w'=>e= .returned (.string (IL s))∧w=w':=RL s w h
def TP (z:ByteArray) (R:Nat×Nat×List UInt8) (k:Nat) (l:List UInt8):Prop:=
 (19<z.size∧R=(3,0,[]))∨(z.size<19∧R=(0,2,l))∨
 (z.size=19∧Op.bytesLess z.toList [57,50,50,51,51,55,50,48,51,54,56,53,52,55,55,53,56,48,55]=true∧R=(0,2,l))∨
 (z.size=19∧Op.bytesLess z.toList [57,50,50,51,51,55,50,48,51,54,56,53,52,55,55,53,56,48,55]=false∧(z.toList== [57,50,50,51,51,55,50,48,51,54,56,53,52,55,55,53,56,48,55])=true∧R=(0,2,l))∨
 (z.size=19∧Op.bytesLess z.toList [57,50,50,51,51,55,50,48,51,54,56,53,52,55,55,53,56,48,55]=false∧(z.toList== [57,50,50,51,51,55,50,48,51,54,56,53,52,55,55,53,56,48,55])=false∧R=(3,0,[]))∧0<=k
theorem O5 (p:UInt8->Bool): ∀l:List UInt8,(l.takeWhile p).all p=true
 | []=>rfl
 |c::l=>by
  rw[List.takeWhile_cons];split
  ·rename_i h;rw[List.all_cons,h,O5 p l];rfl
  ·rfl
theorem az8 (l:List UInt8) (h:(l.dropWhile Tk.mV).head?.any Tk.mG=true):Tk.EB l=(3,0,[]):=by
 unfold Tk.EB;rw[h];rfl
theorem bi7 (s:ByteArray) (k:Nat) (hlen:(s.data.toList.takeWhile Tk.mV).length=k) (h:(s.data.toList.dropWhile Tk.mV).head?.any Tk.mG=false):
 TP (IL (s.extract 0 k)) (Tk.EB s.data.toList) k (s.data.toList.takeWhile Tk.mV):=by
 have ha:=O5 Tk.mV s.data.toList;unfold TP Tk.EB;rw[WE,ap5,Oh hlen,h,Bool.false_or];generalize s.data.toList.takeWhile Tk.mV=d at *;rcases Nat.lt_trichotomy 19 (d.dropWhile (· ==48)).length with h1|h1|h1
 ·left;refine⟨h1,?_⟩;rw[Tk.Zx d ha h1];rfl
 ·right;right;have hq:=Tk.az7 d ha h1.symm;unfold Tk.great at hq;generalize Op.bytesLess (d.dropWhile (· ==48)) [57,50,50,51,51,55,50,48,51,54,56,53,52,55,55,53,56,48,55]=a at *;generalize (d.dropWhile (· ==48)== [57,50,50,51,51,55,50,48,51,54,56,53,52,55,55,53,56,48,55])=b at *;rw[<- hq];cases a <;> cases b <;> simp[h1.symm]
 ·right;left;refine⟨h1,?_⟩;rw[Tk.Wv d ha h1];rfl
theorem XA {p q:UInt8->Bool} {s:ByteArray} {k:Nat} (h:(s.data.toList.takeWhile p).length=k) (hlt:k<s.size):(s.data.toList.dropWhile p).head?.any q=q s[k]:=by
 have e:s.data.toList.dropWhile p=s.data.toList.drop k:=by rw[<- h,Tk.wT]
 have hl:k<s.data.toList.length:=adw
 rw[e,List.drop_eq_getElem_cons hl];rfl
theorem UD {p q:UInt8->Bool} {s:ByteArray} {k:Nat} (h:(s.data.toList.takeWhile p).length=k) (hlt: ¬k<s.size):(s.data.toList.dropWhile p).head?.any q=false:=by
 have e:s.data.toList.dropWhile p=s.data.toList.drop k:=by rw[<- h,Tk.wT]
 rw[e,List.drop_of_length_le (by rw[<- Lib.size_eq];omega)];rfl
theorem Zy (s:ByteArray) (w:World) (hs:s.size<=4096) (h0:0<s.size) (hD:Tk.mV s[0]=true):
 Calls Tryz.prog 139 #[.string s] w λe w'=>e= .returned (Ao (Tk.EB s.data.toList))∧Below w.heap.size w w':=by
 have hin1:J2 Tk.mV s 1:=J2.one h0 hD;clear hD;go_enter Tryz.func139,Tryz.ntmps139;go_wp2;go_loop [4] (λi=> ∃k:Nat,1<=k∧k<=s.size∧i= .int .i64 k∧J2 Tk.mV s k) (λi=>s.size -(intOf i).toNat)
 case atStart=>exact⟨1,aD _,h0,rfl,hin1⟩
 case round=>
  obtain⟨k,hk1,hk,rfl,hin⟩:=hrel;clear hin1;by_cases hc: ∃h:k<s.size,Tk.mV s[k]=true
  ·obtain⟨hlt,hi⟩:=hc;have hst:=hin.step hlt hi;have h1:Tk.sU (s[k].toNat:Int)=true:=hi;clear hi;go_wp2_with (go_at_call 138;refine(oL _ _).mono ?_;rintro e w' ⟨rfl,rfl⟩);go_round
   case rel=>exact⟨k+1,ahf,ahf,ahj,hst⟩
   case measure=>simp[intOf];omega
  ·have hlen:(s.data.toList.takeWhile Tk.mV).length=k:=hin.len hk (λh=>abg);have EX:=ah (Ig hlen);have hne:(s.extract 0 k).toList.isEmpty=false:=by
    rw[Lib.extract_toList];have:0<s.data.toList.length:=(by rw[<- Lib.size_eq];exact h0);cases hd:s.data.toList with
    |nil=>rw[hd]at this;simp at this
    |cons a r=>simp;omega
   by_cases hA: ∃h:k<s.size,Tk.mG s[k]=true
   ·obtain⟨hlt,hi⟩:=hA;have h2:Tk.sU (s[k].toNat:Int)=false:=(by show Tk.mV s[k]=false;rw[Bool.eq_false_iff];exact λe=>hc ⟨hlt,e⟩);have HR:aj (Tk.EB s.data.toList=(3,0,[])):=ah (az8 _ (by rw[XA hlen hlt];exact hi));clear hc hlen;rcases Fj s[k]with⟨_,h1⟩|⟨_,_,h3⟩|⟨_,h1,_,h3⟩|⟨h4,_⟩
    case inr.inr.inr=>rw[hi]at h4;cases h4
    case inr.inl=>rw[h2]at h3;cases h3
    all_goals clear hi;go_wp2_with (first|(go_at_call 136;refine(oV _ _).mono ?_;rintro e w' ⟨rfl,rfl⟩)|(go_at_call 138;refine(oL _ _).mono ?_;rintro e w' ⟨rfl,rfl⟩));exact bodyPost_ret (v:= .tuple #[.agg #[.int .i64 0,.string ⟨#[]⟩,.int .i64 0],.int .i64 3]) ade rfl ⟨aio,(ak _ _).alloc (aD _) _⟩
   ·have HN:aj (TP (IL (s.extract 0 k)) (Tk.EB s.data.toList) k (s.data.toList.takeWhile Tk.mV)):=by
     refine ah (bi7 s k hlen ?_);by_cases hlt:k<s.size
     ·rw[XA hlen hlt,Bool.eq_false_iff];exact λe=>hA ⟨hlt,e⟩
     ·exact UD hlen hlt
    have go: ∀Z:Prop,((hlt:k<s.size)->Tk.uD (s[k].toNat:Int)=false->Tk.sU (s[k].toNat:Int)=false->((s[k].toNat:Int)==95)=false->Z)->(¬k<s.size->Z)->Z:=by
     intro Z h1 h2;by_cases hlt:k<s.size
     ·rcases Fj s[k]with⟨h,_⟩|⟨h,_⟩|⟨h,_⟩|⟨_,ha,hb,hcc⟩
      ·exact absurd ⟨hlt,h⟩ hA
      ·exact absurd ⟨hlt,h⟩ hA
      ·exact absurd ⟨hlt,h⟩ hA
      ·exact h1 hlt ha hb hcc
     ·exact h2 hlt
    clear hc hA hlen;rcases HN.o with⟨z1,hR⟩|⟨z1,hR⟩|⟨z1,z2,hR⟩|⟨z1,z2,z3,hR⟩|⟨⟨z1,z2,z3,hR⟩,_⟩
    all_goals have HRR:=ah hR;have zb:(((IL (s.extract 0 k)).size:Int)==19)=decide ((IL (s.extract 0 k)).size=19):=aeG;clear hR HN;refine go _ (λhlt t1 t2 t3=> ?_) (λhlt=> ?_)
    all_goals clear go;go_wp2_with (first|(go_at_call 136;refine(oV _ _).mono ?_;rintro e w' ⟨rfl,rfl⟩)|(go_at_call 138;refine(oL _ _).mono ?_;rintro e w' ⟨rfl,rfl⟩)|(go_at_call 167;refine(YO _ _ hne).mono ?_;rintro e w' ⟨rfl,rfl⟩))
    all_goals first
     |exact bodyPost_ret (v:= .tuple #[.agg #[.int .i64 0,.string ⟨#[]⟩,.int .i64 0],.int .i64 3]) ade rfl ⟨by rw[HRR.o];rfl,(ak _ _).alloc (aD _) _⟩
     |exact bodyPost_ret (v:= .tuple #[.agg #[.int .i64 2,.string (s.extract 0 k),.int .i64 0],.int .i64 0]) ade rfl ⟨afT,(ak _ _).alloc (aD _) _⟩
end Go.Proofs.YtcjgfgkllmldpaaGreatDoor
end
section
namespace Go.Proofs.YtcjgfgkllmldpaaGreatDoor
open Go.RowKit
theorem aG7 {W w1:World} (hb:Below W.heap.size W w1):(∀b o,b<W.heap.size->w1.cell? ⟨b,o,none⟩=W.cell? ⟨b,o,none⟩)∧(∀b o,b<W.heap.size->w1.frozen? ⟨b,o,none⟩=W.frozen? ⟨b,o,none⟩):=
 ⟨λb o h=>hb.cell (p:=⟨b,o,none⟩) h,λb o h=>hb.frozen (p:=⟨b,o,none⟩) h⟩
theorem bp8 (l:List UInt8):(Tk.oZ l).length<=l.length:=by
 rw[Tk.GN];split
 ·rw[List.length_take];omega
 ·split
  ·rw[List.length_take];omega
  ·simp
theorem aP0 (l:List UInt8):l.take (Tk.oZ l).length=Tk.oZ l:=by
 rw[Tk.GN];split
 ·rw[List.length_take,List.take_eq_take_iff];omega
 ·split
  ·rw[List.length_take,List.take_eq_take_iff];omega
  ·rfl
theorem QZ (s:ByteArray) (w:World) (hs:s.size<=4096) (h0:0<s.size) (fG:eD w):
 Calls Tryz.prog 113 #[.string s] w λe w'=>e= .returned (Ao (Tk.first s.data.toList))∧Below w.heap.size w w':=by
 have hhd:=aM7 s h0;cases hL:Tk.CO s[0]
 ·have h1:Tk.uD (s[0].toNat:Int)=false:=hL;cases hD:Tk.mV s[0]
  ·have h2:Tk.sU (s[0].toNat:Int)=false:=hD;have HR:aj (Tk.first s.data.toList=Tk.Qc s.data.toList):=by apply ah;unfold Tk.first;rw[hhd,hL,hD];rfl
   clear hhd hL hD;have HE:aj (s.extract 0 (Tk.oZ s.data.toList).length=⟨(Tk.oZ s.data.toList).toArray⟩):=by apply ah;rw[Lib.extract_upto,aP0]
   have hle:(Tk.oZ s.data.toList).length<=s.size:=by rw[Lib.size_eq];exact bp8 _
   have HS:aj (Tk.Qc s.data.toList=if(Tk.oZ s.data.toList).isEmpty then(3,0,[])else(0,4,Tk.oZ s.data.toList)):=ah rfl;by_cases hn:(Tk.oZ s.data.toList).length=0
   ·have hn0:Tk.oZ s.data.toList=[]:=List.eq_nil_of_length_eq_zero hn;have HS2:aj (Tk.Qc s.data.toList=(3,0,[])):=(by apply ah;rw[HS.o,hn0];rfl);have hb0:(((Tk.oZ s.data.toList).length:Int)==0)=true:=(by rw[hn];rfl);clear HS HE hn hn0;go_enter Tryz.func113,Tryz.ntmps113;go_wp2_with (first|(go_at_call 136;refine(oV _ _).mono ?_;rintro e w' ⟨rfl,rfl⟩)|(go_at_call 138;refine(oL _ _).mono ?_;rintro e w' ⟨rfl,rfl⟩)|(go_at_call 140;refine(Vo _ _ h0).mono ?_;rintro e w' ⟨rfl,rfl⟩));exact bodyPost_ret (v:= .tuple #[.agg #[.int .i64 0,.string ⟨#[]⟩,.int .i64 0],.int .i64 3]) adT rfl ⟨by rw[HR.o,HS2.o];rfl,(ak _ _).alloc (aD _) _⟩
   ·have HS2:aj (Tk.Qc s.data.toList=(0,4,Tk.oZ s.data.toList)):=(by apply ah;rw[HS.o,if_neg];intro h;exact hn (by rw[List.isEmpty_iff]at h;rw[h];rfl));have hb0:(((Tk.oZ s.data.toList).length:Int)==0)=false:=acA;clear HS;go_enter Tryz.func113,Tryz.ntmps113;go_wp2_with (first|(go_at_call 136;refine(oV _ _).mono ?_;rintro e w' ⟨rfl,rfl⟩)|(go_at_call 138;refine(oL _ _).mono ?_;rintro e w' ⟨rfl,rfl⟩)|(go_at_call 140;refine(Vo _ _ h0).mono ?_;rintro e w' ⟨rfl,rfl⟩));exact bodyPost_ret (v:= .tuple #[.agg #[.int .i64 4,.string (s.extract 0 (Tk.oZ s.data.toList).length),.int .i64 0],.int .i64 0]) adT rfl ⟨by rw[HR.o,HS2.o,HE.o];rfl,(ak _ _).alloc (aD _) _⟩
  ·have h2:Tk.sU (s[0].toNat:Int)=true:=hD;have HR:aj (Tk.first s.data.toList=Tk.EB s.data.toList):=by apply ah;unfold Tk.first;rw[hhd,hL,hD];rfl
   clear hhd;generalize hr:Tk.EB s.data.toList=r at *;have Hr:=ah hr;clear hr;go_enter Tryz.func113,Tryz.ntmps113;go_wp2_with (first|(go_at_call 136;refine(oV _ _).mono ?_;rintro e w' ⟨rfl,rfl⟩)|(go_at_call 138;refine(oL _ _).mono ?_;rintro e w' ⟨rfl,rfl⟩));refine(Zy s _ hs h0 hD).mono ?_;rintro e w1 ⟨rfl,hb⟩;rw[Hr.o];obtain⟨hc,hf⟩:=aG7 hb;have hz:w.heap.size<w1.heap.size:=aeP
   unfold Ao;go_wp2;refine bodyPost_ret (v:=Ao r) acj rfl ⟨by rw[HR.o],?_⟩;exact(((((ak _ _).alloc (aD _) _).trans (hb.mono ahh)).setCell ahh _).setCell ahh _).setCell ahh _
 ·have HR:aj (Tk.first s.data.toList=Tk.vE s.data.toList):=by apply ah;unfold Tk.first;rw[hhd,if_pos hL]
  have h1:Tk.uD (s[0].toNat:Int)=true:=hL;clear hhd;generalize hr:Tk.vE s.data.toList=r at *;have Hr:=ah hr;clear hr;go_enter Tryz.func113,Tryz.ntmps113;go_wp2_with (first|(go_at_call 136;refine(oV _ _).mono ?_;rintro e w' ⟨rfl,rfl⟩)|(go_at_call 138;refine(oL _ _).mono ?_;rintro e w' ⟨rfl,rfl⟩));refine(aD0 s _ hs h0 hL (fG.alloc _)).mono ?_;rintro e w1 ⟨rfl,hb⟩;rw[Hr.o];obtain⟨hc,hf⟩:=aG7 hb;have hz:w.heap.size<w1.heap.size:=aeP
  unfold Ao;go_wp2;refine bodyPost_ret (v:=Ao r) acj rfl ⟨by rw[HR.o],?_⟩;exact(((((ak _ _).alloc (aD _) _).trans (hb.mono ahh)).setCell ahh _).setCell ahh _).setCell ahh _
end Go.Proofs.YtcjgfgkllmldpaaGreatDoor
end
section
namespace Go.Proofs.YtcjgfgkllmldpaaGreatDoor
open Go.RowKit
theorem Tryz.infoTok:(Tryz.prog.info? 164).map (λi=>(i.zero,i.size,i.bytes))=some (some (.agg #[.int .i64 0,.string ⟨#[]⟩,.int .i64 0]),3,32):=ahe
def TY (w:World) (r:List Tk.Tok×Nat×Nat) (e:Ending) (w':World):Prop:=
 ∃v:Value,e= .returned (.tuple #[v,.int .i64 r.2.1,.int .i64 r.2.2])∧w'.ownsRow w.heap.size 164 3 v r.1.length (Tk.cellsOf r.1)∧Below w.heap.size w w'
theorem own_below {w w':World} {base:Nat} {e:TypeId} {size:Nat} {v:Value} {n:Nat} {xs:List Value} (h:w.ownsRow base e size v n xs) (hb:Below w.heap.size w w'):w'.ownsRow base e size v n xs:=
 h.kept (row:=none) ⟨hb.os,hb.tape,hb.output,hb.size,λi hi _=>hb.block i hi⟩ acY
theorem aC3 {w1 w2:World} {base:Nat} {e:TypeId} {size:Nat} {u:Value} {n:Nat} {xs:List Value} (h:w1.ownsRow base e size u n xs) (cs:Array Value) (t:TypeId) (o:Obj)
 (hg:((w1.alloc (.cells cs t)).alloc o).grownBy w2 u.ownBlock) (j:Nat):w2.cell? ⟨w1.heap.size,j,none⟩=cs[j]?:=by
 have e1:w2.heap[w1.heap.size]? =((w1.alloc (.cells cs t)).alloc o).heap[w1.heap.size]?:=hg.block _ ahi (λe=>by have:=(h.lt _ e.symm).2;omega);have e2:((w1.alloc (.cells cs t)).alloc o).heap[w1.heap.size]? =some (.cells cs t (0,0)):=by rw[Below.heap_alloc _ _ _ ahh];exact heap_alloc_new w1 _
 exact cell_of_row w2 w1.heap.size j cs t (0,0) (e1.trans e2)
theorem an6 {B:Nat} {w w1 w2:World} {e:TypeId} {size:Nat} {u:Value} {n:Nat} {xs:List Value} (h:w1.ownsRow B e size u n xs) (hb:Below B w w1) (hB:B<=w1.heap.size) (o1 o2:Obj)
 (hg:((w1.alloc o1).alloc o2).grownBy w2 u.ownBlock):Below B w w2:=
 ((hb.alloc hB o1).alloc ahi o2).grown hg ahi (λk hk=>(h.lt _ hk).1)
def bj9 (s:ByteArray):Bool:=[47,47].isPrefixOf s.data.toList
def YU (s:ByteArray):Nat:=Tk.J7 s.data.toList
theorem zY (s:ByteArray) (w:World):
 Calls Tryz.prog 111 #[.string s,.string ⟨#[47,47]⟩] w λe w'=>e= .returned (.bool (bj9 s))∧w=w':=RH s _ w
theorem ae5 (s:ByteArray) (w:World) (hs:s.size<=4096):
 Calls Tryz.prog 112 #[.string s] w λe w'=>e= .returned (.int .i64 (YU s))∧w=w':=VW s w hs
theorem Fw (s:ByteArray) (k:Nat):(s.extract k s.size).data.toList=s.data.toList.drop k:=by
 rw[Lib.extract_data,List.take_of_length_le (by rw[List.length_drop,Lib.size_eq];exact aD _)]
theorem bp4 (c:UInt8) (h:c≠10):((c.toNat:Int)==10)=false:=by
 rw[beq_eq_false_iff_ne];intro e;exact h (UInt8.toNat_inj.1 (by rw[show c.toNat=10 from ahf];rfl))
theorem VR (c:UInt8):((c=32∨c=9∨c=13)∧(((c.toNat:Int)==32)=true∨(((c.toNat:Int)==32)=false∧((c.toNat:Int)==9)=true)∨(((c.toNat:Int)==32)=false∧((c.toNat:Int)==9)=false∧((c.toNat:Int)==13)=true)))∨
 (¬(c=32∨c=9∨c=13)∧((c.toNat:Int)==32)=false∧((c.toNat:Int)==9)=false∧((c.toNat:Int)==13)=false):=by
 by_cases h1:c=32
 ·subst h1;left;exact⟨.inl rfl,.inl rfl⟩
 ·by_cases h2:c=9
  ·subst h2;left;exact⟨.inr (.inl rfl),.inr (.inl ⟨rfl,rfl⟩)⟩
  ·by_cases h3:c=13
   ·subst h3;left;exact⟨.inr (.inr rfl),.inr (.inr ⟨rfl,rfl,rfl⟩)⟩
   ·right;have nb: ∀x:UInt8,c≠x->((c.toNat:Int)==(x.toNat:Int))=false:=(by intro x h;rw[beq_eq_false_iff_ne];intro e;exact h (UInt8.toNat_inj.1 ahf));exact⟨by simp[h1,h2,h3],nb 32 h1,nb 9 h2,nb 13 h3⟩
theorem au3 (s:ByteArray) (w:World) (fG:eD w) (hm:s.size<=maxLen):
 Calls Tryz.prog 75 #[.string s] w (TY w (Tk.scan s.data.toList)):=by
 have hsz:=Lib.size_eq s;unfold maxLen at hm;by_cases hbig:4096<s.size
 ·have HR:aj (Tk.scan s.data.toList=([],2,0)):=by apply ah;unfold Tk.scan;rw[if_pos ahf]
  clear hsz;go_enter Tryz.func75,Tryz.ntmps75;go_wp2
  go_ret3
  rw[HR.o];exact⟨_,rfl,World.ownsRow_nil _ _ _ _,ak _ _⟩
 ·have HR:aj (Tk.scan s.data.toList=Tk.ny s.data.toList.length s.data.toList 1 []):=by apply ah;unfold Tk.scan;rw[if_neg ahf]
  have hst:=Tk.SP.start s.data.toList;rw[<- HR.o]at hst;generalize Tk.scan s.data.toList=R at *;clear HR hsz;obtain⟨i0,hi,hz0,hz1,hz2⟩:=info_parts Tryz.infoTok;have hs:s.size<=4096:=ahf
  clear hbig hm;go_enter Tryz.func75,Tryz.ntmps75;go_wp2;go_loopw [5,6,7] (λv ln i wr=> ∃(k line:Nat) (acc:List Tk.Tok),i= .int .i64 k∧ln= .int .i64 line∧Tk.SP s.data.toList R k line acc∧
   wr.ownsRow w.heap.size 164 3 v acc.length (Tk.cellsOf acc)∧Below w.heap.size w wr) (λ_ _ i _=>s.size -(intOf i).toNat)
  case atStart=>exact⟨0,1,[],rfl,rfl,hst,World.ownsRow_nil _ _ _ _,ak _ _⟩
  case round=>
   obtain⟨k,line,acc,rfl,rfl,hsp,hown,hbel⟩:=hrel;clear hst;have hk:k<=s.size:=by rw[Lib.size_eq];exact hsp.1
   have bV1:line<=k+1:=hsp.2.1;by_cases hlt:k<s.size
   ·have hlt':k<s.data.toList.length:=adw;have hget:s.data.toList[k]=s[k]:=rfl;by_cases h10:s[k]=10
    ·have hnx:=hsp.nl hlt' h10;have hb:((s[k].toNat:Int)==10)=true:=(by rw[h10];rfl);clear h10 hget;go_wp2;go_roundw
     case rel=>exact⟨k+1,line+1,acc,ahj,ahj,hnx,hown,hbel⟩
     case measure=>simp[intOf];omega
    ·have hb:=bp4 _ h10;rcases VR s[k]with⟨hbl,hcase⟩|⟨hbl,t1,t2,t3⟩
     ·have hnx:=hsp.blank hlt' hbl;clear h10 hget hbl;rcases hcase with t1|⟨t1,t2⟩|⟨t1,t2,t3⟩
      all_goals
       go_wp2;go_roundw
       case rel=>exact⟨k+1,line,acc,ahj,rfl,hnx,hown,hbel⟩
       case measure=>simp[intOf];omega
     ·have hts:(s.extract k s.size).size=s.size -k:=ahh;have be2:eD wr:=fG.below hbel fG.lt;cases hp:bj9 (s.extract k s.size)
      ·have hp':[47,47].isPrefixOf (s.data.toList.drop k)=false:=(by rw[<- Fw];exact hp);have hte:(s.extract k s.size).size<=4096:=ahf;have ht0:0<(s.extract k s.size).size:=ahf;have hok:=λh4=>hsp.tok hlt' h10 hbl hp' h4;have aw4:=λh4=>hsp.err hlt' h10 hbl hp' h4;have Hd:=ah (Fw s k);clear h10 hget hbl hp' hts;generalize hr:Tk.first (s.data.toList.drop k)=r at *;have Hr:=ah hr;clear hr;obtain⟨en,kind,text⟩:=r;by_cases he:en=0
       ·subst he;obtain⟨hnx,htl⟩:=hok rfl;simp only[]at hnx htl;clear hok aw4;have hle:k+text.length<=s.size:=abY;have hacc:acc.length<=4096:=(by have:=hsp.2.2.1;omega);have hth:(⟨text.toArray⟩:ByteArray).size=text.length:=Lib.size_mk _;go_wp2_with (go_at_call 111;refine(zY _ _).mono ?_;rintro e w' ⟨rfl,rfl⟩);refine(QZ _ _ hte ht0 be2).mono ?_;rintro e w1 ⟨rfl,hb1⟩;rw[Hd.o,Hr.o];unfold Ao;have hown1:=own_below hown hb1;have hbs:=hbel.size;have bW1:=hb1.size;go_wp2_with (at_builtin;refine wpList_append_own _ rfl _ _ 137 rfl w.heap.size 164 i0 _ 3 32 Tryz.underlying137 hi hz0 hz1 hz2 rfl ahg _ _ _ rfl ((hown1.alloc _).alloc _) ⟨w1.heap.size+1,0,none⟩ 1 1 [.int .i64 kind,.string ⟨text.toArray⟩,.int .i64 line] rfl rfl ?c1 ?c2 ?c3 ?c4 ?c5 ?_)
        case c1=>
         intro j u hj
         match j,hj with
         |0,hj=>simp at hj;subst hj;simp[Addr.add]
         |1,hj=>simp at hj;subst hj;simp[Addr.add]
         |2,hj=>simp at hj;subst hj;simp[Addr.add]
        case c2=>intro u hu;simp at hu;rcases hu with rfl|rfl|rfl <;> rfl
        case c3=>unfold maxLen;omega
        case c4=>omega
        case c5=>simp;omega
        intro v' w2 hown2 hgrow2 _;have hcell:=aC3 hown1 _ _ _ hgrow2 1;have Ij:=an6 hown1 (hbel.trans (hb1.mono hbs)) ahf _ _ hgrow2;have hown3:w2.ownsRow w.heap.size 164 3 v' (acc++[(⟨kind,text,line⟩:Tk.Tok)]).length (Tk.cellsOf (acc++[(⟨kind,text,line⟩:Tk.Tok)])):=(by rw[Tk.Ua,Tk.cells_one,au];exact hown2);clear hown2 hgrow2 hown1 hown hb1 hbel hi hz0 hz1 hz2;simp only[List.getElem?_toArray,List.getElem?_cons_succ,List.getElem?_cons_zero]at hcell;go_wp2;go_roundw
        case rel=>exact⟨k+text.length,line,_,ahj,rfl,hnx,hown3,Ij⟩
        case measure=>simp[intOf];omega
       ·have hR:=ah (aw4 he);have he1:((en:Int)==0)=false:=acA;have he2:((en:Int) != 0)=true:=(by rw[bne_iff_ne];omega);clear hok aw4 he;go_wp2_with (go_at_call 111;refine(zY _ _).mono ?_;rintro e w' ⟨rfl,rfl⟩);refine(QZ _ _ hte ht0 be2).mono ?_;rintro e w1 ⟨rfl,hb1⟩;rw[Hd.o,Hr.o];unfold Ao;have hbs:=hbel.size;go_wp2
        go_ret3
        rw[hR.o];exact⟨_,rfl,World.ownsRow_nil _ _ _ _,(hbel.trans (hb1.mono hbs)).alloc (by have:=hb1.size;omega) _⟩
      ·have hp':[47,47].isPrefixOf (s.data.toList.drop k)=true:=(by rw[<- Fw];exact hp);obtain⟨hnx,hc1⟩:=hsp.J7 hlt' h10 hbl hp';rw[<- Fw]at hnx hc1;have hc1':1<=YU (s.extract k s.size):=hc1;have hle:k+YU (s.extract k s.size)<=s.size:=abY;have hte:(s.extract k s.size).size<=4096:=ahf;clear h10 hget hbl hp' hc1 hts;go_wp2_with (first|(go_at_call 111;refine(zY _ _).mono ?_;rintro e w' ⟨rfl,rfl⟩)|(go_at_call 112;refine(ae5 _ _ hte).mono ?_;rintro e w' ⟨rfl,rfl⟩));go_roundw
       case rel=>exact⟨k+YU (s.extract k s.size),line,acc,ahj,rfl,hnx,hown,hbel⟩
       case measure=>simp[intOf];omega
   ·have hR:=ah (hsp.done adw);go_wp2
    go_ret3
    rw[hR.o];exact⟨_,rfl,hown,hbel⟩
end Go.Proofs.YtcjgfgkllmldpaaGreatDoor
end
