/- Plain functions of the token layer: what a text's tokens are, over lists of bytes. No program in sight. And what hangs on it. -/
import Derived.Lib.Strings
import Derived.Lib.Bytealg
import Derived.Lib.TrimByte
import Derived.Laws.Strings
import Derived.Test.YtldapdcphphodaaGreatDoorChecked
import Derived.WalkKit
import Derived.WalkSpells
import Derived.WalkLawsBesides
import Derived.Lib.Walk
import Derived.Lib.Hide
import Derived.Deep.Light
import Derived.Laws.Strings2
set_option linter.unusedSimpArgs false
set_option linter.unusedVariables false
set_option maxHeartbeats 40000000
set_option maxRecDepth 1000000
section
namespace Go.Proofs.YtldapdcphphodaaGreatDoor.Tk
def sN (c:Int):Bool:=(decide (97<=c)&&decide (c<=122))||(decide (65<=c)&&decide (c<=90))
def rM (c:Int):Bool:=decide (48<=c)&&decide (c<=57)
def Ms (c:Int):Bool:=(sN c||rM c)||c==95
def AJ (c:UInt8):Bool:=sN c.toNat
def lT (c:UInt8):Bool:=rM c.toNat
def lu (c:UInt8):Bool:=Ms c.toNat
def Hf:List (List UInt8):=[[118,97,114],[118,111,108,97,116,105,108,101],[109,117,116,101,120],[114,119,108,111,99,107],[99,111,110,100],[102,117,116,117,114,101],[116,104,114,101,97,100],[105,102],[101,108,115,101],[119,104,105,108,101],[108,111,99,107],[114,101,97,100],[119,114,105,116,101],[116,114,97,110,115,97,99,116,105,111,110],[97,116,111,109,105,99],[119,97,105,116],[110,111,116,105,102,121],[110,111,116,105,102,121,97,108,108],[115,112,97,119,110],[106,111,105,110],[115,101,116],[103,101,116]]
def uN (l:List UInt8):Bool:=Hf.contains l
def sgs:List (List UInt8):=[[124,124],[38,38],[61,61],[33,61],[60,61],[62,61],[60],[62],[43],[45],[42],[47],[37],[33],[61],[40],[41],[91],[93],[123],[125],[44],[59]]
def oI (l:List UInt8):List UInt8:=(sgs.find? λg=>g.isPrefixOf l).getD []
def val (l:List UInt8):Nat:=l.foldl (λn c=>10*n+(c.toNat -48)) 0
def yA (l:List UInt8):Bool:=decide (val l<=9223372036854775807)
def iZ (l:List UInt8):Bool:=(decide (1<=l.length)&&decide (l.length<=12)&& !uN l)&&(l.head?.any AJ&&l.all lu)
structure Tok where
 kind:Nat
 text:List UInt8
 line:Nat
def um (l:List UInt8):Nat×Nat×List UInt8:=
 if 12<(l.takeWhile lu).length then(2,0,[])else(0,if uN (l.takeWhile lu)then 3 else 1,l.takeWhile lu)
def Cj (l:List UInt8):Nat×Nat×List UInt8:=
 if((l.dropWhile lT).head?.any lu)|| !yA (l.takeWhile lT)then(3,0,[])else(0,2,l.takeWhile lT)
def MB (l:List UInt8):Nat×Nat×List UInt8:=
 if(oI l).isEmpty then(3,0,[])else(0,4,oI l)
def first (l:List UInt8):Nat×Nat×List UInt8:=
 if AJ (l.headD 0)then um l else if lT (l.headD 0)then Cj l else MB l
def mH:Nat->List UInt8->Nat->List Tok->List Tok×Nat×Nat
 |_,[],_,acc=>(acc,0,0)
 |0,_::_,_,acc=>(acc,0,0)
 |f+1,c::r,line,acc=>
  if c=10 then mH f r (line+1) acc
  else if c=32∨c=9∨c=13 then mH f r line acc
  else if [47,47].isPrefixOf (c::r)then mH f ((c::r).dropWhile (· != 10)) line acc
  else if(first (c::r)).1=0 then mH f ((c::r).drop (first (c::r)).2.2.length) line (acc++[⟨(first (c::r)).2.1,(first (c::r)).2.2,line⟩])
  else([],(first (c::r)).1,line)
def scan (l:List UInt8):List Tok×Nat×Nat:=
 if 4096<l.length then([],2,0)else mH l.length l 1 []
def Tok.cells (t:Tok):List Value:=[.int .i64 t.kind,.string ⟨t.text.toArray⟩,.int .i64 t.line]
def cellsOf (l:List Tok):List Value:=l.flatMap Tok.cells
end Go.Proofs.YtldapdcphphodaaGreatDoor.Tk
end
section
namespace Go.Proofs.YtldapdcphphodaaGreatDoor.Tk
theorem FE (p:UInt8->Bool): ∀(l:List UInt8) (n:Nat),n<=l.length->(∀j (h:j<l.length),j<n->p l[j]=true)->(∀h:n<l.length,p l[n]=false)->(l.takeWhile p).length=n
 | [],n,hn,_,_=>by simp at hn;simp[hn]
 |c::l,0,_,_,h2=>by have:=h2 (by simp);simp only[List.getElem_cons_zero]at this;simp[this]
 |c::l,n+1,hn,h1,h2=>by
  have h0:=h1 0 (by simp) (by omega);simp only[List.getElem_cons_zero]at h0;rw[List.takeWhile_cons,if_pos h0,List.length_cons];congr 1;refine FE p l n (by simpa using hn) (λj h hj=> ?_) (λh=> ?_)
  ·have:=h1 (j+1) (by simpa using h) (by omega);simpa using this
  ·have:=h2 (by simpa using h);simpa using this
theorem take_takeWhile (p:UInt8->Bool): ∀(l:List UInt8),l.take (l.takeWhile p).length=l.takeWhile p
 | []=>rfl
 |c::l=>by
  rw[List.takeWhile_cons];split
  ·simp[take_takeWhile p l]
  ·rfl
theorem uZ (p:UInt8->Bool): ∀(l:List UInt8),l.drop (l.takeWhile p).length=l.dropWhile p
 | []=>rfl
 |c::l=>by
  rw[List.takeWhile_cons,List.dropWhile_cons];split
  ·simp[uZ p l]
  ·rfl
theorem zY (p:UInt8->Bool): ∀l:List UInt8,(l.takeWhile p).length<=l.length
 | []=>Nat.le_refl _
 |c::l=>by rw[List.takeWhile_cons];have:=zY p l;split <;> simp <;> omega
theorem Ce (c:UInt8): ∀l:List UInt8,Lib.indexByte l c=if(l.takeWhile (· != c)).length<l.length then((l.takeWhile (· != c)).length:Int)else -1
 | []=>rfl
 |b::l=>by
  unfold Lib.indexByte;rw[Ce c l,List.takeWhile_cons];by_cases h:b=c
  ·subst h;simp
  ·have h1:(b==c)=false:=by simpa using h
   have h2:(b != c)=true:=by simpa using h
   rw[h1,h2,if_pos rfl,if_neg (by simp),List.length_cons,List.length_cons];generalize (l.takeWhile (· != c)).length=n;by_cases h3:n<l.length
   ·have h4:n+1<l.length+1:=(by omega);have h5:((n:Int)== -1)=false:=(by simp);simp[h3,h5]
   ·have h4: ¬n+1<l.length+1:=(by omega);simp[h3]
def Fy (l:List UInt8):Nat:=(l.takeWhile (· != 10)).length
theorem WX (l:List UInt8):Fy l<=l.length:=zY _ _
theorem aG0 (l:List UInt8) (h:0<=Lib.indexByte l 10):Lib.indexByte l 10=Fy l:=by
 rw[Ce]at h⊢;by_cases h3:(l.takeWhile (· != 10)).length<l.length
 ·rw[if_pos h3];rfl
 ·rw[if_neg h3]at h;omega
theorem aG1 (l:List UInt8) (h:Lib.indexByte l 10<0):l.length=Fy l:=by
 rw[Ce]at h;by_cases h3:(l.takeWhile (· != 10)).length<l.length
 ·rw[if_pos h3]at h;omega
 ·have:=zY (· != 10) l;unfold Fy;omega
def qb (t s:ByteArray):Prop:=t.data.toList.dropWhile (· ==48)=s.data.toList.dropWhile (· ==48)
theorem qb.refl (s:ByteArray):qb s s:=rfl
theorem uI (t:ByteArray) (h:0<t.size):t.data.toList=t[0]::t.data.toList.drop 1:=by
 have h':0<t.data.toList.length:=by rw[<- Lib.size_eq];exact h
 have:=List.drop_eq_getElem_cons h';rw[List.drop_zero]at this;exact this
theorem qb.step {t s:ByteArray} (h:qb t s) (h0:0<t.size) (he:t[0]=48):qb (t.extract 1 t.size) s:=by
 unfold qb at h⊢;rw[Lib.extract_data,<- h]
 conv=>rhs;rw[uI t h0]
 rw[List.dropWhile_cons,if_pos (by rw[he];rfl),List.take_of_length_le (by simp)]
theorem qb.done {t s:ByteArray} (h:qb t s) (he: ∀h0:0<t.size,t[0]≠48):t=⟨(s.data.toList.dropWhile (· ==48)).toArray⟩:=by
 unfold qb at h;rw[<- h];have e:t.data.toList.dropWhile (· ==48)=t.data.toList:=by
  by_cases h0:0<t.size
  ·rw[uI t h0,List.dropWhile_cons,if_neg (by simpa using he h0)]
  ·have:t.data.toList.length=0:=by rw[<- Lib.size_eq];omega
   rw[List.eq_nil_of_length_eq_zero this];rfl
 rw[e]
end Go.Proofs.YtldapdcphphodaaGreatDoor.Tk
end
section
namespace Go.Proofs.YtldapdcphphodaaGreatDoor
open Go.RowKit
section
variable {P:Prop}
theorem θ(h:P:=by obtain⟨g',e,hg',hc'⟩:=h2 (i+1) y aie;exact⟨g',e,hg',λj u hu=>by rw[show k+1+i=k+(i+1) by omega];exact hc' j u hu⟩):P:=h
theorem ν(h:P:=by have:=heap_alloc_new ((w.alloc (.cells #[.slice aK p.ds.length aG,.slice aM p.ts.length aD] 26)).alloc (.cells #[.slice none 0 0,.slice none 0 0,.slice none 0 0,.slice none 0 0,.slice none 0 0,.slice none 0 0] 34)) (.cells #[.slice none 0 0,.slice none 0 0,.slice none 0 0,.slice none 0 0,.slice none 0 0,.slice none 0 0] 34);rw[<- hW,<- hbp];simpa using this):P:=h
theorem ξ(h:P:=by obtain⟨h0,h1,h2,h3,h4,h5,hl⟩:=HQ.o;exact⟨(hb.cell (p:=⟨L.gb,0,none⟩) hl).trans h0,(hb.cell (p:=⟨L.gb,1,none⟩) hl).trans h1,(hb.cell (p:=⟨L.gb,2,none⟩) hl).trans h2,(hb.cell (p:=⟨L.gb,3,none⟩) hl).trans h3,(hb.cell (p:=⟨L.gb,4,none⟩) hl).trans h4,(hb.cell (p:=⟨L.gb,5,none⟩) hl).trans h5⟩):P:=h
theorem ο(h:P:=by rw[hz];exact hbd d (by rw[<- tZ];exact List.mem_filterMap.2 ⟨o,List.mem_of_getElem? hlo,hod⟩)):P:=h
theorem υ(h:P:=by have:=heap_alloc_new (w.alloc (.cells #[.slice aK p.ds.length aG,.slice aM p.ts.length aD] 26)) (.cells #[.slice none 0 0,.slice none 0 0,.slice none 0 0,.slice none 0 0,.slice none 0 0,.slice none 0 0] 34);rw[<- hW,<- hbp,heap_alloc_old _ _ ahg];simpa using this):P:=h
theorem χ(h:P:=by have:a.tmps[s]? =a0.tmps[s]?:=hs s (λk d R' hk _ e=>by obtain⟨ok,hok,hdk⟩:=hdst k (some d) R' hk;have:d∈fC:=(by rw[<- tZ];exact List.mem_filterMap.2 ⟨ok,List.mem_of_getElem? hok,hdk⟩);rw[e]at this;simp at hs';exact hs' this);simp[Act.eval,this]):P:=h
theorem Δ(h:P:=by obtain⟨q1,q2,q3,-⟩:=Sv.o;unfold qz at q1;simp only[aP,List.all_eq_true]at q1;have:=BU p.ds [] 0 0 0 0 q1.1.1 q2 ahe;exact⟨ahe,q3,λd hd=>⟨q1.1.1 d hd,Gt _ _ _ _ _ _ q2 d hd⟩⟩):P:=h
theorem Θ(h:P:=by rw[dB _ _ _ rfl (by show bp+2≠nb;have h5:=iy.o;have h6:=kY.o;omega)];exact(hgr.block nb (aJ OV.o iY.o.size) (λe=>OW.o (by rw[mU.o];exact e.symm))).trans ((iY.o.block nb OV.o).trans DU.o)):P:=h
theorem Ξ(h:P:=by have e:W'.ts=p.ts.map (·.nm):=(by rw[<- Kc.o,FM.o,MO,HW0.o.1];rfl);intro x hx;rw[e]at hx;obtain⟨t,ht,rfl⟩:=List.mem_map.1 hx;exact(Wj.o t ht).1):P:=h
theorem Ω(h:P:=by have:=xI hz i o hi;simp only[aP,List.all_eq_true,decide_eq_true_eq]at this;refine⟨this.1,λg b hg=> ?_⟩;have h2:=this.2;rw[hg]at h2;simpa using h2):P:=h
theorem aac(h:P:=by have h1:=yO.o.1;unfold qz at h1;simp only[aP]at h1;have:=List.all_eq_true.1 h1.1.2 t ht;unfold oU at this;simp only[aP]at this;exact this.2):P:=h
theorem aad(h:P:=by have h1:=HI.o.sz;have h2:=L.b1;refine⟨ahe,(aU HX.o),(aU HQ.o.blk),ahe,λe=> ?_⟩;have:=(HI.o.own _ e).2;omega):P:=h
theorem aae(h:P:=by rw[<- hW,<- hbp,heap_alloc_old _ _ aij,heap_alloc_old _ _ aij];exact heap_alloc_new _ _):P:=h
theorem aaf(h:P:=by rw[qm.o];exact⟨trivial,trivial,trivial,trivial,trivial,trivial,bF _,bF _,bF _,bF _,bF _,bF _,λc hc=>by cases hc⟩):P:=h
theorem aag(h:P:=by rw[<- zu];exact jO W.ts h.nm w' s.aT s.cT (iW.o.i.below hC).wo.lt ((iW.o.i.below hC).wo.ts.mono (iW.o.i.below hC).b0)):P:=h
theorem aah(h:P:=by have h1:=HP.o.2.2.2.below (HB3.o.trans (jF.o.mono HB3.o.size));exact h1.mono (by rw[<- hbc];exact HB3.o.size)):P:=h
theorem aai(h:P:=by have o1:=(HR.o.ok d aW).1;unfold iV at o1;simp only[aP,decide_eq_true_eq]at o1;exact⟨o1.1.2.1,hs4⟩):P:=h
theorem aaj(h:P:=by rw[<- nL p j h.nm 5 4 ahf rfl,<- uJ,oF,JM 5 6 h.nm (hnm aht)];unfold jy;simp[hc]):P:=h
theorem aak(h:P:=by obtain⟨ok,hok,hdk⟩:=hdst k (some d2) R' hk;exact hik (Da hnd i k o ok d2 hlo hok (by rw[hod,e]) hdk)):P:=h
theorem aal(h:P:=by rw[<- Jp.o,List.getElem?_append_right ahe,Nat.add_sub_cancel_left];exact(Ir _ _ _ _ _)):P:=h
theorem aam(h:P:=by have:=HL.o;simp only[gH,dR,au,ay,aI]at *;(unfold fu at *;omega)):P:=h
theorem aan(h:P:=by rw[oo afn afn rfl];unfold CJ xg;rw[dI.o];simp):P:=h
theorem aao(h:P:=by rw[mU.o];rcases hmv with e|e;exact .inl e;exact .inr (by rw[e];simp)):P:=h
theorem aap(h:P:=by first|exact HR.o.symm|(rw[HR.o];first|done|rfl|simp[kC,nest])):P:=h
theorem aaq(h:P:=by first|exact HR.o|exact HR.o.symm|(rw[<- HR.o];first|rfl|simp_all)):P:=h
theorem aar(h:P:=by first|exact(HX.o.next hB).1|exact(HX.o.next (hB.alloc hB.size _)).1):P:=h
theorem aas(h:P:=by have:=HL.o;simp only[gH,dR,au,ay,aI]at *;(have:=vS.o;unfold fu at *;omega)):P:=h
theorem aat(h:P:=by have:=HL.o;unfold fu at this;simp only[dR,au,ay,aI]at *;omega):P:=h
theorem aau(h:P:=by obtain⟨g,h1,-,h3,h4⟩:=hc i x hx;exact⟨g,h1,h3,λj u hu=>by rw[aV];exact h4 j u hu⟩):P:=h
theorem aav(h:P:=by have:=HL.o;simp only[gH,dR,au,ay,aI]at *;(have:=zi.o;have:=vS.o;unfold fu at *;omega)):P:=h
theorem aaw(h:P:=by have:=HL.o;simp only[gH,dR,au,ay,aI]at *;(have:=Wq.o;unfold fu at *;omega)):P:=h
theorem aax(h:P:=by have:=HL.o;have:=vS.o;simp only[au,aI,ay]at *;unfold fu at *;omega):P:=h
theorem aay(h:P:=by rw[<- hW2];exact(Sit.start wr).uY hnb _ _ _ _ _ _ _ _ _ _ _ _):P:=h
theorem aaz(h:P:=by rw[List.flatMap_append,List.flatMap_singleton,au];exact hown):P:=h
theorem aaA(h:P:=by have:=congrArg (List.take ents.length) h2;simpa[List.take_take]using this):P:=h
theorem aaB(h:P:=by have:=HL.o;simp only[gH,dR,au,ay,aI]at *;(have:=Wp.o;have:=HVY.o;have:=qB.o.2.2;omega)):P:=h
theorem aaC(h:P:=by have:=HL.o;have:=vS.o;have:=zi.o;simp only[au,aI,ay]at *;unfold fu at *;omega):P:=h
theorem aaD(h:P:=by have:=HL.o;simp only[gH,dR,au,ay,aI]at *;(have:=zi.o;unfold fu at *;omega)):P:=h
theorem aaE(h:P:=by have:=HL.o;simp only[au,aI,List.length_singleton];unfold fu at this;omega):P:=h
theorem aaF(h:P:=by simp[results,Tryz.results163,go_sem,jH,y0,y1,y2,y3,y4,y5,y6,y7,y8,y9,uo]):P:=h
theorem aaG(h:P:=by rw[<- hW];exact((aA _ _).alloc ahg _).alloc aij _):P:=h
theorem aaH(h:P:=by rw[<- hW,<- hbp,heap_alloc_old _ _ ahg];exact heap_alloc_new _ _):P:=h
theorem aaI(h:P:=by rw[jA (.inr afn)];unfold qx gH;rw[dI.o,DV.o];rfl):P:=h
theorem aaJ(h:P:=by rcases hmv with h|h;exact .inl h;exact .inr (by rw[h];exact hbl.size)):P:=h
theorem aaK(h:P:=by unfold LD;rw[if_neg ahh,if_pos (by simpa using hop)]):P:=h
theorem aaL(h:P:=by have:=HL.o;simp only[dR,au,aI]at *;(have:=BG.o;have:=Zy.o;omega)):P:=h
theorem aaM(h:P:=by have:=HL.o;have:=qB.o.2.2;have:=Wp.o;simp only[au,aI]at *;omega):P:=h
theorem aaN(h:P:=by have h1:=HB3.o.size;have h2:=jF.o.size;have h3:=jv.o.size;omega):P:=h
theorem aaO(h:P:=by have:=oZ.o;unfold fu at *;rw[hi]at *;simp only[dR]at *;omega):P:=h
theorem aaP(h:P:=by have h1:=HN.o.2.2.1;have h2:=OI.o.1;simp only[yL]at h1;omega):P:=h
theorem aaQ(h:P:=by unfold iA;repeat (first|exact aW|refine aX _ ?_)):P:=h
theorem aaR(h:P:=by have:=hi;simp only[iF]at this;simpa using this):P:=h
theorem aaS(h:P:=by rw[jA (.inr afn)];unfold qx;rw[dI.o];rfl):P:=h
theorem aaT(h:P:=by have h5:=HR.o.ws.sz;have h6:=HR.o.g0;omega):P:=h
theorem aaU(h:P:=by have:=HL.o;simp only[dR,au,aI]at *;omega):P:=h
theorem aaV(h:P:=by rw[<- hW];exact HH.o.uY rfl _ _ _ _ _ _ _ _ _ _ _ _):P:=h
theorem aaW(h:P:=by rw[<- vR.o,List.getElem?_append_right ahe];simp):P:=h
theorem aaX(h:P:=by have:=HL.o;simp only[dR,au,aI]at *;(have:=BG.o;omega)):P:=h
theorem aaY(h:P:=by simp[dc,dl,dn,df,hkd] <;> first|rfl|omega):P:=h
theorem aaZ(h:P:=by rw[<- hlen];exact(List.getElem?_eq_some_iff.1 hi).1):P:=h
theorem abb(h:P:=by have:=vR.o;simp only[au,ay,aI]at hkn;omega):P:=h
theorem abd(h:P:=by have:=HW.o;rw[hnb]at this;exact this.below HB.o):P:=h
theorem abe(h:P:=by rw[<- hW];exact⟨ahg,aQ (heap_alloc_new _ _) rfl⟩):P:=h
theorem abf(h:P:=by have h1:i<listed.size:=ahe;simp[h1]at hg⊢;exact hg):P:=h
theorem abg(h:P:=by have:=congrArg (λl=>l[ents.length]?) h2;simpa using this):P:=h
theorem abh(h:P:=by have:=vP.o;have:=zN.o.1;show w.heap.size<_;omega):P:=h
theorem abj(h:P:=by obtain⟨b,h1,h2⟩:=h;exact⟨b,h1,hle.1 b h2⟩):P:=h
theorem abk(h:P:=by rw[List.all_eq_true]at hbd;simpa using hbd d hd):P:=h
theorem abl(h:P:=by rw[Bool.eq_iff_iff,beq_iff_eq,beq_iff_eq];omega):P:=h
theorem abm(h:P:=by rw[Bool.eq_false_iff];exact λe=>hc ⟨h,e⟩):P:=h
theorem abn(h:P:=by rw[<- hW,<- hnb];exact heap_alloc_new _ _):P:=h
theorem abo(h:P:=by have:=h.lt;have:=R.b0;show R.B0<=bt;omega):P:=h
theorem abp(h:P:=by have:=h.size;simpa[World.setCell]using this):P:=h
theorem abq(h:P:=by obtain⟨R',h1,-⟩:=hf k ok ahN;exact⟨R',h1⟩):P:=h
theorem abr(h:P:=by rw[<- hW];exact gW w8 ⟨bt,3,none⟩ _ (Nat.lt_succ_self _)):P:=h
theorem abt(h:P:=by injection hbe with h;injection h with h1 h2;exact⟨h1,h2⟩):P:=h
theorem abu(h:P:=by unfold LD;rw[if_neg ahh,if_neg ahh]):P:=h
theorem abv(h:P:=by unfold Bb;rw[if_neg ahf,if_pos ahN]):P:=h
theorem abw(h:P:=by unfold Bb;rw[if_neg ahf,if_neg ahN]):P:=h
theorem abx(h:P:=by rw[<- hW];exact(Sit.start w).uY rfl _ _ _ _ _ _ _ _ _ _ _ _):P:=h
theorem aby(h:P:=by simp[results,Tryz.results52,go_sem,exV,bY.len,y0,y1,y2,y3]):P:=h
theorem abz(h:P:=by rw[<- hW];exact(heap_alloc_old _ _ (aU HZ2.o)).trans HZ2.o):P:=h
theorem abA(h:P:=by rw[<- hW];exact Rj HE.o.2 (dO (aA _ _)) (Nat.le_of_eq hg)):P:=h
theorem abB(h:P:=by rw[<- hW];exact(heap_alloc_old _ _ (aU HZ1.o)).trans HZ1.o):P:=h
theorem abC(h:P:=by simp[results,Tryz.results6,go_sem,o0,o1,o2,o3,o4,o5,o6]):P:=h
theorem abD(h:P:=by simp[results,Tryz.results5,go_sem,o0,o1,o2,o3,o4,o5,o6]):P:=h
theorem abE(h:P:=by intro u hu;simp[qM]at hu;rcases hu with rfl|rfl|rfl <;> rfl):P:=h
theorem abF(h:P:=by rw[gI,if_neg (by rw[rO,decide_eq_true_iff];omega)];rfl):P:=h
theorem abG(h:P:=by simp[results,Tryz.results114,go_sem,kF.f,y0,y1,y2,y3]):P:=h
theorem abH(h:P:=by obtain⟨x,-,hx⟩:=List.mem_flatMap.1 hu;exact PS x u hx):P:=h
theorem abI(h:P:=by have h1:=xL.o;have h2:=HL.o;simp only[au,ay,aI];omega):P:=h
theorem abJ(h:P:=by have h1:=qA.o;have h2:=HS.o.sz;have h3:=HS.o.lt;omega):P:=h
theorem abK(h:P:=by have h1:=je.o t GZ;have h2:=OI.o.2 t GZ;exact(h1.and h2)):P:=h
theorem abL(h:P:=by have h1:=h.lt;have h2:=hB.size;simp[World.setCell];omega):P:=h
theorem abM(h:P:=by have h1:=HR.o.few;have h2:=SB.o;rw[Kv.o,au,EK];omega):P:=h
theorem abN(h:P:=by simp[results,Tryz.results52,go_sem,exV,y0,y1,y2,y3]):P:=h
theorem abO(h:P:=by rw[lK.o.2.2.2.2.2];have:=Ku.o.2.2.2;unfold maxLen;omega):P:=h
theorem abP(h:P:=by rw[lK.o.2.2.2.2.1];have:=Ku.o.2.2.1;unfold maxLen;omega):P:=h
theorem abQ(h:P:=by rw[Bool.eq_iff_iff,decide_eq_true_iff,beq_iff_eq];omega):P:=h
theorem abR(h:P:=by rw[<- hW2];exact(Sit.start wr).PO hnb _ _ _ _ _ _ _):P:=h
theorem abS(h:P:=by have:=VT.o;simp only[ay]at this;unfold maxLen;omega):P:=h
theorem abT(h:P:=by have:=HL.o;simp only[au,aI];unfold fu at this;omega):P:=h
theorem abU(h:P:=by first|(rw[HF.o];done)|(rw[HF.o];congr 1;go_light;grind)):P:=h
theorem abV(h:P:=by rw[hz];exact hbd d (hmem i d R aia V8)):P:=h
theorem abW(h:P:=by unfold iV;simp only[bne];rw[Bool.eq_iff_iff];simp):P:=h
theorem abX(h:P:=by rw[<- hW];exact(Fr.refl _ _ _).set _ _ (.inl rfl)):P:=h
theorem abY(h:P:=by obtain⟨q,h1,h2⟩:=h;exact⟨q,hle.2.2.1 q h1,h2⟩):P:=h
theorem abZ(h:P:=by have:=HB.o;rw[<- hnb]at this;exact jc.o.same this):P:=h
theorem acd(h:P:=by have h5:=rA.o;have h6:=Bt.o;unfold fu at h5;omega):P:=h
theorem ace(h:P:=by have:=hnx.1;rw[<- Lib.size_eq]at this;exact this):P:=h
theorem acf(h:P:=by have:=HL.o;have:=qB.o.2.2;simp only[au,aI];omega):P:=h
theorem acg(h:P:=by rw[lK.o.2.2.2.1];have:=Ku.o.2.1;unfold maxLen;omega):P:=h
theorem ach(h:P:=by have:=BU p.ds [] 0 0 0 0 wY.o.1 h0 ahe;omega):P:=h
theorem aci(h:P:=by have h1:=lK.o.2.1;have h2:=Dy.o;unfold maxLen;omega):P:=h
theorem acj(h:P:=by rw[hlen];exact Array.getElem?_eq_none_iff.1 hk):P:=h
theorem acn(h:P:=by rw[<- Qi];exact SA.o.trans N9.o (Kg.set _ _ _)):P:=h
theorem aco(h:P:=by have:=hed i l[i] (bJ hi) e.on (zZ he hb);omega):P:=h
theorem acp(h:P:=by simp[dc,dl,dn,df,hkd,hs0] <;> first|rfl|omega):P:=h
theorem acr(h:P:=by have:=congrArg List.length hd;simp at this;omega):P:=h
theorem acs(h:P:=by have:=HJB.o;simp only[au,ay,aI]at this;omega):P:=h
theorem acu(h:P:=by have h5:=iy.o.1;have h6:=HR.o.mlt;simp;omega):P:=h
theorem acv(h:P:=by have h1:=rA.o;have h2:=HSL.o;simp only[au];omega):P:=h
theorem acw(h:P:=by unfold jy;rcases hc with hc|hc <;> simp[hc]):P:=h
theorem acy(h:P:=by rw[lK.o.2.2.1];have:=Ku.o.1;unfold maxLen;omega):P:=h
theorem acz(h:P:=by have:=Yc HP.o.rd.ts.tail h2;unfold dD;omega):P:=h
theorem acA(h:P:=by have:=HI3.o.sz;have:=L.c1;show L.bc<_;omega):P:=h
theorem acB(h:P:=by simpa using HM.o.next (below_drewN (ak _ _) 1)):P:=h
theorem acC(h:P:=by simp[results,Tryz.results109,go_sem,yI,hc]):P:=h
theorem acD(h:P:=by show L.gb≠nb;have:=rC.o;have:=iy.o;omega):P:=h
theorem acE(h:P:=by rw[jA (.inl dI.o)];unfold qx;rw[dI.o];rfl):P:=h
theorem acF(h:P:=by rw[<- hW];exact(aA _ _).alloc ahg _):P:=h
theorem acG(h:P:=by rw[<- hW];exact HG2.o.next (dO (aA _ _))):P:=h
theorem acH(h:P:=by rw[<- hW];exact HB1.o.alloc HB1.o.size _):P:=h
theorem acI(h:P:=by rcases hc with hc|hc|hc <;> (rw[hc];rfl)):P:=h
theorem acJ(h:P:=by have:=Jp.o;simp only[au,ay,aI]at hkn';omega):P:=h
theorem acK(h:P:=by rw[<- hW];exact HE.o.2.next (dO (aA _ _))):P:=h
theorem acL(h:P:=by rw[<- hW,<- hs1];exact heap_alloc_new _ _):P:=h
theorem acM(h:P:=by have:=hv k e;have:=L.c0;have:=L.c1;omega):P:=h
theorem acN(h:P:=by rw[beq_eq_false_iff_ne];omega):P:=h
theorem acO(h:P:=by simp only[aY.len]at hlen;omega):P:=h
theorem acP(h:P:=by simp[results,Tryz.results44,go_sem]):P:=h
theorem acQ(h:P:=by simp[results,Tryz.results37,go_sem]):P:=h
theorem acR(h:P:=by rw[<- hW];exact heap_alloc_new _ _):P:=h
theorem acS(h:P:=by simp only[bY.len]at hlen;omega):P:=h
theorem acT(h:P:=by rw[List.append_assoc];exact rY.o):P:=h
theorem acU(h:P:=by have:=qB.o;simp only[dR]at *;omega):P:=h
theorem acV(h:P:=by have:=oZ.o;unfold fu at this;omega):P:=h
theorem acW(h:P:=by rw[<- qg];exact nU _ _ _ _ _):P:=h
theorem acX(h:P:=by unfold kV gD;rw[HK.o];exact⟨rfl,rfl⟩):P:=h
theorem acY(h:P:=by have:=h1 ahf;omega):P:=h
theorem acZ(h:P:=by rw[<- hW];exact(Wk.start HI.o).alloc _):P:=h
theorem ac2(h:P:=by simp[results,Tryz.results146,go_sem]):P:=h
theorem ac3(h:P:=by simp[results,Tryz.results79,go_sem]):P:=h
theorem ada(h:P:=by simp[results,Tryz.results65,go_sem]):P:=h
theorem adb(h:P:=by have:=rA.o;unfold fu at this;omega):P:=h
theorem ade(h:P:=by have h1:=jv.o.size;have h2:=lJ.o;omega):P:=h
theorem adf(h:P:=by have h1:=(aU wJ.o);have h2:=vP.o;omega):P:=h
theorem adg(h:P:=by simpa using hC.below (aA _ _)):P:=h
theorem adh(h:P:=by have:=gT.o;show bp+1<_;omega):P:=h
theorem adi(h:P:=by have:=gT.o;show bp<_;omega):P:=h
theorem adj(h:P:=by rcases hc with hc|hc <;> (rw[hc];rfl)):P:=h
theorem adk(h:P:=by have:=this.few;unfold maxLen;omega):P:=h
theorem adl(h:P:=by rw[List.length_take]at hlt;omega):P:=h
theorem adn(h:P:=by have:=Sy.o;unfold maxLen;omega):P:=h
theorem ado(h:P:=by have:=Ke.o;unfold maxLen;omega):P:=h
theorem adp(h:P:=by cases hv:v.ownBlock <;> simp):P:=h
theorem adq(h:P:=by rw[HV.o,HC.o.2.1,sU.o];rfl):P:=h
theorem adr(h:P:=by have h6:=oC.o.lt;have h7:=oC.o.sz;omega):P:=h
theorem ads(h:P:=by rw[<- hW2];exact HU.o.zx hn2 _ _ _ _ _):P:=h
theorem adt(h:P:=by simp[results,Tryz.results148,go_sem]):P:=h
theorem adu(h:P:=by rw[<- hW,Nc.o];exact HX.o t0 r0 Nc.o):P:=h
theorem adv(h:P:=by simp[results,Tryz.results76,go_sem]):P:=h
theorem adw(h:P:=by simp[results,Tryz.results75,go_sem]):P:=h
theorem adx(h:P:=by simp[results,Tryz.results58,go_sem]):P:=h
theorem ady(h:P:=by first|exact .inl rfl|exact .inr rfl):P:=h
theorem adz(h:P:=by unfold iF;(repeat' split) <;> simp):P:=h
theorem adA(h:P:=by rw[List.getElem?_toArray];exact hu):P:=h
theorem adB(h:P:=by have:=HR.o.few;unfold maxLen;omega):P:=h
theorem adC(h:P:=by intro k hk;simp[Value.ownBlock]at hk):P:=h
theorem adD(h:P:=by rwa [getD_set_ne false hik]at hl):P:=h
theorem adE(h:P:=by rw[decide_eq_false_iff_not];omega):P:=h
theorem adF(h:P:=by have h1:=xL.o;have h2:=HL.o;omega):P:=h
theorem adG(h:P:=by have:=h.lt;show bt≠R.br;omega):P:=h
theorem adH(h:P:=by rw[ag5 hsd];unfold jy;simp[hc]):P:=h
theorem adI(h:P:=by rw[<- List.append_assoc];exact k1):P:=h
theorem adJ(h:P:=by have:=(hrow.lt _ e.symm).1;omega):P:=h
theorem adK(h:P:=by have:=h.lt;show bt≠_;omega):P:=h
theorem adL(h:P:=by rw[<- Lib.size_eq];exact hlt):P:=h
theorem adM(h:P:=by rw[<- Lib.size_eq];exact hk):P:=h
theorem adN(h:P:=by have:=zP.o;have:=FY.o;omega):P:=h
theorem adO(h:P:=by have:=h.lt;show _<=bt;omega):P:=h
theorem adP(h:P:=by have:=Fh.o;have:=lX.o;omega):P:=h
theorem adQ(h:P:=by simpa[Value.ownBlock]using hk):P:=h
theorem adR(h:P:=by have:=L.b1;have:=h.g;omega):P:=h
theorem adS(h:P:=by subst q;exact(hg _).1 _ _ c0):P:=h
theorem adT(h:P:=by rw[Lib.toList_data];exact hx):P:=h
theorem adU(h:P:=by rw[<- hg];exact(aU HZ2.o)):P:=h
theorem adV(h:P:=by rw[<- hW];exact HF.o.set _ _ (.inl rfl)):P:=h
theorem adW(h:P:=by rw[<- hW2];exact HB.o.alloc HB.o.size _):P:=h
theorem adX(h:P:=by have:=HB1.o.size;have:=HB2.o.size;omega):P:=h
theorem adY(h:P:=by have h5:=jo.o.sz;have h6:=HR.o.g0;omega):P:=h
theorem adZ(h:P:=by have h1:=HS.o.lt;have h2:=HS.o.sz;omega):P:=h
theorem aea(h:P:=by have h1:=HB3.o.size;have h2:=vP.o;omega):P:=h
theorem aeb(h:P:=by have h1:=Bp.o.size;have h2:=lJ.o;omega):P:=h
theorem aec(h:P:=by rw[IntWalk.i64_in _ ahe];omega):P:=h
theorem aed(h:P:=by intro h;injection h with h;exact hl h):P:=h
theorem aee(h:P:=by have:=VT.o;simp only[ay]at this;omega):P:=h
theorem aef(h:P:=by simp[results,Tryz.results109,go_sem]):P:=h
theorem aeg(h:P:=by rw[<- hW];exact HS2.o.below (aA _ _)):P:=h
theorem aeh(h:P:=by simp[results,Tryz.results59,go_sem]):P:=h
theorem aei(h:P:=by have:=(HI.o.own _ e).1;have:=L.b1;omega):P:=h
theorem aej(h:P:=by unfold qN;rw[Bool.eq_iff_iff];simp):P:=h
theorem aek(h:P:=by rw[HCA.o,HN9.o,<- Kv.o];exact sZ.o):P:=h
theorem ael(h:P:=by rw[Gm,HVO.o,Kv.o,aV,List.append_assoc]):P:=h
theorem aem(h:P:=by have:=lK.o.1;simp only[au,ay,aI];omega):P:=h
theorem aen(h:P:=by have:=h.sz;have:=L.c0;have:=L.c1;omega):P:=h
theorem aeo(h:P:=by have:=h.len;simp only[ay]at this;omega):P:=h
theorem aep(h:P:=by have:=HI.o.few;unfold maxLen;omega):P:=h
theorem aer(h:P:=by have h1:=qA.o;have h2:=HG0.o;omega):P:=h
theorem aes(h:P:=by rw[fJ];exact noop ahd):P:=h
theorem aeu(h:P:=by rw[gI,if_pos (by rw[rO,Qf];rfl)]):P:=h
theorem aev(h:P:=by rw[<- hW];exact hb1.alloc hb1.size _):P:=h
theorem aew(h:P:=by have:=oZ.o.1;simp only[aI];omega):P:=h
theorem aex(h:P:=by have:=iY.o.size;simp at e this;omega):P:=h
theorem aey(h:P:=by have:=OI.o.1;have:=Ik p.ts;omega):P:=h
theorem aez(h:P:=by have h1:=HW2.o;have h2:=vP.o;omega):P:=h
theorem aeA(h:P:=by show L.gb≠bc;have:=rC.o;omega):P:=h
theorem aeB(h:P:=by rw[lK.o.2.2.2.2.2];exact Ap.o.2):P:=h
theorem aeC(h:P:=by rw[<- List.drop_drop,HDR.o];rfl):P:=h
theorem aeD(h:P:=by cases h:(r==0) <;> simp_all[uQ]):P:=h
theorem aeE(h:P:=by show x.size<=_;unfold maxLen;omega):P:=h
theorem aeF(h:P:=by show bc<=L.gb;have:=rC.o;omega):P:=h
theorem aeG(h:P:=by rw[if_pos ahN]):P:=h
theorem aeH(h:P:=by rw[if_neg ahN]):P:=h
theorem aeI(h:P:=by rw[<- hW];exact jG.o.nm _ wW.o):P:=h
theorem aeJ(h:P:=by rw[<- Xu];exact HP.o.Vk (Fa _)):P:=h
theorem aeK(h:P:=by intro r hr;simp[iF]at hr;omega):P:=h
theorem aeL(h:P:=by have:=HR.o.few;unfold dD;omega):P:=h
theorem aeM(h:P:=by have:=HL.o;unfold maxLen;omega):P:=h
theorem aeN(h:P:=by rw[<- hW];exact(CO w _ _ _).2):P:=h
theorem aeO(h:P:=by rw[<- hW];exact(CO w _ _ _).1):P:=h
theorem aeP(h:P:=by have:=(h.row.lt k hk).1;omega):P:=h
theorem aeQ(h:P:=by first|rfl|(simp only[zB];rfl)):P:=h
theorem aeR(h:P:=by unfold lim at h2;simp at h2;omega):P:=h
theorem aeS(h:P:=by have:=FW.o.1 r hr;unfold dD;omega):P:=h
theorem aeT(h:P:=by simpa[Value.ownBlock]using e):P:=h
theorem aeU(h:P:=by rw[Bool.eq_iff_iff];simp;omega):P:=h
theorem aeV(h:P:=by rw[<- hW];exact lI.o.alloc _):P:=h
theorem aeW(h:P:=by have:=qW.o;show bd≠_;omega):P:=h
theorem aeX(h:P:=by have:=(h.rs.lt k hk).1;omega):P:=h
theorem aeY(h:P:=by have:=(h.re.lt k hk).1;omega):P:=h
theorem aeZ(h:P:=by have:=lK.o.1;unfold maxLen;omega):P:=h
theorem afa(h:P:=by have:=hb.size;simp at this;omega):P:=h
theorem afb(h:P:=by simp[List.getElem?_replicate,h]):P:=h
theorem afc(h:P:=by show dD (r:Int);unfold dD;omega):P:=h
theorem afd(h:P:=by rw[lK.o.2.2.1];exact Ap.o.1):P:=h
theorem afe(h:P:=by rw[hs];exact heap_alloc_new _ _):P:=h
theorem aff(h:P:=by rw[HF.o];congr 1;go_light;grind):P:=h
theorem afg(h:P:=by rw[<- Kk.o,List.append_nil]):P:=h
theorem afh(h:P:=by obtain⟨D,h,_⟩:=h;exact h.lt):P:=h
theorem afi(h:P:=by first|(rw[Wm.o];rfl)|simp[Wm.o]):P:=h
theorem afj(h:P:=by simp[Value.ownBlock];omega):P:=h
theorem afk(h:P:=by rw[HE.o.trans (if_pos uM)]):P:=h
theorem afl(h:P:=by have:=tJ d;unfold dD;omega):P:=h
theorem afm(h:P:=by simpa using hlen):P:=h
theorem afn(h:P:=by rw[dI.o];decide):P:=h
theorem afo(h:P:=by unfold dD;decide):P:=h
theorem afp(h:P:=by unfold maxLen;omega):P:=h
theorem afq(h:P:=by have:=gT.o;omega):P:=h
theorem afr(h:P:=by simpa using hbs):P:=h
theorem afs(h:P:=by simpa[aY.len]using hlen):P:=h
theorem aft(h:P:=by rw[<- hW];exact aA _ _):P:=h
theorem afu(h:P:=by have:=HW3.o;omega):P:=h
theorem afv(h:P:=by have:=HR.o.few;omega):P:=h
theorem afw(h:P:=by have:=qA.o;omega):P:=h
theorem afx(h:P:=by have:=oM.o;omega):P:=h
theorem afy(h:P:=by rw[mU.o];exact hgr):P:=h
theorem afz(h:P:=by unfold jy;simp[hc]):P:=h
theorem afA(h:P:=by unfold maxLen;decide):P:=h
theorem afB(h:P:=by have:=hI.few;omega):P:=h
theorem afC(h:P:=by simpa using hr1):P:=h
theorem afD(h:P:=by have:=kY.o;omega):P:=h
theorem afE(h:P:=by rw[fJ];kernel_rfl):P:=h
theorem afF(h:P:=by simpa[bY.len]using hlen):P:=h
theorem afG(h:P:=by simp[Value.ownBlock]):P:=h
theorem afH(h:P:=by simp[Value.oneCell']):P:=h
theorem afI(h:P:=by simpa using xS.o):P:=h
theorem afJ(h:P:=by simpa using hC.below hb):P:=h
theorem afK(h:P:=by rw[au,HK.o];rfl):P:=h
theorem afL(h:P:=by unfold lH;rw[HK.o];rfl):P:=h
theorem afM(h:P:=by unfold dD;omega):P:=h
theorem afN(h:P:=by simp[Act.eval,hD]):P:=h
theorem afO(h:P:=by rw[tq.o.1];simp[iA]):P:=h
theorem afP(h:P:=by simpa using hmv):P:=h
theorem afQ(h:P:=by rw[<- hW2];exact aA _ _):P:=h
theorem afR(h:P:=by simpa using hlen'):P:=h
theorem afS(h:P:=by simpa using dJ.o):P:=h
theorem afT(h:P:=by have:=hC.2.lt;omega):P:=h
theorem afU(h:P:=by have:=oM.o;simp;omega):P:=h
theorem afV(h:P:=by have:=h.lt;simp;omega):P:=h
theorem afW(h:P:=by simpa using(aU ho)):P:=h
theorem afX(h:P:=by have:=zP.o;omega):P:=h
theorem afY(h:P:=by rw[<- hds,au,hk]):P:=h
theorem afZ(h:P:=by rw[e];exact hb.size):P:=h
theorem aga(h:P:=by simp[World.setCell]):P:=h
theorem agb(h:P:=by rw[HN.o];simpa using h6):P:=h
theorem agc(h:P:=by rw[<- hkt];exact HC.o.1):P:=h
theorem agd(h:P:=by simpa using FV.o):P:=h
theorem agf(h:P:=by have:=FY.o;omega):P:=h
theorem agh(h:P:=by rw[hI.1];exact hlt):P:=h
theorem agi(h:P:=by rw[HRR.o,EX.o];rfl):P:=h
theorem agj(h:P:=by have:=h.lt;omega):P:=h
theorem agk(h:P:=by unfold bne;rw[hI];rfl):P:=h
theorem agl(h:P:=by simp[dc,dl,dn,df,hkd]):P:=h
theorem agm(h:P:=by rw[tq.o.2];exact OU.o):P:=h
theorem agn(h:P:=by rw[BH.o];exact e.symm):P:=h
theorem agp(h:P:=by rw[<- hW,<- hbp];simp):P:=h
theorem agq(h:P:=by unfold kZ;rw[hS];rfl):P:=h
theorem agr(h:P:=by unfold Tb at t;omega):P:=h
theorem ags(h:P:=by intro x hx;simp at hx):P:=h
theorem agt(h:P:=by have:=FZ.o.1;omega):P:=h
theorem agu(h:P:=by rw[tq.o];simp[iA]):P:=h
theorem agv(h:P:=by rw[h0]at e;cases e):P:=h
theorem agw(h:P:=by rw[iy.o];exact HB.o):P:=h
theorem agx(h:P:=by simp at h1;omega):P:=h
theorem agy(h:P:=by have:=lJ.o;omega):P:=h
theorem agz(h:P:=by have:=R.b0;omega):P:=h
theorem agA(h:P:=by have:=L.c1;omega):P:=h
theorem agB(h:P:=by have:=qW.o;omega):P:=h
theorem agC(h:P:=by have:=Bt.o.2;omega):P:=h
theorem agD(h:P:=by have:=Bt.o.1;omega):P:=h
theorem agE(h:P:=by simpa using hr2):P:=h
theorem agF(h:P:=by have:=rC.o;omega):P:=h
theorem agG(h:P:=by unfold qL;rw[h2,h3];rfl):P:=h
theorem agH(h:P:=by simp[qo,Value.oneCell']):P:=h
theorem agI(h:P:=by simp[oD,Value.oneCell']):P:=h
theorem agJ(h:P:=by simp[hls]at h0⊢;exact h0):P:=h
theorem agK(h:P:=by have:=h.2.1;omega):P:=h
theorem agL(h:P:=by rw[dX h.blk];rfl):P:=h
theorem agM(h:P:=by rw[<- aV j'];exact h1):P:=h
theorem agN(h:P:=by unfold fu;omega):P:=h
theorem agO(h:P:=by simpa using hlen3):P:=h
theorem agP(h:P:=by rw[<- hW];simp;omega):P:=h
theorem agQ(h:P:=by rw[<- aV j];exact h1):P:=h
theorem agR(h:P:=by simpa using jG.o):P:=h
theorem agS(h:P:=by have:=zN.o;omega):P:=h
theorem agT(h:P:=by have:=h.2.2.1;omega):P:=h
theorem agU(h:P:=by first|rfl|simp_all):P:=h
theorem agV(h:P:=by rw[HR.o];exact q1):P:=h
theorem agW(h:P:=by subst hop;decide):P:=h
theorem agX(h:P:=by simpa using hget):P:=h
theorem agY(h:P:=by simpa using HI.o):P:=h
theorem agZ(h:P:=by simp[bY.len]at h):P:=h
theorem aha(h:P:=by rw[HE.o];exact⟨rfl,rfl⟩):P:=h
theorem ahb(h:P:=by unfold fZ;grind):P:=h
theorem ahc(h:P:=by rw[rO];exact hA):P:=h
theorem ahd(h:P:=by kernel_rfl):P:=h
theorem ahe(h:P:=by omega):P:=h
theorem ahf(h:P:=by decide):P:=h
theorem ahg(h:P:=by simp):P:=h
theorem ahh(h:P:=by simp;omega):P:=h
theorem ahi(h:P:=by go_num):P:=h
theorem ahj(h:P:=by rw[hkd];rfl):P:=h
theorem ahk(h:P:=by rw[dJ.o];rfl):P:=h
theorem ahl(h:P:=by simpa using h1):P:=h
theorem ahm(h:P:=by subst h;simp):P:=h
theorem ahn(h:P:=by simpa using hC):P:=h
theorem aho(h:P:=by simpa using h2):P:=h
theorem ahp(h:P:=by simp[iA]):P:=h
theorem ahq(h:P:=by simp[maxLen]):P:=h
theorem ahr(h:P:=by rw[HA.o.2.2.2]):P:=h
theorem ahs(h:P:=by rw[HA.o.2.2.1]):P:=h
theorem aht(h:P:=by rw[hc];rfl):P:=h
theorem ahu(h:P:=by rw[h1];decide):P:=h
theorem ahv(h:P:=by rw[HA.o.2.1]):P:=h
theorem ahw(h:P:=by cases e):P:=h
theorem ahx(h:P:=by rw[HA.o.1]):P:=h
theorem ahy(h:P:=by exact Lx _ hC):P:=h
theorem ahz(h:P:=by simpa using hx):P:=h
theorem ahA(h:P:=by simpa using hi):P:=h
theorem ahB(h:P:=by go_light;grind):P:=h
theorem ahC(h:P:=by cases h):P:=h
theorem ahD(h:P:=by simp at h):P:=h
theorem ahE(h:P:=by rw[HX.o];rfl):P:=h
theorem ahF(h:P:=by decide+kernel):P:=h
theorem ahG(h:P:=by simp[hy]):P:=h
theorem ahH(h:P:=by simpa using he):P:=h
theorem ahI(h:P:=by rw[hop];rfl):P:=h
theorem ahJ(h:P:=by rw[HE.o];rfl):P:=h
theorem ahK(h:P:=by rw[e];rfl):P:=h
theorem ahL(h:P:=by rw[h2];decide):P:=h
theorem ahM(h:P:=by rw[Aq.o];rfl):P:=h
theorem ahN(h:P:=by simpa using hk):P:=h
theorem ahO(h:P:=by simpa using h4):P:=h
theorem ahP(h:P:=by simp;exact hc):P:=h
theorem ahQ(h:P:=by simp[pF]):P:=h
theorem ahR(h:P:=by simp[fZ,hkd]):P:=h
theorem ahS(h:P:=by rw[h];decide):P:=h
theorem ahT(h:P:=by rw[h5];simp):P:=h
theorem ahU(h:P:=by rw[DK.o]):P:=h
theorem ahV(h:P:=by rw[hr1];decide):P:=h
theorem ahW(h:P:=by simpa using hl):P:=h
theorem ahX(h:P:=by rw[HV.o];rfl):P:=h
theorem ahY(h:P:=by rw[xD,zH,nV]):P:=h
theorem ahZ(h:P:=by rw[hS];rfl):P:=h
theorem ah9(h:P:=by rw[h1];rfl):P:=h
theorem aia(h:P:=by rw[Ja,hod]):P:=h
theorem aib(h:P:=by simpa using yu):P:=h
theorem aic(h:P:=by simpa using wF):P:=h
theorem aie(h:P:=by simpa using hy):P:=h
theorem aif(h:P:=by simpa using hu):P:=h
theorem aii(h:P:=by simpa using h5):P:=h
theorem aij(h:P:=by simp <;> omega):P:=h
theorem aik(h:P:=by rw[<- hF];simp):P:=h
theorem ail(h:P:=by simpa using h6):P:=h
theorem ain(h:P:=by simp;exact h1):P:=h
theorem aio(h:P:=by rw[HK.o];omega):P:=h
theorem aip(h:P:=by rfl):P:=h
theorem aiq(h:P:=by simpa using h):P:=h
theorem air(h:P:=by rw[HE.o]):P:=h
end
theorem aU {α:Type _} {a:Array α} {i:Nat} {x:α} (h:a[i]? =some x):i<a.size:=(Array.getElem?_eq_some_iff.1 h).1
theorem au {α:Type _} {a b:List α} :(a++b).length=a.length+b.length:=List.length_append
theorem ay {α:Type _} {a:α} {l:List α} :(a::l).length=l.length+1:=List.length_cons
theorem aI {α:Type _} :([]:List α).length=0:=List.length_nil
theorem ji {α:Type _} {β:Type _} {l:List α} (f:α->β):(l.map f).length=l.length:=List.length_map f
theorem aJ {n m k:Nat} (h:n<m) (g:m<=k):n<k:=Nat.lt_of_lt_of_le h g
theorem aR {n m k:Nat} (h:n<=m) (g:m<=k):n<=k:=Nat.le_trans h g
theorem aH (n:Nat):n<=n:=Nat.le_refl n
theorem bF (n:Nat):0<=n:=Nat.zero_le n
theorem aV (n:Nat):0+n=n:=Nat.zero_add n
theorem eG (n:Nat):n<=n+1:=Nat.le_succ n
theorem bM {n m:Nat} (h:n<m):n<=m:=Nat.le_of_lt h
theorem aP (a b:Bool):((a&&b)=true)=(a=true∧b=true):=Bool.and_eq_true a b
theorem aB {a b:Prop} (h:a) (g:b):a∧b:=⟨h,g⟩
theorem aW {α:Type _} {a:α} {l:List α} :a∈a::l:=List.mem_cons_self
theorem aX {α:Type _} (b:α) {a:α} {l:List α} (h:a∈l):a∈b::l:=List.mem_cons_of_mem b h
theorem bJ {α:Type _} {l:List α} {i:Nat} (h:i<l.length):l[i]? =some l[i]:=List.getElem?_eq_getElem h
theorem ak (B:Nat) (w:World):Below B w w:=Below.refl B w
def aj (p:Prop):Prop:=p
theorem aj.o {p:Prop} (h:aj p):p:=h
theorem ah {p:Prop} (h:p):aj p:=h
theorem bP {α:Type} :(∀l:List α,[]++l=l)∧∀(a:α) (l m:List α),(a::l)++m=a::(l++m):=⟨λ_=>rfl,λ_ _ _=>rfl⟩
theorem NW (w:World) (cs:List Value) (t:TypeId) (k:Nat):(w.alloc (.cells cs.toArray t)).cell? ⟨w.heap.size,k,none⟩=cs[k]?:=by
 rw[cell_of_row _ w.heap.size k cs.toArray t (0,0) (heap_alloc_new w _)];simp
end Go.Proofs.YtldapdcphphodaaGreatDoor
end
section
namespace Go.Proofs.YtldapdcphphodaaGreatDoor
open Go.RowKit
def Cg (k:Nat):List UInt8:=Tk.Hf.getD k []
def Mt (k:Nat):ByteArray:=⟨(Cg k).toArray⟩
theorem QG (k:Nat) (h:k<Tk.Hf.length):Cg k=Tk.Hf[k]:=by unfold Cg;simp[h]
theorem bZ {a b:Bool} (h:a=b):Ending.returned (.bool a)= .returned (.bool b):=by rw[h]
theorem bW {k:IntKind} {a b:Int} (h:a=b):Ending.returned (.int k a)= .returned (.int k b):=by rw[h]
def Iw:Array Value:=(Tk.Hf.map λl=>Value.string ⟨l.toArray⟩).toArray
def dZ (w:World):Prop:= ∃t fr,w.heap[0]? =some (.cells Iw t fr)
theorem dZ.below {B:Nat} {w w':World} (h:dZ w) (hb:Below B w w') (hB:0<B):dZ w':=by
 obtain⟨t,fr,h⟩:=h;exact⟨t,fr,(hb.block _ hB).trans h⟩
theorem dZ.lt {w:World} (h:dZ w):0<w.heap.size:=by
 obtain⟨t,fr,h⟩:=h;exact(aU h)
theorem dZ.same {w w':World} (h:dZ w) (hb:Below w.heap.size w w'):dZ w':=h.below hb h.lt
theorem dZ.alloc {w:World} (h:dZ w) (o:Obj):dZ (w.alloc o):=h.same ((ak _ _).alloc (aH _) o)
theorem ad3 (k:Nat) (hk:k<22) (w:World):(Instr.index 180 (.agg Iw) (.int .i64 (k:Int))).run Tryz.prog w= .ok (.string (Mt k)) w:=by
 rcases(show k=0∨k=1∨k=2∨k=3∨k=4∨k=5∨k=6∨k=7∨k=8∨k=9∨k=10∨k=11∨k=12∨k=13∨k=14∨k=15∨k=16∨k=17∨k=18∨k=19∨k=20∨k=21 by omega)with rfl|rfl|rfl|rfl|rfl|rfl|rfl|rfl|rfl|rfl|rfl|rfl|rfl|rfl|rfl|rfl|rfl|rfl|rfl|rfl|rfl|rfl <;> kernel_rfl
theorem Jc (k:Nat):(Mt k).toList=Cg k:=by
 unfold Mt;rw[Lib.toList_data]
theorem XR (k:Nat) (hk:k<22) (l:List UInt8) (h:(l==Cg k)=true):Tk.uN l=true:=by
 have hl:Tk.Hf.length=22:=rfl;unfold Tk.uN;rw[List.contains_iff_mem,show l=Cg k from aiq,QG _ ahe];exact List.getElem_mem _
theorem an2 (l:List UInt8) (h: ∀k<22,(l==Cg k)=false):Tk.uN l=false:=by
 have hl:Tk.Hf.length=22:=rfl;unfold Tk.uN;rw[Bool.eq_false_iff];intro hc;rw[List.contains_iff_mem]at hc;obtain⟨k,hk,e⟩:=List.getElem_of_mem hc;have:=h k ahe;rw[QG _ hk,e]at this;simp at this
def Pk (l:List UInt8) (k:Nat):Prop:= ∀j<k,(l==Cg j)=false
theorem Pk.step {l:List UInt8} {k:Nat} (h:Pk l k) (hk:(l==Cg k)=false):Pk l (k+1):=by
 intro j hj;by_cases e:j=k
 ·subst e;exact hk
 ·exact h j ahe
theorem Aa (s:ByteArray) (w:World) (h:dZ w):
 Calls Tryz.prog 89 #[.string s] w λe w'=>e= .returned (.bool (Tk.uN s.data.toList))∧w=w':=by
 obtain⟨t,fr,hg⟩:=h;rw[<- Lib.toList_data];go_enter Tryz.func89,Tryz.ntmps89;go_wp2_with (refine wpList_load_row rfl 180 _ rfl 0 rfl t _ fr _ hg Tryz.underlying180 rfl ahd ?_);clear hg;go_loop [6] (λi=> ∃k:Nat,k<=22∧i= .int .i64 k∧Pk s.toList k) (λi=>22 -(intOf i).toNat)
 case atStart=>exact⟨0,bF _,rfl,λj hj=>absurd hj ahe⟩
 case round=>
  obtain⟨k,hk,rfl,hno⟩:=hrel;by_cases hlt:k<22
  ·have hix:=ad3 k hlt;have hat:=Jc k;by_cases he:(s.toList==Cg k)=true
   ·go_wp2;go_ret;exact⟨bZ (XR k hlt _ he).symm,rfl⟩
   ·have he':(s.toList==Cg k)=false:=ahH;clear he;go_wp2;go_round
    case rel=>exact⟨k+1,ahe,ahi,hno.step he'⟩
    case measure=>simp[intOf];omega
  ·obtain rfl:k=22:=by omega
   go_wp2;go_ret;exact⟨bZ (an2 _ hno).symm,rfl⟩
end Go.Proofs.YtldapdcphphodaaGreatDoor
end
section
namespace Go.Proofs.YtldapdcphphodaaGreatDoor
open Go.RowKit
theorem aM7 (c:UInt8):Tk.lu c=((Tk.AJ c||Tk.lT c)||((c.toNat:Int)==95)):=rfl
theorem QD (c:UInt8) (h:Tk.AJ c=true):Tk.lu c=true:=by rw[aM7,h];rfl
theorem D9 (c:UInt8):(Tk.lu c=true∧Tk.sN (c.toNat:Int)=true)∨(Tk.lu c=true∧Tk.sN (c.toNat:Int)=false∧Tk.rM (c.toNat:Int)=true)∨
 (Tk.lu c=true∧Tk.sN (c.toNat:Int)=false∧Tk.rM (c.toNat:Int)=false∧((c.toNat:Int)==95)=true)∨
 (Tk.lu c=false∧Tk.sN (c.toNat:Int)=false∧Tk.rM (c.toNat:Int)=false∧((c.toNat:Int)==95)=false):=by
 have e:Tk.lu c=((Tk.sN (c.toNat:Int)||Tk.rM (c.toNat:Int))||((c.toNat:Int)==95)):=rfl;rw[e];cases Tk.sN (c.toNat:Int) <;> cases Tk.rM (c.toNat:Int) <;> cases ((c.toNat:Int)==95) <;> simp
end Go.Proofs.YtldapdcphphodaaGreatDoor
end
section
namespace Go.Proofs.YtldapdcphphodaaGreatDoor.Tk
theorem Bl (c:UInt8):lT c=true↔48<=c.toNat∧c.toNat<=57:=by
 unfold lT rM;simp only[aP,decide_eq_true_eq];omega
theorem Xj (l:List UInt8): ∀n:Nat,l.foldl (λn c=>10*n+(c.toNat -48)) n=n*10 ^ l.length+val l:=by
 induction l with
 |nil=>intro n;simp[val]
 |cons c l ih=>intro n;have h0:=ih (10*0+(c.toNat -48));have h1:=ih (10*n+(c.toNat -48));unfold val;simp only[List.foldl_cons];rw[h1,h0,ay,Nat.pow_succ];simp only[Nat.mul_zero,aV,Nat.add_mul];rw[Nat.add_assoc,Nat.mul_comm 10 n,Nat.mul_assoc,Nat.mul_comm 10]
theorem wS (c:UInt8) (l:List UInt8):val (c::l)=(c.toNat -48)*10 ^ l.length+val l:=by
 have:=Xj l (10*0+(c.toNat -48));unfold val at *;simp only[List.foldl_cons];rw[this];simp
theorem EA: ∀(l:List UInt8),l.all lT=true->val l<10 ^ l.length
 | [],_=>by simp[val]
 |c::l,h=>by rw[List.all_cons,aP,Bl]at h;have:=EA l h.2;rw[wS,ay,Nat.pow_succ];have h9:(c.toNat -48)*10 ^ l.length<=9*10 ^ l.length:=Nat.mul_le_mul_right _ ahe;omega
theorem aQ6 (c:UInt8) (l:List UInt8) (h:lT c=true) (h0:c≠48):10 ^ l.length<=val (c::l):=by
 rw[Bl]at h;have hc:c.toNat≠48:=λe=>h0 (UInt8.toNat_inj.1 e);rw[wS];have:1*10 ^ l.length<=(c.toNat -48)*10 ^ l.length:=Nat.mul_le_mul_right _ ahe;omega
theorem F9: ∀l:List UInt8,val (l.dropWhile (· ==48))=val l
 | []=>rfl
 |c::l=>by
  rw[List.dropWhile_cons];split
  ·rename_i h;have:c=48:=by simpa using h
   subst this;rw[F9 l,wS];simp
  ·rfl
theorem EJ (p q:UInt8->Bool): ∀l:List UInt8,l.all p=true->(l.dropWhile q).all p=true
 | [],_=>rfl
 |c::l,h=>by
  rw[List.dropWhile_cons];split
  ·rw[List.all_cons,aP]at h;exact EJ p q l h.2
  ·exact h
theorem QH: ∀(a b:List UInt8),a.all lT=true->b.all lT=true->a.length=b.length->Op.bytesLess a b=decide (val a<val b)
 | [],[],_,_,_=>rfl
 |a::x,b::y,ha,hb,hl=>by
  rw[List.all_cons,aP]at ha hb;have hl':x.length=y.length:=ahW
  have ih:=QH x y ha.2 hb.2 hl';have hx:=EA x ha.2;have hy:=EA y hb.2;have h1:=(Bl a).1 ha.1;have h2:=(Bl b).1 hb.1;unfold Op.bytesLess;rw[ih,wS,wS,hl'];rw[hl']at hx;generalize 10 ^ y.length=T at *;rcases Nat.lt_trichotomy a.toNat b.toNat with h|h|h
  ·have e1:a<b:=UInt8.lt_iff_toNat_lt.2 h;have:(a.toNat -48)*T+T<=(b.toNat -48)*T:=by
    have:=Nat.mul_le_mul_right T (show a.toNat -48+1<=b.toNat -48 by omega)
    rwa [Nat.add_mul,Nat.one_mul]at this
   have e2:(a.toNat -48)*T+val x<(b.toNat -48)*T+val y:=ahe
   simp[e1,e2]
  ·have e1:a=b:=UInt8.toNat_inj.1 h;subst e1;have e2: ¬a<a:=by rw[UInt8.lt_iff_toNat_lt];omega
   simp
  ·have e1: ¬a<b:=by rw[UInt8.lt_iff_toNat_lt];omega
   have e2:a≠b:=λe=>by rw[e]at h;omega
   have:(b.toNat -48)*T+T<=(a.toNat -48)*T:=by
    have:=Nat.mul_le_mul_right T (show b.toNat -48+1<=a.toNat -48 by omega)
    rwa [Nat.add_mul,Nat.one_mul]at this
   have e3: ¬(a.toNat -48)*T+val x<(b.toNat -48)*T+val y:=ahe
   simp[e1,e2,e3]
 | [],_::_,_,_,h=>ahD
 |_::_,[],_,_,h=>ahD
theorem val_inj: ∀(a b:List UInt8),a.all lT=true->b.all lT=true->a.length=b.length->val a=val b->a=b
 | [],[],_,_,_,_=>rfl
 |a::x,b::y,ha,hb,hl,hv=>by
  rw[List.all_cons,aP]at ha hb;have hl':x.length=y.length:=ahW
  have hx:=EA x ha.2;have hy:=EA y hb.2;have h1:=(Bl a).1 ha.1;have h2:=(Bl b).1 hb.1;have hv':=hv;rw[wS,wS,hl']at hv;rw[hl']at hx;have hab:a.toNat=b.toNat:=by
   generalize 10 ^ y.length=T at *;rcases Nat.lt_trichotomy a.toNat b.toNat with h|h|h
   ·have:=Nat.mul_le_mul_right T (show a.toNat -48+1<=b.toNat -48 by omega);rw[Nat.add_mul,Nat.one_mul]at this;omega
   ·exact h
   ·have:=Nat.mul_le_mul_right T (show b.toNat -48+1<=a.toNat -48 by omega);rw[Nat.add_mul,Nat.one_mul]at this;omega
  obtain rfl:a=b:=UInt8.toNat_inj.1 hab;rw[val_inj x y ha.2 hb.2 hl' ahe]
 | [],_::_,_,_,h,_=>ahD
 |_::_,[],_,_,h,_=>ahD
def great:List UInt8:=[57,50,50,51,51,55,50,48,51,54,56,53,52,55,55,53,56,48,55]
theorem CW:val great=9223372036854775807:=ahf
theorem NG:great.all lT=true:=ahf
theorem NH:great.length=19:=rfl
theorem Vn (l:List UInt8) (h:l.all lT=true) (hl:19<(l.dropWhile (· ==48)).length):yA l=false:=by
 have ht:=EJ lT (· ==48) l h;unfold yA;rw[<- F9 l];have hh: ∀c r,l.dropWhile (· ==48)=c::r->c≠48:=by intro c r e;have:=List.head?_dropWhile_not (· ==48) l;rw[e]at this;simpa using this
 generalize l.dropWhile (· ==48)=t at *
 match t,hl,ht,hh with
 |c::r,hl,ht,hh=>rw[List.all_cons,aP]at ht;have h1:=aQ6 c r ht.1 (hh c r rfl);have h2:10 ^ 19<=10 ^ r.length:=Nat.pow_le_pow_right ahe (by simp at hl;omega);have h3:(10:Nat) ^ 19=10000000000000000000:=rfl;rw[h3]at h2;simp only[decide_eq_false_iff_not];omega
theorem RZ (l:List UInt8) (h:l.all lT=true) (hl:(l.dropWhile (· ==48)).length<19):yA l=true:=by
 have ht:=EJ lT (· ==48) l h;unfold yA;rw[<- F9 l];generalize l.dropWhile (· ==48)=t at *;have h1:=EA t ht;have h2:10 ^ t.length<=10 ^ 18:=Nat.pow_le_pow_right ahe ahe;have h3:(10:Nat) ^ 18=1000000000000000000:=rfl;rw[h3]at h2;simp only[decide_eq_true_eq];omega
theorem ae5 (l:List UInt8) (h:l.all lT=true) (hl:(l.dropWhile (· ==48)).length=19):
 (!(Op.bytesLess (l.dropWhile (· ==48)) great||(l.dropWhile (· ==48))==great))= !yA l:=by
 have ht:=EJ lT (· ==48) l h;unfold yA;rw[<- F9 l];generalize l.dropWhile (· ==48)=t at *;rw[QH t great ht NG (by rw[hl,NH]),CW];congr 1;by_cases e:val t=9223372036854775807
 ·have:t=great:=val_inj t great ht NG (by rw[hl,NH]) (by rw[e,CW]);rw[this,CW];simp
 ·have hne:(t==great)=false:=by rw[beq_eq_false_iff_ne];intro e';rw[e',CW]at e;exact e rfl
  rw[hne,Bool.or_false,decide_eq_decide];omega
def Dv:List (List UInt8):=[[124,124],[38,38],[61,61],[33,61],[60,61],[62,61]]
def Nv:List UInt8:=[60,62,43,45,42,47,37,33,61,40,41,91,93,123,125,44,59]
theorem aP4:sgs=Dv++Nv.map λc=>[c]:=rfl
theorem JD (n:Nat) (l:List UInt8): ∀gs:List (List UInt8),(∀g∈gs,g.length=n)->gs.find? (λg=>g.isPrefixOf l)=if gs.contains (l.take n)then some (l.take n)else none
 | [],_=>rfl
 |g::gs,h=>by
  have hg:g.length=n:=h g (aW ..);have ih:=JD n l gs λx hx=>h x (aX _ hx);rw[List.find?_cons,ih,List.contains_cons];by_cases e:g.isPrefixOf l=true
  ·have e1:l.take n=g:=by obtain⟨r,rfl⟩:=List.isPrefixOf_iff_prefix.1 e;rw[<- hg];simp
   rw[e,e1];simp
  ·have e0:g.isPrefixOf l=false:=Bool.eq_false_iff.2 e;have e1:(l.take n==g)=false:=by rw[beq_eq_false_iff_ne];intro e2;exact e (List.isPrefixOf_iff_prefix.2 (e2 ▸ List.take_prefix _ _))
   rw[e0,e1];simp
theorem Es (l:List UInt8):oI l=if Dv.contains (l.take 2)then l.take 2 else if(Nv.map λc=>[c]).contains (l.take 1)then l.take 1 else []:=by
 unfold oI;rw[aP4,List.find?_append,JD 2 l Dv ahf,JD 1 l (Nv.map λc=>[c]) ahf];split
 ·rfl
 ·split <;> rfl
theorem PV (a:UInt8):(Nv.map λc=>[c]).contains [a]=Nv.contains a:=by
 simp[Nv]
theorem Ee (c:UInt8): ∀l:List UInt8,l.contains c=decide (0<=Lib.indexByte l c)
 | []=>rfl
 |b::l=>by
  have ih:=Ee c l;have hg:=Lib.indexByte_ge l c;have hc:Lib.indexByte (b::l) c=if b==c then 0 else if Lib.indexByte l c== -1 then -1 else Lib.indexByte l c+1:=rfl
  rw[List.contains_cons,ih,hc];by_cases h:b=c
  ·subst h;simp
  ·have h1:(b==c)=false:=by simpa using h
   have h2:(c==b)=false:=by simpa using Ne.symm h
   rw[h1,h2];simp only[Bool.false_or,Bool.false_eq_true,if_false,decide_eq_decide];by_cases h3:Lib.indexByte l c= -1
   ·simp[h3]
   ·rw[if_neg (by simpa using h3)];omega
end Go.Proofs.YtldapdcphphodaaGreatDoor.Tk
end
section
namespace Go.Proofs.YtldapdcphphodaaGreatDoor.Tk
theorem Yv (f line:Nat) (acc:List Tok):mH f [] line acc=(acc,0,0):=by cases f <;> rfl
theorem Rs (p:UInt8->Bool) (c:UInt8) (r:List UInt8) (h:p c=true):1<=((c::r).takeWhile p).length:=by
 rw[List.takeWhile_cons,if_pos h];simp
theorem as9 (c:UInt8) (h:AJ c=true):lu c=true:=by
 have e:lu c=((AJ c||lT c)||((c.toNat:Int)==95)):=rfl;rw[e,h];rfl
theorem Xi (c:UInt8) (r:List UInt8) (h:(first (c::r)).1=0):1<=(first (c::r)).2.2.length∧(first (c::r)).2.2.length<=(c::r).length∧(c::r).take (first (c::r)).2.2.length=(first (c::r)).2.2:=by
 have hh:(c::r).headD 0=c:=rfl;unfold first at h⊢;rw[hh]at h⊢;by_cases hL:AJ c=true
 ·rw[if_pos hL]at h⊢;unfold um at h⊢;by_cases h12:12<((c::r).takeWhile lu).length
  ·rw[if_pos h12]at h;cases h
  ·rw[if_neg h12];exact⟨Rs _ _ _ (as9 c hL),zY _ _,take_takeWhile _ _⟩
 ·rw[if_neg hL]at h⊢;by_cases hD:lT c=true
  ·rw[if_pos hD]at h⊢;unfold Cj at h⊢;split at h
   ·cases h
   ·rename_i h2;rw[if_neg h2];exact⟨Rs _ _ _ hD,zY _ _,take_takeWhile _ _⟩
  ·rw[if_neg hD]at h⊢;unfold MB at h⊢;split at h
   ·cases h
   ·rename_i h2;rw[if_neg h2];have hlen:oI (c::r)≠[]:=λe=>h2 ahK;refine⟨?_,?_,?_⟩
    ·cases hs:oI (c::r)with
     |nil=>exact absurd hs hlen
     |cons a b=>simp
    ·show(oI (c::r)).length<=_;rw[Es];split
     ·rw[List.length_take];omega
     ·split
      ·rw[List.length_take];omega
      ·simp
    ·show(c::r).take (oI (c::r)).length=oI (c::r);rw[Es];split
     ·rw[List.length_take,List.take_eq_take_iff];omega
     ·split
      ·rw[List.length_take,List.take_eq_take_iff];omega
      ·rfl
theorem af6 (f:Nat) (r:List UInt8) (line:Nat) (acc:List Tok):mH (f+1) (10::r) line acc=mH f r (line+1) acc:=by
 rw[mH,if_pos rfl]
theorem Sg (f:Nat) (c:UInt8) (r:List UInt8) (line:Nat) (acc:List Tok) (h:c=32∨c=9∨c=13):mH (f+1) (c::r) line acc=mH f r line acc:=by
 have h1:c≠10:=by rcases h with rfl|rfl|rfl <;> decide
 rw[mH,if_neg h1,if_pos h]
theorem Yt (f:Nat) (c:UInt8) (r:List UInt8) (line:Nat) (acc:List Tok) (h1:c≠10) (h2: ¬(c=32∨c=9∨c=13)) (h3:[47,47].isPrefixOf (c::r)=true):mH (f+1) (c::r) line acc=mH f ((c::r).dropWhile (· != 10)) line acc:=by
 rw[mH,if_neg h1,if_neg h2,if_pos h3]
theorem Yw (f:Nat) (c:UInt8) (r:List UInt8) (line:Nat) (acc:List Tok) (h1:c≠10) (h2: ¬(c=32∨c=9∨c=13)) (h3:[47,47].isPrefixOf (c::r)=false) (h4:(first (c::r)).1=0):
 mH (f+1) (c::r) line acc=mH f ((c::r).drop (first (c::r)).2.2.length) line (acc++[⟨(first (c::r)).2.1,(first (c::r)).2.2,line⟩]):=by
 rw[mH,if_neg h1,if_neg h2,if_neg (by rw[h3];decide),if_pos h4]
theorem Yu (f:Nat) (c:UInt8) (r:List UInt8) (line:Nat) (acc:List Tok) (h1:c≠10) (h2: ¬(c=32∨c=9∨c=13)) (h3:[47,47].isPrefixOf (c::r)=false) (h4:(first (c::r)).1≠0):
 mH (f+1) (c::r) line acc=([],(first (c::r)).1,line):=by
 rw[mH,if_neg h1,if_neg h2,if_neg (by rw[h3];decide),if_neg h4]
def SP (l:List UInt8) (R:List Tok×Nat×Nat) (k line:Nat) (acc:List Tok):Prop:=
 k<=l.length∧line<=k+1∧acc.length<=k∧∃f,(l.drop k).length<=f∧mH f (l.drop k) line acc=R
theorem SP.start (l:List UInt8):SP l (mH l.length l 1 []) 0 1 []:=⟨bF _,aH _,aH _,l.length,aH _,rfl⟩
section
variable {l:List UInt8} {R:List Tok×Nat×Nat} {k line:Nat} {acc:List Tok}
theorem SP.cut (h:SP l R k line acc) (hk:k<l.length): ∃f,(l.drop (k+1)).length<=f∧mH (f+1) (l[k]::l.drop (k+1)) line acc=R:=by
 obtain⟨_,_,_,f,hf,hR⟩:=h;rw[List.drop_eq_getElem_cons hk]at hf hR;cases f with
 |zero=>simp at hf;omega
 |succ f=>exact⟨f,by rw[ay]at hf;omega,hR⟩
theorem SP.nl (h:SP l R k line acc) (hk:k<l.length) (hc:l[k]=10):SP l R (k+1) (line+1) acc:=by
 obtain⟨f,hf,hR⟩:=h.cut hk;rw[hc,af6]at hR;exact⟨hk,agK,agT,f,hf,hR⟩
theorem SP.blank (h:SP l R k line acc) (hk:k<l.length) (hc:l[k]=32∨l[k]=9∨l[k]=13):SP l R (k+1) line acc:=by
 obtain⟨f,hf,hR⟩:=h.cut hk;rw[Sg _ _ _ _ _ hc]at hR;exact⟨hk,agK,agT,f,hf,hR⟩
theorem SP.Fy (h:SP l R k line acc) (hk:k<l.length) (h1:l[k]≠10) (h2: ¬(l[k]=32∨l[k]=9∨l[k]=13)) (h3:[47,47].isPrefixOf (l.drop k)=true):SP l R (k+Tk.Fy (l.drop k)) line acc∧1<=Tk.Fy (l.drop k):=by
 obtain⟨f,hf,hR⟩:=h.cut hk;have e:=List.drop_eq_getElem_cons hk;rw[e]at h3;rw[Yt _ _ _ _ _ h1 h2 h3,<- e,<- uZ,List.drop_drop]at hR;have hle:=WX (l.drop k);rw[List.length_drop]at hle;have h1':1<=Tk.Fy (l.drop k):=by unfold Tk.Fy;rw[e];exact Rs (· != 10) _ _ ahl
 refine⟨⟨ahe,agK,agT,f,?_,hR⟩,h1'⟩;rw[List.length_drop]at hf⊢;omega
theorem SP.tok (h:SP l R k line acc) (hk:k<l.length) (h1:l[k]≠10) (h2: ¬(l[k]=32∨l[k]=9∨l[k]=13)) (h3:[47,47].isPrefixOf (l.drop k)=false) (h4:(first (l.drop k)).1=0):
 SP l R (k+(first (l.drop k)).2.2.length) line (acc++[⟨(first (l.drop k)).2.1,(first (l.drop k)).2.2,line⟩])∧1<=(first (l.drop k)).2.2.length:=by
 obtain⟨f,hf,hR⟩:=h.cut hk;have e:=List.drop_eq_getElem_cons hk;rw[e]at h3 h4;have hl:=Xi _ _ h4;rw[Yw _ _ _ _ _ h1 h2 h3 h4,<- e,List.drop_drop]at hR;rw[<- e]at hl h4;rw[List.length_drop]at hl;refine⟨⟨ahe,agK,?_,f,?_,hR⟩,hl.1⟩
 ·rw[au];have:=h.2.2.1;simp;omega
 ·rw[List.length_drop]at hf⊢;omega
theorem SP.err (h:SP l R k line acc) (hk:k<l.length) (h1:l[k]≠10) (h2: ¬(l[k]=32∨l[k]=9∨l[k]=13)) (h3:[47,47].isPrefixOf (l.drop k)=false) (h4:(first (l.drop k)).1≠0):
 R=([],(first (l.drop k)).1,line):=by
 obtain⟨f,hf,hR⟩:=h.cut hk;have e:=List.drop_eq_getElem_cons hk;rw[e]at h3 h4;rw[Yu _ _ _ _ _ h1 h2 h3 h4,<- e]at hR;exact hR.symm
theorem SP.done (h:SP l R k line acc) (hk: ¬k<l.length):R=(acc,0,0):=by
 obtain⟨_,_,_,f,hf,hR⟩:=h;rw[List.drop_of_length_le ahe,Yv]at hR;exact hR.symm
end
theorem PU (l m:List Tok):cellsOf (l++m)=cellsOf l++cellsOf m:=by unfold cellsOf;rw[List.flatMap_append]
theorem cells_one (t:Tok):cellsOf [t]=t.cells:=by unfold cellsOf;simp
end Go.Proofs.YtldapdcphphodaaGreatDoor.Tk
end
section
namespace Go.Proofs.YtldapdcphphodaaGreatDoor
open Go.RowKit
theorem oG (c:Int) (w:World):
 Calls Tryz.prog 145 #[.int .u8 c] w λe w'=>e= .returned (.bool (Tk.sN c))∧w=w':=by
 unfold Tk.sN;go_enter Tryz.func145,Tryz.ntmps145;go_wp2
 all_goals go_ret
 all_goals first|(simp[*];done)|(simp[*];omega)
theorem om (c:Int) (w:World):
 Calls Tryz.prog 147 #[.int .u8 c] w λe w'=>e= .returned (.bool (Tk.rM c))∧w=w':=by
 unfold Tk.rM;go_enter Tryz.func147,Tryz.ntmps147;go_wp2
 all_goals go_ret
 all_goals first|(simp[*];done)|(simp[*];omega)
theorem Od (s p:ByteArray) (w:World):
 Calls Tryz.prog 107 #[.string s,.string p] w λe w'=>e= .returned (.bool (Lib.hasPrefix s.data.toList p.data.toList))∧w=w':=by
 rw[<- Lib.hasPrefix_of_take,<- Lib.size_eq,<- Lib.size_eq];go_enter Tryz.func107,Tryz.ntmps107;go_wp2
 ·rename_i h;go_ret;refine⟨?_,rfl⟩;show Ending.returned (Value.bool ((s.extract 0 p.size).toList==p.toList))=_;rw[Lib.extract_toList,Lib.toList_data];simp[h]
 ·rename_i h;go_ret;refine⟨?_,rfl⟩;show Ending.returned (Value.bool false)=_;simp[h]
theorem Bg (s:ByteArray) (c:Int) (w:World):
 Calls Tryz.prog 160 #[.string s,.int .u8 c] w λe w'=>e= .returned (.int .i64 (Lib.indexByte s.data.toList c.toNat.toUInt8))∧w=w':=by
 go_enter Tryz.func160,Tryz.ntmps160;go_wp2;rw[run_callFunc_extern Tryz.func167 ahd ahd ahd (e:=Extern.BytealgIndexByte.indexByte) ahd,Lib.run_indexByteString];simp only[Result.andThen];rw[Oper.upon_value];go_wp2;go_ret;exact⟨rfl,rfl⟩
theorem A9 (s:ByteArray) (c:Int) (w:World):
 Calls Tryz.prog 144 #[.string s,.int .u8 c] w λe w'=>e= .returned (.int .i64 (Lib.indexByte s.data.toList c.toNat.toUInt8))∧w=w':=by
 go_enter Tryz.func144,Tryz.ntmps144;go_wp2_with (go_at_call 160;refine(Bg _ _ _).mono ?_;rintro e w' ⟨rfl,rfl⟩);go_ret;exact⟨rfl,rfl⟩
end Go.Proofs.YtldapdcphphodaaGreatDoor
end
section
namespace Go.Proofs.YtldapdcphphodaaGreatDoor
open Go.RowKit
theorem RJ (s:ByteArray) (w:World) (_hs:s.size<=4096):
 Calls Tryz.prog 108 #[.string s] w λe w'=>e= .returned (.int .i64 (Tk.Fy s.data.toList))∧w=w':=by
 have hle:=Tk.WX s.data.toList;have hsz:=Lib.size_eq s;by_cases h:0<=Lib.indexByte s.data.toList 10
 ·have he:=Tk.aG0 _ h;rw[<- he];clear he hsz;go_enter Tryz.func108,Tryz.ntmps108;go_wp2_with (go_at_call 144;refine(A9 _ _ _).mono ?_;rintro e w' ⟨rfl,rfl⟩);go_ret;exact⟨rfl,rfl⟩
 ·have h':Lib.indexByte s.data.toList 10<0:=by omega
  have he:=Tk.aG1 _ h';rw[<- he,<- hsz];clear he hsz h;go_enter Tryz.func108,Tryz.ntmps108;go_wp2_with (go_at_call 144;refine(A9 _ _ _).mono ?_;rintro e w' ⟨rfl,rfl⟩);go_ret;exact⟨rfl,rfl⟩
theorem K3 (s:ByteArray) (w:World):
 Calls Tryz.prog 168 #[.string s,.int .u8 48] w λe w'=>e= .returned (.string ⟨(s.data.toList.dropWhile (· ==48)).toArray⟩)∧w=w':=by
 go_enter Tryz.func168,Tryz.ntmps168;go_wp2;go_loop [0] (λv=> ∃t:ByteArray,v= .string t∧Tk.qb t s) (λv=>Lib.strSize v)
 case atStart=>exact⟨s,rfl,Tk.qb.refl s⟩
 case round=>
  obtain⟨t,rfl,ht⟩:=hrel;by_cases h0:0<t.size
  ·by_cases he:t[0]=48
   ·have hb:((t[0].toNat:Int)==48)=true:=(by rw[he];rfl);have hst:=ht.step h0 he;have hz:(t.extract 1 t.size).size<t.size:=(by simp[ByteArray.size_extract];omega);have H:=ah he;clear he;go_wp2;go_round
    case rel=>exact⟨_,rfl,hst⟩
    case measure=>exact hz
   ·have hb:((t[0].toNat:Int)==48)=false:=(by rw[beq_eq_false_iff_ne];intro h;exact he (UInt8.toNat_inj.1 (by rw[show t[0].toNat=48 from ahe];rfl)));have hd:=ht.done (λ_=>he);have H:=ah hd;clear hd he;go_wp2;go_ret;exact⟨congrArg (λx=>Ending.returned (.string x)) H.o,rfl⟩
  ·have hd:=ht.done (λh=>absurd h h0);have H:=ah hd;clear hd;go_wp2;go_ret;exact⟨congrArg (λx=>Ending.returned (.string x)) H.o,rfl⟩
theorem Oh (s:ByteArray) (w:World) (h:s.toList.isEmpty=false):
 Calls Tryz.prog 161 #[.string s,.string ⟨#[48]⟩] w λe w'=>e= .returned (.string ⟨(s.data.toList.dropWhile (· ==48)).toArray⟩)∧w=w':=by
 have h2:s.toList≠[]:=by intro e;rw[e]at h;cases h
 go_enter Tryz.func161,Tryz.ntmps161;go_wp2_with (go_at_call 168;refine(K3 _ _).mono ?_;rintro e w' ⟨rfl,rfl⟩);go_ret;exact⟨rfl,rfl⟩
def yI (r:Nat×Nat×List UInt8):Value:= .tuple #[.agg #[.int .i64 r.2.1,.string ⟨r.2.2.toArray⟩,.int .i64 0],.int .i64 r.1]
theorem ar9 (s:ByteArray) (h:0<s.size):s.data.toList.headD 0=s[0]:=by
 rw[Tk.uI s h];rfl
theorem aP2 (s:ByteArray) (h:0<s.size):((Tk.oI s.data.toList).length:Int)=if 2<=(s.size:Int)∧Tk.Dv.contains (s.extract 0 2).toList=true then 2 else if(0:Int)<=Lib.indexByte Tk.Nv s[0]then 1 else 0:=by
 have hl:=Lib.size_eq s;rw[Tk.Es,Lib.extract_toList];simp only[List.drop_zero,Nat.sub_zero];have h1:s.data.toList.take 1=[s[0]]:=by rw[Tk.uI s h];rfl
 rw[h1,Tk.PV,Tk.Ee];by_cases h2:Tk.Dv.contains (s.data.toList.take 2)=true
 ·have h3:(s.data.toList.take 2).length=2:=by
   have: ∀x,Tk.Dv.contains x=true->x.length=2:=by intro x hx;rw[List.contains_iff_mem]at hx;have: ∀y∈Tk.Dv,y.length=2:=ahf;exact this x hx
   exact this _ h2
  have h4:2<=(s.size:Int):=by rw[List.length_take]at h3;omega
  rw[if_pos h2,if_pos ⟨h4,h2⟩,h3];rfl
 ·rw[if_neg h2];have h6: ¬(2<=(s.size:Int)∧Tk.Dv.contains (s.data.toList.take 2)=true):=λh=>h2 h.2;rw[if_neg h6];by_cases h5:(0:Int)<=Lib.indexByte Tk.Nv s[0]
  ·rw[if_pos h5,if_pos aii];rfl
  ·rw[if_neg h5,if_neg aii];rfl
theorem au1 (s:ByteArray) (h:0<s.size):((Tk.oI s.data.toList).length:Int)=if decide (2<=(s.size:Int))&&(((s.extract 0 2).toList== [124,124])||(((s.extract 0 2).toList== [38,38])||(((s.extract 0 2).toList== [61,61])||(((s.extract 0 2).toList== [33,61])||(((s.extract 0 2).toList== [60,61])||((s.extract 0 2).toList== [62,61]))))))then 2 else if(0:Int)<=Lib.indexByte [60,62,43,45,42,47,37,33,61,40,41,91,93,123,125,44,59] s[0]then 1 else 0:=by
 rw[aP2 s h];have e:Tk.Dv.contains (s.extract 0 2).toList=(((s.extract 0 2).toList== [124,124])||(((s.extract 0 2).toList== [38,38])||(((s.extract 0 2).toList== [61,61])||(((s.extract 0 2).toList== [33,61])||(((s.extract 0 2).toList== [60,61])||((s.extract 0 2).toList== [62,61])))))):=by unfold Tk.Dv;simp only[List.contains_cons,List.contains_nil,Bool.or_false]
 rw[<- e];simp only[aP,decide_eq_true_eq];rfl
theorem Ra (s:ByteArray) (w:World) (h:0<s.size):
 Calls Tryz.prog 149 #[.string s] w λe w'=>e= .returned (.int .i64 (Tk.oI s.data.toList).length)∧w=w':=by
 have H:=ah (au1 s h);go_enter Tryz.func149,Tryz.ntmps149;go_wp2_with (go_at_call 144;refine(A9 _ _ _).mono ?_;rintro e w' ⟨rfl,rfl⟩)
 all_goals go_ret
 all_goals (refine⟨bW ?_,rfl⟩;rw[H.o];clear H;go_light;first|(exfalso;simp_all;done)|(simp only[*,Bool.or_true,Bool.true_or,Bool.or_false,Bool.and_true,Bool.and_false,decide_true,if_true,if_false,Bool.false_eq_true];done)|(rw[if_neg (by simp only[*,Bool.or_false,Bool.and_false,Bool.false_eq_true,not_false_eq_true])];first|(rw[if_pos (by assumption)];done)|(rw[if_neg ahe];done))|(rw[if_neg ahh];first|(rw[if_pos (by assumption)];done)|(rw[if_neg ahe];done)))
theorem PZ (s:ByteArray) (j:Nat) (h:j<s.data.toList.length):s.data.toList[j]=s[j]'(by rw[Lib.size_eq];exact h):=rfl
def Fu (p:UInt8->Bool) (s:ByteArray) (k:Nat):Prop:= ∀j (h:j<s.size),j<k->p s[j]=true
theorem Fu.step {p:UInt8->Bool} {s:ByteArray} {k:Nat} (h:Fu p s k) (hk:k<s.size) (hp:p s[k]=true):Fu p s (k+1):=by
 intro j hj hjk;by_cases e:j=k
 ·subst e;exact hp
 ·exact h j hj ahe
theorem Fu.one {p:UInt8->Bool} {s:ByteArray} (h:0<s.size) (hp:p s[0]=true):Fu p s 1:=by
 intro j hj h1;obtain rfl:j=0:=ahe
 exact hp
theorem Fu.len {p:UInt8->Bool} {s:ByteArray} {k:Nat} (h:Fu p s k) (hk:k<=s.size) (hp: ∀h:k<s.size,p s[k]=false):(s.data.toList.takeWhile p).length=k:=by
 refine Tk.FE p _ k adM (λj hj hjk=> ?_) (λhj=> ?_)
 ·rw[PZ];exact h j _ hjk
 ·rw[PZ];exact hp _
theorem EO {p:UInt8->Bool} {s:ByteArray} {k:Nat} (h:(s.data.toList.takeWhile p).length=k):s.extract 0 k=⟨(s.data.toList.takeWhile p).toArray⟩:=by
 rw[Lib.extract_upto,<- h,Tk.take_takeWhile]
theorem KY {p:UInt8->Bool} {s:ByteArray} {k:Nat} (h:(s.data.toList.takeWhile p).length=k):(s.extract 0 k).data.toList=s.data.toList.takeWhile p:=by
 rw[EO h]
theorem VA (l:List UInt8) (k:Nat) (h:(l.takeWhile Tk.lu).length=k) (h12:12<k):Tk.um l=(2,0,[]):=by
 unfold Tk.um;rw[if_pos ahe]
theorem ah3 (l:List UInt8) (k:Nat) (h:(l.takeWhile Tk.lu).length=k) (h12: ¬12<k) (hk:Tk.uN (l.takeWhile Tk.lu)=true):Tk.um l=(0,3,l.takeWhile Tk.lu):=by
 unfold Tk.um;rw[if_neg ahe,if_pos hk]
theorem ah4 (l:List UInt8) (k:Nat) (h:(l.takeWhile Tk.lu).length=k) (h12: ¬12<k) (hk:Tk.uN (l.takeWhile Tk.lu)=false):Tk.um l=(0,1,l.takeWhile Tk.lu):=by
 unfold Tk.um;rw[if_neg ahe,if_neg (by rw[hk];decide)]
theorem ah5 (s:ByteArray) (w:World) (hs:s.size<=4096) (h0:0<s.size) (hL:Tk.AJ s[0]=true) (eD:dZ w):
 Calls Tryz.prog 146 #[.string s] w λe w'=>e= .returned (yI (Tk.um s.data.toList))∧Below w.heap.size w w':=by
 have hI0:=QD _ hL;have HL:=ah hL;clear hL;go_enter Tryz.func146,Tryz.ntmps146;go_wp2;go_loop [4] (λi=> ∃k:Nat,1<=k∧k<=s.size∧i= .int .i64 k∧Fu Tk.lu s k) (λi=>s.size -(intOf i).toNat)
 case atStart=>exact⟨1,aH _,h0,rfl,Fu.one h0 hI0⟩
 case round=>
  obtain⟨k,hk1,hk,rfl,hin⟩:=hrel;clear hI0;by_cases hc: ∃h:k<s.size,Tk.lu s[k]=true
  ·obtain⟨hlt,hi⟩:=hc;have hst:=hin.step hlt hi;rcases D9 s[k]with⟨_,h1⟩|⟨_,h1,h2⟩|⟨_,h1,h2,h3⟩|⟨h4,_⟩
   case inr.inr.inr=>rw[hi]at h4;cases h4
   all_goals
    clear hi;go_wp2_with (first|(go_at_call 145;refine(oG _ _).mono ?_;rintro e w' ⟨rfl,rfl⟩)|(go_at_call 147;refine(om _ _).mono ?_;rintro e w' ⟨rfl,rfl⟩));go_round
    case rel=>exact⟨k+1,ahe,ahe,ahi,hst⟩
    case measure=>simp[intOf];omega
  ·have hlen:(s.data.toList.takeWhile Tk.lu).length=k:=hin.len hk (λh=>abm);have ed:s.data.toList.take k=s.data.toList.takeWhile Tk.lu:=by rw[<- hlen,Tk.take_takeWhile]
   have EX:=ah (EO hlen);have HR:aj ((12<k∧Tk.um s.data.toList=(2,0,[]))∨(¬12<k∧Tk.uN (s.data.toList.take k)=true∧Tk.um s.data.toList=(0,3,s.data.toList.takeWhile Tk.lu))∨
    (¬12<k∧Tk.uN (s.data.toList.take k)=false∧Tk.um s.data.toList=(0,1,s.data.toList.takeWhile Tk.lu))):=by
    apply ah;rw[ed];by_cases h12:12<k
    ·exact .inl ⟨h12,VA _ k hlen h12⟩
    ·cases hK:Tk.uN (s.data.toList.takeWhile Tk.lu)
     ·exact .inr (.inr ⟨h12,rfl,ah4 _ k hlen h12 hK⟩)
     ·exact .inr (.inl ⟨h12,rfl,ah3 _ k hlen h12 hK⟩)
   have HC:aj (k<s.size->∃h:k<s.size,Tk.lu s[k]=false):=ah λh=>⟨h,abm⟩;clear hc ed hlen;have go: ∀Z:Prop,((hlt:k<s.size)->Tk.sN (s[k].toNat:Int)=false->Tk.rM (s[k].toNat:Int)=false->((s[k].toNat:Int)==95)=false->Z)->(¬k<s.size->Z)->Z:=by
    intro Z h1 h2;by_cases hlt:k<s.size
    ·obtain⟨_,hi⟩:=HC.o hlt;rcases D9 s[k]with⟨h,_⟩|⟨h,_⟩|⟨h,_⟩|⟨_,ha,hb,hcc⟩
     ·rw[hi]at h;cases h
     ·rw[hi]at h;cases h
     ·rw[hi]at h;cases h
     ·exact h1 hlt ha hb hcc
    ·exact h2 hlt
   rcases HR.o with⟨h12,hR⟩|⟨h12,hK,hR⟩|⟨h12,hK,hR⟩
   all_goals have HRR:=ah hR;clear hR HR;refine go _ (λhlt t1 t2 t3=> ?_) (λhlt=> ?_)
   all_goals clear go;go_wp2_with (first|(go_at_call 145;refine(oG _ _).mono ?_;rintro e w' ⟨rfl,rfl⟩)|(go_at_call 147;refine(om _ _).mono ?_;rintro e w' ⟨rfl,rfl⟩)|(go_at_call 89;refine(Aa _ _ (eD.alloc _)).mono ?_;rintro e w' ⟨rfl,rfl⟩))
   ·exact bodyPost_ret (v:= .tuple #[.agg #[.int .i64 0,.string ⟨#[]⟩,.int .i64 0],.int .i64 2]) ac2 rfl ⟨by rw[HRR.o];rfl,(ak _ _).alloc (aH _) _⟩
   ·exact bodyPost_ret (v:= .tuple #[.agg #[.int .i64 0,.string ⟨#[]⟩,.int .i64 0],.int .i64 2]) ac2 rfl ⟨by rw[HRR.o];rfl,(ak _ _).alloc (aH _) _⟩
   ·exact bodyPost_ret (v:= .tuple #[.agg #[.int .i64 3,.string (s.extract 0 k),.int .i64 0],.int .i64 0]) ac2 rfl ⟨agi,(ak _ _).alloc (aH _) _⟩
   ·exact bodyPost_ret (v:= .tuple #[.agg #[.int .i64 3,.string (s.extract 0 k),.int .i64 0],.int .i64 0]) ac2 rfl ⟨agi,(ak _ _).alloc (aH _) _⟩
   ·exact bodyPost_ret (v:= .tuple #[.agg #[.int .i64 1,.string (s.extract 0 k),.int .i64 0],.int .i64 0]) ac2 rfl ⟨agi,(ak _ _).alloc (aH _) _⟩
   ·exact bodyPost_ret (v:= .tuple #[.agg #[.int .i64 1,.string (s.extract 0 k),.int .i64 0],.int .i64 0]) ac2 rfl ⟨agi,(ak _ _).alloc (aH _) _⟩
end Go.Proofs.YtldapdcphphodaaGreatDoor
end
section
namespace Go.Proofs.YtldapdcphphodaaGreatDoor
open Go.RowKit
def Fb (s:ByteArray):ByteArray:=⟨(s.data.toList.dropWhile (· ==48)).toArray⟩
theorem Sk (s:ByteArray):(Fb s).toList=s.data.toList.dropWhile (· ==48):=by unfold Fb;rw[Lib.toList_data]
theorem Z5 (s:ByteArray):(Fb s).size=(s.data.toList.dropWhile (· ==48)).length:=by unfold Fb;exact Lib.size_mk _
theorem UF (s:ByteArray) (w:World) (h:s.toList.isEmpty=false):
 Calls Tryz.prog 161 #[.string s,.string ⟨#[48]⟩] w λe w'=>e= .returned (.string (Fb s))∧w=w':=Oh s w h
def Po (z:ByteArray) (R:Nat×Nat×List UInt8) (k:Nat) (l:List UInt8):Prop:=
 (19<z.size∧R=(3,0,[]))∨(z.size<19∧R=(0,2,l))∨
 (z.size=19∧Op.bytesLess z.toList [57,50,50,51,51,55,50,48,51,54,56,53,52,55,55,53,56,48,55]=true∧R=(0,2,l))∨
 (z.size=19∧Op.bytesLess z.toList [57,50,50,51,51,55,50,48,51,54,56,53,52,55,55,53,56,48,55]=false∧(z.toList== [57,50,50,51,51,55,50,48,51,54,56,53,52,55,55,53,56,48,55])=true∧R=(0,2,l))∨
 (z.size=19∧Op.bytesLess z.toList [57,50,50,51,51,55,50,48,51,54,56,53,52,55,55,53,56,48,55]=false∧(z.toList== [57,50,50,51,51,55,50,48,51,54,56,53,52,55,55,53,56,48,55])=false∧R=(3,0,[]))∧0<=k
theorem KE (p:UInt8->Bool): ∀l:List UInt8,(l.takeWhile p).all p=true
 | []=>rfl
 |c::l=>by
  rw[List.takeWhile_cons];split
  ·rename_i h;rw[List.all_cons,h,KE p l];rfl
  ·rfl
theorem ae6 (l:List UInt8) (h:(l.dropWhile Tk.lT).head?.any Tk.lu=true):Tk.Cj l=(3,0,[]):=by
 unfold Tk.Cj;rw[h];rfl
theorem aN7 (s:ByteArray) (k:Nat) (hlen:(s.data.toList.takeWhile Tk.lT).length=k) (h:(s.data.toList.dropWhile Tk.lT).head?.any Tk.lu=false):
 Po (Fb (s.extract 0 k)) (Tk.Cj s.data.toList) k (s.data.toList.takeWhile Tk.lT):=by
 have ha:=KE Tk.lT s.data.toList;unfold Po Tk.Cj;rw[Sk,Z5,KY hlen,h,Bool.false_or];generalize s.data.toList.takeWhile Tk.lT=d at *;rcases Nat.lt_trichotomy 19 (d.dropWhile (· ==48)).length with h1|h1|h1
 ·left;refine⟨h1,?_⟩;rw[Tk.Vn d ha h1];rfl
 ·right;right;have hq:=Tk.ae5 d ha h1.symm;unfold Tk.great at hq;generalize Op.bytesLess (d.dropWhile (· ==48)) [57,50,50,51,51,55,50,48,51,54,56,53,52,55,55,53,56,48,55]=a at *;generalize (d.dropWhile (· ==48)== [57,50,50,51,51,55,50,48,51,54,56,53,52,55,55,53,56,48,55])=b at *;rw[<- hq];cases a <;> cases b <;> simp[h1.symm]
 ·right;left;refine⟨h1,?_⟩;rw[Tk.RZ d ha h1];rfl
theorem TD {p q:UInt8->Bool} {s:ByteArray} {k:Nat} (h:(s.data.toList.takeWhile p).length=k) (hlt:k<s.size):(s.data.toList.dropWhile p).head?.any q=q s[k]:=by
 have e:s.data.toList.dropWhile p=s.data.toList.drop k:=by rw[<- h,Tk.uZ]
 have hl:k<s.data.toList.length:=adL
 rw[e,List.drop_eq_getElem_cons hl];rfl
theorem Qn {p q:UInt8->Bool} {s:ByteArray} {k:Nat} (h:(s.data.toList.takeWhile p).length=k) (hlt: ¬k<s.size):(s.data.toList.dropWhile p).head?.any q=false:=by
 have e:s.data.toList.dropWhile p=s.data.toList.drop k:=by rw[<- h,Tk.uZ]
 rw[e,List.drop_of_length_le (by rw[<- Lib.size_eq];omega)];rfl
theorem Vo (s:ByteArray) (w:World) (hs:s.size<=4096) (h0:0<s.size) (hD:Tk.lT s[0]=true):
 Calls Tryz.prog 148 #[.string s] w λe w'=>e= .returned (yI (Tk.Cj s.data.toList))∧Below w.heap.size w w':=by
 have hin1:Fu Tk.lT s 1:=Fu.one h0 hD;clear hD;go_enter Tryz.func148,Tryz.ntmps148;go_wp2;go_loop [4] (λi=> ∃k:Nat,1<=k∧k<=s.size∧i= .int .i64 k∧Fu Tk.lT s k) (λi=>s.size -(intOf i).toNat)
 case atStart=>exact⟨1,aH _,h0,rfl,hin1⟩
 case round=>
  obtain⟨k,hk1,hk,rfl,hin⟩:=hrel;clear hin1;by_cases hc: ∃h:k<s.size,Tk.lT s[k]=true
  ·obtain⟨hlt,hi⟩:=hc;have hst:=hin.step hlt hi;have h1:Tk.rM (s[k].toNat:Int)=true:=hi;clear hi;go_wp2_with (go_at_call 147;refine(om _ _).mono ?_;rintro e w' ⟨rfl,rfl⟩);go_round
   case rel=>exact⟨k+1,ahe,ahe,ahi,hst⟩
   case measure=>simp[intOf];omega
  ·have hlen:(s.data.toList.takeWhile Tk.lT).length=k:=hin.len hk (λh=>abm);have EX:=ah (EO hlen);have hne:(s.extract 0 k).toList.isEmpty=false:=by
    rw[Lib.extract_toList];have:0<s.data.toList.length:=(by rw[<- Lib.size_eq];exact h0);cases hd:s.data.toList with
    |nil=>rw[hd]at this;simp at this
    |cons a r=>simp;omega
   by_cases hA: ∃h:k<s.size,Tk.lu s[k]=true
   ·obtain⟨hlt,hi⟩:=hA;have h2:Tk.rM (s[k].toNat:Int)=false:=(by show Tk.lT s[k]=false;rw[Bool.eq_false_iff];exact λe=>hc ⟨hlt,e⟩);have HR:aj (Tk.Cj s.data.toList=(3,0,[])):=ah (ae6 _ (by rw[TD hlen hlt];exact hi));clear hc hlen;rcases D9 s[k]with⟨_,h1⟩|⟨_,_,h3⟩|⟨_,h1,_,h3⟩|⟨h4,_⟩
    case inr.inr.inr=>rw[hi]at h4;cases h4
    case inr.inl=>rw[h2]at h3;cases h3
    all_goals clear hi;go_wp2_with (first|(go_at_call 145;refine(oG _ _).mono ?_;rintro e w' ⟨rfl,rfl⟩)|(go_at_call 147;refine(om _ _).mono ?_;rintro e w' ⟨rfl,rfl⟩));exact bodyPost_ret (v:= .tuple #[.agg #[.int .i64 0,.string ⟨#[]⟩,.int .i64 0],.int .i64 3]) adt rfl ⟨by rw[HR.o];rfl,(ak _ _).alloc (aH _) _⟩
   ·have HN:aj (Po (Fb (s.extract 0 k)) (Tk.Cj s.data.toList) k (s.data.toList.takeWhile Tk.lT)):=by
     refine ah (aN7 s k hlen ?_);by_cases hlt:k<s.size
     ·rw[TD hlen hlt,Bool.eq_false_iff];exact λe=>hA ⟨hlt,e⟩
     ·exact Qn hlen hlt
    have go: ∀Z:Prop,((hlt:k<s.size)->Tk.sN (s[k].toNat:Int)=false->Tk.rM (s[k].toNat:Int)=false->((s[k].toNat:Int)==95)=false->Z)->(¬k<s.size->Z)->Z:=by
     intro Z h1 h2;by_cases hlt:k<s.size
     ·rcases D9 s[k]with⟨h,_⟩|⟨h,_⟩|⟨h,_⟩|⟨_,ha,hb,hcc⟩
      ·exact absurd ⟨hlt,h⟩ hA
      ·exact absurd ⟨hlt,h⟩ hA
      ·exact absurd ⟨hlt,h⟩ hA
      ·exact h1 hlt ha hb hcc
     ·exact h2 hlt
    clear hc hA hlen;rcases HN.o with⟨z1,hR⟩|⟨z1,hR⟩|⟨z1,z2,hR⟩|⟨z1,z2,z3,hR⟩|⟨⟨z1,z2,z3,hR⟩,_⟩
    all_goals have HRR:=ah hR;have zb:(((Fb (s.extract 0 k)).size:Int)==19)=decide ((Fb (s.extract 0 k)).size=19):=aeU;clear hR HN;refine go _ (λhlt t1 t2 t3=> ?_) (λhlt=> ?_)
    all_goals clear go;go_wp2_with (first|(go_at_call 145;refine(oG _ _).mono ?_;rintro e w' ⟨rfl,rfl⟩)|(go_at_call 147;refine(om _ _).mono ?_;rintro e w' ⟨rfl,rfl⟩)|(go_at_call 161;refine(UF _ _ hne).mono ?_;rintro e w' ⟨rfl,rfl⟩))
    all_goals first
     |exact bodyPost_ret (v:= .tuple #[.agg #[.int .i64 0,.string ⟨#[]⟩,.int .i64 0],.int .i64 3]) adt rfl ⟨by rw[HRR.o];rfl,(ak _ _).alloc (aH _) _⟩
     |exact bodyPost_ret (v:= .tuple #[.agg #[.int .i64 2,.string (s.extract 0 k),.int .i64 0],.int .i64 0]) adt rfl ⟨agi,(ak _ _).alloc (aH _) _⟩
end Go.Proofs.YtldapdcphphodaaGreatDoor
end
section
namespace Go.Proofs.YtldapdcphphodaaGreatDoor
open Go.RowKit
theorem al5 {W w1:World} (hb:Below W.heap.size W w1):(∀b o,b<W.heap.size->w1.cell? ⟨b,o,none⟩=W.cell? ⟨b,o,none⟩)∧(∀b o,b<W.heap.size->w1.frozen? ⟨b,o,none⟩=W.frozen? ⟨b,o,none⟩):=
 ⟨λb o h=>hb.cell (p:=⟨b,o,none⟩) h,λb o h=>hb.frozen (p:=⟨b,o,none⟩) h⟩
theorem aT2 (l:List UInt8):(Tk.oI l).length<=l.length:=by
 rw[Tk.Es];split
 ·rw[List.length_take];omega
 ·split
  ·rw[List.length_take];omega
  ·simp
theorem au2 (l:List UInt8):l.take (Tk.oI l).length=Tk.oI l:=by
 rw[Tk.Es];split
 ·rw[List.length_take,List.take_eq_take_iff];omega
 ·split
  ·rw[List.length_take,List.take_eq_take_iff];omega
  ·rfl
theorem NC (s:ByteArray) (w:World) (hs:s.size<=4096) (h0:0<s.size) (eD:dZ w):
 Calls Tryz.prog 109 #[.string s] w λe w'=>e= .returned (yI (Tk.first s.data.toList))∧Below w.heap.size w w':=by
 have hhd:=ar9 s h0;cases hL:Tk.AJ s[0]
 ·have h1:Tk.sN (s[0].toNat:Int)=false:=hL;cases hD:Tk.lT s[0]
  ·have h2:Tk.rM (s[0].toNat:Int)=false:=hD;have HR:aj (Tk.first s.data.toList=Tk.MB s.data.toList):=by apply ah;unfold Tk.first;rw[hhd,hL,hD];rfl
   clear hhd hL hD;have HE:aj (s.extract 0 (Tk.oI s.data.toList).length=⟨(Tk.oI s.data.toList).toArray⟩):=by apply ah;rw[Lib.extract_upto,au2]
   have hle:(Tk.oI s.data.toList).length<=s.size:=by rw[Lib.size_eq];exact aT2 _
   have HS:aj (Tk.MB s.data.toList=if(Tk.oI s.data.toList).isEmpty then(3,0,[])else(0,4,Tk.oI s.data.toList)):=ah rfl;by_cases hn:(Tk.oI s.data.toList).length=0
   ·have hn0:Tk.oI s.data.toList=[]:=List.eq_nil_of_length_eq_zero hn;have HS2:aj (Tk.MB s.data.toList=(3,0,[])):=(by apply ah;rw[HS.o,hn0];rfl);have hb0:(((Tk.oI s.data.toList).length:Int)==0)=true:=(by rw[hn];rfl);clear HS HE hn hn0;go_enter Tryz.func109,Tryz.ntmps109;go_wp2_with (first|(go_at_call 145;refine(oG _ _).mono ?_;rintro e w' ⟨rfl,rfl⟩)|(go_at_call 147;refine(om _ _).mono ?_;rintro e w' ⟨rfl,rfl⟩)|(go_at_call 149;refine(Ra _ _ h0).mono ?_;rintro e w' ⟨rfl,rfl⟩));exact bodyPost_ret (v:= .tuple #[.agg #[.int .i64 0,.string ⟨#[]⟩,.int .i64 0],.int .i64 3]) aef rfl ⟨by rw[HR.o,HS2.o];rfl,(ak _ _).alloc (aH _) _⟩
   ·have HS2:aj (Tk.MB s.data.toList=(0,4,Tk.oI s.data.toList)):=(by apply ah;rw[HS.o,if_neg];intro h;exact hn (by rw[List.isEmpty_iff]at h;rw[h];rfl));have hb0:(((Tk.oI s.data.toList).length:Int)==0)=false:=acN;clear HS;go_enter Tryz.func109,Tryz.ntmps109;go_wp2_with (first|(go_at_call 145;refine(oG _ _).mono ?_;rintro e w' ⟨rfl,rfl⟩)|(go_at_call 147;refine(om _ _).mono ?_;rintro e w' ⟨rfl,rfl⟩)|(go_at_call 149;refine(Ra _ _ h0).mono ?_;rintro e w' ⟨rfl,rfl⟩));exact bodyPost_ret (v:= .tuple #[.agg #[.int .i64 4,.string (s.extract 0 (Tk.oI s.data.toList).length),.int .i64 0],.int .i64 0]) aef rfl ⟨by rw[HR.o,HS2.o,HE.o];rfl,(ak _ _).alloc (aH _) _⟩
  ·have h2:Tk.rM (s[0].toNat:Int)=true:=hD;have HR:aj (Tk.first s.data.toList=Tk.Cj s.data.toList):=by apply ah;unfold Tk.first;rw[hhd,hL,hD];rfl
   clear hhd;generalize hr:Tk.Cj s.data.toList=r at *;have Hr:=ah hr;clear hr;go_enter Tryz.func109,Tryz.ntmps109;go_wp2_with (first|(go_at_call 145;refine(oG _ _).mono ?_;rintro e w' ⟨rfl,rfl⟩)|(go_at_call 147;refine(om _ _).mono ?_;rintro e w' ⟨rfl,rfl⟩));refine(Vo s _ hs h0 hD).mono ?_;rintro e w1 ⟨rfl,hb⟩;rw[Hr.o];obtain⟨hc,hf⟩:=al5 hb;have hz:w.heap.size<w1.heap.size:=afa
   unfold yI;go_wp2;refine bodyPost_ret (v:=yI r) acC rfl ⟨by rw[HR.o],?_⟩;exact(((((ak _ _).alloc (aH _) _).trans (hb.mono ahg)).setCell ahg _).setCell ahg _).setCell ahg _
 ·have HR:aj (Tk.first s.data.toList=Tk.um s.data.toList):=by apply ah;unfold Tk.first;rw[hhd,if_pos hL]
  have h1:Tk.sN (s[0].toNat:Int)=true:=hL;clear hhd;generalize hr:Tk.um s.data.toList=r at *;have Hr:=ah hr;clear hr;go_enter Tryz.func109,Tryz.ntmps109;go_wp2_with (first|(go_at_call 145;refine(oG _ _).mono ?_;rintro e w' ⟨rfl,rfl⟩)|(go_at_call 147;refine(om _ _).mono ?_;rintro e w' ⟨rfl,rfl⟩));refine(ah5 s _ hs h0 hL (eD.alloc _)).mono ?_;rintro e w1 ⟨rfl,hb⟩;rw[Hr.o];obtain⟨hc,hf⟩:=al5 hb;have hz:w.heap.size<w1.heap.size:=afa
  unfold yI;go_wp2;refine bodyPost_ret (v:=yI r) acC rfl ⟨by rw[HR.o],?_⟩;exact(((((ak _ _).alloc (aH _) _).trans (hb.mono ahg)).setCell ahg _).setCell ahg _).setCell ahg _
end Go.Proofs.YtldapdcphphodaaGreatDoor
end
section
namespace Go.Proofs.YtldapdcphphodaaGreatDoor
open Go.RowKit
theorem Tryz.infoTok:(Tryz.prog.info? 164).map (λi=>(i.zero,i.size,i.bytes))=some (some (.agg #[.int .i64 0,.string ⟨#[]⟩,.int .i64 0]),3,32):=ahd
def PE (w:World) (r:List Tk.Tok×Nat×Nat) (e:Ending) (w':World):Prop:=
 ∃v:Value,e= .returned (.tuple #[v,.int .i64 r.2.1,.int .i64 r.2.2])∧w'.ownsRow w.heap.size 164 3 v r.1.length (Tk.cellsOf r.1)∧Below w.heap.size w w'
theorem own_below {w w':World} {base:Nat} {e:TypeId} {size:Nat} {v:Value} {n:Nat} {xs:List Value} (h:w.ownsRow base e size v n xs) (hb:Below w.heap.size w w'):w'.ownsRow base e size v n xs:=
 h.kept (row:=none) ⟨hb.os,hb.tape,hb.output,hb.size,λi hi _=>hb.block i hi⟩ adp
theorem ah0 {w1 w2:World} {base:Nat} {e:TypeId} {size:Nat} {u:Value} {n:Nat} {xs:List Value} (h:w1.ownsRow base e size u n xs) (cs:Array Value) (t:TypeId) (o:Obj)
 (hg:((w1.alloc (.cells cs t)).alloc o).grownBy w2 u.ownBlock) (j:Nat):w2.cell? ⟨w1.heap.size,j,none⟩=cs[j]?:=by
 have e1:w2.heap[w1.heap.size]? =((w1.alloc (.cells cs t)).alloc o).heap[w1.heap.size]?:=hg.block _ ahh (λe=>by have:=(h.lt _ e.symm).2;omega);have e2:((w1.alloc (.cells cs t)).alloc o).heap[w1.heap.size]? =some (.cells cs t (0,0)):=by rw[Below.heap_alloc _ _ _ ahg];exact heap_alloc_new w1 _
 exact cell_of_row w2 w1.heap.size j cs t (0,0) (e1.trans e2)
theorem YN {B:Nat} {w w1 w2:World} {e:TypeId} {size:Nat} {u:Value} {n:Nat} {xs:List Value} (h:w1.ownsRow B e size u n xs) (hb:Below B w w1) (hB:B<=w1.heap.size) (o1 o2:Obj)
 (hg:((w1.alloc o1).alloc o2).grownBy w2 u.ownBlock):Below B w w2:=
 ((hb.alloc hB o1).alloc ahh o2).grown hg ahh (λk hk=>(h.lt _ hk).1)
def aN9 (s:ByteArray):Bool:=[47,47].isPrefixOf s.data.toList
def UM (s:ByteArray):Nat:=Tk.Fy s.data.toList
theorem xW (s:ByteArray) (w:World):
 Calls Tryz.prog 107 #[.string s,.string ⟨#[47,47]⟩] w λe w'=>e= .returned (.bool (aN9 s))∧w=w':=Od s _ w
theorem WY (s:ByteArray) (w:World) (hs:s.size<=4096):
 Calls Tryz.prog 108 #[.string s] w λe w'=>e= .returned (.int .i64 (UM s))∧w=w':=RJ s w hs
theorem Df (s:ByteArray) (k:Nat):(s.extract k s.size).data.toList=s.data.toList.drop k:=by
 rw[Lib.extract_data,List.take_of_length_le (by rw[List.length_drop,Lib.size_eq];exact aH _)]
theorem aS9 (c:UInt8) (h:c≠10):((c.toNat:Int)==10)=false:=by
 rw[beq_eq_false_iff_ne];intro e;exact h (UInt8.toNat_inj.1 (by rw[show c.toNat=10 from ahe];rfl))
theorem RF (c:UInt8):((c=32∨c=9∨c=13)∧(((c.toNat:Int)==32)=true∨(((c.toNat:Int)==32)=false∧((c.toNat:Int)==9)=true)∨(((c.toNat:Int)==32)=false∧((c.toNat:Int)==9)=false∧((c.toNat:Int)==13)=true)))∨
 (¬(c=32∨c=9∨c=13)∧((c.toNat:Int)==32)=false∧((c.toNat:Int)==9)=false∧((c.toNat:Int)==13)=false):=by
 by_cases h1:c=32
 ·subst h1;left;exact⟨.inl rfl,.inl rfl⟩
 ·by_cases h2:c=9
  ·subst h2;left;exact⟨.inr (.inl rfl),.inr (.inl ⟨rfl,rfl⟩)⟩
  ·by_cases h3:c=13
   ·subst h3;left;exact⟨.inr (.inr rfl),.inr (.inr ⟨rfl,rfl,rfl⟩)⟩
   ·right;have nb: ∀x:UInt8,c≠x->((c.toNat:Int)==(x.toNat:Int))=false:=(by intro x h;rw[beq_eq_false_iff_ne];intro e;exact h (UInt8.toNat_inj.1 ahe));exact⟨by simp[h1,h2,h3],nb 32 h1,nb 9 h2,nb 13 h3⟩
theorem ZK (s:ByteArray) (w:World) (eD:dZ w) (hm:s.size<=maxLen):
 Calls Tryz.prog 80 #[.string s] w (PE w (Tk.scan s.data.toList)):=by
 have hsz:=Lib.size_eq s;unfold maxLen at hm;by_cases hbig:4096<s.size
 ·have HR:aj (Tk.scan s.data.toList=([],2,0)):=by apply ah;unfold Tk.scan;rw[if_pos ahe]
  clear hsz;go_enter Tryz.func80,Tryz.ntmps80;go_wp2
  go_ret3
  rw[HR.o];exact⟨_,rfl,World.ownsRow_nil _ _ _ _,ak _ _⟩
 ·have HR:aj (Tk.scan s.data.toList=Tk.mH s.data.toList.length s.data.toList 1 []):=by apply ah;unfold Tk.scan;rw[if_neg ahe]
  have hst:=Tk.SP.start s.data.toList;rw[<- HR.o]at hst;generalize Tk.scan s.data.toList=R at *;clear HR hsz;obtain⟨i0,hi,hz0,hz1,hz2⟩:=info_parts Tryz.infoTok;have hs:s.size<=4096:=ahe
  clear hbig hm;go_enter Tryz.func80,Tryz.ntmps80;go_wp2;go_loopw [5,6,7] (λv ln i wr=> ∃(k line:Nat) (acc:List Tk.Tok),i= .int .i64 k∧ln= .int .i64 line∧Tk.SP s.data.toList R k line acc∧
   wr.ownsRow w.heap.size 164 3 v acc.length (Tk.cellsOf acc)∧Below w.heap.size w wr) (λ_ _ i _=>s.size -(intOf i).toNat)
  case atStart=>exact⟨0,1,[],rfl,rfl,hst,World.ownsRow_nil _ _ _ _,ak _ _⟩
  case round=>
   obtain⟨k,line,acc,rfl,rfl,hsp,hown,hbel⟩:=hrel;clear hst;have hk:k<=s.size:=by rw[Lib.size_eq];exact hsp.1
   have bB2:line<=k+1:=hsp.2.1;by_cases hlt:k<s.size
   ·have hlt':k<s.data.toList.length:=adL;have hget:s.data.toList[k]=s[k]:=rfl;by_cases h10:s[k]=10
    ·have hnx:=hsp.nl hlt' h10;have hb:((s[k].toNat:Int)==10)=true:=(by rw[h10];rfl);clear h10 hget;go_wp2;go_roundw
     case rel=>exact⟨k+1,line+1,acc,ahi,ahi,hnx,hown,hbel⟩
     case measure=>simp[intOf];omega
    ·have hb:=aS9 _ h10;rcases RF s[k]with⟨hbl,hcase⟩|⟨hbl,t1,t2,t3⟩
     ·have hnx:=hsp.blank hlt' hbl;clear h10 hget hbl;rcases hcase with t1|⟨t1,t2⟩|⟨t1,t2,t3⟩
      all_goals
       go_wp2;go_roundw
       case rel=>exact⟨k+1,line,acc,ahi,rfl,hnx,hown,hbel⟩
       case measure=>simp[intOf];omega
     ·have hts:(s.extract k s.size).size=s.size -k:=ahg;have aK5:dZ wr:=eD.below hbel eD.lt;cases hp:aN9 (s.extract k s.size)
      ·have hp':[47,47].isPrefixOf (s.data.toList.drop k)=false:=(by rw[<- Df];exact hp);have hte:(s.extract k s.size).size<=4096:=ahe;have ht0:0<(s.extract k s.size).size:=ahe;have hok:=λh4=>hsp.tok hlt' h10 hbl hp' h4;have ab7:=λh4=>hsp.err hlt' h10 hbl hp' h4;have Hd:=ah (Df s k);clear h10 hget hbl hp' hts;generalize hr:Tk.first (s.data.toList.drop k)=r at *;have Hr:=ah hr;clear hr;obtain⟨en,kind,text⟩:=r;by_cases he:en=0
       ·subst he;obtain⟨hnx,htl⟩:=hok rfl;simp only[]at hnx htl;clear hok ab7;have hle:k+text.length<=s.size:=ace;have hacc:acc.length<=4096:=(by have:=hsp.2.2.1;omega);have hth:(⟨text.toArray⟩:ByteArray).size=text.length:=Lib.size_mk _;go_wp2_with (go_at_call 107;refine(xW _ _).mono ?_;rintro e w' ⟨rfl,rfl⟩);refine(NC _ _ hte ht0 aK5).mono ?_;rintro e w1 ⟨rfl,hb1⟩;rw[Hd.o,Hr.o];unfold yI;have hown1:=own_below hown hb1;have hbs:=hbel.size;have bD9:=hb1.size;go_wp2_with (at_builtin;refine wpList_append_own _ rfl _ _ 135 rfl w.heap.size 164 i0 _ 3 32 Tryz.underlying135 hi hz0 hz1 hz2 rfl ahf _ _ _ rfl ((hown1.alloc _).alloc _) ⟨w1.heap.size+1,0,none⟩ 1 1 [.int .i64 kind,.string ⟨text.toArray⟩,.int .i64 line] rfl rfl ?c1 ?c2 ?c3 ?c4 ?c5 ?_)
        case c1=>
         intro j u hj
         match j,hj with
         |0,hj=>simp at hj;subst hj;simp[Addr.add]
         |1,hj=>simp at hj;subst hj;simp[Addr.add]
         |2,hj=>simp at hj;subst hj;simp[Addr.add]
        case c2=>intro u hu;simp at hu;rcases hu with rfl|rfl|rfl <;> rfl
        case c3=>unfold maxLen;omega
        case c4=>omega
        case c5=>simp;omega
        intro v' w2 hown2 hgrow2 _;have hcell:=ah0 hown1 _ _ _ hgrow2 1;have aR8:=YN hown1 (hbel.trans (hb1.mono hbs)) ahe _ _ hgrow2;have hown3:w2.ownsRow w.heap.size 164 3 v' (acc++[(⟨kind,text,line⟩:Tk.Tok)]).length (Tk.cellsOf (acc++[(⟨kind,text,line⟩:Tk.Tok)])):=(by rw[Tk.PU,Tk.cells_one,au];exact hown2);clear hown2 hgrow2 hown1 hown hb1 hbel hi hz0 hz1 hz2;simp only[List.getElem?_toArray,List.getElem?_cons_succ,List.getElem?_cons_zero]at hcell;go_wp2;go_roundw
        case rel=>exact⟨k+text.length,line,_,ahi,rfl,hnx,hown3,aR8⟩
        case measure=>simp[intOf];omega
       ·have hR:=ah (ab7 he);have he1:((en:Int)==0)=false:=acN;have he2:((en:Int) != 0)=true:=(by rw[bne_iff_ne];omega);clear hok ab7 he;go_wp2_with (go_at_call 107;refine(xW _ _).mono ?_;rintro e w' ⟨rfl,rfl⟩);refine(NC _ _ hte ht0 aK5).mono ?_;rintro e w1 ⟨rfl,hb1⟩;rw[Hd.o,Hr.o];unfold yI;have hbs:=hbel.size;go_wp2
        go_ret3
        rw[hR.o];exact⟨_,rfl,World.ownsRow_nil _ _ _ _,(hbel.trans (hb1.mono hbs)).alloc (by have:=hb1.size;omega) _⟩
      ·have hp':[47,47].isPrefixOf (s.data.toList.drop k)=true:=(by rw[<- Df];exact hp);obtain⟨hnx,hc1⟩:=hsp.Fy hlt' h10 hbl hp';rw[<- Df]at hnx hc1;have hc1':1<=UM (s.extract k s.size):=hc1;have hle:k+UM (s.extract k s.size)<=s.size:=ace;have hte:(s.extract k s.size).size<=4096:=ahe;clear h10 hget hbl hp' hc1 hts;go_wp2_with (first|(go_at_call 107;refine(xW _ _).mono ?_;rintro e w' ⟨rfl,rfl⟩)|(go_at_call 108;refine(WY _ _ hte).mono ?_;rintro e w' ⟨rfl,rfl⟩));go_roundw
       case rel=>exact⟨k+UM (s.extract k s.size),line,acc,ahi,rfl,hnx,hown,hbel⟩
       case measure=>simp[intOf];omega
   ·have hR:=ah (hsp.done adL);go_wp2
    go_ret3
    rw[hR.o];exact⟨_,rfl,hown,hbel⟩
end Go.Proofs.YtldapdcphphodaaGreatDoor
end
