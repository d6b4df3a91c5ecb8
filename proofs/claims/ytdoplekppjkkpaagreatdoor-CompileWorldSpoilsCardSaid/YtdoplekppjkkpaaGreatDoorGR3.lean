/- Contracts of the reference's or, nesting, and of its walk's inside. And what hangs on it. -/
import Derived.Test.YtdoplekppjkkpaaGreatDoorGR1
set_option linter.unusedSimpArgs false
set_option linter.unusedVariables false
set_option maxHeartbeats 40000000
set_option maxRecDepth 1000000
namespace Go.Proofs.YtdoplekppjkkpaaGreatDoor
open Go.RowKit
namespace Md
def kF (a b:Int):Int:=if a != 0 then a else b
def eZ:aZ->Int->Int->ByteArray->Bool
 | .nil,_,_,_=>false
 | .cons h _ _ r,a,b,nm=>((h.op==a||h.op==b)&&(nm.toList.isEmpty||h.nm.toList==nm.toList))||eZ r a b nm
end Md
open Md
def IQ (bc:Nat) (p:Pr) (aK aM:Option Addr) (aH aG:Nat) (i:Int) (cO:Option Addr) (xZ bR:Nat) (kr:Option Addr) (pJ je:Nat) (jK:Option Addr) (pI jd:Nat):List (Nat×Nat×Value):=
 [(bc,0,.slice aK p.ds.length aH),(bc,1,.slice aM p.ts.length aG),(bc,2,.int .i64 i),(bc,3,.slice cO xZ bR),(bc,4,.slice kr pJ je),(bc,5,.slice jK pI jd)]
theorem iV (b:Bool) (w:World):
 Calls Tryz.prog 77 #[.bool b] w λe w'=>e= .returned (.int .i64 (nest b))∧w=w':=by
 cases b
 all_goals go_enter Tryz.func77,Tryz.ntmps77;go_wp2;go_ret;exact⟨rfl,rfl⟩
theorem jJ (a b:Int) (w:World):
 Calls Tryz.prog 74 #[.int .i64 a,.int .i64 b] w λe w'=>e= .returned (.int .i64 (kF a b))∧w=w':=by
 generalize hres:kF a b=res;have HR:=ah hres;clear hres;cases ha:(a != 0)
 all_goals go_enter Tryz.func74,Tryz.ntmps74;go_wp2;go_ret;exact⟨bV (by rw[<- HR.o];unfold kF;rw[ha];rfl),rfl⟩
section
variable (p:Pr) (w:World) (aK aM:Option Addr) (aH aG:Nat) (i:Int) (cO:Option Addr) (bR bc:Nat) (kr:Option Addr) (pJ je:Nat) (jK:Option Addr) (pI jd:Nat)
theorem iT (ar:aZ) (a b':Int) (nm:ByteArray) (har:ar.len<=maxLen) (hat:ar.At w w.heap.size cO 0) (hh:Holds w (IQ bc p aK aM aH aG i cO ar.len bR kr pJ je jK pI jd)):
 Calls Tryz.prog 73 #[.pointer (some ⟨bc,0,none⟩),.int .i64 a,.int .i64 b',.string nm] w λe w'=>e= .returned (.bool (eZ ar a b' nm))∧Below w.heap.size w w':=by
 have HH:=ah (show Sit w w _ from⟨au _ _,hh⟩);have HAT:=ah hat;generalize hres:eZ ar a b' nm=res;have HR:=ah hres;unfold maxLen at har;clear hh hat hres;go_enter Tryz.func73,Tryz.ntmps73;go_wp2_with fail;go_loopg [9,10] ar.len (λg s _ wr=> ∃(k:Nat) (R:aZ),g=R.len∧s= .int .i64 k∧k+R.len=ar.len∧res=eZ R a b' nm∧R.At wr wr.heap.size cO k∧Sit w wr (IQ bc p aK aM aH aG i cO ar.len bR kr pJ je jK pI jd))
 case atStart=>exact⟨0,ar,rfl,rfl,agJ,HR.o.symm,HAT.o,HH.o⟩
 case round=>
  obtain⟨k,R,rfl,rfl,hlen,heq,hrow,hB⟩:=hrel;have HE:=ah heq;have HB:=ah hB;clear heq hB HH;obtain⟨-,⟨-,c0⟩,⟨-,c1⟩,⟨-,c2⟩,⟨-,c3⟩,⟨-,c4⟩,⟨-,c5⟩,-⟩:=HB.o;cases R with
  |nil=>
   obtain rfl:k=ar.len:=aeY
   go_wp2_with fail;go_ret;exact⟨bW HE.o.symm,HB.o.1⟩
  |cons h b e R=>
   obtain⟨bl,off,s,rfl,hbl,hin,x0,x1,x2,x3,x4,x5,x6,x7,x8,x9,x10,hrest⟩:=aZ.At.head hrow;have hkl:k<ar.len:=acz
   clear hrow hin;go_upto_region 5 with fail;obtain⟨nb,hnb⟩: ∃n,wr.heap.size=n:=⟨_,rfl⟩;generalize hW2:World.alloc wr _=W2;have HY:aj (Sit wr W2 (rM nb h b e s [])):=ah aao;have HB2:=ah (HB.o.next HY.o.1);have kL:=ah (hrest.same HY.o.1);rw[hnb];clear hW2 hnb x0 x1 x2 x3 x4 x5 x6 x7 x8 x9 x10 hrest c0 c1 c2 c3 c4 c5;obtain⟨-,⟨-,c0⟩,⟨-,c1⟩,⟨-,c2⟩,⟨-,c3⟩,⟨-,c4⟩,⟨-,c5⟩,⟨-,c6⟩,⟨-,c7⟩,⟨-,c8⟩,⟨-,c9⟩,⟨-,c10⟩,-⟩:=HY.o;clear c1 c3 c4 c5 c6 c7 c8 c9 c10;go_cut [46] (λs' W3=>W2=W3∧s'= .bool ((h.op==a||h.op==b')&&(nm.toList.isEmpty||h.nm.toList==nm.toList)))
   case first=>
    as_aux_lemma=>
     cases ha:(h.op==a)
     all_goals cases hb:(h.op==b')
     all_goals cases hn:nm.toList.isEmpty
     all_goals cases hm:(h.nm.toList==nm.toList)
     all_goals go_wp2_with fail
     all_goals go_meet
     all_goals exact⟨rfl,by first|rfl|(rw[ha,hb,hn,hm];rfl)|(simp[ha,hb,hn,hm])⟩
   obtain⟨rfl,rfl⟩:=hcut;have HE2:aj (res=(((h.op==a||h.op==b')&&(nm.toList.isEmpty||h.nm.toList==nm.toList))||eZ R a b' nm)):=ah (HE.o.trans (by rw[eZ]));generalize ((h.op==a||h.op==b')&&(nm.toList.isEmpty||h.nm.toList==nm.toList))=t at *;cases t
   ·go_wp2_with fail;go_roundg R.len
    case measure=>simp[aZ.len]
    case rel=>exact⟨k+1,R,rfl,agL,acz,HE2.o,kL.o,HB2.o⟩
   ·go_wp2_with fail;go_ret;exact⟨bW HE2.o.symm,HB2.o.1⟩
end
def AC (W1:World) (z v:Obj):List Bool->World->Prop
 | [false,false],w'=>w'=W1
 | [true,false],w'=>w'=W1.alloc z
 | [true,true],w'=>w'=W1.alloc v
 |_,_=>False
theorem AC.bits {W1:World} {z v:Obj} : ∀ {c:List Bool} {w':World},AC W1 z v c w'->∃x y,c=[x,y]
 | [x,y],_,_=>⟨x,y,rfl⟩
 | [],_,h=>h.elim
 | [true],_,h=>h.elim
 | [false],_,h=>h.elim
 |_::_::_::_,_,h=>by simp[AC]at h
theorem AC.skip {W1:World} {z v:Obj} {a1 a2 i:Nat} {c:List Bool} {w':World} (h1:(a1==i)=false) (h2:(a2==i)=false) (h:AC W1 z v c w'):AC W1 z v (jh [a1,a2] c i) w':=by
 obtain⟨x,y,rfl⟩:=h.bits;simpa[jh,h1,h2]using h
theorem AC.lay {W1:World} {z v:Obj} {a1 a2 i:Nat} (h1:(a1==i)=true) (h2:(a2==i)=false):AC W1 z v (jh [a1,a2] [false,false] i) (W1.alloc z):=by
 simp only[jh,h1,h2,Bool.or_false,Bool.or_true];rfl
theorem AC.fill {W1:World} {z v:Obj} {a1 a2 i:Nat} (h1:(a1==i)=false) (h2:(a2==i)=true):AC W1 z v (jh [a1,a2] [true,false] i) (W1.alloc v):=by
 simp only[jh,h1,h2,Bool.or_false,Bool.or_true];rfl
theorem AC.below {W W1:World} {z v:Obj} {c:List Bool} {w':World} (hb:Below W.heap.size W W1) (h:AC W1 z v c w'):Below W.heap.size W w':=by
 obtain⟨x,y,rfl⟩:=h.bits;cases x <;> cases y
 ·have h:w'=W1:=h;rw[h];exact hb
 ·exact h.elim
 ·have h:w'=W1.alloc z:=h;rw[h];exact hb.trans ((ak _ _).mono hb.size)
 ·have h:w'=W1.alloc v:=h;rw[h];exact hb.trans ((ak _ _).mono hb.size)
namespace Md
theorem Xx:(⟨#[]⟩:ByteArray).toList=[]:=by simp[Lib.toList_data]
theorem oC (k:Int): ∀ar:aZ,eZ ar k k ⟨#[]⟩=fG ar [k]
 | .nil=>rfl
 | .cons h b e r=>by simp[eZ,fG,oC k r,Xx]
theorem Kn (k:Int) (nm:ByteArray) (hn:nm.toList.isEmpty=false): ∀ar:aZ,eZ ar k k nm=rA ar nm [k]
 | .nil=>rfl
 | .cons h b e r=>by simp[eZ,rA,Kn k nm hn r,hn]
theorem Ko (a b:Int) (nm:ByteArray) (hn:nm.toList.isEmpty=false): ∀ar:aZ,eZ ar a b nm=rA ar nm [a,b]
 | .nil=>rfl
 | .cons h _ _ r=>by simp only[eZ,rA,Ko a b nm hn r,hn,List.any_cons,List.any_nil,Bool.or_false,Bool.false_or];cases h.op==a <;> cases h.op==b <;> cases h.nm.toList==nm.toList <;> rfl
theorem FJ (a b:Int): ∀ar:aZ,fG ar [a,b]=(fG ar [a]||fG ar [b])
 | .nil=>rfl
 | .cons h _ _ r=>by simp only[fG,FJ a b r,List.any_cons,List.any_nil,Bool.or_false];cases h.op==a <;> cases h.op==b <;> cases fG r [a] <;> cases fG r [b] <;> rfl
theorem LX (a b c:Int): ∀ar:aZ,fG ar [a,b,c]=((fG ar [a]||fG ar [b])||fG ar [c])
 | .nil=>rfl
 | .cons h _ _ r=>by simp only[fG,LX a b c r,List.any_cons,List.any_nil,Bool.or_false];cases h.op==a <;> cases h.op==b <;> cases h.op==c <;> cases fG r [a] <;> cases fG r [b] <;> cases fG r [c] <;> rfl
theorem vJ (a b:Int):gF [a,b]=kF a b:=by
 unfold gF kF;cases ha:a != 0
 ·simp[gF];intro h;exact h.symm
 ·simp
theorem Ej (a b c:Int):gF [a,b,c]=kF a (kF b c):=by
 rw[<- vJ b c];rfl
theorem nJ (p:Pr) (i:Int) (nm:ByteArray) (k a:Int) (hk:0<=k∧k<=9) (ha:conv k=a):dQ (mean p i nm) [k]=gN (conv (mean p i nm)) a a:=by
 subst ha;exact(Sb _ k (BX p i nm) hk).symm
theorem VG (p:Pr) (i:Int) (nm:ByteArray):dQ (mean p i nm) [1,2]=gN (conv (mean p i nm)) 8 1:=
 (Sc _ 1 2 (BX p i nm) agI agI).symm
theorem Lu {p:Pr} {i:Int} {nm:ByteArray} (h:gN (conv (mean p i nm)) 5 5=0): ∃(k:Nat) (d:De) (r:List De),k<p.ds.length∧fidx (λd:De=>d.nm.toList==nm.toList) p.ds 0=(k:Int)∧p.ds.drop k=d::r∧d∈p.ds∧d.kind=5∧pE p.ds nm=d.on:=by
 have h6:mean p i nm=6:=by rw[<- nJ p i nm 6 5 agI rfl]at h;exact tN h
 rcases pW (λd:De=>d.nm.toList==nm.toList) p.ds 0 with⟨-,hn,-⟩|⟨k,d,r,hk,hf,hd,hs,-⟩
 ·exfalso;unfold mean qA tQ at h6;rw[hn]at h6;split at h6
  ·cases h6
  ·simp only[Option.map_none,Option.getD_none]at h6;split at h6 <;> cases h6
 ·have hdm:gK d=6:=by
   unfold mean qA at h6;rw[hs]at h6;split at h6
   ·cases h6
   ·simpa using h6
  have h5:d.kind=5:=by unfold gK at hdm;grind
  refine⟨k,d,r,hk,by simpa using hf,hd,List.mem_of_find?_eq_some hs,h5,?_⟩;unfold pE;have:p.ds.find? (λd=>d.kind==5&&d.nm.toList==nm.toList)=some d:=by
   clear hf hd hk h6 hdm h;revert hs
   induction p.ds with
   |nil=>intro hs;simp at hs
   |cons x r ih=>
    intro hs;rw[List.find?_cons]at hs⊢;cases hx:x.nm.toList==nm.toList
    ·rw[hx]at hs;simp only[Bool.and_false];exact ih hs
    ·rw[hx]at hs;injection hs with hs;subst hs;simp[h5]
  rw[this];rfl
end Md
theorem mW {p:Pr} {w W:World} {aK aM:Option Addr} {aH aG:Nat} {i:Int} {cO:Option Addr} {xZ bR bc:Nat} {kr:Option Addr} {pJ je:Nat} {jK:Option Addr} {pI jd n0 n1:Nat} {h:dF} {b e:aZ} {s:Sl} {u v:Value}
 (hs:Sit w W ((n1,0,u)::(n1,1,v)::rM n0 h b e s (IQ bc p aK aM aH aG i cO xZ bR kr pJ je jK pI jd))):Holds W (IQ bc p aK aM aH aG i cO xZ bR kr pJ je jK pI jd):=hs.2.2.2.2.2.2.2.2.2.2.2.2.2.2
def wkV (p:Pr) (aK aM:Option Addr) (aH aG:Nat) (i:Int) (v vs ve:Value):Array Value:= #[.slice aK p.ds.length aH,.slice aM p.ts.length aG,.int .i64 i,v,vs,ve]
structure tF where
 B0:Nat
 B1:Nat
 bc:Nat
 c0:B0<=bc
 c1:bc<B1
def TK (w:World) (B0:Nat) (p:Pr) (aK aM:Option Addr):Prop:=p.ds.length<=maxLen∧p.ts.length<=maxLen∧jv w B0 p.ds aK 0∧iG w B0 p.ts aM 0
theorem TK.below {w w':World} {B0:Nat} {p:Pr} {aK aM:Option Addr} (h:TK w B0 p aK aM) (hb:Below B0 w w'):TK w' B0 p aK aM:=⟨h.1,h.2.1,h.2.2.1.below hb,h.2.2.2.below hb⟩
theorem TK.use {w:World} {B0:Nat} {p:Pr} {aK aM:Option Addr} (h:TK w B0 p aK aM) (hB:B0<=w.heap.size):p.At w aK aM:=⟨h.1,h.2.1,h.2.2.1.mono hB,h.2.2.2.mono hB⟩
def jY (l:List ByteArray):List Value:=l.map .string
def Own (V:List Value) (k:Nat):Prop:= ∃u∈V,u.ownBlock=some k
structure Kw (L:tF) (V:List Value) (w w':World):Prop where
 os:w'.os=w.os
 tape:w'.tape=w.tape
 output:w'.output=w.output
 size:w.heap.size<=w'.heap.size
 block: ∀k,k<w.heap.size->k≠L.bc-> ¬Own V k->w'.heap[k]? =w.heap[k]?
def mJ (w:World) (V V':List Value):Prop:= ∀k,Own V' k->Own V k∨w.heap.size<=k
theorem Kw.refl (L:tF) (V:List Value) (w:World):Kw L V w w:=⟨rfl,rfl,rfl,aB _,λ_ _ _ _=>rfl⟩
theorem Kw.of_below {L:tF} {V:List Value} {w w':World} (h:Below w.heap.size w w'):Kw L V w w':=⟨h.os,h.tape,h.output,h.size,λk hk _ _=>h.block k hk⟩
theorem Kw.trans {L:tF} {V V1:List Value} {w w1 w2:World} (h:Kw L V w w1) (ho:mJ w V V1) (k:Kw L V1 w1 w2):Kw L V w w2:=
 ⟨k.os.trans h.os,k.tape.trans h.tape,k.output.trans h.output,aJ h.size k.size,λj hj hc hv=>(k.block j (aR hj h.size) hc (λe=>by
   rcases ho j e with e|e
   ·exact hv e
   ·omega)).trans (h.block j hj hc hv)⟩
theorem Kw.below {L:tF} {V:List Value} {w w':World} (h:Kw L V w w') (hB:L.B0<=w.heap.size) (hv: ∀k,Own V k->L.B1<=k):Below L.B0 w w':=
 ⟨h.os,h.tape,h.output,h.size,λk hk=>h.block k agH (by have:=L.c0;omega) (λe=>acw)⟩
theorem Kw.far {L:tF} {V:List Value} {w w':World} {k:Nat} (h:Kw L V w w') (hk:k<w.heap.size) (hB:L.B1<=k) (hv: ¬Own V k):w'.heap[k]? =w.heap[k]?:=
 h.block k hk afU hv
theorem mJ.refl (w:World) (V:List Value):mJ w V V:=λ_ h=> .inl h
theorem mJ.trans {w w1:World} {V V1 V2:List Value} (h:mJ w V V1) (k:mJ w1 V1 V2) (hs:w.heap.size<=w1.heap.size):mJ w V V2:=λj hj=>by
 rcases k j hj with e|e
 ·exact h j e
 ·exact .inr (aJ hs e)
theorem mJ.ne {w:World} {V V':List Value} {k:Nat} (h:mJ w V V') (hk:k<w.heap.size) (hv: ¬Own V k): ¬Own V' k:=λe=>by
 rcases h k e with e|e
 ·exact hv e
 ·omega
theorem lY {w w':World} {base:Nat} {e:TypeId} {size n:Nat} {v:Value} {xs:List Value} (h:w.ownsRow base e size v n xs) (hb: ∀k,v.ownBlock=some k->w'.heap[k]? =w.heap[k]?):w'.ownsRow base e size v n xs:=by
 refine⟨h.1,?_⟩;rcases h.2 with h1|⟨g,cap,cur,hv,h1,h2,h3⟩
 ·exact .inl h1
 ·exact .inr ⟨g,cap,cur,hv,h1,(hb g (by rw[hv];rfl)).trans h2,h3⟩
theorem RV {w:World} {g:Nat} (hg:g<w.heap.size): ∀(l:List ByteArray) (k:Nat),(∀j u,(jY l)[j]? =some u->w.cell? ⟨g,k+j,none⟩=some u)->(∀s∈l,s.size<=maxLen)->fP w w.heap.size l (some ⟨g,0,none⟩) k
 | [],_,_,_=>trivial
 |s::r,k,hc,hs=>by
  refine⟨⟨g,0,rfl,hg,?_,hs s agJ⟩,RV hg r (k+1) (λj u hu=> ?_) (λy hy=>hs y ahc)⟩
  ·rw[aU];exact hc 0 _ rfl
  ·rw[Nat.add_assoc,Nat.add_comm 1 j];exact hc (j+1) u (by simpa[jY]using hu)
theorem Uw {w:World} {base:Nat} {e:TypeId} {v:Value} {l:List ByteArray} (h:w.ownsRow base e 1 v l.length (jY l)) (hs: ∀s∈l,s.size<=maxLen): ∃ao cap,v= .slice ao l.length cap∧fP w w.heap.size l ao 0:=by
 rcases h.2 with⟨rfl,hn⟩|⟨g',cap,cur,rfl,hb,hg,h1,h2,h3,h4⟩
 ·have:l=[]:=List.eq_nil_of_length_eq_zero hn;subst this;exact⟨none,0,rfl,trivial⟩
 ·refine⟨_,_,rfl,RV (aO hg) l 0 (λj u hu=> ?_) hs⟩;rw[aU,cell_of_row w g' j cur _ (0,0) hg];rw[<- h4,List.getElem?_take]at hu;split at hu
  ·simpa using hu
  ·cases hu
structure kE (w:World) (L:tF) (p:Pr) (aK aM:Option Addr) (aH aG:Nat) (i:Int) (A:List Fr) (fs gs:List ByteArray) (v vs ve:Value):Prop where
 blk:w.heap[L.bc]? =some (.cells (wkV p aK aM aH aG i v vs ve) 100 (0,0))
 row:w.ownsRow L.B1 74 11 v A.length (BF A)
 rs:w.ownsRow L.B1 9 1 vs fs.length (jY fs)
 re:w.ownsRow L.B1 9 1 ve gs.length (jY gs)
 d1: ∀k,v.ownBlock=some k->vs.ownBlock≠some k
 d2: ∀k,v.ownBlock=some k->ve.ownBlock≠some k
 d3: ∀k,vs.ownBlock=some k->ve.ownBlock≠some k
 sz:L.B1<=w.heap.size
 dat:TK w L.B0 p aK aM
 qw:Zi w L.B0 A
 fo: ∀s∈fs,s.size<=maxLen
 go: ∀s∈gs,s.size<=maxLen
section
variable {w:World} {L:tF} {p:Pr} {aK aM:Option Addr} {aH aG:Nat} {i:Int} {A:List Fr} {fs gs:List ByteArray} {v vs ve:Value}
theorem kE.b0 (h:kE w L p aK aM aH aG i A fs gs v vs ve):L.B0<=w.heap.size:=adU
theorem vU {k:Nat} :Own [v,vs,ve] k↔v.ownBlock=some k∨vs.ownBlock=some k∨ve.ownBlock=some k:=by
 unfold Own;simp
theorem kE.own (h:kE w L p aK aM aH aG i A fs gs v vs ve): ∀k,Own [v,vs,ve] k->L.B1<=k∧k<w.heap.size:=λk hk=>by
 rcases vU.1 hk with e|e|e
 ·exact h.row.lt k e
 ·exact h.rs.lt k e
 ·exact h.re.lt k e
theorem kE.form (h:kE w L p aK aM aH aG i A fs gs v vs ve): ∃cO bR,v= .slice cO A.length bR∧(dA A).At w w.heap.size cO 0:=by
 rcases h.row.2 with⟨rfl,hn⟩|⟨g',cap,cur,rfl,hb,hg,h1,h2,h3,h4⟩
 ·have:A=[]:=List.eq_nil_of_length_eq_zero hn;subst this;exact⟨none,0,rfl,trivial⟩
 ·refine⟨_,_,rfl,Vr h.b0 (aO hg) A 0 (λj u hu=> ?_) h.qw⟩;rw[Nat.zero_mul,aU,cell_of_row w g' j cur _ (0,0) hg];rw[<- h4,List.getElem?_take]at hu;split at hu
  ·simpa using hu
  ·cases hu
theorem kE.Vq (h:kE w L p aK aM aH aG i A fs gs v vs ve): ∃ao cap,vs= .slice ao fs.length cap∧fP w w.heap.size fs ao 0:=Uw h.rs h.fo
theorem kE.Vp (h:kE w L p aK aM aH aG i A fs gs v vs ve): ∃ao cap,ve= .slice ao gs.length cap∧fP w w.heap.size gs ao 0:=Uw h.re h.go
theorem kE.holds {cO kr jK:Option Addr} {bR pJ je pI jd:Nat} (h:kE w L p aK aM aH aG i A fs gs (.slice cO A.length bR) (.slice kr pJ je) (.slice jK pI jd)):Holds w (IQ L.bc p aK aM aH aG i cO (dA A).len bR kr pJ je jK pI jd):=by
 have hb:=h.blk;rw[rW];exact⟨eX hb (j:=0) rfl,eX hb (j:=1) rfl,eX hb (j:=2) rfl,eX hb (j:=3) rfl,eX hb (j:=4) rfl,eX hb (j:=5) rfl,trivial⟩
theorem kE.below {w':World} (h:kE w L p aK aM aH aG i A fs gs v vs ve) (hb:Below w.heap.size w w'):kE w' L p aK aM aH aG i A fs gs v vs ve where
 blk:=(hb.block _ (aO h.blk)).trans h.blk
 row:=lY h.row (λk hk=>hb.block k (h.row.lt k hk).2)
 rs:=lY h.rs (λk hk=>hb.block k (h.rs.lt k hk).2)
 re:=lY h.re (λk hk=>hb.block k (h.re.lt k hk).2)
 d1:=h.d1
 d2:=h.d2
 d3:=h.d3
 sz:=aJ h.sz hb.size
 dat:=h.dat.below (hb.mono h.b0)
 qw:=λx hx=>(h.qw x hx).below (hb.mono h.b0)
 fo:=h.fo
 go:=h.go
theorem kE.ae2 {wz w4 w5:World} {u x:Value} {g' j:Nat} (h:kE w L p aK aM aH aG i A fs gs v vs ve) (hu:u∈ [v,vs,ve]) (hb:Below w.heap.size w wz) (hgr:wz.grownBy w4 u.ownBlock) (hat:u.ownBlock=some g'∨g'=wz.heap.size) (hgw:w4.grownBy w5 (some g')):
 (∀k,k<w.heap.size->u.ownBlock≠some k->w5.heap[k]? =w.heap[k]?)∧(∀k,k<w.heap.size->k≠L.bc->u.ownBlock≠some k->(w5.setCell ⟨L.bc,j,none⟩ x).heap[k]? =w.heap[k]?)∧
 Kw L [v,vs,ve] w (w5.setCell ⟨L.bc,j,none⟩ x):=by
 have hsz:w.heap.size<=w4.heap.size:=aJ hb.size hgr.size;have hgz:=bU w5 ⟨L.bc,j,none⟩ x;have hlow: ∀k,k<w.heap.size->u.ownBlock≠some k->w5.heap[k]? =w.heap[k]?:=λk hk hv=>by
  have hkg:k≠g':=by
   rcases hat with e|e
   ·intro e';exact hv (by rw[e,e'])
   ·have:=hb.size;omega
  rw[hgw.block k agH (by simp;exact hkg),hgr.block k (aR hk hb.size) (λe=>hv e.symm),hb.block k hk]
 have hl2: ∀k,k<w.heap.size->k≠L.bc->u.ownBlock≠some k->(w5.setCell ⟨L.bc,j,none⟩ x).heap[k]? =w.heap[k]?:=λk hk hc hv=>by rw[bg w5 ⟨L.bc,j,none⟩ _ rfl (λe=>hc e.symm)];exact hlow k hk hv
 refine⟨hlow,hl2,⟨hgz.os.trans (hgw.os.trans (hgr.os.trans hb.os)),hgz.tape.trans (hgw.tape.trans (hgr.tape.trans hb.tape)),hgz.output.trans (hgw.output.trans (hgr.output.trans hb.output)),aJ hsz (aJ hgw.size hgz.size),λk hk hc hv=>hl2 k hk hc (λe=>hv ⟨u,hu,e⟩)⟩⟩
theorem kE.MN (h:kE w L p aK aM aH aG i A fs gs v vs ve) {u:Value} (hu:u∈ [v,vs,ve]):u.ownBlock≠some L.bc:=λe=>by
 have:=(h.own _ ⟨u,hu,e⟩).1;have:=L.c1;omega
theorem kE.push {wz w4:World} {g' cap':Nat} {zs:List Value} (h:kE w L p aK aM aH aG i A fs gs v vs ve) (x:Fr) (hx:uJ w L.B0 x.h x.b x.e x.s) (hb:Below w.heap.size w wz) (hown:w4.ownsRow L.B1 74 11 (.slice (some ⟨g',0,none⟩) (A.length+1) cap') (A.length+1) (BF A++zs)) (hgr:wz.grownBy w4 v.ownBlock) (hat:v.ownBlock=some g'∨g'=wz.heap.size):
 kE ((w4.setCells g' (A.length*11) (qg x.h x.b x.e x.s)).setCell ⟨L.bc,3,none⟩ (.slice (some ⟨g',0,none⟩) (A.length+1) cap')) L p aK aM aH aG i (A++[x]) fs gs (.slice (some ⟨g',0,none⟩) (A.length+1) cap') vs ve∧
 Kw L [v,vs,ve] w ((w4.setCells g' (A.length*11) (qg x.h x.b x.e x.s)).setCell ⟨L.bc,3,none⟩ (.slice (some ⟨g',0,none⟩) (A.length+1) cap'))∧mJ w [v,vs,ve] [.slice (some ⟨g',0,none⟩) (A.length+1) cap',vs,ve]:=by
 have hg1:=(hown.lt g' rfl).1;have hc1:=L.c1;have hput:=Rt (vs:=qg x.h x.b x.e x.s) hown (F3 A) rfl;generalize hw5:w4.setCells g' (A.length*11) (qg x.h x.b x.e x.s)=w5 at *;have hgw:w4.grownBy w5 (some g'):=by rw[<- hw5];exact eD _ _ _ _
 obtain⟨hlow,hl2,eG⟩:=h.ae2 (u:=v) (x:= .slice (some ⟨g',0,none⟩) (A.length+1) cap') (j:=3) agJ hb hgr hat hgw;have hgz:=bU w5 ⟨L.bc,3,none⟩ (.slice (some ⟨g',0,none⟩) (A.length+1) cap');have hbel:=eG.below h.b0 (λk e=>(h.own k e).1);have hnew: ∀k,Value.ownBlock (.slice (some ⟨g',0,none⟩) (A.length+1) cap')=some k->v.ownBlock=some k∨w.heap.size<=k:=λk hk=>by
  have:g'=k:=adu
  subst this;rcases hat with e|e
  ·exact .inl e
  ·exact .inr afA
 refine⟨?_,eG,λk hk=> ?_⟩
 ·refine {blk:= ?_,row:= ?_,rs:= ?_,re:= ?_,d1:= ?_,d2:= ?_,d3:=h.d3,sz:=aJ h.sz eG.size,dat:=h.dat.below hbel,qw:= ?_,fo:=h.fo,go:=h.go}
  ·exact dI ((hlow _ (aO h.blk) (h.MN agJ)).trans h.blk) _
  ·rw[aA,CU];refine hput.kept hgz (.inr ?_);simp[Value.ownBlock];omega
  ·exact lY h.rs (λk hk=>hl2 k (h.rs.lt k hk).2 aez (λe=>h.d1 k e hk))
  ·exact lY h.re (λk hk=>hl2 k (h.re.lt k hk).2 aeA (λe=>h.d2 k e hk))
  ·intro k hk e;rcases hnew k hk with e'|e'
   ·exact h.d1 k e' e
   ·have:=(h.rs.lt k e).2;omega
  ·intro k hk e;rcases hnew k hk with e'|e'
   ·exact h.d2 k e' e
   ·have:=(h.re.lt k e).2;omega
  ·intro y hy;rcases List.mem_append.1 hy with hy|hy
   ·exact(h.qw y hy).below hbel
   ·obtain rfl:=List.mem_singleton.1 hy;exact hx.below hbel
 ·rcases vU.1 hk with e|e|e
  ·rcases hnew k e with e'|e'
   ·exact .inl (vU.2 (.inl e'))
   ·exact .inr e'
  ·exact .inl (vU.2 (.inr (.inl e)))
  ·exact .inl (vU.2 (.inr (.inr e)))
theorem kE.pop {wz:World} {g' cap':Nat} (x:Fr) (h:kE w L p aK aM aH aG i (A++[x]) fs gs (.slice (some ⟨g',0,none⟩) (A.length+1) cap') vs ve) (hb:Below w.heap.size w wz):
 kE (wz.setCell ⟨L.bc,3,none⟩ (.slice (some ⟨g',0,none⟩) A.length cap')) L p aK aM aH aG i A fs gs (.slice (some ⟨g',0,none⟩) A.length cap') vs ve∧
 Kw L [.slice (some ⟨g',0,none⟩) (A.length+1) cap',vs,ve] w (wz.setCell ⟨L.bc,3,none⟩ (.slice (some ⟨g',0,none⟩) A.length cap')):=by
 have hI:=h.below hb;have hc1:=L.c1;have hgz:=bU wz ⟨L.bc,3,none⟩ (.slice (some ⟨g',0,none⟩) A.length cap');have hkp:Kw L [.slice (some ⟨g',0,none⟩) (A.length+1) cap',vs,ve] w (wz.setCell ⟨L.bc,3,none⟩ (.slice (some ⟨g',0,none⟩) A.length cap')):=
  ⟨hgz.os.trans hb.os,hgz.tape.trans hb.tape,hgz.output.trans hb.output,aJ hb.size hgz.size,λk hk hc _=>(hgz.block k (aR hk hb.size) aht).trans (hb.block k hk)⟩
 have hbel:Below L.B0 wz (wz.setCell ⟨L.bc,3,none⟩ (.slice (some ⟨g',0,none⟩) A.length cap')):=cK hgz L.c0 hI.b0;have hrow:=hI.row;rw[aA,CU]at hrow;have hg1:=(hrow.lt g' rfl).1;have rX: ∀k,L.B1<=k->(wz.setCell ⟨L.bc,3,none⟩ (.slice (some ⟨g',0,none⟩) A.length cap')).heap[k]? =wz.heap[k]?:=λk hk=>bg wz _ _ rfl (by show L.bc≠k;omega);refine⟨{blk:=dI hI.blk _,row:=(Oz hrow (F3 A)).kept hgz (.inr aeJ),rs:=lY hI.rs (λk hk=>rX k (hI.rs.lt k hk).1),re:=lY hI.re (λk hk=>rX k (hI.re.lt k hk).1),d1:=λk hk=>h.d1 k hk,d2:=λk hk=>h.d2 k hk,d3:=h.d3,sz:=aJ hI.sz hgz.size,dat:=hI.dat.below hbel,qw:=λy hy=>(hI.qw y ahc).below hbel,fo:=h.fo,go:=h.go},hkp⟩
theorem RX (l:List ByteArray) (s:ByteArray):jY (l++[s])=jY l++[.string s]:=by simp[jY]
theorem kE.bt6 {wz w4:World} {g' cap':Nat} {nm:ByteArray} (h:kE w L p aK aM aH aG i A fs gs v vs ve) (hn:nm.size<=maxLen) (hb:Below w.heap.size w wz) (hown:w4.ownsRow L.B1 9 1 (.slice (some ⟨g',0,none⟩) (fs.length+1) cap') (fs.length+1) (jY fs++[.string nm])) (hgr:wz.grownBy w4 vs.ownBlock) (hat:vs.ownBlock=some g'∨g'=wz.heap.size):
 kE (w4.setCell ⟨L.bc,4,none⟩ (.slice (some ⟨g',0,none⟩) (fs.length+1) cap')) L p aK aM aH aG i A (fs++[nm]) gs v (.slice (some ⟨g',0,none⟩) (fs.length+1) cap') ve∧
 Kw L [v,vs,ve] w (w4.setCell ⟨L.bc,4,none⟩ (.slice (some ⟨g',0,none⟩) (fs.length+1) cap'))∧mJ w [v,vs,ve] [v,.slice (some ⟨g',0,none⟩) (fs.length+1) cap',ve]:=by
 have hg1:=(hown.lt g' rfl).1;have hc1:=L.c1;obtain⟨hlow,hl2,eG⟩:=h.ae2 (u:=vs) (x:= .slice (some ⟨g',0,none⟩) (fs.length+1) cap') (j:=4) agJ hb hgr hat (Ca w4);have hgz:=bU w4 ⟨L.bc,4,none⟩ (.slice (some ⟨g',0,none⟩) (fs.length+1) cap');have hbel:=eG.below h.b0 (λk e=>(h.own k e).1);have hnew: ∀k,Value.ownBlock (.slice (some ⟨g',0,none⟩) (fs.length+1) cap')=some k->vs.ownBlock=some k∨w.heap.size<=k:=λk hk=>by
  have:g'=k:=adu
  subst this;rcases hat with e|e
  ·exact .inl e
  ·exact .inr afA
 refine⟨?_,eG,λk hk=> ?_⟩
 ·refine {blk:= ?_,row:= ?_,rs:= ?_,re:= ?_,d1:= ?_,d2:=h.d2,d3:= ?_,sz:=aJ h.sz eG.size,dat:=h.dat.below hbel,qw:=λy hy=>(h.qw y hy).below hbel,fo:= ?_,go:=h.go}
  ·exact dI ((hlow _ (aO h.blk) (h.MN agJ)).trans h.blk) _
  ·exact lY h.row (λk hk=>hl2 k (h.row.lt k hk).2 aen (λe=>h.d1 k hk e))
  ·rw[aA,RX];refine hown.kept hgz (.inr ?_);simp[Value.ownBlock];omega
  ·exact lY h.re (λk hk=>hl2 k (h.re.lt k hk).2 aeA (λe=>h.d3 k e hk))
  ·intro k hk e;rcases hnew k e with e'|e'
   ·exact h.d1 k hk e'
   ·have:=(h.row.lt k hk).2;omega
  ·intro k hk e;rcases hnew k hk with e'|e'
   ·exact h.d3 k e' e
   ·have:=(h.re.lt k e).2;omega
  ·intro y hy;rcases List.mem_append.1 hy with hy|hy
   ·exact h.fo y hy
   ·obtain rfl:=List.mem_singleton.1 hy;exact hn
 ·rcases vU.1 hk with e|e|e
  ·exact .inl (vU.2 (.inl e))
  ·rcases hnew k e with e'|e'
   ·exact .inl (vU.2 (.inr (.inl e')))
   ·exact .inr e'
  ·exact .inl (vU.2 (.inr (.inr e)))
theorem kE.bt4 {wz w4:World} {g' cap':Nat} {nm:ByteArray} (h:kE w L p aK aM aH aG i A fs gs v vs ve) (hn:nm.size<=maxLen) (hb:Below w.heap.size w wz) (hown:w4.ownsRow L.B1 9 1 (.slice (some ⟨g',0,none⟩) (gs.length+1) cap') (gs.length+1) (jY gs++[.string nm])) (hgr:wz.grownBy w4 ve.ownBlock) (hat:ve.ownBlock=some g'∨g'=wz.heap.size):
 kE (w4.setCell ⟨L.bc,5,none⟩ (.slice (some ⟨g',0,none⟩) (gs.length+1) cap')) L p aK aM aH aG i A fs (gs++[nm]) v vs (.slice (some ⟨g',0,none⟩) (gs.length+1) cap')∧
 Kw L [v,vs,ve] w (w4.setCell ⟨L.bc,5,none⟩ (.slice (some ⟨g',0,none⟩) (gs.length+1) cap'))∧mJ w [v,vs,ve] [v,vs,.slice (some ⟨g',0,none⟩) (gs.length+1) cap']:=by
 have hg1:=(hown.lt g' rfl).1;have hc1:=L.c1;obtain⟨hlow,hl2,eG⟩:=h.ae2 (u:=ve) (x:= .slice (some ⟨g',0,none⟩) (gs.length+1) cap') (j:=5) agJ hb hgr hat (Ca w4);have hgz:=bU w4 ⟨L.bc,5,none⟩ (.slice (some ⟨g',0,none⟩) (gs.length+1) cap');have hbel:=eG.below h.b0 (λk e=>(h.own k e).1);have hnew: ∀k,Value.ownBlock (.slice (some ⟨g',0,none⟩) (gs.length+1) cap')=some k->ve.ownBlock=some k∨w.heap.size<=k:=λk hk=>by
  have:g'=k:=adu
  subst this;rcases hat with e|e
  ·exact .inl e
  ·exact .inr afA
 refine⟨?_,eG,λk hk=> ?_⟩
 ·refine {blk:= ?_,row:= ?_,rs:= ?_,re:= ?_,d1:=h.d1,d2:= ?_,d3:= ?_,sz:=aJ h.sz eG.size,dat:=h.dat.below hbel,qw:=λy hy=>(h.qw y hy).below hbel,fo:=h.fo,go:= ?_}
  ·exact dI ((hlow _ (aO h.blk) (h.MN agJ)).trans h.blk) _
  ·exact lY h.row (λk hk=>hl2 k (h.row.lt k hk).2 aen (λe=>h.d2 k hk e))
  ·exact lY h.rs (λk hk=>hl2 k (h.rs.lt k hk).2 aez (λe=>h.d3 k hk e))
  ·rw[aA,RX];refine hown.kept hgz (.inr ?_);simp[Value.ownBlock];omega
  ·intro k hk e;rcases hnew k e with e'|e'
   ·exact h.d2 k hk e'
   ·have:=(h.row.lt k hk).2;omega
  ·intro k hk e;rcases hnew k e with e'|e'
   ·exact h.d3 k hk e'
   ·have:=(h.rs.lt k hk).2;omega
  ·intro y hy;rcases List.mem_append.1 hy with hy|hy
   ·exact h.go y hy
   ·obtain rfl:=List.mem_singleton.1 hy;exact hn
 ·rcases vU.1 hk with e|e|e
  ·exact .inl (vU.2 (.inl e))
  ·exact .inl (vU.2 (.inr (.inl e)))
  ·rcases hnew k e with e'|e'
   ·exact .inl (vU.2 (.inr (.inr e')))
   ·exact .inr e'
theorem kE.ag9 {i':Int} (h:kE w L p aK aM aH aG i A fs gs v vs ve):kE (w.setCell ⟨L.bc,2,none⟩ (.int .i64 i')) L p aK aM aH aG i' A fs gs v vs ve:=by
 have hg:=bU w ⟨L.bc,2,none⟩ (.int .i64 i');have hbel:=cK hg L.c0 h.b0;have hc1:=L.c1;have rX: ∀k,L.B1<=k->(w.setCell ⟨L.bc,2,none⟩ (.int .i64 i')).heap[k]? =w.heap[k]?:=λk hk=>bg w _ _ rfl (by show L.bc≠k;omega);exact {blk:=agj,row:=lY h.row (λk hk=>rX k (h.row.lt k hk).1),rs:=lY h.rs (λk hk=>rX k (h.rs.lt k hk).1),re:=lY h.re (λk hk=>rX k (h.re.lt k hk).1),d1:=h.d1,d2:=h.d2,d3:=h.d3,sz:=aJ h.sz hg.size,dat:=h.dat.below hbel,qw:=λx hx=>(h.qw x hx).below hbel,fo:=h.fo,go:=h.go}
end
def C3 (W1 W2 W3 W4:World):List Bool->World->Prop
 | [false,false,false],w=>w=W1
 | [true,false,false],w=>w=W2
 | [true,true,false],w=>w=W3
 | [true,true,true],w=>w=W4
 |_,_=>False
section
variable {W1 W2 W3 W4:World} {a1 a2 a3 i:Nat} {c:List Bool} {w':World}
theorem C3.bits: ∀ {c:List Bool} {w':World},C3 W1 W2 W3 W4 c w'->∃x y z,c=[x,y,z]
 | [x,y,z],_,_=>⟨x,y,z,rfl⟩
 | [],_,h=>h.elim
 | [_],_,h=>by simp[C3]at h
 | [_,_],_,h=>by simp[C3]at h
 |_::_::_::_::_,_,h=>by simp[C3]at h
theorem C3.skip (h1:(a1==i)=false) (h2:(a2==i)=false) (h3:(a3==i)=false) (h:C3 W1 W2 W3 W4 c w'):C3 W1 W2 W3 W4 (jh [a1,a2,a3] c i) w':=by
 obtain⟨x,y,z,rfl⟩:=h.bits;simpa[jh,h1,h2,h3]using h
theorem C3.one (h1:(a1==i)=true) (h2:(a2==i)=false) (h3:(a3==i)=false):C3 W1 W2 W3 W4 (jh [a1,a2,a3] [false,false,false] i) W2:=by
 simp only[jh,h1,h2,h3,Bool.or_false,Bool.or_true];rfl
theorem C3.two (h1:(a1==i)=false) (h2:(a2==i)=true) (h3:(a3==i)=false):C3 W1 W2 W3 W4 (jh [a1,a2,a3] [true,false,false] i) W3:=by
 simp only[jh,h1,h2,h3,Bool.or_false,Bool.or_true];rfl
theorem C3.three (h1:(a1==i)=false) (h2:(a2==i)=false) (h3:(a3==i)=true):C3 W1 W2 W3 W4 (jh [a1,a2,a3] [true,true,false] i) W4:=by
 simp only[jh,h1,h2,h3,Bool.or_false,Bool.or_true];rfl
theorem C3.low {p1:Option Bool} {W:World} (hb1:Below W.heap.size W W1) (hb2:Below W.heap.size W W2) (hok:okB [p1,some false,some false] c) (h:C3 W1 W2 W3 W4 c w'):Below W.heap.size W w':=by
 obtain⟨x,y,z,rfl⟩:=h.bits;have:y=false∧z=false:=by
  cases p1 with
  |none=>exact⟨hok.1,hok.2.1⟩
  |some b=>exact⟨hok.2.1,hok.2.2.1⟩
 obtain⟨rfl,rfl⟩:=this;cases x
 ·have h:w'=W1:=h;rw[h];exact hb1
 ·have h:w'=W2:=h;rw[h];exact hb2
theorem C3.w1 (hok:okB [some false,some false,some false] c) (h:C3 W1 W2 W3 W4 c w'):c=[false,false,false]∧w'=W1:=by
 obtain⟨x,y,z,rfl⟩:=h.bits;obtain⟨rfl,rfl,rfl,-⟩:=hok;exact⟨rfl,h⟩
theorem C3.w2 (hok:okB [some true,some false,some false] c) (h:C3 W1 W2 W3 W4 c w'):c=[true,false,false]∧w'=W2:=by
 obtain⟨x,y,z,rfl⟩:=h.bits;obtain⟨rfl,rfl,rfl,-⟩:=hok;exact⟨rfl,h⟩
theorem C3.w3 (hok:okB [some true,some true,some false] c) (h:C3 W1 W2 W3 W4 c w'):c=[true,true,false]∧w'=W3:=by
 obtain⟨x,y,z,rfl⟩:=h.bits;obtain⟨rfl,rfl,rfl,-⟩:=hok;exact⟨rfl,h⟩
theorem C3.b1 (hok:okB [some false,some false,some false] c) (h:C3 W1 W2 W3 W4 c w'):c=[false,false,false]∧w'=W1:=C3.w1 hok h
end
theorem wp_append_run {P:Program} {w w':World} {o:Oper} {a:Act} {K:Act->World->Prop} {Q:Exit->Act->World->Prop} (s x:Operand) (t:TypeId) (v u r:Value)
 (ho:o.op= .call {callee:= .builtin .append,args:= #[s,x],argTypes:= #[t,t]}) (hs:a.eval s=v) (hx:a.eval x=u)
 (hr:(Builtin.append_ #[t,t] o.type #[v,u]).run P w= .ok r w') (h:K (a.put o.dst r) w'):o.wp P a w K Q:=by
 unfold Oper.wp execOp;simp only[ho,resolve,invoke,builtin,Sem.run_bind,Sem.run_pure,Result.andThen_ok,List.map_toArray,List.map_cons,List.map_nil,hs,hx,hr];exact h
def CJ (w:World) (L:tF) (p:Pr) (aK aM:Option Addr) (aH aG:Nat) (i:Int) (A:List Fr) (fs gs:List ByteArray) (v vs ve:Value) (fs2 gs2:List ByteArray) (r:Int) (e:Ending) (w':World):Prop:=
 e= .returned (.int .i64 r)∧Kw L [v,vs,ve] w w'∧∃fs' gs' vs' ve',mJ w [v,vs,ve] [v,vs',ve']∧kE w' L p aK aM aH aG i A fs' gs' v vs' ve'∧(r=0->fs'=fs2∧gs'=gs2)
theorem CJ.err {w w':World} {L:tF} {p:Pr} {aK aM:Option Addr} {aH aG:Nat} {i:Int} {A:List Fr} {fs gs:List ByteArray} {v vs ve:Value} {fs2 gs2:List ByteArray} {r x:Int}
 (hI:kE w L p aK aM aH aG i A fs gs v vs ve) (hr:r=x) (h0:r≠0) (hb:Below w.heap.size w w'):CJ w L p aK aM aH aG i A fs gs v vs ve fs2 gs2 r (.returned (.int .i64 x)) w':=by
 subst hr;exact⟨rfl,Kw.of_below hb,fs,gs,vs,ve,mJ.refl _ _,hI.below hb,λh=>(h0 h).elim⟩
theorem ad1:(Tryz.prog.info? 9).map (λi=>(i.zero,i.size,i.bytes))=some (some (.string ⟨#[]⟩),1,16):=agG
theorem RQ: ∃i0,Tryz.prog.info? 9=some i0∧i0.zero=some (.string ⟨#[]⟩)∧i0.size=1∧i0.bytes=16:=info_parts ad1
theorem az7 (L:tF) (p:Pr) (w:World) (aK aM:Option Addr) (aH aG:Nat) (i:Int) (A:List Fr) (fs gs:List ByteArray) (v vs ve:Value) (hI:kE w L p aK aM aH aG i A fs gs v vs ve) (h:dF) (b e:aZ) (s:Sl) (hin:uJ w L.B0 h b e s) (hi:bY i) (hA:A.length<=maxLen) (hfs:fs.length<=1000000000000) (hgs:gs.length<=1000000000000) (hop:h.op=12):
 Calls Tryz.prog 49 #[.pointer (some ⟨L.bc,0,none⟩),iE h b e s] w (CJ w L p aK aM aH aG i A fs gs v vs ve (fs++[h.nm]) gs (if gN (conv (mean p i h.nm)) 7 7 != 0 then gN (conv (mean p i h.nm)) 7 7 else if((((eZ (dA A) 7 7 ⟨#[]⟩||eZ (dA A) 8 8 ⟨#[]⟩)||eZ (dA A) 3 3 ⟨#[]⟩)||qE p.ts h.nm==i)||qE p.ts h.nm==0)then 7 else lg (nN fs h.nm.toList))):=by
 obtain⟨cO,bR,rfl,hat⟩:=hI.form;obtain⟨kr,je,rfl,Yb⟩:=hI.Vq;obtain⟨jK,jd,rfl,Ya⟩:=hI.Vp;have hp:=hI.dat.use hI.b0;have hh:=hI.holds;have har:(dA A).len<=maxLen:=agF
 replace hin:=hin.use hI.b0;have HI:=ah hI;have mg:=ah Yb;have jP:=ah Ya;generalize hres:(if gN (conv (mean p i h.nm)) 7 7 != 0 then gN (conv (mean p i h.nm)) 7 7 else if((((eZ (dA A) 7 7 ⟨#[]⟩||eZ (dA A) 8 8 ⟨#[]⟩)||eZ (dA A) 3 3 ⟨#[]⟩)||qE p.ts h.nm==i)||qE p.ts h.nm==0)then 7 else lg (nN fs h.nm.toList))=res;have HR:aj (res=(if gN (conv (mean p i h.nm)) 7 7 != 0 then gN (conv (mean p i h.nm)) 7 7 else if((((eZ (dA A) 7 7 ⟨#[]⟩||eZ (dA A) 8 8 ⟨#[]⟩)||eZ (dA A) 3 3 ⟨#[]⟩)||qE p.ts h.nm==i)||qE p.ts h.nm==0)then 7 else lg (nN fs h.nm.toList))):=ah (by rw[<- hres]);have iO:=ah hop;have yx:=ah hin.1.2.2.1;have Ti:=ah hfs;have Tj:=ah hgs;clear hres hop hI Yb Ya hA hfs hgs;have HH:=ah (show Sit w w _ from⟨au _ _,hh⟩);have oU:=ah hin;have lq:=ah hat;have jZ:=ah har;have HP:=ah hp;unfold iE;clear hh hin hat har hp;go_enter Tryz.func49,Tryz.ntmps49;go_upto_region 1 with fail;generalize hW:World.alloc w _=W;generalize Value.agg #[_,_,_,_,_,_,_,_,_,_,_]=a0;have HX:aj (Sit w W (rM w.heap.size h b e s (IQ L.bc p aK aM aH aG i cO (dA A).len bR kr fs.length je jK gs.length jd))):=ah aaK;clear hW HH;have K0: ∀w',Below W.heap.size W w'->w'.cell? ⟨L.bc,0,none⟩=some (.slice aK p.ds.length aH):=λw' hb=>(HX.o.next hb).2.2.2.2.2.2.2.2.2.2.2.2.1.2;have K1: ∀w',Below W.heap.size W w'->w'.cell? ⟨L.bc,1,none⟩=some (.slice aM p.ts.length aG):=λw' hb=>(HX.o.next hb).2.2.2.2.2.2.2.2.2.2.2.2.2.1.2;have K2: ∀w',Below W.heap.size W w'->w'.cell? ⟨L.bc,2,none⟩=some (.int .i64 i):=λw' hb=>(HX.o.next hb).2.2.2.2.2.2.2.2.2.2.2.2.2.2.1.2;have HD1:Below W.heap.size W (W.drewN 1):=below_drewN (au _ _) 1;refine eu agG rfl ?_;generalize W.drewN 1=W1 at *;refine dD 0 11 [8,9] [[],[0],[0,1],[0,1,2],[],[4],[4,5],[4,5,6],[],[0,1,2,3,8],[0,1,2,3,4,5,6,7,8,9]] [[none,some false],[none,some false],[none,some false],[none,some false],[none,none],[none,none],[none,none],[none,none],[some false,some false],[some true,some false],[some true,some true]] (AC W1 (.cells #[.slice none 0 0,.slice none 0 0] 35) (.cells #[.slice aK p.ds.length aH,.slice aM p.ts.length aG] 35)) (λ_ _=>True) [15,16,17,18,19,20,21,22,5,6] rfl rfl ahS agG agG agG agG agG ahS (λ_=>trivial) ahS rfl ?_;simp only[jH,nY]
 iterate 8
  apply bZ.step
  case bL=>intro c A w' hok hC hO hD;have e0:=hO 0 ahS;simp[Act.eval]at e0;simp[Act.eval]at hD;simp[go_sem,gd,Oper.wp,hD,e0,K0,K1,AC.below HD1 hC,K2];exact aV.mk trivial (AC.skip ahS ahS hC) (cB.mk _ _)
  try simp only[dY]
 apply bZ.step
 case bL=>intro c A w' hok hC hO hD;obtain⟨x,y,rfl⟩:=hC.bits;obtain⟨rfl,rfl,-⟩:=hok;have hw:w'=W1:=hC;subst hw;simp[go_sem,gd,Oper.wp];exact aV.mk trivial (AC.lay ahS ahS) (cB.mk _ _)
 refine bZ.some (λ_ _=>True) (λ_ _ _ _ _=>trivial) ?_ ?_
 ·intro c A w' hok hC hO hD;obtain⟨x,y,rfl⟩:=hC.bits;obtain⟨rfl,rfl,-⟩:=hok;have hw:w'=W1.alloc _:=hC;subst hw;simp[Act.eval]at hD;simp[go_sem,gd,Oper.wp,hD];exact aV.DY (v:=undef) trivial (AC.fill ahS ahS) trivial
 try simp only[dY]
 apply bZ.step
 case bL=>intro c A w' hok hC hO hD;simp[Act.eval]at hD;simp[go_sem,gd,Oper.wp,hD];exact aV.mk trivial (AC.skip ahS ahS hC) (cB.mk _ _)
 try simp only[dY]
 refine bZ.done ?_;intro wz dL;simp only[List.drop_zero];intro v0 h0 v1 h1 v2 h2 v3 h3 v4 h4 v5 h5 v6 h6 v7 h7 v8 h8 v9 h9 v10 h10;have h8':v8=_:=h8;have QH:v10=_:=h10;subst h8' QH;clear h0 h1 h2 h3 h4 h5 h6 h7 h8 h9 h10;refine eO.nil ?_;refine fU rfl ?_;have Ii:wz=W1.alloc _:=dL;generalize hn1:W1.heap.size=n1 at *;have HY:=ah ((HX.o.next HD1).xV hn1 (.slice aK p.ds.length aH) (.slice aM p.ts.length aG) 35);rw[<- Ii]at HY;clear dL Ii HX K0 K1 K2 HD1 hn1;go_simp;obtain⟨-,⟨-,c0⟩,⟨-,c1⟩,⟨-,c2⟩,⟨-,c3⟩,⟨-,c4⟩,⟨-,c5⟩,⟨-,c6⟩,⟨-,c7⟩,⟨-,c8⟩,⟨-,c9⟩,⟨-,c10⟩,⟨-,c11⟩,⟨-,c12⟩,⟨-,c13⟩,⟨-,c14⟩,⟨-,c15⟩,⟨-,c16⟩,⟨-,c17⟩,⟨-,c18⟩,-⟩:=HY.o;go_wp2_with fail;refine(iT p _ aK aM aH aG i cO bR L.bc kr fs.length je jK gs.length jd (dA A) 7 7 ⟨#[]⟩ jZ.o (lq.o.same HY.o.1) (mW HY.o)).mono ?_;rintro e' W ⟨rfl,hb⟩;replace HY:=ah (HY.o.next hb);clear hb c0 c1 c2 c3 c4 c5 c6 c7 c8 c9 c10 c11 c12 c13 c14 c15 c16 c17 c18;obtain⟨-,⟨-,c0⟩,⟨-,c1⟩,⟨-,c2⟩,⟨-,c3⟩,⟨-,c4⟩,⟨-,c5⟩,⟨-,c6⟩,⟨-,c7⟩,⟨-,c8⟩,⟨-,c9⟩,⟨-,c10⟩,⟨-,c11⟩,⟨-,c12⟩,⟨-,c13⟩,⟨-,c14⟩,⟨-,c15⟩,⟨-,c16⟩,⟨-,c17⟩,⟨-,c18⟩,-⟩:=HY.o;go_wp2_with fail;refine(iT p _ aK aM aH aG i cO bR L.bc kr fs.length je jK gs.length jd (dA A) 8 8 ⟨#[]⟩ jZ.o (lq.o.same HY.o.1) (mW HY.o)).mono ?_;rintro e' W ⟨rfl,hb⟩;replace HY:=ah (HY.o.next hb);clear hb c0 c1 c2 c3 c4 c5 c6 c7 c8 c9 c10 c11 c12 c13 c14 c15 c16 c17 c18;obtain⟨-,⟨-,c0⟩,⟨-,c1⟩,⟨-,c2⟩,⟨-,c3⟩,⟨-,c4⟩,⟨-,c5⟩,⟨-,c6⟩,⟨-,c7⟩,⟨-,c8⟩,⟨-,c9⟩,⟨-,c10⟩,⟨-,c11⟩,⟨-,c12⟩,⟨-,c13⟩,⟨-,c14⟩,⟨-,c15⟩,⟨-,c16⟩,⟨-,c17⟩,⟨-,c18⟩,-⟩:=HY.o;go_wp2_with fail;refine(iT p _ aK aM aH aG i cO bR L.bc kr fs.length je jK gs.length jd (dA A) 3 3 ⟨#[]⟩ jZ.o (lq.o.same HY.o.1) (mW HY.o)).mono ?_;rintro e' W ⟨rfl,hb⟩;replace HY:=ah (HY.o.next hb);clear hb c0 c1 c2 c3 c4 c5 c6 c7 c8 c9 c10 c11 c12 c13 c14 c15 c16 c17 c18;obtain⟨-,⟨-,c0⟩,⟨-,c1⟩,⟨-,c2⟩,⟨-,c3⟩,⟨-,c4⟩,⟨-,c5⟩,⟨-,c6⟩,⟨-,c7⟩,⟨-,c8⟩,⟨-,c9⟩,⟨-,c10⟩,⟨-,c11⟩,⟨-,c12⟩,⟨-,c13⟩,⟨-,c14⟩,⟨-,c15⟩,⟨-,c16⟩,⟨-,c17⟩,⟨-,c18⟩,-⟩:=HY.o;generalize htx:eZ (dA A) 7 7 ⟨#[]⟩=tx at *;generalize hat':eZ (dA A) 8 8 ⟨#[]⟩=O5 at *;generalize hlo:eZ (dA A) 3 3 ⟨#[]⟩=lop at *;clear htx hat' hlo;have hop:=iO.o;obtain⟨g1,g2,g3,g4,g5,g6,g7,g8,g9,g10,g11,g12,g13,g14,g15⟩:=ag0 hop;clear hop;go_wp2_with fail;refine(jo p i h.nm 7 7 _ aK aM aH aG hi (HP.o.same HY.o.1)).mono ?_;rintro e' W ⟨rfl,hb⟩;replace HY:=ah (HY.o.next hb);clear hb c0 c1 c2 c3 c4 c5 c6 c7 c8 c9 c10 c11 c12 c13 c14 c15 c16 c17 c18;obtain⟨-,⟨-,c0⟩,⟨-,c1⟩,⟨-,c2⟩,⟨-,c3⟩,⟨-,c4⟩,⟨-,c5⟩,⟨-,c6⟩,⟨-,c7⟩,⟨-,c8⟩,⟨-,c9⟩,⟨-,c10⟩,⟨-,c11⟩,⟨-,c12⟩,⟨-,c13⟩,⟨-,c14⟩,⟨-,c15⟩,⟨-,c16⟩,⟨-,c17⟩,⟨-,c18⟩,-⟩:=HY.o;generalize gN (conv (mean p i h.nm)) 7 7=q at *;cases hq:(q != 0)
 case true=>have HR':aj (res=q):=ah (HR.o.trans (if_pos hq));have HQ0:aj (q≠0):=ah (by simpa using hq);clear HR;go_wp2_with fail;go_ret;exact CJ.err HI.o HR'.o (by rw[HR'.o];exact HQ0.o) HY.o.1
 have HR1:=ah (HR.o.trans (if_neg (by rw[hq];decide)));clear HR;go_wp2_with fail;refine(jk p.ts h.nm _ aM aG HP.o.2.1 (HP.o.same HY.o.1).2.2.2).mono ?_;rintro e' W' ⟨rfl,rfl⟩;generalize qE p.ts h.nm=kk at *;go_upto_region 35 with fail;go_cut [187] (λs' W3=>W=W3∧s'= .bool ((((tx||O5)||lop)||kk==i)||kk==0))
 case first=>
  as_aux_lemma=>
   cases tx
   ·cases O5
    ·cases lop
     ·cases hki:(kk==i)
      ·cases hk0:(kk==0)
       all_goals go_wp2_with fail
       all_goals go_meet
       all_goals exact⟨rfl,by first|rfl|(rw[hki,hk0];rfl)|(simp[hki,hk0])⟩
      ·go_wp2_with fail;go_meet;exact⟨rfl,by first|rfl|(rw[hki];rfl)|(simp[hki])⟩
     ·go_wp2_with fail;go_meet;exact⟨rfl,ahy⟩
    ·go_wp2_with fail;go_meet;exact⟨rfl,ahy⟩
   ·go_wp2_with fail;go_meet;exact⟨rfl,ahy⟩
 obtain⟨rfl,rfl⟩:=hcut;generalize ((((tx||O5)||lop)||kk==i)||kk==0)=tt at *;cases tt
 case true=>have HR':aj (res=7):=HR1;clear HR1;go_wp2_with fail;go_ret;exact CJ.err HI.o HR'.o (by rw[HR'.o];decide) HY.o.1
 have HR2:aj (res=lg (nN fs h.nm.toList)):=HR1;clear HR1;have La:=ah (Hq fs h.nm);go_upto_region 37 with fail;obtain⟨T,F,Ah,hst,hF,hnext⟩:=calm W;have HF:=ah hF;have dh:=ah hnext;clear hnext hF;have d0:=λx=>(HY.o.next (HF.o x)).2.1.2;have d1:=λx=>(HY.o.next (HF.o x)).2.2.1.2;have d2:=λx=>(HY.o.next (HF.o x)).2.2.2.1.2;have d3:=λx=>(HY.o.next (HF.o x)).2.2.2.2.1.2;have d4:=λx=>(HY.o.next (HF.o x)).2.2.2.2.2.1.2;have d5:=λx=>(HY.o.next (HF.o x)).2.2.2.2.2.2.1.2;have d6:=λx=>(HY.o.next (HF.o x)).2.2.2.2.2.2.2.1.2;have d7:=λx=>(HY.o.next (HF.o x)).2.2.2.2.2.2.2.2.1.2;have d8:=λx=>(HY.o.next (HF.o x)).2.2.2.2.2.2.2.2.2.1.2;have d9:=λx=>(HY.o.next (HF.o x)).2.2.2.2.2.2.2.2.2.2.1.2;have sN:=λx=>(HY.o.next (HF.o x)).2.2.2.2.2.2.2.2.2.2.2.1.2;have vF:=λx=>(HY.o.next (HF.o x)).2.2.2.2.2.2.2.2.2.2.2.2.1.2;have Bz:=λx=>(HY.o.next (HF.o x)).2.2.2.2.2.2.2.2.2.2.2.2.2.1.2;have DF:=λx=>(HY.o.next (HF.o x)).2.2.2.2.2.2.2.2.2.2.2.2.2.2.1.2;have xE:=λx=>(HY.o.next (HF.o x)).2.2.2.2.2.2.2.2.2.2.2.2.2.2.2.1.2;have DI:=λx=>(HY.o.next (HF.o x)).2.2.2.2.2.2.2.2.2.2.2.2.2.2.2.2.1.2;have BA:=λx=>(HY.o.next (HF.o x)).2.2.2.2.2.2.2.2.2.2.2.2.2.2.2.2.2.1.2;have DJ:=λx=>(HY.o.next (HF.o x)).2.2.2.2.2.2.2.2.2.2.2.2.2.2.2.2.2.2.1.2;have BD:=λx=>(HY.o.next (HF.o x)).2.2.2.2.2.2.2.2.2.2.2.2.2.2.2.2.2.2.2.1.2;clear c0 c1 c2 c3 c4 c5 c6 c7 c8 c9 c10 c11 c12 c13 c14 c15 c16 c17 c18;rcases La.o with⟨Il,vN⟩|⟨jj,Il,vN⟩
 case inr=>
  have Gt:=ah Il;have HR':aj (res=8):=ah (HR2.o.trans (by rw[vN];rfl));have hj0:(0:Int)<=(jj:Int):=agH
  clear La HR2 Il vN;refine iI F agG agG hst ?_
  repeat (any_goals (first|go_big_quiet_step ((first|(go_at_call 23;refine(nH fs h.nm _ kr je acQ ((mg.o.same HY.o.1).same (HF.o _))).mono ?_;rintro e w' ⟨rfl,rfl⟩;rw[Gt.o];exact⟨rfl,dh.o _ _ (au _ _)⟩)))|(refine wpQuiet_step (λK hK=> ?_);go_simp;first|(refine hK _ ?_;clear hK K)|(split <;> first|(refine hK _ ?_;clear hK K)|(apply Exists.intro;refine⟨λ_=> ?_,hK _ ?_⟩;((first|(go_at_call 23;refine(nH fs h.nm _ kr je acQ ((mg.o.same HY.o.1).same (HF.o _))).mono ?_;rintro e w' ⟨rfl,rfl⟩;rw[Gt.o];exact⟨rfl,dh.o _ _ (au _ _)⟩)));clear hK K)))))
  all_goals (refine wpQuiet_nil ?_;rintro _ ⟨x,rfl⟩)
  replace HY:=ah (HY.o.next (HF.o x));clear d0 d1 d2 d3 d4 d5 d6 d7 d8 d9 sN vF Bz DF xE DI BA DJ BD HF dh hst;generalize F x=W2 at *;go_wp2_with fail;go_ret;exact CJ.err HI.o HR'.o (by rw[HR'.o];decide) HY.o.1
 have Gt:=ah Il;have HR':aj (res=0):=ah (HR2.o.trans (by rw[vN];rfl));clear La HR2 Il vN;refine iI F agG agG hst ?_
 repeat (any_goals (first|go_big_quiet_step ((first|(go_at_call 23;refine(nH fs h.nm _ kr je acQ ((mg.o.same HY.o.1).same (HF.o _))).mono ?_;rintro e w' ⟨rfl,rfl⟩;rw[Gt.o];exact⟨rfl,dh.o _ _ (au _ _)⟩)))|(refine wpQuiet_step (λK hK=> ?_);go_simp;first|(refine hK _ ?_;clear hK K)|(split <;> first|(refine hK _ ?_;clear hK K)|(apply Exists.intro;refine⟨λ_=> ?_,hK _ ?_⟩;((first|(go_at_call 23;refine(nH fs h.nm _ kr je acQ ((mg.o.same HY.o.1).same (HF.o _))).mono ?_;rintro e w' ⟨rfl,rfl⟩;rw[Gt.o];exact⟨rfl,dh.o _ _ (au _ _)⟩)));clear hK K)))))
 all_goals (refine wpQuiet_nil ?_;rintro _ ⟨x,rfl⟩)
 replace HY:=ah (HY.o.next (HF.o x));clear d0 d1 d2 d3 d4 d5 d6 d7 d8 d9 sN vF Bz DF xE DI BA DJ BD HF dh hst;generalize F x=W2 at *;have hI2:=HI.o.below HY.o.1;have HI2:=ah hI2;have K4: ∀w',Below W2.heap.size W2 w'->w'.cell? ⟨L.bc,4,none⟩=some (.slice kr fs.length je):=λw' hb=>(eX (HI2.o.below hb).blk (j:=4) rfl).2;have K2: ∀w',Below W2.heap.size W2 w'->w'.cell? ⟨w.heap.size,2,none⟩=some (.string h.nm):=λw' hb=>(HY.o.next hb).2.2.2.2.2.1.2;have hd1:Below W2.heap.size W2 (W2.drewN 1):=below_drewN (au _ _) 1;have hfs:=Ti.o;clear hI2 hq;go_upto_region 39 with fail;refine eu agG rfl ?_;generalize W2.drewN 1=W5 at *;have hd2:Below W2.heap.size W2 (W5.alloc (.cells #[.string h.nm] 9)):=hd1.trans ((ak _ _).mono hd1.size);obtain⟨i0,hi0,hz0,hz1,hz2⟩:=RQ;obtain⟨gg,cap,w4,hrun,tL,qx,vM,D7⟩:=run_append_lies (P:=Tryz.prog) (W5.alloc (.cells #[.string h.nm] 9)) 27 27 L.B1 9 i0 _ 1 16 Tryz.underlying27 hi0 hz0 hz1 hz2 rfl agH (.slice kr fs.length je) fs.length (jY fs) (HI2.o.below hd2).rs ⟨W5.heap.size,0,none⟩ 1 1 [.string h.nm] rfl (World.news_of_block (cs:= #[.string h.nm]) (heap_alloc_new W5 _)) agp agH aeS agH (HI2.o.below hd2).sz _ rfl;have ZE:=ah hrun;have HAD:=ah (HI2.o.bt6 yx.o hd2 tL qx vM);have dR:aj (w4.heap[L.bc]? =some (.cells (wkV p aK aM aH aG i (.slice cO A.length bR) (.slice kr fs.length je) (.slice jK gs.length jd)) 100 (0,0))):=ah ((qx.block _ (Array.getElem?_eq_some_iff.1 (HI2.o.below hd2).blk).1 (λe'=>HI2.o.MN (u:= .slice kr fs.length je) agJ e'.symm)).trans (HI2.o.below hd2).blk);have k4:w4.cell? ⟨L.bc,4,none⟩=some (.slice kr fs.length je):=(eX dR.o (j:=4) rfl).2;have f4:w4.frozen? ⟨L.bc,4,none⟩=false:=bK dR.o;clear hrun tL qx vM D7 hi0 hz0 hz1 hz2 dR;refine dD 0 12 [7,8,11] [[],[],[1],[1,2],[1,2,3],[],[5],[5,6],[1,2,3,4,5,6,7],[0,1,2,3,4,5,6,7,8],[0,1,2,3,4,5,6,7,8,9],[0,1,2,3,4,5,6,7,8,9,10]] [[none,none,some false],[none,some false,some false],[none,some false,some false],[none,some false,some false],[none,some false,some false],[some false,some false,some false],[some false,some false,some false],[some false,some false,some false],[some true,some false,some false],[some true,some true,some false],[some true,some true,some false],[some true,some true,some false]] (C3 W5 (W5.alloc (.cells #[.string h.nm] 9)) w4 (w4.setCell ⟨L.bc,4,none⟩ (.slice (some ⟨gg,0,none⟩) (fs.length+1) cap))) (λ_ _=>True) [196,197,198,199,200,201,202,203,204,205,206] rfl rfl ahS agG agG agG agG agG ahS (λ_=>trivial) ahS rfl ?_;simp only[jH,nY]
 iterate 4
  apply bZ.step
  case bL=>intro c A w' hok hC hO hD;have e0:=hO 0 ahS;simp[Act.eval]at e0;simp[Act.eval]at hD;simp[go_sem,gd,Oper.wp,hD,e0];exact AaF
  try simp only[dY]
 apply bZ.step
 case bL=>intro c A w' hok hC hO hD;simp[Act.eval]at hD;simp[go_sem,gd,Oper.wp,hD,K4,C3.low hd1 hd2 hok hC];exact AaF
 apply bZ.step
 case bL=>intro c A w' hok hC hO hD;have e3:=hO 3 ahS;simp[Act.eval]at e3;simp[Act.eval]at hD;simp[go_sem,gd,Oper.wp,hD,e3];exact AaF
 apply bZ.step
 case bL=>intro c A w' hok hC hO hD;simp[Act.eval]at hD;simp[go_sem,gd,Oper.wp,hD,K2,C3.low hd1 hd2 hok hC];exact AaF
 try simp only[dY]
 apply bZ.step
 case bL=>intro c A' w' hok hC hO hD;obtain⟨rfl,rfl⟩:=C3.w1 hok hC;simp[Act.eval]at hD;simp[go_sem,gd,Oper.wp,hD];exact aV.mk trivial (C3.one ahS ahS ahS) (cB.mk _ _)
 apply bZ.step
 case bL=>intro c A' w' hok hC hO hD;obtain⟨rfl,rfl⟩:=C3.w2 hok hC;simp[Act.eval]at hD;simp only[gd,if_true];refine wp_append_run _ _ _ (.slice kr fs.length je) (.slice (some ⟨W5.heap.size,0,none⟩) 1 1) _ ahS afp afp ZE.o ?_;exact aV.mk trivial (C3.two ahS ahS ahS) (cB.mk _ _)
 try simp only[dY]
 iterate 2
  apply bZ.step
  case bL=>intro c A w' hok hC hO hD;simp[Act.eval]at hD;simp[go_sem,gd,Oper.wp,hD];exact AaF
  try simp only[dY]
 refine bZ.some (λ_ _=>True) (λ_ _ _ _ _=>trivial) ?_ ?_
 ·intro c A' w' hok hC hO hD;obtain⟨rfl,rfl⟩:=C3.w3 hok hC;simp[Act.eval]at hD;simp[go_sem,gd,Oper.wp,hD,k4,f4];exact aV.DY (v:=undef) trivial (C3.three ahS ahS ahS) trivial
 try simp only[dY]
 refine bZ.done ?_;intro wy XL;simp only[List.drop_zero];intro v0 h0 v1 h1 v2 h2 v3 h3 v4 h4 v5 h5 v6 h6 v7 h7 v8 h8 v9 h9 v10 h10 v11 h11;clear h0 h1 h2 h3 h4 h5 h6 h7 h8 h9 h10 h11;refine eO.nil ?_;refine fU rfl ?_;have QK:wy=w4.setCell _ _:=XL;rw[<- QK]at HAD;clear XL QK k4 f4 K4 K2 hd1 hd2;go_simp;go_wp2_with fail;go_ret;exact⟨bV HR'.o.symm,(Kw.of_below HY.o.1).trans (mJ.refl _ _) HAD.o.2.1,_,_,_,_,(mJ.refl _ _).trans HAD.o.2.2 HY.o.1.size,HAD.o.1,λ_=>⟨rfl,rfl⟩⟩
theorem az8 (L:tF) (p:Pr) (w:World) (aK aM:Option Addr) (aH aG:Nat) (i:Int) (A:List Fr) (fs gs:List ByteArray) (v vs ve:Value) (hI:kE w L p aK aM aH aG i A fs gs v vs ve) (h:dF) (b e:aZ) (s:Sl) (hin:uJ w L.B0 h b e s) (hi:bY i) (hA:A.length<=maxLen) (hfs:fs.length<=1000000000000) (hgs:gs.length<=1000000000000) (hop:h.op=14):
 Calls Tryz.prog 49 #[.pointer (some ⟨L.bc,0,none⟩),iE h b e s] w (CJ w L p aK aM aH aG i A fs gs v vs ve fs (gs++[h.nm]) (kF (if(kF (gN (conv (mean p i h.nm)) 6 6) (nest (eZ (dA A) 7 7 ⟨#[]⟩||eZ (dA A) 3 3 ⟨#[]⟩))==0)&&nN gs h.nm.toList then 8 else kF (gN (conv (mean p i h.nm)) 6 6) (nest (eZ (dA A) 7 7 ⟨#[]⟩||eZ (dA A) 3 3 ⟨#[]⟩))) (lU p i h.dP h.xn h.dO h.bJ))):=by
 obtain⟨cO,bR,rfl,hat⟩:=hI.form;obtain⟨kr,je,rfl,Yb⟩:=hI.Vq;obtain⟨jK,jd,rfl,Ya⟩:=hI.Vp;have hp:=hI.dat.use hI.b0;have hh:=hI.holds;have har:(dA A).len<=maxLen:=agF
 have PD:=ah hin;replace hin:=hin.use hI.b0;have HI:=ah hI;have mg:=ah Yb;have jP:=ah Ya;generalize hres:(kF (if(kF (gN (conv (mean p i h.nm)) 6 6) (nest (eZ (dA A) 7 7 ⟨#[]⟩||eZ (dA A) 3 3 ⟨#[]⟩))==0)&&nN gs h.nm.toList then 8 else kF (gN (conv (mean p i h.nm)) 6 6) (nest (eZ (dA A) 7 7 ⟨#[]⟩||eZ (dA A) 3 3 ⟨#[]⟩))) (lU p i h.dP h.xn h.dO h.bJ))=res;have HR:aj (res=(kF (if(kF (gN (conv (mean p i h.nm)) 6 6) (nest (eZ (dA A) 7 7 ⟨#[]⟩||eZ (dA A) 3 3 ⟨#[]⟩))==0)&&nN gs h.nm.toList then 8 else kF (gN (conv (mean p i h.nm)) 6 6) (nest (eZ (dA A) 7 7 ⟨#[]⟩||eZ (dA A) 3 3 ⟨#[]⟩))) (lU p i h.dP h.xn h.dO h.bJ))):=ah (by rw[<- hres]);have iO:=ah hop;have yx:=ah hin.1.2.2.1;have Ti:=ah hfs;have Tj:=ah hgs;clear hres hop hI Yb Ya hA hfs hgs;have HH:=ah (show Sit w w _ from⟨au _ _,hh⟩);have oU:=ah hin;have lq:=ah hat;have jZ:=ah har;have HP:=ah hp;unfold iE;clear hh hin hat har hp;go_enter Tryz.func49,Tryz.ntmps49;go_upto_region 1 with fail;generalize hW:World.alloc w _=W;generalize Value.agg #[_,_,_,_,_,_,_,_,_,_,_]=a0;have HX:aj (Sit w W (rM w.heap.size h b e s (IQ L.bc p aK aM aH aG i cO (dA A).len bR kr fs.length je jK gs.length jd))):=ah aaK;clear hW HH;have K0: ∀w',Below W.heap.size W w'->w'.cell? ⟨L.bc,0,none⟩=some (.slice aK p.ds.length aH):=λw' hb=>(HX.o.next hb).2.2.2.2.2.2.2.2.2.2.2.2.1.2;have K1: ∀w',Below W.heap.size W w'->w'.cell? ⟨L.bc,1,none⟩=some (.slice aM p.ts.length aG):=λw' hb=>(HX.o.next hb).2.2.2.2.2.2.2.2.2.2.2.2.2.1.2;have K2: ∀w',Below W.heap.size W w'->w'.cell? ⟨L.bc,2,none⟩=some (.int .i64 i):=λw' hb=>(HX.o.next hb).2.2.2.2.2.2.2.2.2.2.2.2.2.2.1.2;have HD1:Below W.heap.size W (W.drewN 1):=below_drewN (au _ _) 1;refine eu agG rfl ?_;generalize W.drewN 1=W1 at *;refine dD 0 11 [8,9] [[],[0],[0,1],[0,1,2],[],[4],[4,5],[4,5,6],[],[0,1,2,3,8],[0,1,2,3,4,5,6,7,8,9]] [[none,some false],[none,some false],[none,some false],[none,some false],[none,none],[none,none],[none,none],[none,none],[some false,some false],[some true,some false],[some true,some true]] (AC W1 (.cells #[.slice none 0 0,.slice none 0 0] 35) (.cells #[.slice aK p.ds.length aH,.slice aM p.ts.length aG] 35)) (λ_ _=>True) [15,16,17,18,19,20,21,22,5,6] rfl rfl ahS agG agG agG agG agG ahS (λ_=>trivial) ahS rfl ?_;simp only[jH,nY]
 iterate 8
  apply bZ.step
  case bL=>intro c A w' hok hC hO hD;have e0:=hO 0 ahS;simp[Act.eval]at e0;simp[Act.eval]at hD;simp[go_sem,gd,Oper.wp,hD,e0,K0,K1,AC.below HD1 hC,K2];exact aV.mk trivial (AC.skip ahS ahS hC) (cB.mk _ _)
  try simp only[dY]
 apply bZ.step
 case bL=>intro c A w' hok hC hO hD;obtain⟨x,y,rfl⟩:=hC.bits;obtain⟨rfl,rfl,-⟩:=hok;have hw:w'=W1:=hC;subst hw;simp[go_sem,gd,Oper.wp];exact aV.mk trivial (AC.lay ahS ahS) (cB.mk _ _)
 refine bZ.some (λ_ _=>True) (λ_ _ _ _ _=>trivial) ?_ ?_
 ·intro c A w' hok hC hO hD;obtain⟨x,y,rfl⟩:=hC.bits;obtain⟨rfl,rfl,-⟩:=hok;have hw:w'=W1.alloc _:=hC;subst hw;simp[Act.eval]at hD;simp[go_sem,gd,Oper.wp,hD];exact aV.DY (v:=undef) trivial (AC.fill ahS ahS) trivial
 try simp only[dY]
 apply bZ.step
 case bL=>intro c A w' hok hC hO hD;simp[Act.eval]at hD;simp[go_sem,gd,Oper.wp,hD];exact aV.mk trivial (AC.skip ahS ahS hC) (cB.mk _ _)
 try simp only[dY]
 refine bZ.done ?_;intro wz dL;simp only[List.drop_zero];intro v0 h0 v1 h1 v2 h2 v3 h3 v4 h4 v5 h5 v6 h6 v7 h7 v8 h8 v9 h9 v10 h10;have h8':v8=_:=h8;have QH:v10=_:=h10;subst h8' QH;clear h0 h1 h2 h3 h4 h5 h6 h7 h8 h9 h10;refine eO.nil ?_;refine fU rfl ?_;have Ii:wz=W1.alloc _:=dL;generalize hn1:W1.heap.size=n1 at *;have HY:=ah ((HX.o.next HD1).xV hn1 (.slice aK p.ds.length aH) (.slice aM p.ts.length aG) 35);rw[<- Ii]at HY;have HN1:aj (w.heap.size<=n1):=ah (by rw[<- hn1];exact(HX.o.next HD1).1.size);clear dL Ii HX K0 K1 K2 HD1 hn1;go_simp;obtain⟨-,⟨-,c0⟩,⟨-,c1⟩,⟨-,c2⟩,⟨-,c3⟩,⟨-,c4⟩,⟨-,c5⟩,⟨-,c6⟩,⟨-,c7⟩,⟨-,c8⟩,⟨-,c9⟩,⟨-,c10⟩,⟨-,c11⟩,⟨-,c12⟩,⟨-,c13⟩,⟨-,c14⟩,⟨-,c15⟩,⟨-,c16⟩,⟨-,c17⟩,⟨-,c18⟩,-⟩:=HY.o;go_wp2_with fail;refine(iT p _ aK aM aH aG i cO bR L.bc kr fs.length je jK gs.length jd (dA A) 7 7 ⟨#[]⟩ jZ.o (lq.o.same HY.o.1) (mW HY.o)).mono ?_;rintro e' W ⟨rfl,hb⟩;replace HY:=ah (HY.o.next hb);clear hb c0 c1 c2 c3 c4 c5 c6 c7 c8 c9 c10 c11 c12 c13 c14 c15 c16 c17 c18;obtain⟨-,⟨-,c0⟩,⟨-,c1⟩,⟨-,c2⟩,⟨-,c3⟩,⟨-,c4⟩,⟨-,c5⟩,⟨-,c6⟩,⟨-,c7⟩,⟨-,c8⟩,⟨-,c9⟩,⟨-,c10⟩,⟨-,c11⟩,⟨-,c12⟩,⟨-,c13⟩,⟨-,c14⟩,⟨-,c15⟩,⟨-,c16⟩,⟨-,c17⟩,⟨-,c18⟩,-⟩:=HY.o;go_wp2_with fail;refine(iT p _ aK aM aH aG i cO bR L.bc kr fs.length je jK gs.length jd (dA A) 8 8 ⟨#[]⟩ jZ.o (lq.o.same HY.o.1) (mW HY.o)).mono ?_;rintro e' W ⟨rfl,hb⟩;replace HY:=ah (HY.o.next hb);clear hb c0 c1 c2 c3 c4 c5 c6 c7 c8 c9 c10 c11 c12 c13 c14 c15 c16 c17 c18;obtain⟨-,⟨-,c0⟩,⟨-,c1⟩,⟨-,c2⟩,⟨-,c3⟩,⟨-,c4⟩,⟨-,c5⟩,⟨-,c6⟩,⟨-,c7⟩,⟨-,c8⟩,⟨-,c9⟩,⟨-,c10⟩,⟨-,c11⟩,⟨-,c12⟩,⟨-,c13⟩,⟨-,c14⟩,⟨-,c15⟩,⟨-,c16⟩,⟨-,c17⟩,⟨-,c18⟩,-⟩:=HY.o;go_wp2_with fail;refine(iT p _ aK aM aH aG i cO bR L.bc kr fs.length je jK gs.length jd (dA A) 3 3 ⟨#[]⟩ jZ.o (lq.o.same HY.o.1) (mW HY.o)).mono ?_;rintro e' W ⟨rfl,hb⟩;replace HY:=ah (HY.o.next hb);clear hb c0 c1 c2 c3 c4 c5 c6 c7 c8 c9 c10 c11 c12 c13 c14 c15 c16 c17 c18;obtain⟨-,⟨-,c0⟩,⟨-,c1⟩,⟨-,c2⟩,⟨-,c3⟩,⟨-,c4⟩,⟨-,c5⟩,⟨-,c6⟩,⟨-,c7⟩,⟨-,c8⟩,⟨-,c9⟩,⟨-,c10⟩,⟨-,c11⟩,⟨-,c12⟩,⟨-,c13⟩,⟨-,c14⟩,⟨-,c15⟩,⟨-,c16⟩,⟨-,c17⟩,⟨-,c18⟩,-⟩:=HY.o;generalize htx:eZ (dA A) 7 7 ⟨#[]⟩=tx at *;generalize hat':eZ (dA A) 8 8 ⟨#[]⟩=O5 at *;generalize hlo:eZ (dA A) 3 3 ⟨#[]⟩=lop at *;clear htx hat' hlo;have hop:=iO.o;obtain⟨g1,g2,g3,g4,g5,g6,g7,g8,g9,g10,g11,g12,g13,g14,g15⟩:=ag2 hop;clear hop;go_upto_region 44 with fail;go_cut [14] (λs' W3=>s'= .int .i64 (kF (gN (conv (mean p i h.nm)) 6 6) (nest (tx||lop)))∧Sit w W3 ((n1,0,.slice aK p.ds.length aH)::(n1,1,.slice aM p.ts.length aG)::rM w.heap.size h b e s (IQ L.bc p aK aM aH aG i cO (dA A).len bR kr fs.length je jK gs.length jd)))
 case first=>
  as_aux_lemma=>
   cases tx
   ·cases lop
    ·exact Aao
    ·exact Aao
   ·exact Aao
 obtain⟨rfl,hsit⟩:=hcut;replace HY:=ah hsit;clear hsit c0 c1 c2 c3 c4 c5 c6 c7 c8 c9 c10 c11 c12 c13 c14 c15 c16 c17 c18;obtain⟨W,rfl⟩: ∃W:World,W=wc:=⟨_,rfl⟩;generalize kF (gN (conv (mean p i h.nm)) 6 6) (nest (tx||lop))=e1 at *;obtain⟨-,⟨-,c0⟩,⟨-,c1⟩,⟨-,c2⟩,⟨-,c3⟩,⟨-,c4⟩,⟨-,c5⟩,⟨-,c6⟩,⟨-,c7⟩,⟨-,c8⟩,⟨-,c9⟩,⟨-,c10⟩,⟨-,c11⟩,⟨-,c12⟩,⟨-,c13⟩,⟨-,c14⟩,⟨-,c15⟩,⟨-,c16⟩,⟨-,c17⟩,⟨-,c18⟩,-⟩:=HY.o;have La:=ah (Hq gs h.nm);go_upto_region 45 with fail;go_cut [253] (λs' W3=>s'= .bool ((e1==0)&&nN gs h.nm.toList)∧Sit w W3 ((n1,0,.slice aK p.ds.length aH)::(n1,1,.slice aM p.ts.length aG)::rM w.heap.size h b e s (IQ L.bc p aK aM aH aG i cO (dA A).len bR kr fs.length je jK gs.length jd)))
 case first=>
  as_aux_lemma=>
   obtain⟨T,F,Ah,hst,hF,hnext⟩:=calm W;have HF:=ah hF;have dh:=ah hnext;clear hnext hF;have d0:=λx=>(HY.o.next (HF.o x)).2.1.2;have d1:=λx=>(HY.o.next (HF.o x)).2.2.1.2;have d2:=λx=>(HY.o.next (HF.o x)).2.2.2.1.2;have d3:=λx=>(HY.o.next (HF.o x)).2.2.2.2.1.2;have d4:=λx=>(HY.o.next (HF.o x)).2.2.2.2.2.1.2;have d5:=λx=>(HY.o.next (HF.o x)).2.2.2.2.2.2.1.2;have d6:=λx=>(HY.o.next (HF.o x)).2.2.2.2.2.2.2.1.2;have d7:=λx=>(HY.o.next (HF.o x)).2.2.2.2.2.2.2.2.1.2;have d8:=λx=>(HY.o.next (HF.o x)).2.2.2.2.2.2.2.2.2.1.2;have d9:=λx=>(HY.o.next (HF.o x)).2.2.2.2.2.2.2.2.2.2.1.2;have sN:=λx=>(HY.o.next (HF.o x)).2.2.2.2.2.2.2.2.2.2.2.1.2;have vF:=λx=>(HY.o.next (HF.o x)).2.2.2.2.2.2.2.2.2.2.2.2.1.2;have Bz:=λx=>(HY.o.next (HF.o x)).2.2.2.2.2.2.2.2.2.2.2.2.2.1.2;have DF:=λx=>(HY.o.next (HF.o x)).2.2.2.2.2.2.2.2.2.2.2.2.2.2.1.2;have xE:=λx=>(HY.o.next (HF.o x)).2.2.2.2.2.2.2.2.2.2.2.2.2.2.2.1.2;have DI:=λx=>(HY.o.next (HF.o x)).2.2.2.2.2.2.2.2.2.2.2.2.2.2.2.2.1.2;have BA:=λx=>(HY.o.next (HF.o x)).2.2.2.2.2.2.2.2.2.2.2.2.2.2.2.2.2.1.2;have DJ:=λx=>(HY.o.next (HF.o x)).2.2.2.2.2.2.2.2.2.2.2.2.2.2.2.2.2.2.1.2;have BD:=λx=>(HY.o.next (HF.o x)).2.2.2.2.2.2.2.2.2.2.2.2.2.2.2.2.2.2.2.1.2;clear c0 c1 c2 c3 c4 c5 c6 c7 c8 c9 c10 c11 c12 c13 c14 c15 c16 c17 c18;cases he1:(e1==0)
   ·clear La;refine iI F agG agG hst ?_
    repeat (any_goals (first|go_big_quiet_step ((fail))|(refine wpQuiet_step (λK hK=> ?_);go_simp;first|(refine hK _ ?_;clear hK K)|(split <;> first|(refine hK _ ?_;clear hK K)|(apply Exists.intro;refine⟨λ_=> ?_,hK _ ?_⟩;((fail));clear hK K)))))
    all_goals (refine wpQuiet_nil ?_;rintro _ ⟨x,rfl⟩)
    replace HY:=ah (HY.o.next (HF.o x));clear d0 d1 d2 d3 d4 d5 d6 d7 d8 d9 sN vF Bz DF xE DI BA DJ BD HF dh hst;generalize F x=W2 at *;go_wp2_with fail;go_meet;exact⟨by first|(rw[he1];rfl)|simp[he1],HY.o⟩
   ·obtain rfl:e1=0:=(by simpa using he1);rcases La.o with⟨Il,vN⟩|⟨jj,Il,vN⟩
    ·have Gt:=ah Il;have WR:=ah vN;exact Aaf
    ·have Gt:=ah Il;have WR:=ah vN;have hj0:(0:Int)<=(jj:Int):=agH;exact Aaf
 obtain⟨rfl,hsit⟩:=hcut;replace HY:=ah hsit;clear hsit c0 c1 c2 c3 c4 c5 c6 c7 c8 c9 c10 c11 c12 c13 c14 c15 c16 c17 c18 La;obtain⟨W2,rfl⟩: ∃W:World,W=wc:=⟨_,rfl⟩;generalize ((e1==0)&&nN gs h.nm.toList)=tb at *
 go_upto_if 253 with fail
 go_cut [14] (λs' W3=>s'= .int .i64 (if tb then 8 else e1)∧W2=W3)
 case first=>
  cases tb
  all_goals go_wp2_with fail
  all_goals go_meet
  all_goals exact⟨rfl,rfl⟩
 obtain⟨rfl,rfl⟩:=hcut;generalize (if tb=true then 8 else e1)=e2 at *;have hI2:=HI.o.below HY.o.1;have HI2:=ah hI2;have K4: ∀w',Below W2.heap.size W2 w'->w'.cell? ⟨L.bc,5,none⟩=some (.slice jK gs.length jd):=λw' hb=>(eX (HI2.o.below hb).blk (j:=5) rfl).2;have K2: ∀w',Below W2.heap.size W2 w'->w'.cell? ⟨w.heap.size,2,none⟩=some (.string h.nm):=λw' hb=>(HY.o.next hb).2.2.2.2.2.1.2;have hd1:Below W2.heap.size W2 (W2.drewN 1):=below_drewN (au _ _) 1;have hgs:=Tj.o;clear hI2;go_upto_region 47 with fail;refine eu agG rfl ?_;generalize W2.drewN 1=W5 at *;have hd2:Below W2.heap.size W2 (W5.alloc (.cells #[.string h.nm] 9)):=hd1.trans ((ak _ _).mono hd1.size);obtain⟨i0,hi0,hz0,hz1,hz2⟩:=RQ;obtain⟨gg,cap,w4,hrun,tL,qx,vM,D7⟩:=run_append_lies (P:=Tryz.prog) (W5.alloc (.cells #[.string h.nm] 9)) 27 27 L.B1 9 i0 _ 1 16 Tryz.underlying27 hi0 hz0 hz1 hz2 rfl agH (.slice jK gs.length jd) gs.length (jY gs) (HI2.o.below hd2).re ⟨W5.heap.size,0,none⟩ 1 1 [.string h.nm] rfl (World.news_of_block (cs:= #[.string h.nm]) (heap_alloc_new W5 _)) agp agH aeS agH (HI2.o.below hd2).sz _ rfl;have ZE:=ah hrun;have HAD:=ah (HI2.o.bt4 yx.o hd2 tL qx vM);have dR:aj (w4.heap[L.bc]? =some (.cells (wkV p aK aM aH aG i (.slice cO A.length bR) (.slice kr fs.length je) (.slice jK gs.length jd)) 100 (0,0))):=ah ((qx.block _ (Array.getElem?_eq_some_iff.1 (HI2.o.below hd2).blk).1 (λe'=>HI2.o.MN (u:= .slice jK gs.length jd) agJ e'.symm)).trans (HI2.o.below hd2).blk);have k4:w4.cell? ⟨L.bc,5,none⟩=some (.slice jK gs.length jd):=(eX dR.o (j:=5) rfl).2;have f4:w4.frozen? ⟨L.bc,5,none⟩=false:=bK dR.o;clear hrun tL qx vM D7 hi0 hz0 hz1 hz2 dR;refine dD 0 12 [7,8,11] [[],[],[1],[1,2],[1,2,3],[],[5],[5,6],[1,2,3,4,5,6,7],[0,1,2,3,4,5,6,7,8],[0,1,2,3,4,5,6,7,8,9],[0,1,2,3,4,5,6,7,8,9,10]] [[none,none,some false],[none,some false,some false],[none,some false,some false],[none,some false,some false],[none,some false,some false],[some false,some false,some false],[some false,some false,some false],[some false,some false,some false],[some true,some false,some false],[some true,some true,some false],[some true,some true,some false],[some true,some true,some false]] (C3 W5 (W5.alloc (.cells #[.string h.nm] 9)) w4 (w4.setCell ⟨L.bc,5,none⟩ (.slice (some ⟨gg,0,none⟩) (gs.length+1) cap))) (λ_ _=>True) [254,255,256,257,258,259,260,261,262,263,264] rfl rfl ahS agG agG agG agG agG ahS (λ_=>trivial) ahS rfl ?_;simp only[jH,nY]
 iterate 4
  apply bZ.step
  case bL=>intro c A w' hok hC hO hD;have e0:=hO 0 ahS;simp[Act.eval]at e0;simp[Act.eval]at hD;simp[go_sem,gd,Oper.wp,hD,e0];exact AaF
  try simp only[dY]
 apply bZ.step
 case bL=>intro c A w' hok hC hO hD;simp[Act.eval]at hD;simp[go_sem,gd,Oper.wp,hD,K4,C3.low hd1 hd2 hok hC];exact AaF
 apply bZ.step
 case bL=>intro c A w' hok hC hO hD;have e3:=hO 3 ahS;simp[Act.eval]at e3;simp[Act.eval]at hD;simp[go_sem,gd,Oper.wp,hD,e3];exact AaF
 apply bZ.step
 case bL=>intro c A w' hok hC hO hD;simp[Act.eval]at hD;simp[go_sem,gd,Oper.wp,hD,K2,C3.low hd1 hd2 hok hC];exact AaF
 try simp only[dY]
 apply bZ.step
 case bL=>intro c A' w' hok hC hO hD;obtain⟨rfl,rfl⟩:=C3.w1 hok hC;simp[Act.eval]at hD;simp[go_sem,gd,Oper.wp,hD];exact aV.mk trivial (C3.one ahS ahS ahS) (cB.mk _ _)
 apply bZ.step
 case bL=>intro c A' w' hok hC hO hD;obtain⟨rfl,rfl⟩:=C3.w2 hok hC;simp[Act.eval]at hD;simp only[gd,if_true];refine wp_append_run _ _ _ (.slice jK gs.length jd) (.slice (some ⟨W5.heap.size,0,none⟩) 1 1) _ ahS afp afp ZE.o ?_;exact aV.mk trivial (C3.two ahS ahS ahS) (cB.mk _ _)
 try simp only[dY]
 iterate 2
  apply bZ.step
  case bL=>intro c A w' hok hC hO hD;simp[Act.eval]at hD;simp[go_sem,gd,Oper.wp,hD];exact AaF
  try simp only[dY]
 refine bZ.some (λ_ _=>True) (λ_ _ _ _ _=>trivial) ?_ ?_
 ·intro c A' w' hok hC hO hD;obtain⟨rfl,rfl⟩:=C3.w3 hok hC;simp[Act.eval]at hD;simp[go_sem,gd,Oper.wp,hD,k4,f4];exact aV.DY (v:=undef) trivial (C3.three ahS ahS ahS) trivial
 try simp only[dY]
 refine bZ.done ?_;intro wy XL;simp only[List.drop_zero];intro v0 h0 v1 h1 v2 h2 v3 h3 v4 h4 v5 h5 v6 h6 v7 h7 v8 h8 v9 h9 v10 h10 v11 h11;clear h0 h1 h2 h3 h4 h5 h6 h7 h8 h9 h10 h11;refine eO.nil ?_;refine fU rfl ?_;have QK:wy=w4.setCell _ _:=XL;rw[<- QK]at HAD;clear XL QK k4 f4 K4 K2 hd1 hd2;go_simp;have PE:aj (∀k,k<W2.heap.size->w.heap.size<=k->wy.heap[k]? =W2.heap[k]?):=ah (λk hk hw=>HAD.o.2.1.far hk (aJ HI.o.sz hw) (λe=>by have:=(HI.o.own k e).2;omega));have hY:=HY.o;have z0:wy.cell? ⟨n1,0,none⟩=some (.slice aK p.ds.length aH):=(World.cell?_of_block (a:=⟨n1,0,none⟩) (PE.o n1 hY.2.1.1 HN1.o)).trans hY.2.1.2;have z1:wy.cell? ⟨n1,1,none⟩=some (.slice aM p.ts.length aG):=(World.cell?_of_block (a:=⟨n1,1,none⟩) (PE.o n1 hY.2.1.1 HN1.o)).trans hY.2.2.1.2;have hn0:w.heap.size<W2.heap.size:=hY.2.2.2.1.1;have z5:wy.cell? ⟨w.heap.size,5,none⟩=some (.int .i64 h.dP):=(World.cell?_of_block (a:=⟨w.heap.size,5,none⟩) (PE.o _ hn0 (aB _))).trans hY.2.2.2.2.2.2.2.2.1.2;have z6:wy.cell? ⟨w.heap.size,6,none⟩=some (.int .i64 h.xn):=(World.cell?_of_block (a:=⟨w.heap.size,6,none⟩) (PE.o _ hn0 (aB _))).trans hY.2.2.2.2.2.2.2.2.2.1.2;have z7:wy.cell? ⟨w.heap.size,7,none⟩=some (.string h.dO):=(World.cell?_of_block (a:=⟨w.heap.size,7,none⟩) (PE.o _ hn0 (aB _))).trans hY.2.2.2.2.2.2.2.2.2.2.1.2;have z8:wy.cell? ⟨w.heap.size,8,none⟩=some (.slice s.fT h.bJ.len s.eB):=(World.cell?_of_block (a:=⟨w.heap.size,8,none⟩) (PE.o _ hn0 (aB _))).trans hY.2.2.2.2.2.2.2.2.2.2.2.1.2;have WG:aj (h.bJ.At wy L.B0 s.fT 0):=ah (PD.o.2.2.1.below ((HY.o.1.mono HI.o.b0).trans (HAD.o.2.1.below HI2.o.b0 (λk e=>(HI2.o.own k e).1))));clear hY hn0 PE;go_wp2_with fail;refine(jE p i h.dP h.xn h.dO h.bJ _ aK aM s.fT aH aG s.eB hi (HAD.o.1.dat.use HAD.o.1.b0) oU.o.1.2.2.2.2.2.1 (WG.o.mono HAD.o.1.b0)).mono ?_;rintro e' W6 ⟨rfl,hb6⟩;have dw:=ah hb6;clear hb6 z0 z1 z5 z6 z7 z8;go_wp2_with fail;refine(jJ _ _ _).mono ?_;rintro e' W' ⟨rfl,rfl⟩;go_wp2_with fail;go_ret;exact⟨bV HR.o.symm,((Kw.of_below HY.o.1).trans (mJ.refl _ _) HAD.o.2.1).trans ((mJ.refl _ _).trans HAD.o.2.2 HY.o.1.size) (Kw.of_below dw.o),_,_,_,_,(mJ.refl _ _).trans HAD.o.2.2 HY.o.1.size,HAD.o.1.below dw.o,λ_=>⟨rfl,rfl⟩⟩
end Go.Proofs.YtdoplekppjkkpaaGreatDoor
