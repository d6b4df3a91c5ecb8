/- Contracts of the reference's or, nesting, and of its walk's inside. And what hangs on it. -/
import Derived.Test.YtldapdcphphodaaGreatDoorGR1
set_option linter.unusedSimpArgs false
set_option linter.unusedVariables false
set_option maxHeartbeats 40000000
set_option maxRecDepth 1000000
namespace Go.Proofs.YtldapdcphphodaaGreatDoor
open Go.RowKit
namespace Md
def kC (a b:Int):Int:=if a != 0 then a else b
def eY:aY->Int->Int->ByteArray->Bool
 | .nil,_,_,_=>false
 | .cons h _ _ r,a,b,nm=>((h.op==a||h.op==b)&&(nm.toList.isEmpty||h.nm.toList==nm.toList))||eY r a b nm
end Md
open Md
def I6 (bc:Nat) (p:Pr) (aK aM:Option Addr) (aG aD:Nat) (i:Int) (dx:Option Addr) (wP bV:Nat) (ko:Option Addr) (pK iD:Nat) (gU:Option Addr) (pJ iC:Nat):List (Nat×Nat×Value):=
 [(bc,0,.slice aK p.ds.length aG),(bc,1,.slice aM p.ts.length aD),(bc,2,.int .i64 i),(bc,3,.slice dx wP bV),(bc,4,.slice ko pK iD),(bc,5,.slice gU pJ iC)]
theorem iw (b:Bool) (w:World):
 Calls Tryz.prog 105 #[.bool b] w λe w'=>e= .returned (.int .i64 (nest b))∧w=w':=by
 cases b
 all_goals go_enter Tryz.func105,Tryz.ntmps105;go_wp2;go_ret;exact⟨rfl,rfl⟩
theorem jw (a b:Int) (w:World):
 Calls Tryz.prog 102 #[.int .i64 a,.int .i64 b] w λe w'=>e= .returned (.int .i64 (kC a b))∧w=w':=by
 generalize hres:kC a b=res;have HR:=ah hres;clear hres;cases ha:(a != 0)
 all_goals go_enter Tryz.func102,Tryz.ntmps102;go_wp2;go_ret;exact⟨bW (by rw[<- HR.o];unfold kC;rw[ha];rfl),rfl⟩
section
variable (p:Pr) (w:World) (aK aM:Option Addr) (aG aD:Nat) (i:Int) (dx:Option Addr) (bV bc:Nat) (ko:Option Addr) (pK iD:Nat) (gU:Option Addr) (pJ iC:Nat)
theorem iq (ar:aY) (a b':Int) (nm:ByteArray) (har:ar.len<=maxLen) (hat:ar.At w w.heap.size dx 0) (hh:Holds w (I6 bc p aK aM aG aD i dx ar.len bV ko pK iD gU pJ iC)):
 Calls Tryz.prog 101 #[.pointer (some ⟨bc,0,none⟩),.int .i64 a,.int .i64 b',.string nm] w λe w'=>e= .returned (.bool (eY ar a b' nm))∧Below w.heap.size w w':=by
 have HH:=ah (show Sit w w _ from⟨ak _ _,hh⟩);have HAT:=ah hat;generalize hres:eY ar a b' nm=res;have HR:=ah hres;unfold maxLen at har;clear hh hat hres;go_enter Tryz.func101,Tryz.ntmps101;go_wp2_with fail;go_loopg [9,10] ar.len (λg s _ wr=> ∃(k:Nat) (R:aY),g=R.len∧s= .int .i64 k∧k+R.len=ar.len∧res=eY R a b' nm∧R.At wr wr.heap.size dx k∧Sit w wr (I6 bc p aK aM aG aD i dx ar.len bV ko pK iD gU pJ iC))
 case atStart=>exact⟨0,ar,rfl,rfl,ahg,HR.o.symm,HAT.o,HH.o⟩
 case round=>
  obtain⟨k,R,rfl,rfl,hlen,heq,hrow,hB⟩:=hrel;have HE:=ah heq;have HB:=ah hB;clear heq hB HH;obtain⟨-,⟨-,c0⟩,⟨-,c1⟩,⟨-,c2⟩,⟨-,c3⟩,⟨-,c4⟩,⟨-,c5⟩,-⟩:=HB.o;cases R with
  |nil=>
   obtain rfl:k=ar.len:=afs
   go_wp2_with fail;go_ret;exact⟨bZ HE.o.symm,HB.o.1⟩
  |cons h b e R=>
   obtain⟨bl,off,s,rfl,hbl,hin,x0,x1,x2,x3,x4,x5,x6,x7,x8,x9,x10,hrest⟩:=aY.At.head hrow;have hkl:k<ar.len:=acO
   clear hrow hin;go_upto_region 5 with fail;obtain⟨nb,hnb⟩: ∃n,wr.heap.size=n:=⟨_,rfl⟩;generalize hW2:World.alloc wr _=W2;have HY:aj (Sit wr W2 (qY nb h b e s [])):=ah aay;have HB2:=ah (HB.o.next HY.o.1);have kr:=ah (hrest.same HY.o.1);rw[hnb];clear hW2 hnb x0 x1 x2 x3 x4 x5 x6 x7 x8 x9 x10 hrest c0 c1 c2 c3 c4 c5;obtain⟨-,⟨-,c0⟩,⟨-,c1⟩,⟨-,c2⟩,⟨-,c3⟩,⟨-,c4⟩,⟨-,c5⟩,⟨-,c6⟩,⟨-,c7⟩,⟨-,c8⟩,⟨-,c9⟩,⟨-,c10⟩,-⟩:=HY.o;clear c1 c3 c4 c5 c6 c7 c8 c9 c10;go_cut [46] (λs' W3=>W2=W3∧s'= .bool ((h.op==a||h.op==b')&&(nm.toList.isEmpty||h.nm.toList==nm.toList)))
   case first=>
    as_aux_lemma=>
     cases ha:(h.op==a)
     all_goals cases hb:(h.op==b')
     all_goals cases hn:nm.toList.isEmpty
     all_goals cases hm:(h.nm.toList==nm.toList)
     all_goals go_wp2_with fail
     all_goals go_meet
     all_goals exact⟨rfl,by first|rfl|(rw[ha,hb,hn,hm];rfl)|(simp[ha,hb,hn,hm])⟩
   obtain⟨rfl,rfl⟩:=hcut;have HE2:aj (res=(((h.op==a||h.op==b')&&(nm.toList.isEmpty||h.nm.toList==nm.toList))||eY R a b' nm)):=ah (HE.o.trans (by rw[eY]));generalize ((h.op==a||h.op==b')&&(nm.toList.isEmpty||h.nm.toList==nm.toList))=t at *;cases t
   ·go_wp2_with fail;go_roundg R.len
    case measure=>simp[aY.len]
    case rel=>exact⟨k+1,R,rfl,ahi,acO,HE2.o,kr.o,HB2.o⟩
   ·go_wp2_with fail;go_ret;exact⟨bZ HE2.o.symm,HB2.o.1⟩
end
def AC (W1:World) (z v:Obj):List Bool->World->Prop
 | [false,false],w'=>w'=W1
 | [true,false],w'=>w'=W1.alloc z
 | [true,true],w'=>w'=W1.alloc v
 |_,_=>False
theorem AC.bits {W1:World} {z v:Obj} : ∀ {c:List Bool} {w':World},AC W1 z v c w'->∃x y,c=[x,y]
 | [x,y],_,_=>⟨x,y,rfl⟩
 | [],_,h=>h.elim
 | [true],_,h=>h.elim
 | [false],_,h=>h.elim
 |_::_::_::_,_,h=>by simp[AC]at h
theorem AC.skip {W1:World} {z v:Obj} {a1 a2 i:Nat} {c:List Bool} {w':World} (h1:(a1==i)=false) (h2:(a2==i)=false) (h:AC W1 z v c w'):AC W1 z v (iE [a1,a2] c i) w':=by
 obtain⟨x,y,rfl⟩:=h.bits;simpa[iE,h1,h2]using h
theorem AC.lay {W1:World} {z v:Obj} {a1 a2 i:Nat} (h1:(a1==i)=true) (h2:(a2==i)=false):AC W1 z v (iE [a1,a2] [false,false] i) (W1.alloc z):=by
 simp only[iE,h1,h2,Bool.or_false,Bool.or_true];rfl
theorem AC.fill {W1:World} {z v:Obj} {a1 a2 i:Nat} (h1:(a1==i)=false) (h2:(a2==i)=true):AC W1 z v (iE [a1,a2] [true,false] i) (W1.alloc v):=by
 simp only[iE,h1,h2,Bool.or_false,Bool.or_true];rfl
theorem AC.below {W W1:World} {z v:Obj} {c:List Bool} {w':World} (hb:Below W.heap.size W W1) (h:AC W1 z v c w'):Below W.heap.size W w':=by
 obtain⟨x,y,rfl⟩:=h.bits;cases x <;> cases y
 ·have h:w'=W1:=h;rw[h];exact hb
 ·exact h.elim
 ·have h:w'=W1.alloc z:=h;rw[h];exact hb.trans ((aA _ _).mono hb.size)
 ·have h:w'=W1.alloc v:=h;rw[h];exact hb.trans ((aA _ _).mono hb.size)
namespace Md
theorem Xe:(⟨#[]⟩:ByteArray).toList=[]:=by simp[Lib.toList_data]
theorem oF (k:Int): ∀ar:aY,eY ar k k ⟨#[]⟩=fG ar [k]
 | .nil=>rfl
 | .cons h b e r=>by simp[eY,fG,oF k r,Xe]
theorem JL (k:Int) (nm:ByteArray) (hn:nm.toList.isEmpty=false): ∀ar:aY,eY ar k k nm=qR ar nm [k]
 | .nil=>rfl
 | .cons h b e r=>by simp[eY,qR,JL k nm hn r,hn]
theorem JM (a b:Int) (nm:ByteArray) (hn:nm.toList.isEmpty=false): ∀ar:aY,eY ar a b nm=qR ar nm [a,b]
 | .nil=>rfl
 | .cons h _ _ r=>by simp only[eY,qR,JM a b nm hn r,hn,List.any_cons,List.any_nil,Bool.or_false,Bool.false_or];cases h.op==a <;> cases h.op==b <;> cases h.nm.toList==nm.toList <;> rfl
theorem ET (a b:Int): ∀ar:aY,fG ar [a,b]=(fG ar [a]||fG ar [b])
 | .nil=>rfl
 | .cons h _ _ r=>by simp only[fG,ET a b r,List.any_cons,List.any_nil,Bool.or_false];cases h.op==a <;> cases h.op==b <;> cases fG r [a] <;> cases fG r [b] <;> rfl
theorem Lm (a b c:Int): ∀ar:aY,fG ar [a,b,c]=((fG ar [a]||fG ar [b])||fG ar [c])
 | .nil=>rfl
 | .cons h _ _ r=>by simp only[fG,Lm a b c r,List.any_cons,List.any_nil,Bool.or_false];cases h.op==a <;> cases h.op==b <;> cases h.op==c <;> cases fG r [a] <;> cases fG r [b] <;> cases fG r [c] <;> rfl
theorem uJ (a b:Int):fQ [a,b]=kC a b:=by
 unfold fQ kC;cases ha:a != 0
 ·simp[fQ];intro h;exact h.symm
 ·simp
theorem Dr (a b c:Int):fQ [a,b,c]=kC a (kC b c):=by
 rw[<- uJ b c];rfl
theorem nL (p:Pr) (i:Int) (nm:ByteArray) (k a:Int) (hk:0<=k∧k<=9) (ha:conv k=a):dU (mean p i nm) [k]=gy (conv (mean p i nm)) a a:=by
 subst ha;exact(Rx _ k (Bd p i nm) hk).symm
theorem Ve (p:Pr) (i:Int) (nm:ByteArray):dU (mean p i nm) [1,2]=gy (conv (mean p i nm)) 8 1:=
 (Ry _ 1 2 (Bd p i nm) ahf ahf).symm
theorem KT {p:Pr} {i:Int} {nm:ByteArray} (h:gy (conv (mean p i nm)) 5 5=0): ∃(k:Nat) (d:De) (r:List De),k<p.ds.length∧fidx (λd:De=>d.nm.toList==nm.toList) p.ds 0=(k:Int)∧p.ds.drop k=d::r∧d∈p.ds∧d.kind=5∧pE p.ds nm=d.on:=by
 have h6:mean p i nm=6:=by rw[<- nL p i nm 6 5 ahf rfl]at h;exact sM h
 rcases pW (λd:De=>d.nm.toList==nm.toList) p.ds 0 with⟨-,hn,-⟩|⟨k,d,r,hk,hf,hd,hs,-⟩
 ·exfalso;unfold mean ql sO at h6;rw[hn]at h6;split at h6
  ·cases h6
  ·simp only[Option.map_none,Option.getD_none]at h6;split at h6 <;> cases h6
 ·have hdm:fZ d=6:=by
   unfold mean ql at h6;rw[hs]at h6;split at h6
   ·cases h6
   ·simpa using h6
  have h5:d.kind=5:=by unfold fZ at hdm;grind
  refine⟨k,d,r,hk,by simpa using hf,hd,List.mem_of_find?_eq_some hs,h5,?_⟩;unfold pE;have:p.ds.find? (λd=>d.kind==5&&d.nm.toList==nm.toList)=some d:=by
   clear hf hd hk h6 hdm h;revert hs
   induction p.ds with
   |nil=>intro hs;simp at hs
   |cons x r ih=>
    intro hs;rw[List.find?_cons]at hs⊢;cases hx:x.nm.toList==nm.toList
    ·rw[hx]at hs;simp only[Bool.and_false];exact ih hs
    ·rw[hx]at hs;injection hs with hs;subst hs;simp[h5]
  rw[this];rfl
end Md
theorem mG {p:Pr} {w W:World} {aK aM:Option Addr} {aG aD:Nat} {i:Int} {dx:Option Addr} {wP bV bc:Nat} {ko:Option Addr} {pK iD:Nat} {gU:Option Addr} {pJ iC n0 n1:Nat} {h:dM} {b e:aY} {s:Sl} {u v:Value}
 (hs:Sit w W ((n1,0,u)::(n1,1,v)::qY n0 h b e s (I6 bc p aK aM aG aD i dx wP bV ko pK iD gU pJ iC))):Holds W (I6 bc p aK aM aG aD i dx wP bV ko pK iD gU pJ iC):=hs.2.2.2.2.2.2.2.2.2.2.2.2.2.2
def wkV (p:Pr) (aK aM:Option Addr) (aG aD:Nat) (i:Int) (v vs ve:Value):Array Value:= #[.slice aK p.ds.length aG,.slice aM p.ts.length aD,.int .i64 i,v,vs,ve]
structure sI where
 B0:Nat
 B1:Nat
 bc:Nat
 c0:B0<=bc
 c1:bc<B1
def SQ (w:World) (B0:Nat) (p:Pr) (aK aM:Option Addr):Prop:=p.ds.length<=maxLen∧p.ts.length<=maxLen∧iT w B0 p.ds aK 0∧gY w B0 p.ts aM 0
theorem SQ.below {w w':World} {B0:Nat} {p:Pr} {aK aM:Option Addr} (h:SQ w B0 p aK aM) (hb:Below B0 w w'):SQ w' B0 p aK aM:=⟨h.1,h.2.1,h.2.2.1.below hb,h.2.2.2.below hb⟩
theorem SQ.use {w:World} {B0:Nat} {p:Pr} {aK aM:Option Addr} (h:SQ w B0 p aK aM) (hB:B0<=w.heap.size):p.At w aK aM:=⟨h.1,h.2.1,h.2.2.1.mono hB,h.2.2.2.mono hB⟩
def jX (l:List ByteArray):List Value:=l.map .string
def Own (V:List Value) (k:Nat):Prop:= ∃u∈V,u.ownBlock=some k
structure Kw (L:sI) (V:List Value) (w w':World):Prop where
 os:w'.os=w.os
 tape:w'.tape=w.tape
 output:w'.output=w.output
 size:w.heap.size<=w'.heap.size
 block: ∀k,k<w.heap.size->k≠L.bc-> ¬Own V k->w'.heap[k]? =w.heap[k]?
def lU (w:World) (V V':List Value):Prop:= ∀k,Own V' k->Own V k∨w.heap.size<=k
theorem Kw.refl (L:sI) (V:List Value) (w:World):Kw L V w w:=⟨rfl,rfl,rfl,aH _,λ_ _ _ _=>rfl⟩
theorem Kw.of_below {L:sI} {V:List Value} {w w':World} (h:Below w.heap.size w w'):Kw L V w w':=⟨h.os,h.tape,h.output,h.size,λk hk _ _=>h.block k hk⟩
theorem Kw.trans {L:sI} {V V1:List Value} {w w1 w2:World} (h:Kw L V w w1) (ho:lU w V V1) (k:Kw L V1 w1 w2):Kw L V w w2:=
 ⟨k.os.trans h.os,k.tape.trans h.tape,k.output.trans h.output,aR h.size k.size,λj hj hc hv=>(k.block j (aJ hj h.size) hc (λe=>by
   rcases ho j e with e|e
   ·exact hv e
   ·omega)).trans (h.block j hj hc hv)⟩
theorem Kw.below {L:sI} {V:List Value} {w w':World} (h:Kw L V w w') (hB:L.B0<=w.heap.size) (hv: ∀k,Own V k->L.B1<=k):Below L.B0 w w':=
 ⟨h.os,h.tape,h.output,h.size,λk hk=>h.block k ahe (by have:=L.c0;omega) (λe=>acM)⟩
theorem Kw.far {L:sI} {V:List Value} {w w':World} {k:Nat} (h:Kw L V w w') (hk:k<w.heap.size) (hB:L.B1<=k) (hv: ¬Own V k):w'.heap[k]? =w.heap[k]?:=
 h.block k hk agA hv
theorem lU.refl (w:World) (V:List Value):lU w V V:=λ_ h=> .inl h
theorem lU.trans {w w1:World} {V V1 V2:List Value} (h:lU w V V1) (k:lU w1 V1 V2) (hs:w.heap.size<=w1.heap.size):lU w V V2:=λj hj=>by
 rcases k j hj with e|e
 ·exact h j e
 ·exact .inr (aR hs e)
theorem lU.ne {w:World} {V V':List Value} {k:Nat} (h:lU w V V') (hk:k<w.heap.size) (hv: ¬Own V k): ¬Own V' k:=λe=>by
 rcases h k e with e|e
 ·exact hv e
 ·omega
theorem lG {w w':World} {base:Nat} {e:TypeId} {size n:Nat} {v:Value} {xs:List Value} (h:w.ownsRow base e size v n xs) (hb: ∀k,v.ownBlock=some k->w'.heap[k]? =w.heap[k]?):w'.ownsRow base e size v n xs:=by
 refine⟨h.1,?_⟩;rcases h.2 with h1|⟨g,cap,cur,hv,h1,h2,h3⟩
 ·exact .inl h1
 ·exact .inr ⟨g,cap,cur,hv,h1,(hb g (by rw[hv];rfl)).trans h2,h3⟩
theorem Rt {w:World} {g:Nat} (hg:g<w.heap.size): ∀(l:List ByteArray) (k:Nat),(∀j u,(jX l)[j]? =some u->w.cell? ⟨g,k+j,none⟩=some u)->(∀s∈l,s.size<=maxLen)->fU w w.heap.size l (some ⟨g,0,none⟩) k
 | [],_,_,_=>trivial
 |s::r,k,hc,hs=>by
  refine⟨⟨g,0,rfl,hg,?_,hs s ahg⟩,Rt hg r (k+1) (λj u hu=> ?_) (λy hy=>hs y ahG)⟩
  ·rw[aV];exact hc 0 _ rfl
  ·rw[Nat.add_assoc,Nat.add_comm 1 j];exact hc (j+1) u (by simpa[jX]using hu)
theorem Ua {w:World} {base:Nat} {e:TypeId} {v:Value} {l:List ByteArray} (h:w.ownsRow base e 1 v l.length (jX l)) (hs: ∀s∈l,s.size<=maxLen): ∃ao cap,v= .slice ao l.length cap∧fU w w.heap.size l ao 0:=by
 rcases h.2 with⟨rfl,hn⟩|⟨g',cap,cur,rfl,hb,hg,h1,h2,h3,h4⟩
 ·have:l=[]:=List.eq_nil_of_length_eq_zero hn;subst this;exact⟨none,0,rfl,trivial⟩
 ·refine⟨_,_,rfl,Rt (aU hg) l 0 (λj u hu=> ?_) hs⟩;rw[aV,cell_of_row w g' j cur _ (0,0) hg];rw[<- h4,List.getElem?_take]at hu;split at hu
  ·simpa using hu
  ·cases hu
structure ku (w:World) (L:sI) (p:Pr) (aK aM:Option Addr) (aG aD:Nat) (i:Int) (A:List Fr) (fs gs:List ByteArray) (v vs ve:Value):Prop where
 blk:w.heap[L.bc]? =some (.cells (wkV p aK aM aG aD i v vs ve) 109 (0,0))
 row:w.ownsRow L.B1 101 11 v A.length (Az A)
 rs:w.ownsRow L.B1 9 1 vs fs.length (jX fs)
 re:w.ownsRow L.B1 9 1 ve gs.length (jX gs)
 d1: ∀k,v.ownBlock=some k->vs.ownBlock≠some k
 d2: ∀k,v.ownBlock=some k->ve.ownBlock≠some k
 d3: ∀k,vs.ownBlock=some k->ve.ownBlock≠some k
 sz:L.B1<=w.heap.size
 dat:SQ w L.B0 p aK aM
 qd:Z7 w L.B0 A
 fo: ∀s∈fs,s.size<=maxLen
 go: ∀s∈gs,s.size<=maxLen
section
variable {w:World} {L:sI} {p:Pr} {aK aM:Option Addr} {aG aD:Nat} {i:Int} {A:List Fr} {fs gs:List ByteArray} {v vs ve:Value}
theorem ku.b0 (h:ku w L p aK aM aG aD i A fs gs v vs ve):L.B0<=w.heap.size:=aen
theorem uR {k:Nat} :Own [v,vs,ve] k↔v.ownBlock=some k∨vs.ownBlock=some k∨ve.ownBlock=some k:=by
 unfold Own;simp
theorem ku.own (h:ku w L p aK aM aG aD i A fs gs v vs ve): ∀k,Own [v,vs,ve] k->L.B1<=k∧k<w.heap.size:=λk hk=>by
 rcases uR.1 hk with e|e|e
 ·exact h.row.lt k e
 ·exact h.rs.lt k e
 ·exact h.re.lt k e
theorem ku.form (h:ku w L p aK aM aG aD i A fs gs v vs ve): ∃dx bV,v= .slice dx A.length bV∧(dG A).At w w.heap.size dx 0:=by
 rcases h.row.2 with⟨rfl,hn⟩|⟨g',cap,cur,rfl,hb,hg,h1,h2,h3,h4⟩
 ·have:A=[]:=List.eq_nil_of_length_eq_zero hn;subst this;exact⟨none,0,rfl,trivial⟩
 ·refine⟨_,_,rfl,UY h.b0 (aU hg) A 0 (λj u hu=> ?_) h.qd⟩;rw[Nat.zero_mul,aV,cell_of_row w g' j cur _ (0,0) hg];rw[<- h4,List.getElem?_take]at hu;split at hu
  ·simpa using hu
  ·cases hu
theorem ku.UW (h:ku w L p aK aM aG aD i A fs gs v vs ve): ∃ao cap,vs= .slice ao fs.length cap∧fU w w.heap.size fs ao 0:=Ua h.rs h.fo
theorem ku.UU (h:ku w L p aK aM aG aD i A fs gs v vs ve): ∃ao cap,ve= .slice ao gs.length cap∧fU w w.heap.size gs ao 0:=Ua h.re h.go
theorem ku.holds {dx ko gU:Option Addr} {bV pK iD pJ iC:Nat} (h:ku w L p aK aM aG aD i A fs gs (.slice dx A.length bV) (.slice ko pK iD) (.slice gU pJ iC)):Holds w (I6 L.bc p aK aM aG aD i dx (dG A).len bV ko pK iD gU pJ iC):=by
 have hb:=h.blk;rw[rO];exact⟨eX hb (j:=0) rfl,eX hb (j:=1) rfl,eX hb (j:=2) rfl,eX hb (j:=3) rfl,eX hb (j:=4) rfl,eX hb (j:=5) rfl,trivial⟩
theorem ku.below {w':World} (h:ku w L p aK aM aG aD i A fs gs v vs ve) (hb:Below w.heap.size w w'):ku w' L p aK aM aG aD i A fs gs v vs ve where
 blk:=(hb.block _ (aU h.blk)).trans h.blk
 row:=lG h.row (λk hk=>hb.block k (h.row.lt k hk).2)
 rs:=lG h.rs (λk hk=>hb.block k (h.rs.lt k hk).2)
 re:=lG h.re (λk hk=>hb.block k (h.re.lt k hk).2)
 d1:=h.d1
 d2:=h.d2
 d3:=h.d3
 sz:=aR h.sz hb.size
 dat:=h.dat.below (hb.mono h.b0)
 qd:=λx hx=>(h.qd x hx).below (hb.mono h.b0)
 fo:=h.fo
 go:=h.go
theorem ku.ad8 {wz w4 w5:World} {u x:Value} {g' j:Nat} (h:ku w L p aK aM aG aD i A fs gs v vs ve) (hu:u∈ [v,vs,ve]) (hb:Below w.heap.size w wz) (hgr:wz.grownBy w4 u.ownBlock) (hat:u.ownBlock=some g'∨g'=wz.heap.size) (hgw:w4.grownBy w5 (some g')):
 (∀k,k<w.heap.size->u.ownBlock≠some k->w5.heap[k]? =w.heap[k]?)∧(∀k,k<w.heap.size->k≠L.bc->u.ownBlock≠some k->(w5.setCell ⟨L.bc,j,none⟩ x).heap[k]? =w.heap[k]?)∧
 Kw L [v,vs,ve] w (w5.setCell ⟨L.bc,j,none⟩ x):=by
 have hsz:w.heap.size<=w4.heap.size:=aR hb.size hgr.size;have hgz:=cB w5 ⟨L.bc,j,none⟩ x;have hlow: ∀k,k<w.heap.size->u.ownBlock≠some k->w5.heap[k]? =w.heap[k]?:=λk hk hv=>by
  have hkg:k≠g':=by
   rcases hat with e|e
   ·intro e';exact hv (by rw[e,e'])
   ·have:=hb.size;omega
  rw[hgw.block k ahe (by simp;exact hkg),hgr.block k (aJ hk hb.size) (λe=>hv e.symm),hb.block k hk]
 have hl2: ∀k,k<w.heap.size->k≠L.bc->u.ownBlock≠some k->(w5.setCell ⟨L.bc,j,none⟩ x).heap[k]? =w.heap[k]?:=λk hk hc hv=>by rw[dB w5 ⟨L.bc,j,none⟩ _ rfl (λe=>hc e.symm)];exact hlow k hk hv
 refine⟨hlow,hl2,⟨hgz.os.trans (hgw.os.trans (hgr.os.trans hb.os)),hgz.tape.trans (hgw.tape.trans (hgr.tape.trans hb.tape)),hgz.output.trans (hgw.output.trans (hgr.output.trans hb.output)),aR hsz (aR hgw.size hgz.size),λk hk hc hv=>hl2 k hk hc (λe=>hv ⟨u,hu,e⟩)⟩⟩
theorem ku.Mg (h:ku w L p aK aM aG aD i A fs gs v vs ve) {u:Value} (hu:u∈ [v,vs,ve]):u.ownBlock≠some L.bc:=λe=>by
 have:=(h.own _ ⟨u,hu,e⟩).1;have:=L.c1;omega
theorem ku.push {wz w4:World} {g' cap':Nat} {zs:List Value} (h:ku w L p aK aM aG aD i A fs gs v vs ve) (x:Fr) (hx:tV w L.B0 x.h x.b x.e x.s) (hb:Below w.heap.size w wz) (hown:w4.ownsRow L.B1 101 11 (.slice (some ⟨g',0,none⟩) (A.length+1) cap') (A.length+1) (Az A++zs)) (hgr:wz.grownBy w4 v.ownBlock) (hat:v.ownBlock=some g'∨g'=wz.heap.size):
 ku ((w4.setCells g' (A.length*11) (oJ x.h x.b x.e x.s)).setCell ⟨L.bc,3,none⟩ (.slice (some ⟨g',0,none⟩) (A.length+1) cap')) L p aK aM aG aD i (A++[x]) fs gs (.slice (some ⟨g',0,none⟩) (A.length+1) cap') vs ve∧
 Kw L [v,vs,ve] w ((w4.setCells g' (A.length*11) (oJ x.h x.b x.e x.s)).setCell ⟨L.bc,3,none⟩ (.slice (some ⟨g',0,none⟩) (A.length+1) cap'))∧lU w [v,vs,ve] [.slice (some ⟨g',0,none⟩) (A.length+1) cap',vs,ve]:=by
 have hg1:=(hown.lt g' rfl).1;have hc1:=L.c1;have hput:=QW (vs:=oJ x.h x.b x.e x.s) hown (Ei A) rfl;generalize hw5:w4.setCells g' (A.length*11) (oJ x.h x.b x.e x.s)=w5 at *;have hgw:w4.grownBy w5 (some g'):=by rw[<- hw5];exact dN _ _ _ _
 obtain⟨hlow,hl2,eD⟩:=h.ad8 (u:=v) (x:= .slice (some ⟨g',0,none⟩) (A.length+1) cap') (j:=3) ahg hb hgr hat hgw;have hgz:=cB w5 ⟨L.bc,3,none⟩ (.slice (some ⟨g',0,none⟩) (A.length+1) cap');have hbel:=eD.below h.b0 (λk e=>(h.own k e).1);have hnew: ∀k,Value.ownBlock (.slice (some ⟨g',0,none⟩) (A.length+1) cap')=some k->v.ownBlock=some k∨w.heap.size<=k:=λk hk=>by
  have:g'=k:=adQ
  subst this;rcases hat with e|e
  ·exact .inl e
  ·exact .inr afZ
 refine⟨?_,eD,λk hk=> ?_⟩
 ·refine {blk:= ?_,row:= ?_,rs:= ?_,re:= ?_,d1:= ?_,d2:= ?_,d3:=h.d3,sz:=aR h.sz eD.size,dat:=h.dat.below hbel,qd:= ?_,fo:=h.fo,go:=h.go}
  ·exact dX ((hlow _ (aU h.blk) (h.Mg ahg)).trans h.blk) _
  ·rw[au,BZ];refine hput.kept hgz (.inr ?_);simp[Value.ownBlock];omega
  ·exact lG h.rs (λk hk=>hl2 k (h.rs.lt k hk).2 aeX (λe=>h.d1 k e hk))
  ·exact lG h.re (λk hk=>hl2 k (h.re.lt k hk).2 aeY (λe=>h.d2 k e hk))
  ·intro k hk e;rcases hnew k hk with e'|e'
   ·exact h.d1 k e' e
   ·have:=(h.rs.lt k e).2;omega
  ·intro k hk e;rcases hnew k hk with e'|e'
   ·exact h.d2 k e' e
   ·have:=(h.re.lt k e).2;omega
  ·intro y hy;rcases List.mem_append.1 hy with hy|hy
   ·exact(h.qd y hy).below hbel
   ·obtain rfl:=List.mem_singleton.1 hy;exact hx.below hbel
 ·rcases uR.1 hk with e|e|e
  ·rcases hnew k e with e'|e'
   ·exact .inl (uR.2 (.inl e'))
   ·exact .inr e'
  ·exact .inl (uR.2 (.inr (.inl e)))
  ·exact .inl (uR.2 (.inr (.inr e)))
theorem ku.pop {wz:World} {g' cap':Nat} (x:Fr) (h:ku w L p aK aM aG aD i (A++[x]) fs gs (.slice (some ⟨g',0,none⟩) (A.length+1) cap') vs ve) (hb:Below w.heap.size w wz):
 ku (wz.setCell ⟨L.bc,3,none⟩ (.slice (some ⟨g',0,none⟩) A.length cap')) L p aK aM aG aD i A fs gs (.slice (some ⟨g',0,none⟩) A.length cap') vs ve∧
 Kw L [.slice (some ⟨g',0,none⟩) (A.length+1) cap',vs,ve] w (wz.setCell ⟨L.bc,3,none⟩ (.slice (some ⟨g',0,none⟩) A.length cap')):=by
 have hI:=h.below hb;have hc1:=L.c1;have hgz:=cB wz ⟨L.bc,3,none⟩ (.slice (some ⟨g',0,none⟩) A.length cap');have hkp:Kw L [.slice (some ⟨g',0,none⟩) (A.length+1) cap',vs,ve] w (wz.setCell ⟨L.bc,3,none⟩ (.slice (some ⟨g',0,none⟩) A.length cap')):=
  ⟨hgz.os.trans hb.os,hgz.tape.trans hb.tape,hgz.output.trans hb.output,aR hb.size hgz.size,λk hk hc _=>(hgz.block k (aJ hk hb.size) ahP).trans (hb.block k hk)⟩
 have hbel:Below L.B0 wz (wz.setCell ⟨L.bc,3,none⟩ (.slice (some ⟨g',0,none⟩) A.length cap')):=cZ hgz L.c0 hI.b0;have hrow:=hI.row;rw[au,BZ]at hrow;have hg1:=(hrow.lt g' rfl).1;have EP: ∀k,L.B1<=k->(wz.setCell ⟨L.bc,3,none⟩ (.slice (some ⟨g',0,none⟩) A.length cap')).heap[k]? =wz.heap[k]?:=λk hk=>dB wz _ _ rfl (by show L.bc≠k;omega);refine⟨{blk:=dX hI.blk _,row:=(O1 hrow (Ei A)).kept hgz (.inr afj),rs:=lG hI.rs (λk hk=>EP k (hI.rs.lt k hk).1),re:=lG hI.re (λk hk=>EP k (hI.re.lt k hk).1),d1:=λk hk=>h.d1 k hk,d2:=λk hk=>h.d2 k hk,d3:=h.d3,sz:=aR hI.sz hgz.size,dat:=hI.dat.below hbel,qd:=λy hy=>(hI.qd y ahG).below hbel,fo:=h.fo,go:=h.go},hkp⟩
theorem Ru (l:List ByteArray) (s:ByteArray):jX (l++[s])=jX l++[.string s]:=by simp[jX]
theorem ku.bl2 {wz w4:World} {g' cap':Nat} {nm:ByteArray} (h:ku w L p aK aM aG aD i A fs gs v vs ve) (hn:nm.size<=maxLen) (hb:Below w.heap.size w wz) (hown:w4.ownsRow L.B1 9 1 (.slice (some ⟨g',0,none⟩) (fs.length+1) cap') (fs.length+1) (jX fs++[.string nm])) (hgr:wz.grownBy w4 vs.ownBlock) (hat:vs.ownBlock=some g'∨g'=wz.heap.size):
 ku (w4.setCell ⟨L.bc,4,none⟩ (.slice (some ⟨g',0,none⟩) (fs.length+1) cap')) L p aK aM aG aD i A (fs++[nm]) gs v (.slice (some ⟨g',0,none⟩) (fs.length+1) cap') ve∧
 Kw L [v,vs,ve] w (w4.setCell ⟨L.bc,4,none⟩ (.slice (some ⟨g',0,none⟩) (fs.length+1) cap'))∧lU w [v,vs,ve] [v,.slice (some ⟨g',0,none⟩) (fs.length+1) cap',ve]:=by
 have hg1:=(hown.lt g' rfl).1;have hc1:=L.c1;obtain⟨hlow,hl2,eD⟩:=h.ad8 (u:=vs) (x:= .slice (some ⟨g',0,none⟩) (fs.length+1) cap') (j:=4) ahg hb hgr hat (Bj w4);have hgz:=cB w4 ⟨L.bc,4,none⟩ (.slice (some ⟨g',0,none⟩) (fs.length+1) cap');have hbel:=eD.below h.b0 (λk e=>(h.own k e).1);have hnew: ∀k,Value.ownBlock (.slice (some ⟨g',0,none⟩) (fs.length+1) cap')=some k->vs.ownBlock=some k∨w.heap.size<=k:=λk hk=>by
  have:g'=k:=adQ
  subst this;rcases hat with e|e
  ·exact .inl e
  ·exact .inr afZ
 refine⟨?_,eD,λk hk=> ?_⟩
 ·refine {blk:= ?_,row:= ?_,rs:= ?_,re:= ?_,d1:= ?_,d2:=h.d2,d3:= ?_,sz:=aR h.sz eD.size,dat:=h.dat.below hbel,qd:=λy hy=>(h.qd y hy).below hbel,fo:= ?_,go:=h.go}
  ·exact dX ((hlow _ (aU h.blk) (h.Mg ahg)).trans h.blk) _
  ·exact lG h.row (λk hk=>hl2 k (h.row.lt k hk).2 aeP (λe=>h.d1 k hk e))
  ·rw[au,Ru];refine hown.kept hgz (.inr ?_);simp[Value.ownBlock];omega
  ·exact lG h.re (λk hk=>hl2 k (h.re.lt k hk).2 aeY (λe=>h.d3 k e hk))
  ·intro k hk e;rcases hnew k e with e'|e'
   ·exact h.d1 k hk e'
   ·have:=(h.row.lt k hk).2;omega
  ·intro k hk e;rcases hnew k hk with e'|e'
   ·exact h.d3 k e' e
   ·have:=(h.re.lt k e).2;omega
  ·intro y hy;rcases List.mem_append.1 hy with hy|hy
   ·exact h.fo y hy
   ·obtain rfl:=List.mem_singleton.1 hy;exact hn
 ·rcases uR.1 hk with e|e|e
  ·exact .inl (uR.2 (.inl e))
  ·rcases hnew k e with e'|e'
   ·exact .inl (uR.2 (.inr (.inl e')))
   ·exact .inr e'
  ·exact .inl (uR.2 (.inr (.inr e)))
theorem ku.bk9 {wz w4:World} {g' cap':Nat} {nm:ByteArray} (h:ku w L p aK aM aG aD i A fs gs v vs ve) (hn:nm.size<=maxLen) (hb:Below w.heap.size w wz) (hown:w4.ownsRow L.B1 9 1 (.slice (some ⟨g',0,none⟩) (gs.length+1) cap') (gs.length+1) (jX gs++[.string nm])) (hgr:wz.grownBy w4 ve.ownBlock) (hat:ve.ownBlock=some g'∨g'=wz.heap.size):
 ku (w4.setCell ⟨L.bc,5,none⟩ (.slice (some ⟨g',0,none⟩) (gs.length+1) cap')) L p aK aM aG aD i A fs (gs++[nm]) v vs (.slice (some ⟨g',0,none⟩) (gs.length+1) cap')∧
 Kw L [v,vs,ve] w (w4.setCell ⟨L.bc,5,none⟩ (.slice (some ⟨g',0,none⟩) (gs.length+1) cap'))∧lU w [v,vs,ve] [v,vs,.slice (some ⟨g',0,none⟩) (gs.length+1) cap']:=by
 have hg1:=(hown.lt g' rfl).1;have hc1:=L.c1;obtain⟨hlow,hl2,eD⟩:=h.ad8 (u:=ve) (x:= .slice (some ⟨g',0,none⟩) (gs.length+1) cap') (j:=5) ahg hb hgr hat (Bj w4);have hgz:=cB w4 ⟨L.bc,5,none⟩ (.slice (some ⟨g',0,none⟩) (gs.length+1) cap');have hbel:=eD.below h.b0 (λk e=>(h.own k e).1);have hnew: ∀k,Value.ownBlock (.slice (some ⟨g',0,none⟩) (gs.length+1) cap')=some k->ve.ownBlock=some k∨w.heap.size<=k:=λk hk=>by
  have:g'=k:=adQ
  subst this;rcases hat with e|e
  ·exact .inl e
  ·exact .inr afZ
 refine⟨?_,eD,λk hk=> ?_⟩
 ·refine {blk:= ?_,row:= ?_,rs:= ?_,re:= ?_,d1:=h.d1,d2:= ?_,d3:= ?_,sz:=aR h.sz eD.size,dat:=h.dat.below hbel,qd:=λy hy=>(h.qd y hy).below hbel,fo:=h.fo,go:= ?_}
  ·exact dX ((hlow _ (aU h.blk) (h.Mg ahg)).trans h.blk) _
  ·exact lG h.row (λk hk=>hl2 k (h.row.lt k hk).2 aeP (λe=>h.d2 k hk e))
  ·exact lG h.rs (λk hk=>hl2 k (h.rs.lt k hk).2 aeX (λe=>h.d3 k hk e))
  ·rw[au,Ru];refine hown.kept hgz (.inr ?_);simp[Value.ownBlock];omega
  ·intro k hk e;rcases hnew k e with e'|e'
   ·exact h.d2 k hk e'
   ·have:=(h.row.lt k hk).2;omega
  ·intro k hk e;rcases hnew k e with e'|e'
   ·exact h.d3 k hk e'
   ·have:=(h.rs.lt k hk).2;omega
  ·intro y hy;rcases List.mem_append.1 hy with hy|hy
   ·exact h.go y hy
   ·obtain rfl:=List.mem_singleton.1 hy;exact hn
 ·rcases uR.1 hk with e|e|e
  ·exact .inl (uR.2 (.inl e))
  ·exact .inl (uR.2 (.inr (.inl e)))
  ·rcases hnew k e with e'|e'
   ·exact .inl (uR.2 (.inr (.inr e')))
   ·exact .inr e'
theorem ku.af7 {i':Int} (h:ku w L p aK aM aG aD i A fs gs v vs ve):ku (w.setCell ⟨L.bc,2,none⟩ (.int .i64 i')) L p aK aM aG aD i' A fs gs v vs ve:=by
 have hg:=cB w ⟨L.bc,2,none⟩ (.int .i64 i');have hbel:=cZ hg L.c0 h.b0;have hc1:=L.c1;have EP: ∀k,L.B1<=k->(w.setCell ⟨L.bc,2,none⟩ (.int .i64 i')).heap[k]? =w.heap[k]?:=λk hk=>dB w _ _ rfl (by show L.bc≠k;omega);exact {blk:=agL,row:=lG h.row (λk hk=>EP k (h.row.lt k hk).1),rs:=lG h.rs (λk hk=>EP k (h.rs.lt k hk).1),re:=lG h.re (λk hk=>EP k (h.re.lt k hk).1),d1:=h.d1,d2:=h.d2,d3:=h.d3,sz:=aR h.sz hg.size,dat:=h.dat.below hbel,qd:=λx hx=>(h.qd x hx).below hbel,fo:=h.fo,go:=h.go}
end
def C3 (W1 W2 W3 W4:World):List Bool->World->Prop
 | [false,false,false],w=>w=W1
 | [true,false,false],w=>w=W2
 | [true,true,false],w=>w=W3
 | [true,true,true],w=>w=W4
 |_,_=>False
section
variable {W1 W2 W3 W4:World} {a1 a2 a3 i:Nat} {c:List Bool} {w':World}
theorem C3.bits: ∀ {c:List Bool} {w':World},C3 W1 W2 W3 W4 c w'->∃x y z,c=[x,y,z]
 | [x,y,z],_,_=>⟨x,y,z,rfl⟩
 | [],_,h=>h.elim
 | [_],_,h=>by simp[C3]at h
 | [_,_],_,h=>by simp[C3]at h
 |_::_::_::_::_,_,h=>by simp[C3]at h
theorem C3.skip (h1:(a1==i)=false) (h2:(a2==i)=false) (h3:(a3==i)=false) (h:C3 W1 W2 W3 W4 c w'):C3 W1 W2 W3 W4 (iE [a1,a2,a3] c i) w':=by
 obtain⟨x,y,z,rfl⟩:=h.bits;simpa[iE,h1,h2,h3]using h
theorem C3.one (h1:(a1==i)=true) (h2:(a2==i)=false) (h3:(a3==i)=false):C3 W1 W2 W3 W4 (iE [a1,a2,a3] [false,false,false] i) W2:=by
 simp only[iE,h1,h2,h3,Bool.or_false,Bool.or_true];rfl
theorem C3.two (h1:(a1==i)=false) (h2:(a2==i)=true) (h3:(a3==i)=false):C3 W1 W2 W3 W4 (iE [a1,a2,a3] [true,false,false] i) W3:=by
 simp only[iE,h1,h2,h3,Bool.or_false,Bool.or_true];rfl
theorem C3.three (h1:(a1==i)=false) (h2:(a2==i)=false) (h3:(a3==i)=true):C3 W1 W2 W3 W4 (iE [a1,a2,a3] [true,true,false] i) W4:=by
 simp only[iE,h1,h2,h3,Bool.or_false,Bool.or_true];rfl
theorem C3.low {p1:Option Bool} {W:World} (hb1:Below W.heap.size W W1) (hb2:Below W.heap.size W W2) (hok:okB [p1,some false,some false] c) (h:C3 W1 W2 W3 W4 c w'):Below W.heap.size W w':=by
 obtain⟨x,y,z,rfl⟩:=h.bits;have:y=false∧z=false:=by
  cases p1 with
  |none=>exact⟨hok.1,hok.2.1⟩
  |some b=>exact⟨hok.2.1,hok.2.2.1⟩
 obtain⟨rfl,rfl⟩:=this;cases x
 ·have h:w'=W1:=h;rw[h];exact hb1
 ·have h:w'=W2:=h;rw[h];exact hb2
theorem C3.w1 (hok:okB [some false,some false,some false] c) (h:C3 W1 W2 W3 W4 c w'):c=[false,false,false]∧w'=W1:=by
 obtain⟨x,y,z,rfl⟩:=h.bits;obtain⟨rfl,rfl,rfl,-⟩:=hok;exact⟨rfl,h⟩
theorem C3.w2 (hok:okB [some true,some false,some false] c) (h:C3 W1 W2 W3 W4 c w'):c=[true,false,false]∧w'=W2:=by
 obtain⟨x,y,z,rfl⟩:=h.bits;obtain⟨rfl,rfl,rfl,-⟩:=hok;exact⟨rfl,h⟩
theorem C3.w3 (hok:okB [some true,some true,some false] c) (h:C3 W1 W2 W3 W4 c w'):c=[true,true,false]∧w'=W3:=by
 obtain⟨x,y,z,rfl⟩:=h.bits;obtain⟨rfl,rfl,rfl,-⟩:=hok;exact⟨rfl,h⟩
theorem C3.b1 (hok:okB [some false,some false,some false] c) (h:C3 W1 W2 W3 W4 c w'):c=[false,false,false]∧w'=W1:=C3.w1 hok h
end
theorem wp_append_run {P:Program} {w w':World} {o:Oper} {a:Act} {K:Act->World->Prop} {Q:Exit->Act->World->Prop} (s x:Operand) (t:TypeId) (v u r:Value)
 (ho:o.op= .call {callee:= .builtin .append,args:= #[s,x],argTypes:= #[t,t]}) (hs:a.eval s=v) (hx:a.eval x=u)
 (hr:(Builtin.append_ #[t,t] o.type #[v,u]).run P w= .ok r w') (h:K (a.put o.dst r) w'):o.wp P a w K Q:=by
 unfold Oper.wp execOp;simp only[ho,resolve,invoke,builtin,Sem.run_bind,Sem.run_pure,Result.andThen_ok,List.map_toArray,List.map_cons,List.map_nil,hs,hx,hr];exact h
def BQ (w:World) (L:sI) (p:Pr) (aK aM:Option Addr) (aG aD:Nat) (i:Int) (A:List Fr) (fs gs:List ByteArray) (v vs ve:Value) (fs2 gs2:List ByteArray) (r:Int) (e:Ending) (w':World):Prop:=
 e= .returned (.int .i64 r)∧Kw L [v,vs,ve] w w'∧∃fs' gs' vs' ve',lU w [v,vs,ve] [v,vs',ve']∧ku w' L p aK aM aG aD i A fs' gs' v vs' ve'∧(r=0->fs'=fs2∧gs'=gs2)
theorem BQ.err {w w':World} {L:sI} {p:Pr} {aK aM:Option Addr} {aG aD:Nat} {i:Int} {A:List Fr} {fs gs:List ByteArray} {v vs ve:Value} {fs2 gs2:List ByteArray} {r x:Int}
 (hI:ku w L p aK aM aG aD i A fs gs v vs ve) (hr:r=x) (h0:r≠0) (hb:Below w.heap.size w w'):BQ w L p aK aM aG aD i A fs gs v vs ve fs2 gs2 r (.returned (.int .i64 x)) w':=by
 subst hr;exact⟨rfl,Kw.of_below hb,fs,gs,vs,ve,lU.refl _ _,hI.below hb,λh=>(h0 h).elim⟩
theorem ac5:(Tryz.prog.info? 9).map (λi=>(i.zero,i.size,i.bytes))=some (some (.string ⟨#[]⟩),1,16):=ahd
theorem Ro: ∃i0,Tryz.prog.info? 9=some i0∧i0.zero=some (.string ⟨#[]⟩)∧i0.size=1∧i0.bytes=16:=info_parts ac5
theorem av9 (L:sI) (p:Pr) (w:World) (aK aM:Option Addr) (aG aD:Nat) (i:Int) (A:List Fr) (fs gs:List ByteArray) (v vs ve:Value) (hI:ku w L p aK aM aG aD i A fs gs v vs ve) (h:dM) (b e:aY) (s:Sl) (hin:tV w L.B0 h b e s) (hi:dD i) (hA:A.length<=maxLen) (hfs:fs.length<=1000000000000) (hgs:gs.length<=1000000000000) (hop:h.op=12):
 Calls Tryz.prog 74 #[.pointer (some ⟨L.bc,0,none⟩),jH h b e s] w (BQ w L p aK aM aG aD i A fs gs v vs ve (fs++[h.nm]) gs (if gy (conv (mean p i h.nm)) 7 7 != 0 then gy (conv (mean p i h.nm)) 7 7 else if((((eY (dG A) 7 7 ⟨#[]⟩||eY (dG A) 8 8 ⟨#[]⟩)||eY (dG A) 3 3 ⟨#[]⟩)||qp p.ts h.nm==i)||qp p.ts h.nm==0)then 7 else kQ (nO fs h.nm.toList))):=by
 obtain⟨dx,bV,rfl,hat⟩:=hI.form;obtain⟨ko,iD,rfl,XC⟩:=hI.UW;obtain⟨gU,iC,rfl,XB⟩:=hI.UU;have hp:=hI.dat.use hI.b0;have hh:=hI.holds;have har:(dG A).len<=maxLen:=ahc
 replace hin:=hin.use hI.b0;have HI:=ah hI;have lK:=ah XC;have Kq:=ah XB;generalize hres:(if gy (conv (mean p i h.nm)) 7 7 != 0 then gy (conv (mean p i h.nm)) 7 7 else if((((eY (dG A) 7 7 ⟨#[]⟩||eY (dG A) 8 8 ⟨#[]⟩)||eY (dG A) 3 3 ⟨#[]⟩)||qp p.ts h.nm==i)||qp p.ts h.nm==0)then 7 else kQ (nO fs h.nm.toList))=res;have HR:aj (res=(if gy (conv (mean p i h.nm)) 7 7 != 0 then gy (conv (mean p i h.nm)) 7 7 else if((((eY (dG A) 7 7 ⟨#[]⟩||eY (dG A) 8 8 ⟨#[]⟩)||eY (dG A) 3 3 ⟨#[]⟩)||qp p.ts h.nm==i)||qp p.ts h.nm==0)then 7 else kQ (nO fs h.nm.toList))):=ah (by rw[<- hres]);have dI:=ah hop;have wW:=ah hin.1.2.2.1;have Sy:=ah hfs;have Ke:=ah hgs;clear hres hop hI XC XB hA hfs hgs;have HH:=ah (show Sit w w _ from⟨ak _ _,hh⟩);have lZ:=ah hin;have jZ:=ah hat;have jM:=ah har;have HP:=ah hp;unfold jH;clear hh hin hat har hp;go_enter Tryz.func74,Tryz.ntmps74;go_upto_region 1 with fail;generalize hW:World.alloc w _=W;generalize Value.agg #[_,_,_,_,_,_,_,_,_,_,_]=a0;have HX:aj (Sit w W (qY w.heap.size h b e s (I6 L.bc p aK aM aG aD i dx (dG A).len bV ko fs.length iD gU gs.length iC))):=ah aaV;clear hW HH;have K0: ∀w',Below W.heap.size W w'->w'.cell? ⟨L.bc,0,none⟩=some (.slice aK p.ds.length aG):=λw' hb=>(HX.o.next hb).2.2.2.2.2.2.2.2.2.2.2.2.1.2;have K1: ∀w',Below W.heap.size W w'->w'.cell? ⟨L.bc,1,none⟩=some (.slice aM p.ts.length aD):=λw' hb=>(HX.o.next hb).2.2.2.2.2.2.2.2.2.2.2.2.2.1.2;have K2: ∀w',Below W.heap.size W w'->w'.cell? ⟨L.bc,2,none⟩=some (.int .i64 i):=λw' hb=>(HX.o.next hb).2.2.2.2.2.2.2.2.2.2.2.2.2.2.1.2;have HD1:Below W.heap.size W (W.drewN 1):=below_drewN (ak _ _) 1;refine bS ahd rfl ?_;generalize W.drewN 1=W1 at *;refine bK 0 11 [8,9] [[],[0],[0,1],[0,1,2],[],[4],[4,5],[4,5,6],[],[0,1,2,3,8],[0,1,2,3,4,5,6,7,8,9]] [[none,some false],[none,some false],[none,some false],[none,some false],[none,none],[none,none],[none,none],[none,none],[some false,some false],[some true,some false],[some true,some true]] (AC W1 (.cells #[.slice none 0 0,.slice none 0 0] 26) (.cells #[.slice aK p.ds.length aG,.slice aM p.ts.length aD] 26)) (λ_ _=>True) [15,16,17,18,19,20,21,22,5,6] rfl rfl aip ahd ahd ahd ahd ahd aip (λ_=>trivial) aip rfl ?_;simp only[eB,iP]
 iterate 8
  apply bf.step
  case aZ=>intro c A w' hok hC hO hD;have e0:=hO 0 aip;simp[Act.eval]at e0;simp[Act.eval]at hD;simp[go_sem,gd,Oper.wp,hD,e0,K0,K1,AC.below HD1 hC,K2];exact aO.mk trivial (AC.skip aip aip hC) (bT.mk _ _)
  try simp only[bP]
 apply bf.step
 case aZ=>intro c A w' hok hC hO hD;obtain⟨x,y,rfl⟩:=hC.bits;obtain⟨rfl,rfl,-⟩:=hok;have hw:w'=W1:=hC;subst hw;simp[go_sem,gd,Oper.wp];exact aO.mk trivial (AC.lay aip aip) (bT.mk _ _)
 refine bf.some (λ_ _=>True) (λ_ _ _ _ _=>trivial) ?_ ?_
 ·intro c A w' hok hC hO hD;obtain⟨x,y,rfl⟩:=hC.bits;obtain⟨rfl,rfl,-⟩:=hok;have hw:w'=W1.alloc _:=hC;subst hw;simp[Act.eval]at hD;simp[go_sem,gd,Oper.wp,hD];exact aO.qK (v:=undef) trivial (AC.fill aip aip) trivial
 try simp only[bP]
 apply bf.step
 case aZ=>intro c A w' hok hC hO hD;simp[Act.eval]at hD;simp[go_sem,gd,Oper.wp,hD];exact aO.mk trivial (AC.skip aip aip hC) (bT.mk _ _)
 try simp only[bP]
 refine bf.done ?_;intro wz bR;simp only[List.drop_zero];intro v0 h0 v1 h1 v2 h2 v3 h3 v4 h4 v5 h5 v6 h6 v7 h7 v8 h8 v9 h9 v10 h10;have h8':v8=_:=h8;have JG:v10=_:=h10;subst h8' JG;clear h0 h1 h2 h3 h4 h5 h6 h7 h8 h9 h10;refine dH.nil ?_;refine cO rfl ?_;have Gz:wz=W1.alloc _:=bR;generalize hn1:W1.heap.size=n1 at *;have HY:=ah ((HX.o.next HD1).wL hn1 (.slice aK p.ds.length aG) (.slice aM p.ts.length aD) 26);rw[<- Gz]at HY;clear bR Gz HX K0 K1 K2 HD1 hn1;go_simp;obtain⟨-,⟨-,c0⟩,⟨-,c1⟩,⟨-,c2⟩,⟨-,c3⟩,⟨-,c4⟩,⟨-,c5⟩,⟨-,c6⟩,⟨-,c7⟩,⟨-,c8⟩,⟨-,c9⟩,⟨-,c10⟩,⟨-,c11⟩,⟨-,c12⟩,⟨-,c13⟩,⟨-,c14⟩,⟨-,c15⟩,⟨-,c16⟩,⟨-,c17⟩,⟨-,c18⟩,-⟩:=HY.o;go_wp2_with fail;refine(iq p _ aK aM aG aD i dx bV L.bc ko fs.length iD gU gs.length iC (dG A) 7 7 ⟨#[]⟩ jM.o (jZ.o.same HY.o.1) (mG HY.o)).mono ?_;rintro e' W ⟨rfl,hb⟩;replace HY:=ah (HY.o.next hb);clear hb c0 c1 c2 c3 c4 c5 c6 c7 c8 c9 c10 c11 c12 c13 c14 c15 c16 c17 c18;obtain⟨-,⟨-,c0⟩,⟨-,c1⟩,⟨-,c2⟩,⟨-,c3⟩,⟨-,c4⟩,⟨-,c5⟩,⟨-,c6⟩,⟨-,c7⟩,⟨-,c8⟩,⟨-,c9⟩,⟨-,c10⟩,⟨-,c11⟩,⟨-,c12⟩,⟨-,c13⟩,⟨-,c14⟩,⟨-,c15⟩,⟨-,c16⟩,⟨-,c17⟩,⟨-,c18⟩,-⟩:=HY.o;go_wp2_with fail;refine(iq p _ aK aM aG aD i dx bV L.bc ko fs.length iD gU gs.length iC (dG A) 8 8 ⟨#[]⟩ jM.o (jZ.o.same HY.o.1) (mG HY.o)).mono ?_;rintro e' W ⟨rfl,hb⟩;replace HY:=ah (HY.o.next hb);clear hb c0 c1 c2 c3 c4 c5 c6 c7 c8 c9 c10 c11 c12 c13 c14 c15 c16 c17 c18;obtain⟨-,⟨-,c0⟩,⟨-,c1⟩,⟨-,c2⟩,⟨-,c3⟩,⟨-,c4⟩,⟨-,c5⟩,⟨-,c6⟩,⟨-,c7⟩,⟨-,c8⟩,⟨-,c9⟩,⟨-,c10⟩,⟨-,c11⟩,⟨-,c12⟩,⟨-,c13⟩,⟨-,c14⟩,⟨-,c15⟩,⟨-,c16⟩,⟨-,c17⟩,⟨-,c18⟩,-⟩:=HY.o;go_wp2_with fail;refine(iq p _ aK aM aG aD i dx bV L.bc ko fs.length iD gU gs.length iC (dG A) 3 3 ⟨#[]⟩ jM.o (jZ.o.same HY.o.1) (mG HY.o)).mono ?_;rintro e' W ⟨rfl,hb⟩;replace HY:=ah (HY.o.next hb);clear hb c0 c1 c2 c3 c4 c5 c6 c7 c8 c9 c10 c11 c12 c13 c14 c15 c16 c17 c18;obtain⟨-,⟨-,c0⟩,⟨-,c1⟩,⟨-,c2⟩,⟨-,c3⟩,⟨-,c4⟩,⟨-,c5⟩,⟨-,c6⟩,⟨-,c7⟩,⟨-,c8⟩,⟨-,c9⟩,⟨-,c10⟩,⟨-,c11⟩,⟨-,c12⟩,⟨-,c13⟩,⟨-,c14⟩,⟨-,c15⟩,⟨-,c16⟩,⟨-,c17⟩,⟨-,c18⟩,-⟩:=HY.o;generalize htx:eY (dG A) 7 7 ⟨#[]⟩=tx at *;generalize hat':eY (dG A) 8 8 ⟨#[]⟩=Ns at *;generalize hlo:eY (dG A) 3 3 ⟨#[]⟩=lop at *;clear htx hat' hlo;have hop:=dI.o;obtain⟨g1,g2,g3,g4,g5,g6,g7,g8,g9,g10,g11,g12,g13,g14,g15⟩:=QO hop;clear hop;go_wp2_with fail;refine(iL p i h.nm 7 7 _ aK aM aG aD hi (HP.o.same HY.o.1)).mono ?_;rintro e' W ⟨rfl,hb⟩;replace HY:=ah (HY.o.next hb);clear hb c0 c1 c2 c3 c4 c5 c6 c7 c8 c9 c10 c11 c12 c13 c14 c15 c16 c17 c18;obtain⟨-,⟨-,c0⟩,⟨-,c1⟩,⟨-,c2⟩,⟨-,c3⟩,⟨-,c4⟩,⟨-,c5⟩,⟨-,c6⟩,⟨-,c7⟩,⟨-,c8⟩,⟨-,c9⟩,⟨-,c10⟩,⟨-,c11⟩,⟨-,c12⟩,⟨-,c13⟩,⟨-,c14⟩,⟨-,c15⟩,⟨-,c16⟩,⟨-,c17⟩,⟨-,c18⟩,-⟩:=HY.o;generalize gy (conv (mean p i h.nm)) 7 7=q at *;cases hq:(q != 0)
 case true=>have HR':aj (res=q):=ah (HR.o.trans (if_pos hq));have HQ0:aj (q≠0):=ah (by simpa using hq);clear HR;go_wp2_with fail;go_ret;exact BQ.err HI.o HR'.o (by rw[HR'.o];exact HQ0.o) HY.o.1
 have HR1:=ah (HR.o.trans (if_neg (by rw[hq];decide)));clear HR;go_wp2_with fail;refine(iG p.ts h.nm _ aM aD HP.o.2.1 (HP.o.same HY.o.1).2.2.2).mono ?_;rintro e' W' ⟨rfl,rfl⟩;generalize qp p.ts h.nm=kk at *;go_upto_region 35 with fail;go_cut [187] (λs' W3=>W=W3∧s'= .bool ((((tx||Ns)||lop)||kk==i)||kk==0))
 case first=>
  as_aux_lemma=>
   cases tx
   ·cases Ns
    ·cases lop
     ·cases hki:(kk==i)
      ·cases hk0:(kk==0)
       all_goals go_wp2_with fail
       all_goals go_meet
       all_goals exact⟨rfl,by first|rfl|(rw[hki,hk0];rfl)|(simp[hki,hk0])⟩
      ·go_wp2_with fail;go_meet;exact⟨rfl,by first|rfl|(rw[hki];rfl)|(simp[hki])⟩
     ·go_wp2_with fail;go_meet;exact⟨rfl,by first|rfl|simp⟩
    ·go_wp2_with fail;go_meet;exact⟨rfl,by first|rfl|simp⟩
   ·go_wp2_with fail;go_meet;exact⟨rfl,by first|rfl|simp⟩
 obtain⟨rfl,rfl⟩:=hcut;generalize ((((tx||Ns)||lop)||kk==i)||kk==0)=tt at *;cases tt
 case true=>have HR':aj (res=7):=HR1;clear HR1;go_wp2_with fail;go_ret;exact BQ.err HI.o HR'.o (by rw[HR'.o];decide) HY.o.1
 have HR2:aj (res=kQ (nO fs h.nm.toList)):=HR1;clear HR1;have Kr:=ah (Gj fs h.nm);go_upto_region 37 with fail;obtain⟨T,F,Ad,hst,hF,hnext⟩:=calm W;have HF:=ah hF;have eH:=ah hnext;clear hnext hF;have d0:=λx=>(HY.o.next (HF.o x)).2.1.2;have d1:=λx=>(HY.o.next (HF.o x)).2.2.1.2;have d2:=λx=>(HY.o.next (HF.o x)).2.2.2.1.2;have d3:=λx=>(HY.o.next (HF.o x)).2.2.2.2.1.2;have d4:=λx=>(HY.o.next (HF.o x)).2.2.2.2.2.1.2;have d5:=λx=>(HY.o.next (HF.o x)).2.2.2.2.2.2.1.2;have d6:=λx=>(HY.o.next (HF.o x)).2.2.2.2.2.2.2.1.2;have d7:=λx=>(HY.o.next (HF.o x)).2.2.2.2.2.2.2.2.1.2;have d8:=λx=>(HY.o.next (HF.o x)).2.2.2.2.2.2.2.2.2.1.2;have d9:=λx=>(HY.o.next (HF.o x)).2.2.2.2.2.2.2.2.2.2.1.2;have sw:=λx=>(HY.o.next (HF.o x)).2.2.2.2.2.2.2.2.2.2.2.1.2;have tX:=λx=>(HY.o.next (HF.o x)).2.2.2.2.2.2.2.2.2.2.2.2.1.2;have Av:=λx=>(HY.o.next (HF.o x)).2.2.2.2.2.2.2.2.2.2.2.2.2.1.2;have CQ:=λx=>(HY.o.next (HF.o x)).2.2.2.2.2.2.2.2.2.2.2.2.2.2.1.2;have vZ:=λx=>(HY.o.next (HF.o x)).2.2.2.2.2.2.2.2.2.2.2.2.2.2.2.1.2;have CS:=λx=>(HY.o.next (HF.o x)).2.2.2.2.2.2.2.2.2.2.2.2.2.2.2.2.1.2;have Aw:=λx=>(HY.o.next (HF.o x)).2.2.2.2.2.2.2.2.2.2.2.2.2.2.2.2.2.1.2;have CU:=λx=>(HY.o.next (HF.o x)).2.2.2.2.2.2.2.2.2.2.2.2.2.2.2.2.2.2.1.2;have Ay:=λx=>(HY.o.next (HF.o x)).2.2.2.2.2.2.2.2.2.2.2.2.2.2.2.2.2.2.2.1.2;clear c0 c1 c2 c3 c4 c5 c6 c7 c8 c9 c10 c11 c12 c13 c14 c15 c16 c17 c18;rcases Kr.o with⟨zW,uM⟩|⟨jj,zW,uM⟩
 case inr=>
  have Cr:=ah zW;have HR':aj (res=8):=ah (HR2.o.trans (by rw[uM];rfl));have hj0:(0:Int)<=(jj:Int):=ahe
  clear Kr HR2 zW uM;refine iR F ahd ahd hst ?_
  repeat (any_goals (first|go_big_quiet_step ((first|(go_at_call 73;refine(jO fs h.nm _ ko iD adn ((lK.o.same HY.o.1).same (HF.o _))).mono ?_;rintro e w' ⟨rfl,rfl⟩;rw[Cr.o];exact⟨rfl,eH.o _ _ (ak _ _)⟩)))|(refine wpQuiet_step (λK hK=> ?_);go_simp;first|(refine hK _ ?_;clear hK K)|(split <;> first|(refine hK _ ?_;clear hK K)|(apply Exists.intro;refine⟨λ_=> ?_,hK _ ?_⟩;((first|(go_at_call 73;refine(jO fs h.nm _ ko iD adn ((lK.o.same HY.o.1).same (HF.o _))).mono ?_;rintro e w' ⟨rfl,rfl⟩;rw[Cr.o];exact⟨rfl,eH.o _ _ (ak _ _)⟩)));clear hK K)))))
  all_goals (refine wpQuiet_nil ?_;rintro _ ⟨x,rfl⟩)
  replace HY:=ah (HY.o.next (HF.o x));clear d0 d1 d2 d3 d4 d5 d6 d7 d8 d9 sw tX Av CQ vZ CS Aw CU Ay HF eH hst;generalize F x=W2 at *;go_wp2_with fail;go_ret;exact BQ.err HI.o HR'.o (by rw[HR'.o];decide) HY.o.1
 have Cr:=ah zW;have HR':aj (res=0):=ah (HR2.o.trans (by rw[uM];rfl));clear Kr HR2 zW uM;refine iR F ahd ahd hst ?_
 repeat (any_goals (first|go_big_quiet_step ((first|(go_at_call 73;refine(jO fs h.nm _ ko iD adn ((lK.o.same HY.o.1).same (HF.o _))).mono ?_;rintro e w' ⟨rfl,rfl⟩;rw[Cr.o];exact⟨rfl,eH.o _ _ (ak _ _)⟩)))|(refine wpQuiet_step (λK hK=> ?_);go_simp;first|(refine hK _ ?_;clear hK K)|(split <;> first|(refine hK _ ?_;clear hK K)|(apply Exists.intro;refine⟨λ_=> ?_,hK _ ?_⟩;((first|(go_at_call 73;refine(jO fs h.nm _ ko iD adn ((lK.o.same HY.o.1).same (HF.o _))).mono ?_;rintro e w' ⟨rfl,rfl⟩;rw[Cr.o];exact⟨rfl,eH.o _ _ (ak _ _)⟩)));clear hK K)))))
 all_goals (refine wpQuiet_nil ?_;rintro _ ⟨x,rfl⟩)
 replace HY:=ah (HY.o.next (HF.o x));clear d0 d1 d2 d3 d4 d5 d6 d7 d8 d9 sw tX Av CQ vZ CS Aw CU Ay HF eH hst;generalize F x=W2 at *;have hI2:=HI.o.below HY.o.1;have HI2:=ah hI2;have K4: ∀w',Below W2.heap.size W2 w'->w'.cell? ⟨L.bc,4,none⟩=some (.slice ko fs.length iD):=λw' hb=>(eX (HI2.o.below hb).blk (j:=4) rfl).2;have K2: ∀w',Below W2.heap.size W2 w'->w'.cell? ⟨w.heap.size,2,none⟩=some (.string h.nm):=λw' hb=>(HY.o.next hb).2.2.2.2.2.1.2;have hd1:Below W2.heap.size W2 (W2.drewN 1):=below_drewN (ak _ _) 1;have hfs:=Sy.o;clear hI2 hq;go_upto_region 39 with fail;refine bS ahd rfl ?_;generalize W2.drewN 1=W5 at *;have hd2:Below W2.heap.size W2 (W5.alloc (.cells #[.string h.nm] 9)):=hd1.trans ((aA _ _).mono hd1.size);obtain⟨i0,hi0,hz0,hz1,hz2⟩:=Ro;obtain⟨gg,cap,w4,hrun,sK,qh,yj,yu⟩:=run_append_lies (P:=Tryz.prog) (W5.alloc (.cells #[.string h.nm] 9)) 31 31 L.B1 9 i0 _ 1 16 Tryz.underlying31 hi0 hz0 hz1 hz2 rfl ahe (.slice ko fs.length iD) fs.length (jX fs) (HI2.o.below hd2).rs ⟨W5.heap.size,0,none⟩ 1 1 [.string h.nm] rfl (World.news_of_block (cs:= #[.string h.nm]) (heap_alloc_new W5 _)) afH ahe afp ahe (HI2.o.below hd2).sz _ rfl;have Zv:=ah hrun;have HAD:=ah (HI2.o.bl2 wW.o hd2 sK qh yj);have eF:aj (w4.heap[L.bc]? =some (.cells (wkV p aK aM aG aD i (.slice dx A.length bV) (.slice ko fs.length iD) (.slice gU gs.length iC)) 109 (0,0))):=ah ((qh.block _ (Array.getElem?_eq_some_iff.1 (HI2.o.below hd2).blk).1 (λe'=>HI2.o.Mg (u:= .slice ko fs.length iD) ahg e'.symm)).trans (HI2.o.below hd2).blk);have k4:w4.cell? ⟨L.bc,4,none⟩=some (.slice ko fs.length iD):=(eX eF.o (j:=4) rfl).2;have f4:w4.frozen? ⟨L.bc,4,none⟩=false:=bC eF.o;clear hrun sK qh yj yu hi0 hz0 hz1 hz2 eF;refine bK 0 12 [7,8,11] [[],[],[1],[1,2],[1,2,3],[],[5],[5,6],[1,2,3,4,5,6,7],[0,1,2,3,4,5,6,7,8],[0,1,2,3,4,5,6,7,8,9],[0,1,2,3,4,5,6,7,8,9,10]] [[none,none,some false],[none,some false,some false],[none,some false,some false],[none,some false,some false],[none,some false,some false],[some false,some false,some false],[some false,some false,some false],[some false,some false,some false],[some true,some false,some false],[some true,some true,some false],[some true,some true,some false],[some true,some true,some false]] (C3 W5 (W5.alloc (.cells #[.string h.nm] 9)) w4 (w4.setCell ⟨L.bc,4,none⟩ (.slice (some ⟨gg,0,none⟩) (fs.length+1) cap))) (λ_ _=>True) [196,197,198,199,200,201,202,203,204,205,206] rfl rfl aip ahd ahd ahd ahd ahd aip (λ_=>trivial) aip rfl ?_;simp only[eB,iP]
 iterate 4
  apply bf.step
  case aZ=>intro c A w' hok hC hO hD;have e0:=hO 0 aip;simp[Act.eval]at e0;simp[Act.eval]at hD;simp[go_sem,gd,Oper.wp,hD,e0];exact aO.mk trivial (C3.skip aip aip aip hC) (bT.mk _ _)
  try simp only[bP]
 apply bf.step
 case aZ=>intro c A w' hok hC hO hD;simp[Act.eval]at hD;simp[go_sem,gd,Oper.wp,hD,K4,C3.low hd1 hd2 hok hC];exact aO.mk trivial (C3.skip aip aip aip hC) (bT.mk _ _)
 apply bf.step
 case aZ=>intro c A w' hok hC hO hD;have e3:=hO 3 aip;simp[Act.eval]at e3;simp[Act.eval]at hD;simp[go_sem,gd,Oper.wp,hD,e3];exact aO.mk trivial (C3.skip aip aip aip hC) (bT.mk _ _)
 apply bf.step
 case aZ=>intro c A w' hok hC hO hD;simp[Act.eval]at hD;simp[go_sem,gd,Oper.wp,hD,K2,C3.low hd1 hd2 hok hC];exact aO.mk trivial (C3.skip aip aip aip hC) (bT.mk _ _)
 try simp only[bP]
 apply bf.step
 case aZ=>intro c A' w' hok hC hO hD;obtain⟨rfl,rfl⟩:=C3.w1 hok hC;simp[Act.eval]at hD;simp[go_sem,gd,Oper.wp,hD];exact aO.mk trivial (C3.one aip aip aip) (bT.mk _ _)
 apply bf.step
 case aZ=>intro c A' w' hok hC hO hD;obtain⟨rfl,rfl⟩:=C3.w2 hok hC;simp[Act.eval]at hD;simp only[gd,if_true];refine wp_append_run _ _ _ (.slice ko fs.length iD) (.slice (some ⟨W5.heap.size,0,none⟩) 1 1) _ aip afN afN Zv.o ?_;exact aO.mk trivial (C3.two aip aip aip) (bT.mk _ _)
 try simp only[bP]
 iterate 2
  apply bf.step
  case aZ=>intro c A w' hok hC hO hD;simp[Act.eval]at hD;simp[go_sem,gd,Oper.wp,hD];exact aO.mk trivial (C3.skip aip aip aip hC) (bT.mk _ _)
  try simp only[bP]
 refine bf.some (λ_ _=>True) (λ_ _ _ _ _=>trivial) ?_ ?_
 ·intro c A' w' hok hC hO hD;obtain⟨rfl,rfl⟩:=C3.w3 hok hC;simp[Act.eval]at hD;simp[go_sem,gd,Oper.wp,hD,k4,f4];exact aO.qK (v:=undef) trivial (C3.three aip aip aip) trivial
 try simp only[bP]
 refine bf.done ?_;intro wy Xp;simp only[List.drop_zero];intro v0 h0 v1 h1 v2 h2 v3 h3 v4 h4 v5 h5 v6 h6 v7 h7 v8 h8 v9 h9 v10 h10 v11 h11;clear h0 h1 h2 h3 h4 h5 h6 h7 h8 h9 h10 h11;refine dH.nil ?_;refine cO rfl ?_;have Qg:wy=w4.setCell _ _:=Xp;rw[<- Qg]at HAD;clear Xp Qg k4 f4 K4 K2 hd1 hd2;go_simp;go_wp2_with fail;go_ret;exact⟨bW HR'.o.symm,(Kw.of_below HY.o.1).trans (lU.refl _ _) HAD.o.2.1,_,_,_,_,(lU.refl _ _).trans HAD.o.2.2 HY.o.1.size,HAD.o.1,λ_=>⟨rfl,rfl⟩⟩
theorem aw0 (L:sI) (p:Pr) (w:World) (aK aM:Option Addr) (aG aD:Nat) (i:Int) (A:List Fr) (fs gs:List ByteArray) (v vs ve:Value) (hI:ku w L p aK aM aG aD i A fs gs v vs ve) (h:dM) (b e:aY) (s:Sl) (hin:tV w L.B0 h b e s) (hi:dD i) (hA:A.length<=maxLen) (hfs:fs.length<=1000000000000) (hgs:gs.length<=1000000000000) (hop:h.op=14):
 Calls Tryz.prog 74 #[.pointer (some ⟨L.bc,0,none⟩),jH h b e s] w (BQ w L p aK aM aG aD i A fs gs v vs ve fs (gs++[h.nm]) (kC (if(kC (gy (conv (mean p i h.nm)) 6 6) (nest (eY (dG A) 7 7 ⟨#[]⟩||eY (dG A) 3 3 ⟨#[]⟩))==0)&&nO gs h.nm.toList then 8 else kC (gy (conv (mean p i h.nm)) 6 6) (nest (eY (dG A) 7 7 ⟨#[]⟩||eY (dG A) 3 3 ⟨#[]⟩))) (kZ p i h.dQ h.xn h.dP h.bG))):=by
 obtain⟨dx,bV,rfl,hat⟩:=hI.form;obtain⟨ko,iD,rfl,XC⟩:=hI.UW;obtain⟨gU,iC,rfl,XB⟩:=hI.UU;have hp:=hI.dat.use hI.b0;have hh:=hI.holds;have har:(dG A).len<=maxLen:=ahc
 have OQ:=ah hin;replace hin:=hin.use hI.b0;have HI:=ah hI;have lK:=ah XC;have Kq:=ah XB;generalize hres:(kC (if(kC (gy (conv (mean p i h.nm)) 6 6) (nest (eY (dG A) 7 7 ⟨#[]⟩||eY (dG A) 3 3 ⟨#[]⟩))==0)&&nO gs h.nm.toList then 8 else kC (gy (conv (mean p i h.nm)) 6 6) (nest (eY (dG A) 7 7 ⟨#[]⟩||eY (dG A) 3 3 ⟨#[]⟩))) (kZ p i h.dQ h.xn h.dP h.bG))=res;have HR:aj (res=(kC (if(kC (gy (conv (mean p i h.nm)) 6 6) (nest (eY (dG A) 7 7 ⟨#[]⟩||eY (dG A) 3 3 ⟨#[]⟩))==0)&&nO gs h.nm.toList then 8 else kC (gy (conv (mean p i h.nm)) 6 6) (nest (eY (dG A) 7 7 ⟨#[]⟩||eY (dG A) 3 3 ⟨#[]⟩))) (kZ p i h.dQ h.xn h.dP h.bG))):=ah (by rw[<- hres]);have dI:=ah hop;have wW:=ah hin.1.2.2.1;have Sy:=ah hfs;have Ke:=ah hgs;clear hres hop hI XC XB hA hfs hgs;have HH:=ah (show Sit w w _ from⟨ak _ _,hh⟩);have lZ:=ah hin;have jZ:=ah hat;have jM:=ah har;have HP:=ah hp;unfold jH;clear hh hin hat har hp;go_enter Tryz.func74,Tryz.ntmps74;go_upto_region 1 with fail;generalize hW:World.alloc w _=W;generalize Value.agg #[_,_,_,_,_,_,_,_,_,_,_]=a0;have HX:aj (Sit w W (qY w.heap.size h b e s (I6 L.bc p aK aM aG aD i dx (dG A).len bV ko fs.length iD gU gs.length iC))):=ah aaV;clear hW HH;have K0: ∀w',Below W.heap.size W w'->w'.cell? ⟨L.bc,0,none⟩=some (.slice aK p.ds.length aG):=λw' hb=>(HX.o.next hb).2.2.2.2.2.2.2.2.2.2.2.2.1.2;have K1: ∀w',Below W.heap.size W w'->w'.cell? ⟨L.bc,1,none⟩=some (.slice aM p.ts.length aD):=λw' hb=>(HX.o.next hb).2.2.2.2.2.2.2.2.2.2.2.2.2.1.2;have K2: ∀w',Below W.heap.size W w'->w'.cell? ⟨L.bc,2,none⟩=some (.int .i64 i):=λw' hb=>(HX.o.next hb).2.2.2.2.2.2.2.2.2.2.2.2.2.2.1.2;have HD1:Below W.heap.size W (W.drewN 1):=below_drewN (ak _ _) 1;refine bS ahd rfl ?_;generalize W.drewN 1=W1 at *;refine bK 0 11 [8,9] [[],[0],[0,1],[0,1,2],[],[4],[4,5],[4,5,6],[],[0,1,2,3,8],[0,1,2,3,4,5,6,7,8,9]] [[none,some false],[none,some false],[none,some false],[none,some false],[none,none],[none,none],[none,none],[none,none],[some false,some false],[some true,some false],[some true,some true]] (AC W1 (.cells #[.slice none 0 0,.slice none 0 0] 26) (.cells #[.slice aK p.ds.length aG,.slice aM p.ts.length aD] 26)) (λ_ _=>True) [15,16,17,18,19,20,21,22,5,6] rfl rfl aip ahd ahd ahd ahd ahd aip (λ_=>trivial) aip rfl ?_;simp only[eB,iP]
 iterate 8
  apply bf.step
  case aZ=>intro c A w' hok hC hO hD;have e0:=hO 0 aip;simp[Act.eval]at e0;simp[Act.eval]at hD;simp[go_sem,gd,Oper.wp,hD,e0,K0,K1,AC.below HD1 hC,K2];exact aO.mk trivial (AC.skip aip aip hC) (bT.mk _ _)
  try simp only[bP]
 apply bf.step
 case aZ=>intro c A w' hok hC hO hD;obtain⟨x,y,rfl⟩:=hC.bits;obtain⟨rfl,rfl,-⟩:=hok;have hw:w'=W1:=hC;subst hw;simp[go_sem,gd,Oper.wp];exact aO.mk trivial (AC.lay aip aip) (bT.mk _ _)
 refine bf.some (λ_ _=>True) (λ_ _ _ _ _=>trivial) ?_ ?_
 ·intro c A w' hok hC hO hD;obtain⟨x,y,rfl⟩:=hC.bits;obtain⟨rfl,rfl,-⟩:=hok;have hw:w'=W1.alloc _:=hC;subst hw;simp[Act.eval]at hD;simp[go_sem,gd,Oper.wp,hD];exact aO.qK (v:=undef) trivial (AC.fill aip aip) trivial
 try simp only[bP]
 apply bf.step
 case aZ=>intro c A w' hok hC hO hD;simp[Act.eval]at hD;simp[go_sem,gd,Oper.wp,hD];exact aO.mk trivial (AC.skip aip aip hC) (bT.mk _ _)
 try simp only[bP]
 refine bf.done ?_;intro wz bR;simp only[List.drop_zero];intro v0 h0 v1 h1 v2 h2 v3 h3 v4 h4 v5 h5 v6 h6 v7 h7 v8 h8 v9 h9 v10 h10;have h8':v8=_:=h8;have JG:v10=_:=h10;subst h8' JG;clear h0 h1 h2 h3 h4 h5 h6 h7 h8 h9 h10;refine dH.nil ?_;refine cO rfl ?_;have Gz:wz=W1.alloc _:=bR;generalize hn1:W1.heap.size=n1 at *;have HY:=ah ((HX.o.next HD1).wL hn1 (.slice aK p.ds.length aG) (.slice aM p.ts.length aD) 26);rw[<- Gz]at HY;have HN1:aj (w.heap.size<=n1):=ah (by rw[<- hn1];exact(HX.o.next HD1).1.size);clear bR Gz HX K0 K1 K2 HD1 hn1;go_simp;obtain⟨-,⟨-,c0⟩,⟨-,c1⟩,⟨-,c2⟩,⟨-,c3⟩,⟨-,c4⟩,⟨-,c5⟩,⟨-,c6⟩,⟨-,c7⟩,⟨-,c8⟩,⟨-,c9⟩,⟨-,c10⟩,⟨-,c11⟩,⟨-,c12⟩,⟨-,c13⟩,⟨-,c14⟩,⟨-,c15⟩,⟨-,c16⟩,⟨-,c17⟩,⟨-,c18⟩,-⟩:=HY.o;go_wp2_with fail;refine(iq p _ aK aM aG aD i dx bV L.bc ko fs.length iD gU gs.length iC (dG A) 7 7 ⟨#[]⟩ jM.o (jZ.o.same HY.o.1) (mG HY.o)).mono ?_;rintro e' W ⟨rfl,hb⟩;replace HY:=ah (HY.o.next hb);clear hb c0 c1 c2 c3 c4 c5 c6 c7 c8 c9 c10 c11 c12 c13 c14 c15 c16 c17 c18;obtain⟨-,⟨-,c0⟩,⟨-,c1⟩,⟨-,c2⟩,⟨-,c3⟩,⟨-,c4⟩,⟨-,c5⟩,⟨-,c6⟩,⟨-,c7⟩,⟨-,c8⟩,⟨-,c9⟩,⟨-,c10⟩,⟨-,c11⟩,⟨-,c12⟩,⟨-,c13⟩,⟨-,c14⟩,⟨-,c15⟩,⟨-,c16⟩,⟨-,c17⟩,⟨-,c18⟩,-⟩:=HY.o;go_wp2_with fail;refine(iq p _ aK aM aG aD i dx bV L.bc ko fs.length iD gU gs.length iC (dG A) 8 8 ⟨#[]⟩ jM.o (jZ.o.same HY.o.1) (mG HY.o)).mono ?_;rintro e' W ⟨rfl,hb⟩;replace HY:=ah (HY.o.next hb);clear hb c0 c1 c2 c3 c4 c5 c6 c7 c8 c9 c10 c11 c12 c13 c14 c15 c16 c17 c18;obtain⟨-,⟨-,c0⟩,⟨-,c1⟩,⟨-,c2⟩,⟨-,c3⟩,⟨-,c4⟩,⟨-,c5⟩,⟨-,c6⟩,⟨-,c7⟩,⟨-,c8⟩,⟨-,c9⟩,⟨-,c10⟩,⟨-,c11⟩,⟨-,c12⟩,⟨-,c13⟩,⟨-,c14⟩,⟨-,c15⟩,⟨-,c16⟩,⟨-,c17⟩,⟨-,c18⟩,-⟩:=HY.o;go_wp2_with fail;refine(iq p _ aK aM aG aD i dx bV L.bc ko fs.length iD gU gs.length iC (dG A) 3 3 ⟨#[]⟩ jM.o (jZ.o.same HY.o.1) (mG HY.o)).mono ?_;rintro e' W ⟨rfl,hb⟩;replace HY:=ah (HY.o.next hb);clear hb c0 c1 c2 c3 c4 c5 c6 c7 c8 c9 c10 c11 c12 c13 c14 c15 c16 c17 c18;obtain⟨-,⟨-,c0⟩,⟨-,c1⟩,⟨-,c2⟩,⟨-,c3⟩,⟨-,c4⟩,⟨-,c5⟩,⟨-,c6⟩,⟨-,c7⟩,⟨-,c8⟩,⟨-,c9⟩,⟨-,c10⟩,⟨-,c11⟩,⟨-,c12⟩,⟨-,c13⟩,⟨-,c14⟩,⟨-,c15⟩,⟨-,c16⟩,⟨-,c17⟩,⟨-,c18⟩,-⟩:=HY.o;generalize htx:eY (dG A) 7 7 ⟨#[]⟩=tx at *;generalize hat':eY (dG A) 8 8 ⟨#[]⟩=Ns at *;generalize hlo:eY (dG A) 3 3 ⟨#[]⟩=lop at *;clear htx hat' hlo;have hop:=dI.o;obtain⟨g1,g2,g3,g4,g5,g6,g7,g8,g9,g10,g11,g12,g13,g14,g15⟩:=QT hop;clear hop;go_upto_region 44 with fail;go_cut [14] (λs' W3=>s'= .int .i64 (kC (gy (conv (mean p i h.nm)) 6 6) (nest (tx||lop)))∧Sit w W3 ((n1,0,.slice aK p.ds.length aG)::(n1,1,.slice aM p.ts.length aD)::qY w.heap.size h b e s (I6 L.bc p aK aM aG aD i dx (dG A).len bV ko fs.length iD gU gs.length iC)))
 case first=>
  as_aux_lemma=>
   cases tx
   ·cases lop
    ·go_wp2_with fail;refine(iL p i h.nm 6 6 _ aK aM aG aD hi (HP.o.same HY.o.1)).mono ?_;rintro e' W ⟨rfl,hb⟩;replace HY:=ah (HY.o.next hb);clear hb c0 c1 c2 c3 c4 c5 c6 c7 c8 c9 c10 c11 c12 c13 c14 c15 c16 c17 c18;obtain⟨-,⟨-,c0⟩,⟨-,c1⟩,⟨-,c2⟩,⟨-,c3⟩,⟨-,c4⟩,⟨-,c5⟩,⟨-,c6⟩,⟨-,c7⟩,⟨-,c8⟩,⟨-,c9⟩,⟨-,c10⟩,⟨-,c11⟩,⟨-,c12⟩,⟨-,c13⟩,⟨-,c14⟩,⟨-,c15⟩,⟨-,c16⟩,⟨-,c17⟩,⟨-,c18⟩,-⟩:=HY.o;go_wp2_with fail;refine(iw _ _).mono ?_;rintro e' W' ⟨rfl,rfl⟩;go_wp2_with fail;refine(jw _ _ _).mono ?_;rintro e' W' ⟨rfl,rfl⟩;go_wp2_with fail;go_meet;exact⟨rfl,HY.o⟩
    ·go_wp2_with fail;refine(iL p i h.nm 6 6 _ aK aM aG aD hi (HP.o.same HY.o.1)).mono ?_;rintro e' W ⟨rfl,hb⟩;replace HY:=ah (HY.o.next hb);clear hb c0 c1 c2 c3 c4 c5 c6 c7 c8 c9 c10 c11 c12 c13 c14 c15 c16 c17 c18;obtain⟨-,⟨-,c0⟩,⟨-,c1⟩,⟨-,c2⟩,⟨-,c3⟩,⟨-,c4⟩,⟨-,c5⟩,⟨-,c6⟩,⟨-,c7⟩,⟨-,c8⟩,⟨-,c9⟩,⟨-,c10⟩,⟨-,c11⟩,⟨-,c12⟩,⟨-,c13⟩,⟨-,c14⟩,⟨-,c15⟩,⟨-,c16⟩,⟨-,c17⟩,⟨-,c18⟩,-⟩:=HY.o;go_wp2_with fail;refine(iw _ _).mono ?_;rintro e' W' ⟨rfl,rfl⟩;go_wp2_with fail;refine(jw _ _ _).mono ?_;rintro e' W' ⟨rfl,rfl⟩;go_wp2_with fail;go_meet;exact⟨rfl,HY.o⟩
   ·go_wp2_with fail;refine(iL p i h.nm 6 6 _ aK aM aG aD hi (HP.o.same HY.o.1)).mono ?_;rintro e' W ⟨rfl,hb⟩;replace HY:=ah (HY.o.next hb);clear hb c0 c1 c2 c3 c4 c5 c6 c7 c8 c9 c10 c11 c12 c13 c14 c15 c16 c17 c18;obtain⟨-,⟨-,c0⟩,⟨-,c1⟩,⟨-,c2⟩,⟨-,c3⟩,⟨-,c4⟩,⟨-,c5⟩,⟨-,c6⟩,⟨-,c7⟩,⟨-,c8⟩,⟨-,c9⟩,⟨-,c10⟩,⟨-,c11⟩,⟨-,c12⟩,⟨-,c13⟩,⟨-,c14⟩,⟨-,c15⟩,⟨-,c16⟩,⟨-,c17⟩,⟨-,c18⟩,-⟩:=HY.o;go_wp2_with fail;refine(iw _ _).mono ?_;rintro e' W' ⟨rfl,rfl⟩;go_wp2_with fail;refine(jw _ _ _).mono ?_;rintro e' W' ⟨rfl,rfl⟩;go_wp2_with fail;go_meet;exact⟨rfl,HY.o⟩
 obtain⟨rfl,hsit⟩:=hcut;replace HY:=ah hsit;clear hsit c0 c1 c2 c3 c4 c5 c6 c7 c8 c9 c10 c11 c12 c13 c14 c15 c16 c17 c18;obtain⟨W,rfl⟩: ∃W:World,W=wc:=⟨_,rfl⟩;generalize kC (gy (conv (mean p i h.nm)) 6 6) (nest (tx||lop))=e1 at *;obtain⟨-,⟨-,c0⟩,⟨-,c1⟩,⟨-,c2⟩,⟨-,c3⟩,⟨-,c4⟩,⟨-,c5⟩,⟨-,c6⟩,⟨-,c7⟩,⟨-,c8⟩,⟨-,c9⟩,⟨-,c10⟩,⟨-,c11⟩,⟨-,c12⟩,⟨-,c13⟩,⟨-,c14⟩,⟨-,c15⟩,⟨-,c16⟩,⟨-,c17⟩,⟨-,c18⟩,-⟩:=HY.o;have Kr:=ah (Gj gs h.nm);go_upto_region 45 with fail;go_cut [253] (λs' W3=>s'= .bool ((e1==0)&&nO gs h.nm.toList)∧Sit w W3 ((n1,0,.slice aK p.ds.length aG)::(n1,1,.slice aM p.ts.length aD)::qY w.heap.size h b e s (I6 L.bc p aK aM aG aD i dx (dG A).len bV ko fs.length iD gU gs.length iC)))
 case first=>
  as_aux_lemma=>
   obtain⟨T,F,Ad,hst,hF,hnext⟩:=calm W;have HF:=ah hF;have eH:=ah hnext;clear hnext hF;have d0:=λx=>(HY.o.next (HF.o x)).2.1.2;have d1:=λx=>(HY.o.next (HF.o x)).2.2.1.2;have d2:=λx=>(HY.o.next (HF.o x)).2.2.2.1.2;have d3:=λx=>(HY.o.next (HF.o x)).2.2.2.2.1.2;have d4:=λx=>(HY.o.next (HF.o x)).2.2.2.2.2.1.2;have d5:=λx=>(HY.o.next (HF.o x)).2.2.2.2.2.2.1.2;have d6:=λx=>(HY.o.next (HF.o x)).2.2.2.2.2.2.2.1.2;have d7:=λx=>(HY.o.next (HF.o x)).2.2.2.2.2.2.2.2.1.2;have d8:=λx=>(HY.o.next (HF.o x)).2.2.2.2.2.2.2.2.2.1.2;have d9:=λx=>(HY.o.next (HF.o x)).2.2.2.2.2.2.2.2.2.2.1.2;have sw:=λx=>(HY.o.next (HF.o x)).2.2.2.2.2.2.2.2.2.2.2.1.2;have tX:=λx=>(HY.o.next (HF.o x)).2.2.2.2.2.2.2.2.2.2.2.2.1.2;have Av:=λx=>(HY.o.next (HF.o x)).2.2.2.2.2.2.2.2.2.2.2.2.2.1.2;have CQ:=λx=>(HY.o.next (HF.o x)).2.2.2.2.2.2.2.2.2.2.2.2.2.2.1.2;have vZ:=λx=>(HY.o.next (HF.o x)).2.2.2.2.2.2.2.2.2.2.2.2.2.2.2.1.2;have CS:=λx=>(HY.o.next (HF.o x)).2.2.2.2.2.2.2.2.2.2.2.2.2.2.2.2.1.2;have Aw:=λx=>(HY.o.next (HF.o x)).2.2.2.2.2.2.2.2.2.2.2.2.2.2.2.2.2.1.2;have CU:=λx=>(HY.o.next (HF.o x)).2.2.2.2.2.2.2.2.2.2.2.2.2.2.2.2.2.2.1.2;have Ay:=λx=>(HY.o.next (HF.o x)).2.2.2.2.2.2.2.2.2.2.2.2.2.2.2.2.2.2.2.1.2;clear c0 c1 c2 c3 c4 c5 c6 c7 c8 c9 c10 c11 c12 c13 c14 c15 c16 c17 c18;cases he1:(e1==0)
   ·clear Kr;refine iR F ahd ahd hst ?_
    repeat (any_goals (first|go_big_quiet_step ((fail))|(refine wpQuiet_step (λK hK=> ?_);go_simp;first|(refine hK _ ?_;clear hK K)|(split <;> first|(refine hK _ ?_;clear hK K)|(apply Exists.intro;refine⟨λ_=> ?_,hK _ ?_⟩;((fail));clear hK K)))))
    all_goals (refine wpQuiet_nil ?_;rintro _ ⟨x,rfl⟩)
    replace HY:=ah (HY.o.next (HF.o x));clear d0 d1 d2 d3 d4 d5 d6 d7 d8 d9 sw tX Av CQ vZ CS Aw CU Ay HF eH hst;generalize F x=W2 at *;go_wp2_with fail;go_meet;exact⟨by first|(rw[he1];rfl)|simp[he1],HY.o⟩
   ·obtain rfl:e1=0:=(by simpa using he1);rcases Kr.o with⟨zW,uM⟩|⟨jj,zW,uM⟩
    ·have Cr:=ah zW;have Wm:=ah uM;clear Kr zW uM he1;refine iR F ahd ahd hst ?_
     repeat (any_goals (first|go_big_quiet_step ((first|(go_at_call 73;refine(jO gs h.nm _ gU iC ado ((Kq.o.same HY.o.1).same (HF.o _))).mono ?_;rintro e w' ⟨rfl,rfl⟩;rw[Cr.o];exact⟨rfl,eH.o _ _ (ak _ _)⟩)))|(refine wpQuiet_step (λK hK=> ?_);go_simp;first|(refine hK _ ?_;clear hK K)|(split <;> first|(refine hK _ ?_;clear hK K)|(apply Exists.intro;refine⟨λ_=> ?_,hK _ ?_⟩;((first|(go_at_call 73;refine(jO gs h.nm _ gU iC ado ((Kq.o.same HY.o.1).same (HF.o _))).mono ?_;rintro e w' ⟨rfl,rfl⟩;rw[Cr.o];exact⟨rfl,eH.o _ _ (ak _ _)⟩)));clear hK K)))))
     all_goals (refine wpQuiet_nil ?_;rintro _ ⟨x,rfl⟩)
     replace HY:=ah (HY.o.next (HF.o x));clear d0 d1 d2 d3 d4 d5 d6 d7 d8 d9 sw tX Av CQ vZ CS Aw CU Ay HF eH hst;generalize F x=W2 at *;go_wp2_with fail;go_meet;exact⟨afi,HY.o⟩
    ·have Cr:=ah zW;have Wm:=ah uM;have hj0:(0:Int)<=(jj:Int):=ahe;clear Kr zW uM he1;refine iR F ahd ahd hst ?_
     repeat (any_goals (first|go_big_quiet_step ((first|(go_at_call 73;refine(jO gs h.nm _ gU iC ado ((Kq.o.same HY.o.1).same (HF.o _))).mono ?_;rintro e w' ⟨rfl,rfl⟩;rw[Cr.o];exact⟨rfl,eH.o _ _ (ak _ _)⟩)))|(refine wpQuiet_step (λK hK=> ?_);go_simp;first|(refine hK _ ?_;clear hK K)|(split <;> first|(refine hK _ ?_;clear hK K)|(apply Exists.intro;refine⟨λ_=> ?_,hK _ ?_⟩;((first|(go_at_call 73;refine(jO gs h.nm _ gU iC ado ((Kq.o.same HY.o.1).same (HF.o _))).mono ?_;rintro e w' ⟨rfl,rfl⟩;rw[Cr.o];exact⟨rfl,eH.o _ _ (ak _ _)⟩)));clear hK K)))))
     all_goals (refine wpQuiet_nil ?_;rintro _ ⟨x,rfl⟩)
     replace HY:=ah (HY.o.next (HF.o x));clear d0 d1 d2 d3 d4 d5 d6 d7 d8 d9 sw tX Av CQ vZ CS Aw CU Ay HF eH hst;generalize F x=W2 at *;go_wp2_with fail;go_meet;exact⟨afi,HY.o⟩
 obtain⟨rfl,hsit⟩:=hcut;replace HY:=ah hsit;clear hsit c0 c1 c2 c3 c4 c5 c6 c7 c8 c9 c10 c11 c12 c13 c14 c15 c16 c17 c18 Kr;obtain⟨W2,rfl⟩: ∃W:World,W=wc:=⟨_,rfl⟩;generalize ((e1==0)&&nO gs h.nm.toList)=tb at *
 go_upto_if 253 with fail
 go_cut [14] (λs' W3=>s'= .int .i64 (if tb then 8 else e1)∧W2=W3)
 case first=>
  cases tb
  all_goals go_wp2_with fail
  all_goals go_meet
  all_goals exact⟨rfl,rfl⟩
 obtain⟨rfl,rfl⟩:=hcut;generalize (if tb=true then 8 else e1)=e2 at *;have hI2:=HI.o.below HY.o.1;have HI2:=ah hI2;have K4: ∀w',Below W2.heap.size W2 w'->w'.cell? ⟨L.bc,5,none⟩=some (.slice gU gs.length iC):=λw' hb=>(eX (HI2.o.below hb).blk (j:=5) rfl).2;have K2: ∀w',Below W2.heap.size W2 w'->w'.cell? ⟨w.heap.size,2,none⟩=some (.string h.nm):=λw' hb=>(HY.o.next hb).2.2.2.2.2.1.2;have hd1:Below W2.heap.size W2 (W2.drewN 1):=below_drewN (ak _ _) 1;have hgs:=Ke.o;clear hI2;go_upto_region 47 with fail;refine bS ahd rfl ?_;generalize W2.drewN 1=W5 at *;have hd2:Below W2.heap.size W2 (W5.alloc (.cells #[.string h.nm] 9)):=hd1.trans ((aA _ _).mono hd1.size);obtain⟨i0,hi0,hz0,hz1,hz2⟩:=Ro;obtain⟨gg,cap,w4,hrun,sK,qh,yj,yu⟩:=run_append_lies (P:=Tryz.prog) (W5.alloc (.cells #[.string h.nm] 9)) 31 31 L.B1 9 i0 _ 1 16 Tryz.underlying31 hi0 hz0 hz1 hz2 rfl ahe (.slice gU gs.length iC) gs.length (jX gs) (HI2.o.below hd2).re ⟨W5.heap.size,0,none⟩ 1 1 [.string h.nm] rfl (World.news_of_block (cs:= #[.string h.nm]) (heap_alloc_new W5 _)) afH ahe afp ahe (HI2.o.below hd2).sz _ rfl;have Zv:=ah hrun;have HAD:=ah (HI2.o.bk9 wW.o hd2 sK qh yj);have eF:aj (w4.heap[L.bc]? =some (.cells (wkV p aK aM aG aD i (.slice dx A.length bV) (.slice ko fs.length iD) (.slice gU gs.length iC)) 109 (0,0))):=ah ((qh.block _ (Array.getElem?_eq_some_iff.1 (HI2.o.below hd2).blk).1 (λe'=>HI2.o.Mg (u:= .slice gU gs.length iC) ahg e'.symm)).trans (HI2.o.below hd2).blk);have k4:w4.cell? ⟨L.bc,5,none⟩=some (.slice gU gs.length iC):=(eX eF.o (j:=5) rfl).2;have f4:w4.frozen? ⟨L.bc,5,none⟩=false:=bC eF.o;clear hrun sK qh yj yu hi0 hz0 hz1 hz2 eF;refine bK 0 12 [7,8,11] [[],[],[1],[1,2],[1,2,3],[],[5],[5,6],[1,2,3,4,5,6,7],[0,1,2,3,4,5,6,7,8],[0,1,2,3,4,5,6,7,8,9],[0,1,2,3,4,5,6,7,8,9,10]] [[none,none,some false],[none,some false,some false],[none,some false,some false],[none,some false,some false],[none,some false,some false],[some false,some false,some false],[some false,some false,some false],[some false,some false,some false],[some true,some false,some false],[some true,some true,some false],[some true,some true,some false],[some true,some true,some false]] (C3 W5 (W5.alloc (.cells #[.string h.nm] 9)) w4 (w4.setCell ⟨L.bc,5,none⟩ (.slice (some ⟨gg,0,none⟩) (gs.length+1) cap))) (λ_ _=>True) [254,255,256,257,258,259,260,261,262,263,264] rfl rfl aip ahd ahd ahd ahd ahd aip (λ_=>trivial) aip rfl ?_;simp only[eB,iP]
 iterate 4
  apply bf.step
  case aZ=>intro c A w' hok hC hO hD;have e0:=hO 0 aip;simp[Act.eval]at e0;simp[Act.eval]at hD;simp[go_sem,gd,Oper.wp,hD,e0];exact aO.mk trivial (C3.skip aip aip aip hC) (bT.mk _ _)
  try simp only[bP]
 apply bf.step
 case aZ=>intro c A w' hok hC hO hD;simp[Act.eval]at hD;simp[go_sem,gd,Oper.wp,hD,K4,C3.low hd1 hd2 hok hC];exact aO.mk trivial (C3.skip aip aip aip hC) (bT.mk _ _)
 apply bf.step
 case aZ=>intro c A w' hok hC hO hD;have e3:=hO 3 aip;simp[Act.eval]at e3;simp[Act.eval]at hD;simp[go_sem,gd,Oper.wp,hD,e3];exact aO.mk trivial (C3.skip aip aip aip hC) (bT.mk _ _)
 apply bf.step
 case aZ=>intro c A w' hok hC hO hD;simp[Act.eval]at hD;simp[go_sem,gd,Oper.wp,hD,K2,C3.low hd1 hd2 hok hC];exact aO.mk trivial (C3.skip aip aip aip hC) (bT.mk _ _)
 try simp only[bP]
 apply bf.step
 case aZ=>intro c A' w' hok hC hO hD;obtain⟨rfl,rfl⟩:=C3.w1 hok hC;simp[Act.eval]at hD;simp[go_sem,gd,Oper.wp,hD];exact aO.mk trivial (C3.one aip aip aip) (bT.mk _ _)
 apply bf.step
 case aZ=>intro c A' w' hok hC hO hD;obtain⟨rfl,rfl⟩:=C3.w2 hok hC;simp[Act.eval]at hD;simp only[gd,if_true];refine wp_append_run _ _ _ (.slice gU gs.length iC) (.slice (some ⟨W5.heap.size,0,none⟩) 1 1) _ aip afN afN Zv.o ?_;exact aO.mk trivial (C3.two aip aip aip) (bT.mk _ _)
 try simp only[bP]
 iterate 2
  apply bf.step
  case aZ=>intro c A w' hok hC hO hD;simp[Act.eval]at hD;simp[go_sem,gd,Oper.wp,hD];exact aO.mk trivial (C3.skip aip aip aip hC) (bT.mk _ _)
  try simp only[bP]
 refine bf.some (λ_ _=>True) (λ_ _ _ _ _=>trivial) ?_ ?_
 ·intro c A' w' hok hC hO hD;obtain⟨rfl,rfl⟩:=C3.w3 hok hC;simp[Act.eval]at hD;simp[go_sem,gd,Oper.wp,hD,k4,f4];exact aO.qK (v:=undef) trivial (C3.three aip aip aip) trivial
 try simp only[bP]
 refine bf.done ?_;intro wy Xp;simp only[List.drop_zero];intro v0 h0 v1 h1 v2 h2 v3 h3 v4 h4 v5 h5 v6 h6 v7 h7 v8 h8 v9 h9 v10 h10 v11 h11;clear h0 h1 h2 h3 h4 h5 h6 h7 h8 h9 h10 h11;refine dH.nil ?_;refine cO rfl ?_;have Qg:wy=w4.setCell _ _:=Xp;rw[<- Qg]at HAD;clear Xp Qg k4 f4 K4 K2 hd1 hd2;go_simp;have OT:aj (∀k,k<W2.heap.size->w.heap.size<=k->wy.heap[k]? =W2.heap[k]?):=ah (λk hk hw=>HAD.o.2.1.far hk (aR HI.o.sz hw) (λe=>by have:=(HI.o.own k e).2;omega));have hY:=HY.o;have z0:wy.cell? ⟨n1,0,none⟩=some (.slice aK p.ds.length aG):=(World.cell?_of_block (a:=⟨n1,0,none⟩) (OT.o n1 hY.2.1.1 HN1.o)).trans hY.2.1.2;have z1:wy.cell? ⟨n1,1,none⟩=some (.slice aM p.ts.length aD):=(World.cell?_of_block (a:=⟨n1,1,none⟩) (OT.o n1 hY.2.1.1 HN1.o)).trans hY.2.2.1.2;have hn0:w.heap.size<W2.heap.size:=hY.2.2.2.1.1;have z5:wy.cell? ⟨w.heap.size,5,none⟩=some (.int .i64 h.dQ):=(World.cell?_of_block (a:=⟨w.heap.size,5,none⟩) (OT.o _ hn0 (aH _))).trans hY.2.2.2.2.2.2.2.2.1.2;have z6:wy.cell? ⟨w.heap.size,6,none⟩=some (.int .i64 h.xn):=(World.cell?_of_block (a:=⟨w.heap.size,6,none⟩) (OT.o _ hn0 (aH _))).trans hY.2.2.2.2.2.2.2.2.2.1.2;have z7:wy.cell? ⟨w.heap.size,7,none⟩=some (.string h.dP):=(World.cell?_of_block (a:=⟨w.heap.size,7,none⟩) (OT.o _ hn0 (aH _))).trans hY.2.2.2.2.2.2.2.2.2.2.1.2;have z8:wy.cell? ⟨w.heap.size,8,none⟩=some (.slice s.fD h.bG.len s.dS):=(World.cell?_of_block (a:=⟨w.heap.size,8,none⟩) (OT.o _ hn0 (aH _))).trans hY.2.2.2.2.2.2.2.2.2.2.2.1.2;have VP:aj (h.bG.At wy L.B0 s.fD 0):=ah (OQ.o.2.2.1.below ((HY.o.1.mono HI.o.b0).trans (HAD.o.2.1.below HI2.o.b0 (λk e=>(HI2.o.own k e).1))));clear hY hn0 OT;go_wp2_with fail;refine(jh p i h.dQ h.xn h.dP h.bG _ aK aM s.fD aG aD s.dS hi (HAD.o.1.dat.use HAD.o.1.b0) lZ.o.1.2.2.2.2.2.1 (VP.o.mono HAD.o.1.b0)).mono ?_;rintro e' W6 ⟨rfl,hb6⟩;have oV:=ah hb6;clear hb6 z0 z1 z5 z6 z7 z8;go_wp2_with fail;refine(jw _ _ _).mono ?_;rintro e' W' ⟨rfl,rfl⟩;go_wp2_with fail;go_ret;exact⟨bW HR.o.symm,((Kw.of_below HY.o.1).trans (lU.refl _ _) HAD.o.2.1).trans ((lU.refl _ _).trans HAD.o.2.2 HY.o.1.size) (Kw.of_below oV.o),_,_,_,_,(lU.refl _ _).trans HAD.o.2.2 HY.o.1.size,HAD.o.1.below oV.o,λ_=>⟨rfl,rfl⟩⟩
end Go.Proofs.YtldapdcphphodaaGreatDoor
