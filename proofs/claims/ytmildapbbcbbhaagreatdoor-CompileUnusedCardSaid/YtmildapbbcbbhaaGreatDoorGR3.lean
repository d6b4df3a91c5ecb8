/- Contracts of the reference's or, nesting, and of its walk's inside. And what hangs on it. -/
import Derived.Test.YtmildapbbcbbhaaGreatDoorGR1
set_option linter.unusedSimpArgs false
set_option linter.unusedVariables false
set_option maxHeartbeats 40000000
set_option maxRecDepth 1000000
namespace Go.Proofs.YtmildapbbcbbhaaGreatDoor
open Go.RowKit
namespace Md
def kJ (a b:Int):Int:=if a != 0 then a else b
def eZ:aY->Int->Int->ByteArray->Bool
 | .nil,_,_,_=>false
 | .cons h _ _ r,a,b,nm=>((h.op==a||h.op==b)&&(nm.toList.isEmpty||h.nm.toList==nm.toList))||eZ r a b nm
end Md
open Md
def Hg (bc:Nat) (p:Pr) (aK aM:Option Addr) (aH aD:Nat) (i:Int) (cK:Option Addr) (wJ bQ:Nat) (kC:Option Addr) (pz iY:Nat) (jJ:Option Addr) (pq iX:Nat):List (Nat×Nat×Value):=
 [(bc,0,.slice aK p.ds.length aH),(bc,1,.slice aM p.ts.length aD),(bc,2,.int .i64 i),(bc,3,.slice cK wJ bQ),(bc,4,.slice kC pz iY),(bc,5,.slice jJ pq iX)]
theorem iQ (b:Bool) (w:World):
 Calls Tryz.prog 85 #[.bool b] w λe w'=>e= .returned (.int .i64 (nest b))∧w=w':=by
 cases b
 all_goals go_enter Tryz.func85,Tryz.ntmps85;go_wp2;go_ret;exact⟨rfl,rfl⟩
theorem jI (a b:Int) (w:World):
 Calls Tryz.prog 82 #[.int .i64 a,.int .i64 b] w λe w'=>e= .returned (.int .i64 (kJ a b))∧w=w':=by
 generalize hres:kJ a b=res;have HR:=ah hres;clear hres;cases ha:(a != 0)
 all_goals go_enter Tryz.func82,Tryz.ntmps82;go_wp2;go_ret;exact⟨bV (by rw[<- HR.o];unfold kJ;rw[ha];rfl),rfl⟩
section
variable (p:Pr) (w:World) (aK aM:Option Addr) (aH aD:Nat) (i:Int) (cK:Option Addr) (bQ bc:Nat) (kC:Option Addr) (pz iY:Nat) (jJ:Option Addr) (pq iX:Nat)
theorem iN (ar:aY) (a b':Int) (nm:ByteArray) (har:ar.len<=maxLen) (hat:ar.At w w.heap.size cK 0) (hh:Holds w (Hg bc p aK aM aH aD i cK ar.len bQ kC pz iY jJ pq iX)):
 Calls Tryz.prog 81 #[.pointer (some ⟨bc,0,none⟩),.int .i64 a,.int .i64 b',.string nm] w λe w'=>e= .returned (.bool (eZ ar a b' nm))∧Below w.heap.size w w':=by
 have HH:=ah (show Sit w w _ from⟨ak _ _,hh⟩);have HAT:=ah hat;generalize hres:eZ ar a b' nm=res;have HR:=ah hres;unfold maxLen at har;clear hh hat hres;go_enter Tryz.func81,Tryz.ntmps81;go_wp2_with fail;go_loopg [9,10] ar.len (λg s _ wr=> ∃(k:Nat) (R:aY),g=R.len∧s= .int .i64 k∧k+R.len=ar.len∧res=eZ R a b' nm∧R.At wr wr.heap.size cK k∧Sit w wr (Hg bc p aK aM aH aD i cK ar.len bQ kC pz iY jJ pq iX))
 case atStart=>exact⟨0,ar,rfl,rfl,by simp,HR.o.symm,HAT.o,HH.o⟩
 case round=>
  obtain⟨k,R,rfl,rfl,hlen,heq,hrow,hB⟩:=hrel;have HE:=ah heq;have HB:=ah hB;clear heq hB HH;obtain⟨-,⟨-,c0⟩,⟨-,c1⟩,⟨-,c2⟩,⟨-,c3⟩,⟨-,c4⟩,⟨-,c5⟩,-⟩:=HB.o;cases R with
  |nil=>
   obtain rfl:k=ar.len:=by simpa[aY.len]using hlen
   go_wp2_with fail;go_ret;exact⟨bR HE.o.symm,HB.o.1⟩
  |cons h b e R=>
   obtain⟨bl,off,s,rfl,hbl,hin,x0,x1,x2,x3,x4,x5,x6,x7,x8,x9,x10,hrest⟩:=aY.At.head hrow;have hkl:k<ar.len:=by simp only[aY.len]at hlen;omega
   clear hrow hin;go_upto_region 5 with fail;obtain⟨nb,hnb⟩: ∃n,wr.heap.size=n:=⟨_,rfl⟩;generalize hW2:World.alloc wr _=W2;have HY:aj (Sit wr W2 (rA nb h b e s [])):=ah (by rw[<- hW2];exact(Sit.start wr).uW hnb _ _ _ _ _ _ _ _ _ _ _ _);have HB2:=ah (HB.o.next HY.o.1);have mQ:=ah (hrest.same HY.o.1);rw[hnb];clear hW2 hnb x0 x1 x2 x3 x4 x5 x6 x7 x8 x9 x10 hrest c0 c1 c2 c3 c4 c5;obtain⟨-,⟨-,c0⟩,⟨-,c1⟩,⟨-,c2⟩,⟨-,c3⟩,⟨-,c4⟩,⟨-,c5⟩,⟨-,c6⟩,⟨-,c7⟩,⟨-,c8⟩,⟨-,c9⟩,⟨-,c10⟩,-⟩:=HY.o;clear c1 c3 c4 c5 c6 c7 c8 c9 c10;go_cut [46] (λs' W3=>W2=W3∧s'= .bool ((h.op==a||h.op==b')&&(nm.toList.isEmpty||h.nm.toList==nm.toList)))
   case first=>
    as_aux_lemma=>
     cases ha:(h.op==a)
     all_goals cases hb:(h.op==b')
     all_goals cases hn:nm.toList.isEmpty
     all_goals cases hm:(h.nm.toList==nm.toList)
     all_goals go_wp2_with fail
     all_goals go_meet
     all_goals exact⟨rfl,by first|rfl|(rw[ha,hb,hn,hm];rfl)|(simp[ha,hb,hn,hm])⟩
   obtain⟨rfl,rfl⟩:=hcut;have HE2:aj (res=(((h.op==a||h.op==b')&&(nm.toList.isEmpty||h.nm.toList==nm.toList))||eZ R a b' nm)):=ah (HE.o.trans (by rw[eZ]));generalize ((h.op==a||h.op==b')&&(nm.toList.isEmpty||h.nm.toList==nm.toList))=t at *;cases t
   ·go_wp2_with fail;go_roundg R.len
    case measure=>simp[aY.len]
    case rel=>exact⟨k+1,R,rfl,by go_num,by simp only[aY.len]at hlen;omega,HE2.o,mQ.o,HB2.o⟩
   ·go_wp2_with fail;go_ret;exact⟨bR HE2.o.symm,HB2.o.1⟩
end
def AC (W1:World) (z v:Obj):List Bool->World->Prop
 | [false,false],w'=>w'=W1
 | [true,false],w'=>w'=W1.alloc z
 | [true,true],w'=>w'=W1.alloc v
 |_,_=>False
theorem AC.bits {W1:World} {z v:Obj} : ∀ {c:List Bool} {w':World},AC W1 z v c w'->∃x y,c=[x,y]
 | [x,y],_,_=>⟨x,y,rfl⟩
 | [],_,h=>h.elim
 | [true],_,h=>h.elim
 | [false],_,h=>h.elim
 |_::_::_::_,_,h=>by simp[AC]at h
theorem AC.skip {W1:World} {z v:Obj} {a1 a2 i:Nat} {c:List Bool} {w':World} (h1:(a1==i)=false) (h2:(a2==i)=false) (h:AC W1 z v c w'):AC W1 z v (jw [a1,a2] c i) w':=by
 obtain⟨x,y,rfl⟩:=h.bits;simpa[jw,h1,h2]using h
theorem AC.lay {W1:World} {z v:Obj} {a1 a2 i:Nat} (h1:(a1==i)=true) (h2:(a2==i)=false):AC W1 z v (jw [a1,a2] [false,false] i) (W1.alloc z):=by
 simp only[jw,h1,h2,Bool.or_false,Bool.or_true];rfl
theorem AC.fill {W1:World} {z v:Obj} {a1 a2 i:Nat} (h1:(a1==i)=false) (h2:(a2==i)=true):AC W1 z v (jw [a1,a2] [true,false] i) (W1.alloc v):=by
 simp only[jw,h1,h2,Bool.or_false,Bool.or_true];rfl
theorem AC.below {W W1:World} {z v:Obj} {c:List Bool} {w':World} (hb:Below W.heap.size W W1) (h:AC W1 z v c w'):Below W.heap.size W w':=by
 obtain⟨x,y,rfl⟩:=h.bits;cases x <;> cases y
 ·have h:w'=W1:=h;rw[h];exact hb
 ·exact h.elim
 ·have h:w'=W1.alloc z:=h;rw[h];exact hb.trans ((au _ _).mono hb.size)
 ·have h:w'=W1.alloc v:=h;rw[h];exact hb.trans ((au _ _).mono hb.size)
namespace Md
theorem Xb:(⟨#[]⟩:ByteArray).toList=[]:=by simp[Lib.toList_data]
theorem om (k:Int): ∀ar:aY,eZ ar k k ⟨#[]⟩=fF ar [k]
 | .nil=>rfl
 | .cons h b e r=>by simp[eZ,fF,om k r,Xb]
theorem Jy (k:Int) (nm:ByteArray) (hn:nm.toList.isEmpty=false): ∀ar:aY,eZ ar k k nm=qV ar nm [k]
 | .nil=>rfl
 | .cons h b e r=>by simp[eZ,qV,Jy k nm hn r,hn]
theorem Jz (a b:Int) (nm:ByteArray) (hn:nm.toList.isEmpty=false): ∀ar:aY,eZ ar a b nm=qV ar nm [a,b]
 | .nil=>rfl
 | .cons h _ _ r=>by simp only[eZ,qV,Jz a b nm hn r,hn,List.any_cons,List.any_nil,Bool.or_false,Bool.false_or];cases h.op==a <;> cases h.op==b <;> cases h.nm.toList==nm.toList <;> rfl
theorem F4 (a b:Int): ∀ar:aY,fF ar [a,b]=(fF ar [a]||fF ar [b])
 | .nil=>rfl
 | .cons h _ _ r=>by simp only[fF,F4 a b r,List.any_cons,List.any_nil,Bool.or_false];cases h.op==a <;> cases h.op==b <;> cases fF r [a] <;> cases fF r [b] <;> rfl
theorem KS (a b c:Int): ∀ar:aY,fF ar [a,b,c]=((fF ar [a]||fF ar [b])||fF ar [c])
 | .nil=>rfl
 | .cons h _ _ r=>by simp only[fF,KS a b c r,List.any_cons,List.any_nil,Bool.or_false];cases h.op==a <;> cases h.op==b <;> cases h.op==c <;> cases fF r [a] <;> cases fF r [b] <;> cases fF r [c] <;> rfl
theorem uy (a b:Int):gu [a,b]=kJ a b:=by
 unfold gu kJ;cases ha:a != 0
 ·simp[gu];intro h;exact h.symm
 ·simp
theorem DJ (a b c:Int):gu [a,b,c]=kJ a (kJ b c):=by
 rw[<- uy b c];rfl
theorem nC (p:Pr) (i:Int) (nm:ByteArray) (k a:Int) (hk:0<=k∧k<=9) (ha:conv k=a):dQ (mean p i nm) [k]=gM (conv (mean p i nm)) a a:=by
 subst ha;exact(Rk _ k (Bo p i nm) hk).symm
theorem Vk (p:Pr) (i:Int) (nm:ByteArray):dQ (mean p i nm) [1,2]=gM (conv (mean p i nm)) 8 1:=
 (Rl _ 1 2 (Bo p i nm) (by decide) (by decide)).symm
theorem Ku {p:Pr} {i:Int} {nm:ByteArray} (h:gM (conv (mean p i nm)) 5 5=0): ∃(k:Nat) (d:De) (r:List De),k<p.ds.length∧fidx (λd:De=>d.nm.toList==nm.toList) p.ds 0=(k:Int)∧p.ds.drop k=d::r∧d∈p.ds∧d.kind=5∧jY p.ds nm=d.on:=by
 have h6:mean p i nm=6:=by rw[<- nC p i nm 6 5 (by decide) rfl]at h;exact sF h
 rcases pO (λd:De=>d.nm.toList==nm.toList) p.ds 0 with⟨-,hn,-⟩|⟨k,d,r,hk,hf,hd,hs,-⟩
 ·exfalso;unfold mean nT qL at h6;rw[hn]at h6;split at h6
  ·cases h6
  ·simp only[Option.map_none,Option.getD_none]at h6;split at h6 <;> cases h6
 ·have hdm:gI d=6:=by
   unfold mean nT at h6;rw[hs]at h6;split at h6
   ·cases h6
   ·simpa using h6
  have h5:d.kind=5:=by unfold gI at hdm;grind
  refine⟨k,d,r,hk,by simpa using hf,hd,List.mem_of_find?_eq_some hs,h5,?_⟩;unfold jY;have:p.ds.find? (λd=>d.kind==5&&d.nm.toList==nm.toList)=some d:=by
   clear hf hd hk h6 hdm h;revert hs
   induction p.ds with
   |nil=>intro hs;simp at hs
   |cons x r ih=>
    intro hs;rw[List.find?_cons]at hs⊢;cases hx:x.nm.toList==nm.toList
    ·rw[hx]at hs;simp only[Bool.and_false];exact ih hs
    ·rw[hx]at hs;injection hs with hs;subst hs;simp[h5]
  rw[this];rfl
end Md
theorem mM {p:Pr} {w W:World} {aK aM:Option Addr} {aH aD:Nat} {i:Int} {cK:Option Addr} {wJ bQ bc:Nat} {kC:Option Addr} {pz iY:Nat} {jJ:Option Addr} {pq iX n0 n1:Nat} {h:dD} {b e:aY} {s:Sl} {u v:Value}
 (hs:Sit w W ((n1,0,u)::(n1,1,v)::rA n0 h b e s (Hg bc p aK aM aH aD i cK wJ bQ kC pz iY jJ pq iX))):Holds W (Hg bc p aK aM aH aD i cK wJ bQ kC pz iY jJ pq iX):=hs.2.2.2.2.2.2.2.2.2.2.2.2.2.2
def wkV (p:Pr) (aK aM:Option Addr) (aH aD:Nat) (i:Int) (v vs ve:Value):Array Value:= #[.slice aK p.ds.length aH,.slice aM p.ts.length aD,.int .i64 i,v,vs,ve]
structure sj where
 B0:Nat
 B1:Nat
 bc:Nat
 c0:B0<=bc
 c1:bc<B1
def SF (w:World) (B0:Nat) (p:Pr) (aK aM:Option Addr):Prop:=p.ds.length<=maxLen∧p.ts.length<=maxLen∧jo w B0 p.ds aK 0∧iJ w B0 p.ts aM 0
theorem SF.below {w w':World} {B0:Nat} {p:Pr} {aK aM:Option Addr} (h:SF w B0 p aK aM) (hb:Below B0 w w'):SF w' B0 p aK aM:=⟨h.1,h.2.1,h.2.2.1.below hb,h.2.2.2.below hb⟩
theorem SF.use {w:World} {B0:Nat} {p:Pr} {aK aM:Option Addr} (h:SF w B0 p aK aM) (hB:B0<=w.heap.size):p.At w aK aM:=⟨h.1,h.2.1,h.2.2.1.mono hB,h.2.2.2.mono hB⟩
def nQ (l:List ByteArray):List Value:=l.map .string
def Own (V:List Value) (k:Nat):Prop:= ∃u∈V,u.ownBlock=some k
structure Kw (L:sj) (V:List Value) (w w':World):Prop where
 os:w'.os=w.os
 tape:w'.tape=w.tape
 output:w'.output=w.output
 size:w.heap.size<=w'.heap.size
 block: ∀k,k<w.heap.size->k≠L.bc-> ¬Own V k->w'.heap[k]? =w.heap[k]?
def mH (w:World) (V V':List Value):Prop:= ∀k,Own V' k->Own V k∨w.heap.size<=k
theorem Kw.refl (L:sj) (V:List Value) (w:World):Kw L V w w:=⟨rfl,rfl,rfl,aB _,λ_ _ _ _=>rfl⟩
theorem Kw.of_below {L:sj} {V:List Value} {w w':World} (h:Below w.heap.size w w'):Kw L V w w':=⟨h.os,h.tape,h.output,h.size,λk hk _ _=>h.block k hk⟩
theorem Kw.trans {L:sj} {V V1:List Value} {w w1 w2:World} (h:Kw L V w w1) (ho:mH w V V1) (k:Kw L V1 w1 w2):Kw L V w w2:=
 ⟨k.os.trans h.os,k.tape.trans h.tape,k.output.trans h.output,aP h.size k.size,λj hj hc hv=>(k.block j (aG hj h.size) hc (λe=>by
   rcases ho j e with e|e
   ·exact hv e
   ·omega)).trans (h.block j hj hc hv)⟩
theorem Kw.below {L:sj} {V:List Value} {w w':World} (h:Kw L V w w') (hB:L.B0<=w.heap.size) (hv: ∀k,Own V k->L.B1<=k):Below L.B0 w w':=
 ⟨h.os,h.tape,h.output,h.size,λk hk=>h.block k (by omega) (by have:=L.c0;omega) (λe=>by have:=hv k e;have:=L.c0;have:=L.c1;omega)⟩
theorem Kw.far {L:sj} {V:List Value} {w w':World} {k:Nat} (h:Kw L V w w') (hk:k<w.heap.size) (hB:L.B1<=k) (hv: ¬Own V k):w'.heap[k]? =w.heap[k]?:=
 h.block k hk (by have:=L.c1;omega) hv
theorem mH.refl (w:World) (V:List Value):mH w V V:=λ_ h=> .inl h
theorem mH.trans {w w1:World} {V V1 V2:List Value} (h:mH w V V1) (k:mH w1 V1 V2) (hs:w.heap.size<=w1.heap.size):mH w V V2:=λj hj=>by
 rcases k j hj with e|e
 ·exact h j e
 ·exact .inr (aP hs e)
theorem mH.ne {w:World} {V V':List Value} {k:Nat} (h:mH w V V') (hk:k<w.heap.size) (hv: ¬Own V k): ¬Own V' k:=λe=>by
 rcases h k e with e|e
 ·exact hv e
 ·omega
theorem lN {w w':World} {base:Nat} {e:TypeId} {size n:Nat} {v:Value} {xs:List Value} (h:w.ownsRow base e size v n xs) (hb: ∀k,v.ownBlock=some k->w'.heap[k]? =w.heap[k]?):w'.ownsRow base e size v n xs:=by
 refine⟨h.1,?_⟩;rcases h.2 with h1|⟨g,cap,cur,hv,h1,h2,h3⟩
 ·exact .inl h1
 ·exact .inr ⟨g,cap,cur,hv,h1,(hb g (by rw[hv];rfl)).trans h2,h3⟩
theorem Rf {w:World} {g:Nat} (hg:g<w.heap.size): ∀(l:List ByteArray) (k:Nat),(∀j u,(nQ l)[j]? =some u->w.cell? ⟨g,k+j,none⟩=some u)->(∀s∈l,s.size<=maxLen)->fJ w w.heap.size l (some ⟨g,0,none⟩) k
 | [],_,_,_=>trivial
 |s::r,k,hc,hs=>by
  refine⟨⟨g,0,rfl,hg,?_,hs s (by simp)⟩,Rf hg r (k+1) (λj u hu=> ?_) (λy hy=>hs y (by simp[hy]))⟩
  ·rw[aU];exact hc 0 _ rfl
  ·rw[Nat.add_assoc,Nat.add_comm 1 j];exact hc (j+1) u (by simpa[nQ]using hu)
theorem Ub {w:World} {base:Nat} {e:TypeId} {v:Value} {l:List ByteArray} (h:w.ownsRow base e 1 v l.length (nQ l)) (hs: ∀s∈l,s.size<=maxLen): ∃ao cap,v= .slice ao l.length cap∧fJ w w.heap.size l ao 0:=by
 rcases h.2 with⟨rfl,hn⟩|⟨g',cap,cur,rfl,hb,hg,h1,h2,h3,h4⟩
 ·have:l=[]:=List.eq_nil_of_length_eq_zero hn;subst this;exact⟨none,0,rfl,trivial⟩
 ·refine⟨_,_,rfl,Rf (aO hg) l 0 (λj u hu=> ?_) hs⟩;rw[aU,cell_of_row w g' j cur _ (0,0) hg];rw[<- h4,List.getElem?_take]at hu;split at hu
  ·simpa using hu
  ·cases hu
structure kI (w:World) (L:sj) (p:Pr) (aK aM:Option Addr) (aH aD:Nat) (i:Int) (A:List Fr) (fs gs:List ByteArray) (v vs ve:Value):Prop where
 blk:w.heap[L.bc]? =some (.cells (wkV p aK aM aH aD i v vs ve) 90 (0,0))
 row:w.ownsRow L.B1 62 11 v A.length (AQ A)
 rs:w.ownsRow L.B1 9 1 vs fs.length (nQ fs)
 re:w.ownsRow L.B1 9 1 ve gs.length (nQ gs)
 d1: ∀k,v.ownBlock=some k->vs.ownBlock≠some k
 d2: ∀k,v.ownBlock=some k->ve.ownBlock≠some k
 d3: ∀k,vs.ownBlock=some k->ve.ownBlock≠some k
 sz:L.B1<=w.heap.size
 dat:SF w L.B0 p aK aM
 qg:YT w L.B0 A
 fo: ∀s∈fs,s.size<=maxLen
 go: ∀s∈gs,s.size<=maxLen
section
variable {w:World} {L:sj} {p:Pr} {aK aM:Option Addr} {aH aD:Nat} {i:Int} {A:List Fr} {fs gs:List ByteArray} {v vs ve:Value}
theorem kI.b0 (h:kI w L p aK aM aH aD i A fs gs v vs ve):L.B0<=w.heap.size:=by have:=h.sz;have:=L.c0;have:=L.c1;omega
theorem uL {k:Nat} :Own [v,vs,ve] k↔v.ownBlock=some k∨vs.ownBlock=some k∨ve.ownBlock=some k:=by
 unfold Own;simp
theorem kI.own (h:kI w L p aK aM aH aD i A fs gs v vs ve): ∀k,Own [v,vs,ve] k->L.B1<=k∧k<w.heap.size:=λk hk=>by
 rcases uL.1 hk with e|e|e
 ·exact h.row.lt k e
 ·exact h.rs.lt k e
 ·exact h.re.lt k e
theorem kI.form (h:kI w L p aK aM aH aD i A fs gs v vs ve): ∃cK bQ,v= .slice cK A.length bQ∧(dA A).At w w.heap.size cK 0:=by
 rcases h.row.2 with⟨rfl,hn⟩|⟨g',cap,cur,rfl,hb,hg,h1,h2,h3,h4⟩
 ·have:A=[]:=List.eq_nil_of_length_eq_zero hn;subst this;exact⟨none,0,rfl,trivial⟩
 ·refine⟨_,_,rfl,V8 h.b0 (aO hg) A 0 (λj u hu=> ?_) h.qg⟩;rw[Nat.zero_mul,aU,cell_of_row w g' j cur _ (0,0) hg];rw[<- h4,List.getElem?_take]at hu;split at hu
  ·simpa using hu
  ·cases hu
theorem kI.V7 (h:kI w L p aK aM aH aD i A fs gs v vs ve): ∃ao cap,vs= .slice ao fs.length cap∧fJ w w.heap.size fs ao 0:=Ub h.rs h.fo
theorem kI.V6 (h:kI w L p aK aM aH aD i A fs gs v vs ve): ∃ao cap,ve= .slice ao gs.length cap∧fJ w w.heap.size gs ao 0:=Ub h.re h.go
theorem kI.holds {cK kC jJ:Option Addr} {bQ pz iY pq iX:Nat} (h:kI w L p aK aM aH aD i A fs gs (.slice cK A.length bQ) (.slice kC pz iY) (.slice jJ pq iX)):Holds w (Hg L.bc p aK aM aH aD i cK (dA A).len bQ kC pz iY jJ pq iX):=by
 have hb:=h.blk;rw[rH];exact⟨eY hb (j:=0) rfl,eY hb (j:=1) rfl,eY hb (j:=2) rfl,eY hb (j:=3) rfl,eY hb (j:=4) rfl,eY hb (j:=5) rfl,trivial⟩
theorem kI.below {w':World} (h:kI w L p aK aM aH aD i A fs gs v vs ve) (hb:Below w.heap.size w w'):kI w' L p aK aM aH aD i A fs gs v vs ve where
 blk:=(hb.block _ (aO h.blk)).trans h.blk
 row:=lN h.row (λk hk=>hb.block k (h.row.lt k hk).2)
 rs:=lN h.rs (λk hk=>hb.block k (h.rs.lt k hk).2)
 re:=lN h.re (λk hk=>hb.block k (h.re.lt k hk).2)
 d1:=h.d1
 d2:=h.d2
 d3:=h.d3
 sz:=aP h.sz hb.size
 dat:=h.dat.below (hb.mono h.b0)
 qg:=λx hx=>(h.qg x hx).below (hb.mono h.b0)
 fo:=h.fo
 go:=h.go
theorem kI.ab5 {wz w4 w5:World} {u x:Value} {g' j:Nat} (h:kI w L p aK aM aH aD i A fs gs v vs ve) (hu:u∈ [v,vs,ve]) (hb:Below w.heap.size w wz) (hgr:wz.grownBy w4 u.ownBlock) (hat:u.ownBlock=some g'∨g'=wz.heap.size) (hgw:w4.grownBy w5 (some g')):
 (∀k,k<w.heap.size->u.ownBlock≠some k->w5.heap[k]? =w.heap[k]?)∧(∀k,k<w.heap.size->k≠L.bc->u.ownBlock≠some k->(w5.setCell ⟨L.bc,j,none⟩ x).heap[k]? =w.heap[k]?)∧
 Kw L [v,vs,ve] w (w5.setCell ⟨L.bc,j,none⟩ x):=by
 have hsz:w.heap.size<=w4.heap.size:=aP hb.size hgr.size;have hgz:=bY w5 ⟨L.bc,j,none⟩ x;have hlow: ∀k,k<w.heap.size->u.ownBlock≠some k->w5.heap[k]? =w.heap[k]?:=λk hk hv=>by
  have hkg:k≠g':=by
   rcases hat with e|e
   ·intro e';exact hv (by rw[e,e'])
   ·have:=hb.size;omega
  rw[hgw.block k (by omega) (by simp;exact hkg),hgr.block k (aG hk hb.size) (λe=>hv e.symm),hb.block k hk]
 have hl2: ∀k,k<w.heap.size->k≠L.bc->u.ownBlock≠some k->(w5.setCell ⟨L.bc,j,none⟩ x).heap[k]? =w.heap[k]?:=λk hk hc hv=>by rw[bf w5 ⟨L.bc,j,none⟩ _ rfl (λe=>hc e.symm)];exact hlow k hk hv
 refine⟨hlow,hl2,⟨hgz.os.trans (hgw.os.trans (hgr.os.trans hb.os)),hgz.tape.trans (hgw.tape.trans (hgr.tape.trans hb.tape)),hgz.output.trans (hgw.output.trans (hgr.output.trans hb.output)),aP hsz (aP hgw.size hgz.size),λk hk hc hv=>hl2 k hk hc (λe=>hv ⟨u,hu,e⟩)⟩⟩
theorem kI.LW (h:kI w L p aK aM aH aD i A fs gs v vs ve) {u:Value} (hu:u∈ [v,vs,ve]):u.ownBlock≠some L.bc:=λe=>by
 have:=(h.own _ ⟨u,hu,e⟩).1;have:=L.c1;omega
theorem kI.push {wz w4:World} {g' cap':Nat} {zs:List Value} (h:kI w L p aK aM aH aD i A fs gs v vs ve) (x:Fr) (hx:tL w L.B0 x.h x.b x.e x.s) (hb:Below w.heap.size w wz) (hown:w4.ownsRow L.B1 62 11 (.slice (some ⟨g',0,none⟩) (A.length+1) cap') (A.length+1) (AQ A++zs)) (hgr:wz.grownBy w4 v.ownBlock) (hat:v.ownBlock=some g'∨g'=wz.heap.size):
 kI ((w4.setCells g' (A.length*11) (pR x.h x.b x.e x.s)).setCell ⟨L.bc,3,none⟩ (.slice (some ⟨g',0,none⟩) (A.length+1) cap')) L p aK aM aH aD i (A++[x]) fs gs (.slice (some ⟨g',0,none⟩) (A.length+1) cap') vs ve∧
 Kw L [v,vs,ve] w ((w4.setCells g' (A.length*11) (pR x.h x.b x.e x.s)).setCell ⟨L.bc,3,none⟩ (.slice (some ⟨g',0,none⟩) (A.length+1) cap'))∧mH w [v,vs,ve] [.slice (some ⟨g',0,none⟩) (A.length+1) cap',vs,ve]:=by
 have hg1:=(hown.lt g' rfl).1;have hc1:=L.c1;have hput:=QN (vs:=pR x.h x.b x.e x.s) hown (Es A) rfl;generalize hw5:w4.setCells g' (A.length*11) (pR x.h x.b x.e x.s)=w5 at *;have hgw:w4.grownBy w5 (some g'):=by rw[<- hw5];exact dX _ _ _ _
 obtain⟨hlow,hl2,eH⟩:=h.ab5 (u:=v) (x:= .slice (some ⟨g',0,none⟩) (A.length+1) cap') (j:=3) (by simp) hb hgr hat hgw;have hgz:=bY w5 ⟨L.bc,3,none⟩ (.slice (some ⟨g',0,none⟩) (A.length+1) cap');have hbel:=eH.below h.b0 (λk e=>(h.own k e).1);have hnew: ∀k,Value.ownBlock (.slice (some ⟨g',0,none⟩) (A.length+1) cap')=some k->v.ownBlock=some k∨w.heap.size<=k:=λk hk=>by
  have:g'=k:=by simpa[Value.ownBlock]using hk
  subst this;rcases hat with e|e
  ·exact .inl e
  ·exact .inr (by rw[e];exact hb.size)
 refine⟨?_,eH,λk hk=> ?_⟩
 ·refine {blk:= ?_,row:= ?_,rs:= ?_,re:= ?_,d1:= ?_,d2:= ?_,d3:=h.d3,sz:=aP h.sz eH.size,dat:=h.dat.below hbel,qg:= ?_,fo:=h.fo,go:=h.go}
  ·exact dh ((hlow _ (aO h.blk) (h.LW (by simp))).trans h.blk) _
  ·rw[ay,Cj];refine hput.kept hgz (.inr ?_);simp[Value.ownBlock];omega
  ·exact lN h.rs (λk hk=>hl2 k (h.rs.lt k hk).2 (by have:=(h.rs.lt k hk).1;omega) (λe=>h.d1 k e hk))
  ·exact lN h.re (λk hk=>hl2 k (h.re.lt k hk).2 (by have:=(h.re.lt k hk).1;omega) (λe=>h.d2 k e hk))
  ·intro k hk e;rcases hnew k hk with e'|e'
   ·exact h.d1 k e' e
   ·have:=(h.rs.lt k e).2;omega
  ·intro k hk e;rcases hnew k hk with e'|e'
   ·exact h.d2 k e' e
   ·have:=(h.re.lt k e).2;omega
  ·intro y hy;rcases List.mem_append.1 hy with hy|hy
   ·exact(h.qg y hy).below hbel
   ·obtain rfl:=List.mem_singleton.1 hy;exact hx.below hbel
 ·rcases uL.1 hk with e|e|e
  ·rcases hnew k e with e'|e'
   ·exact .inl (uL.2 (.inl e'))
   ·exact .inr e'
  ·exact .inl (uL.2 (.inr (.inl e)))
  ·exact .inl (uL.2 (.inr (.inr e)))
theorem kI.pop {wz:World} {g' cap':Nat} (x:Fr) (h:kI w L p aK aM aH aD i (A++[x]) fs gs (.slice (some ⟨g',0,none⟩) (A.length+1) cap') vs ve) (hb:Below w.heap.size w wz):
 kI (wz.setCell ⟨L.bc,3,none⟩ (.slice (some ⟨g',0,none⟩) A.length cap')) L p aK aM aH aD i A fs gs (.slice (some ⟨g',0,none⟩) A.length cap') vs ve∧
 Kw L [.slice (some ⟨g',0,none⟩) (A.length+1) cap',vs,ve] w (wz.setCell ⟨L.bc,3,none⟩ (.slice (some ⟨g',0,none⟩) A.length cap')):=by
 have hI:=h.below hb;have hc1:=L.c1;have hgz:=bY wz ⟨L.bc,3,none⟩ (.slice (some ⟨g',0,none⟩) A.length cap');have hkp:Kw L [.slice (some ⟨g',0,none⟩) (A.length+1) cap',vs,ve] w (wz.setCell ⟨L.bc,3,none⟩ (.slice (some ⟨g',0,none⟩) A.length cap')):=
  ⟨hgz.os.trans hb.os,hgz.tape.trans hb.tape,hgz.output.trans hb.output,aP hb.size hgz.size,λk hk hc _=>(hgz.block k (aG hk hb.size) (by simp;exact hc)).trans (hb.block k hk)⟩
 have hbel:Below L.B0 wz (wz.setCell ⟨L.bc,3,none⟩ (.slice (some ⟨g',0,none⟩) A.length cap')):=cZ hgz L.c0 hI.b0;have hrow:=hI.row;rw[ay,Cj]at hrow;have hg1:=(hrow.lt g' rfl).1;have EU: ∀k,L.B1<=k->(wz.setCell ⟨L.bc,3,none⟩ (.slice (some ⟨g',0,none⟩) A.length cap')).heap[k]? =wz.heap[k]?:=λk hk=>bf wz _ _ rfl (by show L.bc≠k;omega);refine⟨{blk:=dh hI.blk _,row:=(NQ hrow (Es A)).kept hgz (.inr (by simp[Value.ownBlock];omega)),rs:=lN hI.rs (λk hk=>EU k (hI.rs.lt k hk).1),re:=lN hI.re (λk hk=>EU k (hI.re.lt k hk).1),d1:=λk hk=>h.d1 k hk,d2:=λk hk=>h.d2 k hk,d3:=h.d3,sz:=aP hI.sz hgz.size,dat:=hI.dat.below hbel,qg:=λy hy=>(hI.qg y (by simp[hy])).below hbel,fo:=h.fo,go:=h.go},hkp⟩
theorem Rh (l:List ByteArray) (s:ByteArray):nQ (l++[s])=nQ l++[.string s]:=by simp[nQ]
theorem kI.bp6 {wz w4:World} {g' cap':Nat} {nm:ByteArray} (h:kI w L p aK aM aH aD i A fs gs v vs ve) (hn:nm.size<=maxLen) (hb:Below w.heap.size w wz) (hown:w4.ownsRow L.B1 9 1 (.slice (some ⟨g',0,none⟩) (fs.length+1) cap') (fs.length+1) (nQ fs++[.string nm])) (hgr:wz.grownBy w4 vs.ownBlock) (hat:vs.ownBlock=some g'∨g'=wz.heap.size):
 kI (w4.setCell ⟨L.bc,4,none⟩ (.slice (some ⟨g',0,none⟩) (fs.length+1) cap')) L p aK aM aH aD i A (fs++[nm]) gs v (.slice (some ⟨g',0,none⟩) (fs.length+1) cap') ve∧
 Kw L [v,vs,ve] w (w4.setCell ⟨L.bc,4,none⟩ (.slice (some ⟨g',0,none⟩) (fs.length+1) cap'))∧mH w [v,vs,ve] [v,.slice (some ⟨g',0,none⟩) (fs.length+1) cap',ve]:=by
 have hg1:=(hown.lt g' rfl).1;have hc1:=L.c1;obtain⟨hlow,hl2,eH⟩:=h.ab5 (u:=vs) (x:= .slice (some ⟨g',0,none⟩) (fs.length+1) cap') (j:=4) (by simp) hb hgr hat (Et w4);have hgz:=bY w4 ⟨L.bc,4,none⟩ (.slice (some ⟨g',0,none⟩) (fs.length+1) cap');have hbel:=eH.below h.b0 (λk e=>(h.own k e).1);have hnew: ∀k,Value.ownBlock (.slice (some ⟨g',0,none⟩) (fs.length+1) cap')=some k->vs.ownBlock=some k∨w.heap.size<=k:=λk hk=>by
  have:g'=k:=by simpa[Value.ownBlock]using hk
  subst this;rcases hat with e|e
  ·exact .inl e
  ·exact .inr (by rw[e];exact hb.size)
 refine⟨?_,eH,λk hk=> ?_⟩
 ·refine {blk:= ?_,row:= ?_,rs:= ?_,re:= ?_,d1:= ?_,d2:=h.d2,d3:= ?_,sz:=aP h.sz eH.size,dat:=h.dat.below hbel,qg:=λy hy=>(h.qg y hy).below hbel,fo:= ?_,go:=h.go}
  ·exact dh ((hlow _ (aO h.blk) (h.LW (by simp))).trans h.blk) _
  ·exact lN h.row (λk hk=>hl2 k (h.row.lt k hk).2 (by have:=(h.row.lt k hk).1;omega) (λe=>h.d1 k hk e))
  ·rw[ay,Rh];refine hown.kept hgz (.inr ?_);simp[Value.ownBlock];omega
  ·exact lN h.re (λk hk=>hl2 k (h.re.lt k hk).2 (by have:=(h.re.lt k hk).1;omega) (λe=>h.d3 k e hk))
  ·intro k hk e;rcases hnew k e with e'|e'
   ·exact h.d1 k hk e'
   ·have:=(h.row.lt k hk).2;omega
  ·intro k hk e;rcases hnew k hk with e'|e'
   ·exact h.d3 k e' e
   ·have:=(h.re.lt k e).2;omega
  ·intro y hy;rcases List.mem_append.1 hy with hy|hy
   ·exact h.fo y hy
   ·obtain rfl:=List.mem_singleton.1 hy;exact hn
 ·rcases uL.1 hk with e|e|e
  ·exact .inl (uL.2 (.inl e))
  ·rcases hnew k e with e'|e'
   ·exact .inl (uL.2 (.inr (.inl e')))
   ·exact .inr e'
  ·exact .inl (uL.2 (.inr (.inr e)))
theorem kI.bp5 {wz w4:World} {g' cap':Nat} {nm:ByteArray} (h:kI w L p aK aM aH aD i A fs gs v vs ve) (hn:nm.size<=maxLen) (hb:Below w.heap.size w wz) (hown:w4.ownsRow L.B1 9 1 (.slice (some ⟨g',0,none⟩) (gs.length+1) cap') (gs.length+1) (nQ gs++[.string nm])) (hgr:wz.grownBy w4 ve.ownBlock) (hat:ve.ownBlock=some g'∨g'=wz.heap.size):
 kI (w4.setCell ⟨L.bc,5,none⟩ (.slice (some ⟨g',0,none⟩) (gs.length+1) cap')) L p aK aM aH aD i A fs (gs++[nm]) v vs (.slice (some ⟨g',0,none⟩) (gs.length+1) cap')∧
 Kw L [v,vs,ve] w (w4.setCell ⟨L.bc,5,none⟩ (.slice (some ⟨g',0,none⟩) (gs.length+1) cap'))∧mH w [v,vs,ve] [v,vs,.slice (some ⟨g',0,none⟩) (gs.length+1) cap']:=by
 have hg1:=(hown.lt g' rfl).1;have hc1:=L.c1;obtain⟨hlow,hl2,eH⟩:=h.ab5 (u:=ve) (x:= .slice (some ⟨g',0,none⟩) (gs.length+1) cap') (j:=5) (by simp) hb hgr hat (Et w4);have hgz:=bY w4 ⟨L.bc,5,none⟩ (.slice (some ⟨g',0,none⟩) (gs.length+1) cap');have hbel:=eH.below h.b0 (λk e=>(h.own k e).1);have hnew: ∀k,Value.ownBlock (.slice (some ⟨g',0,none⟩) (gs.length+1) cap')=some k->ve.ownBlock=some k∨w.heap.size<=k:=λk hk=>by
  have:g'=k:=by simpa[Value.ownBlock]using hk
  subst this;rcases hat with e|e
  ·exact .inl e
  ·exact .inr (by rw[e];exact hb.size)
 refine⟨?_,eH,λk hk=> ?_⟩
 ·refine {blk:= ?_,row:= ?_,rs:= ?_,re:= ?_,d1:=h.d1,d2:= ?_,d3:= ?_,sz:=aP h.sz eH.size,dat:=h.dat.below hbel,qg:=λy hy=>(h.qg y hy).below hbel,fo:=h.fo,go:= ?_}
  ·exact dh ((hlow _ (aO h.blk) (h.LW (by simp))).trans h.blk) _
  ·exact lN h.row (λk hk=>hl2 k (h.row.lt k hk).2 (by have:=(h.row.lt k hk).1;omega) (λe=>h.d2 k hk e))
  ·exact lN h.rs (λk hk=>hl2 k (h.rs.lt k hk).2 (by have:=(h.rs.lt k hk).1;omega) (λe=>h.d3 k hk e))
  ·rw[ay,Rh];refine hown.kept hgz (.inr ?_);simp[Value.ownBlock];omega
  ·intro k hk e;rcases hnew k e with e'|e'
   ·exact h.d2 k hk e'
   ·have:=(h.row.lt k hk).2;omega
  ·intro k hk e;rcases hnew k e with e'|e'
   ·exact h.d3 k hk e'
   ·have:=(h.rs.lt k hk).2;omega
  ·intro y hy;rcases List.mem_append.1 hy with hy|hy
   ·exact h.go y hy
   ·obtain rfl:=List.mem_singleton.1 hy;exact hn
 ·rcases uL.1 hk with e|e|e
  ·exact .inl (uL.2 (.inl e))
  ·exact .inl (uL.2 (.inr (.inl e)))
  ·rcases hnew k e with e'|e'
   ·exact .inl (uL.2 (.inr (.inr e')))
   ·exact .inr e'
theorem kI.ae3 {i':Int} (h:kI w L p aK aM aH aD i A fs gs v vs ve):kI (w.setCell ⟨L.bc,2,none⟩ (.int .i64 i')) L p aK aM aH aD i' A fs gs v vs ve:=by
 have hg:=bY w ⟨L.bc,2,none⟩ (.int .i64 i');have hbel:=cZ hg L.c0 h.b0;have hc1:=L.c1;have EU: ∀k,L.B1<=k->(w.setCell ⟨L.bc,2,none⟩ (.int .i64 i')).heap[k]? =w.heap[k]?:=λk hk=>bf w _ _ rfl (by show L.bc≠k;omega);exact {blk:=by rw[dh h.blk];rfl,row:=lN h.row (λk hk=>EU k (h.row.lt k hk).1),rs:=lN h.rs (λk hk=>EU k (h.rs.lt k hk).1),re:=lN h.re (λk hk=>EU k (h.re.lt k hk).1),d1:=h.d1,d2:=h.d2,d3:=h.d3,sz:=aP h.sz hg.size,dat:=h.dat.below hbel,qg:=λx hx=>(h.qg x hx).below hbel,fo:=h.fo,go:=h.go}
end
def C3 (W1 W2 W3 W4:World):List Bool->World->Prop
 | [false,false,false],w=>w=W1
 | [true,false,false],w=>w=W2
 | [true,true,false],w=>w=W3
 | [true,true,true],w=>w=W4
 |_,_=>False
section
variable {W1 W2 W3 W4:World} {a1 a2 a3 i:Nat} {c:List Bool} {w':World}
theorem C3.bits: ∀ {c:List Bool} {w':World},C3 W1 W2 W3 W4 c w'->∃x y z,c=[x,y,z]
 | [x,y,z],_,_=>⟨x,y,z,rfl⟩
 | [],_,h=>h.elim
 | [_],_,h=>by simp[C3]at h
 | [_,_],_,h=>by simp[C3]at h
 |_::_::_::_::_,_,h=>by simp[C3]at h
theorem C3.skip (h1:(a1==i)=false) (h2:(a2==i)=false) (h3:(a3==i)=false) (h:C3 W1 W2 W3 W4 c w'):C3 W1 W2 W3 W4 (jw [a1,a2,a3] c i) w':=by
 obtain⟨x,y,z,rfl⟩:=h.bits;simpa[jw,h1,h2,h3]using h
theorem C3.one (h1:(a1==i)=true) (h2:(a2==i)=false) (h3:(a3==i)=false):C3 W1 W2 W3 W4 (jw [a1,a2,a3] [false,false,false] i) W2:=by
 simp only[jw,h1,h2,h3,Bool.or_false,Bool.or_true];rfl
theorem C3.two (h1:(a1==i)=false) (h2:(a2==i)=true) (h3:(a3==i)=false):C3 W1 W2 W3 W4 (jw [a1,a2,a3] [true,false,false] i) W3:=by
 simp only[jw,h1,h2,h3,Bool.or_false,Bool.or_true];rfl
theorem C3.three (h1:(a1==i)=false) (h2:(a2==i)=false) (h3:(a3==i)=true):C3 W1 W2 W3 W4 (jw [a1,a2,a3] [true,true,false] i) W4:=by
 simp only[jw,h1,h2,h3,Bool.or_false,Bool.or_true];rfl
theorem C3.low {p1:Option Bool} {W:World} (hb1:Below W.heap.size W W1) (hb2:Below W.heap.size W W2) (hok:okB [p1,some false,some false] c) (h:C3 W1 W2 W3 W4 c w'):Below W.heap.size W w':=by
 obtain⟨x,y,z,rfl⟩:=h.bits;have:y=false∧z=false:=by
  cases p1 with
  |none=>exact⟨hok.1,hok.2.1⟩
  |some b=>exact⟨hok.2.1,hok.2.2.1⟩
 obtain⟨rfl,rfl⟩:=this;cases x
 ·have h:w'=W1:=h;rw[h];exact hb1
 ·have h:w'=W2:=h;rw[h];exact hb2
theorem C3.w1 (hok:okB [some false,some false,some false] c) (h:C3 W1 W2 W3 W4 c w'):c=[false,false,false]∧w'=W1:=by
 obtain⟨x,y,z,rfl⟩:=h.bits;obtain⟨rfl,rfl,rfl,-⟩:=hok;exact⟨rfl,h⟩
theorem C3.w2 (hok:okB [some true,some false,some false] c) (h:C3 W1 W2 W3 W4 c w'):c=[true,false,false]∧w'=W2:=by
 obtain⟨x,y,z,rfl⟩:=h.bits;obtain⟨rfl,rfl,rfl,-⟩:=hok;exact⟨rfl,h⟩
theorem C3.w3 (hok:okB [some true,some true,some false] c) (h:C3 W1 W2 W3 W4 c w'):c=[true,true,false]∧w'=W3:=by
 obtain⟨x,y,z,rfl⟩:=h.bits;obtain⟨rfl,rfl,rfl,-⟩:=hok;exact⟨rfl,h⟩
theorem C3.b1 (hok:okB [some false,some false,some false] c) (h:C3 W1 W2 W3 W4 c w'):c=[false,false,false]∧w'=W1:=C3.w1 hok h
end
theorem wp_append_run {P:Program} {w w':World} {o:Oper} {a:Act} {K:Act->World->Prop} {Q:Exit->Act->World->Prop} (s x:Operand) (t:TypeId) (v u r:Value)
 (ho:o.op= .call {callee:= .builtin .append,args:= #[s,x],argTypes:= #[t,t]}) (hs:a.eval s=v) (hx:a.eval x=u)
 (hr:(Builtin.append_ #[t,t] o.type #[v,u]).run P w= .ok r w') (h:K (a.put o.dst r) w'):o.wp P a w K Q:=by
 unfold Oper.wp execOp;simp only[ho,resolve,invoke,builtin,Sem.run_bind,Sem.run_pure,Result.andThen_ok,List.map_toArray,List.map_cons,List.map_nil,hs,hx,hr];exact h
def Cb (w:World) (L:sj) (p:Pr) (aK aM:Option Addr) (aH aD:Nat) (i:Int) (A:List Fr) (fs gs:List ByteArray) (v vs ve:Value) (fs2 gs2:List ByteArray) (r:Int) (e:Ending) (w':World):Prop:=
 e= .returned (.int .i64 r)∧Kw L [v,vs,ve] w w'∧∃fs' gs' vs' ve',mH w [v,vs,ve] [v,vs',ve']∧kI w' L p aK aM aH aD i A fs' gs' v vs' ve'∧(r=0->fs'=fs2∧gs'=gs2)
theorem Cb.err {w w':World} {L:sj} {p:Pr} {aK aM:Option Addr} {aH aD:Nat} {i:Int} {A:List Fr} {fs gs:List ByteArray} {v vs ve:Value} {fs2 gs2:List ByteArray} {r x:Int}
 (hI:kI w L p aK aM aH aD i A fs gs v vs ve) (hr:r=x) (h0:r≠0) (hb:Below w.heap.size w w'):Cb w L p aK aM aH aD i A fs gs v vs ve fs2 gs2 r (.returned (.int .i64 x)) w':=by
 subst hr;exact⟨rfl,Kw.of_below hb,fs,gs,vs,ve,mH.refl _ _,hI.below hb,λh=>(h0 h).elim⟩
theorem aa4:(Tryz.prog.info? 9).map (λi=>(i.zero,i.size,i.bytes))=some (some (.string ⟨#[]⟩),1,16):=by kernel_rfl
theorem Ra: ∃i0,Tryz.prog.info? 9=some i0∧i0.zero=some (.string ⟨#[]⟩)∧i0.size=1∧i0.bytes=16:=info_parts aa4
theorem aw4 (L:sj) (p:Pr) (w:World) (aK aM:Option Addr) (aH aD:Nat) (i:Int) (A:List Fr) (fs gs:List ByteArray) (v vs ve:Value) (hI:kI w L p aK aM aH aD i A fs gs v vs ve) (h:dD) (b e:aY) (s:Sl) (hin:tL w L.B0 h b e s) (hi:bW i) (hA:A.length<=maxLen) (hfs:fs.length<=1000000000000) (hgs:gs.length<=1000000000000) (hop:h.op=12):
 Calls Tryz.prog 55 #[.pointer (some ⟨L.bc,0,none⟩),iy h b e s] w (Cb w L p aK aM aH aD i A fs gs v vs ve (fs++[h.nm]) gs (if gM (conv (mean p i h.nm)) 7 7 != 0 then gM (conv (mean p i h.nm)) 7 7 else if((((eZ (dA A) 7 7 ⟨#[]⟩||eZ (dA A) 8 8 ⟨#[]⟩)||eZ (dA A) 3 3 ⟨#[]⟩)||qz p.ts h.nm==i)||qz p.ts h.nm==0)then 7 else kY (nG fs h.nm.toList))):=by
 obtain⟨cK,bQ,rfl,hat⟩:=hI.form;obtain⟨kC,iY,rfl,Xy⟩:=hI.V7;obtain⟨jJ,iX,rfl,Xx⟩:=hI.V6;have hp:=hI.dat.use hI.b0;have hh:=hI.holds;have har:(dA A).len<=maxLen:=by rw[rH];exact hA
 replace hin:=hin.use hI.b0;have HI:=ah hI;have qx:=ah Xy;have jP:=ah Xx;generalize hres:(if gM (conv (mean p i h.nm)) 7 7 != 0 then gM (conv (mean p i h.nm)) 7 7 else if((((eZ (dA A) 7 7 ⟨#[]⟩||eZ (dA A) 8 8 ⟨#[]⟩)||eZ (dA A) 3 3 ⟨#[]⟩)||qz p.ts h.nm==i)||qz p.ts h.nm==0)then 7 else kY (nG fs h.nm.toList))=res;have HR:aj (res=(if gM (conv (mean p i h.nm)) 7 7 != 0 then gM (conv (mean p i h.nm)) 7 7 else if((((eZ (dA A) 7 7 ⟨#[]⟩||eZ (dA A) 8 8 ⟨#[]⟩)||eZ (dA A) 3 3 ⟨#[]⟩)||qz p.ts h.nm==i)||qz p.ts h.nm==0)then 7 else kY (nG fs h.nm.toList))):=ah (by rw[<- hres]);have iI:=ah hop;have wQ:=ah hin.1.2.2.1;have RX:=ah hfs;have RZ:=ah hgs;clear hres hop hI Xy Xx hA hfs hgs;have HH:=ah (show Sit w w _ from⟨ak _ _,hh⟩);have oN:=ah hin;have lQ:=ah hat;have ku:=ah har;have HP:=ah hp;unfold iy;clear hh hin hat har hp;go_enter Tryz.func55,Tryz.ntmps55;go_upto_region 1 with fail;generalize hW:World.alloc w _=W;generalize Value.agg #[_,_,_,_,_,_,_,_,_,_,_]=a0;have HX:aj (Sit w W (rA w.heap.size h b e s (Hg L.bc p aK aM aH aD i cK (dA A).len bQ kC fs.length iY jJ gs.length iX))):=ah (by rw[<- hW];exact HH.o.uW rfl _ _ _ _ _ _ _ _ _ _ _ _);clear hW HH;have K0: ∀w',Below W.heap.size W w'->w'.cell? ⟨L.bc,0,none⟩=some (.slice aK p.ds.length aH):=λw' hb=>(HX.o.next hb).2.2.2.2.2.2.2.2.2.2.2.2.1.2;have K1: ∀w',Below W.heap.size W w'->w'.cell? ⟨L.bc,1,none⟩=some (.slice aM p.ts.length aD):=λw' hb=>(HX.o.next hb).2.2.2.2.2.2.2.2.2.2.2.2.2.1.2;have K2: ∀w',Below W.heap.size W w'->w'.cell? ⟨L.bc,2,none⟩=some (.int .i64 i):=λw' hb=>(HX.o.next hb).2.2.2.2.2.2.2.2.2.2.2.2.2.2.1.2;have HD1:Below W.heap.size W (W.drewN 1):=below_drewN (ak _ _) 1;refine dI (by kernel_rfl) rfl ?_;generalize W.drewN 1=W1 at *;refine dw 0 11 [8,9] [[],[0],[0,1],[0,1,2],[],[4],[4,5],[4,5,6],[],[0,1,2,3,8],[0,1,2,3,4,5,6,7,8,9]] [[none,some false],[none,some false],[none,some false],[none,some false],[none,none],[none,none],[none,none],[none,none],[some false,some false],[some true,some false],[some true,some true]] (AC W1 (.cells #[.slice none 0 0,.slice none 0 0] 26) (.cells #[.slice aK p.ds.length aH,.slice aM p.ts.length aD] 26)) (λ_ _=>True) [15,16,17,18,19,20,21,22,5,6] rfl rfl (by rfl) (by kernel_rfl) (by kernel_rfl) (by kernel_rfl) (by kernel_rfl) (by kernel_rfl) (by rfl) (λ_=>trivial) (by rfl) rfl ?_;simp only[iW,mU]
 iterate 8
  apply bS.step
  case bg=>intro c A w' hok hC hO hD;have e0:=hO 0 (by rfl);simp[Act.eval]at e0;simp[Act.eval]at hD;simp[go_sem,gd,Oper.wp,hD,e0,K0,K1,AC.below HD1 hC,K2];exact aR.mk trivial (AC.skip (by rfl) (by rfl) hC) (bZ.mk _ _)
  try simp only[dR]
 apply bS.step
 case bg=>intro c A w' hok hC hO hD;obtain⟨x,y,rfl⟩:=hC.bits;obtain⟨rfl,rfl,-⟩:=hok;have hw:w'=W1:=hC;subst hw;simp[go_sem,gd,Oper.wp];exact aR.mk trivial (AC.lay (by rfl) (by rfl)) (bZ.mk _ _)
 refine bS.some (λ_ _=>True) (λ_ _ _ _ _=>trivial) ?_ ?_
 ·intro c A w' hok hC hO hD;obtain⟨x,y,rfl⟩:=hC.bits;obtain⟨rfl,rfl,-⟩:=hok;have hw:w'=W1.alloc _:=hC;subst hw;simp[Act.eval]at hD;simp[go_sem,gd,Oper.wp,hD];exact aR.Cx (v:=undef) trivial (AC.fill (by rfl) (by rfl)) trivial
 try simp only[dR]
 apply bS.step
 case bg=>intro c A w' hok hC hO hD;simp[Act.eval]at hD;simp[go_sem,gd,Oper.wp,hD];exact aR.mk trivial (AC.skip (by rfl) (by rfl) hC) (bZ.mk _ _)
 try simp only[dR]
 refine bS.done ?_;intro wz dF;simp only[List.drop_zero];intro v0 h0 v1 h1 v2 h2 v3 h3 v4 h4 v5 h5 v6 h6 v7 h7 v8 h8 v9 h9 v10 h10;have h8':v8=_:=h8;have Jt:v10=_:=h10;subst h8' Jt;clear h0 h1 h2 h3 h4 h5 h6 h7 h8 h9 h10;refine dP.nil ?_;refine eO rfl ?_;have GI:wz=W1.alloc _:=dF;generalize hn1:W1.heap.size=n1 at *;have HY:=ah ((HX.o.next HD1).wG hn1 (.slice aK p.ds.length aH) (.slice aM p.ts.length aD) 26);rw[<- GI]at HY;clear dF GI HX K0 K1 K2 HD1 hn1;go_simp;obtain⟨-,⟨-,c0⟩,⟨-,c1⟩,⟨-,c2⟩,⟨-,c3⟩,⟨-,c4⟩,⟨-,c5⟩,⟨-,c6⟩,⟨-,c7⟩,⟨-,c8⟩,⟨-,c9⟩,⟨-,c10⟩,⟨-,c11⟩,⟨-,c12⟩,⟨-,c13⟩,⟨-,c14⟩,⟨-,c15⟩,⟨-,c16⟩,⟨-,c17⟩,⟨-,c18⟩,-⟩:=HY.o;go_wp2_with fail;refine(iN p _ aK aM aH aD i cK bQ L.bc kC fs.length iY jJ gs.length iX (dA A) 7 7 ⟨#[]⟩ ku.o (lQ.o.same HY.o.1) (mM HY.o)).mono ?_;rintro e' W ⟨rfl,hb⟩;replace HY:=ah (HY.o.next hb);clear hb c0 c1 c2 c3 c4 c5 c6 c7 c8 c9 c10 c11 c12 c13 c14 c15 c16 c17 c18;obtain⟨-,⟨-,c0⟩,⟨-,c1⟩,⟨-,c2⟩,⟨-,c3⟩,⟨-,c4⟩,⟨-,c5⟩,⟨-,c6⟩,⟨-,c7⟩,⟨-,c8⟩,⟨-,c9⟩,⟨-,c10⟩,⟨-,c11⟩,⟨-,c12⟩,⟨-,c13⟩,⟨-,c14⟩,⟨-,c15⟩,⟨-,c16⟩,⟨-,c17⟩,⟨-,c18⟩,-⟩:=HY.o;go_wp2_with fail;refine(iN p _ aK aM aH aD i cK bQ L.bc kC fs.length iY jJ gs.length iX (dA A) 8 8 ⟨#[]⟩ ku.o (lQ.o.same HY.o.1) (mM HY.o)).mono ?_;rintro e' W ⟨rfl,hb⟩;replace HY:=ah (HY.o.next hb);clear hb c0 c1 c2 c3 c4 c5 c6 c7 c8 c9 c10 c11 c12 c13 c14 c15 c16 c17 c18;obtain⟨-,⟨-,c0⟩,⟨-,c1⟩,⟨-,c2⟩,⟨-,c3⟩,⟨-,c4⟩,⟨-,c5⟩,⟨-,c6⟩,⟨-,c7⟩,⟨-,c8⟩,⟨-,c9⟩,⟨-,c10⟩,⟨-,c11⟩,⟨-,c12⟩,⟨-,c13⟩,⟨-,c14⟩,⟨-,c15⟩,⟨-,c16⟩,⟨-,c17⟩,⟨-,c18⟩,-⟩:=HY.o;go_wp2_with fail;refine(iN p _ aK aM aH aD i cK bQ L.bc kC fs.length iY jJ gs.length iX (dA A) 3 3 ⟨#[]⟩ ku.o (lQ.o.same HY.o.1) (mM HY.o)).mono ?_;rintro e' W ⟨rfl,hb⟩;replace HY:=ah (HY.o.next hb);clear hb c0 c1 c2 c3 c4 c5 c6 c7 c8 c9 c10 c11 c12 c13 c14 c15 c16 c17 c18;obtain⟨-,⟨-,c0⟩,⟨-,c1⟩,⟨-,c2⟩,⟨-,c3⟩,⟨-,c4⟩,⟨-,c5⟩,⟨-,c6⟩,⟨-,c7⟩,⟨-,c8⟩,⟨-,c9⟩,⟨-,c10⟩,⟨-,c11⟩,⟨-,c12⟩,⟨-,c13⟩,⟨-,c14⟩,⟨-,c15⟩,⟨-,c16⟩,⟨-,c17⟩,⟨-,c18⟩,-⟩:=HY.o;generalize htx:eZ (dA A) 7 7 ⟨#[]⟩=tx at *;generalize hat':eZ (dA A) 8 8 ⟨#[]⟩=Ng at *;generalize hlo:eZ (dA A) 3 3 ⟨#[]⟩=lop at *;clear htx hat' hlo;have hop:=iI.o;obtain⟨g1,g2,g3,g4,g5,g6,g7,g8,g9,g10,g11,g12,g13,g14,g15⟩:=ad4 hop;clear hop;go_wp2_with fail;refine(je p i h.nm 7 7 _ aK aM aH aD hi (HP.o.same HY.o.1)).mono ?_;rintro e' W ⟨rfl,hb⟩;replace HY:=ah (HY.o.next hb);clear hb c0 c1 c2 c3 c4 c5 c6 c7 c8 c9 c10 c11 c12 c13 c14 c15 c16 c17 c18;obtain⟨-,⟨-,c0⟩,⟨-,c1⟩,⟨-,c2⟩,⟨-,c3⟩,⟨-,c4⟩,⟨-,c5⟩,⟨-,c6⟩,⟨-,c7⟩,⟨-,c8⟩,⟨-,c9⟩,⟨-,c10⟩,⟨-,c11⟩,⟨-,c12⟩,⟨-,c13⟩,⟨-,c14⟩,⟨-,c15⟩,⟨-,c16⟩,⟨-,c17⟩,⟨-,c18⟩,-⟩:=HY.o;generalize gM (conv (mean p i h.nm)) 7 7=q at *;cases hq:(q != 0)
 case true=>have HR':aj (res=q):=ah (HR.o.trans (if_pos hq));have HQ0:aj (q≠0):=ah (by simpa using hq);clear HR;go_wp2_with fail;go_ret;exact Cb.err HI.o HR'.o (by rw[HR'.o];exact HQ0.o) HY.o.1
 have HR1:=ah (HR.o.trans (if_neg (by rw[hq];decide)));clear HR;go_wp2_with fail;refine(jc p.ts h.nm _ aM aD HP.o.2.1 (HP.o.same HY.o.1).2.2.2).mono ?_;rintro e' W' ⟨rfl,rfl⟩;generalize qz p.ts h.nm=kk at *;go_upto_region 35 with fail;go_cut [187] (λs' W3=>W=W3∧s'= .bool ((((tx||Ng)||lop)||kk==i)||kk==0))
 case first=>
  as_aux_lemma=>
   cases tx
   ·cases Ng
    ·cases lop
     ·cases hki:(kk==i)
      ·cases hk0:(kk==0)
       all_goals go_wp2_with fail
       all_goals go_meet
       all_goals exact⟨rfl,by first|rfl|(rw[hki,hk0];rfl)|(simp[hki,hk0])⟩
      ·go_wp2_with fail;go_meet;exact⟨rfl,by first|rfl|(rw[hki];rfl)|(simp[hki])⟩
     ·go_wp2_with fail;go_meet;exact⟨rfl,by first|rfl|simp⟩
    ·go_wp2_with fail;go_meet;exact⟨rfl,by first|rfl|simp⟩
   ·go_wp2_with fail;go_meet;exact⟨rfl,by first|rfl|simp⟩
 obtain⟨rfl,rfl⟩:=hcut;generalize ((((tx||Ng)||lop)||kk==i)||kk==0)=tt at *;cases tt
 case true=>have HR':aj (res=7):=HR1;clear HR1;go_wp2_with fail;go_ret;exact Cb.err HI.o HR'.o (by rw[HR'.o];decide) HY.o.1
 have HR2:aj (res=kY (nG fs h.nm.toList)):=HR1;clear HR1;have K9:=ah (Gm fs h.nm);go_upto_region 37 with fail;obtain⟨T,F,Af,hst,hF,hnext⟩:=calm W;have HF:=ah hF;have dB:=ah hnext;clear hnext hF;have d0:=λx=>(HY.o.next (HF.o x)).2.1.2;have d1:=λx=>(HY.o.next (HF.o x)).2.2.1.2;have d2:=λx=>(HY.o.next (HF.o x)).2.2.2.1.2;have d3:=λx=>(HY.o.next (HF.o x)).2.2.2.2.1.2;have d4:=λx=>(HY.o.next (HF.o x)).2.2.2.2.2.1.2;have d5:=λx=>(HY.o.next (HF.o x)).2.2.2.2.2.2.1.2;have d6:=λx=>(HY.o.next (HF.o x)).2.2.2.2.2.2.2.1.2;have d7:=λx=>(HY.o.next (HF.o x)).2.2.2.2.2.2.2.2.1.2;have d8:=λx=>(HY.o.next (HF.o x)).2.2.2.2.2.2.2.2.2.1.2;have d9:=λx=>(HY.o.next (HF.o x)).2.2.2.2.2.2.2.2.2.2.1.2;have rV:=λx=>(HY.o.next (HF.o x)).2.2.2.2.2.2.2.2.2.2.2.1.2;have uo:=λx=>(HY.o.next (HF.o x)).2.2.2.2.2.2.2.2.2.2.2.2.1.2;have AL:=λx=>(HY.o.next (HF.o x)).2.2.2.2.2.2.2.2.2.2.2.2.2.1.2;have D8:=λx=>(HY.o.next (HF.o x)).2.2.2.2.2.2.2.2.2.2.2.2.2.2.1.2;have vV:=λx=>(HY.o.next (HF.o x)).2.2.2.2.2.2.2.2.2.2.2.2.2.2.2.1.2;have D9:=λx=>(HY.o.next (HF.o x)).2.2.2.2.2.2.2.2.2.2.2.2.2.2.2.2.1.2;have AO:=λx=>(HY.o.next (HF.o x)).2.2.2.2.2.2.2.2.2.2.2.2.2.2.2.2.2.1.2;have Da:=λx=>(HY.o.next (HF.o x)).2.2.2.2.2.2.2.2.2.2.2.2.2.2.2.2.2.2.1.2;have AP:=λx=>(HY.o.next (HF.o x)).2.2.2.2.2.2.2.2.2.2.2.2.2.2.2.2.2.2.2.1.2;clear c0 c1 c2 c3 c4 c5 c6 c7 c8 c9 c10 c11 c12 c13 c14 c15 c16 c17 c18;rcases K9.o with⟨zU,uF⟩|⟨jj,zU,uF⟩
 case inr=>
  have CO:=ah zU;have HR':aj (res=8):=ah (HR2.o.trans (by rw[uF];rfl));have hj0:(0:Int)<=(jj:Int):=by omega
  clear K9 HR2 zU uF;refine jh F (by kernel_rfl) (by kernel_rfl) hst ?_
  repeat (any_goals (first|go_big_quiet_step ((first|(go_at_call 54;refine(nV fs h.nm _ kC iY (by have:=RX.o;unfold maxLen;omega) ((qx.o.same HY.o.1).same (HF.o _))).mono ?_;rintro e w' ⟨rfl,rfl⟩;rw[CO.o];exact⟨rfl,dB.o _ _ (ak _ _)⟩)))|(refine wpQuiet_step (λK hK=> ?_);go_simp;first|(refine hK _ ?_;clear hK K)|(split <;> first|(refine hK _ ?_;clear hK K)|(apply Exists.intro;refine⟨λ_=> ?_,hK _ ?_⟩;((first|(go_at_call 54;refine(nV fs h.nm _ kC iY (by have:=RX.o;unfold maxLen;omega) ((qx.o.same HY.o.1).same (HF.o _))).mono ?_;rintro e w' ⟨rfl,rfl⟩;rw[CO.o];exact⟨rfl,dB.o _ _ (ak _ _)⟩)));clear hK K)))))
  all_goals (refine wpQuiet_nil ?_;rintro _ ⟨x,rfl⟩)
  replace HY:=ah (HY.o.next (HF.o x));clear d0 d1 d2 d3 d4 d5 d6 d7 d8 d9 rV uo AL D8 vV D9 AO Da AP HF dB hst;generalize F x=W2 at *;go_wp2_with fail;go_ret;exact Cb.err HI.o HR'.o (by rw[HR'.o];decide) HY.o.1
 have CO:=ah zU;have HR':aj (res=0):=ah (HR2.o.trans (by rw[uF];rfl));clear K9 HR2 zU uF;refine jh F (by kernel_rfl) (by kernel_rfl) hst ?_
 repeat (any_goals (first|go_big_quiet_step ((first|(go_at_call 54;refine(nV fs h.nm _ kC iY (by have:=RX.o;unfold maxLen;omega) ((qx.o.same HY.o.1).same (HF.o _))).mono ?_;rintro e w' ⟨rfl,rfl⟩;rw[CO.o];exact⟨rfl,dB.o _ _ (ak _ _)⟩)))|(refine wpQuiet_step (λK hK=> ?_);go_simp;first|(refine hK _ ?_;clear hK K)|(split <;> first|(refine hK _ ?_;clear hK K)|(apply Exists.intro;refine⟨λ_=> ?_,hK _ ?_⟩;((first|(go_at_call 54;refine(nV fs h.nm _ kC iY (by have:=RX.o;unfold maxLen;omega) ((qx.o.same HY.o.1).same (HF.o _))).mono ?_;rintro e w' ⟨rfl,rfl⟩;rw[CO.o];exact⟨rfl,dB.o _ _ (ak _ _)⟩)));clear hK K)))))
 all_goals (refine wpQuiet_nil ?_;rintro _ ⟨x,rfl⟩)
 replace HY:=ah (HY.o.next (HF.o x));clear d0 d1 d2 d3 d4 d5 d6 d7 d8 d9 rV uo AL D8 vV D9 AO Da AP HF dB hst;generalize F x=W2 at *;have hI2:=HI.o.below HY.o.1;have HI2:=ah hI2;have K4: ∀w',Below W2.heap.size W2 w'->w'.cell? ⟨L.bc,4,none⟩=some (.slice kC fs.length iY):=λw' hb=>(eY (HI2.o.below hb).blk (j:=4) rfl).2;have K2: ∀w',Below W2.heap.size W2 w'->w'.cell? ⟨w.heap.size,2,none⟩=some (.string h.nm):=λw' hb=>(HY.o.next hb).2.2.2.2.2.1.2;have hd1:Below W2.heap.size W2 (W2.drewN 1):=below_drewN (ak _ _) 1;have hfs:=RX.o;clear hI2 hq;go_upto_region 39 with fail;refine dI (by kernel_rfl) rfl ?_;generalize W2.drewN 1=W5 at *;have hd2:Below W2.heap.size W2 (W5.alloc (.cells #[.string h.nm] 9)):=hd1.trans ((au _ _).mono hd1.size);obtain⟨i0,hi0,hz0,hz1,hz2⟩:=Ra;obtain⟨gg,cap,w4,hrun,sD,qh,xZ,Ct⟩:=run_append_lies (P:=Tryz.prog) (W5.alloc (.cells #[.string h.nm] 9)) 31 31 L.B1 9 i0 _ 1 16 Tryz.underlying31 hi0 hz0 hz1 hz2 rfl (by omega) (.slice kC fs.length iY) fs.length (nQ fs) (HI2.o.below hd2).rs ⟨W5.heap.size,0,none⟩ 1 1 [.string h.nm] rfl (World.news_of_block (cs:= #[.string h.nm]) (heap_alloc_new W5 _)) (by simp[Value.oneCell']) (by omega) (by unfold maxLen;omega) (by omega) (HI2.o.below hd2).sz _ rfl;have Zc:=ah hrun;have HAD:=ah (HI2.o.bp6 wQ.o hd2 sD qh xZ);have eF:aj (w4.heap[L.bc]? =some (.cells (wkV p aK aM aH aD i (.slice cK A.length bQ) (.slice kC fs.length iY) (.slice jJ gs.length iX)) 90 (0,0))):=ah ((qh.block _ (Array.getElem?_eq_some_iff.1 (HI2.o.below hd2).blk).1 (λe'=>HI2.o.LW (u:= .slice kC fs.length iY) (by simp) e'.symm)).trans (HI2.o.below hd2).blk);have k4:w4.cell? ⟨L.bc,4,none⟩=some (.slice kC fs.length iY):=(eY eF.o (j:=4) rfl).2;have f4:w4.frozen? ⟨L.bc,4,none⟩=false:=bH eF.o;clear hrun sD qh xZ Ct hi0 hz0 hz1 hz2 eF;refine dw 0 12 [7,8,11] [[],[],[1],[1,2],[1,2,3],[],[5],[5,6],[1,2,3,4,5,6,7],[0,1,2,3,4,5,6,7,8],[0,1,2,3,4,5,6,7,8,9],[0,1,2,3,4,5,6,7,8,9,10]] [[none,none,some false],[none,some false,some false],[none,some false,some false],[none,some false,some false],[none,some false,some false],[some false,some false,some false],[some false,some false,some false],[some false,some false,some false],[some true,some false,some false],[some true,some true,some false],[some true,some true,some false],[some true,some true,some false]] (C3 W5 (W5.alloc (.cells #[.string h.nm] 9)) w4 (w4.setCell ⟨L.bc,4,none⟩ (.slice (some ⟨gg,0,none⟩) (fs.length+1) cap))) (λ_ _=>True) [196,197,198,199,200,201,202,203,204,205,206] rfl rfl (by rfl) (by kernel_rfl) (by kernel_rfl) (by kernel_rfl) (by kernel_rfl) (by kernel_rfl) (by rfl) (λ_=>trivial) (by rfl) rfl ?_;simp only[iW,mU]
 iterate 4
  apply bS.step
  case bg=>intro c A w' hok hC hO hD;have e0:=hO 0 (by rfl);simp[Act.eval]at e0;simp[Act.eval]at hD;simp[go_sem,gd,Oper.wp,hD,e0];exact aR.mk trivial (C3.skip (by rfl) (by rfl) (by rfl) hC) (bZ.mk _ _)
  try simp only[dR]
 apply bS.step
 case bg=>intro c A w' hok hC hO hD;simp[Act.eval]at hD;simp[go_sem,gd,Oper.wp,hD,K4,C3.low hd1 hd2 hok hC];exact aR.mk trivial (C3.skip (by rfl) (by rfl) (by rfl) hC) (bZ.mk _ _)
 apply bS.step
 case bg=>intro c A w' hok hC hO hD;have e3:=hO 3 (by rfl);simp[Act.eval]at e3;simp[Act.eval]at hD;simp[go_sem,gd,Oper.wp,hD,e3];exact aR.mk trivial (C3.skip (by rfl) (by rfl) (by rfl) hC) (bZ.mk _ _)
 apply bS.step
 case bg=>intro c A w' hok hC hO hD;simp[Act.eval]at hD;simp[go_sem,gd,Oper.wp,hD,K2,C3.low hd1 hd2 hok hC];exact aR.mk trivial (C3.skip (by rfl) (by rfl) (by rfl) hC) (bZ.mk _ _)
 try simp only[dR]
 apply bS.step
 case bg=>intro c A' w' hok hC hO hD;obtain⟨rfl,rfl⟩:=C3.w1 hok hC;simp[Act.eval]at hD;simp[go_sem,gd,Oper.wp,hD];exact aR.mk trivial (C3.one (by rfl) (by rfl) (by rfl)) (bZ.mk _ _)
 apply bS.step
 case bg=>intro c A' w' hok hC hO hD;obtain⟨rfl,rfl⟩:=C3.w2 hok hC;simp[Act.eval]at hD;simp only[gd,if_true];refine wp_append_run _ _ _ (.slice kC fs.length iY) (.slice (some ⟨W5.heap.size,0,none⟩) 1 1) _ (by rfl) (by simp[Act.eval,hD]) (by simp[Act.eval,hD]) Zc.o ?_;exact aR.mk trivial (C3.two (by rfl) (by rfl) (by rfl)) (bZ.mk _ _)
 try simp only[dR]
 iterate 2
  apply bS.step
  case bg=>intro c A w' hok hC hO hD;simp[Act.eval]at hD;simp[go_sem,gd,Oper.wp,hD];exact aR.mk trivial (C3.skip (by rfl) (by rfl) (by rfl) hC) (bZ.mk _ _)
  try simp only[dR]
 refine bS.some (λ_ _=>True) (λ_ _ _ _ _=>trivial) ?_ ?_
 ·intro c A' w' hok hC hO hD;obtain⟨rfl,rfl⟩:=C3.w3 hok hC;simp[Act.eval]at hD;simp[go_sem,gd,Oper.wp,hD,k4,f4];exact aR.Cx (v:=undef) trivial (C3.three (by rfl) (by rfl) (by rfl)) trivial
 try simp only[dR]
 refine bS.done ?_;intro wy Xn;simp only[List.drop_zero];intro v0 h0 v1 h1 v2 h2 v3 h3 v4 h4 v5 h5 v6 h6 v7 h7 v8 h8 v9 h9 v10 h10 v11 h11;clear h0 h1 h2 h3 h4 h5 h6 h7 h8 h9 h10 h11;refine dP.nil ?_;refine eO rfl ?_;have Qf:wy=w4.setCell _ _:=Xn;rw[<- Qf]at HAD;clear Xn Qf k4 f4 K4 K2 hd1 hd2;go_simp;go_wp2_with fail;go_ret;exact⟨bV HR'.o.symm,(Kw.of_below HY.o.1).trans (mH.refl _ _) HAD.o.2.1,_,_,_,_,(mH.refl _ _).trans HAD.o.2.2 HY.o.1.size,HAD.o.1,λ_=>⟨rfl,rfl⟩⟩
theorem aw5 (L:sj) (p:Pr) (w:World) (aK aM:Option Addr) (aH aD:Nat) (i:Int) (A:List Fr) (fs gs:List ByteArray) (v vs ve:Value) (hI:kI w L p aK aM aH aD i A fs gs v vs ve) (h:dD) (b e:aY) (s:Sl) (hin:tL w L.B0 h b e s) (hi:bW i) (hA:A.length<=maxLen) (hfs:fs.length<=1000000000000) (hgs:gs.length<=1000000000000) (hop:h.op=14):
 Calls Tryz.prog 55 #[.pointer (some ⟨L.bc,0,none⟩),iy h b e s] w (Cb w L p aK aM aH aD i A fs gs v vs ve fs (gs++[h.nm]) (kJ (if(kJ (gM (conv (mean p i h.nm)) 6 6) (nest (eZ (dA A) 7 7 ⟨#[]⟩||eZ (dA A) 3 3 ⟨#[]⟩))==0)&&nG gs h.nm.toList then 8 else kJ (gM (conv (mean p i h.nm)) 6 6) (nest (eZ (dA A) 7 7 ⟨#[]⟩||eZ (dA A) 3 3 ⟨#[]⟩))) (jW p i h.dN h.xn h.dJ h.bG))):=by
 obtain⟨cK,bQ,rfl,hat⟩:=hI.form;obtain⟨kC,iY,rfl,Xy⟩:=hI.V7;obtain⟨jJ,iX,rfl,Xx⟩:=hI.V6;have hp:=hI.dat.use hI.b0;have hh:=hI.holds;have har:(dA A).len<=maxLen:=by rw[rH];exact hA
 have OW:=ah hin;replace hin:=hin.use hI.b0;have HI:=ah hI;have qx:=ah Xy;have jP:=ah Xx;generalize hres:(kJ (if(kJ (gM (conv (mean p i h.nm)) 6 6) (nest (eZ (dA A) 7 7 ⟨#[]⟩||eZ (dA A) 3 3 ⟨#[]⟩))==0)&&nG gs h.nm.toList then 8 else kJ (gM (conv (mean p i h.nm)) 6 6) (nest (eZ (dA A) 7 7 ⟨#[]⟩||eZ (dA A) 3 3 ⟨#[]⟩))) (jW p i h.dN h.xn h.dJ h.bG))=res;have HR:aj (res=(kJ (if(kJ (gM (conv (mean p i h.nm)) 6 6) (nest (eZ (dA A) 7 7 ⟨#[]⟩||eZ (dA A) 3 3 ⟨#[]⟩))==0)&&nG gs h.nm.toList then 8 else kJ (gM (conv (mean p i h.nm)) 6 6) (nest (eZ (dA A) 7 7 ⟨#[]⟩||eZ (dA A) 3 3 ⟨#[]⟩))) (jW p i h.dN h.xn h.dJ h.bG))):=ah (by rw[<- hres]);have iI:=ah hop;have wQ:=ah hin.1.2.2.1;have RX:=ah hfs;have RZ:=ah hgs;clear hres hop hI Xy Xx hA hfs hgs;have HH:=ah (show Sit w w _ from⟨ak _ _,hh⟩);have oN:=ah hin;have lQ:=ah hat;have ku:=ah har;have HP:=ah hp;unfold iy;clear hh hin hat har hp;go_enter Tryz.func55,Tryz.ntmps55;go_upto_region 1 with fail;generalize hW:World.alloc w _=W;generalize Value.agg #[_,_,_,_,_,_,_,_,_,_,_]=a0;have HX:aj (Sit w W (rA w.heap.size h b e s (Hg L.bc p aK aM aH aD i cK (dA A).len bQ kC fs.length iY jJ gs.length iX))):=ah (by rw[<- hW];exact HH.o.uW rfl _ _ _ _ _ _ _ _ _ _ _ _);clear hW HH;have K0: ∀w',Below W.heap.size W w'->w'.cell? ⟨L.bc,0,none⟩=some (.slice aK p.ds.length aH):=λw' hb=>(HX.o.next hb).2.2.2.2.2.2.2.2.2.2.2.2.1.2;have K1: ∀w',Below W.heap.size W w'->w'.cell? ⟨L.bc,1,none⟩=some (.slice aM p.ts.length aD):=λw' hb=>(HX.o.next hb).2.2.2.2.2.2.2.2.2.2.2.2.2.1.2;have K2: ∀w',Below W.heap.size W w'->w'.cell? ⟨L.bc,2,none⟩=some (.int .i64 i):=λw' hb=>(HX.o.next hb).2.2.2.2.2.2.2.2.2.2.2.2.2.2.1.2;have HD1:Below W.heap.size W (W.drewN 1):=below_drewN (ak _ _) 1;refine dI (by kernel_rfl) rfl ?_;generalize W.drewN 1=W1 at *;refine dw 0 11 [8,9] [[],[0],[0,1],[0,1,2],[],[4],[4,5],[4,5,6],[],[0,1,2,3,8],[0,1,2,3,4,5,6,7,8,9]] [[none,some false],[none,some false],[none,some false],[none,some false],[none,none],[none,none],[none,none],[none,none],[some false,some false],[some true,some false],[some true,some true]] (AC W1 (.cells #[.slice none 0 0,.slice none 0 0] 26) (.cells #[.slice aK p.ds.length aH,.slice aM p.ts.length aD] 26)) (λ_ _=>True) [15,16,17,18,19,20,21,22,5,6] rfl rfl (by rfl) (by kernel_rfl) (by kernel_rfl) (by kernel_rfl) (by kernel_rfl) (by kernel_rfl) (by rfl) (λ_=>trivial) (by rfl) rfl ?_;simp only[iW,mU]
 iterate 8
  apply bS.step
  case bg=>intro c A w' hok hC hO hD;have e0:=hO 0 (by rfl);simp[Act.eval]at e0;simp[Act.eval]at hD;simp[go_sem,gd,Oper.wp,hD,e0,K0,K1,AC.below HD1 hC,K2];exact aR.mk trivial (AC.skip (by rfl) (by rfl) hC) (bZ.mk _ _)
  try simp only[dR]
 apply bS.step
 case bg=>intro c A w' hok hC hO hD;obtain⟨x,y,rfl⟩:=hC.bits;obtain⟨rfl,rfl,-⟩:=hok;have hw:w'=W1:=hC;subst hw;simp[go_sem,gd,Oper.wp];exact aR.mk trivial (AC.lay (by rfl) (by rfl)) (bZ.mk _ _)
 refine bS.some (λ_ _=>True) (λ_ _ _ _ _=>trivial) ?_ ?_
 ·intro c A w' hok hC hO hD;obtain⟨x,y,rfl⟩:=hC.bits;obtain⟨rfl,rfl,-⟩:=hok;have hw:w'=W1.alloc _:=hC;subst hw;simp[Act.eval]at hD;simp[go_sem,gd,Oper.wp,hD];exact aR.Cx (v:=undef) trivial (AC.fill (by rfl) (by rfl)) trivial
 try simp only[dR]
 apply bS.step
 case bg=>intro c A w' hok hC hO hD;simp[Act.eval]at hD;simp[go_sem,gd,Oper.wp,hD];exact aR.mk trivial (AC.skip (by rfl) (by rfl) hC) (bZ.mk _ _)
 try simp only[dR]
 refine bS.done ?_;intro wz dF;simp only[List.drop_zero];intro v0 h0 v1 h1 v2 h2 v3 h3 v4 h4 v5 h5 v6 h6 v7 h7 v8 h8 v9 h9 v10 h10;have h8':v8=_:=h8;have Jt:v10=_:=h10;subst h8' Jt;clear h0 h1 h2 h3 h4 h5 h6 h7 h8 h9 h10;refine dP.nil ?_;refine eO rfl ?_;have GI:wz=W1.alloc _:=dF;generalize hn1:W1.heap.size=n1 at *;have HY:=ah ((HX.o.next HD1).wG hn1 (.slice aK p.ds.length aH) (.slice aM p.ts.length aD) 26);rw[<- GI]at HY;have HN1:aj (w.heap.size<=n1):=ah (by rw[<- hn1];exact(HX.o.next HD1).1.size);clear dF GI HX K0 K1 K2 HD1 hn1;go_simp;obtain⟨-,⟨-,c0⟩,⟨-,c1⟩,⟨-,c2⟩,⟨-,c3⟩,⟨-,c4⟩,⟨-,c5⟩,⟨-,c6⟩,⟨-,c7⟩,⟨-,c8⟩,⟨-,c9⟩,⟨-,c10⟩,⟨-,c11⟩,⟨-,c12⟩,⟨-,c13⟩,⟨-,c14⟩,⟨-,c15⟩,⟨-,c16⟩,⟨-,c17⟩,⟨-,c18⟩,-⟩:=HY.o;go_wp2_with fail;refine(iN p _ aK aM aH aD i cK bQ L.bc kC fs.length iY jJ gs.length iX (dA A) 7 7 ⟨#[]⟩ ku.o (lQ.o.same HY.o.1) (mM HY.o)).mono ?_;rintro e' W ⟨rfl,hb⟩;replace HY:=ah (HY.o.next hb);clear hb c0 c1 c2 c3 c4 c5 c6 c7 c8 c9 c10 c11 c12 c13 c14 c15 c16 c17 c18;obtain⟨-,⟨-,c0⟩,⟨-,c1⟩,⟨-,c2⟩,⟨-,c3⟩,⟨-,c4⟩,⟨-,c5⟩,⟨-,c6⟩,⟨-,c7⟩,⟨-,c8⟩,⟨-,c9⟩,⟨-,c10⟩,⟨-,c11⟩,⟨-,c12⟩,⟨-,c13⟩,⟨-,c14⟩,⟨-,c15⟩,⟨-,c16⟩,⟨-,c17⟩,⟨-,c18⟩,-⟩:=HY.o;go_wp2_with fail;refine(iN p _ aK aM aH aD i cK bQ L.bc kC fs.length iY jJ gs.length iX (dA A) 8 8 ⟨#[]⟩ ku.o (lQ.o.same HY.o.1) (mM HY.o)).mono ?_;rintro e' W ⟨rfl,hb⟩;replace HY:=ah (HY.o.next hb);clear hb c0 c1 c2 c3 c4 c5 c6 c7 c8 c9 c10 c11 c12 c13 c14 c15 c16 c17 c18;obtain⟨-,⟨-,c0⟩,⟨-,c1⟩,⟨-,c2⟩,⟨-,c3⟩,⟨-,c4⟩,⟨-,c5⟩,⟨-,c6⟩,⟨-,c7⟩,⟨-,c8⟩,⟨-,c9⟩,⟨-,c10⟩,⟨-,c11⟩,⟨-,c12⟩,⟨-,c13⟩,⟨-,c14⟩,⟨-,c15⟩,⟨-,c16⟩,⟨-,c17⟩,⟨-,c18⟩,-⟩:=HY.o;go_wp2_with fail;refine(iN p _ aK aM aH aD i cK bQ L.bc kC fs.length iY jJ gs.length iX (dA A) 3 3 ⟨#[]⟩ ku.o (lQ.o.same HY.o.1) (mM HY.o)).mono ?_;rintro e' W ⟨rfl,hb⟩;replace HY:=ah (HY.o.next hb);clear hb c0 c1 c2 c3 c4 c5 c6 c7 c8 c9 c10 c11 c12 c13 c14 c15 c16 c17 c18;obtain⟨-,⟨-,c0⟩,⟨-,c1⟩,⟨-,c2⟩,⟨-,c3⟩,⟨-,c4⟩,⟨-,c5⟩,⟨-,c6⟩,⟨-,c7⟩,⟨-,c8⟩,⟨-,c9⟩,⟨-,c10⟩,⟨-,c11⟩,⟨-,c12⟩,⟨-,c13⟩,⟨-,c14⟩,⟨-,c15⟩,⟨-,c16⟩,⟨-,c17⟩,⟨-,c18⟩,-⟩:=HY.o;generalize htx:eZ (dA A) 7 7 ⟨#[]⟩=tx at *;generalize hat':eZ (dA A) 8 8 ⟨#[]⟩=Ng at *;generalize hlo:eZ (dA A) 3 3 ⟨#[]⟩=lop at *;clear htx hat' hlo;have hop:=iI.o;obtain⟨g1,g2,g3,g4,g5,g6,g7,g8,g9,g10,g11,g12,g13,g14,g15⟩:=ad6 hop;clear hop;go_upto_region 44 with fail;go_cut [14] (λs' W3=>s'= .int .i64 (kJ (gM (conv (mean p i h.nm)) 6 6) (nest (tx||lop)))∧Sit w W3 ((n1,0,.slice aK p.ds.length aH)::(n1,1,.slice aM p.ts.length aD)::rA w.heap.size h b e s (Hg L.bc p aK aM aH aD i cK (dA A).len bQ kC fs.length iY jJ gs.length iX)))
 case first=>
  as_aux_lemma=>
   cases tx
   ·cases lop
    ·go_wp2_with fail;refine(je p i h.nm 6 6 _ aK aM aH aD hi (HP.o.same HY.o.1)).mono ?_;rintro e' W ⟨rfl,hb⟩;replace HY:=ah (HY.o.next hb);clear hb c0 c1 c2 c3 c4 c5 c6 c7 c8 c9 c10 c11 c12 c13 c14 c15 c16 c17 c18;obtain⟨-,⟨-,c0⟩,⟨-,c1⟩,⟨-,c2⟩,⟨-,c3⟩,⟨-,c4⟩,⟨-,c5⟩,⟨-,c6⟩,⟨-,c7⟩,⟨-,c8⟩,⟨-,c9⟩,⟨-,c10⟩,⟨-,c11⟩,⟨-,c12⟩,⟨-,c13⟩,⟨-,c14⟩,⟨-,c15⟩,⟨-,c16⟩,⟨-,c17⟩,⟨-,c18⟩,-⟩:=HY.o;go_wp2_with fail;refine(iQ _ _).mono ?_;rintro e' W' ⟨rfl,rfl⟩;go_wp2_with fail;refine(jI _ _ _).mono ?_;rintro e' W' ⟨rfl,rfl⟩;go_wp2_with fail;go_meet;exact⟨rfl,HY.o⟩
    ·go_wp2_with fail;refine(je p i h.nm 6 6 _ aK aM aH aD hi (HP.o.same HY.o.1)).mono ?_;rintro e' W ⟨rfl,hb⟩;replace HY:=ah (HY.o.next hb);clear hb c0 c1 c2 c3 c4 c5 c6 c7 c8 c9 c10 c11 c12 c13 c14 c15 c16 c17 c18;obtain⟨-,⟨-,c0⟩,⟨-,c1⟩,⟨-,c2⟩,⟨-,c3⟩,⟨-,c4⟩,⟨-,c5⟩,⟨-,c6⟩,⟨-,c7⟩,⟨-,c8⟩,⟨-,c9⟩,⟨-,c10⟩,⟨-,c11⟩,⟨-,c12⟩,⟨-,c13⟩,⟨-,c14⟩,⟨-,c15⟩,⟨-,c16⟩,⟨-,c17⟩,⟨-,c18⟩,-⟩:=HY.o;go_wp2_with fail;refine(iQ _ _).mono ?_;rintro e' W' ⟨rfl,rfl⟩;go_wp2_with fail;refine(jI _ _ _).mono ?_;rintro e' W' ⟨rfl,rfl⟩;go_wp2_with fail;go_meet;exact⟨rfl,HY.o⟩
   ·go_wp2_with fail;refine(je p i h.nm 6 6 _ aK aM aH aD hi (HP.o.same HY.o.1)).mono ?_;rintro e' W ⟨rfl,hb⟩;replace HY:=ah (HY.o.next hb);clear hb c0 c1 c2 c3 c4 c5 c6 c7 c8 c9 c10 c11 c12 c13 c14 c15 c16 c17 c18;obtain⟨-,⟨-,c0⟩,⟨-,c1⟩,⟨-,c2⟩,⟨-,c3⟩,⟨-,c4⟩,⟨-,c5⟩,⟨-,c6⟩,⟨-,c7⟩,⟨-,c8⟩,⟨-,c9⟩,⟨-,c10⟩,⟨-,c11⟩,⟨-,c12⟩,⟨-,c13⟩,⟨-,c14⟩,⟨-,c15⟩,⟨-,c16⟩,⟨-,c17⟩,⟨-,c18⟩,-⟩:=HY.o;go_wp2_with fail;refine(iQ _ _).mono ?_;rintro e' W' ⟨rfl,rfl⟩;go_wp2_with fail;refine(jI _ _ _).mono ?_;rintro e' W' ⟨rfl,rfl⟩;go_wp2_with fail;go_meet;exact⟨rfl,HY.o⟩
 obtain⟨rfl,hsit⟩:=hcut;replace HY:=ah hsit;clear hsit c0 c1 c2 c3 c4 c5 c6 c7 c8 c9 c10 c11 c12 c13 c14 c15 c16 c17 c18;obtain⟨W,rfl⟩: ∃W:World,W=wc:=⟨_,rfl⟩;generalize kJ (gM (conv (mean p i h.nm)) 6 6) (nest (tx||lop))=e1 at *;obtain⟨-,⟨-,c0⟩,⟨-,c1⟩,⟨-,c2⟩,⟨-,c3⟩,⟨-,c4⟩,⟨-,c5⟩,⟨-,c6⟩,⟨-,c7⟩,⟨-,c8⟩,⟨-,c9⟩,⟨-,c10⟩,⟨-,c11⟩,⟨-,c12⟩,⟨-,c13⟩,⟨-,c14⟩,⟨-,c15⟩,⟨-,c16⟩,⟨-,c17⟩,⟨-,c18⟩,-⟩:=HY.o;have K9:=ah (Gm gs h.nm);go_upto_region 45 with fail;go_cut [253] (λs' W3=>s'= .bool ((e1==0)&&nG gs h.nm.toList)∧Sit w W3 ((n1,0,.slice aK p.ds.length aH)::(n1,1,.slice aM p.ts.length aD)::rA w.heap.size h b e s (Hg L.bc p aK aM aH aD i cK (dA A).len bQ kC fs.length iY jJ gs.length iX)))
 case first=>
  as_aux_lemma=>
   obtain⟨T,F,Af,hst,hF,hnext⟩:=calm W;have HF:=ah hF;have dB:=ah hnext;clear hnext hF;have d0:=λx=>(HY.o.next (HF.o x)).2.1.2;have d1:=λx=>(HY.o.next (HF.o x)).2.2.1.2;have d2:=λx=>(HY.o.next (HF.o x)).2.2.2.1.2;have d3:=λx=>(HY.o.next (HF.o x)).2.2.2.2.1.2;have d4:=λx=>(HY.o.next (HF.o x)).2.2.2.2.2.1.2;have d5:=λx=>(HY.o.next (HF.o x)).2.2.2.2.2.2.1.2;have d6:=λx=>(HY.o.next (HF.o x)).2.2.2.2.2.2.2.1.2;have d7:=λx=>(HY.o.next (HF.o x)).2.2.2.2.2.2.2.2.1.2;have d8:=λx=>(HY.o.next (HF.o x)).2.2.2.2.2.2.2.2.2.1.2;have d9:=λx=>(HY.o.next (HF.o x)).2.2.2.2.2.2.2.2.2.2.1.2;have rV:=λx=>(HY.o.next (HF.o x)).2.2.2.2.2.2.2.2.2.2.2.1.2;have uo:=λx=>(HY.o.next (HF.o x)).2.2.2.2.2.2.2.2.2.2.2.2.1.2;have AL:=λx=>(HY.o.next (HF.o x)).2.2.2.2.2.2.2.2.2.2.2.2.2.1.2;have D8:=λx=>(HY.o.next (HF.o x)).2.2.2.2.2.2.2.2.2.2.2.2.2.2.1.2;have vV:=λx=>(HY.o.next (HF.o x)).2.2.2.2.2.2.2.2.2.2.2.2.2.2.2.1.2;have D9:=λx=>(HY.o.next (HF.o x)).2.2.2.2.2.2.2.2.2.2.2.2.2.2.2.2.1.2;have AO:=λx=>(HY.o.next (HF.o x)).2.2.2.2.2.2.2.2.2.2.2.2.2.2.2.2.2.1.2;have Da:=λx=>(HY.o.next (HF.o x)).2.2.2.2.2.2.2.2.2.2.2.2.2.2.2.2.2.2.1.2;have AP:=λx=>(HY.o.next (HF.o x)).2.2.2.2.2.2.2.2.2.2.2.2.2.2.2.2.2.2.2.1.2;clear c0 c1 c2 c3 c4 c5 c6 c7 c8 c9 c10 c11 c12 c13 c14 c15 c16 c17 c18;cases he1:(e1==0)
   ·clear K9;refine jh F (by kernel_rfl) (by kernel_rfl) hst ?_
    repeat (any_goals (first|go_big_quiet_step ((fail))|(refine wpQuiet_step (λK hK=> ?_);go_simp;first|(refine hK _ ?_;clear hK K)|(split <;> first|(refine hK _ ?_;clear hK K)|(apply Exists.intro;refine⟨λ_=> ?_,hK _ ?_⟩;((fail));clear hK K)))))
    all_goals (refine wpQuiet_nil ?_;rintro _ ⟨x,rfl⟩)
    replace HY:=ah (HY.o.next (HF.o x));clear d0 d1 d2 d3 d4 d5 d6 d7 d8 d9 rV uo AL D8 vV D9 AO Da AP HF dB hst;generalize F x=W2 at *;go_wp2_with fail;go_meet;exact⟨by first|(rw[he1];rfl)|simp[he1],HY.o⟩
   ·obtain rfl:e1=0:=(by simpa using he1);rcases K9.o with⟨zU,uF⟩|⟨jj,zU,uF⟩
    ·have CO:=ah zU;have Wx:=ah uF;clear K9 zU uF he1;refine jh F (by kernel_rfl) (by kernel_rfl) hst ?_
     repeat (any_goals (first|go_big_quiet_step ((first|(go_at_call 54;refine(nV gs h.nm _ jJ iX (by have:=RZ.o;unfold maxLen;omega) ((jP.o.same HY.o.1).same (HF.o _))).mono ?_;rintro e w' ⟨rfl,rfl⟩;rw[CO.o];exact⟨rfl,dB.o _ _ (ak _ _)⟩)))|(refine wpQuiet_step (λK hK=> ?_);go_simp;first|(refine hK _ ?_;clear hK K)|(split <;> first|(refine hK _ ?_;clear hK K)|(apply Exists.intro;refine⟨λ_=> ?_,hK _ ?_⟩;((first|(go_at_call 54;refine(nV gs h.nm _ jJ iX (by have:=RZ.o;unfold maxLen;omega) ((jP.o.same HY.o.1).same (HF.o _))).mono ?_;rintro e w' ⟨rfl,rfl⟩;rw[CO.o];exact⟨rfl,dB.o _ _ (ak _ _)⟩)));clear hK K)))))
     all_goals (refine wpQuiet_nil ?_;rintro _ ⟨x,rfl⟩)
     replace HY:=ah (HY.o.next (HF.o x));clear d0 d1 d2 d3 d4 d5 d6 d7 d8 d9 rV uo AL D8 vV D9 AO Da AP HF dB hst;generalize F x=W2 at *;go_wp2_with fail;go_meet;exact⟨by first|(rw[Wx.o];rfl)|simp[Wx.o],HY.o⟩
    ·have CO:=ah zU;have Wx:=ah uF;have hj0:(0:Int)<=(jj:Int):=(by omega);clear K9 zU uF he1;refine jh F (by kernel_rfl) (by kernel_rfl) hst ?_
     repeat (any_goals (first|go_big_quiet_step ((first|(go_at_call 54;refine(nV gs h.nm _ jJ iX (by have:=RZ.o;unfold maxLen;omega) ((jP.o.same HY.o.1).same (HF.o _))).mono ?_;rintro e w' ⟨rfl,rfl⟩;rw[CO.o];exact⟨rfl,dB.o _ _ (ak _ _)⟩)))|(refine wpQuiet_step (λK hK=> ?_);go_simp;first|(refine hK _ ?_;clear hK K)|(split <;> first|(refine hK _ ?_;clear hK K)|(apply Exists.intro;refine⟨λ_=> ?_,hK _ ?_⟩;((first|(go_at_call 54;refine(nV gs h.nm _ jJ iX (by have:=RZ.o;unfold maxLen;omega) ((jP.o.same HY.o.1).same (HF.o _))).mono ?_;rintro e w' ⟨rfl,rfl⟩;rw[CO.o];exact⟨rfl,dB.o _ _ (ak _ _)⟩)));clear hK K)))))
     all_goals (refine wpQuiet_nil ?_;rintro _ ⟨x,rfl⟩)
     replace HY:=ah (HY.o.next (HF.o x));clear d0 d1 d2 d3 d4 d5 d6 d7 d8 d9 rV uo AL D8 vV D9 AO Da AP HF dB hst;generalize F x=W2 at *;go_wp2_with fail;go_meet;exact⟨by first|(rw[Wx.o];rfl)|simp[Wx.o],HY.o⟩
 obtain⟨rfl,hsit⟩:=hcut;replace HY:=ah hsit;clear hsit c0 c1 c2 c3 c4 c5 c6 c7 c8 c9 c10 c11 c12 c13 c14 c15 c16 c17 c18 K9;obtain⟨W2,rfl⟩: ∃W:World,W=wc:=⟨_,rfl⟩;generalize ((e1==0)&&nG gs h.nm.toList)=tb at *
 go_upto_if 253 with fail
 go_cut [14] (λs' W3=>s'= .int .i64 (if tb then 8 else e1)∧W2=W3)
 case first=>
  cases tb
  all_goals go_wp2_with fail
  all_goals go_meet
  all_goals exact⟨rfl,rfl⟩
 obtain⟨rfl,rfl⟩:=hcut;generalize (if tb=true then 8 else e1)=e2 at *;have hI2:=HI.o.below HY.o.1;have HI2:=ah hI2;have K4: ∀w',Below W2.heap.size W2 w'->w'.cell? ⟨L.bc,5,none⟩=some (.slice jJ gs.length iX):=λw' hb=>(eY (HI2.o.below hb).blk (j:=5) rfl).2;have K2: ∀w',Below W2.heap.size W2 w'->w'.cell? ⟨w.heap.size,2,none⟩=some (.string h.nm):=λw' hb=>(HY.o.next hb).2.2.2.2.2.1.2;have hd1:Below W2.heap.size W2 (W2.drewN 1):=below_drewN (ak _ _) 1;have hgs:=RZ.o;clear hI2;go_upto_region 47 with fail;refine dI (by kernel_rfl) rfl ?_;generalize W2.drewN 1=W5 at *;have hd2:Below W2.heap.size W2 (W5.alloc (.cells #[.string h.nm] 9)):=hd1.trans ((au _ _).mono hd1.size);obtain⟨i0,hi0,hz0,hz1,hz2⟩:=Ra;obtain⟨gg,cap,w4,hrun,sD,qh,xZ,Ct⟩:=run_append_lies (P:=Tryz.prog) (W5.alloc (.cells #[.string h.nm] 9)) 31 31 L.B1 9 i0 _ 1 16 Tryz.underlying31 hi0 hz0 hz1 hz2 rfl (by omega) (.slice jJ gs.length iX) gs.length (nQ gs) (HI2.o.below hd2).re ⟨W5.heap.size,0,none⟩ 1 1 [.string h.nm] rfl (World.news_of_block (cs:= #[.string h.nm]) (heap_alloc_new W5 _)) (by simp[Value.oneCell']) (by omega) (by unfold maxLen;omega) (by omega) (HI2.o.below hd2).sz _ rfl;have Zc:=ah hrun;have HAD:=ah (HI2.o.bp5 wQ.o hd2 sD qh xZ);have eF:aj (w4.heap[L.bc]? =some (.cells (wkV p aK aM aH aD i (.slice cK A.length bQ) (.slice kC fs.length iY) (.slice jJ gs.length iX)) 90 (0,0))):=ah ((qh.block _ (Array.getElem?_eq_some_iff.1 (HI2.o.below hd2).blk).1 (λe'=>HI2.o.LW (u:= .slice jJ gs.length iX) (by simp) e'.symm)).trans (HI2.o.below hd2).blk);have k4:w4.cell? ⟨L.bc,5,none⟩=some (.slice jJ gs.length iX):=(eY eF.o (j:=5) rfl).2;have f4:w4.frozen? ⟨L.bc,5,none⟩=false:=bH eF.o;clear hrun sD qh xZ Ct hi0 hz0 hz1 hz2 eF;refine dw 0 12 [7,8,11] [[],[],[1],[1,2],[1,2,3],[],[5],[5,6],[1,2,3,4,5,6,7],[0,1,2,3,4,5,6,7,8],[0,1,2,3,4,5,6,7,8,9],[0,1,2,3,4,5,6,7,8,9,10]] [[none,none,some false],[none,some false,some false],[none,some false,some false],[none,some false,some false],[none,some false,some false],[some false,some false,some false],[some false,some false,some false],[some false,some false,some false],[some true,some false,some false],[some true,some true,some false],[some true,some true,some false],[some true,some true,some false]] (C3 W5 (W5.alloc (.cells #[.string h.nm] 9)) w4 (w4.setCell ⟨L.bc,5,none⟩ (.slice (some ⟨gg,0,none⟩) (gs.length+1) cap))) (λ_ _=>True) [254,255,256,257,258,259,260,261,262,263,264] rfl rfl (by rfl) (by kernel_rfl) (by kernel_rfl) (by kernel_rfl) (by kernel_rfl) (by kernel_rfl) (by rfl) (λ_=>trivial) (by rfl) rfl ?_;simp only[iW,mU]
 iterate 4
  apply bS.step
  case bg=>intro c A w' hok hC hO hD;have e0:=hO 0 (by rfl);simp[Act.eval]at e0;simp[Act.eval]at hD;simp[go_sem,gd,Oper.wp,hD,e0];exact aR.mk trivial (C3.skip (by rfl) (by rfl) (by rfl) hC) (bZ.mk _ _)
  try simp only[dR]
 apply bS.step
 case bg=>intro c A w' hok hC hO hD;simp[Act.eval]at hD;simp[go_sem,gd,Oper.wp,hD,K4,C3.low hd1 hd2 hok hC];exact aR.mk trivial (C3.skip (by rfl) (by rfl) (by rfl) hC) (bZ.mk _ _)
 apply bS.step
 case bg=>intro c A w' hok hC hO hD;have e3:=hO 3 (by rfl);simp[Act.eval]at e3;simp[Act.eval]at hD;simp[go_sem,gd,Oper.wp,hD,e3];exact aR.mk trivial (C3.skip (by rfl) (by rfl) (by rfl) hC) (bZ.mk _ _)
 apply bS.step
 case bg=>intro c A w' hok hC hO hD;simp[Act.eval]at hD;simp[go_sem,gd,Oper.wp,hD,K2,C3.low hd1 hd2 hok hC];exact aR.mk trivial (C3.skip (by rfl) (by rfl) (by rfl) hC) (bZ.mk _ _)
 try simp only[dR]
 apply bS.step
 case bg=>intro c A' w' hok hC hO hD;obtain⟨rfl,rfl⟩:=C3.w1 hok hC;simp[Act.eval]at hD;simp[go_sem,gd,Oper.wp,hD];exact aR.mk trivial (C3.one (by rfl) (by rfl) (by rfl)) (bZ.mk _ _)
 apply bS.step
 case bg=>intro c A' w' hok hC hO hD;obtain⟨rfl,rfl⟩:=C3.w2 hok hC;simp[Act.eval]at hD;simp only[gd,if_true];refine wp_append_run _ _ _ (.slice jJ gs.length iX) (.slice (some ⟨W5.heap.size,0,none⟩) 1 1) _ (by rfl) (by simp[Act.eval,hD]) (by simp[Act.eval,hD]) Zc.o ?_;exact aR.mk trivial (C3.two (by rfl) (by rfl) (by rfl)) (bZ.mk _ _)
 try simp only[dR]
 iterate 2
  apply bS.step
  case bg=>intro c A w' hok hC hO hD;simp[Act.eval]at hD;simp[go_sem,gd,Oper.wp,hD];exact aR.mk trivial (C3.skip (by rfl) (by rfl) (by rfl) hC) (bZ.mk _ _)
  try simp only[dR]
 refine bS.some (λ_ _=>True) (λ_ _ _ _ _=>trivial) ?_ ?_
 ·intro c A' w' hok hC hO hD;obtain⟨rfl,rfl⟩:=C3.w3 hok hC;simp[Act.eval]at hD;simp[go_sem,gd,Oper.wp,hD,k4,f4];exact aR.Cx (v:=undef) trivial (C3.three (by rfl) (by rfl) (by rfl)) trivial
 try simp only[dR]
 refine bS.done ?_;intro wy Xn;simp only[List.drop_zero];intro v0 h0 v1 h1 v2 h2 v3 h3 v4 h4 v5 h5 v6 h6 v7 h7 v8 h8 v9 h9 v10 h10 v11 h11;clear h0 h1 h2 h3 h4 h5 h6 h7 h8 h9 h10 h11;refine dP.nil ?_;refine eO rfl ?_;have Qf:wy=w4.setCell _ _:=Xn;rw[<- Qf]at HAD;clear Xn Qf k4 f4 K4 K2 hd1 hd2;go_simp;have OX:aj (∀k,k<W2.heap.size->w.heap.size<=k->wy.heap[k]? =W2.heap[k]?):=ah (λk hk hw=>HAD.o.2.1.far hk (aP HI.o.sz hw) (λe=>by have:=(HI.o.own k e).2;omega));have hY:=HY.o;have z0:wy.cell? ⟨n1,0,none⟩=some (.slice aK p.ds.length aH):=(World.cell?_of_block (a:=⟨n1,0,none⟩) (OX.o n1 hY.2.1.1 HN1.o)).trans hY.2.1.2;have z1:wy.cell? ⟨n1,1,none⟩=some (.slice aM p.ts.length aD):=(World.cell?_of_block (a:=⟨n1,1,none⟩) (OX.o n1 hY.2.1.1 HN1.o)).trans hY.2.2.1.2;have hn0:w.heap.size<W2.heap.size:=hY.2.2.2.1.1;have z5:wy.cell? ⟨w.heap.size,5,none⟩=some (.int .i64 h.dN):=(World.cell?_of_block (a:=⟨w.heap.size,5,none⟩) (OX.o _ hn0 (aB _))).trans hY.2.2.2.2.2.2.2.2.1.2;have z6:wy.cell? ⟨w.heap.size,6,none⟩=some (.int .i64 h.xn):=(World.cell?_of_block (a:=⟨w.heap.size,6,none⟩) (OX.o _ hn0 (aB _))).trans hY.2.2.2.2.2.2.2.2.2.1.2;have z7:wy.cell? ⟨w.heap.size,7,none⟩=some (.string h.dJ):=(World.cell?_of_block (a:=⟨w.heap.size,7,none⟩) (OX.o _ hn0 (aB _))).trans hY.2.2.2.2.2.2.2.2.2.2.1.2;have z8:wy.cell? ⟨w.heap.size,8,none⟩=some (.slice s.fT h.bG.len s.eu):=(World.cell?_of_block (a:=⟨w.heap.size,8,none⟩) (OX.o _ hn0 (aB _))).trans hY.2.2.2.2.2.2.2.2.2.2.2.1.2;have HKD:aj (h.bG.At wy L.B0 s.fT 0):=ah (OW.o.2.2.1.below ((HY.o.1.mono HI.o.b0).trans (HAD.o.2.1.below HI2.o.b0 (λk e=>(HI2.o.own k e).1))));clear hY hn0 OX;go_wp2_with fail;refine(jA p i h.dN h.xn h.dJ h.bG _ aK aM s.fT aH aD s.eu hi (HAD.o.1.dat.use HAD.o.1.b0) oN.o.1.2.2.2.2.2.1 (HKD.o.mono HAD.o.1.b0)).mono ?_;rintro e' W6 ⟨rfl,hb6⟩;have dG:=ah hb6;clear hb6 z0 z1 z5 z6 z7 z8;go_wp2_with fail;refine(jI _ _ _).mono ?_;rintro e' W' ⟨rfl,rfl⟩;go_wp2_with fail;go_ret;exact⟨bV HR.o.symm,((Kw.of_below HY.o.1).trans (mH.refl _ _) HAD.o.2.1).trans ((mH.refl _ _).trans HAD.o.2.2 HY.o.1.size) (Kw.of_below dG.o),_,_,_,_,(mH.refl _ _).trans HAD.o.2.2 HY.o.1.size,HAD.o.1.below dG.o,λ_=>⟨rfl,rfl⟩⟩
end Go.Proofs.YtmildapbbcbbhaaGreatDoor
