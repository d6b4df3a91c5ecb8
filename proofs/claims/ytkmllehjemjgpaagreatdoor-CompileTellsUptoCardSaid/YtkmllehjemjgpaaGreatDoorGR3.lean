/- Contracts of the reference's or, nesting, and of its walk's inside. And what hangs on it. -/
import Derived.Test.YtkmllehjemjgpaaGreatDoorGMF
import Derived.Test.YtkmllehjemjgpaaGreatDoorGR7
import Derived.Test.YtkmllehjemjgpaaGreatDoorGMJ
import Derived.StillTailTactics
import Derived.IntWalk
set_option linter.unusedSimpArgs false
set_option linter.unusedVariables false
set_option maxHeartbeats 40000000
set_option maxRecDepth 1000000
namespace Go.Proofs.YtkmllehjemjgpaaGreatDoor
open Go.RowKit
namespace Md
def jG (a b:Int):Int:=if a != 0 then a else b
def dP:aH->Int->Int->ByteArray->Bool
 | .nil,_,_,_=>false
 | .cons h _ _ r,a,b,nm=>((h.op==a||h.op==b)&&(nm.toList.isEmpty||h.nm.toList==nm.toList))||dP r a b nm
end Md
open Md
def FJ (bc:Nat) (p:Pr) (aB aD:Option Addr) (aA ay:Nat) (i:Int) (bK:Option Addr) (vw aU:Nat) (jC:Option Addr) (nZ gI:Nat) (fT:Option Addr) (nY gH:Nat):List (Nat×Nat×Value):=
 [(bc,0,.slice aB p.ds.length aA),(bc,1,.slice aD p.ts.length ay),(bc,2,.int .i64 i),(bc,3,.slice bK vw aU),(bc,4,.slice jC nZ gI),(bc,5,.slice fT nY gH)]
theorem gy (b:Bool) (w:World):
 Calls Tryz.prog 95 #[.bool b] w λe w'=>e= .returned (.int .i64 (nest b))∧w=w':=by
 cases b
 all_goals go_enter Tryz.func95,Tryz.ntmps95;go_wp2;go_ret;exact⟨rfl,rfl⟩
theorem iO (a b:Int) (w:World):
 Calls Tryz.prog 92 #[.int .i64 a,.int .i64 b] w λe w'=>e= .returned (.int .i64 (jG a b))∧w=w':=by
 generalize hres:jG a b=res;have HR:=ah hres;clear hres;cases ha:(a != 0)
 all_goals go_enter Tryz.func92,Tryz.ntmps92;go_wp2;go_ret;exact⟨aV (by rw[<- HR.o];unfold jG;rw[ha];rfl),rfl⟩
section
variable (p:Pr) (w:World) (aB aD:Option Addr) (aA ay:Nat) (i:Int) (bK:Option Addr) (aU bc:Nat) (jC:Option Addr) (nZ gI:Nat) (fT:Option Addr) (nY gH:Nat)
theorem gu (ar:aH) (a b':Int) (nm:ByteArray) (har:ar.len<=maxLen) (hat:ar.At w w.heap.size bK 0) (hh:Holds w (FJ bc p aB aD aA ay i bK ar.len aU jC nZ gI fT nY gH)):
 Calls Tryz.prog 91 #[.pointer (some ⟨bc,0,none⟩),.int .i64 a,.int .i64 b',.string nm] w λe w'=>e= .returned (.bool (dP ar a b' nm))∧Below w.heap.size w w':=by
 have HH:=ah (show Sit w w _ from⟨Below.refl _ _,hh⟩);have HAT:=ah hat;generalize hres:dP ar a b' nm=res;have HR:=ah hres;unfold maxLen at har;clear hh hat hres;go_enter Tryz.func91,Tryz.ntmps91;go_wp2_with fail;go_loopg [9,10] ar.len (λg s _ wr=> ∃(k:Nat) (R:aH),g=R.len∧s= .int .i64 k∧k+R.len=ar.len∧res=dP R a b' nm∧R.At wr wr.heap.size bK k∧Sit w wr (FJ bc p aB aD aA ay i bK ar.len aU jC nZ gI fT nY gH))
 case atStart=>exact⟨0,ar,rfl,rfl,by simp,HR.o.symm,HAT.o,HH.o⟩
 case round=>
  obtain⟨k,R,rfl,rfl,hlen,heq,hrow,hB⟩:=hrel;have HE:=ah heq;have HB:=ah hB;clear heq hB HH;obtain⟨-,⟨-,c0⟩,⟨-,c1⟩,⟨-,c2⟩,⟨-,c3⟩,⟨-,c4⟩,⟨-,c5⟩,-⟩:=HB.o;cases R with
  |nil=>
   obtain rfl:k=ar.len:=by simpa[aH.len]using hlen
   go_wp2_with fail;go_ret;exact⟨aZ HE.o.symm,HB.o.1⟩
  |cons h b e R=>
   obtain⟨bl,off,s,rfl,hbl,hin,x0,x1,x2,x3,x4,x5,x6,x7,x8,x9,x10,hrest⟩:=aH.At.head hrow;have hkl:k<ar.len:=by simp only[aH.len]at hlen;omega
   clear hrow hin;go_upto_region 5 with fail;obtain⟨nb,hnb⟩: ∃n,wr.heap.size=n:=⟨_,rfl⟩;generalize hW2:World.alloc wr _=W2;have HY:aj (Sit wr W2 (ql nb h b e s [])):=ah (by rw[<- hW2];exact(Sit.start wr).tK hnb _ _ _ _ _ _ _ _ _ _ _ _);have HB2:=ah (HB.o.next HY.o.1);have jE:=ah (hrest.same HY.o.1);rw[hnb];clear hW2 hnb x0 x1 x2 x3 x4 x5 x6 x7 x8 x9 x10 hrest c0 c1 c2 c3 c4 c5;obtain⟨-,⟨-,c0⟩,⟨-,c1⟩,⟨-,c2⟩,⟨-,c3⟩,⟨-,c4⟩,⟨-,c5⟩,⟨-,c6⟩,⟨-,c7⟩,⟨-,c8⟩,⟨-,c9⟩,⟨-,c10⟩,-⟩:=HY.o;clear c1 c3 c4 c5 c6 c7 c8 c9 c10;go_cut [46] (λs' W3=>W2=W3∧s'= .bool ((h.op==a||h.op==b')&&(nm.toList.isEmpty||h.nm.toList==nm.toList)))
   case first=>
    as_aux_lemma=>
     cases ha:(h.op==a)
     all_goals cases hb:(h.op==b')
     all_goals cases hn:nm.toList.isEmpty
     all_goals cases hm:(h.nm.toList==nm.toList)
     all_goals go_wp2_with fail
     all_goals go_meet
     all_goals exact⟨rfl,by first|rfl|(rw[ha,hb,hn,hm];rfl)|(simp[ha,hb,hn,hm])⟩
   obtain⟨rfl,rfl⟩:=hcut;have HE2:aj (res=(((h.op==a||h.op==b')&&(nm.toList.isEmpty||h.nm.toList==nm.toList))||dP R a b' nm)):=ah (HE.o.trans (by rw[dP]));generalize ((h.op==a||h.op==b')&&(nm.toList.isEmpty||h.nm.toList==nm.toList))=t at *;cases t
   ·go_wp2_with fail;go_roundg R.len
    case measure=>simp[aH.len]
    case rel=>exact⟨k+1,R,rfl,by go_num,by simp only[aH.len]at hlen;omega,HE2.o,jE.o,HB2.o⟩
   ·go_wp2_with fail;go_ret;exact⟨aZ HE2.o.symm,HB2.o.1⟩
end
def AC (W1:World) (z v:Obj):List Bool->World->Prop
 | [false,false],w'=>w'=W1
 | [true,false],w'=>w'=W1.alloc z
 | [true,true],w'=>w'=W1.alloc v
 |_,_=>False
theorem AC.bits {W1:World} {z v:Obj} : ∀ {c:List Bool} {w':World},AC W1 z v c w'->∃x y,c=[x,y]
 | [x,y],_,_=>⟨x,y,rfl⟩
 | [],_,h=>h.elim
 | [true],_,h=>h.elim
 | [false],_,h=>h.elim
 |_::_::_::_,_,h=>by simp[AC]at h
theorem AC.skip {W1:World} {z v:Obj} {a1 a2 i:Nat} {c:List Bool} {w':World} (h1:(a1==i)=false) (h2:(a2==i)=false) (h:AC W1 z v c w'):AC W1 z v (gJ [a1,a2] c i) w':=by
 obtain⟨x,y,rfl⟩:=h.bits;simpa[gJ,h1,h2]using h
theorem AC.lay {W1:World} {z v:Obj} {a1 a2 i:Nat} (h1:(a1==i)=true) (h2:(a2==i)=false):AC W1 z v (gJ [a1,a2] [false,false] i) (W1.alloc z):=by
 simp only[gJ,h1,h2,Bool.or_false,Bool.or_true];rfl
theorem AC.fill {W1:World} {z v:Obj} {a1 a2 i:Nat} (h1:(a1==i)=false) (h2:(a2==i)=true):AC W1 z v (gJ [a1,a2] [true,false] i) (W1.alloc v):=by
 simp only[gJ,h1,h2,Bool.or_false,Bool.or_true];rfl
theorem AC.below {W W1:World} {z v:Obj} {c:List Bool} {w':World} (hb:Below W.heap.size W W1) (h:AC W1 z v c w'):Below W.heap.size W w':=by
 obtain⟨x,y,rfl⟩:=h.bits;cases x <;> cases y
 ·have h:w'=W1:=h;rw[h];exact hb
 ·exact h.elim
 ·have h:w'=W1.alloc z:=h;rw[h];exact hb.trans ((ak _ _).mono hb.size)
 ·have h:w'=W1.alloc v:=h;rw[h];exact hb.trans ((ak _ _).mono hb.size)
namespace Md
theorem UD:(⟨#[]⟩:ByteArray).toList=[]:=by simp[Lib.toList_data]
theorem nu (k:Int): ∀ar:aH,dP ar k k ⟨#[]⟩=dW ar [k]
 | .nil=>rfl
 | .cons h b e r=>by simp[dP,dW,nu k r,UD]
theorem Ii (k:Int) (nm:ByteArray) (hn:nm.toList.isEmpty=false): ∀ar:aH,dP ar k k nm=pY ar nm [k]
 | .nil=>rfl
 | .cons h b e r=>by simp[dP,pY,Ii k nm hn r,hn]
theorem Ij (a b:Int) (nm:ByteArray) (hn:nm.toList.isEmpty=false): ∀ar:aH,dP ar a b nm=pY ar nm [a,b]
 | .nil=>rfl
 | .cons h _ _ r=>by simp only[dP,pY,Ij a b nm hn r,hn,List.any_cons,List.any_nil,Bool.or_false,Bool.false_or];cases h.op==a <;> cases h.op==b <;> cases h.nm.toList==nm.toList <;> rfl
theorem Dt (a b:Int): ∀ar:aH,dW ar [a,b]=(dW ar [a]||dW ar [b])
 | .nil=>rfl
 | .cons h _ _ r=>by simp only[dW,Dt a b r,List.any_cons,List.any_nil,Bool.or_false];cases h.op==a <;> cases h.op==b <;> cases dW r [a] <;> cases dW r [b] <;> rfl
theorem Jz (a b c:Int): ∀ar:aH,dW ar [a,b,c]=((dW ar [a]||dW ar [b])||dW ar [c])
 | .nil=>rfl
 | .cons h _ _ r=>by simp only[dW,Jz a b c r,List.any_cons,List.any_nil,Bool.or_false];cases h.op==a <;> cases h.op==b <;> cases h.op==c <;> cases dW r [a] <;> cases dW r [b] <;> cases dW r [c] <;> rfl
theorem sO (a b:Int):eF [a,b]=jG a b:=by
 unfold eF jG;cases ha:a != 0
 ·simp[eF];intro h;exact h.symm
 ·simp
theorem BS (a b c:Int):eF [a,b,c]=jG a (jG b c):=by
 rw[<- sO b c];rfl
theorem mF (p:Pr) (i:Int) (nm:ByteArray) (k a:Int) (hk:0<=k∧k<=9) (ha:conv k=a):dh (mean p i nm) [k]=eY (conv (mean p i nm)) a a:=by
 subst ha;exact(Pj _ k (zP p i nm) hk).symm
theorem SA (p:Pr) (i:Int) (nm:ByteArray):dh (mean p i nm) [1,2]=eY (conv (mean p i nm)) 8 1:=
 (Pk _ 1 2 (zP p i nm) (by decide) (by decide)).symm
theorem Jg {p:Pr} {i:Int} {nm:ByteArray} (h:eY (conv (mean p i nm)) 5 5=0): ∃(k:Nat) (d:De) (r:List De),k<p.ds.length∧fidx (λd:De=>d.nm.toList==nm.toList) p.ds 0=(k:Int)∧p.ds.drop k=d::r∧d∈p.ds∧d.kind=5∧nU p.ds nm=d.on:=by
 have h6:mean p i nm=6:=by rw[<- mF p i nm 6 5 (by decide) rfl]at h;exact qR h
 rcases oF (λd:De=>d.nm.toList==nm.toList) p.ds 0 with⟨-,hn,-⟩|⟨k,d,r,hk,hf,hd,hs,-⟩
 ·exfalso;unfold mean oN qV at h6;rw[hn]at h6;split at h6
  ·cases h6
  ·simp only[Option.map_none,Option.getD_none]at h6;split at h6 <;> cases h6
 ·have hdm:eO d=6:=by
   unfold mean oN at h6;rw[hs]at h6;split at h6
   ·cases h6
   ·simpa using h6
  have h5:d.kind=5:=by unfold eO at hdm;grind
  refine⟨k,d,r,hk,by simpa using hf,hd,List.mem_of_find?_eq_some hs,h5,?_⟩;unfold nU;have:p.ds.find? (λd=>d.kind==5&&d.nm.toList==nm.toList)=some d:=by
   clear hf hd hk h6 hdm h;revert hs
   induction p.ds with
   |nil=>intro hs;simp at hs
   |cons x r ih=>
    intro hs;rw[List.find?_cons]at hs⊢;cases hx:x.nm.toList==nm.toList
    ·rw[hx]at hs;simp only[Bool.and_false];exact ih hs
    ·rw[hx]at hs;injection hs with hs;subst hs;simp[h5]
  rw[this];rfl
end Md
theorem kW {p:Pr} {w W:World} {aB aD:Option Addr} {aA ay:Nat} {i:Int} {bK:Option Addr} {vw aU bc:Nat} {jC:Option Addr} {nZ gI:Nat} {fT:Option Addr} {nY gH n0 n1:Nat} {h:cB} {b e:aH} {s:Sl} {u v:Value}
 (hs:Sit w W ((n1,0,u)::(n1,1,v)::ql n0 h b e s (FJ bc p aB aD aA ay i bK vw aU jC nZ gI fT nY gH))):Holds W (FJ bc p aB aD aA ay i bK vw aU jC nZ gI fT nY gH):=hs.2.2.2.2.2.2.2.2.2.2.2.2.2.2
def wkV (p:Pr) (aB aD:Option Addr) (aA ay:Nat) (i:Int) (v vs ve:Value):Array Value:= #[.slice aB p.ds.length aA,.slice aD p.ts.length ay,.int .i64 i,v,vs,ve]
structure qN where
 B0:Nat
 B1:Nat
 bc:Nat
 c0:B0<=bc
 c1:bc<B1
def Qp (w:World) (B0:Nat) (p:Pr) (aB aD:Option Addr):Prop:=p.ds.length<=maxLen∧p.ts.length<=maxLen∧gM w B0 p.ds aB 0∧fQ w B0 p.ts aD 0
theorem Qp.below {w w':World} {B0:Nat} {p:Pr} {aB aD:Option Addr} (h:Qp w B0 p aB aD) (hb:Below B0 w w'):Qp w' B0 p aB aD:=⟨h.1,h.2.1,h.2.2.1.below hb,h.2.2.2.below hb⟩
theorem Qp.use {w:World} {B0:Nat} {p:Pr} {aB aD:Option Addr} (h:Qp w B0 p aB aD) (hB:B0<=w.heap.size):p.At w aB aD:=⟨h.1,h.2.1,h.2.2.1.mono hB,h.2.2.2.mono hB⟩
def jr (l:List ByteArray):List Value:=l.map .string
def Own (V:List Value) (k:Nat):Prop:= ∃u∈V,u.ownBlock=some k
structure Kw (L:qN) (V:List Value) (w w':World):Prop where
 os:w'.os=w.os
 tape:w'.tape=w.tape
 output:w'.output=w.output
 size:w.heap.size<=w'.heap.size
 block: ∀k,k<w.heap.size->k≠L.bc-> ¬Own V k->w'.heap[k]? =w.heap[k]?
def kK (w:World) (V V':List Value):Prop:= ∀k,Own V' k->Own V k∨w.heap.size<=k
theorem Kw.refl (L:qN) (V:List Value) (w:World):Kw L V w w:=⟨rfl,rfl,rfl,Nat.le_refl _,λ_ _ _ _=>rfl⟩
theorem Kw.of_below {L:qN} {V:List Value} {w w':World} (h:Below w.heap.size w w'):Kw L V w w':=⟨h.os,h.tape,h.output,h.size,λk hk _ _=>h.block k hk⟩
theorem Kw.trans {L:qN} {V V1:List Value} {w w1 w2:World} (h:Kw L V w w1) (ho:kK w V V1) (k:Kw L V1 w1 w2):Kw L V w w2:=
 ⟨k.os.trans h.os,k.tape.trans h.tape,k.output.trans h.output,Nat.le_trans h.size k.size,λj hj hc hv=>(k.block j (Nat.lt_of_lt_of_le hj h.size) hc (λe=>by
   rcases ho j e with e|e
   ·exact hv e
   ·omega)).trans (h.block j hj hc hv)⟩
theorem Kw.below {L:qN} {V:List Value} {w w':World} (h:Kw L V w w') (hB:L.B0<=w.heap.size) (hv: ∀k,Own V k->L.B1<=k):Below L.B0 w w':=
 ⟨h.os,h.tape,h.output,h.size,λk hk=>h.block k (by omega) (by have:=L.c0;omega) (λe=>by have:=hv k e;have:=L.c0;have:=L.c1;omega)⟩
theorem Kw.far {L:qN} {V:List Value} {w w':World} {k:Nat} (h:Kw L V w w') (hk:k<w.heap.size) (hB:L.B1<=k) (hv: ¬Own V k):w'.heap[k]? =w.heap[k]?:=
 h.block k hk (by have:=L.c1;omega) hv
theorem kK.refl (w:World) (V:List Value):kK w V V:=λ_ h=> .inl h
theorem kK.trans {w w1:World} {V V1 V2:List Value} (h:kK w V V1) (k:kK w1 V1 V2) (hs:w.heap.size<=w1.heap.size):kK w V V2:=λj hj=>by
 rcases k j hj with e|e
 ·exact h j e
 ·exact .inr (Nat.le_trans hs e)
theorem kK.ne {w:World} {V V':List Value} {k:Nat} (h:kK w V V') (hk:k<w.heap.size) (hv: ¬Own V k): ¬Own V' k:=λe=>by
 rcases h k e with e|e
 ·exact hv e
 ·omega
theorem kC {w w':World} {base:Nat} {e:TypeId} {size n:Nat} {v:Value} {xs:List Value} (h:w.ownsRow base e size v n xs) (hb: ∀k,v.ownBlock=some k->w'.heap[k]? =w.heap[k]?):w'.ownsRow base e size v n xs:=by
 refine⟨h.1,?_⟩;rcases h.2 with h1|⟨g,cap,cur,hv,h1,h2,h3⟩
 ·exact .inl h1
 ·exact .inr ⟨g,cap,cur,hv,h1,(hb g (by rw[hv];rfl)).trans h2,h3⟩
theorem Pe {w:World} {g:Nat} (hg:g<w.heap.size): ∀(l:List ByteArray) (k:Nat),(∀j u,(jr l)[j]? =some u->w.cell? ⟨g,k+j,none⟩=some u)->(∀s∈l,s.size<=maxLen)->eD w w.heap.size l (some ⟨g,0,none⟩) k
 | [],_,_,_=>trivial
 |s::r,k,hc,hs=>by
  refine⟨⟨g,0,rfl,hg,?_,hs s (by simp)⟩,Pe hg r (k+1) (λj u hu=> ?_) (λy hy=>hs y (by simp[hy]))⟩
  ·rw[Nat.zero_add];exact hc 0 _ rfl
  ·rw[Nat.add_assoc,Nat.add_comm 1 j];exact hc (j+1) u (by simpa[jr]using hu)
theorem Rb {w:World} {base:Nat} {e:TypeId} {v:Value} {l:List ByteArray} (h:w.ownsRow base e 1 v l.length (jr l)) (hs: ∀s∈l,s.size<=maxLen): ∃ao cap,v= .slice ao l.length cap∧eD w w.heap.size l ao 0:=by
 rcases h.2 with⟨rfl,hn⟩|⟨g',cap,cur,rfl,hb,hg,h1,h2,h3,h4⟩
 ·have:l=[]:=List.eq_nil_of_length_eq_zero hn;subst this;exact⟨none,0,rfl,trivial⟩
 ·refine⟨_,_,rfl,Pe (Array.getElem?_eq_some_iff.1 hg).1 l 0 (λj u hu=> ?_) hs⟩;rw[Nat.zero_add,cell_of_row w g' j cur _ (0,0) hg];rw[<- h4,List.getElem?_take]at hu;split at hu
  ·simpa using hu
  ·cases hu
structure jF (w:World) (L:qN) (p:Pr) (aB aD:Option Addr) (aA ay:Nat) (i:Int) (A:List Fr) (fs gs:List ByteArray) (v vs ve:Value):Prop where
 blk:w.heap[L.bc]? =some (.cells (wkV p aB aD aA ay i v vs ve) 94 (0,0))
 row:w.ownsRow L.B1 90 11 v A.length (zy A)
 rs:w.ownsRow L.B1 9 1 vs fs.length (jr fs)
 re:w.ownsRow L.B1 9 1 ve gs.length (jr gs)
 d1: ∀k,v.ownBlock=some k->vs.ownBlock≠some k
 d2: ∀k,v.ownBlock=some k->ve.ownBlock≠some k
 d3: ∀k,vs.ownBlock=some k->ve.ownBlock≠some k
 sz:L.B1<=w.heap.size
 dat:Qp w L.B0 p aB aD
 oJ:WC w L.B0 A
 fo: ∀s∈fs,s.size<=maxLen
 go: ∀s∈gs,s.size<=maxLen
section
variable {w:World} {L:qN} {p:Pr} {aB aD:Option Addr} {aA ay:Nat} {i:Int} {A:List Fr} {fs gs:List ByteArray} {v vs ve:Value}
theorem jF.b0 (h:jF w L p aB aD aA ay i A fs gs v vs ve):L.B0<=w.heap.size:=by have:=h.sz;have:=L.c0;have:=L.c1;omega
theorem sZ {k:Nat} :Own [v,vs,ve] k↔v.ownBlock=some k∨vs.ownBlock=some k∨ve.ownBlock=some k:=by
 unfold Own;simp
theorem jF.own (h:jF w L p aB aD aA ay i A fs gs v vs ve): ∀k,Own [v,vs,ve] k->L.B1<=k∧k<w.heap.size:=λk hk=>by
 rcases sZ.1 hk with e|e|e
 ·exact h.row.lt k e
 ·exact h.rs.lt k e
 ·exact h.re.lt k e
theorem jF.form (h:jF w L p aB aD aA ay i A fs gs v vs ve): ∃bK aU,v= .slice bK A.length aU∧(bS A).At w w.heap.size bK 0:=by
 rcases h.row.2 with⟨rfl,hn⟩|⟨g',cap,cur,rfl,hb,hg,h1,h2,h3,h4⟩
 ·have:A=[]:=List.eq_nil_of_length_eq_zero hn;subst this;exact⟨none,0,rfl,trivial⟩
 ·refine⟨_,_,rfl,Sk h.b0 (Array.getElem?_eq_some_iff.1 hg).1 A 0 (λj u hu=> ?_) h.oJ⟩;rw[Nat.zero_mul,Nat.zero_add,cell_of_row w g' j cur _ (0,0) hg];rw[<- h4,List.getElem?_take]at hu;split at hu
  ·simpa using hu
  ·cases hu
theorem jF.Sj (h:jF w L p aB aD aA ay i A fs gs v vs ve): ∃ao cap,vs= .slice ao fs.length cap∧eD w w.heap.size fs ao 0:=Rb h.rs h.fo
theorem jF.Si (h:jF w L p aB aD aA ay i A fs gs v vs ve): ∃ao cap,ve= .slice ao gs.length cap∧eD w w.heap.size gs ao 0:=Rb h.re h.go
theorem jF.holds {bK jC fT:Option Addr} {aU nZ gI nY gH:Nat} (h:jF w L p aB aD aA ay i A fs gs (.slice bK A.length aU) (.slice jC nZ gI) (.slice fT nY gH)):Holds w (FJ L.bc p aB aD aA ay i bK (bS A).len aU jC nZ gI fT nY gH):=by
 have hb:=h.blk;rw[qA];exact⟨dO hb (j:=0) rfl,dO hb (j:=1) rfl,dO hb (j:=2) rfl,dO hb (j:=3) rfl,dO hb (j:=4) rfl,dO hb (j:=5) rfl,trivial⟩
theorem jF.below {w':World} (h:jF w L p aB aD aA ay i A fs gs v vs ve) (hb:Below w.heap.size w w'):jF w' L p aB aD aA ay i A fs gs v vs ve where
 blk:=(hb.block _ (Array.getElem?_eq_some_iff.1 h.blk).1).trans h.blk
 row:=kC h.row (λk hk=>hb.block k (h.row.lt k hk).2)
 rs:=kC h.rs (λk hk=>hb.block k (h.rs.lt k hk).2)
 re:=kC h.re (λk hk=>hb.block k (h.re.lt k hk).2)
 d1:=h.d1
 d2:=h.d2
 d3:=h.d3
 sz:=Nat.le_trans h.sz hb.size
 dat:=h.dat.below (hb.mono h.b0)
 oJ:=λx hx=>(h.oJ x hx).below (hb.mono h.b0)
 fo:=h.fo
 go:=h.go
theorem jF.Yj {wz w4 w5:World} {u x:Value} {g' j:Nat} (h:jF w L p aB aD aA ay i A fs gs v vs ve) (hu:u∈ [v,vs,ve]) (hb:Below w.heap.size w wz) (hgr:wz.grownBy w4 u.ownBlock) (hat:u.ownBlock=some g'∨g'=wz.heap.size) (hgw:w4.grownBy w5 (some g')):
 (∀k,k<w.heap.size->u.ownBlock≠some k->w5.heap[k]? =w.heap[k]?)∧(∀k,k<w.heap.size->k≠L.bc->u.ownBlock≠some k->(w5.setCell ⟨L.bc,j,none⟩ x).heap[k]? =w.heap[k]?)∧
 Kw L [v,vs,ve] w (w5.setCell ⟨L.bc,j,none⟩ x):=by
 have hsz:w.heap.size<=w4.heap.size:=Nat.le_trans hb.size hgr.size;have hgz:=bQ w5 ⟨L.bc,j,none⟩ x;have hlow: ∀k,k<w.heap.size->u.ownBlock≠some k->w5.heap[k]? =w.heap[k]?:=λk hk hv=>by
  have hkg:k≠g':=by
   rcases hat with e|e
   ·intro e';exact hv (by rw[e,e'])
   ·have:=hb.size;omega
  rw[hgw.block k (by omega) (by simp;exact hkg),hgr.block k (Nat.lt_of_lt_of_le hk hb.size) (λe=>hv e.symm),hb.block k hk]
 have hl2: ∀k,k<w.heap.size->k≠L.bc->u.ownBlock≠some k->(w5.setCell ⟨L.bc,j,none⟩ x).heap[k]? =w.heap[k]?:=λk hk hc hv=>by rw[bY w5 ⟨L.bc,j,none⟩ _ rfl (λe=>hc e.symm)];exact hlow k hk hv
 refine⟨hlow,hl2,⟨hgz.os.trans (hgw.os.trans (hgr.os.trans hb.os)),hgz.tape.trans (hgw.tape.trans (hgr.tape.trans hb.tape)),hgz.output.trans (hgw.output.trans (hgr.output.trans hb.output)),Nat.le_trans hsz (Nat.le_trans hgw.size hgz.size),λk hk hc hv=>hl2 k hk hc (λe=>hv ⟨u,hu,e⟩)⟩⟩
theorem jF.K8 (h:jF w L p aB aD aA ay i A fs gs v vs ve) {u:Value} (hu:u∈ [v,vs,ve]):u.ownBlock≠some L.bc:=λe=>by
 have:=(h.own _ ⟨u,hu,e⟩).1;have:=L.c1;omega
theorem jF.push {wz w4:World} {g' cap':Nat} {zs:List Value} (h:jF w L p aB aD aA ay i A fs gs v vs ve) (x:Fr) (hx:rT w L.B0 x.h x.b x.e x.s) (hb:Below w.heap.size w wz) (hown:w4.ownsRow L.B1 90 11 (.slice (some ⟨g',0,none⟩) (A.length+1) cap') (A.length+1) (zy A++zs)) (hgr:wz.grownBy w4 v.ownBlock) (hat:v.ownBlock=some g'∨g'=wz.heap.size):
 jF ((w4.setCells g' (A.length*11) (nI x.h x.b x.e x.s)).setCell ⟨L.bc,3,none⟩ (.slice (some ⟨g',0,none⟩) (A.length+1) cap')) L p aB aD aA ay i (A++[x]) fs gs (.slice (some ⟨g',0,none⟩) (A.length+1) cap') vs ve∧
 Kw L [v,vs,ve] w ((w4.setCells g' (A.length*11) (nI x.h x.b x.e x.s)).setCell ⟨L.bc,3,none⟩ (.slice (some ⟨g',0,none⟩) (A.length+1) cap'))∧kK w [v,vs,ve] [.slice (some ⟨g',0,none⟩) (A.length+1) cap',vs,ve]:=by
 have hg1:=(hown.lt g' rfl).1;have hc1:=L.c1;have hput:=OH (vs:=nI x.h x.b x.e x.s) hown (CB A) rfl;generalize hw5:w4.setCells g' (A.length*11) (nI x.h x.b x.e x.s)=w5 at *;have hgw:w4.grownBy w5 (some g'):=by rw[<- hw5];exact bU _ _ _ _
 obtain⟨hlow,hl2,dG⟩:=h.Yj (u:=v) (x:= .slice (some ⟨g',0,none⟩) (A.length+1) cap') (j:=3) (by simp) hb hgr hat hgw;have hgz:=bQ w5 ⟨L.bc,3,none⟩ (.slice (some ⟨g',0,none⟩) (A.length+1) cap');have hbel:=dG.below h.b0 (λk e=>(h.own k e).1);have hnew: ∀k,Value.ownBlock (.slice (some ⟨g',0,none⟩) (A.length+1) cap')=some k->v.ownBlock=some k∨w.heap.size<=k:=λk hk=>by
  have:g'=k:=by simpa[Value.ownBlock]using hk
  subst this;rcases hat with e|e
  ·exact .inl e
  ·exact .inr (by rw[e];exact hb.size)
 refine⟨?_,dG,λk hk=> ?_⟩
 ·refine {blk:= ?_,row:= ?_,rs:= ?_,re:= ?_,d1:= ?_,d2:= ?_,d3:=h.d3,sz:=Nat.le_trans h.sz dG.size,dat:=h.dat.below hbel,oJ:= ?_,fo:=h.fo,go:=h.go}
  ·exact eZ ((hlow _ (Array.getElem?_eq_some_iff.1 h.blk).1 (h.K8 (by simp))).trans h.blk) _
  ·rw[List.length_append,Aw];refine hput.kept hgz (.inr ?_);simp[Value.ownBlock];omega
  ·exact kC h.rs (λk hk=>hl2 k (h.rs.lt k hk).2 (by have:=(h.rs.lt k hk).1;omega) (λe=>h.d1 k e hk))
  ·exact kC h.re (λk hk=>hl2 k (h.re.lt k hk).2 (by have:=(h.re.lt k hk).1;omega) (λe=>h.d2 k e hk))
  ·intro k hk e;rcases hnew k hk with e'|e'
   ·exact h.d1 k e' e
   ·have:=(h.rs.lt k e).2;omega
  ·intro k hk e;rcases hnew k hk with e'|e'
   ·exact h.d2 k e' e
   ·have:=(h.re.lt k e).2;omega
  ·intro y hy;rcases List.mem_append.1 hy with hy|hy
   ·exact(h.oJ y hy).below hbel
   ·obtain rfl:=List.mem_singleton.1 hy;exact hx.below hbel
 ·rcases sZ.1 hk with e|e|e
  ·rcases hnew k e with e'|e'
   ·exact .inl (sZ.2 (.inl e'))
   ·exact .inr e'
  ·exact .inl (sZ.2 (.inr (.inl e)))
  ·exact .inl (sZ.2 (.inr (.inr e)))
theorem jF.pop {wz:World} {g' cap':Nat} (x:Fr) (h:jF w L p aB aD aA ay i (A++[x]) fs gs (.slice (some ⟨g',0,none⟩) (A.length+1) cap') vs ve) (hb:Below w.heap.size w wz):
 jF (wz.setCell ⟨L.bc,3,none⟩ (.slice (some ⟨g',0,none⟩) A.length cap')) L p aB aD aA ay i A fs gs (.slice (some ⟨g',0,none⟩) A.length cap') vs ve∧
 Kw L [.slice (some ⟨g',0,none⟩) (A.length+1) cap',vs,ve] w (wz.setCell ⟨L.bc,3,none⟩ (.slice (some ⟨g',0,none⟩) A.length cap')):=by
 have hI:=h.below hb;have hc1:=L.c1;have hgz:=bQ wz ⟨L.bc,3,none⟩ (.slice (some ⟨g',0,none⟩) A.length cap');have hkp:Kw L [.slice (some ⟨g',0,none⟩) (A.length+1) cap',vs,ve] w (wz.setCell ⟨L.bc,3,none⟩ (.slice (some ⟨g',0,none⟩) A.length cap')):=
  ⟨hgz.os.trans hb.os,hgz.tape.trans hb.tape,hgz.output.trans hb.output,Nat.le_trans hb.size hgz.size,λk hk hc _=>(hgz.block k (Nat.lt_of_lt_of_le hk hb.size) (by simp;exact hc)).trans (hb.block k hk)⟩
 have hbel:Below L.B0 wz (wz.setCell ⟨L.bc,3,none⟩ (.slice (some ⟨g',0,none⟩) A.length cap')):=bL hgz L.c0 hI.b0;have hrow:=hI.row;rw[List.length_append,Aw]at hrow;have hg1:=(hrow.lt g' rfl).1;have Dm: ∀k,L.B1<=k->(wz.setCell ⟨L.bc,3,none⟩ (.slice (some ⟨g',0,none⟩) A.length cap')).heap[k]? =wz.heap[k]?:=λk hk=>bY wz _ _ rfl (by show L.bc≠k;omega);refine⟨{blk:=eZ hI.blk _,row:=(LJ hrow (CB A)).kept hgz (.inr (by simp[Value.ownBlock];omega)),rs:=kC hI.rs (λk hk=>Dm k (hI.rs.lt k hk).1),re:=kC hI.re (λk hk=>Dm k (hI.re.lt k hk).1),d1:=λk hk=>h.d1 k hk,d2:=λk hk=>h.d2 k hk,d3:=h.d3,sz:=Nat.le_trans hI.sz hgz.size,dat:=hI.dat.below hbel,oJ:=λy hy=>(hI.oJ y (by simp[hy])).below hbel,fo:=h.fo,go:=h.go},hkp⟩
theorem Pf (l:List ByteArray) (s:ByteArray):jr (l++[s])=jr l++[.string s]:=by simp[jr]
theorem jF.aR5 {wz w4:World} {g' cap':Nat} {nm:ByteArray} (h:jF w L p aB aD aA ay i A fs gs v vs ve) (hn:nm.size<=maxLen) (hb:Below w.heap.size w wz) (hown:w4.ownsRow L.B1 9 1 (.slice (some ⟨g',0,none⟩) (fs.length+1) cap') (fs.length+1) (jr fs++[.string nm])) (hgr:wz.grownBy w4 vs.ownBlock) (hat:vs.ownBlock=some g'∨g'=wz.heap.size):
 jF (w4.setCell ⟨L.bc,4,none⟩ (.slice (some ⟨g',0,none⟩) (fs.length+1) cap')) L p aB aD aA ay i A (fs++[nm]) gs v (.slice (some ⟨g',0,none⟩) (fs.length+1) cap') ve∧
 Kw L [v,vs,ve] w (w4.setCell ⟨L.bc,4,none⟩ (.slice (some ⟨g',0,none⟩) (fs.length+1) cap'))∧kK w [v,vs,ve] [v,.slice (some ⟨g',0,none⟩) (fs.length+1) cap',ve]:=by
 have hg1:=(hown.lt g' rfl).1;have hc1:=L.c1;obtain⟨hlow,hl2,dG⟩:=h.Yj (u:=vs) (x:= .slice (some ⟨g',0,none⟩) (fs.length+1) cap') (j:=4) (by simp) hb hgr hat (zV w4);have hgz:=bQ w4 ⟨L.bc,4,none⟩ (.slice (some ⟨g',0,none⟩) (fs.length+1) cap');have hbel:=dG.below h.b0 (λk e=>(h.own k e).1);have hnew: ∀k,Value.ownBlock (.slice (some ⟨g',0,none⟩) (fs.length+1) cap')=some k->vs.ownBlock=some k∨w.heap.size<=k:=λk hk=>by
  have:g'=k:=by simpa[Value.ownBlock]using hk
  subst this;rcases hat with e|e
  ·exact .inl e
  ·exact .inr (by rw[e];exact hb.size)
 refine⟨?_,dG,λk hk=> ?_⟩
 ·refine {blk:= ?_,row:= ?_,rs:= ?_,re:= ?_,d1:= ?_,d2:=h.d2,d3:= ?_,sz:=Nat.le_trans h.sz dG.size,dat:=h.dat.below hbel,oJ:=λy hy=>(h.oJ y hy).below hbel,fo:= ?_,go:=h.go}
  ·exact eZ ((hlow _ (Array.getElem?_eq_some_iff.1 h.blk).1 (h.K8 (by simp))).trans h.blk) _
  ·exact kC h.row (λk hk=>hl2 k (h.row.lt k hk).2 (by have:=(h.row.lt k hk).1;omega) (λe=>h.d1 k hk e))
  ·rw[List.length_append,Pf];refine hown.kept hgz (.inr ?_);simp[Value.ownBlock];omega
  ·exact kC h.re (λk hk=>hl2 k (h.re.lt k hk).2 (by have:=(h.re.lt k hk).1;omega) (λe=>h.d3 k e hk))
  ·intro k hk e;rcases hnew k e with e'|e'
   ·exact h.d1 k hk e'
   ·have:=(h.row.lt k hk).2;omega
  ·intro k hk e;rcases hnew k hk with e'|e'
   ·exact h.d3 k e' e
   ·have:=(h.re.lt k e).2;omega
  ·intro y hy;rcases List.mem_append.1 hy with hy|hy
   ·exact h.fo y hy
   ·obtain rfl:=List.mem_singleton.1 hy;exact hn
 ·rcases sZ.1 hk with e|e|e
  ·exact .inl (sZ.2 (.inl e))
  ·rcases hnew k e with e'|e'
   ·exact .inl (sZ.2 (.inr (.inl e')))
   ·exact .inr e'
  ·exact .inl (sZ.2 (.inr (.inr e)))
theorem jF.aR3 {wz w4:World} {g' cap':Nat} {nm:ByteArray} (h:jF w L p aB aD aA ay i A fs gs v vs ve) (hn:nm.size<=maxLen) (hb:Below w.heap.size w wz) (hown:w4.ownsRow L.B1 9 1 (.slice (some ⟨g',0,none⟩) (gs.length+1) cap') (gs.length+1) (jr gs++[.string nm])) (hgr:wz.grownBy w4 ve.ownBlock) (hat:ve.ownBlock=some g'∨g'=wz.heap.size):
 jF (w4.setCell ⟨L.bc,5,none⟩ (.slice (some ⟨g',0,none⟩) (gs.length+1) cap')) L p aB aD aA ay i A fs (gs++[nm]) v vs (.slice (some ⟨g',0,none⟩) (gs.length+1) cap')∧
 Kw L [v,vs,ve] w (w4.setCell ⟨L.bc,5,none⟩ (.slice (some ⟨g',0,none⟩) (gs.length+1) cap'))∧kK w [v,vs,ve] [v,vs,.slice (some ⟨g',0,none⟩) (gs.length+1) cap']:=by
 have hg1:=(hown.lt g' rfl).1;have hc1:=L.c1;obtain⟨hlow,hl2,dG⟩:=h.Yj (u:=ve) (x:= .slice (some ⟨g',0,none⟩) (gs.length+1) cap') (j:=5) (by simp) hb hgr hat (zV w4);have hgz:=bQ w4 ⟨L.bc,5,none⟩ (.slice (some ⟨g',0,none⟩) (gs.length+1) cap');have hbel:=dG.below h.b0 (λk e=>(h.own k e).1);have hnew: ∀k,Value.ownBlock (.slice (some ⟨g',0,none⟩) (gs.length+1) cap')=some k->ve.ownBlock=some k∨w.heap.size<=k:=λk hk=>by
  have:g'=k:=by simpa[Value.ownBlock]using hk
  subst this;rcases hat with e|e
  ·exact .inl e
  ·exact .inr (by rw[e];exact hb.size)
 refine⟨?_,dG,λk hk=> ?_⟩
 ·refine {blk:= ?_,row:= ?_,rs:= ?_,re:= ?_,d1:=h.d1,d2:= ?_,d3:= ?_,sz:=Nat.le_trans h.sz dG.size,dat:=h.dat.below hbel,oJ:=λy hy=>(h.oJ y hy).below hbel,fo:=h.fo,go:= ?_}
  ·exact eZ ((hlow _ (Array.getElem?_eq_some_iff.1 h.blk).1 (h.K8 (by simp))).trans h.blk) _
  ·exact kC h.row (λk hk=>hl2 k (h.row.lt k hk).2 (by have:=(h.row.lt k hk).1;omega) (λe=>h.d2 k hk e))
  ·exact kC h.rs (λk hk=>hl2 k (h.rs.lt k hk).2 (by have:=(h.rs.lt k hk).1;omega) (λe=>h.d3 k hk e))
  ·rw[List.length_append,Pf];refine hown.kept hgz (.inr ?_);simp[Value.ownBlock];omega
  ·intro k hk e;rcases hnew k e with e'|e'
   ·exact h.d2 k hk e'
   ·have:=(h.row.lt k hk).2;omega
  ·intro k hk e;rcases hnew k e with e'|e'
   ·exact h.d3 k hk e'
   ·have:=(h.rs.lt k hk).2;omega
  ·intro y hy;rcases List.mem_append.1 hy with hy|hy
   ·exact h.go y hy
   ·obtain rfl:=List.mem_singleton.1 hy;exact hn
 ·rcases sZ.1 hk with e|e|e
  ·exact .inl (sZ.2 (.inl e))
  ·exact .inl (sZ.2 (.inr (.inl e)))
  ·rcases hnew k e with e'|e'
   ·exact .inl (sZ.2 (.inr (.inr e')))
   ·exact .inr e'
theorem jF.YB {i':Int} (h:jF w L p aB aD aA ay i A fs gs v vs ve):jF (w.setCell ⟨L.bc,2,none⟩ (.int .i64 i')) L p aB aD aA ay i' A fs gs v vs ve:=by
 have hg:=bQ w ⟨L.bc,2,none⟩ (.int .i64 i');have hbel:=bL hg L.c0 h.b0;have hc1:=L.c1;have Dm: ∀k,L.B1<=k->(w.setCell ⟨L.bc,2,none⟩ (.int .i64 i')).heap[k]? =w.heap[k]?:=λk hk=>bY w _ _ rfl (by show L.bc≠k;omega);exact {blk:=by rw[eZ h.blk];rfl,row:=kC h.row (λk hk=>Dm k (h.row.lt k hk).1),rs:=kC h.rs (λk hk=>Dm k (h.rs.lt k hk).1),re:=kC h.re (λk hk=>Dm k (h.re.lt k hk).1),d1:=h.d1,d2:=h.d2,d3:=h.d3,sz:=Nat.le_trans h.sz hg.size,dat:=h.dat.below hbel,oJ:=λx hx=>(h.oJ x hx).below hbel,fo:=h.fo,go:=h.go}
end
def C3 (W1 W2 W3 W4:World):List Bool->World->Prop
 | [false,false,false],w=>w=W1
 | [true,false,false],w=>w=W2
 | [true,true,false],w=>w=W3
 | [true,true,true],w=>w=W4
 |_,_=>False
section
variable {W1 W2 W3 W4:World} {a1 a2 a3 i:Nat} {c:List Bool} {w':World}
theorem C3.bits: ∀ {c:List Bool} {w':World},C3 W1 W2 W3 W4 c w'->∃x y z,c=[x,y,z]
 | [x,y,z],_,_=>⟨x,y,z,rfl⟩
 | [],_,h=>h.elim
 | [_],_,h=>by simp[C3]at h
 | [_,_],_,h=>by simp[C3]at h
 |_::_::_::_::_,_,h=>by simp[C3]at h
theorem C3.skip (h1:(a1==i)=false) (h2:(a2==i)=false) (h3:(a3==i)=false) (h:C3 W1 W2 W3 W4 c w'):C3 W1 W2 W3 W4 (gJ [a1,a2,a3] c i) w':=by
 obtain⟨x,y,z,rfl⟩:=h.bits;simpa[gJ,h1,h2,h3]using h
theorem C3.one (h1:(a1==i)=true) (h2:(a2==i)=false) (h3:(a3==i)=false):C3 W1 W2 W3 W4 (gJ [a1,a2,a3] [false,false,false] i) W2:=by
 simp only[gJ,h1,h2,h3,Bool.or_false,Bool.or_true];rfl
theorem C3.two (h1:(a1==i)=false) (h2:(a2==i)=true) (h3:(a3==i)=false):C3 W1 W2 W3 W4 (gJ [a1,a2,a3] [true,false,false] i) W3:=by
 simp only[gJ,h1,h2,h3,Bool.or_false,Bool.or_true];rfl
theorem C3.three (h1:(a1==i)=false) (h2:(a2==i)=false) (h3:(a3==i)=true):C3 W1 W2 W3 W4 (gJ [a1,a2,a3] [true,true,false] i) W4:=by
 simp only[gJ,h1,h2,h3,Bool.or_false,Bool.or_true];rfl
theorem C3.low {p1:Option Bool} {W:World} (hb1:Below W.heap.size W W1) (hb2:Below W.heap.size W W2) (hok:okB [p1,some false,some false] c) (h:C3 W1 W2 W3 W4 c w'):Below W.heap.size W w':=by
 obtain⟨x,y,z,rfl⟩:=h.bits;have:y=false∧z=false:=by
  cases p1 with
  |none=>exact⟨hok.1,hok.2.1⟩
  |some b=>exact⟨hok.2.1,hok.2.2.1⟩
 obtain⟨rfl,rfl⟩:=this;cases x
 ·have h:w'=W1:=h;rw[h];exact hb1
 ·have h:w'=W2:=h;rw[h];exact hb2
theorem C3.w1 (hok:okB [some false,some false,some false] c) (h:C3 W1 W2 W3 W4 c w'):c=[false,false,false]∧w'=W1:=by
 obtain⟨x,y,z,rfl⟩:=h.bits;obtain⟨rfl,rfl,rfl,-⟩:=hok;exact⟨rfl,h⟩
theorem C3.w2 (hok:okB [some true,some false,some false] c) (h:C3 W1 W2 W3 W4 c w'):c=[true,false,false]∧w'=W2:=by
 obtain⟨x,y,z,rfl⟩:=h.bits;obtain⟨rfl,rfl,rfl,-⟩:=hok;exact⟨rfl,h⟩
theorem C3.w3 (hok:okB [some true,some true,some false] c) (h:C3 W1 W2 W3 W4 c w'):c=[true,true,false]∧w'=W3:=by
 obtain⟨x,y,z,rfl⟩:=h.bits;obtain⟨rfl,rfl,rfl,-⟩:=hok;exact⟨rfl,h⟩
theorem C3.b1 (hok:okB [some false,some false,some false] c) (h:C3 W1 W2 W3 W4 c w'):c=[false,false,false]∧w'=W1:=C3.w1 hok h
end
theorem wp_append_run {P:Program} {w w':World} {o:Oper} {a:Act} {K:Act->World->Prop} {Q:Exit->Act->World->Prop} (s x:Operand) (t:TypeId) (v u r:Value)
 (ho:o.op= .call {callee:= .builtin .append,args:= #[s,x],argTypes:= #[t,t]}) (hs:a.eval s=v) (hx:a.eval x=u)
 (hr:(Builtin.append_ #[t,t] o.type #[v,u]).run P w= .ok r w') (h:K (a.put o.dst r) w'):o.wp P a w K Q:=by
 unfold Oper.wp execOp;simp only[ho,resolve,invoke,builtin,Sem.run_bind,Sem.run_pure,Result.andThen_ok,List.map_toArray,List.map_cons,List.map_nil,hs,hx,hr];exact h
end Go.Proofs.YtkmllehjemjgpaaGreatDoor
