/- Contracts of the reference's or, nesting, and of its walk's inside. And what hangs on it. -/
import Derived.Test.YtcjgfgkllmldpaaGreatDoorGR1
set_option linter.unusedSimpArgs false
set_option linter.unusedVariables false
set_option maxHeartbeats 40000000
set_option maxRecDepth 1000000
namespace Go.Proofs.YtcjgfgkllmldpaaGreatDoor
open Go.RowKit
namespace Md
def kQ (a b:Int):Int:=if a != 0 then a else b
def eU:bf->Int->Int->ByteArray->Bool
 | .nil,_,_,_=>false
 | .cons h _ _ r,a,b,nm=>((h.op==a||h.op==b)&&(nm.toList.isEmpty||h.nm.toList==nm.toList))||eU r a b nm
end Md
open Md
def KT (bc:Nat) (p:Pr) (aQ aR:Option Addr) (aJ aH:Nat) (i:Int) (eZ:Option Addr) (Bl dU:Nat) (kL:Option Addr) (pV jg:Nat) (iL:Option Addr) (pU jf:Nat):List (Nat×Nat×Value):=
 [(bc,0,.slice aQ p.ds.length aJ),(bc,1,.slice aR p.ts.length aH),(bc,2,.int .i64 i),(bc,3,.slice eZ Bl dU),(bc,4,.slice kL pV jg),(bc,5,.slice iL pU jf)]
theorem iW (b:Bool) (w:World):
 Calls Tryz.prog 124 #[.bool b] w λe w'=>e= .returned (.int .i64 (nest b))∧w=w':=by
 cases b
 all_goals go_enter Tryz.func124,Tryz.ntmps124;go_wp2;go_ret;exact⟨rfl,rfl⟩
theorem jS (a b:Int) (w:World):
 Calls Tryz.prog 121 #[.int .i64 a,.int .i64 b] w λe w'=>e= .returned (.int .i64 (kQ a b))∧w=w':=by
 generalize hres:kQ a b=res;have HR:=ah hres;clear hres;cases ha:(a != 0)
 all_goals go_enter Tryz.func121,Tryz.ntmps121;go_wp2;go_ret;exact⟨dh (by rw[<- HR.o];unfold kQ;rw[ha];rfl),rfl⟩
section
variable (p:Pr) (w:World) (aQ aR:Option Addr) (aJ aH:Nat) (i:Int) (eZ:Option Addr) (dU bc:Nat) (kL:Option Addr) (pV jg:Nat) (iL:Option Addr) (pU jf:Nat)
theorem iR (ar:bf) (a b':Int) (nm:ByteArray) (har:ar.len<=maxLen) (hat:ar.At w w.heap.size eZ 0) (hh:Holds w (KT bc p aQ aR aJ aH i eZ ar.len dU kL pV jg iL pU jf)):
 Calls Tryz.prog 120 #[.pointer (some ⟨bc,0,none⟩),.int .i64 a,.int .i64 b',.string nm] w λe w'=>e= .returned (.bool (eU ar a b' nm))∧Below w.heap.size w w':=by
 have HH:=ah (show Sit w w _ from⟨ak _ _,hh⟩);have HAT:=ah hat;generalize hres:eU ar a b' nm=res;have HR:=ah hres;unfold maxLen at har;clear hh hat hres;go_enter Tryz.func120,Tryz.ntmps120;go_wp2_with fail;go_loopg [9,10] ar.len (λg s _ wr=> ∃(k:Nat) (R:bf),g=R.len∧s= .int .i64 k∧k+R.len=ar.len∧res=eU R a b' nm∧R.At wr wr.heap.size eZ k∧Sit w wr (KT bc p aQ aR aJ aH i eZ ar.len dU kL pV jg iL pU jf))
 case atStart=>exact⟨0,ar,rfl,rfl,ahh,HR.o.symm,HAT.o,HH.o⟩
 case round=>
  obtain⟨k,R,rfl,rfl,hlen,heq,hrow,hB⟩:=hrel;have HE:=ah heq;have HB:=ah hB;clear heq hB HH;obtain⟨c0,c1,c2,c3,c4,c5,-⟩:=HB.o.cs;cases R with
  |nil=>
   obtain rfl:k=ar.len:=afk
   go_wp2_with fail;go_ret;exact⟨bZ HE.o.symm,HB.o.1⟩
  |cons h b e R=>
   obtain⟨bl,off,s,rfl,hbl,hin,x0,x1,x2,x3,x4,x5,x6,x7,x8,x9,x10,hrest⟩:=bf.At.head hrow;have hkl:k<ar.len:=acB
   clear hrow hin;go_upto_region 5 with fail;obtain⟨nb,hnb⟩: ∃n,wr.heap.size=n:=⟨_,rfl⟩;generalize hW2:World.alloc wr _=W2;have HY:aj (Sit wr W2 (xL nb h b e s [])):=ah aaq;have HB2:=ah (HB.o.next HY.o.1);have kg:=ah (hrest.same HY.o.1);rw[hnb];clear hW2 hnb x0 x1 x2 x3 x4 x5 x6 x7 x8 x9 x10 hrest c0 c1 c2 c3 c4 c5;obtain⟨c0,c1,c2,c3,c4,c5,c6,c7,c8,c9,c10,-⟩:=HY.o.cs;clear c1 c3 c4 c5 c6 c7 c8 c9 c10;go_cut [46] (λs' W3=>W2=W3∧s'= .bool ((h.op==a||h.op==b')&&(nm.toList.isEmpty||h.nm.toList==nm.toList)))
   case first=>
    as_aux_lemma=>
     cases ha:(h.op==a)
     all_goals cases hb:(h.op==b')
     all_goals cases hn:nm.toList.isEmpty
     all_goals cases hm:(h.nm.toList==nm.toList)
     all_goals go_wp2_with fail
     all_goals go_meet
     all_goals exact⟨rfl,by first|rfl|(rw[ha,hb,hn,hm];rfl)|(simp[ha,hb,hn,hm])⟩
   obtain⟨rfl,rfl⟩:=hcut;have HE2:aj (res=(((h.op==a||h.op==b')&&(nm.toList.isEmpty||h.nm.toList==nm.toList))||eU R a b' nm)):=ah (HE.o.trans (by rw[eU]));generalize ((h.op==a||h.op==b')&&(nm.toList.isEmpty||h.nm.toList==nm.toList))=t at *;cases t
   ·go_wp2_with fail;go_roundg R.len
    case measure=>simp[bf.len]
    case rel=>exact⟨k+1,R,rfl,ahj,acB,HE2.o,kg.o,HB2.o⟩
   ·go_wp2_with fail;go_ret;exact⟨bZ HE2.o.symm,HB2.o.1⟩
end
def AC (W1:World) (z v:Obj):List Bool->World->Prop
 | [false,false],w'=>w'=W1
 | [true,false],w'=>w'=W1.alloc z
 | [true,true],w'=>w'=W1.alloc v
 |_,_=>False
theorem AC.bits {W1:World} {z v:Obj} : ∀ {c:List Bool} {w':World},AC W1 z v c w'->∃x y,c=[x,y]
 | [x,y],_,_=>⟨x,y,rfl⟩
 | [],_,h=>h.elim
 | [true],_,h=>h.elim
 | [false],_,h=>h.elim
 |_::_::_::_,_,h=>by simp[AC]at h
theorem AC.skip {W1:World} {z v:Obj} {a1 a2 i:Nat} {c:List Bool} {w':World} (h1:(a1==i)=false) (h2:(a2==i)=false) (h:AC W1 z v c w'):AC W1 z v (jA [a1,a2] c i) w':=by
 obtain⟨x,y,rfl⟩:=h.bits;simpa[jA,h1,h2]using h
theorem AC.lay {W1:World} {z v:Obj} {a1 a2 i:Nat} (h1:(a1==i)=true) (h2:(a2==i)=false):AC W1 z v (jA [a1,a2] [false,false] i) (W1.alloc z):=by
 simp only[jA,h1,h2,Bool.or_false,Bool.or_true];rfl
theorem AC.fill {W1:World} {z v:Obj} {a1 a2 i:Nat} (h1:(a1==i)=false) (h2:(a2==i)=true):AC W1 z v (jA [a1,a2] [true,false] i) (W1.alloc v):=by
 simp only[jA,h1,h2,Bool.or_false,Bool.or_true];rfl
theorem AC.below {W W1:World} {z v:Obj} {c:List Bool} {w':World} (hb:Below W.heap.size W W1) (h:AC W1 z v c w'):Below W.heap.size W w':=by
 obtain⟨x,y,rfl⟩:=h.bits;cases x <;> cases y
 ·have h:w'=W1:=h;rw[h];exact hb
 ·exact h.elim
 ·have h:w'=W1.alloc z:=h;rw[h];exact hb.trans ((aA _ _).mono hb.size)
 ·have h:w'=W1.alloc v:=h;rw[h];exact hb.trans ((aA _ _).mono hb.size)
namespace Md
theorem af5:(⟨#[]⟩:ByteArray).toList=[]:=by simp[Lib.toList_data]
theorem oU (k:Int): ∀ar:bf,eU ar k k ⟨#[]⟩=jh ar [k]
 | .nil=>rfl
 | .cons h b e r=>by simp[eU,jh,oU k r,af5]
theorem Na (k:Int) (nm:ByteArray) (hn:nm.toList.isEmpty=false): ∀ar:bf,eU ar k k nm=wD ar nm [k]
 | .nil=>rfl
 | .cons h b e r=>by simp[eU,wD,Na k nm hn r,hn]
theorem Nb (a b:Int) (nm:ByteArray) (hn:nm.toList.isEmpty=false): ∀ar:bf,eU ar a b nm=wD ar nm [a,b]
 | .nil=>rfl
 | .cons h _ _ r=>by simp only[eU,wD,Nb a b nm hn r,hn,List.any_cons,List.any_nil,Bool.or_false,Bool.false_or];cases h.op==a <;> cases h.op==b <;> cases h.nm.toList==nm.toList <;> rfl
theorem Ip (a b:Int): ∀ar:bf,jh ar [a,b]=(jh ar [a]||jh ar [b])
 | .nil=>rfl
 | .cons h _ _ r=>by simp only[jh,Ip a b r,List.any_cons,List.any_nil,Bool.or_false];cases h.op==a <;> cases h.op==b <;> cases jh r [a] <;> cases jh r [b] <;> rfl
theorem OG (a b c:Int): ∀ar:bf,jh ar [a,b,c]=((jh ar [a]||jh ar [b])||jh ar [c])
 | .nil=>rfl
 | .cons h _ _ r=>by simp only[jh,OG a b c r,List.any_cons,List.any_nil,Bool.or_false];cases h.op==a <;> cases h.op==b <;> cases h.op==c <;> cases jh r [a] <;> cases jh r [b] <;> cases jh r [c] <;> rfl
theorem vS (a b:Int):iI [a,b]=kQ a b:=by
 unfold iI kQ;cases ha:a != 0
 ·simp[iI];intro h;exact h.symm
 ·simp
theorem FP (a b c:Int):iI [a,b,c]=kQ a (kQ b c):=by
 rw[<- vS b c];rfl
theorem nW (p:Pr) (i:Int) (nm:ByteArray) (k a:Int) (hk:0<=k∧k<=9) (ha:conv k=a):gU (mean p i nm) [k]=gV (conv (mean p i nm)) a a:=by
 subst ha;exact(VK _ k (Dh p i nm) hk).symm
theorem Zl (p:Pr) (i:Int) (nm:ByteArray):gU (mean p i nm) [1,2]=gV (conv (mean p i nm)) 8 1:=
 (VL _ 1 2 (Dh p i nm) ahg ahg).symm
theorem Ob {p:Pr} {i:Int} {nm:ByteArray} (h:gV (conv (mean p i nm)) 5 5=0): ∃(k:Nat) (d:De) (r:List De),k<p.ds.length∧fidx (λd:De=>d.nm.toList==nm.toList) p.ds 0=(k:Int)∧p.ds.drop k=d::r∧d∈p.ds∧d.kind=5∧BQ p.ds nm=d.on:=by
 have h6:mean p i nm=6:=by rw[<- nW p i nm 6 5 ahg rfl]at h;exact uz h
 rcases qw (λd:De=>d.nm.toList==nm.toList) p.ds 0 with⟨-,hn,-⟩|⟨k,d,r,hk,hf,hd,hs,-⟩
 ·exfalso;unfold mean qK uE at h6;rw[hn]at h6;split at h6
  ·cases h6
  ·simp only[Option.map_none,Option.getD_none]at h6;split at h6 <;> cases h6
 ·have hdm:gM d=6:=by
   unfold mean qK at h6;rw[hs]at h6;split at h6
   ·cases h6
   ·simpa using h6
  have h5:d.kind=5:=by unfold gM at hdm;grind
  refine⟨k,d,r,hk,by simpa using hf,hd,List.mem_of_find?_eq_some hs,h5,?_⟩;unfold BQ;have:p.ds.find? (λd=>d.kind==5&&d.nm.toList==nm.toList)=some d:=by
   clear hf hd hk h6 hdm h;revert hs
   induction p.ds with
   |nil=>intro hs;simp at hs
   |cons x r ih=>
    intro hs;rw[List.find?_cons]at hs⊢;cases hx:x.nm.toList==nm.toList
    ·rw[hx]at hs;simp only[Bool.and_false];exact ih hs
    ·rw[hx]at hs;injection hs with hs;subst hs;simp[h5]
  rw[this];rfl
end Md
theorem nu {p:Pr} {w W:World} {aQ aR:Option Addr} {aJ aH:Nat} {i:Int} {eZ:Option Addr} {Bl dU bc:Nat} {kL:Option Addr} {pV jg:Nat} {iL:Option Addr} {pU jf n0 n1:Nat} {h:dM} {b e:bf} {s:Sl} {u v:Value}
 (hs:Sit w W ((n1,0,u)::(n1,1,v)::xL n0 h b e s (KT bc p aQ aR aJ aH i eZ Bl dU kL pV jg iL pU jf))):Holds W (KT bc p aQ aR aJ aH i eZ Bl dU kL pV jg iL pU jf):=hs.2.2.2.2.2.2.2.2.2.2.2.2.2.2
def wkV (p:Pr) (aQ aR:Option Addr) (aJ aH:Nat) (i:Int) (v vs ve:Value):Array Value:= #[.slice aQ p.ds.length aJ,.slice aR p.ts.length aH,.int .i64 i,v,vs,ve]
structure uo where
 B0:Nat
 B1:Nat
 bc:Nat
 c0:B0<=bc
 c1:bc<B1
def Xe (w:World) (B0:Nat) (p:Pr) (aQ aR:Option Addr):Prop:=p.ds.length<=maxLen∧p.ts.length<=maxLen∧jG w B0 p.ds aQ 0∧iP w B0 p.ts aR 0
theorem Xe.below {w w':World} {B0:Nat} {p:Pr} {aQ aR:Option Addr} (h:Xe w B0 p aQ aR) (hb:Below B0 w w'):Xe w' B0 p aQ aR:=⟨h.1,h.2.1,h.2.2.1.below hb,h.2.2.2.below hb⟩
theorem Xe.use {w:World} {B0:Nat} {p:Pr} {aQ aR:Option Addr} (h:Xe w B0 p aQ aR) (hB:B0<=w.heap.size):p.At w aQ aR:=⟨h.1,h.2.1,h.2.2.1.mono hB,h.2.2.2.mono hB⟩
def kI (l:List ByteArray):List Value:=l.map .string
def Own (V:List Value) (k:Nat):Prop:= ∃u∈V,u.ownBlock=some k
structure Kw (L:uo) (V:List Value) (w w':World):Prop where
 os:w'.os=w.os
 tape:w'.tape=w.tape
 output:w'.output=w.output
 size:w.heap.size<=w'.heap.size
 block: ∀k,k<w.heap.size->k≠L.bc-> ¬Own V k->w'.heap[k]? =w.heap[k]?
def mX (w:World) (V V':List Value):Prop:= ∀k,Own V' k->Own V k∨w.heap.size<=k
theorem Kw.refl (L:uo) (V:List Value) (w:World):Kw L V w w:=⟨rfl,rfl,rfl,aD _,λ_ _ _ _=>rfl⟩
theorem Kw.of_below {L:uo} {V:List Value} {w w':World} (h:Below w.heap.size w w'):Kw L V w w':=⟨h.os,h.tape,h.output,h.size,λk hk _ _=>h.block k hk⟩
theorem Kw.trans {L:uo} {V V1:List Value} {w w1 w2:World} (h:Kw L V w w1) (ho:mX w V V1) (k:Kw L V1 w1 w2):Kw L V w w2:=
 ⟨k.os.trans h.os,k.tape.trans h.tape,k.output.trans h.output,aO h.size k.size,λj hj hc hv=>(k.block j (aV hj h.size) hc (λe=>by
   rcases ho j e with e|e
   ·exact hv e
   ·omega)).trans (h.block j hj hc hv)⟩
theorem Kw.below {L:uo} {V:List Value} {w w':World} (h:Kw L V w w') (hB:L.B0<=w.heap.size) (hv: ∀k,Own V k->L.B1<=k):Below L.B0 w w':=
 ⟨h.os,h.tape,h.output,h.size,λk hk=>h.block k ahf (by have:=L.c0;omega) (λe=>acz)⟩
theorem Kw.far {L:uo} {V:List Value} {w w':World} {k:Nat} (h:Kw L V w w') (hk:k<w.heap.size) (hB:L.B1<=k) (hv: ¬Own V k):w'.heap[k]? =w.heap[k]?:=
 h.block k hk agn hv
theorem mX.refl (w:World) (V:List Value):mX w V V:=λ_ h=> .inl h
theorem mX.trans {w w1:World} {V V1 V2:List Value} (h:mX w V V1) (k:mX w1 V1 V2) (hs:w.heap.size<=w1.heap.size):mX w V V2:=λj hj=>by
 rcases k j hj with e|e
 ·exact h j e
 ·exact .inr (aO hs e)
theorem mX.ne {w:World} {V V':List Value} {k:Nat} (h:mX w V V') (hk:k<w.heap.size) (hv: ¬Own V k): ¬Own V' k:=λe=>by
 rcases h k e with e|e
 ·exact hv e
 ·omega
theorem mH {w w':World} {base:Nat} {e:TypeId} {size n:Nat} {v:Value} {xs:List Value} (h:w.ownsRow base e size v n xs) (hb: ∀k,v.ownBlock=some k->w'.heap[k]? =w.heap[k]?):w'.ownsRow base e size v n xs:=by
 refine⟨h.1,?_⟩;rcases h.2 with h1|⟨g,cap,cur,hv,h1,h2,h3⟩
 ·exact .inl h1
 ·exact .inr ⟨g,cap,cur,hv,h1,(hb g (by rw[hv];rfl)).trans h2,h3⟩
theorem VE {w:World} {g:Nat} (hg:g<w.heap.size): ∀(l:List ByteArray) (k:Nat),(∀j u,(kI l)[j]? =some u->w.cell? ⟨g,k+j,none⟩=some u)->(∀s∈l,s.size<=maxLen)->fT w w.heap.size l (some ⟨g,0,none⟩) k
 | [],_,_,_=>trivial
 |s::r,k,hc,hs=>by
  refine⟨⟨g,0,rfl,hg,?_,hs s ahh⟩,VE hg r (k+1) (λj u hu=> ?_) (λy hy=>hs y ahx)⟩
  ·rw[aU];exact hc 0 _ rfl
  ·rw[Nat.add_assoc,Nat.add_comm 1 j];exact hc (j+1) u (by simpa[kI]using hu)
theorem XZ {w:World} {base:Nat} {e:TypeId} {v:Value} {l:List ByteArray} (h:w.ownsRow base e 1 v l.length (kI l)) (hs: ∀s∈l,s.size<=maxLen): ∃ao cap,v= .slice ao l.length cap∧fT w w.heap.size l ao 0:=by
 rcases h.2 with⟨rfl,hn⟩|⟨g',cap,cur,rfl,hb,hg,h1,h2,h3,h4⟩
 ·have:l=[]:=List.eq_nil_of_length_eq_zero hn;subst this;exact⟨none,0,rfl,trivial⟩
 ·refine⟨_,_,rfl,VE (aI hg) l 0 (λj u hu=> ?_) hs⟩;rw[aU,cell_of_row w g' j cur _ (0,0) hg];rw[<- h4,List.getElem?_take]at hu;split at hu
  ·simpa using hu
  ·cases hu
structure kP (w:World) (L:uo) (p:Pr) (aQ aR:Option Addr) (aJ aH:Nat) (i:Int) (A:List Fr) (fs gs:List ByteArray) (v vs ve:Value):Prop where
 blk:w.heap[L.bc]? =some (.cells (wkV p aQ aR aJ aH i v vs ve) 115 (0,0))
 row:w.ownsRow L.B1 82 11 v A.length (CF A)
 rs:w.ownsRow L.B1 9 1 vs fs.length (kI fs)
 re:w.ownsRow L.B1 9 1 ve gs.length (kI gs)
 d1: ∀k,v.ownBlock=some k->vs.ownBlock≠some k
 d2: ∀k,v.ownBlock=some k->ve.ownBlock≠some k
 d3: ∀k,vs.ownBlock=some k->ve.ownBlock≠some k
 sz:L.B1<=w.heap.size
 dat:Xe w L.B0 p aQ aR
 tO:ap7 w L.B0 A
 fo: ∀s∈fs,s.size<=maxLen
 go: ∀s∈gs,s.size<=maxLen
section
variable {w:World} {L:uo} {p:Pr} {aQ aR:Option Addr} {aJ aH:Nat} {i:Int} {A:List Fr} {fs gs:List ByteArray} {v vs ve:Value}
theorem kP.b0 (h:kP w L p aQ aR aJ aH i A fs gs v vs ve):L.B0<=w.heap.size:=ad5
theorem wK {k:Nat} :Own [v,vs,ve] k↔v.ownBlock=some k∨vs.ownBlock=some k∨ve.ownBlock=some k:=by
 unfold Own;simp
theorem kP.own (h:kP w L p aQ aR aJ aH i A fs gs v vs ve): ∀k,Own [v,vs,ve] k->L.B1<=k∧k<w.heap.size:=λk hk=>by
 rcases wK.1 hk with e|e|e
 ·exact h.row.lt k e
 ·exact h.rs.lt k e
 ·exact h.re.lt k e
theorem kP.form (h:kP w L p aQ aR aJ aH i A fs gs v vs ve): ∃eZ dU,v= .slice eZ A.length dU∧(dJ A).At w w.heap.size eZ 0:=by
 exact AaS
theorem kP.Z7 (h:kP w L p aQ aR aJ aH i A fs gs v vs ve): ∃ao cap,vs= .slice ao fs.length cap∧fT w w.heap.size fs ao 0:=XZ h.rs h.fo
theorem kP.Z6 (h:kP w L p aQ aR aJ aH i A fs gs v vs ve): ∃ao cap,ve= .slice ao gs.length cap∧fT w w.heap.size gs ao 0:=XZ h.re h.go
theorem kP.holds {eZ kL iL:Option Addr} {dU pV jg pU jf:Nat} (h:kP w L p aQ aR aJ aH i A fs gs (.slice eZ A.length dU) (.slice kL pV jg) (.slice iL pU jf)):Holds w (KT L.bc p aQ aR aJ aH i eZ (dJ A).len dU kL pV jg iL pU jf):=by
 have hb:=h.blk;rw[sV];exact⟨eT hb (j:=0) rfl,eT hb (j:=1) rfl,eT hb (j:=2) rfl,eT hb (j:=3) rfl,eT hb (j:=4) rfl,eT hb (j:=5) rfl,trivial⟩
theorem kP.below {w':World} (h:kP w L p aQ aR aJ aH i A fs gs v vs ve) (hb:Below w.heap.size w w'):kP w' L p aQ aR aJ aH i A fs gs v vs ve where
 blk:=(hb.block _ (aI h.blk)).trans h.blk
 row:=mH h.row (λk hk=>hb.block k (h.row.lt k hk).2)
 rs:=mH h.rs (λk hk=>hb.block k (h.rs.lt k hk).2)
 re:=mH h.re (λk hk=>hb.block k (h.re.lt k hk).2)
 d1:=h.d1
 d2:=h.d2
 d3:=h.d3
 sz:=aO h.sz hb.size
 dat:=h.dat.below (hb.mono h.b0)
 tO:=λx hx=>(h.tO x hx).below (hb.mono h.b0)
 fo:=h.fo
 go:=h.go
theorem kP.ay5 {wz w4 w5:World} {u x:Value} {g' j:Nat} (h:kP w L p aQ aR aJ aH i A fs gs v vs ve) (hu:u∈ [v,vs,ve]) (hb:Below w.heap.size w wz) (hgr:wz.grownBy w4 u.ownBlock) (hat:u.ownBlock=some g'∨g'=wz.heap.size) (hgw:w4.grownBy w5 (some g')):
 (∀k,k<w.heap.size->u.ownBlock≠some k->w5.heap[k]? =w.heap[k]?)∧(∀k,k<w.heap.size->k≠L.bc->u.ownBlock≠some k->(w5.setCell ⟨L.bc,j,none⟩ x).heap[k]? =w.heap[k]?)∧
 Kw L [v,vs,ve] w (w5.setCell ⟨L.bc,j,none⟩ x):=by
 have hsz:w.heap.size<=w4.heap.size:=aO hb.size hgr.size;have hgz:=bQ w5 ⟨L.bc,j,none⟩ x;have hlow: ∀k,k<w.heap.size->u.ownBlock≠some k->w5.heap[k]? =w.heap[k]?:=λk hk hv=>by
  have hkg:k≠g':=by
   rcases hat with e|e
   ·intro e';exact hv (by rw[e,e'])
   ·have:=hb.size;omega
  rw[hgw.block k ahf (by simp;exact hkg),hgr.block k (aV hk hb.size) (λe=>hv e.symm),hb.block k hk]
 have hl2: ∀k,k<w.heap.size->k≠L.bc->u.ownBlock≠some k->(w5.setCell ⟨L.bc,j,none⟩ x).heap[k]? =w.heap[k]?:=λk hk hc hv=>by rw[bF w5 ⟨L.bc,j,none⟩ _ rfl (λe=>hc e.symm)];exact hlow k hk hv
 refine⟨hlow,hl2,⟨hgz.os.trans (hgw.os.trans (hgr.os.trans hb.os)),hgz.tape.trans (hgw.tape.trans (hgr.tape.trans hb.tape)),hgz.output.trans (hgw.output.trans (hgr.output.trans hb.output)),aO hsz (aO hgw.size hgz.size),λk hk hc hv=>hl2 k hk hc (λe=>hv ⟨u,hu,e⟩)⟩⟩
theorem kP.PL (h:kP w L p aQ aR aJ aH i A fs gs v vs ve) {u:Value} (hu:u∈ [v,vs,ve]):u.ownBlock≠some L.bc:=λe=>by
 have:=(h.own _ ⟨u,hu,e⟩).1;have:=L.c1;omega
theorem kP.push {wz w4:World} {g' cap':Nat} {zs:List Value} (h:kP w L p aQ aR aJ aH i A fs gs v vs ve) (x:Fr) (hx:uW w L.B0 x.h x.b x.e x.s) (hb:Below w.heap.size w wz) (hown:w4.ownsRow L.B1 82 11 (.slice (some ⟨g',0,none⟩) (A.length+1) cap') (A.length+1) (CF A++zs)) (hgr:wz.grownBy w4 v.ownBlock) (hat:v.ownBlock=some g'∨g'=wz.heap.size):
 kP ((w4.setCells g' (A.length*11) (qy x.h x.b x.e x.s)).setCell ⟨L.bc,3,none⟩ (.slice (some ⟨g',0,none⟩) (A.length+1) cap')) L p aQ aR aJ aH i (A++[x]) fs gs (.slice (some ⟨g',0,none⟩) (A.length+1) cap') vs ve∧
 Kw L [v,vs,ve] w ((w4.setCells g' (A.length*11) (qy x.h x.b x.e x.s)).setCell ⟨L.bc,3,none⟩ (.slice (some ⟨g',0,none⟩) (A.length+1) cap'))∧mX w [v,vs,ve] [.slice (some ⟨g',0,none⟩) (A.length+1) cap',vs,ve]:=by
 have hg1:=(hown.lt g' rfl).1;have hc1:=L.c1;have hput:=Vi (vs:=qy x.h x.b x.e x.s) hown (GA A) rfl;generalize hw5:w4.setCells g' (A.length*11) (qy x.h x.b x.e x.s)=w5 at *;have hgw:w4.grownBy w5 (some g'):=by rw[<- hw5];exact dZ _ _ _ _
 obtain⟨hlow,hl2,fG⟩:=h.ay5 (u:=v) (x:= .slice (some ⟨g',0,none⟩) (A.length+1) cap') (j:=3) ahh hb hgr hat hgw;have hgz:=bQ w5 ⟨L.bc,3,none⟩ (.slice (some ⟨g',0,none⟩) (A.length+1) cap');have hbel:=fG.below h.b0 (λk e=>(h.own k e).1);have hnew: ∀k,Value.ownBlock (.slice (some ⟨g',0,none⟩) (A.length+1) cap')=some k->v.ownBlock=some k∨w.heap.size<=k:=λk hk=>by
  have:g'=k:=adC
  subst this;rcases hat with e|e
  ·exact .inl e
  ·exact .inr afL
 refine⟨?_,fG,λk hk=> ?_⟩
 ·refine {blk:= ?_,row:= ?_,rs:= ?_,re:= ?_,d1:= ?_,d2:= ?_,d3:=h.d3,sz:=aO h.sz fG.size,dat:=h.dat.below hbel,tO:= ?_,fo:=h.fo,go:=h.go}
  ·exact dQ ((hlow _ (aI h.blk) (h.PL ahh)).trans h.blk) _
  ·rw[au,Ei];refine hput.kept hgz (.inr ?_);simp[Value.ownBlock];omega
  ·exact mH h.rs (λk hk=>hl2 k (h.rs.lt k hk).2 aeM (λe=>h.d1 k e hk))
  ·exact mH h.re (λk hk=>hl2 k (h.re.lt k hk).2 aeN (λe=>h.d2 k e hk))
  ·intro k hk e;rcases hnew k hk with e'|e'
   ·exact h.d1 k e' e
   ·have:=(h.rs.lt k e).2;omega
  ·intro k hk e;rcases hnew k hk with e'|e'
   ·exact h.d2 k e' e
   ·have:=(h.re.lt k e).2;omega
  ·intro y hy;rcases List.mem_append.1 hy with hy|hy
   ·exact(h.tO y hy).below hbel
   ·obtain rfl:=List.mem_singleton.1 hy;exact hx.below hbel
 ·rcases wK.1 hk with e|e|e
  ·rcases hnew k e with e'|e'
   ·exact .inl (wK.2 (.inl e'))
   ·exact .inr e'
  ·exact .inl (wK.2 (.inr (.inl e)))
  ·exact .inl (wK.2 (.inr (.inr e)))
theorem kP.pop {wz:World} {g' cap':Nat} (x:Fr) (h:kP w L p aQ aR aJ aH i (A++[x]) fs gs (.slice (some ⟨g',0,none⟩) (A.length+1) cap') vs ve) (hb:Below w.heap.size w wz):
 kP (wz.setCell ⟨L.bc,3,none⟩ (.slice (some ⟨g',0,none⟩) A.length cap')) L p aQ aR aJ aH i A fs gs (.slice (some ⟨g',0,none⟩) A.length cap') vs ve∧
 Kw L [.slice (some ⟨g',0,none⟩) (A.length+1) cap',vs,ve] w (wz.setCell ⟨L.bc,3,none⟩ (.slice (some ⟨g',0,none⟩) A.length cap')):=by
 have hI:=h.below hb;have hc1:=L.c1;have hgz:=bQ wz ⟨L.bc,3,none⟩ (.slice (some ⟨g',0,none⟩) A.length cap');have hkp:Kw L [.slice (some ⟨g',0,none⟩) (A.length+1) cap',vs,ve] w (wz.setCell ⟨L.bc,3,none⟩ (.slice (some ⟨g',0,none⟩) A.length cap')):=
  ⟨hgz.os.trans hb.os,hgz.tape.trans hb.tape,hgz.output.trans hb.output,aO hb.size hgz.size,λk hk hc _=>(hgz.block k (aV hk hb.size) ahR).trans (hb.block k hk)⟩
 have hbel:Below L.B0 wz (wz.setCell ⟨L.bc,3,none⟩ (.slice (some ⟨g',0,none⟩) A.length cap')):=cB hgz L.c0 hI.b0;have hrow:=hI.row;rw[au,Ei]at hrow;have hg1:=(hrow.lt g' rfl).1;have vX: ∀k,L.B1<=k->(wz.setCell ⟨L.bc,3,none⟩ (.slice (some ⟨g',0,none⟩) A.length cap')).heap[k]? =wz.heap[k]?:=λk hk=>bF wz _ _ rfl (by show L.bc≠k;omega);refine⟨{blk:=dQ hI.blk _,row:=(Rn hrow (GA A)).kept hgz (.inr aeX),rs:=mH hI.rs (λk hk=>vX k (hI.rs.lt k hk).1),re:=mH hI.re (λk hk=>vX k (hI.re.lt k hk).1),d1:=λk hk=>h.d1 k hk,d2:=λk hk=>h.d2 k hk,d3:=h.d3,sz:=aO hI.sz hgz.size,dat:=hI.dat.below hbel,tO:=λy hy=>(hI.tO y ahx).below hbel,fo:=h.fo,go:=h.go},hkp⟩
theorem VF (l:List ByteArray) (s:ByteArray):kI (l++[s])=kI l++[.string s]:=by simp[kI]
theorem kP.bH5 {wz w4:World} {g' cap':Nat} {nm:ByteArray} (h:kP w L p aQ aR aJ aH i A fs gs v vs ve) (hn:nm.size<=maxLen) (hb:Below w.heap.size w wz) (hown:w4.ownsRow L.B1 9 1 (.slice (some ⟨g',0,none⟩) (fs.length+1) cap') (fs.length+1) (kI fs++[.string nm])) (hgr:wz.grownBy w4 vs.ownBlock) (hat:vs.ownBlock=some g'∨g'=wz.heap.size):
 kP (w4.setCell ⟨L.bc,4,none⟩ (.slice (some ⟨g',0,none⟩) (fs.length+1) cap')) L p aQ aR aJ aH i A (fs++[nm]) gs v (.slice (some ⟨g',0,none⟩) (fs.length+1) cap') ve∧
 Kw L [v,vs,ve] w (w4.setCell ⟨L.bc,4,none⟩ (.slice (some ⟨g',0,none⟩) (fs.length+1) cap'))∧mX w [v,vs,ve] [v,.slice (some ⟨g',0,none⟩) (fs.length+1) cap',ve]:=by
 have hg1:=(hown.lt g' rfl).1;have hc1:=L.c1;obtain⟨hlow,hl2,fG⟩:=h.ay5 (u:=vs) (x:= .slice (some ⟨g',0,none⟩) (fs.length+1) cap') (j:=4) ahh hb hgr hat (Dm w4);have hgz:=bQ w4 ⟨L.bc,4,none⟩ (.slice (some ⟨g',0,none⟩) (fs.length+1) cap');have hbel:=fG.below h.b0 (λk e=>(h.own k e).1);have hnew: ∀k,Value.ownBlock (.slice (some ⟨g',0,none⟩) (fs.length+1) cap')=some k->vs.ownBlock=some k∨w.heap.size<=k:=λk hk=>by
  have:g'=k:=adC
  subst this;rcases hat with e|e
  ·exact .inl e
  ·exact .inr afL
 refine⟨?_,fG,λk hk=> ?_⟩
 ·refine {blk:= ?_,row:= ?_,rs:= ?_,re:= ?_,d1:= ?_,d2:=h.d2,d3:= ?_,sz:=aO h.sz fG.size,dat:=h.dat.below hbel,tO:=λy hy=>(h.tO y hy).below hbel,fo:= ?_,go:=h.go}
  ·exact dQ ((hlow _ (aI h.blk) (h.PL ahh)).trans h.blk) _
  ·exact mH h.row (λk hk=>hl2 k (h.row.lt k hk).2 aeA (λe=>h.d1 k hk e))
  ·rw[au,VF];refine hown.kept hgz (.inr ?_);simp[Value.ownBlock];omega
  ·exact mH h.re (λk hk=>hl2 k (h.re.lt k hk).2 aeN (λe=>h.d3 k e hk))
  ·intro k hk e;rcases hnew k e with e'|e'
   ·exact h.d1 k hk e'
   ·have:=(h.row.lt k hk).2;omega
  ·intro k hk e;rcases hnew k hk with e'|e'
   ·exact h.d3 k e' e
   ·have:=(h.re.lt k e).2;omega
  ·intro y hy;rcases List.mem_append.1 hy with hy|hy
   ·exact h.fo y hy
   ·obtain rfl:=List.mem_singleton.1 hy;exact hn
 ·rcases wK.1 hk with e|e|e
  ·exact .inl (wK.2 (.inl e))
  ·rcases hnew k e with e'|e'
   ·exact .inl (wK.2 (.inr (.inl e')))
   ·exact .inr e'
  ·exact .inl (wK.2 (.inr (.inr e)))
theorem kP.bH3 {wz w4:World} {g' cap':Nat} {nm:ByteArray} (h:kP w L p aQ aR aJ aH i A fs gs v vs ve) (hn:nm.size<=maxLen) (hb:Below w.heap.size w wz) (hown:w4.ownsRow L.B1 9 1 (.slice (some ⟨g',0,none⟩) (gs.length+1) cap') (gs.length+1) (kI gs++[.string nm])) (hgr:wz.grownBy w4 ve.ownBlock) (hat:ve.ownBlock=some g'∨g'=wz.heap.size):
 kP (w4.setCell ⟨L.bc,5,none⟩ (.slice (some ⟨g',0,none⟩) (gs.length+1) cap')) L p aQ aR aJ aH i A fs (gs++[nm]) v vs (.slice (some ⟨g',0,none⟩) (gs.length+1) cap')∧
 Kw L [v,vs,ve] w (w4.setCell ⟨L.bc,5,none⟩ (.slice (some ⟨g',0,none⟩) (gs.length+1) cap'))∧mX w [v,vs,ve] [v,vs,.slice (some ⟨g',0,none⟩) (gs.length+1) cap']:=by
 have hg1:=(hown.lt g' rfl).1;have hc1:=L.c1;obtain⟨hlow,hl2,fG⟩:=h.ay5 (u:=ve) (x:= .slice (some ⟨g',0,none⟩) (gs.length+1) cap') (j:=5) ahh hb hgr hat (Dm w4);have hgz:=bQ w4 ⟨L.bc,5,none⟩ (.slice (some ⟨g',0,none⟩) (gs.length+1) cap');have hbel:=fG.below h.b0 (λk e=>(h.own k e).1);have hnew: ∀k,Value.ownBlock (.slice (some ⟨g',0,none⟩) (gs.length+1) cap')=some k->ve.ownBlock=some k∨w.heap.size<=k:=λk hk=>by
  have:g'=k:=adC
  subst this;rcases hat with e|e
  ·exact .inl e
  ·exact .inr afL
 refine⟨?_,fG,λk hk=> ?_⟩
 ·refine {blk:= ?_,row:= ?_,rs:= ?_,re:= ?_,d1:=h.d1,d2:= ?_,d3:= ?_,sz:=aO h.sz fG.size,dat:=h.dat.below hbel,tO:=λy hy=>(h.tO y hy).below hbel,fo:=h.fo,go:= ?_}
  ·exact dQ ((hlow _ (aI h.blk) (h.PL ahh)).trans h.blk) _
  ·exact mH h.row (λk hk=>hl2 k (h.row.lt k hk).2 aeA (λe=>h.d2 k hk e))
  ·exact mH h.rs (λk hk=>hl2 k (h.rs.lt k hk).2 aeM (λe=>h.d3 k hk e))
  ·rw[au,VF];refine hown.kept hgz (.inr ?_);simp[Value.ownBlock];omega
  ·intro k hk e;rcases hnew k e with e'|e'
   ·exact h.d2 k hk e'
   ·have:=(h.row.lt k hk).2;omega
  ·intro k hk e;rcases hnew k e with e'|e'
   ·exact h.d3 k hk e'
   ·have:=(h.rs.lt k hk).2;omega
  ·intro y hy;rcases List.mem_append.1 hy with hy|hy
   ·exact h.go y hy
   ·obtain rfl:=List.mem_singleton.1 hy;exact hn
 ·rcases wK.1 hk with e|e|e
  ·exact .inl (wK.2 (.inl e))
  ·exact .inl (wK.2 (.inr (.inl e)))
  ·rcases hnew k e with e'|e'
   ·exact .inl (wK.2 (.inr (.inr e')))
   ·exact .inr e'
theorem kP.aA7 {i':Int} (h:kP w L p aQ aR aJ aH i A fs gs v vs ve):kP (w.setCell ⟨L.bc,2,none⟩ (.int .i64 i')) L p aQ aR aJ aH i' A fs gs v vs ve:=by
 have hg:=bQ w ⟨L.bc,2,none⟩ (.int .i64 i');have hbel:=cB hg L.c0 h.b0;have hc1:=L.c1;have vX: ∀k,L.B1<=k->(w.setCell ⟨L.bc,2,none⟩ (.int .i64 i')).heap[k]? =w.heap[k]?:=λk hk=>bF w _ _ rfl (by show L.bc≠k;omega);exact {blk:=agD,row:=mH h.row (λk hk=>vX k (h.row.lt k hk).1),rs:=mH h.rs (λk hk=>vX k (h.rs.lt k hk).1),re:=mH h.re (λk hk=>vX k (h.re.lt k hk).1),d1:=h.d1,d2:=h.d2,d3:=h.d3,sz:=aO h.sz hg.size,dat:=h.dat.below hbel,tO:=λx hx=>(h.tO x hx).below hbel,fo:=h.fo,go:=h.go}
end
def C3 (W1 W2 W3 W4:World):List Bool->World->Prop
 | [false,false,false],w=>w=W1
 | [true,false,false],w=>w=W2
 | [true,true,false],w=>w=W3
 | [true,true,true],w=>w=W4
 |_,_=>False
section
variable {W1 W2 W3 W4:World} {a1 a2 a3 i:Nat} {c:List Bool} {w':World}
theorem C3.bits: ∀ {c:List Bool} {w':World},C3 W1 W2 W3 W4 c w'->∃x y z,c=[x,y,z]
 | [x,y,z],_,_=>⟨x,y,z,rfl⟩
 | [],_,h=>h.elim
 | [_],_,h=>by simp[C3]at h
 | [_,_],_,h=>by simp[C3]at h
 |_::_::_::_::_,_,h=>by simp[C3]at h
theorem C3.skip (h1:(a1==i)=false) (h2:(a2==i)=false) (h3:(a3==i)=false) (h:C3 W1 W2 W3 W4 c w'):C3 W1 W2 W3 W4 (jA [a1,a2,a3] c i) w':=by
 obtain⟨x,y,z,rfl⟩:=h.bits;simpa[jA,h1,h2,h3]using h
theorem C3.one (h1:(a1==i)=true) (h2:(a2==i)=false) (h3:(a3==i)=false):C3 W1 W2 W3 W4 (jA [a1,a2,a3] [false,false,false] i) W2:=by
 simp only[jA,h1,h2,h3,Bool.or_false,Bool.or_true];rfl
theorem C3.two (h1:(a1==i)=false) (h2:(a2==i)=true) (h3:(a3==i)=false):C3 W1 W2 W3 W4 (jA [a1,a2,a3] [true,false,false] i) W3:=by
 simp only[jA,h1,h2,h3,Bool.or_false,Bool.or_true];rfl
theorem C3.three (h1:(a1==i)=false) (h2:(a2==i)=false) (h3:(a3==i)=true):C3 W1 W2 W3 W4 (jA [a1,a2,a3] [true,true,false] i) W4:=by
 simp only[jA,h1,h2,h3,Bool.or_false,Bool.or_true];rfl
theorem C3.low {p1:Option Bool} {W:World} (hb1:Below W.heap.size W W1) (hb2:Below W.heap.size W W2) (hok:okB [p1,some false,some false] c) (h:C3 W1 W2 W3 W4 c w'):Below W.heap.size W w':=by
 obtain⟨x,y,z,rfl⟩:=h.bits;have:y=false∧z=false:=by
  cases p1 with
  |none=>exact⟨hok.1,hok.2.1⟩
  |some b=>exact⟨hok.2.1,hok.2.2.1⟩
 obtain⟨rfl,rfl⟩:=this;cases x
 ·have h:w'=W1:=h;rw[h];exact hb1
 ·have h:w'=W2:=h;rw[h];exact hb2
theorem C3.w1 (hok:okB [some false,some false,some false] c) (h:C3 W1 W2 W3 W4 c w'):c=[false,false,false]∧w'=W1:=by
 obtain⟨x,y,z,rfl⟩:=h.bits;obtain⟨rfl,rfl,rfl,-⟩:=hok;exact⟨rfl,h⟩
theorem C3.w2 (hok:okB [some true,some false,some false] c) (h:C3 W1 W2 W3 W4 c w'):c=[true,false,false]∧w'=W2:=by
 obtain⟨x,y,z,rfl⟩:=h.bits;obtain⟨rfl,rfl,rfl,-⟩:=hok;exact⟨rfl,h⟩
theorem C3.w3 (hok:okB [some true,some true,some false] c) (h:C3 W1 W2 W3 W4 c w'):c=[true,true,false]∧w'=W3:=by
 obtain⟨x,y,z,rfl⟩:=h.bits;obtain⟨rfl,rfl,rfl,-⟩:=hok;exact⟨rfl,h⟩
end
theorem wp_append_run {P:Program} {w w':World} {o:Oper} {a:Act} {K:Act->World->Prop} {Q:Exit->Act->World->Prop} (s x:Operand) (t:TypeId) (v u r:Value)
 (ho:o.op= .call {callee:= .builtin .append,args:= #[s,x],argTypes:= #[t,t]}) (hs:a.eval s=v) (hx:a.eval x=u)
 (hr:(Builtin.append_ #[t,t] o.type #[v,u]).run P w= .ok r w') (h:K (a.put o.dst r) w'):o.wp P a w K Q:=by
 unfold Oper.wp execOp;simp only[ho,resolve,invoke,builtin,Sem.run_bind,Sem.run_pure,Result.andThen_ok,List.map_toArray,List.map_cons,List.map_nil,hs,hx,hr];exact h
def E9 (w:World) (L:uo) (p:Pr) (aQ aR:Option Addr) (aJ aH:Nat) (i:Int) (A:List Fr) (fs gs:List ByteArray) (v vs ve:Value) (fs2 gs2:List ByteArray) (r:Int) (e:Ending) (w':World):Prop:=
 e= .returned (.int .i64 r)∧Kw L [v,vs,ve] w w'∧∃fs' gs' vs' ve',mX w [v,vs,ve] [v,vs',ve']∧kP w' L p aQ aR aJ aH i A fs' gs' v vs' ve'∧(r=0->fs'=fs2∧gs'=gs2)
theorem E9.err {w w':World} {L:uo} {p:Pr} {aQ aR:Option Addr} {aJ aH:Nat} {i:Int} {A:List Fr} {fs gs:List ByteArray} {v vs ve:Value} {fs2 gs2:List ByteArray} {r x:Int}
 (hI:kP w L p aQ aR aJ aH i A fs gs v vs ve) (hr:r=x) (h0:r≠0) (hb:Below w.heap.size w w'):E9 w L p aQ aR aJ aH i A fs gs v vs ve fs2 gs2 r (.returned (.int .i64 x)) w':=by
 subst hr;exact⟨rfl,Kw.of_below hb,fs,gs,vs,ve,mX.refl _ _,hI.below hb,λh=>(h0 h).elim⟩
theorem ax4:(Tryz.prog.info? 9).map (λi=>(i.zero,i.size,i.bytes))=some (some (.string ⟨#[]⟩),1,16):=ahe
theorem Vz: ∃i0,Tryz.prog.info? 9=some i0∧i0.zero=some (.string ⟨#[]⟩)∧i0.size=1∧i0.bytes=16:=info_parts ax4
theorem aQ1 (L:uo) (p:Pr) (w:World) (aQ aR:Option Addr) (aJ aH:Nat) (i:Int) (A:List Fr) (fs gs:List ByteArray) (v vs ve:Value) (hI:kP w L p aQ aR aJ aH i A fs gs v vs ve) (h:dM) (b e:bf) (s:Sl) (hin:uW w L.B0 h b e s) (hi:cO i) (hA:A.length<=maxLen) (hfs:fs.length<=1000000000000) (hgs:gs.length<=1000000000000) (hop:h.op=12):
 Calls Tryz.prog 82 #[.pointer (some ⟨L.bc,0,none⟩),iG h b e s] w (E9 w L p aQ aR aJ aH i A fs gs v vs ve (fs++[h.nm]) gs (if gV (conv (mean p i h.nm)) 7 7 != 0 then gV (conv (mean p i h.nm)) 7 7 else if((((eU (dJ A) 7 7 ⟨#[]⟩||eU (dJ A) 8 8 ⟨#[]⟩)||eU (dJ A) 3 3 ⟨#[]⟩)||qV p.ts h.nm==i)||qV p.ts h.nm==0)then 7 else qL (nY fs h.nm.toList))):=by
 obtain⟨eZ,dU,rfl,hat⟩:=hI.form;obtain⟨kL,jg,rfl,htS⟩:=hI.Z7;obtain⟨iL,jf,rfl,htE⟩:=hI.Z6;have hp:=hI.dat.use hI.b0;have hh:=hI.holds;have har:(dJ A).len<=maxLen:=ahd
 replace hin:=hin.use hI.b0;have HI:=ah hI;have lH:=ah htS;have IZ:=ah htE;generalize hres:(if gV (conv (mean p i h.nm)) 7 7 != 0 then gV (conv (mean p i h.nm)) 7 7 else if((((eU (dJ A) 7 7 ⟨#[]⟩||eU (dJ A) 8 8 ⟨#[]⟩)||eU (dJ A) 3 3 ⟨#[]⟩)||qV p.ts h.nm==i)||qV p.ts h.nm==0)then 7 else qL (nY fs h.nm.toList))=res;have HR:aj (res=(if gV (conv (mean p i h.nm)) 7 7 != 0 then gV (conv (mean p i h.nm)) 7 7 else if((((eU (dJ A) 7 7 ⟨#[]⟩||eU (dJ A) 8 8 ⟨#[]⟩)||eU (dJ A) 3 3 ⟨#[]⟩)||qV p.ts h.nm==i)||qV p.ts h.nm==0)then 7 else qL (nY fs h.nm.toList))):=ah (by rw[<- hres]);have iC:=ah hop;have zi:=ah hin.1.2.2.1;have WL:=ah hfs;have WM:=ah hgs;clear hres hop hI htS htE hA hfs hgs;have HH:=ah (show Sit w w _ from⟨ak _ _,hh⟩);have kX:=ah hin;have pz:=ah hat;have lG:=ah har;have HP:=ah hp;unfold iG;clear hh hin hat har hp;go_enter Tryz.func82,Tryz.ntmps82;go_upto_region 1 with fail;generalize hW:World.alloc w _=W;generalize Value.agg #[_,_,_,_,_,_,_,_,_,_,_]=a0;have HX:aj (Sit w W (xL w.heap.size h b e s (KT L.bc p aQ aR aJ aH i eZ (dJ A).len dU kL fs.length jg iL gs.length jf))):=ah aa2;clear hW HH;obtain⟨-,-,-,-,-,-,-,-,-,-,-,K0,K1,K2,-⟩:=HX.o.Aa;have HD1:Below W.heap.size W (W.drewN 1):=below_drewN (ak _ _) 1;refine cK ahe rfl ?_;generalize W.drewN 1=W1 at *;refine bW 0 11 [8,9] [[],[0],[0,1],[0,1,2],[],[4],[4,5],[4,5,6],[],[0,1,2,3,8],[0,1,2,3,4,5,6,7,8,9]] [[none,some false],[none,some false],[none,some false],[none,some false],[none,none],[none,none],[none,none],[none,none],[some false,some false],[some true,some false],[some true,some true]] (AC W1 (.cells #[.slice none 0 0,.slice none 0 0] 52) (.cells #[.slice aQ p.ds.length aJ,.slice aR p.ts.length aH] 52)) (λ_ _=>True) [15,16,17,18,19,20,21,22,5,6] rfl rfl aix ahe ahe ahe ahe ahe aix (λ_=>trivial) aix rfl ?_;simp only[gJ,kE]
 iterate 8
  apply bH.step
  case cu=>exact Abc
  try simp only[dI]
 apply bH.step
 case cu=>exact Abo
 refine bH.some (λ_ _=>True) (λ_ _ _ _ _=>trivial) ?_ ?_
 ·exact Abb
 try simp only[dI]
 apply bH.step
 case cu=>exact Abp
 try simp only[dI]
 refine bH.done ?_;intro wz dx;simp only[List.drop_zero];intro v0 h0 v1 h1 v2 h2 v3 h3 v4 h4 v5 h5 v6 h6 v7 h7 v8 h8 v9 h9 v10 h10;have h8':v8=_:=h8;have Uq:v10=_:=h10;subst h8' Uq;clear h0 h1 h2 h3 h4 h5 h6 h7 h8 h9 h10;refine eY.nil ?_;refine dH rfl ?_;have Kj:wz=W1.alloc _:=dx;generalize hn1:W1.heap.size=n1 at *;have HY:=ah ((HX.o.next HD1).yP hn1 (.slice aQ p.ds.length aJ) (.slice aR p.ts.length aH) 52);rw[<- Kj]at HY;clear dx Kj HX K0 K1 K2 HD1 hn1;go_simp;obtain⟨c0,c1,c2,c3,c4,c5,c6,c7,c8,c9,c10,c11,c12,c13,c14,c15,c16,c17,c18,-⟩:=HY.o.cs;go_wp2_with fail;refine(iR p _ aQ aR aJ aH i eZ dU L.bc kL fs.length jg iL gs.length jf (dJ A) 7 7 ⟨#[]⟩ lG.o (pz.o.same HY.o.1) (nu HY.o)).mono ?_;rintro e' W ⟨rfl,hb⟩;replace HY:=ah (HY.o.next hb);clear hb c0 c1 c2 c3 c4 c5 c6 c7 c8 c9 c10 c11 c12 c13 c14 c15 c16 c17 c18;obtain⟨c0,c1,c2,c3,c4,c5,c6,c7,c8,c9,c10,c11,c12,c13,c14,c15,c16,c17,c18,-⟩:=HY.o.cs;go_wp2_with fail;refine(iR p _ aQ aR aJ aH i eZ dU L.bc kL fs.length jg iL gs.length jf (dJ A) 8 8 ⟨#[]⟩ lG.o (pz.o.same HY.o.1) (nu HY.o)).mono ?_;rintro e' W ⟨rfl,hb⟩;replace HY:=ah (HY.o.next hb);clear hb c0 c1 c2 c3 c4 c5 c6 c7 c8 c9 c10 c11 c12 c13 c14 c15 c16 c17 c18;obtain⟨c0,c1,c2,c3,c4,c5,c6,c7,c8,c9,c10,c11,c12,c13,c14,c15,c16,c17,c18,-⟩:=HY.o.cs;go_wp2_with fail;refine(iR p _ aQ aR aJ aH i eZ dU L.bc kL fs.length jg iL gs.length jf (dJ A) 3 3 ⟨#[]⟩ lG.o (pz.o.same HY.o.1) (nu HY.o)).mono ?_;rintro e' W ⟨rfl,hb⟩;replace HY:=ah (HY.o.next hb);clear hb c0 c1 c2 c3 c4 c5 c6 c7 c8 c9 c10 c11 c12 c13 c14 c15 c16 c17 c18;obtain⟨c0,c1,c2,c3,c4,c5,c6,c7,c8,c9,c10,c11,c12,c13,c14,c15,c16,c17,c18,-⟩:=HY.o.cs;generalize htx:eU (dJ A) 7 7 ⟨#[]⟩=tx at *;generalize hat':eU (dJ A) 8 8 ⟨#[]⟩=QO at *;generalize hlo:eU (dJ A) 3 3 ⟨#[]⟩=lop at *;clear htx hat' hlo;have hop:=iC.o;obtain⟨g1,g2,g3,g4,g5,g6,g7,g8,g9,g10,g11,g12,g13,g14,g15⟩:=bj2 hop;clear hop;go_wp2_with fail;refine(jB p i h.nm 7 7 _ aQ aR aJ aH hi (HP.o.same HY.o.1)).mono ?_;rintro e' W ⟨rfl,hb⟩;replace HY:=ah (HY.o.next hb);clear hb c0 c1 c2 c3 c4 c5 c6 c7 c8 c9 c10 c11 c12 c13 c14 c15 c16 c17 c18;obtain⟨c0,c1,c2,c3,c4,c5,c6,c7,c8,c9,c10,c11,c12,c13,c14,c15,c16,c17,c18,-⟩:=HY.o.cs;generalize gV (conv (mean p i h.nm)) 7 7=q at *;cases hq:(q != 0)
 case true=>have HR':aj (res=q):=ah (HR.o.trans (if_pos hq));have NP:aj (q≠0):=ah (by simpa using hq);clear HR;go_wp2_with fail;go_ret;exact E9.err HI.o HR'.o (by rw[HR'.o];exact NP.o) HY.o.1
 have HR1:=ah (HR.o.trans (if_neg (by rw[hq];decide)));clear HR;go_wp2_with fail;refine(jo p.ts h.nm _ aR aH HP.o.2.1 (HP.o.same HY.o.1).2.2.2).mono ?_;rintro e' W' ⟨rfl,rfl⟩;generalize qV p.ts h.nm=kk at *;go_upto_region 35 with fail;go_cut [187] (λs' W3=>W=W3∧s'= .bool ((((tx||QO)||lop)||kk==i)||kk==0))
 case first=>
  as_aux_lemma=>
   cases tx
   ·cases QO
    ·cases lop
     ·cases hki:(kk==i)
      ·cases hk0:(kk==0)
       all_goals go_wp2_with fail
       all_goals go_meet
       all_goals exact⟨rfl,by first|rfl|(rw[hki,hk0];rfl)|(simp[hki,hk0])⟩
      ·go_wp2_with fail;go_meet;exact⟨rfl,by first|rfl|(rw[hki];rfl)|(simp[hki])⟩
     ·go_wp2_with fail;go_meet;exact⟨rfl,ahZ⟩
    ·go_wp2_with fail;go_meet;exact⟨rfl,ahZ⟩
   ·go_wp2_with fail;go_meet;exact⟨rfl,ahZ⟩
 obtain⟨rfl,rfl⟩:=hcut;generalize ((((tx||QO)||lop)||kk==i)||kk==0)=tt at *;cases tt
 case true=>have HR':aj (res=7):=HR1;clear HR1;go_wp2_with fail;go_ret;exact E9.err HI.o HR'.o (by rw[HR'.o];decide) HY.o.1
 have HR2:aj (res=qL (nY fs h.nm.toList)):=HR1;clear HR1;have NS:=ah (JU fs h.nm);go_upto_region 37 with fail;obtain⟨T,F,yU,hst,hF,hnext⟩:=calm W;have HF:=ah hF;have dN:=ah hnext;clear hnext hF;obtain⟨d0,d1,d2,d3,d4,d5,d6,d7,d8,d9,tN,uY,Cy,F4,yC,F5,Cz,F6,CB,-⟩:=HY.o.Ca HF.o;clear c0 c1 c2 c3 c4 c5 c6 c7 c8 c9 c10 c11 c12 c13 c14 c15 c16 c17 c18;rcases NS.o with⟨Kn,vZ⟩|⟨jj,Kn,vZ⟩
 case inr=>
  have Jl:=ah Kn;have HR':aj (res=8):=ah (HR2.o.trans (by rw[vZ];rfl));have hj0:(0:Int)<=(jj:Int):=ahf
  clear NS HR2 Kn vZ;refine gX F ahe ahe hst ?_
  repeat (any_goals (first|go_big_quiet_step ((first|(go_at_call 36;refine(jK fs h.nm _ kL jg acX ((lH.o.same HY.o.1).same (HF.o _))).mono ?_;rintro e w' ⟨rfl,rfl⟩;rw[Jl.o];exact⟨rfl,dN.o _ _ (ak _ _)⟩)))|(refine wpQuiet_step (λK hK=> ?_);go_simp;first|(refine hK _ ?_;clear hK K)|(split <;> first|(refine hK _ ?_;clear hK K)|(apply Exists.intro;refine⟨λ_=> ?_,hK _ ?_⟩;((first|(go_at_call 36;refine(jK fs h.nm _ kL jg acX ((lH.o.same HY.o.1).same (HF.o _))).mono ?_;rintro e w' ⟨rfl,rfl⟩;rw[Jl.o];exact⟨rfl,dN.o _ _ (ak _ _)⟩)));clear hK K)))))
  all_goals (refine wpQuiet_nil ?_;rintro _ ⟨x,rfl⟩)
  replace HY:=ah (HY.o.next (HF.o x));clear d0 d1 d2 d3 d4 d5 d6 d7 d8 d9 tN uY Cy F4 yC F5 Cz F6 CB HF dN hst;generalize F x=W2 at *;go_wp2_with fail;go_ret;exact E9.err HI.o HR'.o (by rw[HR'.o];decide) HY.o.1
 have Jl:=ah Kn;have HR':aj (res=0):=ah (HR2.o.trans (by rw[vZ];rfl));clear NS HR2 Kn vZ;refine gX F ahe ahe hst ?_
 repeat (any_goals (first|go_big_quiet_step ((first|(go_at_call 36;refine(jK fs h.nm _ kL jg acX ((lH.o.same HY.o.1).same (HF.o _))).mono ?_;rintro e w' ⟨rfl,rfl⟩;rw[Jl.o];exact⟨rfl,dN.o _ _ (ak _ _)⟩)))|(refine wpQuiet_step (λK hK=> ?_);go_simp;first|(refine hK _ ?_;clear hK K)|(split <;> first|(refine hK _ ?_;clear hK K)|(apply Exists.intro;refine⟨λ_=> ?_,hK _ ?_⟩;((first|(go_at_call 36;refine(jK fs h.nm _ kL jg acX ((lH.o.same HY.o.1).same (HF.o _))).mono ?_;rintro e w' ⟨rfl,rfl⟩;rw[Jl.o];exact⟨rfl,dN.o _ _ (ak _ _)⟩)));clear hK K)))))
 all_goals (refine wpQuiet_nil ?_;rintro _ ⟨x,rfl⟩)
 replace HY:=ah (HY.o.next (HF.o x));clear d0 d1 d2 d3 d4 d5 d6 d7 d8 d9 tN uY Cy F4 yC F5 Cz F6 CB HF dN hst;generalize F x=W2 at *;have hI2:=HI.o.below HY.o.1;have HI2:=ah hI2;have K4: ∀w',Below W2.heap.size W2 w'->w'.cell? ⟨L.bc,4,none⟩=some (.slice kL fs.length jg):=λw' hb=>(eT (HI2.o.below hb).blk (j:=4) rfl).2;obtain⟨-,-,-,-,K2,-⟩:=HY.o.Aa;have hd1:Below W2.heap.size W2 (W2.drewN 1):=below_drewN (ak _ _) 1;have hfs:=WL.o;clear hI2 hq;go_upto_region 39 with fail;refine cK ahe rfl ?_;generalize W2.drewN 1=W5 at *;have hd2:Below W2.heap.size W2 (W5.alloc (.cells #[.string h.nm] 9)):=hd1.trans ((aA _ _).mono hd1.size);obtain⟨i0,hi0,hz0,hz1,hz2⟩:=Vz;obtain⟨gg,cap,w4,hrun,uy,qH,vV,Er⟩:=run_append_lies (P:=Tryz.prog) (W5.alloc (.cells #[.string h.nm] 9)) 26 26 L.B1 9 i0 _ 1 16 Tryz.underlying26 hi0 hz0 hz1 hz2 rfl ahf (.slice kL fs.length jg) fs.length (kI fs) (HI2.o.below hd2).rs ⟨W5.heap.size,0,none⟩ 1 1 [.string h.nm] rfl (World.news_of_block (cs:= #[.string h.nm]) (heap_alloc_new W5 _)) afZ ahf afc ahf (HI2.o.below hd2).sz _ rfl;have as3:=ah hrun;have HAD:=ah (HI2.o.bH5 zi.o hd2 uy qH vV);have dL:aj (w4.heap[L.bc]? =some (.cells (wkV p aQ aR aJ aH i (.slice eZ A.length dU) (.slice kL fs.length jg) (.slice iL gs.length jf)) 115 (0,0))):=ah ((qH.block _ (Array.getElem?_eq_some_iff.1 (HI2.o.below hd2).blk).1 (λe'=>HI2.o.PL (u:= .slice kL fs.length jg) ahh e'.symm)).trans (HI2.o.below hd2).blk);have k4:w4.cell? ⟨L.bc,4,none⟩=some (.slice kL fs.length jg):=(eT dL.o (j:=4) rfl).2;have f4:w4.frozen? ⟨L.bc,4,none⟩=false:=bG dL.o;clear hrun uy qH vV Er hi0 hz0 hz1 hz2 dL;refine bW 0 12 [7,8,11] [[],[],[1],[1,2],[1,2,3],[],[5],[5,6],[1,2,3,4,5,6,7],[0,1,2,3,4,5,6,7,8],[0,1,2,3,4,5,6,7,8,9],[0,1,2,3,4,5,6,7,8,9,10]] [[none,none,some false],[none,some false,some false],[none,some false,some false],[none,some false,some false],[none,some false,some false],[some false,some false,some false],[some false,some false,some false],[some false,some false,some false],[some true,some false,some false],[some true,some true,some false],[some true,some true,some false],[some true,some true,some false]] (C3 W5 (W5.alloc (.cells #[.string h.nm] 9)) w4 (w4.setCell ⟨L.bc,4,none⟩ (.slice (some ⟨gg,0,none⟩) (fs.length+1) cap))) (λ_ _=>True) [196,197,198,199,200,201,202,203,204,205,206] rfl rfl aix ahe ahe ahe ahe ahe aix (λ_=>trivial) aix rfl ?_;simp only[gJ,kE]
 iterate 4
  apply bH.step
  case cu=>intro c A w' hok hC hO hD;have e0:=hO 0 aix;simp[Act.eval]at e0;simp[Act.eval]at hD;simp[go_sem,gd,Oper.wp,hD,e0];exact AbF
  try simp only[dI]
 apply bH.step
 case cu=>intro c A w' hok hC hO hD;simp[Act.eval]at hD;simp[go_sem,gd,Oper.wp,hD,K4,C3.low hd1 hd2 hok hC];exact AbF
 apply bH.step
 case cu=>intro c A w' hok hC hO hD;have e3:=hO 3 aix;simp[Act.eval]at e3;simp[Act.eval]at hD;simp[go_sem,gd,Oper.wp,hD,e3];exact AbF
 apply bH.step
 case cu=>intro c A w' hok hC hO hD;simp[Act.eval]at hD;simp[go_sem,gd,Oper.wp,hD,K2,C3.low hd1 hd2 hok hC];exact AbF
 try simp only[dI]
 apply bH.step
 case cu=>intro c A' w' hok hC hO hD;obtain⟨rfl,rfl⟩:=C3.w1 hok hC;simp[Act.eval]at hD;simp[go_sem,gd,Oper.wp,hD];exact aZ.mk trivial (C3.one aix aix aix) (dO.mk _ _)
 apply bH.step
 case cu=>intro c A' w' hok hC hO hD;obtain⟨rfl,rfl⟩:=C3.w2 hok hC;simp[Act.eval]at hD;simp only[gd,if_true];refine wp_append_run _ _ _ (.slice kL fs.length jg) (.slice (some ⟨W5.heap.size,0,none⟩) 1 1) _ aix afA afA as3.o ?_;exact aZ.mk trivial (C3.two aix aix aix) (dO.mk _ _)
 try simp only[dI]
 iterate 2
  apply bH.step
  case cu=>intro c A w' hok hC hO hD;simp[Act.eval]at hD;simp[go_sem,gd,Oper.wp,hD];exact AbF
  try simp only[dI]
 refine bH.some (λ_ _=>True) (λ_ _ _ _ _=>trivial) ?_ ?_
 ·intro c A' w' hok hC hO hD;obtain⟨rfl,rfl⟩:=C3.w3 hok hC;simp[Act.eval]at hD;simp[go_sem,gd,Oper.wp,hD,k4,f4];exact aZ.EA (v:=undef) trivial (C3.three aix aix aix) trivial
 try simp only[dI]
 refine bH.done ?_;intro wy hCy;simp only[List.drop_zero];intro v0 h0 v1 h1 v2 h2 v3 h3 v4 h4 v5 h5 v6 h6 v7 h7 v8 h8 v9 h9 v10 h10 v11 h11;clear h0 h1 h2 h3 h4 h5 h6 h7 h8 h9 h10 h11;refine eY.nil ?_;refine dH rfl ?_;have Ut:wy=w4.setCell _ _:=hCy;rw[<- Ut]at HAD;clear hCy Ut k4 f4 K4 K2 hd1 hd2;go_simp;go_wp2_with fail;go_ret;exact⟨dh HR'.o.symm,(Kw.of_below HY.o.1).trans (mX.refl _ _) HAD.o.2.1,_,_,_,_,(mX.refl _ _).trans HAD.o.2.2 HY.o.1.size,HAD.o.1,λ_=>⟨rfl,rfl⟩⟩
theorem aQ2 (L:uo) (p:Pr) (w:World) (aQ aR:Option Addr) (aJ aH:Nat) (i:Int) (A:List Fr) (fs gs:List ByteArray) (v vs ve:Value) (hI:kP w L p aQ aR aJ aH i A fs gs v vs ve) (h:dM) (b e:bf) (s:Sl) (hin:uW w L.B0 h b e s) (hi:cO i) (hA:A.length<=maxLen) (hfs:fs.length<=1000000000000) (hgs:gs.length<=1000000000000) (hop:h.op=14):
 Calls Tryz.prog 82 #[.pointer (some ⟨L.bc,0,none⟩),iG h b e s] w (E9 w L p aQ aR aJ aH i A fs gs v vs ve fs (gs++[h.nm]) (kQ (if(kQ (gV (conv (mean p i h.nm)) 6 6) (nest (eU (dJ A) 7 7 ⟨#[]⟩||eU (dJ A) 3 3 ⟨#[]⟩))==0)&&nY gs h.nm.toList then 8 else kQ (gV (conv (mean p i h.nm)) 6 6) (nest (eU (dJ A) 7 7 ⟨#[]⟩||eU (dJ A) 3 3 ⟨#[]⟩))) (nO p i h.dY h.xn h.dX h.bM))):=by
 obtain⟨eZ,dU,rfl,hat⟩:=hI.form;obtain⟨kL,jg,rfl,htS⟩:=hI.Z7;obtain⟨iL,jf,rfl,htE⟩:=hI.Z6;have hp:=hI.dat.use hI.b0;have hh:=hI.holds;have har:(dJ A).len<=maxLen:=ahd
 have WO:=ah hin;replace hin:=hin.use hI.b0;have HI:=ah hI;have lH:=ah htS;have IZ:=ah htE;generalize hres:(kQ (if(kQ (gV (conv (mean p i h.nm)) 6 6) (nest (eU (dJ A) 7 7 ⟨#[]⟩||eU (dJ A) 3 3 ⟨#[]⟩))==0)&&nY gs h.nm.toList then 8 else kQ (gV (conv (mean p i h.nm)) 6 6) (nest (eU (dJ A) 7 7 ⟨#[]⟩||eU (dJ A) 3 3 ⟨#[]⟩))) (nO p i h.dY h.xn h.dX h.bM))=res;have HR:aj (res=(kQ (if(kQ (gV (conv (mean p i h.nm)) 6 6) (nest (eU (dJ A) 7 7 ⟨#[]⟩||eU (dJ A) 3 3 ⟨#[]⟩))==0)&&nY gs h.nm.toList then 8 else kQ (gV (conv (mean p i h.nm)) 6 6) (nest (eU (dJ A) 7 7 ⟨#[]⟩||eU (dJ A) 3 3 ⟨#[]⟩))) (nO p i h.dY h.xn h.dX h.bM))):=ah (by rw[<- hres]);have iC:=ah hop;have zi:=ah hin.1.2.2.1;have WL:=ah hfs;have WM:=ah hgs;clear hres hop hI htS htE hA hfs hgs;have HH:=ah (show Sit w w _ from⟨ak _ _,hh⟩);have kX:=ah hin;have pz:=ah hat;have lG:=ah har;have HP:=ah hp;unfold iG;clear hh hin hat har hp;go_enter Tryz.func82,Tryz.ntmps82;go_upto_region 1 with fail;generalize hW:World.alloc w _=W;generalize Value.agg #[_,_,_,_,_,_,_,_,_,_,_]=a0;have HX:aj (Sit w W (xL w.heap.size h b e s (KT L.bc p aQ aR aJ aH i eZ (dJ A).len dU kL fs.length jg iL gs.length jf))):=ah aa2;clear hW HH;obtain⟨-,-,-,-,-,-,-,-,-,-,-,K0,K1,K2,-⟩:=HX.o.Aa;have HD1:Below W.heap.size W (W.drewN 1):=below_drewN (ak _ _) 1;refine cK ahe rfl ?_;generalize W.drewN 1=W1 at *;refine bW 0 11 [8,9] [[],[0],[0,1],[0,1,2],[],[4],[4,5],[4,5,6],[],[0,1,2,3,8],[0,1,2,3,4,5,6,7,8,9]] [[none,some false],[none,some false],[none,some false],[none,some false],[none,none],[none,none],[none,none],[none,none],[some false,some false],[some true,some false],[some true,some true]] (AC W1 (.cells #[.slice none 0 0,.slice none 0 0] 52) (.cells #[.slice aQ p.ds.length aJ,.slice aR p.ts.length aH] 52)) (λ_ _=>True) [15,16,17,18,19,20,21,22,5,6] rfl rfl aix ahe ahe ahe ahe ahe aix (λ_=>trivial) aix rfl ?_;simp only[gJ,kE]
 iterate 8
  apply bH.step
  case cu=>exact Abc
  try simp only[dI]
 apply bH.step
 case cu=>exact Abo
 refine bH.some (λ_ _=>True) (λ_ _ _ _ _=>trivial) ?_ ?_
 ·exact Abb
 try simp only[dI]
 apply bH.step
 case cu=>exact Abp
 try simp only[dI]
 refine bH.done ?_;intro wz dx;simp only[List.drop_zero];intro v0 h0 v1 h1 v2 h2 v3 h3 v4 h4 v5 h5 v6 h6 v7 h7 v8 h8 v9 h9 v10 h10;have h8':v8=_:=h8;have Uq:v10=_:=h10;subst h8' Uq;clear h0 h1 h2 h3 h4 h5 h6 h7 h8 h9 h10;refine eY.nil ?_;refine dH rfl ?_;have Kj:wz=W1.alloc _:=dx;generalize hn1:W1.heap.size=n1 at *;have HY:=ah ((HX.o.next HD1).yP hn1 (.slice aQ p.ds.length aJ) (.slice aR p.ts.length aH) 52);rw[<- Kj]at HY;have HN1:aj (w.heap.size<=n1):=ah (by rw[<- hn1];exact(HX.o.next HD1).1.size);clear dx Kj HX K0 K1 K2 HD1 hn1;go_simp;obtain⟨c0,c1,c2,c3,c4,c5,c6,c7,c8,c9,c10,c11,c12,c13,c14,c15,c16,c17,c18,-⟩:=HY.o.cs;go_wp2_with fail;refine(iR p _ aQ aR aJ aH i eZ dU L.bc kL fs.length jg iL gs.length jf (dJ A) 7 7 ⟨#[]⟩ lG.o (pz.o.same HY.o.1) (nu HY.o)).mono ?_;rintro e' W ⟨rfl,hb⟩;replace HY:=ah (HY.o.next hb);clear hb c0 c1 c2 c3 c4 c5 c6 c7 c8 c9 c10 c11 c12 c13 c14 c15 c16 c17 c18;obtain⟨c0,c1,c2,c3,c4,c5,c6,c7,c8,c9,c10,c11,c12,c13,c14,c15,c16,c17,c18,-⟩:=HY.o.cs;go_wp2_with fail;refine(iR p _ aQ aR aJ aH i eZ dU L.bc kL fs.length jg iL gs.length jf (dJ A) 8 8 ⟨#[]⟩ lG.o (pz.o.same HY.o.1) (nu HY.o)).mono ?_;rintro e' W ⟨rfl,hb⟩;replace HY:=ah (HY.o.next hb);clear hb c0 c1 c2 c3 c4 c5 c6 c7 c8 c9 c10 c11 c12 c13 c14 c15 c16 c17 c18;obtain⟨c0,c1,c2,c3,c4,c5,c6,c7,c8,c9,c10,c11,c12,c13,c14,c15,c16,c17,c18,-⟩:=HY.o.cs;go_wp2_with fail;refine(iR p _ aQ aR aJ aH i eZ dU L.bc kL fs.length jg iL gs.length jf (dJ A) 3 3 ⟨#[]⟩ lG.o (pz.o.same HY.o.1) (nu HY.o)).mono ?_;rintro e' W ⟨rfl,hb⟩;replace HY:=ah (HY.o.next hb);clear hb c0 c1 c2 c3 c4 c5 c6 c7 c8 c9 c10 c11 c12 c13 c14 c15 c16 c17 c18;obtain⟨c0,c1,c2,c3,c4,c5,c6,c7,c8,c9,c10,c11,c12,c13,c14,c15,c16,c17,c18,-⟩:=HY.o.cs;generalize htx:eU (dJ A) 7 7 ⟨#[]⟩=tx at *;generalize hat':eU (dJ A) 8 8 ⟨#[]⟩=QO at *;generalize hlo:eU (dJ A) 3 3 ⟨#[]⟩=lop at *;clear htx hat' hlo;have hop:=iC.o;obtain⟨g1,g2,g3,g4,g5,g6,g7,g8,g9,g10,g11,g12,g13,g14,g15⟩:=bj4 hop;clear hop;go_upto_region 44 with fail;go_cut [14] (λs' W3=>s'= .int .i64 (kQ (gV (conv (mean p i h.nm)) 6 6) (nest (tx||lop)))∧Sit w W3 ((n1,0,.slice aQ p.ds.length aJ)::(n1,1,.slice aR p.ts.length aH)::xL w.heap.size h b e s (KT L.bc p aQ aR aJ aH i eZ (dJ A).len dU kL fs.length jg iL gs.length jf)))
 case first=>
  as_aux_lemma=>
   cases tx
   ·cases lop
    ·exact Aau
    ·exact Aau
   ·exact Aau
 obtain⟨rfl,hsit⟩:=hcut;replace HY:=ah hsit;clear hsit c0 c1 c2 c3 c4 c5 c6 c7 c8 c9 c10 c11 c12 c13 c14 c15 c16 c17 c18;obtain⟨W,rfl⟩: ∃W:World,W=wc:=⟨_,rfl⟩;generalize kQ (gV (conv (mean p i h.nm)) 6 6) (nest (tx||lop))=e1 at *;obtain⟨c0,c1,c2,c3,c4,c5,c6,c7,c8,c9,c10,c11,c12,c13,c14,c15,c16,c17,c18,-⟩:=HY.o.cs;have NS:=ah (JU gs h.nm);go_upto_region 45 with fail;go_cut [253] (λs' W3=>s'= .bool ((e1==0)&&nY gs h.nm.toList)∧Sit w W3 ((n1,0,.slice aQ p.ds.length aJ)::(n1,1,.slice aR p.ts.length aH)::xL w.heap.size h b e s (KT L.bc p aQ aR aJ aH i eZ (dJ A).len dU kL fs.length jg iL gs.length jf)))
 case first=>
  as_aux_lemma=>
   obtain⟨T,F,yU,hst,hF,hnext⟩:=calm W;have HF:=ah hF;have dN:=ah hnext;clear hnext hF;obtain⟨d0,d1,d2,d3,d4,d5,d6,d7,d8,d9,tN,uY,Cy,F4,yC,F5,Cz,F6,CB,-⟩:=HY.o.Ca HF.o;clear c0 c1 c2 c3 c4 c5 c6 c7 c8 c9 c10 c11 c12 c13 c14 c15 c16 c17 c18;cases he1:(e1==0)
   ·clear NS;refine gX F ahe ahe hst ?_
    repeat (any_goals (first|go_big_quiet_step ((fail))|(refine wpQuiet_step (λK hK=> ?_);go_simp;first|(refine hK _ ?_;clear hK K)|(split <;> first|(refine hK _ ?_;clear hK K)|(apply Exists.intro;refine⟨λ_=> ?_,hK _ ?_⟩;((fail));clear hK K)))))
    all_goals (refine wpQuiet_nil ?_;rintro _ ⟨x,rfl⟩)
    replace HY:=ah (HY.o.next (HF.o x));clear d0 d1 d2 d3 d4 d5 d6 d7 d8 d9 tN uY Cy F4 yC F5 Cz F6 CB HF dN hst;generalize F x=W2 at *;go_wp2_with fail;go_meet;exact⟨by first|(rw[he1];rfl)|simp[he1],HY.o⟩
   ·obtain rfl:e1=0:=(by simpa using he1);rcases NS.o with⟨Kn,vZ⟩|⟨jj,Kn,vZ⟩
    ·have Jl:=ah Kn;have HUT:=ah vZ;exact Aai
    ·have Jl:=ah Kn;have HUT:=ah vZ;have hj0:(0:Int)<=(jj:Int):=ahf;exact Aai
 obtain⟨rfl,hsit⟩:=hcut;replace HY:=ah hsit;clear hsit c0 c1 c2 c3 c4 c5 c6 c7 c8 c9 c10 c11 c12 c13 c14 c15 c16 c17 c18 NS;obtain⟨W2,rfl⟩: ∃W:World,W=wc:=⟨_,rfl⟩;generalize ((e1==0)&&nY gs h.nm.toList)=tb at *
 go_upto_if 253 with fail
 go_cut [14] (λs' W3=>s'= .int .i64 (if tb then 8 else e1)∧W2=W3)
 case first=>
  cases tb
  all_goals go_wp2_with fail
  all_goals go_meet
  all_goals exact⟨rfl,rfl⟩
 obtain⟨rfl,rfl⟩:=hcut;generalize (if tb=true then 8 else e1)=e2 at *;have hI2:=HI.o.below HY.o.1;have HI2:=ah hI2;have K4: ∀w',Below W2.heap.size W2 w'->w'.cell? ⟨L.bc,5,none⟩=some (.slice iL gs.length jf):=λw' hb=>(eT (HI2.o.below hb).blk (j:=5) rfl).2;obtain⟨-,-,-,-,K2,-⟩:=HY.o.Aa;have hd1:Below W2.heap.size W2 (W2.drewN 1):=below_drewN (ak _ _) 1;have hgs:=WM.o;clear hI2;go_upto_region 47 with fail;refine cK ahe rfl ?_;generalize W2.drewN 1=W5 at *;have hd2:Below W2.heap.size W2 (W5.alloc (.cells #[.string h.nm] 9)):=hd1.trans ((aA _ _).mono hd1.size);obtain⟨i0,hi0,hz0,hz1,hz2⟩:=Vz;obtain⟨gg,cap,w4,hrun,uy,qH,vV,Er⟩:=run_append_lies (P:=Tryz.prog) (W5.alloc (.cells #[.string h.nm] 9)) 26 26 L.B1 9 i0 _ 1 16 Tryz.underlying26 hi0 hz0 hz1 hz2 rfl ahf (.slice iL gs.length jf) gs.length (kI gs) (HI2.o.below hd2).re ⟨W5.heap.size,0,none⟩ 1 1 [.string h.nm] rfl (World.news_of_block (cs:= #[.string h.nm]) (heap_alloc_new W5 _)) afZ ahf afc ahf (HI2.o.below hd2).sz _ rfl;have as3:=ah hrun;have HAD:=ah (HI2.o.bH3 zi.o hd2 uy qH vV);have dL:aj (w4.heap[L.bc]? =some (.cells (wkV p aQ aR aJ aH i (.slice eZ A.length dU) (.slice kL fs.length jg) (.slice iL gs.length jf)) 115 (0,0))):=ah ((qH.block _ (Array.getElem?_eq_some_iff.1 (HI2.o.below hd2).blk).1 (λe'=>HI2.o.PL (u:= .slice iL gs.length jf) ahh e'.symm)).trans (HI2.o.below hd2).blk);have k4:w4.cell? ⟨L.bc,5,none⟩=some (.slice iL gs.length jf):=(eT dL.o (j:=5) rfl).2;have f4:w4.frozen? ⟨L.bc,5,none⟩=false:=bG dL.o;clear hrun uy qH vV Er hi0 hz0 hz1 hz2 dL;refine bW 0 12 [7,8,11] [[],[],[1],[1,2],[1,2,3],[],[5],[5,6],[1,2,3,4,5,6,7],[0,1,2,3,4,5,6,7,8],[0,1,2,3,4,5,6,7,8,9],[0,1,2,3,4,5,6,7,8,9,10]] [[none,none,some false],[none,some false,some false],[none,some false,some false],[none,some false,some false],[none,some false,some false],[some false,some false,some false],[some false,some false,some false],[some false,some false,some false],[some true,some false,some false],[some true,some true,some false],[some true,some true,some false],[some true,some true,some false]] (C3 W5 (W5.alloc (.cells #[.string h.nm] 9)) w4 (w4.setCell ⟨L.bc,5,none⟩ (.slice (some ⟨gg,0,none⟩) (gs.length+1) cap))) (λ_ _=>True) [254,255,256,257,258,259,260,261,262,263,264] rfl rfl aix ahe ahe ahe ahe ahe aix (λ_=>trivial) aix rfl ?_;simp only[gJ,kE]
 iterate 4
  apply bH.step
  case cu=>intro c A w' hok hC hO hD;have e0:=hO 0 aix;simp[Act.eval]at e0;simp[Act.eval]at hD;simp[go_sem,gd,Oper.wp,hD,e0];exact AbF
  try simp only[dI]
 apply bH.step
 case cu=>intro c A w' hok hC hO hD;simp[Act.eval]at hD;simp[go_sem,gd,Oper.wp,hD,K4,C3.low hd1 hd2 hok hC];exact AbF
 apply bH.step
 case cu=>intro c A w' hok hC hO hD;have e3:=hO 3 aix;simp[Act.eval]at e3;simp[Act.eval]at hD;simp[go_sem,gd,Oper.wp,hD,e3];exact AbF
 apply bH.step
 case cu=>intro c A w' hok hC hO hD;simp[Act.eval]at hD;simp[go_sem,gd,Oper.wp,hD,K2,C3.low hd1 hd2 hok hC];exact AbF
 try simp only[dI]
 apply bH.step
 case cu=>intro c A' w' hok hC hO hD;obtain⟨rfl,rfl⟩:=C3.w1 hok hC;simp[Act.eval]at hD;simp[go_sem,gd,Oper.wp,hD];exact aZ.mk trivial (C3.one aix aix aix) (dO.mk _ _)
 apply bH.step
 case cu=>intro c A' w' hok hC hO hD;obtain⟨rfl,rfl⟩:=C3.w2 hok hC;simp[Act.eval]at hD;simp only[gd,if_true];refine wp_append_run _ _ _ (.slice iL gs.length jf) (.slice (some ⟨W5.heap.size,0,none⟩) 1 1) _ aix afA afA as3.o ?_;exact aZ.mk trivial (C3.two aix aix aix) (dO.mk _ _)
 try simp only[dI]
 iterate 2
  apply bH.step
  case cu=>intro c A w' hok hC hO hD;simp[Act.eval]at hD;simp[go_sem,gd,Oper.wp,hD];exact AbF
  try simp only[dI]
 refine bH.some (λ_ _=>True) (λ_ _ _ _ _=>trivial) ?_ ?_
 ·intro c A' w' hok hC hO hD;obtain⟨rfl,rfl⟩:=C3.w3 hok hC;simp[Act.eval]at hD;simp[go_sem,gd,Oper.wp,hD,k4,f4];exact aZ.EA (v:=undef) trivial (C3.three aix aix aix) trivial
 try simp only[dI]
 refine bH.done ?_;intro wy hCy;simp only[List.drop_zero];intro v0 h0 v1 h1 v2 h2 v3 h3 v4 h4 v5 h5 v6 h6 v7 h7 v8 h8 v9 h9 v10 h10 v11 h11;clear h0 h1 h2 h3 h4 h5 h6 h7 h8 h9 h10 h11;refine eY.nil ?_;refine dH rfl ?_;have Ut:wy=w4.setCell _ _:=hCy;rw[<- Ut]at HAD;clear hCy Ut k4 f4 K4 K2 hd1 hd2;go_simp;have SQ:aj (∀k,k<W2.heap.size->w.heap.size<=k->wy.heap[k]? =W2.heap[k]?):=ah (λk hk hw=>HAD.o.2.1.far hk (aO HI.o.sz hw) (λe=>by have:=(HI.o.own k e).2;omega));have hY:=HY.o;have z0:wy.cell? ⟨n1,0,none⟩=some (.slice aQ p.ds.length aJ):=(World.cell?_of_block (a:=⟨n1,0,none⟩) (SQ.o n1 hY.2.1.1 HN1.o)).trans hY.2.1.2;have z1:wy.cell? ⟨n1,1,none⟩=some (.slice aR p.ts.length aH):=(World.cell?_of_block (a:=⟨n1,1,none⟩) (SQ.o n1 hY.2.1.1 HN1.o)).trans hY.2.2.1.2;have hn0:w.heap.size<W2.heap.size:=hY.2.2.2.1.1;have z5:wy.cell? ⟨w.heap.size,5,none⟩=some (.int .i64 h.dY):=(World.cell?_of_block (a:=⟨w.heap.size,5,none⟩) (SQ.o _ hn0 (aD _))).trans hY.2.2.2.2.2.2.2.2.1.2;have z6:wy.cell? ⟨w.heap.size,6,none⟩=some (.int .i64 h.xn):=(World.cell?_of_block (a:=⟨w.heap.size,6,none⟩) (SQ.o _ hn0 (aD _))).trans hY.2.2.2.2.2.2.2.2.2.1.2;have z7:wy.cell? ⟨w.heap.size,7,none⟩=some (.string h.dX):=(World.cell?_of_block (a:=⟨w.heap.size,7,none⟩) (SQ.o _ hn0 (aD _))).trans hY.2.2.2.2.2.2.2.2.2.2.1.2;have z8:wy.cell? ⟨w.heap.size,8,none⟩=some (.slice s.gY h.bM.len s.fD):=(World.cell?_of_block (a:=⟨w.heap.size,8,none⟩) (SQ.o _ hn0 (aD _))).trans hY.2.2.2.2.2.2.2.2.2.2.2.1.2;have HKD:aj (h.bM.At wy L.B0 s.gY 0):=ah (WO.o.2.2.1.below ((HY.o.1.mono HI.o.b0).trans (HAD.o.2.1.below HI2.o.b0 (λk e=>(HI2.o.own k e).1))));clear hY hn0 SQ;go_wp2_with fail;refine(jO p i h.dY h.xn h.dX h.bM _ aQ aR s.gY aJ aH s.fD hi (HAD.o.1.dat.use HAD.o.1.b0) kX.o.1.2.2.2.2.2.1 (HKD.o.mono HAD.o.1.b0)).mono ?_;rintro e' W6 ⟨rfl,hb6⟩;have dF:=ah hb6;clear hb6 z0 z1 z5 z6 z7 z8;go_wp2_with fail;refine(jS _ _ _).mono ?_;rintro e' W' ⟨rfl,rfl⟩;go_wp2_with fail;go_ret;exact⟨dh HR.o.symm,((Kw.of_below HY.o.1).trans (mX.refl _ _) HAD.o.2.1).trans ((mX.refl _ _).trans HAD.o.2.2 HY.o.1.size) (Kw.of_below dF.o),_,_,_,_,(mX.refl _ _).trans HAD.o.2.2 HY.o.1.size,HAD.o.1.below dF.o,λ_=>⟨rfl,rfl⟩⟩
end Go.Proofs.YtcjgfgkllmldpaaGreatDoor
