/- Contracts of the reference's or, nesting, and of its walk's inside. And what hangs on it. -/
import Derived.Test.YtfbbaiejbjdfbaaGreatDoorGMF
import Derived.Test.YtfbbaiejbjdfbaaGreatDoorGRF
import Derived.Test.YtfbbaiejbjdfbaaGreatDoorGMJ
import Derived.StillTailTactics
import Derived.IntWalk
set_option linter.unusedSimpArgs false
set_option linter.unusedVariables false
set_option maxHeartbeats 40000000
set_option maxRecDepth 1000000
namespace Go.Proofs.YtfbbaiejbjdfbaaGreatDoor
open Go.RowKit
namespace Md
def kN (a b:Int):Int:=if a != 0 then a else b
def eF:aH->Int->Int->ByteArray->Bool
 | .nil,_,_,_=>false
 | .cons h _ _ r,a,b,nm=>((h.op == a || h.op == b) && (nm.toList.isEmpty || h.nm.toList == nm.toList)) || eF r a b nm
end Md
open Md
def I7 (bc:Nat) (p:Pr) (aB aD:Option Addr) (aA ay:Nat) (i:Int) (bR:Option Addr) (yx bf:Nat) (kI:Option Addr) (qy iP:Nat) (gY:Option Addr) (qx iO:Nat):List (Nat × Nat × Value):=
 [(bc,0,.slice aB p.ds.length aA),(bc,1,.slice aD p.ts.length ay),(bc,2,.int .i64 i),(bc,3,.slice bR yx bf),(bc,4,.slice kI qy iP),(bc,5,.slice gY qx iO)]
theorem iH (b:Bool) (w:World):
 Calls Tryz.prog 99 #[.bool b] w fun e w'=>e= .returned (.int .i64 (nest b))∧w=w':=by
 cases b
 all_goals go_enter Tryz.func99,Tryz.ntmps99;go_wp2;go_ret;exact ⟨rfl,rfl⟩
theorem jJ (a b:Int) (w:World):
 Calls Tryz.prog 96 #[.int .i64 a,.int .i64 b] w fun e w'=>e= .returned (.int .i64 (kN a b))∧w=w':=by
 generalize hres:kN a b=res;have HR:=ah hres;clear hres;cases ha:(a != 0)
 all_goals go_enter Tryz.func96,Tryz.ntmps96;go_wp2;go_ret;exact ⟨bF (by rw [<- HR.o]; unfold kN; rw [ha]; rfl),rfl⟩
section
variable (p:Pr) (w:World) (aB aD:Option Addr) (aA ay:Nat) (i:Int) (bR:Option Addr) (bf bc:Nat) (kI:Option Addr) (qy iP:Nat) (gY:Option Addr) (qx iO:Nat)
theorem iF (ar:aH) (a b':Int) (nm:ByteArray) (har:ar.len<=maxLen) (hat:ar.At w w.heap.size bR 0) (hh:Holds w (I7 bc p aB aD aA ay i bR ar.len bf kI qy iP gY qx iO)):
 Calls Tryz.prog 95 #[.pointer (some ⟨bc,0,none⟩),.int .i64 a,.int .i64 b',.string nm] w fun e w'=>e= .returned (.bool (eF ar a b' nm))∧Below w.heap.size w w':=by
 have HH:=ah (show Sit w w _ from ⟨Below.refl _ _,hh⟩);have HAT:=ah hat;generalize hres:eF ar a b' nm=res;have HR:=ah hres;unfold maxLen at har;clear hh hat hres;go_enter Tryz.func95,Tryz.ntmps95;go_wp2_with fail;go_loopg [9,10] ar.len (fun g s _ wr=> ∃(k:Nat) (R:aH),g=R.len∧s= .int .i64 k∧k + R.len=ar.len∧res=eF R a b' nm∧R.At wr wr.heap.size bR k∧Sit w wr (I7 bc p aB aD aA ay i bR ar.len bf kI qy iP gY qx iO))
 case atStart=>exact ⟨0,ar,rfl,rfl,by simp,HR.o.symm,HAT.o,HH.o⟩
 case round=>
  obtain ⟨k,R,rfl,rfl,hlen,heq,hrow,hB⟩:=hrel;have HE:=ah heq;have HB:=ah hB;clear heq hB HH;obtain ⟨-,⟨-,c0⟩,⟨-,c1⟩,⟨-,c2⟩,⟨-,c3⟩,⟨-,c4⟩,⟨-,c5⟩,-⟩:=HB.o;cases R with
  | nil=>
    obtain rfl:k=ar.len:=by simpa [aH.len] using hlen
    go_wp2_with fail;go_ret;exact ⟨bK HE.o.symm,HB.o.1⟩
  | cons h b e R=>
    obtain ⟨bl,off,s,rfl,hbl,hin,x0,x1,x2,x3,x4,x5,x6,x7,x8,x9,x10,hrest⟩:=aH.At.head hrow;have hkl:k < ar.len:=by simp only [aH.len] at hlen; omega
    clear hrow hin;go_upto_region 5 with fail;obtain ⟨nb,hnb⟩: ∃n,wr.heap.size=n:=⟨_,rfl⟩;generalize hW2:World.alloc wr _=W2;have HY:aj (Sit wr W2 (sQ nb h b e s [])):=ah (by rw [<- hW2]; exact (Sit.start wr).wK hnb _ _ _ _ _ _ _ _ _ _ _ _);have HB2:=ah (HB.o.next HY.o.1);have ko:=ah (hrest.same HY.o.1);rw [hnb];clear hW2 hnb x0 x1 x2 x3 x4 x5 x6 x7 x8 x9 x10 hrest c0 c1 c2 c3 c4 c5;obtain ⟨-,⟨-,c0⟩,⟨-,c1⟩,⟨-,c2⟩,⟨-,c3⟩,⟨-,c4⟩,⟨-,c5⟩,⟨-,c6⟩,⟨-,c7⟩,⟨-,c8⟩,⟨-,c9⟩,⟨-,c10⟩,-⟩:=HY.o;clear c1 c3 c4 c5 c6 c7 c8 c9 c10;go_cut [46] (fun s' W3=>W2=W3∧s'= .bool ((h.op == a || h.op == b') && (nm.toList.isEmpty || h.nm.toList == nm.toList)))
    case first=>
     as_aux_lemma=>
      cases ha:(h.op == a)
      all_goals cases hb:(h.op == b')
      all_goals cases hn:nm.toList.isEmpty
      all_goals cases hm:(h.nm.toList == nm.toList)
      all_goals go_wp2_with fail
      all_goals go_meet
      all_goals exact ⟨rfl,by first | rfl | (rw [ha,hb,hn,hm]; rfl) | (simp [ha,hb,hn,hm])⟩
    obtain ⟨rfl,rfl⟩:=hcut;have HE2:aj (res=(((h.op == a || h.op == b') && (nm.toList.isEmpty || h.nm.toList == nm.toList)) || eF R a b' nm)):=ah (HE.o.trans (by rw [eF]));generalize ((h.op == a || h.op == b') && (nm.toList.isEmpty || h.nm.toList == nm.toList))=t at *;cases t
    ·go_wp2_with fail;go_roundg R.len
     case measure=>simp [aH.len]
     case rel=>exact ⟨k + 1,R,rfl,by go_num,by simp only [aH.len] at hlen; omega,HE2.o,ko.o,HB2.o⟩
    ·go_wp2_with fail;go_ret;exact ⟨bK HE2.o.symm,HB2.o.1⟩
end
def AC (W1:World) (z v:Obj):List Bool->World->Prop
 | [false,false],w'=>w'=W1
 | [true,false],w'=>w'=W1.alloc z
 | [true,true],w'=>w'=W1.alloc v
 | _,_=>False
theorem AC.bits {W1:World} {z v:Obj} : ∀ {c:List Bool} {w':World},AC W1 z v c w'-> ∃x y,c=[x,y]
 | [x,y],_,_=>⟨x,y,rfl⟩
 | [],_,h=>h.elim
 | [true],_,h=>h.elim
 | [false],_,h=>h.elim
 | _ ::_ ::_ ::_,_,h=>by simp [AC] at h
theorem AC.skip {W1:World} {z v:Obj} {a1 a2 i:Nat} {c:List Bool} {w':World} (h1:(a1 == i)=false) (h2:(a2 == i)=false) (h:AC W1 z v c w'):AC W1 z v (jX [a1,a2] c i) w':=by
 obtain ⟨x,y,rfl⟩:=h.bits;simpa [jX,h1,h2] using h
theorem AC.lay {W1:World} {z v:Obj} {a1 a2 i:Nat} (h1:(a1 == i)=true) (h2:(a2 == i)=false):AC W1 z v (jX [a1,a2] [false,false] i) (W1.alloc z):=by
 simp only [jX,h1,h2,Bool.or_false,Bool.or_true]; rfl
theorem AC.fill {W1:World} {z v:Obj} {a1 a2 i:Nat} (h1:(a1 == i)=false) (h2:(a2 == i)=true):AC W1 z v (jX [a1,a2] [true,false] i) (W1.alloc v):=by
 simp only [jX,h1,h2,Bool.or_false,Bool.or_true]; rfl
theorem AC.below {W W1:World} {z v:Obj} {c:List Bool} {w':World} (hb:Below W.heap.size W W1) (h:AC W1 z v c w'):Below W.heap.size W w':=by
 obtain ⟨x,y,rfl⟩:=h.bits;cases x <;> cases y
 ·have h:w'=W1:=h;rw [h]; exact hb
 ·exact h.elim
 ·have h:w'=W1.alloc z:=h;rw [h]; exact hb.trans ((ak _ _).mono hb.size)
 ·have h:w'=W1.alloc v:=h;rw [h]; exact hb.trans ((ak _ _).mono hb.size)
namespace Md
theorem X7:(⟨#[]⟩:ByteArray).toList=[]:=by simp [Lib.toList_data]
theorem pF (k:Int): ∀ar:aH,eF ar k k ⟨#[]⟩=eY ar [k]
 | .nil=>rfl
 | .cons h b e r=>by simp [eF,eY,pF k r,X7]
theorem K5 (k:Int) (nm:ByteArray) (hn:nm.toList.isEmpty=false): ∀ar:aH,eF ar k k nm=sK ar nm [k]
 | .nil=>rfl
 | .cons h b e r=>by simp [eF,sK,K5 k nm hn r,hn]
theorem K6 (a b:Int) (nm:ByteArray) (hn:nm.toList.isEmpty=false): ∀ar:aH,eF ar a b nm=sK ar nm [a,b]
 | .nil=>rfl
 | .cons h _ _ r=>by simp only [eF,sK,K6 a b nm hn r,hn,List.any_cons,List.any_nil,Bool.or_false,Bool.false_or];cases h.op == a <;> cases h.op == b <;> cases h.nm.toList == nm.toList <;> rfl
theorem F6 (a b:Int): ∀ar:aH,eY ar [a,b]=(eY ar [a] || eY ar [b])
 | .nil=>rfl
 | .cons h _ _ r=>by simp only [eY,F6 a b r,List.any_cons,List.any_nil,Bool.or_false];cases h.op == a <;> cases h.op == b <;> cases eY r [a] <;> cases eY r [b] <;> rfl
theorem LD (a b c:Int): ∀ar:aH,eY ar [a,b,c]=((eY ar [a] || eY ar [b]) || eY ar [c])
 | .nil=>rfl
 | .cons h _ _ r=>by simp only [eY,LD a b c r,List.any_cons,List.any_nil,Bool.or_false];cases h.op == a <;> cases h.op == b <;> cases h.op == c <;> cases eY r [a] <;> cases eY r [b] <;> cases eY r [c] <;> rfl
theorem vR (a b:Int):dN [a,b]=kN a b:=by
 unfold dN kN; cases ha:a != 0
 ·simp [dN]; intro h; exact h.symm
 ·simp
theorem DU (a b c:Int):dN [a,b,c]=kN a (kN b c):=by
 rw [<- vR b c]; rfl
theorem oD (p:Pr) (i:Int) (nm:ByteArray) (k a:Int) (hk:0<=k∧k<=9) (ha:conv k=a):cB (mean p i nm) [k]=gF (conv (mean p i nm)) a a:=by
 subst ha; exact (RL _ k (BU p i nm) hk).symm
theorem Vo (p:Pr) (i:Int) (nm:ByteArray):cB (mean p i nm) [1,2]=gF (conv (mean p i nm)) 8 1:=
 (RN _ 1 2 (BU p i nm) (by decide) (by decide)).symm
theorem KZ {p:Pr} {i:Int} {nm:ByteArray} (h:gF (conv (mean p i nm)) 5 5=0): ∃(k:Nat) (d:De) (r:List De),k < p.ds.length∧fidx (fun d:De=>d.nm.toList == nm.toList) p.ds 0=(k:Int)∧p.ds.drop k=d ::r∧d ∈ p.ds∧d.kind=5∧qm p.ds nm=d.on:=by
 have h6:mean p i nm=6:=by rw [<- oD p i nm 6 5 (by decide) rfl] at h;exact uw h
 rcases qG (fun d:De=>d.nm.toList == nm.toList) p.ds 0 with ⟨-,hn,-⟩ | ⟨k,d,r,hk,hf,hd,hs,-⟩
 ·exfalso;unfold mean oZ qX at h6;rw [hn] at h6;split at h6
  ·cases h6
  ·simp only [Option.map_none,Option.getD_none] at h6;split at h6 <;> cases h6
 ·have hdm:eH d=6:=by
   unfold mean oZ at h6;rw [hs] at h6;split at h6
   ·cases h6
   ·simpa using h6
  have h5:d.kind=5:=by unfold eH at hdm;grind
  refine ⟨k,d,r,hk,by simpa using hf,hd,List.mem_of_find?_eq_some hs,h5,?_⟩;unfold qm;have:p.ds.find? (fun d=>d.kind == 5 && d.nm.toList == nm.toList)=some d:=by
   clear hf hd hk h6 hdm h;revert hs
   induction p.ds with
   | nil=>intro hs; simp at hs
   | cons x r ih=>
     intro hs;rw [List.find?_cons] at hs ⊢;cases hx:x.nm.toList == nm.toList
     ·rw [hx] at hs;simp only [Bool.and_false];exact ih hs
     ·rw [hx] at hs;injection hs with hs;subst hs;simp [h5]
  rw [this]; rfl
end Md
theorem nG {p:Pr} {w W:World} {aB aD:Option Addr} {aA ay:Nat} {i:Int} {bR:Option Addr} {yx bf bc:Nat} {kI:Option Addr} {qy iP:Nat} {gY:Option Addr} {qx iO n0 n1:Nat} {h:dL} {b e:aH} {s:Sl} {u v:Value}
 (hs:Sit w W ((n1,0,u) ::(n1,1,v) ::sQ n0 h b e s (I7 bc p aB aD aA ay i bR yx bf kI qy iP gY qx iO))):Holds W (I7 bc p aB aD aA ay i bR yx bf kI qy iP gY qx iO):=hs.2.2.2.2.2.2.2.2.2.2.2.2.2.2
def wkV (p:Pr) (aB aD:Option Addr) (aA ay:Nat) (i:Int) (v vs ve:Value):Array Value:= #[.slice aB p.ds.length aA,.slice aD p.ts.length ay,.int .i64 i,v,vs,ve]
structure ug where
 B0:Nat
 B1:Nat
 bc:Nat
 c0:B0<=bc
 c1:bc < B1
def Td (w:World) (B0:Nat) (p:Pr) (aB aD:Option Addr):Prop:=p.ds.length<=maxLen∧p.ts.length<=maxLen∧jW w B0 p.ds aB 0∧iN w B0 p.ts aD 0
theorem Td.below {w w':World} {B0:Nat} {p:Pr} {aB aD:Option Addr} (h:Td w B0 p aB aD) (hb:Below B0 w w'):Td w' B0 p aB aD:=⟨h.1,h.2.1,h.2.2.1.below hb,h.2.2.2.below hb⟩
theorem Td.use {w:World} {B0:Nat} {p:Pr} {aB aD:Option Addr} (h:Td w B0 p aB aD) (hB:B0<=w.heap.size):p.At w aB aD:=⟨h.1,h.2.1,h.2.2.1.mono hB,h.2.2.2.mono hB⟩
def iU (l:List ByteArray):List Value:=l.map .string
def Own (V:List Value) (k:Nat):Prop:= ∃u ∈ V,u.ownBlock=some k
structure Kw (L:ug) (V:List Value) (w w':World):Prop where
 os:w'.os=w.os
 tape:w'.tape=w.tape
 output:w'.output=w.output
 size:w.heap.size<=w'.heap.size
 block: ∀k,k < w.heap.size->k≠L.bc-> ¬ Own V k->w'.heap[k]? =w.heap[k]?
def mV (w:World) (V V':List Value):Prop:= ∀k,Own V' k->Own V k∨w.heap.size<=k
theorem Kw.refl (L:ug) (V:List Value) (w:World):Kw L V w w:=⟨rfl,rfl,rfl,Nat.le_refl _,fun _ _ _ _=>rfl⟩
theorem Kw.of_below {L:ug} {V:List Value} {w w':World} (h:Below w.heap.size w w'):Kw L V w w':=⟨h.os,h.tape,h.output,h.size,fun k hk _ _=>h.block k hk⟩
theorem Kw.trans {L:ug} {V V1:List Value} {w w1 w2:World} (h:Kw L V w w1) (ho:mV w V V1) (k:Kw L V1 w1 w2):Kw L V w w2:=
 ⟨k.os.trans h.os,k.tape.trans h.tape,k.output.trans h.output,Nat.le_trans h.size k.size,fun j hj hc hv=>(k.block j (Nat.lt_of_lt_of_le hj h.size) hc (fun e=>by
   rcases ho j e with e | e
   ·exact hv e
   ·omega)).trans (h.block j hj hc hv)⟩
theorem Kw.below {L:ug} {V:List Value} {w w':World} (h:Kw L V w w') (hB:L.B0<=w.heap.size) (hv: ∀k,Own V k->L.B1<=k):Below L.B0 w w':=
 ⟨h.os,h.tape,h.output,h.size,fun k hk=>h.block k (by omega) (by have:=L.c0; omega) (fun e=>by have:=hv k e; have:=L.c0; have:=L.c1; omega)⟩
theorem Kw.far {L:ug} {V:List Value} {w w':World} {k:Nat} (h:Kw L V w w') (hk:k < w.heap.size) (hB:L.B1<=k) (hv: ¬ Own V k):w'.heap[k]? =w.heap[k]?:=
 h.block k hk (by have:=L.c1; omega) hv
theorem mV.refl (w:World) (V:List Value):mV w V V:=fun _ h=> .inl h
theorem mV.trans {w w1:World} {V V1 V2:List Value} (h:mV w V V1) (k:mV w1 V1 V2) (hs:w.heap.size<=w1.heap.size):mV w V V2:=fun j hj=>by
 rcases k j hj with e | e
 ·exact h j e
 ·exact .inr (Nat.le_trans hs e)
theorem mV.ne {w:World} {V V':List Value} {k:Nat} (h:mV w V V') (hk:k < w.heap.size) (hv: ¬ Own V k): ¬ Own V' k:=fun e=>by
 rcases h k e with e | e
 ·exact hv e
 ·omega
theorem lZ {w w':World} {base:Nat} {e:TypeId} {size n:Nat} {v:Value} {xs:List Value} (h:w.ownsRow base e size v n xs) (hb: ∀k,v.ownBlock=some k->w'.heap[k]? =w.heap[k]?):w'.ownsRow base e size v n xs:=by
 refine ⟨h.1,?_⟩;rcases h.2 with h1 | ⟨g,cap,cur,hv,h1,h2,h3⟩
 ·exact .inl h1
 ·exact .inr ⟨g,cap,cur,hv,h1,(hb g (by rw [hv]; rfl)).trans h2,h3⟩
theorem RB {w:World} {g:Nat} (hg:g < w.heap.size): ∀(l:List ByteArray) (k:Nat),(∀j u,(iU l)[j]? =some u->w.cell? ⟨g,k + j,none⟩=some u)->(∀s ∈ l,s.size<=maxLen)->fP w w.heap.size l (some ⟨g,0,none⟩) k
 | [],_,_,_=>trivial
 | s ::r,k,hc,hs=>by
   refine ⟨⟨g,0,rfl,hg,?_,hs s (by simp)⟩,RB hg r (k + 1) (fun j u hu=> ?_) (fun y hy=>hs y (by simp [hy]))⟩
   ·rw [Nat.zero_add]; exact hc 0 _ rfl
   ·rw [Nat.add_assoc,Nat.add_comm 1 j]; exact hc (j + 1) u (by simpa [iU] using hu)
theorem Ud {w:World} {base:Nat} {e:TypeId} {v:Value} {l:List ByteArray} (h:w.ownsRow base e 1 v l.length (iU l)) (hs: ∀s ∈ l,s.size<=maxLen): ∃ao cap,v= .slice ao l.length cap∧fP w w.heap.size l ao 0:=by
 rcases h.2 with ⟨rfl,hn⟩ | ⟨g',cap,cur,rfl,hb,hg,h1,h2,h3,h4⟩
 ·have:l=[]:=List.eq_nil_of_length_eq_zero hn;subst this;exact ⟨none,0,rfl,trivial⟩
 ·refine ⟨_,_,rfl,RB (Array.getElem?_eq_some_iff.1 hg).1 l 0 (fun j u hu=> ?_) hs⟩;rw [Nat.zero_add,cell_of_row w g' j cur _ (0,0) hg];rw [<- h4,List.getElem?_take] at hu;split at hu
  ·simpa using hu
  ·cases hu
structure kM (w:World) (L:ug) (p:Pr) (aB aD:Option Addr) (aA ay:Nat) (i:Int) (A:List Fr) (fs gs:List ByteArray) (v vs ve:Value):Prop where
 blk:w.heap[L.bc]? =some (.cells (wkV p aB aD aA ay i v vs ve) 104 (0,0))
 row:w.ownsRow L.B1 68 11 v A.length (BH A)
 rs:w.ownsRow L.B1 9 1 vs fs.length (iU fs)
 re:w.ownsRow L.B1 9 1 ve gs.length (iU gs)
 d1: ∀k,v.ownBlock=some k->vs.ownBlock≠some k
 d2: ∀k,v.ownBlock=some k->ve.ownBlock≠some k
 d3: ∀k,vs.ownBlock=some k->ve.ownBlock≠some k
 sz:L.B1<=w.heap.size
 dat:Td w L.B0 p aB aD
 qQ:Yx w L.B0 A
 fo: ∀s ∈ fs,s.size<=maxLen
 go: ∀s ∈ gs,s.size<=maxLen
section
variable {w:World} {L:ug} {p:Pr} {aB aD:Option Addr} {aA ay:Nat} {i:Int} {A:List Fr} {fs gs:List ByteArray} {v vs ve:Value}
theorem kM.b0 (h:kM w L p aB aD aA ay i A fs gs v vs ve):L.B0<=w.heap.size:=by have:=h.sz; have:=L.c0; have:=L.c1; omega
theorem wD {k:Nat} :Own [v,vs,ve] k↔v.ownBlock=some k∨vs.ownBlock=some k∨ve.ownBlock=some k:=by
 unfold Own; simp
theorem kM.own (h:kM w L p aB aD aA ay i A fs gs v vs ve): ∀k,Own [v,vs,ve] k->L.B1<=k∧k < w.heap.size:=fun k hk=>by
 rcases wD.1 hk with e | e | e
 ·exact h.row.lt k e
 ·exact h.rs.lt k e
 ·exact h.re.lt k e
theorem kM.form (h:kM w L p aB aD aA ay i A fs gs v vs ve): ∃bR bf,v= .slice bR A.length bf∧(cK A).At w w.heap.size bR 0:=by
 rcases h.row.2 with ⟨rfl,hn⟩ | ⟨g',cap,cur,rfl,hb,hg,h1,h2,h3,h4⟩
 ·have:A=[]:=List.eq_nil_of_length_eq_zero hn;subst this;exact ⟨none,0,rfl,trivial⟩
 ·refine ⟨_,_,rfl,Va h.b0 (Array.getElem?_eq_some_iff.1 hg).1 A 0 (fun j u hu=> ?_) h.qQ⟩;rw [Nat.zero_mul,Nat.zero_add,cell_of_row w g' j cur _ (0,0) hg];rw [<- h4,List.getElem?_take] at hu;split at hu
  ·simpa using hu
  ·cases hu
theorem kM.V9 (h:kM w L p aB aD aA ay i A fs gs v vs ve): ∃ao cap,vs= .slice ao fs.length cap∧fP w w.heap.size fs ao 0:=Ud h.rs h.fo
theorem kM.V8 (h:kM w L p aB aD aA ay i A fs gs v vs ve): ∃ao cap,ve= .slice ao gs.length cap∧fP w w.heap.size gs ao 0:=Ud h.re h.go
theorem kM.holds {bR kI gY:Option Addr} {bf qy iP qx iO:Nat} (h:kM w L p aB aD aA ay i A fs gs (.slice bR A.length bf) (.slice kI qy iP) (.slice gY qx iO)):Holds w (I7 L.bc p aB aD aA ay i bR (cK A).len bf kI qy iP gY qx iO):=by
 have hb:=h.blk;rw [tu];exact ⟨eD hb (j:=0) rfl,eD hb (j:=1) rfl,eD hb (j:=2) rfl,eD hb (j:=3) rfl,eD hb (j:=4) rfl,eD hb (j:=5) rfl,trivial⟩
theorem kM.below {w':World} (h:kM w L p aB aD aA ay i A fs gs v vs ve) (hb:Below w.heap.size w w'):kM w' L p aB aD aA ay i A fs gs v vs ve where
 blk:=(hb.block _ (Array.getElem?_eq_some_iff.1 h.blk).1).trans h.blk
 row:=lZ h.row (fun k hk=>hb.block k (h.row.lt k hk).2)
 rs:=lZ h.rs (fun k hk=>hb.block k (h.rs.lt k hk).2)
 re:=lZ h.re (fun k hk=>hb.block k (h.re.lt k hk).2)
 d1:=h.d1
 d2:=h.d2
 d3:=h.d3
 sz:=Nat.le_trans h.sz hb.size
 dat:=h.dat.below (hb.mono h.b0)
 qQ:=fun x hx=>(h.qQ x hx).below (hb.mono h.b0)
 fo:=h.fo
 go:=h.go
theorem kM.ZO {wz w4 w5:World} {u x:Value} {g' j:Nat} (h:kM w L p aB aD aA ay i A fs gs v vs ve) (hu:u ∈ [v,vs,ve]) (hb:Below w.heap.size w wz) (hgr:wz.grownBy w4 u.ownBlock) (hat:u.ownBlock=some g'∨g'=wz.heap.size) (hgw:w4.grownBy w5 (some g')):
 (∀k,k < w.heap.size->u.ownBlock≠some k->w5.heap[k]? =w.heap[k]?)∧(∀k,k < w.heap.size->k≠L.bc->u.ownBlock≠some k->(w5.setCell ⟨L.bc,j,none⟩ x).heap[k]? =w.heap[k]?)∧
 Kw L [v,vs,ve] w (w5.setCell ⟨L.bc,j,none⟩ x):=by
 have hsz:w.heap.size<=w4.heap.size:=Nat.le_trans hb.size hgr.size;have hgz:=bL w5 ⟨L.bc,j,none⟩ x;have hlow: ∀k,k < w.heap.size->u.ownBlock≠some k->w5.heap[k]? =w.heap[k]?:=fun k hk hv=>by
  have hkg:k≠g':=by
   rcases hat with e | e
   ·intro e'; exact hv (by rw [e,e'])
   ·have:=hb.size; omega
  rw [hgw.block k (by omega) (by simp; exact hkg),hgr.block k (Nat.lt_of_lt_of_le hk hb.size) (fun e=>hv e.symm),hb.block k hk]
 have hl2: ∀k,k < w.heap.size->k≠L.bc->u.ownBlock≠some k->(w5.setCell ⟨L.bc,j,none⟩ x).heap[k]? =w.heap[k]?:=fun k hk hc hv=>by rw [aV w5 ⟨L.bc,j,none⟩ _ rfl (fun e=>hc e.symm)]; exact hlow k hk hv
 refine ⟨hlow,hl2,⟨hgz.os.trans (hgw.os.trans (hgr.os.trans hb.os)),hgz.tape.trans (hgw.tape.trans (hgr.tape.trans hb.tape)),hgz.output.trans (hgw.output.trans (hgr.output.trans hb.output)),Nat.le_trans hsz (Nat.le_trans hgw.size hgz.size),fun k hk hc hv=>hl2 k hk hc (fun e=>hv ⟨u,hu,e⟩)⟩⟩
theorem kM.ML (h:kM w L p aB aD aA ay i A fs gs v vs ve) {u:Value} (hu:u ∈ [v,vs,ve]):u.ownBlock≠some L.bc:=fun e=>by
 have:=(h.own _ ⟨u,hu,e⟩).1; have:=L.c1; omega
theorem kM.push {wz w4:World} {g' cap':Nat} {zs:List Value} (h:kM w L p aB aD aA ay i A fs gs v vs ve) (x:Fr) (hx:uV w L.B0 x.h x.b x.e x.s) (hb:Below w.heap.size w wz) (hown:w4.ownsRow L.B1 68 11 (.slice (some ⟨g',0,none⟩) (A.length + 1) cap') (A.length + 1) (BH A++zs)) (hgr:wz.grownBy w4 v.ownBlock) (hat:v.ownBlock=some g'∨g'=wz.heap.size):
 kM ((w4.setCells g' (A.length * 11) (pX x.h x.b x.e x.s)).setCell ⟨L.bc,3,none⟩ (.slice (some ⟨g',0,none⟩) (A.length + 1) cap')) L p aB aD aA ay i (A++[x]) fs gs (.slice (some ⟨g',0,none⟩) (A.length + 1) cap') vs ve∧
 Kw L [v,vs,ve] w ((w4.setCells g' (A.length * 11) (pX x.h x.b x.e x.s)).setCell ⟨L.bc,3,none⟩ (.slice (some ⟨g',0,none⟩) (A.length + 1) cap'))∧mV w [v,vs,ve] [.slice (some ⟨g',0,none⟩) (A.length + 1) cap',vs,ve]:=by
 have hg1:=(hown.lt g' rfl).1;have hc1:=L.c1;have hput:=Rn (vs:=pX x.h x.b x.e x.s) hown (Et A) rfl;generalize Xx:w4.setCells g' (A.length * 11) (pX x.h x.b x.e x.s)=w5 at *;have hgw:w4.grownBy w5 (some g'):=by rw [<- Xx]; exact ig _ _ _ _
 obtain ⟨hlow,hl2,fK⟩:=h.ZO (u:=v) (x:= .slice (some ⟨g',0,none⟩) (A.length + 1) cap') (j:=3) (by simp) hb hgr hat hgw;have hgz:=bL w5 ⟨L.bc,3,none⟩ (.slice (some ⟨g',0,none⟩) (A.length + 1) cap');have hbel:=fK.below h.b0 (fun k e=>(h.own k e).1);have hnew: ∀k,Value.ownBlock (.slice (some ⟨g',0,none⟩) (A.length + 1) cap')=some k->v.ownBlock=some k∨w.heap.size<=k:=fun k hk=>by
  have:g'=k:=by simpa [Value.ownBlock] using hk
  subst this;rcases hat with e | e
  ·exact .inl e
  ·exact .inr (by rw [e]; exact hb.size)
 refine ⟨?_,fK,fun k hk=> ?_⟩
 ·refine {blk:= ?_,row:= ?_,rs:= ?_,re:= ?_,d1:= ?_,d2:= ?_,d3:=h.d3,sz:=Nat.le_trans h.sz fK.size,dat:=h.dat.below hbel,qQ:= ?_,fo:=h.fo,go:=h.go}
  ·exact fT ((hlow _ (Array.getElem?_eq_some_iff.1 h.blk).1 (h.ML (by simp))).trans h.blk) _
  ·rw [List.length_append,CK];refine hput.kept hgz (.inr ?_);simp [Value.ownBlock]; omega
  ·exact lZ h.rs (fun k hk=>hl2 k (h.rs.lt k hk).2 (by have:=(h.rs.lt k hk).1; omega) (fun e=>h.d1 k e hk))
  ·exact lZ h.re (fun k hk=>hl2 k (h.re.lt k hk).2 (by have:=(h.re.lt k hk).1; omega) (fun e=>h.d2 k e hk))
  ·intro k hk e;rcases hnew k hk with e' | e'
   ·exact h.d1 k e' e
   ·have:=(h.rs.lt k e).2; omega
  ·intro k hk e;rcases hnew k hk with e' | e'
   ·exact h.d2 k e' e
   ·have:=(h.re.lt k e).2; omega
  ·intro y hy;rcases List.mem_append.1 hy with hy | hy
   ·exact (h.qQ y hy).below hbel
   ·obtain rfl:=List.mem_singleton.1 hy; exact hx.below hbel
 ·rcases wD.1 hk with e | e | e
  ·rcases hnew k e with e' | e'
   ·exact .inl (wD.2 (.inl e'))
   ·exact .inr e'
  ·exact .inl (wD.2 (.inr (.inl e)))
  ·exact .inl (wD.2 (.inr (.inr e)))
theorem kM.pop {wz:World} {g' cap':Nat} (x:Fr) (h:kM w L p aB aD aA ay i (A++[x]) fs gs (.slice (some ⟨g',0,none⟩) (A.length + 1) cap') vs ve) (hb:Below w.heap.size w wz):
 kM (wz.setCell ⟨L.bc,3,none⟩ (.slice (some ⟨g',0,none⟩) A.length cap')) L p aB aD aA ay i A fs gs (.slice (some ⟨g',0,none⟩) A.length cap') vs ve∧
 Kw L [.slice (some ⟨g',0,none⟩) (A.length + 1) cap',vs,ve] w (wz.setCell ⟨L.bc,3,none⟩ (.slice (some ⟨g',0,none⟩) A.length cap')):=by
 have hI:=h.below hb;have hc1:=L.c1;have hgz:=bL wz ⟨L.bc,3,none⟩ (.slice (some ⟨g',0,none⟩) A.length cap');have hkp:Kw L [.slice (some ⟨g',0,none⟩) (A.length + 1) cap',vs,ve] w (wz.setCell ⟨L.bc,3,none⟩ (.slice (some ⟨g',0,none⟩) A.length cap')):=
  ⟨hgz.os.trans hb.os,hgz.tape.trans hb.tape,hgz.output.trans hb.output,Nat.le_trans hb.size hgz.size,fun k hk hc _=>(hgz.block k (Nat.lt_of_lt_of_le hk hb.size) (by simp; exact hc)).trans (hb.block k hk)⟩
 have hbel:Below L.B0 wz (wz.setCell ⟨L.bc,3,none⟩ (.slice (some ⟨g',0,none⟩) A.length cap')):=bQ hgz L.c0 hI.b0;have hrow:=hI.row;rw [List.length_append,CK] at hrow;have hg1:=(hrow.lt g' rfl).1;have F3: ∀k,L.B1<=k->(wz.setCell ⟨L.bc,3,none⟩ (.slice (some ⟨g',0,none⟩) A.length cap')).heap[k]? =wz.heap[k]?:=fun k hk=>aV wz _ _ rfl (by show L.bc≠k; omega);refine ⟨{blk:=fT hI.blk _,row:=(Oj hrow (Et A)).kept hgz (.inr (by simp [Value.ownBlock]; omega)),rs:=lZ hI.rs (fun k hk=>F3 k (hI.rs.lt k hk).1),re:=lZ hI.re (fun k hk=>F3 k (hI.re.lt k hk).1),d1:=fun k hk=>h.d1 k hk,d2:=fun k hk=>h.d2 k hk,d3:=h.d3,sz:=Nat.le_trans hI.sz hgz.size,dat:=hI.dat.below hbel,qQ:=fun y hy=>(hI.qQ y (by simp [hy])).below hbel,fo:=h.fo,go:=h.go},hkp⟩
theorem RD (l:List ByteArray) (s:ByteArray):iU (l++[s])=iU l++[.string s]:=by simp [iU]
theorem kM.bb7 {wz w4:World} {g' cap':Nat} {nm:ByteArray} (h:kM w L p aB aD aA ay i A fs gs v vs ve) (hn:nm.size<=maxLen) (hb:Below w.heap.size w wz) (hown:w4.ownsRow L.B1 9 1 (.slice (some ⟨g',0,none⟩) (fs.length + 1) cap') (fs.length + 1) (iU fs++[.string nm])) (hgr:wz.grownBy w4 vs.ownBlock) (hat:vs.ownBlock=some g'∨g'=wz.heap.size):
 kM (w4.setCell ⟨L.bc,4,none⟩ (.slice (some ⟨g',0,none⟩) (fs.length + 1) cap')) L p aB aD aA ay i A (fs++[nm]) gs v (.slice (some ⟨g',0,none⟩) (fs.length + 1) cap') ve∧
 Kw L [v,vs,ve] w (w4.setCell ⟨L.bc,4,none⟩ (.slice (some ⟨g',0,none⟩) (fs.length + 1) cap'))∧mV w [v,vs,ve] [v,.slice (some ⟨g',0,none⟩) (fs.length + 1) cap',ve]:=by
 have hg1:=(hown.lt g' rfl).1;have hc1:=L.c1;obtain ⟨hlow,hl2,fK⟩:=h.ZO (u:=vs) (x:= .slice (some ⟨g',0,none⟩) (fs.length + 1) cap') (j:=4) (by simp) hb hgr hat (Ew w4);have hgz:=bL w4 ⟨L.bc,4,none⟩ (.slice (some ⟨g',0,none⟩) (fs.length + 1) cap');have hbel:=fK.below h.b0 (fun k e=>(h.own k e).1);have hnew: ∀k,Value.ownBlock (.slice (some ⟨g',0,none⟩) (fs.length + 1) cap')=some k->vs.ownBlock=some k∨w.heap.size<=k:=fun k hk=>by
  have:g'=k:=by simpa [Value.ownBlock] using hk
  subst this;rcases hat with e | e
  ·exact .inl e
  ·exact .inr (by rw [e]; exact hb.size)
 refine ⟨?_,fK,fun k hk=> ?_⟩
 ·refine {blk:= ?_,row:= ?_,rs:= ?_,re:= ?_,d1:= ?_,d2:=h.d2,d3:= ?_,sz:=Nat.le_trans h.sz fK.size,dat:=h.dat.below hbel,qQ:=fun y hy=>(h.qQ y hy).below hbel,fo:= ?_,go:=h.go}
  ·exact fT ((hlow _ (Array.getElem?_eq_some_iff.1 h.blk).1 (h.ML (by simp))).trans h.blk) _
  ·exact lZ h.row (fun k hk=>hl2 k (h.row.lt k hk).2 (by have:=(h.row.lt k hk).1; omega) (fun e=>h.d1 k hk e))
  ·rw [List.length_append,RD];refine hown.kept hgz (.inr ?_);simp [Value.ownBlock]; omega
  ·exact lZ h.re (fun k hk=>hl2 k (h.re.lt k hk).2 (by have:=(h.re.lt k hk).1; omega) (fun e=>h.d3 k e hk))
  ·intro k hk e;rcases hnew k e with e' | e'
   ·exact h.d1 k hk e'
   ·have:=(h.row.lt k hk).2; omega
  ·intro k hk e;rcases hnew k hk with e' | e'
   ·exact h.d3 k e' e
   ·have:=(h.re.lt k e).2; omega
  ·intro y hy;rcases List.mem_append.1 hy with hy | hy
   ·exact h.fo y hy
   ·obtain rfl:=List.mem_singleton.1 hy; exact hn
 ·rcases wD.1 hk with e | e | e
  ·exact .inl (wD.2 (.inl e))
  ·rcases hnew k e with e' | e'
   ·exact .inl (wD.2 (.inr (.inl e')))
   ·exact .inr e'
  ·exact .inl (wD.2 (.inr (.inr e)))
theorem kM.bb5 {wz w4:World} {g' cap':Nat} {nm:ByteArray} (h:kM w L p aB aD aA ay i A fs gs v vs ve) (hn:nm.size<=maxLen) (hb:Below w.heap.size w wz) (hown:w4.ownsRow L.B1 9 1 (.slice (some ⟨g',0,none⟩) (gs.length + 1) cap') (gs.length + 1) (iU gs++[.string nm])) (hgr:wz.grownBy w4 ve.ownBlock) (hat:ve.ownBlock=some g'∨g'=wz.heap.size):
 kM (w4.setCell ⟨L.bc,5,none⟩ (.slice (some ⟨g',0,none⟩) (gs.length + 1) cap')) L p aB aD aA ay i A fs (gs++[nm]) v vs (.slice (some ⟨g',0,none⟩) (gs.length + 1) cap')∧
 Kw L [v,vs,ve] w (w4.setCell ⟨L.bc,5,none⟩ (.slice (some ⟨g',0,none⟩) (gs.length + 1) cap'))∧mV w [v,vs,ve] [v,vs,.slice (some ⟨g',0,none⟩) (gs.length + 1) cap']:=by
 have hg1:=(hown.lt g' rfl).1;have hc1:=L.c1;obtain ⟨hlow,hl2,fK⟩:=h.ZO (u:=ve) (x:= .slice (some ⟨g',0,none⟩) (gs.length + 1) cap') (j:=5) (by simp) hb hgr hat (Ew w4);have hgz:=bL w4 ⟨L.bc,5,none⟩ (.slice (some ⟨g',0,none⟩) (gs.length + 1) cap');have hbel:=fK.below h.b0 (fun k e=>(h.own k e).1);have hnew: ∀k,Value.ownBlock (.slice (some ⟨g',0,none⟩) (gs.length + 1) cap')=some k->ve.ownBlock=some k∨w.heap.size<=k:=fun k hk=>by
  have:g'=k:=by simpa [Value.ownBlock] using hk
  subst this;rcases hat with e | e
  ·exact .inl e
  ·exact .inr (by rw [e]; exact hb.size)
 refine ⟨?_,fK,fun k hk=> ?_⟩
 ·refine {blk:= ?_,row:= ?_,rs:= ?_,re:= ?_,d1:=h.d1,d2:= ?_,d3:= ?_,sz:=Nat.le_trans h.sz fK.size,dat:=h.dat.below hbel,qQ:=fun y hy=>(h.qQ y hy).below hbel,fo:=h.fo,go:= ?_}
  ·exact fT ((hlow _ (Array.getElem?_eq_some_iff.1 h.blk).1 (h.ML (by simp))).trans h.blk) _
  ·exact lZ h.row (fun k hk=>hl2 k (h.row.lt k hk).2 (by have:=(h.row.lt k hk).1; omega) (fun e=>h.d2 k hk e))
  ·exact lZ h.rs (fun k hk=>hl2 k (h.rs.lt k hk).2 (by have:=(h.rs.lt k hk).1; omega) (fun e=>h.d3 k hk e))
  ·rw [List.length_append,RD];refine hown.kept hgz (.inr ?_);simp [Value.ownBlock]; omega
  ·intro k hk e;rcases hnew k e with e' | e'
   ·exact h.d2 k hk e'
   ·have:=(h.row.lt k hk).2; omega
  ·intro k hk e;rcases hnew k e with e' | e'
   ·exact h.d3 k hk e'
   ·have:=(h.rs.lt k hk).2; omega
  ·intro y hy;rcases List.mem_append.1 hy with hy | hy
   ·exact h.go y hy
   ·obtain rfl:=List.mem_singleton.1 hy; exact hn
 ·rcases wD.1 hk with e | e | e
  ·exact .inl (wD.2 (.inl e))
  ·exact .inl (wD.2 (.inr (.inl e)))
  ·rcases hnew k e with e' | e'
   ·exact .inl (wD.2 (.inr (.inr e')))
   ·exact .inr e'
theorem kM.aa3 {i':Int} (h:kM w L p aB aD aA ay i A fs gs v vs ve):kM (w.setCell ⟨L.bc,2,none⟩ (.int .i64 i')) L p aB aD aA ay i' A fs gs v vs ve:=by
 have hg:=bL w ⟨L.bc,2,none⟩ (.int .i64 i');have hbel:=bQ hg L.c0 h.b0;have hc1:=L.c1;have F3: ∀k,L.B1<=k->(w.setCell ⟨L.bc,2,none⟩ (.int .i64 i')).heap[k]? =w.heap[k]?:=fun k hk=>aV w _ _ rfl (by show L.bc≠k; omega);exact {blk:=by rw [fT h.blk]; rfl,row:=lZ h.row (fun k hk=>F3 k (h.row.lt k hk).1),rs:=lZ h.rs (fun k hk=>F3 k (h.rs.lt k hk).1),re:=lZ h.re (fun k hk=>F3 k (h.re.lt k hk).1),d1:=h.d1,d2:=h.d2,d3:=h.d3,sz:=Nat.le_trans h.sz hg.size,dat:=h.dat.below hbel,qQ:=fun x hx=>(h.qQ x hx).below hbel,fo:=h.fo,go:=h.go}
end
def C3 (W1 W2 W3 W4:World):List Bool->World->Prop
 | [false,false,false],w=>w=W1
 | [true,false,false],w=>w=W2
 | [true,true,false],w=>w=W3
 | [true,true,true],w=>w=W4
 | _,_=>False
section
variable {W1 W2 W3 W4:World} {a1 a2 a3 i:Nat} {c:List Bool} {w':World}
theorem C3.bits: ∀ {c:List Bool} {w':World},C3 W1 W2 W3 W4 c w'-> ∃x y z,c=[x,y,z]
 | [x,y,z],_,_=>⟨x,y,z,rfl⟩
 | [],_,h=>h.elim
 | [_],_,h=>by simp [C3] at h
 | [_,_],_,h=>by simp [C3] at h
 | _ ::_ ::_ ::_ ::_,_,h=>by simp [C3] at h
theorem C3.skip (h1:(a1 == i)=false) (h2:(a2 == i)=false) (h3:(a3 == i)=false) (h:C3 W1 W2 W3 W4 c w'):C3 W1 W2 W3 W4 (jX [a1,a2,a3] c i) w':=by
 obtain ⟨x,y,z,rfl⟩:=h.bits;simpa [jX,h1,h2,h3] using h
theorem C3.one (h1:(a1 == i)=true) (h2:(a2 == i)=false) (h3:(a3 == i)=false):C3 W1 W2 W3 W4 (jX [a1,a2,a3] [false,false,false] i) W2:=by
 simp only [jX,h1,h2,h3,Bool.or_false,Bool.or_true]; rfl
theorem C3.two (h1:(a1 == i)=false) (h2:(a2 == i)=true) (h3:(a3 == i)=false):C3 W1 W2 W3 W4 (jX [a1,a2,a3] [true,false,false] i) W3:=by
 simp only [jX,h1,h2,h3,Bool.or_false,Bool.or_true]; rfl
theorem C3.three (h1:(a1 == i)=false) (h2:(a2 == i)=false) (h3:(a3 == i)=true):C3 W1 W2 W3 W4 (jX [a1,a2,a3] [true,true,false] i) W4:=by
 simp only [jX,h1,h2,h3,Bool.or_false,Bool.or_true]; rfl
theorem C3.low {p1:Option Bool} {W:World} (hb1:Below W.heap.size W W1) (hb2:Below W.heap.size W W2) (hok:okB [p1,some false,some false] c) (h:C3 W1 W2 W3 W4 c w'):Below W.heap.size W w':=by
 obtain ⟨x,y,z,rfl⟩:=h.bits;have:y=false∧z=false:=by
  cases p1 with
  | none=>exact ⟨hok.1,hok.2.1⟩
  | some b=>exact ⟨hok.2.1,hok.2.2.1⟩
 obtain ⟨rfl,rfl⟩:=this;cases x
 ·have h:w'=W1:=h;rw [h]; exact hb1
 ·have h:w'=W2:=h;rw [h]; exact hb2
theorem C3.w1 (hok:okB [some false,some false,some false] c) (h:C3 W1 W2 W3 W4 c w'):c=[false,false,false]∧w'=W1:=by
 obtain ⟨x,y,z,rfl⟩:=h.bits;obtain ⟨rfl,rfl,rfl,-⟩:=hok;exact ⟨rfl,h⟩
theorem C3.w2 (hok:okB [some true,some false,some false] c) (h:C3 W1 W2 W3 W4 c w'):c=[true,false,false]∧w'=W2:=by
 obtain ⟨x,y,z,rfl⟩:=h.bits;obtain ⟨rfl,rfl,rfl,-⟩:=hok;exact ⟨rfl,h⟩
theorem C3.w3 (hok:okB [some true,some true,some false] c) (h:C3 W1 W2 W3 W4 c w'):c=[true,true,false]∧w'=W3:=by
 obtain ⟨x,y,z,rfl⟩:=h.bits;obtain ⟨rfl,rfl,rfl,-⟩:=hok;exact ⟨rfl,h⟩
theorem C3.b1 (hok:okB [some false,some false,some false] c) (h:C3 W1 W2 W3 W4 c w'):c=[false,false,false]∧w'=W1:=C3.w1 hok h
end
theorem wp_append_run {P:Program} {w w':World} {o:Oper} {a:Act} {K:Act->World->Prop} {Q:Exit->Act->World->Prop} (s x:Operand) (t:TypeId) (v u r:Value)
 (ho:o.op= .call {callee:= .builtin .append,args:= #[s,x],argTypes:= #[t,t]}) (hs:a.eval s=v) (hx:a.eval x=u)
 (hr:(Builtin.append_ #[t,t] o.type #[v,u]).run P w= .ok r w') (h:K (a.put o.dst r) w'):o.wp P a w K Q:=by
 unfold Oper.wp execOp;simp only [ho,resolve,invoke,builtin,Sem.run_bind,Sem.run_pure,Result.andThen_ok,List.map_toArray,List.map_cons,List.map_nil,hs,hx,hr];exact h
end Go.Proofs.YtfbbaiejbjdfbaaGreatDoor
