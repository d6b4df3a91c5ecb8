/- A program, an expression as an argument: from what the row reads to the data of this proof. And what hangs on it. -/
import Derived.Test.YtgjmahnblcajbaaGreatDoorGMA
import Derived.ProofKit
import Derived.OpenShut
import Derived.ChangeArms
import Derived.Deep.Slices
import Derived.Test.YtgjmahnblcajbaaGreatDoorGCA
import Derived.Test.YtgjmahnblcajbaaGreatDoorGCE
import Derived.SizedLaws
set_option linter.unusedSimpArgs false
set_option linter.unusedVariables false
set_option maxHeartbeats 40000000
set_option maxRecDepth 1000000
namespace Go.Proofs.YtgjmahnblcajbaaGreatDoor
open Go.ChangeShapes Go.WideShapes Go.ChangeAt Go.RowKit
open Md
theorem zK:Tryz.prog.cellsOf 3=1:=by kernel_rfl
theorem Nl:Tryz.prog.cellsOf 2=1:=by kernel_rfl
theorem wW:Tryz.prog.cellsOf 9=1:=by kernel_rfl
theorem Nn:Tryz.prog.cellsOf 25=1:=by kernel_rfl
section
variable {H:Type} {enc:TypeId × Value->H} {W:World} {base:Nat} {sp:Nat->Bool} {held:Bool}
theorem jL {n:Nat} {t:TypeId} {v:Value} {y:DataW H × List MemPlace} (ht:Tryz.prog.underlying t=some (.int .i64)) (h:DataW.trod enc Tryz.prog W base sp held n t [v]=some y): ∃z:Int,v= .int .i64 z∧bV z:=by
 obtain ⟨z,hc,_,hw⟩:=DataW.trod_int ht h;exact ⟨z,by simpa using hc,bounds_i64 hw⟩
theorem Di {n:Nat} {v:Value} {y:DataW H × List MemPlace} (h:DataW.trod enc Tryz.prog W base sp held n 9 [v]=some y): ∃s:ByteArray,v= .string s∧s.size<=maxLen:=by
 obtain ⟨s,hc,_,hs⟩:=DataW.trod_string Tryz.underlying9 h;exact ⟨s,by simpa using hc,hs⟩
theorem LJ {t e:TypeId} {fuel sz:Nat} {v:Value} {x:DataW H × List MemPlace} (ht:Tryz.prog.underlying t=some (.slice e)) (hsz:Tryz.prog.cellsOf e=sz) (h0:0 < sz) (h:DataW.trod enc Tryz.prog W base sp held fuel t [v]=some x):
 v= .slice none 0 0∨ ∃(a:Addr) (len cap n:Nat),fuel=n + 1∧v= .slice (some a) len cap∧len<=cap∧cap<=maxLen∧
  ∀i,i < len-> ∃(b off:Nat) (cs:List Value) (y:DataW H × List MemPlace),a=⟨b,off,none⟩∧b < W.heap.size∧cs.length=sz∧(∀j u,cs[j]? =some u->W.cell? ⟨b,off + i * sz + j,none⟩=some u)∧DataW.trod enc Tryz.prog W base sp held n e cs=some y:=by
 rcases DataW.trod_slice ht h with ⟨hcs,-⟩ | ⟨a,len,cap,elems,rest,n,hf,hcs,-,hb,hl,hm,hlen,hel,-,-⟩
 ·exact .inl (by simpa using hcs)
 ·refine .inr ⟨a,len,cap,n,hf,by simpa using hcs,hl,hm,fun i hi=> ?_⟩;have hspot:a.spot=none:=by have:=hel 0 (by omega);rw [List.getElem?_eq_getElem (by omega),hsz] at this;obtain ⟨cs,h1,h2⟩:=Option.bind_eq_some_iff.1 this;obtain ⟨-,hcl,hcell⟩:=World.cells?_some h1;have h3:=hcell 0 (by omega);rw [List.getElem?_eq_getElem (by omega)] at h3;simpa [Addr.add] using World.cell?_spot h3
  have:=hel i hi;rw [List.getElem?_eq_getElem (by omega),hsz] at this;obtain ⟨cs,h1,h2⟩:=Option.bind_eq_some_iff.1 this;obtain ⟨-,hcl,hcell⟩:=World.cells?_some h1;obtain ⟨b,off,spot⟩:=a;subst hspot;have hc2: ∀j u,cs[j]? =some u->W.cell? ⟨b,off + i * sz + j,none⟩=some u:=fun j u hu=>by have hj:j < cs.length:=(List.getElem?_eq_some_iff.1 hu).1;have h3:=hcell j (by omega);rw [hu,add_plain,add_plain] at h3;exact h3
  refine ⟨b,off,cs,_,rfl,?_,hcl,hc2,h2⟩;exact World.block_lt_of_cell? _ _ (hc2 0 _ (List.getElem?_eq_getElem (by omega)))
theorem OH {n:Nat} {v:Value} {x:DataW H × List MemPlace} (h:DataW.trod enc Tryz.prog W base sp held n 25 [v]=some x): ∃ao l cap,v= .slice ao (List.length l) cap∧dU W W.heap.size l ao 0∧l.length<=maxLen∧l.length<=cap:=by
 have build: ∀(ao:Option Addr) (m k:Nat),(∀i,k<=i->i < k + m-> ∃(s:ByteArray) (b off:Nat),ao=some ⟨b,off,none⟩∧b < W.heap.size∧W.cell? ⟨b,off + i,none⟩=some (.string s)∧s.size<=maxLen)-> ∃l:List ByteArray,l.length=m∧dU W W.heap.size l ao k:=by
  intro ao m
  induction m with
  | zero=>exact fun k _=>⟨[],rfl,trivial⟩
  | succ m ih=>intro k h;obtain ⟨s,b,off,hx⟩:=h k (Nat.le_refl _) (by omega);obtain ⟨l,hl,hat⟩:=ih (k + 1) (fun i h1 h2=>h i (by omega) (by omega));exact ⟨s ::l,by simp [hl],⟨b,off,hx⟩,hat⟩
 rcases LJ Tryz.underlying25 wW (by omega) h with rfl | ⟨a,len,cap,m,rfl,rfl,hl,hm,hel⟩
 ·exact ⟨none,[],0,rfl,trivial,Nat.zero_le _,Nat.zero_le _⟩
 ·obtain ⟨l,h1,h2⟩:=build (some a) len 0 (fun i _ hi=>by
   obtain ⟨b,off,cs,y,rfl,hb,hcl,hc,ht⟩:=hel i (by omega)
   match cs,hcl with
   | [v0],_=>obtain ⟨s,rfl,hs⟩:=Di ht;exact ⟨s,b,off,rfl,hb,by have:=hc 0 _ rfl; simpa using this,hs⟩)
  exact ⟨some a,l,cap,by rw [h1],h2,by omega,by omega⟩
end
theorem TP:Tryz.prog.cellsOf 83=5:=by kernel_rfl
theorem TS:Tryz.prog.cellsOf 56=2:=by kernel_rfl
theorem TR:Tryz.prog.cellsOf 50=2:=by kernel_rfl
theorem TT:Tryz.prog.cellsOf 58=3:=by kernel_rfl
theorem Rf:Tryz.prog.cellsOf 75=6:=by kernel_rfl
theorem Rj:Tryz.prog.cellsOf 62=2:=by kernel_rfl
theorem Iu:Tryz.prog.cellsOf 28=6:=by kernel_rfl
theorem TQ:Tryz.prog.cellsOf 33=7:=by kernel_rfl
theorem OT:Tryz.prog.cellsOf 31=1:=by kernel_rfl
theorem Rb:Tryz.prog.cellsOf 22=1:=by kernel_rfl
theorem Rh:Tryz.prog.cellsOf 23=1:=by kernel_rfl
theorem Rc:Tryz.prog.cellsOf 24=1:=by kernel_rfl
theorem Ri:Tryz.prog.cellsOf 26=1:=by kernel_rfl
theorem OQ:Tryz.prog.cellsOf 60=1:=by kernel_rfl
theorem KW:Tryz.prog.cellsOf 4=1:=by kernel_rfl
section
variable {H:Type} {enc:TypeId × Value->H} {W:World} {base:Nat} {sp:Nat->Bool} {held:Bool}
theorem KU {n:Nat} {v:Value} {y:DataW H × List MemPlace} (h:DataW.trod enc Tryz.prog W base sp held n 4 [v]=some y): ∃b:Bool,v= .bool b:=by
 obtain ⟨b,hc,_⟩:=DataW.trod_bool Tryz.underlying4 h;exact ⟨b,by simpa using hc⟩
theorem zN {α:Type} {f:α->List Value} {m:Nat} {t e:TypeId} (ht:Tryz.prog.underlying t=some (.slice e)) (hsz:Tryz.prog.cellsOf e=m) (h0:0 < m) (I:α->Prop)
 (hel: ∀(cs:List Value) (y:DataW H × List MemPlace) (n:Nat),cs.length=m->DataW.trod enc Tryz.prog W base sp held n e cs=some y-> ∃x,f x=cs∧I x)
 {n:Nat} {v:Value} {x:DataW H × List MemPlace} (h:DataW.trod enc Tryz.prog W base sp held n t [v]=some x):
 ∃ao l cap,v= .slice ao (List.length l) cap∧bL f m W W.heap.size l ao 0∧l.length<=maxLen∧l.length<=cap∧ ∀x ∈ l,I x:=by
 have build: ∀(ao:Option Addr) (q k:Nat),(∀i,k<=i->i < k + q-> ∃(x:α) (b off:Nat),ao=some ⟨b,off,none⟩∧b < W.heap.size∧(∀(j:Nat) (u:Value),(f x)[j]? =some u->W.cell? ⟨b,off + i * m + j,none⟩=some u)∧I x)-> ∃l:List α,l.length=q∧bL f m W W.heap.size l ao k∧ ∀x ∈ l,I x:=by
  intro ao q
  induction q with
  | zero=>exact fun k _=>⟨[],rfl,trivial,fun x hx=>by cases hx⟩
  | succ q ih=>
    intro k h;obtain ⟨x,b,off,e1,e2,e3,e4⟩:=h k (Nat.le_refl _) (by omega);obtain ⟨l,hl,hat,hI⟩:=ih (k + 1) (fun i h1 h2=>h i (by omega) (by omega));refine ⟨x ::l,by simp [hl],⟨⟨b,off,e1,e2,e3⟩,hat⟩,fun y hy=> ?_⟩;rcases List.mem_cons.1 hy with rfl | hy
    ·exact e4
    ·exact hI y hy
 rcases LJ ht hsz h0 h with rfl | ⟨a,len,cap,q,rfl,rfl,hl,hm,hels⟩
 ·exact ⟨none,[],0,rfl,trivial,Nat.zero_le _,Nat.zero_le _,fun x hx=>by cases hx⟩
 ·obtain ⟨l,h1,h2,h3⟩:=build (some a) len 0 (fun i _ hi=>by obtain ⟨b,off,cs,y,rfl,hb,hcl,hc,ht⟩:=hels i (by omega);obtain ⟨x,hx,hI⟩:=hel cs y q hcl ht;exact ⟨x,b,off,rfl,hb,by rw [hx]; exact hc,hI⟩);exact ⟨some a,l,cap,by rw [h1],h2,by omega,by omega,h3⟩
def CeI (x:kM):Prop:=x.nm.size<=maxLen∧bV x.ix∧bV x.sz∧bV x.init
def LkI (x:zH):Prop:=x.nm.size<=maxLen
def CnI (x:Ab):Prop:=x.nm.size<=maxLen∧bV x.mx
def SiI (x:rU):Prop:=bV x.th∧bV x.st∧bV x.ln
def KR (x:aQ):Prop:=bV x.op∧bV x.a∧bV x.b∧bV x.c∧bV x.n∧bV x.st
theorem VY {n:Nat} {v:Value} {x:DataW H × List MemPlace} (h:DataW.trod enc Tryz.prog W base sp held n 22 [v]=some x): ∃ao l cap,v= .slice ao (List.length l) cap∧bL kJ 5 W W.heap.size l ao 0∧l.length<=maxLen∧l.length<=cap∧ ∀x ∈ l,CeI x:=by
 refine zN Tryz.underlying22 TP (by decide) CeI (fun cs y n hcl h=> ?_) h;obtain ⟨xs,q,rfl,-,-,hlen,hg⟩:=DataW.trod_struct Tryz.underlying83 h
 match cs,hcl with
 | [v0,v1,v2,v3,v4],_=>
   match xs,hlen with
   | [y0,y1,y2,y3,y4],_=>have g0:=hg 0 _ rfl;have g1:=hg 1 _ rfl;have g2:=hg 2 _ rfl;have g3:=hg 3 _ rfl;have g4:=hg 4 _ rfl;simp only [zK,Nl,wW,KW,List.drop_zero,List.drop_succ_cons,List.take_succ_cons,List.take_zero,List.getElem?_cons_zero,List.getElem?_cons_succ] at g0 g1 g2 g3 g4;obtain ⟨s,rfl,h0⟩:=Di g0;obtain ⟨z1,rfl,h1⟩:=jL Tryz.underlying3 g1;obtain ⟨z2,rfl,h2⟩:=jL Tryz.underlying3 g2;obtain ⟨b3,rfl⟩:=KU g3;obtain ⟨z4,rfl,h4⟩:=jL Tryz.underlying2 g4;exact ⟨⟨s,z1,z2,b3,z4⟩,rfl,h0,h1,h2,h4⟩
theorem WY {n:Nat} {v:Value} {x:DataW H × List MemPlace} (h:DataW.trod enc Tryz.prog W base sp held n 23 [v]=some x): ∃ao l cap,v= .slice ao (List.length l) cap∧bL nN 2 W W.heap.size l ao 0∧l.length<=maxLen∧l.length<=cap∧ ∀x ∈ l,LkI x:=by
 refine zN Tryz.underlying23 TS (by decide) LkI (fun cs y n hcl h=> ?_) h;obtain ⟨xs,q,rfl,-,-,hlen,hg⟩:=DataW.trod_struct Tryz.underlying56 h
 match cs,hcl with
 | [v0,v1],_=>
   match xs,hlen with
   | [y0,y1],_=>have g0:=hg 0 _ rfl;have g1:=hg 1 _ rfl;simp only [wW,KW,List.drop_zero,List.drop_succ_cons,List.take_succ_cons,List.take_zero,List.getElem?_cons_zero,List.getElem?_cons_succ] at g0 g1;obtain ⟨s,rfl,h0⟩:=Di g0;obtain ⟨b1,rfl⟩:=KU g1;exact ⟨⟨s,b1⟩,rfl,h0⟩
theorem Wj {n:Nat} {v:Value} {x:DataW H × List MemPlace} (h:DataW.trod enc Tryz.prog W base sp held n 24 [v]=some x): ∃ao l cap,v= .slice ao (List.length l) cap∧bL tZ 2 W W.heap.size l ao 0∧l.length<=maxLen∧l.length<=cap∧ ∀x ∈ l,CnI x:=by
 refine zN Tryz.underlying24 TR (by decide) CnI (fun cs y n hcl h=> ?_) h;obtain ⟨xs,q,rfl,-,-,hlen,hg⟩:=DataW.trod_struct Tryz.underlying50 h
 match cs,hcl with
 | [v0,v1],_=>
   match xs,hlen with
   | [y0,y1],_=>have g0:=hg 0 _ rfl;have g1:=hg 1 _ rfl;simp only [wW,zK,List.drop_zero,List.drop_succ_cons,List.take_succ_cons,List.take_zero,List.getElem?_cons_zero,List.getElem?_cons_succ] at g0 g1;obtain ⟨s,rfl,h0⟩:=Di g0;obtain ⟨z1,rfl,h1⟩:=jL Tryz.underlying3 g1;exact ⟨⟨s,z1⟩,rfl,h0,h1⟩
theorem Xn {n:Nat} {v:Value} {x:DataW H × List MemPlace} (h:DataW.trod enc Tryz.prog W base sp held n 26 [v]=some x): ∃ao l cap,v= .slice ao (List.length l) cap∧bL uG 3 W W.heap.size l ao 0∧l.length<=maxLen∧l.length<=cap∧ ∀x ∈ l,SiI x:=by
 refine zN Tryz.underlying26 TT (by decide) SiI (fun cs y n hcl h=> ?_) h;obtain ⟨xs,q,rfl,-,-,hlen,hg⟩:=DataW.trod_struct Tryz.underlying58 h
 match cs,hcl with
 | [v0,v1,v2],_=>
   match xs,hlen with
   | [y0,y1,y2],_=>have g0:=hg 0 _ rfl;have g1:=hg 1 _ rfl;have g2:=hg 2 _ rfl;simp only [zK,List.drop_zero,List.drop_succ_cons,List.take_succ_cons,List.take_zero,List.getElem?_cons_zero,List.getElem?_cons_succ] at g0 g1 g2;obtain ⟨z0,rfl,h0⟩:=jL Tryz.underlying3 g0;obtain ⟨z1,rfl,h1⟩:=jL Tryz.underlying3 g1;obtain ⟨z2,rfl,h2⟩:=jL Tryz.underlying3 g2;exact ⟨⟨z0,z1,z2⟩,rfl,h0,h1,h2⟩
theorem WR {n:Nat} {v:Value} {x:DataW H × List MemPlace} (h:DataW.trod enc Tryz.prog W base sp held n 60 [v]=some x): ∃ao l cap,v= .slice ao (List.length l) cap∧bL gK 6 W W.heap.size l ao 0∧l.length<=maxLen∧l.length<=cap∧ ∀x ∈ l,KR x:=by
 refine zN Tryz.underlying60 Rf (by decide) KR (fun cs y n hcl h=> ?_) h;obtain ⟨xs,q,rfl,-,-,hlen,hg⟩:=DataW.trod_struct Tryz.underlying75 h
 match cs,hcl with
 | [v0,v1,v2,v3,v4,v5],_=>
   match xs,hlen with
   | [y0,y1,y2,y3,y4,y5],_=>have g0:=hg 0 _ rfl;have g1:=hg 1 _ rfl;have g2:=hg 2 _ rfl;have g3:=hg 3 _ rfl;have g4:=hg 4 _ rfl;have g5:=hg 5 _ rfl;simp only [zK,Nl,List.drop_zero,List.drop_succ_cons,List.take_succ_cons,List.take_zero,List.getElem?_cons_zero,List.getElem?_cons_succ] at g0 g1 g2 g3 g4 g5;obtain ⟨z0,rfl,h0⟩:=jL Tryz.underlying3 g0;obtain ⟨z1,rfl,h1⟩:=jL Tryz.underlying3 g1;obtain ⟨z2,rfl,h2⟩:=jL Tryz.underlying3 g2;obtain ⟨z3,rfl,h3⟩:=jL Tryz.underlying3 g3;obtain ⟨z4,rfl,h4⟩:=jL Tryz.underlying2 g4;obtain ⟨z5,rfl,h5⟩:=jL Tryz.underlying3 g5;exact ⟨⟨z0,z1,z2,z3,z4,z5⟩,rfl,h0,h1,h2,h3,h4,h5⟩
structure N7 (W:Wo):Prop where
 cs: ∀x ∈ W.cs,CeI x
 ls: ∀x ∈ W.ls,LkI x
 ns: ∀x ∈ W.ns,CnI x
 ss: ∀x ∈ W.ss,SiI x
theorem G9 {n:Nat} {cs:List Value} {x:DataW H × List MemPlace} (hl:cs.length=6) (h:DataW.trod enc Tryz.prog W base sp held n 28 cs=some x): ∃(D:Wo) (s:gW),cs=[.slice s.aC D.cs.length s.cC,.slice s.aL D.ls.length s.cL,.slice s.aN D.ns.length s.cN,.slice s.aF D.fs.length s.cF,.slice s.aT D.ts.length s.cT,.slice s.aS D.ss.length s.cS]∧dR W W.heap.size D s∧N7 D:=by
 obtain ⟨xs,q,rfl,-,-,hlen,hg⟩:=DataW.trod_struct Tryz.underlying28 h
 match cs,hl with
 | [v0,v1,v2,v3,v4,v5],_=>
   match xs,hlen with
   | [y0,y1,y2,y3,y4,y5],_=>have g0:=hg 0 _ rfl;have g1:=hg 1 _ rfl;have g2:=hg 2 _ rfl;have g3:=hg 3 _ rfl;have g4:=hg 4 _ rfl;have g5:=hg 5 _ rfl;simp only [Rb,Rh,Rc,Nn,Ri,List.drop_zero,List.drop_succ_cons,List.take_succ_cons,List.take_zero,List.getElem?_cons_zero,List.getElem?_cons_succ] at g0 g1 g2 g3 g4 g5;obtain ⟨a0,l0,c0,rfl,h0,m0,k0,i0⟩:=VY g0;obtain ⟨a1,l1,c1,rfl,h1,m1,k1,i1⟩:=WY g1;obtain ⟨a2,l2,c2,rfl,h2,m2,k2,i2⟩:=Wj g2;obtain ⟨a3,l3,c3,rfl,h3,m3,k3⟩:=OH g3;obtain ⟨a4,l4,c4,rfl,h4,m4,k4⟩:=OH g4;obtain ⟨a5,l5,c5,rfl,h5,m5,k5,i5⟩:=Xn g5;exact ⟨⟨l0,l1,l2,l3,l4,l5⟩,⟨a0,a1,a2,a3,a4,a5,c0,c1,c2,c3,c4,c5⟩,rfl,⟨h0,h1,h2,h3,h4,h5,m0,m1,m2,m3,m4,m5,fun c hc=>(i0 c hc).2.2.1⟩,⟨i0,i1,i2,i5⟩⟩
theorem Sg {v:Value} {d:DataW H} {p:List MemPlace} (hv:Value.okWide Tryz.prog W .any base 28 v)
 (h:DataW.Trod enc Tryz.prog W 0 (fun _=>true) true 28 v d p):
 ∃(D:Wo) (s:gW),v=jS D s∧dR W W.heap.size D s∧N7 D:=by
 obtain ⟨cs,rfl,hsz⟩:=okWide_struct Tryz.underlying28 hv;rw [Iu] at hsz;obtain ⟨fuel,hf⟩:=h;obtain ⟨D,s,hc,hat,hi⟩:=G9 (by simpa [Value.cells] using hsz) hf;refine ⟨D,s,?_,hat,hi⟩;simp only [Value.cells] at hc;unfold jS;rw [<- hc]
theorem R9:Tryz.prog.bytesOf 75=48:=by kernel_rfl
theorem FZ {P:Program} {e:TypeId} : ∀ {l:List (DataW H)} {d:DataW H},d ∈ l-> ∀n ∈ d.weights P e,n ∈ DataW.weightsAll P e l
 | x ::r,d,hd,n,hn=>by
   simp only [DataW.weightsAll,List.mem_append];rcases List.mem_cons.1 hd with rfl | hd
   ·exact .inl hn
   ·exact .inr (FZ hd n hn)
theorem am0 {n:Nat} {ao:Option Addr} {k cap:Nat} {x:DataW H × List MemPlace} (h:DataW.trod enc Tryz.prog W base sp held n 60 [.slice ao k cap]=some x) (hw: ∀m ∈ x.1.weights Tryz.prog 60,m<=reachBytes):k<=3000000000000:=by
 rcases DataW.trod_slice Tryz.underlying60 h with ⟨hcs,-⟩ | ⟨a,len,cap',elems,rest,m,-,hcs,hx,-,-,-,hlen,-,-,-⟩
 ·have:=List.head_eq_of_cons_eq hcs;injection this with _ e _;omega
 ·have:=List.head_eq_of_cons_eq hcs;injection this with _ e _;subst hx;have:=hw ((elems.length + rest.length) * Tryz.prog.bytesOf 75) (by simp [DataW.weights,Tryz.underlying60]);rw [R9] at this;have:=reachBytes_lt;omega
theorem Xx {n:Nat} {v:Value} {x:DataW H × List MemPlace} (h:DataW.trod enc Tryz.prog W base sp held n 31 [v]=some x) (hw: ∀m ∈ x.1.weights Tryz.prog 31,m<=reachBytes): ∃ao l cap,v= .slice ao (List.length l) cap∧mg W W.heap.size l ao 0∧l.length<=maxLen∧ ∀t ∈ l,∀i ∈ t.is,KR i:=by
 have build: ∀(ao:Option Addr) (q k:Nat),(∀i,k<=i->i < k + q-> ∃(x:qJ) (b off:Nat) (dw:Option Addr) (bJ:Nat),ao=some ⟨b,off,none⟩∧b < W.heap.size∧W.cell? ⟨b,off + i * 2,none⟩=some (.int .i64 x.regs)∧W.cell? ⟨b,off + i * 2 + 1,none⟩=some (.slice dw x.is.length bJ)∧x.is.length<=3000000000000∧bL gK 6 W W.heap.size x.is dw 0∧ ∀y ∈ x.is,KR y)-> ∃l:List qJ,l.length=q∧mg W W.heap.size l ao k∧ ∀x ∈ l,∀y ∈ x.is,KR y:=by
  intro ao q
  induction q with
  | zero=>exact fun k _=>⟨[],rfl,trivial,fun x hx=>by cases hx⟩
  | succ q ih=>
    intro k h;obtain ⟨x,b,off,dw,bJ,e1,e2,e3,e4,e5,e6,e7⟩:=h k (Nat.le_refl _) (by omega);obtain ⟨l,hl,hat,hI⟩:=ih (k + 1) (fun i h1 h2=>h i (by omega) (by omega));refine ⟨x ::l,by simp [hl],⟨⟨b,off,dw,bJ,e1,e2,e3,e4,e5,e6⟩,hat⟩,fun y hy=> ?_⟩;rcases List.mem_cons.1 hy with rfl | hy
    ·exact e7
    ·exact hI y hy
 rcases DataW.trod_slice Tryz.underlying31 h with ⟨hcs,-⟩ | ⟨a,len,cap,elems,rest,q,hf,hcs,hx,-,hl,hm,hlen,hel,-,-⟩
 ·exact ⟨none,[],0,by simpa using hcs,trivial,Nat.zero_le _,fun x hx=>by cases hx⟩
 ·have hcs:v= .slice (some a) len cap:=by simpa using hcs
  subst hx;rw [Rj] at hel;have hall: ∀i (hi:i < elems.length),∀m ∈ (elems[i]).1.weights Tryz.prog 62,m<=reachBytes:=fun i hi m hm=>hw m (by simp only [DataW.weights,Tryz.underlying31];refine List.mem_cons_of_mem _ (List.mem_append_left _ (FZ (List.mem_map.2 ⟨elems[i],List.getElem_mem hi,rfl⟩) m hm)));obtain ⟨l,h1,h2,h3⟩:=build (some a) len 0 (fun i _ hi=>by
   have hi':i < len:=by omega
   have hspot:a.spot=none:=by have:=hel 0 (by omega);rw [List.getElem?_eq_getElem (by omega)] at this;obtain ⟨cs,h1,h2⟩:=Option.bind_eq_some_iff.1 this;obtain ⟨-,hcl,hcell⟩:=World.cells?_some h1;have h3:=hcell 0 (by omega);rw [List.getElem?_eq_getElem (by omega)] at h3;simpa [Addr.add] using World.cell?_spot h3
   have:=hel i hi';rw [List.getElem?_eq_getElem (by omega)] at this;obtain ⟨cs,h1,h2⟩:=Option.bind_eq_some_iff.1 this;obtain ⟨-,hcl,hcell⟩:=World.cells?_some h1;obtain ⟨b,off,spot⟩:=a;subst hspot;have hc2: ∀j u,cs[j]? =some u->W.cell? ⟨b,off + i * 2 + j,none⟩=some u:=fun j u hu=>by have hj:j < cs.length:=(List.getElem?_eq_some_iff.1 hu).1;have h3:=hcell j (by omega);rw [hu,add_plain,add_plain] at h3;exact h3
   have hbl:b < W.heap.size:=World.block_lt_of_cell? _ _ (hc2 0 _ (List.getElem?_eq_getElem (by omega)));have hwi:=hall i (by omega);generalize elems[i]=y at h2 hwi;obtain ⟨xs,q2,-,hy,-,hxl,hg⟩:=DataW.trod_struct Tryz.underlying62 h2
   match cs,hcl with
   | [v0,v1],_=>
     match xs,hxl with
     | [y0,y1],_=>have g0:=hg 0 _ rfl;have g1:=hg 1 _ rfl;simp only [zK,OQ,List.drop_zero,List.drop_succ_cons,List.take_succ_cons,List.take_zero,List.getElem?_cons_zero,List.getElem?_cons_succ] at g0 g1;obtain ⟨z0,rfl,h0⟩:=jL Tryz.underlying3 g0;obtain ⟨dw,is,bJ,rfl,hfl,-,-,hin⟩:=WR g1;have hln:=am0 g1 (fun m hm=>hwi m (by subst hy;simp only [DataW.weights,Tryz.underlying62,List.map_cons,List.map_nil,DataW.weightsEach];exact List.mem_append_right _ (List.mem_append_left _ hm)));exact ⟨⟨z0,is⟩,b,off,dw,bJ,rfl,hbl,by simpa using hc2 0 _ rfl,hc2 1 _ rfl,hln,hfl,hin⟩)
  exact ⟨some a,l,cap,by rw [h1]; exact hcs,h2,by omega,h3⟩
theorem UK {v:Value} {d:DataW H} {p:List MemPlace} (hv:Value.okWide Tryz.prog W .any base 33 v)
 (h:DataW.Trod enc Tryz.prog W 0 (fun _=>true) true 33 v d p) (hw: ∀m ∈ d.weights Tryz.prog 33,m<=reachBytes):
 ∃(D:Wo) (s:gW) (l:List qJ) (ao:Option Addr) (cap:Nat),v= .agg #[.slice s.aC D.cs.length s.cC,.slice s.aL D.ls.length s.cL,.slice s.aN D.ns.length s.cN,.slice s.aF D.fs.length s.cF,.slice s.aT D.ts.length s.cT,.slice s.aS D.ss.length s.cS,.slice ao l.length cap]∧dR W W.heap.size D s∧N7 D∧mg W W.heap.size l ao 0∧l.length<=maxLen∧ ∀t ∈ l,∀i ∈ t.is,KR i:=by
 obtain ⟨cs,rfl,hsz⟩:=okWide_struct Tryz.underlying33 hv;rw [TQ] at hsz;obtain ⟨fuel,hf⟩:=h;have hf:DataW.trod enc Tryz.prog W 0 (fun _=>true) true fuel 33 cs.toList=some (d,p):=hf;obtain ⟨xs,q,-,hd,-,hxl,hg⟩:=DataW.trod_struct Tryz.underlying33 hf;obtain ⟨cs⟩:=cs
 match cs,hsz with
 | [v0,v1,v2,v3,v4,v5,v6],_=>
   match xs,hxl with
   | [y0,y1],_=>
     have g0:DataW.trod enc Tryz.prog W 0 (fun _=>true) true q 28 [v0,v1,v2,v3,v4,v5]=some y0:=by have h0:DataW.trod enc Tryz.prog W 0 (fun _=>true) true q 28 (List.take (Tryz.prog.cellsOf 28) (List.drop 0 [v0,v1,v2,v3,v4,v5,v6]))=some y0:=hg 0 _ rfl;rw [Iu] at h0;exact h0
     have g1:DataW.trod enc Tryz.prog W 0 (fun _=>true) true q 31 [v6]=some y1:=by have h0:DataW.trod enc Tryz.prog W 0 (fun _=>true) true q 31 (List.take (Tryz.prog.cellsOf 31) (List.drop 6 [v0,v1,v2,v3,v4,v5,v6]))=some y1:=hg 1 _ rfl;rw [OT] at h0;exact h0
     obtain ⟨D,s,hc,hat,hi⟩:=G9 rfl g0;obtain ⟨ao,l,cap,rfl,htc,hl,hin⟩:=Xx g1 (fun m hm=>hw m (by injection hd with hd1 hd2;subst hd1;simp only [DataW.weights,Tryz.underlying33,List.map_cons,List.map_nil,DataW.weightsEach];exact List.mem_append_right _ (List.mem_append_left _ hm)));simp only [List.cons.injEq,and_true] at hc;obtain ⟨rfl,rfl,rfl,rfl,rfl,rfl⟩:=hc;exact ⟨D,s,l,ao,cap,rfl,hat,hi,htc,hl,hin⟩
end
end Go.Proofs.YtgjmahnblcajbaaGreatDoor
