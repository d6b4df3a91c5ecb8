/- How long code may be: weights of expressions and statements, and what they bound. No program text in sight. And what hangs on it. -/
import Derived.Test.YtcjgfgkllmldpaaGreatDoorGMJ
set_option linter.unusedSimpArgs false
set_option linter.unusedVariables false
set_option maxHeartbeats 40000000
set_option maxRecDepth 1000000
namespace Go.Proofs.YtcjgfgkllmldpaaGreatDoor
open Go.RowKit
namespace Md
def fH:bV->Nat
 | .nil=>0
 | .cons _ _ _ kids rest=>1+fH kids+fH rest
def iT (h:dM):Nat:=3+fH h.bM+fH h.idx
def lJ:bf->Nat
 | .nil=>0
 | .cons h b e r=>iT h+lJ b+lJ e+lJ r
theorem uL: ∀l:bf,dB l<=lJ l
 | .nil=>aD _
 | .cons h b e r=>by have h1:=uL b;have h2:=uL e;have h3:=uL r;rw[dB,lJ];unfold iT;omega
theorem Qh (W:Wo) (lc:List ByteArray) (st:Int): ∀(l:bV) (d:Int),(Jd W lc st l d).length<=fH l
 | .nil,_=>aD _
 | .cons op n nm kids rest,d=>by
   have h1:=Qh W lc st kids d;have h2:=Qh W lc st rest (d+1);rw[Jd,fH,au];split
   ·simp only[List.length_singleton];omega
   ·simp only[au,List.length_singleton];omega
theorem ku (W:Wo) (lc:List ByteArray) (st op n:Int) (nm:ByteArray) (kids:bV) (d:Int):(lY W lc st op n nm kids d).length<=1+fH kids:=by
 unfold lY;have h1:=Qh W lc st kids d;split
 ·simp only[List.length_singleton];omega
 ·simp only[au,List.length_singleton];omega
theorem aL3 (W:Wo) (lc:List ByteArray) (st:Int) (h:dM):(EZ W lc st h).length<=iT h:=by
 unfold EZ iT;split
 ·have:=ku W lc st h.dY h.xn h.dX h.bM lc.length;simp only[iX,au,List.length_singleton];omega
 ·rename_i op n nm kids r hi;have h1:=ku W lc st h.dY h.xn h.dX h.bM (lc.length+1);have h2:=ku W lc st op n nm kids lc.length;simp only[iX,au,List.length_singleton];rw[hi,fH];omega
theorem aA0 (W:Wo) (lc:List ByteArray) (st:Int) (h:dM):(yX W lc st h).length<=iT h:=by
 have hv:=ku W lc st h.dY h.xn h.dX h.bM lc.length;have h1:3<=iT h:=agZ
 have h2:1+fH h.bM+1<=iT h:=agZ
 unfold yX;split
 ·exact aL3 W lc st h
 all_goals (repeat' split)
 all_goals simp only[iX,au,List.length_singleton,aP]
 all_goals omega
theorem Vq (W:Wo) (lc:List ByteArray) (st:Int) (h:dM) (B E:List dw) (ne:Bool) (pos:Nat):(GR W lc st h (iX W lc st h lc.length) B E ne pos).length<=iT h+B.length+E.length:=by
 have hv:=ku W lc st h.dY h.xn h.dX h.bM lc.length;have ho:=aA0 W lc st h;have h2:1+fH h.bM+2<=iT h:=agZ
 unfold GR
 repeat' split
 all_goals try simp only[iX,au,List.length_singleton,aP]
 all_goals omega
theorem ru (W:Wo) (lc:List ByteArray): ∀(l:bf) (nx pos:Nat),(ko W lc l nx pos).length<=lJ l
 | .nil,_,_=>aD _
 | .cons h b e r,nx,pos=>by rw[ko,lJ,au];have hs:=Vq W lc nx h (ko W lc b (nx+1) (pos+rM h (iX W lc nx h lc.length))) (ko W lc e (nx+1+dB b) (pos+rM h (iX W lc nx h lc.length)+(ko W lc b (nx+1) (pos+rM h (iX W lc nx h lc.length))).length+1)) e.none pos;have hb:=ru W lc b (nx+1) (pos+rM h (iX W lc nx h lc.length));have he:=ru W lc e (nx+1+dB b) (pos+rM h (iX W lc nx h lc.length)+(ko W lc b (nx+1) (pos+rM h (iX W lc nx h lc.length))).length+1);have hr:=ru W lc r (nx+1+dB b+dB e) (pos+(GR W lc nx h (iX W lc nx h lc.length) (ko W lc b (nx+1) (pos+rM h (iX W lc nx h lc.length))) (ko W lc e (nx+1+dB b) (pos+rM h (iX W lc nx h lc.length)+(ko W lc b (nx+1) (pos+rM h (iX W lc nx h lc.length))).length+1)) e.none pos).length);omega
end Md
open Md
namespace Md
section
variable {α:Type} {f:α->List Value} {m:Nat} {w w':World} {B B':Nat}
theorem dS.below (hb:Below B w w'): ∀ {l:List α} {ao:Option Addr} {k:Nat},dS f m w B l ao k->dS f m w' B l ao k
 | [],_,_,_=>trivial
 |_::_,_,_,⟨⟨b,off,e,hB,c⟩,hr⟩=>⟨⟨b,off,e,hB,λj u hu=>(hb.cell hB).trans (c j u hu)⟩,dS.below hb hr⟩
theorem dS.mono (h:B<=B'): ∀ {l:List α} {ao:Option Addr} {k:Nat},dS f m w B l ao k->dS f m w B' l ao k
 | [],_,_,_=>trivial
 |_::_,_,_,⟨⟨b,off,e,hB,c⟩,hr⟩=>⟨⟨b,off,e,aV hB h,c⟩,dS.mono h hr⟩
theorem dS.same {l:List α} {ao:Option Addr} {k:Nat} (h:dS f m w w.heap.size l ao k) (hb:Below w.heap.size w w'):dS f m w' w'.heap.size l ao k:=(h.below hb).mono hb.size
theorem dS.at: ∀ {l:List α} {ao:Option Addr} {k:Nat} (i:Nat) (x:α),dS f m w B l ao k->l[i]? =some x->∃b off,ao=some ⟨b,off,none⟩∧b<B∧∀(j:Nat) (u:Value),(f x)[j]? =some u->w.cell? ⟨b,off+(k+i)*m+j,none⟩=some u
 | [],_,_,i,x,_,h=>ahv
 |y::r,_,k,0,x,⟨h1,_⟩,h=>by simp at h;subst h;exact h1
 |y::r,_,k,i+1,x,⟨_,h2⟩,h=>by have:=dS.at i x h2 aiy;rw[show k+(i+1)=k+1+i by omega];exact this
theorem dS.mk: ∀ {l:List α} {ao:Option Addr} {k:Nat},(∀(i:Nat) (x:α),l[i]? =some x->∃b off,ao=some ⟨b,off,none⟩∧b<B∧∀(j:Nat) (u:Value),(f x)[j]? =some u->w.cell? ⟨b,off+(k+i)*m+j,none⟩=some u)->dS f m w B l ao k
 | [],_,_,_=>trivial
 |x::r,_,k,h=>⟨h 0 x rfl,dS.mk (λi y hy=>by have:=h (i+1) y aip;rw[show k+1+i=k+(i+1) by omega];exact this)⟩
theorem R3: ∀ {l:List α} {ao:Option Addr} {k:Nat} (i:Nat),dS f m w B l ao k->dS f m w B (l.drop i) ao (k+i)
 |_,_,_,0,h=>h
 | [],_,_,_+1,_=>by simp[dS]
 |_::_,_,k,i+1,⟨_,hr⟩=>by have:=R3 i hr;rw[List.drop_succ_cons];rwa [Nat.add_assoc,Nat.add_comm 1 i]at this
theorem gN {base:Nat} {T:TypeId} {v:Value} {xs:List α} (hf: ∀x,(f x).length=m) (h:w.ownsRow base T m v xs.length (xs.flatMap f)): ∃ao cap,v= .slice ao xs.length cap∧xs.length<=cap∧cap<=maxLen∧dS f m w w.heap.size xs ao 0:=by
 rcases h.2 with⟨rfl,hn⟩|⟨g,cap,cur,rfl,hb,hg,h1,h2,h3,h4⟩
 ·have:xs=[]:=List.eq_nil_of_length_eq_zero hn;subst this;exact⟨none,0,rfl,aD _,bC _,trivial⟩
 ·refine⟨_,_,rfl,h1,h2,dS.mk (λi x hx=>⟨g,0,rfl,(aI hg),λj u hu=> ?_⟩)⟩;have hF:=flat_get hf xs i x j u hx hu;rw[<- h4]at hF;have hlt:=(List.getElem?_eq_some_iff.1 hF).1;rw[List.getElem?_take_of_lt acI]at hF;have:0+(0+i)*m+j=i*m+j:=by simp
  rw[this];exact aG hg ahL
end
end Md
namespace Md
structure jr where
 aC:Option Addr
 aL:Option Addr
 aN:Option Addr
 aF:Option Addr
 aT:Option Addr
 aS:Option Addr
 cC:Nat
 cL:Nat
 cN:Nat
 cF:Nat
 cT:Nat
 cS:Nat
structure gq (w:World) (B:Nat) (W:Wo) (s:jr):Prop where
 cs:dS kM 5 w B W.cs s.aC 0
 ls:dS mW 2 w B W.ls s.aL 0
 ns:dS yB 2 w B W.ns s.aN 0
 fs:fT w B W.fs s.aF 0
 ts:fT w B W.ts s.aT 0
 ss:dS sZ 3 w B W.ss s.aS 0
 lc:W.cs.length<=maxLen
 ll:W.ls.length<=maxLen
 ln:W.ns.length<=maxLen
 lf:W.fs.length<=maxLen
 lt:W.ts.length<=maxLen
 lS:W.ss.length<=maxLen
 ok: ∀c∈W.cs,cO c.sz
theorem gq.below {w w':World} {B:Nat} {W:Wo} {s:jr} (h:gq w B W s) (hb:Below B w w'):gq w' B W s:=
 ⟨h.cs.below hb,h.ls.below hb,h.ns.below hb,h.fs.below hb,h.ts.below hb,h.ss.below hb,h.lc,h.ll,h.ln,h.lf,h.lt,h.lS,h.ok⟩
theorem gq.mono {w:World} {B B':Nat} {W:Wo} {s:jr} (h:gq w B W s) (hb:B<=B'):gq w B' W s:=
 ⟨h.cs.mono hb,h.ls.mono hb,h.ns.mono hb,h.fs.mono hb,h.ts.mono hb,h.ss.mono hb,h.lc,h.ll,h.ln,h.lf,h.lt,h.lS,h.ok⟩
theorem gq.same {w w':World} {W:Wo} {s:jr} (h:gq w w.heap.size W s) (hb:Below w.heap.size w w'):gq w' w'.heap.size W s:=(h.below hb).mono hb.size
structure GL where
 B0:Nat
 gb:Nat
 B1:Nat
 b0:B0<=gb
 b1:gb<B1
def Un (W:Wo) (s:jr) (lc:List ByteArray) (al:Option Addr) (cl:Nat) (v:Value) (a b:Int):Array Value:=
 #[.slice s.aC W.cs.length s.cC,.slice s.aL W.ls.length s.cL,.slice s.aN W.ns.length s.cN,.slice s.aF W.fs.length s.cF,.slice s.aT W.ts.length s.cT,.slice s.aS W.ss.length s.cS,.slice al lc.length cl,v,.int .i64 a,.int .i64 b]
end Md
theorem wW: ∀x:dw,(jd x).length=6:=λ_=>rfl
structure Kg (L:GL) (v:Value) (w w':World):Prop where
 os:w'.os=w.os
 tape:w'.tape=w.tape
 output:w'.output=w.output
 size:w.heap.size<=w'.heap.size
 block: ∀k,k<w.heap.size->k≠L.gb->v.ownBlock≠some k->w'.heap[k]? =w.heap[k]?
def pI (w:World) (v v':Value):Prop:=v'.ownBlock=v.ownBlock∨∃g,v'.ownBlock=some g∧w.heap.size<=g
section
variable {L:GL} {v v1 v2:Value} {w w1 w2 w':World}
theorem Kg.refl (L:GL) (v:Value) (w:World):Kg L v w w:=⟨rfl,rfl,rfl,aD _,λ_ _ _ _=>rfl⟩
theorem Kg.of_below (h:Below w.heap.size w w'):Kg L v w w':=⟨h.os,h.tape,h.output,h.size,λk hk _ _=>h.block k hk⟩
theorem Kg.trans (h:Kg L v w w1) (ho:pI w v v1) (k:Kg L v1 w1 w2):Kg L v w w2:=
 ⟨k.os.trans h.os,k.tape.trans h.tape,k.output.trans h.output,aO h.size k.size,λj hj hc hv=>(k.block j (aV hj h.size) hc (by
   rcases ho with e|⟨g,e,hg⟩
   ·rw[e];exact hv
   ·rw[e];intro e';injection e' with e';omega)).trans (h.block j hj hc hv)⟩
theorem Kg.below (h:Kg L v w w') (hB:L.B0<=w.heap.size) (hv: ∀k,v.ownBlock=some k->L.B1<=k):Below L.B0 w w':=
 ⟨h.os,h.tape,h.output,h.size,λk hk=>h.block k ahf (by have:=L.b0;omega) (λe=>by have:=hv k e;have:=L.b0;have:=L.b1;omega)⟩
theorem Kg.set (w:World) (j:Nat) (x:Value):Kg L v w (w.setCell ⟨L.gb,j,none⟩ x):=by
 have h:=bQ w ⟨L.gb,j,none⟩ x;exact⟨h.os,h.tape,h.output,h.size,λk hk hc _=>h.block k hk ahR⟩
theorem pI.refl (w:World) (v:Value):pI w v v:= .inl rfl
theorem pI.trans (h:pI w v v1) (k:pI w1 v1 v2) (hs:w.heap.size<=w1.heap.size):pI w v v2:=by
 rcases k with e|⟨g,e,hg⟩
 ·rcases h with e'|⟨g,e',hg⟩
  ·exact .inl (e.trans e')
  ·exact .inr ⟨g,e.trans e',hg⟩
 ·exact .inr ⟨g,e,aO hs hg⟩
theorem pI.ne {k:Nat} (h:pI w v v1) (hk:k<w.heap.size) (hv:v.ownBlock≠some k):v1.ownBlock≠some k:=by
 rcases h with e|⟨g,e,hg⟩
 ·rw[e];exact hv
 ·rw[e];intro e';injection e' with e';omega
end
structure iE (T:TypeId) (w:World) (L:GL) (W:Wo) (s:jr) (lc:List ByteArray) (al:Option Addr) (cl:Nat) (v:Value) (code:List dw) (a b:Int):Prop where
 blk:w.heap[L.gb]? =some (.cells (Un W s lc al cl v a b) T (0,0))
 row:w.ownsRow L.B1 40 6 v code.length (code.flatMap jd)
 sz:L.B1<=w.heap.size
 wo:gq w L.B0 W s
 few:lc.length<=1000
 lc:fT w L.B0 lc al 0
theorem oW {w:World} {b o:Nat} {cur cur':Array Value} {e:TypeId} {fr:Nat×Nat} (h:w.heap[b]? =some (.cells cur e fr)) (v:Value) (hc:cur.setIfInBounds o v=cur'):(w.setCell ⟨b,o,none⟩ v).heap[b]? =some (.cells cur' e fr):=by
 rw[<- hc];exact dQ h v
section
variable {T:TypeId} {w w':World} {L:GL} {W:Wo} {s:jr} {lc:List ByteArray} {al:Option Addr} {cl:Nat} {v:Value} {code:List dw} {a b:Int}
theorem iE.b0 (h:iE T w L W s lc al cl v code a b):L.B0<=w.heap.size:=by have:=h.sz;have:=L.b0;have:=L.b1;omega
theorem iE.own (h:iE T w L W s lc al cl v code a b): ∀k,v.ownBlock=some k->L.B1<=k∧k<w.heap.size:=h.row.lt
theorem iE.keep (h:iE T w L W s lc al cl v code a b) (hk:Kg L v w w'):Below L.B0 w w':=hk.below h.b0 (λk e=>(h.own k e).1)
theorem iE.form (h:iE T w L W s lc al cl v code a b): ∃ao cap,v= .slice ao code.length cap∧code.length<=cap∧cap<=maxLen:=by
 obtain⟨ao,cap,e,h1,h2,-⟩:=gN wW h.row;exact⟨ao,cap,e,h1,h2⟩
theorem iE.below (h:iE T w L W s lc al cl v code a b) (hb:Below w.heap.size w w'):iE T w' L W s lc al cl v code a b where
 blk:=(hb.block _ (aI h.blk)).trans h.blk
 row:=h.row.kept (row:=none) ⟨hb.os,hb.tape,hb.output,hb.size,λk hk _=>hb.block k hk⟩ acY
 sz:=aO h.sz hb.size
 wo:=h.wo.below (hb.mono h.b0)
 few:=h.few
 lc:=h.lc.below (hb.mono h.b0)
theorem iE.cells (h:iE T w L W s lc al cl v code a b):L.gb<w.heap.size∧w.cell? ⟨L.gb,0,none⟩=some (.slice s.aC W.cs.length s.cC)∧w.cell? ⟨L.gb,1,none⟩=some (.slice s.aL W.ls.length s.cL)∧w.cell? ⟨L.gb,2,none⟩=some (.slice s.aN W.ns.length s.cN)∧w.cell? ⟨L.gb,3,none⟩=some (.slice s.aF W.fs.length s.cF)∧
 w.cell? ⟨L.gb,4,none⟩=some (.slice s.aT W.ts.length s.cT)∧w.cell? ⟨L.gb,5,none⟩=some (.slice s.aS W.ss.length s.cS)∧w.cell? ⟨L.gb,6,none⟩=some (.slice al lc.length cl)∧w.cell? ⟨L.gb,7,none⟩=some v∧w.cell? ⟨L.gb,8,none⟩=some (.int .i64 a)∧w.cell? ⟨L.gb,9,none⟩=some (.int .i64 b)∧∀j,w.frozen? ⟨L.gb,j,none⟩=false:=
 ⟨(aI h.blk),aG h.blk rfl,aG h.blk rfl,aG h.blk rfl,aG h.blk rfl,aG h.blk rfl,aG h.blk rfl,aG h.blk rfl,aG h.blk rfl,aG h.blk rfl,aG h.blk rfl,λ_=>bG h.blk⟩
theorem iE.setOf (h:iE T w L W s lc al cl v code a b) (j:Nat) (x:Value) (OL:List ByteArray) (al':Option Addr) (cl':Nat) (v':Value) (code':List dw) (a' b':Int)
 (hc:(Un W s lc al cl v a b).setIfInBounds j x=Un W s OL al' cl' v' a' b') (hl:fT w L.B0 OL al' 0) (hf:OL.length<=1000) (hr:w.ownsRow L.B1 40 6 v' code'.length (code'.flatMap jd)):iE T (w.setCell ⟨L.gb,j,none⟩ x) L W s OL al' cl' v' code' a' b':=by
 have hg:=bQ w ⟨L.gb,j,none⟩ x;have hb:Below L.B0 w (w.setCell ⟨L.gb,j,none⟩ x):=cB hg L.b0 h.b0;refine⟨oW h.blk _ hc,hr.kept hg ?_,aO h.sz hg.size,h.wo.below hb,hf,hl.below hb⟩;cases hv:v'.ownBlock with
 |none=>exact .inl rfl
 |some k=>refine .inr (λe=> ?_);have:=(hr.lt k hv).1;have:=L.b1;injection e with e;simp only at e;omega
theorem iE.KN (h:iE T w L W s lc al cl v code a b) (x:Int):iE T (w.setCell ⟨L.gb,8,none⟩ (.int .i64 x)) L W s lc al cl v code x b:=h.setOf 8 _ _ _ _ _ _ _ _ rfl h.lc h.few h.row
theorem iE.jA (h:iE T w L W s lc al cl v code a b) (x:Int):iE T (w.setCell ⟨L.gb,9,none⟩ (.int .i64 x)) L W s lc al cl v code a x:=h.setOf 9 _ _ _ _ _ _ _ _ rfl h.lc h.few h.row
theorem iE.bL1 (h:iE T w L W s lc al cl v code a b) {OL:List ByteArray} {al':Option Addr} (cl':Nat) (hl:fT w L.B0 OL al' 0) (hf:OL.length<=1000):iE T (w.setCell ⟨L.gb,6,none⟩ (.slice al' OL.length cl')) L W s OL al' cl' v code a b:=h.setOf 6 _ _ _ _ _ _ _ _ rfl hl hf h.row
theorem iE.bL2 (h:iE T w L W s lc al cl v code a b):iE T (w.setCell ⟨L.gb,7,none⟩ (.slice none 0 0)) L W s lc al cl (.slice none 0 0) [] a b:=h.setOf 7 _ _ _ _ _ _ _ _ rfl h.lc h.few (World.ownsRow_nil _ _ _ _)
theorem iE.push {wz w4:World} {g' cap':Nat} (h:iE T w L W s lc al cl v code a b) (x:dw) (hb:Below w.heap.size w wz) (hown:w4.ownsRow L.B1 40 6 (.slice (some ⟨g',0,none⟩) (code.length+1) cap') (code.length+1) (code.flatMap jd++jd x)) (hgr:wz.grownBy w4 v.ownBlock) (hat:v.ownBlock=some g'∨wz.heap.size<=g'):
 iE T (w4.setCell ⟨L.gb,7,none⟩ (.slice (some ⟨g',0,none⟩) (code.length+1) cap')) L W s lc al cl (.slice (some ⟨g',0,none⟩) (code.length+1) cap') (code++[x]) a b∧
 Kg L v w (w4.setCell ⟨L.gb,7,none⟩ (.slice (some ⟨g',0,none⟩) (code.length+1) cap'))∧pI w v (.slice (some ⟨g',0,none⟩) (code.length+1) cap'):=by
 have hsz:w.heap.size<=w4.heap.size:=aO hb.size hgr.size;have hlow: ∀k,k<w.heap.size->v.ownBlock≠some k->w4.heap[k]? =w.heap[k]?:=λk hk hv=>(hgr.block k (aV hk hb.size) (λe=>hv e.symm)).trans (hb.block k hk);have hnb: ∀k,k<L.B1->v.ownBlock≠some k:=λk hk e=>by have:=(h.own k e).1;omega
 have hbel:Below L.B0 w w4:=⟨hgr.os.trans hb.os,hgr.tape.trans hb.tape,hgr.output.trans hb.output,hsz,λk hk=>by have:=L.b0;have:=L.b1;have:=h.b0;exact hlow k ahf (hnb k ahf)⟩;have h4:iE T w4 L W s lc al cl v code a b∨True:= .inr trivial;have hblk:w4.heap[L.gb]? =some (.cells (Un W s lc al cl v a b) T (0,0)):=(hlow _ (aI h.blk) (hnb _ L.b1)).trans h.blk;have hg:=bQ w4 ⟨L.gb,7,none⟩ (.slice (some ⟨g',0,none⟩) (code.length+1) cap');have hb2:Below L.B0 w4 (w4.setCell ⟨L.gb,7,none⟩ (.slice (some ⟨g',0,none⟩) (code.length+1) cap')):=cB hg L.b0 (aO h.b0 hsz);have hown':w4.ownsRow L.B1 40 6 (.slice (some ⟨g',0,none⟩) (code.length+1) cap') (code++[x]).length ((code++[x]).flatMap jd):=aan
 have hlt:=(hown.lt g' rfl).1;refine⟨⟨oW hblk _ rfl,hown'.kept hg (.inr ?_),aO (aO h.sz hsz) hg.size,(h.wo.below hbel).below hb2,h.few,(h.lc.below hbel).below hb2⟩,?_,?_⟩
 ·intro e;have:=L.b1;injection e with e;simp only at e;omega
 ·exact⟨hg.os.trans hbel.os,hg.tape.trans hbel.tape,hg.output.trans hbel.output,aO hsz hg.size,λk hk hc hv=>(hg.block k (aV hk hsz) ahR).trans (hlow k hk hv)⟩
 ·rcases hat with e|e
  ·exact .inl ahB
  ·exact .inr ⟨g',rfl,aO hb.size e⟩
end
section
variable {w:World} {base:Nat} {e:TypeId} {size:Nat} {n cap g:Nat} {xs:List Value}
theorem Rm (h:w.ownsRow base e size (.slice (some ⟨g,0,none⟩) n cap) n xs) (j:Nat) (u:Value) (hj:j<xs.length):(w.setCell ⟨g,j,none⟩ u).ownsRow base e size (.slice (some ⟨g,0,none⟩) n cap) n (xs.set j u):=by
 rcases h.2 with⟨h1,-⟩|⟨g',cap',cur,e1,hb,hg,hc,hm,hs,ht⟩
 ·cases h1
 ·injection e1 with e1 e2 e3;injection e1 with e1;injection e1 with e1;subst e1;subst e3;refine⟨by rw[List.length_set];exact h.1,.inr ⟨g,cap,cur.setIfInBounds j u,rfl,hb,dQ hg u,hc,hm,by simpa using hs,?_⟩⟩;rw[Array.toList_setIfInBounds,<- ht,List.take_set]
end
theorem Kh {α:Type} {f:α->List Value} {m:Nat} (hf: ∀x,(f x).length=m): ∀(xs:List α) (k:Nat) (x y:α) (j:Nat) (u:Value),xs[k]? =some x->j<m->f y=(f x).set j u->(xs.flatMap f).set (k*m+j) u=(xs.set k y).flatMap f
 | [],_,_,_,_,_,h,_,_=>ahv
 |z::xs,0,x,y,j,u,h,hj,hy=>by simp at h;subst h;rw[List.flatMap_cons,List.set_cons_zero,List.flatMap_cons,Nat.zero_mul,aU,hy,List.set_append_left _ _ (by rw[hf];exact hj)]
 |z::xs,k+1,x,y,j,u,h,hj,hy=>by
  have ih:=Kh hf xs k x y j u aiy hj hy;have e:(k+1)*m+j=m+(k*m+j):=by rw[Nat.add_mul];omega
  rw[List.flatMap_cons,List.set_cons_succ,List.flatMap_cons,<- ih,List.set_append_right _ _ (by rw[hf,e];omega),hf,e,Nat.add_sub_cancel_left]
section
variable {T:TypeId} {w w':World} {L:GL} {W:Wo} {s:jr} {lc:List ByteArray} {al:Option Addr} {cl:Nat} {v:Value} {code:List dw} {a b:Int}
theorem iE.patch {g cap:Nat} (h:iE T w L W s lc al cl (.slice (some ⟨g,0,none⟩) code.length cap) code a b) (k j:Nat) (x y:dw) (u:Value) (hx:code[k]? =some x) (hj:j<6) (hy:jd y=(jd x).set j u):
 iE T (w.setCell ⟨g,k*6+j,none⟩ u) L W s lc al cl (.slice (some ⟨g,0,none⟩) code.length cap) (code.set k y) a b∧Kg L (.slice (some ⟨g,0,none⟩) code.length cap) w (w.setCell ⟨g,k*6+j,none⟩ u):=by
 have hg:=bQ w ⟨g,k*6+j,none⟩ u;have hlt:=h.own g rfl;have hb:Below L.B0 w (w.setCell ⟨g,k*6+j,none⟩ u):=cB hg (by have:=L.b0;have:=L.b1;show L.B0<=g;omega) h.b0;have hk:k<code.length:=(List.getElem?_eq_some_iff.1 hx).1;have hjl:k*6+j<(code.flatMap jd).length:=by rw[rW wW];omega
 refine⟨⟨(hg.block _ (aI h.blk) (by have:=L.b1;simp;omega)).trans h.blk,?_,aO h.sz hg.size,h.wo.below hb,h.few,h.lc.below hb⟩,hg.os,hg.tape,hg.output,hg.size,λi hi _ hv=>hg.block i hi (λe=>hv e.symm)⟩;have:=Rm h.row (k*6+j) u hjl;rw[Kh wW code k x y j u hx hj hy]at this;rw[List.length_set];exact this
end
def mQ (W:Wo) (s:jr):Value:= .agg #[.slice s.aC W.cs.length s.cC,.slice s.aL W.ls.length s.cL,.slice s.aN W.ns.length s.cN,.slice s.aF W.fs.length s.cF,.slice s.aT W.ts.length s.cT,.slice s.aS W.ss.length s.cS]
theorem aI2:(Tryz.prog.info? 40).map (λi=>(i.zero,i.size,i.bytes))=some (some (.agg #[.int .i64 0,.int .i64 0,.int .i64 0,.int .i64 0,.int .i64 0,.int .i64 0]),6,48):=ahe
theorem Ai {o:Option TypeInfo} {z:Option Value} {a b:Nat} (h:o.map (λi=>(i.zero,i.size,i.bytes))=some (z,a,b)): ∃i0,o=some i0∧i0.zero=z∧i0.size=a∧i0.bytes=b:=by
 cases o with
 |none=>cases h
 |some i=>simp at h;exact⟨i,rfl,h.1,h.2.1,h.2.2⟩
theorem bf8 (x:dw): ∀u∈jd x,u.oneCell'=true:=by
 intro u hu;simp[jd]at hu;rcases hu with rfl|rfl|rfl|rfl|rfl|rfl <;> rfl
def GK (x:dw):Value:= .agg #[.int .i64 x.op,.int .i64 x.a,.int .i64 x.b,.int .i64 x.c,.int .i64 x.n,.int .i64 x.st]
def Qm (T:TypeId) (w:World) (L:GL) (W:Wo) (s:jr) (lc:List ByteArray) (al:Option Addr) (cl:Nat) (v:Value) (code:List dw) (a b:Int) (xs:List dw) (w':World):Prop:=
 ∃v',iE T w' L W s lc al cl v' (code++xs) a b∧Kg L v w w'∧pI w v v'
section
variable {T:TypeId} {w w1 w2 w':World} {L:GL} {W:Wo} {s:jr} {lc:List ByteArray} {al:Option Addr} {cl:Nat} {v:Value} {code:List dw} {a b:Int} {xs ys:List dw}
theorem Qm.pre (hb:Below w.heap.size w w1) (h:Qm T w1 L W s lc al cl v code a b xs w'):Qm T w L W s lc al cl v code a b xs w':=by
 obtain⟨v',h1,h2,h3⟩:=h;exact⟨v',h1,(Kg.of_below hb).trans (.inl rfl) h2,(pI.refl w v).trans h3 hb.size⟩
theorem Qm.then (h:Qm T w L W s lc al cl v code a b xs w1) (k: ∀v',iE T w1 L W s lc al cl v' (code++xs) a b->Qm T w1 L W s lc al cl v' (code++xs) a b ys w'):Qm T w L W s lc al cl v code a b (xs++ys) w':=by
 obtain⟨v',h1,h2,h3⟩:=h;obtain⟨v2,k1,k2,k3⟩:=k v' h1;exact⟨v2,aeE,h2.trans h3 k2,h3.trans k3 h2.size⟩
end
structure kU (T:TypeId) (w:World) (L:GL) (W:Wo) (s:jr) (lc:List ByteArray) (al:Option Addr) (cl:Nat) (v:Value) (code:List dw) (a b:Int) (nb:Nat) (cs:Array Value) (ty:TypeId) (xs:List dw) (w2:World) (v2:Value):Prop where
 i:iE T w2 L W s lc al cl v2 (code++xs) a b
 k:Kg L v w w2
 o:pI w v v2
 x:w2.heap[nb]? =some (.cells cs ty (0,0))
 g:L.B1<=nb
 n:v2.ownBlock≠some nb
section
variable {T ty:TypeId} {w w1 w2 w':World} {L:GL} {W:Wo} {s:jr} {lc:List ByteArray} {al:Option Addr} {cl nb:Nat} {v v2:Value} {code:List dw} {a b:Int} {xs ys:List dw} {cs:Array Value}
theorem kU.start (h:iE T w L W s lc al cl v code a b) (hb:Below w.heap.size w w1) (hn:w.heap.size=nb) (hx:w1.heap[nb]? =some (.cells cs ty (0,0))):kU T w L W s lc al cl v code a b nb cs ty [] w1 v:=
 ⟨by simpa using h.below hb,Kg.of_below hb,.inl rfl,hx,by rw[<- hn];exact h.sz,λe=>by have:=(h.own _ e).2;omega⟩
theorem kU.then (h:kU T w L W s lc al cl v code a b nb cs ty xs w2 v2) (k:Qm T w2 L W s lc al cl v2 (code++xs) a b ys w'): ∃v3,kU T w L W s lc al cl v code a b nb cs ty (xs++ys) w' v3:=by
 obtain⟨v3,k1,k2,k3⟩:=k;have hlt:=(aI h.x);exact⟨v3,aeE,h.k.trans h.o k2,h.o.trans k3 h.k.size,(k2.block nb hlt adD h.n).trans h.x,h.g,k3.ne hlt h.n⟩
theorem kU.below (h:kU T w L W s lc al cl v code a b nb cs ty xs w2 v2) (hb:Below w2.heap.size w2 w'):kU T w L W s lc al cl v code a b nb cs ty xs w' v2:=
 ⟨h.i.below hb,h.k.trans h.o (Kg.of_below hb),h.o,(hb.block nb (aI h.x)).trans h.x,h.g,h.n⟩
theorem kU.fin (h:kU T w L W s lc al cl v code a b nb cs ty xs w2 v2) (e:xs=ys):Qm T w L W s lc al cl v code a b ys w2:=by
 subst e;exact⟨v2,h.i,h.k,h.o⟩
end
theorem nV {w:World} {L:GL} {W:Wo} {s:jr} {lc:List ByteArray} {al:Option Addr} {cl:Nat} {v:Value} {code:List dw} {a b:Int} (h:iE 106 w L W s lc al cl v code a b) (x:dw) (hl:code.length+1<=1000000000000):
 Calls Tryz.prog 43 #[.pointer (some ⟨L.gb,0,none⟩),GK x] w λe w'=>e= .returned (.tuple #[])∧Qm 106 w L W s lc al cl v code a b [{x with st:=b}] w':=by
 obtain⟨ao,cap,rfl,hcap,-⟩:=h.form;obtain⟨hlt,-,-,-,-,-,-,-,c7,c8,c9,cf⟩:=h.cells;have HI:=ah h;have HL:=ah hl;clear h hl;unfold GK;go_enter Tryz.func43,Tryz.ntmps43;go_upto_region 2 with fail;generalize hW:World.alloc w _=wq;obtain⟨nb,hnb,HB,-,HX,-⟩:=oJ hW;have HQ:=ah (HI.o.below HB.o);have dG:aj (L.B1<=nb∧nb<wq.heap.size∧L.gb<wq.heap.size∧L.gb≠nb∧(Value.slice ao code.length cap).ownBlock≠some nb):=ah aaf;have HGV:aj ((Value.slice ao code.length cap).ownBlock≠some L.gb):=ah (λe=>adZ);have Sv:=ah HQ.o.cells.2.2.2.2.2.2.2.2.1;have HOW:aj (∀k,(Value.slice ao code.length cap).ownBlock=some k->k<wq.heap.size):=ah (λk e=>(HQ.o.own k e).2);rw[hnb];clear hW hnb c7 c8 c9 cf hlt;refine Fz (vF wq 4 6 7 10 (au2 40 6 wq L.B1 (Value.slice ao code.length cap).ownBlock (code.length+1) (code.flatMap jd++jd {x with st:=b})) ⟨L.gb,7,none⟩ (UA (code.length+1)) (jd {x with st:=b}).toArray 40) (Ag.le wq.heap.size) [9,10,11,12,13,14,15,16,17,18] ⟨none,false,none⟩ ahe ahe (λg w=>Ag.le_refl _ g w) aix vF.start ?_;apply oo.step
 case cu=>exact AaY
 apply oo.step
 case cu=>exact AaY
 apply oo.step
 case cu=>exact Abm
 apply oo.step
 case cu=>exact Abm
 refine oo.some (λv g _=>v= .slice ao code.length cap∧g.h=true) (λv g w g' w' hle h=>⟨h.1,hle.2.1 h.2⟩) ?_ ?_
 ·intro D A g w' hDn hC hO hD;simp[mR,ni,gQ,Act.eval,Region.binds]at hD;obtain⟨hp,hle,hm⟩:=hC.mk8 hDn ahg;have z3:=((hC.pre hp).cell (p:=⟨L.gb,7,none⟩) dG.o.2.2.1).trans Sv.o;simp[go_sem,tQ,Oper.wp,hD,z3];exact jU.mk hle hm ⟨rfl,rfl⟩
 simp only[dI];apply oo.step
 case cu=>intro D A g w' hDn hC hO hD;have e3:=hO 3 aix;simp[Act.eval]at e3;have zc:=λ(j:Nat) (u:Value) (hu:(jd {x with st:=b})[j]? =some u)=>hC.cell dG.o.2.1 dG.o.2.2.2.2 dG.o.2.2.2.1 (aG (j:=j) HX.o adj);exact AaX
 refine oo.some (λv g _=> ∃b,v= .slice (some ⟨b,0,none⟩) 1 1∧g.o=some b) (λv g w g' w' hle h=>ab8) ?_ ?_
 ·intro D A g w' hDn hC hO hD;simp[mR,ni,gQ,Act.eval,Region.binds]at hD;simp[go_sem,tQ,Oper.wp,hD];have hM:=hC.bh2 hDn ahg;exact jU.mk hM.1 hM.2 ⟨_,rfl,rfl⟩
 refine oo.some (λv g _=> ∃q,g.p=some q∧v=UA (code.length+1) q) (λv g w g' w' hle h=>abV) ?_ ?_
 ·intro D A g w' hDn hC hO hD;simp[mR,ni,gQ,Act.eval,Region.binds]at hD;obtain⟨⟨hs1,hh⟩,bb,hs2,hb⟩:=hD;simp only[tQ,if_true];have hbl:=hC.pre (hC.uY hDn);obtain⟨bJ0,av8⟩:=hC.row bb hb;have hown:=(HQ.o.below hbl).row;obtain⟨i0,hi0,hz0,hz1,hz2⟩:=Ai aI2;refine wp_append_lies w' _ _ _ aix L.B1 40 i0 _ 6 48 Tryz.underlying35 hi0 hz0 hz1 hz2 aix ahf (.slice ao code.length cap) code.length (code.flatMap jd) (by simp[Act.eval,hs1]) hown ⟨bb,0,none⟩ 1 1 (jd {x with st:=b}) (by simp[Act.eval,hs2]) aix (gG av8) (bf8 _) ahg aex agT (HQ.o.below hbl).sz _ rfl ?_;exact AaW
 simp only[dI];apply oo.step
 case cu=>exact Abm
 apply oo.step
 case cu=>exact Abm
 refine oo.some (λ_ _ _=>True) (λ_ _ _ _ _ _ _=>trivial) ?_ ?_
 ·intro D A g w' hDn hC hO hD;simp[mR,ni,gQ,Act.eval,Region.binds]at hD;obtain⟨hs1,⟨qa,qc,hq,hs2⟩,-⟩:=hD;have hR:=hC.post (qa,qc) hq hDn;have hblk:=hR.2.1.block L.gb dG.o.2.2.1 (λe=>HGV.o e.symm);have z3:=(World.cell?_of_block (a:=⟨L.gb,7,none⟩) hblk).trans Sv.o;have f3:w'.frozen? ⟨L.gb,7,none⟩=false:=by rw[World.frozen?_of_block (a:=⟨L.gb,7,none⟩) hblk];exact bG HQ.o.blk
  unfold UA at hs2;simp[go_sem,tQ,Oper.wp,hs1,hs2,z3,f3];have hM:=hC.bh4 hDn hq dG.o.2.2.1 ahg ahg;exact jU.EA (v:=undef) hM.1 hM.2 trivial
 refine oo.done ?_;intro D g wz hD hC;simp only[QM,List.nil_append,List.cons_append,List.map_cons,List.map_nil];intro v0 h0 v1 h1 v2 h2 v3 h3 v4 h4 v5 h5 v6 h6 v7 h7 v8 h8 v9 h9 v10 h10;obtain⟨q,hq,rfl⟩:=h7;obtain⟨w5,hR,hW⟩:=hC.fin q hq (hD 10 ahh);have HP:=ah (HI.o.push (wz:=wq) (w4:=w5) (g':=q.1) (cap':=q.2) {x with st:=b} HB.o hR.1 hR.2.1 hR.2.2);clear hC hD;refine mE ?_;go_simp;go_wp2_with fail;refine bodyPost_end (v:= .tuple #[]) (by simp[results,Tryz.results43,go_sem]) rfl ⟨rfl,?_⟩;exact⟨_,HP.o⟩
namespace Md
theorem IJ (W:Wo) (lc:List ByteArray) (st op n:Int) (nm:ByteArray) (kids rest:bV) (d:Int):Jd W lc st (.cons op n nm kids rest) d=lY W lc st op n nm kids d++Jd W lc st rest (d+1):=rfl
theorem nX (op n:Int) (nm:ByteArray) (kids rest:bV):nD (.cons op n nm kids rest)=(jZ op n nm kids&&nD rest):=rfl
theorem IC (W:Wo) (op n:Int) (nm:ByteArray) (kids rest:bV):Mx W (.cons op n nm kids rest)=(AP W op nm kids&&Mx W rest):=rfl
theorem Nf: ∀ {l:bV},l.len=0->l= .nil
 | .nil,_=>rfl
 | .cons _ _ _ _ _,h=>agX
theorem XQ: ∀ {l:bV},l.len=1->∃o n m k,l= .cons o n m k .nil
 | .nil,h=>agX
 | .cons o n m k r,h=>⟨o,n,m,k,by rw[Nf (l:=r) (by simpa[bV.len]using h)]⟩
theorem aN7: ∀ {l:bV},l.len=2->∃o n m k o' n' m' k',l= .cons o n m k (.cons o' n' m' k' .nil)
 | .nil,h=>agX
 | .cons o n m k r,h=>by obtain⟨o',n',m',k',e⟩:=XQ (l:=r) (by simpa[bV.len]using h);exact⟨o,n,m,k,o',n',m',k',by rw[e]⟩
theorem Pb {W:Wo} {op n:Int} {nm:ByteArray} {kids:bV} (hs:jZ op n nm kids=true) (ho:AP W op nm kids=true):
 (op=1∧kids= .nil)∨(op=2∧kids= .nil)∨(op=3∧0<=W.cell nm∧∃o n' m k,kids= .cons o n' m k .nil∧jZ o n' m k=true∧AP W o m k=true)∨
 ((op=4∨op=5)∧∃o n' m k,kids= .cons o n' m k .nil∧jZ o n' m k=true∧AP W o m k=true)∨
 (6<=op∧op<=18∧∃o n1 m k o' n2 m' k',kids= .cons o n1 m k (.cons o' n2 m' k' .nil)∧jZ o n1 m k=true∧AP W o m k=true∧jZ o' n2 m' k'=true∧AP W o' m' k'=true):=by
 unfold jZ at hs;rw[aM]at hs;obtain⟨h1,h2⟩:=hs;unfold AP at ho;rw[aM]at ho;obtain⟨ho1,ho2⟩:=ho;unfold KQ at h1;rw[aM,beq_iff_eq]at h1;have hl:=h1.1;unfold opsOf at hl;by_cases c1:(op==1||op==2)=true
 ·rw[if_pos c1]at hl;have hk:=Nf (l:=kids) ahf;rw[Bool.or_eq_true,beq_iff_eq,beq_iff_eq]at c1;rcases c1 with c|c
  ·exact .inl ⟨c,hk⟩
  ·exact .inr (.inl ⟨c,hk⟩)
 rw[if_neg c1]at hl;by_cases c2:(op==3||op==4||op==5)=true
 ·rw[if_pos c2]at hl;obtain⟨o,n',m,k,e⟩:=XQ (l:=kids) ahf;subst e;rw[nX,aM]at h2;rw[IC,aM]at ho2;rw[Bool.or_eq_true,Bool.or_eq_true,beq_iff_eq,beq_iff_eq,beq_iff_eq]at c2;rcases c2 with(c|c)|c
  ·subst c;exact .inr (.inr (.inl ⟨rfl,by simpa using ho1,o,n',m,k,rfl,h2.1,ho2.1⟩))
  ·exact .inr (.inr (.inr (.inl ⟨.inl c,o,n',m,k,rfl,h2.1,ho2.1⟩)))
  ·exact .inr (.inr (.inr (.inl ⟨.inr c,o,n',m,k,rfl,h2.1,ho2.1⟩)))
 rw[if_neg c2]at hl;by_cases c3:(decide (6<=op)&&decide (op<=18))=true
 ·rw[if_pos c3]at hl;rw[aM,decide_eq_true_eq,decide_eq_true_eq]at c3;obtain⟨o,n1,m,k,o',n2,m',k',e⟩:=aN7 (l:=kids) ahf;subst e;rw[nX,nX,aM,aM]at h2;rw[IC,IC,aM,aM]at ho2;exact .inr (.inr (.inr (.inr ⟨c3.1,c3.2,o,n1,m,k,o',n2,m',k',rfl,h2.1,ho2.1,h2.2.1,ho2.2.1⟩)))
 ·rw[if_neg c3]at hl;omega
theorem Ld {W:Wo} {nm:ByteArray} (h:0<=W.cell nm): ∃c,W.cs[(W.cell nm).toNat]? =some c∧W.size nm=c.sz∧c∈W.cs∧(W.cell nm).toNat<W.cs.length:=by
 have hlt:=bg7 h;rw[fM]at hlt;have hlt:(W.cell nm).toNat<W.cs.length:=hlt;refine⟨W.cs[(W.cell nm).toNat],aX hlt,?_,List.getElem_mem hlt,hlt⟩;unfold Wo.size;rw[aX hlt];rfl
theorem LC {W:Wo} {lc:List ByteArray} {st op n:Int} {nm:ByteArray} {o n1:Int} {m:ByteArray} {k:bV} {d:Int} (h:3<=op):lY W lc st op n nm (.cons o n1 m k .nil) d=lY W lc st o n1 m k d++[OV W op nm d st]:=by
 conv=>lhs;unfold lY
 rw[if_neg ahi,IJ,Jd,List.append_nil]
theorem Yl {W:Wo} {lc:List ByteArray} {st op n:Int} {nm:ByteArray} {o n1 o' n2:Int} {m m':ByteArray} {k k':bV} {d:Int} (h:3<=op):lY W lc st op n nm (.cons o n1 m k (.cons o' n2 m' k' .nil)) d=lY W lc st o n1 m k d++lY W lc st o' n2 m' k' (d+1)++[OV W op nm d st]:=by
 conv=>lhs;unfold lY
 rw[if_neg ahi,IJ,IJ,Jd,List.append_nil]
end Md
namespace Md
def MB (W:Wo) (h:dM):Prop:=KE W h=true∧iT h<=300000
def vC (W:Wo) (lc:List ByteArray) (h:dM) (b e:bf) (nx pos:Nat):List dw:=
 GR W lc nx h (iX W lc nx h lc.length) (ko W lc b (nx+1) (pos+rM h (iX W lc nx h lc.length)))
  (ko W lc e (nx+1+dB b) (pos+rM h (iX W lc nx h lc.length)+(ko W lc b (nx+1) (pos+rM h (iX W lc nx h lc.length))).length+1)) e.none pos
theorem Um (W:Wo) (lc:List ByteArray) (h:dM) (b e r:bf) (nx pos:Nat):ko W lc (.cons h b e r) nx pos=vC W lc h b e nx pos++ko W lc r (nx+1+dB b+dB e) (pos+(vC W lc h b e nx pos).length):=rfl
theorem Yd (W:Wo) (lc:List ByteArray) (h:dM) (b e:bf) (nx pos:Nat):(vC W lc h b e nx pos).length<=iT h+lJ b+lJ e:=by
 unfold vC;have h1:=Vq W lc nx h (ko W lc b (nx+1) (pos+rM h (iX W lc nx h lc.length))) (ko W lc e (nx+1+dB b) (pos+rM h (iX W lc nx h lc.length)+(ko W lc b (nx+1) (pos+rM h (iX W lc nx h lc.length))).length+1)) e.none pos;have h2:=ru W lc b (nx+1) (pos+rM h (iX W lc nx h lc.length));have h3:=ru W lc e (nx+1+dB b) (pos+rM h (iX W lc nx h lc.length)+(ko W lc b (nx+1) (pos+rM h (iX W lc nx h lc.length))).length+1);omega
def stA (h:dM) (b e:bf) (s:Sl):Array Value:= #[.int .i64 h.op,.int .i64 h.line,.string h.nm,.string h.arg,.slice s.gu h.idx.len s.eG,.int .i64 h.dY,.int .i64 h.xn,.string h.dX,.slice s.gY h.bM.len s.fD,.slice s.dR b.len s.dA,.slice s.jc e.len s.gZ]
end Md
theorem nH {w:World} {n:Nat} {h:dM} {b e:bf} {s:Sl} {t:TypeId} {f:Nat×Nat} (x:w.heap[n]? =some (.cells (stA h b e s) t f)):w.cell? ⟨n,0,none⟩=some (.int .i64 h.op)∧w.cell? ⟨n,1,none⟩=some (.int .i64 h.line)∧w.cell? ⟨n,2,none⟩=some (.string h.nm)∧w.cell? ⟨n,3,none⟩=some (.string h.arg)∧w.cell? ⟨n,4,none⟩=some (.slice s.gu h.idx.len s.eG)∧w.cell? ⟨n,5,none⟩=some (.int .i64 h.dY)∧w.cell? ⟨n,6,none⟩=some (.int .i64 h.xn)∧w.cell? ⟨n,7,none⟩=some (.string h.dX)∧w.cell? ⟨n,8,none⟩=some (.slice s.gY h.bM.len s.fD)∧w.cell? ⟨n,9,none⟩=some (.slice s.dR b.len s.dA)∧w.cell? ⟨n,10,none⟩=some (.slice s.jc e.len s.gZ):=
 ⟨aG x rfl,aG x rfl,aG x rfl,aG x rfl,aG x rfl,aG x rfl,aG x rfl,aG x rfl,aG x rfl,aG x rfl,aG x rfl⟩
def U0 (w:World) (B:Nat) (h:dM) (b e:bf) (s:Sl):Prop:=A9 h b e∧h.idx.At w B s.gu 0∧h.bM.At w B s.gY 0∧b.At w B s.dR 0∧e.At w B s.jc 0
theorem U0.below {w w':World} {B:Nat} {h:dM} {b e:bf} {s:Sl} (hi:U0 w B h b e s) (hb:Below B w w'):U0 w' B h b e s:=
 ⟨hi.1,hi.2.1.below hb,hi.2.2.1.below hb,hi.2.2.2.1.below hb,hi.2.2.2.2.below hb⟩
theorem Fv {w:World} {B:Nat} {h:dM} {b e r:bf} {ao:Option Addr} {k:Nat} (hat:(bf.cons h b e r).At w B ao k): ∃bl off s,ao=some ⟨bl,off,none⟩∧bl<B∧U0 w B h b e s∧
 (∀j u,(stA h b e s)[j]? =some u->w.cell? ⟨bl,off+k*11+j,none⟩=some u)∧r.At w B ao (k+1):=by
 obtain⟨⟨b',off,gu,eG,gY,fD,dR,dA,jc,gZ,e',hB,c0,c1,c2,c3,c4,c5,c6,c7,c8,c9,c10,hok,h1,h2,h3,h4⟩,hr⟩:=hat;refine⟨b',off,⟨gu,eG,gY,fD,dR,dA,jc,gZ⟩,e',hB,⟨hok,h1,h2,h3,h4⟩,λj u hu=> ?_,hr⟩;have hj:j<11:=(aI hu);have:j=0∨j=1∨j=2∨j=3∨j=4∨j=5∨j=6∨j=7∨j=8∨j=9∨j=10:=ahf
 rcases this with rfl|rfl|rfl|rfl|rfl|rfl|rfl|rfl|rfl|rfl|rfl <;> (simp[stA]at hu;subst hu;first|exact c0|exact c1|exact c2|exact c3|exact c4|exact c5|exact c6|exact c7|exact c8|exact c9|exact c10)
structure rG (w:World) (L:GL) (W:Wo) (code:List dw) (h:dM) (b e:bf) (sl:Sl) (nx:Nat):Prop where
 m:U0 w L.B0 h b e sl
 sh:oM h b.len e.len=true
 sb:gy b=true
 se:gy e=true
 ok:MB W h
 ob:b.Ev (MB W)
 oe:e.Ev (MB W)
 len:code.length+(iT h+lJ b+lJ e)<=1000000000000
 cnt:nx+(iT h+lJ b+lJ e)<=1000000000000
theorem rG.below {w w':World} {L:GL} {W:Wo} {code:List dw} {h:dM} {b e:bf} {sl:Sl} {nx:Nat} (p:rG w L W code h b e sl nx) (hb:Below L.B0 w w'):rG w' L W code h b e sl nx:=
 ⟨p.m.below hb,p.sh,p.sb,p.se,p.ok,p.ob,p.oe,p.len,p.cnt⟩
theorem rG.b7 {w:World} {L:GL} {W:Wo} {code:List dw} {h:dM} {b e:bf} {sl:Sl} {nx:Nat} (p:rG w L W code h b e sl nx):b.len<=maxLen:=p.m.1.2.2.2.2.2.2.1
theorem rG.e7 {w:World} {L:GL} {W:Wo} {code:List dw} {h:dM} {b e:bf} {sl:Sl} {nx:Nat} (p:rG w L W code h b e sl nx):e.len<=maxLen:=p.m.1.2.2.2.2.2.2.2
def IU (Q:Int->Int->Prop) (T:TypeId) (w:World) (L:GL) (W:Wo) (s:jr) (lc:List ByteArray) (al:Option Addr) (cl:Nat) (v:Value) (code:List dw) (xs:List dw) (w':World):Prop:=
 ∃v' a' b',Q a' b'∧iE T w' L W s lc al cl v' (code++xs) a' b'∧Kg L v w w'∧pI w v v'
section
variable {Q:Int->Int->Prop} {T ty:TypeId} {w w1 w2 w':World} {L:GL} {W:Wo} {s:jr} {lc:List ByteArray} {al:Option Addr} {cl nb:Nat} {v v2:Value} {code:List dw} {a b:Int} {xs ys:List dw} {cs:Array Value}
theorem kU.list (h:kU T w L W s lc al cl v code a b nb cs ty xs w2 v2) (k:IU Q T w2 L W s lc al cl v2 (code++xs) ys w'): ∃v3 a' b',Q a' b'∧kU T w L W s lc al cl v code a' b' nb cs ty (xs++ys) w' v3:=by
 obtain⟨v3,a',b',hq,k1,k2,k3⟩:=k;have hlt:=(aI h.x);exact⟨v3,a',b',hq,aeE,h.k.trans h.o k2,h.o.trans k3 h.k.size,(k2.block nb hlt adD h.n).trans h.x,h.g,k3.ne hlt h.n⟩
theorem kU.qW (h:kU T w L W s lc al cl v code a b nb cs ty xs w2 v2) (hq:Q a b) (e:xs=ys):IU Q T w L W s lc al cl v code ys w2:=by
 subst e;exact⟨v2,a,b,hq,h.i,h.k,h.o⟩
theorem kU.setOf (h:kU T w L W s lc al cl v code a b nb cs ty xs w2 v2) {j:Nat} {u:Value} {a' b':Int} (hi:iE T (w2.setCell ⟨L.gb,j,none⟩ u) L W s lc al cl v2 (code++xs) a' b'):kU T w L W s lc al cl v code a' b' nb cs ty xs (w2.setCell ⟨L.gb,j,none⟩ u) v2:=
 ⟨hi,h.k.trans h.o (Kg.set _ _ _),h.o,(bF _ _ _ rfl (by have:=L.b1;have:=h.g;show L.gb≠nb;omega)).trans h.x,h.g,h.n⟩
theorem kU.KN (h:kU T w L W s lc al cl v code a b nb cs ty xs w2 v2) (x:Int):kU T w L W s lc al cl v code x b nb cs ty xs (w2.setCell ⟨L.gb,8,none⟩ (.int .i64 x)) v2:=h.setOf (h.i.KN x)
theorem kU.jA (h:kU T w L W s lc al cl v code a b nb cs ty xs w2 v2) (x:Int):kU T w L W s lc al cl v code a x nb cs ty xs (w2.setCell ⟨L.gb,9,none⟩ (.int .i64 x)) v2:=h.setOf (h.i.jA x)
theorem iE.ZE (h:iE T w L W s lc al cl v code a b) {k:Nat} {x:dw} (hx:code[k]? =some x): ∃g cap,v= .slice (some ⟨g,0,none⟩) code.length cap∧L.B1<=g∧(∀j u,(jd x)[j]? =some u->w.cell? ⟨g,k*6+j,none⟩=some u)∧∀j,w.frozen? ⟨g,j,none⟩=false:=by
 have hk:=(List.getElem?_eq_some_iff.1 hx).1;rcases h.row.2 with⟨-,hn⟩|⟨g,cap,cur,rfl,hb,hg,h1,h2,h3,h4⟩
 ·omega
 ·refine⟨g,cap,rfl,hb,λj u hu=> ?_,λ_=>bG hg⟩;have hF:=flat_get wW code k x j u hx hu;rw[<- h4]at hF;have hlt:=(List.getElem?_eq_some_iff.1 hF).1;rw[List.getElem?_take_of_lt acI]at hF;exact aG hg ahL
theorem kU.patch {g cap:Nat} (h:kU T w L W s lc al cl v code a b nb cs ty xs w2 (.slice (some ⟨g,0,none⟩) (code++xs).length cap)) (i j:Nat) (x y:dw) (u:Value) (hx:xs[i]? =some x) (hj:j<6) (hy:jd y=(jd x).set j u):
 kU T w L W s lc al cl v code a b nb cs ty (xs.set i y) (w2.setCell ⟨g,(code.length+i)*6+j,none⟩ u) (.slice (some ⟨g,0,none⟩) (code++xs).length cap):=by
 have hx':(code++xs)[code.length+i]? =some x:=by rw[List.getElem?_append_right ahf];simpa using hx
 obtain⟨p1,p2⟩:=h.i.patch (code.length+i) j x y u hx' hj hy;have hlt:=(aI h.x);have e:(code++xs).set (code.length+i) y=code++xs.set i y:=by rw[List.set_append_right _ _ ahf];simp
 rw[e]at p1;exact⟨p1,h.k.trans h.o p2,h.o,(p2.block nb hlt adD h.n).trans h.x,h.g,h.n⟩
end
namespace Md
theorem Lg (p:Pr) (j:Nat) (tn iD:ByteArray): ∀(l ar:bf) (f g:List (List UInt8)),(ig p j tn iD l ar f g).err=0->l.Ev (λh=> ∃ar f g,lq p j tn iD ar f g h=0)
 | .nil,_,_,_,_=>trivial
 | .cons h b e r,ar,f,g,h0=>by
   rw[ig]at h0;split at h0
   ·exact absurd (show(2:Int)=0 from h0) ahg
   ·split at h0
    ·rename_i h1;rw[show lq p j tn iD ar (mem f) (mem g) h=0 from h0]at h1;exact absurd h1 ahg
    ·rename_i h1;split at h0
     ·rename_i h2;rw[h0]at h2;exact absurd h2 ahg
     ·rename_i h2;split at h0
      ·rename_i h3;rw[h0]at h3;exact absurd h3 ahg
      ·rename_i h3;refine⟨⟨ar,mem f,mem g,ahm⟩,Lg p j tn iD b _ _ _ aho,Lg p j tn iD e _ _ _ ais,Lg p j tn iD r _ _ _ h0⟩
theorem VA (p:Pr) (iD:ByteArray): ∀(l:List Th) (j:Nat) (f g:List (List UInt8)),(jH p iD l j f g).err=0->∀t∈l,∃j:Nat,t.body.Ev (λh=> ∃ar f g,lq p j t.nm iD ar f g h=0)
 | [],_,_,_,_=>λt h=>ahG
 |t::r,j,f,g,h0=>by
  rw[jH]at h0;split at h0
  ·rename_i h2;rw[h0]at h2;exact absurd h2 ahg
  ·rename_i h2;intro x hx;rcases List.mem_cons.1 hx with rfl|hx
   ·exact⟨j,Lg p j _ iD _ _ _ _ aho⟩
   ·exact VA p iD r _ _ _ h0 x hx
theorem VO: ∀(l:List Th) (W:Wo) (i:Nat),(zH W i l).cs=W.cs∧(zH W i l).ls=W.ls∧(zH W i l).ns=W.ns∧(zH W i l).fs=W.fs
 | [],_,_=>⟨rfl,rfl,rfl,rfl⟩
 |t::r,W,i=>by rw[zH];exact VO r _ _
theorem Yn {d:De} (hd:d.kind=1): ∀ {l:List De} (W:Wo),(d∈l∨∃c∈W.cs,c.nm=d.nm)->∃c∈(l.foldl lZ W).cs,c.nm=d.nm
 | [],W,h=>by
   rcases h with h|h
   ·cases h
   ·exact h
 |x::r,W,h=>by
  rw[List.foldl_cons];refine Yn hd (lZ W x) ?_;rcases h with h|⟨c,hc,e⟩
  ·rcases List.mem_cons.1 h with rfl|h
   ·right;refine⟨⟨d.nm,(0:Nat),d.size,d.kind==2,d.init⟩,?_,rfl⟩;have hk:(d.kind==1||d.kind==2)=true:=(by rw[hd];rfl);unfold lZ;rw[if_pos hk];show _∈W.cs++JX d;refine List.mem_append_right _ ?_;unfold JX;obtain⟨n,hn⟩: ∃n,(max d.size 1).toNat=n+1:=⟨(max d.size 1).toNat -1,ahf⟩;rw[hn,sQ];exact aW
   ·exact .inl h
  ·right;refine⟨c,?_,e⟩;unfold lZ;split
   ·exact List.mem_append_left _ hc
   ·split
    ·exact hc
    ·split <;> exact hc
theorem KA {p:Pr} {i:Int} {nm:ByteArray} (h:mean p i nm=3):0<=(jJ p).cell nm:=by
 unfold mean at h;split at h
 ·exact absurd h ahg
 ·unfold qK at h;cases hf:p.ds.find? (λd=>d.nm.toList==nm.toList)with
  |none=>rw[hf]at h;simp at h;unfold uE at h;split at h <;> exact absurd h ahg
  |some d=>
   rw[hf]at h;simp only[Option.map_some,Option.getD_some]at h;have hd:d.kind=1:=by
    unfold gM at h;split at h
    ·rename_i hk;simpa using hk
    ·split at h
     ·exact absurd h ahg
     ·split at h
      ·exact absurd h ahg
      ·split at h
       ·exact absurd h ahg
       ·split at h
        ·exact absurd h ahg
        ·split at h <;> exact absurd h ahg
   have hm:=List.mem_of_find?_eq_some hf;have hn:=List.find?_some hf;obtain⟨c,hc,e⟩:=Yn hd pq (.inl hm);unfold Wo.cell gK jJ;refine Q0 _ _ _ ahg ⟨c.nm,List.mem_map.2 ⟨c,?_,rfl⟩,?_⟩
   ·rw[(VO _ _ _).1];exact hc
   ·rw[e];simpa using hn
theorem Q7 {p:Pr} {i:Int} : ∀ {l:bV},wH p i l=0->Mx (jJ p) l=true
 | .nil,_=>rfl
 | .cons op n nm kids rest,h=>by
   rw[wH]at h;split at h
   ·rename_i h1;split at h
    ·rename_i h2;rw[Mx,Q7 aho,Q7 h];have h1:rP p i op nm=0:=ahm;unfold rP at h1;by_cases h3:op=3
     ·subst h3;have:=uz (show gU (mean p i nm) [3]=0 from h1);simp[KA (this)]
     ·simp[h3]
    ·rename_i h2;rw[h]at h2;exact absurd rfl h2
   ·rename_i h1;rw[h]at h1;exact absurd rfl h1
theorem Og {p:Pr} {i op n:Int} {nm:ByteArray} {kids:bV} (h:nO p i op n nm kids=0):AP (jJ p) op nm kids=true:=by
 unfold nO at h;split at h
 ·split at h
  ·exact absurd h ahg
  ·unfold yV at h;split at h
   ·rename_i h1;have h1:rP p i op nm=0:=ahm;unfold AP;rw[Q7 h];unfold rP at h1;by_cases h3:op=3
    ·subst h3;have:=uz (show gU (mean p i nm) [3]=0 from h1);simp[KA (this)]
    ·simp[h3]
   ·rename_i h1;rw[h]at h1;exact absurd rfl h1
 ·exact absurd h ahg
theorem len_nil {l:bV} (h:l.len=0):l= .nil:=by
 cases l with
 |nil=>rfl
 |cons=>simp[bV.len]at h
theorem aD1 {W:Wo} {op n:Int} {nm:ByteArray} {kids:bV} (h:rU op n nm kids.len=true):AP W op nm kids=true:=by
 unfold rU at h;simp only[aM,beq_iff_eq]at h;obtain⟨⟨⟨h1,-⟩,-⟩,h2⟩:=h;rw[len_nil h2,h1];rfl
theorem am5 {h:dM} {bl el:Nat} (hs:oM h bl el=true):h.idx.len<=1∧(h.op≠1->h.idx= .nil)∧(fX h.op=false->rU h.dY h.xn h.dX h.bM.len=true)∧1<=h.op∧h.op<=15:=by
 unfold oM at hs;simp only[aM]at hs;obtain⟨⟨⟨h1,-⟩,⟨h2,h3⟩,-⟩,h4,-⟩:=hs;unfold fO at h1;simp only[aM,decide_eq_true_eq]at h1 h2;refine⟨h2,λhne=> ?_,λhx=> ?_,h1⟩
 ·have hl:h.idx.len≠1:=λe=>by rw[e]at h3;unfold fI at h3;simp at h3;exact hne h3
  exact len_nil ahf
 ·rw[hx]at h4;simpa using h4
theorem bm4 {p:Pr} {j:Nat} {tn iD:ByteArray} {ar:bf} {f g:List UInt8->Bool} {h:dM} {bl el:Nat} (hs:oM h bl el=true) (h0:lq p j tn iD ar f g h=0):KE (jJ p) h=true:=by
 obtain⟨hl,hi,hx,ho1,ho2⟩:=am5 hs;have key: ∀(he:AP (jJ p) h.dY h.dX h.bM=true),h.op≠1->KE (jJ p) h=true:=λhe hne=>by unfold KE;rw[he,hi hne];rfl
 by_cases h1:h.op=1
 ·unfold lq at h0;rw[h1,if_pos aix]at h0;unfold JR at h0;split at h0
  ·rename_i hz;have hz:h.idx.len=0:=by simpa using hz
   have:=Og (nI h0 _ (aY _ aW));unfold KE;rw[this,len_nil hz];rfl
  ·rename_i hz;have hz:h.idx.len≠0:=by simpa using hz
   have e1:=uz (nI h0 _ aW);have e2:=nI h0 _ (aY _ aW);have e3:=Og (nI h0 _ (aY _ (aY _ aW)));have ec:=KA (e1);unfold KE;cases hidx:h.idx with
   |nil=>rw[hidx]at hz;exact absurd rfl hz
   |cons op n nm kids r=>rw[hidx]at e2 hl;have hr:r= .nil:=len_nil (by simp only[bV.len]at hl;omega);have:=Og (show nO p j op n nm kids=0 from e2);unfold AP at this;rw[e3,hr,Mx,this];simp[Mx,ec]
 ·have hne:=h1;by_cases hf:fX h.op=true
  ·refine key (Og (p:=p) (i:=j) (n:=h.xn) ?_) hne;unfold fX at hf;simp only[Bool.or_eq_true,beq_iff_eq]at hf;rcases hf with(hf|hf)|(hf|hf)
   ·exact absurd hf hne
   ·unfold lq at h0;rw[hf]at h0;exact h0
   ·unfold lq at h0;rw[hf]at h0;exact h0
   ·unfold lq at h0;rw[hf]at h0;exact nI (show iI _=0 from h0) _ ahh
  ·exact key (aD1 (hx (by simpa using hf))) hne
theorem II: ∀ {l:bf},gy l=true->l.Ev (λh=> ∃bl el,oM h bl el=true)
 | .nil,_=>trivial
 | .cons h b e r,hs=>by rw[gy]at hs;simp only[aM]at hs;exact⟨⟨_,_,hs.1.1⟩,II hs.1.2.1,II hs.1.2.2,II hs.2⟩
theorem wL {p:Pr} (h:(jL p).1=0):qZ p=true∧(mY p.ds [] 0 0 0 0).1=0∧p.ts.length<=4∧(mq p).1=0∧uq p.ts 0<=60∧(jH p (kS p) p.ts 0 [] []).err=0:=by
 unfold jL at h;split at h
 ·exact absurd h ahg
 ·rename_i h1;split at h
  ·rename_i h2;rw[h]at h2;exact absurd h2 ahg
  ·rename_i h2;split at h
   ·exact absurd h ahg
   ·rename_i h3;split at h
    ·rename_i h4;rw[h]at h4;exact absurd h4 ahg
    ·rename_i h4;split at h
     ·exact absurd h ahg
     ·rename_i h5;simp only[decide_eq_true_eq]at h3 h5;exact⟨ahm,aho,ahf,ahN,ahf,h⟩
theorem okP {p:Pr} (h:(jL p).1=0): ∀t∈p.ts,t.body.Ev (λh=>KE (jJ p) h=true):=by
 obtain⟨h1,-,-,-,-,h6⟩:=wL h;intro t ht;obtain⟨j,hj⟩:=VA p _ _ _ _ _ h6 t ht;unfold qZ at h1;simp only[aM]at h1;have h2:=List.all_eq_true.1 h1.1.2 t ht;unfold pK at h2;simp only[aM]at h2;refine(hj.and (II h2.2)).imp λx hx=> ?_;obtain⟨⟨ar,f,g,h0⟩,bl,el,hs⟩:=hx;exact bm4 hs h0
end Md
namespace Md
def rV (d:De):Nat->Nat->List mU
 |0,_=>[]
 |n+1,k=>⟨d.nm,k,d.size,false,d.init⟩::rV d n (k+1)
def mM (d:De):List mU:=if d.size==0 then [⟨d.nm,0,0,d.kind==2,d.init⟩]else rV d d.size.toNat 0
def gD (W:Wo) (g:List UInt8->Int) (d:De):List UInt8->Int:=if d.kind==3||d.kind==4 then λx=>if x=d.nm.toList then(W.ls.length:Int)else g x else g
def mg (W:Wo) (g:List UInt8->Int) (d:De):Wo:=
 if d.kind==1||d.kind==2 then {W with cs:=W.cs++mM d} else if d.kind==3||d.kind==4 then {W with ls:=W.ls++[⟨d.nm,d.kind==4⟩]} else
 if d.kind==5 then {W with ns:=W.ns++[⟨d.nm,g d.on.toList⟩]} else if d.kind==6 then {W with fs:=W.fs++[d.nm]} else W
def KU:List De->Wo->(List UInt8->Int)->Wo
 | [],W,_=>W
 |d::r,W,g=>KU r (mg W g d) (gD W g d)
theorem ae0 {d:De} (h:(d.kind==2)=false): ∀(n k:Nat),rV d n k=sQ d n k
 |0,_=>rfl
 |n+1,k=>by rw[rV,sQ,ae0 h n,h]
theorem aZ9 {d:De} (hs:jF d=true):mM d=JX d:=by
 unfold jF at hs;simp only[aM,decide_eq_true_eq]at hs;obtain⟨⟨⟨⟨h1,h2⟩,-⟩,h3,h4⟩,-⟩:=hs;unfold mM JX;split
 ·rename_i h0;have h0:d.size=0:=by simpa using h0
  rw[h0];show _=sQ d 1 0;rw[sQ,sQ,h0];rfl
 ·rename_i h0;have h0:d.size≠0:=by simpa using h0
  have hk:d.kind=1:=by simpa[h0]using h4
  rw[ae0 (by rw[hk];rfl),show max d.size 1=d.size by omega]
theorem UW: ∀(l:List ByteArray) (s nm:ByteArray) (k:Int),(∀x∈l,x.toList≠s.toList)->sG (l++[s]) nm k=if nm.toList=s.toList then k+l.length else sG l nm k
 | [],s,nm,k,_=>by
   simp only[List.nil_append,sG,aP];by_cases h:nm.toList=s.toList
   ·simp[h]
   ·have: ¬s.toList=nm.toList:=λe=>h e.symm;simp[h,this]
 |y::r,s,nm,k,hn=>by
  have ih:=UW r s nm (k+1) (λx hx=>hn x (aY _ hx));have hy:=hn y aW;rw[List.cons_append,sG,ih,sG];by_cases h:nm.toList=s.toList
  ·rw[if_pos h,if_pos h];have:(y.toList==nm.toList)=false:=by rw[h];simpa using hy
   rw[this];simp only[aB];rw[if_neg ahg];omega
  ·rw[if_neg h,if_neg h]
structure D9 (pre:List De) (W:Wo) (g:List UInt8->Int):Prop where
 sub: ∀s∈W.ls.map (·.nm),∃d∈pre,d.nm.toList=s.toList
 eq: ∀x:ByteArray,0<=gK (W.ls.map (·.nm)) x->g x.toList=gK (W.ls.map (·.nm)) x
 has: ∀d∈pre,d.kind=3∨d.kind=4->0<=gK (W.ls.map (·.nm)) d.nm
theorem aN8 {pre:List De} {l:List UInt8} (h:mD pre l=0): ∀d∈pre,d.nm.toList≠l:=by
 have hf:=XR (pre:=pre) (l:=l) (by rw[h];rfl);intro d hd e;have:=List.find?_eq_none.1 hf d hd;simp[e]at this
theorem D9.step {pre:List De} {W:Wo} {g:List UInt8->Int} {d:De} (h:D9 pre W g) (hd:mD pre d.nm.toList=0):D9 (pre++[d]) (mg W g d) (gD W g d):=by
 have hz:=aN8 hd;by_cases hk:(d.kind==3||d.kind==4)=true
 ·have h12:(d.kind==1||d.kind==2)=false:=by simp only[Bool.or_eq_true,beq_iff_eq]at hk;rcases hk with hk|hk <;> rw[hk] <;> rfl
  have e1:(mg W g d).ls=W.ls++[⟨d.nm,d.kind==4⟩]:=by unfold mg;rw[h12,hk];rfl
  have e2:gD W g d=λx=>if x=d.nm.toList then(W.ls.length:Int)else g x:=by unfold gD;rw[if_pos hk]
  have e3:(mg W g d).ls.map (·.nm)=W.ls.map (·.nm)++[d.nm]:=ail
  have hne: ∀x∈W.ls.map (·.nm),x.toList≠d.nm.toList:=λx hx e=>by obtain⟨d',hd',e'⟩:=h.sub x hx;exact hz d' hd' (e'.trans e)
  have e4: ∀x,gK ((mg W g d).ls.map (·.nm)) x=if x.toList=d.nm.toList then(W.ls.length:Int)else gK (W.ls.map (·.nm)) x:=λx=>by rw[e3];unfold gK;rw[UW _ _ _ _ hne];simp
  refine⟨λs hs=> ?_,λx hx=> ?_,λd' hd' hk'=> ?_⟩
  ·rw[e3]at hs;rcases List.mem_append.1 hs with hs|hs
   ·obtain⟨d',h1,h2⟩:=h.sub s hs;exact⟨d',List.mem_append_left _ h1,h2⟩
   ·rw[List.mem_singleton.1 hs];exact⟨d,List.mem_append_right _ (List.mem_singleton.2 rfl),rfl⟩
  ·rw[e4]at hx⊢;rw[e2];show(if _ then _ else _)=_;by_cases hc:x.toList=d.nm.toList
   ·rw[if_pos hc,if_pos hc]
   ·rw[if_neg hc]at hx⊢;rw[if_neg hc];exact h.eq x hx
  ·rw[e4];split
   ·omega
   ·rename_i hc;rcases List.mem_append.1 hd' with hd'|hd'
    ·exact h.has d' hd' hk'
    ·rw[List.mem_singleton.1 hd']at hc;exact absurd rfl hc
 ·have hk:(d.kind==3||d.kind==4)=false:=by simpa using hk
  have e1:(mg W g d).ls=W.ls:=by
   unfold mg;rw[hk];split
   ·rfl
   ·rw[if_neg ahg];split
    ·rfl
    ·split <;> rfl
  have e2:gD W g d=g:=by unfold gD;rw[hk];rfl
  rw[e2];refine⟨λs hs=> ?_,λx hx=> ?_,λd' hd' hk'=> ?_⟩
  ·rw[e1]at hs;obtain⟨d',h1,h2⟩:=h.sub s hs;exact⟨d',List.mem_append_left _ h1,h2⟩
  ·rw[e1]at hx⊢;exact h.eq x hx
  ·rw[e1];rcases List.mem_append.1 hd' with hd'|hd'
   ·exact h.has d' hd' hk'
   ·rw[List.mem_singleton.1 hd']at hk';simp only[Bool.or_eq_false_iff,beq_eq_false_iff_ne]at hk;rcases hk' with e|e
    ·exact absurd e hk.1
    ·exact absurd e hk.2
theorem YX {d:De} (h:gM d=4):d.kind=3:=by
 unfold gM at h;split at h
 ·split at h <;> exact absurd h ahg
 ·split at h
  ·exact absurd h ahg
  ·split at h
   ·rename_i hk;simpa using hk
   ·split at h
    ·exact absurd h ahg
    ·split at h
     ·exact absurd h ahg
     ·split at h <;> exact absurd h ahg
theorem D9.cond {pre:List De} {W:Wo} {g:List UInt8->Int} {on:ByteArray} (h:D9 pre W g) (hm:mD pre on.toList=4):g on.toList=gK (W.ls.map (·.nm)) on:=by
 unfold mD at hm;cases hf:pre.find? (λd=>d.nm.toList==on.toList)with
 |none=>rw[hf]at hm;exact absurd hm ahg
 |some d=>
  rw[hf]at hm;have hd:=YX (show gM d=4 from hm);have h1:=List.mem_of_find?_eq_some hf;have h2:=List.find?_some hf;have h2:d.nm.toList=on.toList:=aho
  refine h.eq on ?_;have:=h.has d h1 (.inl hd);unfold gK at this⊢;rcases OI (W.ls.map (·.nm)) d.nm 0 with h3|h3
  ·omega
  ·have e: ∀(l:List ByteArray) (k:Int),sG l on k=sG l d.nm k:=λl=>by
    induction l with
    |nil=>intro k;rfl
    |cons s r ih=>intro k;rw[sG,sG,ih,h2]
   rw[e];exact this
theorem aK6: ∀(l pre:List De) (W:Wo) (g:List UInt8->Int) (c x n f:Int),(∀d∈l,jF d=true)->D9 pre W g->(mY l pre c x n f).1=0->KU l W g=l.foldl lZ W
 | [],_,_,_,_,_,_,_,_,_,_=>rfl
 |d::r,pre,W,g,c,x,n,f,hs,hI,h0=>by
  have hsd:=hs d aW;rw[mY]at h0;split at h0
  ·exact absurd (show(4:Int)=0 from h0) ahg
  ·rename_i h1;split at h0
   ·exact absurd (show(2:Int)=0 from h0) ahg
   ·split at h0
    ·exact absurd (show(2:Int)=0 from h0) ahg
    ·split at h0
     ·exact absurd (show(5:Int)=0 from h0) ahg
     ·split at h0
      ·exact absurd (show(6:Int)=0 from h0) ahg
      ·rename_i h5;have h1:mD pre d.nm.toList=0:=ahm;have e:mg W g d=lZ W d:=by
        unfold mg lZ;rw[aZ9 hsd];split
        ·rfl
        ·split
         ·rfl
         ·split
          ·rename_i hk;have:mD pre d.on.toList=4:=(by simpa[hk]using h5);rw[hI.cond this]
          ·rename_i k1 k2 k3;have UH:d.kind=6:=(by unfold jF at hsd;simp only[aM,decide_eq_true_eq]at hsd;obtain⟨⟨⟨⟨q1,q2⟩,-⟩,-⟩,-⟩:=hsd;simp only[Bool.or_eq_true,beq_iff_eq,not_or]at k1 k2 k3;omega);rw[UH];rfl
       rw[KU,List.foldl_cons,e];have:=hI.step h1;rw[e]at this;exact aK6 r (pre++[d]) _ _ _ _ _ _ (λy hy=>hs y (aY _ hy)) this h0
theorem D9.start:D9 [] pq (λ_=>0):=by
 refine⟨λs hs=>(by cases hs),λx hx=> ?_,λd hd=>(by cases hd)⟩;have:gK (pq.ls.map (·.nm)) x= -1:=rfl;omega
theorem aK7 {p:Pr} (h:(jL p).1=0):KU p.ds pq (λ_=>0)=p.ds.foldl lZ pq:=by
 obtain⟨h1,h2,-⟩:=wL h;unfold qZ at h1;simp only[aM]at h1;exact aK6 _ _ _ _ _ _ _ _ (λd hd=>List.all_eq_true.1 h1.1.1 d hd) D9.start h2
end Md
namespace Md
def J9 (n:Int):List Value:=[.int .i64 n]
def wF:bf->List Int
 | .nil=>[]
 | .cons h b e r=>h.line::(wF b++wF e++wF r)
theorem oC: ∀l:bf,(wF l).length=dB l
 | .nil=>rfl
 | .cons h b e r=>by have h1:=oC b;have h2:=oC e;have h3:=oC r;simp only[wF,dB,aB,au];omega
end Md
theorem XL: ∀n:Int,(J9 n).length=1:=λ_=>rfl
theorem bK1 (n:Int): ∀u∈J9 n,u.oneCell'=true:=by intro u hu;simp[J9]at hu;subst hu;rfl
theorem bo3:(Tryz.prog.info? 3).map (λi=>(i.zero,i.size,i.bytes))=some (some (.int .i64 0),1,8):=ahe
theorem infoP {o:Option TypeInfo} {z:Option Value} {a b:Nat} (h:o.map (λi=>(i.zero,i.size,i.bytes))=some (z,a,b)): ∃i0,o=some i0∧i0.zero=z∧i0.size=a∧i0.bytes=b:=by
 cases o with
 |none=>cases h
 |some i=>simp at h;exact⟨i,rfl,h.1,h.2.1,h.2.2⟩
theorem N7 {v v1:Value} {w w1 w2:World} (h:w.grownBy w1 v.ownBlock) (ho:pI w v v1) (k:w1.grownBy w2 v1.ownBlock):w.grownBy w2 v.ownBlock:=
 ⟨k.os.trans h.os,k.tape.trans h.tape,k.output.trans h.output,aO h.size k.size,λj hj hne=>(k.block j (aV hj h.size) (by
   rcases ho with e|⟨g,e,hg⟩
   ·rw[e];exact hne
   ·rw[e];intro e';injection e' with e';omega)).trans (h.block j hj hne)⟩
theorem yR {w w':World} {g:Option Nat} (h:Below w.heap.size w w'):w.grownBy w' g:=⟨h.os,h.tape,h.output,h.size,λk hk _=>h.block k hk⟩
theorem nQ {w w':World} {base n m:Nat} {e:TypeId} {v:Value} {xs:List Value} (h:w.ownsRow base e m v n xs) (hb:Below w.heap.size w w'):w'.ownsRow base e m v n xs:=
 h.kept (row:=none) ⟨hb.os,hb.tape,hb.output,hb.size,λk hk _=>hb.block k hk⟩ acY
structure LnB (T:TypeId) (B nb:Nat) (cs:Array Value) (ty:TypeId) (w:World) (v:Value) (xs:List Int) (w2:World) (v2:Value):Prop where
 r:w2.ownsRow B T 1 v2 xs.length (xs.flatMap J9)
 g:w.grownBy w2 v.ownBlock
 o:pI w v v2
 x:w2.heap[nb]? =some (.cells cs ty (0,0))
 b:B<=w2.heap.size
 n:v2.ownBlock≠some nb
def Gi (l:bf):Prop:= ∀(w:World) (B:Nat) (v:Value) (xs:List Int) (ao:Option Addr) (cap:Nat),w.ownsRow B 3 1 v xs.length (xs.flatMap J9)->B<=w.heap.size->l.len<=maxLen->l.At w B ao 0->xs.length+dB l<=1000000000000->
 Calls Tryz.prog 73 #[v,.slice ao l.len cap] w λe w'=> ∃v',e= .returned v'∧w'.ownsRow B 3 1 v' (xs++wF l).length ((xs++wF l).flatMap J9)∧w.grownBy w' v.ownBlock∧pI w v v'
theorem LnB.call {T ty:TypeId} {B nb:Nat} {cs:Array Value} {w w2 w':World} {v v2 v':Value} {xs ys:List Int} (h:LnB T B nb cs ty w v xs w2 v2) (hr:w'.ownsRow B T 1 v' ys.length (ys.flatMap J9)) (hg:w2.grownBy w' v2.ownBlock) (ho:pI w2 v2 v'):LnB T B nb cs ty w v ys w' v':=by
 have hlt:=(aI h.x);exact⟨hr,N7 h.g h.o hg,h.o.trans ho h.g.size,(hg.block nb hlt (λe=>h.n e.symm)).trans h.x,aO h.b hg.size,ho.ne hlt h.n⟩
theorem zw {B:Nat} {T:TypeId} {m n:Nat} {v:Value} {w w':World} {xs:List Value} (h:w.ownsRow B T m v n xs) (hB:B<=w.heap.size) (hg:w.grownBy w' v.ownBlock):Below B w w':=
 ⟨hg.os,hg.tape,hg.output,hg.size,λk hk=>hg.block k ahf (λe=>by have:=(h.lt k e.symm).1;omega)⟩
theorem Ng (l:bf) (hall:l.All λ_ b e=>Gi b∧Gi e):Gi l:=by
 intro w B v xs ao cap hrow hBw hl hat hlen;generalize hres:xs++wF l=res;have HR:=ah hres;have HRW:=ah hrow;have HAT:=ah hat;have HL:=ah hlen;have lG:=ah hall;have mZ:=ah hBw;obtain⟨i0,hi,hz0,hz1,hz2⟩:=infoP bo3;have fF:=ah (ay hi (ay hz0 (ay hz1 hz2)));unfold maxLen at hl;clear hres hrow hat hlen hall hBw hi hz0 hz1 hz2;go_enter Tryz.func73,Tryz.ntmps73;go_wp2_with fail;go_loopw [0,6,9] (λv0 _ i wr=> ∃(k:Nat) (R:bf) (ys:List Int),i= .int .i64 k∧k+R.len=l.len∧res=ys++wF R∧ys.length+dB R<=1000000000000∧(R.All λ_ b e=>Gi b∧Gi e)∧R.At wr B ao k∧B<=wr.heap.size∧wr.ownsRow B 3 1 v0 ys.length (ys.flatMap J9)∧w.grownBy wr v.ownBlock∧pI w v v0) (λ_ _ i _=>l.len -(intOf i).toNat)
 case atStart=>exact⟨0,l,xs,rfl,ahh,HR.o.symm,HL.o,lG.o,HAT.o,mZ.o,HRW.o,Dm _,.inl rfl⟩
 case round=>
  obtain⟨k,R,ys,rfl,hlen,heq,hl12,hall,hat,hBr,hrow,hgr,how⟩:=hrel;have HE:=ah heq;have Qt:=ah hl12;have Px:=ah hrow;have HG:=ah hgr;have HO:=ah how;have IV:=ah hBr;clear heq hl12 hrow hgr how hBr;cases R with
  |nil=>
   obtain rfl:k=l.len:=afk
   have HX:aj (res=ys):=ah (by rw[HE.o];simp[wF]);clear hat hall;go_wp2_with fail;go_ret;exact⟨_,rfl,by rw[HX.o];exact Px.o,HG.o,HO.o⟩
  |cons h e0 e1 R=>
   obtain⟨bl,off,sl,rfl,hbl,hin,hcs,hrest⟩:=Fv hat;have hkl:k<l.len:=acB
   obtain⟨⟨hs0,hs1⟩,rJ⟩:=hall;have rF:=ah (ay hs0 hs1);have pz:=ah rJ;have Hg:=ah hin;have kg:=ah hrest;have x0:=hcs 0 _ rfl;have x1:=hcs 1 _ rfl;have x2:=hcs 2 _ rfl;have x3:=hcs 3 _ rfl;have x4:=hcs 4 _ rfl;have x5:=hcs 5 _ rfl;have x6:=hcs 6 _ rfl;have x7:=hcs 7 _ rfl;have x8:=hcs 8 _ rfl;have x9:=hcs 9 _ rfl;have x10:=hcs 10 _ rfl;simp only[stA,Nat.add_zero]at x0 x1 x2 x3 x4 x5 x6 x7 x8 x9 x10;clear hat hin hcs hrest hs0 hs1 rJ;go_upto_region 4 with fail;generalize hW2:World.alloc wr _=w2;obtain⟨nb,hnb,HB,-,HX,-⟩:=oJ hW2;have S0:aj (LnB 3 B nb (stA h e0 e1 sl) 82 wr u0 ys w2 u0):=ah ⟨nQ Px.o HB.o,yR HB.o,.inl rfl,HX.o,aO IV.o HB.o.size,λe=>by have:=(Px.o.lt _ e).2;omega⟩;rw[hnb];clear hW2 hnb x0 x1 x2 x3 x4 x5 x6 x7 x8 x9 x10 HX;have z1:=aG (j:=1) S0.o.x rfl;have z9:=aG (j:=9) S0.o.x rfl;have dV:=aG (j:=10) S0.o.x rfl;simp only[stA,List.getElem_toArray,List.getElem_cons_zero,List.getElem_cons_succ]at z1 z9 dV;have iJ:aj (Below w2.heap.size w2 (w2.alloc (.cells (J9 h.line).toArray 3))):=ah (aA _ _);have iV:=ah (gG (heap_alloc_new w2 (.cells (J9 h.line).toArray 3)));have ng:=ah (nQ S0.o.r iJ.o);obtain⟨hi,hz0,hz1,hz2⟩:=fF.o;have hk1:ys.length+1<=maxLen:=by have:=Qt.o;simp only[dB]at this;unfold maxLen;omega
   have nk:(ys.length+1)*8<=140737488355328:=by have:=Qt.o;simp only[dB]at this;omega
   have hbs:B<=w2.heap.size+1:=Nat.le_succ_of_le S0.o.b;go_wp2_with (at_builtin;refine wpList_append_lies _ rfl _ _ 68 rfl B 3 i0 _ 1 8 Tryz.underlying68 hi hz0 hz1 hz2 rfl ahg _ _ _ rfl ng.o ⟨w2.heap.size,0,none⟩ 1 1 (J9 h.line) rfl rfl iV.o (bK1 _) ahg hk1 nk afe _ rfl ?_);intro g' cap' w3 hown hgr hmv hlt3;clear hi hz0 hz1 hz2 hk1 nk hbs z1 z9 dV;have S1:aj (LnB 3 B nb (stA h e0 e1 sl) 82 wr u0 (ys++[h.line]) w3 (.slice (some ⟨g',0,none⟩) (ys.length+1) cap')):=ah (S0.o.call aan (jD (yR iJ.o) hgr) (by
    rcases hmv with e|e
    ·exact .inl ahB
    ·exact .inr ⟨g',rfl,aeh⟩))
   have pO:=ah (zw Px.o IV.o S1.o.g);clear hown hgr hmv hlt3 ng iV iJ S0;have z9:=aG (j:=9) S1.o.x rfl;have dV:=aG (j:=10) S1.o.x rfl;simp only[stA,List.getElem_toArray,List.getElem_cons_zero,List.getElem_cons_succ]at z9 dV;go_wp2_with fail;refine(rF.o.1 w3 B _ (ys++[h.line]) sl.dR sl.dA S1.o.r S1.o.b Hg.o.1.2.2.2.2.2.2.1 (Hg.o.2.2.2.1.below pO.o) (by have:=Qt.o;simp only[dB,au,aB,aP]at *;omega)).mono ?_;rintro e' w4 ⟨v4,rfl,hr4,hg4,ho4⟩;have S2:=ah (S1.o.call hr4 hg4 ho4);have Hl:=ah (zw Px.o IV.o S2.o.g);clear hr4 hg4 ho4 z9 dV;have dV:=aG (j:=10) S2.o.x rfl;simp only[stA,List.getElem_toArray,List.getElem_cons_zero,List.getElem_cons_succ]at dV;go_wp2_with fail;refine(rF.o.2 w4 B _ (ys++[h.line]++wF e0) sl.jc sl.gZ S2.o.r S2.o.b Hg.o.1.2.2.2.2.2.2.2 (Hg.o.2.2.2.2.below Hl.o) (by have:=Qt.o;have h5:=oC e0;simp only[dB,au,aB,aP]at *;omega)).mono ?_;rintro e' w5 ⟨v5,rfl,hr5,hg5,ho5⟩;have S3:=ah (S2.o.call hr5 hg5 ho5);have ar5:=ah (zw Px.o IV.o S3.o.g);clear hr5 hg5 ho5 dV;go_wp2_with fail;go_roundw
   case rel=>
    refine⟨k+1,R,ys++[h.line]++wF e0++wF e1,ahj,acB,?_,?_,pz.o,kg.o.below ar5.o,S3.o.b,S3.o.r,N7 HG.o HO.o S3.o.g,HO.o.trans S3.o.o HG.o.size⟩
    ·rw[HE.o,wF];simp
    ·have:=Qt.o;have h5:=oC e0;have h6:=oC e1;simp only[dB,au,aB,aP]at *;omega
   case measure=>simp[intOf];omega
theorem aj6 (l:bf):Gi l:=Ng l (bf.qG (λ_ b e hb he=>⟨Ng b hb,Ng e he⟩) l)
theorem uO: ∀x:mU,(kM x).length=5:=λ_=>rfl
theorem U9 (x:mU): ∀u∈kM x,u.oneCell'=true:=by
 intro u hu;simp[kM]at hu;rcases hu with rfl|rfl|rfl|rfl|rfl <;> rfl
theorem Kv:(Tryz.prog.info? 42).map (λi=>(i.zero,i.size,i.bytes))=some (some (.agg #[.string ⟨#[]⟩,.int .i64 0,.int .i64 0,.bool false,.int .i64 0]),5,48):=ahe
theorem Bf (d:De): ∀(n k:Nat),(rV d n k).length=n
 |0,_=>rfl
 |n+1,k=>by rw[rV,aB,Bf d n]
theorem QT (d:De): ∀(n k:Nat),rV d (n+1) k=rV d n k++[⟨d.nm,((k+n:Nat):Int),d.size,false,d.init⟩]
 |0,k=>rfl
 |n+1,k=>by rw[rV,QT d n (k+1),rV,show k+1+n=k+(n+1) by omega];rfl
def bC9 (d:De) (w:World) (e:Ending) (w':World):Prop:= ∃g cap,e= .returned (.slice (some ⟨g,0,none⟩) (mM d).length cap)∧(∀j u,((mM d).flatMap kM)[j]? =some u->w'.cell? ((⟨g,0,none⟩:Addr).add j)=some u)∧0<(mM d).length∧(mM d).length<=4∧Below w.heap.size w w'
def deV (d:De):Value:= .agg #[.int .i64 d.kind,.int .i64 d.line,.string d.nm,.int .i64 d.size,.int .i64 d.init,.string d.on]
theorem U3 {w:World} {g j:Nat} {u:Value} (h:w.cell? ⟨g,j,none⟩=some u):w.cell? ((⟨g,0,none⟩:Addr).add j)=some u:=by
 rcases Nat.eq_zero_or_pos j with rfl|hj
 ·simpa[Addr.add]using h
 ·simpa[Addr.add,Nat.ne_of_gt hj]using h
theorem QU (d:De) (w:World) (h0:0<=d.size) (h4:d.size<=4):Calls Tryz.prog 72 #[deV d] w (bC9 d w):=by
 unfold deV;by_cases hz:d.size=0
 ·have hcp:mM d=[⟨d.nm,0,0,d.kind==2,d.init⟩]:=by unfold mM;rw[hz];rfl
  have Qq:=ah hcp;clear hcp h0 h4;obtain⟨kd,ln,nm,sz,ini,on⟩:=d;obtain rfl:sz=0:=hz;go_enter Tryz.func72,Tryz.ntmps72;go_wp2
  all_goals (
   go_ret;refine⟨w.heap.size+1,1,by rw[Qq.o];rfl,λj u hu=> ?_,by rw[Qq.o];exact Nat.one_pos,by rw[Qq.o];simp,(aA _ _).alloc ahh _⟩;rw[Qq.o]at hu;have hg:=heap_alloc_new (w.alloc (.cells #[.int .i64 kd,.int .i64 ln,.string nm,.int .i64 0,.int .i64 ini,.string on] 118)) (.cells (kM ⟨nm,0,0,kd==2,ini⟩).toArray 42);have e:(w.alloc (.cells #[.int .i64 kd,.int .i64 ln,.string nm,.int .i64 0,.int .i64 ini,.string on] 118)).heap.size=w.heap.size+1:=ahh
   rw[e]at hg;refine U3 ?_;exact aG hg aiq)
 ·have hcp:mM d=rV d d.size.toNat 0:=by unfold mM;rw[if_neg (by simpa using hz)]
  have Qq:=ah hcp;have hs1:0<d.size:=ahf
  have hzb:(d.size==0)=false:=by rw[beq_eq_false_iff_ne];exact hz
  clear hcp hz;obtain⟨i0,hi,hz0,hz1,hz2⟩:=infoP Kv;have fF:=ah (ay hi (ay hz0 (ay hz1 hz2)));clear hi hz0 hz1 hz2;go_enter Tryz.func72,Tryz.ntmps72;go_upto_region 1 with fail;generalize hW:World.alloc w _=w1;obtain⟨nb,hnb,HB,-,HX,-⟩:=oJ hW;have dG:aj (nb<w1.heap.size):=ah (aI HX.o);rw[hnb];clear hW hnb;have z0:=aG (j:=0) HX.o rfl;have z2:=aG (j:=2) HX.o rfl;have z3:=aG (j:=3) HX.o rfl;have z4:=aG (j:=4) HX.o rfl;go_wp2_with fail;go_loopw [3,4,19] (λv3 _ i wr=> ∃k:Nat,i= .int .i64 k∧(k:Int)<=d.size∧wr.ownsRow w1.heap.size 42 5 v3 (rV d k 0).length ((rV d k 0).flatMap kM)∧Below w1.heap.size w1 wr) (λ_ _ i _=>d.size.toNat -(intOf i).toNat)
  case atStart=>exact⟨0,rfl,ahf,World.ownsRow_nil _ _ _ _,ak _ _⟩
  case round=>
   obtain⟨k,rfl,hk,hrow,hbel⟩:=hrel;have HRW:=ah hrow;have qM:=ah hbel;clear hrow hbel z0 z2 z3 z4;have lU:=ah ((qM.o.block nb dG.o).trans HX.o);have z0:=aG (j:=0) lU.o rfl;have z2:=aG (j:=2) lU.o rfl;have z3:=aG (j:=3) lU.o rfl;have z4:=aG (j:=4) lU.o rfl;by_cases hlt:(k:Int)<d.size
   ·have iJ:aj (Below wr.heap.size wr (wr.alloc (.cells (kM ⟨d.nm,k,d.size,false,d.init⟩).toArray 42))):=ah (aA _ _);have iV:=ah (gG (heap_alloc_new wr (.cells (kM ⟨d.nm,k,d.size,false,d.init⟩).toArray 42)));have ng:=ah (nQ HRW.o iJ.o);have HCL:=ah (Bf d k 0);obtain⟨hi,hz0,hz1,hz2⟩:=fF.o;have hk1:(rV d k 0).length+1<=maxLen:=(by rw[HCL.o];unfold maxLen;omega);have nk:((rV d k 0).length+1)*48<=140737488355328:=(by rw[HCL.o];omega);have hbs:w1.heap.size<=wr.heap.size+1:=Nat.le_succ_of_le qM.o.size;go_wp2_with (at_builtin;refine wpList_append_lies _ rfl _ _ 23 rfl w1.heap.size 42 i0 _ 5 48 Tryz.underlying23 hi hz0 hz1 hz2 rfl ahg _ _ _ rfl ng.o ⟨wr.heap.size,0,none⟩ 1 1 (kM ⟨d.nm,k,d.size,false,d.init⟩) rfl rfl iV.o (U9 _) ahg hk1 nk afe _ rfl ?_);intro g' cap' w3 hown hgr hmv hlt3;have HR3:aj (w3.ownsRow w1.heap.size 42 5 (.slice (some ⟨g',0,none⟩) ((rV d k 0).length+1) cap') (rV d (k+1) 0).length ((rV d (k+1) 0).flatMap kM)):=ah (by rw[QT,List.flatMap_append,List.flatMap_singleton,au,aU];exact hown);have HB3:aj (Below w1.heap.size w1 w3):=ah (qM.o.trans (zw HRW.o qM.o.size (jD (yR iJ.o) hgr)));clear hi hz0 hz1 hz2 hk1 nk hbs hown hgr hmv hlt3 ng iV iJ z0 z2 z3 z4;go_wp2_with fail;go_roundw
    case rel=>exact⟨k+1,ahj,ahf,HR3.o,HB3.o⟩
    case measure=>simp[intOf];omega
   ·have hke:d.size.toNat=k:=ahf;have HE:aj (mM d=rV d k 0):=ah (by rw[Qq.o,hke]);have HK:aj (0<k∧k<=4):=ah ahf;go_wp2_with fail;go_ret;rcases HRW.o.2 with⟨-,hn⟩|⟨g,cap,cur,hv,hb,hg,h1,h2,h3,h5⟩
    ·rw[Bf]at hn;have:=HK.o.1;omega
    ·refine⟨g,cap,(show Ending.returned u3=_ by rw[HE.o,hv]),λj u hu=>U3 ?_,by rw[HE.o,Bf];exact HK.o.1,by rw[HE.o,Bf];exact HK.o.2,HB.o.trans (qM.o.mono HB.o.size)⟩;rw[HE.o,<- h5]at hu;have jP:=(List.getElem?_eq_some_iff.1 hu).1;rw[List.getElem?_take_of_lt (by rw[List.length_take]at jP;omega)]at hu;exact aG hg (by rw[<- hu];simp)
structure Rw where
 T:TypeId
 m:Nat
 v:Value
 n:Nat
 xs:List Value
def Rw.Ok (w:World) (B:Nat) (r:Rw):Prop:=w.ownsRow B r.T r.m r.v r.n r.xs
def Apart (a b:Rw):Prop:= ∀k,a.v.ownBlock=some k->b.v.ownBlock≠some k
theorem Apart.symm {a b:Rw} (h:Apart a b):Apart b a:=λk hb ha=>h k ha hb
structure Rows (w:World) (B:Nat) (l:List Rw):Prop where
 own: ∀r∈l,r.Ok w B
 ap:l.Pairwise Apart
section
variable {w w':World} {B:Nat} {l pre post:List Rw} {r r':Rw}
theorem Rows.below (h:Rows w B l) (hb:Below w.heap.size w w'):Rows w' B l:=⟨λr hr=>nQ (h.own r hr) hb,h.ap⟩
theorem Rows.keep (h:Rows w B l) {k:Nat} (hg:w.grownBy w' (some k)) (hk:k<B):Rows w' B l:=⟨λr hr=>(h.own r hr).kept hg (by
 cases hv:r.v.ownBlock with
 |none=>exact .inl rfl
 |some j=>refine .inr (λe=> ?_);have:=((h.own r hr).lt j hv).1;injection e with e;omega),h.ap⟩
theorem Rows.put (h:Rows w B (pre++r::post)) (hg:w.grownBy w' r.v.ownBlock) (hr:r'.Ok w' B) (ho:pI w r.v r'.v):Rows w' B (pre++r'::post):=by
 have hap:=h.ap;rw[List.pairwise_append,List.pairwise_cons]at hap;obtain⟨h1,⟨h2,h3⟩,h4⟩:=hap;have keep: ∀q∈pre++r::post,Apart q r->q.Ok w' B:=λq hq ha=>(h.own q hq).kept hg (by
  cases hv:q.v.ownBlock with
  |none=>exact .inl rfl
  |some j=>exact .inr (λe=>ha j hv e.symm))
 have far: ∀q∈pre++r::post,Apart q r->Apart q r':=λq hq ha k hk e=>by
  rcases ho with e'|⟨g,e',hge⟩
  ·rw[e']at e;exact ha k hk e
  ·rw[e']at e;injection e with e;subst e;have:=((h.own q hq).lt _ hk).2;omega
 have ap1: ∀q∈pre,Apart q r:=λq hq=>h4 q hq r aW;have ap2: ∀q∈post,Apart q r:=λq hq=>(h2 q hq).symm;have m1: ∀q∈pre,q∈pre++r::post:=λq hq=>List.mem_append_left _ hq;have m2: ∀q∈post,q∈pre++r::post:=λq hq=>List.mem_append_right _ (aY _ hq);refine⟨λq hq=> ?_,?_⟩
 ·rcases List.mem_append.1 hq with hq|hq
  ·exact keep q (m1 q hq) (ap1 q hq)
  ·rcases List.mem_cons.1 hq with rfl|hq
   ·exact hr
   ·exact keep q (m2 q hq) (ap2 q hq)
 ·rw[List.pairwise_append,List.pairwise_cons];refine⟨h1,⟨λq hq=>(far q (m2 q hq) (ap2 q hq)).symm,h3⟩,λq hq x hx=> ?_⟩;rcases List.mem_cons.1 hx with rfl|hx
  ·exact far q (m1 q hq) (ap1 q hq)
  ·exact h4 q hq x (aY _ hx)
end
namespace Md
structure Vs where
 v0:Value
 v1:Value
 v2:Value
 v3:Value
 v4:Value
 v5:Value
end Md
def iB (s:Vs) (W:Wo):List Rw:=[⟨42,5,s.v0,W.cs.length,W.cs.flatMap kM⟩,⟨101,2,s.v1,W.ls.length,W.ls.flatMap mW⟩,⟨90,2,s.v2,W.ns.length,W.ns.flatMap yB⟩,
 ⟨9,1,s.v3,W.fs.length,W.fs.flatMap kI⟩,⟨9,1,s.v4,W.ts.length,W.ts.flatMap kI⟩,⟨94,3,s.v5,W.ss.length,W.ss.flatMap sZ⟩]
structure nU (w:World) (B bw:Nat) (s:Vs) (W:Wo):Prop where
 blk:w.heap[bw]? =some (.cells #[s.v0,s.v1,s.v2,s.v3,s.v4,s.v5] 29 (0,0))
 row:Rows w B (iB s W)
 lt:bw<B
 sz:B<=w.heap.size
theorem uQ: ∀x:xI,(mW x).length=2:=λ_=>rfl
theorem Lh: ∀x:Ji,(yB x).length=2:=λ_=>rfl
theorem zG: ∀x:ByteArray,(kI x).length=1:=λ_=>rfl
theorem GQ: ∀x:tK,(sZ x).length=3:=λ_=>rfl
section
variable {w w' w4:World} {B bw:Nat} {s:Vs} {W:Wo}
theorem nU.below (h:nU w B bw s W) (hb:Below w.heap.size w w'):nU w' B bw s W:=
 ⟨(hb.block _ (aI h.blk)).trans h.blk,h.row.below hb,h.lt,aO h.sz hb.size⟩
theorem nU.keep (h:nU w B bw s W) {k:Nat} (hg:w.grownBy w' (some k)) (hk:k<B) (hne:k≠bw):nU w' B bw s W:=
 ⟨(hg.block _ (aI h.blk) (by simp;exact λe=>hne e.symm)).trans h.blk,h.row.keep hg hk,h.lt,aO h.sz hg.size⟩
theorem nU.cells (h:nU w B bw s W):bw<w.heap.size∧w.cell? ⟨bw,0,none⟩=some s.v0∧w.cell? ⟨bw,1,none⟩=some s.v1∧w.cell? ⟨bw,2,none⟩=some s.v2∧w.cell? ⟨bw,3,none⟩=some s.v3∧w.cell? ⟨bw,4,none⟩=some s.v4∧w.cell? ⟨bw,5,none⟩=some s.v5∧∀j,w.frozen? ⟨bw,j,none⟩=false:=
 ⟨(aI h.blk),aG h.blk rfl,aG h.blk rfl,aG h.blk rfl,aG h.blk rfl,aG h.blk rfl,aG h.blk rfl,λ_=>bG h.blk⟩
theorem nU.grow {pre post:List Rw} {r r':Rw} {s':Vs} {W':Wo} {j:Nat} (h:nU w B bw s W) (hg:w.grownBy w4 r.v.ownBlock) (e1:iB s W=pre++r::post) (e2:iB s' W'=pre++r'::post) (hr:r'.Ok w4 B) (ho:pI w r.v r'.v)
 (hc:(#[s.v0,s.v1,s.v2,s.v3,s.v4,s.v5]:Array Value).setIfInBounds j r'.v= #[s'.v0,s'.v1,s'.v2,s'.v3,s'.v4,s'.v5]):nU (w4.setCell ⟨bw,j,none⟩ r'.v) B bw s' W':=by
 have hrow:=h.row;rw[e1]at hrow;have h4:=hrow.put hg hr ho;rw[<- e2]at h4;have hlt:=h.lt;have hne:r.v.ownBlock≠some bw:=λe=>by have:=((hrow.own r ahh).lt _ e).1;omega
 have hb:w4.heap[bw]? =some (.cells #[s.v0,s.v1,s.v2,s.v3,s.v4,s.v5] 29 (0,0)):=(hg.block _ (aI h.blk) (λe=>hne e.symm)).trans h.blk;have hgs:=bQ w4 ⟨bw,j,none⟩ r'.v;exact⟨oW hb _ hc,h4.keep hgs hlt,hlt,aO h.sz (aO hg.size hgs.size)⟩
theorem nU.own (h:nU w B bw s W) {r:Rw} (hr:r∈iB s W):r.Ok w B:=h.row.own r hr
end
theorem K9: ∀(ds pre:List De) (c l n f:Int),(mY ds pre c l n f).1=0->∀d∈ds,d.size<=4
 | [],_,_,_,_,_,_=>λd hd=>by cases hd
 |d::r,pre,c,l,n,f,h0=>by
  rw[mY]at h0;split at h0
  ·exact absurd (show(4:Int)=0 from h0) ahg
  split at h0
  ·exact absurd (show(2:Int)=0 from h0) ahg
  rename_i h2;split at h0
  ·exact absurd (show(2:Int)=0 from h0) ahg
  split at h0
  ·exact absurd (show(5:Int)=0 from h0) ahg
  split at h0
  ·exact absurd (show(6:Int)=0 from h0) ahg
  intro x hx;rcases List.mem_cons.1 hx with rfl|hx
  ·simpa using h2
  ·exact K9 r _ _ _ _ _ h0 x hx
namespace Md
def wP (i:Int):Nat->List Int->List tK
 |_,[]=>[]
 |n,x::r=>⟨i,n,x⟩::wP i (n+1) r
theorem Np (i:Int): ∀(l r:List Int) (n:Nat),wP i n (l++r)=wP i n l++wP i (n+l.length) r
 | [],r,n=>by simp[wP]
 |x::l,r,n=>by rw[List.cons_append,wP,Np i l r (n+1),wP,aB,show n+1+l.length=n+(l.length+1) by omega];rfl
theorem Bq (i:Int): ∀(l:List Int) (n:Nat),(wP i n l).length=l.length
 | [],_=>rfl
 |x::l,n=>by rw[wP,aB,Bq i l,aB]
theorem zC (i:Int): ∀(l:bf) (n:Nat),tZ i l n=wP i n (wF l)
 | .nil,_=>rfl
 | .cons h b e r,n=>by have hb:=oC b;have he:=oC e;rw[tZ,wF,wP,zC i b,zC i e,zC i r,Np,Np,au,hb,he,show n+1+(dB b+dB e)=n+1+dB b+dB e by omega]
theorem PS {w:World} {B:Nat} : ∀ {l:List De} {ao:Option Addr} {k:Nat},jG w B l ao k->∀d∈l,d.Ok
 | [],_,_,_=>λd hd=>by cases hd
 |x::r,_,_,⟨⟨_,_,_,_,_,_,_,_,_,_,h⟩,hr⟩=>λd hd=>by
  rcases List.mem_cons.1 hd with rfl|hd
  ·exact h
  ·exact PS hr d hd
theorem GU {w:World} {B:Nat} : ∀ {l:List Th} {ao:Option Addr} {k:Nat},iP w B l ao k->∀t∈l,t.Ok
 | [],_,_,_=>λd hd=>by cases hd
 |x::r,_,_,⟨⟨_,_,_,_,_,_,_,_,_,_,_,_,h,_⟩,hr⟩=>λd hd=>by
  rcases List.mem_cons.1 hd with rfl|hd
  ·exact h
  ·exact GU hr d hd
theorem Xm (d:De) (hd:cO d.size): ∀(n k:Nat),∀c∈rV d n k,cO c.sz
 |0,_=>λc hc=>by cases hc
 |n+1,k=>λc hc=>by
  rw[rV]at hc;rcases List.mem_cons.1 hc with rfl|hc
  ·exact hd
  ·exact Xm d hd n _ c hc
theorem VN: ∀(l:List De) (W:Wo) (g:List UInt8->Int),(∀d∈l,d.Ok)->(∀c∈W.cs,cO c.sz)->(∀x∈W.fs,x.size<=maxLen)->(∀c∈(KU l W g).cs,cO c.sz)∧(∀x∈(KU l W g).fs,x.size<=maxLen)
 | [],W,g,_,h1,h2=>⟨h1,h2⟩
 |d::r,W,g,hd,h1,h2=>by
  obtain⟨-,-,hn,hs,-,-⟩:=hd d aW;rw[KU];refine VN r _ _ (λx hx=>hd x (aY _ hx)) ?_ ?_
  ·unfold mg
   repeat' split
   ·intro c hc;rcases List.mem_append.1 hc with hc|hc
    ·exact h1 c hc
    ·unfold mM at hc;split at hc
     ·rw[List.mem_singleton.1 hc];show cO 0;unfold cO;decide
     ·exact Xm d hs _ _ c hc
   all_goals exact h1
  ·unfold mg
   repeat' split
   all_goals first|exact h2|skip
   intro x hx;rcases List.mem_append.1 hx with hx|hx
   ·exact h2 x hx
   ·rw[List.mem_singleton.1 hx];exact hn
theorem LG: ∀(l:List Th) (W:Wo) (i:Nat),(zH W i l).ts=W.ts++l.map (·.nm)
 | [],W,i=>by simp[zH]
 |t::r,W,i=>by rw[zH,LG r];simp
theorem PX {w:World} {B:Nat} : ∀ {l:List ByteArray} {ao:Option Addr} {k:Nat},dS kI 1 w B l ao k->(∀x∈l,x.size<=maxLen)->fT w B l ao k
 | [],_,_,_,_=>trivial
 |s::r,ao,k,⟨⟨b,off,e,hB,c⟩,hr⟩,h=>⟨⟨b,off,e,hB,by have:=c 0 _ rfl;simpa using this,h s aW⟩,PX hr (λx hx=>h x (aY _ hx))⟩
end Md
theorem wV {α:Type} {f:α->List Value} {m:Nat} {w:World} {base:Nat} {T:TypeId} {ao:Option Addr} {cap:Nat} {xs:List α} (hf: ∀x,(f x).length=m) (h:w.ownsRow base T m (.slice ao xs.length cap) xs.length (xs.flatMap f)):dS f m w w.heap.size xs ao 0:=by
 obtain⟨mK,cap',e,-,-,h2⟩:=gN hf h;injection e with e1 e2 e3;subst e1;exact h2
def RU (lo:Nat) (s:jr):Prop:=(∀b,s.aC=some b->lo<=b.block)∧(∀b,s.aL=some b->lo<=b.block)∧(∀b,s.aN=some b->lo<=b.block)∧(∀b,s.aF=some b->lo<=b.block)∧(∀b,s.aT=some b->lo<=b.block)∧(∀b,s.aS=some b->lo<=b.block)
theorem Dp {w:World} {B lo m n cap:Nat} {T:TypeId} {ao:Option Addr} {xs:List Value} {v:Value} (h:w.ownsRow B T m v n xs) (hv:v= .slice ao n cap) (hB:lo<=B): ∀b,ao=some b->lo<=b.block:=λb e=>by
 have:=(h.lt b.block (by rw[hv,e];rfl)).1;omega
theorem dS.keep {α:Type} {f:α->List Value} {m:Nat} {w w':World} {B:Nat} {l:List α} {ao:Option Addr} {k:Nat} (h:dS f m w B l ao k) (hk: ∀b,ao=some b->w'.heap[b.block]? =w.heap[b.block]?):dS f m w' B l ao k:=dS.mk (λi x hx=>by
 obtain⟨b,off,e,hB,hc⟩:=dS.at i x h hx;exact⟨b,off,e,hB,λj u hu=>(World.cell?_of_block (a:=⟨b,off+(k+i)*m+j,none⟩) (show w'.heap[b]? =w.heap[b]? from hk ⟨b,off,none⟩ e)).trans (hc j u hu)⟩)
theorem fT.keep {w w':World} {B:Nat} : ∀ {l:List ByteArray} {ao:Option Addr} {k:Nat},fT w B l ao k->(∀b,ao=some b->w'.heap[b.block]? =w.heap[b.block]?)->fT w' B l ao k
 | [],_,_,_,_=>trivial
 |_::_,_,k,⟨⟨b,off,e,hB,c,hs⟩,hr⟩,hk=>⟨⟨b,off,e,hB,(World.cell?_of_block (a:=⟨b,off+k,none⟩) (show w'.heap[b]? =w.heap[b]? from hk ⟨b,off,none⟩ e)).trans c,hs⟩,fT.keep hr hk⟩
theorem gq.keep {w w':World} {B lo:Nat} {W:Wo} {s:jr} (h:gq w B W s) (hn:RU lo s) (hk: ∀k,lo<=k->w'.heap[k]? =w.heap[k]?):gq w' B W s:=
 ⟨dS.keep h.cs (λb e=>hk _ (hn.1 b e)),dS.keep h.ls (λb e=>hk _ (hn.2.1 b e)),dS.keep h.ns (λb e=>hk _ (hn.2.2.1 b e)),fT.keep h.fs (λb e=>hk _ (hn.2.2.2.1 b e)),fT.keep h.ts (λb e=>hk _ (hn.2.2.2.2.1 b e)),dS.keep h.ss (λb e=>hk _ (hn.2.2.2.2.2 b e)),h.lc,h.ll,h.ln,h.lf,h.lt,h.lS,h.ok⟩
theorem ZF {w w4:World} {BL bw m n j:Nat} {T:TypeId} {v v' vL u:Value} {xs:List Value} (hL:w.ownsRow BL T m vL n xs) (hbw:bw<BL) (hap: ∀q,vL.ownBlock=some q->v.ownBlock≠some q) (hg:w.grownBy w4 v.ownBlock) (ho:pI w v v'):
 (w4.setCell ⟨bw,j,none⟩ u).ownsRow BL T m vL n xs∧∀q,vL.ownBlock=some q->v'.ownBlock≠some q:=by
 have h4:w4.ownsRow BL T m vL n xs:=hL.kept hg (by
  cases hv:vL.ownBlock with
  |none=>exact .inl rfl
  |some q=>exact .inr (λe=>hap q hv e.symm))
 refine⟨h4.kept (bQ w4 ⟨bw,j,none⟩ u) ?_,λq hq e=> ?_⟩
 ·cases hv:vL.ownBlock with
  |none=>exact .inl rfl
  |some q=>refine .inr (λe=> ?_);have:=(h4.lt q hv).1;injection e with e;simp only at e;omega
 ·rcases ho with e'|⟨g,e',hg'⟩
  ·rw[e']at e;exact hap q hq e
  ·rw[e']at e;injection e with e;subst e;have:=(hL.lt _ hq).2;omega
theorem Dg (l:List xI) (nm:ByteArray) (w:World) (ao:Option Addr) (cap:Nat) (hl:l.length<=maxLen) (hw:dS mW 2 w w.heap.size l ao 0):
 Calls Tryz.prog 51 #[.slice ao l.length cap,.string nm] w λe w'=>e= .returned (.int .i64 (gK (l.map (·.nm)) nm))∧w=w':=by
 unfold maxLen at hl;go_enter Tryz.func51,Tryz.ntmps51;go_wp2_with fail;go_loop [5] (λs=> ∃(k:Nat) (R:List xI),s= .int .i64 k∧k+R.length=l.length∧gK (l.map (·.nm)) nm=sG (R.map (·.nm)) nm k∧dS mW 2 w w.heap.size R ao k) (λs=>l.length -(intOf s).toNat)
 case atStart=>exact⟨0,l,rfl,ahh,rfl,hw⟩
 case round=>
  obtain⟨k,R,rfl,hlen,heq,hrow⟩:=hrel;have HE:=ah heq;clear heq;cases R with
  |nil=>
   exact Abv
  |cons x R=>
   obtain⟨⟨b,off,rfl,hB,hcs⟩,hrest⟩:=hrow;have z0:=hcs 0 _ rfl;simp only[Nat.add_zero]at z0;simp only[aB]at hlen;have hkl:k<l.length:=ahf
   clear hcs;exact AaV
theorem jy {w:World} {L:GL} {W:Wo} {s:jr} {lc:List ByteArray} {al:Option Addr} {cl:Nat} {v:Value} {code:List dw} {a b:Int} (h:iE 65 w L W s lc al cl v code a b) (x:dw) (hl:code.length+1<=1000000000000):
 Calls Tryz.prog 19 #[.pointer (some ⟨L.gb,0,none⟩),GK x] w λe w'=>e= .returned (.tuple #[])∧Qm 65 w L W s lc al cl v code a b [{x with st:=a}] w':=by
 obtain⟨ao,cap,rfl,hcap,-⟩:=h.form;obtain⟨hlt,-,-,-,-,-,-,-,c7,c8,c9,cf⟩:=h.cells;have HI:=ah h;have HL:=ah hl;clear h hl;unfold GK;go_enter Tryz.func19,Tryz.ntmps19;go_upto_region 2 with fail;generalize hW:World.alloc w _=wq;obtain⟨nb,hnb,HB,-,HX,-⟩:=oJ hW;have HQ:=ah (HI.o.below HB.o);have dG:aj (L.B1<=nb∧nb<wq.heap.size∧L.gb<wq.heap.size∧L.gb≠nb∧(Value.slice ao code.length cap).ownBlock≠some nb):=ah aaf;have HGV:aj ((Value.slice ao code.length cap).ownBlock≠some L.gb):=ah (λe=>adZ);have Sv:=ah HQ.o.cells.2.2.2.2.2.2.2.2.1;have HOW:aj (∀k,(Value.slice ao code.length cap).ownBlock=some k->k<wq.heap.size):=ah (λk e=>(HQ.o.own k e).2);rw[hnb];clear hW hnb c7 c8 c9 cf hlt;refine Fz (vF wq 4 6 7 10 (au2 40 6 wq L.B1 (Value.slice ao code.length cap).ownBlock (code.length+1) (code.flatMap jd++jd {x with st:=a})) ⟨L.gb,7,none⟩ (UA (code.length+1)) (jd {x with st:=a}).toArray 40) (Ag.le wq.heap.size) [9,10,11,12,13,14,15,16,17,18] ⟨none,false,none⟩ ahe ahe (λg w=>Ag.le_refl _ g w) aix vF.start ?_;apply oo.step
 case cu=>exact AaY
 apply oo.step
 case cu=>exact AaY
 apply oo.step
 case cu=>exact Abm
 apply oo.step
 case cu=>exact Abm
 refine oo.some (λv g _=>v= .slice ao code.length cap∧g.h=true) (λv g w g' w' hle h=>⟨h.1,hle.2.1 h.2⟩) ?_ ?_
 ·intro D A g w' hDn hC hO hD;simp[mR,ni,gQ,Act.eval,Region.binds]at hD;obtain⟨hp,hle,hm⟩:=hC.mk8 hDn ahg;have z3:=((hC.pre hp).cell (p:=⟨L.gb,7,none⟩) dG.o.2.2.1).trans Sv.o;simp[go_sem,tQ,Oper.wp,hD,z3];exact jU.mk hle hm ⟨rfl,rfl⟩
 simp only[dI];apply oo.step
 case cu=>intro D A g w' hDn hC hO hD;have e3:=hO 3 aix;simp[Act.eval]at e3;have zc:=λ(j:Nat) (u:Value) (hu:(jd {x with st:=a})[j]? =some u)=>hC.cell dG.o.2.1 dG.o.2.2.2.2 dG.o.2.2.2.1 (aG (j:=j) HX.o adj);exact AaX
 refine oo.some (λv g _=> ∃b,v= .slice (some ⟨b,0,none⟩) 1 1∧g.o=some b) (λv g w g' w' hle h=>ab8) ?_ ?_
 ·intro D A g w' hDn hC hO hD;simp[mR,ni,gQ,Act.eval,Region.binds]at hD;simp[go_sem,tQ,Oper.wp,hD];have hM:=hC.bh2 hDn ahg;exact jU.mk hM.1 hM.2 ⟨_,rfl,rfl⟩
 refine oo.some (λv g _=> ∃q,g.p=some q∧v=UA (code.length+1) q) (λv g w g' w' hle h=>abV) ?_ ?_
 ·intro D A g w' hDn hC hO hD;simp[mR,ni,gQ,Act.eval,Region.binds]at hD;obtain⟨⟨hs1,hh⟩,bb,hs2,hb⟩:=hD;simp only[tQ,if_true];have hbl:=hC.pre (hC.uY hDn);obtain⟨bJ0,av8⟩:=hC.row bb hb;have hown:=(HQ.o.below hbl).row;obtain⟨i0,hi0,hz0,hz1,hz2⟩:=Ai aI2;refine wp_append_lies w' _ _ _ aix L.B1 40 i0 _ 6 48 Tryz.underlying35 hi0 hz0 hz1 hz2 aix ahf (.slice ao code.length cap) code.length (code.flatMap jd) (by simp[Act.eval,hs1]) hown ⟨bb,0,none⟩ 1 1 (jd {x with st:=a}) (by simp[Act.eval,hs2]) aix (gG av8) (bf8 _) ahg aex agT (HQ.o.below hbl).sz _ rfl ?_;exact AaW
 simp only[dI];apply oo.step
 case cu=>exact Abm
 apply oo.step
 case cu=>exact Abm
 refine oo.some (λ_ _ _=>True) (λ_ _ _ _ _ _ _=>trivial) ?_ ?_
 ·intro D A g w' hDn hC hO hD;simp[mR,ni,gQ,Act.eval,Region.binds]at hD;obtain⟨hs1,⟨qa,qc,hq,hs2⟩,-⟩:=hD;have hR:=hC.post (qa,qc) hq hDn;have hblk:=hR.2.1.block L.gb dG.o.2.2.1 (λe=>HGV.o e.symm);have z3:=(World.cell?_of_block (a:=⟨L.gb,7,none⟩) hblk).trans Sv.o;have f3:w'.frozen? ⟨L.gb,7,none⟩=false:=by rw[World.frozen?_of_block (a:=⟨L.gb,7,none⟩) hblk];exact bG HQ.o.blk
  unfold UA at hs2;simp[go_sem,tQ,Oper.wp,hs1,hs2,z3,f3];have hM:=hC.bh4 hDn hq dG.o.2.2.1 ahg ahg;exact jU.EA (v:=undef) hM.1 hM.2 trivial
 refine oo.done ?_;intro D g wz hD hC;simp only[QM,List.nil_append,List.cons_append,List.map_cons,List.map_nil];intro v0 h0 v1 h1 v2 h2 v3 h3 v4 h4 v5 h5 v6 h6 v7 h7 v8 h8 v9 h9 v10 h10;obtain⟨q,hq,rfl⟩:=h7;obtain⟨w5,hR,hW⟩:=hC.fin q hq (hD 10 ahh);have HP:=ah (HI.o.push (wz:=wq) (w4:=w5) (g':=q.1) (cap':=q.2) {x with st:=a} HB.o hR.1 hR.2.1 hR.2.2);clear hC hD;refine mE ?_;go_simp;go_wp2_with fail;refine bodyPost_end (v:= .tuple #[]) (by simp[results,Tryz.results19,go_sem]) rfl ⟨rfl,?_⟩;exact⟨_,HP.o⟩
theorem D5 (W:Wo) (s:jr) (nm:ByteArray) (w:World) (hw:gq w w.heap.size W s):
 Calls Tryz.prog 125 #[mQ W s,.string nm] w λe w'=>e= .returned (.int .i64 (W.cell nm))∧Below w.heap.size w w':=by
 have hl:=hw.lc;unfold maxLen at hl;have HW:=ah hw;clear hw;unfold Wo.cell mQ;go_enter Tryz.func125,Tryz.ntmps125;go_upto_region 1 with fail;generalize hW:World.alloc w _=W1;obtain⟨nb,hnb⟩: ∃n,w.heap.size=n:=⟨_,rfl⟩;have HB:aj (Below w.heap.size w W1):=ah afd;have hc0:W1.cell? ⟨nb,0,none⟩=some (.slice s.aC W.cs.length s.cC):=aaW
 have HF:=ah (HW.o.cs.same HB.o);rw[hnb];clear hW hnb;go_wp2_with fail;go_loop [5] (λs5=> ∃(k:Nat) (R:List mU),s5= .int .i64 k∧k+R.length=W.cs.length∧gK (W.cs.map (·.nm)) nm=sG (R.map (·.nm)) nm k∧dS kM 5 W1 W1.heap.size R s.aC k) (λs=>W.cs.length -(intOf s).toNat)
 case atStart=>exact⟨0,W.cs,rfl,ahh,rfl,HF.o⟩
 case round=>
  obtain⟨k,R,rfl,hlen,heq,hrow⟩:=hrel;have HE:=ah heq;clear heq HF;cases R with
  |nil=>
   obtain rfl:k=W.cs.length:=afb
   go_wp2_with fail;go_ret;exact⟨dh HE.o.symm,HB.o⟩
  |cons x R=>
   obtain⟨⟨b,off,hao,jT,hcs⟩,hrest⟩:=hrow;have z0:=hcs 0 _ rfl;simp only[Nat.add_zero]at z0;rw[hao]at hc0;simp only[aB]at hlen;have hkl:k<W.cs.length:=ahf
   have zL:=ah hao;clear hcs hao;cases hc:(x.nm.toList==nm.toList)
   ·have dP:=ah (HE.o.trans (if_neg (show ¬(x.nm.toList==nm.toList)=true by rw[hc];decide)));exact Abh
   ·have dP:=ah (HE.o.trans (if_pos hc));go_wp2_with fail;go_ret;exact⟨dh dP.o.symm,HB.o⟩
theorem KH {T:TypeId} {w:World} {L:GL} {W:Wo} {s:jr} {lc:List ByteArray} {al:Option Addr} {cl:Nat} {v:Value} {code:List dw} {a b:Int} (h:iE T w L W s lc al cl v code a b) (nm:ByteArray):
 Calls Tryz.prog 86 #[.pointer (some ⟨L.gb,0,none⟩),.string nm] w λe w'=>e= .returned (.int .i64 (W.cond nm))∧w=w':=by
 obtain⟨hlt,-,-,hc0,-,-,-,-,-,-,-,-⟩:=h.cells;have hl:=h.wo.ln;unfold maxLen at hl;have HF:=ah (h.wo.ns.mono h.b0);unfold Wo.cond;clear h;go_enter Tryz.func86,Tryz.ntmps86;go_wp2_with fail;go_loop [5] (λs4=> ∃(k:Nat) (R:List Ji),s4= .int .i64 k∧k+R.length=W.ns.length∧gK (W.ns.map (·.nm)) nm=sG (R.map (·.nm)) nm k∧dS yB 2 w w.heap.size R s.aN k) (λs=>W.ns.length -(intOf s).toNat)
 case atStart=>exact⟨0,W.ns,rfl,ahh,rfl,HF.o⟩
 case round=>
  obtain⟨k,R,rfl,hlen,heq,hrow⟩:=hrel;have HE:=ah heq;clear heq HF;cases R with
  |nil=>
   obtain rfl:k=W.ns.length:=afb
   go_wp2_with fail;go_ret;exact⟨dh HE.o.symm,rfl⟩
  |cons x R=>
   obtain⟨⟨b,off,hao,jT,hcs⟩,hrest⟩:=hrow;have z0:=hcs 0 _ rfl;simp only[Nat.add_zero]at z0;rw[hao]at hc0;simp only[aB]at hlen;have hkl:k<W.ns.length:=ahf
   clear hcs hao;exact AaV
end Go.Proofs.YtcjgfgkllmldpaaGreatDoor
