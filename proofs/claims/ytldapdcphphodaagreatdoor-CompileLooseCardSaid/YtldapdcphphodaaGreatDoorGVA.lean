/- What is known of the sanity check's objects and code. No program in sight. And what hangs on it. -/
import Derived.Test.YtldapdcphphodaaGreatDoorGRC
import Derived.Test.YtldapdcphphodaaGreatDoorGCE
import Derived.Laws.MakeOwn
import Derived.Laws.Append
import Derived.Maps.AppendAt
set_option linter.unusedSimpArgs false
set_option linter.unusedVariables false
set_option maxHeartbeats 40000000
set_option maxRecDepth 1000000
namespace Go.Proofs.YtldapdcphphodaaGreatDoor
open Go.RowKit
namespace Md
def JZ (op:Int):Bool:=decide (1<=op)&&decide (op<=5)
abbrev LkE (W:Wo) (i:Int):Prop:=0<=i∧W.ls[i.toNat]?.map (·.rw)=some false
abbrev ScE (W:Wo) (i:Int):Prop:=0<=i∧W.cs[i.toNat]?.map (·.sz)=some 0
abbrev AyE (W:Wo) (i:Int):Prop:=0<=i∧W.cs[i.toNat]?.map (λc=>(c.ix,c.sz))=some (0,2)
theorem Ov {α β:Type} {l:List α} {f:α->β} {i:Int} {q:β} (h:0<=i∧l[i.toNat]?.map f=some q): ∃(k:Nat) (x:α),i=k∧k<l.length∧l[k]? =some x∧f x=q:=by
 obtain⟨k,rfl⟩:=Int.eq_ofNat_of_zero_le h.1;obtain⟨x,hx,hq⟩:=Option.map_eq_some_iff.1 h.2;exact⟨k,x,rfl,(List.getElem?_eq_some_iff.1 hx).1,hx,hq⟩
inductive Vz:List tT->List ByteArray->Prop
 |nil:Vz [] []
 |one {c r v} :c.sz=0->c.ix=0->Vz r v->Vz (c::r) (c.nm::v)
 |two {a i r v} :Vz r v->Vz (⟨a,0,2,false,i⟩::⟨a,1,2,false,i⟩::r) (a::v)
def YQ:List (List UInt8)->List ByteArray->Bool
 |_,[]=>true
 |seen,x::r=>(Tk.iZ x.toList&& !(seen.contains x.toList))&&YQ (seen++[x.toList]) r
def Ci (W:Wo) (v:List ByteArray):List ByteArray:=v++W.ls.map (·.nm)++W.ns.map (·.nm)++W.fs++W.ts
def YC:Int->List yX->Bool
 |_,[]=>true
 |k,s::r=>decide (s.th=0∧s.st=k)&&YC (k+1) r
structure WI (W:Wo) (v:List ByteArray):Prop where
 sm:(W.cs.length<=12∧W.ls.length<=4∧W.ns.length<=2∧W.fs.length<=2∧W.ss.length<=60∧1<=W.ts.length∧W.ts.length<=4)∧v.length<=12∧v≠[]∧W.fs≠[]
 cs:Vz W.cs v
 nm:YQ [] (Ci W v)=true
 cn: ∀c∈W.ns,LkE W c.mx
 si:YC 0 W.ss=true
 kl:(∀c∈W.ls,c.nm.size<=maxLen)∧∀c∈W.ns,c.nm.size<=maxLen
 kv: ∀x∈v,x.size<=maxLen
abbrev OpE (W:Wo) (i:dF):Prop:=(i.op=2∨i.op=28)∨((i.op=11∨i.op=12)∧LkE W i.a)∨(i.op=8∧ScE W i.a)∨(i.op=7∧AyE W i.b∧i.n=2)
abbrev StE (W:Wo) (th i:Int):Prop:=0<=i∧W.ss[i.toNat]?.map (·.th)=some th
abbrev InE (W:Wo) (th n regs k:Int) (i:dF) (r:List dF):Prop:=
 ((i.op=28∧k=n -1∧i.st= -1)∨(i.op≠28∧k≠n -1∧StE W th i.st))∧(∀x∈iF i,0<=x∧x<regs)∧OpE W i∧(i.op=2->(r.map (·.op)).headD 2≠2)
def H9 (W:Wo) (th n regs:Int):Int->List dF->Bool
 |_,[]=>true
 |k,i::r=>decide (InE W th n regs k i r)&&H9 W th n regs (k+1) r
def thE (W:Wo) (th:Int) (t:yY):Bool:=decide ((0<=t.regs∧t.regs<=32)∧1<=t.is.length∧t.is.length<=100)&&H9 W th t.is.length t.regs 0 t.is
def MJ (W:Wo):Int->List yY->Bool
 |_,[]=>true
 |k,t::r=>thE W k t&&MJ W (k+1) r
end Md
open Go.RowKit Md Pz
def Tn:aY->Bool
 | .nil=>true
 | .cons h b e r=>decide (Md.fu h<=300000)&&(Tn b&&(Tn e&&Tn r))
theorem KV: ∀l:aY,Tn l=true->l.Ev (λh=>Md.fu h<=300000)
 | .nil,_=>trivial
 | .cons h b e r,hs=>by unfold Tn at hs;simp only[aP,decide_eq_true_eq]at hs;exact⟨hs.1,KV b hs.2.1,KV e hs.2.2.1,KV r hs.2.2.2⟩
def aa6 (p:Pr):Bool:=decide (yL p.ts<=100000000000)&&p.ts.all (λt=>Tn t.body)
theorem aa7 {p:Pr} (h:aa6 p=true):Fit p:=by
 unfold aa6 at h;simp only[aP,decide_eq_true_eq,List.all_eq_true]at h;exact⟨h.1,λt ht=>KV _ (h.2 t ht)⟩
def aP5:Bool:=(jC ny).1==0&&(aa6 ny&&((tH (jg ny) ny.ts 0).map (λt=>t.is.length)== [6,1]&&(ny.ts.length==2&&((jg ny).ts.length==2&&MJ (jg ny) 0 (tH (jg ny) ny.ts 0)))))
theorem aT3:aP5=true:=ahF
theorem aP6:(jg ny).cs=[⟨nK 1,0,0,false,2⟩,⟨nK 6,0,2,false,0⟩,⟨nK 6,1,2,false,0⟩]:=ahd
theorem aQ0:WI (jg ny) [nK 1,nK 6] where
 sm:=ahF
 cs:=by rw[aP6];exact .one rfl rfl (.two .nil)
 nm:=ahd
 cn:=ahF
 si:=ahd
 kl:=ahF
 kv:=ahF
theorem ag4: ∃t u v,(jC ny).1=0∧Fit ny∧tH (jg ny) ny.ts 0=[t,u]∧t.is.length=6∧ny.ts.length=2∧(jg ny).ts.length=2∧MJ (jg ny) 0 (tH (jg ny) ny.ts 0)=true∧WI (jg ny) v:=by
 have h:=aT3;have hv:=aQ0;unfold aP5 at h;generalize nK 1=n1,nK 6=n6 at hv;generalize ny=p at h hv⊢;simp only[aP,beq_iff_eq]at h;obtain⟨h1,h2,h3,h4,h5,h6⟩:=h;generalize hc:tH (jg p) p.ts 0=c at h3 h6;rcases c with _|⟨t,_|⟨u,_|⟨_,_⟩⟩⟩ <;> simp at h3;exact⟨t,u,_,h1,aa7 h2,rfl,h3.1,h4,h5,h6,hv⟩
open Md
theorem A8 {i n:Int} (h0:0<=i) (h1:i<n) (w:World):Calls Tryz.prog 83 #[.int .i64 i,.int .i64 n] w λe w'=>e= .returned (.bool true)∧w=w':=by
 go_enter Tryz.func83,Tryz.ntmps83;go_wp2_with fail;go_ret;exact⟨by simp[h0,h1],rfl⟩
theorem rT (i:Int) (w:World):Calls Tryz.prog 119 #[.int .i64 i] w λe w'=>e= .returned (.bool (JZ i))∧w=w':=by
 unfold JZ;by_cases h0:1<=i <;> by_cases h1:i<=5
 all_goals go_enter Tryz.func119,Tryz.ntmps119;go_wp2_with fail;go_ret;exact⟨by simp[h0,h1],rfl⟩
section
variable {W:Wo} {s:jP} {i:Int} {w:World}
theorem NU (hw:gL w w.heap.size W s) (h:LkE W i):Calls Tryz.prog 49 #[oK W s,.int .i64 i,.bool false] w λe w'=>e= .returned (.bool true)∧Below w.heap.size w w':=by
 obtain⟨k,x,rfl,hk,hx,hr⟩:=Ov h;have hl:=hw.ll;unfold maxLen at hl;have HW:=ah hw;clear hw h;unfold oK;go_enter Tryz.func49,Tryz.ntmps49;go_upto_region 1 with fail;generalize hW:World.alloc w _=W1;obtain⟨nb,hnb,iy,HB,HX,-⟩:=Ea hW;have hc:=aQ (j:=1) HX.o rfl;obtain⟨b,off,hao,hb,hcs⟩:=(show eu _ _ W1 nb W.ls _ 0 by have h:=HW.o.ls;rw[hnb]at h;exact h.below HB.o).at k x hx;simp only[hao,List.getElem_toArray,List.getElem_cons_zero,List.getElem_cons_succ]at hc;rw[hnb];clear hW hnb HW HX hx;have k0:(0:Int)<=(k:Int):=ahe
 have k1:(k:Int)<(W.ls.length:Int):=ahe
 have z1:=hcs 1 _ rfl;simp only[hr,aV,Nat.add_zero]at z1;clear hcs;go_wp2_with fail;refine(A8 k0 k1 W1).mono ?_;rintro e w2 ⟨rfl,rfl⟩;go_wp2_with fail;go_ret;exact⟨rfl,agw⟩
theorem RS (hw:gL w w.heap.size W s) (h:ScE W i):Calls Tryz.prog 117 #[oK W s,.int .i64 i] w λe w'=>e= .returned (.bool true)∧Below w.heap.size w w':=by
 obtain⟨k,x,rfl,hk,hx,hr⟩:=Ov h;have hl:=hw.lc;unfold maxLen at hl;have HW:=ah hw;clear hw h;unfold oK;go_enter Tryz.func117,Tryz.ntmps117;go_upto_region 1 with fail;generalize hW:World.alloc w _=W1;obtain⟨nb,hnb,iy,HB,HX,-⟩:=Ea hW;have hc:=aQ (j:=0) HX.o rfl;obtain⟨b,off,hao,hb,hcs⟩:=(show eu _ _ W1 nb W.cs _ 0 by have h:=HW.o.cs;rw[hnb]at h;exact h.below HB.o).at k x hx;simp only[hao,List.getElem_toArray,List.getElem_cons_zero,List.getElem_cons_succ]at hc;rw[hnb];clear hW hnb HW HX hx;have k0:(0:Int)<=(k:Int):=ahe
 have k1:(k:Int)<(W.cs.length:Int):=ahe
 have z2:=hcs 2 _ rfl;simp only[hr,aV,Nat.add_zero]at z2;clear hcs;go_wp2_with fail;refine(A8 k0 k1 W1).mono ?_;rintro e w2 ⟨rfl,rfl⟩;go_wp2_with fail;go_ret;exact⟨rfl,agw⟩
theorem Vb (hw:gL w w.heap.size W s) (h:AyE W i):Calls Tryz.prog 118 #[oK W s,.int .i64 i,.int .i64 2] w λe w'=>e= .returned (.bool true)∧Below w.heap.size w w':=by
 obtain⟨k,x,rfl,hk,hx,hr⟩:=Ov h;injection hr with h1 h2;have hl:=hw.lc;unfold maxLen at hl;have HW:=ah hw;clear hw h;unfold oK;go_enter Tryz.func118,Tryz.ntmps118;go_upto_region 1 with fail;generalize hW:World.alloc w _=W1;obtain⟨nb,hnb,iy,HB,HX,-⟩:=Ea hW;have hc:=aQ (j:=0) HX.o rfl;obtain⟨b,off,hao,hb,hcs⟩:=(show eu _ _ W1 nb W.cs _ 0 by have h:=HW.o.cs;rw[hnb]at h;exact h.below HB.o).at k x hx;simp only[hao,List.getElem_toArray,List.getElem_cons_zero,List.getElem_cons_succ]at hc;rw[hnb];clear hW hnb HW HX hx;have k0:(0:Int)<=(k:Int):=ahe
 have k1:(k:Int)<(W.cs.length:Int):=ahe
 have z1:=hcs 1 _ rfl;have z2:=hcs 2 _ rfl;simp only[h1,h2,aV,Nat.add_zero]at z1 z2;clear hcs;go_wp2_with fail;refine(A8 k0 k1 W1).mono ?_;rintro e w2 ⟨rfl,rfl⟩;go_wp2_with fail;go_ret;exact⟨rfl,agw⟩
theorem K5 (n:Int) (x:dF) (hw:gL w w.heap.size W s) (h:OpE W x):
 Calls Tryz.prog 84 #[oK W s,.int .i64 n,Jb x] w λe w'=>e= .returned (.bool true)∧Below w.heap.size w w':=by
 obtain⟨op,a,b,c,m,st⟩:=x;have HW:=ah hw;clear hw;unfold oK Jb;go_enter Tryz.func84,Tryz.ntmps84;go_upto_region 1 with fail;generalize hW:World.alloc (World.alloc w _) _=W1;obtain⟨nb,hnb,iy,HB,G6,vW,HS⟩:=SY hW;rw[hnb]at HW;have Wv:aj (gL W1 W1.heap.size W s):=ah (by have h:=HB.o;rw[<- hnb]at h HW;exact HW.o.same h);rw[hnb];clear hW hnb HW;obtain⟨c0,c1,c2,c3,c4,c5⟩:=nJ G6.o;obtain⟨x0,x1,x2,x3,x4,x5⟩:=nJ vW.o;clear G6 vW
 try dsimp only at h
 rcases h with(rfl|rfl)|⟨rfl|rfl,h⟩|⟨rfl,h⟩|⟨rfl,h,rfl⟩
 all_goals
  go_wp2_with fail
  first
   |(go_ret;exact⟨rfl,agw⟩)
   |(refine Calls.mono (by first|exact NU Wv.o h|exact RS Wv.o h|exact Vb Wv.o h) ?_;rintro e w2 ⟨rfl,hb⟩;go_wp2_with fail;go_ret;exact⟨rfl,by rw[iy.o];exact HB.o.trans (hb.mono (by have:=HS.o;omega))⟩)
end
theorem Gw (b off cap n k:Nat) (op:Int) (w:World) (hk:k<n) (hn:n<=100) (z0:w.cell? ⟨b,off+k*6,none⟩=some (.int .i64 op)) (h5:(op==5)=false):
 Calls Tryz.prog 120 #[.slice (some ⟨b,off,none⟩) n cap,.int .i64 k] w λe w'=>e= .returned (.int .i64 ((k+1:Nat):Int))∧w=w':=by
 have k0:(0:Int)<=(k:Int):=ahe
 have k1:(k:Int)<(n:Int):=ahe
 have hwr:IntKind.i64.wrap ((k:Int)+1)=(k:Int)+1:=IntWalk.i64_in _ ahe;go_enter Tryz.func120,Tryz.ntmps120;go_wp2_with fail;go_ret;exact⟨by first|rfl|simp[hwr],rfl⟩
def tL (w:World) (g:Nat) (G:List Bool):Prop:=w.heap[g]? =some (.cells (G.map Value.bool).toArray 4 (0,0))
theorem tL.cell {w:World} {g c:Nat} {G:List Bool} {q:Bool} (h:tL w g G) (hc:G[c]? =some q):w.cell? ⟨g,c,none⟩=some (.bool q):=aQ h (by simp[hc])
theorem tL.set {w:World} {g:Nat} {G:List Bool} (h:tL w g G) (c:Nat) (q:Bool):tL (w.setCell ⟨g,c,none⟩ (.bool q)) g (G.set c q):=oH h _ (by simp[List.map_set])
theorem tL.far {w:World} {g g':Nat} {G:List Bool} (h:tL w g G) (hne:g'≠g) (c:Nat) (v:Value):tL (w.setCell ⟨g',c,none⟩ v) g G:=(dB _ _ _ rfl hne).trans h
theorem aS5:(Tryz.prog.info? 4).map (λi=>(i.zero,i.size,i.bytes))=some (some (.bool false),1,1):=ahd
theorem Vh (n:Nat):madeCells (Value.bool false).cells (n*1)=((List.replicate n false).map Value.bool).toArray:=by
 rw[Nat.mul_one];apply Array.ext
 ·simp[madeCells]
 ·intro i h1 h2;simp[madeCells,Value.cells,Nat.mod_one]
theorem ae0 (n:Nat) (hn:n<=100) (w:World):
 (Instr.makeSlice 177 (.int .i64 (n:Int)) (.int .i64 (n:Int))).run Tryz.prog w= .ok (.slice (some ⟨w.heap.size,0,none⟩) n n) (w.alloc (.cells ((List.replicate n false).map Value.bool).toArray 4)):=by
 obtain⟨i0,hi0,hz0,hz1,hz2⟩:=yx aS5;have hr:=run_make (P:=Tryz.prog) w 177 4 i0 (.bool false) Tryz.underlying177 hi0 hz0 .i64 .i64 n n ahe ahe (by rw[hz2];omega) ahe;simp only[Int.toNat_natCast]at hr;rw[hz1,Vh]at hr;exact hr
theorem Yl {W:Wo} {x:dF} (h:OpE W x) (h2:x.op≠2):JZ x.op=false:=by
 unfold JZ;simp only[Bool.and_eq_false_iff,decide_eq_false_iff_not];rcases h with(h|h)|⟨h|h,-⟩|⟨h,-⟩|⟨h,-⟩ <;> omega
def Off (n k:Nat) (G:List Bool):Prop:= ∀j,k<=j->j<n->G[j]? =some false
theorem Off.set {n k:Nat} {G:List Bool} (h:Off n k G):Off n (k+1) (G.set k true):=λj h1 h2=>by
 rw[List.getElem?_set_ne ahe];exact h j ahe h2
theorem RD {W:Wo} {th n regs:Int} {l:List dF} (h:H9 W th n regs 0 l=true) (w:World) (ao:Option Addr) (cap:Nat) (hl:l.length<=100) (hw:eu lq 6 w w.heap.size l ao 0):
 Calls Tryz.prog 85 #[.slice ao l.length cap] w λe w'=>e= .returned (.bool true)∧Below w.heap.size w w':=by
 have HO:=ah h;have HW:=ah hw;have hmk:=ae0 l.length hl;clear h hw;go_enter Tryz.func85,Tryz.ntmps85;go_wp2_with fail;generalize hW:World.alloc (World.alloc w _) _=w2;obtain⟨gb,hgb,wV,HB,HG,HS,-⟩:=SY hW;have hrp:((List.replicate l.length false).map Value.bool).toArray=Array.replicate l.length (Value.bool false):=ahg
 have hG:tL w2 gb (List.replicate l.length false):=by unfold tL;rw[hrp];exact HG.o
 have hS:tL w2 (gb+1) (List.replicate l.length false):=by unfold tL;rw[hrp];exact HS.o
 have HF:aj (eu lq 6 w2 gb l ao 0):=ah (by have:=HW.o;rw[hgb]at this;exact this.below HB.o);rw[hgb];clear hW hmk HW hgb hrp;go_loopw [5,6,15] (λ_ _ v15 wr=> ∃(k:Nat) (R:List dF) (G S:List Bool),v15= .int .i64 k∧k+R.length=l.length∧tL wr gb G∧tL wr (gb+1) S∧Off l.length k G∧Off l.length k S∧H9 W th n regs k R=true∧eu lq 6 wr gb R ao k∧Below gb w wr) (λ_ _ i _=>l.length -(intOf i).toNat)
 case atStart=>exact⟨0,l,_,_,rfl,ahg,hG,hS,λj _ h=>afb,λj _ h=>afb,HO.o,HF.o,HB.o⟩
 case round=>
  obtain⟨k,R,G,S,rfl,hlen,hg,hs,og,os,hi,hf,hb⟩:=hrel;have nR:=ah hg;have HSR:=ah hs;have HOG:=ah og;have HOS:=ah os;have HB1:=ah hb;clear hg hs og os hb HG HS HF HB HO hG hS;cases R with
  |nil=>
   obtain rfl:k=l.length:=afm
   go_wp2_with fail;go_ret;exact⟨rfl,by rw[wV.o];exact HB1.o⟩
  |cons x R=>
   obtain⟨⟨b,off,rfl,hb1,hcs⟩,hf⟩:=hf;rw[H9,aP,decide_eq_true_eq]at hi;obtain⟨⟨-,-,hop,hnx⟩,hi⟩:=hi;simp only[ay]at hlen;have z0:wr.cell? ⟨b,off+k*6,none⟩=some (.int .i64 x.op):=hcs 0 _ rfl;have k0:(0:Int)<=(k:Int):=ahe
   have k1:(k:Int)<(l.length:Int):=ahe
   have HFR:=ah hf;have HI:=ah hi;by_cases h2:x.op=2
   ·cases R with
    |nil=>exact absurd rfl (hnx h2)
    |cons y R=>
     obtain⟨⟨b',off',e,-,hcy⟩,-⟩:=hf;injection e with e;injection e with e1 e2;subst e1 e2;rw[H9,aP,decide_eq_true_eq]at hi;have hsy:JZ y.op=false:=Yl hi.1.2.2.1 (hnx h2);simp only[ay]at hlen;have y0:wr.cell? ⟨b,off+(k+1)*6,none⟩=some (.int .i64 y.op):=hcy 0 _ rfl;have k2:(0:Int)<=((k+1:Nat):Int):=ahe;have k3:((k+1:Nat):Int)<(l.length:Int):=ahe;have hsx:JZ x.op=true:=(by rw[h2];rfl);have h5:(x.op==5)=false:=(by rw[h2];rfl);have q0:=nR.o.cell (HOG.o k (aH _) ahe);have q1:=HSR.o.cell (HOS.o k (aH _) ahe);have f0:wr.frozen? ⟨gb,k,none⟩=false:=bC nR.o;have f1:wr.frozen? ⟨gb+1,k,none⟩=false:=bC HSR.o;have HZ:=ah (aB hb1 (aB z0 y0));clear hop hnx hi hcs hcy h2;go_upto_region 7 with fail;refine wp_loop_rounds 2 ?_;rw[rounds_succ];go_wp2_with fail;refine(rT x.op wr).mono ?_;rintro e w3 ⟨rfl,rfl⟩;rw[hsx];go_upto_region 11 with fail;generalize hW:World.setCell wr _ _=w4;have OC:aj (Below gb wr w4):=ah (by rw[<- hW];exact cZ (cB _ _ _) (eG _) (bM (aU nR.o)));have MZ:aj (tL w4 gb G):=ah (by rw[<- hW];exact nR.o.far (Nat.succ_ne_self _) _ _);have CB:aj (tL w4 (gb+1) (S.set k true)):=ah (by rw[<- hW];exact HSR.o.set k true);have z1:=(OC.o.cell (p:=⟨b,_,none⟩) hb1).trans z0;have y1:=(OC.o.cell (p:=⟨b,_,none⟩) hb1).trans y0;have q2:=MZ.o.cell (HOG.o k (aH _) ahe);have f2:w4.frozen? ⟨gb,k,none⟩=false:=bC MZ.o;clear hW z0 y0 q0 q1 f0 f1;go_wp2_with fail;refine(Gw b off cap l.length k x.op w4 ahe hl z1 h5).mono ?_;rintro e w5 ⟨rfl,rfl⟩;go_wp2_with fail;rw[rounds_succ];go_wp2_with fail;refine(rT y.op w4).mono ?_;rintro e w5 ⟨rfl,rfl⟩;rw[hsy];go_upto_region 13 with fail;refine wp_loop_rounds 2 ?_;rw[rounds_succ];go_wp2_with fail;refine(rT x.op w4).mono ?_;rintro e w5 ⟨rfl,rfl⟩;rw[hsx];go_upto_region 14 with fail;generalize hW:World.setCell w4 _ _=w6;have Sm:aj (Below gb w4 w6):=ah (by rw[<- hW];exact cZ (cB _ _ _) (aH _) (bM (aU MZ.o)));have Sz:aj (tL w6 gb (G.set k true)):=ah (by rw[<- hW];exact MZ.o.set k true);have oC:aj (tL w6 (gb+1) (S.set k true)):=ah (by rw[<- hW];exact CB.o.far (λe=>Nat.succ_ne_self _ e.symm) _ _);have z2:=(Sm.o.cell (p:=⟨b,_,none⟩) hb1).trans z1;have y2:=(Sm.o.cell (p:=⟨b,_,none⟩) hb1).trans y1;clear hW z1 y1 q2 f2;go_wp2_with fail;refine(Gw b off cap l.length k x.op w6 ahe hl z2 h5).mono ?_;rintro e w5 ⟨rfl,rfl⟩;go_wp2_with fail;rw[rounds_succ];go_wp2_with fail;refine(rT y.op w6).mono ?_;rintro e w5 ⟨rfl,rfl⟩;rw[hsy];go_wp2_with fail;go_roundw
     case rel=>exact⟨k+1,y::R,_,_,ahi,ahh,Sz.o,oC.o,HOG.o.set,HOS.o.set,HI.o,HFR.o.below (OC.o.trans Sm.o),HB1.o.trans (OC.o.trans Sm.o)⟩
     case measure=>simp[intOf];omega
   ·have hsx:JZ x.op=false:=Yl hop h2;clear hop hnx hi hf hcs;go_upto_region 7 with fail;refine wp_loop_rounds 1 ?_;rw[rounds_succ];go_wp2_with fail;refine(rT x.op wr).mono ?_;rintro e w3 ⟨rfl,rfl⟩;rw[hsx];go_upto_region 13 with fail;refine wp_loop_rounds 1 ?_;rw[rounds_succ];go_wp2_with fail;refine(rT x.op wr).mono ?_;rintro e w3 ⟨rfl,rfl⟩;rw[hsx];go_wp2_with fail;go_roundw
    case rel=>exact⟨k+1,R,G,S,ahi,ahe,nR.o,HSR.o,λj h1=>HOG.o j ahe,λj h1=>HOS.o j ahe,HI.o,HFR.o,HB1.o⟩
    case measure=>simp[intOf];omega
theorem MN {W:Wo} {s:jP} {th:Int} {t:yY} {fM:Option Addr} {eU:Nat} {w:World} (hw:gL w w.heap.size W s) (hf:eu lq 6 w w.heap.size t.is fM 0) (h:thE W th t=true):
 Calls Tryz.prog 46 #[oK W s,.int .i64 th,.agg #[.int .i64 t.regs,.slice fM t.is.length eU]] w λe w'=>e= .returned (.bool true)∧Below w.heap.size w w':=by
 obtain⟨regs,l⟩:=t;unfold thE at h;simp only[aP,decide_eq_true_eq]at h;obtain⟨⟨⟨r0,r1⟩,l0,l1⟩,hins⟩:=h;have HW:=ah hw;have HF0:aj (eu lq 6 w w.heap.size l fM 0):=ah hf;have HI:=ah hins;have hls:=hw.lS;unfold maxLen at hls;clear hw hf hins;dsimp only;unfold oK;go_enter Tryz.func46,Tryz.ntmps46;go_upto_region 1 with fail;generalize hW:World.alloc (World.alloc w _) _=W1;obtain⟨nb,hnb,iy,HB,G6,vW,lJ⟩:=SY hW;have Wv:aj (gL W1 nb W s):=ah abd;have HFF:aj (eu lq 6 W1 nb l fM 0):=ah (by have:=HF0.o;rw[hnb]at this;exact this.below HB.o);rw[hnb];clear hW hnb HW HF0;obtain⟨t0,t1⟩:=nT vW.o;have hA1: ¬regs<0:=ahe
 have hA2: ¬32<regs:=ahe
 have hA4:((l.length:Int)==0)=false:=acN
 go_wp2_with fail;go_loopw [7,8,10,28,78,79,80] (λ_ _ _ v28 _ _ _ wr=> ∃(k:Nat) (R:List dF),v28= .int .i64 k∧k+R.length=l.length∧H9 W th l.length regs k R=true∧eu lq 6 wr nb R fM k∧Below (nb+2) W1 wr) (λ_ _ _ v _ _ _ _=>l.length -(intOf v).toNat)
 case atStart=>exact⟨0,l,rfl,ahg,HI.o,HFF.o,ak _ _⟩
 case round=>
  obtain⟨k,R,rfl,hlen,hi,hrow,hbel⟩:=hrel;have jv:=ah hbel;have aD4:=ah ((jv.o.block nb agy).trans G6.o);have ZA:=ah ((jv.o.block (nb+1) agy).trans vW.o);have xK:aj (Below nb w wr):=ah (HB.o.trans (jv.o.mono ahe));have Ni:aj (gL wr nb W s):=ah (Wv.o.below (jv.o.mono ahe));have zP:aj (nb+2<=wr.heap.size):=ah ade;clear hbel t0 t1;obtain⟨t0,t1⟩:=nT ZA.o;cases R with
  |nil=>
   obtain rfl:k=l.length:=afm
   go_wp2_with fail;refine(RD HI.o wr fM eU l1 ((HFF.o.below (jv.o.mono ahe)).mono afX)).mono ?_;rintro e w3 ⟨rfl,hb3⟩;go_wp2_with fail;go_ret;exact⟨rfl,by rw[iy.o];exact xK.o.trans (hb3.mono afX)⟩
  |cons x R=>
   obtain⟨⟨b1,off,rfl,hb1,hcs⟩,hrest⟩:=hrow;simp only[ay]at hlen;rw[H9,aP,decide_eq_true_eq]at hi;obtain⟨⟨hst,hrg,hop,-⟩,hi⟩:=hi;have hkl:k<l.length:=ahe
   have x0:=hcs 0 _ rfl;have x1:=hcs 1 _ rfl;have x2:=hcs 2 _ rfl;have x3:=hcs 3 _ rfl;have x4:=hcs 4 _ rfl;have x5:=hcs 5 _ rfl;simp only[Nat.add_zero]at x0;have kr:=ah hrest;have FW:=ah hrg;have dI:=ah hop;have fF:=ah hi;have hp:1<=x.op∧x.op<=28:=by rcases hop with(h|h)|⟨h|h,-⟩|⟨h,-⟩|⟨h,-⟩ <;> omega
   clear hcs hrest hrg hi hop;go_upto_region 6 with fail;generalize hW2:World.alloc wr _=w2;obtain⟨ib,hib,OQ,HB2,HXi,-⟩:=Ea hW2;have VH:aj (Below (nb+2) wr w2):=ah (HB2.o.mono (by have:=zP.o;have:=OQ.o;omega));rw[hib];clear hW2 hib x0 x1 x2 x3 x4 x5 t0 t1;have bj5:=ah ((VH.o.block nb ahe).trans aD4.o);have bj7:=ah ((VH.o.block (nb+1) ahe).trans ZA.o);have HWi:aj (gL w2 nb W s):=ah (Ni.o.below (VH.o.mono ahe));obtain⟨t0,t1⟩:=nT bj7.o;obtain⟨g0,g1,g2,g3,g4,g5⟩:=nJ bj5.o;obtain⟨x0,x1,x2,x3,x4,x5⟩:=nJ HXi.o;have hwn:IntKind.i64.wrap ((l.length:Int) -1)=(l.length:Int) -1:=IntWalk.i64_in _ ahe;have h1: ¬x.op<1:=ahe
   have h2: ¬28<x.op:=ahe
   obtain⟨q,hq1,hq2,hq3,hq4⟩: ∃q,(x.op==28)=q∧((k:Int)==(l.length:Int) -1)=q∧(q=true->x.st= -1)∧(q=false->StE W th x.st):=by
    rcases hst with⟨h28,hk,h5⟩|⟨h28,hk,h5⟩
    ·exact⟨true,by rw[h28];rfl,by rw[beq_iff_eq];exact hk,λ_=>h5,λh=>ahC⟩
    ·exact⟨false,by rw[beq_eq_false_iff_ne];exact h28,by rw[beq_eq_false_iff_ne];exact hk,λh=>ahC,λ_=>h5⟩
   clear hst
   go_upto_if 55 with fail
   clear hq2 h1 h2 hwn hp;go_cut [66] (λ_ W3=>w2=W3)
   case first=>
    cases q
    ·obtain⟨j,y,hj,hjl,hy,hth⟩:=Ov (hq4 rfl);obtain⟨b5,bF0,aH9,hb5,aI7⟩:=HWi.o.ss.at j y hy;have z0:=aI7 0 _ rfl;simp only[hth,aV,Nat.add_zero]at z0;rw[aH9]at g5;rw[hj]at x5;have j0:(0:Int)<=(j:Int):=ahe;have j1:(j:Int)<(W.ss.length:Int):=ahe;clear aI7 hj hy aH9 hq3 hq4;go_wp2_with fail;refine(A8 j0 j1 w2).mono ?_;rintro e w3 ⟨rfl,rfl⟩;go_wp2_with fail;go_meet;rfl
    ·rw[hq3 rfl]at x5;clear hq3 hq4;go_wp2_with fail;go_meet;rfl
   subst hcut;clear hq1 hq3 hq4 t0 t1 g0 g1 g2 g3 g4 g5;have HR:aj (∀r∈iF x,dD r):=ah (λr hr=>by have:=FW.o r hr;unfold dD;omega);go_wp2_with fail;refine(Nz x w2 HR.o).mono ?_;rintro e w3 ⟨WL,Jy,rfl,hin,hb3,-⟩;have aI4:Below (nb+2) w2 w3:=hb3.mono (aR zP.o VH.o.size);have bh5:=ah hin;have iO:aj (Below (nb+2) wr w3):=ah (VH.o.trans aI4);have bj6:=ah ((iO.o.block nb ahe).trans aD4.o);have bj8:=ah ((iO.o.block (nb+1) ahe).trans ZA.o);have bk5:=ah ((hb3.block ib (aU HXi.o)).trans HXi.o);have HSq:aj (nb+2<=w3.heap.size):=ah (aR zP.o iO.o.size);have VR:aj ((iF x).length<=3):=ah adz;clear hin hb3 aI4 x0 x1 x2 x3 x4 x5;generalize iF x=rs at *;go_wp2_with fail;obtain⟨wI,XI⟩: ∃W:World,W=wr:=⟨_,rfl⟩;subst XI;go_loopw [10,80] (λ_ i wq=> ∃(j:Nat) (S:List Int),i= .int .i64 j∧j+S.length=rs.length∧(∀r∈S,0<=r∧r<regs)∧fV wq wq.heap.size S WL j∧wq=w3) (λ_ i _=>rs.length -(intOf i).toNat)
   case atStart=>exact⟨0,rs,rfl,ahg,FW.o,bh5.o,rfl⟩
   case round=>
    obtain⟨j,S,rfl,wF,hrs,hin2,rfl⟩:=hrel;have h3:=VR.o;obtain⟨t0,t1⟩:=nT bj8.o;cases S with
    |nil=>
     obtain rfl:j=rs.length:=aic;obtain⟨g0,g1,g2,g3,g4,g5⟩:=nJ bj6.o;obtain⟨x0,x1,x2,x3,x4,x5⟩:=nJ bk5.o;go_wp2_with fail;refine(K5 l.length x ((Ni.o.below (iO.o.mono ahe)).mono (by have:=HSq.o;omega)) dI.o).mono ?_;rintro e w4 ⟨rfl,hb4⟩;have eF:aj (Below (nb+2) wI w4):=ah (iO.o.trans (hb4.mono HSq.o));clear hb4 g0 g1 g2 g3 g4 g5 x0 x1 x2 x3 x4 x5 t0 t1;go_wp2_with fail;go_roundw
     case rel=>exact⟨k+1,R,ahi,ahe,fF.o,kr.o.below (eF.o.mono ahe),jv.o.trans eF.o⟩
     case measure=>simp[intOf];omega
    |cons r S=>
     obtain⟨⟨b4,ae8,rfl,hb4,y0⟩,zX⟩:=hin2;simp only[ay]at wF;have hjl:j<rs.length:=ahe;have HR4:=ah zX;have Zu:=ah (λr h=>hrs r (aX _ h));obtain⟨q0,q1⟩:=hrs r aW;clear zX hrs;go_wp2_with fail;refine(A8 q0 q1 wr).mono ?_;rintro e w5 ⟨rfl,rfl⟩;go_wp2_with fail;go_roundw
     case rel=>exact⟨j+1,S,ahi,ahe,Zu.o,HR4.o,trivial⟩
     case measure=>simp[intOf];omega
theorem mQ.far {B b:Nat} {w w':World} {v:Value} {l:List ByteArray} (h:mQ B w v l) (hg:w.grownBy w' (some b)) (hne:v.ownBlock≠some b):mQ B w' v l:=
 ⟨h.own.kept hg (.inr hne),λ_ _ _ _=>trivial⟩
theorem TH:(Tryz.prog.info? 9).map (λi=>(i.zero,i.size,i.bytes))=some (some (.string ⟨#[]⟩),1,16):=ahd
theorem ar4 (a:ByteArray) (i z n:Int) (v:Bool) (w:World):
 (binOp .neq 80 (.agg #[.string a,.int .i64 i,.int .i64 z,.bool v,.int .i64 n]) (.agg #[.string a,.int .i64 i,.int .i64 z,.bool v,.int .i64 n])).run Tryz.prog w= .ok (.bool false) w:=by
 simp[go_sem]
theorem aQ9 {P:Program} {o:Oper} {a:Act} {w:World} {K:Act->World->Prop} {Q:Exit->Act->World->Prop} (s x:Operand) (T ty:TypeId) (ho:o.op= .binOp .neq T s x ty)
 (A B:Value) (r:Bool) (hs:a.eval s=A) (hx:a.eval x=B) (hg:(eqGuard .neq T s x A B).run P w= .ok () w) (hr:(binOp .neq T A B).run P w= .ok (.bool r) w) (h:K (a.put o.dst (.bool r)) w):o.wp P a w K Q:=by
 unfold Oper.wp execOp;simp only[ho,Sem.run_bind,Sem.run_pure,Result.andThen_ok,hs,hx,hg,hr];exact h
theorem UZ (s x:Operand) (xs ys:Array Value) (w:World):(eqGuard .neq 80 s x (.agg xs) (.agg ys)).run Tryz.prog w= .ok () w:=run_eqGuard_agg (w:=w) .neq 80 s x xs ys Tryz.eqGuardType80
def VcP (v:List ByteArray) (w:World) (e:Ending) (w':World):Prop:=(∃ao cap,e= .returned (.tuple #[.slice ao v.length cap,.bool true])∧fU w' w'.heap.size v ao 0∧v.length<=cap)∧Below w.heap.size w w'
theorem Oj (l:List tT) (v:List ByteArray) (hv:Vz l v) (w:World) (ao:Option Addr) (cap:Nat) (hl:l.length<=12) (hw:eu jW 5 w w.heap.size l ao 0) (hn: ∀x∈v,x.size<=maxLen):
 Calls Tryz.prog 47 #[.slice ao l.length cap] w (VcP v w):=by
 have HW:=ah hw;have HN:=ah hn;have HV:=ah hv;obtain⟨B,hB⟩: ∃n,w.heap.size=n:=⟨_,rfl⟩;have gT:=ah hB;rw[hB]at HW;clear hw hn hv hB;go_enter Tryz.func47,Tryz.ntmps47;go_wp2_with fail;go_loopw [4,5,6,7,51,52] (λv4 v5 _ _ _ _ wr=> ∃(k:Nat) (R:List tT) (acc u:List ByteArray),v5= .int .i64 k∧k+R.length=l.length∧Vz R u∧acc++u=v∧mQ B wr v4 acc∧eu jW 5 wr B R ao k∧Below B w wr∧acc.length<=k) (λ_ v _ _ _ _ _=>l.length -(intOf v).toNat)
 case atStart=>exact⟨0,l,[],v,rfl,ahg,HV.o,rfl,Grow.nil _ _ _ _ _ _,HW.o,ak _ _,aH _⟩
 case round=>
  obtain⟨k,R,acc,u,rfl,hlen,XH,zW,hg,hrow,hbel,hac⟩:=hrel;have HG:=ah hg;have HB:=ah hbel;have sj:aj (B<=wr.heap.size):=ah (by have h1:=hbel.size;have h2:=gT.o;omega);have Cr:=ah zW;clear hg hbel zW HV;by_cases hR:R=[]
  ·subst hR;obtain rfl:k=l.length:=by simpa using hlen
   cases XH;have zW:=Cr.o;rw[List.append_nil]at zW;subst zW;obtain⟨Fw,cap2,rfl,hc2,hst⟩:=mQ.says HG.o HN.o;have HST:=ah hst.now;have OD:=ah hc2;clear hst hc2;go_wp2_with fail
   go_ret2
   exact⟨⟨Fw,cap2,rfl,HST.o,OD.o⟩,by rw[gT.o];exact HB.o⟩
  ·obtain⟨c,R1,rfl⟩: ∃c R1,R=c::R1:=by
    cases R with
    |nil=>exact absurd rfl hR
    |cons c R1=>exact⟨c,R1,rfl⟩
   obtain⟨y,u,rfl⟩: ∃y u1,u=y::u1:=by cases XH <;> exact⟨_,_,rfl⟩
   have hy:c.nm=y:=by cases XH <;> rfl
   have HY:=ah hy;have HVZ:=ah XH;have bi6:=ah hrow;obtain⟨⟨b,off,rfl,hb1,hcs⟩,hrest⟩:=hrow;simp only[ay]at hlen;have hkl:k<l.length:=ahe
   have x0:=hcs 0 _ rfl;have x1:=hcs 1 _ rfl;have x2:=hcs 2 _ rfl;have x3:=hcs 3 _ rfl;have x4:=hcs 4 _ rfl;simp only[Nat.add_zero]at x0;clear hcs hrest hy XH hR;go_upto_region 5 with fail;generalize hW2:World.alloc wr _=w2;obtain⟨cb,hcb,OE,HB2,xV,-⟩:=Ea hW2;have HG2:=ah (HG.o.next (dO (by rw[hcb];exact HB2.o)));rw[hcb];clear hW2 hcb x0 x1 x2 x3 x4;have y0:=aQ (j:=0) xV.o rfl;simp only[List.getElem_toArray,List.getElem_cons_zero,List.getElem_cons_succ]at y0;obtain⟨av,cv,hv⟩:=HG2.o.len;subst hv;have nD:=ah (HG2.o.next (dO (aA w2 (.cells (qo c.nm).toArray 9))));have jd:=ah (gG (heap_alloc_new w2 (.cells (qo c.nm).toArray 9)));obtain⟨i0,hi,hz0,hz1,hz2⟩:=yx TH;have HW2:aj (cb<w2.heap.size):=ah (aU xV.o);have vP:aj (B<=cb):=ah (by have:=sj.o;have:=OE.o;omega);have hbs:B<=w2.heap.size+1:=aez
   have aK4:acc.length+1<=maxLen:=afp
   have Qv:(acc.length+1)*16<=140737488355328:=ahe
   go_wp2_with (at_builtin;refine wpList_append_lies _ rfl _ _ 31 rfl B 9 i0 _ 1 16 Tryz.underlying31 hi hz0 hz1 hz2 rfl ahf _ _ _ rfl nD.o.own ⟨w2.heap.size,0,none⟩ 1 1 (qo c.nm) rfl rfl jd.o agH ahf aK4 Qv afr _ rfl ?_);clear hi hz0 hz1 hz2 y0;intro g Jy w3 hown hgr hmv hlt3;have Bu:aj (mQ B w3 (.slice (some ⟨g,0,none⟩) (acc.length+1) Jy) (acc++[y])):=ah (by rw[<- HY.o];exact nD.o.push (x:=c.nm) (λ_ _=>trivial) rfl hown hgr afP);have Oz:aj (∀q,(Value.slice av acc.length cv).ownBlock=some q->B<=q∧q<cb):=ah (λq hq=>by have:=HG.o.lt q hq;rw[OE.o]at this;exact this);have ax6:aj (Below B wr w3):=ah (((HB2.o.mono vP.o).trans ((aA w2 _).mono aez)).trans ⟨hgr.os,hgr.tape,hgr.output,hgr.size,λq hq=>hgr.block q (by simp;have h1:=HW2.o;have h2:=vP.o;omega) (λe=>by have:=(Oz.o q e.symm).1;omega)⟩);have HB3:=ah (HB.o.trans ax6.o);have ZB:=ah ((hgr.block cb (by simp;have:=HW2.o;omega) (λe=>by have:=(Oz.o cb e.symm).2;omega)).trans ((heap_alloc_old _ _ HW2.o).trans xV.o));have HGN:aj (g≠cb):=ah (by
    rcases hmv with h|h
    ·have:=(Oz.o g h).2;omega
    ·have:=HW2.o;omega)
   have hw1:IntKind.i64.wrap ((k:Int)+1)=(k:Int)+1:=IntWalk.i64_in _ ahe;have HAY:aj ((acc++[y])++u=v):=ah (by rw[List.append_assoc];exact Cr.o);clear hown hgr hmv hlt3 hbs aK4 Qv jd nD HG2 xV HG Oz;have HR3:=ah (bi6.o.below ax6.o);cases HVZ.o with
   |one hsz hix hvr=>
    obtain⟨z0,z1,z2,z3,z4⟩:=cl5 ZB.o;rw[hsz]at z2;rw[hix]at z1;go_wp2_with fail;go_roundw
    case rel=>exact⟨k+1,R1,acc++[c.nm],u,ahi,ahe,hvr,HAY.o,Bu.o,HR3.o.2,HB3.o,ahh⟩
    case measure=>simp[intOf];omega
   | @two _ i r _ hvr=>
     obtain⟨z0,z1,z2,z3,z4⟩:=cl5 ZB.o;dsimp only at *;simp only[ay]at hlen;have hwl:IntKind.i64.wrap ((l.length:Int) -(k:Int))=(l.length:Int) -(k:Int):=IntWalk.i64_in _ ahe;have hle: ¬(l.length:Int) -(k:Int)<2:=ahe;go_upto_region 13 with fail;clear z0 z1 z2 z3 z4 hwl hle;obtain⟨wI,XI⟩: ∃W:World,W=wr:=⟨_,rfl⟩;subst XI;go_loopw [7,52] (λ_ v52 wq=> ∃(j:Nat) (ix:Int),v52= .int .i64 j∧j<=2∧wq.heap[cb]? =some (.cells #[.string y,.int .i64 ix,.int .i64 2,.bool false,.int .i64 i] 80 (0,0))∧mQ B wq (.slice (some ⟨g,0,none⟩) (acc.length+1) Jy) (acc++[y])∧eu jW 5 wq B (⟨y,0,2,false,i⟩::⟨y,1,2,false,i⟩::r) (some ⟨b,off,none⟩) k∧Below B w wq) (λ_ v _=>2 -(intOf v).toNat)
     case atStart=>exact⟨0,0,rfl,ahf,ZB.o,Bu.o,HR3.o,HB3.o⟩
     case round=>
      obtain⟨j,ix,rfl,hjn,hbx,hg,hrow,hbel⟩:=hrel;have yU:=ah hbx;have HGq:=ah hg;have HRq:=ah hrow;have MS:=ah hbel;clear hbx hg hrow hbel;by_cases hjl:j<2
      ·obtain⟨b',off',e,hb',hcs⟩:=HRq.o.at j ⟨y,j,2,false,i⟩ (by have:j=0∨j=1:=ahe;rcases this with rfl|rfl <;> rfl);injection e with e;injection e with e1 e2;subst e1 e2;have hjs:(j:Int)<2:=ahe;have f1:wr.frozen? ⟨cb,1,none⟩=false:=bC yU.o;have hkj:k+j<l.length:=ahe;have hwk:IntKind.i64.wrap ((k:Int)+(j:Int))=((k+j:Nat):Int):=aec;obtain⟨-,y1,y2,-,-⟩:=cl5 yU.o;go_upto_region 16 with fail;generalize hW:World.setCell wr _ _=w4;have ax7:aj (Below B wr w4):=ah (by rw[<- hW];exact cZ (cB _ _ _) vP.o (aR vP.o (bM (aU yU.o))));have qX:aj (w4.heap[cb]? =some (.cells #[.string y,.int .i64 j,.int .i64 2,.bool false,.int .i64 i] 80 (0,0))):=ah (by rw[<- hW];exact oH yU.o _ rfl);have MZ:aj (mQ B w4 (.slice (some ⟨g,0,none⟩) (acc.length+1) Jy) (acc++[y])):=ah (by rw[<- hW];exact mQ.far HGq.o (cB _ _ _) (λe=>by injection e with e;exact HGN.o e));have ax4:aj (B<=w4.heap.size):=ah (aR vP.o (bM (aU qX.o)));have Z: ∀(q:Nat) (u:Value),(jW ⟨y,j,2,false,i⟩)[q]? =some u->∀w',Below w4.heap.size w4 w'->w'.cell? ⟨b,off+(k+j)*5+q,none⟩=some u:=λq u hu w' hb=>(hb.cell (p:=⟨b,_,none⟩) (aJ hb' ax4.o)).trans ((ax7.o.cell (p:=⟨b,_,none⟩) hb').trans (hcs q u hu));have C: ∀(q:Nat) (u:Value),(#[.string y,.int .i64 j,.int .i64 2,.bool false,.int .i64 i]:Array Value)[q]? =some u->∀w',Below w4.heap.size w4 w'->w'.cell? ⟨cb,q,none⟩=some u:=λq u hu w' hb=>aQ ((hb.block cb (aU qX.o)).trans qX.o) hu;have Z0:=Z 0 _ rfl;have Z1:=Z 1 _ rfl;have Z2:=Z 2 _ rfl;have Z3:=Z 3 _ rfl;have Z4:=Z 4 _ rfl;have C0:=C 0 _ rfl;have C1:=C 1 _ rfl;have C2:=C 2 _ rfl;have C3:=C 3 _ rfl;have C4:=C 4 _ rfl;simp only[Nat.add_zero]at Z0;clear hW hcs y1 y2 f1 C Z;have k0:(0:Int)<=(k:Int)+(j:Int):=ahe;have k1:(k:Int)+(j:Int)<(l.length:Int):=ahe;have kt:((k:Int)+(j:Int)).toNat=k+j:=ahe;go_wp2_with fail;refine bS ahd rfl ?_;refine bK 0 7 [] [[],[],[],[1,2],[0,1,2,3],[0,1,2,3,4],[],[0,1,2,3,4,5,6]] [[],[],[],[],[],[],[]] (λ_ w'=>Below w4.heap.size w4 w') (λw w'=>Below w.heap.size w w') [57,58,59,60,61,62,63] rfl rfl aip ahd ahd ahd ahd ahd aip (λ_=>ak _ _) aip (below_drewN (ak _ _) 1) ?_;simp only[eB,iP]
       iterate 7
        apply bf.step
        case aZ=>intro c A w' hok hC hO hD;have e0:=hO 0 aip;have e5:=hO 5 aip;have e7:=hO 7 aip;have e6:=hO 6 aip;simp[Act.eval]at e0 e5 e7 e6;simp[Act.eval]at hD;simp[go_sem,gd,Oper.wp,hD,e0,e5,e7,e6,hwk,k0,k1,kt,Z0,Z1,Z2,Z3,Z4,hC,C0,C1,C2,C3,C4];exact aO.mk (ak _ _) hC (bT.mk _ _)
        try simp only[bP]
       try simp only[bP]
       refine bf.done ?_;intro wz bR
       try simp only[eB]
       iterate 7 refine jk ?_
       refine kg ?_;go_simp;have HXz:aj (wz.heap[cb]? =some (.cells #[.string y,.int .i64 j,.int .i64 2,.bool false,.int .i64 i] 80 (0,0))):=ah ((bR.block cb (aU qX.o)).trans qX.o);have HGz:aj (mQ B wz (.slice (some ⟨g,0,none⟩) (acc.length+1) Jy) (acc++[y])):=ah (MZ.o.next ⟨bR.size,λq _ h2=>bR.block q h2⟩);have HBz:=ah (ax7.o.trans (bR.mono ax4.o));clear Z0 Z1 Z2 Z3 Z4 C0 C1 C2 C3 C4 bR;refine dA 7 [[],[],[],[1,2],[0,1,2,3],[0,1,2,3,4],[],[0,1,2,3,4,5,6]] rfl rfl rfl rfl rfl ahd ahd ahd ?_;refine aQ9 _ _ _ _ rfl _ _ _ rfl rfl (UZ _ _ _ _ wz) (ar4 _ _ _ _ _ wz) ?_;refine cO rfl ?_;go_simp;go_wp2_with fail;go_roundw
       case rel=>exact⟨j+1,j,ahi,ahe,HXz.o,HGz.o,HRq.o.below HBz.o,MS.o.trans HBz.o⟩
       case measure=>simp[intOf];omega
      ·obtain rfl:j=2:=ahe;have hw2:IntKind.i64.wrap ((k:Int)+2)=((k+2:Nat):Int):=aec;obtain⟨-,-,z2,-,-⟩:=cl5 yU.o;go_wp2_with fail;go_roundw
       case rel=>exact⟨k+2,r,acc++[y],u,by first|rfl|simp[hw2],ahe,hvr,HAY.o,HGq.o,HRq.o.2.2,MS.o,ahh⟩
       case measure=>simp[intOf];omega
theorem Rv {w:World} {B b off:Nat} : ∀ {r:List ByteArray} {k:Nat},fU w B r (some ⟨b,off,none⟩) k->∀j u,(r.flatMap qo)[j]? =some u->w.cell? ⟨b,off+k+j,none⟩=some u
 | [],_,_,j,u,hu=>by simp at hu
 |s::r,k,h,0,u,hu=>by
  obtain⟨⟨b',off',e,-,hc,-⟩,-⟩:=h;injection e with e;injection e with e1 e2;subst e1 e2;have:u= .string s:=by simpa[qo]using hu.symm
  rw[this];exact hc
 |s::r,k,h,j+1,u,hu=>by have:=Rv h.2 j u (by simpa[qo]using hu);rw[show off+k+(j+1)=off+(k+1)+j by omega];exact this
theorem av7 (l:List ByteArray):(l.flatMap qo).length=l.length*1:=by induction l <;> simp_all[qo]
theorem aa8 {l:List ByteArray} {u:Value} (h:u∈l.flatMap qo):u.oneCell'=true:=by
 obtain⟨x,-,hx⟩:=List.mem_flatMap.1 h;simp[qo]at hx;rw[hx];rfl
theorem Eb {ops:Array Oper} {rest:List Oper} {o:Oper} {a:Act} {Q:Exit->Act->World->Prop} (w:World) (hgd:o.guard=none) (s x:Operand)
 (ho:o.op= .call {callee:= .builtin .append,args:= #[s,x],argTypes:= #[31,31]}) {v:Value} {l r:List ByteArray} {B:Nat} {ao:Option Addr} {c:Nat}
 (hs:a.eval s=v) (hg:mQ B w v l) (hx:a.eval x= .slice ao r.length c) (hr:fU w w.heap.size r ao 0) (hne:r≠[]) (hlen:l.length+r.length<=1000000) (hB:B<=w.heap.size)
 (h: ∀v' w',mQ B w' v' (l++r)->w.grownBy w' v.ownBlock->(v'.ownBlock=v.ownBlock∨v'.ownBlock=some w.heap.size)->wpList Tryz.prog ops Q rest (a.put o.dst v') w'):wpList Tryz.prog ops Q (o::rest) a w:=by
 obtain⟨i0,hi,hz0,hz1,hz2⟩:=yx TH;obtain⟨b,off,rfl⟩: ∃b off,ao=some ⟨b,off,none⟩:=by
  cases r with
  |nil=>exact absurd rfl hne
  |cons y r=>obtain⟨⟨b,off,e,-⟩,-⟩:=hr;exact⟨b,off,e⟩
 refine wpList_append_own_at w hgd s x 31 ho B 9 i0 _ 1 16 Tryz.underlying31 hi hz0 hz1 hz2 rfl ahf v l.length (l.flatMap qo) hs hg.own ⟨b,off,none⟩ r.length c (r.flatMap qo) hx (av7 r) ?_ (λu hu=>aa8 hu) afp ahe hB ?_
 ·intro j u hu;have:=Rv hr j u hu;simpa[Addr.add_lit]using this
 ·intro v' w' hown hgr hnil hat;exact h v' w' ⟨by rw[au,List.flatMap_append];exact hown,λ_ _ _ _=>trivial⟩ hgr hat
theorem aQ7 {B:Nat} {w w':World} {v:Value} {l:List ByteArray} (hg:mQ B w v l) (h:w.grownBy w' v.ownBlock) (hB:B<=w.heap.size):Below B w w':=
 ⟨h.os,h.tape,h.output,h.size,λq hq=>h.block q ahe (λe=>by have:=(hg.lt q e.symm).1;omega)⟩
theorem YP {w:World} {nm:ByteArray} {t:TypeId} (h:nm.size<=maxLen):fU (w.alloc (.cells #[.string nm] t)) (w.alloc (.cells #[.string nm] t)).heap.size [nm] (some ⟨w.heap.size,0,none⟩) 0:=
 ⟨⟨_,0,rfl,ahg,aQ (j:=0) (heap_alloc_new _ _) rfl,h⟩,trivial⟩
structure Au (w0:World) (nb:Nat) (W:Wo) (s:jP) (w:World) (v:Value) (l:List ByteArray):Prop where
 g:mQ nb w v l
 ne: ∀q,v.ownBlock=some q->nb<q
 x:w.heap[nb]? =some (.cells #[.slice s.aC W.cs.length s.cC,.slice s.aL W.ls.length s.cL,.slice s.aN W.ns.length s.cN,.slice s.aF W.fs.length s.cF,.slice s.aT W.ts.length s.cT,.slice s.aS W.ss.length s.cS] 34 (0,0))
 wo:gL w nb W s
 b:Below nb w0 w
section
variable {w0:World} {nb:Nat} {W:Wo} {s:jP} {w w':World} {v v':Value} {l l':List ByteArray}
theorem Au.lt (h:Au w0 nb W s w v l):nb<w.heap.size:=(aU h.x)
theorem Au.step (h:Au w0 nb W s w v l) (hg:mQ nb w' v' l') (hgr:w.grownBy w' v.ownBlock) (hat:v'.ownBlock=v.ownBlock∨v'.ownBlock=some w.heap.size):Au w0 nb W s w' v' l':=by
 have hB:=aQ7 h.g hgr (bM h.lt);refine⟨hg,λq hq=> ?_,(hgr.block nb h.lt (λe=>by have:=h.ne nb e.symm;omega)).trans h.x,h.wo.below hB,h.b.trans hB⟩;rcases hat with e|e
 ·rw[e]at hq;exact h.ne q hq
 ·rw[e]at hq;injection hq with hq;have:=h.lt;omega
theorem Au.next (h:Au w0 nb W s w v l) (hb:Below w.heap.size w w'):Au w0 nb W s w' v l:=
 ⟨h.g.next (dO hb),h.ne,(hb.block nb h.lt).trans h.x,h.wo.below (hb.mono (bM h.lt)),h.b.trans (hb.mono (bM h.lt))⟩
theorem Au.cells (h:Au w0 nb W s w v l):w.cell? ⟨nb,1,none⟩=some (.slice s.aL W.ls.length s.cL)∧w.cell? ⟨nb,2,none⟩=some (.slice s.aN W.ns.length s.cN)∧w.cell? ⟨nb,3,none⟩=some (.slice s.aF W.fs.length s.cF)∧w.cell? ⟨nb,4,none⟩=some (.slice s.aT W.ts.length s.cT):=
 ⟨aQ (j:=1) h.x rfl,aQ (j:=2) h.x rfl,aQ (j:=3) h.x rfl,aQ (j:=4) h.x rfl⟩
theorem Au.val (h:Au w0 nb W s w v l): ∃ao cap,v= .slice ao l.length cap:=h.g.len
end
theorem O6 {α β:Type} {f:α->β} {l:List α} {k:Nat} {x:α} (h:l[k]? =some x):(l.take (k+1)).map f=(l.take k).map f++[f x]:=by
 rw[List.take_add_one,h];simp
theorem F7 {w:World} {B:Nat} {ao:Option Addr} : ∀ {l:List ByteArray} {k:Nat},fU w B l ao k->∀x∈l,x.size<=maxLen
 | [],_,_,x,hx=>by cases hx
 |s::r,_,h,x,hx=>by
  rcases List.mem_cons.1 hx with rfl|hx
  ·obtain⟨⟨b,off,-,-,-,hs⟩,-⟩:=h;exact hs
  ·exact F7 h.2 x hx
theorem Ol {W:Wo} {s:jP} {v:List ByteArray} {av:Option Addr} {cv:Nat} {w:World} (hw:gL w w.heap.size W s) (eD:dZ w) (h:WI W v) (hav:fU w w.heap.size v av 0) (hcv:v.length<=cv):
 Calls Tryz.prog 48 #[oK W s,.slice av v.length cv] w λe w'=>e= .returned (.bool true)∧Below w.heap.size w w':=by
 have HW:=ah hw;have jc:=ah eD;have HK:=ah h.kl;have Oz:=ah hav;have HVS:aj (∀x∈v,x.size<=maxLen):=ah (F7 hav);have HR:aj (YQ [] (Ci W v)=true):=ah h.nm;obtain⟨⟨hs0,hs1,hs2,hs3,hs4,hs5,hs6⟩,hv,hv0,hf0⟩:=h.sm;have FR:=ah (aB hv0 (aB hf0 (show W.ts≠[]from λe=>by rw[e]at hs5;simp at hs5)));have hmm:= @run_makeMap Tryz.prog;clear hw eD hav h hv0 hf0;unfold oK;go_enter Tryz.func48,Tryz.ntmps48;go_upto_region 1 with fail;generalize hW:World.alloc w _=W1;obtain⟨nb,hnb⟩: ∃n,w.heap.size=n:=⟨_,rfl⟩;have HB:aj (Below nb w W1):=ah (by rw[<- hW,<- hnb];exact aA _ _);have HI:aj (Au w nb W s W1 (.slice none 0 0) []):=ah ⟨Grow.nil _ _ _ _ _ _,λq hq=>(by cases hq),abn,abd,HB.o⟩;have HA1:aj (fU W1 W1.heap.size v av 0):=ah (by have h1:=Oz.o;have h2:=HB.o;rw[<- hnb]at h2;exact h1.same h2);have iy:=ah hnb;rw[hnb];clear hW hnb HW Oz HB;go_wp2_with (at_builtin;refine Eb W1 rfl _ _ rfl rfl HI.o.g rfl HA1.o FR.o.1 ahh (bM HI.o.lt) ?_);intro v1 w1 hg1 aJ0 aI1;have HI1:=ah (HI.o.step hg1 aJ0 aI1);clear hg1 aJ0 aI1 HI HA1;obtain⟨g1,g2,g3,g4⟩:=HI1.o.cells;go_wp2_with fail;clear g1 g2 g3 g4;go_loopw [5,7,19] (λv5 _ v19 wr=> ∃k:Nat,v19= .int .i64 k∧k<=W.ls.length∧Au w nb W s wr v5 (v++(W.ls.take k).map (·.nm))) (λ_ _ v _=>W.ls.length -(intOf v).toNat)
 case atStart=>exact⟨0,rfl,bF _,by simpa using HI1.o⟩
 case round=>
  obtain⟨k,rfl,hk,hi⟩:=hrel;obtain⟨acc,hacc⟩: ∃acc,v++(W.ls.take k).map (·.nm)=acc:=⟨_,rfl⟩;rw[hacc]at hi;have HI:=ah hi;have IU:=ah hacc;have bD5:acc.length<=100:=by rw[<- hacc];simp;omega
  clear hi hacc;by_cases hkl:k<W.ls.length
  ·obtain⟨x,hx⟩: ∃x,W.ls[k]? =some x:=⟨_,bJ hkl⟩;have HX:=ah hx;obtain⟨b,off,hao,hb1,hcs⟩:=HI.o.wo.ls.at k x hx;have xJ:=ah hao;have x0:=hcs 0 _ rfl;have x1:=hcs 1 _ rfl;simp only[aV,Nat.add_zero]at x0 x1;have HL:aj (∀q,q=s.aL->q=some ⟨b,off,none⟩):=ah (λq e=>by rw[e];exact xJ.o);clear hcs hx;rw[hao];go_upto_region 6 with fail;generalize hW2:World.alloc wr _=w2;obtain⟨cb,hcb,HB2,-,xV,-⟩:=nI hW2;have HI2:=ah (HI.o.next HB2.o);rw[hcb];clear hW2 hcb x0 x1 HI HB2;have y0:w2.cell? ⟨cb,0,none⟩=some (.string x.nm):=aQ xV.o rfl;have HI3:=ah (HI2.o.next (aA w2 (.cells #[.string x.nm] 9)));have hlen:acc.length+1<=1000000:=by omega
   have hnm:x.nm.size<=maxLen:=HK.o.1 x (List.mem_of_getElem? HX.o);go_wp2_with (at_builtin;refine Eb _ rfl _ _ rfl rfl HI3.o.g rfl (YP hnm) ahg hlen (bM HI3.o.lt) ?_);intro v3 w3 hg3 Qr Qk;have HI4:=ah (HI3.o.step hg3 Qr (by simpa using Qk));have HE:aj (acc++[x.nm]=v++(W.ls.take (k+1)).map (·.nm)):=ah (by rw[<- IU.o,O6 (f:=λy:uD=>y.nm) HX.o,List.append_assoc]);clear hg3 Qr Qk HI3 HI2 xV y0 hlen hnm;go_wp2_with fail;go_roundw
   case rel=>exact⟨k+1,ahi,ahe,by rw[<- HE.o];exact HI4.o⟩
   case measure=>simp[intOf];omega
  ·obtain rfl:k=W.ls.length:=by omega
   rw[List.take_length]at IU;have HA0:=IU;obtain⟨g1,g2,g3,g4⟩:=HI.o.cells;obtain⟨wA,hwA⟩: ∃X:World,X=wr:=⟨_,rfl⟩;subst hwA;go_wp2_with fail;clear g1 g2 g3 g4;go_loopw [5,9,32] (λv5 _ v32 wr=> ∃k:Nat,v32= .int .i64 k∧k<=W.ns.length∧Au w nb W s wr v5 (acc++(W.ns.take k).map (·.nm))) (λ_ _ v _=>W.ns.length -(intOf v).toNat)
   case atStart=>exact⟨0,rfl,bF _,agY⟩
   case round=>
    obtain⟨k,rfl,hk,hi⟩:=hrel;obtain⟨PK,hacc⟩: ∃PK,acc++(W.ns.take k).map (·.nm)=PK:=⟨_,rfl⟩;rw[hacc]at hi;have HI:=ah hi;have IU:=ah hacc;have bA9:PK.length<=200:=(by rw[<- hacc];simp;omega);clear hi hacc;by_cases hkl:k<W.ns.length
    ·obtain⟨x,hx⟩: ∃x,W.ns[k]? =some x:=⟨_,bJ hkl⟩;have HX:=ah hx;obtain⟨b,off,hao,hb1,hcs⟩:=HI.o.wo.ns.at k x hx;have x0:=hcs 0 _ rfl;have x1:=hcs 1 _ rfl;simp only[aV,Nat.add_zero]at x0 x1;clear hcs hx;rw[hao];go_upto_region 11 with fail;generalize hW2:World.alloc wr _=w2;obtain⟨cb,hcb,HB2,-,xV,-⟩:=nI hW2;have HI2:=ah (HI.o.next HB2.o);rw[hcb];clear hW2 hcb x0 x1 HI HB2;have y0:w2.cell? ⟨cb,0,none⟩=some (.string x.nm):=aQ xV.o rfl;have HI3:=ah (HI2.o.next (aA w2 (.cells #[.string x.nm] 9)));have hlen:PK.length+1<=1000000:=ahe;have hnm:x.nm.size<=maxLen:=HK.o.2 x (List.mem_of_getElem? HX.o);go_wp2_with (at_builtin;refine Eb _ rfl _ _ rfl rfl HI3.o.g rfl (YP hnm) ahg hlen (bM HI3.o.lt) ?_);intro v3 w3 hg3 Qr Qk;have HI4:=ah (HI3.o.step hg3 Qr (by simpa using Qk));have HE:aj (PK++[x.nm]=acc++(W.ns.take (k+1)).map (·.nm)):=ah (by rw[<- IU.o,O6 (f:=λy:Co=>y.nm) HX.o,List.append_assoc]);clear hg3 Qr Qk HI3 HI2 xV y0 hlen hnm;go_wp2_with fail;go_roundw
     case rel=>exact⟨k+1,ahi,ahe,by rw[<- HE.o];exact HI4.o⟩
     case measure=>simp[intOf];omega
    ·obtain rfl:k=W.ns.length:=ahe;rw[List.take_length]at IU;obtain⟨g1,g2,g3,g4⟩:=HI.o.cells;obtain⟨wB,hwB⟩: ∃X:World,X=wr:=⟨_,rfl⟩;subst hwB;have hl5:PK.length+W.fs.length<=1000000:=ahe;go_wp2_with (at_builtin;refine Eb _ rfl _ _ rfl rfl HI.o.g rfl (HI.o.wo.fs.mono (bM HI.o.lt)) FR.o.2.1 hl5 (bM HI.o.lt) ?_);intro v4 w4 hg4 aJ1 yj;have hi4:=HI.o.step hg4 aJ1 yj;obtain⟨WJ,V6⟩: ∃WJ,PK++W.fs=WJ:=⟨_,rfl⟩;rw[V6]at hi4;have HI4:=ah hi4;have bg6:=ah V6;have bB0:WJ.length<=300:=(by rw[<- V6];simp;omega);clear hg4 aJ1 yj HI g1 g2 g3 g4 hl5 hi4 V6;obtain⟨g1,g2,g3,g4⟩:=HI4.o.cells;have hl6:WJ.length+W.ts.length<=1000000:=ahe;go_wp2_with (at_builtin;refine Eb _ rfl _ _ rfl rfl HI4.o.g rfl (HI4.o.wo.ts.mono (bM HI4.o.lt)) FR.o.2.2 hl6 (bM HI4.o.lt) ?_);intro v5 w5 hg5 hgr5 aI2;have HEN:aj (WJ++W.ts=Ci W v):=ah (by rw[<- bg6.o,<- IU.o,<- HA0.o];rfl);have DF:aj (Au w nb W s w5 v5 (Ci W v)):=ah (by rw[<- HEN.o];exact HI4.o.step hg5 hgr5 aI2);have wW:aj (∀x∈Ci W v,x.size<=maxLen):=ah (λx hx=>by
      have hw:=DF.o.wo;unfold Ci at hx;simp only[List.mem_append,List.mem_map]at hx;rcases hx with(((h|⟨y,h,rfl⟩)|⟨y,h,rfl⟩)|h)|h
      ·exact HVS.o x h
      ·exact HK.o.1 y h
      ·exact HK.o.2 y h
      ·exact F7 hw.fs x h
      ·exact F7 hw.ts x h)
     clear hg5 hgr5 aI2 HI4 g1 g2 g3 g4 hl6;obtain⟨aoN,bD2,rfl,hcN,hst⟩:=mQ.says (show mQ nb w5 v5 (Ci W v)from DF.o.g) wW.o;obtain⟨mb,hmb⟩: ∃n,w5.heap.size=n:=⟨_,rfl⟩;have Wi:aj (fU w5 mb (Ci W v) aoN 0):=ah (by rw[<- hmb];exact hst.now);have jF:aj (Below nb w w5):=ah DF.o.b;have bi0:aj (nb<mb):=ah (by rw[<- hmb];exact DF.o.lt);have HMB:=ah hmb;have rC:aj ((Ci W v).length<=1000000):=ah (by unfold Ci;simp;omega);clear hst hcN DF wW hmb;generalize Ci W v=l at *;have hl6:=rC.o;have HM0:aj (jr (w5.alloc (.map #[] 0)) mb 0 (λ_=>false)):=ah (by rw[<- HMB.o];exact jr.made w5);have oV:aj (Below mb w5 (w5.alloc (.map #[] 0))):=ah (by rw[<- HMB.o];exact aA _ _);go_wp2_with fail;rw[HMB.o];go_loopw [12,53] (λ_ v53 wr=> ∃(k:Nat) (pre R:List ByteArray),v53= .int .i64 k∧pre++R=l∧pre.length=k∧jr wr mb k (λq=>(pre.map (·.toList)).contains q)∧YQ (pre.map (·.toList)) R=true∧Below mb w5 wr) (λ_ v _=>l.length -(intOf v).toNat)
     case atStart=>exact⟨0,[],l,rfl,rfl,rfl,HM0.o.congr (λ_=>rfl),HR.o,oV.o⟩
     case round=>
      obtain⟨k,pre,R,rfl,hds,hk,hmap,aL2,hbel⟩:=hrel;have HM:=ah hmap;have HE:=ah aL2;have HB:=ah hbel;have rY:=ah hds;have HPK:=ah hk;have xK:aj (Below w.heap.size w wr):=ah (by rw[iy.o];exact jF.o.trans (HB.o.mono (bM bi0.o)));have hlen:k+R.length=l.length:=afY;have hrow:=(Wi.o.below HB.o).drop k;rw[aV,<- hds,<- hk,List.drop_left]at hrow;rw[hk]at hrow;clear hmap aL2 hbel hds hk;cases R with
      |nil=>obtain rfl:k=l.length:=afm;go_wp2_with fail;go_ret;exact⟨rfl,xK.o⟩
      |cons x R=>
       obtain⟨⟨b,off,hao,hb1,x0,hsz⟩,-⟩:=hrow;simp only[ay]at hlen;have hkl:k<l.length:=ahe;have XG:=HE.o;rw[YQ,aP,aP,Bool.not_eq_true']at XG;obtain⟨⟨hn,hc⟩,XG⟩:=XG;have HT:=ah XG;have HC:=ah hc;clear XG hc HE;rw[hao];go_wp2_with fail;refine(xX x wr (jc.o.same xK.o) hsz).mono ?_;rintro e w6 ⟨rfl,hb6⟩;have bB9:=ah (xK.o.trans (hb6.mono xK.o.size));have HM6:=ah (HM.o.next hb6);have Dx:aj (Below mb w5 w6):=ah (HB.o.trans (hb6.mono (bM HM.o.lt)));clear hb6 x0;rw[<- Lib.toList_data x];rw[hn];have hk1:=HM6.o.look x hsz;obtain⟨w7,hup,hm7,GQ⟩:=HM6.o.put afp x hsz true;have HM7:=ah hm7;have sS:aj (Below mb w5 w7):=ah (Dx.o.trans (cZ GQ (aH _) (bM HM6.o.lt)));clear hm7 GQ hn;simp only[HC.o]at hk1;go_wp2_with fail;go_roundw
       case rel=>exact⟨k+1,pre++[x],R,ahi,acT,by simp[HPK.o],HM7.o.congr (λq=>by simp[List.contains_iff_mem];grind),by rw[List.map_append];exact HT.o,sS.o⟩
       case measure=>simp[intOf];omega
theorem Om {W:Wo} {s:jP} {w:World} (hw:gL w w.heap.size W s) (h60:W.ss.length<=60) (ht:1<=W.ts.length) (h:YC 0 W.ss=true):
 Calls Tryz.prog 50 #[oK W s] w λe w'=>e= .returned (.bool true)∧Below w.heap.size w w':=by
 have HW:=ah hw;have HI:=ah h;have hlt:=hw.lt;unfold maxLen at hlt;have hnt: ¬W.ts=[]:=λe=>by rw[e]at ht;simp at ht
 clear hw h;unfold oK;go_enter Tryz.func50,Tryz.ntmps50;go_upto_region 1 with fail;generalize hW:World.alloc w _=W1;obtain⟨nb,hnb,iy,HB,HX,lJ⟩:=Ea hW;have HF:aj (eu qM 3 W1 nb W.ss s.aS 0):=ah (by have:=HW.o.ss;rw[hnb]at this;exact this.below HB.o);rw[hnb];clear hW hnb HW;obtain⟨-,-,-,-,-,g5⟩:=nJ HX.o;go_wp2_with fail;go_loopw [3,4,6,10] (λv3 v4 _ v10 wr=> ∃(k:Nat) (R:List yX),v10= .int .i64 k∧v3= .int .i64 0∧v4= .int .i64 k∧k+R.length=W.ss.length∧YC k R=true∧eu qM 3 wr nb R s.aS k∧Below (nb+1) W1 wr) (λ_ _ _ v _=>W.ss.length -(intOf v).toNat)
 case atStart=>exact⟨0,W.ss,rfl,rfl,rfl,ahg,HI.o,HF.o,ak _ _⟩
 case round=>
  obtain⟨k,R,rfl,rfl,rfl,hlen,heq,hrow,hbel⟩:=hrel;have jv:=ah hbel;have oN:=ah ((jv.o.block nb (Nat.lt_succ_self _)).trans HX.o);have xK:aj (Below nb w wr):=ah (HB.o.trans (jv.o.mono (eG _)));have zP:aj (nb+1<=wr.heap.size):=ah ade;clear hbel g5;cases R with
  |nil=>
   obtain rfl:k=W.ss.length:=afm
   go_wp2_with fail;go_ret;exact⟨rfl,by rw[iy.o];exact xK.o⟩
  |cons x R=>
   obtain⟨⟨b,off,hao,hb1,hcs⟩,hrest⟩:=hrow;simp only[ay]at hlen;rw[YC,aP,decide_eq_true_eq]at heq;obtain⟨⟨e1,e2⟩,heq⟩:=heq;have hkl:k<W.ss.length:=ahe
   have x0:=hcs 0 _ rfl;have x1:=hcs 1 _ rfl;have x2:=hcs 2 _ rfl;rw[e1]at x0;rw[e2]at x1;simp only[Nat.add_zero]at x0;rw[hao]at hrest;have kr:=ah hrest;have HE:=ah heq;obtain⟨-,-,-,-,g4,-⟩:=nJ oN.o;have hwn:IntKind.i64.wrap ((k:Int)+1)=(k:Int)+1:=IntWalk.i64_in _ ahe;have hnl:nb<wr.heap.size:=afX
   have hnb: ¬nb=wr.heap.size:=ahe
   rw[hao];clear hcs hrest hao heq;go_wp2_with fail;go_roundw
   case rel=>exact⟨k+1,R,ahi,rfl,ahi,ahe,HE.o,kr.o.below ((aA _ _).mono afX),jv.o.trans ((aA _ _).mono zP.o)⟩
   case measure=>simp[intOf];omega
theorem FI {W:Wo} {s:jP} {v:List ByteArray} {w:World} (hw:gL w w.heap.size W s) (eD:dZ w) (h:WI W v):
 Calls Tryz.prog 30 #[oK W s] w λe w'=>e= .returned (.bool true)∧Below w.heap.size w w':=by
 have HW:=ah hw;have jc:=ah eD;have HV:=ah h;obtain⟨⟨p0,p1,p2,p3,p4,p5,p6⟩,-⟩:=h.sm;have q0: ¬(12:Int)<W.cs.length:=ahe
 have q1: ¬(4:Int)<W.ls.length:=ahe
 have q2: ¬(2:Int)<W.ns.length:=ahe
 have q3: ¬(2:Int)<W.fs.length:=ahe
 have q4: ¬(60:Int)<W.ss.length:=ahe
 have q5: ¬(W.ts.length:Int)<1:=ahe
 have q6: ¬(4:Int)<W.ts.length:=ahe
 clear hw eD h p0 p1 p3 p4 p5 p6;unfold oK;go_enter Tryz.func30,Tryz.ntmps30;go_upto_region 1 with fail;generalize hW:World.alloc w _=W1;obtain⟨nb,hnb,iy,HB,HX,lJ⟩:=Ea hW;have HW1:aj (gL W1 nb W s):=ah abd;have nE:aj (dZ W1):=ah abZ;rw[hnb];clear hW hnb HW;obtain⟨g0,g1,g2,g3,g4,g5⟩:=nJ HX.o;go_wp2_with fail;refine(Oj W.cs v HV.o.cs W1 s.aC s.cC HV.o.sm.1.1 (HW1.o.cs.mono agy) HV.o.kv).mono ?_;rintro e w2 ⟨⟨av,cv,rfl,hat,hcv⟩,hb2⟩;have HB2:aj (Below (nb+1) W1 w2):=ah (by rw[<- lJ.o];exact hb2);have vW:=ah ((HB2.o.block nb (Nat.lt_succ_self _)).trans HX.o);have HS2:aj (nb+1<=w2.heap.size):=ah (by have h1:=hb2.size;have h2:=lJ.o;omega);have HW2:aj (gL w2 nb W s):=ah (HW1.o.below (HB2.o.mono (eG _)));have lI:=ah (nE.o.same hb2);have HAT:=ah hat;clear hb2 g0 g1 g2 g3 g4 g5 q0 q1 q2 q3 q4 q5 q6 hat;obtain⟨g0,g1,g2,g3,g4,g5⟩:=nJ vW.o;go_wp2_with fail;refine(Ol (HW2.o.mono (by have:=HS2.o;omega)) lI.o HV.o HAT.o hcv).mono ?_;rintro e w3 ⟨rfl,hb3⟩;have HB3:aj (Below (nb+1) W1 w3):=ah (HB2.o.trans (hb3.mono HS2.o));have BK:=ah ((HB3.o.block nb (Nat.lt_succ_self _)).trans HX.o);have HW3:aj (gL w3 nb W s):=ah (HW1.o.below (HB3.o.mono (eG _)));clear hb3 g0 g1 g2 g3 g4 g5;obtain⟨-,-,g2,-⟩:=nJ BK.o;go_wp2_with fail;go_loopw [6,62] (λ_ i wr=> ∃(k:Nat) (R:List Co),i= .int .i64 k∧k+R.length=W.ns.length∧(∀c∈R,LkE W c.mx)∧eu tF 2 wr nb R s.aN k∧Below (nb+1) W1 wr) (λ_ i _=>W.ns.length -(intOf i).toNat)
 case atStart=>exact⟨0,W.ns,rfl,ahg,HV.o.cn,HW3.o.ns,HB3.o⟩
 case round=>
  obtain⟨k,R,rfl,hlen,hcn,hrow,hbel⟩:=hrel;have jv:=ah hbel;have oN:=ah ((jv.o.block nb (Nat.lt_succ_self _)).trans HX.o);have xK:aj (Below nb w wr):=ah (HB.o.trans (jv.o.mono (eG _)));have zP:aj (nb+1<=wr.heap.size):=ah ade;have Ni:aj (gL wr nb W s):=ah (HW1.o.below (jv.o.mono (eG _)));clear hbel g2;cases R with
  |nil=>
   obtain rfl:k=W.ns.length:=afm
   obtain⟨g0,g1,g2,g3,g4,g5⟩:=nJ oN.o;go_wp2_with fail;refine(Om (Ni.o.mono afX) HV.o.sm.1.2.2.2.2.1 HV.o.sm.1.2.2.2.2.2.1 HV.o.si).mono ?_;rintro e w5 ⟨rfl,hb5⟩;go_wp2_with fail;go_ret;exact⟨rfl,by rw[iy.o];exact xK.o.trans (hb5.mono afX)⟩
  |cons x R=>
   obtain⟨⟨b,off,hao,hb1,hcs⟩,hrest⟩:=hrow;simp only[ay]at hlen;have hkl:k<W.ns.length:=ahe
   have x0:=hcs 0 _ rfl;have x1:=hcs 1 _ rfl;simp only[Nat.add_zero]at x0;rw[hao]at hrest;have kr:=ah hrest;have rA:=ah hcn;rw[hao];clear hcs hrest hcn hao;go_upto_region 11 with fail;generalize zU:World.alloc wr _=w4;obtain⟨tb,htb,FY,eF,J4,-⟩:=Ea zU;have Bp:aj (Below (nb+1) W1 w4):=ah (jv.o.trans (eF.o.mono adN));rw[htb];clear zU htb x0 x1;have qX:=ah ((Bp.o.block nb (Nat.lt_succ_self _)).trans HX.o);obtain⟨g0,g1,g2,g3,g4,g5⟩:=nJ qX.o;obtain⟨-,t1⟩:=nT J4.o;have CB:aj (nb+1<=w4.heap.size):=ah aeb;go_wp2_with fail;refine(NU ((HW1.o.below (Bp.o.mono (eG _))).mono (by have:=CB.o;omega)) (rA.o x aW)).mono ?_;rintro e w5 ⟨rfl,hb5⟩;have jF:aj (Below (nb+1) wr w5):=ah ((eF.o.mono adN).trans (hb5.mono CB.o));clear hb5 g0 g1 g2 g3 g4 g5 t1;go_wp2_with fail;go_roundw
   case rel=>exact⟨k+1,R,ahi,ahe,λc hc=>rA.o c (aX _ hc),kr.o.below (jF.o.mono (eG _)),jv.o.trans jF.o⟩
   case measure=>simp[intOf];omega
theorem yG {w w':World} {B:Nat} (hb:Below B w w'): ∀ {l:List yY} {ao:Option Addr} {k:Nat},kJ w B l ao k->kJ w' B l ao k
 | [],_,_,_=>trivial
 |_::_,_,_,⟨⟨b,off,fM,eU,e,hB,x0,x1,hl,hf⟩,hr⟩=>⟨⟨b,off,fM,eU,e,hB,(hb.cell (p:=⟨b,_,none⟩) hB).trans x0,(hb.cell (p:=⟨b,_,none⟩) hB).trans x1,hl,hf.below hb⟩,yG hb hr⟩
theorem O7 {w:World} {B B':Nat} (hB:B<=B'): ∀ {l:List yY} {ao:Option Addr} {k:Nat},kJ w B l ao k->kJ w B' l ao k
 | [],_,_,_=>trivial
 |_::_,_,_,⟨⟨b,off,fM,eU,e,hb,x0,x1,hl,hf⟩,hr⟩=>⟨⟨b,off,fM,eU,e,aJ hb hB,x0,x1,hl,hf.mono hB⟩,O7 hB hr⟩
theorem YI {w w':World} {l:List yY} {ao:Option Addr} {k:Nat} (h:kJ w w.heap.size l ao k) (hb:Below w.heap.size w w'):kJ w' w'.heap.size l ao k:=O7 hb.size (yG hb h)
theorem ah1 {W:Wo} {s:jP} {v:List ByteArray} {l:List yY} {aot:Option Addr} {cap:Nat} {w:World} (hw:gL w w.heap.size W s) (eD:dZ w) (h:WI W v) (hc:kJ w w.heap.size l aot 0) (hl:l.length=W.ts.length) (ht:MJ W 0 l=true):
 Calls Tryz.prog 29 #[.agg #[.slice s.aC W.cs.length s.cC,.slice s.aL W.ls.length s.cL,.slice s.aN W.ns.length s.cN,.slice s.aF W.fs.length s.cF,.slice s.aT W.ts.length s.cT,.slice s.aS W.ss.length s.cS,.slice aot l.length cap]] w λe w'=>e= .returned (.bool true)∧Below w.heap.size w w':=by
 have HW:=ah hw;have jc:=ah eD;have HC:=ah hc;have HT:=ah ht;have HV:=ah h;have h4:=h.sm.1.2.2.2.2.2.2;rw[<- hl]at h4⊢;clear hw eD hc ht h;go_enter Tryz.func29,Tryz.ntmps29;go_upto_region 1 with fail;generalize hW:World.alloc w _=W1;obtain⟨nb,hnb,iy,HB,HX,lJ⟩:=Ea hW;have HW1:aj (gL W1 nb W s):=ah abd;have Cu:aj (kJ W1 nb l aot 0):=ah (by have:=HC.o;rw[hnb]at this;exact yG HB.o this);have nE:aj (dZ W1):=ah abZ;rw[hnb];clear hW hnb HW HC;obtain⟨g0,g1,g2,g3,g4,g5⟩:=nJ HX.o;go_wp2_with fail;rw[hl];refine(FI (HW1.o.mono agy) nE.o HV.o).mono ?_;rintro e w2 ⟨rfl,hb2⟩;have HB2:aj (Below (nb+1) W1 w2):=ah (by rw[<- lJ.o];exact hb2);have vW:=ah ((HB2.o.block nb (Nat.lt_succ_self _)).trans HX.o);clear hb2 g0 g1 g2 g3 g4 g5;obtain⟨-,-,-,-,g4,-⟩:=nJ vW.o;have g6:=aQ (j:=6) vW.o rfl;simp only[List.getElem_toArray,List.getElem_cons_zero,List.getElem_cons_succ]at g6;go_wp2_with fail;go_loopw [3,4,22] (λ_ _ v wr=> ∃(k:Nat) (R:List yY),v= .int .i64 k∧k+R.length=l.length∧MJ W k R=true∧kJ wr nb R aot k∧Below (nb+1) W1 wr) (λ_ _ v _=>l.length -(intOf v).toNat)
 case atStart=>exact⟨0,l,rfl,ahg,HT.o,yG (HB2.o.mono (eG _)) Cu.o,HB2.o⟩
 case round=>
  obtain⟨k,R,rfl,hlen,hth,hrow,hbel⟩:=hrel;have jv:=ah hbel;have oN:=ah ((jv.o.block nb (Nat.lt_succ_self _)).trans HX.o);have xK:aj (Below nb w wr):=ah (HB.o.trans (jv.o.mono (eG _)));have zP:aj (nb+1<=wr.heap.size):=ah ade;clear hbel g4 g6;cases R with
  |nil=>
   obtain rfl:k=l.length:=afm
   go_wp2_with fail;go_ret;exact⟨rfl,by rw[iy.o];exact xK.o⟩
  |cons t R=>
   obtain⟨⟨b,off,fM,eU,rfl,hb1,x0,x1,htl,hfl⟩,hrest⟩:=hrow;simp only[ay]at hlen;rw[MJ,aP]at hth;have hkl:k<l.length:=ahe
   have kr:=ah hrest;have HFL:=ah hfl;have sW:=ah hth;clear hrest hfl htl hth;go_upto_region 6 with fail;generalize hW3:World.alloc wr _=w3;obtain⟨tb,htb,FY,HB3,J4,-⟩:=Ea hW3;have ED:aj (Below (nb+1) wr w3):=ah (HB3.o.mono adN);have kY:aj (nb+1<=w3.heap.size):=ah (aR zP.o HB3.o.size);have HW3:aj (gL w3 w3.heap.size W s):=ah ((HW1.o.below ((jv.o.trans ED.o).mono (eG _))).mono afD);have Am:aj (eu lq 6 w3 w3.heap.size t.is fM 0):=ah ((HFL.o.below (ED.o.mono (eG _))).mono afD);have BK:=ah ((ED.o.block nb (Nat.lt_succ_self _)).trans oN.o);rw[htb];clear hW3 htb x0 x1;obtain⟨g0,g1,g2,g3,g4,g5⟩:=nJ BK.o;obtain⟨t0,t1⟩:=nT J4.o;go_wp2_with fail;refine(MN HW3.o Am.o sW.o.1).mono ?_;rintro e w4 ⟨rfl,hb4⟩;have eF:aj (Below (nb+1) wr w4):=ah (ED.o.trans (hb4.mono kY.o));clear hb4 g0 g1 g2 g3 g4 g5 t0 t1;go_wp2_with fail;go_roundw
   case rel=>exact⟨k+1,R,ahi,ahe,sW.o.2,yG (eF.o.mono (eG _)) kr.o,jv.o.trans eF.o⟩
   case measure=>simp[intOf];omega
namespace Md
def EH (g:Nat) (w:World):Prop:= ∀o,(∀k n,w.cell? ⟨g,o,none⟩≠some (.int k n))∧∀s,w.cell? ⟨g,o,none⟩≠some (.string s)
section
variable {w w':World} {g B:Nat}
def CG (g:Nat) (w w':World):Prop:= ∀b,b≠g->b<w.heap.size->∀o,w'.cell? ⟨b,o,none⟩=w.cell? ⟨b,o,none⟩
theorem fU.off (hg:EH g w) (ho:CG g w w') (hB:B<=w.heap.size): ∀ {l:List ByteArray} {ao:Option Addr} {k:Nat},fU w B l ao k->fU w' B l ao k
 | [],_,_,_=>trivial
 |_::_,_,_,⟨⟨b,off,e,hb,c,hs⟩,hr⟩=>by
  have hne:b≠g:=λq=>by subst q;exact(hg _).2 _ c
  exact⟨⟨b,off,e,hb,(ho b hne (aJ hb hB) _).trans c,hs⟩,fU.off hg ho hB hr⟩
theorem iT.off (hg:EH g w) (ho:CG g w w') (hB:B<=w.heap.size): ∀ {l:List De} {ao:Option Addr} {k:Nat},iT w B l ao k->iT w' B l ao k
 | [],_,_,_=>trivial
 |_::_,_,_,⟨⟨b,off,e,hb,c0,c1,c2,c3,c4,c5,hs⟩,hr⟩=>by
  have hne:b≠g:=λq=>adS
  have h:=ho b hne (aJ hb hB);exact⟨⟨b,off,e,hb,(h _).trans c0,(h _).trans c1,(h _).trans c2,(h _).trans c3,(h _).trans c4,(h _).trans c5,hs⟩,iT.off hg ho hB hr⟩
theorem bY.At.off (hg:EH g w) (ho:CG g w w') (hB:B<=w.heap.size): ∀ {l:bY} {ao:Option Addr} {k:Nat},l.At w B ao k->l.At w' B ao k
 | .nil,_,_,_=>trivial
 | .cons _ _ _ _ _,_,_,h=>by
   obtain⟨⟨b,off,kR,cap,e,hb,c0,c1,c2,c3,hok,hk⟩,hr⟩:=h;have hne:b≠g:=λq=>adS
   have h:=ho b hne (aJ hb hB);exact⟨⟨b,off,kR,cap,e,hb,(h _).trans c0,(h _).trans c1,(h _).trans c2,(h _).trans c3,hok,hk.off hg ho hB⟩,hr.off hg ho hB⟩
theorem aY.At.off (hg:EH g w) (ho:CG g w w') (hB:B<=w.heap.size): ∀ {l:aY} {ao:Option Addr} {k:Nat},l.At w B ao k->l.At w' B ao k
 | .nil,_,_,_=>trivial
 | .cons _ _ _ _,_,_,h=>by
   obtain⟨⟨b,off,fM,eU,fD,dS,dL,cK,gJ,fH,e,hb,c0,c1,c2,c3,c4,c5,c6,c7,c8,c9,c10,hok,h1,h2,h3,h4⟩,hr⟩:=h;have hne:b≠g:=λq=>adS
   have h:=ho b hne (aJ hb hB);exact⟨⟨b,off,fM,eU,fD,dS,dL,cK,gJ,fH,e,hb,(h _).trans c0,(h _).trans c1,(h _).trans c2,(h _).trans c3,(h _).trans c4,(h _).trans c5,(h _).trans c6,(h _).trans c7,(h _).trans c8,(h _).trans c9,(h _).trans c10,hok,h1.off hg ho hB,h2.off hg ho hB,h3.off hg ho hB,h4.off hg ho hB⟩,hr.off hg ho hB⟩
theorem gY.off (hg:EH g w) (ho:CG g w w') (hB:B<=w.heap.size): ∀ {l:List Th} {ao:Option Addr} {k:Nat},gY w B l ao k->gY w' B l ao k
 | [],_,_,_=>trivial
 |_::_,_,_,⟨⟨b,off,gK,dW,dL,cK,e,hb,c0,c1,c2,c3,hs,ht,hst⟩,hr⟩=>by
  have hne:b≠g:=λq=>by subst q;exact(hg _).2 _ c0
  have h:=ho b hne (aJ hb hB);exact⟨⟨b,off,gK,dW,dL,cK,e,hb,(h _).trans c0,(h _).trans c1,(h _).trans c2,(h _).trans c3,hs,ht.off hg ho hB,hst.1.off hg ho hB,hst.2⟩,gY.off hg ho hB hr⟩
theorem Pr.At.off {p:Pr} {aK aM:Option Addr} (hg:EH g w) (ho:CG g w w') (hs:w.heap.size<=w'.heap.size) (h:p.At w aK aM):p.At w' aK aM:=
 ⟨h.1,h.2.1,(h.2.2.1.off hg ho (aH _)).mono hs,(h.2.2.2.off hg ho (aH _)).mono hs⟩
theorem CG.trans {w1:World} (h:CG g w w1) (hs:w.heap.size<=w1.heap.size) (h1:CG g w1 w'):CG g w w':=λb hb hl o=>(h1 b hb (aJ hl hs) o).trans (h b hb hl o)
theorem CG.set (w:World) (g j:Nat) (v:Value):CG g w (w.setCell ⟨g,j,none⟩ v):=λb hb _ o=>
 World.cell?_of_block (a:=⟨b,o,none⟩) (dB w ⟨g,j,none⟩ v rfl (by show g≠b;exact λe=>hb e.symm))
theorem EH.of {cs:Array Value} {t:TypeId} {fr:Nat×Nat} (h:w.heap[g]? =some (.cells cs t fr)) (hc:(cs.toList.all λv=>match v with| .int _ _=>false| .string _=>false|_=>true)=true):EH g w:=by
 have key: ∀o v,w.cell? ⟨g,o,none⟩=some v->(match v with| .int _ _=>false| .string _=>false|_=>true)=true:=λo v e=>by rw[cell_of_row w g o cs t fr h]at e;rw[List.all_eq_true]at hc;exact hc v (by have:=Array.mem_of_getElem? e;simpa using this)
 intro o;refine⟨λk n e=> ?_,λs e=> ?_⟩
 ·have:=key o _ e;cases this
 ·have:=key o _ e;cases this
end
end Md
open Md Pz
def PaO (p:Pr) (w:World) (e:Ending) (w':World):Prop:= ∃aK aG aM aD,e= .returned (.tuple #[.agg #[.slice aK p.ds.length aG,.slice aM p.ts.length aD],.int .i64 0,.int .i64 0])∧p.At w' aK aM∧Below w.heap.size w w'
theorem Yo (w:World) (eD:dZ w):Calls Tryz.prog 45 #[.string ⟨#[118,97,114,32,120,32,61,32,50,59,32,118,97,114,32,113,91,50,93,59,32,109,117,116,101,120,32,109,59,32,99,111,110,100,32,99,32,109,59,32,114,119,108,111,99,107,32,114,59,32,102,117,116,117,114,101,32,102,59,32,116,104,114,101,97,100,32,116,40,97,41,32,123,32,108,111,99,107,32,109,32,123,32,120,32,61,32,113,91,97,93,59,32,125,32,125,32,116,104,114,101,97,100,32,117,40,41,32,123,32,125]⟩] w (PaO ny w):=
 ZI ⟨#[118,97,114,32,120,32,61,32,50,59,32,118,97,114,32,113,91,50,93,59,32,109,117,116,101,120,32,109,59,32,99,111,110,100,32,99,32,109,59,32,114,119,108,111,99,107,32,114,59,32,102,117,116,117,114,101,32,102,59,32,116,104,114,101,97,100,32,116,40,97,41,32,123,32,108,111,99,107,32,109,32,123,32,120,32,61,32,113,91,97,93,59,32,125,32,125,32,116,104,114,101,97,100,32,117,40,41,32,123,32,125]⟩ w eD ahf ny ahF src_ok aP8 (λR wr h=>af3 R wr h) rfl
theorem Vu {p:Pr} (J2:aj (∀w,dZ w->Calls Tryz.prog 45 #[.string ⟨#[118,97,114,32,120,32,61,32,50,59,32,118,97,114,32,113,91,50,93,59,32,109,117,116,101,120,32,109,59,32,99,111,110,100,32,99,32,109,59,32,114,119,108,111,99,107,32,114,59,32,102,117,116,117,114,101,32,102,59,32,116,104,114,101,97,100,32,116,40,97,41,32,123,32,108,111,99,107,32,109,32,123,32,120,32,61,32,113,91,97,93,59,32,125,32,125,32,116,104,114,101,97,100,32,117,40,41,32,123,32,125]⟩] w (PaO p w))) (w:World) (eD:dZ w):
 Calls Tryz.prog 28 #[] w λe w'=> ∃aK aG aM aD,e= .returned (.agg #[.slice aK p.ds.length aG,.slice aM p.ts.length aD])∧p.At w' aK aM∧Below w.heap.size w w':=by
 have jc:=ah eD;clear eD;go_enter Tryz.func28,Tryz.ntmps28;go_upto_region 1 with fail;generalize hW:World.alloc w _=W1;obtain⟨rb,hrb,HB,-,HX,-⟩:=nI hW;have VY:=ah hrb;rw[hrb];clear hW hrb;go_wp2_with fail;refine(J2.o W1 (jc.o.same HB.o)).mono ?_;rintro e w1 ⟨aK,aG,aM,aD,rfl,hat,hb⟩;have HB1:=ah (HB.o.trans (hb.mono HB.o.size));have G6:=gV hb HX;have HAT:=ah hat;clear hat hb J2 HX;go_upto_region 2 with fail;generalize hW:World.alloc w1 _=w2;obtain⟨pb,hpb,HB2,-,uz,-⟩:=nI hW;rw[hpb];clear hW hpb;have oN:=gV HB2.o G6;obtain⟨y0,y1⟩:=nT uz.o;obtain⟨z0,z1⟩:=nT oN.o;have f0:=bC (o:=0) oN.o;have f1:=bC (o:=1) oN.o;have hlt:rb<w2.heap.size:=(aU oN.o);have HFN:aj (∀W,(w2.setCell ⟨rb,0,none⟩ (.slice aK p.ds.length aG)).setCell ⟨rb,1,none⟩ (.slice aM p.ts.length aD)=W->p.At W aK aM∧Below w.heap.size w W):=ah (λW hW=>by subst hW;have hA:=HAT.o.same HB2.o;have hr:=VY.o;exact⟨hA.off (EH.of oN.o rfl) ((CG.set w2 _ _ _).trans aga (CG.set _ _ _ _)) aga,pU (pU (HB1.o.trans (HB2.o.mono HB1.o.size)) _ _ ahh) _ _ ahh⟩);go_wp2_with fail;exact bodyPost_ret (v:= .agg #[.slice aK p.ds.length aG,.slice aM p.ts.length aD]) (by simp[results,Tryz.results28,go_sem,z0,z1,hlt]) rfl (by obtain⟨e2,e3⟩:=HFN.o _ rfl;exact⟨aK,aG,aM,aD,rfl,e2,e3⟩)
theorem WO (w:World) (eD:dZ w):
 Calls Tryz.prog 11 #[] w λe w'=>e= .returned (.bool true)∧Below w.heap.size w w':=by
 obtain⟨t,u,v,h0,hfit,hco,h6,hts,hwt,hv,hvw⟩:=ag4;have HSA:=ah (λw h=>Vu (ah Yo) w h);generalize ny=p at *;rw[hco]at hv;have jc:=ah eD;have H0:=ah h0;have HF:=ah hfit;have Sr:=ah hco;have lK:=ah hts;have HV:=ah hv;have HVW:=ah hvw;have H6:=ah h6;have oZ:=ah hwt;clear h0 hfit hco hts eD hv hvw h6 hwt;go_enter Tryz.func11,Tryz.ntmps11;go_wp2_with fail;refine(HSA.o w jc.o).mono ?_;rintro e w1 ⟨aK,aG,aM,aD,rfl,hat,hb⟩;have HAT:=ah hat;have HB:=ah hb;clear hat hb HSA;go_wp2_with fail;refine(J7 p w1 aK aM aG aD HAT.o (jc.o.same HB.o) HF.o H0.o).mono ?_;rintro e w3 ⟨s,aoc,ZT,rfl,hwo,htc,-,hb3⟩;rw[Sr.o]at htc;rw[lK.o];have HTC:=ah htc;have Ap:=ah hwo;obtain⟨⟨b,off,fM,eU,hao,hB,x0,x1,-,hfl⟩,-⟩:=htc;subst hao;have HB3:=ah (HB.o.trans (hb3.mono HB.o.size));have vO:=ah hB;rw[H6.o]at x1;clear hfl hwo hb3 hB;generalize jg p=W at *;clear Sr HF H0 lK HAT;go_upto_region 2 with fail;generalize hW:World.alloc w3 _=w4;obtain⟨cb,hcb,eF,-,HX,-⟩:=nI hW;rw[hcb];clear hW hcb;have Br:=ah (HB3.o.trans (eF.o.mono HB3.o.size));have aD2:=ah (Ap.o.same eF.o);have bj2:aj (kJ w4 w4.heap.size [t,u] (some ⟨b,off,none⟩) 0):=ah (YI HTC.o eF.o);obtain⟨g0,g1,g2,g3,g4,g5,g6⟩:=KJ HX.o;have X1:w4.cell? ⟨b,off+1,none⟩=some (.slice fM 6 eU):=(eF.o.cell (p:=⟨b,_,none⟩) vO.o).trans x1;clear x0 x1;have HVA:aj (Calls Tryz.prog 29 #[.agg #[.slice s.aC W.cs.length s.cC,.slice s.aL W.ls.length s.cL,.slice s.aN W.ns.length s.cN,.slice s.aF W.fs.length s.cF,.slice s.aT W.ts.length s.cT,.slice s.aS W.ss.length s.cS,.slice (some ⟨b,off,none⟩) 2 ZT]] w4 λe w'=>e= .returned (.bool true)∧Below w4.heap.size w4 w'):=ah (ah1 (W:=W) (s:=s) (l:=[t,u]) aD2.o (jc.o.same Br.o) HVW.o bj2.o (by rw[oZ.o];rfl) HV.o);go_wp2_with fail;refine HVA.o.mono ?_;rintro e w5 ⟨rfl,hb5⟩;have jF:=ah hb5;have DU:=gV hb5 HX;clear hb5 g0 g1 g2 g3 g4 g5 g6 X1;obtain⟨g0,g1,g2,g3,g4,g5⟩:=nJ DU.o;go_wp2_with fail;refine(FI (aD2.o.same jF.o) (jc.o.same (Br.o.trans (jF.o.mono Br.o.size))) HVW.o).mono ?_;rintro e w6 ⟨rfl,hb6⟩;have nX:=ah ((Br.o.trans (jF.o.mono Br.o.size)).trans (hb6.mono (aR Br.o.size jF.o.size)));go_wp2_with fail;go_ret;exact⟨rfl,nX.o⟩
end Go.Proofs.YtldapdcphphodaaGreatDoor
