/- What is known of the sanity check's objects and code. No program in sight. And what hangs on it. -/
import Derived.Test.YtkmllehjemjgpaaGreatDoorGPJ
import Derived.Test.YtkmllehjemjgpaaGreatDoorGA
import Derived.Test.YtkmllehjemjgpaaGreatDoorGCA
import Derived.Test.YtkmllehjemjgpaaGreatDoorGMX
import Derived.IntWalk
import Derived.Laws.MakeOwn
import Derived.Test.YtkmllehjemjgpaaGreatDoorGCE
set_option linter.unusedSimpArgs false
set_option linter.unusedVariables false
set_option maxHeartbeats 40000000
set_option maxRecDepth 1000000
namespace Go.Proofs.YtkmllehjemjgpaaGreatDoor
open Go.RowKit
namespace Md
def Ir (op:Int):Bool:=decide (1<=op)&&decide (op<=5)
abbrev Zp (W:Wo) (i:Int):Prop:=0<=i∧W.ls[i.toNat]?.map (·.rw)=some false
abbrev ScE (W:Wo) (i:Int):Prop:=0<=i∧W.cs[i.toNat]?.map (·.sz)=some 0
abbrev AyE (W:Wo) (i:Int):Prop:=0<=i∧W.cs[i.toNat]?.map (λc=>(c.ix,c.sz))=some (0,2)
theorem Mh {α β:Type} {l:List α} {f:α->β} {i:Int} {q:β} (h:0<=i∧l[i.toNat]?.map f=some q): ∃(k:Nat) (x:α),i=k∧k<l.length∧l[k]? =some x∧f x=q:=by
 obtain⟨k,rfl⟩:=Int.eq_ofNat_of_zero_le h.1;obtain⟨x,hx,hq⟩:=Option.map_eq_some_iff.1 h.2;exact⟨k,x,rfl,(List.getElem?_eq_some_iff.1 hx).1,hx,hq⟩
inductive Vz:List rQ->List ByteArray->Prop
 |nil:Vz [] []
 |one {c r v} :c.sz=0->c.ix=0->Vz r v->Vz (c::r) (c.nm::v)
 |two {a i r v} :Vz r v->Vz (⟨a,0,2,false,i⟩::⟨a,1,2,false,i⟩::r) (a::v)
def Wq:List (List UInt8)->List ByteArray->Bool
 |_,[]=>true
 |seen,x::r=>(Tk.iC x.toList&& !(seen.contains x.toList))&&Wq (seen++[x.toList]) r
def AQ (W:Wo) (v:List ByteArray):List ByteArray:=v++W.ls.map (·.nm)++W.ns.map (·.nm)++W.fs++W.ts
def VR:Int->List xM->Bool
 |_,[]=>true
 |k,s::r=>decide (s.th=0∧s.st=k)&&VR (k+1) r
structure Ud (W:Wo) (v:List ByteArray):Prop where
 sm:(W.cs.length<=12∧W.ls.length<=4∧W.ns.length<=2∧W.fs.length<=2∧W.ss.length<=60∧1<=W.ts.length∧W.ts.length<=4)∧v.length<=12∧v≠[]∧W.fs≠[]
 cs:Vz W.cs v
 nm:Wq [] (AQ W v)=true
 cn: ∀c∈W.ns,Zp W c.mx
 si:VR 0 W.ss=true
 kl:(∀c∈W.ls,c.nm.size<=maxLen)∧∀c∈W.ns,c.nm.size<=maxLen
 kv: ∀x∈v,x.size<=maxLen
abbrev OpE (W:Wo) (i:bM):Prop:=(i.op=2∨i.op=28)∨((i.op=11∨i.op=12)∧Zp W i.a)∨(i.op=8∧ScE W i.a)∨(i.op=7∧AyE W i.b∧i.n=2)
abbrev StE (W:Wo) (th i:Int):Prop:=0<=i∧W.ss[i.toNat]?.map (·.th)=some th
abbrev InE (W:Wo) (th n regs k:Int) (i:bM) (r:List bM):Prop:=
 ((i.op=28∧k=n -1∧i.st= -1)∨(i.op≠28∧k≠n -1∧StE W th i.st))∧(∀x∈gK i,0<=x∧x<regs)∧OpE W i∧(i.op=2->(r.map (·.op)).headD 2≠2)
def Fj (W:Wo) (th n regs:Int):Int->List bM->Bool
 |_,[]=>true
 |k,i::r=>decide (InE W th n regs k i r)&&Fj W th n regs (k+1) r
def thE (W:Wo) (th:Int) (t:xO):Bool:=decide ((0<=t.regs∧t.regs<=32)∧1<=t.is.length∧t.is.length<=100)&&Fj W th t.is.length t.regs 0 t.is
def Kt (W:Wo):Int->List xO->Bool
 |_,[]=>true
 |k,t::r=>thE W k t&&Kt W (k+1) r
end Md
open Md
theorem yS {i n:Int} (h0:0<=i) (h1:i<n) (w:World):Calls Tryz.prog 75 #[.int .i64 i,.int .i64 n] w λe w'=>e= .returned (.bool true)∧w=w':=by
 go_enter Tryz.func75,Tryz.ntmps75;go_wp2_with fail;go_ret;exact⟨by simp[h0,h1],rfl⟩
theorem qC (i:Int) (w:World):Calls Tryz.prog 109 #[.int .i64 i] w λe w'=>e= .returned (.bool (Ir i))∧w=w':=by
 unfold Ir;by_cases h0:1<=i <;> by_cases h1:i<=5
 all_goals go_enter Tryz.func109,Tryz.ntmps109;go_wp2_with fail;go_ret;exact⟨by simp[h0,h1],rfl⟩
section
variable {W:Wo} {s:jf} {i:Int} {w:World}
theorem LB (hw:fJ w w.heap.size W s) (h:Zp W i):Calls Tryz.prog 43 #[nD W s,.int .i64 i,.bool false] w λe w'=>e= .returned (.bool true)∧Below w.heap.size w w':=by
 obtain⟨k,x,rfl,hk,hx,hr⟩:=Mh h;have hl:=hw.ll;unfold maxLen at hl;have HW:=ah hw;clear hw h;unfold nD;go_enter Tryz.func43,Tryz.ntmps43;go_upto_region 1 with fail;generalize hW:World.alloc w _=W1;obtain⟨nb,hnb,gB,HB,HX,-⟩:=Ct hW;have hc:=au (j:=1) HX.o rfl;obtain⟨b,off,hao,hb,hcs⟩:=(show dF _ _ W1 nb W.ls _ 0 by have h:=HW.o.ls;rw[hnb]at h;exact h.below HB.o).at k x hx;simp only[hao,List.getElem_toArray,List.getElem_cons_zero,List.getElem_cons_succ]at hc;rw[hnb];clear hW hnb HW HX hx;have k0:(0:Int)<=(k:Int):=by omega
 have k1:(k:Int)<(W.ls.length:Int):=by omega
 have z1:=hcs 1 _ rfl;simp only[hr,Nat.zero_add,Nat.add_zero]at z1;clear hcs;go_wp2_with fail;refine(yS k0 k1 W1).mono ?_;rintro e w2 ⟨rfl,rfl⟩;go_wp2_with fail;go_ret;exact⟨rfl,by rw[gB.o];exact HB.o⟩
theorem PI (hw:fJ w w.heap.size W s) (h:ScE W i):Calls Tryz.prog 107 #[nD W s,.int .i64 i] w λe w'=>e= .returned (.bool true)∧Below w.heap.size w w':=by
 obtain⟨k,x,rfl,hk,hx,hr⟩:=Mh h;have hl:=hw.lc;unfold maxLen at hl;have HW:=ah hw;clear hw h;unfold nD;go_enter Tryz.func107,Tryz.ntmps107;go_upto_region 1 with fail;generalize hW:World.alloc w _=W1;obtain⟨nb,hnb,gB,HB,HX,-⟩:=Ct hW;have hc:=au (j:=0) HX.o rfl;obtain⟨b,off,hao,hb,hcs⟩:=(show dF _ _ W1 nb W.cs _ 0 by have h:=HW.o.cs;rw[hnb]at h;exact h.below HB.o).at k x hx;simp only[hao,List.getElem_toArray,List.getElem_cons_zero,List.getElem_cons_succ]at hc;rw[hnb];clear hW hnb HW HX hx;have k0:(0:Int)<=(k:Int):=by omega
 have k1:(k:Int)<(W.cs.length:Int):=by omega
 have z2:=hcs 2 _ rfl;simp only[hr,Nat.zero_add,Nat.add_zero]at z2;clear hcs;go_wp2_with fail;refine(yS k0 k1 W1).mono ?_;rintro e w2 ⟨rfl,rfl⟩;go_wp2_with fail;go_ret;exact⟨rfl,by rw[gB.o];exact HB.o⟩
theorem Sy (hw:fJ w w.heap.size W s) (h:AyE W i):Calls Tryz.prog 108 #[nD W s,.int .i64 i,.int .i64 2] w λe w'=>e= .returned (.bool true)∧Below w.heap.size w w':=by
 obtain⟨k,x,rfl,hk,hx,hr⟩:=Mh h;injection hr with h1 h2;have hl:=hw.lc;unfold maxLen at hl;have HW:=ah hw;clear hw h;unfold nD;go_enter Tryz.func108,Tryz.ntmps108;go_upto_region 1 with fail;generalize hW:World.alloc w _=W1;obtain⟨nb,hnb,gB,HB,HX,-⟩:=Ct hW;have hc:=au (j:=0) HX.o rfl;obtain⟨b,off,hao,hb,hcs⟩:=(show dF _ _ W1 nb W.cs _ 0 by have h:=HW.o.cs;rw[hnb]at h;exact h.below HB.o).at k x hx;simp only[hao,List.getElem_toArray,List.getElem_cons_zero,List.getElem_cons_succ]at hc;rw[hnb];clear hW hnb HW HX hx;have k0:(0:Int)<=(k:Int):=by omega
 have k1:(k:Int)<(W.cs.length:Int):=by omega
 have z1:=hcs 1 _ rfl;have z2:=hcs 2 _ rfl;simp only[h1,h2,Nat.zero_add,Nat.add_zero]at z1 z2;clear hcs;go_wp2_with fail;refine(yS k0 k1 W1).mono ?_;rintro e w2 ⟨rfl,rfl⟩;go_wp2_with fail;go_ret;exact⟨rfl,by rw[gB.o];exact HB.o⟩
theorem Iw (n:Int) (x:bM) (hw:fJ w w.heap.size W s) (h:OpE W x):
 Calls Tryz.prog 76 #[nD W s,.int .i64 n,GQ x] w λe w'=>e= .returned (.bool true)∧Below w.heap.size w w':=by
 obtain⟨op,a,b,c,m,st⟩:=x;have HW:=ah hw;clear hw;unfold nD GQ;go_enter Tryz.func76,Tryz.ntmps76;go_upto_region 1 with fail;generalize hW:World.alloc (World.alloc w _) _=W1;obtain⟨nb,hnb,gB,HB,DV,uL,HS⟩:=Uf hW;rw[hnb]at HW;have TW:aj (fJ W1 W1.heap.size W s):=ah (by have h:=HB.o;rw[<- hnb]at h HW;exact HW.o.same h);rw[hnb];clear hW hnb HW;obtain⟨c0,c1,c2,c3,c4,c5⟩:=vR DV.o;obtain⟨x0,x1,x2,x3,x4,x5⟩:=vR uL.o;clear DV uL
 try dsimp only at h
 rcases h with(rfl|rfl)|⟨rfl|rfl,h⟩|⟨rfl,h⟩|⟨rfl,h,rfl⟩
 all_goals
  go_wp2_with fail
  first
   |(go_ret;exact⟨rfl,by rw[gB.o];exact HB.o⟩)
   |(refine Calls.mono (by first|exact LB TW.o h|exact PI TW.o h|exact Sy TW.o h) ?_;rintro e w2 ⟨rfl,hb⟩;go_wp2_with fail;go_ret;exact⟨rfl,by rw[gB.o];exact HB.o.trans (hb.mono (by have:=HS.o;omega))⟩)
end
theorem EW (b off cap n k:Nat) (op:Int) (w:World) (hk:k<n) (hn:n<=100) (z0:w.cell? ⟨b,off+k*6,none⟩=some (.int .i64 op)) (h5:(op==5)=false):
 Calls Tryz.prog 110 #[.slice (some ⟨b,off,none⟩) n cap,.int .i64 k] w λe w'=>e= .returned (.int .i64 ((k+1:Nat):Int))∧w=w':=by
 have k0:(0:Int)<=(k:Int):=by omega
 have k1:(k:Int)<(n:Int):=by omega
 have hwr:IntKind.i64.wrap ((k:Int)+1)=(k:Int)+1:=IntWalk.i64_in _ (by omega);go_enter Tryz.func110,Tryz.ntmps110;go_wp2_with fail;go_ret;exact⟨by first|rfl|simp[hwr],rfl⟩
def rJ (w:World) (g:Nat) (G:List Bool):Prop:=w.heap[g]? =some (.cells (G.map Value.bool).toArray 4 (0,0))
theorem rJ.cell {w:World} {g c:Nat} {G:List Bool} {q:Bool} (h:rJ w g G) (hc:G[c]? =some q):w.cell? ⟨g,c,none⟩=some (.bool q):=au h (by simp[hc])
theorem rJ.set {w:World} {g:Nat} {G:List Bool} (h:rJ w g G) (c:Nat) (q:Bool):rJ (w.setCell ⟨g,c,none⟩ (.bool q)) g (G.set c q):=nA h _ (by simp[List.map_set])
theorem rJ.far {w:World} {g g':Nat} {G:List Bool} (h:rJ w g G) (hne:g'≠g) (c:Nat) (v:Value):rJ (w.setCell ⟨g',c,none⟩ v) g G:=(bY _ _ _ rfl hne).trans h
theorem aC3:(Tryz.prog.info? 4).map (λi=>(i.zero,i.size,i.bytes))=some (some (.bool false),1,1):=by kernel_rfl
theorem SE (n:Nat):madeCells (Value.bool false).cells (n*1)=((List.replicate n false).map Value.bool).toArray:=by
 rw[Nat.mul_one];apply Array.ext
 ·simp[madeCells]
 ·intro i h1 h2;simp[madeCells,Value.cells,Nat.mod_one]
theorem Yl (n:Nat) (hn:n<=100) (w:World):
 (Instr.makeSlice 158 (.int .i64 (n:Int)) (.int .i64 (n:Int))).run Tryz.prog w= .ok (.slice (some ⟨w.heap.size,0,none⟩) n n) (w.alloc (.cells ((List.replicate n false).map Value.bool).toArray 4)):=by
 obtain⟨i0,hi0,hz0,hz1,hz2⟩:=wW aC3;have hr:=run_make (P:=Tryz.prog) w 158 4 i0 (.bool false) Tryz.underlying158 hi0 hz0 .i64 .i64 n n (by omega) (by omega) (by rw[hz2];omega) (by omega);simp only[Int.toNat_natCast]at hr;rw[hz1,SE]at hr;exact hr
theorem Vx {W:Wo} {x:bM} (h:OpE W x) (h2:x.op≠2):Ir x.op=false:=by
 unfold Ir;simp only[Bool.and_eq_false_iff,decide_eq_false_iff_not];rcases h with(h|h)|⟨h|h,-⟩|⟨h,-⟩|⟨h,-⟩ <;> omega
def Off (n k:Nat) (G:List Bool):Prop:= ∀j,k<=j->j<n->G[j]? =some false
theorem Off.set {n k:Nat} {G:List Bool} (h:Off n k G):Off n (k+1) (G.set k true):=λj h1 h2=>by
 rw[List.getElem?_set_ne (by omega)];exact h j (by omega) h2
theorem Pp {W:Wo} {th n regs:Int} {l:List bM} (h:Fj W th n regs 0 l=true) (w:World) (ao:Option Addr) (cap:Nat) (hl:l.length<=100) (hw:dF jI 6 w w.heap.size l ao 0):
 Calls Tryz.prog 77 #[.slice ao l.length cap] w λe w'=>e= .returned (.bool true)∧Below w.heap.size w w':=by
 have HO:=ah h;have HW:=ah hw;have hmk:=Yl l.length hl;clear h hw;go_enter Tryz.func77,Tryz.ntmps77;go_wp2_with fail;generalize hW:World.alloc (World.alloc w _) _=w2;obtain⟨gb,hgb,xJ,HB,HG,HS,-⟩:=Uf hW;have hrp:((List.replicate l.length false).map Value.bool).toArray=Array.replicate l.length (Value.bool false):=by simp
 have hG:rJ w2 gb (List.replicate l.length false):=by unfold rJ;rw[hrp];exact HG.o
 have hS:rJ w2 (gb+1) (List.replicate l.length false):=by unfold rJ;rw[hrp];exact HS.o
 have HF:aj (dF jI 6 w2 gb l ao 0):=ah (by have:=HW.o;rw[hgb]at this;exact this.below HB.o);rw[hgb];clear hW hmk HW hgb hrp;go_loopw [5,6,15] (λ_ _ v15 wr=> ∃(k:Nat) (R:List bM) (G S:List Bool),v15= .int .i64 k∧k+R.length=l.length∧rJ wr gb G∧rJ wr (gb+1) S∧Off l.length k G∧Off l.length k S∧Fj W th n regs k R=true∧dF jI 6 wr gb R ao k∧Below gb w wr) (λ_ _ i _=>l.length -(intOf i).toNat)
 case atStart=>exact⟨0,l,_,_,rfl,by simp,hG,hS,λj _ h=>by simp[List.getElem?_replicate,h],λj _ h=>by simp[List.getElem?_replicate,h],HO.o,HF.o,HB.o⟩
 case round=>
  obtain⟨k,R,G,S,rfl,hlen,hg,hs,og,os,hi,hf,hb⟩:=hrel;have mK:=ah hg;have Zi:=ah hs;have Zg:=ah og;have HOS:=ah os;have HB1:=ah hb;clear hg hs og os hb HG HS HF HB HO hG hS;cases R with
  |nil=>
   obtain rfl:k=l.length:=by simpa using hlen
   go_wp2_with fail;go_ret;exact⟨rfl,by rw[xJ.o];exact HB1.o⟩
  |cons x R=>
   obtain⟨⟨b,off,rfl,hb1,hcs⟩,hf⟩:=hf;rw[Fj,Bool.and_eq_true,decide_eq_true_eq]at hi;obtain⟨⟨-,-,hop,hnx⟩,hi⟩:=hi;simp only[List.length_cons]at hlen;have z0:wr.cell? ⟨b,off+k*6,none⟩=some (.int .i64 x.op):=hcs 0 _ rfl;have k0:(0:Int)<=(k:Int):=by omega
   have k1:(k:Int)<(l.length:Int):=by omega
   have HFR:=ah hf;have HI:=ah hi;by_cases h2:x.op=2
   ·cases R with
    |nil=>exact absurd rfl (hnx h2)
    |cons y R=>
     obtain⟨⟨b',off',e,-,hcy⟩,-⟩:=hf;injection e with e;injection e with e1 e2;subst e1 e2;rw[Fj,Bool.and_eq_true,decide_eq_true_eq]at hi;have hsy:Ir y.op=false:=Vx hi.1.2.2.1 (hnx h2);simp only[List.length_cons]at hlen;have y0:wr.cell? ⟨b,off+(k+1)*6,none⟩=some (.int .i64 y.op):=hcy 0 _ rfl;have k2:(0:Int)<=((k+1:Nat):Int):=(by omega);have k3:((k+1:Nat):Int)<(l.length:Int):=(by omega);have hsx:Ir x.op=true:=(by rw[h2];rfl);have h5:(x.op==5)=false:=(by rw[h2];rfl);have q0:=mK.o.cell (Zg.o k (Nat.le_refl _) (by omega));have q1:=Zi.o.cell (HOS.o k (Nat.le_refl _) (by omega));have f0:wr.frozen? ⟨gb,k,none⟩=false:=bG mK.o;have f1:wr.frozen? ⟨gb+1,k,none⟩=false:=bG Zi.o;have HZ:=ah (And.intro hb1 (And.intro z0 y0));clear hop hnx hi hcs hcy h2;go_upto_region 7 with fail;refine wp_loop_rounds 2 ?_;rw[rounds_succ];go_wp2_with fail;refine(qC x.op wr).mono ?_;rintro e w3 ⟨rfl,rfl⟩;rw[hsx];go_upto_region 11 with fail;generalize hW:World.setCell wr _ _=w4;have Ms:aj (Below gb wr w4):=ah (by rw[<- hW];exact bL (bQ _ _ _) (Nat.le_succ _) (Nat.le_of_lt (Array.getElem?_eq_some_iff.1 mK.o).1));have KI:aj (rJ w4 gb G):=ah (by rw[<- hW];exact mK.o.far (Nat.succ_ne_self _) _ _);have Bj:aj (rJ w4 (gb+1) (S.set k true)):=ah (by rw[<- hW];exact Zi.o.set k true);have z1:=(Ms.o.cell (p:=⟨b,_,none⟩) hb1).trans z0;have y1:=(Ms.o.cell (p:=⟨b,_,none⟩) hb1).trans y0;have q2:=KI.o.cell (Zg.o k (Nat.le_refl _) (by omega));have f2:w4.frozen? ⟨gb,k,none⟩=false:=bG KI.o;clear hW z0 y0 q0 q1 f0 f1;go_wp2_with fail;refine(EW b off cap l.length k x.op w4 (by omega) hl z1 h5).mono ?_;rintro e w5 ⟨rfl,rfl⟩;go_wp2_with fail;rw[rounds_succ];go_wp2_with fail;refine(qC y.op w4).mono ?_;rintro e w5 ⟨rfl,rfl⟩;rw[hsy];go_upto_region 13 with fail;refine wp_loop_rounds 2 ?_;rw[rounds_succ];go_wp2_with fail;refine(qC x.op w4).mono ?_;rintro e w5 ⟨rfl,rfl⟩;rw[hsx];go_upto_region 14 with fail;generalize hW:World.setCell w4 _ _=w6;have Q5:aj (Below gb w4 w6):=ah (by rw[<- hW];exact bL (bQ _ _ _) (Nat.le_refl _) (Nat.le_of_lt (Array.getElem?_eq_some_iff.1 KI.o).1));have Qd:aj (rJ w6 gb (G.set k true)):=ah (by rw[<- hW];exact KI.o.set k true);have qF:aj (rJ w6 (gb+1) (S.set k true)):=ah (by rw[<- hW];exact Bj.o.far (λe=>Nat.succ_ne_self _ e.symm) _ _);have z2:=(Q5.o.cell (p:=⟨b,_,none⟩) hb1).trans z1;have y2:=(Q5.o.cell (p:=⟨b,_,none⟩) hb1).trans y1;clear hW z1 y1 q2 f2;go_wp2_with fail;refine(EW b off cap l.length k x.op w6 (by omega) hl z2 h5).mono ?_;rintro e w5 ⟨rfl,rfl⟩;go_wp2_with fail;rw[rounds_succ];go_wp2_with fail;refine(qC y.op w6).mono ?_;rintro e w5 ⟨rfl,rfl⟩;rw[hsy];go_wp2_with fail;go_roundw
     case rel=>exact⟨k+1,y::R,_,_,by go_num,by simp;omega,Qd.o,qF.o,Zg.o.set,HOS.o.set,HI.o,HFR.o.below (Ms.o.trans Q5.o),HB1.o.trans (Ms.o.trans Q5.o)⟩
     case measure=>simp[intOf];omega
   ·have hsx:Ir x.op=false:=Vx hop h2;clear hop hnx hi hf hcs;go_upto_region 7 with fail;refine wp_loop_rounds 1 ?_;rw[rounds_succ];go_wp2_with fail;refine(qC x.op wr).mono ?_;rintro e w3 ⟨rfl,rfl⟩;rw[hsx];go_upto_region 13 with fail;refine wp_loop_rounds 1 ?_;rw[rounds_succ];go_wp2_with fail;refine(qC x.op wr).mono ?_;rintro e w3 ⟨rfl,rfl⟩;rw[hsx];go_wp2_with fail;go_roundw
    case rel=>exact⟨k+1,R,G,S,by go_num,by omega,mK.o,Zi.o,λj h1=>Zg.o j (by omega),λj h1=>HOS.o j (by omega),HI.o,HFR.o,HB1.o⟩
    case measure=>simp[intOf];omega
theorem Ky {W:Wo} {s:jf} {th:Int} {t:xO} {eu:Option Addr} {dI:Nat} {w:World} (hw:fJ w w.heap.size W s) (hf:dF jI 6 w w.heap.size t.is eu 0) (h:thE W th t=true):
 Calls Tryz.prog 40 #[nD W s,.int .i64 th,.agg #[.int .i64 t.regs,.slice eu t.is.length dI]] w λe w'=>e= .returned (.bool true)∧Below w.heap.size w w':=by
 obtain⟨regs,l⟩:=t;unfold thE at h;simp only[Bool.and_eq_true,decide_eq_true_eq]at h;obtain⟨⟨⟨r0,r1⟩,l0,l1⟩,hins⟩:=h;have HW:=ah hw;have HF0:aj (dF jI 6 w w.heap.size l eu 0):=ah hf;have HI:=ah hins;have hls:=hw.lS;unfold maxLen at hls;clear hw hf hins;dsimp only;unfold nD;go_enter Tryz.func40,Tryz.ntmps40;go_upto_region 1 with fail;generalize hW:World.alloc (World.alloc w _) _=W1;obtain⟨nb,hnb,gB,HB,DV,uL,kE⟩:=Uf hW;have TW:aj (fJ W1 nb W s):=ah (by have:=HW.o;rw[hnb]at this;exact this.below HB.o);have Z7:aj (dF jI 6 W1 nb l eu 0):=ah (by have:=HF0.o;rw[hnb]at this;exact this.below HB.o);rw[hnb];clear hW hnb HW HF0;obtain⟨t0,t1⟩:=Cx uL.o;have hA1: ¬regs<0:=by omega
 have hA2: ¬32<regs:=by omega
 have hA4:((l.length:Int)==0)=false:=by rw[beq_eq_false_iff_ne];omega
 go_wp2_with fail;go_loopw [7,8,10,28,78,79,80] (λ_ _ _ v28 _ _ _ wr=> ∃(k:Nat) (R:List bM),v28= .int .i64 k∧k+R.length=l.length∧Fj W th l.length regs k R=true∧dF jI 6 wr nb R eu k∧Below (nb+2) W1 wr) (λ_ _ _ v _ _ _ _=>l.length -(intOf v).toNat)
 case atStart=>exact⟨0,l,rfl,by simp,HI.o,Z7.o,Below.refl _ _⟩
 case round=>
  obtain⟨k,R,rfl,hlen,hi,hrow,hbel⟩:=hrel;have ji:=ah hbel;have an1:=ah ((ji.o.block nb (by have:=kE.o;omega)).trans DV.o);have Xd:=ah ((ji.o.block (nb+1) (by have:=kE.o;omega)).trans uL.o);have wF:aj (Below nb w wr):=ah (HB.o.trans (ji.o.mono (by omega)));have KV:aj (fJ wr nb W s):=ah (TW.o.below (ji.o.mono (by omega)));have yI:aj (nb+2<=wr.heap.size):=ah (by have h1:=ji.o.size;have h2:=kE.o;omega);clear hbel t0 t1;obtain⟨t0,t1⟩:=Cx Xd.o;cases R with
  |nil=>
   obtain rfl:k=l.length:=by simpa using hlen
   go_wp2_with fail;refine(Pp HI.o wr eu dI l1 ((Z7.o.below (ji.o.mono (by omega))).mono (by have:=yI.o;omega))).mono ?_;rintro e w3 ⟨rfl,hb3⟩;go_wp2_with fail;go_ret;exact⟨rfl,by rw[gB.o];exact wF.o.trans (hb3.mono (by have:=yI.o;omega))⟩
  |cons x R=>
   obtain⟨⟨b1,off,rfl,hb1,hcs⟩,hrest⟩:=hrow;simp only[List.length_cons]at hlen;rw[Fj,Bool.and_eq_true,decide_eq_true_eq]at hi;obtain⟨⟨hst,hrg,hop,-⟩,hi⟩:=hi;have hkl:k<l.length:=by omega
   have x0:=hcs 0 _ rfl;have x1:=hcs 1 _ rfl;have x2:=hcs 2 _ rfl;have x3:=hcs 3 _ rfl;have x4:=hcs 4 _ rfl;have x5:=hcs 5 _ rfl;simp only[Nat.add_zero]at x0;have jE:=ah hrest;have Es:=ah hrg;have bW:=ah hop;have dY:=ah hi;have hp:1<=x.op∧x.op<=28:=by rcases hop with(h|h)|⟨h|h,-⟩|⟨h,-⟩|⟨h,-⟩ <;> omega
   clear hcs hrest hrg hi hop;go_upto_region 6 with fail;generalize hW2:World.alloc wr _=w2;obtain⟨ib,hib,MJ,HB2,HXi,-⟩:=Ct hW2;have Tt:aj (Below (nb+2) wr w2):=ah (HB2.o.mono (by have:=yI.o;have:=MJ.o;omega));rw[hib];clear hW2 hib x0 x1 x2 x3 x4 x5 t0 t1;have aQ1:=ah ((Tt.o.block nb (by omega)).trans an1.o);have aQ3:=ah ((Tt.o.block (nb+1) (by omega)).trans Xd.o);have HWi:aj (fJ w2 nb W s):=ah (KV.o.below (Tt.o.mono (by omega)));obtain⟨t0,t1⟩:=Cx aQ3.o;obtain⟨g0,g1,g2,g3,g4,g5⟩:=vR aQ1.o;obtain⟨x0,x1,x2,x3,x4,x5⟩:=vR HXi.o;have hwn:IntKind.i64.wrap ((l.length:Int) -1)=(l.length:Int) -1:=IntWalk.i64_in _ (by omega);have h1: ¬x.op<1:=by omega
   have h2: ¬28<x.op:=by omega
   obtain⟨q,hq1,hq2,hq3,hq4⟩: ∃q,(x.op==28)=q∧((k:Int)==(l.length:Int) -1)=q∧(q=true->x.st= -1)∧(q=false->StE W th x.st):=by
    rcases hst with⟨h28,hk,h5⟩|⟨h28,hk,h5⟩
    ·exact⟨true,by rw[h28];rfl,by rw[beq_iff_eq];exact hk,λ_=>h5,λh=>by cases h⟩
    ·exact⟨false,by rw[beq_eq_false_iff_ne];exact h28,by rw[beq_eq_false_iff_ne];exact hk,λh=>(by cases h),λ_=>h5⟩
   clear hst
   go_upto_if 55 with fail
   clear hq2 h1 h2 hwn hp;go_cut [66] (λ_ W3=>w2=W3)
   case first=>
    cases q
    ·obtain⟨j,y,hj,hjl,hy,hth⟩:=Mh (hq4 rfl);obtain⟨b5,bk7,as0,hb5,as9⟩:=HWi.o.ss.at j y hy;have z0:=as9 0 _ rfl;simp only[hth,Nat.zero_add,Nat.add_zero]at z0;rw[as0]at g5;rw[hj]at x5;have j0:(0:Int)<=(j:Int):=(by omega);have j1:(j:Int)<(W.ss.length:Int):=(by omega);clear as9 hj hy as0 hq3 hq4;go_wp2_with fail;refine(yS j0 j1 w2).mono ?_;rintro e w3 ⟨rfl,rfl⟩;go_wp2_with fail;go_meet;rfl
    ·rw[hq3 rfl]at x5;clear hq3 hq4;go_wp2_with fail;go_meet;rfl
   subst hcut;clear hq1 hq3 hq4 t0 t1 g0 g1 g2 g3 g4 g5;have HR:aj (∀r∈gK x,fD r):=ah (λr hr=>by have:=Es.o r hr;unfold fD;omega);go_wp2_with fail;refine(Li x w2 HR.o).mono ?_;rintro e w3 ⟨Ug,Hz,rfl,hin,hb3,-⟩;have as5:Below (nb+2) w2 w3:=hb3.mono (Nat.le_trans yI.o Tt.o.size);have aO7:=ah hin;have gX:aj (Below (nb+2) wr w3):=ah (Tt.o.trans as5);have aQ2:=ah ((gX.o.block nb (by omega)).trans an1.o);have aQ4:=ah ((gX.o.block (nb+1) (by omega)).trans Xd.o);have aQ9:=ah ((hb3.block ib (Array.getElem?_eq_some_iff.1 HXi.o).1).trans HXi.o);have HSq:aj (nb+2<=w3.heap.size):=ah (Nat.le_trans yI.o gX.o.size);have TD:aj ((gK x).length<=3):=ah (by unfold gK;(repeat' split) <;> simp);clear hin hb3 as5 x0 x1 x2 x3 x4 x5;generalize gK x=rs at *;go_wp2_with fail;obtain⟨wI,Vh⟩: ∃W:World,W=wr:=⟨_,rfl⟩;subst Vh;go_loopw [10,80] (λ_ i wq=> ∃(j:Nat) (S:List Int),i= .int .i64 j∧j+S.length=rs.length∧(∀r∈S,0<=r∧r<regs)∧eH wq wq.heap.size S Ug j∧wq=w3) (λ_ i _=>rs.length -(intOf i).toNat)
   case atStart=>exact⟨0,rs,rfl,by simp,Es.o,aO7.o,rfl⟩
   case round=>
    obtain⟨j,S,rfl,uV,hrs,hin2,rfl⟩:=hrel;have h3:=TD.o;obtain⟨t0,t1⟩:=Cx aQ4.o;cases S with
    |nil=>
     obtain rfl:j=rs.length:=(by simpa using uV);obtain⟨g0,g1,g2,g3,g4,g5⟩:=vR aQ2.o;obtain⟨x0,x1,x2,x3,x4,x5⟩:=vR aQ9.o;go_wp2_with fail;refine(Iw l.length x ((KV.o.below (gX.o.mono (by omega))).mono (by have:=HSq.o;omega)) bW.o).mono ?_;rintro e w4 ⟨rfl,hb4⟩;have dH:aj (Below (nb+2) wI w4):=ah (gX.o.trans (hb4.mono HSq.o));clear hb4 g0 g1 g2 g3 g4 g5 x0 x1 x2 x3 x4 x5 t0 t1;go_wp2_with fail;go_roundw
     case rel=>exact⟨k+1,R,by go_num,by omega,dY.o,jE.o.below (dH.o.mono (by omega)),ji.o.trans dH.o⟩
     case measure=>simp[intOf];omega
    |cons r S=>
     obtain⟨⟨b4,Yt,rfl,hb4,y0⟩,yN⟩:=hin2;simp only[List.length_cons]at uV;have hjl:j<rs.length:=(by omega);have HR4:=ah yN;have X7:=ah (λr h=>hrs r (List.mem_cons_of_mem _ h));obtain⟨q0,q1⟩:=hrs r List.mem_cons_self;clear yN hrs;go_wp2_with fail;refine(yS q0 q1 wr).mono ?_;rintro e w5 ⟨rfl,rfl⟩;go_wp2_with fail;go_roundw
     case rel=>exact⟨j+1,S,by go_num,by omega,X7.o,HR4.o,trivial⟩
     case measure=>simp[intOf];omega
end Go.Proofs.YtkmllehjemjgpaaGreatDoor
