/- What is known of the sanity check's objects and code. No program in sight. And what hangs on it. -/
import Derived.Test.YtmildapbbcbbhaaGreatDoorGRC
import Derived.Test.YtmildapbbcbbhaaGreatDoorGCE
import Derived.Laws.MakeOwn
import Derived.Laws.Append
import Derived.Maps.AppendAt
set_option linter.unusedSimpArgs false
set_option linter.unusedVariables false
set_option maxHeartbeats 40000000
set_option maxRecDepth 1000000
namespace Go.Proofs.YtmildapbbcbbhaaGreatDoor
open Go.RowKit
namespace Md
def JI (op:Int):Bool:=decide (1<=op)&&decide (op<=5)
abbrev LkE (W:Wo) (i:Int):Prop:=0<=i∧W.ls[i.toNat]?.map (·.rw)=some false
abbrev ScE (W:Wo) (i:Int):Prop:=0<=i∧W.cs[i.toNat]?.map (·.sz)=some 0
abbrev AyE (W:Wo) (i:Int):Prop:=0<=i∧W.cs[i.toNat]?.map (λc=>(c.ix,c.sz))=some (0,2)
theorem Ow {α β:Type} {l:List α} {f:α->β} {i:Int} {q:β} (h:0<=i∧l[i.toNat]?.map f=some q): ∃(k:Nat) (x:α),i=k∧k<l.length∧l[k]? =some x∧f x=q:=by
 obtain⟨k,rfl⟩:=Int.eq_ofNat_of_zero_le h.1;obtain⟨x,hx,hq⟩:=Option.map_eq_some_iff.1 h.2;exact⟨k,x,rfl,(List.getElem?_eq_some_iff.1 hx).1,hx,hq⟩
inductive Vz:List Ak->List ByteArray->Prop
 |nil:Vz [] []
 |one {c r v} :c.sz=0->c.ix=0->Vz r v->Vz (c::r) (c.nm::v)
 |two {a i r v} :Vz r v->Vz (⟨a,0,2,false,i⟩::⟨a,1,2,false,i⟩::r) (a::v)
def YG:List (List UInt8)->List ByteArray->Bool
 |_,[]=>true
 |seen,x::r=>(Tk.jv x.toList&& !(seen.contains x.toList))&&YG (seen++[x.toList]) r
def Cy (W:Wo) (v:List ByteArray):List ByteArray:=v++W.ls.map (·.nm)++W.ns.map (·.nm)++W.fs++W.ts
def Yo:Int->List Ef->Bool
 |_,[]=>true
 |k,s::r=>decide (s.th=0∧s.st=k)&&Yo (k+1) r
structure WI (W:Wo) (v:List ByteArray):Prop where
 sm:(W.cs.length<=12∧W.ls.length<=4∧W.ns.length<=2∧W.fs.length<=2∧W.ss.length<=60∧1<=W.ts.length∧W.ts.length<=4)∧v.length<=12∧v≠[]∧W.fs≠[]
 cs:Vz W.cs v
 nm:YG [] (Cy W v)=true
 cn: ∀c∈W.ns,LkE W c.mx
 si:Yo 0 W.ss=true
 kl:(∀c∈W.ls,c.nm.size<=maxLen)∧∀c∈W.ns,c.nm.size<=maxLen
 kv: ∀x∈v,x.size<=maxLen
abbrev OpE (W:Wo) (i:dV):Prop:=(i.op=2∨i.op=28)∨((i.op=11∨i.op=12)∧LkE W i.a)∨(i.op=8∧ScE W i.a)∨(i.op=7∧AyE W i.b∧i.n=2)
abbrev StE (W:Wo) (th i:Int):Prop:=0<=i∧W.ss[i.toNat]?.map (·.th)=some th
abbrev InE (W:Wo) (th n regs k:Int) (i:dV) (r:List dV):Prop:=
 ((i.op=28∧k=n -1∧i.st= -1)∨(i.op≠28∧k≠n -1∧StE W th i.st))∧(∀x∈kR i,0<=x∧x<regs)∧OpE W i∧(i.op=2->(r.map (·.op)).headD 2≠2)
def GV (W:Wo) (th n regs:Int):Int->List dV->Bool
 |_,[]=>true
 |k,i::r=>decide (InE W th n regs k i r)&&GV W th n regs (k+1) r
def thE (W:Wo) (th:Int) (t:yS):Bool:=decide ((0<=t.regs∧t.regs<=32)∧1<=t.is.length∧t.is.length<=100)&&GV W th t.is.length t.regs 0 t.is
def Mt (W:Wo):Int->List yS->Bool
 |_,[]=>true
 |k,t::r=>thE W k t&&Mt W (k+1) r
end Md
open Go.RowKit Md Pz
def Td:aY->Bool
 | .nil=>true
 | .cons h b e r=>decide (Md.jr h<=300000)&&(Td b&&(Td e&&Td r))
theorem Ky: ∀l:aY,Td l=true->l.Ev (λh=>Md.jr h<=300000)
 | .nil,_=>trivial
 | .cons h b e r,hs=>by unfold Td at hs;simp only[aJ,decide_eq_true_eq]at hs;exact⟨hs.1,Ky b hs.2.1,Ky e hs.2.2.1,Ky r hs.2.2.2⟩
def ZM (p:Pr):Bool:=decide (EF p.ts<=100000000000)&&p.ts.all (λt=>Td t.body)
theorem ZN {p:Pr} (h:ZM p=true):Fit p:=by
 unfold ZM at h;simp only[aJ,decide_eq_true_eq,List.all_eq_true]at h;exact⟨h.1,λt ht=>Ky _ (h.2 t ht)⟩
def aS0:Bool:=(jD nk).1==0&&(ZM nk&&((sQ (jU nk) nk.ts 0).map (λt=>t.is.length)== [6,1]&&(nk.ts.length==2&&((jU nk).ts.length==2&&Mt (jU nk) 0 (sQ (jU nk) nk.ts 0)))))
theorem aW8:aS0=true:=by decide+kernel
theorem aS1:(jU nk).cs=[⟨nK 1,0,0,false,2⟩,⟨nK 6,0,2,false,0⟩,⟨nK 6,1,2,false,0⟩]:=by kernel_rfl
theorem aS5:WI (jU nk) [nK 1,nK 6] where
 sm:=by decide+kernel
 cs:=by rw[aS1];exact .one rfl rfl (.two .nil)
 nm:=by kernel_rfl
 cn:=by decide+kernel
 si:=by kernel_rfl
 kl:=by decide+kernel
 kv:=by decide+kernel
theorem af4: ∃t u v,(jD nk).1=0∧Fit nk∧sQ (jU nk) nk.ts 0=[t,u]∧t.is.length=6∧nk.ts.length=2∧(jU nk).ts.length=2∧Mt (jU nk) 0 (sQ (jU nk) nk.ts 0)=true∧WI (jU nk) v:=by
 have h:=aW8;have hv:=aS5;unfold aS0 at h;generalize nK 1=n1,nK 6=n6 at hv;generalize nk=p at h hv⊢;simp only[aJ,beq_iff_eq]at h;obtain⟨h1,h2,h3,h4,h5,h6⟩:=h;generalize hc:sQ (jU p) p.ts 0=c at h3 h6;rcases c with _|⟨t,_|⟨u,_|⟨_,_⟩⟩⟩ <;> simp at h3;exact⟨t,u,_,h1,ZN h2,rfl,h3.1,h4,h5,h6,hv⟩
open Md
theorem Aa {i n:Int} (h0:0<=i) (h1:i<n) (w:World):Calls Tryz.prog 74 #[.int .i64 i,.int .i64 n] w λe w'=>e= .returned (.bool true)∧w=w':=by
 go_enter Tryz.func74,Tryz.ntmps74;go_wp2_with fail;go_ret;exact⟨by simp[h0,h1],rfl⟩
theorem rM (i:Int) (w:World):Calls Tryz.prog 107 #[.int .i64 i] w λe w'=>e= .returned (.bool (JI i))∧w=w':=by
 unfold JI;by_cases h0:1<=i <;> by_cases h1:i<=5
 all_goals go_enter Tryz.func107,Tryz.ntmps107;go_wp2_with fail;go_ret;exact⟨by simp[h0,h1],rfl⟩
section
variable {W:Wo} {s:lV} {i:Int} {w:World}
theorem NH (hw:iO w w.heap.size W s) (h:LkE W i):Calls Tryz.prog 42 #[sS W s,.int .i64 i,.bool false] w λe w'=>e= .returned (.bool true)∧Below w.heap.size w w':=by
 obtain⟨k,x,rfl,hk,hx,hr⟩:=Ow h;have hl:=hw.ll;unfold maxLen at hl;have HW:=ah hw;clear hw h;unfold sS;go_enter Tryz.func42,Tryz.ntmps42;go_upto_region 1 with fail;generalize hW:World.alloc w _=W1;obtain⟨nb,hnb,jE,HB,HX,-⟩:=IL hW;have hc:=aQ (j:=1) HX.o rfl;obtain⟨b,off,hao,hb,hcs⟩:=(show eD _ _ W1 nb W.ls _ 0 by have h:=HW.o.ls;rw[hnb]at h;exact h.below HB.o).at k x hx;simp only[hao,List.getElem_toArray,List.getElem_cons_zero,List.getElem_cons_succ]at hc;rw[hnb];clear hW hnb HW HX hx;have k0:(0:Int)<=(k:Int):=by omega
 have k1:(k:Int)<(W.ls.length:Int):=by omega
 have z1:=hcs 1 _ rfl;simp only[hr,aU,Nat.add_zero]at z1;clear hcs;go_wp2_with fail;refine(Aa k0 k1 W1).mono ?_;rintro e w2 ⟨rfl,rfl⟩;go_wp2_with fail;go_ret;exact⟨rfl,by rw[jE.o];exact HB.o⟩
theorem Rz (hw:iO w w.heap.size W s) (h:ScE W i):Calls Tryz.prog 105 #[sS W s,.int .i64 i] w λe w'=>e= .returned (.bool true)∧Below w.heap.size w w':=by
 obtain⟨k,x,rfl,hk,hx,hr⟩:=Ow h;have hl:=hw.lc;unfold maxLen at hl;have HW:=ah hw;clear hw h;unfold sS;go_enter Tryz.func105,Tryz.ntmps105;go_upto_region 1 with fail;generalize hW:World.alloc w _=W1;obtain⟨nb,hnb,jE,HB,HX,-⟩:=IL hW;have hc:=aQ (j:=0) HX.o rfl;obtain⟨b,off,hao,hb,hcs⟩:=(show eD _ _ W1 nb W.cs _ 0 by have h:=HW.o.cs;rw[hnb]at h;exact h.below HB.o).at k x hx;simp only[hao,List.getElem_toArray,List.getElem_cons_zero,List.getElem_cons_succ]at hc;rw[hnb];clear hW hnb HW HX hx;have k0:(0:Int)<=(k:Int):=by omega
 have k1:(k:Int)<(W.cs.length:Int):=by omega
 have z2:=hcs 2 _ rfl;simp only[hr,aU,Nat.add_zero]at z2;clear hcs;go_wp2_with fail;refine(Aa k0 k1 W1).mono ?_;rintro e w2 ⟨rfl,rfl⟩;go_wp2_with fail;go_ret;exact⟨rfl,by rw[jE.o];exact HB.o⟩
theorem Vi (hw:iO w w.heap.size W s) (h:AyE W i):Calls Tryz.prog 106 #[sS W s,.int .i64 i,.int .i64 2] w λe w'=>e= .returned (.bool true)∧Below w.heap.size w w':=by
 obtain⟨k,x,rfl,hk,hx,hr⟩:=Ow h;injection hr with h1 h2;have hl:=hw.lc;unfold maxLen at hl;have HW:=ah hw;clear hw h;unfold sS;go_enter Tryz.func106,Tryz.ntmps106;go_upto_region 1 with fail;generalize hW:World.alloc w _=W1;obtain⟨nb,hnb,jE,HB,HX,-⟩:=IL hW;have hc:=aQ (j:=0) HX.o rfl;obtain⟨b,off,hao,hb,hcs⟩:=(show eD _ _ W1 nb W.cs _ 0 by have h:=HW.o.cs;rw[hnb]at h;exact h.below HB.o).at k x hx;simp only[hao,List.getElem_toArray,List.getElem_cons_zero,List.getElem_cons_succ]at hc;rw[hnb];clear hW hnb HW HX hx;have k0:(0:Int)<=(k:Int):=by omega
 have k1:(k:Int)<(W.cs.length:Int):=by omega
 have z1:=hcs 1 _ rfl;have z2:=hcs 2 _ rfl;simp only[h1,h2,aU,Nat.add_zero]at z1 z2;clear hcs;go_wp2_with fail;refine(Aa k0 k1 W1).mono ?_;rintro e w2 ⟨rfl,rfl⟩;go_wp2_with fail;go_ret;exact⟨rfl,by rw[jE.o];exact HB.o⟩
theorem JO (n:Int) (x:dV) (hw:iO w w.heap.size W s) (h:OpE W x):
 Calls Tryz.prog 75 #[sS W s,.int .i64 n,TG x] w λe w'=>e= .returned (.bool true)∧Below w.heap.size w w':=by
 obtain⟨op,a,b,c,m,st⟩:=x;have HW:=ah hw;clear hw;unfold sS TG;go_enter Tryz.func75,Tryz.ntmps75;go_upto_region 1 with fail;generalize hW:World.alloc (World.alloc w _) _=W1;obtain⟨nb,hnb,jE,HB,Ea,sO,HS⟩:=al2 hW;rw[hnb]at HW;have Wy:aj (iO W1 W1.heap.size W s):=ah (by have h:=HB.o;rw[<- hnb]at h HW;exact HW.o.same h);rw[hnb];clear hW hnb HW;obtain⟨c0,c1,c2,c3,c4,c5⟩:=rE Ea.o;obtain⟨x0,x1,x2,x3,x4,x5⟩:=rE sO.o;clear Ea sO
 try dsimp only at h
 rcases h with(rfl|rfl)|⟨rfl|rfl,h⟩|⟨rfl,h⟩|⟨rfl,h,rfl⟩
 all_goals
  go_wp2_with fail
  first
   |(go_ret;exact⟨rfl,by rw[jE.o];exact HB.o⟩)
   |(refine Calls.mono (by first|exact NH Wy.o h|exact Rz Wy.o h|exact Vi Wy.o h) ?_;rintro e w2 ⟨rfl,hb⟩;go_wp2_with fail;go_ret;exact⟨rfl,by rw[jE.o];exact HB.o.trans (hb.mono (by have:=HS.o;omega))⟩)
end
theorem Gy (b off cap n k:Nat) (op:Int) (w:World) (hk:k<n) (hn:n<=100) (z0:w.cell? ⟨b,off+k*6,none⟩=some (.int .i64 op)) (h5:(op==5)=false):
 Calls Tryz.prog 108 #[.slice (some ⟨b,off,none⟩) n cap,.int .i64 k] w λe w'=>e= .returned (.int .i64 ((k+1:Nat):Int))∧w=w':=by
 have k0:(0:Int)<=(k:Int):=by omega
 have k1:(k:Int)<(n:Int):=by omega
 have hwr:IntKind.i64.wrap ((k:Int)+1)=(k:Int)+1:=IntWalk.i64_in _ (by omega);go_enter Tryz.func108,Tryz.ntmps108;go_wp2_with fail;go_ret;exact⟨by first|rfl|simp[hwr],rfl⟩
def sZ (w:World) (g:Nat) (G:List Bool):Prop:=w.heap[g]? =some (.cells (G.map Value.bool).toArray 4 (0,0))
theorem sZ.cell {w:World} {g c:Nat} {G:List Bool} {q:Bool} (h:sZ w g G) (hc:G[c]? =some q):w.cell? ⟨g,c,none⟩=some (.bool q):=aQ h (by simp[hc])
theorem sZ.set {w:World} {g:Nat} {G:List Bool} (h:sZ w g G) (c:Nat) (q:Bool):sZ (w.setCell ⟨g,c,none⟩ (.bool q)) g (G.set c q):=rP h _ (by simp[List.map_set])
theorem sZ.far {w:World} {g g':Nat} {G:List Bool} (h:sZ w g G) (hne:g'≠g) (c:Nat) (v:Value):sZ (w.setCell ⟨g',c,none⟩ v) g G:=(bf _ _ _ rfl hne).trans h
theorem aU9:(Tryz.prog.info? 4).map (λi=>(i.zero,i.size,i.bytes))=some (some (.bool false),1,1):=by kernel_rfl
theorem Vn (n:Nat):madeCells (Value.bool false).cells (n*1)=((List.replicate n false).map Value.bool).toArray:=by
 rw[Nat.mul_one];apply Array.ext
 ·simp[madeCells]
 ·intro i h1 h2;simp[madeCells,Value.cells,Nat.mod_one]
theorem ab8 (n:Nat) (hn:n<=100) (w:World):
 (Instr.makeSlice 169 (.int .i64 (n:Int)) (.int .i64 (n:Int))).run Tryz.prog w= .ok (.slice (some ⟨w.heap.size,0,none⟩) n n) (w.alloc (.cells ((List.replicate n false).map Value.bool).toArray 4)):=by
 obtain⟨i0,hi0,hz0,hz1,hz2⟩:=Bh aU9;have hr:=run_make (P:=Tryz.prog) w 169 4 i0 (.bool false) Tryz.underlying169 hi0 hz0 .i64 .i64 n n (by omega) (by omega) (by rw[hz2];omega) (by omega);simp only[Int.toNat_natCast]at hr;rw[hz1,Vn]at hr;exact hr
theorem Yb {W:Wo} {x:dV} (h:OpE W x) (h2:x.op≠2):JI x.op=false:=by
 unfold JI;simp only[Bool.and_eq_false_iff,decide_eq_false_iff_not];rcases h with(h|h)|⟨h|h,-⟩|⟨h,-⟩|⟨h,-⟩ <;> omega
def Off (n k:Nat) (G:List Bool):Prop:= ∀j,k<=j->j<n->G[j]? =some false
theorem Off.set {n k:Nat} {G:List Bool} (h:Off n k G):Off n (k+1) (G.set k true):=λj h1 h2=>by
 rw[List.getElem?_set_ne (by omega)];exact h j (by omega) h2
theorem Rn {W:Wo} {th n regs:Int} {l:List dV} (h:GV W th n regs 0 l=true) (w:World) (ao:Option Addr) (cap:Nat) (hl:l.length<=100) (hw:eD nZ 6 w w.heap.size l ao 0):
 Calls Tryz.prog 76 #[.slice ao l.length cap] w λe w'=>e= .returned (.bool true)∧Below w.heap.size w w':=by
 have HO:=ah h;have HW:=ah hw;have hmk:=ab8 l.length hl;clear h hw;go_enter Tryz.func76,Tryz.ntmps76;go_wp2_with fail;generalize hW:World.alloc (World.alloc w _) _=w2;obtain⟨gb,hgb,DY,HB,HG,HS,-⟩:=al2 hW;have hrp:((List.replicate l.length false).map Value.bool).toArray=Array.replicate l.length (Value.bool false):=by simp
 have hG:sZ w2 gb (List.replicate l.length false):=by unfold sZ;rw[hrp];exact HG.o
 have hS:sZ w2 (gb+1) (List.replicate l.length false):=by unfold sZ;rw[hrp];exact HS.o
 have HF:aj (eD nZ 6 w2 gb l ao 0):=ah (by have:=HW.o;rw[hgb]at this;exact this.below HB.o);rw[hgb];clear hW hmk HW hgb hrp;go_loopw [5,6,15] (λ_ _ v15 wr=> ∃(k:Nat) (R:List dV) (G S:List Bool),v15= .int .i64 k∧k+R.length=l.length∧sZ wr gb G∧sZ wr (gb+1) S∧Off l.length k G∧Off l.length k S∧GV W th n regs k R=true∧eD nZ 6 wr gb R ao k∧Below gb w wr) (λ_ _ i _=>l.length -(intOf i).toNat)
 case atStart=>exact⟨0,l,_,_,rfl,by simp,hG,hS,λj _ h=>by simp[List.getElem?_replicate,h],λj _ h=>by simp[List.getElem?_replicate,h],HO.o,HF.o,HB.o⟩
 case round=>
  obtain⟨k,R,G,S,rfl,hlen,hg,hs,og,os,hi,hf,hb⟩:=hrel;have tF:=ah hg;have HSR:=ah hs;have HOG:=ah og;have HOS:=ah os;have HB1:=ah hb;clear hg hs og os hb HG HS HF HB HO hG hS;cases R with
  |nil=>
   obtain rfl:k=l.length:=by simpa using hlen
   go_wp2_with fail;go_ret;exact⟨rfl,by rw[DY.o];exact HB1.o⟩
  |cons x R=>
   obtain⟨⟨b,off,rfl,hb1,hcs⟩,hf⟩:=hf;rw[GV,aJ,decide_eq_true_eq]at hi;obtain⟨⟨-,-,hop,hnx⟩,hi⟩:=hi;simp only[aA]at hlen;have z0:wr.cell? ⟨b,off+k*6,none⟩=some (.int .i64 x.op):=hcs 0 _ rfl;have k0:(0:Int)<=(k:Int):=by omega
   have k1:(k:Int)<(l.length:Int):=by omega
   have HFR:=ah hf;have HI:=ah hi;by_cases h2:x.op=2
   ·cases R with
    |nil=>exact absurd rfl (hnx h2)
    |cons y R=>
     obtain⟨⟨b',off',e,-,hcy⟩,-⟩:=hf;injection e with e;injection e with e1 e2;subst e1 e2;rw[GV,aJ,decide_eq_true_eq]at hi;have hsy:JI y.op=false:=Yb hi.1.2.2.1 (hnx h2);simp only[aA]at hlen;have y0:wr.cell? ⟨b,off+(k+1)*6,none⟩=some (.int .i64 y.op):=hcy 0 _ rfl;have k2:(0:Int)<=((k+1:Nat):Int):=(by omega);have k3:((k+1:Nat):Int)<(l.length:Int):=(by omega);have hsx:JI x.op=true:=(by rw[h2];rfl);have h5:(x.op==5)=false:=(by rw[h2];rfl);have q0:=tF.o.cell (HOG.o k (aB _) (by omega));have q1:=HSR.o.cell (HOS.o k (aB _) (by omega));have f0:wr.frozen? ⟨gb,k,none⟩=false:=bH tF.o;have f1:wr.frozen? ⟨gb+1,k,none⟩=false:=bH HSR.o;have HZ:=ah (aI hb1 (aI z0 y0));clear hop hnx hi hcs hcy h2;go_upto_region 7 with fail;refine wp_loop_rounds 2 ?_;rw[rounds_succ];go_wp2_with fail;refine(rM x.op wr).mono ?_;rintro e w3 ⟨rfl,rfl⟩;rw[hsx];go_upto_region 11 with fail;generalize hW:World.setCell wr _ _=w4;have HBs:aj (Below gb wr w4):=ah (by rw[<- hW];exact cZ (bY _ _ _) (gY _) (cB (aO tF.o)));have ML:aj (sZ w4 gb G):=ah (by rw[<- hW];exact tF.o.far (Nat.succ_ne_self _) _ _);have CW:aj (sZ w4 (gb+1) (S.set k true)):=ah (by rw[<- hW];exact HSR.o.set k true);have z1:=(HBs.o.cell (p:=⟨b,_,none⟩) hb1).trans z0;have y1:=(HBs.o.cell (p:=⟨b,_,none⟩) hb1).trans y0;have q2:=ML.o.cell (HOG.o k (aB _) (by omega));have f2:w4.frozen? ⟨gb,k,none⟩=false:=bH ML.o;clear hW z0 y0 q0 q1 f0 f1;go_wp2_with fail;refine(Gy b off cap l.length k x.op w4 (by omega) hl z1 h5).mono ?_;rintro e w5 ⟨rfl,rfl⟩;go_wp2_with fail;rw[rounds_succ];go_wp2_with fail;refine(rM y.op w4).mono ?_;rintro e w5 ⟨rfl,rfl⟩;rw[hsy];go_upto_region 13 with fail;refine wp_loop_rounds 2 ?_;rw[rounds_succ];go_wp2_with fail;refine(rM x.op w4).mono ?_;rintro e w5 ⟨rfl,rfl⟩;rw[hsx];go_upto_region 14 with fail;generalize hW:World.setCell w4 _ _=w6;have HBt:aj (Below gb w4 w6):=ah (by rw[<- hW];exact cZ (bY _ _ _) (aB _) (cB (aO ML.o)));have JZ:aj (sZ w6 gb (G.set k true)):=ah (by rw[<- hW];exact ML.o.set k true);have yO:aj (sZ w6 (gb+1) (S.set k true)):=ah (by rw[<- hW];exact CW.o.far (λe=>Nat.succ_ne_self _ e.symm) _ _);have z2:=(HBt.o.cell (p:=⟨b,_,none⟩) hb1).trans z1;have y2:=(HBt.o.cell (p:=⟨b,_,none⟩) hb1).trans y1;clear hW z1 y1 q2 f2;go_wp2_with fail;refine(Gy b off cap l.length k x.op w6 (by omega) hl z2 h5).mono ?_;rintro e w5 ⟨rfl,rfl⟩;go_wp2_with fail;rw[rounds_succ];go_wp2_with fail;refine(rM y.op w6).mono ?_;rintro e w5 ⟨rfl,rfl⟩;rw[hsy];go_wp2_with fail;go_roundw
     case rel=>exact⟨k+1,y::R,_,_,by go_num,by simp;omega,JZ.o,yO.o,HOG.o.set,HOS.o.set,HI.o,HFR.o.below (HBs.o.trans HBt.o),HB1.o.trans (HBs.o.trans HBt.o)⟩
     case measure=>simp[intOf];omega
   ·have hsx:JI x.op=false:=Yb hop h2;clear hop hnx hi hf hcs;go_upto_region 7 with fail;refine wp_loop_rounds 1 ?_;rw[rounds_succ];go_wp2_with fail;refine(rM x.op wr).mono ?_;rintro e w3 ⟨rfl,rfl⟩;rw[hsx];go_upto_region 13 with fail;refine wp_loop_rounds 1 ?_;rw[rounds_succ];go_wp2_with fail;refine(rM x.op wr).mono ?_;rintro e w3 ⟨rfl,rfl⟩;rw[hsx];go_wp2_with fail;go_roundw
    case rel=>exact⟨k+1,R,G,S,by go_num,by omega,tF.o,HSR.o,λj h1=>HOG.o j (by omega),λj h1=>HOS.o j (by omega),HI.o,HFR.o,HB1.o⟩
    case measure=>simp[intOf];omega
theorem Mx {W:Wo} {s:lV} {th:Int} {t:yS} {fQ:Option Addr} {eU:Nat} {w:World} (hw:iO w w.heap.size W s) (hf:eD nZ 6 w w.heap.size t.is fQ 0) (h:thE W th t=true):
 Calls Tryz.prog 39 #[sS W s,.int .i64 th,.agg #[.int .i64 t.regs,.slice fQ t.is.length eU]] w λe w'=>e= .returned (.bool true)∧Below w.heap.size w w':=by
 obtain⟨regs,l⟩:=t;unfold thE at h;simp only[aJ,decide_eq_true_eq]at h;obtain⟨⟨⟨r0,r1⟩,l0,l1⟩,hins⟩:=h;have HW:=ah hw;have HF0:aj (eD nZ 6 w w.heap.size l fQ 0):=ah hf;have HI:=ah hins;have hls:=hw.lS;unfold maxLen at hls;clear hw hf hins;dsimp only;unfold sS;go_enter Tryz.func39,Tryz.ntmps39;go_upto_region 1 with fail;generalize hW:World.alloc (World.alloc w _) _=W1;obtain⟨nb,hnb,jE,HB,Ea,sO,mE⟩:=al2 hW;have Wy:aj (iO W1 nb W s):=ah (by have:=HW.o;rw[hnb]at this;exact this.below HB.o);have HFF:aj (eD nZ 6 W1 nb l fQ 0):=ah (by have:=HF0.o;rw[hnb]at this;exact this.below HB.o);rw[hnb];clear hW hnb HW HF0;obtain⟨t0,t1⟩:=pK sO.o;have hA1: ¬regs<0:=by omega
 have hA2: ¬32<regs:=by omega
 have hA4:((l.length:Int)==0)=false:=by rw[beq_eq_false_iff_ne];omega
 go_wp2_with fail;go_loopw [7,8,10,28,78,79,80] (λ_ _ _ v28 _ _ _ wr=> ∃(k:Nat) (R:List dV),v28= .int .i64 k∧k+R.length=l.length∧GV W th l.length regs k R=true∧eD nZ 6 wr nb R fQ k∧Below (nb+2) W1 wr) (λ_ _ _ v _ _ _ _=>l.length -(intOf v).toNat)
 case atStart=>exact⟨0,l,rfl,by simp,HI.o,HFF.o,ak _ _⟩
 case round=>
  obtain⟨k,R,rfl,hlen,hi,hrow,hbel⟩:=hrel;have mq:=ah hbel;have aD2:=ah ((mq.o.block nb (by have:=mE.o;omega)).trans Ea.o);have Zf:=ah ((mq.o.block (nb+1) (by have:=mE.o;omega)).trans sO.o);have Fq:aj (Below nb w wr):=ah (HB.o.trans (mq.o.mono (by omega)));have HWr:aj (iO wr nb W s):=ah (Wy.o.below (mq.o.mono (by omega)));have zK:aj (nb+2<=wr.heap.size):=ah (by have h1:=mq.o.size;have h2:=mE.o;omega);clear hbel t0 t1;obtain⟨t0,t1⟩:=pK Zf.o;cases R with
  |nil=>
   obtain rfl:k=l.length:=by simpa using hlen
   go_wp2_with fail;refine(Rn HI.o wr fQ eU l1 ((HFF.o.below (mq.o.mono (by omega))).mono (by have:=zK.o;omega))).mono ?_;rintro e w3 ⟨rfl,hb3⟩;go_wp2_with fail;go_ret;exact⟨rfl,by rw[jE.o];exact Fq.o.trans (hb3.mono (by have:=zK.o;omega))⟩
  |cons x R=>
   obtain⟨⟨b1,off,rfl,hb1,hcs⟩,hrest⟩:=hrow;simp only[aA]at hlen;rw[GV,aJ,decide_eq_true_eq]at hi;obtain⟨⟨hst,hrg,hop,-⟩,hi⟩:=hi;have hkl:k<l.length:=by omega
   have x0:=hcs 0 _ rfl;have x1:=hcs 1 _ rfl;have x2:=hcs 2 _ rfl;have x3:=hcs 3 _ rfl;have x4:=hcs 4 _ rfl;have x5:=hcs 5 _ rfl;simp only[Nat.add_zero]at x0;have mQ:=ah hrest;have Sk:=ah hrg;have iI:=ah hop;have iq:=ah hi;have hp:1<=x.op∧x.op<=28:=by rcases hop with(h|h)|⟨h|h,-⟩|⟨h,-⟩|⟨h,-⟩ <;> omega
   clear hcs hrest hrg hi hop;go_upto_region 6 with fail;generalize hW2:World.alloc wr _=w2;obtain⟨ib,hib,OW,HB2,HXi,-⟩:=IL hW2;have VX:aj (Below (nb+2) wr w2):=ah (HB2.o.mono (by have:=zK.o;have:=OW.o;omega));rw[hib];clear hW2 hib x0 x1 x2 x3 x4 x5 t0 t1;have bo0:=ah ((VX.o.block nb (by omega)).trans aD2.o);have bo2:=ah ((VX.o.block (nb+1) (by omega)).trans Zf.o);have HWi:aj (iO w2 nb W s):=ah (HWr.o.below (VX.o.mono (by omega)));obtain⟨t0,t1⟩:=pK bo2.o;obtain⟨g0,g1,g2,g3,g4,g5⟩:=rE bo0.o;obtain⟨x0,x1,x2,x3,x4,x5⟩:=rE HXi.o;have hwn:IntKind.i64.wrap ((l.length:Int) -1)=(l.length:Int) -1:=IntWalk.i64_in _ (by omega);have h1: ¬x.op<1:=by omega
   have h2: ¬28<x.op:=by omega
   obtain⟨q,hq1,hq2,hq3,hq4⟩: ∃q,(x.op==28)=q∧((k:Int)==(l.length:Int) -1)=q∧(q=true->x.st= -1)∧(q=false->StE W th x.st):=by
    rcases hst with⟨h28,hk,h5⟩|⟨h28,hk,h5⟩
    ·exact⟨true,by rw[h28];rfl,by rw[beq_iff_eq];exact hk,λ_=>h5,λh=>by cases h⟩
    ·exact⟨false,by rw[beq_eq_false_iff_ne];exact h28,by rw[beq_eq_false_iff_ne];exact hk,λh=>(by cases h),λ_=>h5⟩
   clear hst
   go_upto_if 55 with fail
   clear hq2 h1 h2 hwn hp;go_cut [66] (λ_ W3=>w2=W3)
   case first=>
    cases q
    ·obtain⟨j,y,hj,hjl,hy,hth⟩:=Ow (hq4 rfl);obtain⟨b5,bN1,aI1,hb5,aJ3⟩:=HWi.o.ss.at j y hy;have z0:=aJ3 0 _ rfl;simp only[hth,aU,Nat.add_zero]at z0;rw[aI1]at g5;rw[hj]at x5;have j0:(0:Int)<=(j:Int):=(by omega);have j1:(j:Int)<(W.ss.length:Int):=(by omega);clear aJ3 hj hy aI1 hq3 hq4;go_wp2_with fail;refine(Aa j0 j1 w2).mono ?_;rintro e w3 ⟨rfl,rfl⟩;go_wp2_with fail;go_meet;rfl
    ·rw[hq3 rfl]at x5;clear hq3 hq4;go_wp2_with fail;go_meet;rfl
   subst hcut;clear hq1 hq3 hq4 t0 t1 g0 g1 g2 g3 g4 g5;have HR:aj (∀r∈kR x,bW r):=ah (λr hr=>by have:=Sk.o r hr;unfold bW;omega);go_wp2_with fail;refine(Np x w2 HR.o).mono ?_;rintro e w3 ⟨ao3,LY,rfl,hin,hb3,-⟩;have aI8:Below (nb+2) w2 w3:=hb3.mono (aP zK.o VX.o.size);have bl3:=ah hin;have jH:aj (Below (nb+2) wr w3):=ah (VX.o.trans aI8);have bo1:=ah ((jH.o.block nb (by omega)).trans aD2.o);have bo3:=ah ((jH.o.block (nb+1) (by omega)).trans Zf.o);have bo8:=ah ((hb3.block ib (aO HXi.o)).trans HXi.o);have HSq:aj (nb+2<=w3.heap.size):=ah (aP zK.o jH.o.size);have HL3:aj ((kR x).length<=3):=ah (by unfold kR;(repeat' split) <;> simp);clear hin hb3 aI8 x0 x1 x2 x3 x4 x5;generalize kR x=rs at *;go_wp2_with fail;obtain⟨wI,hwI⟩: ∃W:World,W=wr:=⟨_,rfl⟩;subst hwI;go_loopw [10,80] (λ_ i wq=> ∃(j:Nat) (S:List Int),i= .int .i64 j∧j+S.length=rs.length∧(∀r∈S,0<=r∧r<regs)∧gV wq wq.heap.size S ao3 j∧wq=w3) (λ_ i _=>rs.length -(intOf i).toNat)
   case atStart=>exact⟨0,rs,rfl,by simp,Sk.o,bl3.o,rfl⟩
   case round=>
    obtain⟨j,S,rfl,EY,hrs,hin2,rfl⟩:=hrel;have h3:=HL3.o;obtain⟨t0,t1⟩:=pK bo3.o;cases S with
    |nil=>
     obtain rfl:j=rs.length:=(by simpa using EY);obtain⟨g0,g1,g2,g3,g4,g5⟩:=rE bo1.o;obtain⟨x0,x1,x2,x3,x4,x5⟩:=rE bo8.o;go_wp2_with fail;refine(JO l.length x ((HWr.o.below (jH.o.mono (by omega))).mono (by have:=HSq.o;omega)) iI.o).mono ?_;rintro e w4 ⟨rfl,hb4⟩;have eF:aj (Below (nb+2) wI w4):=ah (jH.o.trans (hb4.mono HSq.o));clear hb4 g0 g1 g2 g3 g4 g5 x0 x1 x2 x3 x4 x5 t0 t1;go_wp2_with fail;go_roundw
     case rel=>exact⟨k+1,R,by go_num,by omega,iq.o,mQ.o.below (eF.o.mono (by omega)),mq.o.trans eF.o⟩
     case measure=>simp[intOf];omega
    |cons r S=>
     obtain⟨⟨b4,bv4,rfl,hb4,y0⟩,GU⟩:=hin2;simp only[aA]at EY;have hjl:j<rs.length:=(by omega);have HR4:=ah GU;have bn3:=ah (λr h=>hrs r (aX _ h));obtain⟨q0,q1⟩:=hrs r aV;clear GU hrs;go_wp2_with fail;refine(Aa q0 q1 wr).mono ?_;rintro e w5 ⟨rfl,rfl⟩;go_wp2_with fail;go_roundw
     case rel=>exact⟨j+1,S,by go_num,by omega,bn3.o,HR4.o,trivial⟩
     case measure=>simp[intOf];omega
theorem jZ.far {B b:Nat} {w w':World} {v:Value} {l:List ByteArray} (h:jZ B w v l) (hg:w.grownBy w' (some b)) (hne:v.ownBlock≠some b):jZ B w' v l:=
 ⟨h.own.kept hg (.inr hne),λ_ _ _ _=>trivial⟩
theorem TH:(Tryz.prog.info? 9).map (λi=>(i.zero,i.size,i.bytes))=some (some (.string ⟨#[]⟩),1,16):=by kernel_rfl
theorem ar5 (a:ByteArray) (i z n:Int) (v:Bool) (w:World):
 (binOp .neq 104 (.agg #[.string a,.int .i64 i,.int .i64 z,.bool v,.int .i64 n]) (.agg #[.string a,.int .i64 i,.int .i64 z,.bool v,.int .i64 n])).run Tryz.prog w= .ok (.bool false) w:=by
 simp[go_sem]
theorem aT4 {P:Program} {o:Oper} {a:Act} {w:World} {K:Act->World->Prop} {Q:Exit->Act->World->Prop} (s x:Operand) (T ty:TypeId) (ho:o.op= .binOp .neq T s x ty)
 (A B:Value) (r:Bool) (hs:a.eval s=A) (hx:a.eval x=B) (hg:(eqGuard .neq T s x A B).run P w= .ok () w) (hr:(binOp .neq T A B).run P w= .ok (.bool r) w) (h:K (a.put o.dst (.bool r)) w):o.wp P a w K Q:=by
 unfold Oper.wp execOp;simp only[ho,Sem.run_bind,Sem.run_pure,Result.andThen_ok,hs,hx,hg,hr];exact h
theorem Va (s x:Operand) (xs ys:Array Value) (w:World):(eqGuard .neq 104 s x (.agg xs) (.agg ys)).run Tryz.prog w= .ok () w:=run_eqGuard_agg (w:=w) .neq 104 s x xs ys Tryz.eqGuardType104
def VcP (v:List ByteArray) (w:World) (e:Ending) (w':World):Prop:=(∃ao cap,e= .returned (.tuple #[.slice ao v.length cap,.bool true])∧fJ w' w'.heap.size v ao 0∧v.length<=cap)∧Below w.heap.size w w'
theorem Oc (l:List Ak) (v:List ByteArray) (hv:Vz l v) (w:World) (ao:Option Addr) (cap:Nat) (hl:l.length<=12) (hw:eD oD 5 w w.heap.size l ao 0) (hn: ∀x∈v,x.size<=maxLen):
 Calls Tryz.prog 40 #[.slice ao l.length cap] w (VcP v w):=by
 have HW:=ah hw;have HN:=ah hn;have HV:=ah hv;obtain⟨B,hB⟩: ∃n,w.heap.size=n:=⟨_,rfl⟩;have iw:=ah hB;rw[hB]at HW;clear hw hn hv hB;go_enter Tryz.func40,Tryz.ntmps40;go_wp2_with fail;go_loopw [4,5,6,7,51,52] (λv4 v5 _ _ _ _ wr=> ∃(k:Nat) (R:List Ak) (acc u:List ByteArray),v5= .int .i64 k∧k+R.length=l.length∧Vz R u∧acc++u=v∧jZ B wr v4 acc∧eD oD 5 wr B R ao k∧Below B w wr∧acc.length<=k) (λ_ v _ _ _ _ _=>l.length -(intOf v).toNat)
 case atStart=>exact⟨0,l,[],v,rfl,by simp,HV.o,rfl,Grow.nil _ _ _ _ _ _,HW.o,ak _ _,aB _⟩
 case round=>
  obtain⟨k,R,acc,u,rfl,hlen,XA,zU,hg,hrow,hbel,hac⟩:=hrel;have HG:=ah hg;have HB:=ah hbel;have vo:aj (B<=wr.heap.size):=ah (by have h1:=hbel.size;have h2:=iw.o;omega);have CO:=ah zU;clear hg hbel zU HV;by_cases hR:R=[]
  ·subst hR;obtain rfl:k=l.length:=by simpa using hlen
   cases XA;have zU:=CO.o;rw[List.append_nil]at zU;subst zU;obtain⟨IQ,cap2,rfl,hc2,hst⟩:=jZ.says HG.o HN.o;have HST:=ah hst.now;have MH:=ah hc2;clear hst hc2;go_wp2_with fail
   go_ret2
   exact⟨⟨IQ,cap2,rfl,HST.o,MH.o⟩,by rw[iw.o];exact HB.o⟩
  ·obtain⟨c,R1,rfl⟩: ∃c R1,R=c::R1:=by
    cases R with
    |nil=>exact absurd rfl hR
    |cons c R1=>exact⟨c,R1,rfl⟩
   obtain⟨y,u,rfl⟩: ∃y u1,u=y::u1:=by cases XA <;> exact⟨_,_,rfl⟩
   have hy:c.nm=y:=by cases XA <;> rfl
   have HY:=ah hy;have HVZ:=ah XA;have Zb:=ah hrow;obtain⟨⟨b,off,rfl,hb1,hcs⟩,hrest⟩:=hrow;simp only[aA]at hlen;have hkl:k<l.length:=by omega
   have x0:=hcs 0 _ rfl;have x1:=hcs 1 _ rfl;have x2:=hcs 2 _ rfl;have x3:=hcs 3 _ rfl;have x4:=hcs 4 _ rfl;simp only[Nat.add_zero]at x0;clear hcs hrest hy XA hR;go_upto_region 5 with fail;generalize hW2:World.alloc wr _=w2;obtain⟨cb,hcb,OG,HB2,Aw,-⟩:=IL hW2;have HG2:=ah (HG.o.next (bL (by rw[hcb];exact HB2.o)));rw[hcb];clear hW2 hcb x0 x1 x2 x3 x4;have y0:=aQ (j:=0) Aw.o rfl;simp only[List.getElem_toArray,List.getElem_cons_zero,List.getElem_cons_succ]at y0;obtain⟨av,cv,hv⟩:=HG2.o.len;subst hv;have nP:=ah (HG2.o.next (bL (au w2 (.cells (rQ c.nm).toArray 9))));have jS:=ah (iM (heap_alloc_new w2 (.cells (rQ c.nm).toArray 9)));obtain⟨i0,hi,hz0,hz1,hz2⟩:=Bh TH;have HW2:aj (cb<w2.heap.size):=ah (aO Aw.o);have Ao:aj (B<=cb):=ah (by have:=vo.o;have:=OG.o;omega);have hbs:B<=w2.heap.size+1:=by have h1:=HW2.o;have h2:=Ao.o;omega
   have aL0:acc.length+1<=maxLen:=by unfold maxLen;omega
   have Qq:(acc.length+1)*16<=140737488355328:=by omega
   go_wp2_with (at_builtin;refine wpList_append_lies _ rfl _ _ 31 rfl B 9 i0 _ 1 16 Tryz.underlying31 hi hz0 hz1 hz2 rfl (by decide) _ _ _ rfl nP.o.own ⟨w2.heap.size,0,none⟩ 1 1 (rQ c.nm) rfl rfl jS.o (by simp[rQ,Value.oneCell']) (by decide) aL0 Qq (by simpa using hbs) _ rfl ?_);clear hi hz0 hz1 hz2 y0;intro g LY w3 hown hgr hmv hlt3;have Ar:aj (jZ B w3 (.slice (some ⟨g,0,none⟩) (acc.length+1) LY) (acc++[y])):=ah (by rw[<- HY.o];exact nP.o.push (x:=c.nm) (λ_ _=>trivial) rfl hown hgr (by simpa using hmv));have OB:aj (∀q,(Value.slice av acc.length cv).ownBlock=some q->B<=q∧q<cb):=ah (λq hq=>by have:=HG.o.lt q hq;rw[OG.o]at this;exact this);have ay3:aj (Below B wr w3):=ah (((HB2.o.mono Ao.o).trans ((au w2 _).mono (by have h1:=HW2.o;have h2:=Ao.o;omega))).trans ⟨hgr.os,hgr.tape,hgr.output,hgr.size,λq hq=>hgr.block q (by simp;have h1:=HW2.o;have h2:=Ao.o;omega) (λe=>by have:=(OB.o q e.symm).1;omega)⟩);have HB3:=ah (HB.o.trans ay3.o);have Zg:=ah ((hgr.block cb (by simp;have:=HW2.o;omega) (λe=>by have:=(OB.o cb e.symm).2;omega)).trans ((heap_alloc_old _ _ HW2.o).trans Aw.o));have HGN:aj (g≠cb):=ah (by
    rcases hmv with h|h
    ·have:=(OB.o g h).2;omega
    ·have:=HW2.o;omega)
   have hw1:IntKind.i64.wrap ((k:Int)+1)=(k:Int)+1:=IntWalk.i64_in _ (by omega);have HAY:aj ((acc++[y])++u=v):=ah (by rw[List.append_assoc];exact CO.o);clear hown hgr hmv hlt3 hbs aL0 Qq jS nP HG2 Aw HG OB;have HR3:=ah (Zb.o.below ay3.o);cases HVZ.o with
   |one hsz hix hvr=>
    obtain⟨z0,z1,z2,z3,z4⟩:=cl5 Zg.o;rw[hsz]at z2;rw[hix]at z1;go_wp2_with fail;go_roundw
    case rel=>exact⟨k+1,R1,acc++[c.nm],u,by go_num,by omega,hvr,HAY.o,Ar.o,HR3.o.2,HB3.o,by simp;omega⟩
    case measure=>simp[intOf];omega
   | @two _ i r _ hvr=>
     obtain⟨z0,z1,z2,z3,z4⟩:=cl5 Zg.o;dsimp only at *;simp only[aA]at hlen;have hwl:IntKind.i64.wrap ((l.length:Int) -(k:Int))=(l.length:Int) -(k:Int):=IntWalk.i64_in _ (by omega);have hle: ¬(l.length:Int) -(k:Int)<2:=(by omega);go_upto_region 13 with fail;clear z0 z1 z2 z3 z4 hwl hle;obtain⟨wI,hwI⟩: ∃W:World,W=wr:=⟨_,rfl⟩;subst hwI;go_loopw [7,52] (λ_ v52 wq=> ∃(j:Nat) (ix:Int),v52= .int .i64 j∧j<=2∧wq.heap[cb]? =some (.cells #[.string y,.int .i64 ix,.int .i64 2,.bool false,.int .i64 i] 104 (0,0))∧jZ B wq (.slice (some ⟨g,0,none⟩) (acc.length+1) LY) (acc++[y])∧eD oD 5 wq B (⟨y,0,2,false,i⟩::⟨y,1,2,false,i⟩::r) (some ⟨b,off,none⟩) k∧Below B w wq) (λ_ v _=>2 -(intOf v).toNat)
     case atStart=>exact⟨0,0,rfl,by decide,Zg.o,Ar.o,HR3.o,HB3.o⟩
     case round=>
      obtain⟨j,ix,rfl,hjn,hbx,hg,hrow,hbel⟩:=hrel;have Kj:=ah hbx;have HGq:=ah hg;have HRq:=ah hrow;have HBq:=ah hbel;clear hbx hg hrow hbel;by_cases hjl:j<2
      ·obtain⟨b',off',e,hb',hcs⟩:=HRq.o.at j ⟨y,j,2,false,i⟩ (by have:j=0∨j=1:=(by omega);rcases this with rfl|rfl <;> rfl);injection e with e;injection e with e1 e2;subst e1 e2;have hjs:(j:Int)<2:=(by omega);have f1:wr.frozen? ⟨cb,1,none⟩=false:=bH Kj.o;have hkj:k+j<l.length:=(by omega);have hwk:IntKind.i64.wrap ((k:Int)+(j:Int))=((k+j:Nat):Int):=(by rw[IntWalk.i64_in _ (by omega)];omega);obtain⟨-,y1,y2,-,-⟩:=cl5 Kj.o;go_upto_region 16 with fail;generalize hW:World.setCell wr _ _=w4;have ay4:aj (Below B wr w4):=ah (by rw[<- hW];exact cZ (bY _ _ _) Ao.o (aP Ao.o (cB (aO Kj.o))));have pV:aj (w4.heap[cb]? =some (.cells #[.string y,.int .i64 j,.int .i64 2,.bool false,.int .i64 i] 104 (0,0))):=ah (by rw[<- hW];exact rP Kj.o _ rfl);have ML:aj (jZ B w4 (.slice (some ⟨g,0,none⟩) (acc.length+1) LY) (acc++[y])):=ah (by rw[<- hW];exact jZ.far HGq.o (bY _ _ _) (λe=>by injection e with e;exact HGN.o e));have ay0:aj (B<=w4.heap.size):=ah (aP Ao.o (cB (aO pV.o)));have Z: ∀(q:Nat) (u:Value),(oD ⟨y,j,2,false,i⟩)[q]? =some u->∀w',Below w4.heap.size w4 w'->w'.cell? ⟨b,off+(k+j)*5+q,none⟩=some u:=λq u hu w' hb=>(hb.cell (p:=⟨b,_,none⟩) (aG hb' ay0.o)).trans ((ay4.o.cell (p:=⟨b,_,none⟩) hb').trans (hcs q u hu));have C: ∀(q:Nat) (u:Value),(#[.string y,.int .i64 j,.int .i64 2,.bool false,.int .i64 i]:Array Value)[q]? =some u->∀w',Below w4.heap.size w4 w'->w'.cell? ⟨cb,q,none⟩=some u:=λq u hu w' hb=>aQ ((hb.block cb (aO pV.o)).trans pV.o) hu;have Z0:=Z 0 _ rfl;have Z1:=Z 1 _ rfl;have Z2:=Z 2 _ rfl;have Z3:=Z 3 _ rfl;have Z4:=Z 4 _ rfl;have C0:=C 0 _ rfl;have C1:=C 1 _ rfl;have C2:=C 2 _ rfl;have C3:=C 3 _ rfl;have C4:=C 4 _ rfl;simp only[Nat.add_zero]at Z0;clear hW hcs y1 y2 f1 C Z;have k0:(0:Int)<=(k:Int)+(j:Int):=(by omega);have k1:(k:Int)+(j:Int)<(l.length:Int):=(by omega);have kt:((k:Int)+(j:Int)).toNat=k+j:=(by omega);go_wp2_with fail;refine dI (by kernel_rfl) rfl ?_;refine dw 0 7 [] [[],[],[],[1,2],[0,1,2,3],[0,1,2,3,4],[],[0,1,2,3,4,5,6]] [[],[],[],[],[],[],[]] (λ_ w'=>Below w4.heap.size w4 w') (λw w'=>Below w.heap.size w w') [57,58,59,60,61,62,63] rfl rfl (by rfl) (by kernel_rfl) (by kernel_rfl) (by kernel_rfl) (by kernel_rfl) (by kernel_rfl) (by rfl) (λ_=>ak _ _) (by rfl) (below_drewN (ak _ _) 1) ?_;simp only[iW,mU]
       iterate 7
        apply bS.step
        case bg=>intro c A w' hok hC hO hD;have e0:=hO 0 (by rfl);have e5:=hO 5 (by rfl);have e7:=hO 7 (by rfl);have e6:=hO 6 (by rfl);simp[Act.eval]at e0 e5 e7 e6;simp[Act.eval]at hD;simp[go_sem,gd,Oper.wp,hD,e0,e5,e7,e6,hwk,k0,k1,kt,Z0,Z1,Z2,Z3,Z4,hC,C0,C1,C2,C3,C4];exact aR.mk (ak _ _) hC (bZ.mk _ _)
        try simp only[dR]
       try simp only[dR]
       refine bS.done ?_;intro wz dF
       try simp only[iW]
       iterate 7 refine nX ?_
       refine zB ?_;go_simp;have HXz:aj (wz.heap[cb]? =some (.cells #[.string y,.int .i64 j,.int .i64 2,.bool false,.int .i64 i] 104 (0,0))):=ah ((dF.block cb (aO pV.o)).trans pV.o);have HGz:aj (jZ B wz (.slice (some ⟨g,0,none⟩) (acc.length+1) LY) (acc++[y])):=ah (ML.o.next ⟨dF.size,λq _ h2=>dF.block q h2⟩);have HBz:=ah (ay4.o.trans (dF.mono ay0.o));clear Z0 Z1 Z2 Z3 Z4 C0 C1 C2 C3 C4 dF;refine fD 7 [[],[],[],[1,2],[0,1,2,3],[0,1,2,3,4],[],[0,1,2,3,4,5,6]] rfl rfl rfl rfl rfl (by kernel_rfl) (by kernel_rfl) (by kernel_rfl) ?_;refine aT4 _ _ _ _ rfl _ _ _ rfl rfl (Va _ _ _ _ wz) (ar5 _ _ _ _ _ wz) ?_;refine eO rfl ?_;go_simp;go_wp2_with fail;go_roundw
       case rel=>exact⟨j+1,j,by go_num,by omega,HXz.o,HGz.o,HRq.o.below HBz.o,HBq.o.trans HBz.o⟩
       case measure=>simp[intOf];omega
      ·obtain rfl:j=2:=(by omega);have hw2:IntKind.i64.wrap ((k:Int)+2)=((k+2:Nat):Int):=(by rw[IntWalk.i64_in _ (by omega)];omega);obtain⟨-,-,z2,-,-⟩:=cl5 Kj.o;go_wp2_with fail;go_roundw
       case rel=>exact⟨k+2,r,acc++[y],u,by first|rfl|simp[hw2],by omega,hvr,HAY.o,HGq.o,HRq.o.2.2,HBq.o,by simp;omega⟩
       case measure=>simp[intOf];omega
theorem Ri {w:World} {B b off:Nat} : ∀ {r:List ByteArray} {k:Nat},fJ w B r (some ⟨b,off,none⟩) k->∀j u,(r.flatMap rQ)[j]? =some u->w.cell? ⟨b,off+k+j,none⟩=some u
 | [],_,_,j,u,hu=>by simp at hu
 |s::r,k,h,0,u,hu=>by
  obtain⟨⟨b',off',e,-,hc,-⟩,-⟩:=h;injection e with e;injection e with e1 e2;subst e1 e2;have:u= .string s:=by simpa[rQ]using hu.symm
  rw[this];exact hc
 |s::r,k,h,j+1,u,hu=>by have:=Ri h.2 j u (by simpa[rQ]using hu);rw[show off+k+(j+1)=off+(k+1)+j by omega];exact this
theorem aw2 (l:List ByteArray):(l.flatMap rQ).length=l.length*1:=by induction l <;> simp_all[rQ]
theorem ZO {l:List ByteArray} {u:Value} (h:u∈l.flatMap rQ):u.oneCell'=true:=by
 obtain⟨x,-,hx⟩:=List.mem_flatMap.1 h;simp[rQ]at hx;rw[hx];rfl
theorem El {ops:Array Oper} {rest:List Oper} {o:Oper} {a:Act} {Q:Exit->Act->World->Prop} (w:World) (hgd:o.guard=none) (s x:Operand)
 (ho:o.op= .call {callee:= .builtin .append,args:= #[s,x],argTypes:= #[31,31]}) {v:Value} {l r:List ByteArray} {B:Nat} {ao:Option Addr} {c:Nat}
 (hs:a.eval s=v) (hg:jZ B w v l) (hx:a.eval x= .slice ao r.length c) (hr:fJ w w.heap.size r ao 0) (hne:r≠[]) (hlen:l.length+r.length<=1000000) (hB:B<=w.heap.size)
 (h: ∀v' w',jZ B w' v' (l++r)->w.grownBy w' v.ownBlock->(v'.ownBlock=v.ownBlock∨v'.ownBlock=some w.heap.size)->wpList Tryz.prog ops Q rest (a.put o.dst v') w'):wpList Tryz.prog ops Q (o::rest) a w:=by
 obtain⟨i0,hi,hz0,hz1,hz2⟩:=Bh TH;obtain⟨b,off,rfl⟩: ∃b off,ao=some ⟨b,off,none⟩:=by
  cases r with
  |nil=>exact absurd rfl hne
  |cons y r=>obtain⟨⟨b,off,e,-⟩,-⟩:=hr;exact⟨b,off,e⟩
 refine wpList_append_own_at w hgd s x 31 ho B 9 i0 _ 1 16 Tryz.underlying31 hi hz0 hz1 hz2 rfl (by decide) v l.length (l.flatMap rQ) hs hg.own ⟨b,off,none⟩ r.length c (r.flatMap rQ) hx (aw2 r) ?_ (λu hu=>ZO hu) (by unfold maxLen;omega) (by omega) hB ?_
 ·intro j u hu;have:=Ri hr j u hu;simpa[Addr.add_lit]using this
 ·intro v' w' hown hgr hnil hat;exact h v' w' ⟨by rw[ay,List.flatMap_append];exact hown,λ_ _ _ _=>trivial⟩ hgr hat
theorem aT3 {B:Nat} {w w':World} {v:Value} {l:List ByteArray} (hg:jZ B w v l) (h:w.grownBy w' v.ownBlock) (hB:B<=w.heap.size):Below B w w':=
 ⟨h.os,h.tape,h.output,h.size,λq hq=>h.block q (by omega) (λe=>by have:=(hg.lt q e.symm).1;omega)⟩
theorem YF {w:World} {nm:ByteArray} {t:TypeId} (h:nm.size<=maxLen):fJ (w.alloc (.cells #[.string nm] t)) (w.alloc (.cells #[.string nm] t)).heap.size [nm] (some ⟨w.heap.size,0,none⟩) 0:=
 ⟨⟨_,0,rfl,by simp,aQ (j:=0) (heap_alloc_new _ _) rfl,h⟩,trivial⟩
structure AA (w0:World) (nb:Nat) (W:Wo) (s:lV) (w:World) (v:Value) (l:List ByteArray):Prop where
 g:jZ nb w v l
 ne: ∀q,v.ownBlock=some q->nb<q
 x:w.heap[nb]? =some (.cells #[.slice s.aC W.cs.length s.cC,.slice s.aL W.ls.length s.cL,.slice s.aN W.ns.length s.cN,.slice s.aF W.fs.length s.cF,.slice s.aT W.ts.length s.cT,.slice s.aS W.ss.length s.cS] 34 (0,0))
 wo:iO w nb W s
 b:Below nb w0 w
section
variable {w0:World} {nb:Nat} {W:Wo} {s:lV} {w w':World} {v v':Value} {l l':List ByteArray}
theorem AA.lt (h:AA w0 nb W s w v l):nb<w.heap.size:=(aO h.x)
theorem AA.step (h:AA w0 nb W s w v l) (hg:jZ nb w' v' l') (hgr:w.grownBy w' v.ownBlock) (hat:v'.ownBlock=v.ownBlock∨v'.ownBlock=some w.heap.size):AA w0 nb W s w' v' l':=by
 have hB:=aT3 h.g hgr (cB h.lt);refine⟨hg,λq hq=> ?_,(hgr.block nb h.lt (λe=>by have:=h.ne nb e.symm;omega)).trans h.x,h.wo.below hB,h.b.trans hB⟩;rcases hat with e|e
 ·rw[e]at hq;exact h.ne q hq
 ·rw[e]at hq;injection hq with hq;have:=h.lt;omega
theorem AA.next (h:AA w0 nb W s w v l) (hb:Below w.heap.size w w'):AA w0 nb W s w' v l:=
 ⟨h.g.next (bL hb),h.ne,(hb.block nb h.lt).trans h.x,h.wo.below (hb.mono (cB h.lt)),h.b.trans (hb.mono (cB h.lt))⟩
theorem AA.cells (h:AA w0 nb W s w v l):w.cell? ⟨nb,1,none⟩=some (.slice s.aL W.ls.length s.cL)∧w.cell? ⟨nb,2,none⟩=some (.slice s.aN W.ns.length s.cN)∧w.cell? ⟨nb,3,none⟩=some (.slice s.aF W.fs.length s.cF)∧w.cell? ⟨nb,4,none⟩=some (.slice s.aT W.ts.length s.cT):=
 ⟨aQ (j:=1) h.x rfl,aQ (j:=2) h.x rfl,aQ (j:=3) h.x rfl,aQ (j:=4) h.x rfl⟩
theorem AA.val (h:AA w0 nb W s w v l): ∃ao cap,v= .slice ao l.length cap:=h.g.len
end
theorem NV {α β:Type} {f:α->β} {l:List α} {k:Nat} {x:α} (h:l[k]? =some x):(l.take (k+1)).map f=(l.take k).map f++[f x]:=by
 rw[List.take_add_one,h];simp
theorem Fe {w:World} {B:Nat} {ao:Option Addr} : ∀ {l:List ByteArray} {k:Nat},fJ w B l ao k->∀x∈l,x.size<=maxLen
 | [],_,_,x,hx=>by cases hx
 |s::r,_,h,x,hx=>by
  rcases List.mem_cons.1 hx with rfl|hx
  ·obtain⟨⟨b,off,-,-,-,hs⟩,-⟩:=h;exact hs
  ·exact Fe h.2 x hx
theorem Od {W:Wo} {s:lV} {v:List ByteArray} {av:Option Addr} {cv:Nat} {w:World} (hw:iO w w.heap.size W s) (eH:eG w) (h:WI W v) (hav:fJ w w.heap.size v av 0) (hcv:v.length<=cv):
 Calls Tryz.prog 41 #[sS W s,.slice av v.length cv] w λe w'=>e= .returned (.bool true)∧Below w.heap.size w w':=by
 have HW:=ah hw;have jK:=ah eH;have HK:=ah h.kl;have OB:=ah hav;have HVS:aj (∀x∈v,x.size<=maxLen):=ah (Fe hav);have HR:aj (YG [] (Cy W v)=true):=ah h.nm;obtain⟨⟨hs0,hs1,hs2,hs3,hs4,hs5,hs6⟩,hv,hv0,hf0⟩:=h.sm;have Sd:=ah (aI hv0 (aI hf0 (show W.ts≠[]from λe=>by rw[e]at hs5;simp at hs5)));have hmm:= @run_makeMap Tryz.prog;clear hw eH hav h hv0 hf0;unfold sS;go_enter Tryz.func41,Tryz.ntmps41;go_upto_region 1 with fail;generalize hW:World.alloc w _=W1;obtain⟨nb,hnb⟩: ∃n,w.heap.size=n:=⟨_,rfl⟩;have HB:aj (Below nb w W1):=ah (by rw[<- hW,<- hnb];exact au _ _);have HI:aj (AA w nb W s W1 (.slice none 0 0) []):=ah ⟨Grow.nil _ _ _ _ _ _,λq hq=>(by cases hq),(by rw[<- hW,<- hnb];exact heap_alloc_new _ _),(by have:=HW.o;rw[hnb]at this;exact this.below HB.o),HB.o⟩;have HA1:aj (fJ W1 W1.heap.size v av 0):=ah (by have h1:=OB.o;have h2:=HB.o;rw[<- hnb]at h2;exact h1.same h2);have jE:=ah hnb;rw[hnb];clear hW hnb HW OB HB;go_wp2_with (at_builtin;refine El W1 rfl _ _ rfl rfl HI.o.g rfl HA1.o Sd.o.1 (by simp;omega) (cB HI.o.lt) ?_);intro v1 w1 hg1 aJ6 aI3;have HI1:=ah (HI.o.step hg1 aJ6 aI3);clear hg1 aJ6 aI3 HI HA1;obtain⟨g1,g2,g3,g4⟩:=HI1.o.cells;go_wp2_with fail;clear g1 g2 g3 g4;go_loopw [5,7,19] (λv5 _ v19 wr=> ∃k:Nat,v19= .int .i64 k∧k<=W.ls.length∧AA w nb W s wr v5 (v++(W.ls.take k).map (·.nm))) (λ_ _ v _=>W.ls.length -(intOf v).toNat)
 case atStart=>exact⟨0,rfl,bT _,by simpa using HI1.o⟩
 case round=>
  obtain⟨k,rfl,hk,hi⟩:=hrel;obtain⟨acc,hacc⟩: ∃acc,v++(W.ls.take k).map (·.nm)=acc:=⟨_,rfl⟩;rw[hacc]at hi;have HI:=ah hi;have Io:=ah hacc;have bM0:acc.length<=100:=by rw[<- hacc];simp;omega
  clear hi hacc;by_cases hkl:k<W.ls.length
  ·obtain⟨x,hx⟩: ∃x,W.ls[k]? =some x:=⟨_,bF hkl⟩;have HX:=ah hx;obtain⟨b,off,hao,hb1,hcs⟩:=HI.o.wo.ls.at k x hx;have zF:=ah hao;have x0:=hcs 0 _ rfl;have x1:=hcs 1 _ rfl;simp only[aU,Nat.add_zero]at x0 x1;have HL:aj (∀q,q=s.aL->q=some ⟨b,off,none⟩):=ah (λq e=>by rw[e];exact zF.o);clear hcs hx;rw[hao];go_upto_region 6 with fail;generalize hW2:World.alloc wr _=w2;obtain⟨cb,hcb,HB2,-,Aw,-⟩:=oO hW2;have HI2:=ah (HI.o.next HB2.o);rw[hcb];clear hW2 hcb x0 x1 HI HB2;have y0:w2.cell? ⟨cb,0,none⟩=some (.string x.nm):=aQ Aw.o rfl;have HI3:=ah (HI2.o.next (au w2 (.cells #[.string x.nm] 9)));have hlen:acc.length+1<=1000000:=by omega
   have hnm:x.nm.size<=maxLen:=HK.o.1 x (List.mem_of_getElem? HX.o);go_wp2_with (at_builtin;refine El _ rfl _ _ rfl rfl HI3.o.g rfl (YF hnm) (by simp) hlen (cB HI3.o.lt) ?_);intro v3 w3 hg3 Qm Qh;have HI4:=ah (HI3.o.step hg3 Qm (by simpa using Qh));have HE:aj (acc++[x.nm]=v++(W.ls.take (k+1)).map (·.nm)):=ah (by rw[<- Io.o,NV (f:=λy:zN=>y.nm) HX.o,List.append_assoc]);clear hg3 Qm Qh HI3 HI2 Aw y0 hlen hnm;go_wp2_with fail;go_roundw
   case rel=>exact⟨k+1,by go_num,by omega,by rw[<- HE.o];exact HI4.o⟩
   case measure=>simp[intOf];omega
  ·obtain rfl:k=W.ls.length:=by omega
   rw[List.take_length]at Io;have HA0:=Io;obtain⟨g1,g2,g3,g4⟩:=HI.o.cells;obtain⟨wA,hwA⟩: ∃X:World,X=wr:=⟨_,rfl⟩;subst hwA;go_wp2_with fail;clear g1 g2 g3 g4;go_loopw [5,9,32] (λv5 _ v32 wr=> ∃k:Nat,v32= .int .i64 k∧k<=W.ns.length∧AA w nb W s wr v5 (acc++(W.ns.take k).map (·.nm))) (λ_ _ v _=>W.ns.length -(intOf v).toNat)
   case atStart=>exact⟨0,rfl,bT _,by simpa using HI.o⟩
   case round=>
    obtain⟨k,rfl,hk,hi⟩:=hrel;obtain⟨PL,hacc⟩: ∃PL,acc++(W.ns.take k).map (·.nm)=PL:=⟨_,rfl⟩;rw[hacc]at hi;have HI:=ah hi;have Io:=ah hacc;have bJ3:PL.length<=200:=(by rw[<- hacc];simp;omega);clear hi hacc;by_cases hkl:k<W.ns.length
    ·obtain⟨x,hx⟩: ∃x,W.ns[k]? =some x:=⟨_,bF hkl⟩;have HX:=ah hx;obtain⟨b,off,hao,hb1,hcs⟩:=HI.o.wo.ns.at k x hx;have x0:=hcs 0 _ rfl;have x1:=hcs 1 _ rfl;simp only[aU,Nat.add_zero]at x0 x1;clear hcs hx;rw[hao];go_upto_region 11 with fail;generalize hW2:World.alloc wr _=w2;obtain⟨cb,hcb,HB2,-,Aw,-⟩:=oO hW2;have HI2:=ah (HI.o.next HB2.o);rw[hcb];clear hW2 hcb x0 x1 HI HB2;have y0:w2.cell? ⟨cb,0,none⟩=some (.string x.nm):=aQ Aw.o rfl;have HI3:=ah (HI2.o.next (au w2 (.cells #[.string x.nm] 9)));have hlen:PL.length+1<=1000000:=(by omega);have hnm:x.nm.size<=maxLen:=HK.o.2 x (List.mem_of_getElem? HX.o);go_wp2_with (at_builtin;refine El _ rfl _ _ rfl rfl HI3.o.g rfl (YF hnm) (by simp) hlen (cB HI3.o.lt) ?_);intro v3 w3 hg3 Qm Qh;have HI4:=ah (HI3.o.step hg3 Qm (by simpa using Qh));have HE:aj (PL++[x.nm]=acc++(W.ns.take (k+1)).map (·.nm)):=ah (by rw[<- Io.o,NV (f:=λy:DU=>y.nm) HX.o,List.append_assoc]);clear hg3 Qm Qh HI3 HI2 Aw y0 hlen hnm;go_wp2_with fail;go_roundw
     case rel=>exact⟨k+1,by go_num,by omega,by rw[<- HE.o];exact HI4.o⟩
     case measure=>simp[intOf];omega
    ·obtain rfl:k=W.ns.length:=(by omega);rw[List.take_length]at Io;obtain⟨g1,g2,g3,g4⟩:=HI.o.cells;obtain⟨wB,hwB⟩: ∃X:World,X=wr:=⟨_,rfl⟩;subst hwB;have hl5:PL.length+W.fs.length<=1000000:=(by omega);go_wp2_with (at_builtin;refine El _ rfl _ _ rfl rfl HI.o.g rfl (HI.o.wo.fs.mono (cB HI.o.lt)) Sd.o.2.1 hl5 (cB HI.o.lt) ?_);intro v4 w4 hg4 aJ7 xZ;have hi4:=HI.o.step hg4 aJ7 xZ;obtain⟨WJ,Vd⟩: ∃WJ,PL++W.fs=WJ:=⟨_,rfl⟩;rw[Vd]at hi4;have HI4:=ah hi4;have bk3:=ah Vd;have bJ4:WJ.length<=300:=(by rw[<- Vd];simp;omega);clear hg4 aJ7 xZ HI g1 g2 g3 g4 hl5 hi4 Vd;obtain⟨g1,g2,g3,g4⟩:=HI4.o.cells;have hl6:WJ.length+W.ts.length<=1000000:=(by omega);go_wp2_with (at_builtin;refine El _ rfl _ _ rfl rfl HI4.o.g rfl (HI4.o.wo.ts.mono (cB HI4.o.lt)) Sd.o.2.2 hl6 (cB HI4.o.lt) ?_);intro v5 w5 hg5 hgr5 aI4;have HEN:aj (WJ++W.ts=Cy W v):=ah (by rw[<- bk3.o,<- Io.o,<- HA0.o];rfl);have iA:aj (AA w nb W s w5 v5 (Cy W v)):=ah (by rw[<- HEN.o];exact HI4.o.step hg5 hgr5 aI4);have wQ:aj (∀x∈Cy W v,x.size<=maxLen):=ah (λx hx=>by
      have hw:=iA.o.wo;unfold Cy at hx;simp only[List.mem_append,List.mem_map]at hx;rcases hx with(((h|⟨y,h,rfl⟩)|⟨y,h,rfl⟩)|h)|h
      ·exact HVS.o x h
      ·exact HK.o.1 y h
      ·exact HK.o.2 y h
      ·exact Fe hw.fs x h
      ·exact Fe hw.ts x h)
     clear hg5 hgr5 aI4 HI4 g1 g2 g3 g4 hl6;obtain⟨aoN,bL7,rfl,hcN,hst⟩:=jZ.says (show jZ nb w5 v5 (Cy W v)from iA.o.g) wQ.o;obtain⟨mb,hmb⟩: ∃n,w5.heap.size=n:=⟨_,rfl⟩;have HTN:aj (fJ w5 mb (Cy W v) aoN 0):=ah (by rw[<- hmb];exact hst.now);have nN:aj (Below nb w w5):=ah iA.o.b;have bm7:aj (nb<mb):=ah (by rw[<- hmb];exact iA.o.lt);have HMB:=ah hmb;have vR:aj ((Cy W v).length<=1000000):=ah (by unfold Cy;simp;omega);clear hst hcN iA wQ hmb;generalize Cy W v=l at *;have hl6:=vR.o;have HM0:aj (jF (w5.alloc (.map #[] 0)) mb 0 (λ_=>false)):=ah (by rw[<- HMB.o];exact jF.made w5);have dG:aj (Below mb w5 (w5.alloc (.map #[] 0))):=ah (by rw[<- HMB.o];exact au _ _);go_wp2_with fail;rw[HMB.o];go_loopw [12,53] (λ_ v53 wr=> ∃(k:Nat) (pre R:List ByteArray),v53= .int .i64 k∧pre++R=l∧pre.length=k∧jF wr mb k (λq=>(pre.map (·.toList)).contains q)∧YG (pre.map (·.toList)) R=true∧Below mb w5 wr) (λ_ v _=>l.length -(intOf v).toNat)
     case atStart=>exact⟨0,[],l,rfl,rfl,rfl,HM0.o.congr (λ_=>rfl),HR.o,dG.o⟩
     case round=>
      obtain⟨k,pre,R,rfl,hds,hk,hmap,aM6,hbel⟩:=hrel;have HM:=ah hmap;have HE:=ah aM6;have HB:=ah hbel;have vg:=ah hds;have HPK:=ah hk;have Fq:aj (Below w.heap.size w wr):=ah (by rw[jE.o];exact nN.o.trans (HB.o.mono (cB bm7.o)));have hlen:k+R.length=l.length:=(by rw[<- hds,ay,hk]);have hrow:=(HTN.o.below HB.o).drop k;rw[aU,<- hds,<- hk,List.drop_left]at hrow;rw[hk]at hrow;clear hmap aM6 hbel hds hk;cases R with
      |nil=>obtain rfl:k=l.length:=(by simpa using hlen);go_wp2_with fail;go_ret;exact⟨rfl,Fq.o⟩
      |cons x R=>
       obtain⟨⟨b,off,hao,hb1,x0,hsz⟩,-⟩:=hrow;simp only[aA]at hlen;have hkl:k<l.length:=(by omega);have Xz:=HE.o;rw[YG,aJ,aJ,Bool.not_eq_true']at Xz;obtain⟨⟨hn,hc⟩,Xz⟩:=Xz;have HT:=ah Xz;have HC:=ah hc;clear Xz hc HE;rw[hao];go_wp2_with fail;refine(xR x wr (jK.o.same Fq.o) hsz).mono ?_;rintro e w6 ⟨rfl,hb6⟩;have bK3:=ah (Fq.o.trans (hb6.mono Fq.o.size));have MS:=ah (HM.o.next hb6);have Am:aj (Below mb w5 w6):=ah (HB.o.trans (hb6.mono (cB HM.o.lt)));clear hb6 x0;rw[<- Lib.toList_data x];rw[hn];have hk1:=MS.o.look x hsz;obtain⟨w7,hup,hm7,GN⟩:=MS.o.put (by unfold maxLen;omega) x hsz true;have Iy:=ah hm7;have pF:aj (Below mb w5 w7):=ah (Am.o.trans (cZ GN (aB _) (cB MS.o.lt)));clear hm7 GN hn;simp only[HC.o]at hk1;go_wp2_with fail;go_roundw
       case rel=>exact⟨k+1,pre++[x],R,by go_num,by rw[List.append_assoc];exact vg.o,by simp[HPK.o],Iy.o.congr (λq=>by simp[List.contains_iff_mem];grind),by rw[List.map_append];exact HT.o,pF.o⟩
       case measure=>simp[intOf];omega
theorem Oe {W:Wo} {s:lV} {w:World} (hw:iO w w.heap.size W s) (h60:W.ss.length<=60) (ht:1<=W.ts.length) (h:Yo 0 W.ss=true):
 Calls Tryz.prog 43 #[sS W s] w λe w'=>e= .returned (.bool true)∧Below w.heap.size w w':=by
 have HW:=ah hw;have HI:=ah h;have hlt:=hw.lt;unfold maxLen at hlt;have hnt: ¬W.ts=[]:=λe=>by rw[e]at ht;simp at ht
 clear hw h;unfold sS;go_enter Tryz.func43,Tryz.ntmps43;go_upto_region 1 with fail;generalize hW:World.alloc w _=W1;obtain⟨nb,hnb,jE,HB,HX,mE⟩:=IL hW;have HF:aj (eD yX 3 W1 nb W.ss s.aS 0):=ah (by have:=HW.o.ss;rw[hnb]at this;exact this.below HB.o);rw[hnb];clear hW hnb HW;obtain⟨-,-,-,-,-,g5⟩:=rE HX.o;go_wp2_with fail;go_loopw [3,4,6,10] (λv3 v4 _ v10 wr=> ∃(k:Nat) (R:List Ef),v10= .int .i64 k∧v3= .int .i64 0∧v4= .int .i64 k∧k+R.length=W.ss.length∧Yo k R=true∧eD yX 3 wr nb R s.aS k∧Below (nb+1) W1 wr) (λ_ _ _ v _=>W.ss.length -(intOf v).toNat)
 case atStart=>exact⟨0,W.ss,rfl,rfl,rfl,by simp,HI.o,HF.o,ak _ _⟩
 case round=>
  obtain⟨k,R,rfl,rfl,rfl,hlen,heq,hrow,hbel⟩:=hrel;have mq:=ah hbel;have vw:=ah ((mq.o.block nb (Nat.lt_succ_self _)).trans HX.o);have Fq:aj (Below nb w wr):=ah (HB.o.trans (mq.o.mono (gY _)));have zK:aj (nb+1<=wr.heap.size):=ah (by have h1:=mq.o.size;have h2:=mE.o;omega);clear hbel g5;cases R with
  |nil=>
   obtain rfl:k=W.ss.length:=by simpa using hlen
   go_wp2_with fail;go_ret;exact⟨rfl,by rw[jE.o];exact Fq.o⟩
  |cons x R=>
   obtain⟨⟨b,off,hao,hb1,hcs⟩,hrest⟩:=hrow;simp only[aA]at hlen;rw[Yo,aJ,decide_eq_true_eq]at heq;obtain⟨⟨e1,e2⟩,heq⟩:=heq;have hkl:k<W.ss.length:=by omega
   have x0:=hcs 0 _ rfl;have x1:=hcs 1 _ rfl;have x2:=hcs 2 _ rfl;rw[e1]at x0;rw[e2]at x1;simp only[Nat.add_zero]at x0;rw[hao]at hrest;have mQ:=ah hrest;have HE:=ah heq;obtain⟨-,-,-,-,g4,-⟩:=rE vw.o;have hwn:IntKind.i64.wrap ((k:Int)+1)=(k:Int)+1:=IntWalk.i64_in _ (by omega);have hnl:nb<wr.heap.size:=by have:=zK.o;omega
   have hnb: ¬nb=wr.heap.size:=by omega
   rw[hao];clear hcs hrest hao heq;go_wp2_with fail;go_roundw
   case rel=>exact⟨k+1,R,by go_num,rfl,by go_num,by omega,HE.o,mQ.o.below ((au _ _).mono (by have:=zK.o;omega)),mq.o.trans ((au _ _).mono zK.o)⟩
   case measure=>simp[intOf];omega
theorem FM {W:Wo} {s:lV} {v:List ByteArray} {w:World} (hw:iO w w.heap.size W s) (eH:eG w) (h:WI W v):
 Calls Tryz.prog 22 #[sS W s] w λe w'=>e= .returned (.bool true)∧Below w.heap.size w w':=by
 have HW:=ah hw;have jK:=ah eH;have HV:=ah h;obtain⟨⟨p0,p1,p2,p3,p4,p5,p6⟩,-⟩:=h.sm;have q0: ¬(12:Int)<W.cs.length:=by omega
 have q1: ¬(4:Int)<W.ls.length:=by omega
 have q2: ¬(2:Int)<W.ns.length:=by omega
 have q3: ¬(2:Int)<W.fs.length:=by omega
 have q4: ¬(60:Int)<W.ss.length:=by omega
 have q5: ¬(W.ts.length:Int)<1:=by omega
 have q6: ¬(4:Int)<W.ts.length:=by omega
 clear hw eH h p0 p1 p3 p4 p5 p6;unfold sS;go_enter Tryz.func22,Tryz.ntmps22;go_upto_region 1 with fail;generalize hW:World.alloc w _=W1;obtain⟨nb,hnb,jE,HB,HX,mE⟩:=IL hW;have HW1:aj (iO W1 nb W s):=ah (by have:=HW.o;rw[hnb]at this;exact this.below HB.o);have tH:aj (eG W1):=ah (by have:=HB.o;rw[<- hnb]at this;exact jK.o.same this);rw[hnb];clear hW hnb HW;obtain⟨g0,g1,g2,g3,g4,g5⟩:=rE HX.o;go_wp2_with fail;refine(Oc W.cs v HV.o.cs W1 s.aC s.cC HV.o.sm.1.1 (HW1.o.cs.mono (by have:=mE.o;omega)) HV.o.kv).mono ?_;rintro e w2 ⟨⟨av,cv,rfl,hat,hcv⟩,hb2⟩;have HB2:aj (Below (nb+1) W1 w2):=ah (by rw[<- mE.o];exact hb2);have sO:=ah ((HB2.o.block nb (Nat.lt_succ_self _)).trans HX.o);have HS2:aj (nb+1<=w2.heap.size):=ah (by have h1:=hb2.size;have h2:=mE.o;omega);have HW2:aj (iO w2 nb W s):=ah (HW1.o.below (HB2.o.mono (gY _)));have qE:=ah (tH.o.same hb2);have HAT:=ah hat;clear hb2 g0 g1 g2 g3 g4 g5 q0 q1 q2 q3 q4 q5 q6 hat;obtain⟨g0,g1,g2,g3,g4,g5⟩:=rE sO.o;go_wp2_with fail;refine(Od (HW2.o.mono (by have:=HS2.o;omega)) qE.o HV.o HAT.o hcv).mono ?_;rintro e w3 ⟨rfl,hb3⟩;have HB3:aj (Below (nb+1) W1 w3):=ah (HB2.o.trans (hb3.mono HS2.o));have G7:=ah ((HB3.o.block nb (Nat.lt_succ_self _)).trans HX.o);have HW3:aj (iO w3 nb W s):=ah (HW1.o.below (HB3.o.mono (gY _)));clear hb3 g0 g1 g2 g3 g4 g5;obtain⟨-,-,g2,-⟩:=rE G7.o;go_wp2_with fail;go_loopw [6,62] (λ_ i wr=> ∃(k:Nat) (R:List DU),i= .int .i64 k∧k+R.length=W.ns.length∧(∀c∈R,LkE W c.mx)∧eD yU 2 wr nb R s.aN k∧Below (nb+1) W1 wr) (λ_ i _=>W.ns.length -(intOf i).toNat)
 case atStart=>exact⟨0,W.ns,rfl,by simp,HV.o.cn,HW3.o.ns,HB3.o⟩
 case round=>
  obtain⟨k,R,rfl,hlen,hcn,hrow,hbel⟩:=hrel;have mq:=ah hbel;have vw:=ah ((mq.o.block nb (Nat.lt_succ_self _)).trans HX.o);have Fq:aj (Below nb w wr):=ah (HB.o.trans (mq.o.mono (gY _)));have zK:aj (nb+1<=wr.heap.size):=ah (by have h1:=mq.o.size;have h2:=mE.o;omega);have HWr:aj (iO wr nb W s):=ah (HW1.o.below (mq.o.mono (gY _)));clear hbel g2;cases R with
  |nil=>
   obtain rfl:k=W.ns.length:=by simpa using hlen
   obtain⟨g0,g1,g2,g3,g4,g5⟩:=rE vw.o;go_wp2_with fail;refine(Oe (HWr.o.mono (by have:=zK.o;omega)) HV.o.sm.1.2.2.2.2.1 HV.o.sm.1.2.2.2.2.2.1 HV.o.si).mono ?_;rintro e w5 ⟨rfl,hb5⟩;go_wp2_with fail;go_ret;exact⟨rfl,by rw[jE.o];exact Fq.o.trans (hb5.mono (by have:=zK.o;omega))⟩
  |cons x R=>
   obtain⟨⟨b,off,hao,hb1,hcs⟩,hrest⟩:=hrow;simp only[aA]at hlen;have hkl:k<W.ns.length:=by omega
   have x0:=hcs 0 _ rfl;have x1:=hcs 1 _ rfl;simp only[Nat.add_zero]at x0;rw[hao]at hrest;have mQ:=ah hrest;have BJ:=ah hcn;rw[hao];clear hcs hrest hcn hao;go_upto_region 11 with fail;generalize vY:World.alloc wr _=w4;obtain⟨tb,htb,aZ,eF,Pj,-⟩:=IL vY;have BF:aj (Below (nb+1) W1 w4):=ah (mq.o.trans (eF.o.mono (by have:=zK.o;have:=aZ.o;omega)));rw[htb];clear vY htb x0 x1;have pV:=ah ((BF.o.block nb (Nat.lt_succ_self _)).trans HX.o);obtain⟨g0,g1,g2,g3,g4,g5⟩:=rE pV.o;obtain⟨-,t1⟩:=pK Pj.o;have CW:aj (nb+1<=w4.heap.size):=ah (by have h1:=BF.o.size;have h2:=mE.o;omega);go_wp2_with fail;refine(NH ((HW1.o.below (BF.o.mono (gY _))).mono (by have:=CW.o;omega)) (BJ.o x aV)).mono ?_;rintro e w5 ⟨rfl,hb5⟩;have nN:aj (Below (nb+1) wr w5):=ah ((eF.o.mono (by have:=zK.o;have:=aZ.o;omega)).trans (hb5.mono CW.o));clear hb5 g0 g1 g2 g3 g4 g5 t1;go_wp2_with fail;go_roundw
   case rel=>exact⟨k+1,R,by go_num,by omega,λc hc=>BJ.o c (aX _ hc),mQ.o.below (nN.o.mono (gY _)),mq.o.trans nN.o⟩
   case measure=>simp[intOf];omega
theorem yH {w w':World} {B:Nat} (hb:Below B w w'): ∀ {l:List yS} {ao:Option Addr} {k:Nat},kM w B l ao k->kM w' B l ao k
 | [],_,_,_=>trivial
 |_::_,_,_,⟨⟨b,off,fQ,eU,e,hB,x0,x1,hl,hf⟩,hr⟩=>⟨⟨b,off,fQ,eU,e,hB,(hb.cell (p:=⟨b,_,none⟩) hB).trans x0,(hb.cell (p:=⟨b,_,none⟩) hB).trans x1,hl,hf.below hb⟩,yH hb hr⟩
theorem NW {w:World} {B B':Nat} (hB:B<=B'): ∀ {l:List yS} {ao:Option Addr} {k:Nat},kM w B l ao k->kM w B' l ao k
 | [],_,_,_=>trivial
 |_::_,_,_,⟨⟨b,off,fQ,eU,e,hb,x0,x1,hl,hf⟩,hr⟩=>⟨⟨b,off,fQ,eU,e,aG hb hB,x0,x1,hl,hf.mono hB⟩,NW hB hr⟩
theorem Yv {w w':World} {l:List yS} {ao:Option Addr} {k:Nat} (h:kM w w.heap.size l ao k) (hb:Below w.heap.size w w'):kM w' w'.heap.size l ao k:=NW hb.size (yH hb h)
theorem ag2 {W:Wo} {s:lV} {v:List ByteArray} {l:List yS} {aot:Option Addr} {cap:Nat} {w:World} (hw:iO w w.heap.size W s) (eH:eG w) (h:WI W v) (hc:kM w w.heap.size l aot 0) (hl:l.length=W.ts.length) (ht:Mt W 0 l=true):
 Calls Tryz.prog 21 #[.agg #[.slice s.aC W.cs.length s.cC,.slice s.aL W.ls.length s.cL,.slice s.aN W.ns.length s.cN,.slice s.aF W.fs.length s.cF,.slice s.aT W.ts.length s.cT,.slice s.aS W.ss.length s.cS,.slice aot l.length cap]] w λe w'=>e= .returned (.bool true)∧Below w.heap.size w w':=by
 have HW:=ah hw;have jK:=ah eH;have HC:=ah hc;have HT:=ah ht;have HV:=ah h;have h4:=h.sm.1.2.2.2.2.2.2;rw[<- hl]at h4⊢;clear hw eH hc ht h;go_enter Tryz.func21,Tryz.ntmps21;go_upto_region 1 with fail;generalize hW:World.alloc w _=W1;obtain⟨nb,hnb,jE,HB,HX,mE⟩:=IL hW;have HW1:aj (iO W1 nb W s):=ah (by have:=HW.o;rw[hnb]at this;exact this.below HB.o);have BI:aj (kM W1 nb l aot 0):=ah (by have:=HC.o;rw[hnb]at this;exact yH HB.o this);have tH:aj (eG W1):=ah (by have:=HB.o;rw[<- hnb]at this;exact jK.o.same this);rw[hnb];clear hW hnb HW HC;obtain⟨g0,g1,g2,g3,g4,g5⟩:=rE HX.o;go_wp2_with fail;rw[hl];refine(FM (HW1.o.mono (by have:=mE.o;omega)) tH.o HV.o).mono ?_;rintro e w2 ⟨rfl,hb2⟩;have HB2:aj (Below (nb+1) W1 w2):=ah (by rw[<- mE.o];exact hb2);have sO:=ah ((HB2.o.block nb (Nat.lt_succ_self _)).trans HX.o);clear hb2 g0 g1 g2 g3 g4 g5;obtain⟨-,-,-,-,g4,-⟩:=rE sO.o;have g6:=aQ (j:=6) sO.o rfl;simp only[List.getElem_toArray,List.getElem_cons_zero,List.getElem_cons_succ]at g6;go_wp2_with fail;go_loopw [3,4,22] (λ_ _ v wr=> ∃(k:Nat) (R:List yS),v= .int .i64 k∧k+R.length=l.length∧Mt W k R=true∧kM wr nb R aot k∧Below (nb+1) W1 wr) (λ_ _ v _=>l.length -(intOf v).toNat)
 case atStart=>exact⟨0,l,rfl,by simp,HT.o,yH (HB2.o.mono (gY _)) BI.o,HB2.o⟩
 case round=>
  obtain⟨k,R,rfl,hlen,hth,hrow,hbel⟩:=hrel;have mq:=ah hbel;have vw:=ah ((mq.o.block nb (Nat.lt_succ_self _)).trans HX.o);have Fq:aj (Below nb w wr):=ah (HB.o.trans (mq.o.mono (gY _)));have zK:aj (nb+1<=wr.heap.size):=ah (by have h1:=mq.o.size;have h2:=mE.o;omega);clear hbel g4 g6;cases R with
  |nil=>
   obtain rfl:k=l.length:=by simpa using hlen
   go_wp2_with fail;go_ret;exact⟨rfl,by rw[jE.o];exact Fq.o⟩
  |cons t R=>
   obtain⟨⟨b,off,fQ,eU,rfl,hb1,x0,x1,htl,hfl⟩,hrest⟩:=hrow;simp only[aA]at hlen;rw[Mt,aJ]at hth;have hkl:k<l.length:=by omega
   have mQ:=ah hrest;have HFL:=ah hfl;have rT:=ah hth;clear hrest hfl htl hth;go_upto_region 6 with fail;generalize hW3:World.alloc wr _=w3;obtain⟨tb,htb,aZ,HB3,Pj,-⟩:=IL hW3;have FR:aj (Below (nb+1) wr w3):=ah (HB3.o.mono (by have:=zK.o;have:=aZ.o;omega));have mZ:aj (nb+1<=w3.heap.size):=ah (aP zK.o HB3.o.size);have HW3:aj (iO w3 w3.heap.size W s):=ah ((HW1.o.below ((mq.o.trans FR.o).mono (gY _))).mono (by have:=mZ.o;omega));have Aq:aj (eD nZ 6 w3 w3.heap.size t.is fQ 0):=ah ((HFL.o.below (FR.o.mono (gY _))).mono (by have:=mZ.o;omega));have G7:=ah ((FR.o.block nb (Nat.lt_succ_self _)).trans vw.o);rw[htb];clear hW3 htb x0 x1;obtain⟨g0,g1,g2,g3,g4,g5⟩:=rE G7.o;obtain⟨t0,t1⟩:=pK Pj.o;go_wp2_with fail;refine(Mx HW3.o Aq.o rT.o.1).mono ?_;rintro e w4 ⟨rfl,hb4⟩;have eF:aj (Below (nb+1) wr w4):=ah (FR.o.trans (hb4.mono mZ.o));clear hb4 g0 g1 g2 g3 g4 g5 t0 t1;go_wp2_with fail;go_roundw
   case rel=>exact⟨k+1,R,by go_num,by omega,rT.o.2,yH (eF.o.mono (gY _)) mQ.o,mq.o.trans eF.o⟩
   case measure=>simp[intOf];omega
namespace Md
def Ad (g:Nat) (w:World):Prop:= ∀o,(∀k n,w.cell? ⟨g,o,none⟩≠some (.int k n))∧∀s,w.cell? ⟨g,o,none⟩≠some (.string s)
section
variable {w w':World} {g B:Nat}
def zO (g:Nat) (w w':World):Prop:= ∀b,b≠g->b<w.heap.size->∀o,w'.cell? ⟨b,o,none⟩=w.cell? ⟨b,o,none⟩
theorem fJ.off (hg:Ad g w) (ho:zO g w w') (hB:B<=w.heap.size): ∀ {l:List ByteArray} {ao:Option Addr} {k:Nat},fJ w B l ao k->fJ w' B l ao k
 | [],_,_,_=>trivial
 |_::_,_,_,⟨⟨b,off,e,hb,c,hs⟩,hr⟩=>by
  have hne:b≠g:=λq=>by subst q;exact(hg _).2 _ c
  exact⟨⟨b,off,e,hb,(ho b hne (aG hb hB) _).trans c,hs⟩,fJ.off hg ho hB hr⟩
theorem jo.off (hg:Ad g w) (ho:zO g w w') (hB:B<=w.heap.size): ∀ {l:List De} {ao:Option Addr} {k:Nat},jo w B l ao k->jo w' B l ao k
 | [],_,_,_=>trivial
 |_::_,_,_,⟨⟨b,off,e,hb,c0,c1,c2,c3,c4,c5,hs⟩,hr⟩=>by
  have hne:b≠g:=λq=>by subst q;exact(hg _).1 _ _ c0
  have h:=ho b hne (aG hb hB);exact⟨⟨b,off,e,hb,(h _).trans c0,(h _).trans c1,(h _).trans c2,(h _).trans c3,(h _).trans c4,(h _).trans c5,hs⟩,jo.off hg ho hB hr⟩
theorem bJ.At.off (hg:Ad g w) (ho:zO g w w') (hB:B<=w.heap.size): ∀ {l:bJ} {ao:Option Addr} {k:Nat},l.At w B ao k->l.At w' B ao k
 | .nil,_,_,_=>trivial
 | .cons _ _ _ _ _,_,_,h=>by
   obtain⟨⟨b,off,mF,cap,e,hb,c0,c1,c2,c3,hok,hk⟩,hr⟩:=h;have hne:b≠g:=λq=>by subst q;exact(hg _).1 _ _ c0
   have h:=ho b hne (aG hb hB);exact⟨⟨b,off,mF,cap,e,hb,(h _).trans c0,(h _).trans c1,(h _).trans c2,(h _).trans c3,hok,hk.off hg ho hB⟩,hr.off hg ho hB⟩
theorem aY.At.off (hg:Ad g w) (ho:zO g w w') (hB:B<=w.heap.size): ∀ {l:aY} {ao:Option Addr} {k:Nat},l.At w B ao k->l.At w' B ao k
 | .nil,_,_,_=>trivial
 | .cons _ _ _ _,_,_,h=>by
   obtain⟨⟨b,off,fQ,eU,fT,eu,dH,cu,iC,gy,e,hb,c0,c1,c2,c3,c4,c5,c6,c7,c8,c9,c10,hok,h1,h2,h3,h4⟩,hr⟩:=h;have hne:b≠g:=λq=>by subst q;exact(hg _).1 _ _ c0
   have h:=ho b hne (aG hb hB);exact⟨⟨b,off,fQ,eU,fT,eu,dH,cu,iC,gy,e,hb,(h _).trans c0,(h _).trans c1,(h _).trans c2,(h _).trans c3,(h _).trans c4,(h _).trans c5,(h _).trans c6,(h _).trans c7,(h _).trans c8,(h _).trans c9,(h _).trans c10,hok,h1.off hg ho hB,h2.off hg ho hB,h3.off hg ho hB,h4.off hg ho hB⟩,hr.off hg ho hB⟩
theorem iJ.off (hg:Ad g w) (ho:zO g w w') (hB:B<=w.heap.size): ∀ {l:List Th} {ao:Option Addr} {k:Nat},iJ w B l ao k->iJ w' B l ao k
 | [],_,_,_=>trivial
 |_::_,_,_,⟨⟨b,off,iR,eX,dH,cu,e,hb,c0,c1,c2,c3,hs,ht,hst⟩,hr⟩=>by
  have hne:b≠g:=λq=>by subst q;exact(hg _).2 _ c0
  have h:=ho b hne (aG hb hB);exact⟨⟨b,off,iR,eX,dH,cu,e,hb,(h _).trans c0,(h _).trans c1,(h _).trans c2,(h _).trans c3,hs,ht.off hg ho hB,hst.1.off hg ho hB,hst.2⟩,iJ.off hg ho hB hr⟩
theorem Pr.At.off {p:Pr} {aK aM:Option Addr} (hg:Ad g w) (ho:zO g w w') (hs:w.heap.size<=w'.heap.size) (h:p.At w aK aM):p.At w' aK aM:=
 ⟨h.1,h.2.1,(h.2.2.1.off hg ho (aB _)).mono hs,(h.2.2.2.off hg ho (aB _)).mono hs⟩
theorem zO.trans {w1:World} (h:zO g w w1) (hs:w.heap.size<=w1.heap.size) (h1:zO g w1 w'):zO g w w':=λb hb hl o=>(h1 b hb (aG hl hs) o).trans (h b hb hl o)
theorem zO.set (w:World) (g j:Nat) (v:Value):zO g w (w.setCell ⟨g,j,none⟩ v):=λb hb _ o=>
 World.cell?_of_block (a:=⟨b,o,none⟩) (bf w ⟨g,j,none⟩ v rfl (by show g≠b;exact λe=>hb e.symm))
theorem Ad.of {cs:Array Value} {t:TypeId} {fr:Nat×Nat} (h:w.heap[g]? =some (.cells cs t fr)) (hc:(cs.toList.all λv=>match v with| .int _ _=>false| .string _=>false|_=>true)=true):Ad g w:=by
 have key: ∀o v,w.cell? ⟨g,o,none⟩=some v->(match v with| .int _ _=>false| .string _=>false|_=>true)=true:=λo v e=>by rw[cell_of_row w g o cs t fr h]at e;rw[List.all_eq_true]at hc;exact hc v (by have:=Array.mem_of_getElem? e;simpa using this)
 intro o;refine⟨λk n e=> ?_,λs e=> ?_⟩
 ·have:=key o _ e;cases this
 ·have:=key o _ e;cases this
end
end Md
open Md Pz
def PaO (p:Pr) (w:World) (e:Ending) (w':World):Prop:= ∃aK aH aM aD,e= .returned (.tuple #[.agg #[.slice aK p.ds.length aH,.slice aM p.ts.length aD],.int .i64 0,.int .i64 0])∧p.At w' aK aM∧Below w.heap.size w w'
theorem Ye (w:World) (eH:eG w):Calls Tryz.prog 38 #[.string ⟨#[118,97,114,32,120,32,61,32,50,59,32,118,97,114,32,113,91,50,93,59,32,109,117,116,101,120,32,109,59,32,99,111,110,100,32,99,32,109,59,32,114,119,108,111,99,107,32,114,59,32,102,117,116,117,114,101,32,102,59,32,116,104,114,101,97,100,32,116,40,97,41,32,123,32,108,111,99,107,32,109,32,123,32,120,32,61,32,113,91,97,93,59,32,125,32,125,32,116,104,114,101,97,100,32,117,40,41,32,123,32,125]⟩] w (PaO nk w):=
 Zp ⟨#[118,97,114,32,120,32,61,32,50,59,32,118,97,114,32,113,91,50,93,59,32,109,117,116,101,120,32,109,59,32,99,111,110,100,32,99,32,109,59,32,114,119,108,111,99,107,32,114,59,32,102,117,116,117,114,101,32,102,59,32,116,104,114,101,97,100,32,116,40,97,41,32,123,32,108,111,99,107,32,109,32,123,32,120,32,61,32,113,91,97,93,59,32,125,32,125,32,116,104,114,101,97,100,32,117,40,41,32,123,32,125]⟩ w eH (by decide) nk (by decide+kernel) src_ok aS3 (λR wr h=>ad9 R wr h) rfl
theorem VJ {p:Pr} (Sj:aj (∀w,eG w->Calls Tryz.prog 38 #[.string ⟨#[118,97,114,32,120,32,61,32,50,59,32,118,97,114,32,113,91,50,93,59,32,109,117,116,101,120,32,109,59,32,99,111,110,100,32,99,32,109,59,32,114,119,108,111,99,107,32,114,59,32,102,117,116,117,114,101,32,102,59,32,116,104,114,101,97,100,32,116,40,97,41,32,123,32,108,111,99,107,32,109,32,123,32,120,32,61,32,113,91,97,93,59,32,125,32,125,32,116,104,114,101,97,100,32,117,40,41,32,123,32,125]⟩] w (PaO p w))) (w:World) (eH:eG w):
 Calls Tryz.prog 20 #[] w λe w'=> ∃aK aH aM aD,e= .returned (.agg #[.slice aK p.ds.length aH,.slice aM p.ts.length aD])∧p.At w' aK aM∧Below w.heap.size w w':=by
 have jK:=ah eH;clear eH;go_enter Tryz.func20,Tryz.ntmps20;go_upto_region 1 with fail;generalize hW:World.alloc w _=W1;obtain⟨rb,hrb,HB,-,HX,-⟩:=oO hW;have HRB:=ah hrb;rw[hrb];clear hW hrb;go_wp2_with fail;refine(Sj.o W1 (jK.o.same HB.o)).mono ?_;rintro e w1 ⟨aK,aH,aM,aD,rfl,hat,hb⟩;have HB1:=ah (HB.o.trans (hb.mono HB.o.size));have Ea:=jl hb HX;have HAT:=ah hat;clear hat hb Sj HX;go_upto_region 2 with fail;generalize hW:World.alloc w1 _=w2;obtain⟨pb,hpb,HB2,-,Ki,-⟩:=oO hW;rw[hpb];clear hW hpb;have vw:=jl HB2.o Ea;obtain⟨y0,y1⟩:=pK Ki.o;obtain⟨z0,z1⟩:=pK vw.o;have f0:=bH (o:=0) vw.o;have f1:=bH (o:=1) vw.o;have hlt:rb<w2.heap.size:=(aO vw.o);have HFN:aj (∀W,(w2.setCell ⟨rb,0,none⟩ (.slice aK p.ds.length aH)).setCell ⟨rb,1,none⟩ (.slice aM p.ts.length aD)=W->p.At W aK aM∧Below w.heap.size w W):=ah (λW hW=>by subst hW;have hA:=HAT.o.same HB2.o;have hr:=HRB.o;exact⟨hA.off (Ad.of vw.o rfl) ((zO.set w2 _ _ _).trans (by simp[World.setCell]) (zO.set _ _ _ _)) (by simp[World.setCell]),pJ (pJ (HB1.o.trans (HB2.o.mono HB1.o.size)) _ _ (by simp;omega)) _ _ (by simp;omega)⟩);go_wp2_with fail;exact bodyPost_ret (v:= .agg #[.slice aK p.ds.length aH,.slice aM p.ts.length aD]) (by simp[results,Tryz.results20,go_sem,z0,z1,hlt]) rfl (by obtain⟨e2,e3⟩:=HFN.o _ rfl;exact⟨aK,aH,aM,aD,rfl,e2,e3⟩)
theorem WM (w:World) (eH:eG w):
 Calls Tryz.prog 7 #[] w λe w'=>e= .returned (.bool true)∧Below w.heap.size w w':=by
 obtain⟨t,u,v,h0,hfit,hco,h6,hts,hwt,hv,hvw⟩:=af4;have HSA:=ah (λw h=>VJ (ah Ye) w h);generalize nk=p at *;rw[hco]at hv;have jK:=ah eH;have H0:=ah h0;have HF:=ah hfit;have HCO:=ah hco;have qx:=ah hts;have HV:=ah hv;have HVW:=ah hvw;have H6:=ah h6;have zM:=ah hwt;clear h0 hfit hco hts eH hv hvw h6 hwt;go_enter Tryz.func7,Tryz.ntmps7;go_wp2_with fail;refine(HSA.o w jK.o).mono ?_;rintro e w1 ⟨aK,aH,aM,aD,rfl,hat,hb⟩;have HAT:=ah hat;have HB:=ah hb;clear hat hb HSA;go_wp2_with fail;refine(IW p w1 aK aM aH aD HAT.o (jK.o.same HB.o) HF.o H0.o).mono ?_;rintro e w3 ⟨s,aoc,Zz,rfl,hwo,htc,-,hb3⟩;rw[HCO.o]at htc;rw[qx.o];have HTC:=ah htc;have IG:=ah hwo;obtain⟨⟨b,off,fQ,eU,hao,hB,x0,x1,-,hfl⟩,-⟩:=htc;subst hao;have HB3:=ah (HB.o.trans (hb3.mono HB.o.size));have FT:=ah hB;rw[H6.o]at x1;clear hfl hwo hb3 hB;generalize jU p=W at *;clear HCO HF H0 qx HAT;go_upto_region 2 with fail;generalize hW:World.alloc w3 _=w4;obtain⟨cb,hcb,eF,-,HX,-⟩:=oO hW;rw[hcb];clear hW hcb;have Dw:=ah (HB3.o.trans (eF.o.mono HB3.o.size));have Ph:=ah (IG.o.same eF.o);have UA:aj (kM w4 w4.heap.size [t,u] (some ⟨b,off,none⟩) 0):=ah (Yv HTC.o eF.o);obtain⟨g0,g1,g2,g3,g4,g5,g6⟩:=IV HX.o;have X1:w4.cell? ⟨b,off+1,none⟩=some (.slice fQ 6 eU):=(eF.o.cell (p:=⟨b,_,none⟩) FT.o).trans x1;clear x0 x1;have HVA:aj (Calls Tryz.prog 21 #[.agg #[.slice s.aC W.cs.length s.cC,.slice s.aL W.ls.length s.cL,.slice s.aN W.ns.length s.cN,.slice s.aF W.fs.length s.cF,.slice s.aT W.ts.length s.cT,.slice s.aS W.ss.length s.cS,.slice (some ⟨b,off,none⟩) 2 Zz]] w4 λe w'=>e= .returned (.bool true)∧Below w4.heap.size w4 w'):=ah (ag2 (W:=W) (s:=s) (l:=[t,u]) Ph.o (jK.o.same Dw.o) HVW.o UA.o (by rw[zM.o];rfl) HV.o);go_wp2_with fail;refine HVA.o.mono ?_;rintro e w5 ⟨rfl,hb5⟩;have nN:=ah hb5;have II:=jl hb5 HX;clear hb5 g0 g1 g2 g3 g4 g5 g6 X1;obtain⟨g0,g1,g2,g3,g4,g5⟩:=rE II.o;go_wp2_with fail;refine(FM (Ph.o.same nN.o) (jK.o.same (Dw.o.trans (nN.o.mono Dw.o.size))) HVW.o).mono ?_;rintro e w6 ⟨rfl,hb6⟩;have nO:=ah ((Dw.o.trans (nN.o.mono Dw.o.size)).trans (hb6.mono (aP Dw.o.size nN.o.size)));go_wp2_with fail;go_ret;exact⟨rfl,nO.o⟩
end Go.Proofs.YtmildapbbcbbhaaGreatDoor
