/- What is known of the sanity check's objects and code. No program in sight. And what hangs on it. -/
import Derived.Test.YtdoplekppjkkpaaGreatDoorGVD
import Derived.Test.YtdoplekppjkkpaaGreatDoorGRC
set_option linter.unusedSimpArgs false
set_option linter.unusedVariables false
set_option maxHeartbeats 40000000
set_option maxRecDepth 1000000
namespace Go.Proofs.YtdoplekppjkkpaaGreatDoor
open Go.RowKit
namespace Md
abbrev LkE (W:Wo) (i:Int):Prop:=0<=i∧W.ls[i.toNat]?.map (·.rw)=some false
abbrev ScE (W:Wo) (i:Int):Prop:=0<=i∧W.cs[i.toNat]?.map (·.sz)=some 0
abbrev AyE (W:Wo) (i:Int):Prop:=0<=i∧W.cs[i.toNat]?.map (λc=>(c.ix,c.sz))=some (0,2)
theorem P9 {α β:Type} {l:List α} {f:α->β} {i:Int} {q:β} (h:0<=i∧l[i.toNat]?.map f=some q): ∃(k:Nat) (x:α),i=k∧k<l.length∧l[k]? =some x∧f x=q:=by
 obtain⟨k,rfl⟩:=Int.eq_ofNat_of_zero_le h.1;obtain⟨x,hx,hq⟩:=Option.map_eq_some_iff.1 h.2;exact⟨k,x,rfl,(List.getElem?_eq_some_iff.1 hx).1,hx,hq⟩
structure VwE (W:Wo):Prop where
 ts:W.ts.length<=4
 wk:NY W
 vw:vW W=true
theorem LkE.lk {W:Wo} {i:Int} (h:LkE W i):pY W i false=true:=by
 obtain⟨k,x,rfl,hk,hx,hr⟩:=P9 h;unfold pY yP;rw[Int.toNat_natCast,hx];simp[hk,hr]
theorem ScE.sc {W:Wo} {i:Int} (h:ScE W i):Rx W i=true:=by
 obtain⟨k,x,rfl,hk,hx,hr⟩:=P9 h;unfold Rx yP;rw[Int.toNat_natCast,hx];simp[hk,hr]
theorem AyE.ay {W:Wo} {i:Int} (h:AyE W i):Qs W i 2=true:=by
 obtain⟨k,x,rfl,hk,hx,hr⟩:=P9 h;injection hr with h1 h2;unfold Qs yP;rw[Int.toNat_natCast,hx];simp[hk,h1,h2]
abbrev OpE (W:Wo) (i:dS):Prop:=(i.op=2∨i.op=28)∨((i.op=11∨i.op=12)∧LkE W i.a)∨(i.op=8∧ScE W i.a)∨(i.op=7∧AyE W i.b∧i.n=2)
abbrev StE (W:Wo) (th i:Int):Prop:=0<=i∧W.ss[i.toNat]?.map (·.th)=some th
abbrev InE (W:Wo) (th n regs k:Int) (i:dS) (r:List dS):Prop:=
 ((i.op=28∧k=n -1∧i.st= -1)∨(i.op≠28∧k≠n -1∧StE W th i.st))∧(∀x∈kR i,0<=x∧x<regs)∧OpE W i∧(i.op=2->(r.map (·.op)).headD 2≠2)
def Iu (W:Wo) (th n regs:Int):Int->List dS->Bool
 |_,[]=>true
 |k,i::r=>decide (InE W th n regs k i r)&&Iu W th n regs (k+1) r
def thE (W:Wo) (th:Int) (t:Gb):Bool:=decide ((0<=t.regs∧t.regs<=32)∧1<=t.is.length∧t.is.length<=100)&&Iu W th t.is.length t.regs 0 t.is
def Ng (W:Wo):Int->List Gb->Bool
 |_,[]=>true
 |k,t::r=>thE W k t&&Ng W (k+1) r
end Md
open Go.RowKit Md Pz
def U0:aZ->Bool
 | .nil=>true
 | .cons h b e r=>decide (Md.jB h<=300000)&&(U0 b&&(U0 e&&U0 r))
theorem Lx: ∀l:aZ,U0 l=true->l.Ev (λh=>Md.jB h<=300000)
 | .nil,_=>trivial
 | .cons h b e r,hs=>by unfold U0 at hs;simp only[aP,decide_eq_true_eq]at hs;exact⟨hs.1,Lx b hs.2.1,Lx e hs.2.2.1,Lx r hs.2.2.2⟩
def ab0 (p:Pr):Bool:=decide (Ea p.ts<=100000000000)&&p.ts.all (λt=>U0 t.body)
theorem ab1 {p:Pr} (h:ab0 p=true):Fit p:=by
 unfold ab0 at h;simp only[aP,decide_eq_true_eq,List.all_eq_true]at h;exact⟨h.1,λt ht=>Lx _ (h.2 t ht)⟩
def aV3:Bool:=(ko nO).1==0&&(ab0 nO&&((EU (ng nO) nO.ts 0).map (λt=>t.is.length)== [6,1]&&(nO.ts.length==2&&((ng nO).ts.length==2&&Ng (ng nO) 0 (EU (ng nO) nO.ts 0)))))
theorem aZ7:aV3=true:=agX
theorem aV7:VwE (ng nO) where
 ts:=agX
 wk:=⟨agX,agX,agX⟩
 vw:=agX
theorem ah9: ∃t u,(ko nO).1=0∧Fit nO∧EU (ng nO) nO.ts 0=[t,u]∧t.is.length=6∧nO.ts.length=2∧(ng nO).ts.length=2∧Ng (ng nO) 0 (EU (ng nO) nO.ts 0)=true∧VwE (ng nO):=by
 have h:=aZ7;have hv:=aV7;unfold aV3 at h;generalize nO=p at h hv⊢;simp only[aP,beq_iff_eq]at h;obtain⟨h1,h2,h3,h4,h5,h6⟩:=h;generalize hc:EU (ng p) p.ts 0=c at h3 h6;rcases c with _|⟨t,_|⟨u,_|⟨_,_⟩⟩⟩ <;> simp at h3;exact⟨t,u,h1,ab1 h2,rfl,h3.1,h4,h5,h6,hv⟩
open Md
theorem OI {i n:Int} (h0:0<=i) (h1:i<n) (w:World):Calls Tryz.prog 34 #[.int .i64 i,.int .i64 n] w λe w'=>e= .returned (.bool true)∧w=w':=by
 have h:=Mq i n w
 rwa [show yP i n=true by simp[yP,h0,h1]]at h
section
variable {W:Wo} {s:jS} {i:Int} {w:World}
theorem Yl (hw:iP w w.heap.size W s) (h:LkE W i):Calls Tryz.prog 19 #[nD W s,.int .i64 i,.bool false] w λe w'=>e= .returned (.bool true)∧Below w.heap.size w w':=by
 have hl:=LY W s i false w hw
 rwa [h.lk]at hl
theorem SG (hw:iP w w.heap.size W s) (h:ScE W i):Calls Tryz.prog 102 #[nD W s,.int .i64 i] w λe w'=>e= .returned (.bool true)∧Below w.heap.size w w':=by
 have hl:=R9 W s i w hw
 rwa [h.sc]at hl
theorem VE (hw:iP w w.heap.size W s) (h:AyE W i):Calls Tryz.prog 103 #[nD W s,.int .i64 i,.int .i64 2] w λe w'=>e= .returned (.bool true)∧Below w.heap.size w w':=by
 have hl:=SF W s i 2 w hw
 rwa [h.ay]at hl
theorem KL (n:Int) (x:dS) (hw:iP w w.heap.size W s) (h:OpE W x):
 Calls Tryz.prog 70 #[nD W s,.int .i64 n,Ue x] w λe w'=>e= .returned (.bool true)∧Below w.heap.size w w':=by
 obtain⟨op,a,b,c,m,st⟩:=x;have HW:=ah hw;clear hw;unfold nD Ue;go_enter Tryz.func70,Tryz.ntmps70;go_upto_region 1 with fail;generalize hW:World.alloc (World.alloc w _) _=W1;obtain⟨nb,hnb,fC,HB,EF,oV,HS⟩:=al2 hW;rw[hnb]at HW;have WW:aj (iP W1 W1.heap.size W s):=ah (by have h:=HB.o;rw[<- hnb]at h HW;exact HW.o.same h);rw[hnb];clear hW hnb HW;obtain⟨c0,c1,c2,c3,c4,c5⟩:=uj EF.o;obtain⟨x0,x1,x2,x3,x4,x5⟩:=uj oV.o;clear EF oV
 try dsimp only at h
 rcases h with(rfl|rfl)|⟨rfl|rfl,h⟩|⟨rfl,h⟩|⟨rfl,h,rfl⟩
 all_goals
  go_wp2_with fail
  first
   |(go_ret;exact⟨rfl,by rw[fC.o];exact HB.o⟩)
   |(refine Calls.mono (by first|exact Yl WW.o h|exact SG WW.o h|exact VE WW.o h) ?_;rintro e w2 ⟨rfl,hb⟩;go_wp2_with fail;go_ret;exact⟨rfl,by rw[fC.o];exact HB.o.trans (hb.mono (by have:=HS.o;omega))⟩)
end
theorem Ic (b off cap n k:Nat) (op:Int) (w:World) (hk:k<n) (hn:n<=100) (z0:w.cell? ⟨b,off+k*6,none⟩=some (.int .i64 op)) (h5:(op==5)=false):
 Calls Tryz.prog 105 #[.slice (some ⟨b,off,none⟩) n cap,.int .i64 k] w λe w'=>e= .returned (.int .i64 ((k+1:Nat):Int))∧w=w':=by
 have k0:(0:Int)<=(k:Int):=agH
 have k1:(k:Int)<(n:Int):=agH
 have hwr:IntKind.i64.wrap ((k:Int)+1)=(k:Int)+1:=IntWalk.i64_in _ agH;go_enter Tryz.func105,Tryz.ntmps105;go_wp2_with fail;go_ret;exact⟨by first|rfl|simp[hwr],rfl⟩
def uz (w:World) (g:Nat) (G:List Bool):Prop:=w.heap[g]? =some (.cells (G.map Value.bool).toArray 4 (0,0))
theorem uz.cell {w:World} {g c:Nat} {G:List Bool} {q:Bool} (h:uz w g G) (hc:G[c]? =some q):w.cell? ⟨g,c,none⟩=some (.bool q):=aQ h (by simp[hc])
theorem uz.set {w:World} {g:Nat} {G:List Bool} (h:uz w g G) (c:Nat) (q:Bool):uz (w.setCell ⟨g,c,none⟩ (.bool q)) g (G.set c q):=qy h _ (by simp[List.map_set])
theorem uz.far {w:World} {g g':Nat} {G:List Bool} (h:uz w g G) (hne:g'≠g) (c:Nat) (v:Value):uz (w.setCell ⟨g',c,none⟩ v) g G:=(bg _ _ _ rfl hne).trans h
theorem aX9:(Tryz.prog.info? 4).map (λi=>(i.zero,i.size,i.bytes))=some (some (.bool false),1,1):=agG
theorem VK (n:Nat):madeCells (Value.bool false).cells (n*1)=((List.replicate n false).map Value.bool).toArray:=by
 rw[Nat.mul_one];apply Array.ext
 ·simp[madeCells]
 ·intro i h1 h2;simp[madeCells,Value.cells,Nat.mod_one]
theorem ae5 (n:Nat) (hn:n<=100) (w:World):
 (Instr.makeSlice 171 (.int .i64 (n:Int)) (.int .i64 (n:Int))).run Tryz.prog w= .ok (.slice (some ⟨w.heap.size,0,none⟩) n n) (w.alloc (.cells ((List.replicate n false).map Value.bool).toArray 4)):=by
 obtain⟨i0,hi0,hz0,hz1,hz2⟩:=BR aX9;have hr:=run_make (P:=Tryz.prog) w 171 4 i0 (.bool false) Tryz.underlying171 hi0 hz0 .i64 .i64 n n agH agH (by rw[hz2];omega) agH;simp only[Int.toNat_natCast]at hr;rw[hz1,VK]at hr;exact hr
theorem YA {W:Wo} {x:dS} (h:OpE W x) (h2:x.op≠2):KF x.op=false:=by
 unfold KF;simp only[Bool.and_eq_false_iff,decide_eq_false_iff_not];rcases h with(h|h)|⟨h|h,-⟩|⟨h,-⟩|⟨h,-⟩ <;> omega
def Off (n k:Nat) (G:List Bool):Prop:= ∀j,k<=j->j<n->G[j]? =some false
theorem Off.set {n k:Nat} {G:List Bool} (h:Off n k G):Off n (k+1) (G.set k true):=λj h1 h2=>by
 rw[List.getElem?_set_ne agH];exact h j agH h2
theorem Sm {W:Wo} {th n regs:Int} {l:List dS} (h:Iu W th n regs 0 l=true) (w:World) (ao:Option Addr) (cap:Nat) (hl:l.length<=100) (hw:gG pz 6 w w.heap.size l ao 0):
 Calls Tryz.prog 71 #[.slice ao l.length cap] w λe w'=>e= .returned (.bool true)∧Below w.heap.size w w':=by
 have HO:=ah h;have HW:=ah hw;have hmk:=ae5 l.length hl;clear h hw;go_enter Tryz.func71,Tryz.ntmps71;go_wp2_with fail;generalize hW:World.alloc (World.alloc w _) _=w2;obtain⟨gb,hgb,Eu,HB,HG,HS,-⟩:=al2 hW;have hrp:((List.replicate l.length false).map Value.bool).toArray=Array.replicate l.length (Value.bool false):=agJ
 have hG:uz w2 gb (List.replicate l.length false):=by unfold uz;rw[hrp];exact HG.o
 have hS:uz w2 (gb+1) (List.replicate l.length false):=by unfold uz;rw[hrp];exact HS.o
 have HF:aj (gG pz 6 w2 gb l ao 0):=ah (by have:=HW.o;rw[hgb]at this;exact this.below HB.o);rw[hgb];clear hW hmk HW hgb hrp;go_loopw [5,6,15] (λ_ _ v15 wr=> ∃(k:Nat) (R:List dS) (G S:List Bool),v15= .int .i64 k∧k+R.length=l.length∧uz wr gb G∧uz wr (gb+1) S∧Off l.length k G∧Off l.length k S∧Iu W th n regs k R=true∧gG pz 6 wr gb R ao k∧Below gb w wr) (λ_ _ i _=>l.length -(intOf i).toNat)
 case atStart=>exact⟨0,l,_,_,rfl,agJ,hG,hS,λj _ h=>aeE,λj _ h=>aeE,HO.o,HF.o,HB.o⟩
 case round=>
  obtain⟨k,R,G,S,rfl,hlen,hg,hs,og,os,hi,hf,hb⟩:=hrel;have rQ:=ah hg;have HSR:=ah hs;have HOG:=ah og;have HOS:=ah os;have HB1:=ah hb;clear hg hs og os hb HG HS HF HB HO hG hS;cases R with
  |nil=>
   obtain rfl:k=l.length:=aeQ
   go_wp2_with fail;go_ret;exact⟨rfl,by rw[Eu.o];exact HB1.o⟩
  |cons x R=>
   obtain⟨⟨b,off,rfl,hb1,hcs⟩,hf⟩:=hf;rw[Iu,aP,decide_eq_true_eq]at hi;obtain⟨⟨-,-,hop,hnx⟩,hi⟩:=hi;simp only[aD]at hlen;have z0:wr.cell? ⟨b,off+k*6,none⟩=some (.int .i64 x.op):=hcs 0 _ rfl;have k0:(0:Int)<=(k:Int):=agH
   have k1:(k:Int)<(l.length:Int):=agH
   have HFR:=ah hf;have HI:=ah hi;by_cases h2:x.op=2
   ·cases R with
    |nil=>exact absurd rfl (hnx h2)
    |cons y R=>
     obtain⟨⟨b',off',e,-,hcy⟩,-⟩:=hf;injection e with e;injection e with e1 e2;subst e1 e2;rw[Iu,aP,decide_eq_true_eq]at hi;have hsy:KF y.op=false:=YA hi.1.2.2.1 (hnx h2);simp only[aD]at hlen;have y0:wr.cell? ⟨b,off+(k+1)*6,none⟩=some (.int .i64 y.op):=hcy 0 _ rfl;have k2:(0:Int)<=((k+1:Nat):Int):=agH;have k3:((k+1:Nat):Int)<(l.length:Int):=agH;have hsx:KF x.op=true:=(by rw[h2];rfl);have h5:(x.op==5)=false:=(by rw[h2];rfl);have q0:=rQ.o.cell (HOG.o k (aB _) agH);have q1:=HSR.o.cell (HOS.o k (aB _) agH);have f0:wr.frozen? ⟨gb,k,none⟩=false:=bK rQ.o;have f1:wr.frozen? ⟨gb+1,k,none⟩=false:=bK HSR.o;have HZ:=ah (aI hb1 (aI z0 y0));clear hop hnx hi hcs hcy h2;go_upto_region 7 with fail;refine wp_loop_rounds 2 ?_;rw[rounds_succ];go_wp2_with fail;refine(rZ x.op wr).mono ?_;rintro e w3 ⟨rfl,rfl⟩;rw[hsx];go_upto_region 11 with fail;generalize hW:World.setCell wr _ _=w4;have HBs:aj (Below gb wr w4):=ah (by rw[<- hW];exact cK (bU _ _ _) (jl _) (bH (aO rQ.o)));have NA:aj (uz w4 gb G):=ah (by rw[<- hW];exact rQ.o.far (Nat.succ_ne_self _) _ _);have GN:aj (uz w4 (gb+1) (S.set k true)):=ah (by rw[<- hW];exact HSR.o.set k true);have z1:=(HBs.o.cell (p:=⟨b,_,none⟩) hb1).trans z0;have y1:=(HBs.o.cell (p:=⟨b,_,none⟩) hb1).trans y0;have q2:=NA.o.cell (HOG.o k (aB _) agH);have f2:w4.frozen? ⟨gb,k,none⟩=false:=bK NA.o;clear hW z0 y0 q0 q1 f0 f1;go_wp2_with fail;refine(Ic b off cap l.length k x.op w4 agH hl z1 h5).mono ?_;rintro e w5 ⟨rfl,rfl⟩;go_wp2_with fail;rw[rounds_succ];go_wp2_with fail;refine(rZ y.op w4).mono ?_;rintro e w5 ⟨rfl,rfl⟩;rw[hsy];go_upto_region 13 with fail;refine wp_loop_rounds 2 ?_;rw[rounds_succ];go_wp2_with fail;refine(rZ x.op w4).mono ?_;rintro e w5 ⟨rfl,rfl⟩;rw[hsx];go_upto_region 14 with fail;generalize hW:World.setCell w4 _ _=w6;have HBt:aj (Below gb w4 w6):=ah (by rw[<- hW];exact cK (bU _ _ _) (aB _) (bH (aO NA.o)));have KU:aj (uz w6 gb (G.set k true)):=ah (by rw[<- hW];exact NA.o.set k true);have sH:aj (uz w6 (gb+1) (S.set k true)):=ah (by rw[<- hW];exact GN.o.far (λe=>Nat.succ_ne_self _ e.symm) _ _);have z2:=(HBt.o.cell (p:=⟨b,_,none⟩) hb1).trans z1;have y2:=(HBt.o.cell (p:=⟨b,_,none⟩) hb1).trans y1;clear hW z1 y1 q2 f2;go_wp2_with fail;refine(Ic b off cap l.length k x.op w6 agH hl z2 h5).mono ?_;rintro e w5 ⟨rfl,rfl⟩;go_wp2_with fail;rw[rounds_succ];go_wp2_with fail;refine(rZ y.op w6).mono ?_;rintro e w5 ⟨rfl,rfl⟩;rw[hsy];go_wp2_with fail;go_roundw
     case rel=>exact⟨k+1,y::R,_,_,agL,agK,KU.o,sH.o,HOG.o.set,HOS.o.set,HI.o,HFR.o.below (HBs.o.trans HBt.o),HB1.o.trans (HBs.o.trans HBt.o)⟩
     case measure=>simp[intOf];omega
   ·have hsx:KF x.op=false:=YA hop h2;clear hop hnx hi hf hcs;go_upto_region 7 with fail;refine wp_loop_rounds 1 ?_;rw[rounds_succ];go_wp2_with fail;refine(rZ x.op wr).mono ?_;rintro e w3 ⟨rfl,rfl⟩;rw[hsx];go_upto_region 13 with fail;refine wp_loop_rounds 1 ?_;rw[rounds_succ];go_wp2_with fail;refine(rZ x.op wr).mono ?_;rintro e w3 ⟨rfl,rfl⟩;rw[hsx];go_wp2_with fail;go_roundw
    case rel=>exact⟨k+1,R,G,S,agL,agH,rQ.o,HSR.o,λj h1=>HOG.o j agH,λj h1=>HOS.o j agH,HI.o,HFR.o,HB1.o⟩
    case measure=>simp[intOf];omega
theorem Nn {W:Wo} {s:jS} {th:Int} {t:Gb} {gU:Option Addr} {gy:Nat} {w:World} (hw:iP w w.heap.size W s) (hf:gG pz 6 w w.heap.size t.is gU 0) (h:thE W th t=true):
 Calls Tryz.prog 44 #[nD W s,.int .i64 th,.agg #[.int .i64 t.regs,.slice gU t.is.length gy]] w λe w'=>e= .returned (.bool true)∧Below w.heap.size w w':=by
 obtain⟨regs,l⟩:=t;unfold thE at h;simp only[aP,decide_eq_true_eq]at h;obtain⟨⟨⟨r0,r1⟩,l0,l1⟩,hins⟩:=h;have HW:=ah hw;have HF0:aj (gG pz 6 w w.heap.size l gU 0):=ah hf;have HI:=ah hins;have hls:=hw.lS;unfold maxLen at hls;clear hw hf hins;dsimp only;unfold nD;go_enter Tryz.func44,Tryz.ntmps44;go_upto_region 1 with fail;generalize hW:World.alloc (World.alloc w _) _=W1;obtain⟨nb,hnb,fC,HB,EF,oV,mU⟩:=al2 hW;have WW:aj (iP W1 nb W s):=ah aaO;have HFF:aj (gG pz 6 W1 nb l gU 0):=ah (by have:=HF0.o;rw[hnb]at this;exact this.below HB.o);rw[hnb];clear hW hnb HW HF0;obtain⟨t0,t1⟩:=rU oV.o;have hA1: ¬regs<0:=agH
 have hA2: ¬32<regs:=agH
 have hA4:((l.length:Int)==0)=false:=acy
 go_wp2_with fail;go_loopw [7,8,10,28,78,79,80] (λ_ _ _ v28 _ _ _ wr=> ∃(k:Nat) (R:List dS),v28= .int .i64 k∧k+R.length=l.length∧Iu W th l.length regs k R=true∧gG pz 6 wr nb R gU k∧Below (nb+2) W1 wr) (λ_ _ _ v _ _ _ _=>l.length -(intOf v).toNat)
 case atStart=>exact⟨0,l,rfl,agJ,HI.o,HFF.o,au _ _⟩
 case round=>
  obtain⟨k,R,rfl,hlen,hi,hrow,hbel⟩:=hrel;have kI:=ah hbel;have aH4:=ah ((kI.o.block nb aff).trans EF.o);have ZH:=ah ((kI.o.block (nb+1) aff).trans oV.o);have xC:aj (Below nb w wr):=ah (HB.o.trans (kI.o.mono agH));have Q5:aj (iP wr nb W s):=ah (WW.o.below (kI.o.mono agH));have ou:aj (nb+2<=wr.heap.size):=ah acV;clear hbel t0 t1;obtain⟨t0,t1⟩:=rU ZH.o;cases R with
  |nil=>
   obtain rfl:k=l.length:=aeQ
   go_wp2_with fail;refine(Sm HI.o wr gU gy l1 ((HFF.o.below (kI.o.mono agH)).mono afc)).mono ?_;rintro e w3 ⟨rfl,hb3⟩;go_wp2_with fail;go_ret;exact⟨rfl,by rw[fC.o];exact xC.o.trans (hb3.mono afc)⟩
  |cons x R=>
   obtain⟨⟨b1,off,rfl,hb1,hcs⟩,hrest⟩:=hrow;simp only[aD]at hlen;rw[Iu,aP,decide_eq_true_eq]at hi;obtain⟨⟨hst,hrg,hop,-⟩,hi⟩:=hi;have hkl:k<l.length:=agH
   have x0:=hcs 0 _ rfl;have x1:=hcs 1 _ rfl;have x2:=hcs 2 _ rfl;have x3:=hcs 3 _ rfl;have x4:=hcs 4 _ rfl;have x5:=hcs 5 _ rfl;simp only[Nat.add_zero]at x0;have kL:=ah hrest;have TA:=ah hrg;have iO:=ah hop;have iA:=ah hi;have hp:1<=x.op∧x.op<=28:=by rcases hop with(h|h)|⟨h|h,-⟩|⟨h,-⟩|⟨h,-⟩ <;> omega
   clear hcs hrest hrg hi hop;go_upto_region 6 with fail;generalize hW2:World.alloc wr _=w2;obtain⟨ib,hib,PD,HB2,HXi,-⟩:=al1 hW2;have WA:aj (Below (nb+2) wr w2):=ah (HB2.o.mono (by have:=ou.o;have:=PD.o;omega));rw[hib];clear hW2 hib x0 x1 x2 x3 x4 x5 t0 t1;have bs4:=ah ((WA.o.block nb agH).trans aH4.o);have bs6:=ah ((WA.o.block (nb+1) agH).trans ZH.o);have HWi:aj (iP w2 nb W s):=ah (Q5.o.below (WA.o.mono agH));obtain⟨t0,t1⟩:=rU bs6.o;obtain⟨g0,g1,g2,g3,g4,g5⟩:=uj bs4.o;obtain⟨x0,x1,x2,x3,x4,x5⟩:=uj HXi.o;have hwn:IntKind.i64.wrap ((l.length:Int) -1)=(l.length:Int) -1:=IntWalk.i64_in _ agH;have h1: ¬x.op<1:=agH
   have h2: ¬28<x.op:=agH
   obtain⟨q,hq1,hq2,hq3,hq4⟩: ∃q,(x.op==28)=q∧((k:Int)==(l.length:Int) -1)=q∧(q=true->x.st= -1)∧(q=false->StE W th x.st):=by
    rcases hst with⟨h28,hk,h5⟩|⟨h28,hk,h5⟩
    ·exact⟨true,by rw[h28];rfl,by rw[beq_iff_eq];exact hk,λ_=>h5,λh=>ahh⟩
    ·exact⟨false,by rw[beq_eq_false_iff_ne];exact h28,by rw[beq_eq_false_iff_ne];exact hk,λh=>ahh,λ_=>h5⟩
   clear hst
   go_upto_if 55 with fail
   clear hq2 h1 h2 hwn hp;go_cut [66] (λ_ W3=>w2=W3)
   case first=>
    cases q
    ·obtain⟨j,y,hj,hjl,hy,hth⟩:=P9 (hq4 rfl);obtain⟨b5,bP1,aM2,hb5,aN1⟩:=HWi.o.ss.at j y hy;have z0:=aN1 0 _ rfl;simp only[hth,aU,Nat.add_zero]at z0;rw[aM2]at g5;rw[hj]at x5;have j0:(0:Int)<=(j:Int):=agH;have j1:(j:Int)<(W.ss.length:Int):=agH;clear aN1 hj hy aM2 hq3 hq4;go_wp2_with fail;refine(OI j0 j1 w2).mono ?_;rintro e w3 ⟨rfl,rfl⟩;go_wp2_with fail;go_meet;rfl
    ·rw[hq3 rfl]at x5;clear hq3 hq4;go_wp2_with fail;go_meet;rfl
   subst hcut;clear hq1 hq3 hq4 t0 t1 g0 g1 g2 g3 g4 g5;have HR:aj (∀r∈kR x,bY r):=ah (λr hr=>by have:=TA.o r hr;unfold bY;omega);go_wp2_with fail;refine(Oc x w2 HR.o).mono ?_;rintro e w3 ⟨ao3,MP,rfl,hin,hb3,-⟩;have aM7:Below (nb+2) w2 w3:=hb3.mono (aJ ou.o WA.o.size);have bp8:=ah hin;have uF:aj (Below (nb+2) wr w3):=ah (WA.o.trans aM7);have bs5:=ah ((uF.o.block nb agH).trans aH4.o);have bs7:=ah ((uF.o.block (nb+1) agH).trans ZH.o);have bs8:=ah ((hb3.block ib (aO HXi.o)).trans HXi.o);have PZ:aj (nb+2<=w3.heap.size):=ah (aJ ou.o uF.o.size);have HL3:aj ((kR x).length<=3):=ah adP;clear hin hb3 aM7 x0 x1 x2 x3 x4 x5;generalize kR x=rs at *;go_wp2_with fail;obtain⟨wI,Yg⟩: ∃W:World,W=wr:=⟨_,rfl⟩;subst Yg;go_loopw [10,80] (λ_ i wq=> ∃(j:Nat) (S:List Int),i= .int .i64 j∧j+S.length=rs.length∧(∀r∈S,0<=r∧r<regs)∧iq wq wq.heap.size S ao3 j∧wq=w3) (λ_ i _=>rs.length -(intOf i).toNat)
   case atStart=>exact⟨0,rs,rfl,agJ,TA.o,bp8.o,rfl⟩
   case round=>
    obtain⟨j,S,rfl,BP,hrs,hin2,rfl⟩:=hrel;have h3:=HL3.o;obtain⟨t0,t1⟩:=rU bs7.o;cases S with
    |nil=>
     obtain rfl:j=rs.length:=(by simpa using BP);obtain⟨g0,g1,g2,g3,g4,g5⟩:=uj bs5.o;obtain⟨x0,x1,x2,x3,x4,x5⟩:=uj bs8.o;go_wp2_with fail;refine(KL l.length x ((Q5.o.below (uF.o.mono agH)).mono (by have:=PZ.o;omega)) iO.o).mono ?_;rintro e w4 ⟨rfl,hb4⟩;have dR:aj (Below (nb+2) wI w4):=ah (uF.o.trans (hb4.mono PZ.o));clear hb4 g0 g1 g2 g3 g4 g5 x0 x1 x2 x3 x4 x5 t0 t1;go_wp2_with fail;go_roundw
     case rel=>exact⟨k+1,R,agL,agH,iA.o,kL.o.below (dR.o.mono agH),kI.o.trans dR.o⟩
     case measure=>simp[intOf];omega
    |cons r S=>
     obtain⟨⟨b4,bz6,rfl,hb4,y0⟩,Iq⟩:=hin2;simp only[aD]at BP;have hjl:j<rs.length:=agH;have HR4:=ah Iq;have br5:=ah (λr h=>hrs r (aY _ h));obtain⟨q0,q1⟩:=hrs r aX;clear Iq hrs;go_wp2_with fail;refine(OI q0 q1 wr).mono ?_;rintro e w5 ⟨rfl,rfl⟩;go_wp2_with fail;go_roundw
     case rel=>exact⟨j+1,S,agL,agH,br5.o,HR4.o,trivial⟩
     case measure=>simp[intOf];omega
theorem Fa:Xa:=OU Nk
theorem Gp {W:Wo} {s:jS} {w:World} (hw:iP w w.heap.size W s) (eG:dW w) (h:VwE W):
 Calls Tryz.prog 6 #[nD W s] w λe w'=>e= .returned (.bool true)∧Below w.heap.size w w':=by
 have hv:=Fa W s w hw eG h.wk
 rwa [h.vw]at hv
theorem zM {w w':World} {B:Nat} (hb:Below B w w'): ∀ {l:List Gb} {ao:Option Addr} {k:Nat},zi w B l ao k->zi w' B l ao k
 | [],_,_,_=>trivial
 |_::_,_,_,⟨⟨b,off,gU,gy,e,hB,x0,x1,hl,hf⟩,hr⟩=>⟨⟨b,off,gU,gy,e,hB,(hb.cell (p:=⟨b,_,none⟩) hB).trans x0,(hb.cell (p:=⟨b,_,none⟩) hB).trans x1,hl,hf.below hb⟩,zM hb hr⟩
theorem OB {w:World} {B B':Nat} (hB:B<=B'): ∀ {l:List Gb} {ao:Option Addr} {k:Nat},zi w B l ao k->zi w B' l ao k
 | [],_,_,_=>trivial
 |_::_,_,_,⟨⟨b,off,gU,gy,e,hb,x0,x1,hl,hf⟩,hr⟩=>⟨⟨b,off,gU,gy,e,aR hb hB,x0,x1,hl,hf.mono hB⟩,OB hB hr⟩
theorem YU {w w':World} {l:List Gb} {ao:Option Addr} {k:Nat} (h:zi w w.heap.size l ao k) (hb:Below w.heap.size w w'):zi w' w'.heap.size l ao k:=OB hb.size (zM hb h)
theorem ai8 {W:Wo} {s:jS} {l:List Gb} {aot:Option Addr} {cap:Nat} {w:World} (hw:iP w w.heap.size W s) (eG:dW w) (h:VwE W) (hc:zi w w.heap.size l aot 0) (hl:l.length=W.ts.length) (ht:Ng W 0 l=true):
 Calls Tryz.prog 26 #[.agg #[.slice s.aC W.cs.length s.cC,.slice s.aL W.ls.length s.cL,.slice s.aN W.ns.length s.cN,.slice s.aF W.fs.length s.cF,.slice s.aT W.ts.length s.cT,.slice s.aS W.ss.length s.cS,.slice aot l.length cap]] w λe w'=>e= .returned (.bool true)∧Below w.heap.size w w':=by
 have HW:=ah hw;have jX:=ah eG;have HC:=ah hc;have HT:=ah ht;have HV:=ah h;have h4:=h.ts;rw[<- hl]at h4⊢;clear hw eG hc ht h;go_enter Tryz.func26,Tryz.ntmps26;go_upto_region 1 with fail;generalize hW:World.alloc w _=W1;obtain⟨nb,hnb,fC,HB,HX,mU⟩:=al1 hW;have HW1:aj (iP W1 nb W s):=ah aaO;have Gy:aj (zi W1 nb l aot 0):=ah (by have:=HC.o;rw[hnb]at this;exact zM HB.o this);have uG:aj (dW W1):=ah abN;rw[hnb];clear hW hnb HW HC;obtain⟨g0,g1,g2,g3,g4,g5⟩:=uj HX.o;go_wp2_with fail;rw[hl];refine(Gp (HW1.o.mono aff) uG.o HV.o).mono ?_;rintro e w2 ⟨rfl,hb2⟩;have HB2:aj (Below (nb+1) W1 w2):=ah (by rw[<- mU.o];exact hb2);have oV:=ah ((HB2.o.block nb (Nat.lt_succ_self _)).trans HX.o);clear hb2 g0 g1 g2 g3 g4 g5;obtain⟨-,-,-,-,g4,-⟩:=uj oV.o;have g6:=aQ (j:=6) oV.o rfl;simp only[List.getElem_toArray,List.getElem_cons_zero,List.getElem_cons_succ]at g6;go_wp2_with fail;go_loopw [3,4,22] (λ_ _ v wr=> ∃(k:Nat) (R:List Gb),v= .int .i64 k∧k+R.length=l.length∧Ng W k R=true∧zi wr nb R aot k∧Below (nb+1) W1 wr) (λ_ _ v _=>l.length -(intOf v).toNat)
 case atStart=>exact⟨0,l,rfl,agJ,HT.o,zM (HB2.o.mono (jl _)) Gy.o,HB2.o⟩
 case round=>
  obtain⟨k,R,rfl,hlen,hth,hrow,hbel⟩:=hrel;have kI:=ah hbel;have oI:=ah ((kI.o.block nb (Nat.lt_succ_self _)).trans HX.o);have xC:aj (Below nb w wr):=ah (HB.o.trans (kI.o.mono (jl _)));have ou:aj (nb+1<=wr.heap.size):=ah acV;clear hbel g4 g6;cases R with
  |nil=>
   obtain rfl:k=l.length:=aeQ
   go_wp2_with fail;go_ret;exact⟨rfl,by rw[fC.o];exact xC.o⟩
  |cons t R=>
   obtain⟨⟨b,off,gU,gy,rfl,hb1,x0,x1,htl,hfl⟩,hrest⟩:=hrow;simp only[aD]at hlen;rw[Ng,aP]at hth;have hkl:k<l.length:=agH
   have kL:=ah hrest;have HFL:=ah hfl;have sJ:=ah hth;clear hrest hfl htl hth;go_upto_region 6 with fail;generalize hW3:World.alloc wr _=w3;obtain⟨tb,htb,bf,HB3,Q8,-⟩:=al1 hW3;have Gu:aj (Below (nb+1) wr w3):=ah (HB3.o.mono (by have:=ou.o;have:=bf.o;omega));have lQ:aj (nb+1<=w3.heap.size):=ah (aJ ou.o HB3.o.size);have HW3:aj (iP w3 w3.heap.size W s):=ah ((HW1.o.below ((kI.o.trans Gu.o).mono (jl _))).mono afi);have Bo:aj (gG pz 6 w3 w3.heap.size t.is gU 0):=ah ((HFL.o.below (Gu.o.mono (jl _))).mono afi);have Cz:=ah ((Gu.o.block nb (Nat.lt_succ_self _)).trans oI.o);rw[htb];clear hW3 htb x0 x1;obtain⟨g0,g1,g2,g3,g4,g5⟩:=uj Cz.o;obtain⟨t0,t1⟩:=rU Q8.o;go_wp2_with fail;refine(Nn HW3.o Bo.o sJ.o.1).mono ?_;rintro e w4 ⟨rfl,hb4⟩;have dR:aj (Below (nb+1) wr w4):=ah (Gu.o.trans (hb4.mono lQ.o));clear hb4 g0 g1 g2 g3 g4 g5 t0 t1;go_wp2_with fail;go_roundw
   case rel=>exact⟨k+1,R,agL,agH,sJ.o.2,zM (dR.o.mono (jl _)) kL.o,kI.o.trans dR.o⟩
   case measure=>simp[intOf];omega
namespace Md
def Fu (g:Nat) (w:World):Prop:= ∀o,(∀k n,w.cell? ⟨g,o,none⟩≠some (.int k n))∧∀s,w.cell? ⟨g,o,none⟩≠some (.string s)
section
variable {w w':World} {g B:Nat}
def Dw (g:Nat) (w w':World):Prop:= ∀b,b≠g->b<w.heap.size->∀o,w'.cell? ⟨b,o,none⟩=w.cell? ⟨b,o,none⟩
theorem fP.off (hg:Fu g w) (ho:Dw g w w') (hB:B<=w.heap.size): ∀ {l:List ByteArray} {ao:Option Addr} {k:Nat},fP w B l ao k->fP w' B l ao k
 | [],_,_,_=>trivial
 |_::_,_,_,⟨⟨b,off,e,hb,c,hs⟩,hr⟩=>by
  have hne:b≠g:=λq=>by subst q;exact(hg _).2 _ c
  exact⟨⟨b,off,e,hb,(ho b hne (aR hb hB) _).trans c,hs⟩,fP.off hg ho hB hr⟩
theorem jv.off (hg:Fu g w) (ho:Dw g w w') (hB:B<=w.heap.size): ∀ {l:List De} {ao:Option Addr} {k:Nat},jv w B l ao k->jv w' B l ao k
 | [],_,_,_=>trivial
 |_::_,_,_,⟨⟨b,off,e,hb,c0,c1,c2,c3,c4,c5,hs⟩,hr⟩=>by
  have hne:b≠g:=λq=>adw
  have h:=ho b hne (aR hb hB);exact⟨⟨b,off,e,hb,(h _).trans c0,(h _).trans c1,(h _).trans c2,(h _).trans c3,(h _).trans c4,(h _).trans c5,hs⟩,jv.off hg ho hB hr⟩
theorem bT.At.off (hg:Fu g w) (ho:Dw g w w') (hB:B<=w.heap.size): ∀ {l:bT} {ao:Option Addr} {k:Nat},l.At w B ao k->l.At w' B ao k
 | .nil,_,_,_=>trivial
 | .cons _ _ _ _ _,_,_,h=>by
   obtain⟨⟨b,off,mh,cap,e,hb,c0,c1,c2,c3,hok,hk⟩,hr⟩:=h;have hne:b≠g:=λq=>adw
   have h:=ho b hne (aR hb hB);exact⟨⟨b,off,mh,cap,e,hb,(h _).trans c0,(h _).trans c1,(h _).trans c2,(h _).trans c3,hok,hk.off hg ho hB⟩,hr.off hg ho hB⟩
theorem aZ.At.off (hg:Fu g w) (ho:Dw g w w') (hB:B<=w.heap.size): ∀ {l:aZ} {ao:Option Addr} {k:Nat},l.At w B ao k->l.At w' B ao k
 | .nil,_,_,_=>trivial
 | .cons _ _ _ _,_,_,h=>by
   obtain⟨⟨b,off,gU,gy,fT,eB,dB,cu,iD,gu,e,hb,c0,c1,c2,c3,c4,c5,c6,c7,c8,c9,c10,hok,h1,h2,h3,h4⟩,hr⟩:=h;have hne:b≠g:=λq=>adw
   have h:=ho b hne (aR hb hB);exact⟨⟨b,off,gU,gy,fT,eB,dB,cu,iD,gu,e,hb,(h _).trans c0,(h _).trans c1,(h _).trans c2,(h _).trans c3,(h _).trans c4,(h _).trans c5,(h _).trans c6,(h _).trans c7,(h _).trans c8,(h _).trans c9,(h _).trans c10,hok,h1.off hg ho hB,h2.off hg ho hB,h3.off hg ho hB,h4.off hg ho hB⟩,hr.off hg ho hB⟩
theorem iG.off (hg:Fu g w) (ho:Dw g w w') (hB:B<=w.heap.size): ∀ {l:List Th} {ao:Option Addr} {k:Nat},iG w B l ao k->iG w' B l ao k
 | [],_,_,_=>trivial
 |_::_,_,_,⟨⟨b,off,iU,eU,dB,cu,e,hb,c0,c1,c2,c3,hs,ht,hst⟩,hr⟩=>by
  have hne:b≠g:=λq=>by subst q;exact(hg _).2 _ c0
  have h:=ho b hne (aR hb hB);exact⟨⟨b,off,iU,eU,dB,cu,e,hb,(h _).trans c0,(h _).trans c1,(h _).trans c2,(h _).trans c3,hs,ht.off hg ho hB,hst.1.off hg ho hB,hst.2⟩,iG.off hg ho hB hr⟩
theorem Pr.At.off {p:Pr} {aK aM:Option Addr} (hg:Fu g w) (ho:Dw g w w') (hs:w.heap.size<=w'.heap.size) (h:p.At w aK aM):p.At w' aK aM:=
 ⟨h.1,h.2.1,(h.2.2.1.off hg ho (aB _)).mono hs,(h.2.2.2.off hg ho (aB _)).mono hs⟩
theorem Dw.trans {w1:World} (h:Dw g w w1) (hs:w.heap.size<=w1.heap.size) (h1:Dw g w1 w'):Dw g w w':=λb hb hl o=>(h1 b hb (aR hl hs) o).trans (h b hb hl o)
theorem Dw.set (w:World) (g j:Nat) (v:Value):Dw g w (w.setCell ⟨g,j,none⟩ v):=λb hb _ o=>
 World.cell?_of_block (a:=⟨b,o,none⟩) (bg w ⟨g,j,none⟩ v rfl (by show g≠b;exact λe=>hb e.symm))
theorem Fu.of {cs:Array Value} {t:TypeId} {fr:Nat×Nat} (h:w.heap[g]? =some (.cells cs t fr)) (hc:(cs.toList.all λv=>match v with| .int _ _=>false| .string _=>false|_=>true)=true):Fu g w:=by
 have key: ∀o v,w.cell? ⟨g,o,none⟩=some v->(match v with| .int _ _=>false| .string _=>false|_=>true)=true:=λo v e=>by rw[cell_of_row w g o cs t fr h]at e;rw[List.all_eq_true]at hc;exact hc v (by have:=Array.mem_of_getElem? e;simpa using this)
 intro o;refine⟨λk n e=> ?_,λs e=> ?_⟩
 ·have:=key o _ e;cases this
 ·have:=key o _ e;cases this
end
end Md
open Md Pz
def PaO (p:Pr) (w:World) (e:Ending) (w':World):Prop:= ∃aK aH aM aG,e= .returned (.tuple #[.agg #[.slice aK p.ds.length aH,.slice aM p.ts.length aG],.int .i64 0,.int .i64 0])∧p.At w' aK aM∧Below w.heap.size w w'
theorem YC (w:World) (eG:dW w):Calls Tryz.prog 43 #[.string ⟨#[118,97,114,32,120,32,61,32,50,59,32,118,97,114,32,113,91,50,93,59,32,109,117,116,101,120,32,109,59,32,99,111,110,100,32,99,32,109,59,32,114,119,108,111,99,107,32,114,59,32,102,117,116,117,114,101,32,102,59,32,116,104,114,101,97,100,32,116,40,97,41,32,123,32,108,111,99,107,32,109,32,123,32,120,32,61,32,113,91,97,93,59,32,125,32,125,32,116,104,114,101,97,100,32,117,40,41,32,123,32,125]⟩] w (PaO nO w):=
 ZQ ⟨#[118,97,114,32,120,32,61,32,50,59,32,118,97,114,32,113,91,50,93,59,32,109,117,116,101,120,32,109,59,32,99,111,110,100,32,99,32,109,59,32,114,119,108,111,99,107,32,114,59,32,102,117,116,117,114,101,32,102,59,32,116,104,114,101,97,100,32,116,40,97,41,32,123,32,108,111,99,107,32,109,32,123,32,120,32,61,32,113,91,97,93,59,32,125,32,125,32,116,104,114,101,97,100,32,117,40,41,32,123,32,125]⟩ w eG agI nO agX src_ok aV5 (λR wr h=>ag5 R wr h) rfl
theorem Wq {p:Pr} (Tw:aj (∀w,dW w->Calls Tryz.prog 43 #[.string ⟨#[118,97,114,32,120,32,61,32,50,59,32,118,97,114,32,113,91,50,93,59,32,109,117,116,101,120,32,109,59,32,99,111,110,100,32,99,32,109,59,32,114,119,108,111,99,107,32,114,59,32,102,117,116,117,114,101,32,102,59,32,116,104,114,101,97,100,32,116,40,97,41,32,123,32,108,111,99,107,32,109,32,123,32,120,32,61,32,113,91,97,93,59,32,125,32,125,32,116,104,114,101,97,100,32,117,40,41,32,123,32,125]⟩] w (PaO p w))) (w:World) (eG:dW w):
 Calls Tryz.prog 25 #[] w λe w'=> ∃aK aH aM aG,e= .returned (.agg #[.slice aK p.ds.length aH,.slice aM p.ts.length aG])∧p.At w' aK aM∧Below w.heap.size w w':=by
 have jX:=ah eG;clear eG;go_enter Tryz.func25,Tryz.ntmps25;go_upto_region 1 with fail;generalize hW:World.alloc w _=W1;obtain⟨rb,hrb,HB,-,HX,-⟩:=qD hW;have HRB:=ah hrb;rw[hrb];clear hW hrb;go_wp2_with fail;refine(Tw.o W1 (jX.o.same HB.o)).mono ?_;rintro e w1 ⟨aK,aH,aM,aG,rfl,hat,hb⟩;have HB1:=ah (HB.o.trans (hb.mono HB.o.size));have EF:=jV hb HX;have HAT:=ah hat;clear hat hb Tw HX;go_upto_region 2 with fail;generalize hW:World.alloc w1 _=w2;obtain⟨pb,hpb,HB2,-,EH,-⟩:=qD hW;rw[hpb];clear hW hpb;have oI:=jV HB2.o EF;obtain⟨y0,y1⟩:=rU EH.o;obtain⟨z0,z1⟩:=rU oI.o;have f0:=bK (o:=0) oI.o;have f1:=bK (o:=1) oI.o;have hlt:rb<w2.heap.size:=(aO oI.o);have HFN:aj (∀W,(w2.setCell ⟨rb,0,none⟩ (.slice aK p.ds.length aH)).setCell ⟨rb,1,none⟩ (.slice aM p.ts.length aG)=W->p.At W aK aM∧Below w.heap.size w W):=ah (λW hW=>by subst hW;have hA:=HAT.o.same HB2.o;have hr:=HRB.o;exact⟨hA.off (Fu.of oI.o rfl) ((Dw.set w2 _ _ _).trans aeU (Dw.set _ _ _ _)) aeU,pU (pU (HB1.o.trans (HB2.o.mono HB1.o.size)) _ _ agK) _ _ agK⟩);go_wp2_with fail;exact bodyPost_ret (v:= .agg #[.slice aK p.ds.length aH,.slice aM p.ts.length aG]) (by simp[results,Tryz.results25,go_sem,z0,z1,hlt]) rfl (by obtain⟨e2,e3⟩:=HFN.o _ rfl;exact⟨aK,aH,aM,aG,rfl,e2,e3⟩)
theorem Xf (w:World) (eG:dW w):
 Calls Tryz.prog 8 #[] w λe w'=>e= .returned (.bool true)∧Below w.heap.size w w':=by
 obtain⟨t,u,h0,hfit,hco,h6,hts,hwt,hv,hvw⟩:=ah9;have HSA:=ah (λw h=>Wq (ah YC) w h);generalize nO=p at *;rw[hco]at hv;have jX:=ah eG;have H0:=ah h0;have HF:=ah hfit;have HCO:=ah hco;have mg:=ah hts;have HV:=ah hv;have HVW:=ah hvw;have H6:=ah h6;have AB:=ah hwt;clear h0 hfit hco hts eG hv hvw h6 hwt;go_enter Tryz.func8,Tryz.ntmps8;go_wp2_with fail;refine(HSA.o w jX.o).mono ?_;rintro e w1 ⟨aK,aH,aM,aG,rfl,hat,hb⟩;have HAT:=ah hat;have HB:=ah hb;clear hat hb HSA;go_wp2_with fail;refine(Sw p w1 aK aM aH aG HAT.o (jX.o.same HB.o) HF.o H0.o).mono ?_;rintro e w3 ⟨s,aoc,bu4,rfl,hwo,htc,-,hb3⟩;rw[HCO.o]at htc;rw[mg.o];have HTC:=ah htc;have JA:=ah hwo;obtain⟨⟨b,off,gU,gy,hao,hB,x0,x1,-,hfl⟩,-⟩:=htc;subst hao;have HB3:=ah (HB.o.trans (hb3.mono HB.o.size));have Dl:=ah hB;rw[H6.o]at x1;clear hfl hwo hb3 hB;generalize ng p=W at *;clear HCO HF H0 mg HAT;go_upto_region 2 with fail;generalize hW:World.alloc w3 _=w4;obtain⟨cb,hcb,dR,-,HX,-⟩:=qD hW;rw[hcb];clear hW hcb;have Fg:=ah (HB3.o.trans (dR.o.mono HB3.o.size));have aH1:=ah (JA.o.same dR.o);have bs0:aj (zi w4 w4.heap.size [t,u] (some ⟨b,off,none⟩) 0):=ah (YU HTC.o dR.o);obtain⟨g0,g1,g2,g3,g4,g5,g6⟩:=cl7 HX.o;have X1:w4.cell? ⟨b,off+1,none⟩=some (.slice gU 6 gy):=(dR.o.cell (p:=⟨b,_,none⟩) Dl.o).trans x1;clear x0 x1;have HVA:aj (Calls Tryz.prog 26 #[.agg #[.slice s.aC W.cs.length s.cC,.slice s.aL W.ls.length s.cL,.slice s.aN W.ns.length s.cN,.slice s.aF W.fs.length s.cF,.slice s.aT W.ts.length s.cT,.slice s.aS W.ss.length s.cS,.slice (some ⟨b,off,none⟩) 2 bu4]] w4 λe w'=>e= .returned (.bool true)∧Below w4.heap.size w4 w'):=ah (ai8 (W:=W) (s:=s) (l:=[t,u]) aH1.o (jX.o.same Fg.o) HVW.o bs0.o (by rw[AB.o];rfl) HV.o);go_wp2_with fail;refine HVA.o.mono ?_;rintro e w5 ⟨rfl,hb5⟩;have kg:=ah hb5;have uI:=jV hb5 HX;clear hb5 g0 g1 g2 g3 g4 g5 g6 X1;obtain⟨g0,g1,g2,g3,g4,g5⟩:=uj uI.o;go_wp2_with fail;refine(Gp (aH1.o.same kg.o) (jX.o.same (Fg.o.trans (kg.o.mono Fg.o.size))) HVW.o).mono ?_;rintro e w6 ⟨rfl,hb6⟩;have nW:=ah ((Fg.o.trans (kg.o.mono Fg.o.size)).trans (hb6.mono (aJ Fg.o.size kg.o.size)));go_wp2_with fail;go_ret;exact⟨rfl,nW.o⟩
end Go.Proofs.YtdoplekppjkkpaaGreatDoor
