/- What it is that objects and code are valid. No program in sight. And what hangs on it. -/
import Derived.Test.YtcjgfgkllmldpaaGreatDoorGCE
set_option linter.unusedSimpArgs false
set_option linter.unusedVariables false
set_option maxHeartbeats 40000000
set_option maxRecDepth 1000000
namespace Go.Proofs.YtcjgfgkllmldpaaGreatDoor
open Go.RowKit
namespace Md
def eB (i n:Int):Bool:=decide (0<=i)&&decide (i<n)
def Ke (c:mU) (k:Int) (x:mU):Bool:=x.nm.toList==c.nm.toList&&(x.ix==k&&(x.sz==c.sz&&(x.xM==c.xM&&x.init==c.init)))
def Al (c:mU):Nat->Int->List mU->Bool
 |0,_,_=>true
 |_+1,_,[]=>false
 |n+1,k,x::r=>Ke c k x&&Al c n (k+1) r
def ug:Nat->List mU->Option (List ByteArray)
 |0,_=>some []
 |_+1,[]=>some []
 |f+1,c::r=>
  if c.sz==0 then(if c.ix != 0 then none else(ug f r).map (λl=>c.nm::l))else
  if decide (c.sz<1)||(decide (4<c.sz)||(c.xM||decide (((r.length+1:Nat):Int)<c.sz)))then none else
  if Al c c.sz.toNat 0 (c::r)then(ug f ((c::r).drop c.sz.toNat)).map (λl=>c.nm::l)else none
def EI (l:List mU):Option (List ByteArray):=ug l.length l
def Je:List (List UInt8)->List ByteArray->Bool
 |_,[]=>true
 |seen,x::r=>(Tk.ji x.toList&& !(seen.contains x.toList))&&Je (seen++[x.toList]) r
def jE (W:Wo) (i:Int) (rw:Bool):Bool:=eB i W.ls.length&&(match W.ls[i.toNat]? with|some l=>l.rw==rw|none=>false)
def vsA (nT:Int):Int->Int->List tK->Bool
 |_,_,[]=>true
 |th,nx,s::r=>if decide (s.th<th)||decide (nT<=s.th)then false else
  if s.st != (if th<s.th then 0 else nx)then false else vsA nT (if th<s.th then s.th else th) ((if th<s.th then 0 else nx)+1) r
def pW (W:Wo) (v:List ByteArray):List ByteArray:=v++W.ls.map (·.nm)++W.ns.map (·.nm)++W.fs++W.ts
def vW (W:Wo):Bool:=
 if decide ((12:Int)<W.cs.length)||(decide ((4:Int)<W.ls.length)||(decide ((2:Int)<W.ns.length)||(decide ((2:Int)<W.fs.length)||decide ((60:Int)<W.ss.length))))then false else
 if decide ((W.ts.length:Int)<1)||decide ((4:Int)<W.ts.length)then false else
 match EI W.cs with
 |none=>false
 |some v=>Je [] (pW W v)&&(W.ns.all (λc=>jE W c.mx false)&&vsA W.ts.length 0 0 W.ss)
def BX (W:Wo) (i:Int):Bool:=eB i W.cs.length&&(match W.cs[i.toNat]? with|some c=>c.sz==0|none=>false)
def J6 (W:Wo) (i n:Int):Bool:=eB i W.cs.length&&(match W.cs[i.toNat]? with|some c=>c.ix==0&&(c.sz != 0&&c.sz==n)|none=>false)
def tX (W:Wo) (n:Int) (i:dw):Bool:=
 if i.op==3 then i.n==4||i.n==5 else if i.op==4 then decide (6<=i.n)&&decide (i.n<=18)else
 if i.op==5 then eB i.a n else if i.op==10 then eB i.b n else
 if i.op==6 then BX W i.b else if i.op==8 then BX W i.a else if i.op==7 then J6 W i.b i.n else if i.op==9 then J6 W i.a i.n else
 if i.op==11||i.op==12 then jE W i.a false else if i.op==13||(i.op==14||(i.op==15||i.op==16))then jE W i.a true else
 if i.op==21||(i.op==22||i.op==23)then eB i.a W.ns.length else if i.op==24||i.op==25 then eB i.a W.ts.length else
 if i.op==26 then eB i.a W.fs.length else if i.op==27 then eB i.b W.fs.length else true
def zB (W:Wo) (th:Int) (i:dw):Bool:=if i.op==28 then i.st== -1 else eB i.st W.ss.length&&(match W.ss[i.st.toNat]? with|some s=>s.th==th|none=>false)
def Ah (W:Wo) (th n regs k:Int) (i:dw):Bool:=
 ((decide (1<=i.op)&&decide (i.op<=28))&&((i.op==28)==(k==n -1)))&&(zB W th i&&((je i).all (λr=>eB r regs)&&tX W n i))
def wC (W:Wo) (th n regs:Int):Int->List dw->Bool
 |_,[]=>true
 |k,i::r=>Ah W th n regs k i&&wC W th n regs (k+1) r
def og (op:Int):Bool:=decide (1<=op)&&decide (op<=5)
def vk (l:List dw):Nat->Int->Bool
 |0,_=>false
 |f+1,k=>if eB k l.length then(match l[k.toNat]? with|some i=>if og i.op then vk l f (if i.op==5 then i.a else k+1)else true|none=>false)else false
def MP (l:List dw):Bool:=(List.range l.length).all (λk=>vk l (l.length+1) (k:Nat))
def GY (W:Wo) (th:Int) (t:xJ):Bool:=
 if decide (t.regs<0)||(decide (32<t.regs)||((t.is.length:Int)==0))then false else wC W th t.is.length t.regs 0 t.is&&MP t.is
def FV (W:Wo):Int->List xJ->Bool
 |_,[]=>true
 |k,t::r=>GY W k t&&FV W (k+1) r
def CY (W:Wo) (l:List xJ):Bool:=if !vW W||((l.length:Int) != (W.ts.length:Int))then false else FV W 0 l
structure Ma (W:Wo):Prop where
 cs: ∀c∈W.cs,c.nm.size<=maxLen
 ls: ∀c∈W.ls,c.nm.size<=maxLen
 ns: ∀c∈W.ns,c.nm.size<=maxLen
def oO (W:Wo):Prop:=W.cs.length<=12∧W.ls.length<=4∧W.ns.length<=2∧W.fs.length<=2∧W.ss.length<=60∧1<=W.ts.length∧W.ts.length<=4
end Md
open Md
theorem Pj (i n:Int) (w:World):Calls Tryz.prog 30 #[.int .i64 i,.int .i64 n] w λe w'=>e= .returned (.bool (eB i n))∧w=w':=by
 unfold eB;by_cases h0:0<=i <;> by_cases h1:i<n
 all_goals go_enter Tryz.func30,Tryz.ntmps30;go_wp2_with fail;go_ret;exact⟨ait,rfl⟩
theorem mO (i:Int) (w:World):Calls Tryz.prog 60 #[.int .i64 i] w λe w'=>e= .returned (.bool (og i))∧w=w':=by
 unfold og;by_cases h0:1<=i <;> by_cases h1:i<=5
 all_goals go_enter Tryz.func60,Tryz.ntmps60;go_wp2_with fail;go_ret;exact⟨ait,rfl⟩
theorem oF {α:Type} {l:List α} {i:Int} (h:eB i l.length=true): ∃(k:Nat) (x:α),i=(k:Int)∧k<l.length∧l[k]? =some x:=by
 unfold eB at h;simp only[aM,decide_eq_true_eq]at h;obtain⟨k,rfl⟩:=Int.eq_ofNat_of_zero_le h.1;have hk:k<l.length:=ahf
 exact⟨k,l[k],rfl,hk,aX hk⟩
theorem lF {i n:Int} {b:Bool} (h:eB i n=b) (w:World):Calls Tryz.prog 30 #[.int .i64 i,.int .i64 n] w λe w'=>e= .returned (.bool b)∧w=w':=by
 subst h;exact Pj i n w
theorem OH (W:Wo) (s:jr) (i:Int) (rw:Bool) (w:World) (hw:gq w w.heap.size W s):
 Calls Tryz.prog 28 #[mQ W s,.int .i64 i,.bool rw] w λe w'=>e= .returned (.bool (jE W i rw))∧Below w.heap.size w w':=by
 have hl:=hw.ll;unfold maxLen at hl;have HW:=ah hw;clear hw;unfold mQ;cases hwi:eB i W.ls.length
 ·have hres:jE W i rw=false:=by unfold jE;rw[hwi];rfl
  rw[hres];go_enter Tryz.func28,Tryz.ntmps28;go_upto_region 1 with fail;generalize hW:World.alloc w _=W1;obtain⟨nb,hnb⟩: ∃n,w.heap.size=n:=⟨_,rfl⟩;have HB:aj (Below w.heap.size w W1):=ah afd;have hc:W1.cell? ⟨nb,1,none⟩=some (.slice s.aL W.ls.length s.cL):=aaW
  have HF:=ah (HW.o.ls.same HB.o);exact Abr
 ·obtain⟨k,x,rfl,hk,hx⟩:=oF hwi;have hres:jE W k rw=(x.rw==rw):=by unfold jE;rw[hwi];simp[hx]
  rw[hres];go_enter Tryz.func28,Tryz.ntmps28;go_upto_region 1 with fail;generalize hW:World.alloc w _=W1;obtain⟨nb,hnb⟩: ∃n,w.heap.size=n:=⟨_,rfl⟩;have HB:aj (Below w.heap.size w W1):=ah afd;have hc:W1.cell? ⟨nb,1,none⟩=some (.slice s.aL W.ls.length s.cL):=aaW
  have HF:=ah (HW.o.ls.same HB.o);rw[hnb];clear hW hnb;obtain⟨b,off,hao,hb,hcs⟩:=HF.o.at k x hx;rw[hao]at hc;have k0:(0:Int)<=(k:Int):=ahf
  have k1:(k:Int)<(W.ls.length:Int):=ahf
  have z1:=hcs 1 _ rfl;simp only[aU,Nat.add_zero]at z1;clear hcs HF;go_wp2_with fail;refine(lF hwi W1).mono ?_;rintro e w2 ⟨rfl,rfl⟩;go_wp2_with fail;go_ret;exact⟨ahZ,HB.o⟩
theorem UU (W:Wo) (s:jr) (i:Int) (w:World) (hw:gq w w.heap.size W s):
 Calls Tryz.prog 58 #[mQ W s,.int .i64 i] w λe w'=>e= .returned (.bool (BX W i))∧Below w.heap.size w w':=by
 have hl:=hw.lc;unfold maxLen at hl;have HW:=ah hw;clear hw;unfold mQ;cases hwi:eB i W.cs.length
 ·have hres:BX W i=false:=by unfold BX;rw[hwi];rfl
  rw[hres];go_enter Tryz.func58,Tryz.ntmps58;go_upto_region 1 with fail;generalize hW:World.alloc w _=W1;obtain⟨nb,hnb⟩: ∃n,w.heap.size=n:=⟨_,rfl⟩;have HB:aj (Below w.heap.size w W1):=ah afd;have hc:W1.cell? ⟨nb,0,none⟩=some (.slice s.aC W.cs.length s.cC):=aaW
  have HF:=ah (HW.o.cs.same HB.o);exact Abr
 ·obtain⟨k,x,rfl,hk,hx⟩:=oF hwi;have hres:BX W k=(x.sz==0):=by unfold BX;rw[hwi];simp[hx]
  rw[hres];go_enter Tryz.func58,Tryz.ntmps58;go_upto_region 1 with fail;generalize hW:World.alloc w _=W1;obtain⟨nb,hnb⟩: ∃n,w.heap.size=n:=⟨_,rfl⟩;have HB:aj (Below w.heap.size w W1):=ah afd;have hc:W1.cell? ⟨nb,0,none⟩=some (.slice s.aC W.cs.length s.cC):=aaW
  have HF:=ah (HW.o.cs.same HB.o);rw[hnb];clear hW hnb;obtain⟨b,off,hao,hb,hcs⟩:=HF.o.at k x hx;rw[hao]at hc;have k0:(0:Int)<=(k:Int):=ahf
  have k1:(k:Int)<(W.cs.length:Int):=ahf
  have z2:=hcs 2 _ rfl;simp only[aU,Nat.add_zero]at z2;clear hcs HF;go_wp2_with fail;refine(lF hwi W1).mono ?_;rintro e w2 ⟨rfl,rfl⟩;go_wp2_with fail;go_ret;exact⟨ahZ,HB.o⟩
theorem Wm (W:Wo) (s:jr) (i:Int) (n:Int) (w:World) (hw:gq w w.heap.size W s):
 Calls Tryz.prog 59 #[mQ W s,.int .i64 i,.int .i64 n] w λe w'=>e= .returned (.bool (J6 W i n))∧Below w.heap.size w w':=by
 have hl:=hw.lc;unfold maxLen at hl;have HW:=ah hw;clear hw;unfold mQ;cases hwi:eB i W.cs.length
 ·have hres:J6 W i n=false:=by unfold J6;rw[hwi];rfl
  rw[hres];go_enter Tryz.func59,Tryz.ntmps59;go_upto_region 1 with fail;generalize hW:World.alloc w _=W1;obtain⟨nb,hnb⟩: ∃n,w.heap.size=n:=⟨_,rfl⟩;have HB:aj (Below w.heap.size w W1):=ah afd;have hc:W1.cell? ⟨nb,0,none⟩=some (.slice s.aC W.cs.length s.cC):=aaW
  have HF:=ah (HW.o.cs.same HB.o);exact Abr
 ·obtain⟨k,x,rfl,hk,hx⟩:=oF hwi;have hres:J6 W k n=(x.ix==0&&(x.sz != 0&&x.sz==n)):=by unfold J6;rw[hwi];simp[hx]
  rw[hres];go_enter Tryz.func59,Tryz.ntmps59;go_upto_region 1 with fail;generalize hW:World.alloc w _=W1;obtain⟨nb,hnb⟩: ∃n,w.heap.size=n:=⟨_,rfl⟩;have HB:aj (Below w.heap.size w W1):=ah afd;have hc:W1.cell? ⟨nb,0,none⟩=some (.slice s.aC W.cs.length s.cC):=aaW
  have HF:=ah (HW.o.cs.same HB.o);rw[hnb];clear hW hnb;obtain⟨b,off,hao,hb,hcs⟩:=HF.o.at k x hx;rw[hao]at hc;have k0:(0:Int)<=(k:Int):=ahf
  have k1:(k:Int)<(W.cs.length:Int):=ahf
  have z1:=hcs 1 _ rfl;have z2:=hcs 2 _ rfl;simp only[aU,Nat.add_zero]at z1 z2;clear hcs HF;cases h1:(x.ix==0)
  ·go_wp2_with fail;refine(lF hwi W1).mono ?_;rintro e w2 ⟨rfl,rfl⟩;go_wp2_with fail;go_ret;exact⟨by rw[h1];simp,HB.o⟩
  ·cases h2:(x.sz==0)
   ·have h2':(x.sz != 0)=true:=aia;go_wp2_with fail;refine(lF hwi W1).mono ?_;rintro e w2 ⟨rfl,rfl⟩;go_wp2_with fail;go_ret;exact⟨agJ,HB.o⟩
   ·have h2':(x.sz != 0)=false:=aia;go_wp2_with fail;refine(lF hwi W1).mono ?_;rintro e w2 ⟨rfl,rfl⟩;go_wp2_with fail;go_ret;exact⟨agJ,HB.o⟩
theorem Rz (b:Bool) (w:World):Calls Tryz.prog 94 #[.bool b] w λe w'=>e= .returned (.int .i64 (if b then 1 else 0))∧w=w':=by
 cases b
 all_goals go_enter Tryz.func94,Tryz.ntmps94;go_wp2_with fail;go_ret;exact⟨rfl,rfl⟩
theorem ad3 (op a:Int) (w:World):Calls Tryz.prog 56 #[.int .i64 op,.int .i64 a] w λe w'=>(∃v,e= .returned (.tuple #[.int .i64 v,.bool (op==4||op==5)]))∧w=w':=by
 have hcs:op=4∨op=5∨(op≠4∧op≠5):=ahf
 rcases hcs with rfl|rfl|⟨h1,h2⟩
 ·go_enter Tryz.func56,Tryz.ntmps56;go_wp2_with fail
  go_ret2
  exact⟨⟨_,rfl⟩,rfl⟩
 ·go_enter Tryz.func56,Tryz.ntmps56;go_wp2_with fail
  all_goals first
   |(go_ret2;exact⟨⟨_,rfl⟩,rfl⟩)
   |(refine(Rz _ w).mono ?_;rintro e w2 ⟨rfl,rfl⟩;go_wp2_with fail;all_goals (go_ret2;exact⟨⟨_,rfl⟩,rfl⟩))
 ·have k1:(op==4)=false:=by simpa using h1
  have k2:(op==5)=false:=aho
  clear h1 h2;go_enter Tryz.func56,Tryz.ntmps56;go_wp2_with fail
  go_ret2
  exact⟨⟨0,by simp[k1,k2]⟩,rfl⟩
def U2:Prop:= ∀(W:Wo) (s:jr) (w:World),gq w w.heap.size W s->eD w->Ma W->Calls Tryz.prog 10 #[mQ W s] w λe w'=>e= .returned (.bool (vW W))∧Below w.heap.size w w'
theorem az3 (a a':ByteArray) (i i' z z' n n':Int) (v v':Bool) (w:World):
 (binOp .neq 42 (.agg #[.string a,.int .i64 i,.int .i64 z,.bool v,.int .i64 n]) (.agg #[.string a',.int .i64 i',.int .i64 z',.bool v',.int .i64 n'])).run Tryz.prog w= .ok (.bool (!(a.toList==a'.toList&&(i==i'&&(z==z'&&(v==v'&&n==n')))))) w:=by
 cases h1:(a.toList==a'.toList) <;> cases h2:(i==i') <;> cases h3:(z==z') <;> cases h4:(v==v') <;> cases h5:(n==n')
 all_goals simp[go_sem,h1,h2,h3,h4,h5]
theorem bn2 {P:Program} {o:Oper} {a:Act} {w:World} {K:Act->World->Prop} {Q:Exit->Act->World->Prop} (s x:Operand) (T ty:TypeId) (ho:o.op= .binOp .neq T s x ty)
 (A B:Value) (r:Bool) (hs:a.eval s=A) (hx:a.eval x=B) (hg:(eqGuard .neq T s x A B).run P w= .ok () w) (hr:(binOp .neq T A B).run P w= .ok (.bool r) w) (h:K (a.put o.dst (.bool r)) w):o.wp P a w K Q:=by
 unfold Oper.wp execOp;simp only[ho,Sem.run_bind,Sem.run_pure,Result.andThen_ok,hs,hx,hg,hr];exact h
theorem Z9 (s x:Operand) (xs ys:Array Value) (w:World):(eqGuard .neq 42 s x (.agg xs) (.agg ys)).run Tryz.prog w= .ok () w:=run_eqGuard_agg (w:=w) .neq 42 s x xs ys Tryz.eqGuardType42
theorem kC.far {B b:Nat} {w w':World} {v:Value} {l:List ByteArray} (h:kC B w v l) (hg:w.grownBy w' (some b)) (hne:v.ownBlock≠some b):kC B w' v l:=
 ⟨h.own.kept hg (.inr hne),λ_ _ _ _=>trivial⟩
theorem XF:(Tryz.prog.info? 9).map (λi=>(i.zero,i.size,i.bytes))=some (some (.string ⟨#[]⟩),1,16):=ahe
theorem drop_at {α:Type} {f:α->List Value} {m B:Nat} {w:World} {ao:Option Addr} : ∀ {l:List α} {k:Nat} (i:Nat),dS f m w B l ao k->dS f m w B (l.drop i) ao (k+i):=λi h=>R3 i h
def VcP (o:Option (List ByteArray)) (w:World) (e:Ending) (w':World):Prop:=(match o with
 |none=>e= .returned (.tuple #[.slice none 0 0,.bool false])
 |some v=> ∃ao cap,e= .returned (.tuple #[.slice ao v.length cap,.bool true])∧fT w' w'.heap.size v ao 0∧v.length<=cap)∧Below w.heap.size w w'
theorem FT {o:Option (List ByteArray)} {a:List ByteArray} {x:ByteArray} :(o.map (λl=>x::l)).map (λl=>a++l)=o.map (λl=>(a++[x])++l):=by
 cases o <;> simp
theorem Qi (l:List mU) (w:World) (ao:Option Addr) (cap:Nat) (hl:l.length<=12) (hw:dS kM 5 w w.heap.size l ao 0) (hn: ∀c∈l,c.nm.size<=maxLen):
 Calls Tryz.prog 26 #[.slice ao l.length cap] w (VcP (EI l) w):=by
 have HW:=ah hw;have HN:=ah hn;obtain⟨res,hres⟩: ∃r,EI l=r:=⟨_,rfl⟩;have HR:=ah hres;rw[hres];obtain⟨B,hB⟩: ∃n,w.heap.size=n:=⟨_,rfl⟩;have vJ:=ah hB;rw[hB]at HW;clear hw hn hres hB;go_enter Tryz.func26,Tryz.ntmps26;go_wp2_with fail;go_loopw [4,5,6,7,51,52] (λv4 v5 _ _ _ _ wr=> ∃(k:Nat) (R:List mU) (acc:List ByteArray) (f:Nat),v5= .int .i64 k∧k+R.length=l.length∧R.length<=f∧res=(ug f R).map (λl=>acc++l)∧kC B wr v4 acc∧dS kM 5 wr B R ao k∧Below B w wr∧acc.length<=k∧(∀c∈R,c.nm.size<=maxLen)∧(∀x∈acc,x.size<=maxLen)) (λ_ v _ _ _ _ _=>l.length -(intOf v).toNat)
 case atStart=>exact⟨0,l,[],l.length,rfl,ahh,aD _,by rw[<- HR.o];show ug l.length l=_;cases ug l.length l <;> rfl,Grow.nil _ _ _ _ _ _,HW.o,ak _ _,aD _,HN.o,λx hx=>ahQ⟩
 case round=>
  obtain⟨k,R,acc,f,rfl,hlen,Xz,heq,hg,hrow,hbel,hac,hnR,hnA⟩:=hrel;have HE:=ah heq;have HG:=ah hg;have HB:=ah hbel;have HNR:=ah hnR;have WU:=ah hnA;have ql:aj (B<=wr.heap.size):=ah (by have h1:=hbel.size;have h2:=vJ.o;omega);clear heq hg hbel hnR hnA;cases R with
  |nil=>
   obtain rfl:k=l.length:=afb
   obtain⟨U6,cap2,rfl,hc2,hst⟩:=kC.says HG.o WU.o;have HT:aj (res=some acc):=ah (by rw[HE.o];cases f <;> simp[ug]);have HST:=ah hst.now;have IW:=ah hc2;clear hst hc2;go_wp2_with fail
   go_ret2
   rw[HT.o];exact⟨⟨U6,cap2,rfl,HST.o,IW.o⟩,by rw[vJ.o];exact HB.o⟩
  |cons c R=>
   obtain⟨f,rfl⟩: ∃g,f=g+1:=⟨f -1,by simp at Xz;omega⟩;have as2:=ah hrow;obtain⟨⟨b,off,rfl,hb1,hcs⟩,hrest⟩:=hrow;simp only[aB]at hlen Xz;have hkl:k<l.length:=ahf
   have x0:=hcs 0 _ rfl;have x1:=hcs 1 _ rfl;have x2:=hcs 2 _ rfl;have x3:=hcs 3 _ rfl;have x4:=hcs 4 _ rfl;simp only[Nat.add_zero]at x0;have kg:=ah hrest;clear hcs hrest;go_upto_region 5 with fail;obtain⟨cb,hcb⟩: ∃n,wr.heap.size=n:=⟨_,rfl⟩;generalize hW2:World.alloc wr _=w2;have HB2:aj (Below wr.heap.size wr w2):=ah afl;have yu:aj (w2.heap[cb]? =some (.cells #[.string c.nm,.int .i64 c.ix,.int .i64 c.sz,.bool c.xM,.int .i64 c.init] 42 (0,0))):=ah aa7;have ZX:=ah hcb;have HG2:=ah (HG.o.next (bR HB2.o));rw[hcb];clear hW2 hcb x0 x1 x2 x3 x4;have y0:=aG (j:=0) yu.o rfl;simp only[List.getElem_toArray,List.getElem_cons_zero,List.getElem_cons_succ]at y0;obtain⟨av,cv,hv⟩:=HG2.o.len;subst hv;have kV:=ah (HG2.o.next (bR (aA w2 (.cells (uf c.nm).toArray 9))));have iV:=ah (gG (heap_alloc_new w2 (.cells (uf c.nm).toArray 9)));obtain⟨i0,hi,hz0,hz1,hz2⟩:=Ai XF;have hbs:B<=w2.heap.size+1:=adR
   have be1:acc.length+1<=maxLen:=afc
   have UG:(acc.length+1)*16<=140737488355328:=ahf
   go_wp2_with (at_builtin;refine wpList_append_lies _ rfl _ _ 26 rfl B 9 i0 _ 1 16 Tryz.underlying26 hi hz0 hz1 hz2 rfl ahg _ _ _ rfl kV.o.own ⟨w2.heap.size,0,none⟩ 1 1 (uf c.nm) rfl rfl iV.o (by simp[uf,Value.oneCell']) ahg be1 UG afe _ rfl ?_);clear hi hz0 hz1 hz2 y0;intro g FM w3 hown hgr hmv hlt3;have Cm:aj (kC B w3 (.slice (some ⟨g,0,none⟩) (acc.length+1) FM) (acc++[c.nm])):=ah (kV.o.push (x:=c.nm) (λ_ _=>trivial) rfl hown hgr afy);have Nz:aj (∀q,(Value.slice av acc.length cv).ownBlock=some q->B<=q∧q<cb):=ah (λq hq=>by have:=HG.o.lt q hq;rw[ZX.o]at this;exact this);have HW2:aj (cb<w2.heap.size):=ah (aI yu.o);have aq7:aj (Below B wr w3):=ah (((HB2.o.mono ql.o).trans ((aA w2 _).mono adR)).trans ⟨hgr.os,hgr.tape,hgr.output,hgr.size,λq hq=>hgr.block q (by simp;have h1:=ql.o;have h2:=HB2.o.size;omega) (λe=>by have:=(Nz.o q e.symm).1;omega)⟩);have HB3:=ah (HB.o.trans aq7.o);have zW:aj (w3.heap[cb]? =some (.cells #[.string c.nm,.int .i64 c.ix,.int .i64 c.sz,.bool c.xM,.int .i64 c.init] 42 (0,0))):=ah ((hgr.block cb (by simp;have:=HW2.o;omega) (λe=>by have:=(Nz.o cb e.symm).2;omega)).trans ((heap_alloc_old _ _ HW2.o).trans yu.o));have HGN:aj (g≠cb):=ah (by
    rcases hmv with h|h
    ·have:=(Nz.o g h).2;omega
    ·have:=HW2.o;omega)
   have HNN:aj (∀x∈acc++[c.nm],x.size<=maxLen):=ah (λx hx=>by
    rcases List.mem_append.1 hx with hx|hx
    ·exact WU.o x hx
    ·rw[List.mem_singleton.1 hx];exact HNR.o c aW)
   have HNT:aj (∀x∈R,x.nm.size<=maxLen):=ah (λx hx=>HNR.o x (aY _ hx));clear hown hgr hmv hlt3 hbs be1 UG iV kV HG2 yu HG;have z0:=aG (j:=0) zW.o rfl;have z1:=aG (j:=1) zW.o rfl;have z2:=aG (j:=2) zW.o rfl;have z3:=aG (j:=3) zW.o rfl;have z4:=aG (j:=4) zW.o rfl;simp only[List.getElem_toArray,List.getElem_cons_zero,List.getElem_cons_succ]at z0 z1 z2 z3 z4;have hwl:IntKind.i64.wrap ((l.length:Int) -(k:Int))=(l.length:Int) -(k:Int):=IntWalk.i64_in _ ahf;have hw1:IntKind.i64.wrap ((k:Int)+1)=(k:Int)+1:=IntWalk.i64_in _ ahf;cases hsz:(c.sz==0)
   ·by_cases h1:c.sz<1
    ·have HT:aj (res=none):=ah (by rw[HE.o,ug,hsz];simp[h1]);exact AbK
    ·by_cases h2:4<c.sz
     ·have HT:aj (res=none):=ah (by rw[HE.o,ug,hsz];simp[h2]);exact AbK
     ·cases hvo:c.xM
      ·have HVO:=ah hvo;rw[hvo]at z3 zW;by_cases h4:(l.length:Int) -(k:Int)<c.sz
       ·have HT:aj (res=none):=ah (by rw[HE.o,ug,hsz];have:decide (((R.length+1:Nat):Int)<c.sz)=true:=adt;simp only[this];simp);exact AbK
       ·obtain⟨n,hn⟩:=Int.eq_ofNat_of_zero_le (show 0<=c.sz by omega);have DJ:=ah hn;have hn1:1<=n:=ahf;have hn4:n<=4:=ahf;have hnR:n<=R.length+1:=ahf;have kF:aj (res=if Al c n 0 (c::R)then(ug f ((c::R).drop n)).map (λl=>(acc++[c.nm])++l)else none):=ah (by
         have hd:(decide (c.sz<1)||(decide (4<c.sz)||(c.xM||decide (((R.length+1:Nat):Int)<c.sz))))=false:=(by rw[hvo];simp;omega);rw[HE.o,ug,hsz,hd];have e:c.sz.toNat=n:=ahf;rw[e];cases Al c n 0 (c::R)
         ·rfl
         ·exact FT)
        clear hn HE;go_upto_region 13 with fail;clear z0 z1 z2 z3 z4;obtain⟨wI,Ku⟩: ∃W:World,W=wr:=⟨_,rfl⟩;subst Ku;go_loopw [7,52] (λ_ v52 wq=> ∃(j:Nat) (Q:List mU) (ix:Int),v52= .int .i64 j∧j<=n∧Q=(c::R).drop j∧Al c n 0 (c::R)=Al c (n -j) j Q∧wq.heap[cb]? =some (.cells #[.string c.nm,.int .i64 ix,.int .i64 c.sz,.bool false,.int .i64 c.init] 42 (0,0))∧kC B wq (.slice (some ⟨g,0,none⟩) (acc.length+1) FM) (acc++[c.nm])∧dS kM 5 wq B (c::R) (some ⟨b,off,none⟩) k∧Below B w wq) (λ_ v _=>n -(intOf v).toNat)
        case atStart=>exact⟨0,_,c.ix,rfl,bC _,rfl,rfl,zW.o,Cm.o,as2.o.below aq7.o,HB3.o⟩
        case round=>
         obtain⟨j,Q,ix,rfl,hjn,hQ,heq,hbx,hg,hrow,hbel⟩:=hrel;have HQ:=ah hQ;have vK:=ah heq;have sD:=ah hbx;have HGq:=ah hg;have HRq:=ah hrow;have Qo:=ah hbel;clear hQ heq hbx hg hrow hbel;by_cases hjl:j<n
         ·cases Q with
          |nil=>exfalso;have:=congrArg List.length HQ.o;simp at this;omega
          |cons x Q=>
           have hx:(c::R)[j]? =some x:=(by have:=congrArg (λl=>l[0]?) HQ.o;simpa using this.symm);obtain⟨b',off',e,hb',hcs⟩:=HRq.o.at j x hx;injection e with e;injection e with e1 e2;subst e1 e2;have z0:=hcs 0 _ rfl;have z1:=hcs 1 _ rfl;have z2:=hcs 2 _ rfl;have z3:=hcs 3 _ rfl;have z4:=hcs 4 _ rfl;simp only[Nat.add_zero]at z0;have hjs:(j:Int)<c.sz:=agq;have y2:wr.cell? ⟨cb,2,none⟩=some (.int .i64 c.sz):=aG sD.o rfl;have y1:wr.cell? ⟨cb,1,none⟩=some (.int .i64 ix):=aG sD.o rfl;have f1:wr.frozen? ⟨cb,1,none⟩=false:=bG sD.o;have hkj:k+j<l.length:=ahf;have hwk:IntKind.i64.wrap ((k:Int)+(j:Int))=((k+j:Nat):Int):=adb;have NJ:aj (B<=cb):=ah (by have:=ql.o;have:=ZX.o;omega);clear hcs hx;go_upto_region 16 with fail;generalize hW:World.setCell wr _ _=w4;have MG:aj (Below B wr w4):=ah (by rw[<- hW];exact cB (bQ _ _ _) NJ.o (aO NJ.o (bg (aI sD.o))));have pE:aj (w4.heap[cb]? =some (.cells #[.string c.nm,.int .i64 j,.int .i64 c.sz,.bool false,.int .i64 c.init] 42 (0,0))):=ah (by rw[<- hW];exact oW sD.o _ rfl);have EL:aj (kC B w4 (.slice (some ⟨g,0,none⟩) (acc.length+1) FM) (acc++[c.nm])):=ah (by rw[<- hW];exact kC.far HGq.o (bQ _ _ _) (λe=>by injection e with e;exact HGN.o e));have HR4:=ah (HRq.o.below MG.o);have dL:=ah (Qo.o.trans MG.o);have aq6:aj (B<=w4.heap.size):=ah (by have h1:=NJ.o;have h2:=(aI pE.o);omega);have Yo:=(MG.o.cell (p:=⟨b,_,none⟩) hb').trans z0;have z1':=(MG.o.cell (p:=⟨b,_,none⟩) hb').trans z1;have z2':=(MG.o.cell (p:=⟨b,_,none⟩) hb').trans z2;have z3':=(MG.o.cell (p:=⟨b,_,none⟩) hb').trans z3;have Jh:=(MG.o.cell (p:=⟨b,_,none⟩) hb').trans z4;have hb4:b<w4.heap.size:=aV hb' aq6.o;clear hW z0 z1 z2 z3 z4 y1 y2 f1;have Z0:=λw' (hb:Below w4.heap.size w4 w')=>(hb.cell (p:=⟨b,_,none⟩) hb4).trans Yo;have Z1:=λw' (hb:Below w4.heap.size w4 w')=>(hb.cell (p:=⟨b,_,none⟩) hb4).trans z1';have Z2:=λw' (hb:Below w4.heap.size w4 w')=>(hb.cell (p:=⟨b,_,none⟩) hb4).trans z2';have Z3:=λw' (hb:Below w4.heap.size w4 w')=>(hb.cell (p:=⟨b,_,none⟩) hb4).trans z3';have Z4:=λw' (hb:Below w4.heap.size w4 w')=>(hb.cell (p:=⟨b,_,none⟩) hb4).trans Jh;have C: ∀(i:Nat) (u:Value),(#[.string c.nm,.int .i64 j,.int .i64 c.sz,.bool false,.int .i64 c.init]:Array Value)[i]? =some u->∀w',Below w4.heap.size w4 w'->w'.cell? ⟨cb,i,none⟩=some u:=λi u hu w' hb=>aG ((hb.block cb (aI pE.o)).trans pE.o) hu;have C0:=C 0 _ rfl;have C1:=C 1 _ rfl;have C2:=C 2 _ rfl;have C3:=C 3 _ rfl;have C4:=C 4 _ rfl;have HEQ:aj (Al c n 0 (c::R)=(Ke c j x&&Al c (n -(j+1)) ((j:Int)+1) Q)):=ah (by rw[vK.o,show n -j=(n -(j+1))+1 by omega,Al]);have HEC:aj (Ke c j x=(x.nm.toList==c.nm.toList&&(x.ix==(j:Int)&&(x.sz==c.sz&&(x.xM==false&&x.init==c.init))))):=ah (by unfold Ke;rw[HVO.o]);clear C Yo z1' z2' z3' Jh;have k0:(0:Int)<=(k:Int)+(j:Int):=ahf;have k1:(k:Int)+(j:Int)<(l.length:Int):=ahf;have kt:((k:Int)+(j:Int)).toNat=k+j:=ahf;have hnq: ∀w,(binOp .neq 42 (.agg #[.string x.nm,.int .i64 x.ix,.int .i64 x.sz,.bool x.xM,.int .i64 x.init]) (.agg #[.string c.nm,.int .i64 j,.int .i64 c.sz,.bool false,.int .i64 c.init])).run Tryz.prog w= .ok (.bool (!(Ke c j x))) w:=λw=>by rw[az3,HEC.o]
           go_wp2_with fail;refine cK ahe rfl ?_;refine bW 0 7 [] [[],[],[],[1,2],[0,1,2,3],[0,1,2,3,4],[],[0,1,2,3,4,5,6]] [[],[],[],[],[],[],[]] (λ_ w'=>Below w4.heap.size w4 w') (λw w'=>Below w.heap.size w w') [57,58,59,60,61,62,63] rfl rfl aix ahe ahe ahe ahe ahe aix (λ_=>ak _ _) aix (below_drewN (ak _ _) 1) ?_;simp only[gJ,kE]
           iterate 7
            apply bH.step
            case cu=>intro c A w' hok hC hO hD;have e0:=hO 0 aix;have e5:=hO 5 aix;have e7:=hO 7 aix;have e6:=hO 6 aix;simp[Act.eval]at e0 e5 e7 e6;simp[Act.eval]at hD;simp[go_sem,gd,Oper.wp,hD,e0,e5,e7,e6,hwk,k0,k1,kt,Z0,Z1,Z2,Z3,Z4,hC,C0,C1,C2,C3,C4];exact AbN
            try simp only[dI]
           try simp only[dI]
           refine bH.done ?_;intro wz dx
           try simp only[gJ]
           iterate 7 refine kZ ?_
           refine mE ?_;go_simp;have Bz:=ah (dL.o.trans (dx.mono aq6.o));have bD7:aj (Below B w4 wz):=ah (dx.mono aq6.o);have Xa:aj (wz.heap[cb]? =some (.cells #[.string c.nm,.int .i64 j,.int .i64 c.sz,.bool false,.int .i64 c.init] 42 (0,0))):=ah ((dx.block cb (aI pE.o)).trans pE.o);have HGz:aj (kC B wz (.slice (some ⟨g,0,none⟩) (acc.length+1) FM) (acc++[c.nm])):=ah (EL.o.next ⟨dx.size,λq _ h2=>dx.block q h2⟩);have ES:=ah (HR4.o.below bD7.o);clear Z0 Z1 Z2 Z3 Z4 C0 C1 C2 C3 C4 dx;refine dD 7 [[],[],[],[1,2],[0,1,2,3],[0,1,2,3,4],[],[0,1,2,3,4,5,6]] rfl rfl rfl rfl rfl ahe ahe ahe ?_;refine bn2 _ _ _ _ rfl _ _ _ rfl rfl (Z9 _ _ _ _ wz) (hnq wz) ?_;refine dH rfl ?_;clear hnq;cases he:Ke c j x
           ·have HT:aj (res=none):=ah (by rw[kF.o,HEQ.o,he];rfl);go_simp;go_wp2_with fail
            go_ret2
            rw[HT.o];exact⟨rfl,by rw[vJ.o];exact Bz.o⟩
           ·have aq9:aj (Al c n 0 (c::R)=Al c (n -(j+1)) ((j:Int)+1) Q):=ah (by rw[HEQ.o,he];rfl);have sP:aj (Q=(c::R).drop (j+1)):=ah aaz;have y2:wz.cell? ⟨cb,2,none⟩=some (.int .i64 c.sz):=aG Xa.o rfl;go_simp;go_wp2_with fail;go_roundw
            case rel=>exact⟨j+1,Q,j,ahj,ahf,sP.o,aq9.o,Xa.o,HGz.o,ES.o,Bz.o⟩
            case measure=>simp[intOf];omega
         ·obtain rfl:j=n:=ahf;have HT:aj (Al c j 0 (c::R)=true):=ah adO;have IX:aj (res=(ug f ((c::R).drop j)).map (λl=>(acc++[c.nm])++l)):=ah (by rw[kF.o,HT.o];rfl);have hnlt: ¬(j:Int)<c.sz:=agq;have hw2:IntKind.i64.wrap ((k:Int)+c.sz)=((k+j:Nat):Int):=ab1;have z2:wr.cell? ⟨cb,2,none⟩=some (.int .i64 c.sz):=aG sD.o rfl;go_wp2_with fail;go_roundw
          case rel=>exact⟨k+j,(c::R).drop j,acc++[c.nm],f,by first|rfl|simp[hw2],ahi,ahi,IX.o,HGq.o,drop_at j HRq.o,Qo.o,ahi,λx hx=>HNR.o x (List.mem_of_mem_drop hx),HNN.o⟩
          case measure=>simp[intOf];omega
      ·have HT:aj (res=none):=ah (by rw[HE.o,ug,hsz,hvo];simp);rw[hvo]at z3;exact AbK
   ·cases hix:(c.ix==0)
    ·have HT:aj (res=none):=ah (by rw[HE.o,ug,hsz];simp[bne,hix]);exact AbK
    ·have HE2:aj (res=(ug f R).map (λl=>(acc++[c.nm])++l)):=ah (by rw[HE.o,ug,hsz];have:(c.ix != 0)=false:=(by simp[bne,hix]);rw[this];exact FT);go_wp2_with fail;go_roundw
     case rel=>exact⟨k+1,R,acc++[c.nm],f,ahj,ahf,ahf,HE2.o,Cm.o,kg.o.below aq7.o,HB3.o,ahi,HNT.o,HNN.o⟩
     case measure=>simp[intOf];omega
theorem Qk (W:Wo) (s:jr) (w:World) (hw:gq w w.heap.size W s) (h60:W.ss.length<=60):
 Calls Tryz.prog 29 #[mQ W s] w λe w'=>e= .returned (.bool (vsA W.ts.length 0 0 W.ss))∧Below w.heap.size w w':=by
 obtain⟨aC,aL,aN,aF,aT,aS,cC,cL,cN,cF,cT,cS⟩:=s;have HW:=ah hw;have hlt:=hw.lt;unfold maxLen at hlt;obtain⟨res,hres⟩: ∃r,vsA W.ts.length 0 0 W.ss=r:=⟨_,rfl⟩;have HR:=ah hres;rw[hres];clear hw hres;unfold mQ;dsimp only;go_enter Tryz.func29,Tryz.ntmps29;go_upto_region 1 with fail;generalize hW:World.alloc w _=W1;obtain⟨nb,hnb⟩: ∃n,w.heap.size=n:=⟨_,rfl⟩;have HB:aj (Below nb w W1):=ah acM;have HX:aj (W1.heap[nb]? =some (.cells #[.slice aC W.cs.length cC,.slice aL W.ls.length cL,.slice aN W.ns.length cN,.slice aF W.fs.length cF,.slice aT W.ts.length cT,.slice aS W.ss.length cS] 29 (0,0))):=ah aaX;have jX:aj (W1.heap.size=nb+1):=ah aft;have HF:aj (dS sZ 3 W1 nb W.ss aS 0):=ah (by have:=HW.o.ss;rw[hnb]at this;exact this.below HB.o);have dG:=ah hnb;rw[hnb];clear hW hnb HW;have g5:=aG (j:=5) HX.o rfl;simp only[List.getElem_toArray,List.getElem_cons_zero,List.getElem_cons_succ]at g5;go_wp2_with fail;go_loopw [3,4,6,10] (λv3 v4 _ v10 wr=> ∃(k:Nat) (R:List tK) (th nx:Int),v10= .int .i64 k∧v3= .int .i64 th∧v4= .int .i64 nx∧k+R.length=W.ss.length∧res=vsA W.ts.length th nx R∧0<=nx∧nx<=k∧dS sZ 3 wr nb R aS k∧Below (nb+1) W1 wr) (λ_ _ _ v _=>W.ss.length -(intOf v).toNat)
 case atStart=>exact⟨0,W.ss,0,0,rfl,rfl,rfl,ahh,HR.o.symm,ahg,ahg,HF.o,ak _ _⟩
 case round=>
  obtain⟨k,R,th,nx,rfl,rfl,rfl,hlen,heq,hn0,hnk,hrow,hbel⟩:=hrel;have HE:=ah heq;have iZ:=ah hbel;have lU:=ah ((iZ.o.block nb (Nat.lt_succ_self _)).trans HX.o);have pY:aj (Below nb w wr):=ah (HB.o.trans (iZ.o.mono (jv _)));have iw:aj (nb+1<=wr.heap.size):=ah ac9;clear heq hbel g5;cases R with
  |nil=>
   have HT:aj (res=true):=ah HE.o;obtain rfl:k=W.ss.length:=afb
   go_wp2_with fail;go_ret;exact⟨ahk,agf⟩
  |cons x R=>
   obtain⟨⟨b,off,hao,hb1,hcs⟩,hrest⟩:=hrow;simp only[aB]at hlen;have hkl:k<W.ss.length:=ahf
   have x0:=hcs 0 _ rfl;have x1:=hcs 1 _ rfl;have x2:=hcs 2 _ rfl;simp only[Nat.add_zero]at x0;have kg:=ah hrest;subst hao;have g4:=aG (j:=4) lU.o rfl;simp only[List.getElem_toArray,List.getElem_cons_zero,List.getElem_cons_succ]at g4;have hwn:IntKind.i64.wrap (nx+1)=nx+1:=IntWalk.i64_in _ ahf;have bK0:IntKind.i64.wrap ((0:Int)+1)=1:=IntWalk.i64_in _ ahf;have hnl:nb<wr.heap.size:=afi
   have hnb: ¬nb=wr.heap.size:=ahf
   clear hcs hrest;by_cases h1:x.th<th
   ·have HT:aj (res=false):=ah (by rw[HE.o,vsA];simp[h1]);exact AbB
   ·by_cases h2:(W.ts.length:Int)<=x.th
    ·have HT:aj (res=false):=ah (by rw[HE.o,vsA];simp[h2]);exact AbB
    ·by_cases h3:th<x.th
     ·cases h4:(x.st==0)
      ·have HT:aj (res=false):=ah acU;exact AbB
      ·have HE2:aj (res=vsA W.ts.length x.th 1 R):=ah acU;go_wp2_with fail;go_roundw
       case rel=>exact⟨k+1,R,x.th,1,ahj,rfl,by first|rfl|simp[bK0],ahf,HE2.o,ahg,ahf,kg.o.below ((aA _ _).mono afi),iZ.o.trans ((aA _ _).mono iw.o)⟩
       case measure=>simp[intOf];omega
     ·cases h4:(x.st==nx)
      ·have HT:aj (res=false):=ah acU;exact AbB
      ·have HE2:aj (res=vsA W.ts.length th (nx+1) R):=ah acU;go_wp2_with fail;go_roundw
       case rel=>exact⟨k+1,R,th,nx+1,ahj,rfl,by first|rfl|simp[hwn],ahf,HE2.o,ahf,ahf,kg.o.below ((aA _ _).mono afi),iZ.o.trans ((aA _ _).mono iw.o)⟩
       case measure=>simp[intOf];omega
namespace Md
def Nk (c:mU) (k:Int) (x:mU):Bool:=x.ix==k&&(x.nm.toList==c.nm.toList&&(x.sz==c.sz&&(x.init==c.init&& !x.xM)))
def xZ (c:mU):Nat->Int->List mU->Bool
 |0,_,_=>true
 |_+1,_,[]=>false
 |n+1,k,x::r=>Nk c k x&&xZ c n (k+1) r
def yG:Nat->List mU->Option (List ByteArray)
 |0,_=>some []
 |_+1,[]=>some []
 |f+1,c::r=>
  if c.sz==0 then(if c.ix != 0 then none else(yG f r).map (λl=>c.nm::l))else
  if decide (c.sz<1)||(decide (4<c.sz)||decide (((r.length+1:Nat):Int)<c.sz))then none else
  if xZ c c.sz.toNat 0 (c::r)then(yG f ((c::r).drop c.sz.toNat)).map (λl=>c.nm::l)else none
theorem bp7 {c:mU} (hv:c.xM=false) (k:Int) (x:mU):Nk c k x=Ke c k x:=by
 unfold Nk Ke;rw[hv];cases (x.ix==k) <;> cases (x.nm.toList==c.nm.toList) <;> cases (x.sz==c.sz) <;> cases (x.init==c.init) <;> cases x.xM <;> rfl
theorem Yc {c:mU} (hv:c.xM=false): ∀(n:Nat) (k:Int) (l:List mU),xZ c n k l=Al c n k l
 |0,_,_=>rfl
 |_+1,_,[]=>rfl
 |n+1,k,x::r=>by rw[xZ,Al,bp7 hv,Yc hv n]
theorem Ph: ∀(f:Nat) (l:List mU),yG f l=ug f l
 |0,_=>rfl
 |_+1,[]=>rfl
 |f+1,c::r=>by
  rw[yG,ug];cases hs:(c.sz==0)
  ·simp only[Bool.false_eq_true,if_false];cases hv:c.xM
   ·rw[Yc hv,Ph f];simp
   ·by_cases h1:c.sz<1
    ·simp[h1]
    ·by_cases h2:4<c.sz
     ·simp[h2]
     ·obtain⟨n,hn⟩: ∃n,c.sz.toNat=n+1:=⟨c.sz.toNat -1,ahf⟩;have hq:xZ c (n+1) 0 (c::r)=false:=(by rw[xZ];unfold Nk;rw[hv];simp);rw[hn,hq];simp
  ·simp only[if_true];rw[Ph f]
theorem LD: ∀(f:Nat) (l:List mU) (v:List ByteArray),ug f l=some v->v.length<=l.length
 |0,l,v,h=>ab9
 |f+1,[],v,h=>ab9
 |f+1,c::r,v,h=>by
  rw[ug]at h;split at h
  ·split at h
   ·cases h
   ·cases hq:ug f r with
    |none=>rw[hq]at h;cases h
    |some q=>rw[hq]at h;injection h with h;subst h;have:=LD f r q hq;simp;omega
  ·rename_i hs;split at h
   ·cases h
   ·rename_i hd;split at h
    ·cases hq:ug f ((c::r).drop c.sz.toNat)with
     |none=>rw[hq]at h;cases h
     |some q=>rw[hq]at h;injection h with h;subst h;have:=LD f _ q hq;simp at hd this;have h1:1<=c.sz.toNat:=ahf;simp;omega
    ·cases h
end Md
def ad4:Prop:= ∀(W:Wo) (s:jr) (v:List ByteArray) (av:Option Addr) (cv:Nat) (w:World),gq w w.heap.size W s->eD w->Ma W->oO W->v.length<=12->fT w w.heap.size v av 0->v.length<=cv->
 Calls Tryz.prog 27 #[mQ W s,.slice av v.length cv] w λe w'=>e= .returned (.bool (Je [] (pW W v)))∧Below w.heap.size w w'
theorem RS (hvn:ad4):U2:=by
 intro W s w hw fG hk;obtain⟨aC,aL,aN,aF,aT,aS,cC,cL,cN,cF,cT,cS⟩:=s;have HW:=ah hw;have kG:=ah fG;have HK:=ah hk;have HV:=ah hvn;have hl0:=hw.lc;have hl1:=hw.ll;have hl2:=hw.ln;have hl3:=hw.lf;have hl4:=hw.lt;have hl5:=hw.lS;unfold maxLen at hl0 hl1 hl2 hl3 hl4 hl5;obtain⟨res,hres⟩: ∃r,vW W=r:=⟨_,rfl⟩;have HR:=ah hres;rw[hres];clear hw fG hk hvn hres;unfold mQ;dsimp only;go_enter Tryz.func10,Tryz.ntmps10;go_upto_region 1 with fail;generalize hW:World.alloc w _=W1;obtain⟨nb,hnb⟩: ∃n,w.heap.size=n:=⟨_,rfl⟩;have HB:aj (Below nb w W1):=ah acM;have HX:aj (W1.heap[nb]? =some (.cells #[.slice aC W.cs.length cC,.slice aL W.ls.length cL,.slice aN W.ns.length cN,.slice aF W.fs.length cF,.slice aT W.ts.length cT,.slice aS W.ss.length cS] 29 (0,0))):=ah aaX;have jX:aj (W1.heap.size=nb+1):=ah aft;have HW1:aj (gq W1 nb W ⟨aC,aL,aN,aF,aT,aS,cC,cL,cN,cF,cT,cS⟩):=ah aa1;have oI:aj (eD W1):=ah abW;have dG:=ah hnb;rw[hnb];clear hW hnb HW;have g0:=aG (j:=0) HX.o rfl;have g1:=aG (j:=1) HX.o rfl;have g2:=aG (j:=2) HX.o rfl;have g3:=aG (j:=3) HX.o rfl;have g4:=aG (j:=4) HX.o rfl;have g5:=aG (j:=5) HX.o rfl;simp only[List.getElem_toArray,List.getElem_cons_zero,List.getElem_cons_succ]at g0 g1 g2 g3 g4 g5;by_cases q0:(12:Int)<W.cs.length
 ·have HT:aj (res=false):=ah (by rw[<- HR.o];unfold vW;rw[if_pos (by simp[q0])]);exact AbJ
 ·skip;by_cases q1:(4:Int)<W.ls.length
  ·have HT:aj (res=false):=ah (by rw[<- HR.o];unfold vW;rw[if_pos (by simp[q1])]);exact AbJ
  ·skip;by_cases q2:(2:Int)<W.ns.length
   ·have HT:aj (res=false):=ah (by rw[<- HR.o];unfold vW;rw[if_pos (by simp[q2])]);exact AbJ
   ·skip;by_cases q3:(2:Int)<W.fs.length
    ·have HT:aj (res=false):=ah (by rw[<- HR.o];unfold vW;rw[if_pos (by simp[q3])]);exact AbJ
    ·skip;by_cases q4:(60:Int)<W.ss.length
     ·have HT:aj (res=false):=ah (by rw[<- HR.o];unfold vW;rw[if_pos (by simp[q4])]);exact AbJ
     ·skip;by_cases q5:(W.ts.length:Int)<1
      ·have HT:aj (res=false):=ah aaH;exact AbJ
      ·skip;by_cases q6:(4:Int)<W.ts.length
       ·have HT:aj (res=false):=ah aaH;exact AbJ
       ·skip;have QC:aj (oO W):=ah ⟨ahf,ahf,ahf,ahf,ahf,ahf,ahf⟩;have HR2:aj (res=match EI W.cs with|none=>false|some v=>Je [] (pW W v)&&(W.ns.all (λc=>jE W c.mx false)&&vsA W.ts.length 0 0 W.ss)):=ah (by
         rw[<- HR.o];unfold vW;rw[if_neg ahi,if_neg ahi]
         all_goals (cases EI W.cs <;> rfl))
        clear HR;go_wp2_with fail;refine(Qi W.cs W1 aC cC QC.o.1 (HW1.o.cs.mono afj) HK.o.cs).mono ?_;intro e w2 Mq;clear q0 q1 q2 q3 q4 q5 q6;obtain⟨Mq,hb2⟩:=Mq;have HB2:=ah hb2;have AQ:aj (Below nb w w2):=ah (HB.o.trans (hb2.mono afj));have jY:=ah ((hb2.block nb afj).trans HX.o);have Hq:aj (nb+1<=w2.heap.size):=ah (by have h1:=hb2.size;have h2:=jX.o;omega);clear hb2 g0 g1 g2 g3 g4 g5;have g0:=aG (j:=0) jY.o rfl;have g1:=aG (j:=1) jY.o rfl;have g2:=aG (j:=2) jY.o rfl;have g3:=aG (j:=3) jY.o rfl;have g4:=aG (j:=4) jY.o rfl;have g5:=aG (j:=5) jY.o rfl;simp only[List.getElem_toArray,List.getElem_cons_zero,List.getElem_cons_succ]at g0 g1 g2 g3 g4 g5;cases hv:EI W.cs with
        |none=>rw[hv]at Mq;obtain rfl:e=_:=Mq;have HT:aj (res=false):=ah aiv;exact AbI
        |some v=>
         rw[hv]at Mq;obtain⟨av,cv,rfl,hat,hcv⟩:=Mq;have HR3:aj (res=(Je [] (pW W v)&&(W.ns.all (λc=>jE W c.mx false)&&vsA W.ts.length 0 0 W.ss))):=ah aiv;have HAT:=ah hat;have hvl:v.length<=12:=aO (LD _ _ _ hv) QC.o.1;have HCV:=ah hcv;have HW2:aj (gq w2 nb W ⟨aC,aL,aN,aF,aT,aS,cC,cL,cN,cF,cT,cS⟩):=ah (HW1.o.below (HB2.o.mono afj));have qg:=ah (oI.o.same HB2.o);clear hat hcv hv HR2;go_wp2_with fail;refine(HV.o W _ v av cv w2 (HW2.o.mono agp) qg.o HK.o QC.o hvl HAT.o HCV.o).mono ?_;rintro e w3 ⟨rfl,hb3⟩;have HB3:=ah hb3;have MH:aj (Below nb w w3):=ah (AQ.o.trans (hb3.mono agp));clear hb3 g0 g1 g2 g3 g4 g5;have uV:=ah ((HB3.o.block nb agp).trans jY.o);have bG3:aj (nb+1<=w3.heap.size):=ah (by have h1:=HB3.o.size;have h2:=Hq.o;omega);have HW3:aj (gq w3 nb W ⟨aC,aL,aN,aF,aT,aS,cC,cL,cN,cF,cT,cS⟩):=ah (HW2.o.below (HB3.o.mono agp));have g2:w3.cell? ⟨nb,2,none⟩=some (.slice aN W.ns.length cN):=aG uV.o rfl;cases hn:Je [] (pW W v)
         ·have HT:aj (res=false):=ah (by rw[HR3.o,hn];rfl);go_wp2_with fail;go_ret;exact⟨ahk,agh⟩
         ·have HR4:aj (res=(W.ns.all (λc=>jE W c.mx false)&&vsA W.ts.length 0 0 W.ss)):=ah (by rw[HR3.o,hn];rfl);go_wp2_with fail;clear hn;go_loopw [6,62] (λ_ i wr=> ∃(k:Nat) (R:List Ji),i= .int .i64 k∧k+R.length=W.ns.length∧W.ns.all (λc=>jE W c.mx false)=R.all (λc=>jE W c.mx false)∧dS yB 2 wr nb R aN k∧Below (nb+1) w3 wr) (λ_ i _=>W.ns.length -(intOf i).toNat)
          case atStart=>exact⟨0,W.ns,rfl,ahh,rfl,HW3.o.ns,ak _ _⟩
          case round=>
           obtain⟨k,R,rfl,hlen,heq,hrow,hbel⟩:=hrel;have HE:=ah heq;have iZ:=ah hbel;have lU:=ah ((iZ.o.block nb (Nat.lt_succ_self _)).trans uV.o);have pY:aj (Below nb w wr):=ah (MH.o.trans (iZ.o.mono (jv _)));have iw:aj (nb+1<=wr.heap.size):=ah (by have h1:=iZ.o.size;have h2:=bG3.o;omega);have DV:aj (gq wr nb W ⟨aC,aL,aN,aF,aT,aS,cC,cL,cN,cF,cT,cS⟩):=ah (HW3.o.below (iZ.o.mono (jv _)));clear heq hbel g2;cases R with
           |nil=>obtain rfl:k=W.ns.length:=afb;have HT:aj (res=vsA W.ts.length 0 0 W.ss):=ah (by rw[HR4.o,HE.o];rfl);have g0:=aG (j:=0) lU.o rfl;have g1:=aG (j:=1) lU.o rfl;have g2:=aG (j:=2) lU.o rfl;have g3:=aG (j:=3) lU.o rfl;have g4:=aG (j:=4) lU.o rfl;have g5:=aG (j:=5) lU.o rfl;simp only[List.getElem_toArray,List.getElem_cons_zero,List.getElem_cons_succ]at g0 g1 g2 g3 g4 g5;go_wp2_with fail;refine(Qk W _ wr (DV.o.mono afi) QC.o.2.2.2.2.1).mono ?_;rintro e w5 ⟨rfl,hb5⟩;go_wp2_with fail;go_ret;exact⟨ahk,by rw[dG.o];exact pY.o.trans (hb5.mono afi)⟩
           |cons x R=>
            obtain⟨⟨b,off,hao,hb1,hcs⟩,hrest⟩:=hrow;subst hao;simp only[aB]at hlen;have hkl:k<W.ns.length:=ahf;have x0:=hcs 0 _ rfl;have x1:=hcs 1 _ rfl;simp only[Nat.add_zero]at x0;have kg:=ah hrest;have rC:aj (W.ns.all (λc=>jE W c.mx false)=(jE W x.mx false&&R.all (λc=>jE W c.mx false))):=ah (by rw[HE.o,List.all_cons]);clear hcs hrest HE;go_upto_region 11 with fail;generalize uM:World.alloc wr _=w4;obtain⟨tb,htb⟩: ∃n,wr.heap.size=n:=⟨_,rfl⟩;have dL:aj (Below wr.heap.size wr w4):=ah (by rw[<- uM];exact aA _ _);have JE:aj (w4.heap[tb]? =some (.cells #[.string x.nm,.int .i64 x.mx] 90 (0,0))):=ah (by rw[<- uM,<- htb];exact heap_alloc_new _ _);rw[htb];clear uM htb x0 x1;have pE:=ah ((dL.o.block nb afi).trans lU.o);have Dr:aj (Below nb w w4):=ah (pY.o.trans (dL.o.mono afi));have HW4:=ah ((DV.o.below (dL.o.mono afi)).mono (show nb<=w4.heap.size by have h1:=iw.o;have h2:=dL.o.size;omega));have g0:=aG (j:=0) pE.o rfl;have g1:=aG (j:=1) pE.o rfl;have g2:=aG (j:=2) pE.o rfl;have g3:=aG (j:=3) pE.o rfl;have g4:=aG (j:=4) pE.o rfl;have g5:=aG (j:=5) pE.o rfl;have t1:=aG (j:=1) JE.o rfl;simp only[List.getElem_toArray,List.getElem_cons_zero,List.getElem_cons_succ]at g0 g1 g2 g3 g4 g5 t1;go_wp2_with fail;refine(OH W _ x.mx false w4 HW4.o).mono ?_;rintro e w5 ⟨rfl,hb5⟩;have iU:=ah (dL.o.trans (hb5.mono dL.o.size));have bD4:aj (Below nb w w5):=ah (Dr.o.trans (hb5.mono (by have h1:=iw.o;have h2:=dL.o.size;omega)));clear hb5 g0 g1 g2 g3 g4 g5 t1;cases hlk:jE W x.mx false
            ·have HT:aj (res=false):=ah (by rw[HR4.o,rC.o,hlk];rfl);go_wp2_with fail;go_ret;exact⟨ahk,by rw[dG.o];exact bD4.o⟩
            ·have HE2:aj (W.ns.all (λc=>jE W c.mx false)=R.all (λc=>jE W c.mx false)):=ah (by rw[rC.o,hlk];rfl);go_wp2_with fail;go_roundw
             case rel=>exact⟨k+1,R,ahj,ahf,HE2.o,kg.o.below (iU.o.mono afi),iZ.o.trans (iU.o.mono iw.o)⟩
             case measure=>simp[intOf];omega
theorem VG {w:World} {B b off:Nat} : ∀ {r:List ByteArray} {k:Nat},fT w B r (some ⟨b,off,none⟩) k->∀j u,(r.flatMap uf)[j]? =some u->w.cell? ⟨b,off+k+j,none⟩=some u
 | [],_,_,j,u,hu=>by simp at hu
 |s::r,k,h,0,u,hu=>by
  obtain⟨⟨b',off',e,-,hc,-⟩,-⟩:=h;injection e with e;injection e with e1 e2;subst e1 e2;have:u= .string s:=by simpa[uf]using hu.symm
  rw[this];exact hc
 |s::r,k,h,j+1,u,hu=>by have:=VG h.2 j u (by simpa[uf]using hu);rw[show off+k+(j+1)=off+(k+1)+j by omega];exact this
theorem aP9 (l:List ByteArray):(l.flatMap uf).length=l.length*1:=by induction l <;> simp_all[uf]
theorem av3 {l:List ByteArray} {u:Value} (h:u∈l.flatMap uf):u.oneCell'=true:=by
 obtain⟨x,-,hx⟩:=List.mem_flatMap.1 h;simp[uf]at hx;rw[hx];rfl
theorem uN {ops:Array Oper} {rest:List Oper} {o:Oper} {a:Act} {Q:Exit->Act->World->Prop} (w:World) (hgd:o.guard=none) (s x:Operand)
 (ho:o.op= .call {callee:= .builtin .append,args:= #[s,x],argTypes:= #[26,26]}) {v:Value} {l r:List ByteArray} {B:Nat} {ao:Option Addr} {c:Nat}
 (hs:a.eval s=v) (hg:kC B w v l) (hx:a.eval x= .slice ao r.length c) (hr:fT w w.heap.size r ao 0) (hlen:l.length+r.length<=1000000) (hB:B<=w.heap.size)
 (h: ∀v' w',kC B w' v' (l++r)->w.grownBy w' v.ownBlock->(v'.ownBlock=v.ownBlock∨v'.ownBlock=some w.heap.size)->wpList Tryz.prog ops Q rest (a.put o.dst v') w'):wpList Tryz.prog ops Q (o::rest) a w:=by
 obtain⟨i0,hi,hz0,hz1,hz2⟩:=Ai XF;cases ao with
 |some ad=>
  obtain⟨b,off,p⟩:=ad;have hp:r=[]∨p=none:=by
   cases r with
   |nil=>exact .inl rfl
   |cons y r=>obtain⟨⟨b',off',e,-⟩,-⟩:=hr;injection e with e;injection e with e1 e2 e3;exact .inr e3
  refine wpList_append_own_at w hgd s x 26 ho B 9 i0 _ 1 16 Tryz.underlying26 hi hz0 hz1 hz2 rfl ahg v l.length (l.flatMap uf) hs hg.own ⟨b,off,p⟩ r.length c (r.flatMap uf) hx (aP9 r) ?_ (λu hu=>av3 hu) afc ahf hB ?_
  ·intro j u hu;rcases hp with rfl|rfl
   ·simp at hu
   ·have:=VG hr j u hu;simpa[Addr.add_lit]using this
  ·intro v' w' hown hgr hnil hat;exact h v' w' ⟨by rw[au,List.flatMap_append];exact hown,λ_ _ _ _=>trivial⟩ hgr hat
 |none=>
  obtain rfl:r=[]:=by
   cases r with
   |nil=>rfl
   |cons y r=>obtain⟨⟨b',off',e,-⟩,-⟩:=hr;cases e
  have hrun:(Builtin.append_ #[26,26] o.type #[v,.slice none 0 c]).run Tryz.prog w= .ok v w:=by
   rcases hg.own.2 with⟨rfl,-⟩|⟨g,cap,cur,rfl,hbg,hgB,hnc,hcm,hcs,htake⟩
   ·simp[Builtin.append_,run_underlying Tryz.underlying26,sizeOf,typeInfo,hi,Builtin.lenOf,Builtin.firstCells,loadCells,loadCellsFrom]
   ·simp[Builtin.append_,run_underlying Tryz.underlying26,sizeOf,typeInfo,hi,Builtin.lenOf,hnc,run_firstCells_none,storeCells]
  refine wpList_plain hgd λK hK=> ?_;unfold Oper.wp execOp;simp only[ho,resolve,invoke,builtin,Sem.run_bind,Sem.run_pure,Result.andThen_ok,List.map_toArray,List.map_cons,List.map_nil,hs,hx,aP,hrun];exact hK _ _ (h v w (by simpa using hg) ⟨rfl,rfl,rfl,aD _,λ_ _ _=>rfl⟩ (.inl rfl))
theorem bn0 {B:Nat} {w w':World} {v:Value} {l:List ByteArray} (hg:kC B w v l) (h:w.grownBy w' v.ownBlock) (hB:B<=w.heap.size):Below B w w':=
 ⟨h.os,h.tape,h.output,h.size,λq hq=>h.block q ahf (λe=>by have:=(hg.lt q e.symm).1;omega)⟩
theorem KS {w:World} {nm:ByteArray} {t:TypeId} (h:nm.size<=maxLen):fT (w.alloc (.cells #[.string nm] t)) (w.alloc (.cells #[.string nm] t)).heap.size [nm] (some ⟨w.heap.size,0,none⟩) 0:=
 ⟨⟨_,0,rfl,ahh,aG (j:=0) (heap_alloc_new _ _) rfl,h⟩,trivial⟩
structure yx (w0:World) (nb:Nat) (W:Wo) (s:jr) (w:World) (v:Value) (l:List ByteArray):Prop where
 g:kC nb w v l
 ne: ∀q,v.ownBlock=some q->nb<q
 x:w.heap[nb]? =some (.cells #[.slice s.aC W.cs.length s.cC,.slice s.aL W.ls.length s.cL,.slice s.aN W.ns.length s.cN,.slice s.aF W.fs.length s.cF,.slice s.aT W.ts.length s.cT,.slice s.aS W.ss.length s.cS] 29 (0,0))
 wo:gq w nb W s
 b:Below nb w0 w
section
variable {w0:World} {nb:Nat} {W:Wo} {s:jr} {w w':World} {v v':Value} {l l':List ByteArray}
theorem yx.lt (h:yx w0 nb W s w v l):nb<w.heap.size:=(aI h.x)
theorem yx.step (h:yx w0 nb W s w v l) (hg:kC nb w' v' l') (hgr:w.grownBy w' v.ownBlock) (hat:v'.ownBlock=v.ownBlock∨v'.ownBlock=some w.heap.size):yx w0 nb W s w' v' l':=by
 have hB:=bn0 h.g hgr (bg h.lt);refine⟨hg,λq hq=> ?_,(hgr.block nb h.lt (λe=>by have:=h.ne nb e.symm;omega)).trans h.x,h.wo.below hB,h.b.trans hB⟩;rcases hat with e|e
 ·rw[e]at hq;exact h.ne q hq
 ·rw[e]at hq;injection hq with hq;have:=h.lt;omega
theorem yx.next (h:yx w0 nb W s w v l) (hb:Below w.heap.size w w'):yx w0 nb W s w' v l:=
 ⟨h.g.next (bR hb),h.ne,(hb.block nb h.lt).trans h.x,h.wo.below (hb.mono (bg h.lt)),h.b.trans (hb.mono (bg h.lt))⟩
theorem yx.cells (h:yx w0 nb W s w v l):w.cell? ⟨nb,1,none⟩=some (.slice s.aL W.ls.length s.cL)∧w.cell? ⟨nb,2,none⟩=some (.slice s.aN W.ns.length s.cN)∧w.cell? ⟨nb,3,none⟩=some (.slice s.aF W.fs.length s.cF)∧w.cell? ⟨nb,4,none⟩=some (.slice s.aT W.ts.length s.cT):=
 ⟨aG (j:=1) h.x rfl,aG (j:=2) h.x rfl,aG (j:=3) h.x rfl,aG (j:=4) h.x rfl⟩
theorem yx.val (h:yx w0 nb W s w v l): ∃ao cap,v= .slice ao l.length cap:=h.g.len
end
theorem Fx {α β:Type} {f:α->β} {l:List α} {k:Nat} {x:α} (h:l[k]? =some x):(l.take (k+1)).map f=(l.take k).map f++[f x]:=by
 rw[List.take_add_one,h];simp
theorem yZ {w:World} {B:Nat} {ao:Option Addr} : ∀ {l:List ByteArray} {k:Nat},fT w B l ao k->∀x∈l,x.size<=maxLen
 | [],_,_,x,hx=>ahQ
 |s::r,_,h,x,hx=>by
  rcases List.mem_cons.1 hx with rfl|hx
  ·obtain⟨⟨b,off,-,-,-,hs⟩,-⟩:=h;exact hs
  ·exact yZ h.2 x hx
theorem Qj:ad4:=by
 intro W s v av cv w hw fG hk hsm hv hav hcv;have HW:=ah hw;have kG:=ah fG;have HK:=ah hk;have Nz:=ah hav;have HVS:aj (∀x∈v,x.size<=maxLen):=ah (yZ hav);obtain⟨hs0,hs1,hs2,hs3,hs4,hs5,hs6⟩:=hsm;obtain⟨res,hres⟩: ∃r,Je [] (pW W v)=r:=⟨_,rfl⟩;have HR:=ah hres;rw[hres];have hmm:= @run_makeMap Tryz.prog;clear hw fG hk hav hres;unfold mQ;go_enter Tryz.func27,Tryz.ntmps27;go_upto_region 1 with fail;generalize hW:World.alloc w _=W1;obtain⟨nb,hnb⟩: ∃n,w.heap.size=n:=⟨_,rfl⟩;have HB:aj (Below nb w W1):=ah acM;have HI:aj (yx w nb W s W1 (.slice none 0 0) []):=ah ⟨Grow.nil _ _ _ _ _ _,λq hq=>(by cases hq),aaX,aa1,HB.o⟩;have HA1:aj (fT W1 W1.heap.size v av 0):=ah (by have h1:=Nz.o;have h2:=HB.o;rw[<- hnb]at h2;exact h1.same h2);have dG:=ah hnb;rw[hnb];clear hW hnb HW Nz HB;go_wp2_with (at_builtin;refine uN W1 rfl _ _ rfl rfl HI.o.g rfl HA1.o ahi (bg HI.o.lt) ?_);intro v1 w1 hg1 bd8 bd0;have HI1:=ah (HI.o.step hg1 bd8 bd0);clear hg1 bd8 bd0 HI HA1;obtain⟨g1,g2,g3,g4⟩:=HI1.o.cells;go_wp2_with fail;clear g1 g2 g3 g4;go_loopw [5,7,19] (λv5 _ v19 wr=> ∃k:Nat,v19= .int .i64 k∧k<=W.ls.length∧yx w nb W s wr v5 (v++(W.ls.take k).map (·.nm))) (λ_ _ v _=>W.ls.length -(intOf v).toNat)
 case atStart=>exact⟨0,rfl,bC _,by simpa using HI1.o⟩
 case round=>
  obtain⟨k,rfl,hk,hi⟩:=hrel;obtain⟨acc,hacc⟩: ∃acc,v++(W.ls.take k).map (·.nm)=acc:=⟨_,rfl⟩;rw[hacc]at hi;have HI:=ah hi;have Au:=ah hacc;have bc8:acc.length<=100:=afU
  clear hi hacc;by_cases hkl:k<W.ls.length
  ·obtain⟨x,hx⟩: ∃x,W.ls[k]? =some x:=⟨_,aX hkl⟩;have HX:=ah hx;obtain⟨b,off,hao,hb1,hcs⟩:=HI.o.wo.ls.at k x hx;have zL:=ah hao;have x0:=hcs 0 _ rfl;have x1:=hcs 1 _ rfl;simp only[aU,Nat.add_zero]at x0 x1;have HL:aj (∀q,q=s.aL->q=some ⟨b,off,none⟩):=ah (λq e=>by rw[e];exact zL.o);clear hcs hx;rw[hao];go_upto_region 6 with fail;obtain⟨cb,hcb⟩: ∃n,wr.heap.size=n:=⟨_,rfl⟩;generalize hW2:World.alloc wr _=w2;have HB2:aj (Below wr.heap.size wr w2):=ah afl;have yu:aj (w2.heap[cb]? =some (.cells #[.string x.nm,.bool x.rw] 101 (0,0))):=ah aa7;have HI2:=ah (HI.o.next HB2.o);rw[hcb];clear hW2 hcb x0 x1 HI HB2;have y0:w2.cell? ⟨cb,0,none⟩=some (.string x.nm):=aG yu.o rfl;have HI3:=ah (HI2.o.next (aA w2 (.cells #[.string x.nm] 9)));have hlen:acc.length+1<=1000000:=by omega
   have hnm:x.nm.size<=maxLen:=HK.o.ls x (List.mem_of_getElem? HX.o);go_wp2_with (at_builtin;refine uN _ rfl _ _ rfl rfl HI3.o.g rfl (KS hnm) hlen (bg HI3.o.lt) ?_);intro v3 w3 hg3 yS Ae;have HI4:=ah (HI3.o.step hg3 yS ahK);have HE:aj (acc++[x.nm]=v++(W.ls.take (k+1)).map (·.nm)):=ah (by rw[<- Au.o,Fx (f:=λy:xI=>y.nm) HX.o,List.append_assoc]);clear hg3 yS Ae HI3 HI2 yu y0 hlen hnm;go_wp2_with fail;go_roundw
   case rel=>exact⟨k+1,ahj,ahf,by rw[<- HE.o];exact HI4.o⟩
   case measure=>simp[intOf];omega
  ·obtain rfl:k=W.ls.length:=by omega
   rw[List.take_length]at Au;have HA0:=Au;obtain⟨g1,g2,g3,g4⟩:=HI.o.cells;obtain⟨wA,hwA⟩: ∃X:World,X=wr:=⟨_,rfl⟩;subst hwA;go_wp2_with fail;clear g1 g2 g3 g4;go_loopw [5,9,32] (λv5 _ v32 wr=> ∃k:Nat,v32= .int .i64 k∧k<=W.ns.length∧yx w nb W s wr v5 (acc++(W.ns.take k).map (·.nm))) (λ_ _ v _=>W.ns.length -(intOf v).toNat)
   case atStart=>exact⟨0,rfl,bC _,aga⟩
   case round=>
    obtain⟨k,rfl,hk,hi⟩:=hrel;obtain⟨EY,hacc⟩: ∃EY,acc++(W.ns.take k).map (·.nm)=EY:=⟨_,rfl⟩;rw[hacc]at hi;have HI:=ah hi;have Au:=ah hacc;have bU7:EY.length<=200:=afU;clear hi hacc;by_cases hkl:k<W.ns.length
    ·obtain⟨x,hx⟩: ∃x,W.ns[k]? =some x:=⟨_,aX hkl⟩;have HX:=ah hx;obtain⟨b,off,hao,hb1,hcs⟩:=HI.o.wo.ns.at k x hx;have x0:=hcs 0 _ rfl;have x1:=hcs 1 _ rfl;simp only[aU,Nat.add_zero]at x0 x1;clear hcs hx;rw[hao];go_upto_region 11 with fail;obtain⟨cb,hcb⟩: ∃n,wr.heap.size=n:=⟨_,rfl⟩;generalize hW2:World.alloc wr _=w2;have HB2:aj (Below wr.heap.size wr w2):=ah afl;have yu:aj (w2.heap[cb]? =some (.cells #[.string x.nm,.int .i64 x.mx] 90 (0,0))):=ah aa7;have HI2:=ah (HI.o.next HB2.o);rw[hcb];clear hW2 hcb x0 x1 HI HB2;have y0:w2.cell? ⟨cb,0,none⟩=some (.string x.nm):=aG yu.o rfl;have HI3:=ah (HI2.o.next (aA w2 (.cells #[.string x.nm] 9)));have hlen:EY.length+1<=1000000:=ahf;have hnm:x.nm.size<=maxLen:=HK.o.ns x (List.mem_of_getElem? HX.o);go_wp2_with (at_builtin;refine uN _ rfl _ _ rfl rfl HI3.o.g rfl (KS hnm) hlen (bg HI3.o.lt) ?_);intro v3 w3 hg3 yS Ae;have HI4:=ah (HI3.o.step hg3 yS ahK);have HE:aj (EY++[x.nm]=acc++(W.ns.take (k+1)).map (·.nm)):=ah (by rw[<- Au.o,Fx (f:=λy:Ji=>y.nm) HX.o,List.append_assoc]);clear hg3 yS Ae HI3 HI2 yu y0 hlen hnm;go_wp2_with fail;go_roundw
     case rel=>exact⟨k+1,ahj,ahf,by rw[<- HE.o];exact HI4.o⟩
     case measure=>simp[intOf];omega
    ·obtain rfl:k=W.ns.length:=ahf;rw[List.take_length]at Au;obtain⟨g1,g2,g3,g4⟩:=HI.o.cells;obtain⟨wB,hwB⟩: ∃X:World,X=wr:=⟨_,rfl⟩;subst hwB;have hl5:EY.length+W.fs.length<=1000000:=ahf;go_wp2_with (at_builtin;refine uN _ rfl _ _ rfl rfl HI.o.g rfl (HI.o.wo.fs.mono (bg HI.o.lt)) hl5 (bg HI.o.lt) ?_);intro v4 w4 hg4 UF vV;have hi4:=HI.o.step hg4 UF vV;obtain⟨JN,Zb⟩: ∃JN,EY++W.fs=JN:=⟨_,rfl⟩;rw[Zb]at hi4;have HI4:=ah hi4;have bD1:=ah Zb;have bU8:JN.length<=300:=(by rw[<- Zb];simp;omega);clear hg4 UF vV HI g1 g2 g3 g4 hl5 hi4 Zb;obtain⟨g1,g2,g3,g4⟩:=HI4.o.cells;have hl6:JN.length+W.ts.length<=1000000:=ahf;go_wp2_with (at_builtin;refine uN _ rfl _ _ rfl rfl HI4.o.g rfl (HI4.o.wo.ts.mono (bg HI4.o.lt)) hl6 (bg HI4.o.lt) ?_);intro v5 w5 hg5 hgr5 Uy;have HEN:aj (JN++W.ts=pW W v):=ah (by rw[<- bD1.o,<- Au.o,<- HA0.o];rfl);have gP:aj (yx w nb W s w5 v5 (pW W v)):=ah (by rw[<- HEN.o];exact HI4.o.step hg5 hgr5 Uy);have zi:aj (∀x∈pW W v,x.size<=maxLen):=ah (λx hx=>by
      have hw:=gP.o.wo;unfold pW at hx;simp only[List.mem_append,List.mem_map]at hx;rcases hx with(((h|⟨y,h,rfl⟩)|⟨y,h,rfl⟩)|h)|h
      ·exact HVS.o x h
      ·exact HK.o.ls y h
      ·exact HK.o.ns y h
      ·exact yZ hw.fs x h
      ·exact yZ hw.ts x h)
     clear hg5 hgr5 Uy HI4 g1 g2 g3 g4 hl6;obtain⟨aoN,bV5,rfl,hcN,hst⟩:=kC.says (show kC nb w5 v5 (pW W v)from gP.o.g) zi.o;obtain⟨mb,hmb⟩: ∃n,w5.heap.size=n:=⟨_,rfl⟩;have HTN:aj (fT w5 mb (pW W v) aoN 0):=ah (by rw[<- hmb];exact hst.now);have iU:aj (Below nb w w5):=ah gP.o.b;have bF4:aj (nb<mb):=ah (by rw[<- hmb];exact gP.o.lt);have HMB:=ah hmb;have vM:aj ((pW W v).length<=1000000):=ah (by unfold pW;simp;omega);clear hst hcN gP zi hmb;generalize pW W v=l at *;have hl6:=vM.o;have HM0:aj (mh (w5.alloc (.map #[] 0)) mb 0 (λ_=>false)):=ah (by rw[<- HMB.o];exact mh.made w5);have dF:aj (Below mb w5 (w5.alloc (.map #[] 0))):=ah (by rw[<- HMB.o];exact aA _ _);go_wp2_with fail;rw[HMB.o];go_loopw [12,53] (λ_ v53 wr=> ∃(k:Nat) (pre R:List ByteArray),v53= .int .i64 k∧pre++R=l∧pre.length=k∧mh wr mb k (λq=>(pre.map (·.toList)).contains q)∧res=Je (pre.map (·.toList)) R∧Below mb w5 wr) (λ_ v _=>l.length -(intOf v).toNat)
     case atStart=>exact⟨0,[],l,rfl,rfl,rfl,HM0.o.congr (λ_=>rfl),HR.o.symm,dF.o⟩
     case round=>
      obtain⟨k,pre,R,rfl,hds,hk,hmap,hres,hbel⟩:=hrel;have HM:=ah hmap;have HE:=ah hres;have HB:=ah hbel;have sO:=ah hds;have HPK:=ah hk;have pY:aj (Below w.heap.size w wr):=ah (by rw[dG.o];exact iU.o.trans (HB.o.mono (bg bF4.o)));have hlen:k+R.length=l.length:=afJ;have hrow:=(HTN.o.below HB.o).drop k;rw[aU,<- hds,<- hk,List.drop_left]at hrow;rw[hk]at hrow;clear hmap hres hbel hds hk;cases R with
      |nil=>obtain rfl:k=l.length:=afb;have HT:aj (res=true):=ah HE.o;go_wp2_with fail;go_ret;exact⟨ahk,pY.o⟩
      |cons x R=>
       obtain⟨⟨b,off,hao,hb1,x0,hsz⟩,-⟩:=hrow;simp only[aB]at hlen;have hkl:k<l.length:=ahf;have Gd:aj (res=((Tk.ji x.toList&& !((pre.map (·.toList)).contains x.toList))&&Je (pre.map (·.toList)++[x.toList]) R)):=ah HE.o;rw[hao];go_wp2_with fail;refine(zZ x wr (kG.o.same pY.o) hsz).mono ?_;rintro e w6 ⟨rfl,hb6⟩;have aS0:=ah (pY.o.trans (hb6.mono pY.o.size));have Qu:=ah (HM.o.next hb6);have Jm:aj (Below mb w5 w6):=ah (HB.o.trans (hb6.mono (bg HM.o.lt)));clear hb6 x0;rw[<- Lib.toList_data x];cases hn:Tk.ji x.toList
       ·have HT:aj (res=false):=ah (by rw[Gd.o,hn];rfl);go_wp2_with fail;go_ret;exact⟨ahk,aS0.o⟩
       ·have hk1:=Qu.o.look x hsz;cases hc:(pre.map (·.toList)).contains x.toList
        ·obtain⟨w7,hup,hm7,Ko⟩:=Qu.o.put afc x hsz true;have M4:=ah hm7;have rA:aj (Below mb w5 w7):=ah (Jm.o.trans (cB Ko (aD _) (bg Qu.o.lt)));have HT:aj (res=Je (pre.map (·.toList)++[x.toList]) R):=ah (by rw[Gd.o,hn,hc];rfl);clear hm7 Ko;simp only[hc]at hk1;go_wp2_with fail;go_roundw
         case rel=>exact⟨k+1,pre++[x],R,ahj,acE,by simp[HPK.o],M4.o.congr (λq=>by simp[List.contains_iff_mem];grind),by rw[List.map_append];exact HT.o,rA.o⟩
         case measure=>simp[intOf];omega
        ·have HT:aj (res=false):=ah (by rw[Gd.o,hn,hc];rfl);simp only[hc]at hk1;go_wp2_with fail;go_ret;exact⟨ahk,aS0.o⟩
namespace Md
def rT (nT:Int):Option tK->List tK->Bool
 |_,[]=>true
 |p,s::r=>if decide (s.th<0)||decide (nT<=s.th)then false else
  match p with
  |none=>if s.st != 0 then false else rT nT (some s) r
  |some q=>if q.th != s.th then(if s.st != 0||decide (s.th<q.th)then false else rT nT (some s) r)else(if s.st != q.st+1 then false else rT nT (some s) r)
theorem Nv (nT:Int): ∀(l:List tK) (q:tK),0<=q.th->rT nT (some q) l=vsA nT q.th (q.st+1) l
 | [],_,_=>rfl
 |s::r,q,h=>by
  rw[rT,vsA];by_cases h1:s.th<q.th
  ·by_cases h0:s.th<0
   ·simp[h1,h0]
   ·by_cases h2:nT<=s.th
    ·simp[h1,h2]
    ·have hne:(q.th != s.th)=true:=(by simp[bne];omega);simp[h1,h0,h2,hne]
  ·have h0: ¬s.th<0:=by omega
   by_cases h2:nT<=s.th
   ·simp[h2]
   ·by_cases h3:q.th<s.th
    ·have hne:(q.th != s.th)=true:=(by simp[bne];omega);have ih:=Nv nT r s ahf;by_cases h4:s.st=0
     ·rw[h4]at ih;simp[h1,h0,h2,h3,hne,h4,ih]
     ·simp[h1,h0,h2,h3,hne,h4]
    ·have he:q.th=s.th:=ahf;have hne:(q.th != s.th)=false:=(by simp[bne,he]);have ih:=Nv nT r s ahf;by_cases h4:s.st=q.st+1
     ·rw[h4]at ih;simp[h1,h0,h2,h3,hne,h4,ih,he]
     ·simp[h1,h0,h2,h3,hne,h4]
theorem aC6 (nT:Int): ∀(l:List tK),rT nT none l=vsA nT 0 0 l
 | []=>rfl
 |s::r=>by
  rw[rT,vsA];by_cases h0:s.th<0
  ·simp[h0]
  ·by_cases h2:nT<=s.th
   ·simp[h2]
   ·have ih:=Nv nT r s ahf;by_cases h3:0<s.th
    ·by_cases h4:s.st=0
     ·rw[h4]at ih;simp[h0,h2,h3,h4,ih]
     ·simp[h0,h2,h3,h4]
    ·have he:s.th=0:=ahf;by_cases h4:s.st=0
     ·rw[h4,he]at ih;simp[h2,he,h4,ih]
     ·simp[h2,he,h4]
end Md
namespace Md
def Mw (W:Wo) (i:dw):Bool:=if i.op==5||i.op==10 then true else tX W 0 i
def CW (W:Wo) (th n regs:Int) (l:List dw) (k:Int) (i:dw):Bool:=
 ((decide (1<=i.op)&&decide (i.op<=28))&&((i.op==28)==(k==n -1)))&&((Mw W i&&vk l (l.length+1) k)&&(zB W th i&&(((!(i.op==5)||eB i.a n)&&(!(i.op==10)||eB i.b n))&&(je i).all (λr=>eB r regs))))
def IE (W:Wo) (th n regs:Int) (l:List dw):Int->List dw->Bool
 |_,[]=>true
 |k,i::r=>CW W th n regs l k i&&IE W th n regs l (k+1) r
def rTh (W:Wo) (th:Int) (t:xJ):Bool:=
 if decide (t.regs<0)||(decide (32<t.regs)||((t.is.length:Int)==0))then false else IE W th t.is.length t.regs t.is 0 t.is
theorem bj7 (W:Wo) (n:Int) (i:dw):tX W n i=(Mw W i&&((!(i.op==5)||eB i.a n)&&(!(i.op==10)||eB i.b n))):=by
 unfold Mw;by_cases h5:i.op=5
 ·simp[tX,h5]
 ·by_cases h10:i.op=10
  ·simp[tX,h10]
  ·have a:(i.op==5)=false:=by simp[h5]
   have b:(i.op==10)=false:=by simp[h10]
   have e:tX W n i=tX W 0 i:=by unfold tX;simp only[a,b,Bool.false_eq_true,if_false]
   rw[e,a,b];simp
theorem bk3 (W:Wo) (th n regs:Int) (l:List dw) (k:Int) (i:dw):CW W th n regs l k i=(Ah W th n regs k i&&vk l (l.length+1) k):=by
 unfold CW Ah;rw[bj7];cases (decide (1<=i.op)&&decide (i.op<=28)) <;> cases ((i.op==28)==(k==n -1)) <;> cases Mw W i <;> cases vk l (l.length+1) k <;> cases zB W th i <;> cases (je i).all (λr=>eB r regs) <;> cases ((!(i.op==5)||eB i.a n)&&(!(i.op==10)||eB i.b n)) <;> rfl
theorem Ya (W:Wo) (th n regs:Int) (l:List dw): ∀(r:List dw) (k:Nat),IE W th n regs l (k:Nat) r=(wC W th n regs (k:Nat) r&&(List.range r.length).all (λq=>vk l (l.length+1) ((k+q:Nat):Int)))
 | [],_=>rfl
 |i::r,k=>by
  have ih:=Ya W th n regs l r (k+1);rw[IE,wC,bk3];have e:((k:Nat):Int)+1=((k+1:Nat):Int):=ahf
  rw[e,ih,aB,List.range_succ_eq_map,List.all_cons,List.all_map];have e2:((λq=>vk l (l.length+1) ((k+q:Nat):Int)) ∘ Nat.succ)=λq=>vk l (l.length+1) ((k+1+q:Nat):Int):=by funext q;show vk l (l.length+1) ((k+(q+1):Nat):Int)=_;rw[show k+(q+1)=k+1+q by omega]
  rw[e2,Nat.add_zero];cases Ah W th n regs (k:Nat) i <;> cases vk l (l.length+1) (k:Nat) <;> simp
theorem bk4 (W:Wo) (th:Int) (t:xJ):rTh W th t=GY W th t:=by
 unfold rTh GY;split
 ·rfl
 ·have:=Ya W th t.is.length t.regs t.is t.is 0;simp only[aU]at this;exact this
def Jf:List ByteArray->List ByteArray->Bool
 |_,[]=>true
 |pre,x::r=>(Tk.ji x.toList&& !decide (0<=gK pre x))&&Jf (pre++[x]) r
theorem aj2: ∀(l:List ByteArray) (nm:ByteArray) (k:Int),0<=sG l nm k->∃s∈l,s.toList=nm.toList
 | [],_,_,h=>by rw[sG]at h;exact absurd h ahg
 |s::r,nm,k,h=>by
  rw[sG]at h;split at h
  ·rename_i hs;exact⟨s,aW,by simpa using hs⟩
  ·obtain⟨x,hx,e⟩:=aj2 r nm (k+1) h;exact⟨x,aY _ hx,e⟩
theorem bg9 (l:List ByteArray) (x:ByteArray):decide (0<=gK l x)=(l.map (·.toList)).contains x.toList:=by
 rw[Bool.eq_iff_iff,decide_eq_true_iff,List.contains_iff_mem,List.mem_map];constructor
 ·exact aj2 l x 0
 ·exact λh=>Q0 l x 0 ahg h
theorem an8: ∀(l pre:List ByteArray),Jf pre l=Je (pre.map (·.toList)) l
 | [],_=>rfl
 |x::r,pre=>by rw[Jf,Je,an8 r,bg9,List.map_append];rfl
end Md
end Go.Proofs.YtcjgfgkllmldpaaGreatDoor
