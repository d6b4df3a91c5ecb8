/- What it is that objects and code are valid. No program in sight. And what hangs on it. -/
import Derived.Test.YtdoplekppjkkpaaGreatDoorGCE
set_option linter.unusedSimpArgs false
set_option linter.unusedVariables false
set_option maxHeartbeats 40000000
set_option maxRecDepth 1000000
namespace Go.Proofs.YtdoplekppjkkpaaGreatDoor
open Go.RowKit
namespace Md
def yP (i n:Int):Bool:=decide (0<=i)&&decide (i<n)
def Ia (c:mP) (k:Int) (x:mP):Bool:=x.nm.toList==c.nm.toList&&(x.ix==k&&(x.sz==c.sz&&(x.wW==c.wW&&x.init==c.init)))
def zI (c:mP):Nat->Int->List mP->Bool
 |0,_,_=>true
 |_+1,_,[]=>false
 |n+1,k,x::r=>Ia c k x&&zI c n (k+1) r
def tu:Nat->List mP->Option (List ByteArray)
 |0,_=>some []
 |_+1,[]=>some []
 |f+1,c::r=>
  if c.sz==0 then(if c.ix != 0 then none else(tu f r).map (λl=>c.nm::l))else
  if decide (c.sz<1)||(decide (4<c.sz)||(c.wW||decide (((r.length+1:Nat):Int)<c.sz)))then none else
  if zI c c.sz.toNat 0 (c::r)then(tu f ((c::r).drop c.sz.toNat)).map (λl=>c.nm::l)else none
def Dj (l:List mP):Option (List ByteArray):=tu l.length l
def Gq:List (List UInt8)->List ByteArray->Bool
 |_,[]=>true
 |seen,x::r=>(Tk.jf x.toList&& !(seen.contains x.toList))&&Gq (seen++[x.toList]) r
def pY (W:Wo) (i:Int) (rw:Bool):Bool:=yP i W.ls.length&&(match W.ls[i.toNat]? with|some l=>l.rw==rw|none=>false)
def vsA (nT:Int):Int->Int->List sK->Bool
 |_,_,[]=>true
 |th,nx,s::r=>if decide (s.th<th)||decide (nT<=s.th)then false else
  if s.st != (if th<s.th then 0 else nx)then false else vsA nT (if th<s.th then s.th else th) ((if th<s.th then 0 else nx)+1) r
def pK (W:Wo) (v:List ByteArray):List ByteArray:=v++W.ls.map (·.nm)++W.ns.map (·.nm)++W.fs++W.ts
def vW (W:Wo):Bool:=
 if decide ((12:Int)<W.cs.length)||(decide ((4:Int)<W.ls.length)||(decide ((2:Int)<W.ns.length)||(decide ((2:Int)<W.fs.length)||decide ((60:Int)<W.ss.length))))then false else
 if decide ((W.ts.length:Int)<1)||decide ((4:Int)<W.ts.length)then false else
 match Dj W.cs with
 |none=>false
 |some v=>Gq [] (pK W v)&&(W.ns.all (λc=>pY W c.mx false)&&vsA W.ts.length 0 0 W.ss)
def Rx (W:Wo) (i:Int):Bool:=yP i W.cs.length&&(match W.cs[i.toNat]? with|some c=>c.sz==0|none=>false)
def Qs (W:Wo) (i n:Int):Bool:=yP i W.cs.length&&(match W.cs[i.toNat]? with|some c=>c.ix==0&&(c.sz != 0&&c.sz==n)|none=>false)
def KF (op:Int):Bool:=decide (1<=op)&&decide (op<=5)
structure NY (W:Wo):Prop where
 cs: ∀c∈W.cs,c.nm.size<=maxLen
 ls: ∀c∈W.ls,c.nm.size<=maxLen
 ns: ∀c∈W.ns,c.nm.size<=maxLen
def oz (W:Wo):Prop:=W.cs.length<=12∧W.ls.length<=4∧W.ns.length<=2∧W.fs.length<=2∧W.ss.length<=60∧1<=W.ts.length∧W.ts.length<=4
end Md
open Md
theorem Mq (i n:Int) (w:World):Calls Tryz.prog 34 #[.int .i64 i,.int .i64 n] w λe w'=>e= .returned (.bool (yP i n))∧w=w':=by
 unfold yP;by_cases h0:0<=i <;> by_cases h1:i<n
 all_goals go_enter Tryz.func34,Tryz.ntmps34;go_wp2_with fail;go_ret;exact⟨by simp[h0,h1],rfl⟩
theorem rZ (i:Int) (w:World):Calls Tryz.prog 104 #[.int .i64 i] w λe w'=>e= .returned (.bool (KF i))∧w=w':=by
 unfold KF;by_cases h0:1<=i <;> by_cases h1:i<=5
 all_goals go_enter Tryz.func104,Tryz.ntmps104;go_wp2_with fail;go_ret;exact⟨by simp[h0,h1],rfl⟩
theorem Np {α:Type} {l:List α} {i:Int} (h:yP i l.length=true): ∃(k:Nat) (x:α),i=(k:Int)∧k<l.length∧l[k]? =some x:=by
 unfold yP at h;simp only[aP,decide_eq_true_eq]at h;obtain⟨k,rfl⟩:=Int.eq_ofNat_of_zero_le h.1;have hk:k<l.length:=agH
 exact⟨k,l[k],rfl,hk,bC hk⟩
theorem tC {i n:Int} {b:Bool} (h:yP i n=b) (w:World):Calls Tryz.prog 34 #[.int .i64 i,.int .i64 n] w λe w'=>e= .returned (.bool b)∧w=w':=by
 subst h;exact Mq i n w
theorem LY (W:Wo) (s:jS) (i:Int) (rw:Bool) (w:World) (hw:iP w w.heap.size W s):
 Calls Tryz.prog 19 #[nD W s,.int .i64 i,.bool rw] w λe w'=>e= .returned (.bool (pY W i rw))∧Below w.heap.size w w':=by
 have hl:=hw.ll;unfold maxLen at hl;have HW:=ah hw;clear hw;unfold nD;cases hwi:yP i W.ls.length
 ·have hres:pY W i rw=false:=by unfold pY;rw[hwi];rfl
  rw[hres];go_enter Tryz.func19,Tryz.ntmps19;go_upto_region 1 with fail;generalize hW:World.alloc w _=W1;obtain⟨nb,hnb⟩: ∃n,w.heap.size=n:=⟨_,rfl⟩;have HB:aj (Below w.heap.size w W1):=ah aeW;have hc:W1.cell? ⟨nb,1,none⟩=some (.slice s.aL W.ls.length s.cL):=aaN
  have HF:=ah (HW.o.ls.same HB.o);rw[hnb];clear hW hnb;go_wp2_with fail;refine(tC hwi W1).mono ?_;rintro e w2 ⟨rfl,rfl⟩;go_wp2_with fail;go_ret;exact⟨rfl,HB.o⟩
 ·obtain⟨k,x,rfl,hk,hx⟩:=Np hwi;have hres:pY W k rw=(x.rw==rw):=by unfold pY;rw[hwi];simp[hx]
  rw[hres];go_enter Tryz.func19,Tryz.ntmps19;go_upto_region 1 with fail;generalize hW:World.alloc w _=W1;obtain⟨nb,hnb⟩: ∃n,w.heap.size=n:=⟨_,rfl⟩;have HB:aj (Below w.heap.size w W1):=ah aeW;have hc:W1.cell? ⟨nb,1,none⟩=some (.slice s.aL W.ls.length s.cL):=aaN
  have HF:=ah (HW.o.ls.same HB.o);rw[hnb];clear hW hnb;obtain⟨b,off,hao,hb,hcs⟩:=HF.o.at k x hx;rw[hao]at hc;have k0:(0:Int)<=(k:Int):=agH
  have k1:(k:Int)<(W.ls.length:Int):=agH
  have z1:=hcs 1 _ rfl;simp only[aU,Nat.add_zero]at z1;clear hcs HF;go_wp2_with fail;refine(tC hwi W1).mono ?_;rintro e w2 ⟨rfl,rfl⟩;go_wp2_with fail;go_ret;exact⟨ahy,HB.o⟩
theorem R9 (W:Wo) (s:jS) (i:Int) (w:World) (hw:iP w w.heap.size W s):
 Calls Tryz.prog 102 #[nD W s,.int .i64 i] w λe w'=>e= .returned (.bool (Rx W i))∧Below w.heap.size w w':=by
 have hl:=hw.lc;unfold maxLen at hl;have HW:=ah hw;clear hw;unfold nD;cases hwi:yP i W.cs.length
 ·have hres:Rx W i=false:=by unfold Rx;rw[hwi];rfl
  rw[hres];go_enter Tryz.func102,Tryz.ntmps102;go_upto_region 1 with fail;generalize hW:World.alloc w _=W1;obtain⟨nb,hnb⟩: ∃n,w.heap.size=n:=⟨_,rfl⟩;have HB:aj (Below w.heap.size w W1):=ah aeW;have hc:W1.cell? ⟨nb,0,none⟩=some (.slice s.aC W.cs.length s.cC):=aaN
  have HF:=ah (HW.o.cs.same HB.o);rw[hnb];clear hW hnb;go_wp2_with fail;refine(tC hwi W1).mono ?_;rintro e w2 ⟨rfl,rfl⟩;go_wp2_with fail;go_ret;exact⟨rfl,HB.o⟩
 ·obtain⟨k,x,rfl,hk,hx⟩:=Np hwi;have hres:Rx W k=(x.sz==0):=by unfold Rx;rw[hwi];simp[hx]
  rw[hres];go_enter Tryz.func102,Tryz.ntmps102;go_upto_region 1 with fail;generalize hW:World.alloc w _=W1;obtain⟨nb,hnb⟩: ∃n,w.heap.size=n:=⟨_,rfl⟩;have HB:aj (Below w.heap.size w W1):=ah aeW;have hc:W1.cell? ⟨nb,0,none⟩=some (.slice s.aC W.cs.length s.cC):=aaN
  have HF:=ah (HW.o.cs.same HB.o);rw[hnb];clear hW hnb;obtain⟨b,off,hao,hb,hcs⟩:=HF.o.at k x hx;rw[hao]at hc;have k0:(0:Int)<=(k:Int):=agH
  have k1:(k:Int)<(W.cs.length:Int):=agH
  have z2:=hcs 2 _ rfl;simp only[aU,Nat.add_zero]at z2;clear hcs HF;go_wp2_with fail;refine(tC hwi W1).mono ?_;rintro e w2 ⟨rfl,rfl⟩;go_wp2_with fail;go_ret;exact⟨ahy,HB.o⟩
theorem SF (W:Wo) (s:jS) (i:Int) (n:Int) (w:World) (hw:iP w w.heap.size W s):
 Calls Tryz.prog 103 #[nD W s,.int .i64 i,.int .i64 n] w λe w'=>e= .returned (.bool (Qs W i n))∧Below w.heap.size w w':=by
 have hl:=hw.lc;unfold maxLen at hl;have HW:=ah hw;clear hw;unfold nD;cases hwi:yP i W.cs.length
 ·have hres:Qs W i n=false:=by unfold Qs;rw[hwi];rfl
  rw[hres];go_enter Tryz.func103,Tryz.ntmps103;go_upto_region 1 with fail;generalize hW:World.alloc w _=W1;obtain⟨nb,hnb⟩: ∃n,w.heap.size=n:=⟨_,rfl⟩;have HB:aj (Below w.heap.size w W1):=ah aeW;have hc:W1.cell? ⟨nb,0,none⟩=some (.slice s.aC W.cs.length s.cC):=aaN
  have HF:=ah (HW.o.cs.same HB.o);rw[hnb];clear hW hnb;go_wp2_with fail;refine(tC hwi W1).mono ?_;rintro e w2 ⟨rfl,rfl⟩;go_wp2_with fail;go_ret;exact⟨rfl,HB.o⟩
 ·obtain⟨k,x,rfl,hk,hx⟩:=Np hwi;have hres:Qs W k n=(x.ix==0&&(x.sz != 0&&x.sz==n)):=by unfold Qs;rw[hwi];simp[hx]
  rw[hres];go_enter Tryz.func103,Tryz.ntmps103;go_upto_region 1 with fail;generalize hW:World.alloc w _=W1;obtain⟨nb,hnb⟩: ∃n,w.heap.size=n:=⟨_,rfl⟩;have HB:aj (Below w.heap.size w W1):=ah aeW;have hc:W1.cell? ⟨nb,0,none⟩=some (.slice s.aC W.cs.length s.cC):=aaN
  have HF:=ah (HW.o.cs.same HB.o);rw[hnb];clear hW hnb;obtain⟨b,off,hao,hb,hcs⟩:=HF.o.at k x hx;rw[hao]at hc;have k0:(0:Int)<=(k:Int):=agH
  have k1:(k:Int)<(W.cs.length:Int):=agH
  have z1:=hcs 1 _ rfl;have z2:=hcs 2 _ rfl;simp only[aU,Nat.add_zero]at z1 z2;clear hcs HF;cases h1:(x.ix==0)
  ·go_wp2_with fail;refine(tC hwi W1).mono ?_;rintro e w2 ⟨rfl,rfl⟩;go_wp2_with fail;go_ret;exact⟨by rw[h1];simp,HB.o⟩
  ·cases h2:(x.sz==0)
   ·have h2':(x.sz != 0)=true:=(by simp[bne,h2]);go_wp2_with fail;refine(tC hwi W1).mono ?_;rintro e w2 ⟨rfl,rfl⟩;go_wp2_with fail;go_ret;exact⟨by rw[h1,h2'];simp,HB.o⟩
   ·have h2':(x.sz != 0)=false:=(by simp[bne,h2]);go_wp2_with fail;refine(tC hwi W1).mono ?_;rintro e w2 ⟨rfl,rfl⟩;go_wp2_with fail;go_ret;exact⟨by rw[h1,h2'];simp,HB.o⟩
def Xa:Prop:= ∀(W:Wo) (s:jS) (w:World),iP w w.heap.size W s->dW w->NY W->Calls Tryz.prog 6 #[nD W s] w λe w'=>e= .returned (.bool (vW W))∧Below w.heap.size w w'
theorem af0 (a a':ByteArray) (i i' z z' n n':Int) (v v':Bool) (w:World):
 (binOp .neq 39 (.agg #[.string a,.int .i64 i,.int .i64 z,.bool v,.int .i64 n]) (.agg #[.string a',.int .i64 i',.int .i64 z',.bool v',.int .i64 n'])).run Tryz.prog w= .ok (.bool (!(a.toList==a'.toList&&(i==i'&&(z==z'&&(v==v'&&n==n')))))) w:=by
 cases h1:(a.toList==a'.toList) <;> cases h2:(i==i') <;> cases h3:(z==z') <;> cases h4:(v==v') <;> cases h5:(n==n')
 all_goals simp[go_sem,h1,h2,h3,h4,h5]
theorem aW5 {P:Program} {o:Oper} {a:Act} {w:World} {K:Act->World->Prop} {Q:Exit->Act->World->Prop} (s x:Operand) (T ty:TypeId) (ho:o.op= .binOp .neq T s x ty)
 (A B:Value) (r:Bool) (hs:a.eval s=A) (hx:a.eval x=B) (hg:(eqGuard .neq T s x A B).run P w= .ok () w) (hr:(binOp .neq T A B).run P w= .ok (.bool r) w) (h:K (a.put o.dst (.bool r)) w):o.wp P a w K Q:=by
 unfold Oper.wp execOp;simp only[ho,Sem.run_bind,Sem.run_pure,Result.andThen_ok,hs,hx,hg,hr];exact h
theorem Vu (s x:Operand) (xs ys:Array Value) (w:World):(eqGuard .neq 39 s x (.agg xs) (.agg ys)).run Tryz.prog w= .ok () w:=run_eqGuard_agg (w:=w) .neq 39 s x xs ys Tryz.eqGuardType39
theorem jU.far {B b:Nat} {w w':World} {v:Value} {l:List ByteArray} (h:jU B w v l) (hg:w.grownBy w' (some b)) (hne:v.ownBlock≠some b):jU B w' v l:=
 ⟨h.own.kept hg (.inr hne),λ_ _ _ _=>trivial⟩
theorem Uf:(Tryz.prog.info? 9).map (λi=>(i.zero,i.size,i.bytes))=some (some (.string ⟨#[]⟩),1,16):=agG
theorem drop_at {α:Type} {f:α->List Value} {m B:Nat} {w:World} {ao:Option Addr} : ∀ {l:List α} {k:Nat} (i:Nat),gG f m w B l ao k->gG f m w B (l.drop i) ao (k+i):=λi h=>Og i h
def VcP (o:Option (List ByteArray)) (w:World) (e:Ending) (w':World):Prop:=(match o with
 |none=>e= .returned (.tuple #[.slice none 0 0,.bool false])
 |some v=> ∃ao cap,e= .returned (.tuple #[.slice ao v.length cap,.bool true])∧fP w' w'.heap.size v ao 0∧v.length<=cap)∧Below w.heap.size w w'
theorem En {o:Option (List ByteArray)} {a:List ByteArray} {x:ByteArray} :(o.map (λl=>x::l)).map (λl=>a++l)=o.map (λl=>(a++[x])++l):=by
 cases o <;> simp
theorem Nj (l:List mP) (w:World) (ao:Option Addr) (cap:Nat) (hl:l.length<=12) (hw:gG kM 5 w w.heap.size l ao 0) (hn: ∀c∈l,c.nm.size<=maxLen):
 Calls Tryz.prog 17 #[.slice ao l.length cap] w (VcP (Dj l) w):=by
 have HW:=ah hw;have HN:=ah hn;obtain⟨res,hres⟩: ∃r,Dj l=r:=⟨_,rfl⟩;have HR:=ah hres;rw[hres];obtain⟨B,hB⟩: ∃n,w.heap.size=n:=⟨_,rfl⟩;have uS:=ah hB;rw[hB]at HW;clear hw hn hres hB;go_enter Tryz.func17,Tryz.ntmps17;go_wp2_with fail;go_loopw [4,5,6,7,51,52] (λv4 v5 _ _ _ _ wr=> ∃(k:Nat) (R:List mP) (acc:List ByteArray) (f:Nat),v5= .int .i64 k∧k+R.length=l.length∧R.length<=f∧res=(tu f R).map (λl=>acc++l)∧jU B wr v4 acc∧gG kM 5 wr B R ao k∧Below B w wr∧acc.length<=k∧(∀c∈R,c.nm.size<=maxLen)∧(∀x∈acc,x.size<=maxLen)) (λ_ v _ _ _ _ _=>l.length -(intOf v).toNat)
 case atStart=>exact⟨0,l,[],l.length,rfl,agJ,aB _,by rw[<- HR.o];show tu l.length l=_;cases tu l.length l <;> rfl,Grow.nil _ _ _ _ _ _,HW.o,au _ _,aB _,HN.o,λx hx=>ahB⟩
 case round=>
  obtain⟨k,R,acc,f,rfl,hlen,Ua,heq,hg,hrow,hbel,hac,hnR,XW⟩:=hrel;have HE:=ah heq;have HG:=ah hg;have HB:=ah hbel;have HNR:=ah hnR;have Tt:=ah XW;have sI:aj (B<=wr.heap.size):=ah (by have h1:=hbel.size;have h2:=uS.o;omega);clear heq hg hbel hnR XW;cases R with
  |nil=>
   obtain rfl:k=l.length:=aeQ
   obtain⟨Xc,cap2,rfl,hc2,hst⟩:=jU.says HG.o Tt.o;have HT:aj (res=some acc):=ah (by rw[HE.o];cases f <;> simp[tu]);have HST:=ah hst.now;have Nu:=ah hc2;clear hst hc2;go_wp2_with fail
   go_ret2
   rw[HT.o];exact⟨⟨Xc,cap2,rfl,HST.o,Nu.o⟩,by rw[uS.o];exact HB.o⟩
  |cons c R=>
   obtain⟨f,rfl⟩: ∃g,f=g+1:=⟨f -1,by simp at Ua;omega⟩;have ZC:=ah hrow;obtain⟨⟨b,off,rfl,hb1,hcs⟩,hrest⟩:=hrow;simp only[aD]at hlen Ua;have hkl:k<l.length:=agH
   have x0:=hcs 0 _ rfl;have x1:=hcs 1 _ rfl;have x2:=hcs 2 _ rfl;have x3:=hcs 3 _ rfl;have x4:=hcs 4 _ rfl;simp only[Nat.add_zero]at x0;have kL:=ah hrest;clear hcs hrest;go_upto_region 5 with fail;obtain⟨cb,hcb⟩: ∃n,wr.heap.size=n:=⟨_,rfl⟩;generalize hW2:World.alloc wr _=w2;have HB2:aj (Below wr.heap.size wr w2):=ah afb;have zX:aj (w2.heap[cb]? =some (.cells #[.string c.nm,.int .i64 c.ix,.int .i64 c.sz,.bool c.wW,.int .i64 c.init] 39 (0,0))):=ah aaT;have WB:=ah hcb;have HG2:=ah (HG.o.next (bS HB2.o));rw[hcb];clear hW2 hcb x0 x1 x2 x3 x4;have y0:=aQ (j:=0) zX.o rfl;simp only[List.getElem_toArray,List.getElem_cons_zero,List.getElem_cons_succ]at y0;obtain⟨av,cv,hv⟩:=HG2.o.len;subst hv;have nX:=ah (HG2.o.next (bS (ak w2 (.cells (sD c.nm).toArray 9))));have iX:=ah (gP (heap_alloc_new w2 (.cells (sD c.nm).toArray 9)));obtain⟨i0,hi,hz0,hz1,hz2⟩:=BR Uf;have hbs:B<=w2.heap.size+1:=adI
   have aO8:acc.length+1<=maxLen:=aeS
   have QX:(acc.length+1)*16<=140737488355328:=agH
   go_wp2_with (at_builtin;refine wpList_append_lies _ rfl _ _ 27 rfl B 9 i0 _ 1 16 Tryz.underlying27 hi hz0 hz1 hz2 rfl agI _ _ _ rfl nX.o.own ⟨w2.heap.size,0,none⟩ 1 1 (sD c.nm) rfl rfl iX.o (by simp[sD,Value.oneCell']) agI aO8 QX aeV _ rfl ?_);clear hi hz0 hz1 hz2 y0;intro g MP w3 hown hgr hmv hlt3;have Bp:aj (jU B w3 (.slice (some ⟨g,0,none⟩) (acc.length+1) MP) (acc++[c.nm])):=ah (nX.o.push (x:=c.nm) (λ_ _=>trivial) rfl hown hgr afm);have KS:aj (∀q,(Value.slice av acc.length cv).ownBlock=some q->B<=q∧q<cb):=ah (λq hq=>by have:=HG.o.lt q hq;rw[WB.o]at this;exact this);have HW2:aj (cb<w2.heap.size):=ah (aO zX.o);have Zq:aj (Below B wr w3):=ah (((HB2.o.mono sI.o).trans ((ak w2 _).mono adI)).trans ⟨hgr.os,hgr.tape,hgr.output,hgr.size,λq hq=>hgr.block q (by simp;have h1:=sI.o;have h2:=HB2.o.size;omega) (λe=>by have:=(KS.o q e.symm).1;omega)⟩);have HB3:=ah (HB.o.trans Zq.o);have yZ:aj (w3.heap[cb]? =some (.cells #[.string c.nm,.int .i64 c.ix,.int .i64 c.sz,.bool c.wW,.int .i64 c.init] 39 (0,0))):=ah ((hgr.block cb (by simp;have:=HW2.o;omega) (λe=>by have:=(KS.o cb e.symm).2;omega)).trans ((heap_alloc_old _ _ HW2.o).trans zX.o));have HGN:aj (g≠cb):=ah (by
    rcases hmv with h|h
    ·have:=(KS.o g h).2;omega
    ·have:=HW2.o;omega)
   have WK:aj (∀x∈acc++[c.nm],x.size<=maxLen):=ah (λx hx=>by
    rcases List.mem_append.1 hx with hx|hx
    ·exact Tt.o x hx
    ·rw[List.mem_singleton.1 hx];exact HNR.o c aX)
   have HNT:aj (∀x∈R,x.nm.size<=maxLen):=ah (λx hx=>HNR.o x (aY _ hx));clear hown hgr hmv hlt3 hbs aO8 QX iX nX HG2 zX HG;have z0:=aQ (j:=0) yZ.o rfl;have z1:=aQ (j:=1) yZ.o rfl;have z2:=aQ (j:=2) yZ.o rfl;have z3:=aQ (j:=3) yZ.o rfl;have z4:=aQ (j:=4) yZ.o rfl;simp only[List.getElem_toArray,List.getElem_cons_zero,List.getElem_cons_succ]at z0 z1 z2 z3 z4;have hwl:IntKind.i64.wrap ((l.length:Int) -(k:Int))=(l.length:Int) -(k:Int):=IntWalk.i64_in _ agH;have hw1:IntKind.i64.wrap ((k:Int)+1)=(k:Int)+1:=IntWalk.i64_in _ agH;cases hsz:(c.sz==0)
   ·by_cases h1:c.sz<1
    ·have HT:aj (res=none):=ah (by rw[HE.o,tu,hsz];simp[h1]);go_wp2_with fail
     go_ret2
     rw[HT.o];exact⟨rfl,afC⟩
    ·by_cases h2:4<c.sz
     ·have HT:aj (res=none):=ah (by rw[HE.o,tu,hsz];simp[h2]);go_wp2_with fail
      go_ret2
      rw[HT.o];exact⟨rfl,afC⟩
     ·cases Yd:c.wW
      ·have WT:=ah Yd;rw[Yd]at z3 yZ;by_cases h4:(l.length:Int) -(k:Int)<c.sz
       ·have HT:aj (res=none):=ah (by rw[HE.o,tu,hsz];have:decide (((R.length+1:Nat):Int)<c.sz)=true:=adl;simp only[this];simp);go_wp2_with fail
        go_ret2
        rw[HT.o];exact⟨rfl,afC⟩
       ·obtain⟨n,hn⟩:=Int.eq_ofNat_of_zero_le (show 0<=c.sz by omega);have Ey:=ah hn;have hn1:1<=n:=agH;have hn4:n<=4:=agH;have hnR:n<=R.length+1:=agH;have kU:aj (res=if zI c n 0 (c::R)then(tu f ((c::R).drop n)).map (λl=>(acc++[c.nm])++l)else none):=ah (by
         have hd:(decide (c.sz<1)||(decide (4<c.sz)||(c.wW||decide (((R.length+1:Nat):Int)<c.sz))))=false:=(by rw[Yd];simp;omega);rw[HE.o,tu,hsz,hd];have e:c.sz.toNat=n:=agH;rw[e];cases zI c n 0 (c::R)
         ·rfl
         ·exact En)
        clear hn HE;go_upto_region 13 with fail;clear z0 z1 z2 z3 z4;obtain⟨wI,Yg⟩: ∃W:World,W=wr:=⟨_,rfl⟩;subst Yg;go_loopw [7,52] (λ_ v52 wq=> ∃(j:Nat) (Q:List mP) (ix:Int),v52= .int .i64 j∧j<=n∧Q=(c::R).drop j∧zI c n 0 (c::R)=zI c (n -j) j Q∧wq.heap[cb]? =some (.cells #[.string c.nm,.int .i64 ix,.int .i64 c.sz,.bool false,.int .i64 c.init] 39 (0,0))∧jU B wq (.slice (some ⟨g,0,none⟩) (acc.length+1) MP) (acc++[c.nm])∧gG kM 5 wq B (c::R) (some ⟨b,off,none⟩) k∧Below B w wq) (λ_ v _=>n -(intOf v).toNat)
        case atStart=>exact⟨0,_,c.ix,rfl,bF _,rfl,rfl,yZ.o,Bp.o,ZC.o.below Zq.o,HB3.o⟩
        case round=>
         obtain⟨j,Q,ix,rfl,hjn,hQ,heq,hbx,hg,hrow,hbel⟩:=hrel;have HQ:=ah hQ;have uT:=ah heq;have uZ:=ah hbx;have HGq:=ah hg;have HRq:=ah hrow;have HBq:=ah hbel;clear hQ heq hbx hg hrow hbel;by_cases hjl:j<n
         ·cases Q with
          |nil=>exfalso;have:=congrArg List.length HQ.o;simp at this;omega
          |cons x Q=>
           have hx:(c::R)[j]? =some x:=(by have:=congrArg (λl=>l[0]?) HQ.o;simpa using this.symm);obtain⟨b',off',e,hb',hcs⟩:=HRq.o.at j x hx;injection e with e;injection e with e1 e2;subst e1 e2;have z0:=hcs 0 _ rfl;have z1:=hcs 1 _ rfl;have z2:=hcs 2 _ rfl;have z3:=hcs 3 _ rfl;have z4:=hcs 4 _ rfl;simp only[Nat.add_zero]at z0;have hjs:(j:Int)<c.sz:=afV;have y2:wr.cell? ⟨cb,2,none⟩=some (.int .i64 c.sz):=aQ uZ.o rfl;have y1:wr.cell? ⟨cb,1,none⟩=some (.int .i64 ix):=aQ uZ.o rfl;have f1:wr.frozen? ⟨cb,1,none⟩=false:=bK uZ.o;have hkj:k+j<l.length:=agH;have hwk:IntKind.i64.wrap ((k:Int)+(j:Int))=((k+j:Nat):Int):=acX;have KW:aj (B<=cb):=ah (by have:=sI.o;have:=WB.o;omega);clear hcs hx;go_upto_region 16 with fail;generalize hW:World.setCell wr _ _=w4;have JW:aj (Below B wr w4):=ah (by rw[<- hW];exact cK (bU _ _ _) KW.o (aJ KW.o (bH (aO uZ.o))));have oH:aj (w4.heap[cb]? =some (.cells #[.string c.nm,.int .i64 j,.int .i64 c.sz,.bool false,.int .i64 c.init] 39 (0,0))):=ah (by rw[<- hW];exact qy uZ.o _ rfl);have NA:aj (jU B w4 (.slice (some ⟨g,0,none⟩) (acc.length+1) MP) (acc++[c.nm])):=ah (by rw[<- hW];exact jU.far HGq.o (bU _ _ _) (λe=>by injection e with e;exact HGN.o e));have HR4:=ah (HRq.o.below JW.o);have dR:=ah (HBq.o.trans JW.o);have Zp:aj (B<=w4.heap.size):=ah (by have h1:=KW.o;have h2:=(aO oH.o);omega);have z0':=(JW.o.cell (p:=⟨b,_,none⟩) hb').trans z0;have z1':=(JW.o.cell (p:=⟨b,_,none⟩) hb').trans z1;have z2':=(JW.o.cell (p:=⟨b,_,none⟩) hb').trans z2;have z3':=(JW.o.cell (p:=⟨b,_,none⟩) hb').trans z3;have Sj:=(JW.o.cell (p:=⟨b,_,none⟩) hb').trans z4;have hb4:b<w4.heap.size:=aR hb' Zp.o;clear hW z0 z1 z2 z3 z4 y1 y2 f1;have Z0:=λw' (hb:Below w4.heap.size w4 w')=>(hb.cell (p:=⟨b,_,none⟩) hb4).trans z0';have Z1:=λw' (hb:Below w4.heap.size w4 w')=>(hb.cell (p:=⟨b,_,none⟩) hb4).trans z1';have Z2:=λw' (hb:Below w4.heap.size w4 w')=>(hb.cell (p:=⟨b,_,none⟩) hb4).trans z2';have Z3:=λw' (hb:Below w4.heap.size w4 w')=>(hb.cell (p:=⟨b,_,none⟩) hb4).trans z3';have Z4:=λw' (hb:Below w4.heap.size w4 w')=>(hb.cell (p:=⟨b,_,none⟩) hb4).trans Sj;have C: ∀(i:Nat) (u:Value),(#[.string c.nm,.int .i64 j,.int .i64 c.sz,.bool false,.int .i64 c.init]:Array Value)[i]? =some u->∀w',Below w4.heap.size w4 w'->w'.cell? ⟨cb,i,none⟩=some u:=λi u hu w' hb=>aQ ((hb.block cb (aO oH.o)).trans oH.o) hu;have C0:=C 0 _ rfl;have C1:=C 1 _ rfl;have C2:=C 2 _ rfl;have C3:=C 3 _ rfl;have C4:=C 4 _ rfl;have HEQ:aj (zI c n 0 (c::R)=(Ia c j x&&zI c (n -(j+1)) ((j:Int)+1) Q)):=ah (by rw[uT.o,show n -j=(n -(j+1))+1 by omega,zI]);have HEC:aj (Ia c j x=(x.nm.toList==c.nm.toList&&(x.ix==(j:Int)&&(x.sz==c.sz&&(x.wW==false&&x.init==c.init))))):=ah (by unfold Ia;rw[WT.o]);clear C z0' z1' z2' z3' Sj;have k0:(0:Int)<=(k:Int)+(j:Int):=agH;have k1:(k:Int)+(j:Int)<(l.length:Int):=agH;have kt:((k:Int)+(j:Int)).toNat=k+j:=agH;have hnq: ∀w,(binOp .neq 39 (.agg #[.string x.nm,.int .i64 x.ix,.int .i64 x.sz,.bool x.wW,.int .i64 x.init]) (.agg #[.string c.nm,.int .i64 j,.int .i64 c.sz,.bool false,.int .i64 c.init])).run Tryz.prog w= .ok (.bool (!(Ia c j x))) w:=λw=>by rw[af0,HEC.o]
           go_wp2_with fail;refine eu agG rfl ?_;refine dD 0 7 [] [[],[],[],[1,2],[0,1,2,3],[0,1,2,3,4],[],[0,1,2,3,4,5,6]] [[],[],[],[],[],[],[]] (λ_ w'=>Below w4.heap.size w4 w') (λw w'=>Below w.heap.size w w') [57,58,59,60,61,62,63] rfl rfl ahS agG agG agG agG agG ahS (λ_=>au _ _) ahS (below_drewN (au _ _) 1) ?_;simp only[jH,nY]
           iterate 7
            apply bZ.step
            case bL=>intro c A w' hok hC hO hD;have e0:=hO 0 ahS;have e5:=hO 5 ahS;have e7:=hO 7 ahS;have e6:=hO 6 ahS;simp[Act.eval]at e0 e5 e7 e6;simp[Act.eval]at hD;simp[go_sem,gd,Oper.wp,hD,e0,e5,e7,e6,hwk,k0,k1,kt,Z0,Z1,Z2,Z3,Z4,hC,C0,C1,C2,C3,C4];exact AaH
            try simp only[dY]
           try simp only[dY]
           refine bZ.done ?_;intro wz dL
           try simp only[jH]
           iterate 7 refine tH ?_
           refine xO ?_;go_simp;have Cj:=ah (dR.o.trans (dL.mono Zp.o));have bp2:aj (Below B w4 wz):=ah (dL.mono Zp.o);have TG:aj (wz.heap[cb]? =some (.cells #[.string c.nm,.int .i64 j,.int .i64 c.sz,.bool false,.int .i64 c.init] 39 (0,0))):=ah ((dL.block cb (aO oH.o)).trans oH.o);have HGz:aj (jU B wz (.slice (some ⟨g,0,none⟩) (acc.length+1) MP) (acc++[c.nm])):=ah (NA.o.next ⟨dL.size,λq _ h2=>dL.block q h2⟩);have Dt:=ah (HR4.o.below bp2.o);clear Z0 Z1 Z2 Z3 Z4 C0 C1 C2 C3 C4 dL;refine dZ 7 [[],[],[],[1,2],[0,1,2,3],[0,1,2,3,4],[],[0,1,2,3,4,5,6]] rfl rfl rfl rfl rfl agG agG agG ?_;refine aW5 _ _ _ _ rfl _ _ _ rfl rfl (Vu _ _ _ _ wz) (hnq wz) ?_;refine fU rfl ?_;clear hnq;cases he:Ia c j x
           ·have HT:aj (res=none):=ah (by rw[kU.o,HEQ.o,he];rfl);go_simp;go_wp2_with fail
            go_ret2
            rw[HT.o];exact⟨rfl,by rw[uS.o];exact Cj.o⟩
           ·have Zr:aj (zI c n 0 (c::R)=zI c (n -(j+1)) ((j:Int)+1) Q):=ah (by rw[HEQ.o,he];rfl);have Ct:aj (Q=(c::R).drop (j+1)):=ah aaw;have y2:wz.cell? ⟨cb,2,none⟩=some (.int .i64 c.sz):=aQ TG.o rfl;go_simp;go_wp2_with fail;go_roundw
            case rel=>exact⟨j+1,Q,j,agL,agH,Ct.o,Zr.o,TG.o,HGz.o,Dt.o,Cj.o⟩
            case measure=>simp[intOf];omega
         ·obtain rfl:j=n:=agH;have HT:aj (zI c j 0 (c::R)=true):=ah adF;have G6:aj (res=(tu f ((c::R).drop j)).map (λl=>(acc++[c.nm])++l)):=ah (by rw[kU.o,HT.o];rfl);have hnlt: ¬(j:Int)<c.sz:=afV;have hw2:IntKind.i64.wrap ((k:Int)+c.sz)=((k+j:Nat):Int):=abP;have z2:wr.cell? ⟨cb,2,none⟩=some (.int .i64 c.sz):=aQ uZ.o rfl;go_wp2_with fail;go_roundw
          case rel=>exact⟨k+j,(c::R).drop j,acc++[c.nm],f,by first|rfl|simp[hw2],agK,agK,G6.o,HGq.o,drop_at j HRq.o,HBq.o,agK,λx hx=>HNR.o x (List.mem_of_mem_drop hx),WK.o⟩
          case measure=>simp[intOf];omega
      ·have HT:aj (res=none):=ah (by rw[HE.o,tu,hsz,Yd];simp);rw[Yd]at z3;go_wp2_with fail
       go_ret2
       rw[HT.o];exact⟨rfl,afC⟩
   ·cases hix:(c.ix==0)
    ·have HT:aj (res=none):=ah (by rw[HE.o,tu,hsz];simp[bne,hix]);go_wp2_with fail
     go_ret2
     rw[HT.o];exact⟨rfl,afC⟩
    ·have HE2:aj (res=(tu f R).map (λl=>(acc++[c.nm])++l)):=ah (by rw[HE.o,tu,hsz];have:(c.ix != 0)=false:=(by simp[bne,hix]);rw[this];exact En);go_wp2_with fail;go_roundw
     case rel=>exact⟨k+1,R,acc++[c.nm],f,agL,agH,agH,HE2.o,Bp.o,kL.o.below Zq.o,HB3.o,agK,HNT.o,WK.o⟩
     case measure=>simp[intOf];omega
theorem Nl (W:Wo) (s:jS) (w:World) (hw:iP w w.heap.size W s) (h60:W.ss.length<=60):
 Calls Tryz.prog 20 #[nD W s] w λe w'=>e= .returned (.bool (vsA W.ts.length 0 0 W.ss))∧Below w.heap.size w w':=by
 obtain⟨aC,aL,aN,aF,aT,aS,cC,cL,cN,cF,cT,cS⟩:=s;have HW:=ah hw;have hlt:=hw.lt;unfold maxLen at hlt;obtain⟨res,hres⟩: ∃r,vsA W.ts.length 0 0 W.ss=r:=⟨_,rfl⟩;have HR:=ah hres;rw[hres];clear hw hres;unfold nD;dsimp only;go_enter Tryz.func20,Tryz.ntmps20;go_upto_region 1 with fail;generalize hW:World.alloc w _=W1;obtain⟨nb,hnb⟩: ∃n,w.heap.size=n:=⟨_,rfl⟩;have HB:aj (Below nb w W1):=ah acL;have HX:aj (W1.heap[nb]? =some (.cells #[.slice aC W.cs.length cC,.slice aL W.ls.length cL,.slice aN W.ns.length cN,.slice aF W.fs.length cF,.slice aT W.ts.length cT,.slice aS W.ss.length cS] 30 (0,0))):=ah aaP;have mU:aj (W1.heap.size=nb+1):=ah agl;have HF:aj (gG rJ 3 W1 nb W.ss aS 0):=ah (by have:=HW.o.ss;rw[hnb]at this;exact this.below HB.o);have fC:=ah hnb;rw[hnb];clear hW hnb HW;have g5:=aQ (j:=5) HX.o rfl;simp only[List.getElem_toArray,List.getElem_cons_zero,List.getElem_cons_succ]at g5;go_wp2_with fail;go_loopw [3,4,6,10] (λv3 v4 _ v10 wr=> ∃(k:Nat) (R:List sK) (th nx:Int),v10= .int .i64 k∧v3= .int .i64 th∧v4= .int .i64 nx∧k+R.length=W.ss.length∧res=vsA W.ts.length th nx R∧0<=nx∧nx<=k∧gG rJ 3 wr nb R aS k∧Below (nb+1) W1 wr) (λ_ _ _ v _=>W.ss.length -(intOf v).toNat)
 case atStart=>exact⟨0,W.ss,0,0,rfl,rfl,rfl,agJ,HR.o.symm,agI,agI,HF.o,au _ _⟩
 case round=>
  obtain⟨k,R,th,nx,rfl,rfl,rfl,hlen,heq,hn0,hnk,hrow,hbel⟩:=hrel;have HE:=ah heq;have kI:=ah hbel;have oI:=ah ((kI.o.block nb (Nat.lt_succ_self _)).trans HX.o);have xC:aj (Below nb w wr):=ah (HB.o.trans (kI.o.mono (jl _)));have ou:aj (nb+1<=wr.heap.size):=ah acV;clear heq hbel g5;cases R with
  |nil=>
   have HT:aj (res=true):=ah HE.o;obtain rfl:k=W.ss.length:=aeQ
   go_wp2_with fail;go_ret;exact⟨agR,by rw[fC.o];exact xC.o⟩
  |cons x R=>
   obtain⟨⟨b,off,hao,hb1,hcs⟩,hrest⟩:=hrow;simp only[aD]at hlen;have hkl:k<W.ss.length:=agH
   have x0:=hcs 0 _ rfl;have x1:=hcs 1 _ rfl;have x2:=hcs 2 _ rfl;simp only[Nat.add_zero]at x0;have kL:=ah hrest;subst hao;have g4:=aQ (j:=4) oI.o rfl;simp only[List.getElem_toArray,List.getElem_cons_zero,List.getElem_cons_succ]at g4;have hwn:IntKind.i64.wrap (nx+1)=nx+1:=IntWalk.i64_in _ agH;have by6:IntKind.i64.wrap ((0:Int)+1)=1:=IntWalk.i64_in _ agH;have hnl:nb<wr.heap.size:=afc
   have hnb: ¬nb=wr.heap.size:=agH
   clear hcs hrest;by_cases h1:x.th<th
   ·have HT:aj (res=false):=ah (by rw[HE.o,vsA];simp[h1]);go_wp2_with fail;go_ret;exact⟨agR,aap⟩
   ·by_cases h2:(W.ts.length:Int)<=x.th
    ·have HT:aj (res=false):=ah (by rw[HE.o,vsA];simp[h2]);go_wp2_with fail;go_ret;exact⟨agR,aap⟩
    ·by_cases h3:th<x.th
     ·cases h4:(x.st==0)
      ·have HT:aj (res=false):=ah acN;go_wp2_with fail;go_ret;exact⟨agR,aap⟩
      ·have HE2:aj (res=vsA W.ts.length x.th 1 R):=ah acN;go_wp2_with fail;go_roundw
       case rel=>exact⟨k+1,R,x.th,1,agL,rfl,by first|rfl|simp[by6],agH,HE2.o,agI,agH,kL.o.below ((ak _ _).mono afc),kI.o.trans ((ak _ _).mono ou.o)⟩
       case measure=>simp[intOf];omega
     ·cases h4:(x.st==nx)
      ·have HT:aj (res=false):=ah acN;go_wp2_with fail;go_ret;exact⟨agR,aap⟩
      ·have HE2:aj (res=vsA W.ts.length th (nx+1) R):=ah acN;go_wp2_with fail;go_roundw
       case rel=>exact⟨k+1,R,th,nx+1,agL,rfl,by first|rfl|simp[hwn],agH,HE2.o,agH,agH,kL.o.below ((ak _ _).mono afc),kI.o.trans ((ak _ _).mono ou.o)⟩
       case measure=>simp[intOf];omega
namespace Md
def KA (c:mP) (k:Int) (x:mP):Bool:=x.ix==k&&(x.nm.toList==c.nm.toList&&(x.sz==c.sz&&(x.init==c.init&& !x.wW)))
def xu (c:mP):Nat->Int->List mP->Bool
 |0,_,_=>true
 |_+1,_,[]=>false
 |n+1,k,x::r=>KA c k x&&xu c n (k+1) r
def xM:Nat->List mP->Option (List ByteArray)
 |0,_=>some []
 |_+1,[]=>some []
 |f+1,c::r=>
  if c.sz==0 then(if c.ix != 0 then none else(xM f r).map (λl=>c.nm::l))else
  if decide (c.sz<1)||(decide (4<c.sz)||decide (((r.length+1:Nat):Int)<c.sz))then none else
  if xu c c.sz.toNat 0 (c::r)then(xM f ((c::r).drop c.sz.toNat)).map (λl=>c.nm::l)else none
theorem aZ5 {c:mP} (hv:c.wW=false) (k:Int) (x:mP):KA c k x=Ia c k x:=by
 unfold KA Ia;rw[hv];cases (x.ix==k) <;> cases (x.nm.toList==c.nm.toList) <;> cases (x.sz==c.sz) <;> cases (x.init==c.init) <;> cases x.wW <;> rfl
theorem Ux {c:mP} (hv:c.wW=false): ∀(n:Nat) (k:Int) (l:List mP),xu c n k l=zI c n k l
 |0,_,_=>rfl
 |_+1,_,[]=>rfl
 |n+1,k,x::r=>by rw[xu,zI,aZ5 hv,Ux hv n]
theorem Ml: ∀(f:Nat) (l:List mP),xM f l=tu f l
 |0,_=>rfl
 |_+1,[]=>rfl
 |f+1,c::r=>by
  rw[xM,tu];cases hs:(c.sz==0)
  ·simp only[Bool.false_eq_true,if_false];cases hv:c.wW
   ·rw[Ux hv,Ml f];simp
   ·by_cases h1:c.sz<1
    ·simp[h1]
    ·by_cases h2:4<c.sz
     ·simp[h2]
     ·obtain⟨n,hn⟩: ∃n,c.sz.toNat=n+1:=⟨c.sz.toNat -1,agH⟩;have hq:xu c (n+1) 0 (c::r)=false:=(by rw[xu];unfold KA;rw[hv];simp);rw[hn,hq];simp
  ·simp only[if_true];rw[Ml f]
theorem Jk: ∀(f:Nat) (l:List mP) (v:List ByteArray),tu f l=some v->v.length<=l.length
 |0,l,v,h=>abV
 |f+1,[],v,h=>abV
 |f+1,c::r,v,h=>by
  rw[tu]at h;split at h
  ·split at h
   ·cases h
   ·cases hq:tu f r with
    |none=>rw[hq]at h;cases h
    |some q=>rw[hq]at h;injection h with h;subst h;have:=Jk f r q hq;simp;omega
  ·rename_i hs;split at h
   ·cases h
   ·rename_i hd;split at h
    ·cases hq:tu f ((c::r).drop c.sz.toNat)with
     |none=>rw[hq]at h;cases h
     |some q=>rw[hq]at h;injection h with h;subst h;have:=Jk f _ q hq;simp at hd this;have h1:1<=c.sz.toNat:=agH;simp;omega
    ·cases h
end Md
def X9:Prop:= ∀(W:Wo) (s:jS) (v:List ByteArray) (av:Option Addr) (cv:Nat) (w:World),iP w w.heap.size W s->dW w->NY W->oz W->v.length<=12->fP w w.heap.size v av 0->v.length<=cv->
 Calls Tryz.prog 18 #[nD W s,.slice av v.length cv] w λe w'=>e= .returned (.bool (Gq [] (pK W v)))∧Below w.heap.size w w'
theorem OU (hvn:X9):Xa:=by
 intro W s w hw eG hk;obtain⟨aC,aL,aN,aF,aT,aS,cC,cL,cN,cF,cT,cS⟩:=s;have HW:=ah hw;have jX:=ah eG;have HK:=ah hk;have HV:=ah hvn;have hl0:=hw.lc;have hl1:=hw.ll;have hl2:=hw.ln;have hl3:=hw.lf;have hl4:=hw.lt;have hl5:=hw.lS;unfold maxLen at hl0 hl1 hl2 hl3 hl4 hl5;obtain⟨res,hres⟩: ∃r,vW W=r:=⟨_,rfl⟩;have HR:=ah hres;rw[hres];clear hw eG hk hvn hres;unfold nD;dsimp only;go_enter Tryz.func6,Tryz.ntmps6;go_upto_region 1 with fail;generalize hW:World.alloc w _=W1;obtain⟨nb,hnb⟩: ∃n,w.heap.size=n:=⟨_,rfl⟩;have HB:aj (Below nb w W1):=ah acL;have HX:aj (W1.heap[nb]? =some (.cells #[.slice aC W.cs.length cC,.slice aL W.ls.length cL,.slice aN W.ns.length cN,.slice aF W.fs.length cF,.slice aT W.ts.length cT,.slice aS W.ss.length cS] 30 (0,0))):=ah aaP;have mU:aj (W1.heap.size=nb+1):=ah agl;have HW1:aj (iP W1 nb W ⟨aC,aL,aN,aF,aT,aS,cC,cL,cN,cF,cT,cS⟩):=ah aaO;have uG:aj (dW W1):=ah abN;have fC:=ah hnb;rw[hnb];clear hW hnb HW;have g0:=aQ (j:=0) HX.o rfl;have g1:=aQ (j:=1) HX.o rfl;have g2:=aQ (j:=2) HX.o rfl;have g3:=aQ (j:=3) HX.o rfl;have g4:=aQ (j:=4) HX.o rfl;have g5:=aQ (j:=5) HX.o rfl;simp only[List.getElem_toArray,List.getElem_cons_zero,List.getElem_cons_succ]at g0 g1 g2 g3 g4 g5;by_cases q0:(12:Int)<W.cs.length
 ·have HT:aj (res=false):=ah (by rw[<- HR.o];unfold vW;rw[if_pos (by simp[q0])]);exact AaG
 ·skip;by_cases q1:(4:Int)<W.ls.length
  ·have HT:aj (res=false):=ah (by rw[<- HR.o];unfold vW;rw[if_pos (by simp[q1])]);exact AaG
  ·skip;by_cases q2:(2:Int)<W.ns.length
   ·have HT:aj (res=false):=ah (by rw[<- HR.o];unfold vW;rw[if_pos (by simp[q2])]);exact AaG
   ·skip;by_cases q3:(2:Int)<W.fs.length
    ·have HT:aj (res=false):=ah (by rw[<- HR.o];unfold vW;rw[if_pos (by simp[q3])]);exact AaG
    ·skip;by_cases q4:(60:Int)<W.ss.length
     ·have HT:aj (res=false):=ah (by rw[<- HR.o];unfold vW;rw[if_pos (by simp[q4])]);exact AaG
     ·skip;by_cases q5:(W.ts.length:Int)<1
      ·have HT:aj (res=false):=ah aaD;exact AaG
      ·skip;by_cases q6:(4:Int)<W.ts.length
       ·have HT:aj (res=false):=ah aaD;exact AaG
       ·skip;have NS:aj (oz W):=ah ⟨agH,agH,agH,agH,agH,agH,agH⟩;have HR2:aj (res=match Dj W.cs with|none=>false|some v=>Gq [] (pK W v)&&(W.ns.all (λc=>pY W c.mx false)&&vsA W.ts.length 0 0 W.ss)):=ah (by
         rw[<- HR.o];unfold vW;rw[if_neg agK,if_neg agK]
         all_goals (cases Dj W.cs <;> rfl))
        clear HR;go_wp2_with fail;refine(Nj W.cs W1 aC cC NS.o.1 (HW1.o.cs.mono aff) HK.o.cs).mono ?_;intro e w2 JO;clear q0 q1 q2 q3 q4 q5 q6;obtain⟨JO,hb2⟩:=JO;have HB2:=ah hb2;have Pk:aj (Below nb w w2):=ah (HB.o.trans (hb2.mono aff));have oV:=ah ((hb2.block nb aff).trans HX.o);have PY:aj (nb+1<=w2.heap.size):=ah (by have h1:=hb2.size;have h2:=mU.o;omega);clear hb2 g0 g1 g2 g3 g4 g5;have g0:=aQ (j:=0) oV.o rfl;have g1:=aQ (j:=1) oV.o rfl;have g2:=aQ (j:=2) oV.o rfl;have g3:=aQ (j:=3) oV.o rfl;have g4:=aQ (j:=4) oV.o rfl;have g5:=aQ (j:=5) oV.o rfl;simp only[List.getElem_toArray,List.getElem_cons_zero,List.getElem_cons_succ]at g0 g1 g2 g3 g4 g5;cases hv:Dj W.cs with
        |none=>rw[hv]at JO;obtain rfl:e=_:=JO;have HT:aj (res=false):=ah ahQ;go_wp2_with fail;go_ret;exact⟨agR,by rw[fC.o];exact Pk.o⟩
        |some v=>
         rw[hv]at JO;obtain⟨av,cv,rfl,hat,hcv⟩:=JO;have HR3:aj (res=(Gq [] (pK W v)&&(W.ns.all (λc=>pY W c.mx false)&&vsA W.ts.length 0 0 W.ss))):=ah ahQ;have HAT:=ah hat;have hvl:v.length<=12:=aJ (Jk _ _ _ hv) NS.o.1;have HCV:=ah hcv;have HW2:aj (iP w2 nb W ⟨aC,aL,aN,aF,aT,aS,cC,cL,cN,cF,cT,cS⟩):=ah (HW1.o.below (HB2.o.mono aff));have qJ:=ah (uG.o.same HB2.o);clear hat hcv hv HR2;go_wp2_with fail;refine(HV.o W _ v av cv w2 (HW2.o.mono afT) qJ.o HK.o NS.o hvl HAT.o HCV.o).mono ?_;rintro e w3 ⟨rfl,hb3⟩;have HB3:=ah hb3;have JX:aj (Below nb w w3):=ah (Pk.o.trans (hb3.mono afT));clear hb3 g0 g1 g2 g3 g4 g5;have Cz:=ah ((HB3.o.block nb afT).trans oV.o);have br8:aj (nb+1<=w3.heap.size):=ah (by have h1:=HB3.o.size;have h2:=PY.o;omega);have HW3:aj (iP w3 nb W ⟨aC,aL,aN,aF,aT,aS,cC,cL,cN,cF,cT,cS⟩):=ah (HW2.o.below (HB3.o.mono afT));have g2:w3.cell? ⟨nb,2,none⟩=some (.slice aN W.ns.length cN):=aQ Cz.o rfl;cases hn:Gq [] (pK W v)
         ·have HT:aj (res=false):=ah (by rw[HR3.o,hn];rfl);go_wp2_with fail;go_ret;exact⟨agR,afP⟩
         ·have HR4:aj (res=(W.ns.all (λc=>pY W c.mx false)&&vsA W.ts.length 0 0 W.ss)):=ah (by rw[HR3.o,hn];rfl);go_wp2_with fail;clear hn;go_loopw [6,62] (λ_ i wr=> ∃(k:Nat) (R:List Er),i= .int .i64 k∧k+R.length=W.ns.length∧W.ns.all (λc=>pY W c.mx false)=R.all (λc=>pY W c.mx false)∧gG vE 2 wr nb R aN k∧Below (nb+1) w3 wr) (λ_ i _=>W.ns.length -(intOf i).toNat)
          case atStart=>exact⟨0,W.ns,rfl,agJ,rfl,HW3.o.ns,au _ _⟩
          case round=>
           obtain⟨k,R,rfl,hlen,heq,hrow,hbel⟩:=hrel;have HE:=ah heq;have kI:=ah hbel;have oI:=ah ((kI.o.block nb (Nat.lt_succ_self _)).trans Cz.o);have xC:aj (Below nb w wr):=ah (JX.o.trans (kI.o.mono (jl _)));have ou:aj (nb+1<=wr.heap.size):=ah (by have h1:=kI.o.size;have h2:=br8.o;omega);have Q5:aj (iP wr nb W ⟨aC,aL,aN,aF,aT,aS,cC,cL,cN,cF,cT,cS⟩):=ah (HW3.o.below (kI.o.mono (jl _)));clear heq hbel g2;cases R with
           |nil=>obtain rfl:k=W.ns.length:=aeQ;have HT:aj (res=vsA W.ts.length 0 0 W.ss):=ah (by rw[HR4.o,HE.o];rfl);have g0:=aQ (j:=0) oI.o rfl;have g1:=aQ (j:=1) oI.o rfl;have g2:=aQ (j:=2) oI.o rfl;have g3:=aQ (j:=3) oI.o rfl;have g4:=aQ (j:=4) oI.o rfl;have g5:=aQ (j:=5) oI.o rfl;simp only[List.getElem_toArray,List.getElem_cons_zero,List.getElem_cons_succ]at g0 g1 g2 g3 g4 g5;go_wp2_with fail;refine(Nl W _ wr (Q5.o.mono afc) NS.o.2.2.2.2.1).mono ?_;rintro e w5 ⟨rfl,hb5⟩;go_wp2_with fail;go_ret;exact⟨agR,by rw[fC.o];exact xC.o.trans (hb5.mono afc)⟩
           |cons x R=>
            obtain⟨⟨b,off,hao,hb1,hcs⟩,hrest⟩:=hrow;subst hao;simp only[aD]at hlen;have hkl:k<W.ns.length:=agH;have x0:=hcs 0 _ rfl;have x1:=hcs 1 _ rfl;simp only[Nat.add_zero]at x0;have kL:=ah hrest;have G5:aj (W.ns.all (λc=>pY W c.mx false)=(pY W x.mx false&&R.all (λc=>pY W c.mx false))):=ah (by rw[HE.o,List.all_cons]);clear hcs hrest HE;go_upto_region 11 with fail;generalize um:World.alloc wr _=w4;obtain⟨tb,htb⟩: ∃n,wr.heap.size=n:=⟨_,rfl⟩;have dR:aj (Below wr.heap.size wr w4):=ah (by rw[<- um];exact ak _ _);have Q8:aj (w4.heap[tb]? =some (.cells #[.string x.nm,.int .i64 x.mx] 47 (0,0))):=ah (by rw[<- um,<- htb];exact heap_alloc_new _ _);rw[htb];clear um htb x0 x1;have oH:=ah ((dR.o.block nb afc).trans oI.o);have bo7:aj (Below nb w w4):=ah (xC.o.trans (dR.o.mono afc));have WU:=ah ((Q5.o.below (dR.o.mono afc)).mono (show nb<=w4.heap.size by have h1:=ou.o;have h2:=dR.o.size;omega));have g0:=aQ (j:=0) oH.o rfl;have g1:=aQ (j:=1) oH.o rfl;have g2:=aQ (j:=2) oH.o rfl;have g3:=aQ (j:=3) oH.o rfl;have g4:=aQ (j:=4) oH.o rfl;have g5:=aQ (j:=5) oH.o rfl;have t1:=aQ (j:=1) Q8.o rfl;simp only[List.getElem_toArray,List.getElem_cons_zero,List.getElem_cons_succ]at g0 g1 g2 g3 g4 g5 t1;go_wp2_with fail;refine(LY W _ x.mx false w4 WU.o).mono ?_;rintro e w5 ⟨rfl,hb5⟩;have kg:=ah (dR.o.trans (hb5.mono dR.o.size));have bo8:aj (Below nb w w5):=ah (bo7.o.trans (hb5.mono (by have h1:=ou.o;have h2:=dR.o.size;omega)));clear hb5 g0 g1 g2 g3 g4 g5 t1;cases hlk:pY W x.mx false
            ·have HT:aj (res=false):=ah (by rw[HR4.o,G5.o,hlk];rfl);go_wp2_with fail;go_ret;exact⟨agR,by rw[fC.o];exact bo8.o⟩
            ·have HE2:aj (W.ns.all (λc=>pY W c.mx false)=R.all (λc=>pY W c.mx false)):=ah (by rw[G5.o,hlk];rfl);go_wp2_with fail;go_roundw
             case rel=>exact⟨k+1,R,agL,agH,HE2.o,kL.o.below (kg.o.mono afc),kI.o.trans (kg.o.mono ou.o)⟩
             case measure=>simp[intOf];omega
theorem RY {w:World} {B b off:Nat} : ∀ {r:List ByteArray} {k:Nat},fP w B r (some ⟨b,off,none⟩) k->∀j u,(r.flatMap sD)[j]? =some u->w.cell? ⟨b,off+k+j,none⟩=some u
 | [],_,_,j,u,hu=>by simp at hu
 |s::r,k,h,0,u,hu=>by
  obtain⟨⟨b',off',e,-,hc,-⟩,-⟩:=h;injection e with e;injection e with e1 e2;subst e1 e2;have:u= .string s:=by simpa[sD]using hu.symm
  rw[this];exact hc
 |s::r,k,h,j+1,u,hu=>by have:=RY h.2 j u (by simpa[sD]using hu);rw[show off+k+(j+1)=off+(k+1)+j by omega];exact this
theorem az5 (l:List ByteArray):(l.flatMap sD).length=l.length*1:=by induction l <;> simp_all[sD]
theorem ab2 {l:List ByteArray} {u:Value} (h:u∈l.flatMap sD):u.oneCell'=true:=by
 obtain⟨x,-,hx⟩:=List.mem_flatMap.1 h;simp[sD]at hx;rw[hx];rfl
theorem uo {ops:Array Oper} {rest:List Oper} {o:Oper} {a:Act} {Q:Exit->Act->World->Prop} (w:World) (hgd:o.guard=none) (s x:Operand)
 (ho:o.op= .call {callee:= .builtin .append,args:= #[s,x],argTypes:= #[27,27]}) {v:Value} {l r:List ByteArray} {B:Nat} {ao:Option Addr} {c:Nat}
 (hs:a.eval s=v) (hg:jU B w v l) (hx:a.eval x= .slice ao r.length c) (hr:fP w w.heap.size r ao 0) (hlen:l.length+r.length<=1000000) (hB:B<=w.heap.size)
 (h: ∀v' w',jU B w' v' (l++r)->w.grownBy w' v.ownBlock->(v'.ownBlock=v.ownBlock∨v'.ownBlock=some w.heap.size)->wpList Tryz.prog ops Q rest (a.put o.dst v') w'):wpList Tryz.prog ops Q (o::rest) a w:=by
 obtain⟨i0,hi,hz0,hz1,hz2⟩:=BR Uf;cases ao with
 |some ad=>
  obtain⟨b,off,p⟩:=ad;have hp:r=[]∨p=none:=by
   cases r with
   |nil=>exact .inl rfl
   |cons y r=>obtain⟨⟨b',off',e,-⟩,-⟩:=hr;injection e with e;injection e with e1 e2 e3;exact .inr e3
  refine wpList_append_own_at w hgd s x 27 ho B 9 i0 _ 1 16 Tryz.underlying27 hi hz0 hz1 hz2 rfl agI v l.length (l.flatMap sD) hs hg.own ⟨b,off,p⟩ r.length c (r.flatMap sD) hx (az5 r) ?_ (λu hu=>ab2 hu) aeS agH hB ?_
  ·intro j u hu;rcases hp with rfl|rfl
   ·simp at hu
   ·have:=RY hr j u hu;simpa[Addr.add_lit]using this
  ·intro v' w' hown hgr hnil hat;exact h v' w' ⟨by rw[aA,List.flatMap_append];exact hown,λ_ _ _ _=>trivial⟩ hgr hat
 |none=>
  obtain rfl:r=[]:=by
   cases r with
   |nil=>rfl
   |cons y r=>obtain⟨⟨b',off',e,-⟩,-⟩:=hr;cases e
  have hrun:(Builtin.append_ #[27,27] o.type #[v,.slice none 0 c]).run Tryz.prog w= .ok v w:=by
   rcases hg.own.2 with⟨rfl,-⟩|⟨g,cap,cur,rfl,hbg,hgB,hnc,hcm,hcs,htake⟩
   ·simp[Builtin.append_,run_underlying Tryz.underlying27,sizeOf,typeInfo,hi,Builtin.lenOf,Builtin.firstCells,loadCells,loadCellsFrom]
   ·simp[Builtin.append_,run_underlying Tryz.underlying27,sizeOf,typeInfo,hi,Builtin.lenOf,hnc,run_firstCells_none,storeCells]
  refine wpList_plain hgd λK hK=> ?_;unfold Oper.wp execOp;simp only[ho,resolve,invoke,builtin,Sem.run_bind,Sem.run_pure,Result.andThen_ok,List.map_toArray,List.map_cons,List.map_nil,hs,hx,aW,hrun];exact hK _ _ (h v w (by simpa using hg) ⟨rfl,rfl,rfl,aB _,λ_ _ _=>rfl⟩ (.inl rfl))
theorem aW3 {B:Nat} {w w':World} {v:Value} {l:List ByteArray} (hg:jU B w v l) (h:w.grownBy w' v.ownBlock) (hB:B<=w.heap.size):Below B w w':=
 ⟨h.os,h.tape,h.output,h.size,λq hq=>h.block q agH (λe=>by have:=(hg.lt q e.symm).1;omega)⟩
theorem IL {w:World} {nm:ByteArray} {t:TypeId} (h:nm.size<=maxLen):fP (w.alloc (.cells #[.string nm] t)) (w.alloc (.cells #[.string nm] t)).heap.size [nm] (some ⟨w.heap.size,0,none⟩) 0:=
 ⟨⟨_,0,rfl,agJ,aQ (j:=0) (heap_alloc_new _ _) rfl,h⟩,trivial⟩
structure vo (w0:World) (nb:Nat) (W:Wo) (s:jS) (w:World) (v:Value) (l:List ByteArray):Prop where
 g:jU nb w v l
 ne: ∀q,v.ownBlock=some q->nb<q
 x:w.heap[nb]? =some (.cells #[.slice s.aC W.cs.length s.cC,.slice s.aL W.ls.length s.cL,.slice s.aN W.ns.length s.cN,.slice s.aF W.fs.length s.cF,.slice s.aT W.ts.length s.cT,.slice s.aS W.ss.length s.cS] 30 (0,0))
 wo:iP w nb W s
 b:Below nb w0 w
section
variable {w0:World} {nb:Nat} {W:Wo} {s:jS} {w w':World} {v v':Value} {l l':List ByteArray}
theorem vo.lt (h:vo w0 nb W s w v l):nb<w.heap.size:=(aO h.x)
theorem vo.step (h:vo w0 nb W s w v l) (hg:jU nb w' v' l') (hgr:w.grownBy w' v.ownBlock) (hat:v'.ownBlock=v.ownBlock∨v'.ownBlock=some w.heap.size):vo w0 nb W s w' v' l':=by
 have hB:=aW3 h.g hgr (bH h.lt);refine⟨hg,λq hq=> ?_,(hgr.block nb h.lt (λe=>by have:=h.ne nb e.symm;omega)).trans h.x,h.wo.below hB,h.b.trans hB⟩;rcases hat with e|e
 ·rw[e]at hq;exact h.ne q hq
 ·rw[e]at hq;injection hq with hq;have:=h.lt;omega
theorem vo.next (h:vo w0 nb W s w v l) (hb:Below w.heap.size w w'):vo w0 nb W s w' v l:=
 ⟨h.g.next (bS hb),h.ne,(hb.block nb h.lt).trans h.x,h.wo.below (hb.mono (bH h.lt)),h.b.trans (hb.mono (bH h.lt))⟩
theorem vo.cells (h:vo w0 nb W s w v l):w.cell? ⟨nb,1,none⟩=some (.slice s.aL W.ls.length s.cL)∧w.cell? ⟨nb,2,none⟩=some (.slice s.aN W.ns.length s.cN)∧w.cell? ⟨nb,3,none⟩=some (.slice s.aF W.fs.length s.cF)∧w.cell? ⟨nb,4,none⟩=some (.slice s.aT W.ts.length s.cT):=
 ⟨aQ (j:=1) h.x rfl,aQ (j:=2) h.x rfl,aQ (j:=3) h.x rfl,aQ (j:=4) h.x rfl⟩
theorem vo.val (h:vo w0 nb W s w v l): ∃ao cap,v= .slice ao l.length cap:=h.g.len
end
theorem E9 {α β:Type} {f:α->β} {l:List α} {k:Nat} {x:α} (h:l[k]? =some x):(l.take (k+1)).map f=(l.take k).map f++[f x]:=by
 rw[List.take_add_one,h];simp
theorem yh {w:World} {B:Nat} {ao:Option Addr} : ∀ {l:List ByteArray} {k:Nat},fP w B l ao k->∀x∈l,x.size<=maxLen
 | [],_,_,x,hx=>ahB
 |s::r,_,h,x,hx=>by
  rcases List.mem_cons.1 hx with rfl|hx
  ·obtain⟨⟨b,off,-,-,-,hs⟩,-⟩:=h;exact hs
  ·exact yh h.2 x hx
theorem Nk:X9:=by
 intro W s v av cv w hw eG hk hsm hv hav hcv;have HW:=ah hw;have jX:=ah eG;have HK:=ah hk;have KS:=ah hav;have HVS:aj (∀x∈v,x.size<=maxLen):=ah (yh hav);obtain⟨hs0,hs1,hs2,hs3,hs4,hs5,hs6⟩:=hsm;obtain⟨res,hres⟩: ∃r,Gq [] (pK W v)=r:=⟨_,rfl⟩;have HR:=ah hres;rw[hres];have hmm:= @run_makeMap Tryz.prog;clear hw eG hk hav hres;unfold nD;go_enter Tryz.func18,Tryz.ntmps18;go_upto_region 1 with fail;generalize hW:World.alloc w _=W1;obtain⟨nb,hnb⟩: ∃n,w.heap.size=n:=⟨_,rfl⟩;have HB:aj (Below nb w W1):=ah acL;have HI:aj (vo w nb W s W1 (.slice none 0 0) []):=ah ⟨Grow.nil _ _ _ _ _ _,λq hq=>(by cases hq),aaP,aaO,HB.o⟩;have HA1:aj (fP W1 W1.heap.size v av 0):=ah (by have h1:=KS.o;have h2:=HB.o;rw[<- hnb]at h2;exact h1.same h2);have fC:=ah hnb;rw[hnb];clear hW hnb HW KS HB;go_wp2_with (at_builtin;refine uo W1 rfl _ _ rfl rfl HI.o.g rfl HA1.o agK (bH HI.o.lt) ?_);intro v1 w1 hg1 aN5 aM4;have HI1:=ah (HI.o.step hg1 aN5 aM4);clear hg1 aN5 aM4 HI HA1;obtain⟨g1,g2,g3,g4⟩:=HI1.o.cells;go_wp2_with fail;clear g1 g2 g3 g4;go_loopw [5,7,19] (λv5 _ v19 wr=> ∃k:Nat,v19= .int .i64 k∧k<=W.ls.length∧vo w nb W s wr v5 (v++(W.ls.take k).map (·.nm))) (λ_ _ v _=>W.ls.length -(intOf v).toNat)
 case atStart=>exact⟨0,rfl,bF _,by simpa using HI1.o⟩
 case round=>
  obtain⟨k,rfl,hk,hi⟩:=hrel;obtain⟨acc,hacc⟩: ∃acc,v++(W.ls.take k).map (·.nm)=acc:=⟨_,rfl⟩;rw[hacc]at hi;have HI:=ah hi;have zR:=ah hacc;have aM1:acc.length<=100:=afJ
  clear hi hacc;by_cases hkl:k<W.ls.length
  ·obtain⟨x,hx⟩: ∃x,W.ls[k]? =some x:=⟨_,bC hkl⟩;have HX:=ah hx;obtain⟨b,off,hao,hb1,hcs⟩:=HI.o.wo.ls.at k x hx;have Av:=ah hao;have x0:=hcs 0 _ rfl;have x1:=hcs 1 _ rfl;simp only[aU,Nat.add_zero]at x0 x1;have HL:aj (∀q,q=s.aL->q=some ⟨b,off,none⟩):=ah (λq e=>by rw[e];exact Av.o);clear hcs hx;rw[hao];go_upto_region 6 with fail;obtain⟨cb,hcb⟩: ∃n,wr.heap.size=n:=⟨_,rfl⟩;generalize hW2:World.alloc wr _=w2;have HB2:aj (Below wr.heap.size wr w2):=ah afb;have zX:aj (w2.heap[cb]? =some (.cells #[.string x.nm,.bool x.rw] 42 (0,0))):=ah aaT;have HI2:=ah (HI.o.next HB2.o);rw[hcb];clear hW2 hcb x0 x1 HI HB2;have y0:w2.cell? ⟨cb,0,none⟩=some (.string x.nm):=aQ zX.o rfl;have HI3:=ah (HI2.o.next (ak w2 (.cells #[.string x.nm] 9)));have hlen:acc.length+1<=1000000:=by omega
   have hnm:x.nm.size<=maxLen:=HK.o.ls x (List.mem_of_getElem? HX.o);go_wp2_with (at_builtin;refine uo _ rfl _ _ rfl rfl HI3.o.g rfl (IL hnm) hlen (bH HI3.o.lt) ?_);intro v3 w3 hg3 xY zq;have HI4:=ah (HI3.o.step hg3 xY ahn);have HE:aj (acc++[x.nm]=v++(W.ls.take (k+1)).map (·.nm)):=ah (by rw[<- zR.o,E9 (f:=λy:wS=>y.nm) HX.o,List.append_assoc]);clear hg3 xY zq HI3 HI2 zX y0 hlen hnm;go_wp2_with fail;go_roundw
   case rel=>exact⟨k+1,agL,agH,by rw[<- HE.o];exact HI4.o⟩
   case measure=>simp[intOf];omega
  ·obtain rfl:k=W.ls.length:=by omega
   rw[List.take_length]at zR;have HA0:=zR;obtain⟨g1,g2,g3,g4⟩:=HI.o.cells;obtain⟨wA,Ye⟩: ∃X:World,X=wr:=⟨_,rfl⟩;subst Ye;go_wp2_with fail;clear g1 g2 g3 g4;go_loopw [5,9,32] (λv5 _ v32 wr=> ∃k:Nat,v32= .int .i64 k∧k<=W.ns.length∧vo w nb W s wr v5 (acc++(W.ns.take k).map (·.nm))) (λ_ _ v _=>W.ns.length -(intOf v).toNat)
   case atStart=>exact⟨0,rfl,bF _,agi⟩
   case round=>
    obtain⟨k,rfl,hk,hi⟩:=hrel;obtain⟨Dx,hacc⟩: ∃Dx,acc++(W.ns.take k).map (·.nm)=Dx:=⟨_,rfl⟩;rw[hacc]at hi;have HI:=ah hi;have zR:=ah hacc;have bL3:Dx.length<=200:=afJ;clear hi hacc;by_cases hkl:k<W.ns.length
    ·obtain⟨x,hx⟩: ∃x,W.ns[k]? =some x:=⟨_,bC hkl⟩;have HX:=ah hx;obtain⟨b,off,hao,hb1,hcs⟩:=HI.o.wo.ns.at k x hx;have x0:=hcs 0 _ rfl;have x1:=hcs 1 _ rfl;simp only[aU,Nat.add_zero]at x0 x1;clear hcs hx;rw[hao];go_upto_region 11 with fail;obtain⟨cb,hcb⟩: ∃n,wr.heap.size=n:=⟨_,rfl⟩;generalize hW2:World.alloc wr _=w2;have HB2:aj (Below wr.heap.size wr w2):=ah afb;have zX:aj (w2.heap[cb]? =some (.cells #[.string x.nm,.int .i64 x.mx] 47 (0,0))):=ah aaT;have HI2:=ah (HI.o.next HB2.o);rw[hcb];clear hW2 hcb x0 x1 HI HB2;have y0:w2.cell? ⟨cb,0,none⟩=some (.string x.nm):=aQ zX.o rfl;have HI3:=ah (HI2.o.next (ak w2 (.cells #[.string x.nm] 9)));have hlen:Dx.length+1<=1000000:=agH;have hnm:x.nm.size<=maxLen:=HK.o.ns x (List.mem_of_getElem? HX.o);go_wp2_with (at_builtin;refine uo _ rfl _ _ rfl rfl HI3.o.g rfl (IL hnm) hlen (bH HI3.o.lt) ?_);intro v3 w3 hg3 xY zq;have HI4:=ah (HI3.o.step hg3 xY ahn);have HE:aj (Dx++[x.nm]=acc++(W.ns.take (k+1)).map (·.nm)):=ah (by rw[<- zR.o,E9 (f:=λy:Er=>y.nm) HX.o,List.append_assoc]);clear hg3 xY zq HI3 HI2 zX y0 hlen hnm;go_wp2_with fail;go_roundw
     case rel=>exact⟨k+1,agL,agH,by rw[<- HE.o];exact HI4.o⟩
     case measure=>simp[intOf];omega
    ·obtain rfl:k=W.ns.length:=agH;rw[List.take_length]at zR;obtain⟨g1,g2,g3,g4⟩:=HI.o.cells;obtain⟨wB,Yf⟩: ∃X:World,X=wr:=⟨_,rfl⟩;subst Yf;have hl5:Dx.length+W.fs.length<=1000000:=agH;go_wp2_with (at_builtin;refine uo _ rfl _ _ rfl rfl HI.o.g rfl (HI.o.wo.fs.mono (bH HI.o.lt)) hl5 (bH HI.o.lt) ?_);intro v4 w4 hg4 QT vM;have hi4:=HI.o.step hg4 QT vM;obtain⟨Hf,Vw⟩: ∃Hf,Dx++W.fs=Hf:=⟨_,rfl⟩;rw[Vw]at hi4;have HI4:=ah hi4;have bo4:=ah Vw;have bL4:Hf.length<=300:=(by rw[<- Vw];simp;omega);clear hg4 QT vM HI g1 g2 g3 g4 hl5 hi4 Vw;obtain⟨g1,g2,g3,g4⟩:=HI4.o.cells;have XU:Hf.length+W.ts.length<=1000000:=agH;go_wp2_with (at_builtin;refine uo _ rfl _ _ rfl rfl HI4.o.g rfl (HI4.o.wo.ts.mono (bH HI4.o.lt)) XU (bH HI4.o.lt) ?_);intro v5 w5 hg5 hgr5 QM;have HEN:aj (Hf++W.ts=pK W v):=ah (by rw[<- bo4.o,<- zR.o,<- HA0.o];rfl);have gL:aj (vo w nb W s w5 v5 (pK W v)):=ah (by rw[<- HEN.o];exact HI4.o.step hg5 hgr5 QM);have yx:aj (∀x∈pK W v,x.size<=maxLen):=ah (λx hx=>by
      have hw:=gL.o.wo;unfold pK at hx;simp only[List.mem_append,List.mem_map]at hx;rcases hx with(((h|⟨y,h,rfl⟩)|⟨y,h,rfl⟩)|h)|h
      ·exact HVS.o x h
      ·exact HK.o.ls y h
      ·exact HK.o.ns y h
      ·exact yh hw.fs x h
      ·exact yh hw.ts x h)
     clear hg5 hgr5 QM HI4 g1 g2 g3 g4 XU;obtain⟨aoN,bN7,rfl,hcN,hst⟩:=jU.says (show jU nb w5 v5 (pK W v)from gL.o.g) yx.o;obtain⟨mb,hmb⟩: ∃n,w5.heap.size=n:=⟨_,rfl⟩;have HTN:aj (fP w5 mb (pK W v) aoN 0):=ah (by rw[<- hmb];exact hst.now);have kg:aj (Below nb w w5):=ah gL.o.b;have bq9:aj (nb<mb):=ah (by rw[<- hmb];exact gL.o.lt);have HMB:=ah hmb;have uV:aj ((pK W v).length<=1000000):=ah (by unfold pK;simp;omega);clear hst hcN gL yx hmb;generalize pK W v=l at *;have XU:=uV.o;have HM0:aj (jI (w5.alloc (.map #[] 0)) mb 0 (λ_=>false)):=ah (by rw[<- HMB.o];exact jI.made w5);have dw:aj (Below mb w5 (w5.alloc (.map #[] 0))):=ah (by rw[<- HMB.o];exact ak _ _);go_wp2_with fail;rw[HMB.o];go_loopw [12,53] (λ_ v53 wr=> ∃(k:Nat) (pre R:List ByteArray),v53= .int .i64 k∧pre++R=l∧pre.length=k∧jI wr mb k (λq=>(pre.map (·.toList)).contains q)∧res=Gq (pre.map (·.toList)) R∧Below mb w5 wr) (λ_ v _=>l.length -(intOf v).toNat)
     case atStart=>exact⟨0,[],l,rfl,rfl,rfl,HM0.o.congr (λ_=>rfl),HR.o.symm,dw.o⟩
     case round=>
      obtain⟨k,pre,R,rfl,hds,hk,hmap,hres,hbel⟩:=hrel;have HM:=ah hmap;have HE:=ah hres;have HB:=ah hbel;have rP:=ah hds;have HPK:=ah hk;have xC:aj (Below w.heap.size w wr):=ah (by rw[fC.o];exact kg.o.trans (HB.o.mono (bH bq9.o)));have hlen:k+R.length=l.length:=afx;have hrow:=(HTN.o.below HB.o).drop k;rw[aU,<- hds,<- hk,List.drop_left]at hrow;rw[hk]at hrow;clear hmap hres hbel hds hk;cases R with
      |nil=>obtain rfl:k=l.length:=aeQ;have HT:aj (res=true):=ah HE.o;go_wp2_with fail;go_ret;exact⟨agR,xC.o⟩
      |cons x R=>
       obtain⟨⟨b,off,hao,hb1,x0,hsz⟩,-⟩:=hrow;simp only[aD]at hlen;have hkl:k<l.length:=agH;have ED:aj (res=((Tk.jf x.toList&& !((pre.map (·.toList)).contains x.toList))&&Gq (pre.map (·.toList)++[x.toList]) R)):=ah HE.o;rw[hao];go_wp2_with fail;refine(zf x wr (jX.o.same xC.o) hsz).mono ?_;rintro e w6 ⟨rfl,hb6⟩;have aB7:=ah (xC.o.trans (hb6.mono xC.o.size));have NJ:=ah (HM.o.next hb6);have Gv:aj (Below mb w5 w6):=ah (HB.o.trans (hb6.mono (bH HM.o.lt)));clear hb6 x0;rw[<- Lib.toList_data x];cases hn:Tk.jf x.toList
       ·have HT:aj (res=false):=ah (by rw[ED.o,hn];rfl);go_wp2_with fail;go_ret;exact⟨agR,aB7.o⟩
       ·have hk1:=NJ.o.look x hsz;cases hc:(pre.map (·.toList)).contains x.toList
        ·obtain⟨w7,hup,hm7,Im⟩:=NJ.o.put aeS x hsz true;have Jt:=ah hm7;have qH:aj (Below mb w5 w7):=ah (Gv.o.trans (cK Im (aB _) (bH NJ.o.lt)));have HT:aj (res=Gq (pre.map (·.toList)++[x.toList]) R):=ah (by rw[ED.o,hn,hc];rfl);clear hm7 Im;simp only[hc]at hk1;go_wp2_with fail;go_roundw
         case rel=>exact⟨k+1,pre++[x],R,agL,acC,by simp[HPK.o],Jt.o.congr (λq=>by simp[List.contains_iff_mem];grind),by rw[List.map_append];exact HT.o,qH.o⟩
         case measure=>simp[intOf];omega
        ·have HT:aj (res=false):=ah (by rw[ED.o,hn,hc];rfl);simp only[hc]at hk1;go_wp2_with fail;go_ret;exact⟨agR,aB7.o⟩
namespace Md
def qU (nT:Int):Option sK->List sK->Bool
 |_,[]=>true
 |p,s::r=>if decide (s.th<0)||decide (nT<=s.th)then false else
  match p with
  |none=>if s.st != 0 then false else qU nT (some s) r
  |some q=>if q.th != s.th then(if s.st != 0||decide (s.th<q.th)then false else qU nT (some s) r)else(if s.st != q.st+1 then false else qU nT (some s) r)
theorem KM (nT:Int): ∀(l:List sK) (q:sK),0<=q.th->qU nT (some q) l=vsA nT q.th (q.st+1) l
 | [],_,_=>rfl
 |s::r,q,h=>by
  rw[qU,vsA];by_cases h1:s.th<q.th
  ·by_cases h0:s.th<0
   ·simp[h1,h0]
   ·by_cases h2:nT<=s.th
    ·simp[h1,h2]
    ·have hne:(q.th != s.th)=true:=(by simp[bne];omega);simp[h1,h0,h2,hne]
  ·have h0: ¬s.th<0:=by omega
   by_cases h2:nT<=s.th
   ·simp[h2]
   ·by_cases h3:q.th<s.th
    ·have hne:(q.th != s.th)=true:=(by simp[bne];omega);have ih:=KM nT r s agH;by_cases h4:s.st=0
     ·rw[h4]at ih;simp[h1,h0,h2,h3,hne,h4,ih]
     ·simp[h1,h0,h2,h3,hne,h4]
    ·have he:q.th=s.th:=agH;have hne:(q.th != s.th)=false:=(by simp[bne,he]);have ih:=KM nT r s agH;by_cases h4:s.st=q.st+1
     ·rw[h4]at ih;simp[h1,h0,h2,h3,hne,h4,ih,he]
     ·simp[h1,h0,h2,h3,hne,h4]
theorem ai9 (nT:Int): ∀(l:List sK),qU nT none l=vsA nT 0 0 l
 | []=>rfl
 |s::r=>by
  rw[qU,vsA];by_cases h0:s.th<0
  ·simp[h0]
  ·by_cases h2:nT<=s.th
   ·simp[h2]
   ·have ih:=KM nT r s agH;by_cases h3:0<s.th
    ·by_cases h4:s.st=0
     ·rw[h4]at ih;simp[h0,h2,h3,h4,ih]
     ·simp[h0,h2,h3,h4]
    ·have he:s.th=0:=agH;by_cases h4:s.st=0
     ·rw[h4,he]at ih;simp[h2,he,h4,ih]
     ·simp[h2,he,h4]
end Md
namespace Md
def Gs:List ByteArray->List ByteArray->Bool
 |_,[]=>true
 |pre,x::r=>(Tk.jf x.toList&& !decide (0<=iK pre x))&&Gs (pre++[x]) r
theorem Ym: ∀(l:List ByteArray) (nm:ByteArray) (k:Int),0<=sj l nm k->∃s∈l,s.toList=nm.toList
 | [],_,_,h=>by rw[sj]at h;exact absurd h agI
 |s::r,nm,k,h=>by
  rw[sj]at h;split at h
  ·rename_i hs;exact⟨s,aX,by simpa using hs⟩
  ·obtain⟨x,hx,e⟩:=Ym r nm (k+1) h;exact⟨x,aY _ hx,e⟩
theorem aR7 (l:List ByteArray) (x:ByteArray):decide (0<=iK l x)=(l.map (·.toList)).contains x.toList:=by
 rw[Bool.eq_iff_iff,decide_eq_true_iff,List.contains_iff_mem,List.mem_map];constructor
 ·exact Ym l x 0
 ·exact λh=>MZ l x 0 agI h
theorem Z8: ∀(l pre:List ByteArray),Gs pre l=Gq (pre.map (·.toList)) l
 | [],_=>rfl
 |x::r,pre=>by rw[Gs,Gq,Z8 r,aR7,List.map_append];rfl
end Md
end Go.Proofs.YtdoplekppjkkpaaGreatDoor
