/- What it is that objects and code are valid. No program in sight. And what hangs on it. -/
import Derived.Test.YtfbbaiejbjdfbaaGreatDoorGPI
import Derived.Test.YtfbbaiejbjdfbaaGreatDoorGA
import Derived.Test.YtfbbaiejbjdfbaaGreatDoorGCB
import Derived.IntWalk
set_option linter.unusedSimpArgs false
set_option linter.unusedVariables false
set_option maxHeartbeats 40000000
set_option maxRecDepth 1000000
namespace Go.Proofs.YtfbbaiejbjdfbaaGreatDoor
open Go.RowKit
namespace Md
def jl (i n:Int):Bool:=decide (0<=i) && decide (i < n)
def JU (c:qB) (k:Int) (x:qB):Bool:=x.nm.toList == c.nm.toList && (x.ix == k && (x.sz == c.sz && (x.I6 == c.I6 && x.init == c.init)))
def Ak (c:qB):Nat->Int->List qB->Bool
 | 0,_,_=>true
 | _ + 1,_,[]=>false
 | n + 1,k,x ::r=>JU c k x && Ak c n (k + 1) r
def vC:Nat->List qB->Option (List ByteArray)
 | 0,_=>some []
 | _ + 1,[]=>some []
 | f + 1,c ::r=>
   if c.sz == 0 then (if c.ix != 0 then none else (vC f r).map (fun l=>c.nm ::l)) else
   if decide (c.sz < 1) || (decide (4 < c.sz) || (c.I6 || decide (((r.length + 1:Nat):Int) < c.sz))) then none else
   if Ak c c.sz.toNat 0 (c ::r) then (vC f ((c ::r).drop c.sz.toNat)).map (fun l=>c.nm ::l) else none
def AZ (l:List qB):Option (List ByteArray):=vC l.length l
def FI:List (List UInt8)->List ByteArray->Bool
 | _,[]=>true
 | seen,x ::r=>(Tk.gZ x.toList && !(seen.contains x.toList)) && FI (seen++[x.toList]) r
def vg (W:Wo) (i:Int) (rw:Bool):Bool:=jl i W.ls.length && (match W.ls[i.toNat]? with | some l=>l.rw == rw | none=>false)
def vsA (nT:Int):Int->Int->List wZ->Bool
 | _,_,[]=>true
 | th,nx,s ::r=>if decide (s.th < th) || decide (nT<=s.th) then false else
   if s.st != (if th < s.th then 0 else nx) then false else vsA nT (if th < s.th then s.th else th) ((if th < s.th then 0 else nx) + 1) r
def wC (W:Wo) (v:List ByteArray):List ByteArray:=v++W.ls.map (·.nm)++W.ns.map (·.nm)++W.fs++W.ts
def vW (W:Wo):Bool:=
 if decide ((12:Int) < W.cs.length) || (decide ((4:Int) < W.ls.length) || (decide ((2:Int) < W.ns.length) || (decide ((2:Int) < W.fs.length) || decide ((60:Int) < W.ss.length)))) then false else
 if decide ((W.ts.length:Int) < 1) || decide ((4:Int) < W.ts.length) then false else
 match AZ W.cs with
 | none=>false
 | some v=>FI [] (wC W v) && (W.ns.all (fun c=>vg W c.mx false) && vsA W.ts.length 0 0 W.ss)
def M7 (W:Wo) (i:Int):Bool:=jl i W.cs.length && (match W.cs[i.toNat]? with | some c=>c.sz == 0 | none=>false)
def KT (W:Wo) (i n:Int):Bool:=jl i W.cs.length && (match W.cs[i.toNat]? with | some c=>c.ix == 0 && (c.sz != 0 && c.sz == n) | none=>false)
def jV (W:Wo) (n:Int) (i:aX):Bool:=
 if i.op == 3 then i.n == 4 || i.n == 5 else if i.op == 4 then decide (6<=i.n) && decide (i.n<=18) else
 if i.op == 5 then jl i.a n else if i.op == 10 then jl i.b n else
 if i.op == 6 then M7 W i.b else if i.op == 8 then M7 W i.a else if i.op == 7 then KT W i.b i.n else if i.op == 9 then KT W i.a i.n else
 if i.op == 11 || i.op == 12 then vg W i.a false else if i.op == 13 || (i.op == 14 || (i.op == 15 || i.op == 16)) then vg W i.a true else
 if i.op == 21 || (i.op == 22 || i.op == 23) then jl i.a W.ns.length else if i.op == 24 || i.op == 25 then jl i.a W.ts.length else
 if i.op == 26 then jl i.a W.fs.length else if i.op == 27 then jl i.b W.fs.length else true
def FH (W:Wo) (th:Int) (i:aX):Bool:=if i.op == 28 then i.st == -1 else jl i.st W.ss.length && (match W.ss[i.st.toNat]? with | some s=>s.th == th | none=>false)
def zQ (W:Wo) (th n regs k:Int) (i:aX):Bool:=
 ((decide (1<=i.op) && decide (i.op<=28)) && ((i.op == 28) == (k == n - 1))) && (FH W th i && ((dI i).all (fun r=>jl r regs) && jV W n i))
def uO (W:Wo) (th n regs:Int):Int->List aX->Bool
 | _,[]=>true
 | k,i ::r=>zQ W th n regs k i && uO W th n regs (k + 1) r
def nJ (op:Int):Bool:=decide (1<=op) && decide (op<=5)
def lnd (l:List aX):Nat->Int->Bool
 | 0,_=>false
 | f + 1,k=>if jl k l.length then (match l[k.toNat]? with | some i=>if nJ i.op then lnd l f (if i.op == 5 then i.a else k + 1) else true | none=>false) else false
def ES (l:List aX):Bool:=(List.range l.length).all (fun k=>lnd l (l.length + 1) (k:Nat))
def Me (W:Wo) (th:Int) (t:xg):Bool:=
 if decide (t.regs < 0) || (decide (32 < t.regs) || ((t.is.length:Int) == 0)) then false else uO W th t.is.length t.regs 0 t.is && ES t.is
def I5 (W:Wo):Int->List xg->Bool
 | _,[]=>true
 | k,t ::r=>Me W k t && I5 W (k + 1) r
def RH (W:Wo) (l:List xg):Bool:=if !vW W || ((l.length:Int) != (W.ts.length:Int)) then false else I5 W 0 l
end Md
open Md
theorem Mg (i n:Int) (w:World):Calls Tryz.prog 50 #[.int .i64 i,.int .i64 n] w fun e w'=>e= .returned (.bool (jl i n))∧w=w':=by
 unfold jl;by_cases h0:0<=i <;> by_cases h1:i < n
 all_goals go_enter Tryz.func50,Tryz.ntmps50;go_wp2_with fail;go_ret;exact ⟨by simp [h0,h1],rfl⟩
theorem mJ (i:Int) (w:World):Calls Tryz.prog 89 #[.int .i64 i] w fun e w'=>e= .returned (.bool (nJ i))∧w=w':=by
 unfold nJ;by_cases h0:1<=i <;> by_cases h1:i<=5
 all_goals go_enter Tryz.func89,Tryz.ntmps89;go_wp2_with fail;go_ret;exact ⟨by simp [h0,h1],rfl⟩
theorem IK {α:Type} {l:List α} {i:Int} (h:jl i l.length=true): ∃(k:Nat) (x:α),i=(k:Int)∧k < l.length∧l[k]? =some x:=by
 unfold jl at h;simp only [Bool.and_eq_true,decide_eq_true_eq] at h;obtain ⟨k,rfl⟩:=Int.eq_ofNat_of_zero_le h.1;have hk:k < l.length:=by omega
 exact ⟨k,l[k],rfl,hk,List.getElem?_eq_getElem hk⟩
theorem kY {i n:Int} {b:Bool} (h:jl i n=b) (w:World):Calls Tryz.prog 50 #[.int .i64 i,.int .i64 n] w fun e w'=>e= .returned (.bool b)∧w=w':=by
 subst h; exact Mg i n w
theorem LG (W:Wo) (s:jM) (i:Int) (rw:Bool) (w:World) (hw:gN w w.heap.size W s):
 Calls Tryz.prog 48 #[pY W s,.int .i64 i,.bool rw] w fun e w'=>e= .returned (.bool (vg W i rw))∧Below w.heap.size w w':=by
 have hl:=hw.ll;unfold maxLen at hl;have HW:=ah hw;clear hw;unfold pY;cases hwi:jl i W.ls.length
 ·have hres:vg W i rw=false:=by unfold vg; rw [hwi]; rfl
  rw [hres];go_enter Tryz.func48,Tryz.ntmps48;go_upto_region 1 with fail;generalize hW:World.alloc w _=W1;obtain ⟨nb,hnb⟩: ∃n,w.heap.size=n:=⟨_,rfl⟩;have HB:aj (Below w.heap.size w W1):=ah (by rw [<- hW]; exact ak _ _);have hc:W1.cell? ⟨nb,1,none⟩=some (.slice s.aL W.ls.length s.cL):=by rw [<- hW,<- hnb]; exact au (heap_alloc_new _ _) rfl
  have HF:=ah (HW.o.ls.same HB.o);rw [hnb];clear hW hnb;go_wp2_with fail;refine (kY hwi W1).mono ?_;rintro e w2 ⟨rfl,rfl⟩;go_wp2_with fail;go_ret;exact ⟨rfl,HB.o⟩
 ·obtain ⟨k,x,rfl,hk,hx⟩:=IK hwi;have hres:vg W k rw=(x.rw == rw):=by unfold vg; rw [hwi]; simp [hx]
  rw [hres];go_enter Tryz.func48,Tryz.ntmps48;go_upto_region 1 with fail;generalize hW:World.alloc w _=W1;obtain ⟨nb,hnb⟩: ∃n,w.heap.size=n:=⟨_,rfl⟩;have HB:aj (Below w.heap.size w W1):=ah (by rw [<- hW]; exact ak _ _);have hc:W1.cell? ⟨nb,1,none⟩=some (.slice s.aL W.ls.length s.cL):=by rw [<- hW,<- hnb]; exact au (heap_alloc_new _ _) rfl
  have HF:=ah (HW.o.ls.same HB.o);rw [hnb];clear hW hnb;obtain ⟨b,off,hao,hb,hcs⟩:=HF.o.at k x hx;rw [hao] at hc;have k0:(0:Int)<=(k:Int):=by omega
  have k1:(k:Int) < (W.ls.length:Int):=by omega
  have z1:=hcs 1 _ rfl;simp only [Nat.zero_add,Nat.add_zero] at z1;clear hcs HF;go_wp2_with fail;refine (kY hwi W1).mono ?_;rintro e w2 ⟨rfl,rfl⟩;go_wp2_with fail;go_ret;exact ⟨by first | rfl | simp,HB.o⟩
theorem QX (W:Wo) (s:jM) (i:Int) (w:World) (hw:gN w w.heap.size W s):
 Calls Tryz.prog 87 #[pY W s,.int .i64 i] w fun e w'=>e= .returned (.bool (M7 W i))∧Below w.heap.size w w':=by
 have hl:=hw.lc;unfold maxLen at hl;have HW:=ah hw;clear hw;unfold pY;cases hwi:jl i W.cs.length
 ·have hres:M7 W i=false:=by unfold M7; rw [hwi]; rfl
  rw [hres];go_enter Tryz.func87,Tryz.ntmps87;go_upto_region 1 with fail;generalize hW:World.alloc w _=W1;obtain ⟨nb,hnb⟩: ∃n,w.heap.size=n:=⟨_,rfl⟩;have HB:aj (Below w.heap.size w W1):=ah (by rw [<- hW]; exact ak _ _);have hc:W1.cell? ⟨nb,0,none⟩=some (.slice s.aC W.cs.length s.cC):=by rw [<- hW,<- hnb]; exact au (heap_alloc_new _ _) rfl
  have HF:=ah (HW.o.cs.same HB.o);rw [hnb];clear hW hnb;go_wp2_with fail;refine (kY hwi W1).mono ?_;rintro e w2 ⟨rfl,rfl⟩;go_wp2_with fail;go_ret;exact ⟨rfl,HB.o⟩
 ·obtain ⟨k,x,rfl,hk,hx⟩:=IK hwi;have hres:M7 W k=(x.sz == 0):=by unfold M7; rw [hwi]; simp [hx]
  rw [hres];go_enter Tryz.func87,Tryz.ntmps87;go_upto_region 1 with fail;generalize hW:World.alloc w _=W1;obtain ⟨nb,hnb⟩: ∃n,w.heap.size=n:=⟨_,rfl⟩;have HB:aj (Below w.heap.size w W1):=ah (by rw [<- hW]; exact ak _ _);have hc:W1.cell? ⟨nb,0,none⟩=some (.slice s.aC W.cs.length s.cC):=by rw [<- hW,<- hnb]; exact au (heap_alloc_new _ _) rfl
  have HF:=ah (HW.o.cs.same HB.o);rw [hnb];clear hW hnb;obtain ⟨b,off,hao,hb,hcs⟩:=HF.o.at k x hx;rw [hao] at hc;have k0:(0:Int)<=(k:Int):=by omega
  have k1:(k:Int) < (W.cs.length:Int):=by omega
  have z2:=hcs 2 _ rfl;simp only [Nat.zero_add,Nat.add_zero] at z2;clear hcs HF;go_wp2_with fail;refine (kY hwi W1).mono ?_;rintro e w2 ⟨rfl,rfl⟩;go_wp2_with fail;go_ret;exact ⟨by first | rfl | simp,HB.o⟩
theorem Sd (W:Wo) (s:jM) (i:Int) (n:Int) (w:World) (hw:gN w w.heap.size W s):
 Calls Tryz.prog 88 #[pY W s,.int .i64 i,.int .i64 n] w fun e w'=>e= .returned (.bool (KT W i n))∧Below w.heap.size w w':=by
 have hl:=hw.lc;unfold maxLen at hl;have HW:=ah hw;clear hw;unfold pY;cases hwi:jl i W.cs.length
 ·have hres:KT W i n=false:=by unfold KT; rw [hwi]; rfl
  rw [hres];go_enter Tryz.func88,Tryz.ntmps88;go_upto_region 1 with fail;generalize hW:World.alloc w _=W1;obtain ⟨nb,hnb⟩: ∃n,w.heap.size=n:=⟨_,rfl⟩;have HB:aj (Below w.heap.size w W1):=ah (by rw [<- hW]; exact ak _ _);have hc:W1.cell? ⟨nb,0,none⟩=some (.slice s.aC W.cs.length s.cC):=by rw [<- hW,<- hnb]; exact au (heap_alloc_new _ _) rfl
  have HF:=ah (HW.o.cs.same HB.o);rw [hnb];clear hW hnb;go_wp2_with fail;refine (kY hwi W1).mono ?_;rintro e w2 ⟨rfl,rfl⟩;go_wp2_with fail;go_ret;exact ⟨rfl,HB.o⟩
 ·obtain ⟨k,x,rfl,hk,hx⟩:=IK hwi;have hres:KT W k n=(x.ix == 0 && (x.sz != 0 && x.sz == n)):=by unfold KT; rw [hwi]; simp [hx]
  rw [hres];go_enter Tryz.func88,Tryz.ntmps88;go_upto_region 1 with fail;generalize hW:World.alloc w _=W1;obtain ⟨nb,hnb⟩: ∃n,w.heap.size=n:=⟨_,rfl⟩;have HB:aj (Below w.heap.size w W1):=ah (by rw [<- hW]; exact ak _ _);have hc:W1.cell? ⟨nb,0,none⟩=some (.slice s.aC W.cs.length s.cC):=by rw [<- hW,<- hnb]; exact au (heap_alloc_new _ _) rfl
  have HF:=ah (HW.o.cs.same HB.o);rw [hnb];clear hW hnb;obtain ⟨b,off,hao,hb,hcs⟩:=HF.o.at k x hx;rw [hao] at hc;have k0:(0:Int)<=(k:Int):=by omega
  have k1:(k:Int) < (W.cs.length:Int):=by omega
  have z1:=hcs 1 _ rfl;have z2:=hcs 2 _ rfl;simp only [Nat.zero_add,Nat.add_zero] at z1 z2;clear hcs HF;cases h1:(x.ix == 0)
  ·go_wp2_with fail;refine (kY hwi W1).mono ?_;rintro e w2 ⟨rfl,rfl⟩;go_wp2_with fail;go_ret;exact ⟨by rw [h1]; simp,HB.o⟩
  ·cases h2:(x.sz == 0)
   ·have h2':(x.sz != 0)=true:=(by simp [bne,h2]);go_wp2_with fail;refine (kY hwi W1).mono ?_;rintro e w2 ⟨rfl,rfl⟩;go_wp2_with fail;go_ret;exact ⟨by rw [h1,h2']; simp,HB.o⟩
   ·have h2':(x.sz != 0)=false:=(by simp [bne,h2]);go_wp2_with fail;refine (kY hwi W1).mono ?_;rintro e w2 ⟨rfl,rfl⟩;go_wp2_with fail;go_ret;exact ⟨by rw [h1,h2']; simp,HB.o⟩
theorem Ow (b:Bool) (w:World):Calls Tryz.prog 110 #[.bool b] w fun e w'=>e= .returned (.int .i64 (if b then 1 else 0))∧w=w':=by
 cases b
 all_goals go_enter Tryz.func110,Tryz.ntmps110;go_wp2_with fail;go_ret;exact ⟨rfl,rfl⟩
theorem WI (op a:Int) (w:World):Calls Tryz.prog 85 #[.int .i64 op,.int .i64 a] w fun e w'=>(∃v,e= .returned (.tuple #[.int .i64 v,.bool (op == 4 || op == 5)]))∧w=w':=by
 have hcs:op=4∨op=5∨(op≠4∧op≠5):=by omega
 rcases hcs with rfl | rfl | ⟨h1,h2⟩
 ·go_enter Tryz.func85,Tryz.ntmps85;go_wp2_with fail
  go_ret2
  exact ⟨⟨_,rfl⟩,rfl⟩
 ·go_enter Tryz.func85,Tryz.ntmps85;go_wp2_with fail
  all_goals first
   | (go_ret2; exact ⟨⟨_,rfl⟩,rfl⟩)
   | (refine (Ow _ w).mono ?_; rintro e w2 ⟨rfl,rfl⟩; go_wp2_with fail; all_goals (go_ret2; exact ⟨⟨_,rfl⟩,rfl⟩))
 ·have k1:(op == 4)=false:=by simpa using h1
  have k2:(op == 5)=false:=by simpa using h2
  clear h1 h2;go_enter Tryz.func85,Tryz.ntmps85;go_wp2_with fail
  go_ret2
  exact ⟨⟨0,by simp [k1,k2]⟩,rfl⟩
namespace Md
def mO (l:List aX) (k:Nat):Bool:=match l[k]? with | some i=>nJ i.op | none=>false
def vo (l:List aX) (k:Nat):Nat:=match l[k]? with | some i=>if i.op == 5 then i.a.toNat else k + 1 | none=>k
def Hl (l:List aX):Prop:= ∀k i,l[k]? =some i->nJ i.op=true->(i.op=5->0<=i.a)∧vo l k < l.length
def lN (l:List aX):Nat->Nat->Bool
 | 0,_=>false
 | f + 1,k=>if mO l k then lN l f (vo l k) else decide (k < l.length)
theorem Hl.next {l:List aX} (h:Hl l) {k:Nat} (hs:mO l k=true):vo l k < l.length:=by
 unfold mO at hs;cases hk:l[k]? with
 | none=>rw [hk] at hs; cases hs
 | some i=>rw [hk] at hs; exact (h k i hk hs).2
theorem R5 {l:List aX} (h:Hl l): ∀(f k:Nat),k < l.length->lnd l f (k:Nat)=lN l f k
 | 0,_,_=>rfl
 | f + 1,k,hk=>by
   have hw:jl (k:Nat) l.length=true:=by unfold jl; simp; omega
   rw [lnd,lN,if_pos hw];obtain ⟨i,hi⟩: ∃i,l[k]? =some i:=⟨l[k],List.getElem?_eq_getElem hk⟩;have e:(k:Int).toNat=k:=by omega
   rw [e,hi];have Vm:mO l k=nJ i.op:=by unfold mO; rw [hi]
   rw [Vm];cases hs:nJ i.op
   ·simp [hs,hk]
   ·obtain ⟨h1,h2⟩:=h k i hi hs;have hn:vo l k=if i.op == 5 then i.a.toNat else k + 1:=by unfold vo; rw [hi]
    have e2:(if (i.op == 5)=true then i.a else (k:Int) + 1)=((vo l k:Nat):Int):=by
     rw [hn];by_cases h5:i.op=5
     ·have:=h1 h5; simp [h5]; omega
     ·simp [h5]
    simp only [hs,if_true];rw [e2];exact R5 h f _ h2
def nM (l:List aX) (s:Nat):Nat->Nat
 | 0=>s
 | i + 1=>vo l (nM l s i)
theorem Du (l:List aX) (s:Nat): ∀t,nM l (vo l s) t=nM l s (t + 1)
 | 0=>rfl
 | t + 1=>by rw [nM,Du l s t]; rfl
theorem ag2 {l:List aX} {s:Nat} (f:Nat): ∀(m:Nat),(∀t,t < m->mO l (nM l s t)=true)->lN l (f + m) s=lN l f (nM l s m)
 | 0,_=>rfl
 | m + 1,h=>by have h1:=ag2 (f + 1) m (fun t ht=>h t (by omega));rw [show f + (m + 1)=f + 1 + m by omega,h1,lN,if_pos (h m (by omega))]; rfl
theorem MP {l:List aX} {s i j:Nat} (h: ∀t,t < j->mO l (nM l s t)=true) (hij:i < j) (he:nM l s i=nM l s j): ∀(f t:Nat),t < j->lN l f (nM l s t)=false
 | 0,_,_=>rfl
 | f + 1,t,ht=>by
   rw [lN,if_pos (h t ht)];show lN l f (nM l s (t + 1))=false;by_cases h1:t + 1 < j
   ·exact MP h hij he f (t + 1) h1
   ·have:t + 1=j:=by omega
    rw [this,<- he];exact MP h hij he f i hij
theorem R4 {l:List aX} : ∀(f s:Nat),lN l f s=true-> ∃m,m < f∧(∀t,t < m->mO l (nM l s t)=true)∧mO l (nM l s m)=false∧nM l s m < l.length
 | 0,_,h=>by cases h
 | f + 1,s,h=>by
   rw [lN] at h;cases hs:mO l s
   ·rw [hs] at h;exact ⟨0,by omega,fun t ht=>by omega,hs,by show s < l.length; simpa using h⟩
   ·rw [hs] at h;obtain ⟨m,h1,h2,h3,h4⟩:=R4 f (vo l s) (by simpa using h);refine ⟨m + 1,by omega,fun t ht=> ?_,by rw [<- Du]; exact h3,by rw [<- Du]; exact h4⟩;cases t with
    | zero=>exact hs
    | succ t=>rw [<- Du]; exact h2 t (by omega)
theorem OG {l:List aX} (ho:Hl l) {s:Nat} (hs:s < l.length) {m:Nat} (h: ∀t,t < m->mO l (nM l s t)=true): ∀t,t<=m->nM l s t < l.length
 | 0,_=>hs
 | t + 1,ht=>ho.next (h t (by omega))
theorem aG9 {n m:Nat} {g:Nat->Nat} (hg: ∀t,t<=m->g t < n) (hm:n<=m): ∃i j,i < j∧j<=m∧g i=g j:=by
 apply Classical.byContradiction;intro hno;have hnd:((List.range (m + 1)).map g).Nodup:=by unfold List.Nodup;rw [List.pairwise_map];refine List.Pairwise.imp_of_mem ?_ (List.pairwise_lt_range (n:=m + 1));intro a b ha hb hab e;exact hno ⟨a,b,hab,by have:=List.mem_range.1 hb; omega,e⟩
 have hsub:((List.range (m + 1)).map g) ⊆ List.range n:=fun x hx=>by obtain ⟨t,ht,rfl⟩:=List.mem_map.1 hx;exact List.mem_range.2 (hg t (by have:=List.mem_range.1 ht; omega))
 have:=hnd.length_le_of_subset hsub;simp at this; omega
theorem aE7 {l:List aX} (ho:Hl l) {s f:Nat} (hs:s < l.length) (h:lN l f s=true):lN l (l.length + 1) s=true:=by
 obtain ⟨m,hm,h1,h2,h3⟩:=R4 f s h;have hml:m < l.length + 1:=by apply Classical.byContradiction;intro hge;obtain ⟨i,j,hij,hjm,he⟩:=aG9 (n:=l.length) (m:=m) (g:=nM l s) (OG ho hs h1) (by omega);have:=MP (fun t ht=>h1 t (by omega)) hij he f 0 (by omega);rw [show nM l s 0=s from rfl,h] at this;cases this
 have:=ag2 (l:=l) (s:=s) (l.length + 1 - m) m h1;rw [show l.length + 1 - m + m=l.length + 1 by omega] at this;rw [this,show l.length + 1 - m=(l.length - m) + 1 by omega,lN,if_neg (by rw [h2]; decide)];simpa using h3
def mP (l:List aX) (k:Nat):Prop:= ∃f,lN l f k=true
theorem mP.back {l:List aX} {s m:Nat} (h:mP l (nM l s m)) (hs: ∀t,t < m->mO l (nM l s t)=true): ∀t,t<=m->mP l (nM l s t):=fun t ht=>by
 obtain ⟨f,hf⟩:=h;have: ∀(q t:Nat),t + q=m->lN l (f + q) (nM l s t)=true:=by
  intro q
  induction q with
  | zero=>intro t e; rw [Nat.add_zero] at e; subst e; exact hf
  | succ q ih=>intro t e;rw [show f + (q + 1)=(f + q) + 1 by omega,lN,if_pos (hs t (by omega))];exact ih (t + 1) (by omega)
 exact ⟨_,this (m - t) t (by omega)⟩
theorem mP.event {l:List aX} {k:Nat} (hk:k < l.length) (h:mO l k=false):mP l k:=⟨1,by rw [lN,h]; simpa using hk⟩
theorem MI {l:List aX} (ho:Hl l):ES l=true↔ ∀k,k < l.length->mP l k:=by
 unfold ES;rw [List.all_eq_true];constructor
 ·intro h k hk;have:=h k (List.mem_range.2 hk);rw [R5 ho _ _ hk] at this;exact ⟨_,this⟩
 ·intro h k hk;have hk:=List.mem_range.1 hk;obtain ⟨f,hf⟩:=h k hk;rw [R5 ho _ _ hk];exact aE7 ho hk hf
def Em:List Bool->Nat
 | []=>0
 | true ::r=>Em r
 | false ::r=>Em r + 1
theorem Ik: ∀(l:List Bool) (k:Nat),l[k]? =some false->Em (l.set k true) + 1=Em l
 | [],_,h=>by simp at h
 | b ::r,0,h=>by simp at h; subst h; rfl
 | b ::r,k + 1,h=>by
   have ih:=Ik r k (by simpa using h);cases b
   ·show Em (r.set k true) + 1 + 1=Em r + 1; omega
   ·show Em (r.set k true) + 1=Em r; omega
end Md
end Go.Proofs.YtfbbaiejbjdfbaaGreatDoor
