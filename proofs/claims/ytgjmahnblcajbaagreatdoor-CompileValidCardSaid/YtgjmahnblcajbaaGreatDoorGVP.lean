/- What it is that objects and code are valid. No program in sight. And what hangs on it. -/
import Derived.Test.YtgjmahnblcajbaaGreatDoorGPJ
import Derived.Test.YtgjmahnblcajbaaGreatDoorGA
import Derived.Test.YtgjmahnblcajbaaGreatDoorGZA
import Derived.Test.YtgjmahnblcajbaaGreatDoorGCE
set_option linter.unusedSimpArgs false
set_option linter.unusedVariables false
set_option maxHeartbeats 40000000
set_option maxRecDepth 1000000
namespace Go.Proofs.YtgjmahnblcajbaaGreatDoor
open Go.RowKit
namespace Md
def bT (i n:Int):Bool:=decide (0<=i) && decide (i < n)
def ED (c:kM) (k:Int) (x:kM):Bool:=x.nm.toList == c.nm.toList && (x.ix == k && (x.sz == c.sz && (x.rW == c.rW && x.init == c.init)))
def vJ (c:kM):Nat->Int->List kM->Bool
 | 0,_,_=>true
 | _ + 1,_,[]=>false
 | n + 1,k,x ::r=>ED c k x && vJ c n (k + 1) r
def oI:Nat->List kM->Option (List ByteArray)
 | 0,_=>some []
 | _ + 1,[]=>some []
 | f + 1,c ::r=>
   if c.sz == 0 then (if c.ix != 0 then none else (oI f r).map (fun l=>c.nm ::l)) else
   if decide (c.sz < 1) || (decide (4 < c.sz) || (c.rW || decide (((r.length + 1:Nat):Int) < c.sz))) then none else
   if vJ c c.sz.toNat 0 (c ::r) then (oI f ((c ::r).drop c.sz.toNat)).map (fun l=>c.nm ::l) else none
def Aa (l:List kM):Option (List ByteArray):=oI l.length l
def DT:List (List UInt8)->List ByteArray->Bool
 | _,[]=>true
 | seen,x ::r=>(Tk.iO x.toList && !(seen.contains x.toList)) && DT (seen++[x.toList]) r
def fT (W:Wo) (i:Int) (rw:Bool):Bool:=bT i W.ls.length && (match W.ls[i.toNat]? with | some l=>l.rw == rw | none=>false)
def vsA (nT:Int):Int->Int->List rU->Bool
 | _,_,[]=>true
 | th,nx,s ::r=>if decide (s.th < th) || decide (nT<=s.th) then false else
   if s.st != (if th < s.th then 0 else nx) then false else vsA nT (if th < s.th then s.th else th) ((if th < s.th then 0 else nx) + 1) r
def lK (W:Wo) (v:List ByteArray):List ByteArray:=v++W.ls.map (·.nm)++W.ns.map (·.nm)++W.fs++W.ts
def vW (W:Wo):Bool:=
 if decide ((12:Int) < W.cs.length) || (decide ((4:Int) < W.ls.length) || (decide ((2:Int) < W.ns.length) || (decide ((2:Int) < W.fs.length) || decide ((60:Int) < W.ss.length)))) then false else
 if decide ((W.ts.length:Int) < 1) || decide ((4:Int) < W.ts.length) then false else
 match Aa W.cs with
 | none=>false
 | some v=>DT [] (lK W v) && (W.ns.all (fun c=>fT W c.mx false) && vsA W.ts.length 0 0 W.ss)
def xS (W:Wo) (i:Int):Bool:=bT i W.cs.length && (match W.cs[i.toNat]? with | some c=>c.sz == 0 | none=>false)
def Dy (W:Wo) (i n:Int):Bool:=bT i W.cs.length && (match W.cs[i.toNat]? with | some c=>c.ix == 0 && (c.sz != 0 && c.sz == n) | none=>false)
def oG (W:Wo) (n:Int) (i:aQ):Bool:=
 if i.op == 3 then i.n == 4 || i.n == 5 else if i.op == 4 then decide (6<=i.n) && decide (i.n<=18) else
 if i.op == 5 then bT i.a n else if i.op == 10 then bT i.b n else
 if i.op == 6 then xS W i.b else if i.op == 8 then xS W i.a else if i.op == 7 then Dy W i.b i.n else if i.op == 9 then Dy W i.a i.n else
 if i.op == 11 || i.op == 12 then fT W i.a false else if i.op == 13 || (i.op == 14 || (i.op == 15 || i.op == 16)) then fT W i.a true else
 if i.op == 21 || (i.op == 22 || i.op == 23) then bT i.a W.ns.length else if i.op == 24 || i.op == 25 then bT i.a W.ts.length else
 if i.op == 26 then bT i.a W.fs.length else if i.op == 27 then bT i.b W.fs.length else true
def uF (W:Wo) (th:Int) (i:aQ):Bool:=if i.op == 28 then i.st == -1 else bT i.st W.ss.length && (match W.ss[i.st.toNat]? with | some s=>s.th == th | none=>false)
def uZ (W:Wo) (th n regs k:Int) (i:aQ):Bool:=
 ((decide (1<=i.op) && decide (i.op<=28)) && ((i.op == 28) == (k == n - 1))) && (uF W th i && ((dx i).all (fun r=>bT r regs) && oG W n i))
def qW (W:Wo) (th n regs:Int):Int->List aQ->Bool
 | _,[]=>true
 | k,i ::r=>uZ W th n regs k i && qW W th n regs (k + 1) r
def jU (op:Int):Bool:=decide (1<=op) && decide (op<=5)
def qx (l:List aQ):Nat->Int->Bool
 | 0,_=>false
 | f + 1,k=>if bT k l.length then (match l[k.toNat]? with | some i=>if jU i.op then qx l f (if i.op == 5 then i.a else k + 1) else true | none=>false) else false
def Gi (l:List aQ):Bool:=(List.range l.length).all (fun k=>qx l (l.length + 1) (k:Nat))
def Cy (W:Wo) (th:Int) (t:qJ):Bool:=
 if decide (t.regs < 0) || (decide (32 < t.regs) || ((t.is.length:Int) == 0)) then false else qW W th t.is.length t.regs 0 t.is && Gi t.is
def BD (W:Wo):Int->List qJ->Bool
 | _,[]=>true
 | k,t ::r=>Cy W k t && BD W (k + 1) r
def A9 (W:Wo) (l:List qJ):Bool:=if !vW W || ((l.length:Int) != (W.ts.length:Int)) then false else BD W 0 l
structure Al (W:Wo):Prop where
 cs: ∀c ∈ W.cs,c.nm.size<=maxLen
 ls: ∀c ∈ W.ls,c.nm.size<=maxLen
 ns: ∀c ∈ W.ns,c.nm.size<=maxLen
def kI (W:Wo):Prop:=W.cs.length<=12∧W.ls.length<=4∧W.ns.length<=2∧W.fs.length<=2∧W.ss.length<=60∧1<=W.ts.length∧W.ts.length<=4
end Md
open Go.RowKit Md Pz
def DN (i:aQ):List Int:=[i.op,i.a,i.b,i.c,i.n,i.st]
def Qi:aJ->Bool
 | .nil=>true
 | .cons h b e r=>decide (Md.gP h<=1000) && (Qi b && (Qi e && Qi r))
theorem IG: ∀l:aJ,Qi l=true->l.Ev (fun h=>Md.gP h<=1000)
 | .nil,_=>trivial
 | .cons h b e r,hs=>by unfold Qi at hs;simp only [Bool.and_eq_true,decide_eq_true_eq] at hs;exact ⟨hs.1,IG b hs.2.1,IG e hs.2.2.1,IG r hs.2.2.2⟩
def Wy (p:Pr):Bool:=decide (F8 p.ts<=100000000000) && p.ts.all (fun t=>Qi t.body)
theorem Wz {p:Pr} (h:Wy p=true):Fit p:=by
 unfold Wy at h;simp only [Bool.and_eq_true,decide_eq_true_eq,List.all_eq_true] at h;exact ⟨h.1,fun t ht=>IG _ (h.2 t ht)⟩
def ru:List UInt8:=[118,97,114,32,120,32,61,32,50,59,32,118,97,114,32,113,91,50,93,59,32,109,117,116,101,120,32,109,59,32,99,111,110,100,32,99,32,109,59,32,114,119,108,111,99,107,32,114,59,32,102,117,116,117,114,101,32,102,59,32,116,104,114,101,97,100,32,116,40,97,41,32,123,32,108,111,99,107,32,109,32,123,32,120,32,61,32,113,91,97,93,59,32,125,32,125,32,116,104,114,101,97,100,32,117,40,41,32,123,32,125]
def ar8:Bool:=(parse ru).2.1 == 0 && ((parse ru).2.2 == 0 && ((pq (parse ru).1).1 == 0 && (Wy (parse ru).1 && ((zM (jr (parse ru).1) (parse ru).1.ts 0).map (fun t=>t.is.length) == [6,1] && ((parse ru).1.ts.length == 2 && A9 (jr (parse ru).1) (zM (jr (parse ru).1) (parse ru).1.ts 0))))))
theorem aw1:ar8=true:=by decide +kernel
theorem Xu: ∃p t u,parse ru=(p,0,0)∧(pq p).1=0∧Fit p∧zM (jr p) p.ts 0=[t,u]∧t.is.length=6∧p.ts.length=2∧A9 (jr p) (zM (jr p) p.ts 0)=true∧vW (jr p)=true:=by
 have h:=aw1;unfold ar8 at h;generalize parse ru=r at h;obtain ⟨p,e,l⟩:=r;simp only [Bool.and_eq_true,beq_iff_eq] at h;obtain ⟨rfl,rfl,h1,h2,h3,h4,h5⟩:=h;have hv:vW (jr p)=true:=by
  unfold A9 at h5;split at h5
  ·cases h5
  ·rename_i hh;simp at hh; exact hh.1
 generalize hc:zM (jr p) p.ts 0=c at h3 h5;cases c with
 | nil=>simp at h3
 | cons t c=>
   cases c with
   | nil=>simp at h3
   | cons u c=>
     cases c with
     | cons a b=>simp at h3
     | nil=>simp only [List.map_cons,List.map_nil,List.cons.injEq,and_true] at h3;exact ⟨p,t,u,rfl,h1,Wz h2,hc,h3.1,h4,by rw [hc]; exact h5,hv⟩
namespace Md
def GU (c:kM) (k:Int) (x:kM):Bool:=x.ix == k && (x.nm.toList == c.nm.toList && (x.sz == c.sz && (x.init == c.init && !x.rW)))
def rZ (c:kM):Nat->Int->List kM->Bool
 | 0,_,_=>true
 | _ + 1,_,[]=>false
 | n + 1,k,x ::r=>GU c k x && rZ c n (k + 1) r
def sP:Nat->List kM->Option (List ByteArray)
 | 0,_=>some []
 | _ + 1,[]=>some []
 | f + 1,c ::r=>
   if c.sz == 0 then (if c.ix != 0 then none else (sP f r).map (fun l=>c.nm ::l)) else
   if decide (c.sz < 1) || (decide (4 < c.sz) || decide (((r.length + 1:Nat):Int) < c.sz)) then none else
   if rZ c c.sz.toNat 0 (c ::r) then (sP f ((c ::r).drop c.sz.toNat)).map (fun l=>c.nm ::l) else none
theorem av8 {c:kM} (hv:c.rW=false) (k:Int) (x:kM):GU c k x=ED c k x:=by
 unfold GU ED;rw [hv];cases (x.ix == k) <;> cases (x.nm.toList == c.nm.toList) <;> cases (x.sz == c.sz) <;> cases (x.init == c.init) <;> cases x.rW <;> rfl
theorem QC {c:kM} (hv:c.rW=false): ∀(n:Nat) (k:Int) (l:List kM),rZ c n k l=vJ c n k l
 | 0,_,_=>rfl
 | _ + 1,_,[]=>rfl
 | n + 1,k,x ::r=>by rw [rZ,vJ,av8 hv,QC hv n]
theorem Jm: ∀(f:Nat) (l:List kM),sP f l=oI f l
 | 0,_=>rfl
 | _ + 1,[]=>rfl
 | f + 1,c ::r=>by
   rw [sP,oI];cases hs:(c.sz == 0)
   ·simp only [Bool.false_eq_true,if_false];cases hv:c.rW
    ·rw [QC hv,Jm f];simp
    ·by_cases h1:c.sz < 1
     ·simp [h1]
     ·by_cases h2:4 < c.sz
      ·simp [h2]
      ·obtain ⟨n,hn⟩: ∃n,c.sz.toNat=n + 1:=⟨c.sz.toNat - 1,by omega⟩;have hq:rZ c (n + 1) 0 (c ::r)=false:=(by rw [rZ]; unfold GU; rw [hv]; simp);rw [hn,hq];simp
   ·simp only [if_true];rw [Jm f]
theorem Fz: ∀(f:Nat) (l:List kM) (v:List ByteArray),oI f l=some v->v.length<=l.length
 | 0,l,v,h=>by rw [oI] at h; injection h with h; subst h; exact Nat.zero_le _
 | f + 1,[],v,h=>by rw [oI] at h; injection h with h; subst h; exact Nat.zero_le _
 | f + 1,c ::r,v,h=>by
   rw [oI] at h;split at h
   ·split at h
    ·cases h
    ·cases hq:oI f r with
     | none=>rw [hq] at h; cases h
     | some q=>rw [hq] at h; injection h with h; subst h; have:=Fz f r q hq; simp; omega
   ·rename_i hs;split at h
    ·cases h
    ·rename_i hd;split at h
     ·cases hq:oI f ((c ::r).drop c.sz.toNat) with
      | none=>rw [hq] at h; cases h
      | some q=>rw [hq] at h; injection h with h; subst h;have:=Fz f _ q hq;simp at hd this;have h1:1<=c.sz.toNat:=(by omega);simp; omega
     ·cases h
end Md
namespace Md
def nA (nT:Int):Option rU->List rU->Bool
 | _,[]=>true
 | p,s ::r=>if decide (s.th < 0) || decide (nT<=s.th) then false else
   match p with
   | none=>if s.st != 0 then false else nA nT (some s) r
   | some q=>if q.th != s.th then (if s.st != 0 || decide (s.th < q.th) then false else nA nT (some s) r) else (if s.st != q.st + 1 then false else nA nT (some s) r)
theorem Hl (nT:Int): ∀(l:List rU) (q:rU),0<=q.th->nA nT (some q) l=vsA nT q.th (q.st + 1) l
 | [],_,_=>rfl
 | s ::r,q,h=>by
   rw [nA,vsA];by_cases h1:s.th < q.th
   ·by_cases h0:s.th < 0
    ·simp [h1,h0]
    ·by_cases h2:nT<=s.th
     ·simp [h1,h2]
     ·have hne:(q.th != s.th)=true:=(by simp [bne]; omega);simp [h1,h0,h2,hne]
   ·have h0: ¬ s.th < 0:=by omega
    by_cases h2:nT<=s.th
    ·simp [h2]
    ·by_cases h3:q.th < s.th
     ·have hne:(q.th != s.th)=true:=(by simp [bne]; omega);have ih:=Hl nT r s (by omega);by_cases h4:s.st=0
      ·rw [h4] at ih;simp [h1,h0,h2,h3,hne,h4,ih]
      ·simp [h1,h0,h2,h3,hne,h4]
     ·have he:q.th=s.th:=(by omega);have hne:(q.th != s.th)=false:=(by simp [bne,he]);have ih:=Hl nT r s (by omega);by_cases h4:s.st=q.st + 1
      ·rw [h4] at ih;simp [h1,h0,h2,h3,hne,h4,ih,he]
      ·simp [h1,h0,h2,h3,hne,h4]
theorem XE (nT:Int): ∀(l:List rU),nA nT none l=vsA nT 0 0 l
 | []=>rfl
 | s ::r=>by
   rw [nA,vsA];by_cases h0:s.th < 0
   ·simp [h0]
   ·by_cases h2:nT<=s.th
    ·simp [h2]
    ·have ih:=Hl nT r s (by omega);by_cases h3:0 < s.th
     ·by_cases h4:s.st=0
      ·rw [h4] at ih;simp [h0,h2,h3,h4,ih]
      ·simp [h0,h2,h3,h4]
     ·have he:s.th=0:=(by omega);by_cases h4:s.st=0
      ·rw [h4,he] at ih;simp [h2,he,h4,ih]
      ·simp [h2,he,h4]
end Md
namespace Md
def FX (W:Wo) (i:aQ):Bool:=if i.op == 5 || i.op == 10 then true else oG W 0 i
def yG (W:Wo) (th n regs:Int) (l:List aQ) (k:Int) (i:aQ):Bool:=
 ((decide (1<=i.op) && decide (i.op<=28)) && ((i.op == 28) == (k == n - 1))) && ((FX W i && qx l (l.length + 1) k) && (uF W th i && (((!(i.op == 5) || bT i.a n) && (!(i.op == 10) || bT i.b n)) && (dx i).all (fun r=>bT r regs))))
def Df (W:Wo) (th n regs:Int) (l:List aQ):Int->List aQ->Bool
 | _,[]=>true
 | k,i ::r=>yG W th n regs l k i && Df W th n regs l (k + 1) r
def UW (W:Wo) (th:Int) (t:qJ):Bool:=
 if decide (t.regs < 0) || (decide (32 < t.regs) || ((t.is.length:Int) == 0)) then false else Df W th t.is.length t.regs t.is 0 t.is
theorem ap0 (W:Wo) (n:Int) (i:aQ):oG W n i=(FX W i && ((!(i.op == 5) || bT i.a n) && (!(i.op == 10) || bT i.b n))):=by
 unfold FX;by_cases h5:i.op=5
 ·simp [oG,h5]
 ·by_cases h10:i.op=10
  ·simp [oG,h10]
  ·have a:(i.op == 5)=false:=by simp [h5]
   have b:(i.op == 10)=false:=by simp [h10]
   have e:oG W n i=oG W 0 i:=by unfold oG;simp only [a,b,Bool.false_eq_true,if_false]
   rw [e,a,b];simp
theorem aq9 (W:Wo) (th n regs:Int) (l:List aQ) (k:Int) (i:aQ):yG W th n regs l k i=(uZ W th n regs k i && qx l (l.length + 1) k):=by
 unfold yG uZ;rw [ap0];cases (decide (1<=i.op) && decide (i.op<=28)) <;> cases ((i.op == 28) == (k == n - 1)) <;> cases FX W i <;> cases qx l (l.length + 1) k <;> cases uF W th i <;> cases (dx i).all (fun r=>bT r regs) <;> cases ((!(i.op == 5) || bT i.a n) && (!(i.op == 10) || bT i.b n)) <;> rfl
theorem QB (W:Wo) (th n regs:Int) (l:List aQ): ∀(r:List aQ) (k:Nat),Df W th n regs l (k:Nat) r=(qW W th n regs (k:Nat) r && (List.range r.length).all (fun q=>qx l (l.length + 1) ((k + q:Nat):Int)))
 | [],_=>rfl
 | i ::r,k=>by
   have ih:=QB W th n regs l r (k + 1);rw [Df,qW,aq9];have e:((k:Nat):Int) + 1=((k + 1:Nat):Int):=by omega
   rw [e,ih,List.length_cons,List.range_succ_eq_map,List.all_cons,List.all_map];have e2:((fun q=>qx l (l.length + 1) ((k + q:Nat):Int)) ∘ Nat.succ)=fun q=>qx l (l.length + 1) ((k + 1 + q:Nat):Int):=by funext q;show qx l (l.length + 1) ((k + (q + 1):Nat):Int)=_;rw [show k + (q + 1)=k + 1 + q by omega]
   rw [e2,Nat.add_zero];cases uZ W th n regs (k:Nat) i <;> cases qx l (l.length + 1) (k:Nat) <;> simp
theorem ar0 (W:Wo) (th:Int) (t:qJ):UW W th t=Cy W th t:=by
 unfold UW Cy;split
 ·rfl
 ·have:=QB W th t.is.length t.regs t.is t.is 0;simp only [Nat.zero_add] at this;exact this
def DU:List ByteArray->List ByteArray->Bool
 | _,[]=>true
 | pre,x ::r=>(Tk.iO x.toList && !decide (0<=fC pre x)) && DU (pre++[x]) r
theorem Ux: ∀(l:List ByteArray) (nm:ByteArray) (k:Int),0<=oF l nm k-> ∃s ∈ l,s.toList=nm.toList
 | [],_,_,h=>by rw [oF] at h; exact absurd h (by decide)
 | s ::r,nm,k,h=>by
   rw [oF] at h;split at h
   ·rename_i hs; exact ⟨s,List.mem_cons_self,by simpa using hs⟩
   ·obtain ⟨x,hx,e⟩:=Ux r nm (k + 1) h;exact ⟨x,List.mem_cons_of_mem _ hx,e⟩
theorem an3 (l:List ByteArray) (x:ByteArray):decide (0<=fC l x)=(l.map (·.toList)).contains x.toList:=by
 rw [Bool.eq_iff_iff,decide_eq_true_iff,List.contains_iff_mem,List.mem_map];constructor
 ·exact Ux l x 0
 ·exact fun h=>JY l x 0 (by decide) h
theorem Vi: ∀(l pre:List ByteArray),DU pre l=DT (pre.map (·.toList)) l
 | [],_=>rfl
 | x ::r,pre=>by rw [DU,DT,Vi r,an3,List.map_append];rfl
end Md
end Go.Proofs.YtgjmahnblcajbaaGreatDoor
