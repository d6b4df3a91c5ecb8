/- Contract of the maker's decls: nine shaped declarations in a new block. And what hangs on it. -/
import Derived.Test.YtfbbaiejbjdfbaaGreatDoorGPA
import Derived.Test.YtfbbaiejbjdfbaaGreatDoorGML
import Derived.Test.YtfbbaiejbjdfbaaGreatDoorGPC
import Derived.Test.YtfbbaiejbjdfbaaGreatDoorGMA
set_option linter.unusedSimpArgs false
set_option linter.unusedVariables false
set_option maxHeartbeats 40000000
set_option maxRecDepth 1000000
namespace Go.Proofs.YtfbbaiejbjdfbaaGreatDoor
open Go.RowKit
open Md
def jg:List De:=[⟨1,0,⟨#[120]⟩,0,0,⟨#[]⟩⟩,⟨1,0,⟨#[121]⟩,0,1,⟨#[]⟩⟩,⟨2,0,⟨#[118]⟩,0,0,⟨#[]⟩⟩,⟨1,0,⟨#[113]⟩,2,0,⟨#[]⟩⟩,⟨3,0,⟨#[109]⟩,0,0,⟨#[]⟩⟩,⟨3,0,⟨#[110]⟩,0,0,⟨#[]⟩⟩,⟨4,0,⟨#[114]⟩,0,0,⟨#[]⟩⟩,⟨5,0,⟨#[99]⟩,0,0,⟨#[109]⟩⟩,⟨6,0,⟨#[102]⟩,0,0,⟨#[]⟩⟩]
theorem aj6: ∀d ∈ jg,d.Ok∧jd d=true:=by
 intro d hd;simp only [jg,List.mem_cons,List.not_mem_nil,or_false] at hd;rcases hd with rfl | rfl | rfl | rfl | rfl | rfl | rfl | rfl | rfl <;> exact ⟨⟨by unfold bS; decide,by unfold bS; decide,by unfold maxLen; decide,by unfold bS; decide,by unfold bS; decide,by unfold maxLen; decide⟩,by rfl⟩
def aI8 (w:World) (e:Ending) (w':World):Prop:= ∃g,e= .returned (.slice (some ⟨g,0,none⟩) 9 9)∧w.heap.size<=g∧w'.heap[g]? =some (.cells (jg.flatMap KY).toArray 93 (0,0))∧Below w.heap.size w w'
theorem O6 (w:World):Calls Tryz.prog 12 #[] w (aI8 w):=by
 go_enter Tryz.func12,Tryz.ntmps12;go_wp2;go_ret;refine ⟨_,rfl,?_,?_,?_⟩
 ·exact Nat.le_refl _
 ·exact heap_alloc_new _ _
 ·exact ak _ _
theorem Grow.made {α:Type} {f:α->List Value} {m:Nat} {ty:TypeId} {B:Nat} {W:World} {g n:Nat} {xs:List α} (hf: ∀x,(f x).length=m) (h:W.heap[g]? =some (.cells (xs.flatMap f).toArray ty (0,0))) (hB:B<=g) (hn:xs.length=n) (hm:n<=maxLen):Grow f m (fun _ _=>True) ty B W (.slice (some ⟨g,0,none⟩) n n) xs:=by
 subst hn;have hl:=um hf xs;refine ⟨⟨hl,.inr ⟨g,xs.length,_,rfl,hB,h,Nat.le_refl _,hm,by simpa using hl,?_⟩⟩,fun x hx _ _=>trivial⟩;exact List.take_of_length_le (by simpa using Nat.le_of_eq hl)
section
variable {p p':Pr} (hm:mean p'=mean p)
include hm
end
namespace Md
structure qB where
 nm:ByteArray
 ix:Int
 sz:Int
 I6:Bool
 init:Int
structure uT where
 nm:ByteArray
 rw:Bool
structure C9 where
 nm:ByteArray
 mx:Int
structure wZ where
 th:Int
 st:Int
 ln:Int
structure Wo where
 cs:List qB
 ls:List uT
 ns:List C9
 fs:List ByteArray
 ts:List ByteArray
 ss:List wZ
structure aX where
 op:Int
 a:Int
 b:Int
 c:Int
 n:Int
 st:Int
structure xg where
 regs:Int
 is:List aX
def jK (x:qB):List Value:=[.string x.nm,.int .i64 x.ix,.int .i64 x.sz,.bool x.I6,.int .i64 x.init]
def ku (x:uT):List Value:=[.string x.nm,.bool x.rw]
def qE (x:C9):List Value:=[.string x.nm,.int .i64 x.mx]
def iU (x:ByteArray):List Value:=[.string x]
def oV (x:wZ):List Value:=[.int .i64 x.th,.int .i64 x.st,.int .i64 x.ln]
def jE (x:aX):List Value:=[.int .i64 x.op,.int .i64 x.a,.int .i64 x.b,.int .i64 x.c,.int .i64 x.n,.int .i64 x.st]
def dK {α:Type} (f:α->List Value) (m:Nat) (w:World) (B:Nat):List α->Option Addr->Nat->Prop
 | [],_,_=>True
 | x ::r,ao,k=>(∃b off,ao=some ⟨b,off,none⟩∧b < B∧ ∀(j:Nat) (u:Value),(f x)[j]? =some u->w.cell? ⟨b,off + k * m + j,none⟩=some u)∧dK f m w B r ao (k + 1)
def pV:List ByteArray->ByteArray->Int->Int
 | [],_,_=> -1
 | s ::r,nm,k=>if s.toList == nm.toList then k else pV r nm (k + 1)
def dV (l:List ByteArray) (nm:ByteArray):Int:=pV l nm 0
def sH (d:De):Nat->Nat->List qB
 | 0,_=>[]
 | n + 1,k=>⟨d.nm,k,d.size,d.kind == 2,d.init⟩ ::sH d n (k + 1)
def EX (d:De):List qB:=sH d (max d.size 1).toNat 0
def kZ (W:Wo) (d:De):Wo:=
 if d.kind == 1 || d.kind == 2 then {W with cs:=W.cs++EX d} else if d.kind == 3 || d.kind == 4 then {W with ls:=W.ls++[⟨d.nm,d.kind == 4⟩]} else
 if d.kind == 5 then {W with ns:=W.ns++[⟨d.nm,dV (W.ls.map (·.nm)) d.on⟩]} else {W with fs:=W.fs++[d.nm]}
def aR:aH->Nat
 | .nil=>0
 | .cons _ b e r=>1 + aR b + aR e + aR r
def tY (i:Int):aH->Nat->List wZ
 | .nil,_=>[]
 | .cons h b e r,n=>⟨i,n,h.line⟩ ::(tY i b (n + 1)++tY i e (n + 1 + aR b)++tY i r (n + 1 + aR b + aR e))
def zB (W:Wo) (i:Nat):List Th->Wo
 | []=>W
 | t ::r=>zB {W with ts:=W.ts++[t.nm],ss:=W.ss++tY i t.body 0} (i + 1) r
def oW:Wo:=⟨[],[],[],[],[],[]⟩
def fF (p:Pr):Wo:=zB (p.ds.foldl kZ oW) 0 p.ts
def Wo.cell (W:Wo) (nm:ByteArray):Int:=dV (W.cs.map (·.nm)) nm
def Wo.lock (W:Wo) (nm:ByteArray):Int:=dV (W.ls.map (·.nm)) nm
def Wo.cond (W:Wo) (nm:ByteArray):Int:=dV (W.ns.map (·.nm)) nm
def Wo.size (W:Wo) (nm:ByteArray):Int:=((W.cs[(W.cell nm).toNat]?).map (·.sz)).getD 0
def EC (W:Wo) (op:Int) (nm:ByteArray) (d st:Int):aX:=
 if op == 3 then ⟨7,d,W.cell nm,d,W.size nm,st⟩ else if op == 4 || op == 5 then ⟨3,d,d,0,op,st⟩ else ⟨4,d,d,d + 1,op,st⟩
def wQ (W:Wo) (lc:List ByteArray) (op n:Int) (nm:ByteArray) (d st:Int):aX:=
 if op == 1 then ⟨1,d,0,0,n,st⟩ else if decide (0<=dV lc nm) then ⟨2,d,dV lc nm,0,0,st⟩ else ⟨6,d,W.cell nm,0,0,st⟩
def zA (W:Wo) (lc:List ByteArray) (st:Int):aZ->Int->List aX
 | .nil,_=>[]
 | .cons op n nm kids rest,d=>(if op == 1 || op == 2 then [wQ W lc op n nm d st] else zA W lc st kids d++[EC W op nm d st])++zA W lc st rest (d + 1)
def jO (W:Wo) (lc:List ByteArray) (st:Int) (op n:Int) (nm:ByteArray) (kids:aZ) (d:Int):List aX:=
 if op == 1 || op == 2 then [wQ W lc op n nm d st] else zA W lc st kids d++[EC W op nm d st]
def gy (W:Wo) (lc:List ByteArray) (st:Int) (h:dL) (d:Int):List aX:=jO W lc st h.bY h.xn h.bW h.aI d
def zN (W:Wo) (lc:List ByteArray) (st:Int) (h:dL):List aX:=
 match h.idx with
 | .nil=>gy W lc st h lc.length++[if decide (0<=dV lc h.nm) then ⟨2,dV lc h.nm,lc.length,0,0,st⟩ else ⟨8,W.cell h.nm,lc.length,0,0,st⟩]
 | .cons op n nm kids _=>jO W lc st op n nm kids lc.length++gy W lc st h (lc.length + 1)++[⟨9,W.cell h.nm,lc.length + 1,lc.length,W.size h.nm,st⟩]
def xO (W:Wo) (h:dL):Int:=if h.op == 7 || h.op == 8 then 0 else W.lock h.nm
def rD (op:Int):Int:=if op == 4 then 11 else if op == 5 then 13 else if op == 6 then 15 else if op == 7 then 17 else 19
def oI (W:Wo) (lc:List ByteArray) (st:Int) (h:dL):List aX:=
 if h.op == 1 then zN W lc st h else if h.op == 9 then [⟨21,W.cond h.nm,0,0,0,st⟩] else if h.op == 10 then [⟨22,W.cond h.nm,0,0,0,st⟩] else if h.op == 11 then [⟨23,W.cond h.nm,0,0,0,st⟩] else
 if h.op == 12 then [⟨24,dV W.ts h.nm,0,0,0,st⟩] else if h.op == 13 then [⟨25,dV W.ts h.nm,0,0,0,st⟩] else
 if h.op == 14 then gy W lc st h lc.length++[⟨26,dV W.fs h.nm,lc.length,0,0,st⟩] else if h.op == 15 then [⟨27,dV lc h.nm,dV W.fs h.arg,0,0,st⟩] else []
def yL (W:Wo) (lc:List ByteArray) (st:Int) (h:dL) (X B E:List aX) (ne:Bool) (pos:Nat):List aX:=
 if h.op == 2 then
  (if ne then X++[⟨10,lc.length,((pos + X.length + 1 + B.length:Nat):Int),0,0,st⟩]++B
   else X++[⟨10,lc.length,((pos + X.length + 1 + B.length + 1:Nat):Int),0,0,st⟩]++B++[⟨5,((pos + X.length + 1 + B.length + 1 + E.length:Nat):Int),0,0,0,st⟩]++E)
 else if h.op == 3 then X++[⟨10,lc.length,((pos + X.length + 1 + B.length + 1:Nat):Int),0,0,st⟩]++B++[⟨5,(pos:Int),0,0,0,st⟩]
 else if decide (4<=h.op) && decide (h.op<=8) then [⟨rD h.op,xO W h,0,0,0,st⟩]++B++[⟨rD h.op + 1,xO W h,0,0,0,st⟩]
 else oI W lc st h
def aH.none:aH->Bool
 | .nil=>true
 | _=>false
def jU (h:dL) (X:List aX):Nat:=if h.op == 2 || h.op == 3 then X.length + 1 else 1
def gU (W:Wo) (lc:List ByteArray):aH->Nat->Nat->List aX
 | .nil,_,_=>[]
 | .cons h b e r,nx,pos=>
   yL W lc nx h (gy W lc nx h lc.length) (gU W lc b (nx + 1) (pos + jU h (gy W lc nx h lc.length)))
      (gU W lc e (nx + 1 + aR b) (pos + jU h (gy W lc nx h lc.length) + (gU W lc b (nx + 1) (pos + jU h (gy W lc nx h lc.length))).length + 1)) e.none pos++
    gU W lc r (nx + 1 + aR b + aR e) (pos +
     (yL W lc nx h (gy W lc nx h lc.length) (gU W lc b (nx + 1) (pos + jU h (gy W lc nx h lc.length)))
     (gU W lc e (nx + 1 + aR b) (pos + jU h (gy W lc nx h lc.length) + (gU W lc b (nx + 1) (pos + jU h (gy W lc nx h lc.length))).length + 1)) e.none pos).length)
def dI (i:aX):List Int:=
 if i.op == 1 || i.op == 6 || i.op == 10 || i.op == 27 then [i.a] else if i.op == 2 || i.op == 3 then [i.a,i.b] else if i.op == 4 then [i.a,i.b,i.c] else if i.op == 7 then [i.a,i.c] else
 if i.op == 8 || i.op == 26 then [i.b] else if i.op == 9 then [i.b,i.c] else []
def Dv:List Int->Int->Int
 | [],n=>n
 | r ::l,n=>Dv l (max n (r + 1))
def qI:List aX->Int->Int
 | [],n=>n
 | i ::l,n=>qI l (Dv (dI i) n)
def coT (W:Wo) (t:Th) (nx:Nat):xg:=
 ⟨qI (gU W t.bM t.body nx 0++[⟨28,0,0,0,0,-1⟩]) t.bM.length,gU W t.bM t.body nx 0++[⟨28,0,0,0,0,-1⟩]⟩
def oQ (W:Wo):List Th->Nat->List xg
 | [],_=>[]
 | t ::r,nx=>coT W t nx ::oQ W r (nx + aR t.body)
end Md
namespace Md
theorem LH: ∀(l:List ByteArray) (nm:ByteArray) (k:Int),pV l nm k= -1∨(k<=pV l nm k∧pV l nm k < k + l.length)
 | [],_,_=> .inl rfl
 | s ::r,nm,k=>by
   rw [pV];split
   ·right; simp only [List.length_cons]; omega
   ·rcases LH r nm (k + 1) with h | h
    ·exact .inl h
    ·right; simp only [List.length_cons]; omega
theorem N7: ∀(l:List ByteArray) (nm:ByteArray) (k:Int),0<=k->(∃s ∈ l,s.toList=nm.toList)->0<=pV l nm k
 | [],_,_,_,⟨s,h,_⟩=>by cases h
 | s ::r,nm,k,hk,⟨x,hx,e⟩=>by
   rw [pV];split
   ·exact hk
   ·rename_i h;rcases List.mem_cons.1 hx with rfl | hx
    ·rw [e] at h; simp at h
    ·exact N7 r nm (k + 1) (by omega) ⟨x,hx,e⟩
theorem XF {l:List ByteArray} {nm:ByteArray} (h:0<=dV l nm):(dV l nm).toNat < l.length:=by
 unfold dV at *;rcases LH l nm 0 with h1 | h1
 ·omega
 ·omega
theorem N8 (l:List ByteArray) (nm:ByteArray): -1<=dV l nm∧dV l nm < max l.length 1:=by
 unfold dV;rcases LH l nm 0 with h1 | h1 <;> omega
def Jr (W:Wo):aZ->Bool
 | .nil=>true
 | .cons op _ nm kids rest=>((!(op == 3) || decide (0<=W.cell nm)) && Jr W kids) && Jr W rest
def zS (W:Wo) (op:Int) (nm:ByteArray) (kids:aZ):Bool:=(!(op == 3) || decide (0<=W.cell nm)) && Jr W kids
def Hg (W:Wo) (h:dL):Bool:=zS W h.bY h.bW h.aI && (Jr W h.idx && (h.idx.len == 0 || !(h.op == 1) || decide (0<=W.cell h.nm)))
def aH.Ev (Q:dL->Prop):aH->Prop
 | .nil=>True
 | .cons h b e r=>Q h∧b.Ev Q∧e.Ev Q∧r.Ev Q
theorem aH.Ev.imp {Q R:dL->Prop} (f: ∀h,Q h->R h): ∀ {l:aH},l.Ev Q->l.Ev R
 | .nil,_=>trivial
 | .cons _ _ _ _,h=>⟨f _ h.1,h.2.1.imp f,h.2.2.1.imp f,h.2.2.2.imp f⟩
theorem aH.Ev.and {Q R:dL->Prop} : ∀ {l:aH},l.Ev Q->l.Ev R->l.Ev (fun h=>Q h∧R h)
 | .nil,_,_=>trivial
 | .cons _ _ _ _,h,k=>⟨⟨h.1,k.1⟩,h.2.1.and k.2.1,h.2.2.1.and k.2.2.1,h.2.2.2.and k.2.2.2⟩
end Md
namespace Md
theorem Il (p:Pr) (j:Nat) (tn gI:ByteArray): ∀(l ar:aH) (f g:List (List UInt8)),(gK p j tn gI l ar f g).err=0->l.Ev (fun h=> ∃ar f g,iE p j tn gI ar f g h=0)
 | .nil,_,_,_,_=>trivial
 | .cons h b e r,ar,f,g,h0=>by
   rw [gK] at h0;split at h0
   ·exact absurd (show (2:Int)=0 from h0) (by decide)
   ·split at h0
    ·rename_i h1; rw [show iE p j tn gI ar (mem f) (mem g) h=0 from h0] at h1; exact absurd h1 (by decide)
    ·rename_i h1;split at h0
     ·rename_i h2; rw [h0] at h2; exact absurd h2 (by decide)
     ·rename_i h2;split at h0
      ·rename_i h3; rw [h0] at h3; exact absurd h3 (by decide)
      ·rename_i h3;refine ⟨⟨ar,mem f,mem g,by simpa using h1⟩,Il p j tn gI b _ _ _ (by simpa using h2),Il p j tn gI e _ _ _ (by simpa using h3),Il p j tn gI r _ _ _ h0⟩
theorem Kr (p:Pr) (gI:ByteArray): ∀(l:List Th) (j:Nat) (f g:List (List UInt8)),(ji p gI l j f g).err=0-> ∀t ∈ l,∃j:Nat,t.body.Ev (fun h=> ∃ar f g,iE p j t.nm gI ar f g h=0)
 | [],_,_,_,_=>fun t h=>by cases h
 | t ::r,j,f,g,h0=>by
   rw [ji] at h0;split at h0
   ·rename_i h2; rw [h0] at h2; exact absurd h2 (by decide)
   ·rename_i h2;intro x hx;rcases List.mem_cons.1 hx with rfl | hx
    ·exact ⟨j,Il p j _ gI _ _ _ _ (by simpa using h2)⟩
    ·exact Kr p gI r _ _ _ h0 x hx
theorem RQ: ∀(l:List Th) (W:Wo) (i:Nat),(zB W i l).cs=W.cs∧(zB W i l).ls=W.ls∧(zB W i l).ns=W.ns∧(zB W i l).fs=W.fs
 | [],_,_=>⟨rfl,rfl,rfl,rfl⟩
 | t ::r,W,i=>by rw [zB]; exact RQ r _ _
theorem Us {d:De} (hd:d.kind=1): ∀ {l:List De} (W:Wo),(d ∈ l∨ ∃c ∈ W.cs,c.nm=d.nm)-> ∃c ∈ (l.foldl kZ W).cs,c.nm=d.nm
 | [],W,h=>by
   rcases h with h | h
   ·cases h
   ·exact h
 | x ::r,W,h=>by
   rw [List.foldl_cons];refine Us hd (kZ W x) ?_;rcases h with h | ⟨c,hc,e⟩
   ·rcases List.mem_cons.1 h with rfl | h
    ·right;refine ⟨⟨d.nm,(0:Nat),d.size,d.kind == 2,d.init⟩,?_,rfl⟩;have hk:(d.kind == 1 || d.kind == 2)=true:=(by rw [hd]; rfl);unfold kZ;rw [if_pos hk];show _ ∈ W.cs++EX d;refine List.mem_append_right _ ?_;unfold EX;obtain ⟨n,hn⟩: ∃n,(max d.size 1).toNat=n + 1:=⟨(max d.size 1).toNat - 1,by omega⟩;rw [hn,sH]; exact List.mem_cons_self
    ·exact .inl h
   ·right;refine ⟨c,?_,e⟩;unfold kZ;split
    ·exact List.mem_append_left _ hc
    ·split
     ·exact hc
     ·split <;> exact hc
theorem H8 {p:Pr} {i:Int} {nm:ByteArray} (h:mean p i nm=3):0<=(fF p).cell nm:=by
 unfold mean at h;split at h
 ·exact absurd h (by decide)
 ·unfold oZ at h;cases hf:p.ds.find? (fun d=>d.nm.toList == nm.toList) with
  | none=>rw [hf] at h; simp at h; unfold qX at h; split at h <;> exact absurd h (by decide)
  | some d=>
    rw [hf] at h;simp only [Option.map_some,Option.getD_some] at h;have hd:d.kind=1:=by
     unfold eH at h;split at h
     ·rename_i hk; simpa using hk
     ·split at h
      ·exact absurd h (by decide)
      ·split at h
       ·exact absurd h (by decide)
       ·split at h
        ·exact absurd h (by decide)
        ·split at h
         ·exact absurd h (by decide)
         ·split at h <;> exact absurd h (by decide)
    have hm:=List.mem_of_find?_eq_some hf;have hn:=List.find?_some hf;obtain ⟨c,hc,e⟩:=Us hd oW (.inl hm);unfold Wo.cell dV fF;refine N7 _ _ _ (by decide) ⟨c.nm,List.mem_map.2 ⟨c,?_,rfl⟩,?_⟩
    ·rw [(RQ _ _ _).1]; exact hc
    ·rw [e]; simpa using hn
theorem Na {p:Pr} {i:Int} : ∀ {l:aZ},rJ p i l=0->Jr (fF p) l=true
 | .nil,_=>rfl
 | .cons op n nm kids rest,h=>by
   rw [rJ] at h;split at h
   ·rename_i h1;split at h
    ·rename_i h2;rw [Jr,Na (by simpa using h2),Na h];have h1:pW p i op nm=0:=(by simpa using h1);unfold pW at h1;by_cases h3:op=3
     ·subst h3;have:=uw (show cB (mean p i nm) [3]=0 from h1);simp [H8 (this)]
     ·simp [h3]
    ·rename_i h2; rw [h] at h2; exact absurd rfl h2
   ·rename_i h1; rw [h] at h1; exact absurd rfl h1
theorem La {p:Pr} {i op n:Int} {nm:ByteArray} {kids:aZ} (h:jT p i op n nm kids=0):zS (fF p) op nm kids=true:=by
 unfold jT at h;split at h
 ·split at h
  ·exact absurd h (by decide)
  ·unfold xH at h;split at h
   ·rename_i h1;have h1:pW p i op nm=0:=(by simpa using h1);unfold zS;rw [Na h];unfold pW at h1;by_cases h3:op=3
    ·subst h3;have:=uw (show cB (mean p i nm) [3]=0 from h1);simp [H8 (this)]
    ·simp [h3]
   ·rename_i h1; rw [h] at h1; exact absurd rfl h1
 ·exact absurd h (by decide)
theorem len_nil {l:aZ} (h:l.len=0):l= .nil:=by
 cases l with
 | nil=>rfl
 | cons=>simp [aZ.len] at h
theorem ab7 {W:Wo} {op n:Int} {nm:ByteArray} {kids:aZ} (h:sF op n nm kids.len=true):zS W op nm kids=true:=by
 unfold sF at h;simp only [Bool.and_eq_true,beq_iff_eq] at h;obtain ⟨⟨⟨h1,-⟩,-⟩,h2⟩:=h;rw [len_nil h2,h1]; rfl
theorem Yi {h:dL} {bl el:Nat} (hs:mQ h bl el=true):h.idx.len<=1∧(h.op≠1->h.idx= .nil)∧(fX h.op=false->sF h.bY h.xn h.bW h.aI.len=true)∧1<=h.op∧h.op<=15:=by
 unfold mQ at hs;simp only [Bool.and_eq_true] at hs;obtain ⟨⟨⟨h1,-⟩,⟨h2,h3⟩,-⟩,h4,-⟩:=hs;unfold fO at h1;simp only [Bool.and_eq_true,decide_eq_true_eq] at h1 h2;refine ⟨h2,fun hne=> ?_,fun hx=> ?_,h1⟩
 ·have hl:h.idx.len≠1:=fun e=>by rw [e] at h3;unfold fI at h3;simp at h3; exact hne h3
  exact len_nil (by omega)
 ·rw [hx] at h4; simpa using h4
theorem aH9 {p:Pr} {j:Nat} {tn gI:ByteArray} {ar:aH} {f g:List UInt8->Bool} {h:dL} {bl el:Nat} (hs:mQ h bl el=true) (h0:iE p j tn gI ar f g h=0):Hg (fF p) h=true:=by
 obtain ⟨hl,hi,hx,ho1,ho2⟩:=Yi hs;have key: ∀(he:zS (fF p) h.bY h.bW h.aI=true),h.op≠1->Hg (fF p) h=true:=fun he hne=>by unfold Hg; rw [he,hi hne]; rfl
 by_cases h1:h.op=1
 ·unfold iE at h0;rw [h1,if_pos (by rfl)] at h0;unfold CB at h0;split at h0
  ·rename_i hz;have hz:h.idx.len=0:=by simpa using hz
   have:=La (nN h0 _ (List.mem_cons_of_mem _ List.mem_cons_self));unfold Hg; rw [this,len_nil hz]; rfl
  ·rename_i hz;have hz:h.idx.len≠0:=by simpa using hz
   have e1:=uw (nN h0 _ List.mem_cons_self);have e2:=nN h0 _ (List.mem_cons_of_mem _ List.mem_cons_self);have e3:=La (nN h0 _ (List.mem_cons_of_mem _ (List.mem_cons_of_mem _ List.mem_cons_self)));have ec:=H8 (e1);unfold Hg;cases hidx:h.idx with
   | nil=>rw [hidx] at hz; exact absurd rfl hz
   | cons op n nm kids r=>rw [hidx] at e2 hl;have hr:r= .nil:=len_nil (by simp only [aZ.len] at hl; omega);have:=La (show jT p j op n nm kids=0 from e2);unfold zS at this;rw [e3,hr,Jr,this];simp [Jr,ec]
 ·have hne:=h1;by_cases hf:fX h.op=true
  ·refine key (La (p:=p) (i:=j) (n:=h.xn) ?_) hne;unfold fX at hf;simp only [Bool.or_eq_true,beq_iff_eq] at hf;rcases hf with (hf | hf) | (hf | hf)
   ·exact absurd hf hne
   ·unfold iE at h0; rw [hf] at h0; exact h0
   ·unfold iE at h0; rw [hf] at h0; exact h0
   ·unfold iE at h0; rw [hf] at h0;exact nN (show dN _=0 from h0) _ (by simp)
  ·exact key (ab7 (hx (by simpa using hf))) hne
theorem Fh: ∀ {l:aH},dW l=true->l.Ev (fun h=> ∃bl el,mQ h bl el=true)
 | .nil,_=>trivial
 | .cons h b e r,hs=>by rw [dW] at hs;simp only [Bool.and_eq_true] at hs;exact ⟨⟨_,_,hs.1.1⟩,Fh hs.1.2.1,Fh hs.1.2.2,Fh hs.2⟩
theorem qJ {p:Pr} (h:(jr p).1=0):qz p=true∧(mW p.ds [] 0 0 0 0).1=0∧p.ts.length<=4∧(lW p).1=0∧rG p.ts 0<=60∧(ji p (kC p) p.ts 0 [] []).err=0:=by
 unfold jr at h;split at h
 ·exact absurd h (by decide)
 ·rename_i h1;split at h
  ·rename_i h2; rw [h] at h2; exact absurd h2 (by decide)
  ·rename_i h2;split at h
   ·exact absurd h (by decide)
   ·rename_i h3;split at h
    ·rename_i h4; rw [h] at h4; exact absurd h4 (by decide)
    ·rename_i h4;split at h
     ·exact absurd h (by decide)
     ·rename_i h5;simp only [decide_eq_true_eq] at h3 h5;exact ⟨by simpa using h1,by simpa using h2,by omega,by simpa using h4,by omega,h⟩
theorem okP {p:Pr} (h:(jr p).1=0): ∀t ∈ p.ts,t.body.Ev (fun h=>Hg (fF p) h=true):=by
 obtain ⟨h1,-,-,-,-,h6⟩:=qJ h;intro t ht;obtain ⟨j,hj⟩:=Kr p _ _ _ _ _ h6 t ht;unfold qz at h1;simp only [Bool.and_eq_true] at h1;have h2:=List.all_eq_true.1 h1.1.2 t ht;unfold pI at h2;simp only [Bool.and_eq_true] at h2;refine (hj.and (Fh h2.2)).imp fun x hx=> ?_;obtain ⟨⟨ar,f,g,h0⟩,bl,el,hs⟩:=hx;exact aH9 hs h0
end Md
def uj:ByteArray:=⟨#[109,97,105,110]⟩
def Tt:ByteArray:=⟨#[116,49]⟩
def Tv:ByteArray:=⟨#[116,50]⟩
def Tw:ByteArray:=⟨#[116,51]⟩
def gV:List ByteArray:=[⟨#[97]⟩,⟨#[98]⟩]
structure nH (p:Pr):Prop where
 ds:p.ds=jg
 ts: ∃n,n<=4∧1<=n∧p.ts.map (·.nm)=[uj,Tt,Tv,Tw].take n
 lc: ∀t ∈ p.ts,t.bM=gV
theorem Ii: ∀(a b:aH),(a.app b).len=a.len + b.len
 | .nil,b=>by simp [aH.app,aH.len]
 | .cons _ _ _ r,b=>by rw [aH.app,aH.len,aH.len,Ii r b]; omega
namespace Md
def dh:aZ->Nat
 | .nil=>0
 | .cons _ _ _ kids rest=>1 + dh kids + dh rest
def fG (h:dL):Nat:=3 + dh h.aI + dh h.idx
def kJ:aH->Nat
 | .nil=>0
 | .cons h b e r=>fG h + kJ b + kJ e + kJ r
theorem tq: ∀l:aH,aR l<=kJ l
 | .nil=>Nat.le_refl _
 | .cons h b e r=>by have h1:=tq b; have h2:=tq e; have h3:=tq r;rw [aR,kJ]; unfold fG; omega
theorem Nk (W:Wo) (lc:List ByteArray) (st:Int): ∀(l:aZ) (d:Int),(zA W lc st l d).length<=dh l
 | .nil,_=>Nat.le_refl _
 | .cons op n nm kids rest,d=>by
   have h1:=Nk W lc st kids d;have h2:=Nk W lc st rest (d + 1);rw [zA,dh,List.length_append];split
   ·simp only [List.length_singleton]; omega
   ·simp only [List.length_append,List.length_singleton]; omega
theorem jo (W:Wo) (lc:List ByteArray) (st op n:Int) (nm:ByteArray) (kids:aZ) (d:Int):(jO W lc st op n nm kids d).length<=1 + dh kids:=by
 unfold jO;have h1:=Nk W lc st kids d;split
 ·simp only [List.length_singleton]; omega
 ·simp only [List.length_append,List.length_singleton]; omega
theorem aj0 (W:Wo) (lc:List ByteArray) (st:Int) (h:dL):(zN W lc st h).length<=fG h:=by
 unfold zN fG;split
 ·have:=jo W lc st h.bY h.xn h.bW h.aI lc.length;simp only [gy,List.length_append,List.length_singleton]; omega
 ·rename_i op n nm kids r hi;have h1:=jo W lc st h.bY h.xn h.bW h.aI (lc.length + 1);have h2:=jo W lc st op n nm kids lc.length;simp only [gy,List.length_append,List.length_singleton];rw [hi,dh]; omega
theorem aa0 (W:Wo) (lc:List ByteArray) (st:Int) (h:dL):(oI W lc st h).length<=fG h:=by
 have hv:=jo W lc st h.bY h.xn h.bW h.aI lc.length;have h1:3<=fG h:=by unfold fG; omega
 have h2:1 + dh h.aI + 1<=fG h:=by unfold fG; omega
 unfold oI;split
 ·exact aj0 W lc st h
 all_goals (repeat' split)
 all_goals simp only [gy,List.length_append,List.length_singleton,List.length_nil]
 all_goals omega
theorem Rv (W:Wo) (lc:List ByteArray) (st:Int) (h:dL) (B E:List aX) (ne:Bool) (pos:Nat):(yL W lc st h (gy W lc st h lc.length) B E ne pos).length<=fG h + B.length + E.length:=by
 have hv:=jo W lc st h.bY h.xn h.bW h.aI lc.length;have ho:=aa0 W lc st h;have h2:1 + dh h.aI + 2<=fG h:=by unfold fG; omega
 unfold yL
 repeat' split
 all_goals try simp only [gy,List.length_append,List.length_singleton,List.length_nil]
 all_goals omega
theorem oM (W:Wo) (lc:List ByteArray): ∀(l:aH) (nx pos:Nat),(gU W lc l nx pos).length<=kJ l
 | .nil,_,_=>Nat.le_refl _
 | .cons h b e r,nx,pos=>by rw [gU,kJ,List.length_append];have hs:=Rv W lc nx h (gU W lc b (nx + 1) (pos + jU h (gy W lc nx h lc.length))) (gU W lc e (nx + 1 + aR b) (pos + jU h (gy W lc nx h lc.length) + (gU W lc b (nx + 1) (pos + jU h (gy W lc nx h lc.length))).length + 1)) e.none pos;have hb:=oM W lc b (nx + 1) (pos + jU h (gy W lc nx h lc.length));have he:=oM W lc e (nx + 1 + aR b) (pos + jU h (gy W lc nx h lc.length) + (gU W lc b (nx + 1) (pos + jU h (gy W lc nx h lc.length))).length + 1);have hr:=oM W lc r (nx + 1 + aR b + aR e) (pos + (yL W lc nx h (gy W lc nx h lc.length) (gU W lc b (nx + 1) (pos + jU h (gy W lc nx h lc.length))) (gU W lc e (nx + 1 + aR b) (pos + jU h (gy W lc nx h lc.length) + (gU W lc b (nx + 1) (pos + jU h (gy W lc nx h lc.length))).length + 1)) e.none pos).length);omega
end Md
namespace Md
def sI (d:De):Nat->Nat->List qB
 | 0,_=>[]
 | n + 1,k=>⟨d.nm,k,d.size,false,d.init⟩ ::sI d n (k + 1)
def mH (d:De):List qB:=if d.size == 0 then [⟨d.nm,0,0,d.kind == 2,d.init⟩] else sI d d.size.toNat 0
def gD (W:Wo) (g:List UInt8->Int) (d:De):List UInt8->Int:=if d.kind == 3 || d.kind == 4 then fun x=>if x=d.nm.toList then (W.ls.length:Int) else g x else g
def lU (W:Wo) (g:List UInt8->Int) (d:De):Wo:=
 if d.kind == 1 || d.kind == 2 then {W with cs:=W.cs++mH d} else if d.kind == 3 || d.kind == 4 then {W with ls:=W.ls++[⟨d.nm,d.kind == 4⟩]} else
 if d.kind == 5 then {W with ns:=W.ns++[⟨d.nm,g d.on.toList⟩]} else if d.kind == 6 then {W with fs:=W.fs++[d.nm]} else W
def I8:List De->Wo->(List UInt8->Int)->Wo
 | [],W,_=>W
 | d ::r,W,g=>I8 r (lU W g d) (gD W g d)
theorem WR {d:De} (h:(d.kind == 2)=false): ∀(n k:Nat),sI d n k=sH d n k
 | 0,_=>rfl
 | n + 1,k=>by rw [sI,sH,WR h n,h]
theorem ay3 {d:De} (hs:jd d=true):mH d=EX d:=by
 unfold jd at hs;simp only [Bool.and_eq_true,decide_eq_true_eq] at hs;obtain ⟨⟨⟨⟨h1,h2⟩,-⟩,h3,h4⟩,-⟩:=hs;unfold mH EX;split
 ·rename_i h0;have h0:d.size=0:=by simpa using h0
  rw [h0];show _=sH d 1 0;rw [sH,sH,h0]; rfl
 ·rename_i h0;have h0:d.size≠0:=by simpa using h0
  have hk:d.kind=1:=by simpa [h0] using h4
  rw [WR (by rw [hk]; rfl),show max d.size 1=d.size by omega]
theorem QY: ∀(l:List ByteArray) (s nm:ByteArray) (k:Int),(∀x ∈ l,x.toList≠s.toList)->pV (l++[s]) nm k=if nm.toList=s.toList then k + l.length else pV l nm k
 | [],s,nm,k,_=>by
   simp only [List.nil_append,pV,List.length_nil];by_cases h:nm.toList=s.toList
   ·simp [h]
   ·have: ¬ s.toList=nm.toList:=fun e=>h e.symm;simp [h,this]
 | y ::r,s,nm,k,hn=>by
   have ih:=QY r s nm (k + 1) (fun x hx=>hn x (List.mem_cons_of_mem _ hx));have hy:=hn y List.mem_cons_self;rw [List.cons_append,pV,ih,pV];by_cases h:nm.toList=s.toList
   ·rw [if_pos h,if_pos h];have:(y.toList == nm.toList)=false:=by rw [h]; simpa using hy
    rw [this];simp only [List.length_cons];rw [if_neg (by decide)]; omega
   ·rw [if_neg h,if_neg h]
structure BN (pre:List De) (W:Wo) (g:List UInt8->Int):Prop where
 sub: ∀s ∈ W.ls.map (·.nm),∃d ∈ pre,d.nm.toList=s.toList
 eq: ∀x:ByteArray,0<=dV (W.ls.map (·.nm)) x->g x.toList=dV (W.ls.map (·.nm)) x
 has: ∀d ∈ pre,d.kind=3∨d.kind=4->0<=dV (W.ls.map (·.nm)) d.nm
theorem ak4 {pre:List De} {l:List UInt8} (h:mD pre l=0): ∀d ∈ pre,d.nm.toList≠l:=by
 have hf:=U6 (pre:=pre) (l:=l) (by rw [h]; rfl);intro d hd e;have:=List.find?_eq_none.1 hf d hd;simp [e] at this
theorem BN.step {pre:List De} {W:Wo} {g:List UInt8->Int} {d:De} (h:BN pre W g) (hd:mD pre d.nm.toList=0):BN (pre++[d]) (lU W g d) (gD W g d):=by
 have hz:=ak4 hd;by_cases hk:(d.kind == 3 || d.kind == 4)=true
 ·have h12:(d.kind == 1 || d.kind == 2)=false:=by simp only [Bool.or_eq_true,beq_iff_eq] at hk;rcases hk with hk | hk <;> rw [hk] <;> rfl
  have e1:(lU W g d).ls=W.ls++[⟨d.nm,d.kind == 4⟩]:=by unfold lU; rw [h12,hk]; rfl
  have e2:gD W g d=fun x=>if x=d.nm.toList then (W.ls.length:Int) else g x:=by unfold gD; rw [if_pos hk]
  have e3:(lU W g d).ls.map (·.nm)=W.ls.map (·.nm)++[d.nm]:=by rw [e1]; simp
  have hne: ∀x ∈ W.ls.map (·.nm),x.toList≠d.nm.toList:=fun x hx e=>by obtain ⟨d',hd',e'⟩:=h.sub x hx;exact hz d' hd' (e'.trans e)
  have e4: ∀x,dV ((lU W g d).ls.map (·.nm)) x=if x.toList=d.nm.toList then (W.ls.length:Int) else dV (W.ls.map (·.nm)) x:=fun x=>by rw [e3]; unfold dV; rw [QY _ _ _ _ hne]; simp
  refine ⟨fun s hs=> ?_,fun x hx=> ?_,fun d' hd' hk'=> ?_⟩
  ·rw [e3] at hs;rcases List.mem_append.1 hs with hs | hs
   ·obtain ⟨d',h1,h2⟩:=h.sub s hs;exact ⟨d',List.mem_append_left _ h1,h2⟩
   ·rw [List.mem_singleton.1 hs];exact ⟨d,List.mem_append_right _ (List.mem_singleton.2 rfl),rfl⟩
  ·rw [e4] at hx ⊢;rw [e2];show (if _ then _ else _)=_;by_cases hc:x.toList=d.nm.toList
   ·rw [if_pos hc,if_pos hc]
   ·rw [if_neg hc] at hx ⊢;rw [if_neg hc]; exact h.eq x hx
  ·rw [e4];split
   ·omega
   ·rename_i hc;rcases List.mem_append.1 hd' with hd' | hd'
    ·exact h.has d' hd' hk'
    ·rw [List.mem_singleton.1 hd'] at hc; exact absurd rfl hc
 ·have hk:(d.kind == 3 || d.kind == 4)=false:=by simpa using hk
  have e1:(lU W g d).ls=W.ls:=by
   unfold lU; rw [hk];split
   ·rfl
   ·rw [if_neg (by decide)];split
    ·rfl
    ·split <;> rfl
  have e2:gD W g d=g:=by unfold gD; rw [hk]; rfl
  rw [e2];refine ⟨fun s hs=> ?_,fun x hx=> ?_,fun d' hd' hk'=> ?_⟩
  ·rw [e1] at hs;obtain ⟨d',h1,h2⟩:=h.sub s hs;exact ⟨d',List.mem_append_left _ h1,h2⟩
  ·rw [e1] at hx ⊢; exact h.eq x hx
  ·rw [e1];rcases List.mem_append.1 hd' with hd' | hd'
   ·exact h.has d' hd' hk'
   ·rw [List.mem_singleton.1 hd'] at hk';simp only [Bool.or_eq_false_iff,beq_eq_false_iff_ne] at hk;rcases hk' with e | e
    ·exact absurd e hk.1
    ·exact absurd e hk.2
theorem V6 {d:De} (h:eH d=4):d.kind=3:=by
 unfold eH at h;split at h
 ·split at h <;> exact absurd h (by decide)
 ·split at h
  ·exact absurd h (by decide)
  ·split at h
   ·rename_i hk; simpa using hk
   ·split at h
    ·exact absurd h (by decide)
    ·split at h
     ·exact absurd h (by decide)
     ·split at h <;> exact absurd h (by decide)
theorem BN.cond {pre:List De} {W:Wo} {g:List UInt8->Int} {on:ByteArray} (h:BN pre W g) (hm:mD pre on.toList=4):g on.toList=dV (W.ls.map (·.nm)) on:=by
 unfold mD at hm;cases hf:pre.find? (fun d=>d.nm.toList == on.toList) with
 | none=>rw [hf] at hm; exact absurd hm (by decide)
 | some d=>
   rw [hf] at hm;have hd:=V6 (show eH d=4 from hm);have h1:=List.mem_of_find?_eq_some hf;have h2:=List.find?_some hf;have h2:d.nm.toList=on.toList:=by simpa using h2
   refine h.eq on ?_;have:=h.has d h1 (.inl hd);unfold dV at this ⊢;rcases LH (W.ls.map (·.nm)) d.nm 0 with h3 | h3
   ·omega
   ·have e: ∀(l:List ByteArray) (k:Int),pV l on k=pV l d.nm k:=fun l=>by
     induction l with
     | nil=>intro k; rfl
     | cons s r ih=>intro k; rw [pV,pV,ih,h2]
    rw [e]; exact this
theorem ai4: ∀(l pre:List De) (W:Wo) (g:List UInt8->Int) (c x n f:Int),(∀d ∈ l,jd d=true)->BN pre W g->(mW l pre c x n f).1=0->I8 l W g=l.foldl kZ W
 | [],_,_,_,_,_,_,_,_,_,_=>rfl
 | d ::r,pre,W,g,c,x,n,f,hs,hI,h0=>by
   have hsd:=hs d List.mem_cons_self;rw [mW] at h0;split at h0
   ·exact absurd (show (4:Int)=0 from h0) (by decide)
   ·rename_i h1;split at h0
    ·exact absurd (show (2:Int)=0 from h0) (by decide)
    ·split at h0
     ·exact absurd (show (2:Int)=0 from h0) (by decide)
     ·split at h0
      ·exact absurd (show (5:Int)=0 from h0) (by decide)
      ·split at h0
       ·exact absurd (show (6:Int)=0 from h0) (by decide)
       ·rename_i h5;have h1:mD pre d.nm.toList=0:=(by simpa using h1);have e:lU W g d=kZ W d:=by
         unfold lU kZ;rw [ay3 hsd];split
         ·rfl
         ·split
          ·rfl
          ·split
           ·rename_i hk;have:mD pre d.on.toList=4:=(by simpa [hk] using h5);rw [hI.cond this]
           ·rename_i k1 k2 k3;have QJ:d.kind=6:=(by unfold jd at hsd;simp only [Bool.and_eq_true,decide_eq_true_eq] at hsd;obtain ⟨⟨⟨⟨q1,q2⟩,-⟩,-⟩,-⟩:=hsd;simp only [Bool.or_eq_true,beq_iff_eq,not_or] at k1 k2 k3;omega);rw [QJ]; rfl
        rw [I8,List.foldl_cons,e];have:=hI.step h1;rw [e] at this;exact ai4 r (pre++[d]) _ _ _ _ _ _ (fun y hy=>hs y (List.mem_cons_of_mem _ hy)) this h0
theorem BN.start:BN [] oW (fun _=>0):=by
 refine ⟨fun s hs=>(by cases hs),fun x hx=> ?_,fun d hd=>(by cases hd)⟩;have:dV (oW.ls.map (·.nm)) x= -1:=rfl;omega
theorem ai5 {p:Pr} (h:(jr p).1=0):I8 p.ds oW (fun _=>0)=p.ds.foldl kZ oW:=by
 obtain ⟨h1,h2,-⟩:=qJ h;unfold qz at h1;simp only [Bool.and_eq_true] at h1;exact ai4 _ _ _ _ _ _ _ _ (fun d hd=>List.all_eq_true.1 h1.1.1 d hd) BN.start h2
end Md
end Go.Proofs.YtfbbaiejbjdfbaaGreatDoor
