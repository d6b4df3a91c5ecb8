/-
  A program of the maker's as it lies in memory, and its changes. No program in sight.
  A region that draws its order, with a ghost beside the world: whatever came up first, what each operation yields has a property that stays. No program in sight.
  A drawn region in which a row that is built is appended to a row, and the new slice stored; loads for the store may come up late. No program in sight.
  A statement more in the last thread of a made program, and the error that it brings. Plain law.
-/
import Derived.Test.YtnknfoibmgphnaaDoorGMmP
import Derived.ArgAppend
import Derived.Test.YtnknfoibmgphnaaDoorGMB
import Derived.Test.YtnknfoibmgphnaaDoorGPI
section
set_option linter.unusedSimpArgs false
set_option linter.unusedVariables false
namespace Go.Proofs.YtnknfoibmgphnaaDoor
open Go.RowKit
open Md
theorem Bo {P:Program} {o:Oper} {a:Act} {K:Act→World→Prop} {Q:Exit→Act→World→Prop} (w:World) (s x:Operand) (t:TypeId) (ho:o.op= .call {callee:= .builtin .append,args:= #[s,x],argTypes:= #[t,t]})
 (e:TypeId) (i:TypeInfo) (z:Value) (size bytes:Nat) (h1:P.underlying t=some (.slice e)) (h2:P.info? e=some i) (h3:i.zero=some z) (h4:i.size=size) (h5:i.bytes=bytes) (h6:z.cells.size=size) (h7:0 < size)
 (b:Addr) (n cap:Nat) (olds:List Value) (hs:a.eval s= .slice (some b) n cap) (hlo:olds.length=n * size) (holds: ∀j u,olds[j]? =some u→w.cell? (b.add j)=some u)
 (ad:Addr) (m c:Nat) (news:List Value) (hx:a.eval x= .slice (some ad) m c) (hn:news.length=m * size) (hc: ∀j u,news[j]? =some u→w.cell? (ad.add j)=some u)
 (hfull:cap < n + m) (b1:n + m≤maxLen) (b2:(n + m) * bytes≤140737488355328)
 (h: ∀v' w',w'.ownsRow w.heap.size e size v' (n + m) (olds++news)→w.grownBy w' none→K (a.put o.dst v') w'):o.wp P a w K Q:=by
 obtain ⟨v',w',hrun,r1,r2⟩:=run_append_arg_grows (P:=P) w t o.type e i z size bytes h1 h2 h3 h4 h5 h6 h7 b n cap olds hlo holds ad m c news hn hc hfull b1 b2
 unfold Oper.wp execOp
 simp only [ho,resolve,invoke,builtin,Sem.run_bind,Sem.run_pure,Result.andThen_ok,List.map_toArray,List.map_cons,List.map_nil,hs,hx,hrun]
 exact h v' w' r1 r2
theorem DI {α:Type} {f:α→List Value} {m:Nat} (hf: ∀x,(f x).length=m): ∀(xs:List α) (k:Nat) (x x':α) (j:Nat) (u:Value),xs[k]? =some x→j < m→(f x).set j u=f x'→(xs.flatMap f).set (k * m + j) u=(xs.set k x').flatMap f
 | [],_,_,_,_,_,h,_,_=>by simp at h
 | y ::xs,0,x,x',j,u,h,hj,hu=>by
   simp at h; subst h
   rw [Nat.zero_mul,Nat.zero_add,List.flatMap_cons,List.set_append_left _ _ (by rw [hf]; exact hj),hu]; rfl
 | y ::xs,k + 1,x,x',j,u,h,hj,hu=>by
   have ih:=DI hf xs k x x' j u (by simpa using h) hj hu
   have e:(k + 1) * m + j=m + (k * m + j):=by rw [Nat.add_mul]; omega
   rw [List.flatMap_cons,List.set_append_right _ _ (by rw [hf,e]; omega),hf,e,Nat.add_sub_cancel_left,ih]; rfl
theorem zN {α:Type} {f:α→List Value} {m:Nat} {ty:TypeId} {B:Nat} {w:World} {g n cap k j:Nat} {u:Value} {xs:List α} {x x':α} (hf: ∀x,(f x).length=m) (h:w.ownsRow B ty m (.slice (some ⟨g,0,none⟩) n cap) xs.length (xs.flatMap f)) (hk:xs[k]? =some x) (hj:j < m) (hu:(f x).set j u=f x'):
 (w.setCell ⟨g,k * m + j,none⟩ u).ownsRow B ty m (.slice (some ⟨g,0,none⟩) n cap) (xs.set k x').length ((xs.set k x').flatMap f):=by
 refine ⟨og hf _,?_⟩
 rcases h.2 with ⟨h1,-⟩ | ⟨g',cap',cur,h1,h2,h3,h4,h5,h6,h7⟩
 ·cases h1
 ·injection h1 with e1 e2 e3; injection e1 with e1; injection e1 with e1; subst e1; subst e3; subst e2
  refine .inr ⟨g,cap,cur.setIfInBounds (k * m + j) u,by rw [List.length_set],h2,dN h3 u,by rw [List.length_set]; exact h4,h5,by simpa using h6,?_⟩
  rw [← DI hf xs k x x' j u hk hj hu,← h7,Array.toList_setIfInBounds,List.length_set,List.take_set]
theorem zx {α:Type} (pre:List α) (x y:α):(pre++[x]).set pre.length y=pre++[y]:=by
 rw [List.set_append_right _ _ (Nat.le_refl _)]; simp
theorem mM {α:Type} (pre:List α) (x:α):(pre++[x])[pre.length]? =some x:=by simp
theorem jX {α:Type} {f:α→List Value} {m:Nat} {ty:TypeId} {B:Nat} {w:World} {g n cap:Nat} {xs:List α} (hf: ∀x,(f x).length=m) (h:w.ownsRow B ty m (.slice (some ⟨g,0,none⟩) n cap) xs.length (xs.flatMap f)):xs.length≤cap∧g < w.heap.size∧ ∀k x,xs[k]? =some x→ ∀j u,(f x)[j]? =some u→w.cell? ⟨g,k * m + j,none⟩=some u:=by
 rcases h.2 with ⟨h1,-⟩ | ⟨g',cap',cur,h1,h2,h3,h4,h5,h6,h7⟩
 ·cases h1
 ·injection h1 with e1 e2 e3; injection e1 with e1; injection e1 with e1; subst e1; subst e3
  refine ⟨h4,(Array.getElem?_eq_some_iff.1 h3).1,fun k x hk j u hu=> ?_⟩
  have hF:=flat_get hf xs k x j u hk hu
  rw [← h7] at hF
  have hlt:=(List.getElem?_eq_some_iff.1 hF).1
  rw [List.getElem?_take_of_lt (by rw [List.length_take] at hlt; omega)] at hF
  exact bL h3 (by rw [← hF]; simp)
theorem DZ {B:Nat} {w:World} {g n cap:Nat} {xs:List bU} (h:w.ownsRow B 35 4 (.slice (some ⟨g,0,none⟩) n cap) xs.length (xs.flatMap bU.f)) (hx: ∀x ∈ xs,(x.t.Ok∧x.t.bH.length≤x.gy)∧x.I w):iy w w.heap.size (xs.map (·.t)) (some ⟨g,0,none⟩) 0:=by
 obtain ⟨-,hg,hc⟩:=jX jL h
 exact Cv xs 0 hx (fun i x hi=>⟨g,rfl,hg,fun j u hu=>by rw [Nat.zero_add]; exact hc i x hi j u hu⟩)
theorem CO {B:Nat} {w:World} {v:Value} {xs:List aD} (h:w.ownsRow B 42 11 v xs.length (xs.flatMap aD.f)) {ao:Option Addr} {cap:Nat} (hv:v= .slice ao xs.length cap) (hx: ∀x ∈ xs,ko x.h x.b x.e∧x.I w):(aN xs).At w w.heap.size ao 0:=by
 rcases h.2 with ⟨h1,h0⟩ | ⟨g,cap',cur,h1,-⟩
 ·rw [List.length_eq_zero_iff.1 h0]; trivial
 ·rw [hv] at h1
  injection h1 with e1 e2 e3
  subst e1
  rw [hv] at h
  obtain ⟨-,hg,hc⟩:=jX pQ h
  exact wY xs 0 hx (fun i x hi=>⟨g,rfl,hg,fun j u hu=>by rw [Nat.zero_add]; exact hc i x hi j u hu⟩)
structure Am (B D:Nat) (W:World) (g:Nat) (pre:List bU) (x:bU) (l:List aD) (vB:Value):Prop where
 bd:x.t.body=aN l
 v:vB= .slice x.bg l.length x.aT
 own:W.ownsRow B 42 11 vB l.length (l.flatMap aD.f)
 few:l.length≤5000
 ok: ∀s ∈ l,ko s.h s.b s.e
 ne: ∀k,vB.ownBlock=some k→k≠g∧D < k
 st: ∀s ∈ l,fJ B (qo vB.ownBlock (some g)) W (aD.I s)
 pr: ∀y ∈ pre,fJ B (qo vB.ownBlock (some g)) W (bU.I y)
 lc:fJ B (qo vB.ownBlock (some g)) W (fun w2=>iD w2 w2.heap.size x.t.bH x.iQ 0)
theorem qB.la {B gD gT av:Nat} {W:World} {bZ:List bU} (h:qB B W gD gT av bZ): ∃pre x l vB,bZ=pre++[x]∧Am B gD W gT pre x l vB:=by
 obtain ⟨pre,x,l,vB,h1,h2,h3,h4,h5,h6,h7,h8,h9,h10⟩:=h.last
 exact ⟨pre,x,l,vB,h1,⟨h2,h3,h4,h5,h6,h7,h8,h9,h10⟩⟩
theorem qB.inner {B gD gT av:Nat} {W:World} {bZ:List bU} (h:qB B W gD gT av bZ): ∀y ∈ bZ,y.I W:=fun y hy=>by
 obtain ⟨pre,x,l,vB,e,hL⟩:=h.la
 rw [e] at hy
 rcases List.mem_append.1 hy with hy | hy
 ·exact (hL.pr y hy).now
 ·rw [List.mem_singleton.1 hy]
  exact ⟨hL.lc.now,by rw [hL.bd]; exact CO hL.own hL.v (fun s hs=>⟨hL.ok s hs,(hL.st s hs).now⟩)⟩
theorem qB.few {B gD gT av:Nat} {W:World} {bZ:List bU} (h:qB B W gD gT av bZ):1≤bZ.length∧bZ.length≤4:=by
 obtain ⟨n,hn,h1,hm⟩:=h.made.ts
 have:=congrArg List.length hm
 simp at this; omega
theorem qB.at {B gD gT av:Nat} {W:World} {bZ:List bU} (h:qB B W gD gT av bZ):Pr.At W ⟨gQ,bZ.map (·.t)⟩ (some ⟨gD,0,none⟩) (some ⟨gT,0,none⟩)∧bZ.length≤av:=by
 obtain ⟨hc,-,-⟩:=jX jL h.row
 obtain ⟨n,hn,-,hm⟩:=h.made.ts
 have hl:bZ.length≤4:=by
  have:=congrArg List.length hm
  simp at this; omega
 refine ⟨⟨by show 9≤maxLen; unfold maxLen; decide,by show (bZ.map (·.t)).length≤maxLen; rw [List.length_map]; unfold maxLen; omega,Aw h.dec,?_⟩,hc⟩
 exact DZ h.row (fun y hy=>⟨(h.uf y hy).1,h.inner y hy⟩)
theorem Da: ∀(l:List aD) (s:aD),aN (l++[s])=(aN l).app (.cons s.h s.b s.e .nil)
 | [],_=>rfl
 | x ::r,s=>by
   show aR.cons x.h x.b x.e (aN (r++[s]))=aR.cons x.h x.b x.e ((aN r).app _)
   rw [Da r s]
theorem Am.more {B gD gT av g' cap':Nat} {W W5:World} {pre:List bU} {x:bU} {l:List aD} {vB:Value} {s:aD} (h:qB B W gD gT av (pre++[x])) (hL:Am B gD W gT pre x l vB)
 (hown:W5.ownsRow B 42 11 (.slice (some ⟨g',0,none⟩) (l.length + 1) cap') (l.length + 1) (l.flatMap aD.f++aD.f s)) (hk: ∀k,B≤k→k < W.heap.size→ ¬ qo vB.ownBlock (some gT) k→W5.heap[k]? =W.heap[k]?) (hsz:W.heap.size≤W5.heap.size)
 (hrow:W5.ownsRow B 35 4 (.slice (some ⟨gT,0,none⟩) (pre.length + 1) av) (pre.length + 1) ((pre++[(⟨{x.t with body:=aN (l++[s])},x.iQ,x.gy,some ⟨g',0,none⟩,cap'⟩:bU)]).flatMap bU.f)) (hs:ko s.h s.b s.e∧s.I W5):
 Pr.At W5 ⟨gQ,pre.map (fun y:bU=>y.t)++[{x.t with body:=x.t.body.app (.cons s.h s.b s.e .nil)}]⟩ (some ⟨gD,0,none⟩) (some ⟨gT,0,none⟩):=by
 have hst: ∀ {Q:World→Prop},fJ B (qo vB.ownBlock (some gT)) W Q→Q W5:=fun hq=>hq W5 ⟨hsz,fun k h1 h2 h3=>hk k h1 h3 h2⟩
 have hx:=h.uf x (List.mem_append_right _ (List.mem_singleton.2 rfl))
 have hd:W5.heap[gD]? =some (.cells (gQ.flatMap rC).toArray 37 (0,0)):=(hk gD h.lt.1 (Array.getElem?_eq_some_iff.1 h.dec).1 (fun e=>by
  rcases e with e | e
  ·have:=(hL.ne gD e).2; omega
  ·injection e with e; have:=h.lt.2; omega)).trans h.dec
 obtain ⟨n,hn,-,hm⟩:=h.made.ts
 have hl:pre.length + 1≤4:=by
  have:=congrArg List.length hm
  simp at this; omega
 have e:pre.map (fun y:bU=>y.t)++[{x.t with body:=x.t.body.app (.cons s.h s.b s.e .nil)}]=(pre++[(⟨{x.t with body:=aN (l++[s])},x.iQ,x.gy,some ⟨g',0,none⟩,cap'⟩:bU)]).map (fun y:bU=>y.t):=by
  rw [List.map_append,Da,hL.bd]; rfl
 refine ⟨by show 9≤maxLen; unfold maxLen; decide,?_,Aw hd,?_⟩
 ·show (pre.map (fun y:bU=>y.t)++[_]).length≤maxLen
  simp; unfold maxLen; omega
 ·show iy _ _ (pre.map (fun y:bU=>y.t)++[_]) _ _
  rw [e]
  refine DZ (by rw [List.length_append,List.length_singleton]; exact hrow) (fun y hy=> ?_)
  rcases List.mem_append.1 hy with hy | hy
  ·exact ⟨(h.uf y (List.mem_append_left _ hy)).1,hst (hL.pr y hy)⟩
  ·rw [List.mem_singleton.1 hy]
   refine ⟨⟨⟨hx.1.1.1,hx.1.1.2.1,hx.1.1.2.2.1,?_⟩,hx.1.2⟩,hst hL.lc,?_⟩
   ·show (aN (l++[s])).len≤maxLen
    rw [jK,List.length_append,List.length_singleton]; have:=hL.few; unfold maxLen; omega
   ·refine CO (xs:=l++[s]) (v:= .slice (some ⟨g',0,none⟩) (l.length + 1) cap') (cap:=cap') (by rw [List.length_append,List.length_singleton,List.flatMap_append,List.flatMap_singleton]; exact hown) (by rw [List.length_append,List.length_singleton]) (fun y hy=> ?_)
    rcases List.mem_append.1 hy with hy | hy
    ·exact ⟨hL.ok y hy,hst (hL.st y hy)⟩
    ·rw [List.mem_singleton.1 hy]; exact hs
theorem Am.bH {B B' gD gT av g' cap':Nat} {W W5:World} {pre:List bU} {x:bU} {l:List aD} {vB:Value} (h:qB B W gD gT av (pre++[x])) (hL:Am B gD W gT pre x l vB)
 (hown:W5.ownsRow B' 9 1 (.slice (some ⟨g',0,none⟩) 3 cap') 3 ((gJ++[gL]).flatMap uI)) (hk: ∀k,B≤k→k < W.heap.size→k≠gT→W5.heap[k]? =W.heap[k]?) (hsz:W.heap.size≤W5.heap.size)
 (hrow:W5.ownsRow B 35 4 (.slice (some ⟨gT,0,none⟩) (pre.length + 1) av) (pre.length + 1) ((pre++[(⟨{x.t with bH:=gJ++[gL],line:=80},some ⟨g',0,none⟩,cap',x.bg,x.aT⟩:bU)]).flatMap bU.f)):
 Pr.At W5 ⟨gQ,pre.map (fun y:bU=>y.t)++[{x.t with bH:=gJ++[gL],line:=80}]⟩ (some ⟨gD,0,none⟩) (some ⟨gT,0,none⟩):=by
 have hst: ∀ {Q:World→Prop},fJ B (qo vB.ownBlock (some gT)) W Q→Q W5:=fun hq=>hq W5 ⟨hsz,fun k h1 h2 h3=>hk k h1 h3 (fun e=>h2 (.inr (by rw [e])))⟩
 have hx:=h.uf x (List.mem_append_right _ (List.mem_singleton.2 rfl))
 have hd:W5.heap[gD]? =some (.cells (gQ.flatMap rC).toArray 37 (0,0)):=(hk gD h.lt.1 (Array.getElem?_eq_some_iff.1 h.dec).1 (by have:=h.lt.2; omega)).trans h.dec
 obtain ⟨n,hn,-,hm⟩:=h.made.ts
 have hl:pre.length + 1≤4:=by
  have:=congrArg List.length hm
  simp at this; omega
 have e:pre.map (fun y:bU=>y.t)++[{x.t with bH:=gJ++[gL],line:=80}]=(pre++[(⟨{x.t with bH:=gJ++[gL],line:=80},some ⟨g',0,none⟩,cap',x.bg,x.aT⟩:bU)]).map (fun y:bU=>y.t):=by
  rw [List.map_append]; rfl
 obtain ⟨hcap,hg,hcs⟩:=jX (xs:=gJ++[gL]) (n:=3) qP hown
 refine ⟨by show 9≤maxLen; unfold maxLen; decide,?_,Aw hd,?_⟩
 ·show (pre.map (fun y:bU=>y.t)++[_]).length≤maxLen
  simp; unfold maxLen; omega
 ·show iy _ _ (pre.map (fun y:bU=>y.t)++[_]) _ _
  rw [e]
  refine DZ (by rw [List.length_append,List.length_singleton]; exact hrow) (fun y hy=> ?_)
  rcases List.mem_append.1 hy with hy | hy
  ·exact ⟨(h.uf y (List.mem_append_left _ hy)).1,hst (hL.pr y hy)⟩
  ·rw [List.mem_singleton.1 hy]
   refine ⟨⟨⟨hx.1.1.1,by show aX 80; unfold aX; decide,by show (3:Nat)≤maxLen; unfold maxLen; decide,hx.1.1.2.2.2⟩,hcap⟩,?_,?_⟩
   ·refine CB (gJ++[gL]) 0 (fun s hs=> ?_) (fun i s hs=>⟨g',rfl,hg,fun j u hu=>by rw [Nat.zero_add]; exact hcs i s hs j u hu⟩)
    simp [gJ] at hs
    rcases hs with rfl | rfl | rfl <;> (unfold maxLen; decide)
   ·show x.t.body.At W5 W5.heap.size x.bg 0
    rw [hL.bd]
    refine CO (xs:=l) (v:=vB) (iA hL.own (fun k e=> ?_) (Nat.le_refl _)) hL.v (fun s hs=>⟨hL.ok s hs,hst (hL.st s hs)⟩)
    have:=hL.own.lt k e
    exact hk k this.1 this.2 (hL.ne k e).1
end Go.Proofs.YtnknfoibmgphnaaDoor
end
section
namespace Go.Proofs.YtnknfoibmgphnaaDoor
open Go.RowKit
abbrev RG (G:Type):=Value→G→World→Prop
section
variable {G:Type}
def iB (ents:List (Option Tmp × RG G)) (A:Act) (g:G) (w:World):List Edge→Prop
 | []=>True
 | e ::r=>(if Region.binds .any e=true then (match ents[e.on]? with | some (d,R)=>R (aj A d) g w | none=>True) else True)∧iB ents A g w r
def kQ (ents:List (Option Tmp × RG G)) (A:Act) (o:Oper):Bool:=
 match o.guard with
 | none=>true
 | some (g,b)=>match ents[g]? with
   | some (some d,_)=>match A.eval (.tmp d) with
     | .bool x=>x == b
     | _=>false
   | _=>false
def fZ (C:G→World→Prop) (Le:G→World→G→World→Prop) (R:RG G) (A:Act) (dst:Option Tmp) (g:G) (w:World) (a':Act) (w':World):Prop:=
 ∃v g',a'=A.put dst v∧Le g w g' w'∧C g' w'∧R (if dst.isSome then v else undef) g' w'
theorem fZ.mk {C:G→World→Prop} {Le:G→World→G→World→Prop} {R:RG G} {A:Act} {d:Tmp} {g g':G} {w w':World} {v:Value} (hle:Le g w g' w') (hC:C g' w') (hR:R v g' w'):fZ C Le R A (some d) g w (A.put (some d) v) w':=⟨v,g',rfl,hle,hC,hR⟩
theorem fZ.mF {C:G→World→Prop} {Le:G→World→G→World→Prop} {R:RG G} {A:Act} {g g':G} {w w':World} {v:Value} (hle:Le g w g' w') (hC:C g' w') (hR:R undef g' w'):fZ C Le R A none g w (A.put none v) w':=⟨v,g',rfl,hle,hC,hR⟩
def rH (D:Nat→Bool) (i:Nat):Nat→Bool:=fun k=>D k || k == i
def Dy (P:Program) (a0:Act) (Q:Exit→Act→World→Prop) (C:(Nat→Bool)→G→World→Prop) (Le:G→World→G→World→Prop) (dS:List Tmp) (ents:List (Option Tmp × RG G)) (o:Oper) (R:RG G) (i:Nat):Prop:=
 ∀D A g w,D i=false→C D g w→(∀s,dS.contains s=false→A.eval (.tmp s)=a0.eval (.tmp s))→iB ents A g w o.after.toList→
  if kQ ents A o then o.wp P A w (fZ (C (rH D i)) Le R A o.dst g w) Q else (C (rH D i) g w∧R undef g w)
def iq (c:Value):RG G:=fun v _ _=>v=c
theorem iq.mk (c:Value) (g:G) (w:World):iq c c g w:=rfl
def BZ (g:G) (ents:List (Option Tmp × RG G)):List (Option Tmp × RP):=ents.map fun x=>(x.1,fun v w=>x.2 v g w)
def jo (P:Program) (a0:Act) (Q:Exit→Act→World→Prop) (C:(Nat→Bool)→G→World→Prop) (Le:G→World→G→World→Prop) (dS:List Tmp):List Oper→List (Option Tmp × RG G)→Prop
 | [],ents=> ∀D g w,(∀i,i < ents.length→D i=true)→C D g w→bM w (fun a=>Q .normal a w) (BZ g ents) a0
 | o ::rest,ents=> ∃R:RG G,(∀v g w g' w',Le g w g' w'→R v g w→R v g' w')∧Dy P a0 Q C Le dS ents o R ents.length∧jo P a0 Q C Le dS rest (ents++[(o.dst,R)])
variable {P:Program} {a0:Act} {Q:Exit→Act→World→Prop} {C:(Nat→Bool)→G→World→Prop} {Le:G→World→G→World→Prop} {dS:List Tmp}
theorem jo.full: ∀ {l:List Oper} {ents:List (Option Tmp × RG G)},jo P a0 Q C Le dS l ents→ ∃full:List (Option Tmp × RG G),full.length=ents.length + l.length∧full.take ents.length=ents∧
 (∀(i:Nat) (o:Oper),l[i]? =some o→ ∃R,full[ents.length + i]? =some (o.dst,R)∧(∀v g w g' w',Le g w g' w'→R v g w→R v g' w')∧Dy P a0 Q C Le dS (full.take (ents.length + i)) o R (ents.length + i))∧
 ∀D g w,(∀i,i < full.length→D i=true)→C D g w→bM w (fun a=>Q .normal a w) (BZ g full) a0
 | [],ents,h=>⟨ents,by simp,by simp,by simp,h⟩
 | o ::rest,ents,h=>by
   obtain ⟨R,hm,ho,hr⟩:=h
   obtain ⟨full,h1,h2,h3,h4⟩:=jo.full hr
   simp only [List.length_append,List.length_cons,List.length_nil,Nat.zero_add] at h1 h2 h3
   have hlen:ents.length < full.length:=by omega
   have hget:full[ents.length]? =some (o.dst,R):=by
    have:=congrArg (fun l=>l[ents.length]?) h2
    simpa using this
   refine ⟨full,by simp; omega,?_,?_,h4⟩
   ·have:=congrArg (List.take ents.length) h2
    simpa [List.take_take] using this
   ·intro i o' hi
    cases i with
    | zero=>
      simp only [List.getElem?_cons_zero,Option.some.injEq] at hi
      subst hi
      refine ⟨R,by simpa using hget,hm,?_⟩
      have:full.take (ents.length + 0)=ents:=by
       have:=congrArg (List.take ents.length) h2
       simpa [List.take_take] using this
      rw [this]; exact ho
    | succ i=>
      have hi':rest[i]? =some o':=by simpa using hi
      have:=h3 i o' hi'
      rw [show ents.length + (i + 1)=ents.length + 1 + i by omega]
      exact this
theorem jo.step {o:Oper} {rest:List Oper} {ents:List (Option Tmp × RG G)} {v:Value} (aB:Dy P a0 Q C Le dS ents o (iq v) ents.length) (hrest:jo P a0 Q C Le dS rest (ents++[(o.dst,iq v)])):jo P a0 Q C Le dS (o ::rest) ents:=
 ⟨iq v,fun _ _ _ _ _ _ h=>h,aB,hrest⟩
theorem jo.some {o:Oper} {rest:List Oper} {ents:List (Option Tmp × RG G)} (R:RG G) (hmono: ∀v g w g' w',Le g w g' w'→R v g w→R v g' w') (aB:Dy P a0 Q C Le dS ents o R ents.length) (hrest:jo P a0 Q C Le dS rest (ents++[(o.dst,R)])):jo P a0 Q C Le dS (o ::rest) ents:=
 ⟨R,hmono,aB,hrest⟩
theorem jo.done {ents:List (Option Tmp × RG G)} (h: ∀D g w,(∀i,i < ents.length→D i=true)→C D g w→bM w (fun a=>Q .normal a w) (BZ g ents) a0):jo P a0 Q C Le dS [] ents:=h
theorem DT {full:List (Option Tmp × RG G)} {A:Act} {g:G} {w:World} {i:Nat} : ∀ {l:List Edge},(∀e ∈ l,Region.binds .any e=true→ ∀(d:Option Tmp) (R:RG G),full[e.on]? =some (d,R)→R (aj A d) g w)→iB (full.take i) A g w l
 | [],_=>trivial
 | e ::r,h=>by
   refine ⟨?_,DT fun e' he'=>h e' (by simp [he'])⟩
   split
   case isFalse=>trivial
   case isTrue hb=>
   cases hg:(full.take i)[e.on]? with
   | none=>trivial
   | some x=>
     obtain ⟨d,R⟩:=x
     rw [List.getElem?_take] at hg
     split at hg
     ·exact h e (by simp) hb d R hg
     ·cases hg
def A8 (listed:Array Bool):Nat→Bool:=fun i=>listed.getD i false
theorem ME {listed:Array Bool} {i:Nat} (hi:i < listed.size):A8 (listed.setIfInBounds i true)=rH (A8 listed) i:=by
 funext k
 unfold A8 rH
 by_cases hk:i=k
 ·subst hk; simp [hi]
 ·rw [getD_set_ne false hk]
  have:(k == i)=false:=by rw [beq_eq_false_iff_ne]; exact fun e=>hk e.symm
  rw [this,Bool.or_false]
def Ll (a0:Act) (C:(Nat→Bool)→G→World→Prop) (full:List (Option Tmp × RG G)) (n:Nat) (listed:Array Bool) (a:Act) (g:G) (w:World):Prop:=
 listed.size=n∧C (A8 listed) g w∧a.defers=a0.defers∧a.tmps.size=a0.tmps.size∧
 (∀s:Nat,(∀(i:Nat) (d:Tmp) (R:RG G),full[i]? =some (some d,R)→listed.getD i false=true→d≠s)→a.tmps[s]? =a0.tmps[s]?)∧
 ∀(i:Nat) (d:Option Tmp) (R:RG G),full[i]? =some (d,R)→listed.getD i false=true→R (aj a d) g w
theorem N8 {ops:Array Oper} {full:List (Option Tmp × RG G)} {o:Oper} {A:Act} {i:Nat} (hf: ∀(k:Nat) (ok:Oper),ops[k]? =some ok→ ∃R,full[k]? =some (ok.dst,R)) (hlen:full.length=ops.size)
 (hg: ∀g b,o.guard=some (g,b)→g < i):Region.wanted o (yielded ops A.tmps)=kQ (full.take i) A o:=by
 unfold Region.wanted kQ
 cases ho:o.guard with
 | none=>rfl
 | some x=>
   obtain ⟨g,b⟩:=x
   have hgi:=hg g b ho
   simp only
   rw [List.getElem?_take,if_pos hgi]
   unfold yielded
   cases hk:ops[g]? with
   | none=>
     have:full[g]? =none:=List.getElem?_eq_none (by rw [hlen]; exact Array.getElem?_eq_none_iff.1 hk)
     rw [this]; rfl
   | some ok=>
     obtain ⟨R,hR⟩:=hf g ok hk
     rw [hR]
     simp only [Option.bind_some]
     cases hd:ok.dst with
     | none=>rfl
     | some d=>
       simp only [Option.bind_some,Act.eval]
       cases ht:A.tmps[d]? with
       | none=>simp [ht,undef]
       | some v=>
         simp only [Array.getD_eq_getD_getElem?,ht,Option.getD_some]
         cases v <;> first | rfl | (rename_i x; cases x <;> cases b <;> rfl)
theorem IZ {l:List Oper} {full:List (Option Tmp × RG G)} (vF: ∀g w,Le g w g w) (hbd: ∀d ∈ dS,d < a0.tmps.size) (hlen:full.length=l.length) (hnd:(l.filterMap (·.dst)).Nodup) (nU:l.filterMap (·.dst)=dS)
 (hed: ∀(i:Nat) (o:Oper),l[i]? =some o→ ∀d ∈ kU o,d < i) (hgu: ∀(i:Nat) (o:Oper),l[i]? =some o→ ∀g b,o.guard=some (g,b)→g < i)
 (hf: ∀(i:Nat) (o:Oper),l[i]? =some o→ ∃R,full[i]? =some (o.dst,R)∧(∀v g w g' w',Le g w g' w'→R v g w→R v g' w')∧Dy P a0 Q C Le dS (full.take i) o R i)
 (hend: ∀D g w,(∀i,i < full.length→D i=true)→C D g w→bM w (fun a=>Q .normal a w) (BZ g full) a0):
 ∀(fuel:Nat) (listed:Array Bool) (a:Act) (g:G) (w:World),cnt listed l.length≤fuel→Ll a0 C full l.length listed a g w→wpAny P .any l.toArray Q fuel listed a w:=by
 have hmono: ∀(i:Nat) (d:Option Tmp) (R:RG G),full[i]? =some (d,R)→ ∀v g w g' w',Le g w g' w'→R v g w→R v g' w':=fun i d R hi=>by
  have hlt:i < l.length:=by rw [← hlen]; exact (List.getElem?_eq_some_iff.1 hi).1
  obtain ⟨R',h1,h2,-⟩:=hf i l[i] (List.getElem?_eq_getElem hlt)
  rw [hi] at h1
  simp only [Option.some.injEq,Prod.mk.injEq] at h1
  rw [h1.2]; exact h2
 have hdst: ∀(i:Nat) (d:Option Tmp) (R:RG G),full[i]? =some (d,R)→ ∃o,l[i]? =some o∧o.dst=d:=fun i d R hi=>by
  have hlt:i < l.length:=by rw [← hlen]; exact (List.getElem?_eq_some_iff.1 hi).1
  obtain ⟨R',h1,-⟩:=hf i l[i] (List.getElem?_eq_getElem hlt)
  rw [hi] at h1
  simp only [Option.some.injEq,Prod.mk.injEq] at h1
  exact ⟨l[i],List.getElem?_eq_getElem hlt,h1.1.symm⟩
 have hall: ∀listed a g w,Ll a0 C full l.length listed a g w→(∀i,i < l.length→listed.getD i false=true)→Q .normal a w:=fun listed a g w hI ha=>by
  obtain ⟨hsz0,hC,hd,hz,hs,hR⟩:=hI
  refine (hend (A8 listed) g w (fun i hi=>ha i (by rw [← hlen]; exact hi)) hC).use (a':=a) (fun i d R hi=> ?_) hd hz (fun s hne=>hs s (fun i d R hi _=>hne i d (fun v w=>R v g w) (by unfold BZ; rw [List.getElem?_map,hi]; rfl)))
  unfold BZ at hi
  rw [List.getElem?_map] at hi
  cases hq:full[i]? with
  | none=>rw [hq] at hi; cases hi
  | some x=>
    obtain ⟨d',R'⟩:=x
    rw [hq] at hi
    simp only [Option.map_some,Option.some.injEq,Prod.mk.injEq] at hi
    obtain ⟨rfl,rfl⟩:=hi
    refine hR i d' R' hq (ha i ?_)
    rw [← hlen]; exact (List.getElem?_eq_some_iff.1 hq).1
 have xR: ∀listed:Array Bool,listed.size=l.length→Region.ready .any l.toArray listed=[]→ ∀i,i < l.length→listed.getD i false=true:=fun listed hsz hr i=>by
  induction i using Nat.strongRecOn with
  | _ i ih=>
    intro hi
    cases hg:listed.getD i false with
    | true=>rfl
    | false=>
      exfalso
      have:i ∈ Region.ready .any l.toArray listed:=mem_ready.2 ⟨by
       have h1:i < listed.size:=by omega
       simp [h1] at hg ⊢; exact hg,l[i],by simp [hi],fun e he hb=>ih e.on (hed i l[i] (List.getElem?_eq_getElem hi) e.on (rJ he hb)) (by
        have:=hed i l[i] (List.getElem?_eq_getElem hi) e.on (rJ he hb); omega)⟩
      rw [hr] at this; cases this
 intro fuel
 induction fuel with
 | zero=>
   intro listed a g w hc hI
   have ha:=wO (Nat.le_zero.1 hc)
   refine ⟨?_,hall listed a g w hI ha⟩
   rw [List.eq_nil_iff_forall_not_mem]
   intro i hi
   obtain ⟨h0,o,ho,-⟩:=mem_ready.1 hi
   have hlt:i < l.length:=by simpa using (Array.getElem?_eq_some_iff.1 ho).1
   have:=ha i hlt
   have h1:i < listed.size:=by rw [hI.1]; exact hlt
   simp [h1] at h0 this; rw [h0] at this; cases this
 | succ fuel ih=>
   intro listed a g w hc hI
   refine ⟨fun hr=>hall listed a g w hI (xR listed hI.1 hr),fun i hi=> ?_⟩
   obtain ⟨h0,o,ho,uW⟩:=mem_ready.1 hi
   have hlt:i < l.length:=by simpa using (Array.getElem?_eq_some_iff.1 ho).1
   have hlo:l[i]? =some o:=by simpa using ho
   have hls:i < listed.size:=by rw [hI.1]; exact hlt
   have hun:listed.getD i false=false:=by simp [hls] at h0 ⊢; exact h0
   obtain ⟨R,zh,Qz,I8⟩:=hf i o hlo
   obtain ⟨hsz,hC,hd,hz,hs,hR⟩:=hI
   have hW:=N8 (A:=a) (o:=o) (i:=i) (ops:=l.toArray) (full:=full) (fun k ok hk=>by
    obtain ⟨R',h1,-⟩:=hf k ok (by simpa using hk)
    exact ⟨R',h1⟩) (by simpa using hlen) (hgu i o hlo)
   have hstep:=I8 (A8 listed) a g w hun hC (fun s hs'=>by
    have:a.tmps[s]? =a0.tmps[s]?:=hs s (fun k d R' hk _ e=>by
     obtain ⟨ok,hok,hdk⟩:=hdst k (some d) R' hk
     have:d ∈ dS:=by rw [← nU]; exact List.mem_filterMap.2 ⟨ok,List.mem_of_getElem? hok,hdk⟩
     rw [e] at this
     simp at hs'
     exact hs' this)
    simp [Act.eval,this]) (DT (fun e he hb d R' hR'=>hR e.on d R' hR' (uW e (by simpa using he) hb)))
   have hnext: ∀(v:Value) (g':G) (w':World),Le g w g' w'→C (rH (A8 listed) i) g' w'→R (aj (a.put o.dst v) o.dst) g' w'→wpAny P .any l.toArray Q fuel (listed.setIfInBounds i true) (a.put o.dst v) w':=fun v g' w' hle hC' hv=>by
    refine ih _ _ g' _ ?_ ⟨by simp [hsz],by rw [ME hls]; exact hC',?_,?_,?_,?_⟩
    ·have:=yO hls hun l.length
     rw [if_pos hlt] at this
     omega
    ·cases o.dst <;> simpa [Act.put] using hd
    ·cases o.dst <;> simpa [Act.put] using hz
    ·intro s hne
     have h1:a.tmps[s]? =a0.tmps[s]?:=hs s (fun k d R' hk hl=>hne k d R' hk (getD_set_true hl))
     cases hod:o.dst with
     | none=>simpa [Act.put] using h1
     | some d=>
       have hds:d≠s:=hne i d R (by rw [zh,hod]) (by simp [hls])
       simp only [Act.put]
       rw [Array.getElem?_setIfInBounds_ne hds]; exact h1
    ·intro k d R' hk hl
     by_cases hik:i=k
     ·subst hik
      rw [zh] at hk
      simp only [Option.some.injEq,Prod.mk.injEq] at hk
      obtain ⟨rfl,rfl⟩:=hk
      exact hv
     ·have hl':listed.getD k false=true:=by rwa [getD_set_ne false hik] at hl
      have h1:=hmono k d R' hk _ _ _ _ _ hle (hR k d R' hk hl')
      have:aj (a.put o.dst v) d=aj a d:=by
       cases hod:o.dst with
       | none=>rfl
       | some d1=>
         cases d with
         | none=>rfl
         | some d2=>
           have hne:d1≠d2:=fun e=>by
            obtain ⟨ok,hok,hdk⟩:=hdst k (some d2) R' hk
            exact hik (uQ hnd i k o ok d2 hlo hok (by rw [hod,e]) hdk)
           simp [aj,Act.eval,Act.put,Array.getElem?_setIfInBounds_ne hne]
      rw [this]; exact h1
   unfold wpOp
   simp only [ho]
   rw [hW]
   cases hgd:kQ (full.take i) a o with
   | true=>
     rw [hgd] at hstep
     simp only [if_true] at hstep ⊢
     refine Or.inl (Oper.wp_mono ?_ hstep)
     rintro a' w' ⟨v,g',rfl,hle,hC',hv⟩
     refine hnext v g' w' hle hC' ?_
     cases hod:o.dst with
     | none=>rw [hod] at hv; exact hv
     | some d=>
       rw [hod] at hv
       simp only [Option.isSome_some,if_true] at hv
       have hdl:d < a.tmps.size:=by
        rw [hz]; exact hbd d (by rw [← nU]; exact List.mem_filterMap.2 ⟨o,List.mem_of_getElem? hlo,hod⟩)
       simpa [aj,Act.eval,Act.put,hdl] using hv
   | false=>
     rw [hgd] at hstep
     simp only [Bool.false_eq_true,if_false] at hstep ⊢
     refine hnext undef g w (vF g w) hstep.1 ?_
     cases hod:o.dst with
     | none=>exact hstep.2
     | some d=>
       have hdl:d < a.tmps.size:=by
        rw [hz]; exact hbd d (by rw [← nU]; exact List.mem_filterMap.2 ⟨o,List.mem_of_getElem? hlo,hod⟩)
       simpa [aj,Act.eval,Act.put,hdl] using hstep.2
theorem uE {id:Nat} {l:List Oper} {w:World} (C:(Nat→Bool)→G→World→Prop) (Le:G→World→G→World→Prop) (dS:List Tmp) (g0:G) (hm:P.follows .mixedOrders=true) (hB:(l.filterMap (·.dst) == dS && yG l)=true) (vF: ∀g w,Le g w g w) (hbd:(dS.all fun d=>decide (d < a0.tmps.size))=true) (hC:C (fun _=>false) g0 (w.drewN 1))
 (h:jo P a0 Q C Le dS l []):(Code.region id l.toArray true).wp P Q a0 w:=by
 unfold yG at hB
 simp only [Bool.and_eq_true,beq_iff_eq,decide_eq_true_eq] at hB
 obtain ⟨nU,hnd,hz⟩:=hB
 obtain ⟨full,h1,-,h3,h4⟩:=h.full
 simp only [List.length_nil,Nat.zero_add] at h1 h3
 have hed: ∀(i:Nat) (o:Oper),l[i]? =some o→(∀d ∈ kU o,d < i)∧ ∀g b,o.guard=some (g,b)→g < i:=fun i o hi=>by
  have:=qm hz i o hi
  simp only [Bool.and_eq_true,List.all_eq_true,decide_eq_true_eq] at this
  refine ⟨this.1,fun g b hg=> ?_⟩
  have h2:=this.2
  rw [hg] at h2
  simpa using h2
 refine wp_region_any hm ?_
 have hdr:({w with drawn:=w.drawn + 1} :World)=w.drewN 1:=rfl
 rw [hdr]
 have hD:A8 (Array.replicate l.toArray.size false)=fun _=>false:=by
  funext k; unfold A8; rw [Array.getD_eq_getD_getElem?]; by_cases hk:k < l.length <;> simp [hk]
 refine IZ vF (fun d hd=>by rw [List.all_eq_true] at hbd; simpa using hbd d hd) h1 hnd nU (fun i o hi=>(hed i o hi).1) (fun i o hi=>(hed i o hi).2) h3 h4 _ _ _ g0 _ ?_ ⟨by simp,by rw [hD]; exact hC,rfl,rfl,fun _ _=>rfl,fun i d R _ hl=> ?_⟩
 ·have: ∀n,cnt (Array.replicate l.toArray.size false) n≤n:=fun n=>by
   induction n with
   | zero=>simp [cnt]
   | succ n ih=>simp only [cnt]; split <;> omega
  simpa using this l.length
 ·exfalso
  rw [Array.getD_eq_getD_getElem?] at hl
  by_cases hi:i < l.length
  ·simp [hi] at hl
  ·rw [Array.getElem?_eq_none (by simpa using hi)] at hl; cases hl
end
end Go.Proofs.YtnknfoibmgphnaaDoor
end
section
set_option linter.unusedSimpArgs false
set_option linter.unusedVariables false
namespace Go.Proofs.YtnknfoibmgphnaaDoor
open Go.RowKit
open Md
theorem KN {w:World} {K:Act→Prop} {a:Act} (h:K a):bM w K [] a:=h
structure Ag where
 o:Option Nat
 h:Bool
 p:Option (Nat × Nat)
def Ag.le (n0:Nat) (g:Ag) (w:World) (g':Ag) (w':World):Prop:=(∀b,g.o=some b→g'.o=some b)∧(g.h=true→g'.h=true)∧(∀q,g.p=some q→g'.p=some q)∧w.heap.size≤w'.heap.size∧ ∀k,n0≤k→k < w.heap.size→w'.heap[k]? =w.heap[k]?
theorem Ag.le_refl (n0:Nat) (g:Ag) (w:World):Ag.le n0 g w g w:=⟨fun _ h=>h,fun h=>h,fun _ h=>h,Nat.le_refl _,fun _ _ _=>rfl⟩
theorem nX {D:Nat→Bool} {i k:Nat} (h:rH D i k=false):D k=false:=by
 unfold rH at h; rw [Bool.or_eq_false_iff] at h; exact h.1
theorem zX {D:Nat→Bool} {i:Nat} (h:rH D i i=false):False:=by
 unfold rH at h; simp at h
theorem DY {D:Nat→Bool} {i k:Nat} (hn:k≠i) (h:rH D i k=true):D k=true:=by
 unfold rH at h; rw [Bool.or_eq_true] at h
 rcases h with h | h
 ·exact h
 ·exact absurd (by simpa using h) hn
structure nZ (wr:World) (i8 pU i11 mW:Nat) (Row:Nat × Nat→World→Prop) (pO:Addr) (vv:Nat × Nat→Value) (cs:Array Value) (ty:TypeId) (D:Nat→Bool) (g:Ag) (w:World):Prop where
 d8:D i8=false→g.h=false
 nk:D pU=false→g.o=none
 mQ:D i11=false→g.p=none
 op:g.o=none→g.p=none
 oh:g.h=false→g.p=none
 nL:g.p=none→D mW=false
 pre:g.p=none→Below wr.heap.size wr w
 row: ∀b,g.o=some b→wr.heap.size≤b∧w.heap[b]? =some (.cells cs ty (0,0))
 post: ∀q,g.p=some q→D mW=false→Row q w
 fin: ∀q,g.p=some q→D mW=true→ ∃w5,Row q w5∧w=w5.setCell pO (vv q)
section
variable {wr w w':World} {i8 pU i11 mW:Nat} {Row:Nat × Nat→World→Prop} {pO:Addr} {vv:Nat × Nat→Value} {cs:Array Value} {ty:TypeId} {D:Nat→Bool} {g:Ag}
theorem nZ.start:nZ wr i8 pU i11 mW Row pO vv cs ty (fun _=>false) ⟨none,false,none⟩ (wr.drewN 1):=
 ⟨fun _=>rfl,fun _=>rfl,fun _=>rfl,fun _=>rfl,fun _=>rfl,fun _=>rfl,fun _=>below_drewN (Below.refl _ _) 1,(fun _ h=>(by cases h)),(fun _ h=>(by cases h)),(fun _ h=>(by cases h))⟩
theorem nZ.skip (h:nZ wr i8 pU i11 mW Row pO vv cs ty D g w) (i:Nat) (lG:mW≠i):nZ wr i8 pU i11 mW Row pO vv cs ty (rH D i) g w:=
 ⟨fun e=>h.d8 (nX e),fun e=>h.nk (nX e),fun e=>h.mQ (nX e),h.op,h.oh,fun e=>(by
  cases hq:rH D i mW
  ·rfl
  ·have:=DY lG hq; rw [h.nL e] at this; cases this),h.pre,h.row,fun q hq e=>h.post q hq (nX e),fun q hq e=>h.fin q hq (DY lG e)⟩
theorem nZ.Oj (h:nZ wr i8 pU i11 mW Row pO vv cs ty D g w) (hD:D pU=false) (lG:mW≠pU):Ag.le wr.heap.size g w {g with o:=some w.heap.size} (w.alloc (.cells cs ty))∧nZ wr i8 pU i11 mW Row pO vv cs ty (rH D pU) {g with o:=some w.heap.size} (w.alloc (.cells cs ty)):=by
 have h0:=h.nk hD
 have hp:=h.op h0
 refine ⟨⟨fun b e=>(by rw [h0] at e; cases e),fun e=>e,fun q e=>e,(ay _ _).size,fun k _ hk=>(ay _ _).block k hk⟩,fun e=>h.d8 (nX e),fun e=>(zX e).elim,fun e=>h.mQ (nX e),fun e=>(by cases e),h.oh,fun e=>(h.skip pU lG).nL e,fun e=>(h.pre e).trans ((ay _ _).mono (h.pre e).size),fun b e=> ?_,fun q e=> ?_,fun q e=> ?_⟩
 ·injection e with e; subst e
  exact ⟨(h.pre hp).size,heap_alloc_new _ _⟩
 ·rw [show g.p=some q from e] at hp; cases hp
 ·rw [show g.p=some q from e] at hp; cases hp
theorem nZ.Pb {q:Nat × Nat} (h:nZ wr i8 pU i11 mW Row pO vv cs ty D g w) (hD:D i11=false) (lG:mW≠i11) {b:Nat} (hb:g.o=some b) (hh:g.h=true) (hr:Row q w') (hs:w.heap.size≤w'.heap.size) (hk: ∀k,wr.heap.size≤k→k < w.heap.size→w'.heap[k]? =w.heap[k]?):Ag.le wr.heap.size g w {g with p:=some q} w'∧nZ wr i8 pU i11 mW Row pO vv cs ty (rH D i11) {g with p:=some q} w':=by
 have h0:=h.mQ hD
 refine ⟨⟨fun b e=>e,fun e=>e,fun q' e=>(by rw [h0] at e; cases e),hs,hk⟩,fun e=>h.d8 (nX e),fun e=>h.nk (nX e),fun e=>(zX e).elim,fun e=> ?_,fun e=> ?_,fun e=>(by cases e),fun e=>(by cases e),fun b' e=> ?_,fun q' e _=>(by injection e with e; subst e; exact hr),fun q' e e2=> ?_⟩
 ·rw [show g.o=none from e] at hb; cases hb
 ·rw [show g.h=false from e] at hh; cases hh
 ·obtain ⟨h1,h2⟩:=h.row b' e
  exact ⟨h1,(hk b' h1 (Array.getElem?_eq_some_iff.1 h2).1).trans h2⟩
 ·have:=DY lG e2; rw [h.nL h0] at this; cases this
theorem nZ.Nb {q:Nat × Nat} (h:nZ wr i8 pU i11 mW Row pO vv cs ty D g w) (hD:D mW=false) (hq:g.p=some q) (ha:pO.block < wr.heap.size) (h1:pU≠mW) (h2:i11≠mW):Ag.le wr.heap.size g w g (w.setCell pO (vv q))∧nZ wr i8 pU i11 mW Row pO vv cs ty (rH D mW) g (w.setCell pO (vv q)):=by
 refine ⟨⟨fun b e=>e,fun e=>e,fun q e=>e,by simp [World.setCell],fun k hk _=>aO _ _ _ rfl (by omega)⟩,fun e=>h.d8 (nX e),fun e=>h.nk (nX e),fun e=>h.mQ (nX e),h.op,h.oh,fun e=>(by rw [hq] at e; cases e),fun e=>(by rw [hq] at e; cases e),fun b e=> ?_,fun q' _ e=>(zX e).elim,fun q' e _=> ?_⟩
 ·obtain ⟨k1,k2⟩:=h.row b e
  exact ⟨k1,(aO _ _ _ rfl (by omega)).trans k2⟩
 ·rw [hq] at e; injection e with e; subst e
  exact ⟨w,h.post q hq hD,rfl⟩
theorem nZ.Qw (h:nZ wr i8 pU i11 mW Row pO vv cs ty D g w) (hD:D i8=false) (lG:mW≠i8):g.p=none∧Ag.le wr.heap.size g w {g with h:=true} w∧nZ wr i8 pU i11 mW Row pO vv cs ty (rH D i8) {g with h:=true} w:=by
 have hp:=h.oh (h.d8 hD)
 have hs:=h.skip i8 lG
 exact ⟨hp,⟨fun b e=>e,fun _=>rfl,fun q e=>e,Nat.le_refl _,fun _ _ _=>rfl⟩,fun e=>(zX e).elim,hs.nk,hs.mQ,hs.op,fun e=>(by cases e),hs.nL,hs.pre,hs.row,hs.post,hs.fin⟩
theorem yM {B m n b:Nat} {e t:TypeId} {v:Value} {xs:List Value} {cs:Array Value} {fr:Nat × Nat} (h:w.ownsRow B e m v n xs) (hb:w.heap[b]? =some (.cells cs t fr)) (hne:e≠t): ∀k,v.ownBlock=some k→k≠b:=by
 rintro k hk rfl
 rcases h.2 with ⟨h1,-⟩ | ⟨g,cap,cur,h1,-,h3,-⟩
 ·rw [h1] at hk; cases hk
 ·rw [h1] at hk
  injection hk with hk
  have hk:g=k:=hk
  rw [hk,hb] at h3
  injection h3 with h3; injection h3 with _ h3 _
  exact hne h3.symm
end
def NP (w:World) (b:Nat):Prop:= ∃x:Bool,w.heap[b]? =some (.cells #[.bool x] 4 (0,0))
def uN (n:Nat) (q:Nat × Nat):Value:= .slice (some ⟨q.1,0,none⟩) n q.2
def vg (wr:World) (B:Nat) (own:Option Nat) (n:Nat) (xs:List Value) (q:Nat × Nat) (w5:World):Prop:=w5.ownsRow B 42 11 (uN n q) n xs∧wr.grownBy w5 own∧(own=some q.1∨wr.heap.size≤q.1)
theorem nZ.cell {wr w:World} {i8 pU i11 mW B n:Nat} {own:Option Nat} {xs:List Value} {pO:Addr} {vv:Nat × Nat→Value} {cs:Array Value} {ty:TypeId} {D:Nat→Bool} {g:Ag} (h:nZ wr i8 pU i11 mW (vg wr B own n xs) pO vv cs ty D g w) {b j:Nat} {u:Value} (hb:b < wr.heap.size) (hne:own≠some b) (ha:pO.block≠b) (hc:wr.cell? ⟨b,j,none⟩=some u):w.cell? ⟨b,j,none⟩=some u:=by
 cases hp:g.p with
 | none=>exact ((h.pre hp).cell hb).trans hc
 | some q=>
   cases hd:D mW with
   | false=>exact (World.cell?_of_block (a:=⟨b,j,none⟩) ((h.post q hp hd).2.1.block b hb (fun e=>hne e.symm))).trans hc
   | true=>
     obtain ⟨w5,h1,rfl⟩:=h.fin q hp hd
     exact (World.cell?_of_block (a:=⟨b,j,none⟩) ((aO w5 pO (vv q) rfl ha).trans (h1.2.1.block b hb (fun e=>hne e.symm)))).trans hc
theorem oH {w w':World} {own:Option Nat} (h:Below w.heap.size w w'):w.grownBy w' own:=⟨h.os,h.tape,h.output,h.size,fun k hk _=>h.block k hk⟩
theorem yQ {B gD gT av:Nat} {wq w5 wz:World} {pre:List bU} {x:bU} {l:List aD} {s:aD} {q:Nat × Nat} (h:qB B wq gD gT av (pre++[x])) (hL:Am B gD wq gT pre x l (.slice x.bg l.length x.aT)) (hR:vg wq B (Value.slice x.bg l.length x.aT).ownBlock (l.length + 1) (l.flatMap aD.f++aD.f s) q w5) (hz:wz=w5.setCell ⟨gT,pre.length * 4 + 3,none⟩ (uN (l.length + 1) q)) (hs:ko s.h s.b s.e) (hI:s.I wz):
 Pr.At wz ⟨gQ,pre.map (fun y:bU=>y.t)++[{x.t with body:=x.t.body.app (.cons s.h s.b s.e .nil)}]⟩ (some ⟨gD,0,none⟩) (some ⟨gT,0,none⟩):=by
 obtain ⟨h1,h2,h3⟩:=hR
 have zZ:=(h.row.lt gT rfl).2
 have hne: ∀k,(Value.slice x.bg l.length x.aT).ownBlock=some k→k≠gT:=fun k e=>(hL.ne k e).1
 have hrow:w5.ownsRow B 35 4 (.slice (some ⟨gT,0,none⟩) (pre++[x]).length av) (pre++[x]).length ((pre++[x]).flatMap bU.f):=iA h.row (fun k e=>by
  have e:gT=k:=by injection e
  subst e
  exact h2.block gT zZ (fun e=>hne gT e.symm rfl)) (Nat.le_refl _)
 have hset:=zN (j:=3) (u:=uN (l.length + 1) q) (x':=(⟨{x.t with body:=aN (l++[s])},x.iQ,x.gy,some ⟨q.1,0,none⟩,q.2⟩:bU)) jL hrow (mM pre x) (by decide) (by simp [bU.f,uN,jK])
 rw [zx,← hz] at hset
 refine Am.more h hL (iA h1 (fun k e=>by
  have e:q.1=k:=by injection e
  rw [hz]
  exact aO _ _ _ rfl (by
   show gT≠k
   rcases h3 with h3 | h3
   ·rw [e] at h3; exact fun e'=>hne k h3 e'.symm
   ·omega)) (Nat.le_refl _)) (fun k k1 k2 k3=> ?_) (by rw [hz]; simpa [World.setCell] using h2.size) ?_ ⟨hs,hI⟩
 ·rw [hz]
  exact (aO _ _ _ rfl (fun e=>k3 (.inr (by show some gT=some k; rw [show gT=k from e])))).trans (h2.block k k2 (fun e=>k3 (.inl e.symm)))
 ·have e1:(pre++[x]).length=pre.length + 1:=by simp
  have e2: ∀y:bU,(pre++[y]).length=pre.length + 1:=fun y=>by simp
  rw [e1,e2] at hset
  exact hset
theorem F9 {B gD gT av:Nat} {wq w7 w9:World} {pre:List bU} {x:bU} {l:List aD} {s z:aD} {q:Nat × Nat} (h:qB B wq gD gT av (pre++[x])) (hL:Am B gD wq gT pre x l (.slice x.bg l.length x.aT)) (hR:vg wq B (Value.slice x.bg l.length x.aT).ownBlock (l.length + 1) (l.flatMap aD.f++aD.f z) q w7) (hz:w9=(w7.setCell ⟨gT,pre.length * 4 + 3,none⟩ (uN (l.length + 1) q)).setCells q.1 (l.length * 11) (aD.f s)):
 vg wq B (Value.slice x.bg l.length x.aT).ownBlock (l.length + 1) (l.flatMap aD.f++aD.f s) q (w7.setCells q.1 (l.length * 11) (aD.f s))∧w9=(w7.setCells q.1 (l.length * 11) (aD.f s)).setCell ⟨gT,pre.length * 4 + 3,none⟩ (uN (l.length + 1) q):=by
 obtain ⟨h1,h2,h3⟩:=hR
 have zZ:=(h.row.lt gT rfl).2
 have hne:q.1≠gT:=by
  rcases h3 with h3 | h3
  ·exact (hL.ne q.1 h3).1
  ·omega
 refine ⟨⟨zR h1 (og pQ l) rfl,?_,h3⟩,by rw [hz]; exact rW _ hne _ _ _⟩
 have hg:=kH q.1 (aD.f s) (l.length * 11) w7
 refine ⟨hg.os.trans h2.os,hg.tape.trans h2.tape,hg.output.trans h2.output,Nat.le_trans h2.size hg.size,fun k hk hkne=>(hg.block k (Nat.lt_of_lt_of_le hk h2.size) (fun e=> ?_)).trans (h2.block k hk hkne)⟩
 injection e with e
 rcases h3 with h3 | h3
 ·exact hkne (by rw [h3,e])
 ·omega
def xA:aD:=⟨⟨0,0,⟨#[]⟩,⟨#[]⟩,.nil,0,0,⟨#[]⟩,.nil⟩,.nil,.nil,gq⟩
def wQ (s:aD) (g:Nat):aD:=⟨⟨2,79,⟨#[]⟩,⟨#[]⟩,.nil,1,0,⟨#[]⟩,.nil⟩,aN [s],.nil,⟨none,0,none,0,some ⟨g,0,none⟩,1,none,0⟩⟩
theorem Ov (s:aD) (g:Nat):ko (wQ s g).h (wQ s g).b (wQ s g).e:=⟨by show aX 2; unfold aX; decide,by show aX 79; unfold aX; decide,jD,jD,nil_le,⟨by show aX 1; unfold aX; decide,ny,jD,nil_le⟩,by show (1:Nat)≤maxLen; unfold maxLen; decide,Nat.zero_le _⟩
theorem JU {wv wr:World} {sb:Nat} {s:aD} (hv:sb≤wv.heap.size) (hb:Below sb wv wr) (hx:wr.heap[sb]? =some (.cells (aD.f s).toArray 42 (0,0))) (hok:ko s.h s.b s.e) (hst:iX (sb + 1) wr s.I):
 Below sb wv ((World.setCells wr sb 0 (aD.f (wQ s wr.heap.size))).alloc (.cells (aD.f s).toArray 42))∧
 ((World.setCells wr sb 0 (aD.f (wQ s wr.heap.size))).alloc (.cells (aD.f s).toArray 42)).heap[sb]? =some (.cells (aD.f (wQ s wr.heap.size)).toArray 42 (0,0))∧
 iX (sb + 1) ((World.setCells wr sb 0 (aD.f (wQ s wr.heap.size))).alloc (.cells (aD.f s).toArray 42)) (wQ s wr.heap.size).I:=by
 have hlt:=(Array.getElem?_eq_some_iff.1 hx).1
 rw [oG _ _ _ _ _ hlt]
 have ha:=ay wr (.cells (aD.f s).toArray 42)
 have hx':=(ha.block sb hlt).trans hx
 have hn:=heap_alloc_new wr (.cells (aD.f s).toArray 42)
 generalize wr.alloc (.cells (aD.f s).toArray 42)=wa at *
 have hg:=kH sb (aD.f (wQ s wr.heap.size)) 0 wa
 have hab:mI (sb + 1) wr (World.setCells wa sb 0 (aD.f (wQ s wr.heap.size))):=(bT ha).trans ⟨hg.size,fun k h1 h2=>hg.block k h2 (fun e=>by injection e with e; omega)⟩
 refine ⟨(hb.trans (ha.mono (by omega))).trans ⟨hg.os,hg.tape,hg.output,hg.size,fun k hk=>hg.block k (by have:=ha.size; omega) (fun e=>by injection e with e; omega)⟩,yg hx' rfl,?_⟩
 have hbl:(World.setCells wa sb 0 (aD.f (wQ s wr.heap.size))).heap[wr.heap.size]? =some (.cells ([s].flatMap aD.f).toArray 42 (0,0)):=by
  rw [List.flatMap_singleton]
  exact (hg.block wr.heap.size (Array.getElem?_eq_some_iff.1 hn).1 (fun e=>by injection e with e; omega)).trans hn
 have hL:=zu (B:=sb + 1) (l:=[s]) hbl (by omega) (fun y hy=>by rw [List.mem_singleton.1 hy]; exact ⟨hok,hst.next hab⟩)
 exact fun w' h'=>⟨trivial,trivial,hL w' h',trivial⟩
theorem wH {ao:Option Addr} {n c m d k:Nat} (h:(Value.slice ao n c).ownBlock=some k):(Value.slice ao m d).ownBlock=some k:=by
 cases ao with
 | none=>cases h
 | some a=>exact h
end Go.Proofs.YtnknfoibmgphnaaDoor
end
section
set_option linter.unusedSimpArgs false
set_option linter.unusedVariables false
namespace Go.Proofs.YtnknfoibmgphnaaDoor
open Go.RowKit
open Md
theorem Df: ∀(a b:List Th) (n:Int),iw (a++b) n=iw b (iw a n)
 | [],_,_=>rfl
 | t ::r,b,n=>by rw [List.cons_append,iw,iw,Df r b]
theorem CY: ∀(l s:aR) (n:Int),lq (l.app s) n=lq s (lq l n)
 | .nil,_,_=>rfl
 | .cons h b e r,s,n=>by
   show lq (r.app s) _=lq s (lq r _)
   rw [CY r s]
def tH:aR→Int
 | .nil=>0
 | .cons _ b e r=>tH r + (lq b b.len + lq e e.len)
theorem rA (x y:Int):wrap64 (wrap64 x + y)=wrap64 (x + y):=by unfold wrap64; omega
theorem wJ: ∀(l:aR) (n:Int),wrap64 (lq l n)=wrap64 (n + tH l)
 | .nil,n=>by show wrap64 n=wrap64 (n + 0); rw [Int.add_zero]
 | .cons h b e r,n=>by
   show wrap64 (lq r (wrap64 (n + (lq b b.len + lq e e.len))))=wrap64 (n + (tH r + (lq b b.len + lq e e.len)))
   rw [wJ r,rA]
   congr 1; omega
theorem DN: ∀(a b:aR),(a.app b).len=a.len + b.len
 | .nil,b=>by show b.len=0 + b.len; omega
 | .cons h x e r,b=>by show (r.app b).len + 1=r.len + 1 + b.len; rw [DN r b]; omega
theorem JB (l s:aR):wrap64 (nO (l.app s))=wrap64 (nO l + (s.len + tH s)):=by
 unfold nO
 rw [CY,wJ,DN]
 have h1:=wJ l ((l.len + s.len:Nat):Int)
 have h2:=wJ l (l.len:Int)
 have e1:wrap64 (lq l ((l.len + s.len:Nat):Int) + tH s)=wrap64 (((l.len + s.len:Nat):Int) + tH l + tH s):=by rw [← rA,h1,rA]
 have e2:wrap64 (lq l (l.len:Int) + ((s.len:Int) + tH s))=wrap64 ((l.len:Int) + tH l + ((s.len:Int) + tH s)):=by rw [← rA,h2,rA]
 rw [e1,e2]
 congr 1; omega
theorem CV {a:List Th} {t t':Th} {s:aR} {c:Int} (hb:t'.body=t.body.app s) (hc:(s.len:Int) + tH s=c) (h0:0≤c) (h1:c≤10) (h:iw (a++[t]) 0≤50):iw (a++[t']) 0≤60:=by
 rw [Df] at h ⊢
 show wrap64 (iw a 0 + nO t'.body)≤60
 have h:wrap64 (iw a 0 + nO t.body)≤50:=h
 have e:wrap64 (iw a 0 + nO t'.body)=wrap64 (wrap64 (iw a 0 + nO t.body) + c):=by
  rw [hb,Int.add_comm,← rA,JB,rA,rA,hc]
  congr 1; omega
 rw [e]
 have: -9223372036854775808≤wrap64 (iw a 0 + nO t.body):=by unfold wrap64; omega
 unfold wrap64 at *; omega
theorem AV: ∀(l s:aR),eP (l.app s)=(eP l && eP s)
 | .nil,s=>by simp [aR.app,eP]
 | .cons h b e r,s=>by
   show eP (.cons h b e (r.app s))=_
   rw [eP,eP,AV r s]; simp only [Bool.and_assoc]
theorem D8 {p:Pr} (h0:(iV p).1=0) {a:List Th} {t:Th} (hts:p.ts=a++[t]):eP t.body=true:=by
 obtain ⟨h1,-⟩:=uR h0
 unfold lN at h1
 simp only [Bool.and_eq_true] at h1
 have:=List.all_eq_true.1 h1.1.2 t (by rw [hts]; simp)
 unfold kV at this
 simp only [Bool.and_eq_true] at this
 exact this.2
theorem LW {p:Pr} (hm:wE p) (h0:(iV p).1=0) {a:List Th} {t:Th} (hts:p.ts=a++[t]) (hc:iw p.ts 0≤50):iV ⟨p.ds,a++[{t with body:=t.body.app newS1}]⟩=(5,78):=
 Bq h0 hts newS1 5 78 {t with body:=t.body.app newS1} ⟨p.ds,a++[{t with body:=t.body.app newS1}]⟩ rfl rfl rfl rfl rfl (CV (c:=1) (s:=newS1) rfl (by decide +kernel) (by decide) (by decide) (by rw [← hts]; exact hc)) (by rw [AV,D8 h0 hts]; decide +kernel) (by decide) (fun j f g=>Tt hm j _ _ f g)
theorem LZ {p:Pr} (h0:(iV p).1=0) {a:List Th} {t:Th} (hts:p.ts=a++[t]) (hc:iw p.ts 0≤50):iV ⟨p.ds,a++[{t with body:=t.body.app (vo 6)}]⟩=(2,79):=
 Bq h0 hts (vo 6) 2 79 {t with body:=t.body.app (vo 6)} ⟨p.ds,a++[{t with body:=t.body.app (vo 6)}]⟩ rfl rfl rfl rfl rfl (CV (c:=7) (s:=vo 6) rfl (by decide +kernel) (by decide) (by decide) (by rw [← hts]; exact hc)) (by rw [AV,D8 h0 hts]; decide +kernel) (by decide) (fun j f g=>F4 p j _ _ f g 6 .nil rfl)
end Go.Proofs.YtnknfoibmgphnaaDoor
end
