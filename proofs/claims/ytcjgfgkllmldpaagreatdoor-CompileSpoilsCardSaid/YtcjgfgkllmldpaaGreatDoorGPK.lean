/- Contract of the maker's decls: nine shaped declarations in a new block. And what hangs on it. -/
import Derived.Test.YtcjgfgkllmldpaaGreatDoorGR0
import Derived.Test.YtcjgfgkllmldpaaGreatDoorGPI
set_option linter.unusedSimpArgs false
set_option linter.unusedVariables false
set_option maxHeartbeats 40000000
set_option maxRecDepth 1000000
namespace Go.Proofs.YtcjgfgkllmldpaaGreatDoor
open Go.RowKit
open Md
def ow:List De:=[⟨1,0,⟨#[120]⟩,0,0,⟨#[]⟩⟩,⟨1,0,⟨#[121]⟩,0,1,⟨#[]⟩⟩,⟨2,0,⟨#[118]⟩,0,0,⟨#[]⟩⟩,⟨1,0,⟨#[113]⟩,2,0,⟨#[]⟩⟩,⟨3,0,⟨#[109]⟩,0,0,⟨#[]⟩⟩,⟨3,0,⟨#[110]⟩,0,0,⟨#[]⟩⟩,⟨4,0,⟨#[114]⟩,0,0,⟨#[]⟩⟩,⟨5,0,⟨#[99]⟩,0,0,⟨#[109]⟩⟩,⟨6,0,⟨#[102]⟩,0,0,⟨#[]⟩⟩]
theorem aM2: ∀d∈ow,d.Ok∧jF d=true:=by
 intro d hd;simp only[ow,List.mem_cons,List.not_mem_nil,or_false]at hd;rcases hd with rfl|rfl|rfl|rfl|rfl|rfl|rfl|rfl|rfl <;> exact⟨⟨ae8,ae8,afa,ae8,ae8,afa⟩,aix⟩
def bn3 (w:World) (e:Ending) (w':World):Prop:= ∃g,e= .returned (.slice (some ⟨g,0,none⟩) 9 9)∧w.heap.size<=g∧w'.heap[g]? =some (.cells (ow.flatMap sF).toArray 118 (0,0))∧Below w.heap.size w w'
theorem QY (w:World):Calls Tryz.prog 21 #[] w (bn3 w):=by
 go_enter Tryz.func21,Tryz.ntmps21;go_wp2;go_ret;refine⟨_,rfl,?_,?_,?_⟩
 ·exact aD _
 ·exact heap_alloc_new _ _
 ·exact aA _ _
theorem Grow.made {α:Type} {f:α->List Value} {m:Nat} {ty:TypeId} {B:Nat} {W:World} {g n:Nat} {xs:List α} (hf: ∀x,(f x).length=m) (h:W.heap[g]? =some (.cells (xs.flatMap f).toArray ty (0,0))) (hB:B<=g) (hn:xs.length=n) (hm:n<=maxLen):Grow f m (λ_ _=>True) ty B W (.slice (some ⟨g,0,none⟩) n n) xs:=by
 subst hn;have hl:=rW hf xs;refine⟨⟨hl,.inr ⟨g,xs.length,_,rfl,hB,h,aD _,hm,ah8,?_⟩⟩,λx hx _ _=>trivial⟩;exact List.take_of_length_le (by simpa using Nat.le_of_eq hl)
section
variable {p p':Pr} (hm:mean p'=mean p)
include hm
end
def O8:ByteArray:=⟨#[109,97,105,110]⟩
def bT1:ByteArray:=⟨#[116,49]⟩
def bT2:ByteArray:=⟨#[116,50]⟩
def bT3:ByteArray:=⟨#[116,51]⟩
def Ce:List ByteArray:=[⟨#[97]⟩,⟨#[98]⟩]
structure aF8 (p:Pr):Prop where
 ds:p.ds=ow
 ts: ∃n,n<=4∧1<=n∧p.ts.map (·.nm)=[O8,bT1,bT2,bT3].take n
 lc: ∀t∈p.ts,t.cZ=Ce
theorem Lc: ∀(a b:bf),(a.app b).len=a.len+b.len
 | .nil,b=>by simp[bf.app,bf.len]
 | .cons _ _ _ r,b=>by rw[bf.app,bf.len,bf.len,Lc r b];omega
end Go.Proofs.YtcjgfgkllmldpaaGreatDoor
