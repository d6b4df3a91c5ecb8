/- A program, an expression as an argument: from what the row reads to the data of this proof. And what hangs on it. -/
import Derived.Test.YtfbbaiejbjdfbaaGreatDoorGMA
import Derived.ProofKit
import Derived.OpenShut
import Derived.ChangeArms
import Derived.Deep.Slices
import Derived.Test.YtfbbaiejbjdfbaaGreatDoorCards
import Derived.Test.YtfbbaiejbjdfbaaGreatDoorTie
import Derived.Test.YtfbbaiejbjdfbaaGreatDoorGA
import Derived.Deep.DeepHandedRow
import Derived.Lib.LaidTab
import Derived.Stop.LaidErr
import Derived.Test.YtfbbaiejbjdfbaaGreatDoorGPA
set_option linter.unusedSimpArgs false
set_option linter.unusedVariables false
set_option maxHeartbeats 40000000
set_option maxRecDepth 1000000
namespace Go.Proofs.YtfbbaiejbjdfbaaGreatDoor
open Go.ChangeShapes Go.WideShapes Go.ChangeAt Go.RowKit
open Md
section
variable {H:Type} {enc:TypeId × Value->H} {W:World} {base:Nat} {sp:Nat->Bool} {held:Bool}
end
theorem own:ownKnob Tryz.prog.godebug=none:=by kernel_rfl
theorem Sy {H:Type} {enc:TypeId × Value->H} {P:Program} {w:World} {base:Nat} {sp:Nat->Bool} {held:Bool} {fuel:Nat} {t e:TypeId} {n:Nat} {cs:List Value} {ls:List (List UInt8)} {p:List MemPlace}
 (ht:P.underlying t=some (.array n e)) (he:P.underlying e=some .string) (hce:P.cellsOf e=1) (hct:P.cellsOf t=n)
 (h:DataW.trod enc P w base sp held fuel t cs=some (.agg (ls.map fun b=> .lit (.string b)),p)):cs=ls.map fun b=>Value.string ⟨b.toArray⟩:=by
 obtain ⟨xs,m,_,hx,hlen,hxl,hat⟩:=DataW.trod_array ht h;rw [hct] at hlen;rw [hce] at hat;have hxs:xs.map (·.1)=ls.map fun b=>(DataW.lit (.string b):DataW H):=by have:=congrArg Prod.fst hx;simpa using this.symm
 have hll:ls.length=n:=by have:=congrArg List.length hxs;simp at this;omega
 apply List.ext_getElem?;intro i;by_cases hi:i < n
 ·have h1:=hat i hi;rw [Nat.mul_one,List.getElem?_eq_getElem (by omega)] at h1;obtain ⟨s,hc,hd,_⟩:=DataW.trod_string he h1;have hcs:cs[i]? =some (.string s):=by have:=congrArg (·[0]?) hc;simpa [List.getElem?_take,List.getElem?_drop] using this
  have h2:(xs.map (·.1))[i]? =some (DataW.lit (.string s.data.toList):DataW H):=by rw [List.getElem?_map,List.getElem?_eq_getElem (by omega),hd]; rfl
  rw [hxs,List.getElem?_map] at h2;obtain ⟨b,hb,e2⟩:=Option.map_eq_some_iff.1 h2;simp only [DataW.lit.injEq,Lit.string.injEq] at e2;rw [hcs,List.getElem?_map,hb,e2];rfl
 ·rw [List.getElem?_eq_none (by omega),List.getElem?_eq_none (by simp; omega)]
theorem aj1:Tryz.prog.cellsOf 163=22:=by kernel_rfl
theorem Zi:Tryz.prog.cellsOf 9=1:=by kernel_rfl
theorem LK {W:World} {n:String} {rest:List (String × DataW Unit)} (hg:Tryz.prog.globalNamed n=some 0) (h:laidMet Tryz.prog ((n,Rows.laid_interleave_token_keywords) ::rest) W):fC W:=by
 obtain ⟨ps,⟨g',t',cs,fuel,p,q,hg',ht',hvar,hd,_,_⟩,_⟩:=h;obtain rfl:=Option.some.inj (hg.symm.trans hg');have hty:(Tryz.prog.globals[0]?).map (·.type)=some 163:=by kernel_rfl
 obtain rfl:=Option.some.inj (hty.symm.trans ht');have hcs:cs.toList=Tk.H6.map fun b=>Value.string ⟨b.toArray⟩:=Sy (ls:=Tk.H6) Tryz.underlying163 Tryz.underlying9 Zi aj1 hd;have hkc:cs=Iu:=by unfold Iu; rw [<- hcs]
 subst hkc;unfold World.var? at hvar;rw [hg'] at hvar;simp only [Option.bind_some] at hvar;unfold fC;split at hvar
 ·rename_i c t fr hh;exact ⟨t,fr,by rw [hh]; rw [Option.some.inj hvar]⟩
 ·cases hvar
def ae9:DataW Unit->List Value
 | .lit (.int k n)=>[.int k n]
 | .lit (.string s)=>[.string ⟨s.toArray⟩]
 | _=>[]
def af0:DataW Unit->List Value
 | .agg l=>l.flatMap ae9
 | d=>ae9 d
def flat3:DataW Unit->Array Value
 | .agg l=>(l.flatMap af0).toArray
 | d=>(af0 d).toArray
def lay (cs:Array Value):Obj->Obj
 | .cells _ t frozen=> .cells cs t frozen
 | o=>o
noncomputable def yJ (os:Os):World:=
 {World.holding Tryz.prog os ⟨#[],#[],[]⟩ with heap:=(World.holding Tryz.prog os ⟨#[],#[],[]⟩).heap.modify 0 (lay (flat3 Rows.laid_interleave_token_keywords))}
theorem Tryz.laidOut:laidOutB Tryz.prog=true:=by kernel_rfl
open Go.WideMaps Go.WideElems
theorem aj2:Tryz.prog.cellsOf 5=1:=by kernel_rfl
theorem NY {H:Type} {enc:TypeId × Value->H} {W:World} {base:Nat} {v:Value} {d:DataW H} {p:List MemPlace} (hv:Value.okWide Tryz.prog W .any base 22 v)
 (h:DataW.Trod enc Tryz.prog W 0 (fun _=>true) true 22 v d p) (hlt: ∀x ∈ p,x.block < W.heap.size):
 ∃(ao:Option Addr) (len cap:Nat) (zs:List Int),v= .slice ao len cap∧zs.length=len∧len<=maxLen∧FK W W.heap.size zs ao:=by
 obtain ⟨a0,len,cap,rfl⟩:=okWide_slice Tryz.underlying22 hv;obtain ⟨fuel,hf⟩:=h;rcases open_ints Tryz.underlying22 Tryz.underlying5 aj2 hf with ⟨hcs,hx⟩ | ⟨a,len',cap',zs,hcs,_,hl,hm,hz,hx,hcell,hwz⟩
 ·simp [Value.cells] at hcs;obtain ⟨rfl,rfl,rfl⟩:=hcs;exact ⟨none,0,0,[],rfl,rfl,Nat.zero_le _,fun k hk=>absurd hk (by simp)⟩
 ·simp [Value.cells] at hcs;obtain ⟨rfl,rfl,rfl⟩:=hcs;simp only [Prod.mk.injEq] at hx;obtain ⟨rfl,rfl⟩:=hx;simp only [if_true] at hz;refine ⟨some a,len,cap,zs.take len,rfl,by rw [List.length_take]; omega,by omega,fun k hk=> ?_⟩;have hk':k < zs.length:=by rw [List.length_take] at hk; omega
  obtain ⟨b,off,spot⟩:=a;have hspot:spot=none:=by simpa [Addr.add] using World.cell?_spot (hcell 0 (by omega))
  subst hspot;have hbW:b < W.heap.size:=hlt (.cell b off) (MemPlace.mem_row.2 ⟨0,by omega,by simp⟩);have hb:=bounds_u8 (hwz zs[k] (List.getElem_mem hk'));refine ⟨b,off,rfl,hbW,?_,?_⟩
  ·rw [<- add_plain,hcell k hk',List.getElem_take];simp [hk']
  ·rw [List.getElem_take]; exact hb
end Go.Proofs.YtfbbaiejbjdfbaaGreatDoor
