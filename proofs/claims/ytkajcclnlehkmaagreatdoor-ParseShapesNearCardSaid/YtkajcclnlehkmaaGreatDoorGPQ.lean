/- From the rows' list of variables to the table of keywords in memory; a world that holds what the rows list. -/
import Derived.Test.YtkajcclnlehkmaaGreatDoorCards
import Derived.Test.YtkajcclnlehkmaaGreatDoorTie
import Derived.Test.YtkajcclnlehkmaaGreatDoorGA
import Derived.ProofKit
import Derived.OpenShut
import Derived.Deep.DeepHandedRow
import Derived.Lib.LaidTab
import Derived.Stop.LaidErr
set_option linter.unusedSimpArgs false
set_option linter.unusedVariables false
set_option maxHeartbeats 40000000
set_option maxRecDepth 1000000
namespace Go.Proofs.YtkajcclnlehkmaaGreatDoor
open Go.ChangeShapes Go.WideShapes Go.ChangeAt Go.RowKit
theorem own:ownKnob Tryz.prog.godebug=none:=by kernel_rfl
theorem DT {H:Type} {enc:TypeId × Value->H} {P:Program} {w:World} {base:Nat} {sp:Nat->Bool} {held:Bool} {fuel:Nat} {t e:TypeId} {n:Nat} {cs:List Value} {ls:List (List UInt8)} {p:List MemPlace}
 (ht:P.underlying t=some (.array n e)) (he:P.underlying e=some .string) (hce:P.cellsOf e=1) (hct:P.cellsOf t=n)
 (h:DataW.trod enc P w base sp held fuel t cs=some (.agg (ls.map fun b=> .lit (.string b)),p)):cs=ls.map fun b=>Value.string ⟨b.toArray⟩:=by
 obtain ⟨xs,m,_,hx,hlen,hxl,hat⟩:=DataW.trod_array ht h;rw [hct] at hlen;rw [hce] at hat;have hxs:xs.map (·.1)=ls.map fun b=>(DataW.lit (.string b):DataW H):=by have:=congrArg Prod.fst hx;simpa using this.symm
 have hll:ls.length=n:=by have:=congrArg List.length hxs;simp at this;omega
 apply List.ext_getElem?;intro i;by_cases hi:i < n
 ·have h1:=hat i hi;rw [Nat.mul_one,List.getElem?_eq_getElem (by omega)] at h1;obtain ⟨s,hc,hd,_⟩:=DataW.trod_string he h1;have hcs:cs[i]? =some (.string s):=by have:=congrArg (·[0]?) hc;simpa [List.getElem?_take,List.getElem?_drop] using this
  have h2:(xs.map (·.1))[i]? =some (DataW.lit (.string s.data.toList):DataW H):=by rw [List.getElem?_map,List.getElem?_eq_getElem (by omega),hd]; rfl
  rw [hxs,List.getElem?_map] at h2;obtain ⟨b,hb,e2⟩:=Option.map_eq_some_iff.1 h2;simp only [DataW.lit.injEq,Lit.string.injEq] at e2;rw [hcs,List.getElem?_map,hb,e2];rfl
 ·rw [List.getElem?_eq_none (by omega),List.getElem?_eq_none (by simp; omega)]
theorem LG:Tryz.prog.cellsOf 85=22:=by kernel_rfl
theorem Jj:Tryz.prog.cellsOf 9=1:=by kernel_rfl
theorem FE {W:World} {n:String} {rest:List (String × DataW Unit)} (hg:Tryz.prog.globalNamed n=some 0) (h:laidMet Tryz.prog ((n,Rows.laid_interleave_token_keywords) ::rest) W):dx W:=by
 obtain ⟨ps,⟨g',t',cs,fuel,p,q,hg',ht',hvar,hd,_,_⟩,_⟩:=h;obtain rfl:=Option.some.inj (hg.symm.trans hg');have hty:(Tryz.prog.globals[0]?).map (·.type)=some 85:=by kernel_rfl
 obtain rfl:=Option.some.inj (hty.symm.trans ht');have hcs:cs.toList=Tk.vH.map fun b=>Value.string ⟨b.toArray⟩:=DT (ls:=Tk.vH) Tryz.underlying85 Tryz.underlying9 Jj LG hd;have hkc:cs=wm:=by unfold wm; rw [<- hcs]
 subst hkc;unfold World.var? at hvar;rw [hg'] at hvar;simp only [Option.bind_some] at hvar;unfold dx;split at hvar
 ·rename_i c t fr hh;exact ⟨t,fr,by rw [hh]; rw [Option.some.inj hvar]⟩
 ·cases hvar
def KX:DataW Unit->List Value
 | .lit (.int k n)=>[.int k n]
 | .lit (.string s)=>[.string ⟨s.toArray⟩]
 | _=>[]
def KY:DataW Unit->List Value
 | .agg l=>l.flatMap KX
 | d=>KX d
def flat3:DataW Unit->Array Value
 | .agg l=>(l.flatMap KY).toArray
 | d=>(KY d).toArray
def lay (cs:Array Value):Obj->Obj
 | .cells _ t frozen=> .cells cs t frozen
 | o=>o
def H6 (l:List UInt8):Obj:= .cells #[.string ⟨l.toArray⟩] 161 (0,0)
def Jo:List UInt8:=[118,97,108,117,101,32,111,117,116,32,111,102,32,114,97,110,103,101]
def H7:List UInt8:=[105,110,118,97,108,105,100,32,115,121,110,116,97,120]
noncomputable def JE (h:Array Obj):Array Obj:=
 ((((((((((h.modify 0 (lay (flat3 Rows.laid_interleave_token_keywords))).modify 2 (lay (flat3 Rows.laid_unicode_utf8_first))).modify 3 (lay (flat3 Rows.laid_unicode_utf8_acceptRanges))).modify 6 (lay (flat3 Rows.laid_internal_strconv_uint64pow10))).modify 7 (lay (flat3 Rows.laid_math_bits_deBruijn32tab))).modify 8 (lay (flat3 Rows.laid_math_bits_deBruijn64tab))).modify 5 (lay #[.iface 159 (.pointer (some ⟨h.size,0,none⟩))])).modify 4 (lay #[.iface 159 (.pointer (some ⟨h.size + 1,0,none⟩))])).push (H6 Jo)).push (H6 H7))
noncomputable def vI (os:Os):World:=
 {World.holding Tryz.prog os ⟨#[],#[],[]⟩ with heap:=JE (World.holding Tryz.prog os ⟨#[],#[],[]⟩).heap}
theorem Tryz.laidOut:laidOutB Tryz.prog=true:=by kernel_rfl
end Go.Proofs.YtkajcclnlehkmaaGreatDoor
