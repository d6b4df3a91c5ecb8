/- From the rows' list of variables to the table of keywords in memory; a world that holds what the rows list. -/
import Derived.Test.YtkmllehjemjgpaaGreatDoorCards
import Derived.Test.YtkmllehjemjgpaaGreatDoorTie
import Derived.Test.YtkmllehjemjgpaaGreatDoorGA
import Derived.ProofKit
import Derived.OpenShut
import Derived.Deep.DeepHandedRow
import Derived.Lib.LaidTab
import Derived.Stop.LaidErr
set_option linter.unusedSimpArgs false
set_option linter.unusedVariables false
set_option maxHeartbeats 40000000
set_option maxRecDepth 1000000
namespace Go.Proofs.YtkmllehjemjgpaaGreatDoor
open Go.ChangeShapes Go.WideShapes Go.ChangeAt Go.RowKit
theorem own:ownKnob Tryz.prog.godebug=none:=by kernel_rfl
theorem PY {H:Type} {enc:TypeId×Value->H} {P:Program} {w:World} {base:Nat} {sp:Nat->Bool} {held:Bool} {fuel:Nat} {t e:TypeId} {n:Nat} {cs:List Value} {ls:List (List UInt8)} {p:List MemPlace}
 (ht:P.underlying t=some (.array n e)) (he:P.underlying e=some .string) (hce:P.cellsOf e=1) (hct:P.cellsOf t=n)
 (h:DataW.trod enc P w base sp held fuel t cs=some (.agg (ls.map λb=> .lit (.string b)),p)):cs=ls.map λb=>Value.string ⟨b.toArray⟩:=by
 obtain⟨xs,m,_,hx,hlen,hxl,hat⟩:=DataW.trod_array ht h;rw[hct]at hlen;rw[hce]at hat;have hxs:xs.map (·.1)=ls.map λb=>(DataW.lit (.string b):DataW H):=by have:=congrArg Prod.fst hx;simpa using this.symm
 have hll:ls.length=n:=by have:=congrArg List.length hxs;simp at this;omega
 apply List.ext_getElem?;intro i;by_cases hi:i<n
 ·have h1:=hat i hi;rw[Nat.mul_one,List.getElem?_eq_getElem (by omega)]at h1;obtain⟨s,hc,hd,_⟩:=DataW.trod_string he h1;have hcs:cs[i]? =some (.string s):=by have:=congrArg (·[0]?) hc;simpa[List.getElem?_take,List.getElem?_drop]using this
  have h2:(xs.map (·.1))[i]? =some (DataW.lit (.string s.data.toList):DataW H):=by rw[List.getElem?_map,List.getElem?_eq_getElem (by omega),hd];rfl
  rw[hxs,List.getElem?_map]at h2;obtain⟨b,hb,e2⟩:=Option.map_eq_some_iff.1 h2;simp only[DataW.lit.injEq,Lit.string.injEq]at e2;rw[hcs,List.getElem?_map,hb,e2];rfl
 ·rw[List.getElem?_eq_none (by omega),List.getElem?_eq_none (by simp;omega)]
theorem ab6:Tryz.prog.cellsOf 161=22:=by kernel_rfl
theorem Xu:Tryz.prog.cellsOf 9=1:=by kernel_rfl
theorem SB {W:World} {n:String} {rest:List (String×DataW Unit)} (hg:Tryz.prog.globalNamed n=some 0) (h:laidMet Tryz.prog ((n,Rows.laid_interleave_token_keywords)::rest) W):dD W:=by
 obtain⟨ps,⟨g',t',cs,fuel,p,q,hg',ht',hvar,hd,_,_⟩,_⟩:=h;obtain rfl:=Option.some.inj (hg.symm.trans hg');have hty:(Tryz.prog.globals[0]?).map (·.type)=some 161:=by kernel_rfl
 obtain rfl:=Option.some.inj (hty.symm.trans ht');have hcs:cs.toList=Tk.Fq.map λb=>Value.string ⟨b.toArray⟩:=PY (ls:=Tk.Fq) Tryz.underlying161 Tryz.underlying9 Xu ab6 hd;have hkc:cs=Gc:=by unfold Gc;rw[<- hcs]
 subst hkc;unfold World.var? at hvar;rw[hg']at hvar;simp only[Option.bind_some]at hvar;unfold dD;split at hvar
 ·rename_i c t fr hh;exact⟨t,fr,by rw[hh];rw[Option.some.inj hvar]⟩
 ·cases hvar
def ZB:DataW Unit->List Value
 | .lit (.int k n)=>[.int k n]
 | .lit (.string s)=>[.string ⟨s.toArray⟩]
 |_=>[]
def ZC:DataW Unit->List Value
 | .agg l=>l.flatMap ZB
 |d=>ZB d
def flat3:DataW Unit->Array Value
 | .agg l=>(l.flatMap ZC).toArray
 |d=>(ZC d).toArray
def lay (cs:Array Value):Obj->Obj
 | .cells _ t frozen=> .cells cs t frozen
 |o=>o
def UE (l:List UInt8):Obj:= .cells #[.string ⟨l.toArray⟩] 243 (0,0)
def XE:List UInt8:=[118,97,108,117,101,32,111,117,116,32,111,102,32,114,97,110,103,101]
def UF:List UInt8:=[105,110,118,97,108,105,100,32,115,121,110,116,97,120]
noncomputable def Yg (h:Array Obj):Array Obj:=
 ((((((((((h.modify 0 (lay (flat3 Rows.laid_interleave_token_keywords))).modify 2 (lay (flat3 Rows.laid_unicode_utf8_first))).modify 3 (lay (flat3 Rows.laid_unicode_utf8_acceptRanges))).modify 6 (lay (flat3 Rows.laid_internal_strconv_uint64pow10))).modify 7 (lay (flat3 Rows.laid_math_bits_deBruijn32tab))).modify 8 (lay (flat3 Rows.laid_math_bits_deBruijn64tab))).modify 5 (lay #[.iface 241 (.pointer (some ⟨h.size,0,none⟩))])).modify 4 (lay #[.iface 241 (.pointer (some ⟨h.size+1,0,none⟩))])).push (UE XE)).push (UE UF))
noncomputable def Fu (os:Os):World:=
 {World.holding Tryz.prog os ⟨#[],#[],[]⟩with heap:=Yg (World.holding Tryz.prog os ⟨#[],#[],[]⟩).heap}
theorem Tryz.laidOut:laidOutB Tryz.prog=true:=by kernel_rfl
end Go.Proofs.YtkmllehjemjgpaaGreatDoor
