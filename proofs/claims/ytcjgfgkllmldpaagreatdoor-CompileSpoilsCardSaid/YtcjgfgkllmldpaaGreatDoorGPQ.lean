/- From the rows' list of variables to the table of keywords in memory; a world that holds what the rows list. And what hangs on it. -/
import Derived.Test.YtcjgfgkllmldpaaGreatDoorCards
import Derived.Test.YtcjgfgkllmldpaaGreatDoorTie
import Derived.Test.YtcjgfgkllmldpaaGreatDoorGMB
set_option linter.unusedSimpArgs false
set_option linter.unusedVariables false
set_option maxHeartbeats 40000000
set_option maxRecDepth 1000000
namespace Go.Proofs.YtcjgfgkllmldpaaGreatDoor
open Go.ChangeShapes Go.WideShapes Go.ChangeAt Go.RowKit
theorem own:ownKnob Tryz.prog.godebug=none:=ahe
theorem WB {H:Type} {enc:TypeId×Value->H} {P:Program} {w:World} {base:Nat} {sp:Nat->Bool} {held:Bool} {fuel:Nat} {t e:TypeId} {n:Nat} {cs:List Value} {ls:List (List UInt8)} {p:List MemPlace}
 (ht:P.underlying t=some (.array n e)) (he:P.underlying e=some .string) (hce:P.cellsOf e=1) (hct:P.cellsOf t=n)
 (h:DataW.trod enc P w base sp held fuel t cs=some (.agg (ls.map λb=> .lit (.string b)),p)):cs=ls.map λb=>Value.string ⟨b.toArray⟩:=by
 obtain⟨xs,m,_,hx,hlen,hxl,hat⟩:=DataW.trod_array ht h;rw[hct]at hlen;rw[hce]at hat;have hxs:xs.map (·.1)=ls.map λb=>(DataW.lit (.string b):DataW H):=by have:=congrArg Prod.fst hx;simpa using this.symm
 have hll:ls.length=n:=by have:=congrArg List.length hxs;simp at this;omega
 apply List.ext_getElem?;intro i;by_cases hi:i<n
 ·have h1:=hat i hi;rw[Nat.mul_one,aX ahf]at h1;obtain⟨s,hc,hd,_⟩:=DataW.trod_string he h1;have hcs:cs[i]? =some (.string s):=by have:=congrArg (·[0]?) hc;simpa[List.getElem?_take,List.getElem?_drop]using this
  have h2:(xs.map (·.1))[i]? =some (DataW.lit (.string s.data.toList):DataW H):=by rw[List.getElem?_map,aX ahf,hd];rfl
  rw[hxs,List.getElem?_map]at h2;obtain⟨b,hb,e2⟩:=Option.map_eq_some_iff.1 h2;simp only[DataW.lit.injEq,Lit.string.injEq]at e2;rw[hcs,List.getElem?_map,hb,e2];rfl
 ·rw[List.getElem?_eq_none ahf,List.getElem?_eq_none ahi]
theorem aL6:Tryz.prog.cellsOf 179=22:=ahe
theorem au8:Tryz.prog.cellsOf 9=1:=ahe
theorem Zm {W:World} {n:String} {rest:List (String×DataW Unit)} (hg:Tryz.prog.globalNamed n=some 0) (h:laidMet Tryz.prog ((n,Rows.laid_interleave_token_keywords)::rest) W):eD W:=by
 obtain⟨ps,⟨g',t',cs,fuel,p,q,hg',ht',hvar,hd,_,_⟩,_⟩:=h;obtain rfl:=Option.some.inj (hg.symm.trans hg');have hty:(Tryz.prog.globals[0]?).map (·.type)=some 179:=ahe
 obtain rfl:=Option.some.inj (hty.symm.trans ht');have hcs:cs.toList=Tk.Ky.map λb=>Value.string ⟨b.toArray⟩:=WB (ls:=Tk.Ky) Tryz.underlying179 Tryz.underlying9 au8 aL6 hd;have hkc:cs=Ls:=by unfold Ls;rw[<- hcs]
 subst hkc;unfold World.var? at hvar;rw[hg']at hvar;simp only[Option.bind_some]at hvar;unfold eD;split at hvar
 ·rename_i c t fr hh;exact⟨t,fr,by rw[hh];rw[Option.some.inj hvar]⟩
 ·cases hvar
def aH1:DataW Unit->List Value
 | .lit (.int k n)=>[.int k n]
 | .lit (.string s)=>[.string ⟨s.toArray⟩]
 |_=>[]
def aH2:DataW Unit->List Value
 | .agg l=>l.flatMap aH1
 |d=>aH1 d
def flat3:DataW Unit->Array Value
 | .agg l=>(l.flatMap aH2).toArray
 |d=>(aH2 d).toArray
def lay (cs:Array Value):Obj->Obj
 | .cells _ t frozen=> .cells cs t frozen
 |o=>o
def af6 (l:List UInt8):Obj:= .cells #[.string ⟨l.toArray⟩] 263 (0,0)
def av0:List UInt8:=[118,97,108,117,101,32,111,117,116,32,111,102,32,114,97,110,103,101]
def af7:List UInt8:=[105,110,118,97,108,105,100,32,115,121,110,116,97,120]
noncomputable def ay2 (h:Array Obj):Array Obj:=
 ((((((((((h.modify 0 (lay (flat3 Rows.laid_interleave_token_keywords))).modify 2 (lay (flat3 Rows.laid_unicode_utf8_first))).modify 3 (lay (flat3 Rows.laid_unicode_utf8_acceptRanges))).modify 6 (lay (flat3 Rows.laid_internal_strconv_uint64pow10))).modify 7 (lay (flat3 Rows.laid_math_bits_deBruijn32tab))).modify 8 (lay (flat3 Rows.laid_math_bits_deBruijn64tab))).modify 5 (lay #[.iface 261 (.pointer (some ⟨h.size,0,none⟩))])).modify 4 (lay #[.iface 261 (.pointer (some ⟨h.size+1,0,none⟩))])).push (af6 av0)).push (af6 af7))
noncomputable def Kz (os:Os):World:=
 {World.holding Tryz.prog os ⟨#[],#[],[]⟩with heap:=ay2 (World.holding Tryz.prog os ⟨#[],#[],[]⟩).heap}
theorem Tryz.laidOut:laidOutB Tryz.prog=true:=ahe
open Md
section
variable {H:Type} {enc:TypeId×Value->H} {W:World} {base:Nat} {sp:Nat->Bool} {held:Bool}
end
open Go.WideMaps Go.WideElems
theorem aL7:Tryz.prog.cellsOf 5=1:=ahe
theorem ad9 {H:Type} {enc:TypeId×Value->H} {W:World} {base:Nat} {v:Value} {d:DataW H} {p:List MemPlace} (hv:Value.okWide Tryz.prog W .any base 22 v)
 (h:DataW.Trod enc Tryz.prog W 0 (λ_=>true) true 22 v d p) (hlt: ∀x∈p,x.block<W.heap.size):
 ∃(ao:Option Addr) (len cap:Nat) (zs:List Int),v= .slice ao len cap∧zs.length=len∧len<=maxLen∧FW W W.heap.size zs ao:=by
 obtain⟨a0,len,cap,rfl⟩:=okWide_slice Tryz.underlying22 hv;obtain⟨fuel,hf⟩:=h;rcases open_ints Tryz.underlying22 Tryz.underlying5 aL7 hf with⟨hcs,hx⟩|⟨a,len',cap',zs,hcs,_,hl,hm,hz,hx,hcell,hwz⟩
 ·simp[Value.cells]at hcs;obtain⟨rfl,rfl,rfl⟩:=hcs;exact⟨none,0,0,[],rfl,rfl,bC _,λk hk=>absurd hk ahh⟩
 ·simp[Value.cells]at hcs;obtain⟨rfl,rfl,rfl⟩:=hcs;simp only[Prod.mk.injEq]at hx;obtain⟨rfl,rfl⟩:=hx;simp only[if_true]at hz;refine⟨some a,len,cap,zs.take len,rfl,by rw[List.length_take];omega,ahf,λk hk=> ?_⟩;have hk':k<zs.length:=by rw[List.length_take]at hk;omega
  obtain⟨b,off,spot⟩:=a;have hspot:spot=none:=by simpa[Addr.add]using World.cell?_spot (hcell 0 ahf)
  subst hspot;have hbW:b<W.heap.size:=hlt (.cell b off) (MemPlace.mem_row.2 ⟨0,ahf,ahh⟩);have hb:=bounds_u8 (hwz zs[k] (List.getElem_mem hk'));refine⟨b,off,rfl,hbW,?_,?_⟩
  ·rw[<- add_plain,hcell k hk',List.getElem_take];simp[hk']
  ·rw[List.getElem_take];exact hb
end Go.Proofs.YtcjgfgkllmldpaaGreatDoor
