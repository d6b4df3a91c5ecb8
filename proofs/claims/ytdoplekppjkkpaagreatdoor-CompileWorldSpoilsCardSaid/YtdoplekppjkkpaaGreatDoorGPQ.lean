/- From the rows' list of variables to the table of keywords in memory; a world that holds what the rows list. And what hangs on it. -/
import Derived.Test.YtdoplekppjkkpaaGreatDoorCards
import Derived.Test.YtdoplekppjkkpaaGreatDoorTie
import Derived.Test.YtdoplekppjkkpaaGreatDoorGMB
set_option linter.unusedSimpArgs false
set_option linter.unusedVariables false
set_option maxHeartbeats 40000000
set_option maxRecDepth 1000000
namespace Go.Proofs.YtdoplekppjkkpaaGreatDoor
open Go.ChangeShapes Go.WideShapes Go.ChangeAt Go.RowKit
theorem own:ownKnob Tryz.prog.godebug=none:=agG
theorem T9 {H:Type} {enc:TypeId×Value->H} {P:Program} {w:World} {base:Nat} {sp:Nat->Bool} {held:Bool} {fuel:Nat} {t e:TypeId} {n:Nat} {cs:List Value} {ls:List (List UInt8)} {p:List MemPlace}
 (ht:P.underlying t=some (.array n e)) (he:P.underlying e=some .string) (hce:P.cellsOf e=1) (hct:P.cellsOf t=n)
 (h:DataW.trod enc P w base sp held fuel t cs=some (.agg (ls.map λb=> .lit (.string b)),p)):cs=ls.map λb=>Value.string ⟨b.toArray⟩:=by
 obtain⟨xs,m,_,hx,hlen,hxl,hat⟩:=DataW.trod_array ht h;rw[hct]at hlen;rw[hce]at hat;have hxs:xs.map (·.1)=ls.map λb=>(DataW.lit (.string b):DataW H):=by have:=congrArg Prod.fst hx;simpa using this.symm
 have hll:ls.length=n:=by have:=congrArg List.length hxs;simp at this;omega
 apply List.ext_getElem?;intro i;by_cases hi:i<n
 ·have h1:=hat i hi;rw[Nat.mul_one,bC agH]at h1;obtain⟨s,hc,hd,_⟩:=DataW.trod_string he h1;have hcs:cs[i]? =some (.string s):=by have:=congrArg (·[0]?) hc;simpa[List.getElem?_take,List.getElem?_drop]using this
  have h2:(xs.map (·.1))[i]? =some (DataW.lit (.string s.data.toList):DataW H):=by rw[List.getElem?_map,bC agH,hd];rfl
  rw[hxs,List.getElem?_map]at h2;obtain⟨b,hb,e2⟩:=Option.map_eq_some_iff.1 h2;simp only[DataW.lit.injEq,Lit.string.injEq]at e2;rw[hcs,List.getElem?_map,hb,e2];rfl
 ·rw[List.getElem?_eq_none agH,List.getElem?_eq_none agK]
theorem au9:Tryz.prog.cellsOf 148=22:=agG
theorem aa0:Tryz.prog.cellsOf 9=1:=agG
theorem VH {W:World} {n:String} {rest:List (String×DataW Unit)} (hg:Tryz.prog.globalNamed n=some 0) (h:laidMet Tryz.prog ((n,Rows.laid_interleave_token_keywords)::rest) W):dW W:=by
 obtain⟨ps,⟨g',t',cs,fuel,p,q,hg',ht',hvar,hd,_,_⟩,_⟩:=h;obtain rfl:=Option.some.inj (hg.symm.trans hg');have hty:(Tryz.prog.globals[0]?).map (·.type)=some 148:=agG
 obtain rfl:=Option.some.inj (hty.symm.trans ht');have hcs:cs.toList=Tk.Iw.map λb=>Value.string ⟨b.toArray⟩:=T9 (ls:=Tk.Iw) Tryz.underlying148 Tryz.underlying9 aa0 au9 hd;have hkc:cs=Jc:=by unfold Jc;rw[<- hcs]
 subst hkc;unfold World.var? at hvar;rw[hg']at hvar;simp only[Option.bind_some]at hvar;unfold dW;split at hvar
 ·rename_i c t fr hh;exact⟨t,fr,by rw[hh];rw[Option.some.inj hvar]⟩
 ·cases hvar
def ap7:DataW Unit->List Value
 | .lit (.int k n)=>[.int k n]
 | .lit (.string s)=>[.string ⟨s.toArray⟩]
 |_=>[]
def ap8:DataW Unit->List Value
 | .agg l=>l.flatMap ap7
 |d=>ap7 d
def flat3:DataW Unit->Array Value
 | .agg l=>(l.flatMap ap8).toArray
 |d=>(ap8 d).toArray
def lay (cs:Array Value):Obj->Obj
 | .cells _ t frozen=> .cells cs t frozen
 |o=>o
def Xy (l:List UInt8):Obj:= .cells #[.string ⟨l.toArray⟩] 258 (0,0)
def aa9:List UInt8:=[118,97,108,117,101,32,111,117,116,32,111,102,32,114,97,110,103,101]
def Xz:List UInt8:=[105,110,118,97,108,105,100,32,115,121,110,116,97,120]
noncomputable def ad9 (h:Array Obj):Array Obj:=
 ((((((((((h.modify 0 (lay (flat3 Rows.laid_interleave_token_keywords))).modify 2 (lay (flat3 Rows.laid_unicode_utf8_first))).modify 3 (lay (flat3 Rows.laid_unicode_utf8_acceptRanges))).modify 6 (lay (flat3 Rows.laid_internal_strconv_uint64pow10))).modify 7 (lay (flat3 Rows.laid_math_bits_deBruijn32tab))).modify 8 (lay (flat3 Rows.laid_math_bits_deBruijn64tab))).modify 5 (lay #[.iface 256 (.pointer (some ⟨h.size,0,none⟩))])).modify 4 (lay #[.iface 256 (.pointer (some ⟨h.size+1,0,none⟩))])).push (Xy aa9)).push (Xy Xz))
noncomputable def Iy (os:Os):World:=
 {World.holding Tryz.prog os ⟨#[],#[],[]⟩with heap:=ad9 (World.holding Tryz.prog os ⟨#[],#[],[]⟩).heap}
theorem Tryz.laidOut:laidOutB Tryz.prog=true:=agG
open Md
section
variable {H:Type} {enc:TypeId×Value->H} {W:World} {base:Nat} {sp:Nat->Bool} {held:Bool}
end
open Go.WideMaps Go.WideElems
theorem av0:Tryz.prog.cellsOf 5=1:=agG
theorem Xh {H:Type} {enc:TypeId×Value->H} {W:World} {base:Nat} {v:Value} {d:DataW H} {p:List MemPlace} (hv:Value.okWide Tryz.prog W .any base 22 v)
 (h:DataW.Trod enc Tryz.prog W 0 (λ_=>true) true 22 v d p) (hlt: ∀x∈p,x.block<W.heap.size):
 ∃(ao:Option Addr) (len cap:Nat) (zs:List Int),v= .slice ao len cap∧zs.length=len∧len<=maxLen∧FX W W.heap.size zs ao:=by
 obtain⟨a0,len,cap,rfl⟩:=okWide_slice Tryz.underlying22 hv;obtain⟨fuel,hf⟩:=h;rcases open_ints Tryz.underlying22 Tryz.underlying5 av0 hf with⟨hcs,hx⟩|⟨a,len',cap',zs,hcs,_,hl,hm,hz,hx,hcell,hwz⟩
 ·simp[Value.cells]at hcs;obtain⟨rfl,rfl,rfl⟩:=hcs;exact⟨none,0,0,[],rfl,rfl,bF _,λk hk=>absurd hk agJ⟩
 ·simp[Value.cells]at hcs;obtain⟨rfl,rfl,rfl⟩:=hcs;simp only[Prod.mk.injEq]at hx;obtain⟨rfl,rfl⟩:=hx;simp only[if_true]at hz;refine⟨some a,len,cap,zs.take len,rfl,by rw[List.length_take];omega,agH,λk hk=> ?_⟩;have hk':k<zs.length:=by rw[List.length_take]at hk;omega
  obtain⟨b,off,spot⟩:=a;have hspot:spot=none:=by simpa[Addr.add]using World.cell?_spot (hcell 0 agH)
  subst hspot;have hbW:b<W.heap.size:=hlt (.cell b off) (MemPlace.mem_row.2 ⟨0,agH,agJ⟩);have hb:=bounds_u8 (hwz zs[k] (List.getElem_mem hk'));refine⟨b,off,rfl,hbW,?_,?_⟩
  ·rw[<- add_plain,hcell k hk',List.getElem_take];simp[hk']
  ·rw[List.getElem_take];exact hb
end Go.Proofs.YtdoplekppjkkpaaGreatDoor
