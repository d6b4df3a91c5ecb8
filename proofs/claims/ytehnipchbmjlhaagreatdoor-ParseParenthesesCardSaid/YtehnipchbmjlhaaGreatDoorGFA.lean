/-
  Plain functions of the printer: the texts of expressions, statements, declarations, programs. No program in sight.
  Contracts of the printer's sign, put, Expr at shaped expressions.
  Contracts of the printer's put and Expr at shaped expressions.
-/
import Derived.Test.YtehnipchbmjlhaaGreatDoorGMA
import Derived.Lib.ItoaLen
import Derived.Lib.AppendIntMem
import Derived.Test.YtehnipchbmjlhaaGreatDoorGMO
import Derived.Test.YtehnipchbmjlhaaGreatDoorGMB
import Derived.Test.YtehnipchbmjlhaaGreatDoorShelf
import Derived.mF
import Derived.Sort.AtCall
import Derived.Deep.RegionWith
section
namespace Go.Proofs.YtehnipchbmjlhaaGreatDoor.Fm
open Go.RowKit Md
def jJ (op:Int):ByteArray:=
 if op == 4 then ⟨#[45]⟩ else if op == 5 then ⟨#[33]⟩ else if op == 6 then ⟨#[43]⟩ else if op == 7 then ⟨#[45]⟩ else if op == 8 then ⟨#[42]⟩ else if op == 9 then ⟨#[47]⟩ else if op == 10 then ⟨#[37]⟩
 else if op == 11 then ⟨#[61,61]⟩ else if op == 12 then ⟨#[33,61]⟩ else if op == 13 then ⟨#[60]⟩ else if op == 14 then ⟨#[60,61]⟩ else if op == 15 then ⟨#[62]⟩ else if op == 16 then ⟨#[62,61]⟩
 else if op == 17 then ⟨#[38,38]⟩ else if op == 18 then ⟨#[124,124]⟩ else ⟨#[]⟩
def dZ (op:Int):Int:=
 if op == 4 || op == 5 then 6 else if op == 6 || op == 7 then 4 else if op == 8 || op == 9 || op == 10 then 5
 else if op == 11 || op == 12 || op == 13 || op == 14 || op == 15 || op == 16 then 3 else if op == 17 then 2 else if op == 18 then 1 else 7
def kW (n:Int):ByteArray:=⟨(Lib.itoa n).toArray⟩
def F7 (b:ByteArray):ByteArray:=(⟨#[40]⟩++b)++⟨#[41]⟩
def jL (x:Int × ByteArray) (lv:Int):ByteArray:=if dZ x.1 < lv then F7 x.2 else x.2
def Lm (op n:Int) (nm:ByteArray) (ks:List (Int × ByteArray)):ByteArray:=
 if op == 1 then kW n else if op == 2 then nm else
 match ks with
 | [a]=>if op == 3 then ((nm++⟨#[91]⟩)++a.2)++⟨#[93]⟩ else if dZ op == 6 then jJ op++jL a 6 else ⟨#[]⟩
 | [a,b]=>if dZ op < 6 then (((jL a (if dZ op == 3 then 4 else dZ op)++⟨#[32]⟩)++jJ op)++⟨#[32]⟩)++jL b (dZ op + 1) else ⟨#[]⟩
 | _=>⟨#[]⟩
def Hu:aH→List (Int × ByteArray)
 | .nil=>[]
 | .cons op n nm kids rest=>(op,Lm op n nm (Hu kids)) ::Hu rest
def bf (op n:Int) (nm:ByteArray) (kids:aH):ByteArray:=Lm op n nm (Hu kids)
def iD (op:Int):ByteArray:=
 if op == 2 then ⟨#[105,102]⟩ else if op == 3 then ⟨#[119,104,105,108,101]⟩ else if op == 4 then ⟨#[108,111,99,107]⟩ else if op == 5 then ⟨#[114,101,97,100]⟩ else if op == 6 then ⟨#[119,114,105,116,101]⟩
 else if op == 7 then ⟨#[116,114,97,110,115,97,99,116,105,111,110]⟩ else if op == 8 then ⟨#[97,116,111,109,105,99]⟩ else if op == 9 then ⟨#[119,97,105,116]⟩ else if op == 10 then ⟨#[110,111,116,105,102,121]⟩
 else if op == 11 then ⟨#[110,111,116,105,102,121,97,108,108]⟩ else if op == 12 then ⟨#[115,112,97,119,110]⟩ else if op == 13 then ⟨#[106,111,105,110]⟩ else if op == 14 then ⟨#[115,101,116]⟩ else if op == 15 then ⟨#[103,101,116]⟩ else ⟨#[]⟩
def oo (k:Int):ByteArray:=
 if k == 1 then ⟨#[118,97,114]⟩ else if k == 2 then ⟨#[118,111,108,97,116,105,108,101]⟩ else if k == 3 then ⟨#[109,117,116,101,120]⟩ else if k == 4 then ⟨#[114,119,108,111,99,107]⟩ else if k == 5 then ⟨#[99,111,110,100]⟩ else if k == 6 then ⟨#[102,117,116,117,114,101]⟩ else ⟨#[]⟩
def lV:Nat→ByteArray
 | 0=>⟨#[]⟩
 | n + 1=>lV n++⟨#[32,32]⟩
def xB (h:aW):ByteArray:=bf h.bP h.xn h.bM h.aJ
def X9 (h:aW):ByteArray:=match h.idx with
 | .nil=>⟨#[]⟩
 | .cons op n nm kids _=>(⟨#[91]⟩++bf op n nm kids)++⟨#[93]⟩
def eD (h:aW):ByteArray:=
 if h.op == 1 then (((h.nm++X9 h)++⟨#[32,61,32]⟩)++xB h)++⟨#[59]⟩
 else if h.op == 2 || h.op == 3 then ((iD h.op++⟨#[32]⟩)++xB h)++⟨#[32,123]⟩
 else if h.op == 4 || h.op == 5 || h.op == 6 then ((iD h.op++⟨#[32]⟩)++h.nm)++⟨#[32,123]⟩
 else if h.op == 7 || h.op == 8 then iD h.op++⟨#[32,123]⟩
 else if h.op == 14 then ((((iD h.op++⟨#[32]⟩)++h.nm)++⟨#[32]⟩)++xB h)++⟨#[59]⟩
 else if h.op == 15 then ((((iD h.op++⟨#[32]⟩)++h.nm)++⟨#[32]⟩)++h.arg)++⟨#[59]⟩
 else ((iD h.op++⟨#[32]⟩)++h.nm)++⟨#[59]⟩
def Pt:ByteArray:=⟨#[125,32,101,108,115,101,32,123,10]⟩
def iy:aI→Bool
 | .nil=>true
 | .cons .. =>false
def Fb (d:Nat) (h:aW) (b e:ByteArray) (ne:Bool):ByteArray:=
 if h.op < 1 || 15 < h.op then ⟨#[]⟩ else
 if h.op < 2 || 8 < h.op then (lV d++eD h)++⟨#[10]⟩ else
 if ne then ((((lV d++eD h)++⟨#[10]⟩)++b)++lV d)++⟨#[125,10]⟩
 else (((((((lV d++eD h)++⟨#[10]⟩)++b)++lV d)++Pt)++e)++lV d)++⟨#[125,10]⟩
def jR:aI→Nat→ByteArray
 | .nil,_=>⟨#[]⟩
 | .cons h b e r,d=>Fb d h (jR b (d + 1)) (jR e (d + 1)) (iy e)++jR r d
def OJ (d:Nat) (h:aW) (b e:aI):ByteArray:=Fb d h (jR b (d + 1)) (jR e (d + 1)) (iy e)
def BQ (d:De):ByteArray:=
 if d.kind < 1 || 6 < d.kind then ⟨#[]⟩ else
 let s1:=(oo d.kind++⟨#[32]⟩)++d.nm
 let s2:=if 0 < d.size then ((s1++⟨#[91]⟩)++kW d.size)++⟨#[93]⟩ else s1
 let s3:=if d.init != 0 then (s2++⟨#[32,61,32]⟩)++kW d.init else s2
 let s4:=if d.kind == 5 then (s3++⟨#[32]⟩)++d.on else s3
 s4++⟨#[59,10]⟩
def Ag:List De→ByteArray
 | []=>⟨#[]⟩
 | d ::r=>BQ d++Ag r
def pz (first:Bool):List ByteArray→ByteArray
 | []=>⟨#[]⟩
 | s ::r=>(if first then s else ⟨#[44,32]⟩++s)++pz false r
def F9 (t:Th):ByteArray:=((((((⟨#[116,104,114,101,97,100,32]⟩++t.nm)++⟨#[40]⟩)++pz true t.cB)++⟨#[41,32,123,10]⟩)++jR t.body 1)++⟨#[125,10]⟩)
def tH:List Th→ByteArray
 | []=>⟨#[]⟩
 | t ::r=>F9 t++tH r
def rQ (p:Pr):ByteArray:=Ag p.ds++tH p.ts
end Go.Proofs.YtehnipchbmjlhaaGreatDoor.Fm
end
section
set_option linter.unusedSimpArgs false
set_option linter.unusedVariables false
namespace Go.Proofs.YtehnipchbmjlhaaGreatDoor
open Go.RowKit
open Md Fm
def iM (w:World):Prop:=Lib.TabIs Tryz.prog w "internal/strconv.uint64pow10" .u64 Lib.pow10Tab
theorem Qn:Tryz.prog.globalNamed "internal/strconv.uint64pow10" =some 1:=by kernel_rfl
theorem iM.next {w w':World} (h:iM w) (hb:Below w.heap.size w w'):iM w':=Lib.tabBelow_of_tabIs h w' hb
theorem BA (n:Int) (h0: -9223372036854775808≤n) (h1:n≤9223372036854775807) (w:World) (ht:iM w):
 Calls Tryz.prog 49 #[.int .i64 n,.int .i64 10] w fun e w'=>e= .returned (.string (kW n))∧Below w.heap.size w w':=
 (Tryz.strconv_FormatInt_10 n h0 h1 w ht).mono fun _ _ ⟨he,k,os,hw⟩=>⟨he,hw ▸ Lib.below_grow _ w (Nat.le_refl _) k os⟩
theorem Pe (w:World) (a b:Array Value) (t s:TypeId) (n:Nat):Below w.heap.size w (((w.alloc (.cells a t)).alloc (.cells b s)).drewN n):=below_drewN (((Below.refl _ _).alloc (Nat.le_refl _) _).alloc (by simp) _) n
theorem yS (w:World) (a b:Array Value) (t s:TypeId):Below w.heap.size w ((w.alloc (.cells a t)).alloc (.cells b s)):=((Below.refl _ _).alloc (Nat.le_refl _) _).alloc (by simp) _
set_option maxHeartbeats 4000000 in
theorem Fz (op:Int) (h1:1≤op) (h2:op≤18) (w:World):
 Calls Tryz.prog 48 #[.int .i64 op] w fun e w'=>e= .returned (.tuple #[.string (jJ op),.int .i64 (dZ op)])∧Below w.heap.size w w':=by
 have hc:op=1∨op=2∨op=3∨op=4∨op=5∨op=6∨op=7∨op=8∨op=9∨op=10∨op=11∨op=12∨op=13∨op=14∨op=15∨op=16∨op=17∨op=18:=by omega
 clear h1 h2
 rcases hc with rfl | rfl | rfl | hc
 ·go_enter Tryz.func48,Tryz.ntmps48
  go_wp2_with fail
  go_ret2
  exact ⟨rfl,yS _ _ _ _ _⟩
 ·go_enter Tryz.func48,Tryz.ntmps48
  go_wp2_with fail
  go_ret2
  exact ⟨rfl,yS _ _ _ _ _⟩
 ·go_enter Tryz.func48,Tryz.ntmps48
  go_wp2_with fail
  go_ret2
  exact ⟨rfl,yS _ _ _ _ _⟩
 ·rcases hc with rfl | rfl | rfl | rfl | rfl | rfl | rfl | rfl | rfl | rfl | rfl | rfl | rfl | rfl | rfl
  all_goals
   go_enter Tryz.func48,Tryz.ntmps48
   go_upto_region 6 with fail
   go_quiet (fail)
   go_wp2_with fail
   go_ret2
   exact ⟨rfl,Pe _ _ _ _ _ _⟩
end Go.Proofs.YtehnipchbmjlhaaGreatDoor
end
section
set_option linter.unusedSimpArgs false
set_option linter.unusedVariables false
namespace Go.Proofs.YtehnipchbmjlhaaGreatDoor
open Go.RowKit
open Md Fm
theorem uJ (n:Int) (h:aV n):(kW n).size≤21:=by
 have:=Lib.itoa_length_le n h.1 h.2
 unfold kW
 rw [show (⟨(Lib.itoa n).toArray⟩:ByteArray).size=(Lib.itoa n).length from by simp [ByteArray.size]]
 exact this
theorem JE {c:Prop} [Decidable c] {a b m:Nat} (h1:a≤m) (h2:b≤m):(if c then a else b)≤m:=by split <;> assumption
theorem xY (op:Int):(jJ op).size≤2:=by
 unfold jJ
 simp only [apply_ite ByteArray.size]
 repeat (refine JE (by decide) ?_)
 decide
theorem Sd (b:ByteArray):(F7 b).size=b.size + 2:=by
 unfold F7; simp [ByteArray.size_append]; rw [show (⟨#[40]⟩:ByteArray).size=1 from rfl,show (⟨#[41]⟩:ByteArray).size=1 from rfl]; omega
theorem qK (x:Int × ByteArray) (lv:Int):(jL x lv).size≤x.2.size + 2:=by
 unfold jL; split
 ·rw [Sd]; exact Nat.le_refl _
 ·omega
def Ci:List (Int × ByteArray)→Nat
 | []=>0
 | x ::r=>x.2.size + Ci r
theorem Iy (op n:Int) (nm:ByteArray) (ks:List (Int × ByteArray)) (hn:aV n):(Lm op n nm ks).size≤30 + nm.size + Ci ks:=by
 unfold Lm
 split
 ·have:=uJ n hn; omega
 ·split
  ·omega
  ·match ks with
   | []=>exact Nat.zero_le _
   | [a]=>
     dsimp only
     split
     ·simp only [ByteArray.size_append,Ci]; rw [show (⟨#[91]⟩:ByteArray).size=1 from rfl,show (⟨#[93]⟩:ByteArray).size=1 from rfl]; omega
     ·split
      ·have h1:=qK a 6; have h2:=xY op; simp only [ByteArray.size_append,Ci]; omega
      ·exact Nat.zero_le _
   | [a,b]=>
     dsimp only
     split
     ·have h1:=qK a (if dZ op == 3 then 4 else dZ op); have h2:=qK b (dZ op + 1); have h3:=xY op; simp only [ByteArray.size_append,Ci]; rw [show (⟨#[32]⟩:ByteArray).size=1 from rfl]; omega
     ·exact Nat.zero_le _
   | _ ::_ ::_ ::_=>exact Nat.zero_le _
theorem Cc {w:World} {B:Nat} : ∀ {l:aH} {ao:Option Addr} {k:Nat},l.At w B ao k→Ci (Hu l)≤pR l
 | .nil,_,_,_=>Nat.le_refl _
 | .cons op n nm kids rest,ao,k,h=>by
   obtain ⟨⟨b,off,gN,cap,e,hB,c0,c1,c2,c3,hok,hk⟩,hr⟩:=h
   have h1:=Cc hk
   have h2:=Cc hr
   have h3:=Iy op n nm (Hu kids) hok.2.1
   simp only [Hu,Ci,pR]; omega
theorem j5 {w:World} {B:Nat} (op n:Int) (nm:ByteArray) {kids:aH} {ao:Option Addr} (hn:aV n) (h:kids.At w B ao 0):(bf op n nm kids).size≤lg nm kids:=by
 have h1:=Cc h
 have h3:=Iy op n nm (Hu kids) hn
 unfold bf lg; omega
def DR (op n:Int) (nm:ByteArray) (kids:aH):Prop:=
 ∀(w:World) (ao:Option Addr) (cap:Nat),pU op n nm kids→dG op n nm kids=true→lg nm kids≤1152921504606846976→kids.At w w.heap.size ao 0→iM w→
  Calls Tryz.prog 19 #[.agg #[.int .i64 op,.int .i64 n,.string nm,.slice ao kids.len cap]] w fun e w'=>e= .returned (.string (bf op n nm kids))∧Below w.heap.size w w'
theorem JQ {op n:Int} {nm:ByteArray} {kids:aH} (h:dG op n nm kids=true):1≤op∧op≤18∧(kids.len:Int)=opsOf op:=by
 unfold dG vw at h
 simp only [Bool.and_eq_true,beq_iff_eq] at h
 have h1:=h.1.1
 refine ⟨?_,?_,h1⟩
 ·unfold opsOf at h1; grind
 ·unfold opsOf at h1; grind
set_option maxHeartbeats 1000000 in
theorem Ie (op n:Int) (nm:ByteArray) (kids:aH) (lv:Int) (ih:DR op n nm kids) (w:World) (ao:Option Addr) (cap:Nat) (hok:pU op n nm kids) (hsh:dG op n nm kids=true) (hw:lg nm kids≤1152921504606846976) (hat:kids.At w w.heap.size ao 0) (hp:iM w):
 Calls Tryz.prog 50 #[.agg #[.int .i64 op,.int .i64 n,.string nm,.slice ao kids.len cap],.int .i64 lv] w fun e w'=>e= .returned (.string (jL (op,bf op n nm kids) lv))∧Below w.heap.size w w':=by
 have iY:=Lib.hid (Nat.le_trans (j5 op n nm hok.2.1 hat) hw)
 have HX:=Lib.hid (fun w ao h1 h2=>ih w ao cap hok hsh hw h1 h2)
 have zL:=Lib.hid (fun w=>Fz op (JQ hsh).1 (JQ hsh).2.1 w)
 have HAT:=Lib.hid hat
 have iE:=Lib.hid hp
 obtain ⟨res,HE⟩: ∃res,Hid (jL (op,bf op n nm kids) lv=res∧res=if dZ op < lv then F7 (bf op n nm kids) else bf op n nm kids):=⟨_,Lib.hid ⟨rfl,rfl⟩⟩
 rw [HE.out.1]
 replace HE:=Lib.hid HE.out.2
 clear ih hok hsh hw hat hp
 generalize bf op n nm kids=t at *
 generalize jJ op=sg at *
 generalize dZ op=lo at *
 have hsz:=iY.out
 go_enter Tryz.func50,Tryz.ntmps50
 go_upto_region 1 with fail
 have HZ:=Lib.hid ((Sit.start w).qw (n:=w.heap.size) rfl (.int .i64 op) (.int .i64 n) (.string nm) (.slice ao kids.len cap) 45)
 generalize hW:World.alloc w _=W
 rw [hW] at HZ
 clear hW
 obtain ⟨-,⟨-,c0⟩,⟨-,c1⟩,⟨-,c2⟩,⟨-,c3⟩,-⟩:=HZ.out
 go_wp2_with fail
 refine (zL.out _).mono ?_
 rintro e w2 ⟨rfl,hb⟩
 have HY:=Lib.hid (HZ.out.next hb)
 clear hb c0 c1 c2 c3 HZ
 obtain ⟨-,⟨-,c0⟩,⟨-,c1⟩,⟨-,c2⟩,⟨-,c3⟩,-⟩:=HY.out
 have HCX:=Lib.hid (HX.out w2 ao (HAT.out.same HY.out.1) (iE.out.next HY.out.1))
 by_cases hl:lo < lv
 ·have HR:=Lib.hid (HE.out.trans (if_pos hl))
  go_wp2_with fail
  refine HCX.out.mono ?_
  rintro e w3 ⟨rfl,hb⟩
  have HB:=Lib.hid ((HY.out.next hb).1)
  clear hb
  go_wp2_with fail
  go_ret
  exact ⟨by rw [HR.out]; rfl,HB.out⟩
 ·have HR:=Lib.hid (HE.out.trans (if_neg hl))
  go_wp2_with fail
  refine HCX.out.mono ?_
  rintro e w3 ⟨rfl,hb⟩
  have HB:=Lib.hid ((HY.out.next hb).1)
  clear hb
  go_wp2_with fail
  go_ret
  exact ⟨by rw [HR.out]; rfl,HB.out⟩
theorem LP {op n:Int} {nm:ByteArray} {kids:aH} (h:dG op n nm kids=true) (h1:kids.len=1): ∃o m s k,kids= .cons o m s k .nil∧dG o m s k=true:=by
 cases kids with
 | nil=>cases h1
 | cons o m s k r=>
   cases r with
   | nil=>
     unfold dG at h
     rw [Bool.and_eq_true] at h
     have h2:=h.2
     unfold gZ at h2
     rw [Bool.and_eq_true] at h2
     exact ⟨o,m,s,k,rfl,h2.1⟩
   | cons=>simp [aH.len] at h1
theorem Uu {op n:Int} {nm:ByteArray} {kids:aH} (h:dG op n nm kids=true) (h1:kids.len=2): ∃o m s k o' m' s' k',kids= .cons o m s k (.cons o' m' s' k' .nil)∧dG o m s k=true∧dG o' m' s' k'=true:=by
 cases kids with
 | nil=>cases h1
 | cons o m s k r=>
   cases r with
   | nil=>simp [aH.len] at h1
   | cons o' m' s' k' r=>
     cases r with
     | nil=>
       unfold dG at h
       rw [Bool.and_eq_true] at h
       have h2:=h.2
       unfold gZ at h2
       rw [Bool.and_eq_true] at h2
       have h3:=h2.2
       unfold gZ at h3
       rw [Bool.and_eq_true] at h3
       exact ⟨o,m,s,k,o',m',s',k',rfl,h2.1,h3.1⟩
     | cons=>simp [aH.len] at h1
set_option maxHeartbeats 4000000 in
set_option maxRecDepth 100000 in
theorem MW (op n:Int) (nm:ByteArray) (kids:aH) (ih:kids.All DR):DR op n nm kids:=by
 intro w ao cap hok hsh hw hat hp
 obtain ⟨ho1,ho2,hlen⟩:=JQ hsh
 have zL:=Lib.hid (fun w=>Fz op ho1 ho2 w)
 have iE:=Lib.hid hp
 have fH:=Lib.hid hok
 have HW:=Lib.hid hw
 have xH:=Lib.hid hsh
 have HAT:=Lib.hid hat
 have iN:=Lib.hid ih
 have hnm:nm.size≤maxLen:=hok.2.2.1
 have hnn:=hok.2.1
 clear ih hok hsh hw hat hp
 by_cases h1:op=1
 ·subst h1
  have HE:Hid (bf 1 n nm kids=kW n):=Lib.hid rfl
  rw [HE.out]
  have zK:Hid (dZ 1=7):=Lib.hid rfl
  rw [zK.out] at zL
  clear HE zK ho1 ho2 hlen
  generalize jJ 1=sg at *
  go_enter Tryz.func19,Tryz.ntmps19
  go_upto_region 1 with fail
  have HZ:=Lib.hid ((Sit.start w).qw (n:=w.heap.size) rfl (.int .i64 1) (.int .i64 n) (.string nm) (.slice ao kids.len cap) 45)
  generalize hW:World.alloc w _=W
  rw [hW] at HZ
  clear hW
  obtain ⟨-,⟨-,c0⟩,⟨-,c1⟩,⟨-,c2⟩,⟨-,c3⟩,-⟩:=HZ.out
  go_wp2_with fail
  refine (zL.out _).mono ?_
  rintro e w2 ⟨rfl,hb⟩
  have HY:=Lib.hid (HZ.out.next hb)
  clear hb c0 c1 c2 c3 HZ
  obtain ⟨-,⟨-,c0⟩,⟨-,c1⟩,⟨-,c2⟩,⟨-,c3⟩,-⟩:=HY.out
  go_wp2_with fail
  refine (BA n hnn.1 hnn.2 _ (iE.out.next HY.out.1)).mono ?_
  rintro e w3 ⟨rfl,hb⟩
  have HB:=Lib.hid ((HY.out.next hb).1)
  clear hb
  go_wp2_with fail
  go_ret
  exact ⟨rfl,HB.out⟩
 by_cases h2:op=2
 ·subst h2
  have HE:Hid (bf 2 n nm kids=nm):=Lib.hid rfl
  rw [HE.out]
  have zK:Hid (dZ 2=7):=Lib.hid rfl
  rw [zK.out] at zL
  clear HE zK ho1 ho2 hlen h1
  generalize jJ 2=sg at *
  go_enter Tryz.func19,Tryz.ntmps19
  go_upto_region 1 with fail
  have HZ:=Lib.hid ((Sit.start w).qw (n:=w.heap.size) rfl (.int .i64 2) (.int .i64 n) (.string nm) (.slice ao kids.len cap) 45)
  generalize hW:World.alloc w _=W
  rw [hW] at HZ
  clear hW
  obtain ⟨-,⟨-,c0⟩,⟨-,c1⟩,⟨-,c2⟩,⟨-,c3⟩,-⟩:=HZ.out
  go_wp2_with fail
  refine (zL.out _).mono ?_
  rintro e w2 ⟨rfl,hb⟩
  have HY:=Lib.hid (HZ.out.next hb)
  clear hb c0 c1 c2 c3 HZ
  obtain ⟨-,⟨-,c0⟩,⟨-,c1⟩,⟨-,c2⟩,⟨-,c3⟩,-⟩:=HY.out
  go_wp2_with fail
  go_ret
  exact ⟨rfl,HY.out.1⟩
 by_cases h3:op=3
 ·subst h3
  obtain ⟨o,m,s,k,rfl,hsk⟩:=LP xH.out (by have:opsOf 3=1:=rfl; omega)
  obtain ⟨⟨⟨b0,iF,p8,cap0,hao,hb0,x0,x1,x2,x3,hok0,oH⟩,-⟩,-⟩:(aH.cons o m s k .nil).At w w.heap.size ao 0∧True:=⟨HAT.out,trivial⟩
  subst hao
  have hwt:40 + nm.size + (40 + s.size + pR k + 0)≤1152921504606846976:=HW.out
  have HX:=Lib.hid (fun w h1 h2=>iN.out.1 w p8 cap0 hok0 hsk (by unfold lg; omega) h1 h2)
  have iY:=Lib.hid (j5 o m s hok0.2.1 oH)
  have hsz:(bf o m s k).size≤1152921504606846976:=by have:=iY.out; unfold lg at this; omega
  have hsn:nm.size≤1152921504606846976:=by omega
  have HE:Hid (bf 3 n nm (.cons o m s k .nil)=((nm++⟨#[91]⟩)++bf o m s k)++⟨#[93]⟩):=Lib.hid rfl
  rw [HE.out]
  have zK:Hid (dZ 3=7):=Lib.hid rfl
  rw [zK.out] at zL
  have iC:=Lib.hid (And.intro hb0 (And.intro x0 (And.intro x1 (And.intro x2 x3))))
  have qU:=Lib.hid oH
  clear HE zK ho1 ho2 hlen h1 h2 iY hwt x0 x1 x2 x3 oH hok0 hsk iN
  generalize jJ 3=sg at *
  generalize bf o m s k=ct at *
  simp only [aH.len]
  go_enter Tryz.func19,Tryz.ntmps19
  go_upto_region 1 with fail
  have HZ:=Lib.hid ((Sit.start w).qw (n:=w.heap.size) rfl (.int .i64 3) (.int .i64 n) (.string nm) (.slice (some ⟨b0,iF,none⟩) (0 + 1) cap) 45)
  generalize hW:World.alloc w _=W
  rw [hW] at HZ
  clear hW
  obtain ⟨-,⟨-,c0⟩,⟨-,c1⟩,⟨-,c2⟩,⟨-,c3⟩,-⟩:=HZ.out
  go_wp2_with fail
  refine (zL.out _).mono ?_
  rintro e w2 ⟨rfl,hb⟩
  have HY:=Lib.hid (HZ.out.next hb)
  clear hb c0 c1 c2 c3 HZ
  obtain ⟨-,⟨-,c0⟩,⟨-,c1⟩,⟨-,c2⟩,⟨-,c3⟩,-⟩:=HY.out
  go_upto_region 7 with fail
  obtain ⟨T,F,CO,hst,hF,hnext⟩:=calm w2
  have HF:=Lib.hid hF
  have fT:=Lib.hid hnext
  clear hnext hF
  have d0:=fun x=>(HY.out.next (HF.out x)).2.1.2
  have d1:=fun x=>(HY.out.next (HF.out x)).2.2.1.2
  have d2:=fun x=>(HY.out.next (HF.out x)).2.2.2.1.2
  have d3:=fun x=>(HY.out.next (HF.out x)).2.2.2.2.1.2
  clear c0 c1 c2 c3
  have y0:=fun x=>(((HY.out.1.trans ((HF.out x).mono HY.out.1.size)).cell (p:=⟨b0,iF + 0 * 4,none⟩) iC.out.1)).trans iC.out.2.1
  have y1:=fun x=>(((HY.out.1.trans ((HF.out x).mono HY.out.1.size)).cell (p:=⟨b0,iF + 0 * 4 + 1,none⟩) iC.out.1)).trans iC.out.2.2.1
  have y2:=fun x=>(((HY.out.1.trans ((HF.out x).mono HY.out.1.size)).cell (p:=⟨b0,iF + 0 * 4 + 2,none⟩) iC.out.1)).trans iC.out.2.2.2.1
  have y3:=fun x=>(((HY.out.1.trans ((HF.out x).mono HY.out.1.size)).cell (p:=⟨b0,iF + 0 * 4 + 3,none⟩) iC.out.1)).trans iC.out.2.2.2.2
  simp only [Nat.zero_mul,Nat.add_zero] at y0 y1 y2 y3
  refine kH F (by kernel_rfl) (by kernel_rfl) hst ?_
  repeat (any_goals (first | go_big_quiet_step ((go_at_call 19; refine (HX.out _ (qU.out.same (HY.out.1.trans ((HF.out _).mono HY.out.1.size))) (iE.out.next (HY.out.1.trans ((HF.out _).mono HY.out.1.size)))).mono ?_; rintro e w' ⟨rfl,hb⟩; exact ⟨rfl,fT.out _ _ hb⟩)) | (refine wpQuiet_step (fun K hK=> ?_); go_simp; first | (refine hK _ ?_; clear hK K) | (split <;> first | (refine hK _ ?_; clear hK K) | (apply Exists.intro; refine ⟨fun _=> ?_,hK _ ?_⟩; ((go_at_call 19; refine (HX.out _ (qU.out.same (HY.out.1.trans ((HF.out _).mono HY.out.1.size))) (iE.out.next (HY.out.1.trans ((HF.out _).mono HY.out.1.size)))).mono ?_; rintro e w' ⟨rfl,hb⟩; exact ⟨rfl,fT.out _ _ hb⟩)); clear hK K)))))
  all_goals (refine wpQuiet_nil ?_; rintro _ ⟨x,rfl⟩)
  have HB:=Lib.hid (HY.out.1.trans ((HF.out x).mono HY.out.1.size))
  clear d0 d1 d2 d3 y0 y1 y2 y3 HF fT hst
  generalize F x=W3 at *
  go_wp2_with fail
  go_ret
  exact ⟨rfl,HB.out⟩
 have g1:(op == 1)=false:=by rw [beq_eq_false_iff_ne]; exact h1
 have g2:(op == 2)=false:=by rw [beq_eq_false_iff_ne]; exact h2
 have g3:(op == 3)=false:=by rw [beq_eq_false_iff_ne]; exact h3
 by_cases h4:op≤5
 ·have hop:op=4∨op=5:=by omega
  obtain ⟨o,m,s,k,rfl,hsk⟩:=LP xH.out (by have:opsOf op=1:=by rcases hop with rfl | rfl <;> rfl
                                                omega)
  obtain ⟨⟨b0,iF,p8,cap0,hao,hb0,x0,x1,x2,x3,hok0,oH⟩,-⟩:=HAT.out
  subst hao
  have hwt:40 + nm.size + (40 + s.size + pR k + 0)≤1152921504606846976:=HW.out
  have HX:=Lib.hid (fun w h1 h2=>Ie o m s k 6 iN.out.1 w p8 cap0 hok0 hsk (by unfold lg; omega) h1 h2)
  have iY:=Lib.hid (j5 o m s hok0.2.1 oH)
  have uZ:=Lib.hid (qK (o,bf o m s k) 6)
  have hsz:(jL (o,bf o m s k) 6).size≤2305843009213693952:=by have:=iY.out; have:=uZ.out; unfold lg at *; dsimp only at *; omega
  have hsg:=xY op
  have zK:Hid (dZ op=6):=Lib.hid (by rcases hop with rfl | rfl <;> rfl)
  have HE:Hid (bf op n nm (.cons o m s k .nil)=jJ op++jL (o,bf o m s k) 6):=Lib.hid (by rcases hop with rfl | rfl <;> rfl)
  rw [HE.out]
  rw [zK.out] at zL
  have iC:=Lib.hid (And.intro hb0 (And.intro x0 (And.intro x1 (And.intro x2 x3))))
  have qU:=Lib.hid oH
  clear HE zK ho1 ho2 hlen h1 h2 h3 h4 iY uZ hwt x0 x1 x2 x3 oH hok0 hsk iN hop
  generalize jJ op=sg at *
  generalize jL (o,bf o m s k) 6=ct at *
  simp only [aH.len]
  go_enter Tryz.func19,Tryz.ntmps19
  go_upto_region 1 with fail
  have HZ:=Lib.hid ((Sit.start w).qw (n:=w.heap.size) rfl (.int .i64 op) (.int .i64 n) (.string nm) (.slice (some ⟨b0,iF,none⟩) (0 + 1) cap) 45)
  generalize hW:World.alloc w _=W
  rw [hW] at HZ
  clear hW
  obtain ⟨-,⟨-,c0⟩,⟨-,c1⟩,⟨-,c2⟩,⟨-,c3⟩,-⟩:=HZ.out
  go_wp2_with fail
  refine (zL.out _).mono ?_
  rintro e w2 ⟨rfl,hb⟩
  have HY:=Lib.hid (HZ.out.next hb)
  clear hb c0 c1 c2 c3 HZ
  obtain ⟨-,⟨-,c0⟩,⟨-,c1⟩,⟨-,c2⟩,⟨-,c3⟩,-⟩:=HY.out
  have y0:=((HY.out.1.cell (p:=⟨b0,iF + 0 * 4,none⟩) iC.out.1)).trans iC.out.2.1
  have y1:=((HY.out.1.cell (p:=⟨b0,iF + 0 * 4 + 1,none⟩) iC.out.1)).trans iC.out.2.2.1
  have y2:=((HY.out.1.cell (p:=⟨b0,iF + 0 * 4 + 2,none⟩) iC.out.1)).trans iC.out.2.2.2.1
  have y3:=((HY.out.1.cell (p:=⟨b0,iF + 0 * 4 + 3,none⟩) iC.out.1)).trans iC.out.2.2.2.2
  simp only [Nat.zero_mul,Nat.add_zero] at y0 y1 y2 y3
  go_wp2_with fail
  refine (HX.out _ (qU.out.same HY.out.1) (iE.out.next HY.out.1)).mono ?_
  rintro e w3 ⟨rfl,hb⟩
  have HB:=Lib.hid ((HY.out.next hb).1)
  clear hb
  go_wp2_with fail
  go_ret
  exact ⟨rfl,HB.out⟩
 ·have hop:op=6∨op=7∨op=8∨op=9∨op=10∨op=11∨op=12∨op=13∨op=14∨op=15∨op=16∨op=17∨op=18:=by omega
  obtain ⟨o,m,s,k,o',m',s',k',rfl,hsk,YJ⟩:=Uu xH.out (by
   have:opsOf op=2:=by rcases hop with rfl | rfl | rfl | rfl | rfl | rfl | rfl | rfl | rfl | rfl | rfl | rfl | rfl <;> rfl
   omega)
  obtain ⟨⟨b0,iF,p8,cap0,hao,hb0,x0,x1,x2,x3,hok0,oH⟩,⟨b1,off1,xJ,qN,RN,hb1,z0,z1,z2,z3,hok1,RA⟩,-⟩:=HAT.out
  subst hao
  injection RN with RN
  injection RN with e1 e2
  subst e1
  subst e2
  have hwt:40 + nm.size + (40 + s.size + pR k + (40 + s'.size + pR k' + 0))≤1152921504606846976:=HW.out
  obtain ⟨lf,Yx⟩: ∃lf,Hid ((if dZ op == 3 then 4 else dZ op)=lf):=⟨_,Lib.hid rfl⟩
  have HX:=Lib.hid (fun w h1 h2=>Ie o m s k lf iN.out.1 w p8 cap0 hok0 hsk (by unfold lg; omega) h1 h2)
  have DX:=Lib.hid (fun w h1 h2=>Ie o' m' s' k' (dZ op + 1) iN.out.2.1 w xJ qN hok1 YJ (by unfold lg; omega) h1 h2)
  have iY:=Lib.hid (j5 o m s hok0.2.1 oH)
  have Xa:=Lib.hid (j5 o' m' s' hok1.2.1 RA)
  have hsz:(jL (o,bf o m s k) lf).size≤2305843009213693952:=by have:=iY.out; have:=qK (o,bf o m s k) lf; unfold lg at *; dsimp only at *; omega
  have hsz':(jL (o',bf o' m' s' k') (dZ op + 1)).size≤2305843009213693952:=by have:=Xa.out; have:=qK (o',bf o' m' s' k') (dZ op + 1); unfold lg at *; dsimp only at *; omega
  have hsg:=xY op
  have hlv:1≤dZ op∧dZ op≤5:=by rcases hop with rfl | rfl | rfl | rfl | rfl | rfl | rfl | rfl | rfl | rfl | rfl | rfl | rfl <;> decide
  have HE:Hid (bf op n nm (.cons o m s k (.cons o' m' s' k' .nil))=(((jL (o,bf o m s k) lf++⟨#[32]⟩)++jJ op)++⟨#[32]⟩)++jL (o',bf o' m' s' k') (dZ op + 1)):=Lib.hid (by
   rw [← Yx.out]
   rcases hop with rfl | rfl | rfl | rfl | rfl | rfl | rfl | rfl | rfl | rfl | rfl | rfl | rfl <;> rfl)
  rw [HE.out]
  have iC:=Lib.hid (And.intro hb0 (And.intro x0 (And.intro x1 (And.intro x2 x3))))
  have nY:=Lib.hid (And.intro hb0 (And.intro z0 (And.intro z1 (And.intro z2 z3))))
  have qU:=Lib.hid (And.intro oH RA)
  clear HE ho1 ho2 hlen h1 h2 h3 h4 iY Xa hwt x0 x1 x2 x3 z0 z1 z2 z3 oH RA hok0 hok1 hsk YJ iN hop
  generalize jJ op=sg at *
  generalize dZ op=lv at *
  generalize jL (o,bf o m s k) lf=ct at *
  generalize jL (o',bf o' m' s' k') (lv + 1)=ct' at *
  simp only [aH.len]
  obtain ⟨hlv1,hlv2⟩:=hlv
  have g6:(lv == 6)=false:=by rw [beq_eq_false_iff_ne]; omega
  go_enter Tryz.func19,Tryz.ntmps19
  go_upto_region 1 with fail
  have HZ:=Lib.hid ((Sit.start w).qw (n:=w.heap.size) rfl (.int .i64 op) (.int .i64 n) (.string nm) (.slice (some ⟨b0,iF,none⟩) (0 + 1 + 1) cap) 45)
  generalize hW:World.alloc w _=W
  rw [hW] at HZ
  clear hW
  obtain ⟨-,⟨-,c0⟩,⟨-,c1⟩,⟨-,c2⟩,⟨-,c3⟩,-⟩:=HZ.out
  go_wp2_with fail
  refine (zL.out _).mono ?_
  rintro e w2 ⟨rfl,hb⟩
  have HY:=Lib.hid (HZ.out.next hb)
  clear hb c0 c1 c2 c3 HZ
  obtain ⟨-,⟨-,c0⟩,⟨-,c1⟩,⟨-,c2⟩,⟨-,c3⟩,-⟩:=HY.out
  cases Jt:(lv == 3)
  ·have e:lf=lv:=by rw [← Yx.out,Jt]; rfl
   rw [e] at HX
   clear e
   go_upto_region 14 with fail
   obtain ⟨T,F,CO,hst,hF,hnext⟩:=calm w2
   have HF:=Lib.hid hF
   have fT:=Lib.hid hnext
   clear hnext hF
   have d0:=fun x=>(HY.out.next (HF.out x)).2.1.2
   have d1:=fun x=>(HY.out.next (HF.out x)).2.2.1.2
   have d2:=fun x=>(HY.out.next (HF.out x)).2.2.2.1.2
   have d3:=fun x=>(HY.out.next (HF.out x)).2.2.2.2.1.2
   clear c0 c1 c2 c3
   have y0:=fun x=>(((HY.out.1.trans ((HF.out x).mono HY.out.1.size)).cell (p:=⟨b0,iF + 0 * 4,none⟩) iC.out.1)).trans iC.out.2.1
   have y1:=fun x=>(((HY.out.1.trans ((HF.out x).mono HY.out.1.size)).cell (p:=⟨b0,iF + 0 * 4 + 1,none⟩) iC.out.1)).trans iC.out.2.2.1
   have y2:=fun x=>(((HY.out.1.trans ((HF.out x).mono HY.out.1.size)).cell (p:=⟨b0,iF + 0 * 4 + 2,none⟩) iC.out.1)).trans iC.out.2.2.2.1
   have y3:=fun x=>(((HY.out.1.trans ((HF.out x).mono HY.out.1.size)).cell (p:=⟨b0,iF + 0 * 4 + 3,none⟩) iC.out.1)).trans iC.out.2.2.2.2
   have z0:=fun x=>(((HY.out.1.trans ((HF.out x).mono HY.out.1.size)).cell (p:=⟨b0,iF + (0 + 1) * 4,none⟩) nY.out.1)).trans nY.out.2.1
   have z1:=fun x=>(((HY.out.1.trans ((HF.out x).mono HY.out.1.size)).cell (p:=⟨b0,iF + (0 + 1) * 4 + 1,none⟩) nY.out.1)).trans nY.out.2.2.1
   have z2:=fun x=>(((HY.out.1.trans ((HF.out x).mono HY.out.1.size)).cell (p:=⟨b0,iF + (0 + 1) * 4 + 2,none⟩) nY.out.1)).trans nY.out.2.2.2.1
   have z3:=fun x=>(((HY.out.1.trans ((HF.out x).mono HY.out.1.size)).cell (p:=⟨b0,iF + (0 + 1) * 4 + 3,none⟩) nY.out.1)).trans nY.out.2.2.2.2
   simp only [Nat.zero_mul,Nat.zero_add,Nat.one_mul,Nat.add_zero] at y0 y1 y2 y3 z0 z1 z2 z3
   refine kH F (by kernel_rfl) (by kernel_rfl) hst ?_
   repeat (any_goals (first | go_big_quiet_step ((first | (go_at_call_of 50 (Value.agg #[.int .i64 o,.int .i64 m,.string s,.slice p8 k.len cap0]); refine (HX.out _ (qU.out.1.same (HY.out.1.trans ((HF.out _).mono HY.out.1.size))) (iE.out.next (HY.out.1.trans ((HF.out _).mono HY.out.1.size)))).mono ?_; rintro e w' ⟨rfl,hb⟩; exact ⟨rfl,fT.out _ _ hb⟩) | (go_at_call_of 50 (Value.agg #[.int .i64 o',.int .i64 m',.string s',.slice xJ k'.len qN]); refine (DX.out _ (qU.out.2.same (HY.out.1.trans ((HF.out _).mono HY.out.1.size))) (iE.out.next (HY.out.1.trans ((HF.out _).mono HY.out.1.size)))).mono ?_; rintro e w' ⟨rfl,hb⟩; exact ⟨rfl,fT.out _ _ hb⟩))) | (refine wpQuiet_step (fun K hK=> ?_); go_simp; first | (refine hK _ ?_; clear hK K) | (split <;> first | (refine hK _ ?_; clear hK K) | (apply Exists.intro; refine ⟨fun _=> ?_,hK _ ?_⟩; ((first | (go_at_call_of 50 (Value.agg #[.int .i64 o,.int .i64 m,.string s,.slice p8 k.len cap0]); refine (HX.out _ (qU.out.1.same (HY.out.1.trans ((HF.out _).mono HY.out.1.size))) (iE.out.next (HY.out.1.trans ((HF.out _).mono HY.out.1.size)))).mono ?_; rintro e w' ⟨rfl,hb⟩; exact ⟨rfl,fT.out _ _ hb⟩) | (go_at_call_of 50 (Value.agg #[.int .i64 o',.int .i64 m',.string s',.slice xJ k'.len qN]); refine (DX.out _ (qU.out.2.same (HY.out.1.trans ((HF.out _).mono HY.out.1.size))) (iE.out.next (HY.out.1.trans ((HF.out _).mono HY.out.1.size)))).mono ?_; rintro e w' ⟨rfl,hb⟩; exact ⟨rfl,fT.out _ _ hb⟩))); clear hK K)))))
   all_goals (refine wpQuiet_nil ?_; rintro _ ⟨x,rfl⟩)
   have HB:=Lib.hid (HY.out.1.trans ((HF.out x).mono HY.out.1.size))
   clear d0 d1 d2 d3 y0 y1 y2 y3 z0 z1 z2 z3 HF fT hst
   generalize F x=W3 at *
   go_wp2_with fail
   go_ret
   exact ⟨rfl,HB.out⟩
  ·have e:lf=4:=by rw [← Yx.out,Jt]; rfl
   rw [e] at HX
   clear e
   go_upto_region 14 with fail
   obtain ⟨T,F,CO,hst,hF,hnext⟩:=calm w2
   have HF:=Lib.hid hF
   have fT:=Lib.hid hnext
   clear hnext hF
   have d0:=fun x=>(HY.out.next (HF.out x)).2.1.2
   have d1:=fun x=>(HY.out.next (HF.out x)).2.2.1.2
   have d2:=fun x=>(HY.out.next (HF.out x)).2.2.2.1.2
   have d3:=fun x=>(HY.out.next (HF.out x)).2.2.2.2.1.2
   clear c0 c1 c2 c3
   have y0:=fun x=>(((HY.out.1.trans ((HF.out x).mono HY.out.1.size)).cell (p:=⟨b0,iF + 0 * 4,none⟩) iC.out.1)).trans iC.out.2.1
   have y1:=fun x=>(((HY.out.1.trans ((HF.out x).mono HY.out.1.size)).cell (p:=⟨b0,iF + 0 * 4 + 1,none⟩) iC.out.1)).trans iC.out.2.2.1
   have y2:=fun x=>(((HY.out.1.trans ((HF.out x).mono HY.out.1.size)).cell (p:=⟨b0,iF + 0 * 4 + 2,none⟩) iC.out.1)).trans iC.out.2.2.2.1
   have y3:=fun x=>(((HY.out.1.trans ((HF.out x).mono HY.out.1.size)).cell (p:=⟨b0,iF + 0 * 4 + 3,none⟩) iC.out.1)).trans iC.out.2.2.2.2
   have z0:=fun x=>(((HY.out.1.trans ((HF.out x).mono HY.out.1.size)).cell (p:=⟨b0,iF + (0 + 1) * 4,none⟩) nY.out.1)).trans nY.out.2.1
   have z1:=fun x=>(((HY.out.1.trans ((HF.out x).mono HY.out.1.size)).cell (p:=⟨b0,iF + (0 + 1) * 4 + 1,none⟩) nY.out.1)).trans nY.out.2.2.1
   have z2:=fun x=>(((HY.out.1.trans ((HF.out x).mono HY.out.1.size)).cell (p:=⟨b0,iF + (0 + 1) * 4 + 2,none⟩) nY.out.1)).trans nY.out.2.2.2.1
   have z3:=fun x=>(((HY.out.1.trans ((HF.out x).mono HY.out.1.size)).cell (p:=⟨b0,iF + (0 + 1) * 4 + 3,none⟩) nY.out.1)).trans nY.out.2.2.2.2
   simp only [Nat.zero_mul,Nat.zero_add,Nat.one_mul,Nat.add_zero] at y0 y1 y2 y3 z0 z1 z2 z3
   refine kH F (by kernel_rfl) (by kernel_rfl) hst ?_
   repeat (any_goals (first | go_big_quiet_step ((first | (go_at_call_of 50 (Value.agg #[.int .i64 o,.int .i64 m,.string s,.slice p8 k.len cap0]); refine (HX.out _ (qU.out.1.same (HY.out.1.trans ((HF.out _).mono HY.out.1.size))) (iE.out.next (HY.out.1.trans ((HF.out _).mono HY.out.1.size)))).mono ?_; rintro e w' ⟨rfl,hb⟩; exact ⟨rfl,fT.out _ _ hb⟩) | (go_at_call_of 50 (Value.agg #[.int .i64 o',.int .i64 m',.string s',.slice xJ k'.len qN]); refine (DX.out _ (qU.out.2.same (HY.out.1.trans ((HF.out _).mono HY.out.1.size))) (iE.out.next (HY.out.1.trans ((HF.out _).mono HY.out.1.size)))).mono ?_; rintro e w' ⟨rfl,hb⟩; exact ⟨rfl,fT.out _ _ hb⟩))) | (refine wpQuiet_step (fun K hK=> ?_); go_simp; first | (refine hK _ ?_; clear hK K) | (split <;> first | (refine hK _ ?_; clear hK K) | (apply Exists.intro; refine ⟨fun _=> ?_,hK _ ?_⟩; ((first | (go_at_call_of 50 (Value.agg #[.int .i64 o,.int .i64 m,.string s,.slice p8 k.len cap0]); refine (HX.out _ (qU.out.1.same (HY.out.1.trans ((HF.out _).mono HY.out.1.size))) (iE.out.next (HY.out.1.trans ((HF.out _).mono HY.out.1.size)))).mono ?_; rintro e w' ⟨rfl,hb⟩; exact ⟨rfl,fT.out _ _ hb⟩) | (go_at_call_of 50 (Value.agg #[.int .i64 o',.int .i64 m',.string s',.slice xJ k'.len qN]); refine (DX.out _ (qU.out.2.same (HY.out.1.trans ((HF.out _).mono HY.out.1.size))) (iE.out.next (HY.out.1.trans ((HF.out _).mono HY.out.1.size)))).mono ?_; rintro e w' ⟨rfl,hb⟩; exact ⟨rfl,fT.out _ _ hb⟩))); clear hK K)))))
   all_goals (refine wpQuiet_nil ?_; rintro _ ⟨x,rfl⟩)
   have HB:=Lib.hid (HY.out.1.trans ((HF.out x).mono HY.out.1.size))
   clear d0 d1 d2 d3 y0 y1 y2 y3 z0 z1 z2 z3 HF fT hst
   generalize F x=W3 at *
   go_wp2_with fail
   go_ret
   exact ⟨rfl,HB.out⟩
theorem wD (op n:Int) (nm:ByteArray) (kids:aH):DR op n nm kids:=aH.xE MW op n nm kids
end Go.Proofs.YtehnipchbmjlhaaGreatDoor
end
