/-
  Plain functions of the printer: the texts of expressions, statements, declarations, programs. No program in sight.
  Contracts of the printer's sign, put, Expr at shaped expressions.
  Contracts of the printer's put and Expr at shaped expressions.
-/
import Derived.Test.YtehnipchbmjlhaaGreatDoorGMA
import Derived.Lib.ItoaLen
import Derived.Lib.AppendIntMem
import Derived.Test.YtehnipchbmjlhaaGreatDoorGMO
import Derived.Test.YtehnipchbmjlhaaGreatDoorGMB
import Derived.Test.YtehnipchbmjlhaaGreatDoorShelf
import Derived.StillTailTactics
import Derived.Sort.AtCall
import Derived.Deep.RegionWith
set_option linter.unusedSimpArgs false
set_option linter.unusedVariables false
set_option maxHeartbeats 40000000
set_option maxRecDepth 1000000
section
namespace Go.Proofs.YtehnipchbmjlhaaGreatDoor.Fm
open Go.RowKit Md
def yG (op:Int):ByteArray:=
 if op == 4 then ⟨#[45]⟩ else if op == 5 then ⟨#[33]⟩ else if op == 6 then ⟨#[43]⟩ else if op == 7 then ⟨#[45]⟩ else if op == 8 then ⟨#[42]⟩ else if op == 9 then ⟨#[47]⟩ else if op == 10 then ⟨#[37]⟩
 else if op == 11 then ⟨#[61,61]⟩ else if op == 12 then ⟨#[33,61]⟩ else if op == 13 then ⟨#[60]⟩ else if op == 14 then ⟨#[60,61]⟩ else if op == 15 then ⟨#[62]⟩ else if op == 16 then ⟨#[62,61]⟩
 else if op == 17 then ⟨#[38,38]⟩ else if op == 18 then ⟨#[124,124]⟩ else ⟨#[]⟩
def nP (op:Int):Int:=
 if op == 4 || op == 5 then 6 else if op == 6 || op == 7 then 4 else if op == 8 || op == 9 || op == 10 then 5
 else if op == 11 || op == 12 || op == 13 || op == 14 || op == 15 || op == 16 then 3 else if op == 17 then 2 else if op == 18 then 1 else 7
def xR (n:Int):ByteArray:=⟨(Lib.itoa n).toArray⟩
def NH (b:ByteArray):ByteArray:=(⟨#[40]⟩++b)++⟨#[41]⟩
def pJ (x:Int × ByteArray) (lv:Int):ByteArray:=if nP x.1 < lv then NH x.2 else x.2
def UD (op n:Int) (nm:ByteArray) (ks:List (Int × ByteArray)):ByteArray:=
 if op == 1 then xR n else if op == 2 then nm else
 match ks with
 | [a]=>if op == 3 then ((nm++⟨#[91]⟩)++a.2)++⟨#[93]⟩ else if nP op == 6 then yG op++pJ a 6 else ⟨#[]⟩
 | [a,b]=>if nP op < 6 then (((pJ a (if nP op == 3 then 4 else nP op)++⟨#[32]⟩)++yG op)++⟨#[32]⟩)++pJ b (nP op + 1) else ⟨#[]⟩
 | _=>⟨#[]⟩
def JK:aZ→List (Int × ByteArray)
 | .nil=>[]
 | .cons op n nm kids rest=>(op,UD op n nm (JK kids)) ::JK rest
def dx (op n:Int) (nm:ByteArray) (kids:aZ):ByteArray:=UD op n nm (JK kids)
def ku (op:Int):ByteArray:=
 if op == 2 then ⟨#[105,102]⟩ else if op == 3 then ⟨#[119,104,105,108,101]⟩ else if op == 4 then ⟨#[108,111,99,107]⟩ else if op == 5 then ⟨#[114,101,97,100]⟩ else if op == 6 then ⟨#[119,114,105,116,101]⟩
 else if op == 7 then ⟨#[116,114,97,110,115,97,99,116,105,111,110]⟩ else if op == 8 then ⟨#[97,116,111,109,105,99]⟩ else if op == 9 then ⟨#[119,97,105,116]⟩ else if op == 10 then ⟨#[110,111,116,105,102,121]⟩
 else if op == 11 then ⟨#[110,111,116,105,102,121,97,108,108]⟩ else if op == 12 then ⟨#[115,112,97,119,110]⟩ else if op == 13 then ⟨#[106,111,105,110]⟩ else if op == 14 then ⟨#[115,101,116]⟩ else if op == 15 then ⟨#[103,101,116]⟩ else ⟨#[]⟩
def A9 (k:Int):ByteArray:=
 if k == 1 then ⟨#[118,97,114]⟩ else if k == 2 then ⟨#[118,111,108,97,116,105,108,101]⟩ else if k == 3 then ⟨#[109,117,116,101,120]⟩ else if k == 4 then ⟨#[114,119,108,111,99,107]⟩ else if k == 5 then ⟨#[99,111,110,100]⟩ else if k == 6 then ⟨#[102,117,116,117,114,101]⟩ else ⟨#[]⟩
def oF:Nat→ByteArray
 | 0=>⟨#[]⟩
 | n + 1=>oF n++⟨#[32,32]⟩
def xB (h:bf):ByteArray:=dx h.bV h.xn h.bU h.aO
def Zb (h:bf):ByteArray:=match h.idx with
 | .nil=>⟨#[]⟩
 | .cons op n nm kids _=>(⟨#[91]⟩++dx op n nm kids)++⟨#[93]⟩
def iA (h:bf):ByteArray:=
 if h.op == 1 then (((h.nm++Zb h)++⟨#[32,61,32]⟩)++xB h)++⟨#[59]⟩
 else if h.op == 2 || h.op == 3 then ((ku h.op++⟨#[32]⟩)++xB h)++⟨#[32,123]⟩
 else if h.op == 4 || h.op == 5 || h.op == 6 then ((ku h.op++⟨#[32]⟩)++h.nm)++⟨#[32,123]⟩
 else if h.op == 7 || h.op == 8 then ku h.op++⟨#[32,123]⟩
 else if h.op == 14 then ((((ku h.op++⟨#[32]⟩)++h.nm)++⟨#[32]⟩)++xB h)++⟨#[59]⟩
 else if h.op == 15 then ((((ku h.op++⟨#[32]⟩)++h.nm)++⟨#[32]⟩)++h.arg)++⟨#[59]⟩
 else ((ku h.op++⟨#[32]⟩)++h.nm)++⟨#[59]⟩
def UG:ByteArray:=⟨#[125,32,101,108,115,101,32,123,10]⟩
def EO:aS→Bool
 | .nil=>true
 | .cons .. =>false
def Lx (d:Nat) (h:bf) (b e:ByteArray) (ne:Bool):ByteArray:=
 if h.op < 1 || 15 < h.op then ⟨#[]⟩ else
 if h.op < 2 || 8 < h.op then (oF d++iA h)++⟨#[10]⟩ else
 if ne then ((((oF d++iA h)++⟨#[10]⟩)++b)++oF d)++⟨#[125,10]⟩
 else (((((((oF d++iA h)++⟨#[10]⟩)++b)++oF d)++UG)++e)++oF d)++⟨#[125,10]⟩
def nE:aS→Nat→ByteArray
 | .nil,_=>⟨#[]⟩
 | .cons h b e r,d=>Lx d h (nE b (d + 1)) (nE e (d + 1)) (EO e)++nE r d
def OB (d:Nat) (h:bf) (b e:aS):ByteArray:=Lx d h (nE b (d + 1)) (nE e (d + 1)) (EO e)
def Jq (d:De):ByteArray:=
 if d.kind < 1 || 6 < d.kind then ⟨#[]⟩ else
 let s1:=(A9 d.kind++⟨#[32]⟩)++d.nm
 let s2:=if 0 < d.size then ((s1++⟨#[91]⟩)++xR d.size)++⟨#[93]⟩ else s1
 let s3:=if d.init != 0 then (s2++⟨#[32,61,32]⟩)++xR d.init else s2
 let s4:=if d.kind == 5 then (s3++⟨#[32]⟩)++d.on else s3
 s4++⟨#[59,10]⟩
def Gm:List De→ByteArray
 | []=>⟨#[]⟩
 | d ::r=>Jq d++Gm r
def vO (first:Bool):List ByteArray→ByteArray
 | []=>⟨#[]⟩
 | s ::r=>(if first then s else ⟨#[44,32]⟩++s)++vO false r
def OW (t:Th):ByteArray:=((((((⟨#[116,104,114,101,97,100,32]⟩++t.nm)++⟨#[40]⟩)++vO true t.bZ)++⟨#[41,32,123,10]⟩)++nE t.body 1)++⟨#[125,10]⟩)
def Ai:List Th→ByteArray
 | []=>⟨#[]⟩
 | t ::r=>OW t++Ai r
def Q7 (p:Pr):ByteArray:=Gm p.ds++Ai p.ts
end Go.Proofs.YtehnipchbmjlhaaGreatDoor.Fm
end
section
namespace Go.Proofs.YtehnipchbmjlhaaGreatDoor
open Go.RowKit
open Md Fm
def kQ (w:World):Prop:=Lib.TabIs Tryz.prog w "internal/strconv.uint64pow10" .u64 Lib.pow10Tab
theorem aq4:Tryz.prog.globalNamed "internal/strconv.uint64pow10" =some 1:=by kernel_rfl
theorem kQ.next {w w':World} (h:kQ w) (hb:Below w.heap.size w w'):kQ w':=Lib.tabBelow_of_tabIs h w' hb
theorem Cy (n:Int) (h0: -9223372036854775808≤n) (h1:n≤9223372036854775807) (w:World) (ht:kQ w):
 Calls Tryz.prog 49 #[.int .i64 n,.int .i64 10] w fun e w'=>e= .returned (.string (xR n))∧Below w.heap.size w w':=
 (Tryz.strconv_FormatInt_10 n h0 h1 w ht).mono fun _ _ ⟨he,k,os,hw⟩=>⟨he,hw ▸ Lib.below_grow _ w (Nat.le_refl _) k os⟩
theorem OZ (w:World) (a b:Array Value) (t s:TypeId) (n:Nat):Below w.heap.size w (((w.alloc (.cells a t)).alloc (.cells b s)).drewN n):=below_drewN (((Below.refl _ _).alloc (Nat.le_refl _) _).alloc (by simp) _) n
theorem zJ (w:World) (a b:Array Value) (t s:TypeId):Below w.heap.size w ((w.alloc (.cells a t)).alloc (.cells b s)):=((Below.refl _ _).alloc (Nat.le_refl _) _).alloc (by simp) _
theorem FV (op:Int) (h1:1≤op) (h2:op≤18) (w:World):
 Calls Tryz.prog 48 #[.int .i64 op] w fun e w'=>e= .returned (.tuple #[.string (yG op),.int .i64 (nP op)])∧Below w.heap.size w w':=by
 have hc:op=1∨op=2∨op=3∨op=4∨op=5∨op=6∨op=7∨op=8∨op=9∨op=10∨op=11∨op=12∨op=13∨op=14∨op=15∨op=16∨op=17∨op=18:=by omega
 clear h1 h2
 rcases hc with rfl | rfl | rfl | hc
 ·go_enter Tryz.func48,Tryz.ntmps48
  go_wp2_with fail
  go_ret2
  exact ⟨rfl,zJ _ _ _ _ _⟩
 ·go_enter Tryz.func48,Tryz.ntmps48
  go_wp2_with fail
  go_ret2
  exact ⟨rfl,zJ _ _ _ _ _⟩
 ·go_enter Tryz.func48,Tryz.ntmps48
  go_wp2_with fail
  go_ret2
  exact ⟨rfl,zJ _ _ _ _ _⟩
 ·rcases hc with rfl | rfl | rfl | rfl | rfl | rfl | rfl | rfl | rfl | rfl | rfl | rfl | rfl | rfl | rfl
  all_goals
   go_enter Tryz.func48,Tryz.ntmps48
   go_upto_region 6 with fail
   go_quiet (fail)
   go_wp2_with fail
   go_ret2
   exact ⟨rfl,OZ _ _ _ _ _ _⟩
end Go.Proofs.YtehnipchbmjlhaaGreatDoor
end
section
namespace Go.Proofs.YtehnipchbmjlhaaGreatDoor
open Go.RowKit
open Md Fm
theorem wF (n:Int) (h:aM n):(xR n).size≤21:=by
 have:=Lib.itoa_length_le n h.1 h.2
 unfold xR
 rw [show (⟨(Lib.itoa n).toArray⟩:ByteArray).size=(Lib.itoa n).length from by simp [ByteArray.size]]
 exact this
theorem JZ {c:Prop} [Decidable c] {a b m:Nat} (h1:a≤m) (h2:b≤m):(if c then a else b)≤m:=by split <;> assumption
theorem Ch (op:Int):(yG op).size≤2:=by
 unfold yG
 simp only [apply_ite ByteArray.size]
 repeat (refine JZ (by decide) ?_)
 decide
theorem Sn (b:ByteArray):(NH b).size=b.size + 2:=by
 unfold NH; simp [ByteArray.size_append]; rw [show (⟨#[40]⟩:ByteArray).size=1 from rfl,show (⟨#[41]⟩:ByteArray).size=1 from rfl]; omega
theorem sJ (x:Int × ByteArray) (lv:Int):(pJ x lv).size≤x.2.size + 2:=by
 unfold pJ; split
 ·rw [Sn]; exact Nat.le_refl _
 ·omega
def Dq:List (Int × ByteArray)→Nat
 | []=>0
 | x ::r=>x.2.size + Dq r
theorem Jz (op n:Int) (nm:ByteArray) (ks:List (Int × ByteArray)) (hn:aM n):(UD op n nm ks).size≤30 + nm.size + Dq ks:=by
 unfold UD
 split
 ·have:=wF n hn; omega
 ·split
  ·omega
  ·match ks with
   | []=>exact Nat.zero_le _
   | [a]=>
     dsimp only
     split
     ·simp only [ByteArray.size_append,Dq]; rw [show (⟨#[91]⟩:ByteArray).size=1 from rfl,show (⟨#[93]⟩:ByteArray).size=1 from rfl]; omega
     ·split
      ·have h1:=sJ a 6; have h2:=Ch op; simp only [ByteArray.size_append,Dq]; omega
      ·exact Nat.zero_le _
   | [a,b]=>
     dsimp only
     split
     ·have h1:=sJ a (if nP op == 3 then 4 else nP op); have h2:=sJ b (nP op + 1); have h3:=Ch op; simp only [ByteArray.size_append,Dq]; rw [show (⟨#[32]⟩:ByteArray).size=1 from rfl]; omega
     ·exact Nat.zero_le _
   | _ ::_ ::_ ::_=>exact Nat.zero_le _
theorem D5 {w:World} {B:Nat} : ∀ {l:aZ} {ao:Option Addr} {k:Nat},l.At w B ao k→Dq (JK l)≤rD l
 | .nil,_,_,_=>Nat.le_refl _
 | .cons op n nm kids rest,ao,k,h=>by
   obtain ⟨⟨b,off,jf,cap,e,hB,c0,c1,c2,c3,hok,hk⟩,hr⟩:=h
   have h1:=D5 hk
   have h2:=D5 hr
   have h3:=Jz op n nm (JK kids) hok.2.1
   simp only [JK,Dq,rD]; omega
theorem lF {w:World} {B:Nat} (op n:Int) (nm:ByteArray) {kids:aZ} {ao:Option Addr} (hn:aM n) (h:kids.At w B ao 0):(dx op n nm kids).size≤mF nm kids:=by
 have h1:=D5 h
 have h3:=Jz op n nm (JK kids) hn
 unfold dx mF; omega
def EC (op n:Int) (nm:ByteArray) (kids:aZ):Prop:=
 ∀(w:World) (ao:Option Addr) (cap:Nat),qO op n nm kids→gW op n nm kids=true→mF nm kids≤1152921504606846976→kids.At w w.heap.size ao 0→kQ w→
  Calls Tryz.prog 19 #[.agg #[.int .i64 op,.int .i64 n,.string nm,.slice ao kids.len cap]] w fun e w'=>e= .returned (.string (dx op n nm kids))∧Below w.heap.size w w'
theorem Kq {op n:Int} {nm:ByteArray} {kids:aZ} (h:gW op n nm kids=true):1≤op∧op≤18∧(kids.len:Int)=opsOf op:=by
 unfold gW yh at h
 simp only [Bool.and_eq_true,beq_iff_eq] at h
 have h1:=h.1.1
 refine ⟨?_,?_,h1⟩
 ·unfold opsOf at h1; grind
 ·unfold opsOf at h1; grind
theorem Ko (op n:Int) (nm:ByteArray) (kids:aZ) (lv:Int) (ih:EC op n nm kids) (w:World) (ao:Option Addr) (cap:Nat) (hok:qO op n nm kids) (hsh:gW op n nm kids=true) (hw:mF nm kids≤1152921504606846976) (hat:kids.At w w.heap.size ao 0) (hp:kQ w):
 Calls Tryz.prog 50 #[.agg #[.int .i64 op,.int .i64 n,.string nm,.slice ao kids.len cap],.int .i64 lv] w fun e w'=>e= .returned (.string (pJ (op,dx op n nm kids) lv))∧Below w.heap.size w w':=by
 have iD:=Lib.hid (Nat.le_trans (lF op n nm hok.2.1 hat) hw)
 have HX:=Lib.hid (fun w ao h1 h2=>ih w ao cap hok hsh hw h1 h2)
 have tH:=Lib.hid (fun w=>FV op (Kq hsh).1 (Kq hsh).2.1 w)
 have HAT:=Lib.hid hat
 have jr:=Lib.hid hp
 obtain ⟨res,HE⟩: ∃res,Hid (pJ (op,dx op n nm kids) lv=res∧res=if nP op < lv then NH (dx op n nm kids) else dx op n nm kids):=⟨_,Lib.hid ⟨rfl,rfl⟩⟩
 rw [HE.out.1]
 replace HE:=Lib.hid HE.out.2
 clear ih hok hsh hw hat hp
 generalize dx op n nm kids=t at *
 generalize yG op=sg at *
 generalize nP op=lo at *
 have hsz:=iD.out
 go_enter Tryz.func50,Tryz.ntmps50
 go_upto_region 1 with fail
 have HZ:=Lib.hid ((Sit.start w).xX (n:=w.heap.size) rfl (.int .i64 op) (.int .i64 n) (.string nm) (.slice ao kids.len cap) 45)
 generalize hW:World.alloc w _=W
 rw [hW] at HZ
 clear hW
 obtain ⟨-,⟨-,c0⟩,⟨-,c1⟩,⟨-,c2⟩,⟨-,c3⟩,-⟩:=HZ.out
 go_wp2_with fail
 refine (tH.out _).mono ?_
 rintro e w2 ⟨rfl,hb⟩
 have HY:=Lib.hid (HZ.out.next hb)
 clear hb c0 c1 c2 c3 HZ
 obtain ⟨-,⟨-,c0⟩,⟨-,c1⟩,⟨-,c2⟩,⟨-,c3⟩,-⟩:=HY.out
 have HCX:=Lib.hid (HX.out w2 ao (HAT.out.same HY.out.1) (jr.out.next HY.out.1))
 by_cases hl:lo < lv
 ·have HR:=Lib.hid (HE.out.trans (if_pos hl))
  go_wp2_with fail
  refine HCX.out.mono ?_
  rintro e w3 ⟨rfl,hb⟩
  have HB:=Lib.hid ((HY.out.next hb).1)
  clear hb
  go_wp2_with fail
  go_ret
  exact ⟨by rw [HR.out]; rfl,HB.out⟩
 ·have HR:=Lib.hid (HE.out.trans (if_neg hl))
  go_wp2_with fail
  refine HCX.out.mono ?_
  rintro e w3 ⟨rfl,hb⟩
  have HB:=Lib.hid ((HY.out.next hb).1)
  clear hb
  go_wp2_with fail
  go_ret
  exact ⟨by rw [HR.out]; rfl,HB.out⟩
theorem Lp {op n:Int} {nm:ByteArray} {kids:aZ} (h:gW op n nm kids=true) (h1:kids.len=1): ∃o m s k,kids= .cons o m s k .nil∧gW o m s k=true:=by
 cases kids with
 | nil=>cases h1
 | cons o m s k r=>
   cases r with
   | nil=>
     unfold gW at h
     rw [Bool.and_eq_true] at h
     have h2:=h.2
     unfold jo at h2
     rw [Bool.and_eq_true] at h2
     exact ⟨o,m,s,k,rfl,h2.1⟩
   | cons=>simp [aZ.len] at h1
theorem Vu {op n:Int} {nm:ByteArray} {kids:aZ} (h:gW op n nm kids=true) (h1:kids.len=2): ∃o m s k o' m' s' k',kids= .cons o m s k (.cons o' m' s' k' .nil)∧gW o m s k=true∧gW o' m' s' k'=true:=by
 cases kids with
 | nil=>cases h1
 | cons o m s k r=>
   cases r with
   | nil=>simp [aZ.len] at h1
   | cons o' m' s' k' r=>
     cases r with
     | nil=>
       unfold gW at h
       rw [Bool.and_eq_true] at h
       have h2:=h.2
       unfold jo at h2
       rw [Bool.and_eq_true] at h2
       have h3:=h2.2
       unfold jo at h3
       rw [Bool.and_eq_true] at h3
       exact ⟨o,m,s,k,o',m',s',k',rfl,h2.1,h3.1⟩
     | cons=>simp [aZ.len] at h1
theorem NG (op n:Int) (nm:ByteArray) (kids:aZ) (ih:kids.All EC):EC op n nm kids:=by
 intro w ao cap hok hsh hw hat hp
 obtain ⟨ho1,ho2,hlen⟩:=Kq hsh
 have tH:=Lib.hid (fun w=>FV op ho1 ho2 w)
 have jr:=Lib.hid hp
 have gq:=Lib.hid hok
 have HW:=Lib.hid hw
 have Az:=Lib.hid hsh
 have HAT:=Lib.hid hat
 have fD:=Lib.hid ih
 have hnm:nm.size≤maxLen:=hok.2.2.1
 have hnn:=hok.2.1
 clear ih hok hsh hw hat hp
 by_cases h1:op=1
 ·subst h1
  have HE:Hid (dx 1 n nm kids=xR n):=Lib.hid rfl
  rw [HE.out]
  have Au:Hid (nP 1=7):=Lib.hid rfl
  rw [Au.out] at tH
  clear HE Au ho1 ho2 hlen
  generalize yG 1=sg at *
  go_enter Tryz.func19,Tryz.ntmps19
  go_upto_region 1 with fail
  have HZ:=Lib.hid ((Sit.start w).xX (n:=w.heap.size) rfl (.int .i64 1) (.int .i64 n) (.string nm) (.slice ao kids.len cap) 45)
  generalize hW:World.alloc w _=W
  rw [hW] at HZ
  clear hW
  obtain ⟨-,⟨-,c0⟩,⟨-,c1⟩,⟨-,c2⟩,⟨-,c3⟩,-⟩:=HZ.out
  go_wp2_with fail
  refine (tH.out _).mono ?_
  rintro e w2 ⟨rfl,hb⟩
  have HY:=Lib.hid (HZ.out.next hb)
  clear hb c0 c1 c2 c3 HZ
  obtain ⟨-,⟨-,c0⟩,⟨-,c1⟩,⟨-,c2⟩,⟨-,c3⟩,-⟩:=HY.out
  go_wp2_with fail
  refine (Cy n hnn.1 hnn.2 _ (jr.out.next HY.out.1)).mono ?_
  rintro e w3 ⟨rfl,hb⟩
  have HB:=Lib.hid ((HY.out.next hb).1)
  clear hb
  go_wp2_with fail
  go_ret
  exact ⟨rfl,HB.out⟩
 by_cases h2:op=2
 ·subst h2
  have HE:Hid (dx 2 n nm kids=nm):=Lib.hid rfl
  rw [HE.out]
  have Au:Hid (nP 2=7):=Lib.hid rfl
  rw [Au.out] at tH
  clear HE Au ho1 ho2 hlen h1
  generalize yG 2=sg at *
  go_enter Tryz.func19,Tryz.ntmps19
  go_upto_region 1 with fail
  have HZ:=Lib.hid ((Sit.start w).xX (n:=w.heap.size) rfl (.int .i64 2) (.int .i64 n) (.string nm) (.slice ao kids.len cap) 45)
  generalize hW:World.alloc w _=W
  rw [hW] at HZ
  clear hW
  obtain ⟨-,⟨-,c0⟩,⟨-,c1⟩,⟨-,c2⟩,⟨-,c3⟩,-⟩:=HZ.out
  go_wp2_with fail
  refine (tH.out _).mono ?_
  rintro e w2 ⟨rfl,hb⟩
  have HY:=Lib.hid (HZ.out.next hb)
  clear hb c0 c1 c2 c3 HZ
  obtain ⟨-,⟨-,c0⟩,⟨-,c1⟩,⟨-,c2⟩,⟨-,c3⟩,-⟩:=HY.out
  go_wp2_with fail
  go_ret
  exact ⟨rfl,HY.out.1⟩
 by_cases h3:op=3
 ·subst h3
  obtain ⟨o,m,s,k,rfl,hsk⟩:=Lp Az.out (by have:opsOf 3=1:=rfl; omega)
  obtain ⟨⟨⟨b0,jc,uL,cap0,hao,hb0,x0,x1,x2,x3,hok0,qh⟩,-⟩,-⟩:(aZ.cons o m s k .nil).At w w.heap.size ao 0∧True:=⟨HAT.out,trivial⟩
  subst hao
  have hwt:40 + nm.size + (40 + s.size + rD k + 0)≤1152921504606846976:=HW.out
  have HX:=Lib.hid (fun w h1 h2=>fD.out.1 w uL cap0 hok0 hsk (by unfold mF; omega) h1 h2)
  have iD:=Lib.hid (lF o m s hok0.2.1 qh)
  have hsz:(dx o m s k).size≤1152921504606846976:=by have:=iD.out; unfold mF at this; omega
  have hsn:nm.size≤1152921504606846976:=by omega
  have HE:Hid (dx 3 n nm (.cons o m s k .nil)=((nm++⟨#[91]⟩)++dx o m s k)++⟨#[93]⟩):=Lib.hid rfl
  rw [HE.out]
  have Au:Hid (nP 3=7):=Lib.hid rfl
  rw [Au.out] at tH
  have iT:=Lib.hid (And.intro hb0 (And.intro x0 (And.intro x1 (And.intro x2 x3))))
  have sN:=Lib.hid qh
  clear HE Au ho1 ho2 hlen h1 h2 iD hwt x0 x1 x2 x3 qh hok0 hsk fD
  generalize yG 3=sg at *
  generalize dx o m s k=ct at *
  simp only [aZ.len]
  go_enter Tryz.func19,Tryz.ntmps19
  go_upto_region 1 with fail
  have HZ:=Lib.hid ((Sit.start w).xX (n:=w.heap.size) rfl (.int .i64 3) (.int .i64 n) (.string nm) (.slice (some ⟨b0,jc,none⟩) (0 + 1) cap) 45)
  generalize hW:World.alloc w _=W
  rw [hW] at HZ
  clear hW
  obtain ⟨-,⟨-,c0⟩,⟨-,c1⟩,⟨-,c2⟩,⟨-,c3⟩,-⟩:=HZ.out
  go_wp2_with fail
  refine (tH.out _).mono ?_
  rintro e w2 ⟨rfl,hb⟩
  have HY:=Lib.hid (HZ.out.next hb)
  clear hb c0 c1 c2 c3 HZ
  obtain ⟨-,⟨-,c0⟩,⟨-,c1⟩,⟨-,c2⟩,⟨-,c3⟩,-⟩:=HY.out
  go_upto_region 7 with fail
  obtain ⟨T,F,D7,hst,hF,hnext⟩:=calm w2
  have HF:=Lib.hid hF
  have gL:=Lib.hid hnext
  clear hnext hF
  have d0:=fun x=>(HY.out.next (HF.out x)).2.1.2
  have d1:=fun x=>(HY.out.next (HF.out x)).2.2.1.2
  have d2:=fun x=>(HY.out.next (HF.out x)).2.2.2.1.2
  have d3:=fun x=>(HY.out.next (HF.out x)).2.2.2.2.1.2
  clear c0 c1 c2 c3
  have y0:=fun x=>(((HY.out.1.trans ((HF.out x).mono HY.out.1.size)).cell (p:=⟨b0,jc + 0 * 4,none⟩) iT.out.1)).trans iT.out.2.1
  have y1:=fun x=>(((HY.out.1.trans ((HF.out x).mono HY.out.1.size)).cell (p:=⟨b0,jc + 0 * 4 + 1,none⟩) iT.out.1)).trans iT.out.2.2.1
  have y2:=fun x=>(((HY.out.1.trans ((HF.out x).mono HY.out.1.size)).cell (p:=⟨b0,jc + 0 * 4 + 2,none⟩) iT.out.1)).trans iT.out.2.2.2.1
  have y3:=fun x=>(((HY.out.1.trans ((HF.out x).mono HY.out.1.size)).cell (p:=⟨b0,jc + 0 * 4 + 3,none⟩) iT.out.1)).trans iT.out.2.2.2.2
  simp only [Nat.zero_mul,Nat.add_zero] at y0 y1 y2 y3
  refine lJ F (by kernel_rfl) (by kernel_rfl) hst ?_
  repeat (any_goals (first | go_big_quiet_step ((go_at_call 19; refine (HX.out _ (sN.out.same (HY.out.1.trans ((HF.out _).mono HY.out.1.size))) (jr.out.next (HY.out.1.trans ((HF.out _).mono HY.out.1.size)))).mono ?_; rintro e w' ⟨rfl,hb⟩; exact ⟨rfl,gL.out _ _ hb⟩)) | (refine wpQuiet_step (fun K hK=> ?_); go_simp; first | (refine hK _ ?_; clear hK K) | (split <;> first | (refine hK _ ?_; clear hK K) | (apply Exists.intro; refine ⟨fun _=> ?_,hK _ ?_⟩; ((go_at_call 19; refine (HX.out _ (sN.out.same (HY.out.1.trans ((HF.out _).mono HY.out.1.size))) (jr.out.next (HY.out.1.trans ((HF.out _).mono HY.out.1.size)))).mono ?_; rintro e w' ⟨rfl,hb⟩; exact ⟨rfl,gL.out _ _ hb⟩)); clear hK K)))))
  all_goals (refine wpQuiet_nil ?_; rintro _ ⟨x,rfl⟩)
  have HB:=Lib.hid (HY.out.1.trans ((HF.out x).mono HY.out.1.size))
  clear d0 d1 d2 d3 y0 y1 y2 y3 HF gL hst
  generalize F x=W3 at *
  go_wp2_with fail
  go_ret
  exact ⟨rfl,HB.out⟩
 have g1:(op == 1)=false:=by rw [beq_eq_false_iff_ne]; exact h1
 have g2:(op == 2)=false:=by rw [beq_eq_false_iff_ne]; exact h2
 have g3:(op == 3)=false:=by rw [beq_eq_false_iff_ne]; exact h3
 by_cases h4:op≤5
 ·have hop:op=4∨op=5:=by omega
  obtain ⟨o,m,s,k,rfl,hsk⟩:=Lp Az.out (by have:opsOf op=1:=by rcases hop with rfl | rfl <;> rfl
                                          omega)
  obtain ⟨⟨b0,jc,uL,cap0,hao,hb0,x0,x1,x2,x3,hok0,qh⟩,-⟩:=HAT.out
  subst hao
  have hwt:40 + nm.size + (40 + s.size + rD k + 0)≤1152921504606846976:=HW.out
  have HX:=Lib.hid (fun w h1 h2=>Ko o m s k 6 fD.out.1 w uL cap0 hok0 hsk (by unfold mF; omega) h1 h2)
  have iD:=Lib.hid (lF o m s hok0.2.1 qh)
  have vU:=Lib.hid (sJ (o,dx o m s k) 6)
  have hsz:(pJ (o,dx o m s k) 6).size≤2305843009213693952:=by have:=iD.out; have:=vU.out; unfold mF at *; dsimp only at *; omega
  have hsg:=Ch op
  have Au:Hid (nP op=6):=Lib.hid (by rcases hop with rfl | rfl <;> rfl)
  have HE:Hid (dx op n nm (.cons o m s k .nil)=yG op++pJ (o,dx o m s k) 6):=Lib.hid (by rcases hop with rfl | rfl <;> rfl)
  rw [HE.out]
  rw [Au.out] at tH
  have iT:=Lib.hid (And.intro hb0 (And.intro x0 (And.intro x1 (And.intro x2 x3))))
  have sN:=Lib.hid qh
  clear HE Au ho1 ho2 hlen h1 h2 h3 h4 iD vU hwt x0 x1 x2 x3 qh hok0 hsk fD hop
  generalize yG op=sg at *
  generalize pJ (o,dx o m s k) 6=ct at *
  simp only [aZ.len]
  go_enter Tryz.func19,Tryz.ntmps19
  go_upto_region 1 with fail
  have HZ:=Lib.hid ((Sit.start w).xX (n:=w.heap.size) rfl (.int .i64 op) (.int .i64 n) (.string nm) (.slice (some ⟨b0,jc,none⟩) (0 + 1) cap) 45)
  generalize hW:World.alloc w _=W
  rw [hW] at HZ
  clear hW
  obtain ⟨-,⟨-,c0⟩,⟨-,c1⟩,⟨-,c2⟩,⟨-,c3⟩,-⟩:=HZ.out
  go_wp2_with fail
  refine (tH.out _).mono ?_
  rintro e w2 ⟨rfl,hb⟩
  have HY:=Lib.hid (HZ.out.next hb)
  clear hb c0 c1 c2 c3 HZ
  obtain ⟨-,⟨-,c0⟩,⟨-,c1⟩,⟨-,c2⟩,⟨-,c3⟩,-⟩:=HY.out
  have y0:=((HY.out.1.cell (p:=⟨b0,jc + 0 * 4,none⟩) iT.out.1)).trans iT.out.2.1
  have y1:=((HY.out.1.cell (p:=⟨b0,jc + 0 * 4 + 1,none⟩) iT.out.1)).trans iT.out.2.2.1
  have y2:=((HY.out.1.cell (p:=⟨b0,jc + 0 * 4 + 2,none⟩) iT.out.1)).trans iT.out.2.2.2.1
  have y3:=((HY.out.1.cell (p:=⟨b0,jc + 0 * 4 + 3,none⟩) iT.out.1)).trans iT.out.2.2.2.2
  simp only [Nat.zero_mul,Nat.add_zero] at y0 y1 y2 y3
  go_wp2_with fail
  refine (HX.out _ (sN.out.same HY.out.1) (jr.out.next HY.out.1)).mono ?_
  rintro e w3 ⟨rfl,hb⟩
  have HB:=Lib.hid ((HY.out.next hb).1)
  clear hb
  go_wp2_with fail
  go_ret
  exact ⟨rfl,HB.out⟩
 ·have hop:op=6∨op=7∨op=8∨op=9∨op=10∨op=11∨op=12∨op=13∨op=14∨op=15∨op=16∨op=17∨op=18:=by omega
  obtain ⟨o,m,s,k,o',m',s',k',rfl,hsk,Y5⟩:=Vu Az.out (by
   have:opsOf op=2:=by rcases hop with rfl | rfl | rfl | rfl | rfl | rfl | rfl | rfl | rfl | rfl | rfl | rfl | rfl <;> rfl
   omega)
  obtain ⟨⟨b0,jc,uL,cap0,hao,hb0,x0,x1,x2,x3,hok0,qh⟩,⟨b1,off1,DN,zW,Tc,hb1,z0,z1,z2,z3,hok1,SE⟩,-⟩:=HAT.out
  subst hao
  injection Tc with Tc
  injection Tc with e1 e2
  subst e1
  subst e2
  have hwt:40 + nm.size + (40 + s.size + rD k + (40 + s'.size + rD k' + 0))≤1152921504606846976:=HW.out
  obtain ⟨lf,Xv⟩: ∃lf,Hid ((if nP op == 3 then 4 else nP op)=lf):=⟨_,Lib.hid rfl⟩
  have HX:=Lib.hid (fun w h1 h2=>Ko o m s k lf fD.out.1 w uL cap0 hok0 hsk (by unfold mF; omega) h1 h2)
  have EA:=Lib.hid (fun w h1 h2=>Ko o' m' s' k' (nP op + 1) fD.out.2.1 w DN zW hok1 Y5 (by unfold mF; omega) h1 h2)
  have iD:=Lib.hid (lF o m s hok0.2.1 qh)
  have Xp:=Lib.hid (lF o' m' s' hok1.2.1 SE)
  have hsz:(pJ (o,dx o m s k) lf).size≤2305843009213693952:=by have:=iD.out; have:=sJ (o,dx o m s k) lf; unfold mF at *; dsimp only at *; omega
  have hsz':(pJ (o',dx o' m' s' k') (nP op + 1)).size≤2305843009213693952:=by have:=Xp.out; have:=sJ (o',dx o' m' s' k') (nP op + 1); unfold mF at *; dsimp only at *; omega
  have hsg:=Ch op
  have hlv:1≤nP op∧nP op≤5:=by rcases hop with rfl | rfl | rfl | rfl | rfl | rfl | rfl | rfl | rfl | rfl | rfl | rfl | rfl <;> decide
  have HE:Hid (dx op n nm (.cons o m s k (.cons o' m' s' k' .nil))=(((pJ (o,dx o m s k) lf++⟨#[32]⟩)++yG op)++⟨#[32]⟩)++pJ (o',dx o' m' s' k') (nP op + 1)):=Lib.hid (by
   rw [← Xv.out]
   rcases hop with rfl | rfl | rfl | rfl | rfl | rfl | rfl | rfl | rfl | rfl | rfl | rfl | rfl <;> rfl)
  rw [HE.out]
  have iT:=Lib.hid (And.intro hb0 (And.intro x0 (And.intro x1 (And.intro x2 x3))))
  have pI:=Lib.hid (And.intro hb0 (And.intro z0 (And.intro z1 (And.intro z2 z3))))
  have sN:=Lib.hid (And.intro qh SE)
  clear HE ho1 ho2 hlen h1 h2 h3 h4 iD Xp hwt x0 x1 x2 x3 z0 z1 z2 z3 qh SE hok0 hok1 hsk Y5 fD hop
  generalize yG op=sg at *
  generalize nP op=lv at *
  generalize pJ (o,dx o m s k) lf=ct at *
  generalize pJ (o',dx o' m' s' k') (lv + 1)=ct' at *
  simp only [aZ.len]
  obtain ⟨hlv1,hlv2⟩:=hlv
  have g6:(lv == 6)=false:=by rw [beq_eq_false_iff_ne]; omega
  go_enter Tryz.func19,Tryz.ntmps19
  go_upto_region 1 with fail
  have HZ:=Lib.hid ((Sit.start w).xX (n:=w.heap.size) rfl (.int .i64 op) (.int .i64 n) (.string nm) (.slice (some ⟨b0,jc,none⟩) (0 + 1 + 1) cap) 45)
  generalize hW:World.alloc w _=W
  rw [hW] at HZ
  clear hW
  obtain ⟨-,⟨-,c0⟩,⟨-,c1⟩,⟨-,c2⟩,⟨-,c3⟩,-⟩:=HZ.out
  go_wp2_with fail
  refine (tH.out _).mono ?_
  rintro e w2 ⟨rfl,hb⟩
  have HY:=Lib.hid (HZ.out.next hb)
  clear hb c0 c1 c2 c3 HZ
  obtain ⟨-,⟨-,c0⟩,⟨-,c1⟩,⟨-,c2⟩,⟨-,c3⟩,-⟩:=HY.out
  cases JU:(lv == 3)
  ·have e:lf=lv:=by rw [← Xv.out,JU]; rfl
   rw [e] at HX
   clear e
   go_upto_region 14 with fail
   obtain ⟨T,F,D7,hst,hF,hnext⟩:=calm w2
   have HF:=Lib.hid hF
   have gL:=Lib.hid hnext
   clear hnext hF
   have d0:=fun x=>(HY.out.next (HF.out x)).2.1.2
   have d1:=fun x=>(HY.out.next (HF.out x)).2.2.1.2
   have d2:=fun x=>(HY.out.next (HF.out x)).2.2.2.1.2
   have d3:=fun x=>(HY.out.next (HF.out x)).2.2.2.2.1.2
   clear c0 c1 c2 c3
   have y0:=fun x=>(((HY.out.1.trans ((HF.out x).mono HY.out.1.size)).cell (p:=⟨b0,jc + 0 * 4,none⟩) iT.out.1)).trans iT.out.2.1
   have y1:=fun x=>(((HY.out.1.trans ((HF.out x).mono HY.out.1.size)).cell (p:=⟨b0,jc + 0 * 4 + 1,none⟩) iT.out.1)).trans iT.out.2.2.1
   have y2:=fun x=>(((HY.out.1.trans ((HF.out x).mono HY.out.1.size)).cell (p:=⟨b0,jc + 0 * 4 + 2,none⟩) iT.out.1)).trans iT.out.2.2.2.1
   have y3:=fun x=>(((HY.out.1.trans ((HF.out x).mono HY.out.1.size)).cell (p:=⟨b0,jc + 0 * 4 + 3,none⟩) iT.out.1)).trans iT.out.2.2.2.2
   have z0:=fun x=>(((HY.out.1.trans ((HF.out x).mono HY.out.1.size)).cell (p:=⟨b0,jc + (0 + 1) * 4,none⟩) pI.out.1)).trans pI.out.2.1
   have z1:=fun x=>(((HY.out.1.trans ((HF.out x).mono HY.out.1.size)).cell (p:=⟨b0,jc + (0 + 1) * 4 + 1,none⟩) pI.out.1)).trans pI.out.2.2.1
   have z2:=fun x=>(((HY.out.1.trans ((HF.out x).mono HY.out.1.size)).cell (p:=⟨b0,jc + (0 + 1) * 4 + 2,none⟩) pI.out.1)).trans pI.out.2.2.2.1
   have z3:=fun x=>(((HY.out.1.trans ((HF.out x).mono HY.out.1.size)).cell (p:=⟨b0,jc + (0 + 1) * 4 + 3,none⟩) pI.out.1)).trans pI.out.2.2.2.2
   simp only [Nat.zero_mul,Nat.zero_add,Nat.one_mul,Nat.add_zero] at y0 y1 y2 y3 z0 z1 z2 z3
   refine lJ F (by kernel_rfl) (by kernel_rfl) hst ?_
   repeat (any_goals (first | go_big_quiet_step ((first | (go_at_call_of 50 (Value.agg #[.int .i64 o,.int .i64 m,.string s,.slice uL k.len cap0]); refine (HX.out _ (sN.out.1.same (HY.out.1.trans ((HF.out _).mono HY.out.1.size))) (jr.out.next (HY.out.1.trans ((HF.out _).mono HY.out.1.size)))).mono ?_; rintro e w' ⟨rfl,hb⟩; exact ⟨rfl,gL.out _ _ hb⟩) | (go_at_call_of 50 (Value.agg #[.int .i64 o',.int .i64 m',.string s',.slice DN k'.len zW]); refine (EA.out _ (sN.out.2.same (HY.out.1.trans ((HF.out _).mono HY.out.1.size))) (jr.out.next (HY.out.1.trans ((HF.out _).mono HY.out.1.size)))).mono ?_; rintro e w' ⟨rfl,hb⟩; exact ⟨rfl,gL.out _ _ hb⟩))) | (refine wpQuiet_step (fun K hK=> ?_); go_simp; first | (refine hK _ ?_; clear hK K) | (split <;> first | (refine hK _ ?_; clear hK K) | (apply Exists.intro; refine ⟨fun _=> ?_,hK _ ?_⟩; ((first | (go_at_call_of 50 (Value.agg #[.int .i64 o,.int .i64 m,.string s,.slice uL k.len cap0]); refine (HX.out _ (sN.out.1.same (HY.out.1.trans ((HF.out _).mono HY.out.1.size))) (jr.out.next (HY.out.1.trans ((HF.out _).mono HY.out.1.size)))).mono ?_; rintro e w' ⟨rfl,hb⟩; exact ⟨rfl,gL.out _ _ hb⟩) | (go_at_call_of 50 (Value.agg #[.int .i64 o',.int .i64 m',.string s',.slice DN k'.len zW]); refine (EA.out _ (sN.out.2.same (HY.out.1.trans ((HF.out _).mono HY.out.1.size))) (jr.out.next (HY.out.1.trans ((HF.out _).mono HY.out.1.size)))).mono ?_; rintro e w' ⟨rfl,hb⟩; exact ⟨rfl,gL.out _ _ hb⟩))); clear hK K)))))
   all_goals (refine wpQuiet_nil ?_; rintro _ ⟨x,rfl⟩)
   have HB:=Lib.hid (HY.out.1.trans ((HF.out x).mono HY.out.1.size))
   clear d0 d1 d2 d3 y0 y1 y2 y3 z0 z1 z2 z3 HF gL hst
   generalize F x=W3 at *
   go_wp2_with fail
   go_ret
   exact ⟨rfl,HB.out⟩
  ·have e:lf=4:=by rw [← Xv.out,JU]; rfl
   rw [e] at HX
   clear e
   go_upto_region 14 with fail
   obtain ⟨T,F,D7,hst,hF,hnext⟩:=calm w2
   have HF:=Lib.hid hF
   have gL:=Lib.hid hnext
   clear hnext hF
   have d0:=fun x=>(HY.out.next (HF.out x)).2.1.2
   have d1:=fun x=>(HY.out.next (HF.out x)).2.2.1.2
   have d2:=fun x=>(HY.out.next (HF.out x)).2.2.2.1.2
   have d3:=fun x=>(HY.out.next (HF.out x)).2.2.2.2.1.2
   clear c0 c1 c2 c3
   have y0:=fun x=>(((HY.out.1.trans ((HF.out x).mono HY.out.1.size)).cell (p:=⟨b0,jc + 0 * 4,none⟩) iT.out.1)).trans iT.out.2.1
   have y1:=fun x=>(((HY.out.1.trans ((HF.out x).mono HY.out.1.size)).cell (p:=⟨b0,jc + 0 * 4 + 1,none⟩) iT.out.1)).trans iT.out.2.2.1
   have y2:=fun x=>(((HY.out.1.trans ((HF.out x).mono HY.out.1.size)).cell (p:=⟨b0,jc + 0 * 4 + 2,none⟩) iT.out.1)).trans iT.out.2.2.2.1
   have y3:=fun x=>(((HY.out.1.trans ((HF.out x).mono HY.out.1.size)).cell (p:=⟨b0,jc + 0 * 4 + 3,none⟩) iT.out.1)).trans iT.out.2.2.2.2
   have z0:=fun x=>(((HY.out.1.trans ((HF.out x).mono HY.out.1.size)).cell (p:=⟨b0,jc + (0 + 1) * 4,none⟩) pI.out.1)).trans pI.out.2.1
   have z1:=fun x=>(((HY.out.1.trans ((HF.out x).mono HY.out.1.size)).cell (p:=⟨b0,jc + (0 + 1) * 4 + 1,none⟩) pI.out.1)).trans pI.out.2.2.1
   have z2:=fun x=>(((HY.out.1.trans ((HF.out x).mono HY.out.1.size)).cell (p:=⟨b0,jc + (0 + 1) * 4 + 2,none⟩) pI.out.1)).trans pI.out.2.2.2.1
   have z3:=fun x=>(((HY.out.1.trans ((HF.out x).mono HY.out.1.size)).cell (p:=⟨b0,jc + (0 + 1) * 4 + 3,none⟩) pI.out.1)).trans pI.out.2.2.2.2
   simp only [Nat.zero_mul,Nat.zero_add,Nat.one_mul,Nat.add_zero] at y0 y1 y2 y3 z0 z1 z2 z3
   refine lJ F (by kernel_rfl) (by kernel_rfl) hst ?_
   repeat (any_goals (first | go_big_quiet_step ((first | (go_at_call_of 50 (Value.agg #[.int .i64 o,.int .i64 m,.string s,.slice uL k.len cap0]); refine (HX.out _ (sN.out.1.same (HY.out.1.trans ((HF.out _).mono HY.out.1.size))) (jr.out.next (HY.out.1.trans ((HF.out _).mono HY.out.1.size)))).mono ?_; rintro e w' ⟨rfl,hb⟩; exact ⟨rfl,gL.out _ _ hb⟩) | (go_at_call_of 50 (Value.agg #[.int .i64 o',.int .i64 m',.string s',.slice DN k'.len zW]); refine (EA.out _ (sN.out.2.same (HY.out.1.trans ((HF.out _).mono HY.out.1.size))) (jr.out.next (HY.out.1.trans ((HF.out _).mono HY.out.1.size)))).mono ?_; rintro e w' ⟨rfl,hb⟩; exact ⟨rfl,gL.out _ _ hb⟩))) | (refine wpQuiet_step (fun K hK=> ?_); go_simp; first | (refine hK _ ?_; clear hK K) | (split <;> first | (refine hK _ ?_; clear hK K) | (apply Exists.intro; refine ⟨fun _=> ?_,hK _ ?_⟩; ((first | (go_at_call_of 50 (Value.agg #[.int .i64 o,.int .i64 m,.string s,.slice uL k.len cap0]); refine (HX.out _ (sN.out.1.same (HY.out.1.trans ((HF.out _).mono HY.out.1.size))) (jr.out.next (HY.out.1.trans ((HF.out _).mono HY.out.1.size)))).mono ?_; rintro e w' ⟨rfl,hb⟩; exact ⟨rfl,gL.out _ _ hb⟩) | (go_at_call_of 50 (Value.agg #[.int .i64 o',.int .i64 m',.string s',.slice DN k'.len zW]); refine (EA.out _ (sN.out.2.same (HY.out.1.trans ((HF.out _).mono HY.out.1.size))) (jr.out.next (HY.out.1.trans ((HF.out _).mono HY.out.1.size)))).mono ?_; rintro e w' ⟨rfl,hb⟩; exact ⟨rfl,gL.out _ _ hb⟩))); clear hK K)))))
   all_goals (refine wpQuiet_nil ?_; rintro _ ⟨x,rfl⟩)
   have HB:=Lib.hid (HY.out.1.trans ((HF.out x).mono HY.out.1.size))
   clear d0 d1 d2 d3 y0 y1 y2 y3 z0 z1 z2 z3 HF gL hst
   generalize F x=W3 at *
   go_wp2_with fail
   go_ret
   exact ⟨rfl,HB.out⟩
theorem GX (op n:Int) (nm:ByteArray) (kids:aZ):EC op n nm kids:=aZ.Ig NG op n nm kids
end Go.Proofs.YtehnipchbmjlhaaGreatDoor
end
