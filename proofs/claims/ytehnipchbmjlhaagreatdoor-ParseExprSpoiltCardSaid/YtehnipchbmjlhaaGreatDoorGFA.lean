/-
  Plain functions of the printer: the texts of expressions, statements, declarations, programs. No program in sight.
  Contracts of the printer's sign, put, Expr at shaped expressions.
  Contracts of the printer's put and Expr at shaped expressions.
-/
import Derived.Test.YtehnipchbmjlhaaGreatDoorGMA
import Derived.Lib.ItoaLen
import Derived.Lib.AppendIntMem
import Derived.Test.YtehnipchbmjlhaaGreatDoorGMO
import Derived.Test.YtehnipchbmjlhaaGreatDoorGMB
import Derived.Test.YtehnipchbmjlhaaGreatDoorShelf
import Derived.StillTailTactics
import Derived.Sort.AtCall
import Derived.Deep.RegionWith
section
namespace Go.Proofs.YtehnipchbmjlhaaGreatDoor.Fm
open Go.RowKit Md
def jQ (op:Int):ByteArray:=
 if op == 4 then ⟨#[45]⟩ else if op == 5 then ⟨#[33]⟩ else if op == 6 then ⟨#[43]⟩ else if op == 7 then ⟨#[45]⟩ else if op == 8 then ⟨#[42]⟩ else if op == 9 then ⟨#[47]⟩ else if op == 10 then ⟨#[37]⟩
 else if op == 11 then ⟨#[61,61]⟩ else if op == 12 then ⟨#[33,61]⟩ else if op == 13 then ⟨#[60]⟩ else if op == 14 then ⟨#[60,61]⟩ else if op == 15 then ⟨#[62]⟩ else if op == 16 then ⟨#[62,61]⟩
 else if op == 17 then ⟨#[38,38]⟩ else if op == 18 then ⟨#[124,124]⟩ else ⟨#[]⟩
def eu (op:Int):Int:=
 if op == 4 || op == 5 then 6 else if op == 6 || op == 7 then 4 else if op == 8 || op == 9 || op == 10 then 5
 else if op == 11 || op == 12 || op == 13 || op == 14 || op == 15 || op == 16 then 3 else if op == 17 then 2 else if op == 18 then 1 else 7
def lu (n:Int):ByteArray:=⟨(Lib.itoa n).toArray⟩
def F8 (b:ByteArray):ByteArray:=(⟨#[40]⟩++b)++⟨#[41]⟩
def jO (x:Int × ByteArray) (lv:Int):ByteArray:=if eu x.1 < lv then F8 x.2 else x.2
def LP (op n:Int) (nm:ByteArray) (ks:List (Int × ByteArray)):ByteArray:=
 if op == 1 then lu n else if op == 2 then nm else
 match ks with
 | [a]=>if op == 3 then ((nm++⟨#[91]⟩)++a.2)++⟨#[93]⟩ else if eu op == 6 then jQ op++jO a 6 else ⟨#[]⟩
 | [a,b]=>if eu op < 6 then (((jO a (if eu op == 3 then 4 else eu op)++⟨#[32]⟩)++jQ op)++⟨#[32]⟩)++jO b (eu op + 1) else ⟨#[]⟩
 | _=>⟨#[]⟩
def Je:aH→List (Int × ByteArray)
 | .nil=>[]
 | .cons op n nm kids rest=>(op,LP op n nm (Je kids)) ::Je rest
def bf (op n:Int) (nm:ByteArray) (kids:aH):ByteArray:=LP op n nm (Je kids)
def iE (op:Int):ByteArray:=
 if op == 2 then ⟨#[105,102]⟩ else if op == 3 then ⟨#[119,104,105,108,101]⟩ else if op == 4 then ⟨#[108,111,99,107]⟩ else if op == 5 then ⟨#[114,101,97,100]⟩ else if op == 6 then ⟨#[119,114,105,116,101]⟩
 else if op == 7 then ⟨#[116,114,97,110,115,97,99,116,105,111,110]⟩ else if op == 8 then ⟨#[97,116,111,109,105,99]⟩ else if op == 9 then ⟨#[119,97,105,116]⟩ else if op == 10 then ⟨#[110,111,116,105,102,121]⟩
 else if op == 11 then ⟨#[110,111,116,105,102,121,97,108,108]⟩ else if op == 12 then ⟨#[115,112,97,119,110]⟩ else if op == 13 then ⟨#[106,111,105,110]⟩ else if op == 14 then ⟨#[115,101,116]⟩ else if op == 15 then ⟨#[103,101,116]⟩ else ⟨#[]⟩
def oJ (k:Int):ByteArray:=
 if k == 1 then ⟨#[118,97,114]⟩ else if k == 2 then ⟨#[118,111,108,97,116,105,108,101]⟩ else if k == 3 then ⟨#[109,117,116,101,120]⟩ else if k == 4 then ⟨#[114,119,108,111,99,107]⟩ else if k == 5 then ⟨#[99,111,110,100]⟩ else if k == 6 then ⟨#[102,117,116,117,114,101]⟩ else ⟨#[]⟩
def mE:Nat→ByteArray
 | 0=>⟨#[]⟩
 | n + 1=>mE n++⟨#[32,32]⟩
def xB (h:aW):ByteArray:=bf h.bM h.xn h.bP h.aJ
def YB (h:aW):ByteArray:=match h.idx with
 | .nil=>⟨#[]⟩
 | .cons op n nm kids _=>(⟨#[91]⟩++bf op n nm kids)++⟨#[93]⟩
def eD (h:aW):ByteArray:=
 if h.op == 1 then (((h.nm++YB h)++⟨#[32,61,32]⟩)++xB h)++⟨#[59]⟩
 else if h.op == 2 || h.op == 3 then ((iE h.op++⟨#[32]⟩)++xB h)++⟨#[32,123]⟩
 else if h.op == 4 || h.op == 5 || h.op == 6 then ((iE h.op++⟨#[32]⟩)++h.nm)++⟨#[32,123]⟩
 else if h.op == 7 || h.op == 8 then iE h.op++⟨#[32,123]⟩
 else if h.op == 14 then ((((iE h.op++⟨#[32]⟩)++h.nm)++⟨#[32]⟩)++xB h)++⟨#[59]⟩
 else if h.op == 15 then ((((iE h.op++⟨#[32]⟩)++h.nm)++⟨#[32]⟩)++h.arg)++⟨#[59]⟩
 else ((iE h.op++⟨#[32]⟩)++h.nm)++⟨#[59]⟩
def Pe:ByteArray:=⟨#[125,32,101,108,115,101,32,123,10]⟩
def iw:aI→Bool
 | .nil=>true
 | .cons .. =>false
def FC (d:Nat) (h:aW) (b e:ByteArray) (ne:Bool):ByteArray:=
 if h.op < 1 || 15 < h.op then ⟨#[]⟩ else
 if h.op < 2 || 8 < h.op then (mE d++eD h)++⟨#[10]⟩ else
 if ne then ((((mE d++eD h)++⟨#[10]⟩)++b)++mE d)++⟨#[125,10]⟩
 else (((((((mE d++eD h)++⟨#[10]⟩)++b)++mE d)++Pe)++e)++mE d)++⟨#[125,10]⟩
def jV:aI→Nat→ByteArray
 | .nil,_=>⟨#[]⟩
 | .cons h b e r,d=>FC d h (jV b (d + 1)) (jV e (d + 1)) (iw e)++jV r d
def Oh (d:Nat) (h:aW) (b e:aI):ByteArray:=FC d h (jV b (d + 1)) (jV e (d + 1)) (iw e)
def Ck (d:De):ByteArray:=
 if d.kind < 1 || 6 < d.kind then ⟨#[]⟩ else
 let s1:=(oJ d.kind++⟨#[32]⟩)++d.nm
 let s2:=if 0 < d.size then ((s1++⟨#[91]⟩)++lu d.size)++⟨#[93]⟩ else s1
 let s3:=if d.init != 0 then (s2++⟨#[32,61,32]⟩)++lu d.init else s2
 let s4:=if d.kind == 5 then (s3++⟨#[32]⟩)++d.on else s3
 s4++⟨#[59,10]⟩
def Bf:List De→ByteArray
 | []=>⟨#[]⟩
 | d ::r=>Ck d++Bf r
def pK (first:Bool):List ByteArray→ByteArray
 | []=>⟨#[]⟩
 | s ::r=>(if first then s else ⟨#[44,32]⟩++s)++pK false r
def Gp (t:Th):ByteArray:=((((((⟨#[116,104,114,101,97,100,32]⟩++t.nm)++⟨#[40]⟩)++pK true t.cB)++⟨#[41,32,123,10]⟩)++jV t.body 1)++⟨#[125,10]⟩)
def tZ:List Th→ByteArray
 | []=>⟨#[]⟩
 | t ::r=>Gp t++tZ r
def sI (p:Pr):ByteArray:=Bf p.ds++tZ p.ts
end Go.Proofs.YtehnipchbmjlhaaGreatDoor.Fm
end
section
set_option linter.unusedSimpArgs false
set_option linter.unusedVariables false
namespace Go.Proofs.YtehnipchbmjlhaaGreatDoor
open Go.RowKit
open Md Fm
def iM (w:World):Prop:=Lib.TabIs Tryz.prog w "internal/strconv.uint64pow10" .u64 Lib.pow10Tab
theorem QF:Tryz.prog.globalNamed "internal/strconv.uint64pow10" =some 1:=by kernel_rfl
theorem iM.next {w w':World} (h:iM w) (hb:Below w.heap.size w w'):iM w':=Lib.tabBelow_of_tabIs h w' hb
theorem Ch (n:Int) (h0: -9223372036854775808≤n) (h1:n≤9223372036854775807) (w:World) (ht:iM w):
 Calls Tryz.prog 49 #[.int .i64 n,.int .i64 10] w fun e w'=>e= .returned (.string (lu n))∧Below w.heap.size w w':=
 (Tryz.strconv_FormatInt_10 n h0 h1 w ht).mono fun _ _ ⟨he,k,os,hw⟩=>⟨he,hw ▸ Lib.below_grow _ w (Nat.le_refl _) k os⟩
theorem Ow (w:World) (a b:Array Value) (t s:TypeId) (n:Nat):Below w.heap.size w (((w.alloc (.cells a t)).alloc (.cells b s)).drewN n):=below_drewN (((Below.refl _ _).alloc (Nat.le_refl _) _).alloc (by simp) _) n
theorem zw (w:World) (a b:Array Value) (t s:TypeId):Below w.heap.size w ((w.alloc (.cells a t)).alloc (.cells b s)):=((Below.refl _ _).alloc (Nat.le_refl _) _).alloc (by simp) _
set_option maxHeartbeats 4000000 in
theorem FH (op:Int) (h1:1≤op) (h2:op≤18) (w:World):
 Calls Tryz.prog 48 #[.int .i64 op] w fun e w'=>e= .returned (.tuple #[.string (jQ op),.int .i64 (eu op)])∧Below w.heap.size w w':=by
 have hc:op=1∨op=2∨op=3∨op=4∨op=5∨op=6∨op=7∨op=8∨op=9∨op=10∨op=11∨op=12∨op=13∨op=14∨op=15∨op=16∨op=17∨op=18:=by omega
 clear h1 h2
 rcases hc with rfl | rfl | rfl | hc
 ·go_enter Tryz.func48,Tryz.ntmps48
  go_wp2_with fail
  go_ret2
  exact ⟨rfl,zw _ _ _ _ _⟩
 ·go_enter Tryz.func48,Tryz.ntmps48
  go_wp2_with fail
  go_ret2
  exact ⟨rfl,zw _ _ _ _ _⟩
 ·go_enter Tryz.func48,Tryz.ntmps48
  go_wp2_with fail
  go_ret2
  exact ⟨rfl,zw _ _ _ _ _⟩
 ·rcases hc with rfl | rfl | rfl | rfl | rfl | rfl | rfl | rfl | rfl | rfl | rfl | rfl | rfl | rfl | rfl
  all_goals
   go_enter Tryz.func48,Tryz.ntmps48
   go_upto_region 6 with fail
   go_quiet (fail)
   go_wp2_with fail
   go_ret2
   exact ⟨rfl,Ow _ _ _ _ _ _⟩
end Go.Proofs.YtehnipchbmjlhaaGreatDoor
end
section
set_option linter.unusedSimpArgs false
set_option linter.unusedVariables false
namespace Go.Proofs.YtehnipchbmjlhaaGreatDoor
open Go.RowKit
open Md Fm
theorem uH (n:Int) (h:aV n):(lu n).size≤21:=by
 have:=Lib.itoa_length_le n h.1 h.2
 unfold lu
 rw [show (⟨(Lib.itoa n).toArray⟩:ByteArray).size=(Lib.itoa n).length from by simp [ByteArray.size]]
 exact this
theorem J2 {c:Prop} [Decidable c] {a b m:Nat} (h1:a≤m) (h2:b≤m):(if c then a else b)≤m:=by split <;> assumption
theorem xO (op:Int):(jQ op).size≤2:=by
 unfold jQ
 simp only [apply_ite ByteArray.size]
 repeat (refine J2 (by decide) ?_)
 decide
theorem Ro (b:ByteArray):(F8 b).size=b.size + 2:=by
 unfold F8; simp [ByteArray.size_append]; rw [show (⟨#[40]⟩:ByteArray).size=1 from rfl,show (⟨#[41]⟩:ByteArray).size=1 from rfl]; omega
theorem rJ (x:Int × ByteArray) (lv:Int):(jO x lv).size≤x.2.size + 2:=by
 unfold jO; split
 ·rw [Ro]; exact Nat.le_refl _
 ·omega
def Co:List (Int × ByteArray)→Nat
 | []=>0
 | x ::r=>x.2.size + Co r
theorem Ka (op n:Int) (nm:ByteArray) (ks:List (Int × ByteArray)) (hn:aV n):(LP op n nm ks).size≤30 + nm.size + Co ks:=by
 unfold LP
 split
 ·have:=uH n hn; omega
 ·split
  ·omega
  ·match ks with
   | []=>exact Nat.zero_le _
   | [a]=>
     dsimp only
     split
     ·simp only [ByteArray.size_append,Co]; rw [show (⟨#[91]⟩:ByteArray).size=1 from rfl,show (⟨#[93]⟩:ByteArray).size=1 from rfl]; omega
     ·split
      ·have h1:=rJ a 6; have h2:=xO op; simp only [ByteArray.size_append,Co]; omega
      ·exact Nat.zero_le _
   | [a,b]=>
     dsimp only
     split
     ·have h1:=rJ a (if eu op == 3 then 4 else eu op); have h2:=rJ b (eu op + 1); have h3:=xO op; simp only [ByteArray.size_append,Co]; rw [show (⟨#[32]⟩:ByteArray).size=1 from rfl]; omega
     ·exact Nat.zero_le _
   | _ ::_ ::_ ::_=>exact Nat.zero_le _
theorem Db {w:World} {B:Nat} : ∀ {l:aH} {ao:Option Addr} {k:Nat},l.At w B ao k→Co (Je l)≤pX l
 | .nil,_,_,_=>Nat.le_refl _
 | .cons op n nm kids rest,ao,k,h=>by
   obtain ⟨⟨b,off,gM,cap,e,hB,c0,c1,c2,c3,hok,hk⟩,hr⟩:=h
   have h1:=Db hk
   have h2:=Db hr
   have h3:=Ka op n nm (Je kids) hok.2.1
   simp only [Je,Co,pX]; omega
theorem jc {w:World} {B:Nat} (op n:Int) (nm:ByteArray) {kids:aH} {ao:Option Addr} (hn:aV n) (h:kids.At w B ao 0):(bf op n nm kids).size≤lD nm kids:=by
 have h1:=Db h
 have h3:=Ka op n nm (Je kids) hn
 unfold bf lD; omega
def Ed (op n:Int) (nm:ByteArray) (kids:aH):Prop:=
 ∀(w:World) (ao:Option Addr) (cap:Nat),qK op n nm kids→dI op n nm kids=true→lD nm kids≤1152921504606846976→kids.At w w.heap.size ao 0→iM w→
  Calls Tryz.prog 19 #[.agg #[.int .i64 op,.int .i64 n,.string nm,.slice ao kids.len cap]] w fun e w'=>e= .returned (.string (bf op n nm kids))∧Below w.heap.size w w'
theorem IG {op n:Int} {nm:ByteArray} {kids:aH} (h:dI op n nm kids=true):1≤op∧op≤18∧(kids.len:Int)=opsOf op:=by
 unfold dI uK at h
 simp only [Bool.and_eq_true,beq_iff_eq] at h
 have h1:=h.1.1
 refine ⟨?_,?_,h1⟩
 ·unfold opsOf at h1; grind
 ·unfold opsOf at h1; grind
set_option maxHeartbeats 1000000 in
theorem Kc (op n:Int) (nm:ByteArray) (kids:aH) (lv:Int) (ih:Ed op n nm kids) (w:World) (ao:Option Addr) (cap:Nat) (hok:qK op n nm kids) (hsh:dI op n nm kids=true) (hw:lD nm kids≤1152921504606846976) (hat:kids.At w w.heap.size ao 0) (hp:iM w):
 Calls Tryz.prog 50 #[.agg #[.int .i64 op,.int .i64 n,.string nm,.slice ao kids.len cap],.int .i64 lv] w fun e w'=>e= .returned (.string (jO (op,bf op n nm kids) lv))∧Below w.heap.size w w':=by
 have iZ:=Lib.hid (Nat.le_trans (jc op n nm hok.2.1 hat) hw)
 have HX:=Lib.hid (fun w ao h1 h2=>ih w ao cap hok hsh hw h1 h2)
 have Af:=Lib.hid (fun w=>FH op (IG hsh).1 (IG hsh).2.1 w)
 have HAT:=Lib.hid hat
 have iD:=Lib.hid hp
 obtain ⟨res,HE⟩: ∃res,Hid (jO (op,bf op n nm kids) lv=res∧res=if eu op < lv then F8 (bf op n nm kids) else bf op n nm kids):=⟨_,Lib.hid ⟨rfl,rfl⟩⟩
 rw [HE.out.1]
 replace HE:=Lib.hid HE.out.2
 clear ih hok hsh hw hat hp
 generalize bf op n nm kids=t at *
 generalize jQ op=sg at *
 generalize eu op=lo at *
 have hsz:=iZ.out
 go_enter Tryz.func50,Tryz.ntmps50
 go_upto_region 1 with fail
 have HZ:=Lib.hid ((Sit.start w).qz (n:=w.heap.size) rfl (.int .i64 op) (.int .i64 n) (.string nm) (.slice ao kids.len cap) 45)
 generalize hW:World.alloc w _=W
 rw [hW] at HZ
 clear hW
 obtain ⟨-,⟨-,c0⟩,⟨-,c1⟩,⟨-,c2⟩,⟨-,c3⟩,-⟩:=HZ.out
 go_wp2_with fail
 refine (Af.out _).mono ?_
 rintro e w2 ⟨rfl,hb⟩
 have HY:=Lib.hid (HZ.out.next hb)
 clear hb c0 c1 c2 c3 HZ
 obtain ⟨-,⟨-,c0⟩,⟨-,c1⟩,⟨-,c2⟩,⟨-,c3⟩,-⟩:=HY.out
 have HCX:=Lib.hid (HX.out w2 ao (HAT.out.same HY.out.1) (iD.out.next HY.out.1))
 by_cases hl:lo < lv
 ·have HR:=Lib.hid (HE.out.trans (if_pos hl))
  go_wp2_with fail
  refine HCX.out.mono ?_
  rintro e w3 ⟨rfl,hb⟩
  have HB:=Lib.hid ((HY.out.next hb).1)
  clear hb
  go_wp2_with fail
  go_ret
  exact ⟨by rw [HR.out]; rfl,HB.out⟩
 ·have HR:=Lib.hid (HE.out.trans (if_neg hl))
  go_wp2_with fail
  refine HCX.out.mono ?_
  rintro e w3 ⟨rfl,hb⟩
  have HB:=Lib.hid ((HY.out.next hb).1)
  clear hb
  go_wp2_with fail
  go_ret
  exact ⟨by rw [HR.out]; rfl,HB.out⟩
theorem Lu {op n:Int} {nm:ByteArray} {kids:aH} (h:dI op n nm kids=true) (h1:kids.len=1): ∃o m s k,kids= .cons o m s k .nil∧dI o m s k=true:=by
 cases kids with
 | nil=>cases h1
 | cons o m s k r=>
   cases r with
   | nil=>
     unfold dI at h
     rw [Bool.and_eq_true] at h
     have h2:=h.2
     unfold gZ at h2
     rw [Bool.and_eq_true] at h2
     exact ⟨o,m,s,k,rfl,h2.1⟩
   | cons=>simp [aH.len] at h1
theorem V3 {op n:Int} {nm:ByteArray} {kids:aH} (h:dI op n nm kids=true) (h1:kids.len=2): ∃o m s k o' m' s' k',kids= .cons o m s k (.cons o' m' s' k' .nil)∧dI o m s k=true∧dI o' m' s' k'=true:=by
 cases kids with
 | nil=>cases h1
 | cons o m s k r=>
   cases r with
   | nil=>simp [aH.len] at h1
   | cons o' m' s' k' r=>
     cases r with
     | nil=>
       unfold dI at h
       rw [Bool.and_eq_true] at h
       have h2:=h.2
       unfold gZ at h2
       rw [Bool.and_eq_true] at h2
       have h3:=h2.2
       unfold gZ at h3
       rw [Bool.and_eq_true] at h3
       exact ⟨o,m,s,k,o',m',s',k',rfl,h2.1,h3.1⟩
     | cons=>simp [aH.len] at h1
set_option maxHeartbeats 4000000 in
set_option maxRecDepth 100000 in
theorem Nu (op n:Int) (nm:ByteArray) (kids:aH) (ih:kids.All Ed):Ed op n nm kids:=by
 intro w ao cap hok hsh hw hat hp
 obtain ⟨ho1,ho2,hlen⟩:=IG hsh
 have Af:=Lib.hid (fun w=>FH op ho1 ho2 w)
 have iD:=Lib.hid hp
 have fH:=Lib.hid hok
 have HW:=Lib.hid hw
 have xX:=Lib.hid hsh
 have HAT:=Lib.hid hat
 have iN:=Lib.hid ih
 have hnm:nm.size≤maxLen:=hok.2.2.1
 have hnn:=hok.2.1
 clear ih hok hsh hw hat hp
 by_cases h1:op=1
 ·subst h1
  have HE:Hid (bf 1 n nm kids=lu n):=Lib.hid rfl
  rw [HE.out]
  have AL:Hid (eu 1=7):=Lib.hid rfl
  rw [AL.out] at Af
  clear HE AL ho1 ho2 hlen
  generalize jQ 1=sg at *
  go_enter Tryz.func19,Tryz.ntmps19
  go_upto_region 1 with fail
  have HZ:=Lib.hid ((Sit.start w).qz (n:=w.heap.size) rfl (.int .i64 1) (.int .i64 n) (.string nm) (.slice ao kids.len cap) 45)
  generalize hW:World.alloc w _=W
  rw [hW] at HZ
  clear hW
  obtain ⟨-,⟨-,c0⟩,⟨-,c1⟩,⟨-,c2⟩,⟨-,c3⟩,-⟩:=HZ.out
  go_wp2_with fail
  refine (Af.out _).mono ?_
  rintro e w2 ⟨rfl,hb⟩
  have HY:=Lib.hid (HZ.out.next hb)
  clear hb c0 c1 c2 c3 HZ
  obtain ⟨-,⟨-,c0⟩,⟨-,c1⟩,⟨-,c2⟩,⟨-,c3⟩,-⟩:=HY.out
  go_wp2_with fail
  refine (Ch n hnn.1 hnn.2 _ (iD.out.next HY.out.1)).mono ?_
  rintro e w3 ⟨rfl,hb⟩
  have HB:=Lib.hid ((HY.out.next hb).1)
  clear hb
  go_wp2_with fail
  go_ret
  exact ⟨rfl,HB.out⟩
 by_cases h2:op=2
 ·subst h2
  have HE:Hid (bf 2 n nm kids=nm):=Lib.hid rfl
  rw [HE.out]
  have AL:Hid (eu 2=7):=Lib.hid rfl
  rw [AL.out] at Af
  clear HE AL ho1 ho2 hlen h1
  generalize jQ 2=sg at *
  go_enter Tryz.func19,Tryz.ntmps19
  go_upto_region 1 with fail
  have HZ:=Lib.hid ((Sit.start w).qz (n:=w.heap.size) rfl (.int .i64 2) (.int .i64 n) (.string nm) (.slice ao kids.len cap) 45)
  generalize hW:World.alloc w _=W
  rw [hW] at HZ
  clear hW
  obtain ⟨-,⟨-,c0⟩,⟨-,c1⟩,⟨-,c2⟩,⟨-,c3⟩,-⟩:=HZ.out
  go_wp2_with fail
  refine (Af.out _).mono ?_
  rintro e w2 ⟨rfl,hb⟩
  have HY:=Lib.hid (HZ.out.next hb)
  clear hb c0 c1 c2 c3 HZ
  obtain ⟨-,⟨-,c0⟩,⟨-,c1⟩,⟨-,c2⟩,⟨-,c3⟩,-⟩:=HY.out
  go_wp2_with fail
  go_ret
  exact ⟨rfl,HY.out.1⟩
 by_cases h3:op=3
 ·subst h3
  obtain ⟨o,m,s,k,rfl,hsk⟩:=Lu xX.out (by have:opsOf 3=1:=rfl; omega)
  obtain ⟨⟨⟨b0,iF,pz,cap0,hao,hb0,x0,x1,x2,x3,hok0,oU⟩,-⟩,-⟩:(aH.cons o m s k .nil).At w w.heap.size ao 0∧True:=⟨HAT.out,trivial⟩
  subst hao
  have hwt:40 + nm.size + (40 + s.size + pX k + 0)≤1152921504606846976:=HW.out
  have HX:=Lib.hid (fun w h1 h2=>iN.out.1 w pz cap0 hok0 hsk (by unfold lD; omega) h1 h2)
  have iZ:=Lib.hid (jc o m s hok0.2.1 oU)
  have hsz:(bf o m s k).size≤1152921504606846976:=by have:=iZ.out; unfold lD at this; omega
  have hsn:nm.size≤1152921504606846976:=by omega
  have HE:Hid (bf 3 n nm (.cons o m s k .nil)=((nm++⟨#[91]⟩)++bf o m s k)++⟨#[93]⟩):=Lib.hid rfl
  rw [HE.out]
  have AL:Hid (eu 3=7):=Lib.hid rfl
  rw [AL.out] at Af
  have iB:=Lib.hid (And.intro hb0 (And.intro x0 (And.intro x1 (And.intro x2 x3))))
  have rF:=Lib.hid oU
  clear HE AL ho1 ho2 hlen h1 h2 iZ hwt x0 x1 x2 x3 oU hok0 hsk iN
  generalize jQ 3=sg at *
  generalize bf o m s k=ct at *
  simp only [aH.len]
  go_enter Tryz.func19,Tryz.ntmps19
  go_upto_region 1 with fail
  have HZ:=Lib.hid ((Sit.start w).qz (n:=w.heap.size) rfl (.int .i64 3) (.int .i64 n) (.string nm) (.slice (some ⟨b0,iF,none⟩) (0 + 1) cap) 45)
  generalize hW:World.alloc w _=W
  rw [hW] at HZ
  clear hW
  obtain ⟨-,⟨-,c0⟩,⟨-,c1⟩,⟨-,c2⟩,⟨-,c3⟩,-⟩:=HZ.out
  go_wp2_with fail
  refine (Af.out _).mono ?_
  rintro e w2 ⟨rfl,hb⟩
  have HY:=Lib.hid (HZ.out.next hb)
  clear hb c0 c1 c2 c3 HZ
  obtain ⟨-,⟨-,c0⟩,⟨-,c1⟩,⟨-,c2⟩,⟨-,c3⟩,-⟩:=HY.out
  go_upto_region 7 with fail
  obtain ⟨T,F,D6,hst,hF,hnext⟩:=calm w2
  have HF:=Lib.hid hF
  have fQ:=Lib.hid hnext
  clear hnext hF
  have d0:=fun x=>(HY.out.next (HF.out x)).2.1.2
  have d1:=fun x=>(HY.out.next (HF.out x)).2.2.1.2
  have d2:=fun x=>(HY.out.next (HF.out x)).2.2.2.1.2
  have d3:=fun x=>(HY.out.next (HF.out x)).2.2.2.2.1.2
  clear c0 c1 c2 c3
  have y0:=fun x=>(((HY.out.1.trans ((HF.out x).mono HY.out.1.size)).cell (p:=⟨b0,iF + 0 * 4,none⟩) iB.out.1)).trans iB.out.2.1
  have y1:=fun x=>(((HY.out.1.trans ((HF.out x).mono HY.out.1.size)).cell (p:=⟨b0,iF + 0 * 4 + 1,none⟩) iB.out.1)).trans iB.out.2.2.1
  have y2:=fun x=>(((HY.out.1.trans ((HF.out x).mono HY.out.1.size)).cell (p:=⟨b0,iF + 0 * 4 + 2,none⟩) iB.out.1)).trans iB.out.2.2.2.1
  have y3:=fun x=>(((HY.out.1.trans ((HF.out x).mono HY.out.1.size)).cell (p:=⟨b0,iF + 0 * 4 + 3,none⟩) iB.out.1)).trans iB.out.2.2.2.2
  simp only [Nat.zero_mul,Nat.add_zero] at y0 y1 y2 y3
  refine kH F (by kernel_rfl) (by kernel_rfl) hst ?_
  repeat (any_goals (first | go_big_quiet_step ((go_at_call 19; refine (HX.out _ (rF.out.same (HY.out.1.trans ((HF.out _).mono HY.out.1.size))) (iD.out.next (HY.out.1.trans ((HF.out _).mono HY.out.1.size)))).mono ?_; rintro e w' ⟨rfl,hb⟩; exact ⟨rfl,fQ.out _ _ hb⟩)) | (refine wpQuiet_step (fun K hK=> ?_); go_simp; first | (refine hK _ ?_; clear hK K) | (split <;> first | (refine hK _ ?_; clear hK K) | (apply Exists.intro; refine ⟨fun _=> ?_,hK _ ?_⟩; ((go_at_call 19; refine (HX.out _ (rF.out.same (HY.out.1.trans ((HF.out _).mono HY.out.1.size))) (iD.out.next (HY.out.1.trans ((HF.out _).mono HY.out.1.size)))).mono ?_; rintro e w' ⟨rfl,hb⟩; exact ⟨rfl,fQ.out _ _ hb⟩)); clear hK K)))))
  all_goals (refine wpQuiet_nil ?_; rintro _ ⟨x,rfl⟩)
  have HB:=Lib.hid (HY.out.1.trans ((HF.out x).mono HY.out.1.size))
  clear d0 d1 d2 d3 y0 y1 y2 y3 HF fQ hst
  generalize F x=W3 at *
  go_wp2_with fail
  go_ret
  exact ⟨rfl,HB.out⟩
 have g1:(op == 1)=false:=by rw [beq_eq_false_iff_ne]; exact h1
 have g2:(op == 2)=false:=by rw [beq_eq_false_iff_ne]; exact h2
 have g3:(op == 3)=false:=by rw [beq_eq_false_iff_ne]; exact h3
 by_cases h4:op≤5
 ·have hop:op=4∨op=5:=by omega
  obtain ⟨o,m,s,k,rfl,hsk⟩:=Lu xX.out (by have:opsOf op=1:=by rcases hop with rfl | rfl <;> rfl
                                          omega)
  obtain ⟨⟨b0,iF,pz,cap0,hao,hb0,x0,x1,x2,x3,hok0,oU⟩,-⟩:=HAT.out
  subst hao
  have hwt:40 + nm.size + (40 + s.size + pX k + 0)≤1152921504606846976:=HW.out
  have HX:=Lib.hid (fun w h1 h2=>Kc o m s k 6 iN.out.1 w pz cap0 hok0 hsk (by unfold lD; omega) h1 h2)
  have iZ:=Lib.hid (jc o m s hok0.2.1 oU)
  have vU:=Lib.hid (rJ (o,bf o m s k) 6)
  have hsz:(jO (o,bf o m s k) 6).size≤2305843009213693952:=by have:=iZ.out; have:=vU.out; unfold lD at *; dsimp only at *; omega
  have hsg:=xO op
  have AL:Hid (eu op=6):=Lib.hid (by rcases hop with rfl | rfl <;> rfl)
  have HE:Hid (bf op n nm (.cons o m s k .nil)=jQ op++jO (o,bf o m s k) 6):=Lib.hid (by rcases hop with rfl | rfl <;> rfl)
  rw [HE.out]
  rw [AL.out] at Af
  have iB:=Lib.hid (And.intro hb0 (And.intro x0 (And.intro x1 (And.intro x2 x3))))
  have rF:=Lib.hid oU
  clear HE AL ho1 ho2 hlen h1 h2 h3 h4 iZ vU hwt x0 x1 x2 x3 oU hok0 hsk iN hop
  generalize jQ op=sg at *
  generalize jO (o,bf o m s k) 6=ct at *
  simp only [aH.len]
  go_enter Tryz.func19,Tryz.ntmps19
  go_upto_region 1 with fail
  have HZ:=Lib.hid ((Sit.start w).qz (n:=w.heap.size) rfl (.int .i64 op) (.int .i64 n) (.string nm) (.slice (some ⟨b0,iF,none⟩) (0 + 1) cap) 45)
  generalize hW:World.alloc w _=W
  rw [hW] at HZ
  clear hW
  obtain ⟨-,⟨-,c0⟩,⟨-,c1⟩,⟨-,c2⟩,⟨-,c3⟩,-⟩:=HZ.out
  go_wp2_with fail
  refine (Af.out _).mono ?_
  rintro e w2 ⟨rfl,hb⟩
  have HY:=Lib.hid (HZ.out.next hb)
  clear hb c0 c1 c2 c3 HZ
  obtain ⟨-,⟨-,c0⟩,⟨-,c1⟩,⟨-,c2⟩,⟨-,c3⟩,-⟩:=HY.out
  have y0:=((HY.out.1.cell (p:=⟨b0,iF + 0 * 4,none⟩) iB.out.1)).trans iB.out.2.1
  have y1:=((HY.out.1.cell (p:=⟨b0,iF + 0 * 4 + 1,none⟩) iB.out.1)).trans iB.out.2.2.1
  have y2:=((HY.out.1.cell (p:=⟨b0,iF + 0 * 4 + 2,none⟩) iB.out.1)).trans iB.out.2.2.2.1
  have y3:=((HY.out.1.cell (p:=⟨b0,iF + 0 * 4 + 3,none⟩) iB.out.1)).trans iB.out.2.2.2.2
  simp only [Nat.zero_mul,Nat.add_zero] at y0 y1 y2 y3
  go_wp2_with fail
  refine (HX.out _ (rF.out.same HY.out.1) (iD.out.next HY.out.1)).mono ?_
  rintro e w3 ⟨rfl,hb⟩
  have HB:=Lib.hid ((HY.out.next hb).1)
  clear hb
  go_wp2_with fail
  go_ret
  exact ⟨rfl,HB.out⟩
 ·have hop:op=6∨op=7∨op=8∨op=9∨op=10∨op=11∨op=12∨op=13∨op=14∨op=15∨op=16∨op=17∨op=18:=by omega
  obtain ⟨o,m,s,k,o',m',s',k',rfl,hsk,Zc⟩:=V3 xX.out (by
   have:opsOf op=2:=by rcases hop with rfl | rfl | rfl | rfl | rfl | rfl | rfl | rfl | rfl | rfl | rfl | rfl | rfl <;> rfl
   omega)
  obtain ⟨⟨b0,iF,pz,cap0,hao,hb0,x0,x1,x2,x3,hok0,oU⟩,⟨b1,off1,yx,qZ,QY,hb1,z0,z1,z2,z3,hok1,Rw⟩,-⟩:=HAT.out
  subst hao
  injection QY with QY
  injection QY with e1 e2
  subst e1
  subst e2
  have hwt:40 + nm.size + (40 + s.size + pX k + (40 + s'.size + pX k' + 0))≤1152921504606846976:=HW.out
  obtain ⟨lf,YF⟩: ∃lf,Hid ((if eu op == 3 then 4 else eu op)=lf):=⟨_,Lib.hid rfl⟩
  have HX:=Lib.hid (fun w h1 h2=>Kc o m s k lf iN.out.1 w pz cap0 hok0 hsk (by unfold lD; omega) h1 h2)
  have E8:=Lib.hid (fun w h1 h2=>Kc o' m' s' k' (eu op + 1) iN.out.2.1 w yx qZ hok1 Zc (by unfold lD; omega) h1 h2)
  have iZ:=Lib.hid (jc o m s hok0.2.1 oU)
  have Wp:=Lib.hid (jc o' m' s' hok1.2.1 Rw)
  have hsz:(jO (o,bf o m s k) lf).size≤2305843009213693952:=by have:=iZ.out; have:=rJ (o,bf o m s k) lf; unfold lD at *; dsimp only at *; omega
  have hsz':(jO (o',bf o' m' s' k') (eu op + 1)).size≤2305843009213693952:=by have:=Wp.out; have:=rJ (o',bf o' m' s' k') (eu op + 1); unfold lD at *; dsimp only at *; omega
  have hsg:=xO op
  have hlv:1≤eu op∧eu op≤5:=by rcases hop with rfl | rfl | rfl | rfl | rfl | rfl | rfl | rfl | rfl | rfl | rfl | rfl | rfl <;> decide
  have HE:Hid (bf op n nm (.cons o m s k (.cons o' m' s' k' .nil))=(((jO (o,bf o m s k) lf++⟨#[32]⟩)++jQ op)++⟨#[32]⟩)++jO (o',bf o' m' s' k') (eu op + 1)):=Lib.hid (by
   rw [← YF.out]
   rcases hop with rfl | rfl | rfl | rfl | rfl | rfl | rfl | rfl | rfl | rfl | rfl | rfl | rfl <;> rfl)
  rw [HE.out]
  have iB:=Lib.hid (And.intro hb0 (And.intro x0 (And.intro x1 (And.intro x2 x3))))
  have oC:=Lib.hid (And.intro hb0 (And.intro z0 (And.intro z1 (And.intro z2 z3))))
  have rF:=Lib.hid (And.intro oU Rw)
  clear HE ho1 ho2 hlen h1 h2 h3 h4 iZ Wp hwt x0 x1 x2 x3 z0 z1 z2 z3 oU Rw hok0 hok1 hsk Zc iN hop
  generalize jQ op=sg at *
  generalize eu op=lv at *
  generalize jO (o,bf o m s k) lf=ct at *
  generalize jO (o',bf o' m' s' k') (lv + 1)=ct' at *
  simp only [aH.len]
  obtain ⟨hlv1,hlv2⟩:=hlv
  have g6:(lv == 6)=false:=by rw [beq_eq_false_iff_ne]; omega
  go_enter Tryz.func19,Tryz.ntmps19
  go_upto_region 1 with fail
  have HZ:=Lib.hid ((Sit.start w).qz (n:=w.heap.size) rfl (.int .i64 op) (.int .i64 n) (.string nm) (.slice (some ⟨b0,iF,none⟩) (0 + 1 + 1) cap) 45)
  generalize hW:World.alloc w _=W
  rw [hW] at HZ
  clear hW
  obtain ⟨-,⟨-,c0⟩,⟨-,c1⟩,⟨-,c2⟩,⟨-,c3⟩,-⟩:=HZ.out
  go_wp2_with fail
  refine (Af.out _).mono ?_
  rintro e w2 ⟨rfl,hb⟩
  have HY:=Lib.hid (HZ.out.next hb)
  clear hb c0 c1 c2 c3 HZ
  obtain ⟨-,⟨-,c0⟩,⟨-,c1⟩,⟨-,c2⟩,⟨-,c3⟩,-⟩:=HY.out
  cases IK:(lv == 3)
  ·have e:lf=lv:=by rw [← YF.out,IK]; rfl
   rw [e] at HX
   clear e
   go_upto_region 14 with fail
   obtain ⟨T,F,D6,hst,hF,hnext⟩:=calm w2
   have HF:=Lib.hid hF
   have fQ:=Lib.hid hnext
   clear hnext hF
   have d0:=fun x=>(HY.out.next (HF.out x)).2.1.2
   have d1:=fun x=>(HY.out.next (HF.out x)).2.2.1.2
   have d2:=fun x=>(HY.out.next (HF.out x)).2.2.2.1.2
   have d3:=fun x=>(HY.out.next (HF.out x)).2.2.2.2.1.2
   clear c0 c1 c2 c3
   have y0:=fun x=>(((HY.out.1.trans ((HF.out x).mono HY.out.1.size)).cell (p:=⟨b0,iF + 0 * 4,none⟩) iB.out.1)).trans iB.out.2.1
   have y1:=fun x=>(((HY.out.1.trans ((HF.out x).mono HY.out.1.size)).cell (p:=⟨b0,iF + 0 * 4 + 1,none⟩) iB.out.1)).trans iB.out.2.2.1
   have y2:=fun x=>(((HY.out.1.trans ((HF.out x).mono HY.out.1.size)).cell (p:=⟨b0,iF + 0 * 4 + 2,none⟩) iB.out.1)).trans iB.out.2.2.2.1
   have y3:=fun x=>(((HY.out.1.trans ((HF.out x).mono HY.out.1.size)).cell (p:=⟨b0,iF + 0 * 4 + 3,none⟩) iB.out.1)).trans iB.out.2.2.2.2
   have z0:=fun x=>(((HY.out.1.trans ((HF.out x).mono HY.out.1.size)).cell (p:=⟨b0,iF + (0 + 1) * 4,none⟩) oC.out.1)).trans oC.out.2.1
   have z1:=fun x=>(((HY.out.1.trans ((HF.out x).mono HY.out.1.size)).cell (p:=⟨b0,iF + (0 + 1) * 4 + 1,none⟩) oC.out.1)).trans oC.out.2.2.1
   have z2:=fun x=>(((HY.out.1.trans ((HF.out x).mono HY.out.1.size)).cell (p:=⟨b0,iF + (0 + 1) * 4 + 2,none⟩) oC.out.1)).trans oC.out.2.2.2.1
   have z3:=fun x=>(((HY.out.1.trans ((HF.out x).mono HY.out.1.size)).cell (p:=⟨b0,iF + (0 + 1) * 4 + 3,none⟩) oC.out.1)).trans oC.out.2.2.2.2
   simp only [Nat.zero_mul,Nat.zero_add,Nat.one_mul,Nat.add_zero] at y0 y1 y2 y3 z0 z1 z2 z3
   refine kH F (by kernel_rfl) (by kernel_rfl) hst ?_
   repeat (any_goals (first | go_big_quiet_step ((first | (go_at_call_of 50 (Value.agg #[.int .i64 o,.int .i64 m,.string s,.slice pz k.len cap0]); refine (HX.out _ (rF.out.1.same (HY.out.1.trans ((HF.out _).mono HY.out.1.size))) (iD.out.next (HY.out.1.trans ((HF.out _).mono HY.out.1.size)))).mono ?_; rintro e w' ⟨rfl,hb⟩; exact ⟨rfl,fQ.out _ _ hb⟩) | (go_at_call_of 50 (Value.agg #[.int .i64 o',.int .i64 m',.string s',.slice yx k'.len qZ]); refine (E8.out _ (rF.out.2.same (HY.out.1.trans ((HF.out _).mono HY.out.1.size))) (iD.out.next (HY.out.1.trans ((HF.out _).mono HY.out.1.size)))).mono ?_; rintro e w' ⟨rfl,hb⟩; exact ⟨rfl,fQ.out _ _ hb⟩))) | (refine wpQuiet_step (fun K hK=> ?_); go_simp; first | (refine hK _ ?_; clear hK K) | (split <;> first | (refine hK _ ?_; clear hK K) | (apply Exists.intro; refine ⟨fun _=> ?_,hK _ ?_⟩; ((first | (go_at_call_of 50 (Value.agg #[.int .i64 o,.int .i64 m,.string s,.slice pz k.len cap0]); refine (HX.out _ (rF.out.1.same (HY.out.1.trans ((HF.out _).mono HY.out.1.size))) (iD.out.next (HY.out.1.trans ((HF.out _).mono HY.out.1.size)))).mono ?_; rintro e w' ⟨rfl,hb⟩; exact ⟨rfl,fQ.out _ _ hb⟩) | (go_at_call_of 50 (Value.agg #[.int .i64 o',.int .i64 m',.string s',.slice yx k'.len qZ]); refine (E8.out _ (rF.out.2.same (HY.out.1.trans ((HF.out _).mono HY.out.1.size))) (iD.out.next (HY.out.1.trans ((HF.out _).mono HY.out.1.size)))).mono ?_; rintro e w' ⟨rfl,hb⟩; exact ⟨rfl,fQ.out _ _ hb⟩))); clear hK K)))))
   all_goals (refine wpQuiet_nil ?_; rintro _ ⟨x,rfl⟩)
   have HB:=Lib.hid (HY.out.1.trans ((HF.out x).mono HY.out.1.size))
   clear d0 d1 d2 d3 y0 y1 y2 y3 z0 z1 z2 z3 HF fQ hst
   generalize F x=W3 at *
   go_wp2_with fail
   go_ret
   exact ⟨rfl,HB.out⟩
  ·have e:lf=4:=by rw [← YF.out,IK]; rfl
   rw [e] at HX
   clear e
   go_upto_region 14 with fail
   obtain ⟨T,F,D6,hst,hF,hnext⟩:=calm w2
   have HF:=Lib.hid hF
   have fQ:=Lib.hid hnext
   clear hnext hF
   have d0:=fun x=>(HY.out.next (HF.out x)).2.1.2
   have d1:=fun x=>(HY.out.next (HF.out x)).2.2.1.2
   have d2:=fun x=>(HY.out.next (HF.out x)).2.2.2.1.2
   have d3:=fun x=>(HY.out.next (HF.out x)).2.2.2.2.1.2
   clear c0 c1 c2 c3
   have y0:=fun x=>(((HY.out.1.trans ((HF.out x).mono HY.out.1.size)).cell (p:=⟨b0,iF + 0 * 4,none⟩) iB.out.1)).trans iB.out.2.1
   have y1:=fun x=>(((HY.out.1.trans ((HF.out x).mono HY.out.1.size)).cell (p:=⟨b0,iF + 0 * 4 + 1,none⟩) iB.out.1)).trans iB.out.2.2.1
   have y2:=fun x=>(((HY.out.1.trans ((HF.out x).mono HY.out.1.size)).cell (p:=⟨b0,iF + 0 * 4 + 2,none⟩) iB.out.1)).trans iB.out.2.2.2.1
   have y3:=fun x=>(((HY.out.1.trans ((HF.out x).mono HY.out.1.size)).cell (p:=⟨b0,iF + 0 * 4 + 3,none⟩) iB.out.1)).trans iB.out.2.2.2.2
   have z0:=fun x=>(((HY.out.1.trans ((HF.out x).mono HY.out.1.size)).cell (p:=⟨b0,iF + (0 + 1) * 4,none⟩) oC.out.1)).trans oC.out.2.1
   have z1:=fun x=>(((HY.out.1.trans ((HF.out x).mono HY.out.1.size)).cell (p:=⟨b0,iF + (0 + 1) * 4 + 1,none⟩) oC.out.1)).trans oC.out.2.2.1
   have z2:=fun x=>(((HY.out.1.trans ((HF.out x).mono HY.out.1.size)).cell (p:=⟨b0,iF + (0 + 1) * 4 + 2,none⟩) oC.out.1)).trans oC.out.2.2.2.1
   have z3:=fun x=>(((HY.out.1.trans ((HF.out x).mono HY.out.1.size)).cell (p:=⟨b0,iF + (0 + 1) * 4 + 3,none⟩) oC.out.1)).trans oC.out.2.2.2.2
   simp only [Nat.zero_mul,Nat.zero_add,Nat.one_mul,Nat.add_zero] at y0 y1 y2 y3 z0 z1 z2 z3
   refine kH F (by kernel_rfl) (by kernel_rfl) hst ?_
   repeat (any_goals (first | go_big_quiet_step ((first | (go_at_call_of 50 (Value.agg #[.int .i64 o,.int .i64 m,.string s,.slice pz k.len cap0]); refine (HX.out _ (rF.out.1.same (HY.out.1.trans ((HF.out _).mono HY.out.1.size))) (iD.out.next (HY.out.1.trans ((HF.out _).mono HY.out.1.size)))).mono ?_; rintro e w' ⟨rfl,hb⟩; exact ⟨rfl,fQ.out _ _ hb⟩) | (go_at_call_of 50 (Value.agg #[.int .i64 o',.int .i64 m',.string s',.slice yx k'.len qZ]); refine (E8.out _ (rF.out.2.same (HY.out.1.trans ((HF.out _).mono HY.out.1.size))) (iD.out.next (HY.out.1.trans ((HF.out _).mono HY.out.1.size)))).mono ?_; rintro e w' ⟨rfl,hb⟩; exact ⟨rfl,fQ.out _ _ hb⟩))) | (refine wpQuiet_step (fun K hK=> ?_); go_simp; first | (refine hK _ ?_; clear hK K) | (split <;> first | (refine hK _ ?_; clear hK K) | (apply Exists.intro; refine ⟨fun _=> ?_,hK _ ?_⟩; ((first | (go_at_call_of 50 (Value.agg #[.int .i64 o,.int .i64 m,.string s,.slice pz k.len cap0]); refine (HX.out _ (rF.out.1.same (HY.out.1.trans ((HF.out _).mono HY.out.1.size))) (iD.out.next (HY.out.1.trans ((HF.out _).mono HY.out.1.size)))).mono ?_; rintro e w' ⟨rfl,hb⟩; exact ⟨rfl,fQ.out _ _ hb⟩) | (go_at_call_of 50 (Value.agg #[.int .i64 o',.int .i64 m',.string s',.slice yx k'.len qZ]); refine (E8.out _ (rF.out.2.same (HY.out.1.trans ((HF.out _).mono HY.out.1.size))) (iD.out.next (HY.out.1.trans ((HF.out _).mono HY.out.1.size)))).mono ?_; rintro e w' ⟨rfl,hb⟩; exact ⟨rfl,fQ.out _ _ hb⟩))); clear hK K)))))
   all_goals (refine wpQuiet_nil ?_; rintro _ ⟨x,rfl⟩)
   have HB:=Lib.hid (HY.out.1.trans ((HF.out x).mono HY.out.1.size))
   clear d0 d1 d2 d3 y0 y1 y2 y3 z0 z1 z2 z3 HF fQ hst
   generalize F x=W3 at *
   go_wp2_with fail
   go_ret
   exact ⟨rfl,HB.out⟩
theorem wM (op n:Int) (nm:ByteArray) (kids:aH):Ed op n nm kids:=aH.yu Nu op n nm kids
end Go.Proofs.YtehnipchbmjlhaaGreatDoor
end
