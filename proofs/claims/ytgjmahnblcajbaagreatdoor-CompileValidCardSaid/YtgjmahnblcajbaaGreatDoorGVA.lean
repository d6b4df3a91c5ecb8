/- Contracts of compile's small tests: within, isSilent, isLock, isScalar, isArray, eval.Unary and Binary. And what hangs on it. -/
import Derived.Test.YtgjmahnblcajbaaGreatDoorGVP
import Derived.Test.YtgjmahnblcajbaaGreatDoorGCA
import Derived.IntWalk
import Derived.Laws.MakeOwn
set_option linter.unusedSimpArgs false
set_option linter.unusedVariables false
set_option maxHeartbeats 40000000
set_option maxRecDepth 1000000
namespace Go.Proofs.YtgjmahnblcajbaaGreatDoor
open Go.RowKit
open Md
theorem Jo (i n:Int) (w:World):Calls Tryz.prog 40 #[.int .i64 i,.int .i64 n] w fun e w'=>e= .returned (.bool (bT i n))∧w=w':=by
 unfold bT;by_cases h0:0<=i <;> by_cases h1:i < n
 all_goals go_enter Tryz.func40,Tryz.ntmps40;go_wp2_with fail;go_ret;exact ⟨by simp [h0,h1],rfl⟩
theorem jl (i:Int) (w:World):Calls Tryz.prog 73 #[.int .i64 i] w fun e w'=>e= .returned (.bool (jU i))∧w=w':=by
 unfold jU;by_cases h0:1<=i <;> by_cases h1:i<=5
 all_goals go_enter Tryz.func73,Tryz.ntmps73;go_wp2_with fail;go_ret;exact ⟨by simp [h0,h1],rfl⟩
theorem ko {α:Type} {l:List α} {i:Int} (h:bT i l.length=true): ∃(k:Nat) (x:α),i=(k:Int)∧k < l.length∧l[k]? =some x:=by
 unfold bT at h;simp only [Bool.and_eq_true,decide_eq_true_eq] at h;obtain ⟨k,rfl⟩:=Int.eq_ofNat_of_zero_le h.1;have hk:k < l.length:=by omega
 exact ⟨k,l[k],rfl,hk,List.getElem?_eq_getElem hk⟩
theorem iT {i n:Int} {b:Bool} (h:bT i n=b) (w:World):Calls Tryz.prog 40 #[.int .i64 i,.int .i64 n] w fun e w'=>e= .returned (.bool b)∧w=w':=by
 subst h; exact Jo i n w
theorem J5 (W:Wo) (s:gW) (i:Int) (rw:Bool) (w:World) (hw:dR w w.heap.size W s):
 Calls Tryz.prog 19 #[jS W s,.int .i64 i,.bool rw] w fun e w'=>e= .returned (.bool (fT W i rw))∧Below w.heap.size w w':=by
 have hl:=hw.ll;unfold maxLen at hl;have HW:=ah hw;clear hw;unfold jS;cases hwi:bT i W.ls.length
 ·have hres:fT W i rw=false:=by unfold fT; rw [hwi]; rfl
  rw [hres];go_enter Tryz.func19,Tryz.ntmps19;go_upto_region 1 with fail;generalize hW:World.alloc w _=W1;obtain ⟨nb,hnb⟩: ∃n,w.heap.size=n:=⟨_,rfl⟩;have HB:aj (Below w.heap.size w W1):=ah (by rw [<- hW]; exact au _ _);have hc:W1.cell? ⟨nb,1,none⟩=some (.slice s.aL W.ls.length s.cL):=by rw [<- hW,<- hnb]; exact ak (heap_alloc_new _ _) rfl
  have HF:=ah (HW.o.ls.same HB.o);rw [hnb];clear hW hnb;go_wp2_with fail;refine (iT hwi W1).mono ?_;rintro e w2 ⟨rfl,rfl⟩;go_wp2_with fail;go_ret;exact ⟨rfl,HB.o⟩
 ·obtain ⟨k,x,rfl,hk,hx⟩:=ko hwi;have hres:fT W k rw=(x.rw == rw):=by unfold fT; rw [hwi]; simp [hx]
  rw [hres];go_enter Tryz.func19,Tryz.ntmps19;go_upto_region 1 with fail;generalize hW:World.alloc w _=W1;obtain ⟨nb,hnb⟩: ∃n,w.heap.size=n:=⟨_,rfl⟩;have HB:aj (Below w.heap.size w W1):=ah (by rw [<- hW]; exact au _ _);have hc:W1.cell? ⟨nb,1,none⟩=some (.slice s.aL W.ls.length s.cL):=by rw [<- hW,<- hnb]; exact ak (heap_alloc_new _ _) rfl
  have HF:=ah (HW.o.ls.same HB.o);rw [hnb];clear hW hnb;obtain ⟨b,off,hao,hb,hcs⟩:=HF.o.at k x hx;rw [hao] at hc;have k0:(0:Int)<=(k:Int):=by omega
  have k1:(k:Int) < (W.ls.length:Int):=by omega
  have z1:=hcs 1 _ rfl;simp only [Nat.zero_add,Nat.add_zero] at z1;clear hcs HF;go_wp2_with fail;refine (iT hwi W1).mono ?_;rintro e w2 ⟨rfl,rfl⟩;go_wp2_with fail;go_ret;exact ⟨by first | rfl | simp,HB.o⟩
theorem O6 (W:Wo) (s:gW) (i:Int) (w:World) (hw:dR w w.heap.size W s):
 Calls Tryz.prog 71 #[jS W s,.int .i64 i] w fun e w'=>e= .returned (.bool (xS W i))∧Below w.heap.size w w':=by
 have hl:=hw.lc;unfold maxLen at hl;have HW:=ah hw;clear hw;unfold jS;cases hwi:bT i W.cs.length
 ·have hres:xS W i=false:=by unfold xS; rw [hwi]; rfl
  rw [hres];go_enter Tryz.func71,Tryz.ntmps71;go_upto_region 1 with fail;generalize hW:World.alloc w _=W1;obtain ⟨nb,hnb⟩: ∃n,w.heap.size=n:=⟨_,rfl⟩;have HB:aj (Below w.heap.size w W1):=ah (by rw [<- hW]; exact au _ _);have hc:W1.cell? ⟨nb,0,none⟩=some (.slice s.aC W.cs.length s.cC):=by rw [<- hW,<- hnb]; exact ak (heap_alloc_new _ _) rfl
  have HF:=ah (HW.o.cs.same HB.o);rw [hnb];clear hW hnb;go_wp2_with fail;refine (iT hwi W1).mono ?_;rintro e w2 ⟨rfl,rfl⟩;go_wp2_with fail;go_ret;exact ⟨rfl,HB.o⟩
 ·obtain ⟨k,x,rfl,hk,hx⟩:=ko hwi;have hres:xS W k=(x.sz == 0):=by unfold xS; rw [hwi]; simp [hx]
  rw [hres];go_enter Tryz.func71,Tryz.ntmps71;go_upto_region 1 with fail;generalize hW:World.alloc w _=W1;obtain ⟨nb,hnb⟩: ∃n,w.heap.size=n:=⟨_,rfl⟩;have HB:aj (Below w.heap.size w W1):=ah (by rw [<- hW]; exact au _ _);have hc:W1.cell? ⟨nb,0,none⟩=some (.slice s.aC W.cs.length s.cC):=by rw [<- hW,<- hnb]; exact ak (heap_alloc_new _ _) rfl
  have HF:=ah (HW.o.cs.same HB.o);rw [hnb];clear hW hnb;obtain ⟨b,off,hao,hb,hcs⟩:=HF.o.at k x hx;rw [hao] at hc;have k0:(0:Int)<=(k:Int):=by omega
  have k1:(k:Int) < (W.cs.length:Int):=by omega
  have z2:=hcs 2 _ rfl;simp only [Nat.zero_add,Nat.add_zero] at z2;clear hcs HF;go_wp2_with fail;refine (iT hwi W1).mono ?_;rintro e w2 ⟨rfl,rfl⟩;go_wp2_with fail;go_ret;exact ⟨by first | rfl | simp,HB.o⟩
theorem P7 (W:Wo) (s:gW) (i:Int) (n:Int) (w:World) (hw:dR w w.heap.size W s):
 Calls Tryz.prog 72 #[jS W s,.int .i64 i,.int .i64 n] w fun e w'=>e= .returned (.bool (Dy W i n))∧Below w.heap.size w w':=by
 have hl:=hw.lc;unfold maxLen at hl;have HW:=ah hw;clear hw;unfold jS;cases hwi:bT i W.cs.length
 ·have hres:Dy W i n=false:=by unfold Dy; rw [hwi]; rfl
  rw [hres];go_enter Tryz.func72,Tryz.ntmps72;go_upto_region 1 with fail;generalize hW:World.alloc w _=W1;obtain ⟨nb,hnb⟩: ∃n,w.heap.size=n:=⟨_,rfl⟩;have HB:aj (Below w.heap.size w W1):=ah (by rw [<- hW]; exact au _ _);have hc:W1.cell? ⟨nb,0,none⟩=some (.slice s.aC W.cs.length s.cC):=by rw [<- hW,<- hnb]; exact ak (heap_alloc_new _ _) rfl
  have HF:=ah (HW.o.cs.same HB.o);rw [hnb];clear hW hnb;go_wp2_with fail;refine (iT hwi W1).mono ?_;rintro e w2 ⟨rfl,rfl⟩;go_wp2_with fail;go_ret;exact ⟨rfl,HB.o⟩
 ·obtain ⟨k,x,rfl,hk,hx⟩:=ko hwi;have hres:Dy W k n=(x.ix == 0 && (x.sz != 0 && x.sz == n)):=by unfold Dy; rw [hwi]; simp [hx]
  rw [hres];go_enter Tryz.func72,Tryz.ntmps72;go_upto_region 1 with fail;generalize hW:World.alloc w _=W1;obtain ⟨nb,hnb⟩: ∃n,w.heap.size=n:=⟨_,rfl⟩;have HB:aj (Below w.heap.size w W1):=ah (by rw [<- hW]; exact au _ _);have hc:W1.cell? ⟨nb,0,none⟩=some (.slice s.aC W.cs.length s.cC):=by rw [<- hW,<- hnb]; exact ak (heap_alloc_new _ _) rfl
  have HF:=ah (HW.o.cs.same HB.o);rw [hnb];clear hW hnb;obtain ⟨b,off,hao,hb,hcs⟩:=HF.o.at k x hx;rw [hao] at hc;have k0:(0:Int)<=(k:Int):=by omega
  have k1:(k:Int) < (W.cs.length:Int):=by omega
  have z1:=hcs 1 _ rfl;have z2:=hcs 2 _ rfl;simp only [Nat.zero_add,Nat.add_zero] at z1 z2;clear hcs HF;cases h1:(x.ix == 0)
  ·go_wp2_with fail;refine (iT hwi W1).mono ?_;rintro e w2 ⟨rfl,rfl⟩;go_wp2_with fail;go_ret;exact ⟨by rw [h1]; simp,HB.o⟩
  ·cases h2:(x.sz == 0)
   ·have h2':(x.sz != 0)=true:=(by simp [bne,h2]);go_wp2_with fail;refine (iT hwi W1).mono ?_;rintro e w2 ⟨rfl,rfl⟩;go_wp2_with fail;go_ret;exact ⟨by rw [h1,h2']; simp,HB.o⟩
   ·have h2':(x.sz != 0)=false:=(by simp [bne,h2]);go_wp2_with fail;refine (iT hwi W1).mono ?_;rintro e w2 ⟨rfl,rfl⟩;go_wp2_with fail;go_ret;exact ⟨by rw [h1,h2']; simp,HB.o⟩
theorem LU (b:Bool) (w:World):Calls Tryz.prog 109 #[.bool b] w fun e w'=>e= .returned (.int .i64 (if b then 1 else 0))∧w=w':=by
 cases b
 all_goals go_enter Tryz.func109,Tryz.ntmps109;go_wp2_with fail;go_ret;exact ⟨rfl,rfl⟩
theorem TD (op a:Int) (w:World):Calls Tryz.prog 69 #[.int .i64 op,.int .i64 a] w fun e w'=>(∃v,e= .returned (.tuple #[.int .i64 v,.bool (op == 4 || op == 5)]))∧w=w':=by
 have hcs:op=4∨op=5∨(op≠4∧op≠5):=by omega
 rcases hcs with rfl | rfl | ⟨h1,h2⟩
 ·go_enter Tryz.func69,Tryz.ntmps69;go_wp2_with fail
  go_ret2
  exact ⟨⟨_,rfl⟩,rfl⟩
 ·go_enter Tryz.func69,Tryz.ntmps69;go_wp2_with fail
  all_goals first
   | (go_ret2; exact ⟨⟨_,rfl⟩,rfl⟩)
   | (refine (LU _ w).mono ?_; rintro e w2 ⟨rfl,rfl⟩; go_wp2_with fail; all_goals (go_ret2; exact ⟨⟨_,rfl⟩,rfl⟩))
 ·have k1:(op == 4)=false:=by simpa using h1
  have k2:(op == 5)=false:=by simpa using h2
  clear h1 h2;go_enter Tryz.func69,Tryz.ntmps69;go_wp2_with fail
  go_ret2
  exact ⟨⟨0,by simp [k1,k2]⟩,rfl⟩
theorem QT (op:Int) (w:World):Calls Tryz.prog 70 #[.int .i64 op,.int .i64 0,.int .i64 0] w fun e w'=>(∃v,e= .returned (.tuple #[.int .i64 v,.bool (decide (6<=op) && decide (op<=18))]))∧w=w':=by
 have hcs:op=6∨op=7∨op=8∨op=9∨op=10∨op=11∨op=12∨op=13∨op=14∨op=15∨op=16∨op=17∨op=18∨(op≠6∧op≠7∧op≠8∧op≠9∧op≠10∧op≠11∧op≠12∧op≠13∧op≠14∧op≠15∧op≠16∧op≠17∧op≠18):=by omega
 rcases hcs with rfl | rfl | rfl | rfl | rfl | rfl | rfl | rfl | rfl | rfl | rfl | rfl | rfl | ⟨n6,n7,n8,n9,n10,n11,n12,n13,n14,n15,n16,n17,n18⟩
 case inr.inr.inr.inr.inr.inr.inr.inr.inr.inr.inr.inr.inr=>
  have hres:(decide (6<=op) && decide (op<=18))=false:=by simp; omega
  rw [hres];have k6:(op == 6)=false:=by simpa using n6
  have k7:(op == 7)=false:=by simpa using n7
  have k8:(op == 8)=false:=by simpa using n8
  have k9:(op == 9)=false:=by simpa using n9
  have k10:(op == 10)=false:=by simpa using n10
  have k11:(op == 11)=false:=by simpa using n11
  have k12:(op == 12)=false:=by simpa using n12
  have k13:(op == 13)=false:=by simpa using n13
  have k14:(op == 14)=false:=by simpa using n14
  have k15:(op == 15)=false:=by simpa using n15
  have k16:(op == 16)=false:=by simpa using n16
  have k17:(op == 17)=false:=by simpa using n17
  have k18:(op == 18)=false:=by simpa using n18
  clear n6 n7 n8 n9 n10 n11 n12 n13 n14 n15 n16 n17 n18 hres;go_enter Tryz.func70,Tryz.ntmps70;go_wp2_with fail
  go_ret2
  exact ⟨⟨0,rfl⟩,rfl⟩
 all_goals
  go_enter Tryz.func70,Tryz.ntmps70;go_wp2_with fail
  all_goals first
   | (go_ret2; exact ⟨⟨_,rfl⟩,rfl⟩)
   | (refine (LU _ w).mono ?_; rintro e w2 ⟨rfl,rfl⟩; go_wp2_with fail; all_goals (go_ret2; exact ⟨⟨_,rfl⟩,rfl⟩))
theorem yI (W:Wo) (s:gW) (n:Int) (x:aQ) (w:World) (hw:dR w w.heap.size W s):
 Calls Tryz.prog 46 #[jS W s,.int .i64 n,EM x] w fun e w'=>e= .returned (.bool (oG W n x))∧Below w.heap.size w w':=by
 obtain ⟨op,a,b,c,m,st⟩:=x;have HW:=ah hw;clear hw;unfold jS EM;go_enter Tryz.func46,Tryz.ntmps46;go_upto_region 1 with fail;generalize hW:World.alloc (World.alloc w _) _=W1;obtain ⟨nb,hnb⟩: ∃n,w.heap.size=n:=⟨_,rfl⟩;have HB:aj (Below w.heap.size w W1):=ah (by rw [<- hW]; exact (au _ _).alloc (by simp) _);have rT:aj (W1.heap[nb]? =some (.cells #[.slice s.aC W.cs.length s.cC,.slice s.aL W.ls.length s.cL,.slice s.aN W.ns.length s.cN,.slice s.aF W.fs.length s.cF,.slice s.aT W.ts.length s.cT,.slice s.aS W.ss.length s.cS] 28 (0,0))):=ah (by rw [<- hW,<- hnb,heap_alloc_old _ _ (by simp)]; exact heap_alloc_new _ _);have fu:aj (W1.heap[nb + 1]? =some (.cells #[.int .i64 op,.int .i64 a,.int .i64 b,.int .i64 c,.int .i64 m,.int .i64 st] 75 (0,0))):=ah (by have:=heap_alloc_new (w.alloc (.cells #[.slice s.aC W.cs.length s.cC,.slice s.aL W.ls.length s.cL,.slice s.aN W.ns.length s.cN,.slice s.aF W.fs.length s.cF,.slice s.aT W.ts.length s.cT,.slice s.aS W.ss.length s.cS] 28)) (.cells #[.int .i64 op,.int .i64 a,.int .i64 b,.int .i64 c,.int .i64 m,.int .i64 st] 75);rw [<- hW,<- hnb]; simpa using this);have vY:=ah (HW.o.same HB.o);rw [hnb];clear hW hnb HW;have c0:=ak (j:=0) rT.o rfl;have c1:=ak (j:=1) rT.o rfl;have c2:=ak (j:=2) rT.o rfl;have c3:=ak (j:=3) rT.o rfl;have c4:=ak (j:=4) rT.o rfl;have c5:=ak (j:=5) rT.o rfl;have x0:=ak (j:=0) fu.o rfl;have x1:=ak (j:=1) fu.o rfl;have x2:=ak (j:=2) fu.o rfl;have x3:=ak (j:=3) fu.o rfl;have x4:=ak (j:=4) fu.o rfl;simp only [List.getElem_toArray,List.getElem_cons_zero,List.getElem_cons_succ] at c0 c1 c2 c3 c4 c5 x0 x1 x2 x3 x4;clear rT fu;have hcs:op=3∨op=4∨op=5∨op=10∨op=6∨op=8∨op=7∨op=9∨op=11∨op=12∨op=13∨op=14∨op=15∨op=16∨op=21∨op=22∨op=23∨op=24∨op=25∨op=26∨op=27∨(op≠3∧op≠4∧op≠5∧op≠10∧op≠6∧op≠8∧op≠7∧op≠9∧op≠11∧op≠12∧op≠13∧op≠14∧op≠15∧op≠16∧op≠21∧op≠22∧op≠23∧op≠24∧op≠25∧op≠26∧op≠27):=by omega
 rcases hcs with rfl | rfl | rfl | rfl | rfl | rfl | rfl | rfl | rfl | rfl | rfl | rfl | rfl | rfl | rfl | rfl | rfl | rfl | rfl | rfl | rfl | ⟨n3,n4,n5,n10,n6,n8,n7,n9,n11,n12,n13,n14,n15,n16,n21,n22,n23,n24,n25,n26,n27⟩
 case inr.inr.inr.inr.inr.inr.inr.inr.inr.inr.inr.inr.inr.inr.inr.inr.inr.inr.inr.inr.inr=>
  have k3:(op == 3)=false:=by simpa using n3
  have k4:(op == 4)=false:=by simpa using n4
  have k5:(op == 5)=false:=by simpa using n5
  have k10:(op == 10)=false:=by simpa using n10
  have k6:(op == 6)=false:=by simpa using n6
  have k8:(op == 8)=false:=by simpa using n8
  have k7:(op == 7)=false:=by simpa using n7
  have k9:(op == 9)=false:=by simpa using n9
  have k11:(op == 11)=false:=by simpa using n11
  have k12:(op == 12)=false:=by simpa using n12
  have k13:(op == 13)=false:=by simpa using n13
  have k14:(op == 14)=false:=by simpa using n14
  have k15:(op == 15)=false:=by simpa using n15
  have k16:(op == 16)=false:=by simpa using n16
  have k21:(op == 21)=false:=by simpa using n21
  have k22:(op == 22)=false:=by simpa using n22
  have k23:(op == 23)=false:=by simpa using n23
  have k24:(op == 24)=false:=by simpa using n24
  have k25:(op == 25)=false:=by simpa using n25
  have k26:(op == 26)=false:=by simpa using n26
  have k27:(op == 27)=false:=by simpa using n27
  have hres:oG W n ⟨op,a,b,c,m,st⟩=true:=by unfold oG; simp [n3,n4,n5,n10,n6,n8,n7,n9,n11,n12,n13,n14,n15,n16,n21,n22,n23,n24,n25,n26,n27]
  have HR:=ah hres;clear n3 n4 n5 n10 n6 n8 n7 n9 n11 n12 n13 n14 n15 n16 n21 n22 n23 n24 n25 n26 n27 hres;go_wp2_with fail;go_ret;exact ⟨by rw [HR.o]; rfl,HB.o⟩
 all_goals
  go_wp2_with fail
  first
   | (refine (J5 W s _ _ W1 vY.o).mono ?_; rintro e w2 ⟨rfl,hb⟩; go_wp2_with fail; go_ret; exact ⟨by first | rfl | simp [oG],HB.o.trans (hb.mono HB.o.size)⟩)
   | (refine (O6 W s _ W1 vY.o).mono ?_; rintro e w2 ⟨rfl,hb⟩; go_wp2_with fail; go_ret; exact ⟨by first | rfl | simp [oG],HB.o.trans (hb.mono HB.o.size)⟩)
   | (refine (P7 W s _ _ W1 vY.o).mono ?_; rintro e w2 ⟨rfl,hb⟩; go_wp2_with fail; go_ret; exact ⟨by first | rfl | simp [oG],HB.o.trans (hb.mono HB.o.size)⟩)
   | (refine (Jo _ _ W1).mono ?_; rintro e w2 ⟨rfl,rfl⟩; go_wp2_with fail; go_ret; exact ⟨by first | rfl | simp [oG],HB.o⟩)
   | (refine (TD _ _ W1).mono ?_; rintro e w2 ⟨⟨v,rfl⟩,rfl⟩; go_wp2_with fail; go_ret; exact ⟨by first | rfl | simp [oG],HB.o⟩)
   | (refine (QT _ W1).mono ?_; rintro e w2 ⟨⟨v,rfl⟩,rfl⟩; go_wp2_with fail; go_ret; exact ⟨by first | rfl | simp [oG],HB.o⟩)
namespace Md
def jT (l:List aQ) (k:Nat):Bool:=match l[k]? with | some i=>jU i.op | none=>false
def yF (l:List aQ) (k:Nat):Nat:=match l[k]? with | some i=>if i.op == 5 then i.a.toNat else k + 1 | none=>k
def Ja (l:List aQ):Prop:= ∀k i,l[k]? =some i->jU i.op=true->(i.op=5->0<=i.a)∧yF l k < l.length
def lN (l:List aQ):Nat->Nat->Bool
 | 0,_=>false
 | f + 1,k=>if jT l k then lN l f (yF l k) else decide (k < l.length)
theorem Ja.next {l:List aQ} (h:Ja l) {k:Nat} (hs:jT l k=true):yF l k < l.length:=by
 unfold jT at hs;cases hk:l[k]? with
 | none=>rw [hk] at hs; cases hs
 | some i=>rw [hk] at hs; exact (h k i hk hs).2
theorem Og {l:List aQ} (h:Ja l): ∀(f k:Nat),k < l.length->qx l f (k:Nat)=lN l f k
 | 0,_,_=>rfl
 | f + 1,k,hk=>by
   have hw:bT (k:Nat) l.length=true:=by unfold bT; simp; omega
   rw [qx,lN,if_pos hw];obtain ⟨i,hi⟩: ∃i,l[k]? =some i:=⟨l[k],List.getElem?_eq_getElem hk⟩;have e:(k:Int).toNat=k:=by omega
   rw [e,hi];have RL:jT l k=jU i.op:=by unfold jT; rw [hi]
   rw [RL];cases hs:jU i.op
   ·simp [hs,hk]
   ·obtain ⟨h1,h2⟩:=h k i hi hs;have hn:yF l k=if i.op == 5 then i.a.toNat else k + 1:=by unfold yF; rw [hi]
    have e2:(if (i.op == 5)=true then i.a else (k:Int) + 1)=((yF l k:Nat):Int):=by
     rw [hn];by_cases h5:i.op=5
     ·have:=h1 h5; simp [h5]; omega
     ·simp [h5]
    simp only [hs,if_true];rw [e2];exact Og h f _ h2
def jF (l:List aQ) (s:Nat):Nat->Nat
 | 0=>s
 | i + 1=>yF l (jF l s i)
theorem AO (l:List aQ) (s:Nat): ∀t,jF l (yF l s) t=jF l s (t + 1)
 | 0=>rfl
 | t + 1=>by rw [jF,AO l s t]; rfl
theorem YF {l:List aQ} {s:Nat} (f:Nat): ∀(m:Nat),(∀t,t < m->jT l (jF l s t)=true)->lN l (f + m) s=lN l f (jF l s m)
 | 0,_=>rfl
 | m + 1,h=>by have h1:=YF (f + 1) m (fun t ht=>h t (by omega));rw [show f + (m + 1)=f + 1 + m by omega,h1,lN,if_pos (h m (by omega))]; rfl
theorem JL {l:List aQ} {s i j:Nat} (h: ∀t,t < j->jT l (jF l s t)=true) (hij:i < j) (he:jF l s i=jF l s j): ∀(f t:Nat),t < j->lN l f (jF l s t)=false
 | 0,_,_=>rfl
 | f + 1,t,ht=>by
   rw [lN,if_pos (h t ht)];show lN l f (jF l s (t + 1))=false;by_cases h1:t + 1 < j
   ·exact JL h hij he f (t + 1) h1
   ·have:t + 1=j:=by omega
    rw [this,<- he];exact JL h hij he f i hij
theorem Oa {l:List aQ} : ∀(f s:Nat),lN l f s=true-> ∃m,m < f∧(∀t,t < m->jT l (jF l s t)=true)∧jT l (jF l s m)=false∧jF l s m < l.length
 | 0,_,h=>by cases h
 | f + 1,s,h=>by
   rw [lN] at h;cases hs:jT l s
   ·rw [hs] at h;exact ⟨0,by omega,fun t ht=>by omega,hs,by show s < l.length; simpa using h⟩
   ·rw [hs] at h;obtain ⟨m,h1,h2,h3,h4⟩:=Oa f (yF l s) (by simpa using h);refine ⟨m + 1,by omega,fun t ht=> ?_,by rw [<- AO]; exact h3,by rw [<- AO]; exact h4⟩;cases t with
    | zero=>exact hs
    | succ t=>rw [<- AO]; exact h2 t (by omega)
theorem M7 {l:List aQ} (ho:Ja l) {s:Nat} (hs:s < l.length) {m:Nat} (h: ∀t,t < m->jT l (jF l s t)=true): ∀t,t<=m->jF l s t < l.length
 | 0,_=>hs
 | t + 1,ht=>ho.next (h t (by omega))
theorem aq5 {n m:Nat} {g:Nat->Nat} (hg: ∀t,t<=m->g t < n) (hm:n<=m): ∃i j,i < j∧j<=m∧g i=g j:=by
 apply Classical.byContradiction;intro hno;have hnd:((List.range (m + 1)).map g).Nodup:=by unfold List.Nodup;rw [List.pairwise_map];refine List.Pairwise.imp_of_mem ?_ (List.pairwise_lt_range (n:=m + 1));intro a b ha hb hab e;exact hno ⟨a,b,hab,by have:=List.mem_range.1 hb; omega,e⟩
 have hsub:((List.range (m + 1)).map g) ⊆ List.range n:=fun x hx=>by obtain ⟨t,ht,rfl⟩:=List.mem_map.1 hx;exact List.mem_range.2 (hg t (by have:=List.mem_range.1 ht; omega))
 have:=hnd.length_le_of_subset hsub;simp at this; omega
theorem an4 {l:List aQ} (ho:Ja l) {s f:Nat} (hs:s < l.length) (h:lN l f s=true):lN l (l.length + 1) s=true:=by
 obtain ⟨m,hm,h1,h2,h3⟩:=Oa f s h;have hml:m < l.length + 1:=by apply Classical.byContradiction;intro hge;obtain ⟨i,j,hij,hjm,he⟩:=aq5 (n:=l.length) (m:=m) (g:=jF l s) (M7 ho hs h1) (by omega);have:=JL (fun t ht=>h1 t (by omega)) hij he f 0 (by omega);rw [show jF l s 0=s from rfl,h] at this;cases this
 have:=YF (l:=l) (s:=s) (l.length + 1 - m) m h1;rw [show l.length + 1 - m + m=l.length + 1 by omega] at this;rw [this,show l.length + 1 - m=(l.length - m) + 1 by omega,lN,if_neg (by rw [h2]; decide)];simpa using h3
def oK (l:List aQ) (k:Nat):Prop:= ∃f,lN l f k=true
theorem oK.back {l:List aQ} {s m:Nat} (h:oK l (jF l s m)) (hs: ∀t,t < m->jT l (jF l s t)=true): ∀t,t<=m->oK l (jF l s t):=fun t ht=>by
 obtain ⟨f,hf⟩:=h;have: ∀(q t:Nat),t + q=m->lN l (f + q) (jF l s t)=true:=by
  intro q
  induction q with
  | zero=>intro t e; rw [Nat.add_zero] at e; subst e; exact hf
  | succ q ih=>intro t e;rw [show f + (q + 1)=(f + q) + 1 by omega,lN,if_pos (hs t (by omega))];exact ih (t + 1) (by omega)
 exact ⟨_,this (m - t) t (by omega)⟩
theorem oK.event {l:List aQ} {k:Nat} (hk:k < l.length) (h:jT l k=false):oK l k:=⟨1,by rw [lN,h]; simpa using hk⟩
theorem Q6 {l:List aQ} (ho:Ja l):Gi l=true↔ ∀k,k < l.length->oK l k:=by
 unfold Gi;rw [List.all_eq_true];constructor
 ·intro h k hk;have:=h k (List.mem_range.2 hk);rw [Og ho _ _ hk] at this;exact ⟨_,this⟩
 ·intro h k hk;have hk:=List.mem_range.1 hk;obtain ⟨f,hf⟩:=h k hk;rw [Og ho _ _ hk];exact an4 ho hk hf
def Cc:List Bool->Nat
 | []=>0
 | true ::r=>Cc r
 | false ::r=>Cc r + 1
theorem Fg: ∀(l:List Bool) (k:Nat),l[k]? =some false->Cc (l.set k true) + 1=Cc l
 | [],_,h=>by simp at h
 | b ::r,0,h=>by simp at h; subst h; rfl
 | b ::r,k + 1,h=>by
   have ih:=Fg r k (by simpa using h);cases b
   ·show Cc (r.set k true) + 1 + 1=Cc r + 1; omega
   ·show Cc (r.set k true) + 1=Cc r; omega
end Md
theorem M8 {w:World} {B b off c:Nat} {l:List aQ} {x:aQ} (h:bL gK 6 w B l (some ⟨b,off,none⟩) 0) (hx:l[c]? =some x):b < B∧w.cell? ⟨b,off + c * 6,none⟩=some (.int .i64 x.op)∧w.cell? ⟨b,off + c * 6 + 1,none⟩=some (.int .i64 x.a):=by
 obtain ⟨b',off',e,hb,hc⟩:=h.at c x hx;injection e with e; injection e with e1 e2;subst e1 e2;have h0:=hc 0 _ rfl;have h1:=hc 1 _ rfl;simp only [Nat.zero_add,Nat.add_zero] at h0 h1;exact ⟨hb,h0,h1⟩
theorem Xo {l:List aQ} {k:Nat} (h:jT l k=true): ∃x,l[k]? =some x∧jU x.op=true:=by
 unfold jT at h;cases hk:l[k]? with
 | none=>rw [hk] at h; cases h
 | some x=>rw [hk] at h; exact ⟨x,rfl,h⟩
theorem yc {l:List aQ} (ho:Ja l) (k:Nat) (hs:jT l k=true) (w:World) (b off cap:Nat) (hl:l.length<=3000000000000) (hw:bL gK 6 w w.heap.size l (some ⟨b,off,none⟩) 0):
 Calls Tryz.prog 74 #[.slice (some ⟨b,off,none⟩) l.length cap,.int .i64 k] w fun e w'=>e= .returned (.int .i64 ((yF l k:Nat):Int))∧w=w':=by
 obtain ⟨x,hx,hsx⟩:=Xo hs;obtain ⟨hb,c0,c1⟩:=M8 hw hx;obtain ⟨h1,h2⟩:=ho k x hx hsx;have hk:k < l.length:=(List.getElem?_eq_some_iff.1 hx).1;have hn:yF l k=if x.op == 5 then x.a.toNat else k + 1:=by unfold yF; rw [hx]
 have k0:(0:Int)<=(k:Int):=by omega
 have k1:(k:Int) < (l.length:Int):=by omega
 cases h5:(x.op == 5)
 ·have hr:((yF l k:Nat):Int)=(k:Int) + 1:=by rw [hn,h5]; simp
  have hwr:IntKind.i64.wrap ((k:Int) + 1)=(k:Int) + 1:=IntWalk.i64_in _ (by omega);rw [hr];clear hw hx hn hr h1 h2 hs hsx;go_enter Tryz.func74,Tryz.ntmps74;go_wp2_with fail;go_ret;exact ⟨by first | rfl | simp [hwr],rfl⟩
 ·have h5':x.op=5:=by simpa using h5
  have ha:=h1 h5';have hr:((yF l k:Nat):Int)=x.a:=by rw [hn,h5]; simp; omega
  rw [hr];clear hw hx hn hr h1 h2 hs hsx;go_enter Tryz.func74,Tryz.ntmps74;go_wp2_with fail;go_ret;exact ⟨rfl,rfl⟩
def jW (w:World) (g:Nat) (G:List Bool):Prop:=w.heap[g]? =some (.cells (G.map Value.bool).toArray 4 (0,0))
theorem jW.cell {w:World} {g c:Nat} {G:List Bool} {q:Bool} (h:jW w g G) (hc:G[c]? =some q):w.cell? ⟨g,c,none⟩=some (.bool q):=ak h (by simp [hc])
theorem jW.set {w:World} {g:Nat} {G:List Bool} (h:jW w g G) (c:Nat) (q:Bool):jW (w.setCell ⟨g,c,none⟩ (.bool q)) g (G.set c q):=om h _ (by simp [List.map_set])
theorem jW.far {w:World} {g g':Nat} {G:List Bool} (h:jW w g G) (hne:g'≠g) (c:Nat) (v:Value):jW (w.setCell ⟨g',c,none⟩ v) g G:=(aY _ _ _ rfl hne).trans h
def Eu (w:World) (g:Nat):Nat:=match w.heap[g]? with | some (.cells cs _ _)=>(cs.toList.filter (fun v=>match v with | .bool false=>true | _=>false)).length | _=>0
theorem Ce {w:World} {g:Nat} {G:List Bool} (h:jW w g G):Eu w g=Cc G:=by
 have hh:w.heap[g]? =_:=h;unfold Eu;rw [hh];show ((G.map Value.bool).filter _).length=Cc G
 induction G with
 | nil=>rfl
 | cons b r ih=>
   have ih':((r.map Value.bool).filter (fun v=>match v with | .bool false=>true | _=>false)).length=Cc r:=by
    clear ih hh h
    induction r with
    | nil=>rfl
    | cons b r ih=>cases b <;> simp [Cc,ih]
   cases b <;> simp [Cc,ih']
theorem au5:(Tryz.prog.info? 4).map (fun i=>(i.zero,i.size,i.bytes))=some (some (.bool false),1,1):=by kernel_rfl
theorem RV (n:Nat):madeCells (Value.bool false).cells (n * 1)=((List.replicate n false).map Value.bool).toArray:=by
 rw [Nat.mul_one];apply Array.ext
 ·simp [madeCells]
 ·intro i h1 h2;simp [madeCells,Value.cells,Nat.mod_one]
theorem X3 (n:Nat) (hn:n<=3000000000000) (w:World):
 (Instr.makeSlice 127 (.int .i64 (n:Int)) (.int .i64 (n:Int))).run Tryz.prog w= .ok (.slice (some ⟨w.heap.size,0,none⟩) n n) (w.alloc (.cells ((List.replicate n false).map Value.bool).toArray 4)):=by
 obtain ⟨i0,hi0,hz0,hz1,hz2⟩:=yP au5;have hr:=run_make (P:=Tryz.prog) w 127 4 i0 (.bool false) Tryz.underlying127 hi0 hz0 .i64 .i64 n n (by omega) (by omega) (by rw [hz2]; omega) (by omega);simp only [Int.toNat_natCast] at hr;rw [hz1,RV] at hr;exact hr
end Go.Proofs.YtgjmahnblcajbaaGreatDoor
