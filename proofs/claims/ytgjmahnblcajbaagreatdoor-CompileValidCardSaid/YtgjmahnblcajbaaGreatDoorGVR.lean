/- Contracts of the reference's in, Silent, lands. And what hangs on it. -/
import Derived.Test.YtgjmahnblcajbaaGreatDoorGVA
import Derived.Test.YtgjmahnblcajbaaGreatDoorGVP
set_option linter.unusedSimpArgs false
set_option linter.unusedVariables false
set_option maxHeartbeats 40000000
set_option maxRecDepth 1000000
namespace Go.Proofs.YtgjmahnblcajbaaGreatDoor
open Go.RowKit
open Md
theorem uD (i n:Int) (w:World):Calls Tryz.prog 50 #[.int .i64 i,.int .i64 n] w fun e w'=>e= .returned (.bool (bT i n))∧w=w':=by
 unfold bT;by_cases h0:0<=i <;> by_cases h1:i < n
 all_goals go_enter Tryz.func50,Tryz.ntmps50;go_wp2_with fail;go_ret;exact ⟨by simp [h0,h1],rfl⟩
theorem CS (i:Int) (w:World):Calls Tryz.prog 76 #[.int .i64 i] w fun e w'=>e= .returned (.bool (jU i))∧w=w':=by
 unfold jU;by_cases h0:1<=i <;> by_cases h1:i<=5
 all_goals go_enter Tryz.func76,Tryz.ntmps76;go_wp2_with fail;go_ret;exact ⟨by simp [h0,h1],rfl⟩
theorem UA (l:List aQ) (Ym:Int) (w:World) (ao:Option Addr) (cap:Nat) (hl:l.length<=3000000000000) (hw:bL gK 6 w w.heap.size l ao 0):
 Calls Tryz.prog 49 #[.slice ao l.length cap,.int .i64 Ym] w fun e w'=>e= .returned (.bool (qx l (l.length + 1) Ym))∧w=w':=by
 have HW:=ah hw;obtain ⟨res,hres⟩: ∃r,qx l (l.length + 1) Ym=r:=⟨_,rfl⟩;have HR:=ah hres;rw [hres];clear hw hres;go_enter Tryz.func49,Tryz.ntmps49;go_wp2_with fail;go_loopw [1,5] (fun v1 v5 wr=> ∃(k:Nat) (a:Int),v5= .int .i64 k∧v1= .int .i64 a∧k<=l.length + 1∧res=qx l (l.length + 1 - k) a∧wr=w) (fun _ v _=>l.length + 1 - (intOf v).toNat)
 case atStart=>exact ⟨0,Ym,rfl,rfl,Nat.zero_le _,HR.o.symm,rfl⟩
 case round=>
  obtain ⟨k,a,rfl,rfl,hk,heq,rfl⟩:=hrel;have HE:=ah heq;clear heq;by_cases hkl:k<=l.length
  ·have hkl':(k:Int)<=(l.length:Int):=by omega
   have kG:aj (res=qx l ((l.length - k) + 1) a):=ah (by rw [HE.o,show l.length + 1 - k=(l.length - k) + 1 by omega]);cases hwi:bT a l.length
   ·have HT:aj (res=false):=ah (by rw [kG.o,qx,hwi]; rfl);have hc:a < 0∨(¬ a < 0∧(l.length:Int)<=a):=(by unfold bT at hwi;simp at hwi;omega);clear hwi;rcases hc with h | ⟨h1,h2⟩
    ·go_wp2_with fail;go_ret;exact ⟨by rw [HT.o]; rfl,rfl⟩
    ·go_wp2_with fail;go_ret;exact ⟨by rw [HT.o]; rfl,rfl⟩
   ·obtain ⟨j,x,rfl,hj,hx⟩:=ko hwi;obtain ⟨b,off,hao,hb,hcs⟩:=HW.o.at j x hx;subst hao;have x0:=hcs 0 _ rfl;have x1:=hcs 1 _ rfl;simp only [Nat.zero_add,Nat.add_zero] at x0 x1;have j0: ¬ (j:Int) < 0:=(by omega);have j0':(0:Int)<=(j:Int):=(by omega);have j1: ¬ (l.length:Int)<=(j:Int):=(by omega);have j1':(j:Int) < (l.length:Int):=(by omega);have HE2:aj (res=if jU x.op then qx l (l.length - k) (if x.op == 5 then x.a else (j:Int) + 1) else true):=ah (by rw [kG.o,qx,if_pos hwi]; simp [hx]);clear hcs hwi hx;cases hs:jU x.op
    ·have HT:aj (res=true):=ah (by rw [HE2.o,hs]; rfl);go_wp2_with fail;refine (CS x.op wr).mono ?_;rintro e w2 ⟨rfl,rfl⟩;rw [hs];go_wp2_with fail;go_ret;exact ⟨by rw [HT.o]; rfl,rfl⟩
    ·cases h5:(x.op == 5)
     ·have iy:aj (res=qx l (l.length - k) ((j:Int) + 1)):=ah (by rw [HE2.o,hs,h5]; rfl);have Lu:IntKind.i64.wrap ((j:Int) + 1)=(j:Int) + 1:=IntWalk.i64_in _ (by omega);go_wp2_with fail;refine (CS x.op wr).mono ?_;rintro e w2 ⟨rfl,rfl⟩;rw [hs];go_wp2_with fail;go_roundw
      case rel=>exact ⟨k + 1,(j:Int) + 1,by go_num,by first | rfl | simp [Lu],by omega,by rw [iy.o,show l.length + 1 - (k + 1)=l.length - k by omega],trivial⟩
      case measure=>simp [intOf]; omega
     ·have iy:aj (res=qx l (l.length - k) x.a):=ah (by rw [HE2.o,hs,h5]; rfl);go_wp2_with fail;refine (CS x.op wr).mono ?_;rintro e w2 ⟨rfl,rfl⟩;rw [hs];go_wp2_with fail;go_roundw
      case rel=>exact ⟨k + 1,x.a,by go_num,rfl,by omega,by rw [iy.o,show l.length + 1 - (k + 1)=l.length - k by omega],trivial⟩
      case measure=>simp [intOf]; omega
  ·have hke:k=l.length + 1:=by omega
   have hkl': ¬ (k:Int)<=(l.length:Int):=by omega
   have HT:aj (res=false):=ah (by rw [HE.o,hke,Nat.sub_self]; rfl);go_wp2_with fail;go_ret;exact ⟨by rw [HT.o]; rfl,rfl⟩
theorem fJ {i n:Int} {b:Bool} (h:bT i n=b) (w:World):Calls Tryz.prog 50 #[.int .i64 i,.int .i64 n] w fun e w'=>e= .returned (.bool b)∧w=w':=by
 subst h; exact uD i n w
theorem Jc (W:Wo) (s:gW) (i:Int) (n:Int) (w:World) (hw:dR w w.heap.size W s):
 Calls Tryz.prog 75 #[jS W s,.int .i64 i,.int .i64 n] w fun e w'=>e= .returned (.bool (Dy W i n))∧Below w.heap.size w w':=by
 have hl:=hw.lc;unfold maxLen at hl;have HW:=ah hw;clear hw;unfold jS;cases hwi:bT i W.cs.length
 ·have hres:Dy W i n=false:=by unfold Dy; rw [hwi]; rfl
  rw [hres];go_enter Tryz.func75,Tryz.ntmps75;go_upto_region 1 with fail;generalize hW:World.alloc w _=W1;obtain ⟨nb,hnb⟩: ∃n,w.heap.size=n:=⟨_,rfl⟩;have HB:aj (Below w.heap.size w W1):=ah (by rw [<- hW]; exact au _ _);have hc:W1.cell? ⟨nb,0,none⟩=some (.slice s.aC W.cs.length s.cC):=by rw [<- hW,<- hnb]; exact ak (heap_alloc_new _ _) rfl
  have HF:=ah (HW.o.cs.same HB.o);rw [hnb];clear hW hnb;go_wp2_with fail;refine (fJ hwi W1).mono ?_;rintro e w2 ⟨rfl,rfl⟩;go_wp2_with fail;go_ret;exact ⟨rfl,HB.o⟩
 ·obtain ⟨k,x,rfl,hk,hx⟩:=ko hwi;have hres:Dy W k n=(x.ix == 0 && (x.sz != 0 && x.sz == n)):=by unfold Dy; rw [hwi]; simp [hx]
  rw [hres];go_enter Tryz.func75,Tryz.ntmps75;go_upto_region 1 with fail;generalize hW:World.alloc w _=W1;obtain ⟨nb,hnb⟩: ∃n,w.heap.size=n:=⟨_,rfl⟩;have HB:aj (Below w.heap.size w W1):=ah (by rw [<- hW]; exact au _ _);have hc:W1.cell? ⟨nb,0,none⟩=some (.slice s.aC W.cs.length s.cC):=by rw [<- hW,<- hnb]; exact ak (heap_alloc_new _ _) rfl
  have HF:=ah (HW.o.cs.same HB.o);rw [hnb];clear hW hnb;obtain ⟨b,off,hao,hb,hcs⟩:=HF.o.at k x hx;rw [hao] at hc;have k0:(0:Int)<=(k:Int):=by omega
  have k1:(k:Int) < (W.cs.length:Int):=by omega
  have z1:=hcs 1 _ rfl;have z2:=hcs 2 _ rfl;simp only [Nat.zero_add,Nat.add_zero] at z1 z2;clear hcs HF;cases h1:(x.ix == 0)
  ·go_wp2_with fail;refine (fJ hwi W1).mono ?_;rintro e w2 ⟨rfl,rfl⟩;go_wp2_with fail;go_ret;exact ⟨by rw [h1]; simp,HB.o⟩
  ·cases h2:(x.sz == 0)
   ·have h2':(x.sz != 0)=true:=(by simp [bne,h2]);go_wp2_with fail;refine (fJ hwi W1).mono ?_;rintro e w2 ⟨rfl,rfl⟩;go_wp2_with fail;go_ret;exact ⟨by rw [h1,h2']; simp,HB.o⟩
   ·have h2':(x.sz != 0)=false:=(by simp [bne,h2]);go_wp2_with fail;refine (fJ hwi W1).mono ?_;rintro e w2 ⟨rfl,rfl⟩;go_wp2_with fail;go_ret;exact ⟨by rw [h1,h2']; simp,HB.o⟩
theorem Pk (W:Wo) (s:gW) (x:aQ) (w:World) (hw:dR w w.heap.size W s):
 Calls Tryz.prog 48 #[jS W s,EM x] w fun e w'=>e= .returned (.bool (FX W x))∧Below w.heap.size w w':=by
 obtain ⟨op,a,b,c,m,st⟩:=x;have HW:=ah hw;clear hw;unfold jS EM;go_enter Tryz.func48,Tryz.ntmps48;go_upto_region 1 with fail;generalize hW:World.alloc (World.alloc w _) _=W1;obtain ⟨nb,hnb⟩: ∃n,w.heap.size=n:=⟨_,rfl⟩;have HB:aj (Below w.heap.size w W1):=ah (by rw [<- hW]; exact (au _ _).alloc (by simp) _);have rT:aj (W1.heap[nb]? =some (.cells #[.slice s.aC W.cs.length s.cC,.slice s.aL W.ls.length s.cL,.slice s.aN W.ns.length s.cN,.slice s.aF W.fs.length s.cF,.slice s.aT W.ts.length s.cT,.slice s.aS W.ss.length s.cS] 28 (0,0))):=ah (by rw [<- hW,<- hnb,heap_alloc_old _ _ (by simp)]; exact heap_alloc_new _ _);have fu:aj (W1.heap[nb + 1]? =some (.cells #[.int .i64 op,.int .i64 a,.int .i64 b,.int .i64 c,.int .i64 m,.int .i64 st] 75 (0,0))):=ah (by have:=heap_alloc_new (w.alloc (.cells #[.slice s.aC W.cs.length s.cC,.slice s.aL W.ls.length s.cL,.slice s.aN W.ns.length s.cN,.slice s.aF W.fs.length s.cF,.slice s.aT W.ts.length s.cT,.slice s.aS W.ss.length s.cS] 28)) (.cells #[.int .i64 op,.int .i64 a,.int .i64 b,.int .i64 c,.int .i64 m,.int .i64 st] 75);rw [<- hW,<- hnb]; simpa using this);have vY:=ah (HW.o.same HB.o);rw [hnb];clear hW hnb HW;have c0:=ak (j:=0) rT.o rfl;have c1:=ak (j:=1) rT.o rfl;have c2:=ak (j:=2) rT.o rfl;have c3:=ak (j:=3) rT.o rfl;have c4:=ak (j:=4) rT.o rfl;have c5:=ak (j:=5) rT.o rfl;have x0:=ak (j:=0) fu.o rfl;have x1:=ak (j:=1) fu.o rfl;have x2:=ak (j:=2) fu.o rfl;have x3:=ak (j:=3) fu.o rfl;have x4:=ak (j:=4) fu.o rfl;simp only [List.getElem_toArray,List.getElem_cons_zero,List.getElem_cons_succ] at c0 c1 c2 c3 c4 c5 x0 x1 x2 x3 x4;clear rT fu;have hcs:op=6∨op=8∨op=7∨op=9∨op=11∨op=12∨op=13∨op=14∨op=15∨op=16∨op=21∨op=22∨op=23∨op=24∨op=25∨op=26∨op=27∨op=3∨op=4∨(op≠6∧op≠8∧op≠7∧op≠9∧op≠11∧op≠12∧op≠13∧op≠14∧op≠15∧op≠16∧op≠21∧op≠22∧op≠23∧op≠24∧op≠25∧op≠26∧op≠27∧op≠3∧op≠4):=by omega
 rcases hcs with rfl | rfl | rfl | rfl | rfl | rfl | rfl | rfl | rfl | rfl | rfl | rfl | rfl | rfl | rfl | rfl | rfl | rfl | rfl | ⟨n6,n8,n7,n9,n11,n12,n13,n14,n15,n16,n21,n22,n23,n24,n25,n26,n27,n3,n4⟩
 ·cases hwi:bT b W.cs.length
  ·go_wp2_with fail;refine (fJ hwi W1).mono ?_;rintro e w2 ⟨rfl,rfl⟩;go_wp2_with fail;go_ret;exact ⟨by show Ending.returned (Value.bool false)= .returned (.bool (xS W b)); unfold xS; rw [hwi]; rfl,HB.o⟩
  ·obtain ⟨k,y,hk,hkl,hy⟩:=ko hwi;subst hk;obtain ⟨b5,Db,hao,hb5,jK⟩:=vY.o.cs.at k y hy;have z0:=jK 2 _ rfl;simp only [Nat.zero_add] at z0;rw [hao] at c0;have k0:(0:Int)<=(k:Int):=by omega
   have k1:(k:Int) < (W.cs.length:Int):=by omega
   have HT:aj (xS W (k:Int)=(y.sz == 0)):=ah (by unfold xS; rw [hwi]; simp [hy]);clear jK hao hy;go_wp2_with fail;refine (fJ hwi W1).mono ?_;rintro e w2 ⟨rfl,rfl⟩;go_wp2_with fail;go_ret;exact ⟨by show _=Ending.returned (Value.bool (xS W (k:Int))); rw [HT.o]; first | rfl | simp | (cases y; simp_all),HB.o⟩
 ·cases hwi:bT a W.cs.length
  ·go_wp2_with fail;refine (fJ hwi W1).mono ?_;rintro e w2 ⟨rfl,rfl⟩;go_wp2_with fail;go_ret;exact ⟨by show Ending.returned (Value.bool false)= .returned (.bool (xS W a)); unfold xS; rw [hwi]; rfl,HB.o⟩
  ·obtain ⟨k,y,hk,hkl,hy⟩:=ko hwi;subst hk;obtain ⟨b5,Db,hao,hb5,jK⟩:=vY.o.cs.at k y hy;have z0:=jK 2 _ rfl;simp only [Nat.zero_add] at z0;rw [hao] at c0;have k0:(0:Int)<=(k:Int):=by omega
   have k1:(k:Int) < (W.cs.length:Int):=by omega
   have HT:aj (xS W (k:Int)=(y.sz == 0)):=ah (by unfold xS; rw [hwi]; simp [hy]);clear jK hao hy;go_wp2_with fail;refine (fJ hwi W1).mono ?_;rintro e w2 ⟨rfl,rfl⟩;go_wp2_with fail;go_ret;exact ⟨by show _=Ending.returned (Value.bool (xS W (k:Int))); rw [HT.o]; first | rfl | simp | (cases y; simp_all),HB.o⟩
 ·go_wp2_with fail;refine (Jc W s _ _ W1 vY.o).mono ?_;rintro e w2 ⟨rfl,hb⟩;go_wp2_with fail;go_ret;exact ⟨rfl,HB.o.trans (hb.mono HB.o.size)⟩
 ·go_wp2_with fail;refine (Jc W s _ _ W1 vY.o).mono ?_;rintro e w2 ⟨rfl,hb⟩;go_wp2_with fail;go_ret;exact ⟨rfl,HB.o.trans (hb.mono HB.o.size)⟩
 ·cases hwi:bT a W.ls.length
  ·go_wp2_with fail;refine (fJ hwi W1).mono ?_;rintro e w2 ⟨rfl,rfl⟩;go_wp2_with fail;go_ret;exact ⟨by show Ending.returned (Value.bool false)= .returned (.bool (fT W a false)); unfold fT; rw [hwi]; rfl,HB.o⟩
  ·obtain ⟨k,y,hk,hkl,hy⟩:=ko hwi;subst hk;obtain ⟨b5,Db,hao,hb5,jK⟩:=vY.o.ls.at k y hy;have z0:=jK 1 _ rfl;simp only [Nat.zero_add] at z0;rw [hao] at c1;have k0:(0:Int)<=(k:Int):=by omega
   have k1:(k:Int) < (W.ls.length:Int):=by omega
   have HT:aj (fT W (k:Int) false=(y.rw == false)):=ah (by unfold fT; rw [hwi]; simp [hy]);clear jK hao hy;go_wp2_with fail;refine (fJ hwi W1).mono ?_;rintro e w2 ⟨rfl,rfl⟩;go_wp2_with fail;go_ret;exact ⟨by show _=Ending.returned (Value.bool (fT W (k:Int) false)); rw [HT.o]; first | rfl | simp | (cases y; simp_all),HB.o⟩
 ·cases hwi:bT a W.ls.length
  ·go_wp2_with fail;refine (fJ hwi W1).mono ?_;rintro e w2 ⟨rfl,rfl⟩;go_wp2_with fail;go_ret;exact ⟨by show Ending.returned (Value.bool false)= .returned (.bool (fT W a false)); unfold fT; rw [hwi]; rfl,HB.o⟩
  ·obtain ⟨k,y,hk,hkl,hy⟩:=ko hwi;subst hk;obtain ⟨b5,Db,hao,hb5,jK⟩:=vY.o.ls.at k y hy;have z0:=jK 1 _ rfl;simp only [Nat.zero_add] at z0;rw [hao] at c1;have k0:(0:Int)<=(k:Int):=by omega
   have k1:(k:Int) < (W.ls.length:Int):=by omega
   have HT:aj (fT W (k:Int) false=(y.rw == false)):=ah (by unfold fT; rw [hwi]; simp [hy]);clear jK hao hy;go_wp2_with fail;refine (fJ hwi W1).mono ?_;rintro e w2 ⟨rfl,rfl⟩;go_wp2_with fail;go_ret;exact ⟨by show _=Ending.returned (Value.bool (fT W (k:Int) false)); rw [HT.o]; first | rfl | simp | (cases y; simp_all),HB.o⟩
 ·cases hwi:bT a W.ls.length
  ·go_wp2_with fail;refine (fJ hwi W1).mono ?_;rintro e w2 ⟨rfl,rfl⟩;go_wp2_with fail;go_ret;exact ⟨by show Ending.returned (Value.bool false)= .returned (.bool (fT W a true)); unfold fT; rw [hwi]; rfl,HB.o⟩
  ·obtain ⟨k,y,hk,hkl,hy⟩:=ko hwi;subst hk;obtain ⟨b5,Db,hao,hb5,jK⟩:=vY.o.ls.at k y hy;have z0:=jK 1 _ rfl;simp only [Nat.zero_add] at z0;rw [hao] at c1;have k0:(0:Int)<=(k:Int):=by omega
   have k1:(k:Int) < (W.ls.length:Int):=by omega
   have HT:aj (fT W (k:Int) true=(y.rw == true)):=ah (by unfold fT; rw [hwi]; simp [hy]);clear jK hao hy;go_wp2_with fail;refine (fJ hwi W1).mono ?_;rintro e w2 ⟨rfl,rfl⟩;go_wp2_with fail;go_ret;exact ⟨by show _=Ending.returned (Value.bool (fT W (k:Int) true)); rw [HT.o]; first | rfl | simp | (cases y; simp_all),HB.o⟩
 ·cases hwi:bT a W.ls.length
  ·go_wp2_with fail;refine (fJ hwi W1).mono ?_;rintro e w2 ⟨rfl,rfl⟩;go_wp2_with fail;go_ret;exact ⟨by show Ending.returned (Value.bool false)= .returned (.bool (fT W a true)); unfold fT; rw [hwi]; rfl,HB.o⟩
  ·obtain ⟨k,y,hk,hkl,hy⟩:=ko hwi;subst hk;obtain ⟨b5,Db,hao,hb5,jK⟩:=vY.o.ls.at k y hy;have z0:=jK 1 _ rfl;simp only [Nat.zero_add] at z0;rw [hao] at c1;have k0:(0:Int)<=(k:Int):=by omega
   have k1:(k:Int) < (W.ls.length:Int):=by omega
   have HT:aj (fT W (k:Int) true=(y.rw == true)):=ah (by unfold fT; rw [hwi]; simp [hy]);clear jK hao hy;go_wp2_with fail;refine (fJ hwi W1).mono ?_;rintro e w2 ⟨rfl,rfl⟩;go_wp2_with fail;go_ret;exact ⟨by show _=Ending.returned (Value.bool (fT W (k:Int) true)); rw [HT.o]; first | rfl | simp | (cases y; simp_all),HB.o⟩
 ·cases hwi:bT a W.ls.length
  ·go_wp2_with fail;refine (fJ hwi W1).mono ?_;rintro e w2 ⟨rfl,rfl⟩;go_wp2_with fail;go_ret;exact ⟨by show Ending.returned (Value.bool false)= .returned (.bool (fT W a true)); unfold fT; rw [hwi]; rfl,HB.o⟩
  ·obtain ⟨k,y,hk,hkl,hy⟩:=ko hwi;subst hk;obtain ⟨b5,Db,hao,hb5,jK⟩:=vY.o.ls.at k y hy;have z0:=jK 1 _ rfl;simp only [Nat.zero_add] at z0;rw [hao] at c1;have k0:(0:Int)<=(k:Int):=by omega
   have k1:(k:Int) < (W.ls.length:Int):=by omega
   have HT:aj (fT W (k:Int) true=(y.rw == true)):=ah (by unfold fT; rw [hwi]; simp [hy]);clear jK hao hy;go_wp2_with fail;refine (fJ hwi W1).mono ?_;rintro e w2 ⟨rfl,rfl⟩;go_wp2_with fail;go_ret;exact ⟨by show _=Ending.returned (Value.bool (fT W (k:Int) true)); rw [HT.o]; first | rfl | simp | (cases y; simp_all),HB.o⟩
 ·cases hwi:bT a W.ls.length
  ·go_wp2_with fail;refine (fJ hwi W1).mono ?_;rintro e w2 ⟨rfl,rfl⟩;go_wp2_with fail;go_ret;exact ⟨by show Ending.returned (Value.bool false)= .returned (.bool (fT W a true)); unfold fT; rw [hwi]; rfl,HB.o⟩
  ·obtain ⟨k,y,hk,hkl,hy⟩:=ko hwi;subst hk;obtain ⟨b5,Db,hao,hb5,jK⟩:=vY.o.ls.at k y hy;have z0:=jK 1 _ rfl;simp only [Nat.zero_add] at z0;rw [hao] at c1;have k0:(0:Int)<=(k:Int):=by omega
   have k1:(k:Int) < (W.ls.length:Int):=by omega
   have HT:aj (fT W (k:Int) true=(y.rw == true)):=ah (by unfold fT; rw [hwi]; simp [hy]);clear jK hao hy;go_wp2_with fail;refine (fJ hwi W1).mono ?_;rintro e w2 ⟨rfl,rfl⟩;go_wp2_with fail;go_ret;exact ⟨by show _=Ending.returned (Value.bool (fT W (k:Int) true)); rw [HT.o]; first | rfl | simp | (cases y; simp_all),HB.o⟩
 ·go_wp2_with fail;refine (uD _ _ W1).mono ?_;rintro e w2 ⟨rfl,rfl⟩;go_wp2_with fail;go_ret;exact ⟨rfl,HB.o⟩
 ·go_wp2_with fail;refine (uD _ _ W1).mono ?_;rintro e w2 ⟨rfl,rfl⟩;go_wp2_with fail;go_ret;exact ⟨rfl,HB.o⟩
 ·go_wp2_with fail;refine (uD _ _ W1).mono ?_;rintro e w2 ⟨rfl,rfl⟩;go_wp2_with fail;go_ret;exact ⟨rfl,HB.o⟩
 ·go_wp2_with fail;refine (uD _ _ W1).mono ?_;rintro e w2 ⟨rfl,rfl⟩;go_wp2_with fail;go_ret;exact ⟨rfl,HB.o⟩
 ·go_wp2_with fail;refine (uD _ _ W1).mono ?_;rintro e w2 ⟨rfl,rfl⟩;go_wp2_with fail;go_ret;exact ⟨rfl,HB.o⟩
 ·go_wp2_with fail;refine (uD _ _ W1).mono ?_;rintro e w2 ⟨rfl,rfl⟩;go_wp2_with fail;go_ret;exact ⟨rfl,HB.o⟩
 ·go_wp2_with fail;refine (uD _ _ W1).mono ?_;rintro e w2 ⟨rfl,rfl⟩;go_wp2_with fail;go_ret;exact ⟨rfl,HB.o⟩
 ·cases h4:(m == 4)
  ·go_wp2_with fail;go_ret;exact ⟨by show _=Ending.returned (Value.bool (m == 4 || m == 5)); rw [h4]; simp,HB.o⟩
  ·go_wp2_with fail;go_ret;exact ⟨by show _=Ending.returned (Value.bool (m == 4 || m == 5)); rw [h4]; simp,HB.o⟩
 ·by_cases h6:6<=m
  ·go_wp2_with fail;go_ret;exact ⟨by show _=Ending.returned (Value.bool (decide (6<=m) && decide (m<=18))); simp [h6],HB.o⟩
  ·go_wp2_with fail;go_ret;exact ⟨by show _=Ending.returned (Value.bool (decide (6<=m) && decide (m<=18))); rw [decide_eq_false (show ¬ 6<=m by omega)]; rfl,HB.o⟩
 ·have HT:aj (FX W ⟨op,a,b,c,m,st⟩=true):=ah (by
   unfold FX oG; simp only; by_cases h5:op=5
   ·simp [h5]
   ·by_cases h10:op=10
    ·simp [h10]
    ·simp [h5,h10,n6,n8,n7,n9,n11,n12,n13,n14,n15,n16,n21,n22,n23,n24,n25,n26,n27,n3,n4])
  have k6:(op == 6)=false:=by simpa using n6
  have k8:(op == 8)=false:=by simpa using n8
  have k7:(op == 7)=false:=by simpa using n7
  have k9:(op == 9)=false:=by simpa using n9
  have k11:(op == 11)=false:=by simpa using n11
  have k12:(op == 12)=false:=by simpa using n12
  have k13:(op == 13)=false:=by simpa using n13
  have k14:(op == 14)=false:=by simpa using n14
  have k15:(op == 15)=false:=by simpa using n15
  have k16:(op == 16)=false:=by simpa using n16
  have k21:(op == 21)=false:=by simpa using n21
  have k22:(op == 22)=false:=by simpa using n22
  have k23:(op == 23)=false:=by simpa using n23
  have k24:(op == 24)=false:=by simpa using n24
  have k25:(op == 25)=false:=by simpa using n25
  have k26:(op == 26)=false:=by simpa using n26
  have k27:(op == 27)=false:=by simpa using n27
  have k3:(op == 3)=false:=by simpa using n3
  have k4:(op == 4)=false:=by simpa using n4
  clear n6 n8 n7 n9 n11 n12 n13 n14 n15 n16 n21 n22 n23 n24 n25 n26 n27 n3 n4;go_wp2_with fail;go_ret;exact ⟨by rw [HT.o]; rfl,HB.o⟩
end Go.Proofs.YtgjmahnblcajbaaGreatDoor
