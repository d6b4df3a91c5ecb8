/- Contracts of eval.Binary and of compile's validOperands. And what hangs on it. -/
import Derived.Test.YtfbbaiejbjdfbaaGreatDoorGVA
import Derived.Test.YtfbbaiejbjdfbaaGreatDoorGCA
import Derived.Laws.MakeOwn
import Derived.Test.YtfbbaiejbjdfbaaGreatDoorGCE
set_option linter.unusedSimpArgs false
set_option linter.unusedVariables false
set_option maxHeartbeats 40000000
set_option maxRecDepth 1000000
namespace Go.Proofs.YtfbbaiejbjdfbaaGreatDoor
open Go.RowKit
open Md
theorem Uu (op:Int) (w:World):Calls Tryz.prog 86 #[.int .i64 op,.int .i64 0,.int .i64 0] w fun e w'=>(∃v,e= .returned (.tuple #[.int .i64 v,.bool (decide (6<=op) && decide (op<=18))]))∧w=w':=by
 have hcs:op=6∨op=7∨op=8∨op=9∨op=10∨op=11∨op=12∨op=13∨op=14∨op=15∨op=16∨op=17∨op=18∨(op≠6∧op≠7∧op≠8∧op≠9∧op≠10∧op≠11∧op≠12∧op≠13∧op≠14∧op≠15∧op≠16∧op≠17∧op≠18):=by omega
 rcases hcs with rfl | rfl | rfl | rfl | rfl | rfl | rfl | rfl | rfl | rfl | rfl | rfl | rfl | ⟨n6,n7,n8,n9,n10,n11,n12,n13,n14,n15,n16,n17,n18⟩
 case inr.inr.inr.inr.inr.inr.inr.inr.inr.inr.inr.inr.inr=>
  have hres:(decide (6<=op) && decide (op<=18))=false:=by simp; omega
  rw [hres];have k6:(op == 6)=false:=by simpa using n6
  have k7:(op == 7)=false:=by simpa using n7
  have k8:(op == 8)=false:=by simpa using n8
  have k9:(op == 9)=false:=by simpa using n9
  have k10:(op == 10)=false:=by simpa using n10
  have k11:(op == 11)=false:=by simpa using n11
  have k12:(op == 12)=false:=by simpa using n12
  have k13:(op == 13)=false:=by simpa using n13
  have k14:(op == 14)=false:=by simpa using n14
  have k15:(op == 15)=false:=by simpa using n15
  have k16:(op == 16)=false:=by simpa using n16
  have k17:(op == 17)=false:=by simpa using n17
  have k18:(op == 18)=false:=by simpa using n18
  clear n6 n7 n8 n9 n10 n11 n12 n13 n14 n15 n16 n17 n18 hres;go_enter Tryz.func86,Tryz.ntmps86;go_wp2_with fail
  go_ret2
  exact ⟨⟨0,rfl⟩,rfl⟩
 all_goals
  go_enter Tryz.func86,Tryz.ntmps86;go_wp2_with fail
  all_goals first
   | (go_ret2; exact ⟨⟨_,rfl⟩,rfl⟩)
   | (refine (Ow _ w).mono ?_; rintro e w2 ⟨rfl,rfl⟩; go_wp2_with fail; all_goals (go_ret2; exact ⟨⟨_,rfl⟩,rfl⟩))
theorem BJ (W:Wo) (s:jM) (n:Int) (x:aX) (w:World) (hw:gN w w.heap.size W s):
 Calls Tryz.prog 51 #[pY W s,.int .i64 n,Jm x] w fun e w'=>e= .returned (.bool (jV W n x))∧Below w.heap.size w w':=by
 obtain ⟨op,a,b,c,m,st⟩:=x;have HW:=ah hw;clear hw;unfold pY Jm;go_enter Tryz.func51,Tryz.ntmps51;go_upto_region 1 with fail;generalize hW:World.alloc (World.alloc w _) _=W1;obtain ⟨nb,hnb⟩: ∃n,w.heap.size=n:=⟨_,rfl⟩;have HB:aj (Below w.heap.size w W1):=ah (by rw [<- hW]; exact (ak _ _).alloc (by simp) _);have Bu:aj (W1.heap[nb]? =some (.cells #[.slice s.aC W.cs.length s.cC,.slice s.aL W.ls.length s.cL,.slice s.aN W.ns.length s.cN,.slice s.aF W.fs.length s.cF,.slice s.aT W.ts.length s.cT,.slice s.aS W.ss.length s.cS] 34 (0,0))):=ah (by rw [<- hW,<- hnb,heap_alloc_old _ _ (by simp)]; exact heap_alloc_new _ _);have sN:aj (W1.heap[nb + 1]? =some (.cells #[.int .i64 op,.int .i64 a,.int .i64 b,.int .i64 c,.int .i64 m,.int .i64 st] 52 (0,0))):=ah (by have:=heap_alloc_new (w.alloc (.cells #[.slice s.aC W.cs.length s.cC,.slice s.aL W.ls.length s.cL,.slice s.aN W.ns.length s.cN,.slice s.aF W.fs.length s.cF,.slice s.aT W.ts.length s.cT,.slice s.aS W.ss.length s.cS] 34)) (.cells #[.int .i64 op,.int .i64 a,.int .i64 b,.int .i64 c,.int .i64 m,.int .i64 st] 52);rw [<- hW,<- hnb]; simpa using this);have Wx:=ah (HW.o.same HB.o);rw [hnb];clear hW hnb HW;have c0:=au (j:=0) Bu.o rfl;have c1:=au (j:=1) Bu.o rfl;have c2:=au (j:=2) Bu.o rfl;have c3:=au (j:=3) Bu.o rfl;have c4:=au (j:=4) Bu.o rfl;have c5:=au (j:=5) Bu.o rfl;have x0:=au (j:=0) sN.o rfl;have x1:=au (j:=1) sN.o rfl;have x2:=au (j:=2) sN.o rfl;have x3:=au (j:=3) sN.o rfl;have x4:=au (j:=4) sN.o rfl;simp only [List.getElem_toArray,List.getElem_cons_zero,List.getElem_cons_succ] at c0 c1 c2 c3 c4 c5 x0 x1 x2 x3 x4;clear Bu sN;have hcs:op=3∨op=4∨op=5∨op=10∨op=6∨op=8∨op=7∨op=9∨op=11∨op=12∨op=13∨op=14∨op=15∨op=16∨op=21∨op=22∨op=23∨op=24∨op=25∨op=26∨op=27∨(op≠3∧op≠4∧op≠5∧op≠10∧op≠6∧op≠8∧op≠7∧op≠9∧op≠11∧op≠12∧op≠13∧op≠14∧op≠15∧op≠16∧op≠21∧op≠22∧op≠23∧op≠24∧op≠25∧op≠26∧op≠27):=by omega
 rcases hcs with rfl | rfl | rfl | rfl | rfl | rfl | rfl | rfl | rfl | rfl | rfl | rfl | rfl | rfl | rfl | rfl | rfl | rfl | rfl | rfl | rfl | ⟨n3,n4,n5,n10,n6,n8,n7,n9,n11,n12,n13,n14,n15,n16,n21,n22,n23,n24,n25,n26,n27⟩
 case inr.inr.inr.inr.inr.inr.inr.inr.inr.inr.inr.inr.inr.inr.inr.inr.inr.inr.inr.inr.inr=>
  have k3:(op == 3)=false:=by simpa using n3
  have k4:(op == 4)=false:=by simpa using n4
  have k5:(op == 5)=false:=by simpa using n5
  have k10:(op == 10)=false:=by simpa using n10
  have k6:(op == 6)=false:=by simpa using n6
  have k8:(op == 8)=false:=by simpa using n8
  have k7:(op == 7)=false:=by simpa using n7
  have k9:(op == 9)=false:=by simpa using n9
  have k11:(op == 11)=false:=by simpa using n11
  have k12:(op == 12)=false:=by simpa using n12
  have k13:(op == 13)=false:=by simpa using n13
  have k14:(op == 14)=false:=by simpa using n14
  have k15:(op == 15)=false:=by simpa using n15
  have k16:(op == 16)=false:=by simpa using n16
  have k21:(op == 21)=false:=by simpa using n21
  have k22:(op == 22)=false:=by simpa using n22
  have k23:(op == 23)=false:=by simpa using n23
  have k24:(op == 24)=false:=by simpa using n24
  have k25:(op == 25)=false:=by simpa using n25
  have k26:(op == 26)=false:=by simpa using n26
  have k27:(op == 27)=false:=by simpa using n27
  have hres:jV W n ⟨op,a,b,c,m,st⟩=true:=by unfold jV; simp [n3,n4,n5,n10,n6,n8,n7,n9,n11,n12,n13,n14,n15,n16,n21,n22,n23,n24,n25,n26,n27]
  have HR:=ah hres;clear n3 n4 n5 n10 n6 n8 n7 n9 n11 n12 n13 n14 n15 n16 n21 n22 n23 n24 n25 n26 n27 hres;go_wp2_with fail;go_ret;exact ⟨by rw [HR.o]; rfl,HB.o⟩
 all_goals
  go_wp2_with fail
  first
   | (refine (LG W s _ _ W1 Wx.o).mono ?_; rintro e w2 ⟨rfl,hb⟩; go_wp2_with fail; go_ret; exact ⟨by first | rfl | simp [jV],HB.o.trans (hb.mono HB.o.size)⟩)
   | (refine (QX W s _ W1 Wx.o).mono ?_; rintro e w2 ⟨rfl,hb⟩; go_wp2_with fail; go_ret; exact ⟨by first | rfl | simp [jV],HB.o.trans (hb.mono HB.o.size)⟩)
   | (refine (Sd W s _ _ W1 Wx.o).mono ?_; rintro e w2 ⟨rfl,hb⟩; go_wp2_with fail; go_ret; exact ⟨by first | rfl | simp [jV],HB.o.trans (hb.mono HB.o.size)⟩)
   | (refine (Mg _ _ W1).mono ?_; rintro e w2 ⟨rfl,rfl⟩; go_wp2_with fail; go_ret; exact ⟨by first | rfl | simp [jV],HB.o⟩)
   | (refine (WI _ _ W1).mono ?_; rintro e w2 ⟨⟨v,rfl⟩,rfl⟩; go_wp2_with fail; go_ret; exact ⟨by first | rfl | simp [jV],HB.o⟩)
   | (refine (Uu _ W1).mono ?_; rintro e w2 ⟨⟨v,rfl⟩,rfl⟩; go_wp2_with fail; go_ret; exact ⟨by first | rfl | simp [jV],HB.o⟩)
theorem OI {w:World} {B b off c:Nat} {l:List aX} {x:aX} (h:dK jE 6 w B l (some ⟨b,off,none⟩) 0) (hx:l[c]? =some x):b < B∧w.cell? ⟨b,off + c * 6,none⟩=some (.int .i64 x.op)∧w.cell? ⟨b,off + c * 6 + 1,none⟩=some (.int .i64 x.a):=by
 obtain ⟨b',off',e,hb,hc⟩:=h.at c x hx;injection e with e; injection e with e1 e2;subst e1 e2;have h0:=hc 0 _ rfl;have h1:=hc 1 _ rfl;simp only [Nat.zero_add,Nat.add_zero] at h0 h1;exact ⟨hb,h0,h1⟩
theorem aa9 {l:List aX} {k:Nat} (h:mO l k=true): ∃x,l[k]? =some x∧nJ x.op=true:=by
 unfold mO at h;cases hk:l[k]? with
 | none=>rw [hk] at h; cases h
 | some x=>rw [hk] at h; exact ⟨x,rfl,h⟩
theorem Bb {l:List aX} (ho:Hl l) (k:Nat) (hs:mO l k=true) (w:World) (b off cap:Nat) (hl:l.length<=1000000000000) (hw:dK jE 6 w w.heap.size l (some ⟨b,off,none⟩) 0):
 Calls Tryz.prog 90 #[.slice (some ⟨b,off,none⟩) l.length cap,.int .i64 k] w fun e w'=>e= .returned (.int .i64 ((vo l k:Nat):Int))∧w=w':=by
 obtain ⟨x,hx,hsx⟩:=aa9 hs;obtain ⟨hb,c0,c1⟩:=OI hw hx;obtain ⟨h1,h2⟩:=ho k x hx hsx;have hk:k < l.length:=(List.getElem?_eq_some_iff.1 hx).1;have hn:vo l k=if x.op == 5 then x.a.toNat else k + 1:=by unfold vo; rw [hx]
 have k0:(0:Int)<=(k:Int):=by omega
 have k1:(k:Int) < (l.length:Int):=by omega
 cases h5:(x.op == 5)
 ·have hr:((vo l k:Nat):Int)=(k:Int) + 1:=by rw [hn,h5]; simp
  have hwr:IntKind.i64.wrap ((k:Int) + 1)=(k:Int) + 1:=IntWalk.i64_in _ (by omega);rw [hr];clear hw hx hn hr h1 h2 hs hsx;go_enter Tryz.func90,Tryz.ntmps90;go_wp2_with fail;go_ret;exact ⟨by first | rfl | simp [hwr],rfl⟩
 ·have h5':x.op=5:=by simpa using h5
  have ha:=h1 h5';have hr:((vo l k:Nat):Int)=x.a:=by rw [hn,h5]; simp; omega
  rw [hr];clear hw hx hn hr h1 h2 hs hsx;go_enter Tryz.func90,Tryz.ntmps90;go_wp2_with fail;go_ret;exact ⟨rfl,rfl⟩
def oK (w:World) (g:Nat) (G:List Bool):Prop:=w.heap[g]? =some (.cells (G.map Value.bool).toArray 4 (0,0))
theorem oK.cell {w:World} {g c:Nat} {G:List Bool} {q:Bool} (h:oK w g G) (hc:G[c]? =some q):w.cell? ⟨g,c,none⟩=some (.bool q):=au h (by simp [hc])
theorem oK.set {w:World} {g:Nat} {G:List Bool} (h:oK w g G) (c:Nat) (q:Bool):oK (w.setCell ⟨g,c,none⟩ (.bool q)) g (G.set c q):=pG h _ (by simp [List.map_set])
theorem oK.far {w:World} {g g':Nat} {G:List Bool} (h:oK w g G) (hne:g'≠g) (c:Nat) (v:Value):oK (w.setCell ⟨g',c,none⟩ v) g G:=(aV _ _ _ rfl hne).trans h
def Gp (w:World) (g:Nat):Nat:=match w.heap[g]? with | some (.cells cs _ _)=>(cs.toList.filter (fun v=>match v with | .bool false=>true | _=>false)).length | _=>0
theorem En {w:World} {g:Nat} {G:List Bool} (h:oK w g G):Gp w g=Em G:=by
 have hh:w.heap[g]? =_:=h;unfold Gp;rw [hh];show ((G.map Value.bool).filter _).length=Em G
 induction G with
 | nil=>rfl
 | cons b r ih=>
   have ih':((r.map Value.bool).filter (fun v=>match v with | .bool false=>true | _=>false)).length=Em r:=by
    clear ih hh h
    induction r with
    | nil=>rfl
    | cons b r ih=>cases b <;> simp [Em,ih]
   cases b <;> simp [Em,ih']
theorem aK1:(Tryz.prog.info? 4).map (fun i=>(i.zero,i.size,i.bytes))=some (some (.bool false),1,1):=by kernel_rfl
theorem Vq (n:Nat):madeCells (Value.bool false).cells (n * 1)=((List.replicate n false).map Value.bool).toArray:=by
 rw [Nat.mul_one];apply Array.ext
 ·simp [madeCells]
 ·intro i h1 h2;simp [madeCells,Value.cells,Nat.mod_one]
theorem ZR (n:Nat) (hn:n<=1000000000000) (w:World):
 (Instr.makeSlice 140 (.int .i64 (n:Int)) (.int .i64 (n:Int))).run Tryz.prog w= .ok (.slice (some ⟨w.heap.size,0,none⟩) n n) (w.alloc (.cells ((List.replicate n false).map Value.bool).toArray 4)):=by
 obtain ⟨i0,hi0,hz0,hz1,hz2⟩:=zq aK1;have hr:=run_make (P:=Tryz.prog) w 140 4 i0 (.bool false) Tryz.underlying140 hi0 hz0 .i64 .i64 n n (by omega) (by omega) (by rw [hz2]; omega) (by omega);simp only [Int.toNat_natCast] at hr;rw [hz1,Vq] at hr;exact hr
structure AdI (l:List aX) (w:World) (gb sb:Nat) (G S:List Bool):Prop where
 g:oK w gb G
 s:oK w sb S
 gl:G.length=l.length
 sl:S.length=l.length
 lands: ∀k:Nat,G[k]? =some true->mP l k
 sub: ∀k:Nat,S[k]? =some true->G[k]? =some true
theorem UQ {G:List Bool} {k n:Nat} (h:G.length=n) (hk:k < n): ∃q,G[k]? =some q:=⟨G[k],List.getElem?_eq_getElem (by omega)⟩
theorem EU {G:List Bool} {k q:Nat} (hk:k < G.length):(G.set k true)[q]? =some true↔q=k∨G[q]? =some true:=by
 by_cases h:q=k
 ·subst h; simp [hk]
 ·rw [List.getElem?_set_ne (fun e=>h e.symm)]; simp [h]
theorem Q9 {l:List aX} (ho:Hl l) (w:World) (ao:Option Addr) (cap:Nat) (hl:l.length<=1000000000000) (hw:dK jE 6 w w.heap.size l ao 0):
 Calls Tryz.prog 52 #[.slice ao l.length cap] w fun e w'=>e= .returned (.bool (ES l))∧Below w.heap.size w w':=by
 have HO:=ah ho;have HW:=ah hw;obtain ⟨res,hres⟩: ∃r,ES l=r:=⟨_,rfl⟩;have HR:=ah hres;have hmk:=ZR l.length hl;rw [hres];clear ho hw hres;go_enter Tryz.func52,Tryz.ntmps52;go_wp2_with fail;generalize hW:World.alloc (World.alloc w _) _=w2;obtain ⟨gb,hgb⟩: ∃n,w.heap.size=n:=⟨_,rfl⟩;have HB:aj (Below gb w w2):=ah (by rw [<- hW,<- hgb]; exact (ak _ _).alloc (by simp) _);have HRP:aj (((List.replicate l.length false).map Value.bool).toArray=Array.replicate l.length (Value.bool false)):=ah (by simp);have HG:aj (oK w2 gb (List.replicate l.length false)):=ah (by unfold oK; rw [HRP.o,<- hW,<- hgb,heap_alloc_old _ _ (by simp)]; exact heap_alloc_new _ _);have HS:aj (oK w2 (gb + 1) (List.replicate l.length false)):=ah (by have:=heap_alloc_new (w.alloc (.cells (Array.replicate l.length (Value.bool false)) 4)) (.cells (Array.replicate l.length (Value.bool false)) 4);unfold oK; rw [HRP.o,<- hW,<- hgb]; simpa using this);have HF:aj (dK jE 6 w2 gb l ao 0):=ah (by have:=HW.o; rw [hgb] at this; exact this.below HB.o);have uR:=ah hgb;rw [hgb];clear hW hmk HW hgb;go_loopw [5,6,15] (fun _ _ v15 wr=> ∃(k:Nat) (G S:List Bool),v15= .int .i64 k∧k<=l.length∧AdI l wr gb (gb + 1) G S∧dK jE 6 wr gb l ao 0∧Below gb w wr∧(∀j,j < k->mP l j)) (fun _ _ i _=>l.length - (intOf i).toNat)
 case atStart=>exact ⟨0,_,_,rfl,Nat.zero_le _,⟨HG.o,HS.o,by simp,by simp,fun k h=>by simp [List.getElem?_replicate] at h,fun k h=>by simp [List.getElem?_replicate] at h⟩,HF.o,HB.o,fun j h=>by omega⟩
 case round=>
  obtain ⟨k,G,S,rfl,hk,hA,hf,hb,hj⟩:=hrel;have HA:=ah hA;have Bl:=ah hf;have HB1:=ah hb;have HJ:=ah hj;clear hA hf hb hj HG HS HF HB;by_cases hkn:k < l.length
  ·obtain ⟨x0,hx0⟩: ∃x,l[k]? =some x:=⟨l[k],List.getElem?_eq_getElem hkn⟩;obtain ⟨b,off,hao,-,-⟩:=Bl.o.at k x0 hx0;subst hao;clear hx0 x0;go_upto_region 7 with fail;obtain ⟨wI,Lx⟩: ∃W:World,W=wr:=⟨_,rfl⟩;subst Lx;go_loopw [6] (fun v6 wq=> ∃(m:Nat) (S':List Bool),v6= .int .i64 ((nM l k m:Nat):Int)∧(∀t,t < m->mO l (nM l k t)=true)∧(∀t,t < m->G[nM l k t]? =some false)∧oK wq gb G∧oK wq (gb + 1) S'∧S'.length=l.length∧(∀q:Nat,S'[q]? =some true->G[q]? =some true∨ ∃t,t < m∧nM l k t=q)∧dK jE 6 wq gb l (some ⟨b,off,none⟩) 0∧Below gb w wq) (fun _ wq=>Gp wq (gb + 1))
   case atStart=>exact ⟨0,S,rfl,fun t h=>by omega,fun t h=>by omega,HA.o.g,HA.o.s,HA.o.sl,fun q h=> .inl (HA.o.sub q h),Bl.o,HB1.o⟩
   case round=>
    obtain ⟨m,S',rfl,hs1,hs2,hg,hs,hsl,hsub,hf,hb⟩:=hrel;have hcl:=OG HO.o hkn hs1 m (Nat.le_refl _);obtain ⟨c,hc⟩: ∃c,nM l k m=c:=⟨_,rfl⟩;have HC:=ah hc;rw [hc] at hcl;rw [hc];have HP:=ah (And.intro hs1 (And.intro hs2 hsub));have rU:=ah hg;have SY:=ah hs;have HSL:=ah hsl;have J2:=ah hf;have HB2:=ah hb;clear hc hs1 hs2 hsub hg hs hsl hf hb;obtain ⟨x,hx⟩: ∃x,l[c]? =some x:=⟨l[c],List.getElem?_eq_getElem hcl⟩;obtain ⟨hbg,z0,z1⟩:=OI J2.o hx;have Vm:mO l c=nJ x.op:=(by unfold mO; rw [hx]);obtain ⟨q,hq⟩:=UQ HA.o.gl hcl;have y0:=rU.o.cell hq;have c0:(0:Int)<=(c:Int):=(by omega);have c1:(c:Int) < (l.length:Int):=(by omega);have ni:=ah Vm;have HQ:=ah hq;clear hx z1 Vm hq;have hcase:(nJ x.op=false)∨(nJ x.op=true∧q=true)∨(nJ x.op=true∧q=false):=(by cases nJ x.op <;> cases q <;> simp);rcases hcase with hs0 | ⟨hs0,rfl⟩ | ⟨hs0,rfl⟩
    ·have Pe:aj (mP l (nM l k m)):=ah (by rw [HC.o]; exact mP.event hcl (by rw [ni.o,hs0]));have HEX:aj (mO l c=false∨G[c]? =some true):=ah (.inl (by rw [ni.o,hs0]));clear y0;go_wp2_with fail;refine (mJ x.op wr).mono ?_;rintro e w3 ⟨rfl,rfl⟩;rw [hs0];go_upto_region 13 with fail;obtain ⟨wJ,hwJ⟩: ∃W:World,W=wr:=⟨_,rfl⟩;subst hwJ;clear z0
     try clear y0
     go_loopw [6] (fun v6 wz=> ∃(j:Nat) (G':List Bool),v6= .int .i64 ((nM l k j:Nat):Int)∧j<=m∧oK wz gb G'∧oK wz (gb + 1) S'∧G'.length=l.length∧(∀q:Nat,G'[q]? =some true->G[q]? =some true∨ ∃t,t < j∧nM l k t=q)∧(∀q:Nat,G[q]? =some true->G'[q]? =some true)∧(∀t,t < j->G'[nM l k t]? =some true)∧dK jE 6 wz gb l (some ⟨b,off,none⟩) 0∧Below gb w wz) (fun _ wz=>Gp wz gb)
     case atStart=>exact ⟨0,G,rfl,Nat.zero_le _,rU.o,SY.o,HA.o.gl,fun q h=> .inl h,fun q h=>h,fun t h=>by omega,J2.o,HB2.o⟩
     case round=>
      obtain ⟨j,G',rfl,hjm,hg,hs,hgl,h1,h2,h3,hf,hb⟩:=hrel;have hcl':=OG HO.o hkn HP.o.1 j hjm;obtain ⟨c',hc'⟩: ∃c,nM l k j=c:=⟨_,rfl⟩;have Ce:=ah hc';rw [hc'] at hcl';rw [hc'];have Ay:=ah (And.intro h1 (And.intro h2 h3));have zV:=ah hg;have Pw:=ah hs;have xY:=ah hgl;have FT:=ah hf;have HB3:=ah hb;clear hc' h1 h2 h3 hg hs hgl hf hb;obtain ⟨x',hx'⟩: ∃x,l[c']? =some x:=⟨l[c'],List.getElem?_eq_getElem hcl'⟩;obtain ⟨-,Ut,-⟩:=OI FT.o hx';have Lu:mO l c'=nJ x'.op:=(by unfold mO; rw [hx']);obtain ⟨q',hq'⟩:=UQ xY.o hcl';have y0':=zV.o.cell hq';have X9:wr.frozen? ⟨gb,c',none⟩=false:=dH zV.o;have d0:(0:Int)<=(c':Int):=(by omega);have d1:(c':Int) < (l.length:Int):=(by omega);have JH:=ah Lu;have Pt:=ah hq';clear hx' Lu hq';have IX:aj (∀t,t<=m->mP l (nM l k t)):=ah (Pe.o.back HP.o.1);have P5:aj (j=m->AdI l wr gb (gb + 1) G' S'∧ ∀i,i < k + 1->mP l i):=ah (fun e=>⟨⟨zV.o,Pw.o,xY.o,HSL.o,fun q h=>by
       rcases Ay.o.1 q h with h | ⟨t,ht,rfl⟩
       ·exact HA.o.lands q h
       ·exact IX.o t (by omega),fun q h=>by
       rcases HP.o.2.2 q h with h | ⟨t,ht,rfl⟩
       ·exact Ay.o.2.1 q h
       ·exact Ay.o.2.2 t (by omega)⟩,fun i hi=>by
       rcases Nat.lt_succ_iff_lt_or_eq.1 hi with h | rfl
       ·exact HJ.o i h
       ·exact IX.o 0 (Nat.zero_le _)⟩)
      have QA:(nJ x'.op=false)∨(nJ x'.op=true∧q'=true)∨(nJ x'.op=true∧q'=false):=(by cases nJ x'.op <;> cases q' <;> simp);rcases QA with vV | ⟨vV,rfl⟩ | ⟨vV,rfl⟩
      ·have HE:=ah (P5.o (by
        rcases Nat.lt_or_eq_of_le hjm with h | h
        ·exfalso;have:=HP.o.1 j h;rw [Ce.o,JH.o,vV] at this;cases this
        ·exact h))
       clear y0' X9;go_wp2_with fail;refine (mJ x'.op wr).mono ?_;rintro e w3 ⟨rfl,rfl⟩;rw [vV];go_wp2_with fail;go_roundw
       case rel=>exact ⟨k + 1,G',S',by go_num,by omega,HE.o.1,FT.o,HB3.o,HE.o.2⟩
       case measure=>simp [intOf]; omega
      ·have HE:=ah (P5.o (by
        rcases Nat.lt_or_eq_of_le hjm with h | h
        ·exfalso;rcases Ay.o.1 c' Pt.o with h4 | ⟨t,ht,h4⟩
         ·have:=HP.o.2.1 j h;rw [Ce.o,h4] at this; cases this
         ·obtain ⟨f,hf⟩:=IX.o 0 (Nat.zero_le _);have:=MP (l:=l) (s:=k) (j:=j) (fun t ht=>HP.o.1 t (by omega)) ht (by rw [h4,Ce.o]) f 0 (by omega);rw [hf] at this; cases this
        ·exact h))
       go_wp2_with fail;refine (mJ x'.op wr).mono ?_;rintro e w3 ⟨rfl,rfl⟩;rw [vV];go_wp2_with fail;go_roundw
       case rel=>exact ⟨k + 1,G',S',by go_num,by omega,HE.o.1,FT.o,HB3.o,HE.o.2⟩
       case measure=>simp [intOf]; omega
      ·have hjl:j < m:=by
        rcases Nat.lt_or_eq_of_le hjm with h | h
        ·exact h
        ·exfalso;subst h;have e:c'=c:=(by rw [<- Ce.o,HC.o]);subst e;rcases HEX.o with h | h
         ·rw [JH.o,vV] at h; cases h
         ·have:=Ay.o.2.1 _ h;rw [Pt.o] at this; cases this
       have J7:aj (mO l c'=true):=ah (by rw [JH.o,vV]);go_wp2_with fail;refine (mJ x'.op wr).mono ?_;rintro e w3 ⟨rfl,rfl⟩;rw [vV];go_upto_region 14 with fail;generalize hW:World.setCell wr _ _=w4;have FP:aj (Below gb wr w4):=ah (by rw [<- hW]; exact bQ (bL _ _ _) (Nat.le_refl _) (Nat.le_of_lt (Array.getElem?_eq_some_iff.1 zV.o).1));have Fv:aj (oK w4 gb (G'.set c' true)):=ah (by rw [<- hW]; exact zV.o.set c' true);have zK:aj (oK w4 (gb + 1) S'):=ah (by rw [<- hW]; exact Pw.o.far (fun e=>Nat.succ_ne_self _ e.symm) _ _);have Ny:=ah (FT.o.below FP.o);have dO:=ah (HB3.o.trans FP.o);clear hW y0' X9 Ut;go_wp2_with fail;refine (Bb HO.o c' J7.o w4 b off cap hl (Ny.o.mono (Nat.le_of_lt (Array.getElem?_eq_some_iff.1 Fv.o).1))).mono ?_;rintro e w5 ⟨rfl,rfl⟩;go_wp2_with fail;go_roundw
       case rel=>
        refine ⟨j + 1,G'.set c' true,by rw [<- Ce.o]; rfl,by omega,Fv.o,zK.o,by rw [List.length_set]; exact xY.o,fun q hq=> ?_,fun q hq=> ?_,fun t ht=> ?_,Ny.o,dO.o⟩
        ·rcases (EU (by rw [xY.o]; exact hcl')).1 hq with h | h
         ·exact .inr ⟨j,Nat.lt_succ_self _,by rw [Ce.o,h]⟩
         ·rcases Ay.o.1 q h with h | ⟨t,h1,h2⟩
          ·exact .inl h
          ·exact .inr ⟨t,by omega,h2⟩
        ·exact (EU (by rw [xY.o]; exact hcl')).2 (.inr (Ay.o.2.1 q hq))
        ·rcases Nat.lt_succ_iff_lt_or_eq.1 ht with h | rfl
         ·exact (EU (by rw [xY.o]; exact hcl')).2 (.inr (Ay.o.2.2 t h))
         ·rw [Ce.o]; exact (EU (by rw [xY.o]; exact hcl')).2 (.inl rfl)
       case measure=>show Gp w4 gb < Gp wr gb;rw [En Fv.o,En zV.o];have:=Ik G' c' Pt.o;omega
    ·have Pe:aj (mP l (nM l k m)):=ah (by rw [HC.o]; exact HA.o.lands c HQ.o);have HEX:aj (mO l c=false∨G[c]? =some true):=ah (.inr HQ.o);go_wp2_with fail;refine (mJ x.op wr).mono ?_;rintro e w3 ⟨rfl,rfl⟩;rw [hs0];go_upto_region 13 with fail;obtain ⟨wJ,hwJ⟩: ∃W:World,W=wr:=⟨_,rfl⟩;subst hwJ;clear z0
     try clear y0
     go_loopw [6] (fun v6 wz=> ∃(j:Nat) (G':List Bool),v6= .int .i64 ((nM l k j:Nat):Int)∧j<=m∧oK wz gb G'∧oK wz (gb + 1) S'∧G'.length=l.length∧(∀q:Nat,G'[q]? =some true->G[q]? =some true∨ ∃t,t < j∧nM l k t=q)∧(∀q:Nat,G[q]? =some true->G'[q]? =some true)∧(∀t,t < j->G'[nM l k t]? =some true)∧dK jE 6 wz gb l (some ⟨b,off,none⟩) 0∧Below gb w wz) (fun _ wz=>Gp wz gb)
     case atStart=>exact ⟨0,G,rfl,Nat.zero_le _,rU.o,SY.o,HA.o.gl,fun q h=> .inl h,fun q h=>h,fun t h=>by omega,J2.o,HB2.o⟩
     case round=>
      obtain ⟨j,G',rfl,hjm,hg,hs,hgl,h1,h2,h3,hf,hb⟩:=hrel;have hcl':=OG HO.o hkn HP.o.1 j hjm;obtain ⟨c',hc'⟩: ∃c,nM l k j=c:=⟨_,rfl⟩;have Ce:=ah hc';rw [hc'] at hcl';rw [hc'];have Ay:=ah (And.intro h1 (And.intro h2 h3));have zV:=ah hg;have Pw:=ah hs;have xY:=ah hgl;have FT:=ah hf;have HB3:=ah hb;clear hc' h1 h2 h3 hg hs hgl hf hb;obtain ⟨x',hx'⟩: ∃x,l[c']? =some x:=⟨l[c'],List.getElem?_eq_getElem hcl'⟩;obtain ⟨-,Ut,-⟩:=OI FT.o hx';have Lu:mO l c'=nJ x'.op:=(by unfold mO; rw [hx']);obtain ⟨q',hq'⟩:=UQ xY.o hcl';have y0':=zV.o.cell hq';have X9:wr.frozen? ⟨gb,c',none⟩=false:=dH zV.o;have d0:(0:Int)<=(c':Int):=(by omega);have d1:(c':Int) < (l.length:Int):=(by omega);have JH:=ah Lu;have Pt:=ah hq';clear hx' Lu hq';have IX:aj (∀t,t<=m->mP l (nM l k t)):=ah (Pe.o.back HP.o.1);have P5:aj (j=m->AdI l wr gb (gb + 1) G' S'∧ ∀i,i < k + 1->mP l i):=ah (fun e=>⟨⟨zV.o,Pw.o,xY.o,HSL.o,fun q h=>by
       rcases Ay.o.1 q h with h | ⟨t,ht,rfl⟩
       ·exact HA.o.lands q h
       ·exact IX.o t (by omega),fun q h=>by
       rcases HP.o.2.2 q h with h | ⟨t,ht,rfl⟩
       ·exact Ay.o.2.1 q h
       ·exact Ay.o.2.2 t (by omega)⟩,fun i hi=>by
       rcases Nat.lt_succ_iff_lt_or_eq.1 hi with h | rfl
       ·exact HJ.o i h
       ·exact IX.o 0 (Nat.zero_le _)⟩)
      have QA:(nJ x'.op=false)∨(nJ x'.op=true∧q'=true)∨(nJ x'.op=true∧q'=false):=(by cases nJ x'.op <;> cases q' <;> simp);rcases QA with vV | ⟨vV,rfl⟩ | ⟨vV,rfl⟩
      ·have HE:=ah (P5.o (by
        rcases Nat.lt_or_eq_of_le hjm with h | h
        ·exfalso;have:=HP.o.1 j h;rw [Ce.o,JH.o,vV] at this;cases this
        ·exact h))
       clear y0' X9;go_wp2_with fail;refine (mJ x'.op wr).mono ?_;rintro e w3 ⟨rfl,rfl⟩;rw [vV];go_wp2_with fail;go_roundw
       case rel=>exact ⟨k + 1,G',S',by go_num,by omega,HE.o.1,FT.o,HB3.o,HE.o.2⟩
       case measure=>simp [intOf]; omega
      ·have HE:=ah (P5.o (by
        rcases Nat.lt_or_eq_of_le hjm with h | h
        ·exfalso;rcases Ay.o.1 c' Pt.o with h4 | ⟨t,ht,h4⟩
         ·have:=HP.o.2.1 j h;rw [Ce.o,h4] at this; cases this
         ·obtain ⟨f,hf⟩:=IX.o 0 (Nat.zero_le _);have:=MP (l:=l) (s:=k) (j:=j) (fun t ht=>HP.o.1 t (by omega)) ht (by rw [h4,Ce.o]) f 0 (by omega);rw [hf] at this; cases this
        ·exact h))
       go_wp2_with fail;refine (mJ x'.op wr).mono ?_;rintro e w3 ⟨rfl,rfl⟩;rw [vV];go_wp2_with fail;go_roundw
       case rel=>exact ⟨k + 1,G',S',by go_num,by omega,HE.o.1,FT.o,HB3.o,HE.o.2⟩
       case measure=>simp [intOf]; omega
      ·have hjl:j < m:=by
        rcases Nat.lt_or_eq_of_le hjm with h | h
        ·exact h
        ·exfalso;subst h;have e:c'=c:=(by rw [<- Ce.o,HC.o]);subst e;rcases HEX.o with h | h
         ·rw [JH.o,vV] at h; cases h
         ·have:=Ay.o.2.1 _ h;rw [Pt.o] at this; cases this
       have J7:aj (mO l c'=true):=ah (by rw [JH.o,vV]);go_wp2_with fail;refine (mJ x'.op wr).mono ?_;rintro e w3 ⟨rfl,rfl⟩;rw [vV];go_upto_region 14 with fail;generalize hW:World.setCell wr _ _=w4;have FP:aj (Below gb wr w4):=ah (by rw [<- hW]; exact bQ (bL _ _ _) (Nat.le_refl _) (Nat.le_of_lt (Array.getElem?_eq_some_iff.1 zV.o).1));have Fv:aj (oK w4 gb (G'.set c' true)):=ah (by rw [<- hW]; exact zV.o.set c' true);have zK:aj (oK w4 (gb + 1) S'):=ah (by rw [<- hW]; exact Pw.o.far (fun e=>Nat.succ_ne_self _ e.symm) _ _);have Ny:=ah (FT.o.below FP.o);have dO:=ah (HB3.o.trans FP.o);clear hW y0' X9 Ut;go_wp2_with fail;refine (Bb HO.o c' J7.o w4 b off cap hl (Ny.o.mono (Nat.le_of_lt (Array.getElem?_eq_some_iff.1 Fv.o).1))).mono ?_;rintro e w5 ⟨rfl,rfl⟩;go_wp2_with fail;go_roundw
       case rel=>
        refine ⟨j + 1,G'.set c' true,by rw [<- Ce.o]; rfl,by omega,Fv.o,zK.o,by rw [List.length_set]; exact xY.o,fun q hq=> ?_,fun q hq=> ?_,fun t ht=> ?_,Ny.o,dO.o⟩
        ·rcases (EU (by rw [xY.o]; exact hcl')).1 hq with h | h
         ·exact .inr ⟨j,Nat.lt_succ_self _,by rw [Ce.o,h]⟩
         ·rcases Ay.o.1 q h with h | ⟨t,h1,h2⟩
          ·exact .inl h
          ·exact .inr ⟨t,by omega,h2⟩
        ·exact (EU (by rw [xY.o]; exact hcl')).2 (.inr (Ay.o.2.1 q hq))
        ·rcases Nat.lt_succ_iff_lt_or_eq.1 ht with h | rfl
         ·exact (EU (by rw [xY.o]; exact hcl')).2 (.inr (Ay.o.2.2 t h))
         ·rw [Ce.o]; exact (EU (by rw [xY.o]; exact hcl')).2 (.inl rfl)
       case measure=>show Gp w4 gb < Gp wr gb;rw [En Fv.o,En zV.o];have:=Ik G' c' Pt.o;omega
    ·obtain ⟨p,hp⟩:=UQ HSL.o hcl;have y1:=SY.o.cell hp;have f1:wr.frozen? ⟨gb + 1,c,none⟩=false:=dH SY.o;have HPP:=ah hp;clear hp;cases p
     ·go_wp2_with fail;refine (mJ x.op wr).mono ?_;rintro e w3 ⟨rfl,rfl⟩;rw [hs0];go_upto_region 11 with fail;generalize hW:World.setCell wr _ _=w4;have FP:aj (Below gb wr w4):=ah (by rw [<- hW]; exact bQ (bL _ _ _) (Nat.le_succ _) (Nat.le_of_lt (Array.getElem?_eq_some_iff.1 rU.o).1));have Fv:aj (oK w4 gb G):=ah (by rw [<- hW]; exact rU.o.far (Nat.succ_ne_self _) _ _);have zK:aj (oK w4 (gb + 1) (S'.set c true)):=ah (by rw [<- hW]; exact SY.o.set c true);have Ny:=ah (J2.o.below FP.o);have dO:=ah (HB2.o.trans FP.o);have J7:aj (mO l c=true):=ah (by rw [ni.o,hs0]);clear hW y0 y1 f1 z0;go_wp2_with fail;refine (Bb HO.o c J7.o w4 b off cap hl (Ny.o.mono (Nat.le_of_lt (Array.getElem?_eq_some_iff.1 Fv.o).1))).mono ?_;rintro e w5 ⟨rfl,rfl⟩;go_wp2_with fail;go_roundw
      case rel=>
       refine ⟨m + 1,S'.set c true,by rw [<- HC.o]; rfl,fun t ht=> ?_,fun t ht=> ?_,Fv.o,zK.o,by rw [List.length_set]; exact HSL.o,fun q hq=> ?_,Ny.o,dO.o⟩
       ·rcases Nat.lt_succ_iff_lt_or_eq.1 ht with h | rfl
        ·exact HP.o.1 t h
        ·rw [HC.o]; exact J7.o
       ·rcases Nat.lt_succ_iff_lt_or_eq.1 ht with h | rfl
        ·exact HP.o.2.1 t h
        ·rw [HC.o]; exact HQ.o
       ·rcases (EU (by rw [HSL.o]; exact hcl)).1 hq with h | h
        ·exact .inr ⟨m,Nat.lt_succ_self _,by rw [HC.o,h]⟩
        ·rcases HP.o.2.2 q h with h | ⟨t,h1,h2⟩
         ·exact .inl h
         ·exact .inr ⟨t,by omega,h2⟩
      case measure=>show Gp w4 (gb + 1) < Gp wr (gb + 1);rw [En zK.o,En SY.o];have:=Ik S' c HPP.o;omega
     ·have HT:aj (res=false):=ah (by
       cases hres:res
       ·rfl
       ·exfalso;obtain ⟨f,hf⟩:=(MI HO.o).1 (by rw [HR.o,hres]) k hkn;rcases HP.o.2.2 c HPP.o with h | ⟨t,h1,h2⟩
        ·rw [HQ.o] at h; cases h
        ·have:=MP (l:=l) (s:=k) (j:=m) HP.o.1 h1 (by rw [h2,HC.o]) f 0 (by omega);rw [show nM l k 0=k from rfl,hf] at this;cases this)
      go_wp2_with fail;refine (mJ x.op wr).mono ?_;rintro e w3 ⟨rfl,rfl⟩;rw [hs0];go_wp2_with fail;go_ret;exact ⟨by rw [HT.o]; rfl,by rw [uR.o]; exact HB2.o⟩
  ·obtain rfl:k=l.length:=by omega
   have HT:aj (res=true):=ah (by rw [<- HR.o]; exact (MI HO.o).2 HJ.o);go_wp2_with fail;go_ret;exact ⟨by rw [HT.o]; rfl,by rw [uR.o]; exact HB1.o⟩
theorem TQ {W:Wo} {th n regs:Int} : ∀ {l:List aX} {k:Int},uO W th n regs k l=true-> ∀(j:Nat) (i:aX),l[j]? =some i->zQ W th n regs (k + j) i=true
 | [],_,_,j,i,h=>by simp at h
 | x ::r,k,h,j,i,hj=>by
   rw [uO,Bool.and_eq_true] at h;cases j with
   | zero=>simp at hj; subst hj;rw [show k + ((0:Nat):Int)=k by omega]; exact h.1
   | succ j=>have:=TQ h.2 j i (by simpa using hj);rw [show k + ((j + 1:Nat):Int)=k + 1 + (j:Nat) by omega]; exact this
theorem ak1 {W:Wo} {th regs:Int} {l:List aX} (h:uO W th l.length regs 0 l=true):Hl l:=fun k i hk hs=>by
 have hi:=TQ h k i hk;have hlt:=(List.getElem?_eq_some_iff.1 hk).1;unfold zQ at hi;simp only [Bool.and_eq_true] at hi;obtain ⟨⟨-,he⟩,-,-,ho⟩:=hi;unfold nJ at hs;simp only [Bool.and_eq_true,decide_eq_true_eq] at hs;have h28:(i.op == 28)=false:=by rw [beq_eq_false_iff_ne]; omega
 rw [h28] at he;have hne: ¬ ((0:Int) + (k:Nat)=(l.length:Int) - 1):=by intro e;rw [e] at he;simp at he
 have hn:vo l k=if i.op == 5 then i.a.toNat else k + 1:=by unfold vo; rw [hk]
 rw [hn];by_cases h5:i.op=5
 ·have hw:jl i.a l.length=true:=by unfold jV at ho;simpa [h5] using ho
  unfold jl at hw;simp only [Bool.and_eq_true,decide_eq_true_eq] at hw;exact ⟨fun _=>hw.1,by simp [h5]; omega⟩
 ·exact ⟨fun e=>absurd e h5,by simp [h5]; omega⟩
theorem Mf (W:Wo) (s:jM) (th:Int) (t:xg) (dU:Option Addr) (dG:Nat) (w:World) (hw:gN w w.heap.size W s) (hf:dK jE 6 w w.heap.size t.is dU 0) (hl:t.is.length<=1000000000000) (hI: ∀i ∈ t.is,∀r ∈ dI i,bS r):
 Calls Tryz.prog 29 #[pY W s,.int .i64 th,.agg #[.int .i64 t.regs,.slice dU t.is.length dG]] w fun e w'=>e= .returned (.bool (Me W th t))∧Below w.heap.size w w':=by
 obtain ⟨regs,l⟩:=t;have HW:=ah hw;have HF0:aj (dK jE 6 w w.heap.size l dU 0):=ah hf;have HI0:aj (∀i ∈ l,∀r ∈ dI i,bS r):=ah hI;have hls:=hw.lS;unfold maxLen at hls;have hl:l.length<=1000000000000:=hl;obtain ⟨res,hres⟩: ∃r,Me W th ⟨regs,l⟩=r:=⟨_,rfl⟩;have HR:=ah hres;rw [hres];clear hw hf hI hres;dsimp only;unfold pY;go_enter Tryz.func29,Tryz.ntmps29;go_upto_region 1 with fail;generalize hW:World.alloc (World.alloc w _) _=W1;obtain ⟨nb,hnb⟩: ∃n,w.heap.size=n:=⟨_,rfl⟩;have HB:aj (Below w.heap.size w W1):=ah (by rw [<- hW]; exact (ak _ _).alloc (by simp) _);have Bu:aj (W1.heap[nb]? =some (.cells #[.slice s.aC W.cs.length s.cC,.slice s.aL W.ls.length s.cL,.slice s.aN W.ns.length s.cN,.slice s.aF W.fs.length s.cF,.slice s.aT W.ts.length s.cT,.slice s.aS W.ss.length s.cS] 34 (0,0))):=ah (by rw [<- hW,<- hnb,heap_alloc_old _ _ (by simp)]; exact heap_alloc_new _ _);have sN:aj (W1.heap[nb + 1]? =some (.cells #[.int .i64 regs,.slice dU l.length dG] 50 (0,0))):=ah (by have:=heap_alloc_new (w.alloc (.cells #[.slice s.aC W.cs.length s.cC,.slice s.aL W.ls.length s.cL,.slice s.aN W.ns.length s.cN,.slice s.aF W.fs.length s.cF,.slice s.aT W.ts.length s.cT,.slice s.aS W.ss.length s.cS] 34)) (.cells #[.int .i64 regs,.slice dU l.length dG] 50);rw [<- hW,<- hnb]; simpa using this);have fD:aj (w.heap.size=nb):=ah hnb;have pO:aj (W1.heap.size=nb + 2):=ah (by rw [<- hW,<- hnb]; simp);have Wx:aj (gN W1 nb W s):=ah (by have:=HW.o.below HB.o; rw [hnb] at this; exact this);have HFF:aj (dK jE 6 W1 nb l dU 0):=ah (by have:=HF0.o.below HB.o; rw [hnb] at this; exact this);have HB0:aj (Below nb w W1):=ah (by have:=HB.o; rw [hnb] at this; exact this);rw [hnb];clear hW hnb HW HF0 HB;have t0:=au (j:=0) sN.o rfl;have t1:=au (j:=1) sN.o rfl;simp only [List.getElem_toArray,List.getElem_cons_zero,List.getElem_cons_succ] at t0 t1;by_cases hA:regs < 0∨32 < regs∨l.length=0
 ·have HT:aj (res=false):=ah (by rw [<- HR.o]; unfold Me; rw [if_pos];rcases hA with h | h | h <;> simp [h]);rcases hA with h | h | h
  ·go_wp2_with fail;go_ret;exact ⟨by rw [HT.o]; rfl,by rw [fD.o]; exact HB0.o⟩
  ·have h': ¬ regs < 0:=by omega
   go_wp2_with fail;go_ret;exact ⟨by rw [HT.o]; rfl,by rw [fD.o]; exact HB0.o⟩
  ·by_cases h1:regs < 0
   ·go_wp2_with fail;go_ret;exact ⟨by rw [HT.o]; rfl,by rw [fD.o]; exact HB0.o⟩
   ·by_cases h2:32 < regs
    ·go_wp2_with fail;go_ret;exact ⟨by rw [HT.o]; rfl,by rw [fD.o]; exact HB0.o⟩
    ·go_wp2_with fail;go_ret;exact ⟨by rw [HT.o]; rfl,by rw [fD.o]; exact HB0.o⟩
 ·have hA1: ¬ regs < 0:=by omega
  have hA2: ¬ 32 < regs:=by omega
  have hA3:l.length≠0:=by omega
  have hA4:((l.length:Int) == 0)=false:=by rw [beq_eq_false_iff_ne]; omega
  have HR2:aj (res=(uO W th l.length regs 0 l && ES l)):=ah (by rw [<- HR.o]; unfold Me; rw [if_neg];simp [hA1,hA2,hA3]);clear hA HR;go_wp2_with fail;go_loopw [7,8,10,28,78,79,80] (fun _ _ _ v28 _ _ _ wr=> ∃(k:Nat) (R:List aX),v28= .int .i64 k∧k + R.length=l.length∧uO W th l.length regs 0 l=uO W th l.length regs k R∧dK jE 6 wr nb R dU k∧(∀i ∈ R,∀r ∈ dI i,bS r)∧Below (nb + 2) W1 wr) (fun _ _ _ v _ _ _ _=>l.length - (intOf v).toNat)
  case atStart=>exact ⟨0,l,rfl,by simp,rfl,HFF.o,HI0.o,Below.refl _ _⟩
  case round=>
   obtain ⟨k,R,rfl,hlen,heq,hrow,hi,hbel⟩:=hrel;have HE:=ah heq;have kg:=ah hbel;have wU:=ah hi;have G6:=ah ((kg.o.block nb (by omega)).trans Bu.o);have UH:=ah ((kg.o.block (nb + 1) (by omega)).trans sN.o);have vI:aj (Below nb w wr):=ah (HB0.o.trans (kg.o.mono (by omega)));have J9:aj (gN wr nb W s):=ah (Wx.o.below (kg.o.mono (by omega)));have kE:aj (nb + 2<=wr.heap.size):=ah (by have h1:=kg.o.size; have h2:=pO.o; omega);clear heq hbel hi t0 t1;have t0:=au (j:=0) UH.o rfl;have t1:=au (j:=1) UH.o rfl;have g0:=au (j:=0) G6.o rfl;have g1:=au (j:=1) G6.o rfl;have g2:=au (j:=2) G6.o rfl;have g3:=au (j:=3) G6.o rfl;have g4:=au (j:=4) G6.o rfl;have g5:=au (j:=5) G6.o rfl;simp only [List.getElem_toArray,List.getElem_cons_zero,List.getElem_cons_succ] at t0 t1 g0 g1 g2 g3 g4 g5;cases R with
   | nil=>obtain rfl:k=l.length:=(by simpa using hlen);have HT:aj (uO W th l.length regs 0 l=true):=ah HE.o;have HT2:aj (res=ES l):=ah (by rw [HR2.o,HT.o]; rfl);go_wp2_with fail;refine (Q9 (ak1 HT.o) wr dU dG hl ((HFF.o.below (kg.o.mono (by omega))).mono (by have:=kE.o; omega))).mono ?_;rintro e w3 ⟨rfl,hb3⟩;go_wp2_with fail;go_ret;exact ⟨by rw [HT2.o]; rfl,by rw [fD.o]; exact vI.o.trans (hb3.mono (by have:=kE.o; omega))⟩
   | cons x R=>
     obtain ⟨⟨b1,off,rfl,hb1,hcs⟩,hrest⟩:=hrow;simp only [List.length_cons] at hlen;have hkl:k < l.length:=(by omega);have x0:=hcs 0 _ rfl;have x1:=hcs 1 _ rfl;have x2:=hcs 2 _ rfl;have x3:=hcs 3 _ rfl;have x4:=hcs 4 _ rfl;have x5:=hcs 5 _ rfl;simp only [Nat.add_zero] at x0;have ko:=ah hrest;have Ea:=ah (And.intro (wU.o x List.mem_cons_self) (fun i hi=>wU.o i (List.mem_cons_of_mem _ hi)));have yU:aj (uO W th l.length regs 0 l=(zQ W th l.length regs k x && uO W th l.length regs ((k:Int) + 1) R)):=ah HE.o;clear hcs hrest HE wU;go_upto_region 6 with fail;generalize hW2:World.alloc wr _=w2;obtain ⟨ib,hib⟩: ∃n,wr.heap.size=n:=⟨_,rfl⟩;have HB2:aj (Below wr.heap.size wr w2):=ah (by rw [<- hW2]; exact ak _ _);have G7:aj (w2.heap[ib]? =some (.cells (jE x).toArray 52 (0,0))):=ah (by rw [<- hW2,<- hib]; exact heap_alloc_new _ _);have SG:=ah hib;rw [hib];clear hW2 hib x0 x1 x2 x3 x4 x5 t0 t1 g0 g1 g2 g3 g4 g5;have DJ:=ah ((HB2.o.block nb (Array.getElem?_eq_some_iff.1 G6.o).1).trans G6.o);have MF:=ah ((HB2.o.block (nb + 1) (Array.getElem?_eq_some_iff.1 UH.o).1).trans UH.o);have EL:aj (Below nb w w2):=ah (vI.o.trans (HB2.o.mono (by have:=kE.o; omega)));have HWi:aj (gN w2 nb W s):=ah (J9.o.below (HB2.o.mono (by have:=kE.o; omega)));have DF:aj (Below (nb + 2) W1 w2):=ah (kg.o.trans (HB2.o.mono kE.o));have UG:aj (dK jE 6 w2 nb R (some ⟨b1,off,none⟩) (k + 1)):=ah (ko.o.below (HB2.o.mono (by have:=kE.o; omega)));have t0:=au (j:=0) MF.o rfl;have t1:=au (j:=1) MF.o rfl;have g0:=au (j:=0) DJ.o rfl;have g1:=au (j:=1) DJ.o rfl;have g2:=au (j:=2) DJ.o rfl;have g3:=au (j:=3) DJ.o rfl;have g4:=au (j:=4) DJ.o rfl;have g5:=au (j:=5) DJ.o rfl;have x0:w2.cell? ⟨ib,0,none⟩=some (.int .i64 x.op):=au G7.o rfl;have x1:w2.cell? ⟨ib,1,none⟩=some (.int .i64 x.a):=au G7.o rfl;have x2:w2.cell? ⟨ib,2,none⟩=some (.int .i64 x.b):=au G7.o rfl;have x3:w2.cell? ⟨ib,3,none⟩=some (.int .i64 x.c):=au G7.o rfl;have x4:w2.cell? ⟨ib,4,none⟩=some (.int .i64 x.n):=au G7.o rfl;have x5:w2.cell? ⟨ib,5,none⟩=some (.int .i64 x.st):=au G7.o rfl;simp only [List.getElem_toArray,List.getElem_cons_zero,List.getElem_cons_succ] at t0 t1 g0 g1 g2 g3 g4 g5;have hwn:IntKind.i64.wrap ((l.length:Int) - 1)=(l.length:Int) - 1:=IntWalk.i64_in _ (by omega);have Da:aj (zQ W th l.length regs k x=false->res=false):=ah (fun h=>by rw [HR2.o,yU.o,h]; rfl);by_cases h1:x.op < 1
     ·have HT:aj (res=false):=ah (Da.o (by unfold zQ; simp [show ¬ (1<=x.op) by omega]));go_wp2_with fail;go_ret;exact ⟨by rw [HT.o]; rfl,by rw [fD.o]; exact EL.o⟩
     ·by_cases h2:28 < x.op
      ·have HT:aj (res=false):=ah (Da.o (by unfold zQ; simp [show ¬ (x.op<=28) by omega]));go_wp2_with fail;go_ret;exact ⟨by rw [HT.o]; rfl,by rw [fD.o]; exact EL.o⟩
      ·obtain ⟨e28,QC⟩: ∃q,(x.op == 28)=q:=⟨_,rfl⟩;obtain ⟨ek,hek⟩: ∃q,((k:Int) == (l.length:Int) - 1)=q:=⟨_,rfl⟩;by_cases hq:e28=ek
       ·subst hq;have fu:aj (zQ W th l.length regs k x=(FH W th x && ((dI x).all (fun r=>jl r regs) && jV W l.length x))):=ah (by unfold zQ; rw [QC,hek]; simp [show 1<=x.op by omega,show x.op<=28 by omega]);have Uz:=ah QC;cases e28
        ·cases hwi:jl x.st W.ss.length
         ·have SX:aj (zQ W th l.length regs k x=false):=ah (by rw [fu.o]; unfold FH; rw [Uz.o,hwi]; simp);have HT:aj (res=false):=ah (Da.o SX.o);go_wp2_with fail;refine (kY hwi w2).mono ?_;rintro e w3 ⟨rfl,rfl⟩;go_wp2_with fail;go_ret;exact ⟨by rw [HT.o]; rfl,by rw [fD.o]; exact EL.o⟩
         ·obtain ⟨js,sx,hjs,hjl,hsx⟩:=IK hwi;obtain ⟨b5,bt9,aA3,hb5,aB1⟩:=HWi.o.ss.at js sx hsx;have z0:=aB1 0 _ rfl;simp only [Nat.zero_add,Nat.add_zero] at z0;rw [aA3] at g5;have j0:(0:Int)<=(js:Int):=(by omega);have j1:(js:Int) < (W.ss.length:Int):=(by omega);have dF:aj (FH W th x=(sx.th == th)):=ah (by unfold FH; rw [Uz.o,hwi,hjs]; simp [hsx]);rw [hjs] at x5 hwi;clear aB1 hjs hsx aA3;cases hth:(sx.th == th)
          ·have HT:aj (res=false):=ah (Da.o (by rw [fu.o,dF.o,hth]; rfl));go_wp2_with fail;refine (kY hwi w2).mono ?_;rintro e w3 ⟨rfl,rfl⟩;go_wp2_with fail;go_ret;exact ⟨by rw [HT.o]; rfl,by rw [fD.o]; exact EL.o⟩
          ·have ni:aj (FH W th x=true):=ah (by rw [dF.o,hth]);go_wp2_with fail;refine (kY hwi w2).mono ?_;rintro e w3 ⟨rfl,rfl⟩;clear hwi;go_upto_region 13 with fail;clear hth z0 j0 j1 hb5 hjl x5;have x5:w2.cell? ⟨ib,5,none⟩=some (.int .i64 x.st):=au G7.o rfl;clear hek QC h1 h2 hwn
           try clear g5
           clear t0 t1 g0 g1 g2 g3 g4;have JD:aj (zQ W th l.length regs k x=((dI x).all (fun r=>jl r regs) && jV W l.length x)):=ah (by rw [fu.o,ni.o]; rfl);go_wp2_with fail;refine (Gt x w2 Ea.o.1).mono ?_;rintro e w3 ⟨Qb,Gm,rfl,hin,hb3,-⟩;have YH:=ah hin;have HB3:=ah hb3;have Jw:aj (Below nb w w3):=ah (EL.o.trans (hb3.mono (by have h1:=kE.o; have h2:=HB2.o.size; omega)));have zY:=ah ((hb3.block nb (Array.getElem?_eq_some_iff.1 DJ.o).1).trans DJ.o);have Pz:=ah ((hb3.block (nb + 1) (Array.getElem?_eq_some_iff.1 MF.o).1).trans MF.o);have zZ:=ah ((hb3.block ib (Array.getElem?_eq_some_iff.1 G7.o).1).trans G7.o);have HWq:aj (gN w3 w3.heap.size W s):=ah ((HWi.o.below (hb3.mono (by have h1:=kE.o; have h2:=HB2.o.size; omega))).mono (by have h1:=kE.o; have h2:=HB2.o.size; have h3:=hb3.size; omega));have Mv:aj (dK jE 6 w3 nb R (some ⟨b1,off,none⟩) (k + 1)):=ah (UG.o.below (hb3.mono (by have h1:=kE.o; have h2:=HB2.o.size; omega)));have Ca:aj (Below (nb + 2) W1 w3):=ah (DF.o.trans (hb3.mono (by have h1:=kE.o; have h2:=HB2.o.size; omega)));have Pd:aj ((dI x).length<=3):=ah (by unfold dI; (repeat' split) <;> simp);clear hin hb3 x0 x1 x2 x3 x4 x5;have E9:aj ((dI x).all (fun r=>jl r regs)=(dI x).all (fun r=>jl r regs)):=ah rfl;obtain ⟨al,hal⟩: ∃q,(dI x).all (fun r=>jl r regs)=q:=⟨_,rfl⟩;have jA:=ah hal;rw [hal] at JD;clear hal E9;generalize dI x=rs at *;go_wp2_with fail;obtain ⟨wI,Lx⟩: ∃W:World,W=wr:=⟨_,rfl⟩;subst Lx;go_loopw [10,80] (fun _ i wq=> ∃(j:Nat) (S:List Int),i= .int .i64 j∧j + S.length=rs.length∧al=S.all (fun r=>jl r regs)∧fM wq wq.heap.size S Qb j∧wq=w3) (fun _ i _=>rs.length - (intOf i).toNat)
           case atStart=>exact ⟨0,rs,rfl,by simp,jA.o.symm,YH.o,rfl⟩
           case round=>
            obtain ⟨j,S,rfl,uo,heq2,hin2,rfl⟩:=hrel;have HQ:=ah heq2;have h3:=Pd.o;have t0:wr.cell? ⟨nb + 1,0,none⟩=some (.int .i64 regs):=au Pz.o rfl;have t1:wr.cell? ⟨nb + 1,1,none⟩=some (.slice (some ⟨b1,off,none⟩) l.length dG):=au Pz.o rfl;clear heq2;cases S with
            | nil=>
              obtain rfl:j=rs.length:=(by simpa using uo);have HA1:aj (al=true):=ah HQ.o;have P9:aj (zQ W th l.length regs k x=jV W l.length x):=ah (by rw [JD.o,HA1.o]; rfl);have g0:=au (j:=0) zY.o rfl;have g1:=au (j:=1) zY.o rfl;have g2:=au (j:=2) zY.o rfl;have g3:=au (j:=3) zY.o rfl;have g4:=au (j:=4) zY.o rfl;have g5:=au (j:=5) zY.o rfl;simp only [List.getElem_toArray,List.getElem_cons_zero,List.getElem_cons_succ] at g0 g1 g2 g3 g4 g5;have x0:wr.cell? ⟨ib,0,none⟩=some (.int .i64 x.op):=au zZ.o rfl;have x1:wr.cell? ⟨ib,1,none⟩=some (.int .i64 x.a):=au zZ.o rfl;have x2:wr.cell? ⟨ib,2,none⟩=some (.int .i64 x.b):=au zZ.o rfl;have x3:wr.cell? ⟨ib,3,none⟩=some (.int .i64 x.c):=au zZ.o rfl;have x4:wr.cell? ⟨ib,4,none⟩=some (.int .i64 x.n):=au zZ.o rfl;have x5:wr.cell? ⟨ib,5,none⟩=some (.int .i64 x.st):=au zZ.o rfl;go_wp2_with fail;refine (BJ W s l.length x wr HWq.o).mono ?_;rintro e w4 ⟨rfl,hb4⟩;have dO:=ah hb4;have Jy:aj (Below nb w w4):=ah (Jw.o.trans (hb4.mono (by have h1:=kE.o; have h2:=HB2.o.size; have h4:=HB3.o.size; omega)));have zK:aj (nb + 2<=wr.heap.size):=ah (by have h1:=kE.o; have h2:=HB2.o.size; have h4:=HB3.o.size; omega);clear hb4 g0 g1 g2 g3 g4 g5 x0 x1 x2 x3 x4 x5 t0 t1;cases ho:jV W l.length x
              ·have HT:aj (res=false):=ah (Da.o (by rw [P9.o,ho]));go_wp2_with fail;go_ret;exact ⟨by rw [HT.o]; rfl,by rw [fD.o]; exact Jy.o⟩
              ·have HEE:aj (uO W th l.length regs 0 l=uO W th l.length regs ((k:Int) + 1) R):=ah (by rw [yU.o,P9.o,ho]; rfl);go_wp2_with fail;go_roundw
               case rel=>exact ⟨k + 1,R,by go_num,by omega,HEE.o,Mv.o.below (dO.o.mono (by have:=zK.o; omega)),Ea.o.2,Ca.o.trans (dO.o.mono zK.o)⟩
               case measure=>simp [intOf]; omega
            | cons r S=>
              obtain ⟨⟨b4,Rk,Qx,hb4,y0⟩,vU⟩:=hin2;subst Qx;simp only [List.length_cons] at uo;have hjl:j < rs.length:=(by omega);have HR4:=ah vU;have yZ:aj (al=(jl r regs && S.all (fun r=>jl r regs))):=ah (by rw [HQ.o,List.all_cons]);clear vU HQ;cases hwr:jl r regs
              ·have HT:aj (res=false):=ah (Da.o (by rw [JD.o,yZ.o,hwr]; rfl));go_wp2_with fail;refine (kY hwr wr).mono ?_;rintro e w5 ⟨rfl,rfl⟩;go_wp2_with fail;go_ret;exact ⟨by rw [HT.o]; rfl,by rw [fD.o]; exact Jw.o⟩
              ·have zJ:aj (al=S.all (fun r=>jl r regs)):=ah (by rw [yZ.o,hwr]; rfl);go_wp2_with fail;refine (kY hwr wr).mono ?_;rintro e w5 ⟨rfl,rfl⟩;go_wp2_with fail;go_roundw
               case rel=>exact ⟨j + 1,S,by go_num,by omega,zJ.o,HR4.o,trivial⟩
               case measure=>simp [intOf]; omega
        ·cases hst:(x.st == -1)
         ·have HT:aj (res=false):=ah (Da.o (by rw [fu.o]; unfold FH; rw [Uz.o,hst]; rfl));go_wp2_with fail;go_ret;exact ⟨by rw [HT.o]; rfl,by rw [fD.o]; exact EL.o⟩
         ·have ni:aj (FH W th x=true):=ah (by unfold FH; rw [Uz.o,hst]; rfl);go_upto_region 13 with fail;clear hst;clear hek QC h1 h2 hwn
          try clear g5
          clear t0 t1 g0 g1 g2 g3 g4;have JD:aj (zQ W th l.length regs k x=((dI x).all (fun r=>jl r regs) && jV W l.length x)):=ah (by rw [fu.o,ni.o]; rfl);go_wp2_with fail;refine (Gt x w2 Ea.o.1).mono ?_;rintro e w3 ⟨Qb,Gm,rfl,hin,hb3,-⟩;have YH:=ah hin;have HB3:=ah hb3;have Jw:aj (Below nb w w3):=ah (EL.o.trans (hb3.mono (by have h1:=kE.o; have h2:=HB2.o.size; omega)));have zY:=ah ((hb3.block nb (Array.getElem?_eq_some_iff.1 DJ.o).1).trans DJ.o);have Pz:=ah ((hb3.block (nb + 1) (Array.getElem?_eq_some_iff.1 MF.o).1).trans MF.o);have zZ:=ah ((hb3.block ib (Array.getElem?_eq_some_iff.1 G7.o).1).trans G7.o);have HWq:aj (gN w3 w3.heap.size W s):=ah ((HWi.o.below (hb3.mono (by have h1:=kE.o; have h2:=HB2.o.size; omega))).mono (by have h1:=kE.o; have h2:=HB2.o.size; have h3:=hb3.size; omega));have Mv:aj (dK jE 6 w3 nb R (some ⟨b1,off,none⟩) (k + 1)):=ah (UG.o.below (hb3.mono (by have h1:=kE.o; have h2:=HB2.o.size; omega)));have Ca:aj (Below (nb + 2) W1 w3):=ah (DF.o.trans (hb3.mono (by have h1:=kE.o; have h2:=HB2.o.size; omega)));have Pd:aj ((dI x).length<=3):=ah (by unfold dI; (repeat' split) <;> simp);clear hin hb3 x0 x1 x2 x3 x4 x5;have E9:aj ((dI x).all (fun r=>jl r regs)=(dI x).all (fun r=>jl r regs)):=ah rfl;obtain ⟨al,hal⟩: ∃q,(dI x).all (fun r=>jl r regs)=q:=⟨_,rfl⟩;have jA:=ah hal;rw [hal] at JD;clear hal E9;generalize dI x=rs at *;go_wp2_with fail;obtain ⟨wI,Lx⟩: ∃W:World,W=wr:=⟨_,rfl⟩;subst Lx;go_loopw [10,80] (fun _ i wq=> ∃(j:Nat) (S:List Int),i= .int .i64 j∧j + S.length=rs.length∧al=S.all (fun r=>jl r regs)∧fM wq wq.heap.size S Qb j∧wq=w3) (fun _ i _=>rs.length - (intOf i).toNat)
          case atStart=>exact ⟨0,rs,rfl,by simp,jA.o.symm,YH.o,rfl⟩
          case round=>
           obtain ⟨j,S,rfl,uo,heq2,hin2,rfl⟩:=hrel;have HQ:=ah heq2;have h3:=Pd.o;have t0:wr.cell? ⟨nb + 1,0,none⟩=some (.int .i64 regs):=au Pz.o rfl;have t1:wr.cell? ⟨nb + 1,1,none⟩=some (.slice (some ⟨b1,off,none⟩) l.length dG):=au Pz.o rfl;clear heq2;cases S with
           | nil=>
             obtain rfl:j=rs.length:=(by simpa using uo);have HA1:aj (al=true):=ah HQ.o;have P9:aj (zQ W th l.length regs k x=jV W l.length x):=ah (by rw [JD.o,HA1.o]; rfl);have g0:=au (j:=0) zY.o rfl;have g1:=au (j:=1) zY.o rfl;have g2:=au (j:=2) zY.o rfl;have g3:=au (j:=3) zY.o rfl;have g4:=au (j:=4) zY.o rfl;have g5:=au (j:=5) zY.o rfl;simp only [List.getElem_toArray,List.getElem_cons_zero,List.getElem_cons_succ] at g0 g1 g2 g3 g4 g5;have x0:wr.cell? ⟨ib,0,none⟩=some (.int .i64 x.op):=au zZ.o rfl;have x1:wr.cell? ⟨ib,1,none⟩=some (.int .i64 x.a):=au zZ.o rfl;have x2:wr.cell? ⟨ib,2,none⟩=some (.int .i64 x.b):=au zZ.o rfl;have x3:wr.cell? ⟨ib,3,none⟩=some (.int .i64 x.c):=au zZ.o rfl;have x4:wr.cell? ⟨ib,4,none⟩=some (.int .i64 x.n):=au zZ.o rfl;have x5:wr.cell? ⟨ib,5,none⟩=some (.int .i64 x.st):=au zZ.o rfl;go_wp2_with fail;refine (BJ W s l.length x wr HWq.o).mono ?_;rintro e w4 ⟨rfl,hb4⟩;have dO:=ah hb4;have Jy:aj (Below nb w w4):=ah (Jw.o.trans (hb4.mono (by have h1:=kE.o; have h2:=HB2.o.size; have h4:=HB3.o.size; omega)));have zK:aj (nb + 2<=wr.heap.size):=ah (by have h1:=kE.o; have h2:=HB2.o.size; have h4:=HB3.o.size; omega);clear hb4 g0 g1 g2 g3 g4 g5 x0 x1 x2 x3 x4 x5 t0 t1;cases ho:jV W l.length x
             ·have HT:aj (res=false):=ah (Da.o (by rw [P9.o,ho]));go_wp2_with fail;go_ret;exact ⟨by rw [HT.o]; rfl,by rw [fD.o]; exact Jy.o⟩
             ·have HEE:aj (uO W th l.length regs 0 l=uO W th l.length regs ((k:Int) + 1) R):=ah (by rw [yU.o,P9.o,ho]; rfl);go_wp2_with fail;go_roundw
              case rel=>exact ⟨k + 1,R,by go_num,by omega,HEE.o,Mv.o.below (dO.o.mono (by have:=zK.o; omega)),Ea.o.2,Ca.o.trans (dO.o.mono zK.o)⟩
              case measure=>simp [intOf]; omega
           | cons r S=>
             obtain ⟨⟨b4,Rk,Qx,hb4,y0⟩,vU⟩:=hin2;subst Qx;simp only [List.length_cons] at uo;have hjl:j < rs.length:=(by omega);have HR4:=ah vU;have yZ:aj (al=(jl r regs && S.all (fun r=>jl r regs))):=ah (by rw [HQ.o,List.all_cons]);clear vU HQ;cases hwr:jl r regs
             ·have HT:aj (res=false):=ah (Da.o (by rw [JD.o,yZ.o,hwr]; rfl));go_wp2_with fail;refine (kY hwr wr).mono ?_;rintro e w5 ⟨rfl,rfl⟩;go_wp2_with fail;go_ret;exact ⟨by rw [HT.o]; rfl,by rw [fD.o]; exact Jw.o⟩
             ·have zJ:aj (al=S.all (fun r=>jl r regs)):=ah (by rw [yZ.o,hwr]; rfl);go_wp2_with fail;refine (kY hwr wr).mono ?_;rintro e w5 ⟨rfl,rfl⟩;go_wp2_with fail;go_roundw
              case rel=>exact ⟨j + 1,S,by go_num,by omega,zJ.o,HR4.o,trivial⟩
              case measure=>simp [intOf]; omega
       ·have SX:aj (zQ W th l.length regs k x=false):=ah (by unfold zQ; rw [QC,hek]; cases e28 <;> cases ek <;> simp_all);have hq':e28= !ek:=(by cases e28 <;> cases ek <;> simp_all);subst hq';cases ek
        ·have HT:aj (res=false):=ah (Da.o SX.o);go_wp2_with fail;go_ret;exact ⟨by rw [HT.o]; rfl,by rw [fD.o]; exact EL.o⟩
        ·have HT:aj (res=false):=ah (Da.o SX.o);go_wp2_with fail;go_ret;exact ⟨by rw [HT.o]; rfl,by rw [fD.o]; exact EL.o⟩
end Go.Proofs.YtfbbaiejbjdfbaaGreatDoor
