/- Contracts of the maker's stmts and stmt: they return shaped statements that lie in new memory. And what hangs on it. -/
import Derived.Test.YtkajcclnlehkmaaGreatDoorGMV
set_option linter.unusedSimpArgs false
set_option linter.unusedVariables false
set_option maxHeartbeats 40000000
set_option maxRecDepth 1000000
namespace Go.Proofs.YtkajcclnlehkmaaGreatDoor
open Go.RowKit
open Md
theorem jI {B:Nat} {w w':World} {g:Option Nat} (h:w.grownBy w' g) (hg: ∀k,g=some k->B<=k) (hB:B<=w.heap.size):Below B w w':=
 ⟨h.os,h.tape,h.output,h.size,fun k hk=>h.block k (by omega) (fun e=>by have:=hg k e.symm; omega)⟩
theorem bP.qo {B:Nat} {w w':World} {T:Tp} (h:bP w T) (hb:Below B w w') (h1:T.bt < B) (h2:T.bm < B) (h3:T.B0<=B):bP w' T:=by
 obtain ⟨x,k1,k2⟩:=h.tape.blk;obtain ⟨l,m,k3,k4,k5,k6⟩:=h.qp;exact ⟨⟨⟨x,k1,(hb.block _ h1).trans k2⟩,h.tape.Aq.below (hb.mono h3),h.tape.len⟩,⟨l,m,k3,k4,k5,(hb.block _ h2).trans k6⟩⟩
theorem Mk.zl {T:Tp} {w W W':World} (h:Mk T w W) (hb:Below w.heap.size W W'):Mk T w W':=
 ⟨hb.os.trans h.os,hb.tape.trans h.tape,hb.output.trans h.output,Nat.le_trans h.size hb.size,fun k hk h1 h2=>(hb.block k hk).trans (h.block k hk h1 h2)⟩
theorem xX {q:Nat} : ∀l:List bF,(∀x ∈ l,zm x.h + 2 * lX x.b + 2 * lX x.e<=q)->lX (gF l)<=l.length * q
 | [],_=>Nat.zero_le _
 | x ::r,h=>by have h1:=h x List.mem_cons_self;have h2:=xX r (fun y hy=>h y (List.mem_cons_of_mem _ hy));show zm x.h + 2 * lX x.b + 2 * lX x.e + lX (gF r)<=(r.length + 1) * q;rw [Nat.add_mul]; omega
theorem MH (x:bF): ∀u ∈ bF.f x,u.oneCell'=true:=by
 intro u hu; simp [bF.f] at hu;rcases hu with rfl | rfl | rfl | rfl | rfl | rfl | rfl | rfl | rfl | rfl | rfl <;> rfl
theorem zk (T:Tp) (d:Int) (hst:yD T d):sD T d:=by
 intro w n hI hn1 hn2;have HST:=ah hst;have HI:=ah hI;have bR:aj (T.bt < w.heap.size∧T.bm < w.heap.size∧T.B0<=w.heap.size):=ah ⟨hI.tape.lt,hI.lt,hI.tape.b0⟩;obtain ⟨Lb,UL⟩:=hn1;obtain ⟨i0,hi,hz0,hz1,hz2⟩:=zU;have kM:=ah (And.intro hi (And.intro hz0 (And.intro hz1 hz2)));clear hst hI hi hz0 hz1 hz2;go_enter Tryz.func12,Tryz.ntmps12;go_wp2_with fail;go_loopw [7,8] (fun v7 v8 wr=> ∃(k:Nat) (l:List bF),v8= .int .i64 k∧k<=n.toNat∧l.length=k∧F4 w.heap.size wr v7 l∧(∀x ∈ l,kS x.h x.b x.e∧qm (GS d.toNat) x.h x.b x.e)∧bP wr T∧Mk T w wr) (fun _ i _=>(n - intOf i).toNat)
 case atStart=>exact ⟨0,[],rfl,Nat.zero_le _,rfl,Grow.nil _ _ _ _ _ _,by simp,HI.o,Mk.refl _ _⟩
 case round=>
  obtain ⟨k,l,rfl,hk,hl,hg,hok,Ov,hmk⟩:=hrel;obtain ⟨line,left,h1,h2,h3,hblk⟩:=Ov.qp;have HL:=ah hl;have HG:=ah hg;have eO:=ah hok;have Np:=ah Ov;have Gh:=ah hmk;have Ko:=ah (And.intro h1 (And.intro h3 hblk));have c2:wr.cell? ⟨T.bm,2,none⟩=some (.int .i64 left):=(bK hblk (j:=2) rfl).2;clear hl hg hok Ov hmk h1 h3 hblk;by_cases hlt:(k:Int) < n
  ·by_cases hlf:0 < left
   ·go_wp2_with fail;refine (HST.o _ Np.o ⟨line,left,Ko.o.1,hlf,Ko.o.2.1,Ko.o.2.2⟩).mono ?_;rintro e w1 ⟨h,b,e',s,rfl,vG,Ju,hM,hI1⟩;have oP:=ah (HG.o.next (hM.sF bR.o.1 bR.o.2.1));have Nq:=ah (Gh.o.trans hM);have HI1:=ah hI1;have Sj:=ah (And.intro Ju.1 vG);have HX:=ah Ju.2;have mK:=ah hM.size;have aR:=ah HG.o.lt;clear hM hI1 Ju vG HG Ko c2;unfold eY;have lG:=ah (oP.o.next (aO (ak w1 (.cells (bF.f ⟨h,b,e',s⟩).toArray 59))));have nZ:=ah (iH (heap_alloc_new w1 (.cells (bF.f ⟨h,b,e',s⟩).toArray 59)));have KE:aj (w.heap.size<=w1.heap.size):=ah Nq.o.size;obtain ⟨hi,hz0,hz1,hz2⟩:=kM.o;have hbs:w.heap.size<=w1.heap.size + 1:=Nat.le_succ_of_le KE.o;have hkl:l.length + 1<=maxLen:=(by rw [HL.o]; unfold maxLen; omega);have yQ:(l.length + 1) * 176<=140737488355328:=(by rw [HL.o]; omega);go_wp2_with (at_builtin; refine wpList_append_lies _ rfl _ _ 45 rfl w.heap.size 59 i0 _ 11 176 Tryz.underlying45 hi hz0 hz1 hz2 rfl (by decide) _ _ _ rfl lG.o.own ⟨w1.heap.size,0,none⟩ 1 1 (bF.f ⟨h,b,e',s⟩) rfl rfl nZ.o (MH _) (by decide) hkl yQ (by simpa using hbs) _ rfl ?_);clear hi hz0 hz1 hz2;intro g cap w2 hown hgr hmv hlt2;have iF:aj (dN w.heap.size u7.ownBlock (w1.alloc (.cells (bF.f ⟨h,b,e',s⟩).toArray 59)) (bF.J w.heap.size ⟨h,b,e',s⟩)):=ah (qG (wR.stay (HX.o.next (aO (ak _ _))) Gh.o.size) Gh.o.size (fun k hk=>(aR.o k hk).2));have HG2:=ah (lG.o.push iF.o rfl hown hgr (by simpa using hmv));have HB2:aj (Below w.heap.size (w1.alloc (.cells (bF.f ⟨h,b,e',s⟩).toArray 59)) w2):=ah (jI hgr (fun k hk=>(aR.o k hk).1) (by simpa using hbs));have qH:aj (Below w.heap.size w1 (w1.alloc (.cells (bF.f ⟨h,b,e',s⟩).toArray 59))):=ah ((ak _ _).mono KE.o);have F8:=ah ((HI1.o.qo qH.o bR.o.1 bR.o.2.1 bR.o.2.2).qo HB2.o bR.o.1 bR.o.2.1 bR.o.2.2);have Sd:=ah ((Nq.o.zl qH.o).zl HB2.o);have Sk:aj (∀x ∈ l++[(⟨h,b,e',s⟩:bF)],kS x.h x.b x.e∧qm (GS d.toNat) x.h x.b x.e):=ah (fun x hx=>by
     rcases List.mem_append.1 hx with hx | hx
     ·exact eO.o x hx
     ·rw [List.mem_singleton.1 hx]; exact Sj.o)
    clear hown hgr hmv hlt2 hbs hkl yQ iF HX nZ lG HB2 qH;go_wp2_with fail;go_roundw
    case rel=>exact ⟨k + 1,l++[⟨h,b,e',s⟩],by go_num,by omega,by simp [HL.o],HG2.o,Sk.o,F8.o,Sd.o⟩
    case measure=>simp [intOf]; omega
   ·have hlz:left=0:=(by omega);subst hlz;go_wp2_with fail;go_ret;obtain ⟨ao,cap,e,hst⟩:=HG.o.says (fun x hx=>(eO.o x hx).1);exact ⟨gF l,ao,cap,by rw [e]; rfl,⟨by rw [lq,HL.o]; omega,vQ l (fun x hx=>(eO.o x hx).2.1),Nat.le_trans (xX l (fun x hx=>(eO.o x hx).2.2)) (Nat.mul_le_mul_right _ (by rw [HL.o]; exact hk))⟩,hst,Gh.o,Np.o⟩
  ·go_wp2_with fail;go_ret;obtain ⟨ao,cap,e,hst⟩:=HG.o.says (fun x hx=>(eO.o x hx).1);exact ⟨gF l,ao,cap,by rw [e]; rfl,⟨by rw [lq,HL.o]; omega,vQ l (fun x hx=>(eO.o x hx).2.1),Nat.le_trans (xX l (fun x hx=>(eO.o x hx).2.2)) (Nat.mul_le_mul_right _ (by rw [HL.o]; exact hk))⟩,hst,Gh.o,Np.o⟩
theorem Dn (T:Tp): ∀d:Nat,d<=100->yD T (d:Int)
 | 0,h=>Bh T 0 h (fun d' e=>by omega)
 | d + 1,h=>Bh T (d + 1) h (fun d' e=>by
   obtain rfl:d=d':=by omega
   exact zk T _ (Dn T d (by omega)))
theorem Bj (T:Tp) (d:Nat) (h:d<=100):sD T (d:Int):=zk T _ (Dn T d h)
def JK:Array Value:= #[.string ⟨#[120]⟩,.string ⟨#[121]⟩,.string ⟨#[118]⟩,.string ⟨#[113]⟩,.string ⟨#[109]⟩,.string ⟨#[110]⟩,.string ⟨#[114]⟩,.string ⟨#[99]⟩,.string ⟨#[100]⟩,.string ⟨#[102]⟩,.string ⟨#[103]⟩,.string ⟨#[116]⟩]
theorem EI:uj 12 JK:=fun j hj=>by
 have:j=0∨j=1∨j=2∨j=3∨j=4∨j=5∨j=6∨j=7∨j=8∨j=9∨j=10∨j=11:=by omega
 rcases this with rfl | rfl | rfl | rfl | rfl | rfl | rfl | rfl | rfl | rfl | rfl | rfl <;> exact ⟨_,rfl,by unfold maxLen; decide,by rfl⟩
def EW:Array Value:= #[.int .i64 0,.int .i64 0,.string ⟨#[]⟩,.int .i64 0,.int .i64 0,.string ⟨#[]⟩]
def Et (d:De):Value:= .agg #[.int .i64 d.kind,.int .i64 d.line,.string d.nm,.int .i64 d.size,.int .i64 d.init,.string d.on]
def d0 (r l:Int) (s:ByteArray):De:=⟨r,l,s,0,0,⟨#[]⟩⟩
def RZ (T:Tp) (w:World) (e':Ending) (w':World):Prop:= ∃d,e'= .returned (Et d)∧(d.Ok∧gu d=true)∧Mk T w w'∧bP w' T
def PS:Array Value:= #[.int .i64 0,.int .i64 0,.int .i64 1,.int .i64 2,.int .i64 4,.int .i64 5]
theorem PU: ∀j,j < 6-> ∃z,PS[j]? =some (.int .i64 z)∧0<=z∧z<=5:=fun j hj=>by
 have:j=0∨j=1∨j=2∨j=3∨j=4∨j=5:=by omega
 rcases this with rfl | rfl | rfl | rfl | rfl | rfl <;> exact ⟨_,rfl,by decide,by decide⟩
def OE:Array Value:= #[.int .i64 0,.int .i64 0,.int .i64 1,.int .i64 (-1),.int .i64 9223372036854775807,.int .i64 (-9223372036854775807)]
theorem OG: ∀j,j < 6-> ∃z,OE[j]? =some (.int .i64 z)∧aD z∧(z != -9223372036854775808)=true:=fun j hj=>by
 have:j=0∨j=1∨j=2∨j=3∨j=4∨j=5:=by omega
 rcases this with rfl | rfl | rfl | rfl | rfl | rfl <;> exact ⟨_,rfl,by unfold aD; decide,by decide⟩
theorem Ug {r:Nat} {l z i:Int} {s o:ByteArray} (h1:1<=r) (h2:r<=6) (hs:Tk.cO s.data.toList=true) (hz:z=0∨(r=1∧0<=z∧z<=5)) (hi:(i != -9223372036854775808)=true∧(i=0∨r<=2)) (ho:dV o ((r:Int) == 5)=true):
 gu {d0 r l s with size:=z,init:=i,on:=o} =true:=by
 unfold gu d0;dsimp only;have a1:(1:Int)<=(r:Int):=by omega
 have a2:(r:Int)<=6:=by omega
 have a3:0<=z:=by omega
 have a4:z=0∨(r:Int)=1:=by omega
 have a5:i=0∨((r:Int)=1∨(r:Int)=2):=by omega
 rw [hs,ho,hi.1];simp [a1,a2,a3,a4,a5]
structure DI (T:Tp) (w:World) (ng db:Nat) (W:World) (d:De):Prop where
 box:W.heap[db]? =some (.cells (eX d).toArray 42 (0,0))
 ok:d.Ok
 nms:W.heap[ng]? =some (.cells JK 9 (0,0))
 mi:bP W T
 km:Mk T w W
 z:W.heap[w.heap.size]? =some (.cells EW 42 (0,0))
 lt:w.heap.size < ng∧ng < db
 tb:T.bt < w.heap.size∧T.bm < w.heap.size∧T.B0<=w.heap.size
section
variable {T:Tp} {w W W':World} {ng db:Nat} {d:De}
theorem DI.sz (hS:DI T w ng db W d):db + 1<=W.heap.size:=(Array.getElem?_eq_some_iff.1 hS.box).1
theorem DI.go (hS:DI T w ng db W d) (hM:Mk T W W') (hI:bP W' T):DI T w ng db W' d where
 box:=(hM.block db hS.sz (by have:=hS.tb; have:=hS.lt; omega) (by have:=hS.tb; have:=hS.lt; omega)).trans hS.box
 ok:=hS.ok
 nms:=(hM.block ng (Array.getElem?_eq_some_iff.1 hS.nms).1 (by have:=hS.tb; have:=hS.lt; omega) (by have:=hS.tb; have:=hS.lt; omega)).trans hS.nms
 mi:=hI
 km:=hS.km.trans hM
 z:=(hM.block _ (Array.getElem?_eq_some_iff.1 hS.z).1 (by have:=hS.tb; omega) (by have:=hS.tb; omega)).trans hS.z
 lt:=hS.lt
 tb:=hS.tb
theorem DI.put {d':De} (hS:DI T w ng db W d) (j:Nat) (v:Value) (hv:(eX d).toArray.setIfInBounds j v=(eX d').toArray) (hs:d'.Ok):DI T w ng db (W.setCell ⟨db,j,none⟩ v) d' where
 box:=by rw [aY hS.box,hv]
 ok:=hs
 nms:=(aW W _ _ rfl (by have:=hS.lt; show db≠_; omega)).trans hS.nms
 mi:=hS.mi.set _ _ (by have:=hS.tb; have:=hS.lt; show T.B0<=db; omega) (by have:=hS.tb; have:=hS.lt; show db≠_; omega) (by have:=hS.tb; have:=hS.lt; show db≠_; omega)
 km:=hS.km.set _ _ (by have:=hS.lt; show _<=db; omega)
 z:=(aW W _ _ rfl (by have:=hS.lt; show db≠_; omega)).trans hS.z
 lt:=hS.lt
 tb:=hS.tb
theorem DI.size (hS:DI T w ng db W d) (k:Int) (hk:aD k):DI T w ng db (W.setCell ⟨db,3,none⟩ (.int .i64 k)) {d with size:=k} :=
 hS.put 3 _ rfl ⟨hS.ok.1,hS.ok.2.1,hS.ok.2.2.1,hk,hS.ok.2.2.2.2⟩
theorem DI.init (hS:DI T w ng db W d) (k:Int) (hk:aD k):DI T w ng db (W.setCell ⟨db,4,none⟩ (.int .i64 k)) {d with init:=k} :=
 hS.put 4 _ rfl ⟨hS.ok.1,hS.ok.2.1,hS.ok.2.2.1,hS.ok.2.2.2.1,hk,hS.ok.2.2.2.2.2⟩
theorem DI.on (hS:DI T w ng db W d) (s:ByteArray) (hk:s.size<=maxLen):DI T w ng db (W.setCell ⟨db,5,none⟩ (.string s)) {d with on:=s} :=
 hS.put 5 _ rfl ⟨hS.ok.1,hS.ok.2.1,hS.ok.2.2.1,hS.ok.2.2.2.1,hS.ok.2.2.2.2.1,hk⟩
theorem dC (hS:DI T w ng db W d):W.cell? ⟨db,0,none⟩=some (.int .i64 d.kind)∧W.cell? ⟨db,1,none⟩=some (.int .i64 d.line)∧W.cell? ⟨db,2,none⟩=some (.string d.nm)∧W.cell? ⟨db,3,none⟩=some (.int .i64 d.size)∧W.cell? ⟨db,4,none⟩=some (.int .i64 d.init)∧W.cell? ⟨db,5,none⟩=some (.string d.on):=
 ⟨au hS.box rfl,au hS.box rfl,au hS.box rfl,au hS.box rfl,au hS.box rfl,au hS.box rfl⟩
end
theorem LM:(Tryz.prog.info? 42).map (·.size)=some 6:=by kernel_rfl
theorem Jl (T:Tp) (w:World) (hI:bP w T):Calls Tryz.prog 11 #[.pointer (some ⟨T.bm,0,none⟩)] w (RZ T w):=by
 obtain ⟨line,left,hl1,hl2,hl3,hblk⟩:=hI.qp;have HI0:=ah hI;have bR:aj (T.bt < w.heap.size∧T.bm < w.heap.size∧T.B0<=w.heap.size):=ah ⟨HI0.o.tape.lt,HI0.o.lt,HI0.o.tape.b0⟩;have yP:=hI.lt;have c1:w.cell? ⟨T.bm,1,none⟩=some (.int .i64 line):=(bK hblk (j:=1) rfl).2;have f1:w.frozen? ⟨T.bm,1,none⟩=false:=aB hblk;clear hI hblk hl1;go_enter Tryz.func11,Tryz.ntmps11;go_upto_region 3 with fail;generalize hW:World.alloc (World.alloc (World.setCell w _ _) _) _=W;have HB:aj (Below (w.setCell ⟨T.bm,1,none⟩ (.int .i64 (wrap64 (line + 1)))).heap.size (w.setCell ⟨T.bm,1,none⟩ (.int .i64 (wrap64 (line + 1)))) W):=ah (by rw [<- hW]; exact (ak _ _).alloc (by simp) _);have HM:aj (Mk T w W):=ah (((Mk.refl T w).Dh _ _).trans (Mk.of_below HB.o));have HI:aj (bP W T):=ah ((HI0.o.line (tX _)).below HB.o);have HZ:aj (W.heap[w.heap.size]? =some (.cells EW 42 (0,0))):=ah (by
  rw [<- hW];have e:(World.setCell w ⟨T.bm,1,none⟩ (.int .i64 (wrap64 (line + 1)))).heap.size=w.heap.size:=by simp [World.setCell]
  rw [heap_alloc_old _ _ (by simp [World.setCell]),<- e]; exact heap_alloc_new _ _)
 have HN:aj (W.heap[w.heap.size + 1]? =some (.cells JK 9 (0,0))):=ah (by
  rw [<- hW];have e:(World.alloc (World.setCell w ⟨T.bm,1,none⟩ (.int .i64 (wrap64 (line + 1)))) (.cells EW 42)).heap.size=w.heap.size + 1:=by simp [World.setCell]
  rw [<- e]; exact heap_alloc_new _ _)
 clear hW c1 f1 yP hl2 hl3;have K0: ∀w',bP w' T->w'.cell? ⟨T.bm,0,none⟩=some (.pointer (some ⟨T.bt,0,none⟩)):=fun w' h=>h.ptr;have KN: ∀w',Mk T W w'-> ∀j,j < 12-> ∃s,w'.cell? ⟨w.heap.size + 1,j,none⟩=some (.string s)∧kH s:=fun w' h j hj=>by have hb:=(h.block _ (Array.getElem?_eq_some_iff.1 HN.o).1 (by have:=bR.o; omega) (by have:=bR.o; omega)).trans HN.o;obtain ⟨s,h1,h2⟩:=EI j hj;exact ⟨s,(bK hb h1).2,h2⟩
 have hd1:Mk T W (W.drewN 1):=Mk.of_below (below_drewN (Below.refl _ _) 1);have hd2:bP (W.drewN 1) T:=HI.o.below (below_drewN (Below.refl _ _) 1);have mM:aj (w.heap.size + 1 < W.heap.size):=ah (Array.getElem?_eq_some_iff.1 HN.o).1;refine dB (by kernel_rfl) rfl ?_;refine bS 0 22 [] [[],[0],[0,1],[0,1,2],[0,1,2,3],[0,1,2,3,4],[],[6],[6,7],[6,7,8],[],[],[11],[11,12],[11,12,13],[],[15],[0,1,2,3,4,11,12,13,14,15,16],[0,1,2,3,4,10,11,12,13,14,15,16,17],[0,1,2,3,4,10,11,12,13,14,15,16,17,18],[0,1,2,3,4,5,6,7,8,9,10,11,12,13,14,15,16,17,18,19],[],[0,1,2,3,4,5,6,7,8,9,10,11,12,13,14,15,16,17,18,19,20,21]] [[],[],[],[],[],[],[],[],[],[],[],[],[],[],[],[],[],[],[],[],[],[]] (fun _ w'=>Mk T W w'∧bP w' T) (fun w w'=>Mk T w w') [13,14,15,16,17,18,19,20,21,22,23,24,25,26,27,28,29,30,31,32,33,4] rfl rfl (by rfl) (by kernel_rfl) (by kernel_rfl) (by kernel_rfl) (by kernel_rfl) (by kernel_rfl) (by rfl) (fun _=>Mk.refl _ _) (by rfl) ⟨hd1,hd2⟩ ?_;simp only [jm,kX]
 iterate 4
  apply aJ.step
  case bU=>intro c A w' hok hC hO hD;have e0:=hO 0 (by rfl);simp [Act.eval] at e0;simp [Act.eval] at hD;simp [go_sem,gd,Oper.wp,hD,e0,K0,hC.2];exact aC.mk (Mk.refl _ _) hC (dh.mk _ _)
  try simp only [bV]
 refine aJ.some (fun v _=> ∃r:Nat,v= .int .i64 (r:Int)∧r < 6) (fun _ _ _ _ h=>h) ?_ ?_
 ·intro c A w' hok hC hO hD;simp [Act.eval] at hD;simp [go_sem,gd,Oper.wp,hD];refine (bW T 6 w' (by unfold aD; decide) hC.2).mono ?_;rintro e w2 ⟨r,rfl,h0,h1,-,hM,hI⟩;obtain ⟨r',rfl⟩:=Int.eq_ofNat_of_zero_le h0;exact aC.mk hM ⟨hC.1.trans hM,hI⟩ ⟨r',rfl,by have:=h1 (by decide); omega⟩
 try simp only [bV]
 refine aJ.some (fun v w'=> ∃r:Nat,v= .int .i64 (r:Int)∧1<=r∧r<=6) (fun _ _ _ _ h=>h) ?_ ?_
 ·intro c A w' hok hC hO hD;simp [Act.eval] at hD;obtain ⟨r,hr,CK⟩:=hD;have hw:IntKind.i64.wrap (1 + (r:Int))=1 + r:=IntWalk.i64_in _ (by omega);simp [go_sem,gd,Oper.wp,hr,hw];exact aC.mk (Mk.refl _ _) hC (⟨1 + r,by simp,by omega,by omega⟩)
 try simp only [bV]
 iterate 3
  apply aJ.step
  case bU=>intro c A w' hok hC hO hD;have e0:=hO 0 (by rfl);simp [Act.eval] at e0;simp [Act.eval] at hD;simp [go_sem,gd,Oper.wp,hD,e0];exact aC.mk (Mk.refl _ _) hC (dh.mk _ _)
  try simp only [bV]
 refine aJ.some (fun v w'=> ∃l:Int,v= .int .i64 l∧aD l) (fun _ _ _ _ h=>h) ?_ ?_
 ·intro c A w' hok hC hO hD;simp [Act.eval] at hD;obtain ⟨l,hc,hl⟩:=hC.2.ln;simp [go_sem,gd,Oper.wp,hD,hc];exact aC.mk (Mk.refl _ _) hC (⟨l,rfl,hl⟩)
 try simp only [bV]
 iterate 7
  apply aJ.step
  case bU=>intro c A w' hok hC hO hD;have e3:=hO 3 (by rfl);have e0:=hO 0 (by rfl);simp [Act.eval] at e3 e0;simp [Act.eval] at hD;simp [go_sem,gd,Oper.wp,hD,e3,e0,K0,hC.2];exact aC.mk (Mk.refl _ _) hC (dh.mk _ _)
  try simp only [bV]
 refine aJ.some (fun v _=> ∃r:Nat,v= .int .i64 (r:Int)∧r < 12) (fun _ _ _ _ h=>h) ?_ ?_
 ·intro c A w' hok hC hO hD;simp [Act.eval] at hD;simp [go_sem,gd,Oper.wp,hD];refine (bW T 12 w' (by unfold aD; decide) hC.2).mono ?_;rintro e w2 ⟨r,rfl,h0,h1,-,hM,hI⟩;obtain ⟨r',rfl⟩:=Int.eq_ofNat_of_zero_le h0;exact aC.mk hM ⟨hC.1.trans hM,hI⟩ ⟨r',rfl,by have:=h1 (by decide); omega⟩
 try simp only [bV]
 refine aJ.some (fun v w'=> ∃r:Nat,v= .pointer (some ⟨w.heap.size + 1,r,none⟩)∧r < 12) (fun _ _ _ _ h=>h) ?_ ?_
 ·intro c A w' hok hC hO hD;simp [Act.eval] at hD;obtain ⟨h46,r,hr,h1⟩:=hD;have hb0:(0:Int)<=(r:Int):=by omega
  have hb1:(r:Int) < 12:=by omega
  simp [go_sem,gd,Oper.wp,h46,hr,hb0,hb1];exact aC.mk (Mk.refl _ _) hC (⟨r,rfl,h1⟩)
 try simp only [bV]
 refine aJ.some (fun v w'=> ∃s:ByteArray,v= .string s∧kH s) (fun _ _ _ _ h=>h) ?_ ?_
 ·intro c A w' hok hC hO hD;simp [Act.eval] at hD;obtain ⟨r,hr,h1⟩:=hD;obtain ⟨s,hs,hsz⟩:=KN w' hC.1 r h1;simp [go_sem,gd,Oper.wp,hr,hs];exact aC.mk (Mk.refl _ _) hC (⟨s,rfl,hsz⟩)
 try simp only [bV]
 refine aJ.some (fun v w'=> ∃(r:Nat) (l:Int) (s:ByteArray),v=Et (d0 r l s)∧1<=r∧r<=6∧aD l∧kH s) (fun _ _ _ _ h=>h) ?_ ?_
 ·intro c A w' hok hC hO hD;simp [Act.eval] at hD;obtain ⟨⟨r,hr,h1,h2⟩,⟨l,hl,h3⟩,s,hs,h4⟩:=hD;simp [go_sem,gd,Oper.wp,hr,hl,hs];exact aC.mk (Mk.refl _ _) hC (⟨r,l,s,rfl,h1,h2,h3,h4⟩)
 try simp only [bV]
 refine aJ.some (fun v w'=> ∃db,v= .pointer (some ⟨db,0,none⟩)∧W.heap.size<=db∧w'.heap[db]? =some (.cells EW 42 (0,0))) ?_ ?_ ?_
 ·rintro v w1 w' hle ⟨g,h1,h2,h3⟩;exact ⟨g,h1,h2,(hle.block g (Array.getElem?_eq_some_iff.1 h3).1 (by have:=bR.o; have:=mM.o; omega) (by have:=bR.o; have:=mM.o; omega)).trans h3⟩
 ·intro c A w' hok hC hO hD;simp [go_sem,gd,Oper.wp];exact aC.mk (d:=_) (v:= .pointer (some ⟨_,0,none⟩)) (Mk.of_below (ak _ _)) ⟨hC.1.trans (Mk.of_below (ak _ _)),hC.2.below (ak _ _)⟩ ⟨_,rfl,hC.1.size,heap_alloc_new _ _⟩
 simp only [bV];refine aJ.done ?_;intro wz dK;simp only [List.drop_zero];intro v0 h0 v1 h1 v2 h2 v3 h3 v4 h4 v5 h5 v6 h6 v7 h7 v8 h8 v9 h9 v10 h10 v11 h11 v12 h12 v13 AB v14 Ez v15 vv v16 h16 v17 Hf v18 h18 v19 h19 v20 h20 v21 h21;obtain ⟨r,l,s,rfl,hr1,hr2,sM,hs⟩:=h20;obtain ⟨db,rfl,vF,qx⟩:=h21;clear h0 h1 h2 h3 h4 h5 h6 h7 h8 h9 h10 h11 h12 AB Ez vv h16 Hf h18 h19 K0 KN hd1 hd2;refine cK.nil ?_;go_simp;refine fu 22 [[],[0],[0,1],[0,1,2],[0,1,2,3],[0,1,2,3,4],[],[6],[6,7],[6,7,8],[],[],[11],[11,12],[11,12,13],[],[15],[0,1,2,3,4,11,12,13,14,15,16],[0,1,2,3,4,10,11,12,13,14,15,16,17],[0,1,2,3,4,10,11,12,13,14,15,16,17,18],[0,1,2,3,4,5,6,7,8,9,10,11,12,13,14,15,16,17,18,19],[],[0,1,2,3,4,5,6,7,8,9,10,11,12,13,14,15,16,17,18,19,20,21]] rfl rfl rfl rfl rfl (by kernel_rfl) (by kernel_rfl) (by kernel_rfl) ?_;have Gn:=ah vF;have Gg:=ah sM;have Gj:=ah hs;refine wp_store_mid _ _ _ (by rfl) db 0 (eX (d0 r l s)).toArray (by rfl) (by rfl) (oF qx (Nat.le_refl 6)) LM (by simp [eX,d0,Value.oneCell']) ?_;refine eB rfl ?_;generalize mJ:World.setCells wz db 0 _=W5;have Ad:aj (DI T w (w.heap.size + 1) db W5 (d0 r l s)):=ah (by
  rw [<- mJ];have hdb:db≠T.bt∧db≠T.bm∧T.B0<=db∧w.heap.size + 1 < db:=by have:=bR.o; have:=mM.o; omega
  refine ⟨iI qx rfl,⟨show aD (r:Int) by unfold aD; omega,Gg.o,Gj.o.1,C8,C8,Nat.zero_le _⟩,?_,dK.2.sets _ _ _ hdb.2.2.1 hdb.1 hdb.2.1,(HM.o.trans dK.1).sets _ _ _ (by omega),?_,⟨Nat.lt_succ_self _,hdb.2.2.2⟩,bR.o⟩
  ·rw [(aQ db _ _ wz).block _ (Nat.lt_of_lt_of_le mM.o dK.1.size) (by simp; omega)];exact (dK.1.block _ mM.o (by have:=bR.o; omega) (by have:=bR.o; omega)).trans HN.o
  ·rw [(aQ db _ _ wz).block _ (Nat.lt_of_lt_of_le (by have:=mM.o; omega) dK.1.size) (by simp; omega)];exact (dK.1.block _ (by have:=mM.o; omega) (by have:=bR.o; omega) (by have:=bR.o; omega)).trans HZ.o)
 clear mJ dK qx vF sM HZ HI HM hs HN HB;go_simp;have y0:W5.cell? ⟨db,0,none⟩=some (.int .i64 (r:Int)):=(dC Ad.o).1;have Ac:aj (T.bt < db∧T.bm < db):=ah (by have:=bR.o; have:=mM.o; have:=Gn.o; omega)
 go_upto_if 36 with fail
 go_cut [4] (fun s4 W'=>s4= .pointer (some ⟨db,0,none⟩)∧ ∃z:Int,(z=0∨(r=1∧0<=z∧z<=5))∧DI T w (w.heap.size + 1) db W' {d0 r l s with size:=z})
 case first=>
  cases h1:((r:Int) == 1)
  ·go_wp2_with fail;go_meet;exact ⟨rfl,0,.inl rfl,Ad.o⟩
  ·have HR1:aj (r=1):=ah (by have:=of_decide_eq_true h1; omega);have yP:T.bm < W5.heap.size:=Nat.lt_of_lt_of_le Ac.o.2 (Nat.le_of_succ_le Ad.o.sz);have c0:=Ad.o.mi.ptr;go_wp2_with fail;refine (bW T 6 _ (by unfold aD; decide) (Ad.o.mi.below (ak _ _))).mono ?_;rintro e w6 ⟨k,rfl,hk0,hk1,hk2,hM,AP⟩;obtain ⟨k',rfl⟩:=Int.eq_ofNat_of_zero_le hk0;have I4:k' < 6:=by have:=hk1 (by decide); omega
   obtain ⟨z,hz,hz0,I6⟩:=PU k' I4;have HZ:=ah (And.intro hz0 I6);have hne:T.bt < W5.heap.size∧T.bm < W5.heap.size:=⟨Nat.lt_of_lt_of_le Ac.o.1 (Nat.le_of_succ_le Ad.o.sz),yP⟩;have cz:w6.cell? ⟨W5.heap.size,k',none⟩=some (.int .i64 z):=au ((hM.block _ (by simp) (by omega) (by omega)).trans (heap_alloc_new W5 (.cells PS 3))) hz;have HD6:=ah (Ad.o.go ((Mk.of_below (ak W5 (.cells PS 3))).trans hM) AP);have y3:=(dC HD6.o).2.2.2.1;have f3:w6.frozen? ⟨db,3,none⟩=false:=aB HD6.o.box;have hb0:(0:Int)<=(k':Int):=by omega
   have hb1:(k':Int) < 6:=by omega
   clear hz hz0 I6 hM AP hne hk0 hk1 hk2 c0 y0 yP;go_wp2_with fail;go_meet;exact ⟨rfl,z,.inr ⟨HR1.o,HZ.o⟩,HD6.o.size z (by have:=HZ.o; unfold aD; omega)⟩
 obtain ⟨rfl,z,hz,hD⟩:=hcut;obtain ⟨W6,rfl⟩: ∃W:World,W=wc:=⟨_,rfl⟩;have HZ:=ah hz;have HD6:=ah hD;clear hz hD Ad y0;have y0:W6.cell? ⟨db,0,none⟩=some (.int .i64 (r:Int)):=(dC HD6.o).1;go_upto_region 6 with fail;go_cut [53] (fun s' W'=>W6=W'∧ ∃q,s'= .bool q∧(q=true->r<=2))
 case first=>
  go_wp2_with fail
  all_goals go_meet
  all_goals exact ⟨rfl,_,rfl,by go_light; grind⟩
 obtain ⟨rfl,q,rfl,hq⟩:=hcut;have HQ:=ah hq;clear hq
 go_upto_if 53 with fail
 go_cut [4] (fun s4 W'=>s4= .pointer (some ⟨db,0,none⟩)∧ ∃i:Int,((i != -9223372036854775808)=true∧(i=0∨r<=2))∧DI T w (w.heap.size + 1) db W' {d0 r l s with size:=z,init:=i})
 case first=>
  cases q
  ·go_wp2_with fail;go_meet;exact ⟨rfl,0,⟨by decide,.inl rfl⟩,HD6.o⟩
  ·have yP:T.bm < W6.heap.size:=Nat.lt_of_lt_of_le Ac.o.2 (Nat.le_of_succ_le HD6.o.sz);have c0:=HD6.o.mi.ptr;have TJ:aj (r<=2):=ah (HQ.o rfl);clear HQ;go_wp2_with fail;refine (bW T 6 _ (by unfold aD; decide) (HD6.o.mi.below (ak _ _))).mono ?_;rintro e w7 ⟨k,rfl,hk0,hk1,hk2,hM,AP⟩;obtain ⟨k',rfl⟩:=Int.eq_ofNat_of_zero_le hk0;have I4:k' < 6:=by have:=hk1 (by decide); omega
   obtain ⟨i,hz,hz0,I6⟩:=OG k' I4;have kM:=ah (And.intro hz0 I6);have hne:T.bt < W6.heap.size∧T.bm < W6.heap.size:=⟨Nat.lt_of_lt_of_le Ac.o.1 (Nat.le_of_succ_le HD6.o.sz),yP⟩;have cz:w7.cell? ⟨W6.heap.size,k',none⟩=some (.int .i64 i):=au ((hM.block _ (by simp) (by omega) (by omega)).trans (heap_alloc_new W6 (.cells OE 2))) hz;have HD7:=ah (HD6.o.go ((Mk.of_below (ak W6 (.cells OE 2))).trans hM) AP);have y4:=(dC HD7.o).2.2.2.2.1;have f4:w7.frozen? ⟨db,4,none⟩=false:=aB HD7.o.box;have hb0:(0:Int)<=(k':Int):=by omega
   have hb1:(k':Int) < 6:=by omega
   clear hz hz0 I6 hM AP hne hk0 hk1 hk2 c0 y0 yP;go_wp2_with fail;go_meet;exact ⟨rfl,i,⟨kM.o.2,.inr TJ.o⟩,HD7.o.init i kM.o.1⟩
 obtain ⟨rfl,i,hz,hD⟩:=hcut;obtain ⟨W7,rfl⟩: ∃W:World,W=wc:=⟨_,rfl⟩;have kM:=ah hz;have HD7:=ah hD;clear hz hD HD6 y0 HQ;have y0:W7.cell? ⟨db,0,none⟩=some (.int .i64 (r:Int)):=(dC HD7.o).1
 go_upto_if 65 with fail
 go_cut [4] (fun s4 W'=>s4= .pointer (some ⟨db,0,none⟩)∧ ∃o:ByteArray,dV o ((r:Int) == 5)=true∧DI T w (w.heap.size + 1) db W' {d0 r l s with size:=z,init:=i,on:=o})
 case first=>
  cases h5:((r:Int) == 5)
  ·have H5:aj (dV ⟨#[]⟩ ((r:Int) == 5)=true):=ah (by rw [h5]; rfl);go_wp2_with fail;go_meet;exact ⟨rfl,⟨#[]⟩,H5.o,HD7.o⟩
  ·have c0:=HD7.o.mi.ptr;go_wp2_with fail;refine (bW T 12 _ (by unfold aD; decide) HD7.o.mi).mono ?_;rintro e w8 ⟨k,rfl,hk0,hk1,hk2,hM,AP⟩;obtain ⟨k',rfl⟩:=Int.eq_ofNat_of_zero_le hk0;have I4:k' < 12:=by have:=hk1 (by decide); omega
   obtain ⟨o,hz,hz0⟩:=EI k' I4;have HO:aj (dV o ((r:Int) == 5)=true∧o.size<=maxLen):=ah ⟨by rw [h5]; exact hz0.2,hz0.1⟩;have Kq:=ah (HD7.o.go hM AP);have cz:w8.cell? ⟨w.heap.size + 1,k',none⟩=some (.string o):=au Kq.o.nms hz;have y5:=(dC Kq.o).2.2.2.2.2;have f5:w8.frozen? ⟨db,5,none⟩=false:=aB Kq.o.box;have hb0:(0:Int)<=(k':Int):=by omega
   have hb1:(k':Int) < 12:=by omega
   clear hz hz0 hM AP hk0 hk1 hk2 c0 y0;go_wp2_with fail;go_meet;exact ⟨rfl,o,HO.o.1,Kq.o.on o HO.o.2⟩
 obtain ⟨rfl,o,ho,hD⟩:=hcut;obtain ⟨W9,rfl⟩: ∃W:World,W=wc:=⟨_,rfl⟩;have wL:aj (gu {d0 r l s with size:=z,init:=i,on:=o} =true):=ah (Ug hr1 hr2 Gj.o.2 HZ.o kM.o ho);have nY:=ah hD;clear ho hD HD7 y0;generalize hd:({d0 r l s with size:=z,init:=i,on:=o} :De)=d at *;obtain ⟨y0,y1,y2,y3,y4,y5⟩:=dC nY.o;have f: ∀j,W9.frozen? ⟨w.heap.size,j,none⟩=false:=fun j=>aB nY.o.z;have z0:W9.cell? ⟨w.heap.size,0,none⟩=some _:=au nY.o.z rfl;have z1:W9.cell? ⟨w.heap.size,1,none⟩=some _:=au nY.o.z rfl;have z2:W9.cell? ⟨w.heap.size,2,none⟩=some _:=au nY.o.z rfl;have z3:W9.cell? ⟨w.heap.size,3,none⟩=some _:=au nY.o.z rfl;have z4:W9.cell? ⟨w.heap.size,4,none⟩=some _:=au nY.o.z rfl;have z5:W9.cell? ⟨w.heap.size,5,none⟩=some _:=au nY.o.z rfl;have Gb:=ah hd;clear hd;go_wp2_with fail;clear f;have HP:=ah (fM nY.o.tb (fM nY.o.tb (fM nY.o.tb (fM nY.o.tb (fM nY.o.tb (fM nY.o.tb ⟨nY.o.km,nY.o.mi,dH.refl _ _⟩ 0 (.int .i64 d.kind)) 1 (.int .i64 d.line)) 2 (.string d.nm)) 3 (.int .i64 d.size)) 4 (.int .i64 d.init)) 5 (.string d.on));exact bodyPost_ret (v:=Et d) (by simp [results,Tryz.results11,go_sem,Et,z0,z1,z2,z3,z4,z5]) rfl ⟨d,rfl,⟨nY.o.ok,wL.o⟩,HP.o.1,HP.o.2.1⟩
def Cq:List De:=[⟨1,0,⟨#[120]⟩,0,0,⟨#[]⟩⟩,⟨1,0,⟨#[121]⟩,0,1,⟨#[]⟩⟩,⟨2,0,⟨#[118]⟩,0,0,⟨#[]⟩⟩,⟨1,0,⟨#[113]⟩,2,0,⟨#[]⟩⟩,⟨3,0,⟨#[109]⟩,0,0,⟨#[]⟩⟩,⟨3,0,⟨#[110]⟩,0,0,⟨#[]⟩⟩,⟨4,0,⟨#[114]⟩,0,0,⟨#[]⟩⟩,⟨5,0,⟨#[99]⟩,0,0,⟨#[109]⟩⟩,⟨6,0,⟨#[102]⟩,0,0,⟨#[]⟩⟩]
theorem M5:(Tryz.prog.info? 42).map (fun i=>(i.zero,i.size,i.bytes))=some (some (.agg EW),6,64):=by kernel_rfl
theorem LK: ∃i0,Tryz.prog.info? 42=some i0∧i0.zero=some (.agg EW)∧i0.size=6∧i0.bytes=64:=info_parts M5
theorem LU (x:De): ∀u ∈ eX x,u.oneCell'=true:=by
 intro u hu; simp [eX] at hu;rcases hu with rfl | rfl | rfl | rfl | rfl | rfl <;> rfl
theorem LP: ∀d ∈ Cq,d.Ok∧gu d=true:=by
 intro d hd;simp only [Cq,List.mem_cons,List.not_mem_nil,or_false] at hd;rcases hd with rfl | rfl | rfl | rfl | rfl | rfl | rfl | rfl | rfl <;> exact ⟨⟨by unfold aD; decide,by unfold aD; decide,by unfold maxLen; decide,by unfold aD; decide,by unfold aD; decide,by unfold maxLen; decide⟩,by rfl⟩
def Q5 (w:World) (e:Ending) (w':World):Prop:= ∃g,e= .returned (.slice (some ⟨g,0,none⟩) 9 9)∧w.heap.size<=g∧w'.heap[g]? =some (.cells (Cq.flatMap eX).toArray 42 (0,0))∧Below w.heap.size w w'
theorem GY (w:World):Calls Tryz.prog 10 #[] w (Q5 w):=by
 go_enter Tryz.func10,Tryz.ntmps10;go_wp2;go_ret;refine ⟨_,rfl,?_,?_,?_⟩
 ·exact Nat.le_refl _
 ·exact heap_alloc_new _ _
 ·exact ak _ _
theorem Grow.yX {α:Type} {f:α->List Value} {m:Nat} {ty:TypeId} {B:Nat} {w w':World} {v:Value} {xs:List α} {g:Option Nat} (h:Grow f m (fun _ _=>True) ty B w v xs) (ha:lM B g w w') (hne: ∀k,v.ownBlock=some k->some k≠g):Grow f m (fun _ _=>True) ty B w' v xs:=by
 refine ⟨⟨h.own.1,?_⟩,fun x hx _ _=>trivial⟩;rcases h.own.2 with h1 | ⟨g',cap,cur,h1,h2,h3,h4⟩
 ·exact .inl h1
 ·exact .inr ⟨g',cap,cur,h1,h2,(ha.2 g' h2 (hne g' (by rw [h1]; rfl)) (Array.getElem?_eq_some_iff.1 h3).1).trans h3,h4⟩
theorem Grow.made {α:Type} {f:α->List Value} {m:Nat} {ty:TypeId} {B:Nat} {W:World} {g n:Nat} {xs:List α} (hf: ∀x,(f x).length=m) (h:W.heap[g]? =some (.cells (xs.flatMap f).toArray ty (0,0))) (hB:B<=g) (hn:xs.length=n) (hm:n<=maxLen):Grow f m (fun _ _=>True) ty B W (.slice (some ⟨g,0,none⟩) n n) xs:=by
 subst hn;have hl:=xE hf xs;refine ⟨⟨hl,.inr ⟨g,xs.length,_,rfl,hB,h,Nat.le_refl _,hm,by simpa using hl,?_⟩⟩,fun x hx _ _=>trivial⟩;exact List.take_of_length_le (by simpa using Nat.le_of_eq hl)
theorem Cx {α:Type} {f:α->List Value} {m:Nat} (hf: ∀x,(f x).length=m): ∀(xs:List α) (k:Nat) (x x':α) (j:Nat) (u:Value),xs[k]? =some x->j < m->(f x).set j u=f x'->(xs.flatMap f).set (k * m + j) u=(xs.set k x').flatMap f
 | [],_,_,_,_,_,h,_,_=>by simp at h
 | y ::xs,0,x,x',j,u,h,hj,hu=>by simp at h; subst h;rw [Nat.zero_mul,Nat.zero_add,List.flatMap_cons,List.set_append_left _ _ (by rw [hf]; exact hj),hu]; rfl
 | y ::xs,k + 1,x,x',j,u,h,hj,hu=>by
   have ih:=Cx hf xs k x x' j u (by simpa using h) hj hu;have e:(k + 1) * m + j=m + (k * m + j):=by rw [Nat.add_mul]; omega
   rw [List.flatMap_cons,List.set_append_right _ _ (by rw [hf,e]; omega),hf,e,Nat.add_sub_cancel_left,ih]; rfl
theorem Grow.set {α:Type} {f:α->List Value} {m:Nat} {ty:TypeId} {B:Nat} {w:World} {g n cap k j:Nat} {u:Value} {xs:List α} {x x':α} (hf: ∀x,(f x).length=m) (h:Grow f m (fun _ _=>True) ty B w (.slice (some ⟨g,0,none⟩) n cap) xs) (hk:xs[k]? =some x) (hj:j < m) (hu:(f x).set j u=f x'):
 Grow f m (fun _ _=>True) ty B (w.setCell ⟨g,k * m + j,none⟩ u) (.slice (some ⟨g,0,none⟩) n cap) (xs.set k x'):=by
 refine ⟨⟨by rw [xE hf,],?_⟩,fun x hx _ _=>trivial⟩;rcases h.own.2 with ⟨h1,-⟩ | ⟨g',cap',cur,h1,h2,h3,h4,h5,h6,h7⟩
 ·cases h1
 ·injection h1 with e1 e2 e3; injection e1 with e1; injection e1 with e1; subst e1; subst e3; subst e2;refine .inr ⟨g,cap,cur.setIfInBounds (k * m + j) u,by rw [List.length_set],h2,aY h3 u,by rw [List.length_set]; exact h4,h5,by simpa using h6,?_⟩;rw [<- Cx hf xs k x x' j u hk hj hu,<- h7,Array.toList_setIfInBounds,List.length_set,List.take_set]
structure PD (T:Tp) (w1:World) (pb:Nat) (W:World) (vD:Value) (ds:List De):Prop where
 box:W.heap[pb]? =some (.cells #[vD,.slice none 0 0] 26 (0,0))
 gd:lY (pb + 1) W vD ds
 ok: ∀d ∈ ds,d.Ok∧gu d=true
 mi:bP W T
 km:Mk T w1 W
 lt:T.bt < w1.heap.size∧T.bm < w1.heap.size∧T.B0<=w1.heap.size∧w1.heap.size<=pb
section
variable {T:Tp} {w1 W W':World} {pb:Nat} {vD:Value} {ds:List De}
theorem PD.sz (h:PD T w1 pb W vD ds):pb + 1<=W.heap.size:=(Array.getElem?_eq_some_iff.1 h.box).1
theorem PD.go (h:PD T w1 pb W vD ds) (hM:Mk T W W') (hI:bP W' T):PD T w1 pb W' vD ds where
 box:=(hM.block pb h.sz (by have:=h.lt; omega) (by have:=h.lt; omega)).trans h.box
 gd:=h.gd.next (hM.sF (by have:=h.lt; omega) (by have:=h.lt; omega))
 ok:=h.ok
 mi:=hI
 km:=h.km.trans hM
 lt:=h.lt
theorem PD.put {wZ:Value} {ds':List De} (h:PD T w1 pb W vD ds) (hg:lY (pb + 1) W wZ ds') (hok: ∀d ∈ ds',d.Ok∧gu d=true):PD T w1 pb (W.setCell ⟨pb,0,none⟩ wZ) wZ ds' where
 box:=by rw [aY h.box]; rfl
 gd:=hg.next (bH _ _ _ (Nat.lt_succ_self _))
 ok:=hok
 mi:=h.mi.set _ _ (by have:=h.lt; show T.B0<=pb; omega) (by have:=h.lt; show pb≠_; omega) (by have:=h.lt; show pb≠_; omega)
 km:=h.km.set _ _ (by have:=h.lt; show _<=pb; omega)
 lt:=h.lt
theorem PD.put' {v0 wZ:Value} {ds':List De} (hb:W.heap[pb]? =some (.cells #[v0,.slice none 0 0] 26 (0,0))) (mi:bP W T) (km:Mk T w1 W) (lt:T.bt < w1.heap.size∧T.bm < w1.heap.size∧T.B0<=w1.heap.size∧w1.heap.size<=pb) (hg:lY (pb + 1) W wZ ds') (hok: ∀d ∈ ds',d.Ok∧gu d=true):PD T w1 pb (W.setCell ⟨pb,0,none⟩ wZ) wZ ds' where
 box:=by rw [aY hb]; rfl
 gd:=hg.next (bH _ _ _ (Nat.lt_succ_self _))
 ok:=hok
 mi:=mi.set _ _ (by show T.B0<=pb; omega) (by show pb≠_; omega) (by show pb≠_; omega)
 km:=km.set _ _ (by show _<=pb; omega)
 lt:=lt
theorem PD.line {k:Nat} {d:De} {l:Int} {g n cap:Nat} (h:PD T w1 pb W (.slice (some ⟨g,0,none⟩) n cap) ds) (hk:ds[k]? =some d) (hl:aD l):PD T w1 pb (W.setCell ⟨g,k * 6 + 1,none⟩ (.int .i64 l)) (.slice (some ⟨g,0,none⟩) n cap) (ds.set k {d with line:=l}) where
 box:=(aW W _ _ rfl (by have:=(h.gd.lt g rfl).1; show g≠_; omega)).trans h.box
 gd:=h.gd.set pQ hk (by decide) rfl
 ok:=fun x hx=>by
  rcases List.mem_or_eq_of_mem_set hx with hx | rfl
  ·exact h.ok x hx
  ·have:=h.ok d (List.mem_of_getElem? hk);exact ⟨⟨this.1.1,hl,this.1.2.2⟩,this.2⟩
 mi:=h.mi.set _ _ (by have:=h.lt; have:=(h.gd.lt g rfl).1; show T.B0<=g; omega) (by have:=h.lt; have:=(h.gd.lt g rfl).1; show g≠_; omega) (by have:=h.lt; have:=(h.gd.lt g rfl).1; show g≠_; omega)
 km:=h.km.set _ _ (by have:=h.lt; have:=(h.gd.lt g rfl).1; show _<=g; omega)
 lt:=h.lt
theorem PD.FJ {l:Int} (h:PD T w1 pb W vD ds) (hl:aD l):PD T w1 pb (W.setCell ⟨T.bm,1,none⟩ (.int .i64 l)) vD ds:=
 h.go ((Mk.refl T W).Dh _ _) (h.mi.line hl)
theorem PD.size_le (h:PD T w1 pb W vD ds): ∀k,vD.ownBlock=some k->k < W.heap.size:=fun k hk=>(h.gd.lt k hk).2
end
def Lj:Array Value:= #[.string ⟨#[116]⟩,.string ⟨#[117]⟩,.string ⟨#[119]⟩,.string ⟨#[122]⟩,.string ⟨#[122,53]⟩]
theorem P6:uj 5 Lj:=fun j hj=>by
 have:j=0∨j=1∨j=2∨j=3∨j=4:=by omega
 rcases this with rfl | rfl | rfl | rfl | rfl <;> exact ⟨_,rfl,by unfold maxLen; decide,by rfl⟩
def WB:Nat:=600000000000
def ShT (t:Th):Prop:=Tk.cO t.nm.data.toList=true∧(∀s ∈ t.cu,Tk.cO s.data.toList=true)∧ql WB t.body∧t.cu.length<=10
structure PI (T:Tp) (w1:World) (pb nb:Nat) (W:World) (vD:Value) (ds:List De) (vT:Value) (jA:List dR):Prop where
 box:W.heap[pb]? =some (.cells #[vD,vT] 26 (0,0))
 nms:W.heap[nb]? =some (.cells Lj 9 (0,0))
 gd:lY (pb + 1) W vD ds
 GZ: ∀k,vD.ownBlock=some k->k < nb
 gt:F5 (nb + 1) W vT jA
 EK: ∀d ∈ ds,d.Ok∧gu d=true
 D7: ∀x ∈ jA,(x.t.Ok∧x.t.cu.length<=x.bG)∧ShT x.t
 mi:bP W T
 km:Mk T w1 W
 lt:T.bt < w1.heap.size∧T.bm < w1.heap.size∧T.B0<=w1.heap.size∧w1.heap.size<=pb∧pb < nb
section
variable {T:Tp} {w1 W W':World} {pb nb:Nat} {vD vT:Value} {ds:List De} {jA:List dR}
theorem PD.pi (h:PD T w1 pb W vD ds):PI T w1 pb W.heap.size (W.alloc (.cells Lj 9)) vD ds (.slice none 0 0) [] where
 box:=(ak W (.cells Lj 9)).block pb h.sz |>.trans h.box
 nms:=heap_alloc_new _ _
 gd:=h.gd.next (aO (ak _ _))
 GZ:=h.size_le
 gt:=Grow.nil _ _ _ _ _ _
 EK:=h.ok
 D7:=by simp
 mi:=h.mi.below (ak _ _)
 km:=h.km.trans (Mk.of_below (ak _ _))
 lt:=⟨h.lt.1,h.lt.2.1,h.lt.2.2.1,h.lt.2.2.2,h.sz⟩
theorem PI.sz (h:PI T w1 pb nb W vD ds vT jA):nb + 1<=W.heap.size:=(Array.getElem?_eq_some_iff.1 h.nms).1
theorem PI.go (h:PI T w1 pb nb W vD ds vT jA) (hM:Mk T W W') (hI:bP W' T):PI T w1 pb nb W' vD ds vT jA where
 box:=(hM.block pb (by have:=h.sz; have:=h.lt; omega) (by have:=h.lt; omega) (by have:=h.lt; omega)).trans h.box
 nms:=(hM.block nb h.sz (by have:=h.lt; omega) (by have:=h.lt; omega)).trans h.nms
 gd:=h.gd.next (hM.sF (by have:=h.lt; omega) (by have:=h.lt; omega))
 GZ:=h.GZ
 gt:=h.gt.next (hM.sF (by have:=h.lt; omega) (by have:=h.lt; omega))
 EK:=h.EK
 D7:=h.D7
 mi:=hI
 km:=h.km.trans hM
 lt:=h.lt
theorem PI.FJ {l:Int} (h:PI T w1 pb nb W vD ds vT jA) (hl:aD l):PI T w1 pb nb (W.setCell ⟨T.bm,1,none⟩ (.int .i64 l)) vD ds vT jA:=
 h.go ((Mk.refl T W).Dh _ _) (h.mi.line hl)
theorem PI.push {x:dR} {g cap n:Nat} (h:PI T w1 pb nb W vD ds vT jA) (hx:dN (nb + 1) vT.ownBlock W (dR.J (nb + 1) x)) (hok:(x.t.Ok∧x.t.cu.length<=x.bG)∧ShT x.t) (hn:n=jA.length + 1) (hown:W'.ownsRow (nb + 1) 47 4 (.slice (some ⟨g,0,none⟩) n cap) n (jA.flatMap dR.f++dR.f x)) (hg:W.grownBy W' vT.ownBlock) (hmv:vT.ownBlock=some g∨g=W.heap.size):
 PI T w1 pb nb (W'.setCell ⟨pb,1,none⟩ (.slice (some ⟨g,0,none⟩) n cap)) vD ds (.slice (some ⟨g,0,none⟩) n cap) (jA++[x]):=by
 have hb:Below (nb + 1) W W':=jI hg (fun k hk=>(h.gt.lt k hk).1) h.sz;have hbx:W'.heap[pb]? =some (.cells #[vD,vT] 26 (0,0)):=(hb.block pb (by have:=h.lt; omega)).trans h.box;refine ⟨by rw [aY hbx]; rfl,(aW W' _ _ rfl (by have:=h.lt; show pb≠_; omega)).trans ((hb.block nb (Nat.lt_succ_self _)).trans h.nms),?_,h.GZ,?_,h.EK,?_,?_,?_,h.lt⟩
 ·refine (h.gd.yX (w':=W') (g:=vT.ownBlock) (lM.xP hg) (fun k hk e=> ?_)).next (bH _ _ _ (Nat.lt_succ_self _));have:=h.GZ k hk; have:=(h.gt.lt k e.symm).1; omega
 ·exact (h.gt.push hx hn hown hg hmv).next (bH _ _ _ (by have:=h.lt; show pb < _; omega))
 ·intro y hy;rcases List.mem_append.1 hy with hy | hy
  ·exact h.D7 y hy
  ·rw [List.mem_singleton.1 hy]; exact hok
 ·exact (h.mi.qo hb (by have:=h.lt; omega) (by have:=h.lt; omega) (by have:=h.lt; omega)).set _ _ (by have:=h.lt; show T.B0<=pb; omega) (by have:=h.lt; show pb≠_; omega) (by have:=h.lt; show pb≠_; omega)
 ·exact (h.km.zl (hb.mono (by have:=h.lt; omega))).set _ _ (by have:=h.lt; show _<=pb; omega)
end
structure TI (T:Tp) (W0:World) (tb:Nat) (W:World) (nm:ByteArray) (line:Int) (vL:Value) (cu:List ByteArray) (vB:Value):Prop where
 box:W.heap[tb]? =some (.cells #[.string nm,.int .i64 line,vL,vB] 47 (0,0))
 gl:nT W0.heap.size W vL cu
 ne: ∀k,vL.ownBlock=some k->k≠tb
 ok:kH nm∧aD line∧(∀s ∈ cu,kH s)∧cu.length<=10
 mi:bP W T
 km:Mk T W0 W
 lt:T.bt < W0.heap.size∧T.bm < W0.heap.size∧T.B0<=W0.heap.size∧W0.heap.size<=tb
section
variable {T:Tp} {W0 W W':World} {tb:Nat} {nm:ByteArray} {line:Int} {vL vB:Value} {cu:List ByteArray}
theorem TI.sz (h:TI T W0 tb W nm line vL cu vB):tb + 1<=W.heap.size:=(Array.getElem?_eq_some_iff.1 h.box).1
theorem TI.go (h:TI T W0 tb W nm line vL cu vB) (hM:Mk T W W') (hI:bP W' T):TI T W0 tb W' nm line vL cu vB where
 box:=(hM.block tb h.sz (by have:=h.lt; omega) (by have:=h.lt; omega)).trans h.box
 gl:=h.gl.next (hM.sF (by have:=h.lt; omega) (by have:=h.lt; omega))
 ne:=h.ne
 ok:=h.ok
 mi:=hI
 km:=h.km.trans hM
 lt:=h.lt
theorem xw {B:Nat} (w:World) (a:Addr) (v:Value):lM B (some a.block) w (w.setCell a v):=lM.xP (dD w a v)
theorem TI.name {s:ByteArray} (h:TI T W0 tb W nm line vL cu vB) (hs:kH s):TI T W0 tb (W.setCell ⟨tb,0,none⟩ (.string s)) s line vL cu vB where
 box:=by rw [aY h.box]; rfl
 gl:=h.gl.yX (xw _ _ _) (fun k hk e=>h.ne k hk (by injection e))
 ne:=h.ne
 ok:=⟨hs,h.ok.2⟩
 mi:=h.mi.set _ _ (by have:=h.lt; show T.B0<=tb; omega) (by have:=h.lt; show tb≠_; omega) (by have:=h.lt; show tb≠_; omega)
 km:=h.km.set _ _ h.lt.2.2.2
 lt:=h.lt
theorem TI.body {v:Value} (h:TI T W0 tb W nm line vL cu vB):TI T W0 tb (W.setCell ⟨tb,3,none⟩ v) nm line vL cu v where
 box:=by rw [aY h.box]; rfl
 gl:=h.gl.yX (xw _ _ _) (fun k hk e=>h.ne k hk (by injection e))
 ne:=h.ne
 ok:=h.ok
 mi:=h.mi.set _ _ (by have:=h.lt; show T.B0<=tb; omega) (by have:=h.lt; show tb≠_; omega) (by have:=h.lt; show tb≠_; omega)
 km:=h.km.set _ _ h.lt.2.2.2
 lt:=h.lt
theorem TI.pG {v0 J3:Value} {pG:List ByteArray} (hb:W.heap[tb]? =some (.cells #[.string nm,.int .i64 line,v0,vB] 47 (0,0))) (hg:nT W0.heap.size W J3 pG) (hne: ∀k,J3.ownBlock=some k->k≠tb) (hok:kH nm∧aD line∧(∀s ∈ pG,kH s)∧pG.length<=10) (mi:bP W T) (km:Mk T W0 W) (lt:T.bt < W0.heap.size∧T.bm < W0.heap.size∧T.B0<=W0.heap.size∧W0.heap.size<=tb):
 TI T W0 tb (W.setCell ⟨tb,2,none⟩ J3) nm line J3 pG vB where
 box:=by rw [aY hb]; rfl
 gl:=hg.yX (xw _ _ _) (fun k hk e=>hne k hk (by injection e))
 ne:=hne
 ok:=hok
 mi:=mi.set _ _ (by show T.B0<=tb; omega) (by show tb≠_; omega) (by show tb≠_; omega)
 km:=km.set _ _ lt.2.2.2
 lt:=lt
end
theorem M7:(Tryz.prog.info? 47).map (fun i=>(i.zero,i.size,i.bytes))=some (some (.agg #[.string ⟨#[]⟩,.int .i64 0,.slice none 0 0,.slice none 0 0]),4,72):=by kernel_rfl
theorem MI: ∃i0,Tryz.prog.info? 47=some i0∧i0.zero=some (.agg #[.string ⟨#[]⟩,.int .i64 0,.slice none 0 0,.slice none 0 0])∧i0.size=4∧i0.bytes=72:=info_parts M7
theorem MJ:(Tryz.prog.info? 47).map (·.size)=some 4:=by kernel_rfl
theorem MK (x:dR): ∀u ∈ dR.f x,u.oneCell'=true:=by
 intro u hu; simp [dR.f] at hu;rcases hu with rfl | rfl | rfl | rfl <;> rfl
theorem M8:(Tryz.prog.info? 9).map (fun i=>(i.zero,i.size,i.bytes))=some (some (.string ⟨#[]⟩),1,16):=by kernel_rfl
theorem MO: ∃i0,Tryz.prog.info? 9=some i0∧i0.zero=some (.string ⟨#[]⟩)∧i0.size=1∧i0.bytes=16:=info_parts M8
end Go.Proofs.YtkajcclnlehkmaaGreatDoor
