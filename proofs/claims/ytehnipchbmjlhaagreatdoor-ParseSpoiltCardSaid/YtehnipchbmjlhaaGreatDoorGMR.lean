/-
  Contracts of the maker's stmts and stmt: they return shaped statements that lie in new memory.
  Contract of the maker's decl: it returns a shaped declaration.
-/
import Derived.Test.YtehnipchbmjlhaaGreatDoorGMQ
import Derived.Test.YtehnipchbmjlhaaGreatDoorGMB
set_option linter.unusedSimpArgs false
set_option linter.unusedVariables false
set_option maxHeartbeats 40000000
set_option maxRecDepth 1000000
section
namespace Go.Proofs.YtehnipchbmjlhaaGreatDoor
open Go.RowKit
open Md
theorem mY {B:Nat} {w w':World} {g:Option Nat} (h:w.grownBy w' g) (hg: ∀k,g=some k→B≤k) (hB:B≤w.heap.size):Below B w w':=
 ⟨h.os,h.tape,h.output,h.size,fun k hk=>h.block k (by omega) (fun e=>by have:=hg k e.symm; omega)⟩
theorem dI.tT {B:Nat} {w w':World} {T:Tp} (h:dI w T) (hb:Below B w w') (h1:T.bt < B) (h2:T.bm < B) (h3:T.B0≤B):dI w' T:=by
 obtain ⟨x,k1,k2⟩:=h.tape.blk
 obtain ⟨l,m,k3,k4,k5,k6⟩:=h.uX
 exact ⟨⟨⟨x,k1,(hb.block _ h1).trans k2⟩,h.tape.GV.below (hb.mono h3),h.tape.len⟩,⟨l,m,k3,k4,k5,(hb.block _ h2).trans k6⟩⟩
theorem Mk.EN {T:Tp} {w W W':World} (h:Mk T w W) (hb:Below w.heap.size W W'):Mk T w W':=
 ⟨hb.os.trans h.os,hb.tape.trans h.tape,hb.output.trans h.output,Nat.le_trans h.size hb.size,fun k hk h1 h2=>(hb.block k hk).trans (h.block k hk h1 h2)⟩
theorem Dw {q:Nat} : ∀l:List dG,(∀x ∈ l,vJ x.h + 2 * jU x.b + 2 * jU x.e≤q)→jU (je l)≤l.length * q
 | [],_=>Nat.zero_le _
 | x ::r,h=>by
   have h1:=h x List.mem_cons_self
   have h2:=Dw r (fun y hy=>h y (List.mem_cons_of_mem _ hy))
   show vJ x.h + 2 * jU x.b + 2 * jU x.e + jU (je r)≤(r.length + 1) * q
   rw [Nat.add_mul]; omega
theorem VO (x:dG): ∀u ∈ dG.f x,u.oneCell'=true:=by
 intro u hu; simp [dG.f] at hu
 rcases hu with rfl | rfl | rfl | rfl | rfl | rfl | rfl | rfl | rfl | rfl | rfl <;> rfl
theorem DW (T:Tp) (d:Int) (hst:Ee T d):zk T d:=by
 intro w n hI hn1 hn2
 have HST:=Lib.hid hst
 have HI:=Lib.hid hI
 have bq:Hid (T.bt < w.heap.size∧T.bm < w.heap.size∧T.B0≤w.heap.size):=Lib.hid ⟨hI.tape.lt,hI.lt,hI.tape.b0⟩
 obtain ⟨Ub,hn4⟩:=hn1
 obtain ⟨i0,hi,hz0,hz1,hz2⟩:=Vn
 have jV:=Lib.hid (And.intro hi (And.intro hz0 (And.intro hz1 hz2)))
 clear hst hI hi hz0 hz1 hz2
 go_enter Tryz.func29,Tryz.ntmps29
 go_wp2_with fail
 go_loopw [7,8] (fun v7 v8 wr=> ∃(k:Nat) (l:List dG),v8= .int .i64 k∧k≤n.toNat∧l.length=k∧wR w.heap.size wr v7 l∧(∀x ∈ l,mO x.h x.b x.e∧AB (GS d.toNat) x.h x.b x.e)∧dI wr T∧Mk T w wr) (fun _ i _=>(n - intOf i).toNat)
 case atStart=>exact ⟨0,[],rfl,Nat.zero_le _,rfl,Grow.nil _ _ _ _ _ _,by simp,HI.out,Mk.refl _ _⟩
 case round=>
  obtain ⟨k,l,rfl,hk,hl,hg,hok,WQ,hmk⟩:=hrel
  obtain ⟨line,left,h1,h2,h3,hblk⟩:=WQ.uX
  have HL:=Lib.hid hl
  have HG:=Lib.hid hg
  have gq:=Lib.hid hok
  have YH:=Lib.hid WQ
  have TY:=Lib.hid hmk
  have Uq:=Lib.hid (And.intro h1 (And.intro h3 hblk))
  have c2:wr.cell? ⟨T.bm,2,none⟩=some (.int .i64 left):=(dB hblk (j:=2) rfl).2
  clear hl hg hok WQ hmk h1 h3 hblk
  by_cases hlt:(k:Int) < n
  ·by_cases hlf:0 < left
   ·go_wp2_with fail
    refine (HST.out _ YH.out ⟨line,left,Uq.out.1,hlf,Uq.out.2.1,Uq.out.2.2⟩).mono ?_
    rintro e w1 ⟨h,b,e',s,rfl,Ba,RN,hM,hI1⟩
    have uM:=Lib.hid (HG.out.next (hM.zm bq.out.1 bq.out.2.1))
    have ZC:=Lib.hid (TY.out.trans hM)
    have HI1:=Lib.hid hI1
    have ak9:=Lib.hid (And.intro RN.1 Ba)
    have HX:=Lib.hid RN.2
    have iD:=Lib.hid hM.size
    have aX:=Lib.hid HG.out.lt
    clear hM hI1 RN Ba HG Uq c2
    unfold bP
    have nC:=Lib.hid (uM.out.next (aL (ah w1 (.cells (dG.f ⟨h,b,e',s⟩).toArray 89))))
    have qC:=Lib.hid (mJ (heap_alloc_new w1 (.cells (dG.f ⟨h,b,e',s⟩).toArray 89)))
    have LG:Hid (w.heap.size≤w1.heap.size):=Lib.hid ZC.out.size
    obtain ⟨hi,hz0,hz1,hz2⟩:=jV.out
    have hbs:w.heap.size≤w1.heap.size + 1:=Nat.le_succ_of_le LG.out
    have hkl:l.length + 1≤maxLen:=by rw [HL.out]; unfold maxLen; omega
    have wM:(l.length + 1) * 176≤140737488355328:=by rw [HL.out]; omega
    go_wp2_with (at_builtin; refine wpList_append_lies _ rfl _ _ 65 rfl w.heap.size 89 i0 _ 11 176 Tryz.underlying65 hi hz0 hz1 hz2 rfl (by decide) _ _ _ rfl nC.out.own ⟨w1.heap.size,0,none⟩ 1 1 (dG.f ⟨h,b,e',s⟩) rfl rfl qC.out (VO _) (by decide) hkl wM (by simpa using hbs) _ rfl ?_)
    clear hi hz0 hz1 hz2
    intro g cap w2 hown hgr hmv hlt2
    have gN:Hid (dS w.heap.size u7.ownBlock (w1.alloc (.cells (dG.f ⟨h,b,e',s⟩).toArray 89)) (dG.I ⟨h,b,e',s⟩)):=Lib.hid (oM (HX.out.next (aL (ah _ _))) TY.out.size (fun k hk=>(aX.out k hk).2))
    have HG2:=Lib.hid (nC.out.push gN.out rfl hown hgr (by simpa using hmv))
    have HB2:Hid (Below w.heap.size (w1.alloc (.cells (dG.f ⟨h,b,e',s⟩).toArray 89)) w2):=Lib.hid (mY hgr (fun k hk=>(aX.out k hk).1) (by simpa using hbs))
    have YX:Hid (Below w.heap.size w1 (w1.alloc (.cells (dG.f ⟨h,b,e',s⟩).toArray 89))):=Lib.hid ((ah _ _).mono LG.out)
    have MI:=Lib.hid ((HI1.out.tT YX.out bq.out.1 bq.out.2.1 bq.out.2.2).tT HB2.out bq.out.1 bq.out.2.1 bq.out.2.2)
    have ap2:=Lib.hid ((ZC.out.EN YX.out).EN HB2.out)
    have al7:Hid (∀x ∈ l++[(⟨h,b,e',s⟩:dG)],mO x.h x.b x.e∧AB (GS d.toNat) x.h x.b x.e):=Lib.hid (fun x hx=>by
     rcases List.mem_append.1 hx with hx | hx
     ·exact gq.out x hx
     ·rw [List.mem_singleton.1 hx]; exact ak9.out)
    clear hown hgr hmv hlt2 hbs hkl wM gN HX qC nC HB2 YX
    go_wp2_with fail
    go_roundw
    case rel=>exact ⟨k + 1,l++[⟨h,b,e',s⟩],by go_num,by omega,by simp [HL.out],HG2.out,al7.out,MI.out,ap2.out⟩
    case measure=>simp [intOf]; omega
   ·have hlz:left=0:=by omega
    subst hlz
    go_wp2_with fail
    go_ret
    obtain ⟨ao,cap,e,hst⟩:=HG.out.says (fun x hx=>(gq.out x hx).1)
    exact ⟨je l,ao,cap,by rw [e]; rfl,⟨by rw [qA,HL.out]; omega,AA l (fun x hx=>(gq.out x hx).2.1),Nat.le_trans (Dw l (fun x hx=>(gq.out x hx).2.2)) (Nat.mul_le_mul_right _ (by rw [HL.out]; exact hk))⟩,hst,TY.out,YH.out⟩
  ·go_wp2_with fail
   go_ret
   obtain ⟨ao,cap,e,hst⟩:=HG.out.says (fun x hx=>(gq.out x hx).1)
   exact ⟨je l,ao,cap,by rw [e]; rfl,⟨by rw [qA,HL.out]; omega,AA l (fun x hx=>(gq.out x hx).2.1),Nat.le_trans (Dw l (fun x hx=>(gq.out x hx).2.2)) (Nat.mul_le_mul_right _ (by rw [HL.out]; exact hk))⟩,hst,TY.out,YH.out⟩
theorem IE (T:Tp): ∀d:Nat,d≤100→Ee T (d:Int)
 | 0,h=>GK T 0 h (fun d' e=>by omega)
 | d + 1,h=>GK T (d + 1) h (fun d' e=>by
   obtain rfl:d=d':=by omega
   exact DW T _ (IE T d (by omega)))
theorem Gz (T:Tp) (d:Nat) (h:d≤100):zk T (d:Int):=DW T _ (IE T d h)
end Go.Proofs.YtehnipchbmjlhaaGreatDoor
end
section
namespace Go.Proofs.YtehnipchbmjlhaaGreatDoor
open Go.RowKit
open Md
def TG:Array Value:= #[.string ⟨#[120]⟩,.string ⟨#[121]⟩,.string ⟨#[118]⟩,.string ⟨#[113]⟩,.string ⟨#[109]⟩,.string ⟨#[110]⟩,.string ⟨#[114]⟩,.string ⟨#[99]⟩,.string ⟨#[100]⟩,.string ⟨#[102]⟩,.string ⟨#[103]⟩,.string ⟨#[116]⟩]
theorem Ml:Aa 12 TG:=fun j hj=>by
 have:j=0∨j=1∨j=2∨j=3∨j=4∨j=5∨j=6∨j=7∨j=8∨j=9∨j=10∨j=11:=by omega
 rcases this with rfl | rfl | rfl | rfl | rfl | rfl | rfl | rfl | rfl | rfl | rfl | rfl <;> exact ⟨_,rfl,by unfold maxLen; decide,by rfl⟩
def Mr:Array Value:= #[.int .i64 0,.int .i64 0,.string ⟨#[]⟩,.int .i64 0,.int .i64 0,.string ⟨#[]⟩]
def Ld (d:De):Value:= .agg #[.int .i64 d.kind,.int .i64 d.line,.string d.nm,.int .i64 d.size,.int .i64 d.init,.string d.on]
def d0 (r l:Int) (s:ByteArray):De:=⟨r,l,s,0,0,⟨#[]⟩⟩
def ak2 (T:Tp) (w:World) (e':Ending) (w':World):Prop:= ∃d,e'= .returned (Ld d)∧(d.Ok∧jv d=true)∧Mk T w w'∧dI w' T
def Xg:Array Value:= #[.int .i64 0,.int .i64 0,.int .i64 1,.int .i64 2,.int .i64 4,.int .i64 5]
theorem XM: ∀j,j < 6→ ∃z,Xg[j]? =some (.int .i64 z)∧0≤z∧z≤5:=fun j hj=>by
 have:j=0∨j=1∨j=2∨j=3∨j=4∨j=5:=by omega
 rcases this with rfl | rfl | rfl | rfl | rfl | rfl <;> exact ⟨_,rfl,by decide,by decide⟩
def XG:Array Value:= #[.int .i64 0,.int .i64 0,.int .i64 1,.int .i64 (-1),.int .i64 9223372036854775807,.int .i64 (-9223372036854775807)]
theorem Zi: ∀j,j < 6→ ∃z,XG[j]? =some (.int .i64 z)∧aM z∧(z != -9223372036854775808)=true:=fun j hj=>by
 have:j=0∨j=1∨j=2∨j=3∨j=4∨j=5:=by omega
 rcases this with rfl | rfl | rfl | rfl | rfl | rfl <;> exact ⟨_,rfl,by unfold aM; decide,by decide⟩
theorem shD {r:Nat} {l z i:Int} {s o:ByteArray} (h1:1≤r) (h2:r≤6) (hs:Tk.gM s.data.toList=true) (hz:z=0∨(r=1∧0≤z∧z≤5)) (hi:(i != -9223372036854775808)=true∧(i=0∨r≤2)) (ho:jw o ((r:Int) == 5)=true):
 jv {d0 r l s with size:=z,init:=i,on:=o} =true:=by
 unfold jv d0
 dsimp only
 have a1:(1:Int)≤(r:Int):=by omega
 have a2:(r:Int)≤6:=by omega
 have a3:0≤z:=by omega
 have a4:z=0∨(r:Int)=1:=by omega
 have a5:i=0∨((r:Int)=1∨(r:Int)=2):=by omega
 rw [hs,ho,hi.1]
 simp [a1,a2,a3,a4,a5]
structure DI (T:Tp) (w:World) (ng db:Nat) (W:World) (d:De):Prop where
 box:W.heap[db]? =some (.cells (gF d).toArray 62 (0,0))
 ok:d.Ok
 nms:W.heap[ng]? =some (.cells TG 9 (0,0))
 mi:dI W T
 km:Mk T w W
 z:W.heap[w.heap.size]? =some (.cells Mr 62 (0,0))
 lt:w.heap.size < ng∧ng < db
 tb:T.bt < w.heap.size∧T.bm < w.heap.size∧T.B0≤w.heap.size
section
variable {T:Tp} {w W W':World} {ng db:Nat} {d:De}
theorem DI.sz (hS:DI T w ng db W d):db + 1≤W.heap.size:=(Array.getElem?_eq_some_iff.1 hS.box).1
theorem DI.go (hS:DI T w ng db W d) (hM:Mk T W W') (hI:dI W' T):DI T w ng db W' d where
 box:=(hM.block db hS.sz (by have:=hS.tb; have:=hS.lt; omega) (by have:=hS.tb; have:=hS.lt; omega)).trans hS.box
 ok:=hS.ok
 nms:=(hM.block ng (Array.getElem?_eq_some_iff.1 hS.nms).1 (by have:=hS.tb; have:=hS.lt; omega) (by have:=hS.tb; have:=hS.lt; omega)).trans hS.nms
 mi:=hI
 km:=hS.km.trans hM
 z:=(hM.block _ (Array.getElem?_eq_some_iff.1 hS.z).1 (by have:=hS.tb; omega) (by have:=hS.tb; omega)).trans hS.z
 lt:=hS.lt
 tb:=hS.tb
theorem DI.put {d':De} (hS:DI T w ng db W d) (j:Nat) (v:Value) (hv:(gF d).toArray.setIfInBounds j v=(gF d').toArray) (hs:d'.Ok):DI T w ng db (W.setCell ⟨db,j,none⟩ v) d' where
 box:=by rw [aW hS.box,hv]
 ok:=hs
 nms:=(aN W _ _ rfl (by have:=hS.lt; show db≠_; omega)).trans hS.nms
 mi:=hS.mi.set _ _ (by have:=hS.tb; have:=hS.lt; show T.B0≤db; omega) (by have:=hS.tb; have:=hS.lt; show db≠_; omega) (by have:=hS.tb; have:=hS.lt; show db≠_; omega)
 km:=hS.km.set _ _ (by have:=hS.lt; show _≤db; omega)
 z:=(aN W _ _ rfl (by have:=hS.lt; show db≠_; omega)).trans hS.z
 lt:=hS.lt
 tb:=hS.tb
theorem DI.size (hS:DI T w ng db W d) (k:Int) (hk:aM k):DI T w ng db (W.setCell ⟨db,3,none⟩ (.int .i64 k)) {d with size:=k} :=
 hS.put 3 _ rfl ⟨hS.ok.1,hS.ok.2.1,hS.ok.2.2.1,hk,hS.ok.2.2.2.2⟩
theorem DI.init (hS:DI T w ng db W d) (k:Int) (hk:aM k):DI T w ng db (W.setCell ⟨db,4,none⟩ (.int .i64 k)) {d with init:=k} :=
 hS.put 4 _ rfl ⟨hS.ok.1,hS.ok.2.1,hS.ok.2.2.1,hS.ok.2.2.2.1,hk,hS.ok.2.2.2.2.2⟩
theorem DI.on (hS:DI T w ng db W d) (s:ByteArray) (hk:s.size≤maxLen):DI T w ng db (W.setCell ⟨db,5,none⟩ (.string s)) {d with on:=s} :=
 hS.put 5 _ rfl ⟨hS.ok.1,hS.ok.2.1,hS.ok.2.2.1,hS.ok.2.2.2.1,hS.ok.2.2.2.2.1,hk⟩
theorem dC (hS:DI T w ng db W d):W.cell? ⟨db,0,none⟩=some (.int .i64 d.kind)∧W.cell? ⟨db,1,none⟩=some (.int .i64 d.line)∧W.cell? ⟨db,2,none⟩=some (.string d.nm)∧W.cell? ⟨db,3,none⟩=some (.int .i64 d.size)∧W.cell? ⟨db,4,none⟩=some (.int .i64 d.init)∧W.cell? ⟨db,5,none⟩=some (.string d.on):=
 ⟨aj hS.box rfl,aj hS.box rfl,aj hS.box rfl,aj hS.box rfl,aj hS.box rfl,aj hS.box rfl⟩
end
theorem UY:(Tryz.prog.info? 62).map (·.size)=some 6:=by kernel_rfl
theorem Td (T:Tp) (w:World) (hI:dI w T):Calls Tryz.prog 28 #[.pointer (some ⟨T.bm,0,none⟩)] w (ak2 T w):=by
 obtain ⟨line,left,hl1,hl2,hl3,hblk⟩:=hI.uX
 have HI0:=Lib.hid hI
 have bq:Hid (T.bt < w.heap.size∧T.bm < w.heap.size∧T.B0≤w.heap.size):=Lib.hid ⟨HI0.out.tape.lt,HI0.out.lt,HI0.out.tape.b0⟩
 have Ez:=hI.lt
 have c1:w.cell? ⟨T.bm,1,none⟩=some (.int .i64 line):=(dB hblk (j:=1) rfl).2
 have f1:w.frozen? ⟨T.bm,1,none⟩=false:=aF hblk
 clear hI hblk hl1
 go_enter Tryz.func28,Tryz.ntmps28
 go_upto_region 3 with fail
 generalize hW:World.alloc (World.alloc (World.setCell w _ _) _) _=W
 have HB:Hid (Below (w.setCell ⟨T.bm,1,none⟩ (.int .i64 (wrap64 (line + 1)))).heap.size (w.setCell ⟨T.bm,1,none⟩ (.int .i64 (wrap64 (line + 1)))) W):=Lib.hid (by rw [← hW]; exact (ah _ _).alloc (by simp) _)
 have HM:Hid (Mk T w W):=Lib.hid (((Mk.refl T w).Ic _ _).trans (Mk.of_below HB.out))
 have HI:Hid (dI W T):=Lib.hid ((HI0.out.line (zG _)).below HB.out)
 have HZ:Hid (W.heap[w.heap.size]? =some (.cells Mr 62 (0,0))):=Lib.hid (by
  rw [← hW]
  have e:(World.setCell w ⟨T.bm,1,none⟩ (.int .i64 (wrap64 (line + 1)))).heap.size=w.heap.size:=by simp [World.setCell]
  rw [heap_alloc_old _ _ (by simp [World.setCell]),← e]; exact heap_alloc_new _ _)
 have HN:Hid (W.heap[w.heap.size + 1]? =some (.cells TG 9 (0,0))):=Lib.hid (by
  rw [← hW]
  have e:(World.alloc (World.setCell w ⟨T.bm,1,none⟩ (.int .i64 (wrap64 (line + 1)))) (.cells Mr 62)).heap.size=w.heap.size + 1:=by simp [World.setCell]
  rw [← e]; exact heap_alloc_new _ _)
 clear hW c1 f1 Ez hl2 hl3
 have K0: ∀w',dI w' T→w'.cell? ⟨T.bm,0,none⟩=some (.pointer (some ⟨T.bt,0,none⟩)):=fun w' h=>h.ptr
 have KN: ∀w',Mk T W w'→ ∀j,j < 12→ ∃s,w'.cell? ⟨w.heap.size + 1,j,none⟩=some (.string s)∧nU s:=fun w' h j hj=>by
  have hb:=(h.block _ (Array.getElem?_eq_some_iff.1 HN.out).1 (by have:=bq.out; omega) (by have:=bq.out; omega)).trans HN.out
  obtain ⟨s,h1,h2⟩:=Ml j hj
  exact ⟨s,(dB hb h1).2,h2⟩
 have hd1:Mk T W (W.drewN 1):=Mk.of_below (below_drewN (Below.refl _ _) 1)
 have hd2:dI (W.drewN 1) T:=HI.out.below (below_drewN (Below.refl _ _) 1)
 have oD:Hid (w.heap.size + 1 < W.heap.size):=Lib.hid (Array.getElem?_eq_some_iff.1 HN.out).1
 refine dY (by kernel_rfl) rfl ?_
 refine dN 0 22 [] [[],[0],[0,1],[0,1,2],[0,1,2,3],[0,1,2,3,4],[],[6],[6,7],[6,7,8],[],[],[11],[11,12],[11,12,13],[],[15],[0,1,2,3,4,11,12,13,14,15,16],[0,1,2,3,4,10,11,12,13,14,15,16,17],[0,1,2,3,4,10,11,12,13,14,15,16,17,18],[0,1,2,3,4,5,6,7,8,9,10,11,12,13,14,15,16,17,18,19],[],[0,1,2,3,4,5,6,7,8,9,10,11,12,13,14,15,16,17,18,19,20,21]] [[],[],[],[],[],[],[],[],[],[],[],[],[],[],[],[],[],[],[],[],[],[]] (fun _ w'=>Mk T W w'∧dI w' T) (fun w w'=>Mk T w w') [13,14,15,16,17,18,19,20,21,22,23,24,25,26,27,28,29,30,31,32,33,4] rfl rfl (by rfl) (by kernel_rfl) (by kernel_rfl) (by kernel_rfl) (by kernel_rfl) (by kernel_rfl) (by rfl) (fun _=>Mk.refl _ _) (by rfl) ⟨hd1,hd2⟩ ?_
 simp only [List.take_succ_cons,List.take_zero,List.drop_zero,List.drop_succ_cons,jR,List.map_cons,List.map_nil]
 apply aI.step
 case aG=>
  intro c A w' hok hC hO hD
  have e0:=hO 0 (by rfl)
  simp [Act.eval] at e0
  simp [aC,aB,au,Act.eval,Region.binds] at hD
  simp [go_sem,gd,Oper.wp,hD,e0]
  exact aA.mk (Mk.refl _ _) hC (aB.mk _ _)
 apply aI.step
 case aG=>
  intro c A w' hok hC hO hD
  simp [aC,aB,au,Act.eval,Region.binds] at hD
  simp [go_sem,gd,Oper.wp,hD]
  exact aA.mk (Mk.refl _ _) hC (aB.mk _ _)
 apply aI.step
 case aG=>
  intro c A w' hok hC hO hD
  simp [aC,aB,au,Act.eval,Region.binds] at hD
  simp [go_sem,gd,Oper.wp,hD]
  exact aA.mk (Mk.refl _ _) hC (aB.mk _ _)
 apply aI.step
 case aG=>
  intro c A w' hok hC hO hD
  simp [aC,aB,au,Act.eval,Region.binds] at hD
  simp [go_sem,gd,Oper.wp,hD,K0,hC.2]
  exact aA.mk (Mk.refl _ _) hC (aB.mk _ _)
 simp only [List.nil_append,List.cons_append]
 refine aI.some (fun v _=> ∃r:Nat,v= .int .i64 (r:Int)∧r < 6) (fun _ _ _ _ h=>h) ?_ ?_
 ·intro c A w' hok hC hO hD
  simp [aC,aB,au,Act.eval,Region.binds] at hD
  simp [go_sem,gd,Oper.wp,hD]
  refine (dR T 6 w' (by unfold aM; decide) hC.2).mono ?_
  rintro e w2 ⟨r,rfl,h0,h1,-,hM,hI⟩
  obtain ⟨r',rfl⟩:=Int.eq_ofNat_of_zero_le h0
  exact aA.mk hM ⟨hC.1.trans hM,hI⟩ ⟨r',rfl,by have:=h1 (by decide); omega⟩
 simp only [List.nil_append,List.cons_append]
 refine aI.some (fun v w'=> ∃r:Nat,v= .int .i64 (r:Int)∧1≤r∧r≤6) (fun _ _ _ _ h=>h) ?_ ?_
 ·intro c A w' hok hC hO hD
  simp [aC,aB,au,Act.eval,Region.binds] at hD
  obtain ⟨r,hr,Ip⟩:=hD
  have hw:IntKind.i64.wrap (1 + (r:Int))=1 + r:=IntWalk.i64_in _ (by omega)
  simp [go_sem,gd,Oper.wp,hr,hw]
  exact aA.mk (Mk.refl _ _) hC (⟨1 + r,by simp,by omega,by omega⟩)
 simp only [List.nil_append,List.cons_append]
 apply aI.step
 case aG=>
  intro c A w' hok hC hO hD
  have e0:=hO 0 (by rfl)
  simp [Act.eval] at e0
  simp [aC,aB,au,Act.eval,Region.binds] at hD
  simp [go_sem,gd,Oper.wp,hD,e0]
  exact aA.mk (Mk.refl _ _) hC (aB.mk _ _)
 apply aI.step
 case aG=>
  intro c A w' hok hC hO hD
  simp [aC,aB,au,Act.eval,Region.binds] at hD
  simp [go_sem,gd,Oper.wp,hD]
  exact aA.mk (Mk.refl _ _) hC (aB.mk _ _)
 apply aI.step
 case aG=>
  intro c A w' hok hC hO hD
  simp [aC,aB,au,Act.eval,Region.binds] at hD
  simp [go_sem,gd,Oper.wp,hD]
  exact aA.mk (Mk.refl _ _) hC (aB.mk _ _)
 simp only [List.nil_append,List.cons_append]
 refine aI.some (fun v w'=> ∃l:Int,v= .int .i64 l∧aM l) (fun _ _ _ _ h=>h) ?_ ?_
 ·intro c A w' hok hC hO hD
  simp [aC,aB,au,Act.eval,Region.binds] at hD
  obtain ⟨l,hc,hl⟩:=hC.2.ln
  simp [go_sem,gd,Oper.wp,hD,hc]
  exact aA.mk (Mk.refl _ _) hC (⟨l,rfl,hl⟩)
 simp only [List.nil_append,List.cons_append]
 apply aI.step
 case aG=>
  intro c A w' hok hC hO hD
  have e3:=hO 3 (by rfl)
  simp [Act.eval] at e3
  simp [aC,aB,au,Act.eval,Region.binds] at hD
  simp [go_sem,gd,Oper.wp,hD,e3]
  exact aA.mk (Mk.refl _ _) hC (aB.mk _ _)
 apply aI.step
 case aG=>
  intro c A w' hok hC hO hD
  have e0:=hO 0 (by rfl)
  simp [Act.eval] at e0
  simp [aC,aB,au,Act.eval,Region.binds] at hD
  simp [go_sem,gd,Oper.wp,hD,e0]
  exact aA.mk (Mk.refl _ _) hC (aB.mk _ _)
 apply aI.step
 case aG=>
  intro c A w' hok hC hO hD
  simp [aC,aB,au,Act.eval,Region.binds] at hD
  simp [go_sem,gd,Oper.wp,hD]
  exact aA.mk (Mk.refl _ _) hC (aB.mk _ _)
 apply aI.step
 case aG=>
  intro c A w' hok hC hO hD
  simp [aC,aB,au,Act.eval,Region.binds] at hD
  simp [go_sem,gd,Oper.wp,hD]
  exact aA.mk (Mk.refl _ _) hC (aB.mk _ _)
 simp only [List.nil_append,List.cons_append]
 apply aI.step
 case aG=>
  intro c A w' hok hC hO hD
  simp [aC,aB,au,Act.eval,Region.binds] at hD
  simp [go_sem,gd,Oper.wp,hD,K0,hC.2]
  exact aA.mk (Mk.refl _ _) hC (aB.mk _ _)
 apply aI.step
 case aG=>
  intro c A w' hok hC hO hD
  have e3:=hO 3 (by rfl)
  simp [Act.eval] at e3
  simp [aC,aB,au,Act.eval,Region.binds] at hD
  simp [go_sem,gd,Oper.wp,hD,e3]
  exact aA.mk (Mk.refl _ _) hC (aB.mk _ _)
 apply aI.step
 case aG=>
  intro c A w' hok hC hO hD
  simp [aC,aB,au,Act.eval,Region.binds] at hD
  simp [go_sem,gd,Oper.wp,hD]
  exact aA.mk (Mk.refl _ _) hC (aB.mk _ _)
 simp only [List.nil_append,List.cons_append]
 refine aI.some (fun v _=> ∃r:Nat,v= .int .i64 (r:Int)∧r < 12) (fun _ _ _ _ h=>h) ?_ ?_
 ·intro c A w' hok hC hO hD
  simp [aC,aB,au,Act.eval,Region.binds] at hD
  simp [go_sem,gd,Oper.wp,hD]
  refine (dR T 12 w' (by unfold aM; decide) hC.2).mono ?_
  rintro e w2 ⟨r,rfl,h0,h1,-,hM,hI⟩
  obtain ⟨r',rfl⟩:=Int.eq_ofNat_of_zero_le h0
  exact aA.mk hM ⟨hC.1.trans hM,hI⟩ ⟨r',rfl,by have:=h1 (by decide); omega⟩
 simp only [List.nil_append,List.cons_append]
 refine aI.some (fun v w'=> ∃r:Nat,v= .pointer (some ⟨w.heap.size + 1,r,none⟩)∧r < 12) (fun _ _ _ _ h=>h) ?_ ?_
 ·intro c A w' hok hC hO hD
  simp [aC,aB,au,Act.eval,Region.binds] at hD
  obtain ⟨h46,r,hr,h1⟩:=hD
  have hb0:(0:Int)≤(r:Int):=by omega
  have hb1:(r:Int) < 12:=by omega
  simp [go_sem,gd,Oper.wp,h46,hr,hb0,hb1]
  exact aA.mk (Mk.refl _ _) hC (⟨r,rfl,h1⟩)
 simp only [List.nil_append,List.cons_append]
 refine aI.some (fun v w'=> ∃s:ByteArray,v= .string s∧nU s) (fun _ _ _ _ h=>h) ?_ ?_
 ·intro c A w' hok hC hO hD
  simp [aC,aB,au,Act.eval,Region.binds] at hD
  obtain ⟨r,hr,h1⟩:=hD
  obtain ⟨s,hs,hsz⟩:=KN w' hC.1 r h1
  simp [go_sem,gd,Oper.wp,hr,hs]
  exact aA.mk (Mk.refl _ _) hC (⟨s,rfl,hsz⟩)
 simp only [List.nil_append,List.cons_append]
 refine aI.some (fun v w'=> ∃(r:Nat) (l:Int) (s:ByteArray),v=Ld (d0 r l s)∧1≤r∧r≤6∧aM l∧nU s) (fun _ _ _ _ h=>h) ?_ ?_
 ·intro c A w' hok hC hO hD
  simp [aC,aB,au,Act.eval,Region.binds] at hD
  obtain ⟨⟨r,hr,h1,h2⟩,⟨l,hl,h3⟩,s,hs,h4⟩:=hD
  simp [go_sem,gd,Oper.wp,hr,hl,hs]
  exact aA.mk (Mk.refl _ _) hC (⟨r,l,s,rfl,h1,h2,h3,h4⟩)
 simp only [List.nil_append,List.cons_append]
 refine aI.some (fun v w'=> ∃db,v= .pointer (some ⟨db,0,none⟩)∧W.heap.size≤db∧w'.heap[db]? =some (.cells Mr 62 (0,0))) ?_ ?_ ?_
 ·rintro v w1 w' hle ⟨g,h1,h2,h3⟩
  exact ⟨g,h1,h2,(hle.block g (Array.getElem?_eq_some_iff.1 h3).1 (by have:=bq.out; have:=oD.out; omega) (by have:=bq.out; have:=oD.out; omega)).trans h3⟩
 ·intro c A w' hok hC hO hD
  simp [go_sem,gd,Oper.wp]
  exact aA.mk (d:=_) (v:= .pointer (some ⟨_,0,none⟩)) (Mk.of_below (ah _ _)) ⟨hC.1.trans (Mk.of_below (ah _ _)),hC.2.below (ah _ _)⟩ ⟨_,rfl,hC.1.size,heap_alloc_new _ _⟩
 simp only [List.nil_append,List.cons_append]
 refine aI.done ?_
 intro wz eY
 simp only [List.drop_zero]
 intro v0 h0 v1 h1 v2 h2 v3 h3 v4 h4 v5 h5 v6 h6 v7 h7 v8 h8 v9 h9 v10 h10 v11 h11 v12 h12 v13 Cv v14 M9 v15 Mj v16 h16 v17 OO v18 h18 v19 h19 v20 h20 v21 h21
 obtain ⟨r,l,s,rfl,hr1,hr2,zh,hs⟩:=h20
 obtain ⟨db,rfl,BO,vX⟩:=h21
 clear h0 h1 h2 h3 h4 h5 h6 h7 h8 h9 h10 h11 h12 Cv M9 Mj h16 OO h18 h19 K0 KN hd1 hd2
 refine eD.nil ?_
 go_simp
 refine eu 22 [[],[0],[0,1],[0,1,2],[0,1,2,3],[0,1,2,3,4],[],[6],[6,7],[6,7,8],[],[],[11],[11,12],[11,12,13],[],[15],[0,1,2,3,4,11,12,13,14,15,16],[0,1,2,3,4,10,11,12,13,14,15,16,17],[0,1,2,3,4,10,11,12,13,14,15,16,17,18],[0,1,2,3,4,5,6,7,8,9,10,11,12,13,14,15,16,17,18,19],[],[0,1,2,3,4,5,6,7,8,9,10,11,12,13,14,15,16,17,18,19,20,21]] rfl rfl rfl rfl rfl (by kernel_rfl) (by kernel_rfl) (by kernel_rfl) ?_
 have vV:=Lib.hid BO
 have Qs:=Lib.hid zh
 have HNS:=Lib.hid hs
 refine wp_store_mid _ _ _ (by rfl) db 0 (gF (d0 r l s)).toArray (by rfl) (by rfl) (nW vX (Nat.le_refl 6)) UY (by simp [gF,d0,Value.oneCell']) ?_
 refine fM rfl ?_
 generalize qF:World.setCells wz db 0 _=W5
 have Gv:Hid (DI T w (w.heap.size + 1) db W5 (d0 r l s)):=Lib.hid (by
  rw [← qF]
  have hdb:db≠T.bt∧db≠T.bm∧T.B0≤db∧w.heap.size + 1 < db:=by have:=bq.out; have:=oD.out; omega
  refine ⟨iw vX rfl,⟨show aM (r:Int) by unfold aM; omega,Qs.out,HNS.out.1,IW,IW,Nat.zero_le _⟩,?_,eY.2.sets _ _ _ hdb.2.2.1 hdb.1 hdb.2.1,(HM.out.trans eY.1).sets _ _ _ (by omega),?_,⟨Nat.lt_succ_self _,hdb.2.2.2⟩,bq.out⟩
  ·rw [(aP db _ _ wz).block _ (Nat.lt_of_lt_of_le oD.out eY.1.size) (by simp; omega)]
   exact (eY.1.block _ oD.out (by have:=bq.out; omega) (by have:=bq.out; omega)).trans HN.out
  ·rw [(aP db _ _ wz).block _ (Nat.lt_of_lt_of_le (by have:=oD.out; omega) eY.1.size) (by simp; omega)]
   exact (eY.1.block _ (by have:=oD.out; omega) (by have:=bq.out; omega) (by have:=bq.out; omega)).trans HZ.out)
 clear qF eY vX BO zh HZ HI HM hs HN HB
 go_simp
 have y0:W5.cell? ⟨db,0,none⟩=some (.int .i64 (r:Int)):=(dC Gv.out).1
 have Gt:Hid (T.bt < db∧T.bm < db):=Lib.hid (by have:=bq.out; have:=oD.out; have:=vV.out; omega)
 go_upto_if 36 with fail
 go_cut [4] (fun s4 W'=>s4= .pointer (some ⟨db,0,none⟩)∧ ∃z:Int,(z=0∨(r=1∧0≤z∧z≤5))∧DI T w (w.heap.size + 1) db W' {d0 r l s with size:=z})
 case first=>
  cases h1:((r:Int) == 1)
  ·go_wp2_with fail
   go_meet
   exact ⟨rfl,0,.inl rfl,Gv.out⟩
  ·have HR1:Hid (r=1):=Lib.hid (by have:=of_decide_eq_true h1; omega)
   have Ez:T.bm < W5.heap.size:=Nat.lt_of_lt_of_le Gt.out.2 (Nat.le_of_succ_le Gv.out.sz)
   have c0:=Gv.out.mi.ptr
   go_wp2_with fail
   refine (dR T 6 _ (by unfold aM; decide) (Gv.out.mi.below (ah _ _))).mono ?_
   rintro e w6 ⟨k,rfl,hk0,hk1,hk2,hM,GR⟩
   obtain ⟨k',rfl⟩:=Int.eq_ofNat_of_zero_le hk0
   have PS:k' < 6:=by have:=hk1 (by decide); omega
   obtain ⟨z,hz,hz0,P6⟩:=XM k' PS
   have HZ:=Lib.hid (And.intro hz0 P6)
   have hne:T.bt < W5.heap.size∧T.bm < W5.heap.size:=⟨Nat.lt_of_lt_of_le Gt.out.1 (Nat.le_of_succ_le Gv.out.sz),Ez⟩
   have cz:w6.cell? ⟨W5.heap.size,k',none⟩=some (.int .i64 z):=aj ((hM.block _ (by simp) (by omega) (by omega)).trans (heap_alloc_new W5 (.cells Xg 3))) hz
   have HD6:=Lib.hid (Gv.out.go ((Mk.of_below (ah W5 (.cells Xg 3))).trans hM) GR)
   have y3:=(dC HD6.out).2.2.2.1
   have f3:w6.frozen? ⟨db,3,none⟩=false:=aF HD6.out.box
   have hb0:(0:Int)≤(k':Int):=by omega
   have hb1:(k':Int) < 6:=by omega
   clear hz hz0 P6 hM GR hne hk0 hk1 hk2 c0 y0 Ez
   go_wp2_with fail
   go_meet
   exact ⟨rfl,z,.inr ⟨HR1.out,HZ.out⟩,HD6.out.size z (by have:=HZ.out; unfold aM; omega)⟩
 obtain ⟨rfl,z,hz,hD⟩:=hcut
 obtain ⟨W6,rfl⟩: ∃W:World,W=wc:=⟨_,rfl⟩
 have HZ:=Lib.hid hz
 have HD6:=Lib.hid hD
 clear hz hD Gv y0
 have y0:W6.cell? ⟨db,0,none⟩=some (.int .i64 (r:Int)):=(dC HD6.out).1
 go_upto_region 6 with fail
 go_cut [53] (fun s' W'=>W6=W'∧ ∃q,s'= .bool q∧(q=true→r≤2))
 case first=>
  go_wp2_with fail
  all_goals go_meet
  all_goals exact ⟨rfl,_,rfl,by go_light; grind⟩
 obtain ⟨rfl,q,rfl,hq⟩:=hcut
 have HQ:=Lib.hid hq
 clear hq
 go_upto_if 53 with fail
 go_cut [4] (fun s4 W'=>s4= .pointer (some ⟨db,0,none⟩)∧ ∃i:Int,((i != -9223372036854775808)=true∧(i=0∨r≤2))∧DI T w (w.heap.size + 1) db W' {d0 r l s with size:=z,init:=i})
 case first=>
  cases q
  ·go_wp2_with fail
   go_meet
   exact ⟨rfl,0,⟨by decide,.inl rfl⟩,HD6.out⟩
  ·have Ez:T.bm < W6.heap.size:=Nat.lt_of_lt_of_le Gt.out.2 (Nat.le_of_succ_le HD6.out.sz)
   have c0:=HD6.out.mi.ptr
   have Lj:Hid (r≤2):=Lib.hid (HQ.out rfl)
   clear HQ
   go_wp2_with fail
   refine (dR T 6 _ (by unfold aM; decide) (HD6.out.mi.below (ah _ _))).mono ?_
   rintro e w7 ⟨k,rfl,hk0,hk1,hk2,hM,GR⟩
   obtain ⟨k',rfl⟩:=Int.eq_ofNat_of_zero_le hk0
   have PS:k' < 6:=by have:=hk1 (by decide); omega
   obtain ⟨i,hz,hz0,P6⟩:=Zi k' PS
   have jV:=Lib.hid (And.intro hz0 P6)
   have hne:T.bt < W6.heap.size∧T.bm < W6.heap.size:=⟨Nat.lt_of_lt_of_le Gt.out.1 (Nat.le_of_succ_le HD6.out.sz),Ez⟩
   have cz:w7.cell? ⟨W6.heap.size,k',none⟩=some (.int .i64 i):=aj ((hM.block _ (by simp) (by omega) (by omega)).trans (heap_alloc_new W6 (.cells XG 2))) hz
   have HD7:=Lib.hid (HD6.out.go ((Mk.of_below (ah W6 (.cells XG 2))).trans hM) GR)
   have y4:=(dC HD7.out).2.2.2.2.1
   have f4:w7.frozen? ⟨db,4,none⟩=false:=aF HD7.out.box
   have hb0:(0:Int)≤(k':Int):=by omega
   have hb1:(k':Int) < 6:=by omega
   clear hz hz0 P6 hM GR hne hk0 hk1 hk2 c0 y0 Ez
   go_wp2_with fail
   go_meet
   exact ⟨rfl,i,⟨jV.out.2,.inr Lj.out⟩,HD7.out.init i jV.out.1⟩
 obtain ⟨rfl,i,hz,hD⟩:=hcut
 obtain ⟨W7,rfl⟩: ∃W:World,W=wc:=⟨_,rfl⟩
 have jV:=Lib.hid hz
 have HD7:=Lib.hid hD
 clear hz hD HD6 y0 HQ
 have y0:W7.cell? ⟨db,0,none⟩=some (.int .i64 (r:Int)):=(dC HD7.out).1
 go_upto_if 65 with fail
 go_cut [4] (fun s4 W'=>s4= .pointer (some ⟨db,0,none⟩)∧ ∃o:ByteArray,jw o ((r:Int) == 5)=true∧DI T w (w.heap.size + 1) db W' {d0 r l s with size:=z,init:=i,on:=o})
 case first=>
  cases h5:((r:Int) == 5)
  ·have H5:Hid (jw ⟨#[]⟩ ((r:Int) == 5)=true):=Lib.hid (by rw [h5]; rfl)
   go_wp2_with fail
   go_meet
   exact ⟨rfl,⟨#[]⟩,H5.out,HD7.out⟩
  ·have c0:=HD7.out.mi.ptr
   go_wp2_with fail
   refine (dR T 12 _ (by unfold aM; decide) HD7.out.mi).mono ?_
   rintro e w8 ⟨k,rfl,hk0,hk1,hk2,hM,GR⟩
   obtain ⟨k',rfl⟩:=Int.eq_ofNat_of_zero_le hk0
   have PS:k' < 12:=by have:=hk1 (by decide); omega
   obtain ⟨o,hz,hz0⟩:=Ml k' PS
   have HO:Hid (jw o ((r:Int) == 5)=true∧o.size≤maxLen):=Lib.hid ⟨by rw [h5]; exact hz0.2,hz0.1⟩
   have Uu:=Lib.hid (HD7.out.go hM GR)
   have cz:w8.cell? ⟨w.heap.size + 1,k',none⟩=some (.string o):=aj Uu.out.nms hz
   have y5:=(dC Uu.out).2.2.2.2.2
   have f5:w8.frozen? ⟨db,5,none⟩=false:=aF Uu.out.box
   have hb0:(0:Int)≤(k':Int):=by omega
   have hb1:(k':Int) < 12:=by omega
   clear hz hz0 hM GR hk0 hk1 hk2 c0 y0
   go_wp2_with fail
   go_meet
   exact ⟨rfl,o,HO.out.1,Uu.out.on o HO.out.2⟩
 obtain ⟨rfl,o,ho,hD⟩:=hcut
 obtain ⟨W9,rfl⟩: ∃W:World,W=wc:=⟨_,rfl⟩
 have Az:Hid (jv {d0 r l s with size:=z,init:=i,on:=o} =true):=Lib.hid (shD hr1 hr2 HNS.out.2 HZ.out jV.out ho)
 have ug:=Lib.hid hD
 clear ho hD HD7 y0
 generalize hd:({d0 r l s with size:=z,init:=i,on:=o} :De)=d at *
 obtain ⟨y0,y1,y2,y3,y4,y5⟩:=dC ug.out
 have f: ∀j,W9.frozen? ⟨w.heap.size,j,none⟩=false:=fun j=>aF ug.out.z
 have z0:W9.cell? ⟨w.heap.size,0,none⟩=some _:=aj ug.out.z rfl
 have z1:W9.cell? ⟨w.heap.size,1,none⟩=some _:=aj ug.out.z rfl
 have z2:W9.cell? ⟨w.heap.size,2,none⟩=some _:=aj ug.out.z rfl
 have z3:W9.cell? ⟨w.heap.size,3,none⟩=some _:=aj ug.out.z rfl
 have z4:W9.cell? ⟨w.heap.size,4,none⟩=some _:=aj ug.out.z rfl
 have z5:W9.cell? ⟨w.heap.size,5,none⟩=some _:=aj ug.out.z rfl
 have Zq:=Lib.hid hd
 clear hd
 go_wp2_with fail
 clear f
 have HP:=Lib.hid (iV ug.out.tb (iV ug.out.tb (iV ug.out.tb (iV ug.out.tb (iV ug.out.tb (iV ug.out.tb ⟨ug.out.km,ug.out.mi,dO.refl _ _⟩ 0 (.int .i64 d.kind)) 1 (.int .i64 d.line)) 2 (.string d.nm)) 3 (.int .i64 d.size)) 4 (.int .i64 d.init)) 5 (.string d.on))
 exact bodyPost_ret (v:=Ld d) (by simp [results,Tryz.results28,go_sem,Ld,z0,z1,z2,z3,z4,z5]) rfl ⟨d,rfl,⟨ug.out.ok,Az.out⟩,HP.out.1,HP.out.2.1⟩
end Go.Proofs.YtehnipchbmjlhaaGreatDoor
end
