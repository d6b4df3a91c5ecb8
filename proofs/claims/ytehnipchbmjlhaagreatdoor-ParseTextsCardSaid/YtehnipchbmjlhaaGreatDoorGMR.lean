/-
  Contracts of the maker's stmts and stmt: they return shaped statements that lie in new memory.
  Contract of the maker's decl: it returns a shaped declaration.
-/
import Derived.Test.YtehnipchbmjlhaaGreatDoorGMQ
import Derived.Test.YtehnipchbmjlhaaGreatDoorGMB
section
set_option linter.unusedSimpArgs false
set_option linter.unusedVariables false
namespace Go.Proofs.YtehnipchbmjlhaaGreatDoor
open Go.RowKit
open Md
theorem lX {B:Nat} {w w':World} {g:Option Nat} (h:w.grownBy w' g) (hg: ∀k,g=some k→B≤k) (hB:B≤w.heap.size):Below B w w':=
 ⟨h.os,h.tape,h.output,h.size,fun k hk=>h.block k (by omega) (fun e=>by have:=hg k e.symm; omega)⟩
theorem dx.uS {B:Nat} {w w':World} {T:Tp} (h:dx w T) (hb:Below B w w') (h1:T.bt < B) (h2:T.bm < B) (h3:T.B0≤B):dx w' T:=by
 obtain ⟨x,k1,k2⟩:=h.tape.blk
 obtain ⟨l,m,k3,k4,k5,k6⟩:=h.vw
 exact ⟨⟨⟨x,k1,(hb.block _ h1).trans k2⟩,h.tape.GJ.below (hb.mono h3),h.tape.len⟩,⟨l,m,k3,k4,k5,(hb.block _ h2).trans k6⟩⟩
theorem Mk.Dt {T:Tp} {w W W':World} (h:Mk T w W) (hb:Below w.heap.size W W'):Mk T w W':=
 ⟨hb.os.trans h.os,hb.tape.trans h.tape,hb.output.trans h.output,Nat.le_trans h.size hb.size,fun k hk h1 h2=>(hb.block k hk).trans (h.block k hk h1 h2)⟩
theorem Cz {q:Nat} : ∀l:List eH,(∀x ∈ l,vG x.h + 2 * jw x.b + 2 * jw x.e≤q)→jw (jI l)≤l.length * q
 | [],_=>Nat.zero_le _
 | x ::r,h=>by
   have h1:=h x List.mem_cons_self
   have h2:=Cz r (fun y hy=>h y (List.mem_cons_of_mem _ hy))
   show vG x.h + 2 * jw x.b + 2 * jw x.e + jw (jI r)≤(r.length + 1) * q
   rw [Nat.add_mul]; omega
theorem UG (x:eH): ∀u ∈ eH.f x,u.oneCell'=true:=by
 intro u hu; simp [eH.f] at hu
 rcases hu with rfl | rfl | rfl | rfl | rfl | rfl | rfl | rfl | rfl | rfl | rfl <;> rfl
set_option maxHeartbeats 2000000 in
theorem Ei (T:Tp) (d:Int) (hst:Dw T d):yA T d:=by
 intro w n hI hn1 hn2
 have HST:=Lib.hid hst
 have HI:=Lib.hid hI
 have dh:Hid (T.bt < w.heap.size∧T.bm < w.heap.size∧T.B0≤w.heap.size):=Lib.hid ⟨hI.tape.lt,hI.lt,hI.tape.b0⟩
 obtain ⟨U9,hn4⟩:=hn1
 obtain ⟨i0,hi,hz0,hz1,hz2⟩:=Vf
 have jK:=Lib.hid (And.intro hi (And.intro hz0 (And.intro hz1 hz2)))
 clear hst hI hi hz0 hz1 hz2
 go_enter Tryz.func29,Tryz.ntmps29
 go_wp2_with fail
 go_loopw [7,8] (fun v7 v8 wr=> ∃(k:Nat) (l:List eH),v8= .int .i64 k∧k≤n.toNat∧l.length=k∧Bv w.heap.size wr v7 l∧(∀x ∈ l,oD x.h x.b x.e∧vM (GS d.toNat) x.h x.b x.e)∧dx wr T∧Mk T w wr) (fun _ i _=>(n - intOf i).toNat)
 case atStart=>exact ⟨0,[],rfl,Nat.zero_le _,rfl,Grow.nil _ _ _ _ _ _,by simp,HI.out,Mk.refl _ _⟩
 case round=>
  obtain ⟨k,l,rfl,hk,hl,hg,hok,YC,hmk⟩:=hrel
  obtain ⟨line,left,h1,h2,h3,hblk⟩:=YC.vw
  have HL:=Lib.hid hl
  have HG:=Lib.hid hg
  have fH:=Lib.hid hok
  have Wt:=Lib.hid YC
  have TT:=Lib.hid hmk
  have SV:=Lib.hid (And.intro h1 (And.intro h3 hblk))
  have c2:wr.cell? ⟨T.bm,2,none⟩=some (.int .i64 left):=(cZ hblk (j:=2) rfl).2
  clear hl hg hok YC hmk h1 h3 hblk
  by_cases hlt:(k:Int) < n
  ·by_cases hlf:0 < left
   ·go_wp2_with fail
    refine (HST.out _ Wt.out ⟨line,left,SV.out.1,hlf,SV.out.2.1,SV.out.2.2⟩).mono ?_
    rintro e w1 ⟨h,b,e',s,rfl,Aw,Rv,hM,hI1⟩
    have tX:=Lib.hid (HG.out.next (hM.xY dh.out.1 dh.out.2.1))
    have Ze:=Lib.hid (TT.out.trans hM)
    have HI1:=Lib.hid hI1
    have an3:=Lib.hid (And.intro Rv.1 Aw)
    have HX:=Lib.hid Rv.2
    have iZ:=Lib.hid hM.size
    have aX:=Lib.hid HG.out.lt
    clear hM hI1 Rv Aw HG SV c2
    unfold eB
    have ou:=Lib.hid (tX.out.next (aK (ah w1 (.cells (eH.f ⟨h,b,e',s⟩).toArray 89))))
    have sj:=Lib.hid (mI (heap_alloc_new w1 (.cells (eH.f ⟨h,b,e',s⟩).toArray 89)))
    have Ua:Hid (w.heap.size≤w1.heap.size):=Lib.hid Ze.out.size
    obtain ⟨hi,hz0,hz1,hz2⟩:=jK.out
    have hbs:w.heap.size≤w1.heap.size + 1:=Nat.le_succ_of_le Ua.out
    have hkl:l.length + 1≤maxLen:=by rw [HL.out]; unfold maxLen; omega
    have Ee:(l.length + 1) * 176≤140737488355328:=by rw [HL.out]; omega
    go_wp2_with (at_builtin; refine wpList_append_lies _ rfl _ _ 65 rfl w.heap.size 89 i0 _ 11 176 Tryz.underlying65 hi hz0 hz1 hz2 rfl (by decide) _ _ _ rfl ou.out.own ⟨w1.heap.size,0,none⟩ 1 1 (eH.f ⟨h,b,e',s⟩) rfl rfl sj.out (UG _) (by decide) hkl Ee (by simpa using hbs) _ rfl ?_)
    clear hi hz0 hz1 hz2
    intro g cap w2 hown hgr hmv hlt2
    have fZ:Hid (dW w.heap.size u7.ownBlock (w1.alloc (.cells (eH.f ⟨h,b,e',s⟩).toArray 89)) (eH.I ⟨h,b,e',s⟩)):=Lib.hid (rQ (HX.out.next (aK (ah _ _))) TT.out.size (fun k hk=>(aX.out k hk).2))
    have HG2:=Lib.hid (ou.out.push fZ.out rfl hown hgr (by simpa using hmv))
    have HB2:Hid (Below w.heap.size (w1.alloc (.cells (eH.f ⟨h,b,e',s⟩).toArray 89)) w2):=Lib.hid (lX hgr (fun k hk=>(aX.out k hk).1) (by simpa using hbs))
    have YX:Hid (Below w.heap.size w1 (w1.alloc (.cells (eH.f ⟨h,b,e',s⟩).toArray 89))):=Lib.hid ((ah _ _).mono Ua.out)
    have Cw:=Lib.hid ((HI1.out.uS YX.out dh.out.1 dh.out.2.1 dh.out.2.2).uS HB2.out dh.out.1 dh.out.2.1 dh.out.2.2)
    have aj5:=Lib.hid ((Ze.out.Dt YX.out).Dt HB2.out)
    have al0:Hid (∀x ∈ l++[(⟨h,b,e',s⟩:eH)],oD x.h x.b x.e∧vM (GS d.toNat) x.h x.b x.e):=Lib.hid (fun x hx=>by
     rcases List.mem_append.1 hx with hx | hx
     ·exact fH.out x hx
     ·rw [List.mem_singleton.1 hx]; exact an3.out)
    clear hown hgr hmv hlt2 hbs hkl Ee fZ HX sj ou HB2 YX
    go_wp2_with fail
    go_roundw
    case rel=>exact ⟨k + 1,l++[⟨h,b,e',s⟩],by go_num,by omega,by simp [HL.out],HG2.out,al0.out,Cw.out,aj5.out⟩
    case measure=>simp [intOf]; omega
   ·have hlz:left=0:=by omega
    subst hlz
    go_wp2_with fail
    go_ret
    obtain ⟨ao,cap,e,hst⟩:=HG.out.says (fun x hx=>(fH.out x hx).1)
    exact ⟨jI l,ao,cap,by rw [e]; rfl,⟨by rw [sQ,HL.out]; omega,Ad l (fun x hx=>(fH.out x hx).2.1),Nat.le_trans (Cz l (fun x hx=>(fH.out x hx).2.2)) (Nat.mul_le_mul_right _ (by rw [HL.out]; exact hk))⟩,hst,TT.out,Wt.out⟩
  ·go_wp2_with fail
   go_ret
   obtain ⟨ao,cap,e,hst⟩:=HG.out.says (fun x hx=>(fH.out x hx).1)
   exact ⟨jI l,ao,cap,by rw [e]; rfl,⟨by rw [sQ,HL.out]; omega,Ad l (fun x hx=>(fH.out x hx).2.1),Nat.le_trans (Cz l (fun x hx=>(fH.out x hx).2.2)) (Nat.mul_le_mul_right _ (by rw [HL.out]; exact hk))⟩,hst,TT.out,Wt.out⟩
theorem JG (T:Tp): ∀d:Nat,d≤100→Dw T (d:Int)
 | 0,h=>G9 T 0 h (fun d' e=>by omega)
 | d + 1,h=>G9 T (d + 1) h (fun d' e=>by
   obtain rfl:d=d':=by omega
   exact Ei T _ (JG T d (by omega)))
theorem Gi (T:Tp) (d:Nat) (h:d≤100):yA T (d:Int):=Ei T _ (JG T d h)
end Go.Proofs.YtehnipchbmjlhaaGreatDoor
end
section
set_option linter.unusedSimpArgs false
set_option linter.unusedVariables false
namespace Go.Proofs.YtehnipchbmjlhaaGreatDoor
open Go.RowKit
open Md
def QA:Array Value:= #[.string ⟨#[120]⟩,.string ⟨#[121]⟩,.string ⟨#[118]⟩,.string ⟨#[113]⟩,.string ⟨#[109]⟩,.string ⟨#[110]⟩,.string ⟨#[114]⟩,.string ⟨#[99]⟩,.string ⟨#[100]⟩,.string ⟨#[102]⟩,.string ⟨#[103]⟩,.string ⟨#[116]⟩]
theorem Li:zM 12 QA:=fun j hj=>by
 have:j=0∨j=1∨j=2∨j=3∨j=4∨j=5∨j=6∨j=7∨j=8∨j=9∨j=10∨j=11:=by omega
 rcases this with rfl | rfl | rfl | rfl | rfl | rfl | rfl | rfl | rfl | rfl | rfl | rfl <;> exact ⟨_,rfl,by unfold maxLen; decide,by rfl⟩
def Lv:Array Value:= #[.int .i64 0,.int .i64 0,.string ⟨#[]⟩,.int .i64 0,.int .i64 0,.string ⟨#[]⟩]
def KJ (d:De):Value:= .agg #[.int .i64 d.kind,.int .i64 d.line,.string d.nm,.int .i64 d.size,.int .i64 d.init,.string d.on]
def d0 (r l:Int) (s:ByteArray):De:=⟨r,l,s,0,0,⟨#[]⟩⟩
def an1 (T:Tp) (w:World) (e':Ending) (w':World):Prop:= ∃d,e'= .returned (KJ d)∧(d.Ok∧gT d=true)∧Mk T w w'∧dx w' T
def Yo:Array Value:= #[.int .i64 0,.int .i64 0,.int .i64 1,.int .i64 2,.int .i64 4,.int .i64 5]
theorem XC: ∀j,j < 6→ ∃z,Yo[j]? =some (.int .i64 z)∧0≤z∧z≤5:=fun j hj=>by
 have:j=0∨j=1∨j=2∨j=3∨j=4∨j=5:=by omega
 rcases this with rfl | rfl | rfl | rfl | rfl | rfl <;> exact ⟨_,rfl,by decide,by decide⟩
def Z5:Array Value:= #[.int .i64 0,.int .i64 0,.int .i64 1,.int .i64 (-1),.int .i64 9223372036854775807,.int .i64 (-9223372036854775807)]
theorem Xq: ∀j,j < 6→ ∃z,Z5[j]? =some (.int .i64 z)∧aV z∧(z != -9223372036854775808)=true:=fun j hj=>by
 have:j=0∨j=1∨j=2∨j=3∨j=4∨j=5:=by omega
 rcases this with rfl | rfl | rfl | rfl | rfl | rfl <;> exact ⟨_,rfl,by unfold aV; decide,by decide⟩
theorem shD {r:Nat} {l z i:Int} {s o:ByteArray} (h1:1≤r) (h2:r≤6) (hs:Tk.dQ s.data.toList=true) (hz:z=0∨(r=1∧0≤z∧z≤5)) (hi:(i != -9223372036854775808)=true∧(i=0∨r≤2)) (ho:iT o ((r:Int) == 5)=true):
 gT {d0 r l s with size:=z,init:=i,on:=o} =true:=by
 unfold gT d0
 dsimp only
 have a1:(1:Int)≤(r:Int):=by omega
 have a2:(r:Int)≤6:=by omega
 have a3:0≤z:=by omega
 have a4:z=0∨(r:Int)=1:=by omega
 have a5:i=0∨((r:Int)=1∨(r:Int)=2):=by omega
 rw [hs,ho,hi.1]
 simp [a1,a2,a3,a4,a5]
structure DI (T:Tp) (w:World) (ng db:Nat) (W:World) (d:De):Prop where
 box:W.heap[db]? =some (.cells (ig d).toArray 62 (0,0))
 ok:d.Ok
 nms:W.heap[ng]? =some (.cells QA 9 (0,0))
 mi:dx W T
 km:Mk T w W
 z:W.heap[w.heap.size]? =some (.cells Lv 62 (0,0))
 lt:w.heap.size < ng∧ng < db
 tb:T.bt < w.heap.size∧T.bm < w.heap.size∧T.B0≤w.heap.size
section
variable {T:Tp} {w W W':World} {ng db:Nat} {d:De}
theorem DI.sz (hS:DI T w ng db W d):db + 1≤W.heap.size:=(Array.getElem?_eq_some_iff.1 hS.box).1
theorem DI.go (hS:DI T w ng db W d) (hM:Mk T W W') (hI:dx W' T):DI T w ng db W' d where
 box:=(hM.block db hS.sz (by have:=hS.tb; have:=hS.lt; omega) (by have:=hS.tb; have:=hS.lt; omega)).trans hS.box
 ok:=hS.ok
 nms:=(hM.block ng (Array.getElem?_eq_some_iff.1 hS.nms).1 (by have:=hS.tb; have:=hS.lt; omega) (by have:=hS.tb; have:=hS.lt; omega)).trans hS.nms
 mi:=hI
 km:=hS.km.trans hM
 z:=(hM.block _ (Array.getElem?_eq_some_iff.1 hS.z).1 (by have:=hS.tb; omega) (by have:=hS.tb; omega)).trans hS.z
 lt:=hS.lt
 tb:=hS.tb
theorem DI.put {d':De} (hS:DI T w ng db W d) (j:Nat) (v:Value) (hv:(ig d).toArray.setIfInBounds j v=(ig d').toArray) (hs:d'.Ok):DI T w ng db (W.setCell ⟨db,j,none⟩ v) d' where
 box:=by rw [aR hS.box,hv]
 ok:=hs
 nms:=(aM W _ _ rfl (by have:=hS.lt; show db≠_; omega)).trans hS.nms
 mi:=hS.mi.set _ _ (by have:=hS.tb; have:=hS.lt; show T.B0≤db; omega) (by have:=hS.tb; have:=hS.lt; show db≠_; omega) (by have:=hS.tb; have:=hS.lt; show db≠_; omega)
 km:=hS.km.set _ _ (by have:=hS.lt; show _≤db; omega)
 z:=(aM W _ _ rfl (by have:=hS.lt; show db≠_; omega)).trans hS.z
 lt:=hS.lt
 tb:=hS.tb
theorem DI.size (hS:DI T w ng db W d) (k:Int) (hk:aV k):DI T w ng db (W.setCell ⟨db,3,none⟩ (.int .i64 k)) {d with size:=k} :=
 hS.put 3 _ rfl ⟨hS.ok.1,hS.ok.2.1,hS.ok.2.2.1,hk,hS.ok.2.2.2.2⟩
theorem DI.init (hS:DI T w ng db W d) (k:Int) (hk:aV k):DI T w ng db (W.setCell ⟨db,4,none⟩ (.int .i64 k)) {d with init:=k} :=
 hS.put 4 _ rfl ⟨hS.ok.1,hS.ok.2.1,hS.ok.2.2.1,hS.ok.2.2.2.1,hk,hS.ok.2.2.2.2.2⟩
theorem DI.on (hS:DI T w ng db W d) (s:ByteArray) (hk:s.size≤maxLen):DI T w ng db (W.setCell ⟨db,5,none⟩ (.string s)) {d with on:=s} :=
 hS.put 5 _ rfl ⟨hS.ok.1,hS.ok.2.1,hS.ok.2.2.1,hS.ok.2.2.2.1,hS.ok.2.2.2.2.1,hk⟩
theorem dC (hS:DI T w ng db W d):W.cell? ⟨db,0,none⟩=some (.int .i64 d.kind)∧W.cell? ⟨db,1,none⟩=some (.int .i64 d.line)∧W.cell? ⟨db,2,none⟩=some (.string d.nm)∧W.cell? ⟨db,3,none⟩=some (.int .i64 d.size)∧W.cell? ⟨db,4,none⟩=some (.int .i64 d.init)∧W.cell? ⟨db,5,none⟩=some (.string d.on):=
 ⟨ak hS.box rfl,ak hS.box rfl,ak hS.box rfl,ak hS.box rfl,ak hS.box rfl,ak hS.box rfl⟩
end
theorem Uw:(Tryz.prog.info? 62).map (·.size)=some 6:=by kernel_rfl
set_option maxHeartbeats 4000000 in
set_option maxRecDepth 100000 in
theorem Rl (T:Tp) (w:World) (hI:dx w T):Calls Tryz.prog 28 #[.pointer (some ⟨T.bm,0,none⟩)] w (an1 T w):=by
 obtain ⟨line,left,hl1,hl2,hl3,hblk⟩:=hI.vw
 have HI0:=Lib.hid hI
 have dh:Hid (T.bt < w.heap.size∧T.bm < w.heap.size∧T.B0≤w.heap.size):=Lib.hid ⟨HI0.out.tape.lt,HI0.out.lt,HI0.out.tape.b0⟩
 have Et:=hI.lt
 have c1:w.cell? ⟨T.bm,1,none⟩=some (.int .i64 line):=(cZ hblk (j:=1) rfl).2
 have f1:w.frozen? ⟨T.bm,1,none⟩=false:=aD hblk
 clear hI hblk hl1
 go_enter Tryz.func28,Tryz.ntmps28
 go_upto_region 3 with fail
 generalize hW:World.alloc (World.alloc (World.setCell w _ _) _) _=W
 have HB:Hid (Below (w.setCell ⟨T.bm,1,none⟩ (.int .i64 (wrap64 (line + 1)))).heap.size (w.setCell ⟨T.bm,1,none⟩ (.int .i64 (wrap64 (line + 1)))) W):=Lib.hid (by rw [← hW]; exact (ah _ _).alloc (by simp) _)
 have HM:Hid (Mk T w W):=Lib.hid (((Mk.refl T w).JR _ _).trans (Mk.of_below HB.out))
 have HI:Hid (dx W T):=Lib.hid ((HI0.out.line (zy _)).below HB.out)
 have HZ:Hid (W.heap[w.heap.size]? =some (.cells Lv 62 (0,0))):=Lib.hid (by
  rw [← hW]
  have e:(World.setCell w ⟨T.bm,1,none⟩ (.int .i64 (wrap64 (line + 1)))).heap.size=w.heap.size:=by simp [World.setCell]
  rw [heap_alloc_old _ _ (by simp [World.setCell]),← e]; exact heap_alloc_new _ _)
 have HN:Hid (W.heap[w.heap.size + 1]? =some (.cells QA 9 (0,0))):=Lib.hid (by
  rw [← hW]
  have e:(World.alloc (World.setCell w ⟨T.bm,1,none⟩ (.int .i64 (wrap64 (line + 1)))) (.cells Lv 62)).heap.size=w.heap.size + 1:=by simp [World.setCell]
  rw [← e]; exact heap_alloc_new _ _)
 clear hW c1 f1 Et hl2 hl3
 have K0: ∀w',dx w' T→w'.cell? ⟨T.bm,0,none⟩=some (.pointer (some ⟨T.bt,0,none⟩)):=fun w' h=>h.ptr
 have KN: ∀w',Mk T W w'→ ∀j,j < 12→ ∃s,w'.cell? ⟨w.heap.size + 1,j,none⟩=some (.string s)∧ny s:=fun w' h j hj=>by
  have hb:=(h.block _ (Array.getElem?_eq_some_iff.1 HN.out).1 (by have:=dh.out; omega) (by have:=dh.out; omega)).trans HN.out
  obtain ⟨s,h1,h2⟩:=Li j hj
  exact ⟨s,(cZ hb h1).2,h2⟩
 have hd1:Mk T W (W.drewN 1):=Mk.of_below (below_drewN (Below.refl _ _) 1)
 have hd2:dx (W.drewN 1) T:=HI.out.below (below_drewN (Below.refl _ _) 1)
 have qG:Hid (w.heap.size + 1 < W.heap.size):=Lib.hid (Array.getElem?_eq_some_iff.1 HN.out).1
 refine eG (by kernel_rfl) rfl ?_
 refine dS 0 22 [] [[],[0],[0,1],[0,1,2],[0,1,2,3],[0,1,2,3,4],[],[6],[6,7],[6,7,8],[],[],[11],[11,12],[11,12,13],[],[15],[0,1,2,3,4,11,12,13,14,15,16],[0,1,2,3,4,10,11,12,13,14,15,16,17],[0,1,2,3,4,10,11,12,13,14,15,16,17,18],[0,1,2,3,4,5,6,7,8,9,10,11,12,13,14,15,16,17,18,19],[],[0,1,2,3,4,5,6,7,8,9,10,11,12,13,14,15,16,17,18,19,20,21]] [[],[],[],[],[],[],[],[],[],[],[],[],[],[],[],[],[],[],[],[],[],[]] (fun _ w'=>Mk T W w'∧dx w' T) (fun w w'=>Mk T w w') [13,14,15,16,17,18,19,20,21,22,23,24,25,26,27,28,29,30,31,32,33,4] rfl rfl (by rfl) (by kernel_rfl) (by kernel_rfl) (by kernel_rfl) (by kernel_rfl) (by kernel_rfl) (by rfl) (fun _=>Mk.refl _ _) (by rfl) ⟨hd1,hd2⟩ ?_
 simp only [List.take_succ_cons,List.take_zero,List.drop_zero,List.drop_succ_cons,jW,List.map_cons,List.map_nil]
 apply aG.step
 case aF=>
  intro c A w' hok hC hO hD
  have e0:=hO 0 (by rfl)
  simp [Act.eval] at e0
  simp [aC,aB,au,Act.eval,Region.binds] at hD
  simp [go_sem,gd,Oper.wp,hD,e0]
  exact aA.mk (Mk.refl _ _) hC (aB.mk _ _)
 apply aG.step
 case aF=>
  intro c A w' hok hC hO hD
  simp [aC,aB,au,Act.eval,Region.binds] at hD
  simp [go_sem,gd,Oper.wp,hD]
  exact aA.mk (Mk.refl _ _) hC (aB.mk _ _)
 apply aG.step
 case aF=>
  intro c A w' hok hC hO hD
  simp [aC,aB,au,Act.eval,Region.binds] at hD
  simp [go_sem,gd,Oper.wp,hD]
  exact aA.mk (Mk.refl _ _) hC (aB.mk _ _)
 apply aG.step
 case aF=>
  intro c A w' hok hC hO hD
  simp [aC,aB,au,Act.eval,Region.binds] at hD
  simp [go_sem,gd,Oper.wp,hD,K0,hC.2]
  exact aA.mk (Mk.refl _ _) hC (aB.mk _ _)
 simp only [List.nil_append,List.cons_append]
 refine aG.some (fun v _=> ∃r:Nat,v= .int .i64 (r:Int)∧r < 6) (fun _ _ _ _ h=>h) ?_ ?_
 ·intro c A w' hok hC hO hD
  simp [aC,aB,au,Act.eval,Region.binds] at hD
  simp [go_sem,gd,Oper.wp,hD]
  refine (dH T 6 w' (by unfold aV; decide) hC.2).mono ?_
  rintro e w2 ⟨r,rfl,h0,h1,-,hM,hI⟩
  obtain ⟨r',rfl⟩:=Int.eq_ofNat_of_zero_le h0
  exact aA.mk hM ⟨hC.1.trans hM,hI⟩ ⟨r',rfl,by have:=h1 (by decide); omega⟩
 simp only [List.nil_append,List.cons_append]
 refine aG.some (fun v w'=> ∃r:Nat,v= .int .i64 (r:Int)∧1≤r∧r≤6) (fun _ _ _ _ h=>h) ?_ ?_
 ·intro c A w' hok hC hO hD
  simp [aC,aB,au,Act.eval,Region.binds] at hD
  obtain ⟨r,hr,Jq⟩:=hD
  have hw:IntKind.i64.wrap (1 + (r:Int))=1 + r:=IntWalk.i64_in _ (by omega)
  simp [go_sem,gd,Oper.wp,hr,hw]
  exact aA.mk (Mk.refl _ _) hC (⟨1 + r,by simp,by omega,by omega⟩)
 simp only [List.nil_append,List.cons_append]
 apply aG.step
 case aF=>
  intro c A w' hok hC hO hD
  have e0:=hO 0 (by rfl)
  simp [Act.eval] at e0
  simp [aC,aB,au,Act.eval,Region.binds] at hD
  simp [go_sem,gd,Oper.wp,hD,e0]
  exact aA.mk (Mk.refl _ _) hC (aB.mk _ _)
 apply aG.step
 case aF=>
  intro c A w' hok hC hO hD
  simp [aC,aB,au,Act.eval,Region.binds] at hD
  simp [go_sem,gd,Oper.wp,hD]
  exact aA.mk (Mk.refl _ _) hC (aB.mk _ _)
 apply aG.step
 case aF=>
  intro c A w' hok hC hO hD
  simp [aC,aB,au,Act.eval,Region.binds] at hD
  simp [go_sem,gd,Oper.wp,hD]
  exact aA.mk (Mk.refl _ _) hC (aB.mk _ _)
 simp only [List.nil_append,List.cons_append]
 refine aG.some (fun v w'=> ∃l:Int,v= .int .i64 l∧aV l) (fun _ _ _ _ h=>h) ?_ ?_
 ·intro c A w' hok hC hO hD
  simp [aC,aB,au,Act.eval,Region.binds] at hD
  obtain ⟨l,hc,hl⟩:=hC.2.ln
  simp [go_sem,gd,Oper.wp,hD,hc]
  exact aA.mk (Mk.refl _ _) hC (⟨l,rfl,hl⟩)
 simp only [List.nil_append,List.cons_append]
 apply aG.step
 case aF=>
  intro c A w' hok hC hO hD
  have e3:=hO 3 (by rfl)
  simp [Act.eval] at e3
  simp [aC,aB,au,Act.eval,Region.binds] at hD
  simp [go_sem,gd,Oper.wp,hD,e3]
  exact aA.mk (Mk.refl _ _) hC (aB.mk _ _)
 apply aG.step
 case aF=>
  intro c A w' hok hC hO hD
  have e0:=hO 0 (by rfl)
  simp [Act.eval] at e0
  simp [aC,aB,au,Act.eval,Region.binds] at hD
  simp [go_sem,gd,Oper.wp,hD,e0]
  exact aA.mk (Mk.refl _ _) hC (aB.mk _ _)
 apply aG.step
 case aF=>
  intro c A w' hok hC hO hD
  simp [aC,aB,au,Act.eval,Region.binds] at hD
  simp [go_sem,gd,Oper.wp,hD]
  exact aA.mk (Mk.refl _ _) hC (aB.mk _ _)
 apply aG.step
 case aF=>
  intro c A w' hok hC hO hD
  simp [aC,aB,au,Act.eval,Region.binds] at hD
  simp [go_sem,gd,Oper.wp,hD]
  exact aA.mk (Mk.refl _ _) hC (aB.mk _ _)
 simp only [List.nil_append,List.cons_append]
 apply aG.step
 case aF=>
  intro c A w' hok hC hO hD
  simp [aC,aB,au,Act.eval,Region.binds] at hD
  simp [go_sem,gd,Oper.wp,hD,K0,hC.2]
  exact aA.mk (Mk.refl _ _) hC (aB.mk _ _)
 apply aG.step
 case aF=>
  intro c A w' hok hC hO hD
  have e3:=hO 3 (by rfl)
  simp [Act.eval] at e3
  simp [aC,aB,au,Act.eval,Region.binds] at hD
  simp [go_sem,gd,Oper.wp,hD,e3]
  exact aA.mk (Mk.refl _ _) hC (aB.mk _ _)
 apply aG.step
 case aF=>
  intro c A w' hok hC hO hD
  simp [aC,aB,au,Act.eval,Region.binds] at hD
  simp [go_sem,gd,Oper.wp,hD]
  exact aA.mk (Mk.refl _ _) hC (aB.mk _ _)
 simp only [List.nil_append,List.cons_append]
 refine aG.some (fun v _=> ∃r:Nat,v= .int .i64 (r:Int)∧r < 12) (fun _ _ _ _ h=>h) ?_ ?_
 ·intro c A w' hok hC hO hD
  simp [aC,aB,au,Act.eval,Region.binds] at hD
  simp [go_sem,gd,Oper.wp,hD]
  refine (dH T 12 w' (by unfold aV; decide) hC.2).mono ?_
  rintro e w2 ⟨r,rfl,h0,h1,-,hM,hI⟩
  obtain ⟨r',rfl⟩:=Int.eq_ofNat_of_zero_le h0
  exact aA.mk hM ⟨hC.1.trans hM,hI⟩ ⟨r',rfl,by have:=h1 (by decide); omega⟩
 simp only [List.nil_append,List.cons_append]
 refine aG.some (fun v w'=> ∃r:Nat,v= .pointer (some ⟨w.heap.size + 1,r,none⟩)∧r < 12) (fun _ _ _ _ h=>h) ?_ ?_
 ·intro c A w' hok hC hO hD
  simp [aC,aB,au,Act.eval,Region.binds] at hD
  obtain ⟨h46,r,hr,h1⟩:=hD
  have hb0:(0:Int)≤(r:Int):=by omega
  have hb1:(r:Int) < 12:=by omega
  simp [go_sem,gd,Oper.wp,h46,hr,hb0,hb1]
  exact aA.mk (Mk.refl _ _) hC (⟨r,rfl,h1⟩)
 simp only [List.nil_append,List.cons_append]
 refine aG.some (fun v w'=> ∃s:ByteArray,v= .string s∧ny s) (fun _ _ _ _ h=>h) ?_ ?_
 ·intro c A w' hok hC hO hD
  simp [aC,aB,au,Act.eval,Region.binds] at hD
  obtain ⟨r,hr,h1⟩:=hD
  obtain ⟨s,hs,hsz⟩:=KN w' hC.1 r h1
  simp [go_sem,gd,Oper.wp,hr,hs]
  exact aA.mk (Mk.refl _ _) hC (⟨s,rfl,hsz⟩)
 simp only [List.nil_append,List.cons_append]
 refine aG.some (fun v w'=> ∃(r:Nat) (l:Int) (s:ByteArray),v=KJ (d0 r l s)∧1≤r∧r≤6∧aV l∧ny s) (fun _ _ _ _ h=>h) ?_ ?_
 ·intro c A w' hok hC hO hD
  simp [aC,aB,au,Act.eval,Region.binds] at hD
  obtain ⟨⟨r,hr,h1,h2⟩,⟨l,hl,h3⟩,s,hs,h4⟩:=hD
  simp [go_sem,gd,Oper.wp,hr,hl,hs]
  exact aA.mk (Mk.refl _ _) hC (⟨r,l,s,rfl,h1,h2,h3,h4⟩)
 simp only [List.nil_append,List.cons_append]
 refine aG.some (fun v w'=> ∃db,v= .pointer (some ⟨db,0,none⟩)∧W.heap.size≤db∧w'.heap[db]? =some (.cells Lv 62 (0,0))) ?_ ?_ ?_
 ·rintro v w1 w' hle ⟨g,h1,h2,h3⟩
  exact ⟨g,h1,h2,(hle.block g (Array.getElem?_eq_some_iff.1 h3).1 (by have:=dh.out; have:=qG.out; omega) (by have:=dh.out; have:=qG.out; omega)).trans h3⟩
 ·intro c A w' hok hC hO hD
  simp [go_sem,gd,Oper.wp]
  exact aA.mk (d:=_) (v:= .pointer (some ⟨_,0,none⟩)) (Mk.of_below (ah _ _)) ⟨hC.1.trans (Mk.of_below (ah _ _)),hC.2.below (ah _ _)⟩ ⟨_,rfl,hC.1.size,heap_alloc_new _ _⟩
 simp only [List.nil_append,List.cons_append]
 refine aG.done ?_
 intro wz fT
 simp only [List.drop_zero]
 intro v0 h0 v1 h1 v2 h2 v3 h3 v4 h4 v5 h5 v6 h6 v7 h7 v8 h8 v9 h9 v10 h10 v11 h11 v12 h12 v13 BU v14 Gj v15 Ma v16 h16 v17 OE v18 h18 v19 h19 v20 h20 v21 h21
 obtain ⟨r,l,s,rfl,hr1,hr2,yI,hs⟩:=h20
 obtain ⟨db,rfl,Ar,uM⟩:=h21
 clear h0 h1 h2 h3 h4 h5 h6 h7 h8 h9 h10 h11 h12 BU Gj Ma h16 OE h18 h19 K0 KN hd1 hd2
 refine dU.nil ?_
 go_simp
 refine iW 22 [[],[0],[0,1],[0,1,2],[0,1,2,3],[0,1,2,3,4],[],[6],[6,7],[6,7,8],[],[],[11],[11,12],[11,12,13],[],[15],[0,1,2,3,4,11,12,13,14,15,16],[0,1,2,3,4,10,11,12,13,14,15,16,17],[0,1,2,3,4,10,11,12,13,14,15,16,17,18],[0,1,2,3,4,5,6,7,8,9,10,11,12,13,14,15,16,17,18,19],[],[0,1,2,3,4,5,6,7,8,9,10,11,12,13,14,15,16,17,18,19,20,21]] rfl rfl rfl rfl rfl (by kernel_rfl) (by kernel_rfl) (by kernel_rfl) ?_
 have vk:=Lib.hid Ar
 have NU:=Lib.hid yI
 have HNS:=Lib.hid hs
 refine wp_store_mid _ _ _ (by rfl) db 0 (ig (d0 r l s)).toArray (by rfl) (by rfl) (mo uM (Nat.le_refl 6)) Uw (by simp [ig,d0,Value.oneCell']) ?_
 refine fU rfl ?_
 generalize pW:World.setCells wz db 0 _=W5
 have Gq:Hid (DI T w (w.heap.size + 1) db W5 (d0 r l s)):=Lib.hid (by
  rw [← pW]
  have hdb:db≠T.bt∧db≠T.bm∧T.B0≤db∧w.heap.size + 1 < db:=by have:=dh.out; have:=qG.out; omega
  refine ⟨gG uM rfl,⟨show aV (r:Int) by unfold aV; omega,NU.out,HNS.out.1,I4,I4,Nat.zero_le _⟩,?_,fT.2.sets _ _ _ hdb.2.2.1 hdb.1 hdb.2.1,(HM.out.trans fT.1).sets _ _ _ (by omega),?_,⟨Nat.lt_succ_self _,hdb.2.2.2⟩,dh.out⟩
  ·rw [(aO db _ _ wz).block _ (Nat.lt_of_lt_of_le qG.out fT.1.size) (by simp; omega)]
   exact (fT.1.block _ qG.out (by have:=dh.out; omega) (by have:=dh.out; omega)).trans HN.out
  ·rw [(aO db _ _ wz).block _ (Nat.lt_of_lt_of_le (by have:=qG.out; omega) fT.1.size) (by simp; omega)]
   exact (fT.1.block _ (by have:=qG.out; omega) (by have:=dh.out; omega) (by have:=dh.out; omega)).trans HZ.out)
 clear pW fT uM Ar yI HZ HI HM hs HN HB
 go_simp
 have y0:W5.cell? ⟨db,0,none⟩=some (.int .i64 (r:Int)):=(dC Gq.out).1
 have Gl:Hid (T.bt < db∧T.bm < db):=Lib.hid (by have:=dh.out; have:=qG.out; have:=vk.out; omega)
 go_upto_if 36 with fail
 go_cut [4] (fun s4 W'=>s4= .pointer (some ⟨db,0,none⟩)∧ ∃z:Int,(z=0∨(r=1∧0≤z∧z≤5))∧DI T w (w.heap.size + 1) db W' {d0 r l s with size:=z})
 case first=>
  cases h1:((r:Int) == 1)
  ·go_wp2_with fail
   go_meet
   exact ⟨rfl,0,.inl rfl,Gq.out⟩
  ·have HR1:Hid (r=1):=Lib.hid (by have:=of_decide_eq_true h1; omega)
   have Et:T.bm < W5.heap.size:=Nat.lt_of_lt_of_le Gl.out.2 (Nat.le_of_succ_le Gq.out.sz)
   have c0:=Gq.out.mi.ptr
   go_wp2_with fail
   refine (dH T 6 _ (by unfold aV; decide) (Gq.out.mi.below (ah _ _))).mono ?_
   rintro e w6 ⟨k,rfl,hk0,hk1,hk2,hM,FB⟩
   obtain ⟨k',rfl⟩:=Int.eq_ofNat_of_zero_le hk0
   have O8:k' < 6:=by have:=hk1 (by decide); omega
   obtain ⟨z,hz,hz0,Qh⟩:=XC k' O8
   have HZ:=Lib.hid (And.intro hz0 Qh)
   have hne:T.bt < W5.heap.size∧T.bm < W5.heap.size:=⟨Nat.lt_of_lt_of_le Gl.out.1 (Nat.le_of_succ_le Gq.out.sz),Et⟩
   have cz:w6.cell? ⟨W5.heap.size,k',none⟩=some (.int .i64 z):=ak ((hM.block _ (by simp) (by omega) (by omega)).trans (heap_alloc_new W5 (.cells Yo 3))) hz
   have HD6:=Lib.hid (Gq.out.go ((Mk.of_below (ah W5 (.cells Yo 3))).trans hM) FB)
   have y3:=(dC HD6.out).2.2.2.1
   have f3:w6.frozen? ⟨db,3,none⟩=false:=aD HD6.out.box
   have hb0:(0:Int)≤(k':Int):=by omega
   have hb1:(k':Int) < 6:=by omega
   clear hz hz0 Qh hM FB hne hk0 hk1 hk2 c0 y0 Et
   go_wp2_with fail
   go_meet
   exact ⟨rfl,z,.inr ⟨HR1.out,HZ.out⟩,HD6.out.size z (by have:=HZ.out; unfold aV; omega)⟩
 obtain ⟨rfl,z,hz,hD⟩:=hcut
 obtain ⟨W6,rfl⟩: ∃W:World,W=wc:=⟨_,rfl⟩
 have HZ:=Lib.hid hz
 have HD6:=Lib.hid hD
 clear hz hD Gq y0
 have y0:W6.cell? ⟨db,0,none⟩=some (.int .i64 (r:Int)):=(dC HD6.out).1
 go_upto_region 6 with fail
 go_cut [53] (fun s' W'=>W6=W'∧ ∃q,s'= .bool q∧(q=true→r≤2))
 case first=>
  go_wp2_with fail
  all_goals go_meet
  all_goals exact ⟨rfl,_,rfl,by go_light; grind⟩
 obtain ⟨rfl,q,rfl,hq⟩:=hcut
 have HQ:=Lib.hid hq
 clear hq
 go_upto_if 53 with fail
 go_cut [4] (fun s4 W'=>s4= .pointer (some ⟨db,0,none⟩)∧ ∃i:Int,((i != -9223372036854775808)=true∧(i=0∨r≤2))∧DI T w (w.heap.size + 1) db W' {d0 r l s with size:=z,init:=i})
 case first=>
  cases q
  ·go_wp2_with fail
   go_meet
   exact ⟨rfl,0,⟨by decide,.inl rfl⟩,HD6.out⟩
  ·have Et:T.bm < W6.heap.size:=Nat.lt_of_lt_of_le Gl.out.2 (Nat.le_of_succ_le HD6.out.sz)
   have c0:=HD6.out.mi.ptr
   have HQ1:Hid (r≤2):=Lib.hid (HQ.out rfl)
   clear HQ
   go_wp2_with fail
   refine (dH T 6 _ (by unfold aV; decide) (HD6.out.mi.below (ah _ _))).mono ?_
   rintro e w7 ⟨k,rfl,hk0,hk1,hk2,hM,FB⟩
   obtain ⟨k',rfl⟩:=Int.eq_ofNat_of_zero_le hk0
   have O8:k' < 6:=by have:=hk1 (by decide); omega
   obtain ⟨i,hz,hz0,Qh⟩:=Xq k' O8
   have jK:=Lib.hid (And.intro hz0 Qh)
   have hne:T.bt < W6.heap.size∧T.bm < W6.heap.size:=⟨Nat.lt_of_lt_of_le Gl.out.1 (Nat.le_of_succ_le HD6.out.sz),Et⟩
   have cz:w7.cell? ⟨W6.heap.size,k',none⟩=some (.int .i64 i):=ak ((hM.block _ (by simp) (by omega) (by omega)).trans (heap_alloc_new W6 (.cells Z5 2))) hz
   have HD7:=Lib.hid (HD6.out.go ((Mk.of_below (ah W6 (.cells Z5 2))).trans hM) FB)
   have y4:=(dC HD7.out).2.2.2.2.1
   have f4:w7.frozen? ⟨db,4,none⟩=false:=aD HD7.out.box
   have hb0:(0:Int)≤(k':Int):=by omega
   have hb1:(k':Int) < 6:=by omega
   clear hz hz0 Qh hM FB hne hk0 hk1 hk2 c0 y0 Et
   go_wp2_with fail
   go_meet
   exact ⟨rfl,i,⟨jK.out.2,.inr HQ1.out⟩,HD7.out.init i jK.out.1⟩
 obtain ⟨rfl,i,hz,hD⟩:=hcut
 obtain ⟨W7,rfl⟩: ∃W:World,W=wc:=⟨_,rfl⟩
 have jK:=Lib.hid hz
 have HD7:=Lib.hid hD
 clear hz hD HD6 y0 HQ
 have y0:W7.cell? ⟨db,0,none⟩=some (.int .i64 (r:Int)):=(dC HD7.out).1
 go_upto_if 65 with fail
 go_cut [4] (fun s4 W'=>s4= .pointer (some ⟨db,0,none⟩)∧ ∃o:ByteArray,iT o ((r:Int) == 5)=true∧DI T w (w.heap.size + 1) db W' {d0 r l s with size:=z,init:=i,on:=o})
 case first=>
  cases h5:((r:Int) == 5)
  ·have H5:Hid (iT ⟨#[]⟩ ((r:Int) == 5)=true):=Lib.hid (by rw [h5]; rfl)
   go_wp2_with fail
   go_meet
   exact ⟨rfl,⟨#[]⟩,H5.out,HD7.out⟩
  ·have c0:=HD7.out.mi.ptr
   go_wp2_with fail
   refine (dH T 12 _ (by unfold aV; decide) HD7.out.mi).mono ?_
   rintro e w8 ⟨k,rfl,hk0,hk1,hk2,hM,FB⟩
   obtain ⟨k',rfl⟩:=Int.eq_ofNat_of_zero_le hk0
   have O8:k' < 12:=by have:=hk1 (by decide); omega
   obtain ⟨o,hz,hz0⟩:=Li k' O8
   have HO:Hid (iT o ((r:Int) == 5)=true∧o.size≤maxLen):=Lib.hid ⟨by rw [h5]; exact hz0.2,hz0.1⟩
   have Tz:=Lib.hid (HD7.out.go hM FB)
   have cz:w8.cell? ⟨w.heap.size + 1,k',none⟩=some (.string o):=ak Tz.out.nms hz
   have y5:=(dC Tz.out).2.2.2.2.2
   have f5:w8.frozen? ⟨db,5,none⟩=false:=aD Tz.out.box
   have hb0:(0:Int)≤(k':Int):=by omega
   have hb1:(k':Int) < 12:=by omega
   clear hz hz0 hM FB hk0 hk1 hk2 c0 y0
   go_wp2_with fail
   go_meet
   exact ⟨rfl,o,HO.out.1,Tz.out.on o HO.out.2⟩
 obtain ⟨rfl,o,ho,hD⟩:=hcut
 obtain ⟨W9,rfl⟩: ∃W:World,W=wc:=⟨_,rfl⟩
 have xX:Hid (gT {d0 r l s with size:=z,init:=i,on:=o} =true):=Lib.hid (shD hr1 hr2 HNS.out.2 HZ.out jK.out ho)
 have sK:=Lib.hid hD
 clear ho hD HD7 y0
 generalize hd:({d0 r l s with size:=z,init:=i,on:=o} :De)=d at *
 obtain ⟨y0,y1,y2,y3,y4,y5⟩:=dC sK.out
 have f: ∀j,W9.frozen? ⟨w.heap.size,j,none⟩=false:=fun j=>aD sK.out.z
 have z0:W9.cell? ⟨w.heap.size,0,none⟩=some _:=ak sK.out.z rfl
 have z1:W9.cell? ⟨w.heap.size,1,none⟩=some _:=ak sK.out.z rfl
 have z2:W9.cell? ⟨w.heap.size,2,none⟩=some _:=ak sK.out.z rfl
 have z3:W9.cell? ⟨w.heap.size,3,none⟩=some _:=ak sK.out.z rfl
 have z4:W9.cell? ⟨w.heap.size,4,none⟩=some _:=ak sK.out.z rfl
 have z5:W9.cell? ⟨w.heap.size,5,none⟩=some _:=ak sK.out.z rfl
 have WU:=Lib.hid hd
 clear hd
 go_wp2_with fail
 clear f
 have HP:=Lib.hid (iA sK.out.tb (iA sK.out.tb (iA sK.out.tb (iA sK.out.tb (iA sK.out.tb (iA sK.out.tb ⟨sK.out.km,sK.out.mi,fM.refl _ _⟩ 0 (.int .i64 d.kind)) 1 (.int .i64 d.line)) 2 (.string d.nm)) 3 (.int .i64 d.size)) 4 (.int .i64 d.init)) 5 (.string d.on))
 exact bodyPost_ret (v:=KJ d) (by simp [results,Tryz.results28,go_sem,KJ,z0,z1,z2,z3,z4,z5]) rfl ⟨d,rfl,⟨sK.out.ok,xX.out⟩,HP.out.1,HP.out.2.1⟩
end Go.Proofs.YtehnipchbmjlhaaGreatDoor
end
