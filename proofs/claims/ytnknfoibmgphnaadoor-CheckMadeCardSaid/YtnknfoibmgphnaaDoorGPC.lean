/-
  Contracts of the maker's assign, holds, stmts and block, given that of stmt.
  Contract of the maker's block, given that of stmts.
  What the tape gives next, known ahead.
  What the maker's stmt makes and leaves: its parts; contract of assign.
-/
import Derived.Test.YtnknfoibmgphnaaDoorGMmE
import Derived.Test.YtnknfoibmgphnaaDoorGRA
import Derived.Deep.AppendLies
import Derived.Test.YtnknfoibmgphnaaDoorGPA
import Derived.Deep.MidRow
section
set_option linter.unusedSimpArgs false
set_option linter.unusedVariables false
namespace Go.Proofs.YtnknfoibmgphnaaDoor
open Go.RowKit
open Md
def jv:Array Value:= #[.int .i64 0,.int .i64 0,.string ⟨#[]⟩,.string ⟨#[]⟩,.slice none 0 0,.int .i64 0,.int .i64 0,.string ⟨#[]⟩,.slice none 0 0,.slice none 0 0,.slice none 0 0]
theorem jI {α:Type} {β:Type} {o:Option TypeInfo} {z:Option Value} {a b:Nat} (h:o.map (fun i=>(i.zero,i.size,i.bytes))=some (z,a,b)): ∃i0,o=some i0∧i0.zero=z∧i0.size=a∧i0.bytes=b:=by
 cases o with
 | none=>cases h
 | some i=>simp at h; exact ⟨i,rfl,h.1,h.2.1,h.2.2⟩
theorem sH:(Tryd.prog.info? 42).map (fun i=>(i.zero,i.size,i.bytes))=some (some (.agg jv),11,176):=by kernel_rfl
theorem LV:(Tryd.prog.info? 9).map (fun i=>(i.zero,i.size,i.bytes))=some (some (.string ⟨#[]⟩),1,16):=by kernel_rfl
theorem Cw:(Tryd.prog.info? 42).map (·.size)=some 11:=by kernel_rfl
def Pp (T:Tp) (H:Option Nat) (hs:List ByteArray) (w:World) (e:Ending) (w':World):Prop:= ∃(h:eH) (b e':aR) (s:Sl) (H':Option Nat),e= .returned (aY h b e' s)∧ko h b e'∧fJ w.heap.size (tL H') w' (aD.I ⟨h,b,e',s⟩)∧Hx w H H'∧Mm T H w w'∧cZ w' T H' hs
def IQ (T:Tp) (d:Nat):Prop:= ∀w H hs,cZ w T H hs→hs.length + d≤900→Calls Tryd.prog 18 #[.pointer (some ⟨T.bm,0,none⟩),.int .i64 (d:Int)] w (Pp T H hs w)
def Fh (T:Tp) (H:Option Nat) (hs:List ByteArray) (w:World) (e:Ending) (w':World):Prop:= ∃(v:Value) (l:List aD) (H':Option Nat),e= .returned v∧qy w.heap.size H' w' v l∧(∀x ∈ l,ko x.h x.b x.e)∧1≤l.length∧l.length≤1000∧Hx w H H'∧Mm T H w w'∧cZ w' T H' hs
def vQ (T:Tp) (d:Nat):Prop:= ∀w H hs (n:Int),cZ w T H hs→hs.length + d≤900→1≤n→n≤1000→Calls Tryd.prog 9 #[.pointer (some ⟨T.bm,0,none⟩),.int .i64 (d:Int),.int .i64 n] w (Fh T H hs w)
def Ez (T:Tp) (d:Nat):Prop:= ∀w H hs (s:ByteArray),cZ w T H hs→hs.length + 1 + d≤900→s.size≤maxLen→Calls Tryd.prog 32 #[.pointer (some ⟨T.bm,0,none⟩),.string s,.int .i64 (d:Int)] w (Fh T H hs w)
theorem uh {B:Nat} {w w':World} {g:Option Nat} (h:w.grownBy w' g) (hg: ∀k,g=some k→B≤k) (hB:B≤w.heap.size):Below B w w':=
 ⟨h.os,h.tape,h.output,h.size,fun k hk=>h.block k (by omega) (fun e=>by have:=hg k e.symm; omega)⟩
theorem qO (x:aD): ∀u ∈ aD.f x,u.oneCell'=true:=by
 intro u hu; simp [aD.f] at hu
 rcases hu with rfl | rfl | rfl | rfl | rfl | rfl | rfl | rfl | rfl | rfl | rfl <;> rfl
theorem Q0 (l:List aD): ∀u ∈ l.flatMap aD.f,u.oneCell'=true:=by
 intro u hu
 obtain ⟨x,-,h⟩:=List.mem_flatMap.1 hu
 exact qO x u h
set_option maxHeartbeats 2000000 in
set_option maxRecDepth 100000 in
theorem EL (T:Tp) (d:Nat) (hst:IQ T d):vQ T d:=by
 intro w H hs n hI jh hn1 hn2
 have HST:=Lib.hid hst
 have HI:=Lib.hid hI
 have aM:Hid (Old T H w.heap.size):=Lib.hid hI.old
 obtain ⟨i0,hi,hz0,hz1,hz2⟩:=jI (α:=Nat) (β:=Nat) sH
 have jV:=Lib.hid (And.intro hi (And.intro hz0 (And.intro hz1 hz2)))
 clear hst hI hi hz0 hz1 hz2
 go_enter Tryd.func9,Tryd.ntmps9
 go_wp2_with fail
 go_loopw [7,8] (fun v7 v8 wr=> ∃(k:Nat) (l:List aD) (Hr:Option Nat),v8= .int .i64 k∧k≤n.toNat∧l.length=k∧qy w.heap.size Hr wr v7 l∧(∀x ∈ l,ko x.h x.b x.e)∧cZ wr T Hr hs∧Mm T H w wr∧Hx w H Hr) (fun _ i _=>(n - intOf i).toNat)
 case atStart=>exact ⟨0,[],H,rfl,Nat.zero_le _,rfl,jd.nil _ _ _ _ _ _ _,by simp,HI.out,Mm.refl _ _ _,Hx.refl _ _⟩
 case round=>
  obtain ⟨k,l,Hr,rfl,hk,hl,hg,hok,O5,hmk,hhx⟩:=hrel
  have HL:=Lib.hid hl
  have HG:=Lib.hid hg
  have lX:=Lib.hid hok
  have O8:=Lib.hid O5
  have IB:=Lib.hid hmk
  have Lh:=Lib.hid hhx
  obtain ⟨th,left,qa,qb,qc,qd,vH,iY,c0,c1,c2,-,-,-,-,-,-,-,-⟩:=O5.reads
  clear hl hg hok O5 hmk hhx iY c0 c1
  by_cases hlt:(k:Int) < n
  ·have hgo:(((k:Int) == 0)=true∨(((k:Int) == 0)=false∧0 < left))∨(((k:Int) == 0)=false∧ ¬ 0 < left):=by
    cases hq:((k:Int) == 0) <;> by_cases hp:0 < left <;> simp [hp]
   rcases hgo with hgo | ⟨hq,hp⟩
   ·rcases hgo with hq | ⟨hq,hp⟩
    all_goals
     go_wp2_with fail
     refine (HST.out wr Hr hs O8.out jh).mono ?_
     rintro e w1 ⟨h,b,e',s,H1,rfl,Oo,Nu,hhx,hM,hI1⟩
     have qE:=Lib.hid (HG.out.next (hM.xX aM.out.t aM.out.m) hhx)
     have PS:=Lib.hid (IB.out.trans Lh.out hM)
     have RY:=Lib.hid (Lh.out.trans hhx IB.out.size)
     have HI1:=Lib.hid hI1
     have SE:=Lib.hid Oo
     have HX:=Lib.hid Nu
     have Vd:=Lib.hid hM.size
     have vU:=Lib.hid HG.out.lt
     clear hM hI1 Oo Nu hhx HG c2
     unfold aY
     have kX:Hid (Below w1.heap.size w1 (w1.alloc (.cells (aD.f ⟨h,b,e',s⟩).toArray 42))):=Lib.hid (ay _ _)
     have vS:=Lib.hid (qE.out.next (jT.of_below kX.out) (Hx.refl _ _))
     have rz:=Lib.hid (jM (heap_alloc_new w1 (.cells (aD.f ⟨h,b,e',s⟩).toArray 42)))
     have Ru:Hid (w.heap.size≤w1.heap.size):=Lib.hid PS.out.size
     obtain ⟨hi,hz0,hz1,hz2⟩:=jV.out
     have hbs:w.heap.size≤w1.heap.size + 1:=Nat.le_succ_of_le Ru.out
     have hkl:l.length + 1≤maxLen:=by rw [HL.out]; unfold maxLen; omega
     have Al:(l.length + 1) * 176≤140737488355328:=by rw [HL.out]; omega
     go_wp2_with (at_builtin; refine wpList_append_lies _ rfl _ _ 33 rfl w.heap.size 42 i0 _ 11 176 Tryd.underlying33 hi hz0 hz1 hz2 rfl (by decide) _ _ _ rfl vS.out.own ⟨w1.heap.size,0,none⟩ 1 1 (aD.f ⟨h,b,e',s⟩) rfl rfl rz.out (qO _) (by decide) hkl Al (by simpa using hbs) _ rfl ?_)
     clear hi hz0 hz1 hz2
     intro g cap w2 hown hgr hmv hlt2
     have vE:Hid (fJ w.heap.size (qo u7.ownBlock H1) (w1.alloc (.cells (aD.f ⟨h,b,e',s⟩).toArray 42)) (aD.I ⟨h,b,e',s⟩)):=Lib.hid ((HX.out.weak (X:=qo u7.ownBlock H1) IB.out.size (fun k h1 h2 h3=>by
      rcases h3 with h3 | h3
      ·have:=(vU.out k h3).2; omega
      ·exact h3)).go (jT.of_below kX.out) (fun _ _ _ e=>e))
     have yB:=Lib.hid (HI1.out.below kX.out)
     have HG2:=Lib.hid (vS.out.push vE.out rfl hown hgr (by simpa using hmv) yB.out.hlt')
     have FZ:=Lib.hid (yB.out.grown hgr (fun k e=>by
      have h1:=(vS.out.lt k e).1
      exact ⟨Nat.le_trans aM.out.z h1,fun e'=>by have:=aM.out.t; omega,fun e'=>by have:=aM.out.m; omega,vS.out.ne k e⟩))
     have Sq:=Lib.hid ((PS.out.then_ (kX.out.mono Ru.out) kX.out.size).then_ (uh hgr (fun k e=>(vS.out.lt k e).1) (by simpa using hbs)) hgr.size)
     have Sm:Hid (∀y ∈ l++[(⟨h,b,e',s⟩:aD)],ko y.h y.b y.e):=Lib.hid (fun y hy=>by
      rcases List.mem_append.1 hy with hy | hy
      ·exact lX.out y hy
      ·rw [List.mem_singleton.1 hy]; exact SE.out)
     clear hown hgr hmv hlt2 hbs hkl Al vE HX rz vS kX yB
     go_wp2_with fail
     go_roundw
     case rel=>exact ⟨k + 1,l++[⟨h,b,e',s⟩],H1,by go_num,by omega,by simp [HL.out],HG2.out,Sm.out,FZ.out,Sq.out,RY.out⟩
     case measure=>simp [intOf]; omega
   ·go_wp2_with fail
    go_ret
    exact ⟨_,l,Hr,rfl,HG.out,lX.out,by rw [HL.out]; simp at hq; omega,by rw [HL.out]; omega,Lh.out,IB.out,O8.out⟩
  ·go_wp2_with fail
   go_ret
   exact ⟨_,l,Hr,rfl,HG.out,lX.out,by rw [HL.out]; omega,by rw [HL.out]; omega,Lh.out,IB.out,O8.out⟩
theorem pY (T:Tp) (w:World) (H:Option Nat) (hs:List ByteArray) (s:ByteArray) (hI:cZ w T H hs):
 Calls Tryd.prog 31 #[.pointer (some ⟨T.bm,0,none⟩),.string s] w fun e w'=>(∃q,e= .returned (.bool q))∧w=w':=by
 obtain ⟨th,left,qa,qb,qc,qd,vH,iY,c0,c1,c2,c3,c4,c5,c6,c7,cf,hv,hrow⟩:=hI.reads
 obtain ⟨-,ao,cap,rfl,hcap,hc⟩:=hrow.cells qP w (mI.refl _ _)
 have HT:Hid (iD w w.heap.size hs ao 0):=Lib.hid (CB hs 0 hI.ok (fun i x hx=>by
  obtain ⟨g,h1,-,h3,h4⟩:=hc i x hx
  exact ⟨g,h1,h3,fun j u hu=>by rw [Nat.zero_add]; exact h4 j u hu⟩))
 have hl:hs.length≤maxLen:=by have:=hI.few; unfold maxLen; omega
 have HI:=Lib.hid hI
 clear hc hrow hI hv c0 c1 c2 c3 c4 c5 c6 cf
 go_enter Tryd.func31,Tryd.ntmps31
 go_wp2_with fail
 refine (kN hs s w ao cap hl HT.out).mono ?_
 rintro e w' ⟨rfl,rfl⟩
 go_wp2_with fail
 go_ret
 exact ⟨⟨_,rfl⟩,rfl⟩
end Go.Proofs.YtnknfoibmgphnaaDoor
end
section
set_option linter.unusedSimpArgs false
set_option linter.unusedVariables false
namespace Go.Proofs.YtnknfoibmgphnaaDoor
open Go.RowKit
open Md
theorem IL (w:World) (g:Option Nat):w.grownBy w g:=⟨rfl,rfl,rfl,Nat.le_refl _,fun _ _ _=>rfl⟩
set_option maxHeartbeats 2000000 in
set_option maxRecDepth 100000 in
theorem EN (T:Tp) (d:Nat) (hd:d≤100) (hsl:vQ T d):Ez T d:=by
 intro w H hs s hI jh hsz
 have HSL:=Lib.hid hsl
 have HI:=Lib.hid hI
 have aM:Hid (Old T H w.heap.size):=Lib.hid hI.old
 obtain ⟨th,left,qa,qb,qc,qd,vH,iY,c0,c1,c2,c3,c4,c5,c6,c7,cf,hv,hrow⟩:=hI.reads
 have yB:=Lib.hid (hI.below (ay w (.cells #[.string s] 9)))
 have HOW:=Lib.hid (hrow.next (bT (ay w (.cells #[.string s] 9)))).own
 have rz:=Lib.hid (jM (cs:=uI s) (heap_alloc_new w (.cells #[.string s] 9)))
 have HV:=Lib.hid hv
 have hb0:T.B0≤w.heap.size + 1:=Nat.le_succ_of_le hI.tape.b0
 have f7:=cf 7
 have hle1:hs.length + 1≤maxLen:=by unfold maxLen; omega
 have hle2:(hs.length + 1) * 16≤140737488355328:=by omega
 obtain ⟨i0,hi,hz0,hz1,hz2⟩:=jI (α:=Nat) (β:=Nat) LV
 have ug:T.bm < w.heap.size:=hI.lt
 clear hI hrow hsl c0 c1 c2 c3 c4 c5 c6 cf iY hv
 go_enter Tryd.func32,Tryd.ntmps32
 go_wp2_with (at_builtin; refine wpList_append_lies _ rfl _ _ 32 rfl T.B0 9 i0 _ 1 16 Tryd.underlying32 hi hz0 hz1 hz2 rfl (by decide) _ _ _ rfl HOW.out ⟨w.heap.size,0,none⟩ 1 1 (uI s) rfl rfl rz.out (by intro u hu; simp [uI] at hu; subst hu; rfl) (by decide) hle1 hle2 (by simpa using hb0) _ rfl ?_)
 clear hi hz0 hz1 hz2
 intro g cap w2 hown hgr hmv hlt2
 rw [HV.out] at hgr hmv
 have Jy:w2.heap[T.bm]? =(World.alloc w (.cells #[.string s] 9)).heap[T.bm]?:=hgr.block _ yB.out.lt (fun e=>yB.out.nm e.symm)
 have f7':w2.frozen? ⟨T.bm,7,none⟩=false:=by
  obtain ⟨_,_,_,_,_,_,_,_,hb,_⟩:=yB.out.rY
  exact dH (Jy.trans hb)
 have e7: ∃u,w2.cell? ⟨T.bm,7,none⟩=some u:=by
  obtain ⟨_,_,_,_,_,_,_,_,hb,_⟩:=yB.out.rY
  exact ⟨_,(aV (Jy.trans hb) (j:=7) rfl).2⟩
 obtain ⟨u7,e7⟩:=e7
 go_upto_region 2 with fail
 generalize hW3:World.setCell w2 _ _=W3
 have HH:Hid (cZ W3 T (some g) (hs++[s])∧Mm T H (World.alloc w (.cells #[.string s] 9)) W3):=Lib.hid (yB.out.held (vH:= .slice (some ⟨g,0,none⟩) (hs.length + 1) cap) hW3.symm hgr rfl (by
  rcases hmv with h | h
  ·exact .inl h.symm
  ·exact .inr ⟨g,rfl,by rw [h]; simp⟩) ⟨by rw [List.flatMap_append,List.flatMap_singleton,List.length_append]; exact hown,fun _ _ _ _=>trivial⟩ (fun y hy=>by
  rcases List.mem_append.1 hy with h | h
  ·exact yB.out.ok y h
  ·rw [List.mem_singleton.1 h]; exact hsz) (by simp; omega))
 have HX:Hid (Hx w H (some g)):=Lib.hid (by
  rcases hmv with h | h
  ·exact .inl h.symm
  ·exact .inr ⟨g,rfl,by rw [h]; simp⟩)
 clear hW3 hown hgr hmv hlt2 Jy f7' e7 rz HOW f7 c7
 have HI3:Hid (cZ W3 T (some g) (hs++[s])):=Lib.hid HH.out.1
 have pK:Hid (Mm T H w W3):=Lib.hid ((Mm.of_below (ay _ _)).trans (Hx.refl _ _) HH.out.2)
 have c0:=HI3.out.ptr
 clear HH yB
 go_wp2_with fail
 refine (jk T _ _ 2 _ (by unfold aX; decide) HI3.out).mono ?_
 rintro e w3 ⟨r,rfl,hr1,-,Fv,Cb⟩
 have hr2:r < 2:=by have:=hr1 (by decide); omega
 have HI4:=Lib.hid Cb
 have lZ:=Lib.hid (pK.out.trans HX.out Fv.mm)
 have hwr:IntKind.i64.wrap (1 + (r:Int))=1 + (r:Int):=IntWalk.i64_in _ (by omega)
 clear Fv Cb hr1 c0 HI3 pK
 go_wp2_with fail
 refine (HSL.out w3 _ _ (1 + (r:Int)) HI4.out (by simp; omega) (by omega) (by omega)).mono ?_
 rintro e w4 ⟨v,l,H2,rfl,hg,hok,hl1,hl2,hx,hM,hI⟩
 have HG:=Lib.hid (hg.weak lZ.out.size)
 have lX:=Lib.hid (And.intro hok (And.intro hl1 hl2))
 have Ij:=Lib.hid (HX.out.trans hx lZ.out.size)
 have eu:=Lib.hid (lZ.out.trans HX.out hM)
 have gK:=Lib.hid hI
 clear hg hok hl1 hl2 hx hM hI HI4 lZ HX
 obtain ⟨oI,left',oM,oz,oq,oN,oV,fQ,c0',c1',c2',c3',mR,jB,jC,jq,cf',hv',hrow'⟩:=gK.out.reads
 obtain ⟨g2,cap2,rfl,-,-⟩:=hrow'.own.form (by simp)
 obtain rfl:H2=some g2:=by rw [← hv']; rfl
 have RJ:=Lib.hid (qF.pop hrow' rfl)
 have f7:=cf' 7
 rw [List.length_append,List.length_singleton] at jq
 have Uh:Hid (∃cs t,w4.heap[T.bm]? =some (.cells cs t (0,0))∧cs[7]? =some (.slice (some ⟨g2,0,none⟩) (hs.length + 1) cap2)):=Lib.hid (by
  obtain ⟨_,_,_,_,_,_,_,_,hb,_⟩:=gK.out.rY
  refine ⟨_,_,hb,?_⟩
  have:=(aV hb (j:=7) rfl).2
  rw [jq] at this
  rw [this]; rfl)
 have HDR:Hid (Below w4.heap.size w4 (w4.drewN 1)):=Lib.hid (below_drewN (Below.refl _ _) 1)
 clear c0' c1' c2' c3' mR jB jC jq cf' hrow' fQ f7 hv'
 have K7: ∀w',TF T w4 w'→w'.cell? ⟨T.bm,7,none⟩=some (.slice (some ⟨g2,0,none⟩) (hs.length + 1) cap2):=fun w' h=>by
  obtain ⟨cs,t,h1,h2⟩:=Uh.out
  exact (aV (h.keep h1 T.tm.symm) h2).2
 have hd1:TF T w4 (w4.drewN 1)∧cZ (w4.drewN 1) T (some g2) (hs++[s]):=⟨TF.of_below HDR.out,gK.out.below HDR.out⟩
 have hcap:hs.length≤cap2:=by
  rcases RJ.out.own.2 with ⟨h1,-⟩ | ⟨g',cap',cur,h1,h2,h3,h4,-⟩
  ·cases h1
  ·injection h1 with e1 e2 e3; rw [e3]; exact h4
 have hwd:IntKind.i64.wrap (hs.length:Int)=(hs.length:Int):=IntWalk.i64_in _ (by omega)
 go_upto_region 3 with fail
 refine cu (by kernel_rfl) rfl ?_
 refine bG 0 14 [] [[],[],[1],[1,2],[1,2,3],[],[5],[5,6],[5,6,7],[5,6,7,8],[5,6,7,8,9],[1,2,3,4,5,6,7,8,9,10],[0,1,2,3,4,5,6,7,8,9,10,11],[0,1,2,3,4,5,6,7,8,9,10,11,12],[0,1,2,3,4,5,6,7,8,9,10,11,12,13]] [[],[],[],[],[],[],[],[],[],[],[],[],[],[]] (fun _ w'=>TF T w4 w'∧cZ w' T (some g2) (hs++[s])) (fun w w'=>TF T w w') [27,28,29,30,31,32,33,34,35,36,37,38,39,40] rfl rfl (by rfl) (by kernel_rfl) (by kernel_rfl) (by kernel_rfl) (by kernel_rfl) (by kernel_rfl) (by rfl) (fun _=>TF.refl _ _) (by rfl) hd1 ?_
 simp only [List.take_succ_cons,List.take_zero,List.drop_zero,List.drop_succ_cons,gP,List.map_cons,List.map_nil]
 apply aH.step
 case aB=>
  intro c A w' hok hC hO hD
  have e0:=hO 0 (by rfl)
  simp [Act.eval] at e0
  simp [au,ah,aj,Act.eval,Region.binds] at hD
  simp [go_sem,gd,Oper.wp,hD,e0]
  exact ak.mk (TF.refl _ _) hC (ah.mk _ _)
 apply aH.step
 case aB=>
  intro c A w' hok hC hO hD
  have e0:=hO 0 (by rfl)
  simp [Act.eval] at e0
  simp [au,ah,aj,Act.eval,Region.binds] at hD
  simp [go_sem,gd,Oper.wp,hD,e0]
  exact ak.mk (TF.refl _ _) hC (ah.mk _ _)
 apply aH.step
 case aB=>
  intro c A w' hok hC hO hD
  simp [au,ah,aj,Act.eval,Region.binds] at hD
  simp [go_sem,gd,Oper.wp,hD]
  exact ak.mk (TF.refl _ _) hC (ah.mk _ _)
 apply aH.step
 case aB=>
  intro c A w' hok hC hO hD
  simp [au,ah,aj,Act.eval,Region.binds] at hD
  simp [go_sem,gd,Oper.wp,hD]
  exact ak.mk (TF.refl _ _) hC (ah.mk _ _)
 simp only [List.nil_append,List.cons_append]
 apply aH.step
 case aB=>
  intro c A w' hok hC hO hD
  simp [au,ah,aj,Act.eval,Region.binds] at hD
  simp [go_sem,gd,Oper.wp,hD,K7,hC.1]
  exact ak.mk (TF.refl _ _) hC (ah.mk _ _)
 apply aH.step
 case aB=>
  intro c A w' hok hC hO hD
  have e0:=hO 0 (by rfl)
  simp [Act.eval] at e0
  simp [au,ah,aj,Act.eval,Region.binds] at hD
  simp [go_sem,gd,Oper.wp,hD,e0]
  exact ak.mk (TF.refl _ _) hC (ah.mk _ _)
 apply aH.step
 case aB=>
  intro c A w' hok hC hO hD
  simp [au,ah,aj,Act.eval,Region.binds] at hD
  simp [go_sem,gd,Oper.wp,hD]
  exact ak.mk (TF.refl _ _) hC (ah.mk _ _)
 apply aH.step
 case aB=>
  intro c A w' hok hC hO hD
  simp [au,ah,aj,Act.eval,Region.binds] at hD
  simp [go_sem,gd,Oper.wp,hD]
  exact ak.mk (TF.refl _ _) hC (ah.mk _ _)
 simp only [List.nil_append,List.cons_append]
 apply aH.step
 case aB=>
  intro c A w' hok hC hO hD
  simp [au,ah,aj,Act.eval,Region.binds] at hD
  simp [go_sem,gd,Oper.wp,hD,K7,hC.1]
  exact ak.mk (TF.refl _ _) hC (ah.mk _ _)
 apply aH.step
 case aB=>
  intro c A w' hok hC hO hD
  simp [au,ah,aj,Act.eval,Region.binds] at hD
  simp [go_sem,gd,Oper.wp,hD]
  exact ak.mk (TF.refl _ _) hC (ah.mk _ _)
 simp only [List.nil_append,List.cons_append]
 apply aH.step
 case aB=>
  intro c A w' hok hC hO hD
  simp [au,ah,aj,Act.eval,Region.binds] at hD
  simp [go_sem,gd,Oper.wp,hD,hwd]
  exact ak.mk (TF.refl _ _) hC (ah.mk _ _)
 simp only [List.nil_append,List.cons_append]
 apply aH.step
 case aB=>
  intro c A w' hok hC hO hD
  simp [au,ah,aj,Act.eval,Region.binds] at hD
  simp [go_sem,gd,Oper.wp,hD,hcap,hwd]
  exact ak.mk (TF.refl _ _) hC (ah.mk _ _)
 simp only [List.nil_append,List.cons_append]
 apply aH.step
 case aB=>
  intro c A w' hok hC hO hD
  simp [au,ah,aj,Act.eval,Region.binds] at hD
  simp [go_sem,gd,Oper.wp,hD]
  exact ak.mk (TF.refl _ _) hC (ah.mk _ _)
 apply aH.step
 case aB=>
  intro c A w' hok hC hO hD
  simp [au,ah,aj,Act.eval,Region.binds] at hD
  simp [go_sem,gd,Oper.wp,hD]
  exact ak.mk (TF.refl _ _) hC (ah.mk _ _)
 try simp only [List.nil_append,List.cons_append]
 refine aH.done ?_
 intro wz bK
 try simp only [List.drop_zero,List.drop_succ_cons]
 intro v0 h0 v1 h1 v2 h2 v3 h3 v4 h4 v5 h5 v6 h6 v7 h7 v8 h8 v9 h9 v10 h10 v11 h11 v12 h12 v13 mP
 have zi:=Eq.symm (show v11=_ from h11)
 subst zi
 have Db:=Eq.symm (show v13=_ from mP)
 subst Db
 clear h0 h1 h2 h3 h4 h5 h6 h7 h8 h9 h10 h11 h12 mP
 refine rV ?_
 go_simp
 have y7:=K7 wz bK.1
 obtain ⟨_,_,_,_,_,_,vz,_,_,_,_,_,_,_,_,cz,fz,_,hrz⟩:=bK.2.reads
 obtain rfl:vz= .slice (some ⟨g2,0,none⟩) (hs.length + 1) cap2:=by rw [cz] at y7; injection y7
 have Um:=Lib.hid (qF.pop hrz rfl)
 have f7:=fz 7
 have CS:=Lib.hid bK
 clear hrz fz cz bK K7 hd1
 refine gY 14 [[],[],[1],[1,2],[1,2,3],[],[5],[5,6],[5,6,7],[5,6,7,8],[5,6,7,8,9],[1,2,3,4,5,6,7,8,9,10],[0,1,2,3,4,5,6,7,8,9,10,11],[0,1,2,3,4,5,6,7,8,9,10,11,12],[0,1,2,3,4,5,6,7,8,9,10,11,12,13]] rfl rfl rfl rfl rfl (by kernel_rfl) (by kernel_rfl) (by kernel_rfl) ?_
 simp [go_sem,Oper.wp,y7,f7]
 refine dQ rfl ?_
 go_simp
 generalize Fu:World.setCell wz _ _=W6
 have HH:Hid (cZ W6 T (some g2) hs∧Mm T (some g2) wz W6):=Lib.hid (CS.out.2.held (vH:= .slice (some ⟨g2,0,none⟩) hs.length cap2) Fu.symm (IL _ _) rfl (Hx.refl _ _) Um.out (fun y hy=>gK.out.ok y (List.mem_append.2 (.inl hy))) (by omega))
 have HA:Hid (jT w.heap.size (tL (some g2)) w4 W6):=Lib.hid ((CS.out.1.mm (H:=some g2)).xX aM.out.t aM.out.m |>.trans (HH.out.2.xX aM.out.t aM.out.m) (fun _ _ _ e=>e))
 clear Fu
 go_wp2_with fail
 go_ret
 exact ⟨v,l,some g2,rfl,HG.out.next HA.out (Hx.refl _ _),lX.out.1,lX.out.2.1,lX.out.2.2,Ij.out,(eu.out.trans Ij.out (CS.out.1.mm (H:=some g2))).trans Ij.out HH.out.2,HH.out.1⟩
end Go.Proofs.YtnknfoibmgphnaaDoor
end
section
set_option linter.unusedSimpArgs false
set_option linter.unusedVariables false
namespace Go.Proofs.YtnknfoibmgphnaaDoor
open Go.RowKit
open Md
def pE (zs:List Int) (a:Nat) (n:Int):Int:=if zs.length≤a then 0 else if n < 1 then 0 else (zs[a]?.getD 0) % n
theorem GZ {zs:List Int} {a:Nat} {n:Int} (h:zs.length≤a):pE zs a n=0:=by unfold pE; rw [if_pos h]
theorem J5 {zs:List Int} {a:Nat} {n:Int} (h:n < 1):pE zs a n=0:=by unfold pE; split <;> simp [h]
theorem JV {zs:List Int} {a:Nat} {n:Int} (h:a < zs.length) (hn: ¬ n < 1):pE zs a n=zs[a] % n:=by unfold pE; rw [if_neg (by omega),if_neg hn]; simp [h]
def KP (T:Tp) (n v:Int) (w:World) (e:Ending) (w':World):Prop:=e= .returned (.int .i64 v)∧0≤v∧(0 < n→v < n)∧v≤255∧w.grownBy w' (some T.bt)∧kP w' T
theorem zP {T:Tp} {n r v:Int} {w w':World} (hv:v=r) (h0:0≤r) (h1:0 < n→r < n) (h2:r≤255) (h3:w.grownBy w' (some T.bt)) (h4:kP w' T):KP T n v w (.returned (.int .i64 r)) w':=by subst hv; exact ⟨rfl,h0,h1,h2,h3,h4⟩
set_option maxHeartbeats 2000000 in
set_option maxRecDepth 100000 in
theorem Mk (T:Tp) (n:Int) (w:World) (hn:aX n) (hI:kP w T) (a:Nat) (hblk:w.heap[T.bt]? =some (.cells #[.slice T.ao T.zs.length T.cap,.int .i64 a] 47 (0,0))):
 Calls Tryd.prog 8 #[.pointer (some ⟨T.bt,0,none⟩),.int .i64 n] w (KP T n (pE T.zs a n) w):=by
 have HI:=Lib.hid hI
 have HB:=Lib.hid hblk
 have hlen:=hI.len
 obtain ⟨hn1,hn2⟩:=hn
 have c0:w.cell? ⟨T.bt,0,none⟩=some (.slice T.ao T.zs.length T.cap):=(aV hblk (j:=0) rfl).2
 have c1:w.cell? ⟨T.bt,1,none⟩=some (.int .i64 (a:Int)):=(aV hblk (j:=1) rfl).2
 clear hI hblk
 by_cases h1:T.zs.length≤a
 ·have hd:decide ((T.zs.length:Int)≤(a:Int))=true:=by rw [decide_eq_true_iff]; omega
  go_enter Tryd.func8,Tryd.ntmps8
  go_wp2_with fail
  go_quiet (fail)
  go_wp2_with fail
  go_ret
  exact zP (GZ h1) (by omega) (by omega) (by omega) (lF _ _) (HI.out.draws _)
 ·have hd:decide ((T.zs.length:Int)≤(a:Int))=false:=by rw [decide_eq_false_iff_not]; omega
  by_cases h2:n < 1
  ·have hd2:decide (n < 1)=true:=by rw [decide_eq_true_iff]; omega
   go_enter Tryd.func8,Tryd.ntmps8
   go_wp2_with fail
   go_quiet (fail)
   go_wp2_with fail
   go_ret
   exact zP (J5 h2) (by omega) (by omega) (by omega) (lF _ _) (HI.out.draws _)
  ·have hd2:decide (n < 1)=false:=by rw [decide_eq_false_iff_not]; omega
   go_enter Tryd.func8,Tryd.ntmps8
   go_wp2_with fail
   go_quiet (fail)
   generalize hW:World.drewN w _=W1
   have HI1:Hid (kP W1 T):=Lib.hid (by rw [← hW]; exact HI.out.draws _)
   have qE:Hid (w.grownBy W1 (some T.bt)):=Lib.hid (by rw [← hW]; exact lF _ _)
   have HB1:Hid (W1.heap[T.bt]? =some (.cells #[.slice T.ao T.zs.length T.cap,.int .i64 (a:Int)] 47 (0,0))):=Lib.hid (by rw [← hW]; exact ((below_drewN (Below.refl w.heap.size w) _).block _ HI.out.lt).trans HB.out)
   clear hW c0 c1 HI HB hd hd2
   have c1:W1.cell? ⟨T.bt,1,none⟩=some (.int .i64 (a:Int)):=(aV HB1.out (j:=1) rfl).2
   have f1:W1.frozen? ⟨T.bt,1,none⟩=false:=dH HB1.out
   go_upto_region 4 with fail
   generalize hW2:World.setCell W1 _ _=W2
   have HB2:Hid (W2.heap[T.bt]? =some (.cells #[.slice T.ao T.zs.length T.cap,.int .i64 ((a:Int) + 1)] 47 (0,0))):=Lib.hid (by rw [← hW2,dN HB1.out]; rfl)
   have HG2:Hid (W1.grownBy W2 (some T.bt)):=Lib.hid (by rw [← hW2]; exact dY _ _ _)
   have Bu:Hid (uP W2 T.B0 T.zs T.ao):=Lib.hid (HI1.out.BF.below (fC HG2.out T.t0 HI1.out.b0))
   have HI2:Hid (kP W2 T):=Lib.hid ⟨⟨a + 1,by omega,by rw [HB2.out]; rfl⟩,Bu.out,HI1.out.len⟩
   have HG:=Lib.hid (zY qE.out HG2.out)
   clear hW2 c1 f1 qE HG2 HB1
   have ha:a < T.zs.length:=by omega
   obtain ⟨bb,off,hao,hbb,hcell,hz0,hz1⟩:=Bu.out a ha
   have c0:W2.cell? ⟨T.bt,0,none⟩=some (.slice T.ao T.zs.length T.cap):=(aV HB2.out (j:=0) rfl).2
   have c1:W2.cell? ⟨T.bt,1,none⟩=some (.int .i64 ((a:Int) + 1)):=(aV HB2.out (j:=1) rfl).2
   rw [hao] at c0
   have hzv:=Lib.hid (JV (zs:=T.zs) (a:=a) (n:=n) ha (by omega))
   generalize T.zs[a]=z at *
   have hw1:(a:Int) + 1 - 1=(a:Int):=by omega
   have hw2:IntKind.i64.wrap (a:Int)=(a:Int):=IntWalk.i64_in _ (by omega)
   have hb0:(0:Int)≤(a:Int):=by omega
   have hb1:(a:Int) < (T.zs.length:Int):=by omega
   have LK:=Lib.hid hao
   clear hao HI1
   go_quiet (fail)
   go_wp2_with fail
   go_ret
   have e1:=Int.emod_nonneg z (show n≠0 by omega)
   have e2:=Int.emod_lt_of_pos z (show 0 < n by omega)
   have e3:z % n≤255:=by
    by_cases hzn:z < n
    ·rw [Int.emod_eq_of_lt hz0 hzn]; exact hz1
    ·omega
   exact zP hzv.out e1 (fun _=>e2) e3 (zY HG.out (lF _ _)) (HI2.out.draws _)
theorem cZ.tf {w w':World} {T:Tp} {H:Option Nat} {hs:List ByteArray} (hI:cZ w T H hs) (h5:w.grownBy w' (some T.bt)) (h6:kP w' T):cZ w' T H hs:=by
 refine ⟨h6,?_,hI.nt,hI.nm,hI.ok,hI.few⟩
 obtain ⟨th,left,a,b,c,d,vH,k3,k4,k5,k6⟩:=hI.rY
 refine ⟨th,left,a,b,c,d,vH,k3,(h5.block _ hI.lt (by simp; exact T.tm.symm)).trans k4,k5,⟨k6.own.1,?_⟩,fun _ _ _ _=>trivial⟩
 rcases k6.own.2 with h1 | ⟨g,cap,cur,h1,h2,h3,h4⟩
 ·exact .inl h1
 ·exact .inr ⟨g,cap,cur,h1,h2,(h5.block g (Array.getElem?_eq_some_iff.1 h3).1 (by intro e; injection e with e; exact hI.nt (by rw [← k5,h1,← e]; rfl))).trans h3,h4⟩
theorem FW (T:Tp) (H:Option Nat) (hs:List ByteArray) (n:Int) (w:World) (hn:aX n) (hp:0 < n) (hI:cZ w T H hs): ∃r:Nat,(r:Int) < n∧ ∀W,cZ W T H hs→W.heap[T.bt]? =w.heap[T.bt]?→
 Calls Tryd.prog 8 #[.pointer (some ⟨T.bt,0,none⟩),.int .i64 n] W (fun e w'=>e= .returned (.int .i64 r)∧TF T W w'∧cZ w' T H hs):=by
 obtain ⟨a,-,hb⟩:=hI.tape.blk
 have h0:0≤pE T.zs a n:=by
  unfold pE
  split
  ·omega
  ·split
   ·omega
   ·exact Int.emod_nonneg _ (by omega)
 have h1:pE T.zs a n < n:=by
  unfold pE
  split
  ·omega
  ·split
   ·omega
   ·exact Int.emod_lt_of_pos _ hp
 refine ⟨(pE T.zs a n).toNat,by omega,fun W hW e=> ?_⟩
 refine (Mk T n W hn hW.tape a (e.trans hb)).mono ?_
 rintro e w' ⟨rfl,-,-,-,h5,h6⟩
 exact ⟨by rw [Int.toNat_of_nonneg h0],h5,hW.tf h5 h6⟩
end Go.Proofs.YtnknfoibmgphnaaDoor
end
section
set_option linter.unusedSimpArgs false
set_option linter.unusedVariables false
namespace Go.Proofs.YtnknfoibmgphnaaDoor
open Go.RowKit
open Md
def aG (op:Int) (nm:ByteArray) (idx:bJ) (dU xn:Int) (dV:ByteArray) (xk:bJ):eH:=⟨op,0,nm,⟨#[]⟩,idx,dU,xn,dV,xk⟩
def h0 (op:Int) (nm:ByteArray):eH:=aG op nm .nil 0 0 ⟨#[]⟩ .nil
def aK (ax:Option Addr) (cx:Nat):Sl:=⟨none,0,ax,cx,none,0,none,0⟩
def fK (ab:Option Addr) (cb:Nat):Sl:=⟨none,0,none,0,ab,cb,none,0⟩
def gq:Sl:=⟨none,0,none,0,none,0,none,0⟩
theorem nG (x:Int):aX (wrap64 x):=by unfold aX wrap64; omega
theorem mG {op dU xn:Int} {nm dV:ByteArray} {xk:bJ} (h1:aX op) (h2:nm.size≤maxLen) (h3:lI dU xn dV xk):ko (aG op nm .nil dU xn dV xk) .nil .nil:=
 ⟨h1,ny,h2,jD,nil_le,h3,Nat.zero_le _,Nat.zero_le _⟩
theorem nE:lI 0 0 ⟨#[]⟩ .nil:=⟨ny,ny,jD,nil_le⟩
theorem gH {B:Nat} {X:Nat→Prop} {W:World} {h:eH} {b e:aR} {s:Sl} (h1:fJ B X W (fun w2=>h.idx.At w2 w2.heap.size s.fU 0)) (h2:fJ B X W (fun w2=>h.bq.At w2 w2.heap.size s.dW 0)) (h3:fJ B X W (fun w2=>b.At w2 w2.heap.size s.bg 0)) (h4:fJ B X W (fun w2=>e.At w2 w2.heap.size s.eY 0)):fJ B X W (aD.I ⟨h,b,e,s⟩):=fun w2 q=>⟨h1 w2 q,h2 w2 q,h3 w2 q,h4 w2 q⟩
theorem eZ {B:Nat} {X:Nat→Prop} {W:World} {ao:Option Addr} :fJ B X W (fun w2=>bJ.nil.At w2 w2.heap.size ao 0):=fun _ _=>trivial
theorem dx {B:Nat} {X:Nat→Prop} {W:World} {ao:Option Addr} :fJ B X W (fun w2=>aR.nil.At w2 w2.heap.size ao 0):=fun _ _=>trivial
theorem eF {w:World} {b:Nat} {t:TypeId} (h:w.heap[b]? =some (.cells jv t (0,0))):(w.cell? ⟨b,0,none⟩=some (.int .i64 0)∧w.cell? ⟨b,1,none⟩=some (.int .i64 0)∧w.cell? ⟨b,2,none⟩=some (.string ⟨#[]⟩)∧w.cell? ⟨b,3,none⟩=some (.string ⟨#[]⟩)∧w.cell? ⟨b,4,none⟩=some (.slice none 0 0)∧w.cell? ⟨b,5,none⟩=some (.int .i64 0)∧w.cell? ⟨b,6,none⟩=some (.int .i64 0)∧w.cell? ⟨b,7,none⟩=some (.string ⟨#[]⟩)∧w.cell? ⟨b,8,none⟩=some (.slice none 0 0)∧w.cell? ⟨b,9,none⟩=some (.slice none 0 0)∧w.cell? ⟨b,10,none⟩=some (.slice none 0 0))∧(∀j,w.frozen? ⟨b,j,none⟩=false):=
 ⟨⟨(aV h (j:=0) rfl).2,(aV h (j:=1) rfl).2,(aV h (j:=2) rfl).2,(aV h (j:=3) rfl).2,(aV h (j:=4) rfl).2,(aV h (j:=5) rfl).2,(aV h (j:=6) rfl).2,(aV h (j:=7) rfl).2,(aV h (j:=8) rfl).2,(aV h (j:=9) rfl).2,(aV h (j:=10) rfl).2⟩,fun j=>dH h⟩
theorem fG {T:Tp} {H H':Option Nat} {hs:List ByteArray} {w Wb W4:World} {h:eH} {b e:aR} {s:Sl} {cs:Array Value} {t:TypeId} (hM0:Mm T H w Wb) (hO:Old T H w.heap.size) (hsb:w.heap.size < Wb.heap.size) (hM:Mm T H Wb W4) (hx:Hx Wb H H') (hI:cZ W4 T H' hs) (hok:ko h b e) (hst:fJ Wb.heap.size (tL H') W4 (aD.I ⟨h,b,e,s⟩)) (rR:W4.heap[w.heap.size]? =some (.cells cs t (0,0))) (hcs:cs.size=11):
 Pp T H hs w (.returned (aY h b e s)) (W4.setCells w.heap.size 0 (aD.f ⟨h,b,e,s⟩))∧(W4.setCells w.heap.size 0 (aD.f ⟨h,b,e,s⟩)).heap[w.heap.size]? =some (.cells (aD.f ⟨h,b,e,s⟩).toArray t (0,0)):=by
 have hg:=kH w.heap.size (aD.f ⟨h,b,e,s⟩) 0 W4
 have hne:H'≠some w.heap.size:=by
  rcases hx with rfl | ⟨k,rfl,hk⟩
  ·intro e; have:=hO.h _ e; omega
  ·intro e; injection e with e; omega
 have hszW:w.heap.size < W4.heap.size:=Nat.lt_of_lt_of_le hsb hM.size
 refine ⟨⟨h,b,e,s,H',rfl,hok,(hst.go (.zG hg (fun k h1 e=>by injection e with e; omega)) (fun _ _ _ e=>e)).weak (Nat.le_of_lt hsb) (fun _ _ _ e=>e),?_,?_,hI.grown hg (fun k e=>by
  injection e with e; subst e
  exact ⟨hO.z,fun e=>by have:=hO.t; omega,fun e=>by have:=hO.m; omega,hne⟩)⟩,yg rR (by rw [hcs]; rfl)⟩
 ·rcases hx with rfl | ⟨k,rfl,hk⟩
  ·exact .inl rfl
  ·exact .inr ⟨k,rfl,by omega⟩
 ·exact (hM0.trans (Hx.refl _ _) hM).then_ (uh hg (fun k e=>by injection e with e; omega) (Nat.le_of_lt hszW)) hg.size
theorem dD {W:World} {b:Nat} {x:aD} {t:TypeId} {Q:Prop} (hf:Q∧W.heap[b]? =some (.cells (aD.f x).toArray t (0,0))):(W.cell? ⟨b,0,none⟩=some (.int .i64 x.h.op)∧W.cell? ⟨b,1,none⟩=some (.int .i64 x.h.line)∧W.cell? ⟨b,2,none⟩=some (.string x.h.nm)∧W.cell? ⟨b,3,none⟩=some (.string x.h.arg)∧W.cell? ⟨b,4,none⟩=some (.slice x.s.fU x.h.idx.len x.s.eG)∧W.cell? ⟨b,5,none⟩=some (.int .i64 x.h.dU)∧W.cell? ⟨b,6,none⟩=some (.int .i64 x.h.xn)∧W.cell? ⟨b,7,none⟩=some (.string x.h.dV)∧W.cell? ⟨b,8,none⟩=some (.slice x.s.dW x.h.bq.len x.s.cB)∧W.cell? ⟨b,9,none⟩=some (.slice x.s.bg x.b.len x.s.aT)∧W.cell? ⟨b,10,none⟩=some (.slice x.s.eY x.e.len x.s.dP))∧Hid Q:=
 ⟨⟨(aV hf.2 (j:=0) rfl).2,(aV hf.2 (j:=1) rfl).2,(aV hf.2 (j:=2) rfl).2,(aV hf.2 (j:=3) rfl).2,(aV hf.2 (j:=4) rfl).2,(aV hf.2 (j:=5) rfl).2,(aV hf.2 (j:=6) rfl).2,(aV hf.2 (j:=7) rfl).2,(aV hf.2 (j:=8) rfl).2,(aV hf.2 (j:=9) rfl).2,(aV hf.2 (j:=10) rfl).2⟩,Lib.hid hf.1⟩
def KA:Array Value:= #[.string ⟨#[120]⟩,.string ⟨#[121]⟩,.string ⟨#[120]⟩,.string ⟨#[118]⟩]
theorem MX:PW 4 KA:=fun j hj=>by
 have:j=0∨j=1∨j=2∨j=3:=by omega
 rcases this with rfl | rfl | rfl | rfl <;> exact ⟨_,rfl,by unfold maxLen; decide⟩
def K3:Array Value:= #[.string ⟨#[97]⟩,.string ⟨#[98]⟩]
theorem MF:PW 2 K3:=fun j hj=>by
 have:j=0∨j=1:=by omega
 rcases this with rfl | rfl <;> exact ⟨_,rfl,by unfold maxLen; decide⟩
theorem rO {l:List aD} (h:l.length≤1000):(aN l).len≤maxLen:=by rw [jK]; unfold maxLen; omega
theorem dX (s:ByteArray) (op n:Int) (nm:ByteArray) (kids:bJ) (ao:Option Addr) (cap:Nat) (w:World):
 Calls Tryd.prog 11 #[.string s,exV op n nm kids ao cap] w fun e w'=>e= .returned (aY (aG 1 s .nil op n nm kids) .nil .nil (aK ao cap))∧Below w.heap.size w w':=by
 unfold exV
 go_enter Tryd.func11,Tryd.ntmps11
 go_wp2_with fail
 refine bodyPost_ret (v:=aY (aG 1 s .nil op n nm kids) .nil .nil (aK ao cap)) (by simp [results,Tryd.results11,go_sem,aY,aG,aK,bJ.len,aR.len]) rfl ⟨rfl,?_⟩
 exact ((ay _ _).alloc (by simp) _)
theorem rD {op dU xn:Int} {nm dV:ByteArray} {xk idx:bJ} {b e:aR} (h1:aX op) (h2:nm.size≤maxLen) (h3:lI dU xn dV xk) (h4:idx.len≤maxLen) (h5:b.len≤maxLen) (h6:e.len≤maxLen):ko (aG op nm idx dU xn dV xk) b e:=
 ⟨h1,ny,h2,jD,h4,h3,h5,h6⟩
theorem Hx.ne {w:World} {H H1:Option Nat} {k:Nat} (h:Hx w H H1) (hk:k < w.heap.size) (hn:H≠some k):H1≠some k:=fun e=>hn (h.old hk e)
def Rx (B:Nat) (v:Value) (W:World):Prop:= ∃s xo xn xm xk xa xc,v=aY (aG 1 s .nil xo xn xm xk) .nil .nil (aK xa xc)∧s.size≤maxLen∧lI xo xn xm xk∧iX B W (fun w2=>xk.At w2 w2.heap.size xa 0)
structure Sg (T:Tp) (H:Option Nat) (hs:List ByteArray) (b0:Nat) (wb:World) (Hc:Option Nat) (W:World):Prop where
 m:Mm T H wb W
 x:Hx wb H Hc
 i:cZ W T Hc hs
 z:W.heap[b0]? =some (.cells jv 42 (0,0))
 o:Old T H b0
 l:b0 < wb.heap.size
section
variable {T:Tp} {H Hc Hd H1:Option Nat} {hs:List ByteArray} {b0:Nat} {wb W W' W1:World} {Q:World→Prop}
theorem Sg.ne (h:Sg T H hs b0 wb Hc W):Hc≠some b0:=h.x.ne h.l (fun e=>absurd (h.o.h _ e) (Nat.lt_irrefl _))
theorem Sg.below (h:Sg T H hs b0 wb Hc W) (hb:Below W.heap.size W W'):Sg T H hs b0 wb Hc W':=
 ⟨h.m.then_ (hb.mono h.m.size) hb.size,h.x,h.i.below hb,(hb.block _ (Array.getElem?_eq_some_iff.1 h.z).1).trans h.z,h.o,h.l⟩
theorem Sg.mm (h:Sg T H hs b0 wb Hc W) (hm:Mm T Hc W W') (hx:Hx W Hc Hd) (hi:cZ W' T Hd hs):Sg T H hs b0 wb Hd W':=
 ⟨h.m.trans h.x hm,h.x.trans hx h.m.size,hi,hm.keep h.z (by have:=h.o.t; omega) (by have:=h.o.m; omega) h.ne,h.o,h.l⟩
theorem Sg.tf (h:Sg T H hs b0 wb Hc W) (hm:TF T W W') (hi:cZ W' T Hc hs):Sg T H hs b0 wb Hc W':=h.mm hm.mm (Hx.refl _ _) hi
theorem Sg.flag (h:Sg T H hs b0 wb Hc W) (j:Nat) (hj:j=3∨j=4∨j=5∨j=6) (q:Bool):Sg T H hs b0 wb Hc (W.setCell ⟨T.bm,j,none⟩ (.bool q)):=
 h.mm ((Mm.refl T Hc W).mJ (Hx.refl _ _) _ _) (Hx.refl _ _) (h.i.flag j hj q)
theorem Sg.set (h:Sg T H hs b0 wb Hc W) (a:Addr) (v:Value) (hb:wb.heap.size≤a.block) (hn:Hc≠some a.block):Sg T H hs b0 wb Hc (W.setCell a v):=
 ⟨h.m.set a v hb,h.x,h.i.set a v (by have:=h.o.z; have:=h.l; omega) (by have:=h.o.t; have:=h.l; omega) (by have:=h.o.m; have:=h.l; omega) hn,(aO W a v rfl (by have:=h.l; omega)).trans h.z,h.o,h.l⟩
theorem Sg.stay (h:Sg T H hs b0 wb H1 W1) (hS:iX wb.heap.size W1 Q) (hH: ∀k,H1=some k→wb.heap.size≤k→False) (hm:Mm T H1 W1 W) (hx:Hx W1 H1 Hc):fJ wb.heap.size (tL Hc) W Q:=
 (fJ.fV (X:=tL H1) hS (Nat.le_refl _) (fun k h1 _ e=>hH k e h1)).go (hm.xX (by have:=h.o.t; have:=h.l; omega) (by have:=h.o.m; have:=h.l; omega)) (fun k _ h2 e=>hx.old h2 e)
theorem Sg.zT {B1:Nat} (h:Sg T H hs b0 wb H1 W1) (hS:fJ B1 (tL H1) W1 Q) (hB:wb.heap.size≤B1) (hm:Mm T H1 W1 W) (hx:Hx W1 H1 Hc):fJ wb.heap.size (tL Hc) W Q:=
 (hS.weak hB (fun _ _ _ e=>e)).go (hm.xX (by have:=h.o.t; have:=h.l; omega) (by have:=h.o.m; have:=h.l; omega)) (fun k _ h2 e=>hx.old h2 e)
theorem Sg.grown {g:Option Nat} (h:Sg T H hs b0 wb Hc W) (hg:W.grownBy W' g) (h0: ∀k,g=some k→wb.heap.size≤k∧Hc≠some k):Sg T H hs b0 wb Hc W':=
 ⟨h.m.then_ (uh hg (fun k e=>(h0 k e).1) h.m.size) hg.size,h.x,h.i.grown hg (fun k e=>by
   have h1:=(h0 k e).1; have h2:=h.o.t; have h3:=h.o.m; have h4:=h.o.z; have h5:=h.l
   exact ⟨by omega,by omega,by omega,(h0 k e).2⟩),(hg.block _ (Array.getElem?_eq_some_iff.1 h.z).1 (fun e=>by have:=(h0 _ e.symm).1; have:=h.l; omega)).trans h.z,h.o,h.l⟩
theorem Sg.old (h:Sg T H hs b0 wb H W): ∀k,H=some k→wb.heap.size≤k→False:=fun k e h1=>by have:=h.o.h _ e; have:=h.l; omega
end
theorem zu {B g:Nat} {W:World} {t:TypeId} {fr:Nat × Nat} {l:List aD} (h:W.heap[g]? =some (.cells (l.flatMap aD.f).toArray t fr)) (hB:B≤g) (hI: ∀x ∈ l,ko x.h x.b x.e∧iX B W x.I):iX B W (fun w2=>(aN l).At w2 w2.heap.size (some ⟨g,0,none⟩) 0):=fun w2 h2=>by
 have hg:=(h2.2 g hB (Array.getElem?_eq_some_iff.1 h).1).trans h
 refine wY l 0 (fun x hx=>⟨(hI x hx).1,(hI x hx).2 w2 h2⟩) (fun i x hx=>⟨g,rfl,(Array.getElem?_eq_some_iff.1 hg).1,fun j u hu=> ?_⟩)
 have:=flat_get pQ l i x j u hx hu
 rw [Nat.zero_add]
 exact bL hg (by simpa using this)
theorem Ct (W:World) (a:Addr) (v:Value) (o:Obj) (h:a.block < W.heap.size):(W.setCell a v).alloc o=(W.alloc o).setCell a v:=by
 unfold World.setCell World.alloc
 simp only [World.mk.injEq,and_true,true_and]
 refine Array.ext_getElem? (fun k=> ?_)
 simp only [Array.getElem?_push,Array.getElem?_modify,Array.size_modify]
 split <;> split <;> first | rfl | omega | (simp; done) | skip
 all_goals simp_all
theorem oG (b:Nat) (o:Obj): ∀(vs:List Value) (k:Nat) (W:World),b < W.heap.size→(W.setCells b k vs).alloc o=(W.alloc o).setCells b k vs
 | [],_,_,_=>rfl
 | v ::vs,k,W,h=>by
   show ((W.setCell ⟨b,k,none⟩ v).setCells b (k + 1) vs).alloc o=((W.alloc o).setCell ⟨b,k,none⟩ v).setCells b (k + 1) vs
   rw [oG b o vs (k + 1) _ (by simpa [World.setCell] using h),Ct _ _ _ _ h]
theorem Ou:lI 2 0 ⟨#[98]⟩ .nil:=⟨by unfold aX; decide,ny,by unfold maxLen; decide,nil_le⟩
theorem RQ:lI 1 2 ⟨#[]⟩ .nil:=⟨by unfold aX; decide,by unfold aX; decide,jD,nil_le⟩
theorem Sy:lI 1 1 ⟨#[]⟩ .nil:=⟨by unfold aX; decide,by unfold aX; decide,jD,nil_le⟩
theorem Rl (op a b:Int) (h:aX op):lI op 0 ⟨#[]⟩ (.cons 2 a ⟨#[98]⟩ .nil (.cons 1 b ⟨#[]⟩ .nil .nil)):=⟨h,ny,jD,by simp [bJ.len,maxLen]⟩
def KG (l:List aD):Prop:= ∀x ∈ l,ko x.h x.b x.e∧ ∀B W,iX B W x.I
structure Ms (T:Tp) (d:Nat):Prop where
 pI:d≤100
 st:0 < d→(∀w H hs (n:Int),cZ w T H hs→hs.length + d≤901→1≤n→n≤1000→Calls Tryd.prog 9 #[.pointer (some ⟨T.bm,0,none⟩),.int .i64 ((d:Int) - 1),.int .i64 n] w (Fh T H hs w))
 bl:0 < d→(∀w H hs (s:ByteArray),cZ w T H hs→hs.length + d≤900→s.size≤maxLen→Calls Tryd.prog 32 #[.pointer (some ⟨T.bm,0,none⟩),.string s,.int .i64 ((d:Int) - 1)] w (Fh T H hs w))
 s0:0 < d→(∀w H hs (n:Int),cZ w T H hs→hs.length≤900→1≤n→n≤1000→Calls Tryd.prog 9 #[.pointer (some ⟨T.bm,0,none⟩),.int .i64 0,.int .i64 n] w (Fh T H hs w))
theorem Ms.mk' {T:Tp} {d:Nat} (hd:d≤100) (ih: ∀d':Nat,d' < d→vQ T d'∧Ez T d'):Ms T d:=by
 refine ⟨hd,fun h=> ?_,fun h=> ?_,fun h w H hs n h1 h2=>(ih 0 h).1 w H hs n h1 (by omega)⟩
 ·obtain ⟨d',rfl⟩: ∃d',d=d' + 1:=⟨d - 1,by omega⟩
  have e:((d' + 1:Nat):Int) - 1=(d':Int):=by omega
  rw [e]
  exact fun w H hs n h1 h2=>(ih d' (by omega)).1 w H hs n h1 (by omega)
 ·obtain ⟨d',rfl⟩: ∃d',d=d' + 1:=⟨d - 1,by omega⟩
  have e:((d' + 1:Nat):Int) - 1=(d':Int):=by omega
  rw [e]
  exact fun w H hs s h1 h2=>(ih d' (by omega)).2 w H hs s h1 (by omega)
def Nx (T:Tp) (w:World) (H:Option Nat) (hs:List ByteArray) (k:Nat):Prop:= ∀W,cZ W T H hs→W.heap[T.bt]? =w.heap[T.bt]?→
    Calls Tryd.prog 8 #[.pointer (some ⟨T.bt,0,none⟩),.int .i64 18] W (fun e w'=>e= .returned (.int .i64 k)∧TF T W w'∧cZ w' T H hs)
def lJ (K:Nat→Prop):Prop:= ∀(T:Tp) (d k:Nat),K k→Ms T d→ ∀w H hs,cZ w T H hs→hs.length + d≤900→Nx T w H hs k→
    Calls Tryd.prog 18 #[.pointer (some ⟨T.bm,0,none⟩),.int .i64 (d:Int)] w (Pp T H hs w)
end Go.Proofs.YtnknfoibmgphnaaDoor
end
