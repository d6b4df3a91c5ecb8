/-
  Contract of compile's World: the declarations.
-/
import Derived.Test.YtdajkddgnfgijaaGreatDoorGCB
import Derived.Test.YtdajkddgnfgijaaGreatDoorGML
import Derived.Test.YtdajkddgnfgijaaGreatDoorGMB
set_option linter.unusedSimpArgs false
set_option linter.unusedVariables false
namespace Go.Proofs.YtdajkddgnfgijaaGreatDoor
open Go.RowKit
open Md
namespace Md
def BU (p:Pr):Wo:=if (nT p).1 == 0 then kL p else rP
def AV:List Th→Nat
 | []=>0
 | t ::r=>bM t.body + AV r
theorem TT (W:Wo) (g:List UInt8→Int) (d:De) (h4:(iU d).length≤4):(iL W g d).cs.length≤W.cs.length + 4∧(iL W g d).ls.length≤W.ls.length + 1∧(iL W g d).ns.length≤W.ns.length + 1∧(iL W g d).fs.length≤W.fs.length + 1∧(iL W g d).ts=W.ts∧(iL W g d).ss=W.ss:=by
 unfold iL
 repeat' split
 all_goals simp only [List.length_append,List.length_cons,List.length_nil]
 all_goals simp only [and_true,true_and]
 all_goals omega
end Md
structure AL (p:Pr) (w:World) (B bw bm:Nat) (aK:Option Addr) (g0:Nat) (wr:World) (s:Vs) (W:Wo) (g:List UInt8→Int) (n k:Nat) (R:List De):Prop where
 len:k + R.length=p.ds.length
 eq:Ci p.ds rP (fun _=>0)=Ci R W g
 ws:qw wr B bw s W
 map:jd wr bm n g
 few:W.cs.length≤4 * k∧W.ls.length≤k∧W.ns.length≤k∧W.fs.length≤k∧n≤k∧W.ts=[]∧W.ss=[]
 at':ig wr g0 R aK k
 Rx:Below g0 w wr
 mlt:bm < B
 Bl:bm≠bw
 ok: ∀d ∈ R,kF d=true∧d.size≤4
 g0:g0≤B
theorem Ni {d:De} (h0:0≤d.size) (h4:d.size≤4):(iU d).length≤4:=by
 unfold iU
 split
 ·simp
 ·rw [tC]; omega
theorem AL.next {p:Pr} {w wr w6:World} {B bw bm g0 n n' k:Nat} {aK:Option Addr} {s s':Vs} {W:Wo} {g:List UInt8→Int} {d:De} {R:List De} (h:AL p w B bw bm aK g0 wr s W g n k (d ::R)) (hw:qw w6 B bw s' (iL W g d)) (hm:jd w6 bm n' (gD W g d)) (hn:n'≤n + 1) (hb:Below g0 wr w6):AL p w B bw bm aK g0 w6 s' (iL W g d) (gD W g d) n' (k + 1) R:=by
 obtain ⟨f1,f2,f3,f4,f5,f6,f7⟩:=h.few
 obtain ⟨o1,o2⟩:=h.ok d List.mem_cons_self
 obtain ⟨-,-,-,-⟩:=vG o1
 have hs0:0≤d.size:=by
  unfold kF at o1
  simp only [Bool.and_eq_true,decide_eq_true_eq] at o1
  exact o1.1.2.1
 obtain ⟨e1,e2,e3,e4,e5,e6⟩:=TT W g d (Ni hs0 o2)
 exact {len:=by have:=h.len; simp only [List.length_cons] at this; omega,eq:=h.eq,ws:=hw,map:=hm,few:=⟨by omega,by omega,by omega,by omega,by omega,e5.trans f6,e6.trans f7⟩,at':=h.at'.2.below hb,Rx:=h.Rx.trans hb,mlt:=h.mlt,Bl:=h.Bl,ok:=fun x hx=>h.ok x (List.mem_cons_of_mem _ hx),g0:=h.g0}
theorem Zj (s:ByteArray): ∀u ∈ lV s,u.oneCell'=true:=by intro u hu; simp [lV] at hu; subst hu; rfl
theorem Zi (s:yJ): ∀u ∈ mQ s,u.oneCell'=true:=by intro u hu; simp [mQ] at hu; rcases hu with rfl | rfl <;> rfl
theorem cn1 (s:BZ): ∀u ∈ sP s,u.oneCell'=true:=by intro u hu; simp [sP] at hu; rcases hu with rfl | rfl <;> rfl
theorem si1 (s:Cn): ∀u ∈ uz s,u.oneCell'=true:=by intro u hu; simp [uz] at hu; rcases hu with rfl | rfl | rfl <;> rfl
theorem NA:(Tryz.prog.info? 9).map (fun i=>(i.zero,i.size,i.bytes))=some (some (.string ⟨#[]⟩),1,16):=by kernel_rfl
theorem MO:(Tryz.prog.info? 61).map (fun i=>(i.zero,i.size,i.bytes))=some (some (.agg #[.string ⟨#[]⟩,.bool false]),2,24):=by kernel_rfl
theorem UW:(Tryz.prog.info? 66).map (fun i=>(i.zero,i.size,i.bytes))=some (some (.agg #[.string ⟨#[]⟩,.int .i64 0]),2,24):=by kernel_rfl
theorem Wu:(Tryz.prog.info? 64).map (fun i=>(i.zero,i.size,i.bytes))=some (some (.agg #[.int .i64 0,.int .i64 0,.int .i64 0]),3,24):=by kernel_rfl
theorem qw.add {w w5 wz:World} {B bw j:Nat} {s s':Vs} {W W':Wo} {pre post:List Rw} {r:Rw} {g' cap' n':Nat} {xs':List Value} (h:qw w B bw s W) (hb:Below w.heap.size w wz) (e1:gM s W=pre++r ::post) (hgr:wz.grownBy w5 r.v.ownBlock) (hmv:r.v.ownBlock=some g'∨g'=wz.heap.size)
 (hown:w5.ownsRow B r.T r.m (.slice (some ⟨g',0,none⟩) n' cap') n' xs') (e2:gM s' W'=pre++⟨r.T,r.m,.slice (some ⟨g',0,none⟩) n' cap',n',xs'⟩ ::post)
 (hc:(#[s.v0,s.v1,s.v2,s.v3,s.v4,s.v5]:Array Value).setIfInBounds j (.slice (some ⟨g',0,none⟩) n' cap')= #[s'.v0,s'.v1,s'.v2,s'.v3,s'.v4,s'.v5]):
 qw (w5.setCell ⟨bw,j,none⟩ (.slice (some ⟨g',0,none⟩) n' cap')) B bw s' W'∧(∀g0,g0≤bw→Below g0 w (w5.setCell ⟨bw,j,none⟩ (.slice (some ⟨g',0,none⟩) n' cap')))∧w5.cell? ⟨bw,j,none⟩=w.cell? ⟨bw,j,none⟩∧(∀i,w5.frozen? ⟨bw,i,none⟩=false)∧ ∀k,k < B→k≠bw→(w5.setCell ⟨bw,j,none⟩ (.slice (some ⟨g',0,none⟩) n' cap')).heap[k]? =w.heap[k]?:=by
 have hg:w.grownBy w5 r.v.ownBlock:=eY (wJ hb) hgr
 have ho:kG w r.v (.slice (some ⟨g',0,none⟩) n' cap'):=by
  rcases hmv with e | e
  ·exact .inl (by rw [e]; rfl)
  ·exact .inr ⟨g',rfl,by rw [e]; exact hb.size⟩
 have hrow:r.Ok w B:=h.row.own r (by rw [e1]; simp)
 have hlt:=h.lt
 have hsz:=h.sz
 have hne:r.v.ownBlock≠some bw:=fun e=>by have:=(hrow.lt _ e).1; omega
 have hbk:w5.heap[bw]? =w.heap[bw]?:=hg.block _ (Array.getElem?_eq_some_iff.1 h.blk).1 (fun e=>hne e.symm)
 refine ⟨h.grow (r':=⟨r.T,r.m,.slice (some ⟨g',0,none⟩) n' cap',n',xs'⟩) hg e1 e2 hown ho hc,fun g0 h0=> ?_,World.cell?_of_block (a:=⟨bw,j,none⟩) hbk,fun i=> ?_,fun k hk hne2=> ?_⟩
 ·have h5:Below g0 w w5:=⟨hg.os,hg.tape,hg.output,hg.size,fun k hk=>hg.block k (by omega) (fun e=>by have:=(hrow.lt _ e.symm).1; omega)⟩
  exact h5.trans (dB (dO _ _ _) h0 (Nat.le_trans (by omega) hg.size))
 ·rw [World.frozen?_of_block (a:=⟨bw,i,none⟩) hbk]; exact bH h.blk
 ·rw [bJ _ _ _ rfl (fun e=>hne2 e.symm)]
  exact hg.block k (by omega) (fun e=>by have:=(hrow.lt _ e.symm).1; omega)
def VP (d:De) (v:Value) (w':World):Prop:= ∃gc yt,v= .slice (some ⟨gc,0,none⟩) (iU d).length yt∧0 < (iU d).length∧(iU d).length≤4∧ ∀j u,((iU d).flatMap kR)[j]? =some u→w'.cell? ((⟨gc,0,none⟩:Addr).add j)=some u
set_option maxHeartbeats 8000000 in
set_option maxRecDepth 100000 in
theorem KZ (p:Pr) (w:World) (aK aM:Option Addr) (aG aH:Nat) (hp:p.At w aK aM) (dI:dw w) (UK:AV p.ts≤1000000000000):
 Calls Tryz.prog 16 #[.agg #[.slice aK p.ds.length aG,.slice aM p.ts.length aH]] w fun e w'=> ∃s,e= .returned (KS (BU p) s)∧oI w' w'.heap.size (BU p) s∧Below w.heap.size w w'∧R5 w.heap.size s:=by
 have HP:=Lib.hid hp
 have gU:=Lib.hid dI
 have NP:=Lib.hid UK
 have hmm:= @run_makeMap Tryz.prog
 have HL:=Lib.hid (And.intro hp.1 hp.2.1)
 clear hp dI UK
 go_enter Tryz.func16,Tryz.ntmps16
 go_upto_region 2 with fail
 generalize hW:World.alloc (World.alloc (World.alloc w _) _) _=w1
 obtain ⟨bp,hbp⟩: ∃n,w.heap.size=n:=⟨_,rfl⟩
 have HB1:Hid (Below w.heap.size w w1):=Lib.hid (by rw [← hW]; exact ((aj _ _).alloc (by simp) _).alloc (by simp <;> omega) _)
 have sI:Hid (w1.heap.size=bp + 3):=Lib.hid (by rw [← hW,← hbp]; simp)
 have Bo:Hid (w1.heap[bp]? =some (.cells #[.slice aK p.ds.length aG,.slice aM p.ts.length aH] 25 (0,0))):=Lib.hid (by
  rw [← hW,← hbp,heap_alloc_old _ _ (by simp <;> omega),heap_alloc_old _ _ (by simp <;> omega)]; exact heap_alloc_new _ _)
 have A9:Hid (w1.heap[bp + 1]? =some (.cells #[.slice none 0 0,.slice none 0 0,.slice none 0 0,.slice none 0 0,.slice none 0 0,.slice none 0 0] 35 (0,0))):=Lib.hid (by
  have:=heap_alloc_new (w.alloc (.cells #[.slice aK p.ds.length aG,.slice aM p.ts.length aH] 25)) (.cells #[.slice none 0 0,.slice none 0 0,.slice none 0 0,.slice none 0 0,.slice none 0 0,.slice none 0 0] 35)
  rw [← hW,← hbp,heap_alloc_old _ _ (by simp)]; simpa using this)
 have Kl:Hid (w1.heap[bp + 2]? =some (.cells #[.slice none 0 0,.slice none 0 0,.slice none 0 0,.slice none 0 0,.slice none 0 0,.slice none 0 0] 35 (0,0))):=Lib.hid (by
  have:=heap_alloc_new ((w.alloc (.cells #[.slice aK p.ds.length aG,.slice aM p.ts.length aH] 25)).alloc (.cells #[.slice none 0 0,.slice none 0 0,.slice none 0 0,.slice none 0 0,.slice none 0 0,.slice none 0 0] 35)) (.cells #[.slice none 0 0,.slice none 0 0,.slice none 0 0,.slice none 0 0,.slice none 0 0,.slice none 0 0] 35)
  rw [← hW,← hbp]; simpa using this)
 have Dx:=Lib.hid hbp
 rw [hbp]
 rw [show bp + 1 + 1=bp + 2 from rfl]
 clear hW hbp
 have y0:=aB (j:=0) Bo.out rfl
 have y1:=aB (j:=1) Bo.out rfl
 go_wp2_with fail
 refine (Ck p w1 aK aM aG aH (HP.out.same HB1.out) (gU.out.same HB1.out)).mono ?_
 rintro e w2 ⟨rfl,hb2⟩
 have HB2:=Lib.hid hb2
 clear hb2 y0 y1
 have wC:=Lib.hid ((HB2.out.block _ (Array.getElem?_eq_some_iff.1 Bo.out).1).trans Bo.out)
 have ql:=Lib.hid ((HB2.out.block _ (Array.getElem?_eq_some_iff.1 A9.out).1).trans A9.out)
 have zF:=Lib.hid ((HB2.out.block _ (Array.getElem?_eq_some_iff.1 Kl.out).1).trans Kl.out)
 clear Bo A9 Kl
 have Ky:Hid (BU p=if (nT p).1 == 0 then kL p else rP):=Lib.hid rfl
 have K9:=Lib.hid (wX (p:=p))
 have YX:=Lib.hid (XE (p:=p))
 generalize (nT p).1=er at *
 generalize (nT p).2=ln at *
 have y0:=aB (j:=0) wC.out rfl
 have y1:=aB (j:=1) wC.out rfl
 cases her:(er == 0)
 ·have hne:(er != 0)=true:=by rw [bne,her]; rfl
  have zU:Hid (BU p=rP):=Lib.hid (Ky.out.trans (by rw [her]; rfl))
  have c0:=aB (j:=0) zF.out rfl
  have c1:=aB (j:=1) zF.out rfl
  have c2:=aB (j:=2) zF.out rfl
  have c3:=aB (j:=3) zF.out rfl
  have c4:=aB (j:=4) zF.out rfl
  have c5:=aB (j:=5) zF.out rfl
  have r0:=aB (j:=0) ql.out rfl
  have r1:=aB (j:=1) ql.out rfl
  have r2:=aB (j:=2) ql.out rfl
  have r3:=aB (j:=3) ql.out rfl
  have r4:=aB (j:=4) ql.out rfl
  have r5:=aB (j:=5) ql.out rfl
  have f0:=fun j=>bH (o:=j) ql.out
  go_wp2_with fail
  show bodyPost _ _ _ _ _ (World.setCells w2 (bp + 1) 0 [.slice none 0 0,.slice none 0 0,.slice none 0 0,.slice none 0 0,.slice none 0 0,.slice none 0 0])
  have qo:=Lib.hid (jR (vs:=[.slice none 0 0,.slice none 0 0,.slice none 0 0,.slice none 0 0,.slice none 0 0,.slice none 0 0]) ql.out rfl)
  have OO:Hid (Below w.heap.size w (World.setCells w2 (bp + 1) 0 [.slice none 0 0,.slice none 0 0,.slice none 0 0,.slice none 0 0,.slice none 0 0,.slice none 0 0])):=Lib.hid (HB1.out.trans ((HB2.out.mono HB1.out.size).trans (dB (cB _ _ _ _) (by have:=Dx.out; omega) (by have:=HB1.out.size; have:=HB2.out.size; omega))))
  generalize Mx:World.setCells w2 _ _ _=wz at *
  have o0:=aB (j:=0) qo.out rfl
  have o1:=aB (j:=1) qo.out rfl
  have o2:=aB (j:=2) qo.out rfl
  have o3:=aB (j:=3) qo.out rfl
  have o4:=aB (j:=4) qo.out rfl
  have o5:=aB (j:=5) qo.out rfl
  clear Mx
  exact bodyPost_ret (v:=KS rP ⟨none,none,none,none,none,none,0,0,0,0,0,0⟩) (by simp [results,Tryz.results16,go_sem,KS,rP,o0,o1,o2,o3,o4,o5]) rfl ⟨⟨none,none,none,none,none,none,0,0,0,0,0,0⟩,by rw [zU.out],by rw [zU.out]; exact ⟨trivial,trivial,trivial,trivial,trivial,trivial,Nat.zero_le _,Nat.zero_le _,Nat.zero_le _,Nat.zero_le _,Nat.zero_le _,Nat.zero_le _,fun c hc=>by cases hc⟩,OO.out,(fun b e=>by cases e),(fun b e=>by cases e),(fun b e=>by cases e),(fun b e=>by cases e),(fun b e=>by cases e),(fun b e=>by cases e)⟩
 ·have hne:(er != 0)=false:=by rw [bne,her]; rfl
  have h0:er=0:=by simpa using her
  have HWP:Hid (BU p=yO (Ci p.ds rP (fun _=>0)) 0 p.ts):=Lib.hid (Ky.out.trans (by rw [her,if_pos rfl]; unfold kL; rw [YX.out h0]))
  have Sg:=Lib.hid (K9.out h0)
  have IV:Hid (p.ds.length≤20∧p.ts.length≤4∧ ∀d ∈ p.ds,kF d=true∧d.size≤4):=Lib.hid (by
   obtain ⟨q1,q2,q3,-⟩:=Sg.out
   unfold tq at q1
   simp only [Bool.and_eq_true,List.all_eq_true] at q1
   have:=Cv p.ds [] 0 0 0 0 q1.1.1 q2 (by omega)
   exact ⟨by omega,q3,fun d hd=>⟨q1.1.1 d hd,FT _ _ _ _ _ _ q2 d hd⟩⟩)
  clear Ky K9 YX
  have hdl:p.ds.length≤20:=IV.out.1
  have htl:p.ts.length≤4:=IV.out.2.1
  go_upto_region 6 with fail
  obtain ⟨bm,Xq⟩: ∃n,w2.heap.size=n:=⟨_,rfl⟩
  generalize hW3:World.alloc w2 _=w3
  have HB3:Hid (Below w2.heap.size w2 w3):=Lib.hid (by rw [← hW3]; exact aj _ _)
  have Cu:Hid (jd w3 bm 0 (fun _=>0)):=Lib.hid (by rw [← hW3,← Xq]; exact jd.made w2)
  have iT:Hid (bp + 3≤bm∧bm < w3.heap.size):=Lib.hid (by have h1:=HB2.out.size; have h2:=sI.out; have h3:=Cu.out.lt; omega)
  have CZ:=Lib.hid ((HB3.out.block _ (Array.getElem?_eq_some_iff.1 wC.out).1).trans wC.out)
  have CB:=Lib.hid ((HB3.out.block _ (Array.getElem?_eq_some_iff.1 ql.out).1).trans ql.out)
  have ZF:=Lib.hid ((HB3.out.block _ (Array.getElem?_eq_some_iff.1 zF.out).1).trans zF.out)
  have QT:=Lib.hid (HB2.out.trans (HB3.out.mono HB2.out.size))
  rw [Xq]
  clear hW3 Xq y0 y1 wC ql zF HB2 HB3
  have HST:Hid (AL p w3 w3.heap.size (bp + 2) bm aK (bp + 2) w3 ⟨.slice none 0 0,.slice none 0 0,.slice none 0 0,.slice none 0 0,.slice none 0 0,.slice none 0 0⟩ rP (fun _=>0) 0 0 p.ds):=Lib.hid
   {len:=by simp,eq:=rfl
    ws:=⟨ZF.out,⟨fun r hr=>by
     simp only [gM,List.mem_cons,List.not_mem_nil,or_false] at hr
     rcases hr with rfl | rfl | rfl | rfl | rfl | rfl <;> exact World.ownsRow_nil _ _ _ _,by
     simp [gM,Apart,Value.ownBlock]⟩,by have:=iT.out; omega,Nat.le_refl _⟩
    map:=Cu.out
    few:=⟨by simp [rP],by simp [rP],by simp [rP],by simp [rP],Nat.le_refl _,rfl,rfl⟩
    at':=(HP.out.2.2.1.below (HB1.out.trans (QT.out.mono HB1.out.size))).mono (by have:=Dx.out; omega)
    Rx:=Below.refl _ _
    mlt:=by have:=iT.out; omega
    Bl:=by have:=iT.out; omega
    ok:=IV.out.2.2
    g0:=by have:=iT.out; omega}
  have y0:=aB (j:=0) CZ.out rfl
  go_wp2_with fail
  go_loopw [8,25] (fun _ i wr=> ∃(k:Nat) (R:List De) (s:Vs) (W:Wo) (g:List UInt8→Int) (n:Nat),i= .int .i64 k∧AL p w3 w3.heap.size (bp + 2) bm aK (bp + 2) wr s W g n k R) (fun _ i _=>p.ds.length - (intOf i).toNat)
  case atStart=>exact ⟨0,p.ds,_,_,_,_,rfl,HST.out⟩
  case round=>
   obtain ⟨k,R,s,W,g,n,rfl,hR⟩:=hrel
   have HR:=Lib.hid hR
   have hlen:=hR.len
   clear hR HST y0
   cases R with
   | nil=>
     obtain rfl:k=p.ds.length:=by simpa using hlen
     have vk:Hid (BU p=yO W 0 p.ts):=Lib.hid (by rw [HWP.out,HR.out.eq]; rfl)
     have HW0:Hid (W.ts=[]∧W.ss=[]):=Lib.hid ⟨HR.out.few.2.2.2.2.2.1,HR.out.few.2.2.2.2.2.2⟩
     have DF:=Lib.hid HR.out.Rx
     have ad1:=Lib.hid ((DF.out.block bp (by omega)).trans CZ.out)
     have ap4:=Lib.hid ((DF.out.block (bp + 1) (by omega)).trans CB.out)
     have Fx:Hid (gJ wr (bp + 2) p.ts aM 0):=Lib.hid (((HP.out.2.2.2.below (HB1.out.trans (QT.out.mono HB1.out.size))).mono (by have:=Dx.out; omega)).below DF.out)
     have Zb:=Lib.hid (ED HP.out.2.2.2)
     have MZ:Hid ((∀c ∈ W.cs,dR c.sz)∧(∀x ∈ W.fs,x.size≤maxLen)):=Lib.hid (by
      have:=OI p.ds rP (fun _=>0) (JY HP.out.2.2.1) (fun c hc=>by cases hc) (fun x hx=>by cases hx)
      rw [HR.out.eq] at this; exact this)
     have Rm:Hid (W.cs.length≤80∧W.ls.length≤20∧W.ns.length≤20∧W.fs.length≤20):=Lib.hid (by have:=HR.out.few; omega)
     have lJ:=Lib.hid HR.out.ws
     have Nv:Hid (bp + 2≤w3.heap.size):=Lib.hid HR.out.g0
     clear HR
     have y1:=aB (j:=1) ad1.out rfl
     go_wp2_with fail
     go_loopw [9,10,11,12,87,101,102,103] (fun _ _ _ _ i _ _ _ wq=> ∃(k:Nat) (R:List Th) (s:Vs) (W':Wo),i= .int .i64 k∧k + R.length=p.ts.length∧BU p=yO W' k R∧qw wq w3.heap.size (bp + 2) s W'∧gJ wq (bp + 2) R aM k∧Below (bp + 2) w3 wq∧W'.ts.length=k∧W'.ss.length + AV R≤AV p.ts∧(W'.cs=W.cs∧W'.ls=W.ls∧W'.ns=W.ns∧W'.fs=W.fs)) (fun _ _ _ _ i _ _ _ _=>p.ts.length - (intOf i).toNat)
     case atStart=>exact ⟨0,p.ts,s,W,rfl,by simp,vk.out,lJ.out,Fx.out,DF.out,by rw [HW0.out.1]; rfl,by rw [HW0.out.2]; simp,rfl,rfl,rfl,rfl⟩
     case round=>
      obtain ⟨k,R,s,W',rfl,Gn,heq,hws,hth,hbel,hts,hss,hsame⟩:=hrel
      have HE:=Lib.hid heq
      have HS:=Lib.hid hws
      have HB:=Lib.hid hbel
      have qU:=Lib.hid (And.intro hts (And.intro hss hsame))
      clear heq hws hbel hts hss hsame y1 Fx lJ
      cases R with
      | nil=>
        have X6:Hid (BU p=W'):=Lib.hid HE.out
        have FB:=Lib.hid ((HB.out.block (bp + 1) (by omega)).trans CB.out)
        obtain ⟨hbw,c0,c1,c2,c3,c4,c5,cf⟩:=HS.out.cells
        obtain ⟨a0,p0,h0,-,-,-⟩:=gF vJ (HS.out.own (r:=⟨58,5,s.v0,W'.cs.length,W'.cs.flatMap kR⟩) (by unfold gM; repeat (first | exact List.mem_cons_self | refine List.mem_cons_of_mem _ ?_)))
        have h0:s.v0= .slice a0 W'.cs.length p0:=h0
        rw [h0] at c0
        obtain ⟨a1,p1,h1,-,-,-⟩:=gF vM (HS.out.own (r:=⟨61,2,s.v1,W'.ls.length,W'.ls.flatMap mQ⟩) (by unfold gM; repeat (first | exact List.mem_cons_self | refine List.mem_cons_of_mem _ ?_)))
        have h1:s.v1= .slice a1 W'.ls.length p1:=h1
        rw [h1] at c1
        obtain ⟨a2,p2,h2,-,-,-⟩:=gF EP (HS.out.own (r:=⟨66,2,s.v2,W'.ns.length,W'.ns.flatMap sP⟩) (by unfold gM; repeat (first | exact List.mem_cons_self | refine List.mem_cons_of_mem _ ?_)))
        have h2:s.v2= .slice a2 W'.ns.length p2:=h2
        rw [h2] at c2
        obtain ⟨a3,p3,h3,-,-,-⟩:=gF vK (HS.out.own (r:=⟨9,1,s.v3,W'.fs.length,W'.fs.flatMap lV⟩) (by unfold gM; repeat (first | exact List.mem_cons_self | refine List.mem_cons_of_mem _ ?_)))
        have h3:s.v3= .slice a3 W'.fs.length p3:=h3
        rw [h3] at c3
        obtain ⟨a4,p4,h4,-,-,-⟩:=gF vK (HS.out.own (r:=⟨9,1,s.v4,W'.ts.length,W'.ts.flatMap lV⟩) (by unfold gM; repeat (first | exact List.mem_cons_self | refine List.mem_cons_of_mem _ ?_)))
        have h4:s.v4= .slice a4 W'.ts.length p4:=h4
        rw [h4] at c4
        obtain ⟨a5,p5,h5,-,-,-⟩:=gF EM (HS.out.own (r:=⟨64,3,s.v5,W'.ss.length,W'.ss.flatMap uz⟩) (by unfold gM; repeat (first | exact List.mem_cons_self | refine List.mem_cons_of_mem _ ?_)))
        have h5:s.v5= .slice a5 W'.ss.length p5:=h5
        rw [h5] at c5
        have zM:=Lib.hid (And.intro h0 (And.intro h1 (And.intro h2 (And.intro h3 (And.intro h4 h5)))))
        clear h0 h1 h2 h3 h4 h5 cf hth
        have r0:=aB (j:=0) FB.out rfl
        have r1:=aB (j:=1) FB.out rfl
        have r2:=aB (j:=2) FB.out rfl
        have r3:=aB (j:=3) FB.out rfl
        have r4:=aB (j:=4) FB.out rfl
        have r5:=aB (j:=5) FB.out rfl
        have rf:=fun j=>bH (o:=j) FB.out
        have rf0:=rf 0
        have rf1:=rf 1
        have rf2:=rf 2
        have rf3:=rf 3
        have rf4:=rf 4
        have rf5:=rf 5
        clear rf
        go_wp2_with fail
        show bodyPost _ _ _ _ _ (World.setCells wr (bp + 1) 0 [.slice a0 W'.cs.length p0,.slice a1 W'.ls.length p1,.slice a2 W'.ns.length p2,.slice a3 W'.fs.length p3,.slice a4 W'.ts.length p4,.slice a5 W'.ss.length p5])
        have qo:=Lib.hid (jR (vs:=[.slice a0 W'.cs.length p0,.slice a1 W'.ls.length p1,.slice a2 W'.ns.length p2,.slice a3 W'.fs.length p3,.slice a4 W'.ts.length p4,.slice a5 W'.ss.length p5]) FB.out rfl)
        have wh:Hid (wr.grownBy (World.setCells wr (bp + 1) 0 [.slice a0 W'.cs.length p0,.slice a1 W'.ls.length p1,.slice a2 W'.ns.length p2,.slice a3 W'.fs.length p3,.slice a4 W'.ts.length p4,.slice a5 W'.ss.length p5]) (some (bp + 1))):=Lib.hid (cB _ _ _ _)
        have OO:Hid (Below w.heap.size w (World.setCells wr (bp + 1) 0 [.slice a0 W'.cs.length p0,.slice a1 W'.ls.length p1,.slice a2 W'.ns.length p2,.slice a3 W'.fs.length p3,.slice a4 W'.ts.length p4,.slice a5 W'.ss.length p5])):=Lib.hid ((HB1.out.trans (QT.out.mono HB1.out.size)).trans ((HB.out.mono (by have:=Dx.out; omega)).trans (dB wh.out (by have:=Dx.out; omega) (by have h1:=Dx.out; have h2:=HS.out.sz; have h3:=HS.out.lt; omega))))
        have jy:=Lib.hid (HS.out.keep wh.out (by have h3:=HS.out.lt; omega) (by omega))
        generalize Mx:World.setCells wr _ _ _=wz at *
        have o0:=aB (j:=0) qo.out rfl
        have o1:=aB (j:=1) qo.out rfl
        have o2:=aB (j:=2) qo.out rfl
        have o3:=aB (j:=3) qo.out rfl
        have o4:=aB (j:=4) qo.out rfl
        have o5:=aB (j:=5) qo.out rfl
        clear Mx
        have EC:Hid (w.heap.size≤w3.heap.size):=Lib.hid (by have h1:=Dx.out; have h2:=Nv.out; omega)
        have ac2:Hid (∀x ∈ W'.ts,x.size≤maxLen):=Lib.hid (by
         have e:W'.ts=p.ts.map (·.nm):=by rw [← X6.out,vk.out,KA,HW0.out.1]; rfl
         intro x hx
         rw [e] at hx
         obtain ⟨t,ht,rfl⟩:=List.mem_map.1 hx
         exact (Zb.out t ht).1)
        have ZR:Hid (oI wz wz.heap.size W' ⟨a0,a1,a2,a3,a4,a5,p0,p1,p2,p3,p4,p5⟩):=Lib.hid
         {cs:=tL vJ (by have:=jy.out.own (r:=⟨58,5,s.v0,W'.cs.length,W'.cs.flatMap kR⟩) (by unfold gM; repeat (first | exact List.mem_cons_self | refine List.mem_cons_of_mem _ ?_)); unfold Rw.Ok at this; simp only at this; rw [show s.v0= .slice a0 W'.cs.length p0 from zM.out.1] at this; exact this)
          ls:=tL vM (by have:=jy.out.own (r:=⟨61,2,s.v1,W'.ls.length,W'.ls.flatMap mQ⟩) (by unfold gM; repeat (first | exact List.mem_cons_self | refine List.mem_cons_of_mem _ ?_)); unfold Rw.Ok at this; simp only at this; rw [show s.v1= .slice a1 W'.ls.length p1 from zM.out.2.1] at this; exact this)
          ns:=tL EP (by have:=jy.out.own (r:=⟨66,2,s.v2,W'.ns.length,W'.ns.flatMap sP⟩) (by unfold gM; repeat (first | exact List.mem_cons_self | refine List.mem_cons_of_mem _ ?_)); unfold Rw.Ok at this; simp only at this; rw [show s.v2= .slice a2 W'.ns.length p2 from zM.out.2.2.1] at this; exact this)
          fs:=Et (tL vK (by have:=jy.out.own (r:=⟨9,1,s.v3,W'.fs.length,W'.fs.flatMap lV⟩) (by unfold gM; repeat (first | exact List.mem_cons_self | refine List.mem_cons_of_mem _ ?_)); unfold Rw.Ok at this; simp only at this; rw [show s.v3= .slice a3 W'.fs.length p3 from zM.out.2.2.2.1] at this; exact this)) (by rw [qU.out.2.2.2.2.2]; exact MZ.out.2)
          ts:=Et (tL vK (by have:=jy.out.own (r:=⟨9,1,s.v4,W'.ts.length,W'.ts.flatMap lV⟩) (by unfold gM; repeat (first | exact List.mem_cons_self | refine List.mem_cons_of_mem _ ?_)); unfold Rw.Ok at this; simp only at this; rw [show s.v4= .slice a4 W'.ts.length p4 from zM.out.2.2.2.2.1] at this; exact this)) ac2.out
          ss:=tL EM (by have:=jy.out.own (r:=⟨64,3,s.v5,W'.ss.length,W'.ss.flatMap uz⟩) (by unfold gM; repeat (first | exact List.mem_cons_self | refine List.mem_cons_of_mem _ ?_)); unfold Rw.Ok at this; simp only at this; rw [show s.v5= .slice a5 W'.ss.length p5 from zM.out.2.2.2.2.2] at this; exact this)
          lc:=by rw [qU.out.2.2.1]; have:=Rm.out.1; unfold maxLen; omega
          ll:=by rw [qU.out.2.2.2.1]; have:=Rm.out.2.1; unfold maxLen; omega
          ln:=by rw [qU.out.2.2.2.2.1]; have:=Rm.out.2.2.1; unfold maxLen; omega
          lf:=by rw [qU.out.2.2.2.2.2]; have:=Rm.out.2.2.2; unfold maxLen; omega
          lt:=by have:=qU.out.1; unfold maxLen; omega
          lS:=by have h1:=qU.out.2.1; have h2:=NP.out; unfold maxLen; omega
          ok:=by rw [qU.out.2.2.1]; exact MZ.out.1}
        exact bodyPost_ret (v:=KS W' ⟨a0,a1,a2,a3,a4,a5,p0,p1,p2,p3,p4,p5⟩) (by simp [results,Tryz.results16,go_sem,KS,o0,o1,o2,o3,o4,o5]) rfl ⟨⟨a0,a1,a2,a3,a4,a5,p0,p1,p2,p3,p4,p5⟩,by rw [X6.out],by rw [X6.out]; exact ZR.out,OO.out,vO (show wz.ownsRow w3.heap.size 58 5 s.v0 W'.cs.length (W'.cs.flatMap kR) from jy.out.own (r:=⟨58,5,s.v0,W'.cs.length,W'.cs.flatMap kR⟩) (by unfold gM; repeat (first | exact List.mem_cons_self | refine List.mem_cons_of_mem _ ?_))) zM.out.1 EC.out,vO (show wz.ownsRow w3.heap.size 61 2 s.v1 W'.ls.length (W'.ls.flatMap mQ) from jy.out.own (r:=⟨61,2,s.v1,W'.ls.length,W'.ls.flatMap mQ⟩) (by unfold gM; repeat (first | exact List.mem_cons_self | refine List.mem_cons_of_mem _ ?_))) zM.out.2.1 EC.out,vO (show wz.ownsRow w3.heap.size 66 2 s.v2 W'.ns.length (W'.ns.flatMap sP) from jy.out.own (r:=⟨66,2,s.v2,W'.ns.length,W'.ns.flatMap sP⟩) (by unfold gM; repeat (first | exact List.mem_cons_self | refine List.mem_cons_of_mem _ ?_))) zM.out.2.2.1 EC.out,vO (show wz.ownsRow w3.heap.size 9 1 s.v3 W'.fs.length (W'.fs.flatMap lV) from jy.out.own (r:=⟨9,1,s.v3,W'.fs.length,W'.fs.flatMap lV⟩) (by unfold gM; repeat (first | exact List.mem_cons_self | refine List.mem_cons_of_mem _ ?_))) zM.out.2.2.2.1 EC.out,vO (show wz.ownsRow w3.heap.size 9 1 s.v4 W'.ts.length (W'.ts.flatMap lV) from jy.out.own (r:=⟨9,1,s.v4,W'.ts.length,W'.ts.flatMap lV⟩) (by unfold gM; repeat (first | exact List.mem_cons_self | refine List.mem_cons_of_mem _ ?_))) zM.out.2.2.2.2.1 EC.out,vO (show wz.ownsRow w3.heap.size 64 3 s.v5 W'.ss.length (W'.ss.flatMap uz) from jy.out.own (r:=⟨64,3,s.v5,W'.ss.length,W'.ss.flatMap uz⟩) (by unfold gM; repeat (first | exact List.mem_cons_self | refine List.mem_cons_of_mem _ ?_))) zM.out.2.2.2.2.2 EC.out⟩
      | cons t R=>
        obtain ⟨⟨b,off,fF,dW,bV,bC,hao,mF,x0,x1,x2,x3,hok,htx,hst,hcl⟩,hrest⟩:=hth
        have WS:=Lib.hid hao
        subst hao
        simp only [List.length_cons] at Gn
        have hkl:k < p.ts.length:=by omega
        have jc:=Lib.hid hrest
        have ko:=Lib.hid (And.intro hst hok.2.2.2)
        have nH:Hid (W'.ss.length + (bM t.body + AV R)≤AV p.ts):=Lib.hid qU.out.2.1
        clear hrest hok htx hst hcl
        go_upto_region 25 with fail
        obtain ⟨nb,hnb⟩: ∃n,wr.heap.size=n:=⟨_,rfl⟩
        generalize su:World.alloc wr _=w4
        have eX:Hid (Below wr.heap.size wr w4):=Lib.hid (by rw [← su]; exact aj _ _)
        have uX:Hid (w4.heap[nb]? =some (.cells #[.string t.nm,.int .i64 t.line,.slice fF t.cZ.length dW,.slice bV t.body.len bC] 93 (0,0))):=Lib.hid (by rw [← su,← hnb]; exact heap_alloc_new _ _)
        have lI:=Lib.hid hnb
        have uV:Hid (nb < w4.heap.size):=Lib.hid (Array.getElem?_eq_some_iff.1 uX.out).1
        have zh:=Lib.hid (HS.out.below eX.out)
        rw [hnb]
        clear su hnb x0 x1 x2 x3
        have x0:=aB (j:=0) uX.out rfl
        obtain ⟨uq,uE,iY,-,-,-⟩:=gF vK (zh.out.own (r:=⟨9,1,s.v4,List.length W'.ts,List.flatMap lV W'.ts⟩) (by unfold gM; repeat (first | exact List.mem_cons_self | refine List.mem_cons_of_mem _ ?_)))
        have iY:s.v4= .slice uq (List.length W'.ts) uE:=iY
        have qP:=Lib.hid iY
        obtain ⟨hbw,c0,c1,c2,c3,c4,c5,cf⟩:=zh.out.cells
        have fj:=cf 4
        rw [iY] at c4
        have lK:Hid (Below w4.heap.size w4 (w4.alloc (.cells (List.toArray (lV t.nm)) 9))):=Lib.hid (aj _ _)
        have jN:=Lib.hid (iQ (heap_alloc_new w4 (.cells (List.toArray (lV t.nm)) 9)))
        have pO:=Lib.hid (oz (show w4.ownsRow w3.heap.size 9 1 (.slice uq (List.length W'.ts) uE) (List.length W'.ts) (List.flatMap lV W'.ts) by rw [← iY]; exact zh.out.own (r:=⟨9,1,s.v4,List.length W'.ts,List.flatMap lV W'.ts⟩) (by unfold gM; repeat (first | exact List.mem_cons_self | refine List.mem_cons_of_mem _ ?_))) lK.out)
        obtain ⟨i0,hi,hz0,hz1,hz2⟩:=infoP NA
        have hk0:List.length W'.ts≤1000000000000:=(by have:=qU.out.1; omega)
        have hk1:List.length W'.ts + 1≤maxLen:=by unfold maxLen; omega
        have pV:(List.length W'.ts + 1) * 16≤140737488355328:=by omega
        have hbs:w3.heap.size≤w4.heap.size + 1:=Nat.le_succ_of_le zh.out.sz
        clear iY cf
        go_wp2_with (at_builtin; refine wpList_append_lies _ rfl _ _ 32 rfl w3.heap.size 9 i0 _ 1 16 Tryz.underlying32 hi hz0 hz1 hz2 rfl (by decide) _ _ _ rfl pO.out ⟨w4.heap.size,0,none⟩ 1 1 (lV t.nm) rfl rfl jN.out (Zj _) (by decide) hk1 pV (by simpa using hbs) _ rfl ?_)
        clear hi hz0 hz1 hz2 hk0 hk1 pV hbs
        intro g' cap' w5 hown hgr hmv kH
        have fQ:=Lib.hid (zh.out.add (s':= {s with v4:= .slice (some ⟨g',0,none⟩) (W'.ts.length + 1) cap'}) (W':= {W' with ts:=W'.ts++[t.nm]}) (pre:=[_,_,_,_]) (r:=⟨9,1,s.v4,W'.ts.length,W'.ts.flatMap lV⟩) (post:=[_]) (j:=4) lK.out rfl (by rw [qP.out]; exact hgr) (by rw [qP.out]; rcases hmv with e | e; exact .inl e; exact .inr (by rw [e]; simp)) hown (by simp [gM]) rfl)
        have HXn:Hid (w5.heap[nb]? =some (.cells #[.string t.nm,.int .i64 t.line,.slice fF t.cZ.length dW,.slice bV t.body.len bC] 93 (0,0))):=Lib.hid ((hgr.block nb (Nat.lt_of_lt_of_le uV.out lK.out.size) (fun e=>by
         have:=((HS.out.own (r:=⟨9,1,s.v4,W'.ts.length,W'.ts.flatMap lV⟩) (by simp [gM])).lt nb (by rw [show s.v4=_ from qP.out]; exact e.symm)).2
         have h6:=lI.out; omega)).trans ((lK.out.block nb uV.out).trans uX.out))
        clear hown hgr hmv kH jN pO x0
        have cj:=fQ.out.2.2.1.trans c4
        have fj:=fQ.out.2.2.2.1 4
        clear c0 c1 c2 c3 c4 c5
        go_upto_region 26 with fail
        generalize zT:World.setCell w5 _ _=w6 at *
        have DL:Hid (w6.heap[nb]? =some (.cells #[.string t.nm,.int .i64 t.line,.slice fF t.cZ.length dW,.slice bV t.body.len bC] 93 (0,0))):=Lib.hid (by
         rw [← zT,bJ _ _ _ rfl (by show bp + 2≠nb; have h5:=lI.out; have h6:=HS.out.lt; have h7:=HS.out.sz; omega)]; exact HXn.out)
        have qj:=Lib.hid fQ.out.1
        have lg:Hid (Below (bp + 2) wr w6):=Lib.hid ((eX.out.mono (by have h6:=HS.out.lt; have h7:=HS.out.sz; omega)).trans (fQ.out.2.1 _ (Nat.le_refl _)))
        clear cj fj zT fQ
        generalize ({s with v4:= .slice (some ⟨g',0,none⟩) (W'.ts.length + 1) cap'} :Vs)=s6 at *
        have x3:=aB (j:=3) DL.out rfl
        go_wp2_with fail
        refine (O7 t.body w6 w6.heap.size (.slice none 0 0) [] bV bC (World.ownsRow_nil _ _ _ _) (Nat.le_refl _) ko.out.2 ((ko.out.1.below lg.out).mono (by have h6:=qj.out.lt; have h7:=qj.out.sz; omega)) (by have:=nH.out; have:=NP.out; simp only [List.length_nil]; omega)).mono ?_
        rintro e w7 ⟨vL,rfl,R9,Yx,hoL⟩
        have KM:Hid (Below w6.heap.size w6 w7):=Lib.hid (yF (World.ownsRow_nil _ _ _ _:w6.ownsRow w6.heap.size 3 1 (.slice none 0 0) 0 []) (Nat.le_refl _) Yx)
        rw [List.nil_append] at R9
        have yE:=Lib.hid (nP t.body)
        have yD:=Lib.hid (fun n=>BI (k:Int) t.body n)
        generalize oW t.body=LS at *
        have yU:=Lib.hid R9
        obtain ⟨IL,Ih,rfl,-,-,-⟩:=gF JU R9
        have OQ:=Lib.hid (qj.out.below KM.out)
        have HAP:Hid (∀q,(Value.slice IL LS.length Ih).ownBlock=some q→s6.v5.ownBlock≠some q):=Lib.hid (fun q hq e=>by
         have h1:=(yU.out.lt q hq).1
         have h2:=((qj.out.own (r:=⟨64,3,s6.v5,W'.ss.length,W'.ss.flatMap uz⟩) (by simp [gM])).lt q e).2
         omega)
        have hll:LS.length≤1000000000000:=by have h1:=yE.out; have h2:=nH.out; have h3:=NP.out; omega
        clear R9 Yx hoL x3
        go_wp2_with fail
        go_loopw [11,12,103] (fun _ _ i wq=> ∃(j:Nat) (S:List Int) (s7:Vs) (acc SS:List Cn),i= .int .i64 j∧j + S.length=LS.length∧LS.drop j=S∧pE k 0 LS=acc++pE k j S∧acc.length=j∧SS=W'.ss++acc∧qw wq w3.heap.size (bp + 2) s7 {W' with ts:=W'.ts++[t.nm],ss:=SS} ∧wq.ownsRow w6.heap.size 3 1 (.slice IL LS.length Ih) LS.length (LS.flatMap zW)∧(∀q,(Value.slice IL LS.length Ih).ownBlock=some q→s7.v5.ownBlock≠some q)∧Below (bp + 2) w6 wq) (fun _ _ i _=>LS.length - (intOf i).toNat)
        case atStart=>exact ⟨0,LS,s6,[],W'.ss,rfl,by simp,rfl,rfl,rfl,by simp,OQ.out,yU.out,HAP.out,KM.out.mono (by have h6:=qj.out.lt; have h7:=qj.out.sz; omega)⟩
        case round=>
         obtain ⟨j,S,s,acc,SS,rfl,hlen3,hdr,VU,hacc,hSS,WY,hrow3,Vh,Rn⟩:=hrel
         have KI:=Lib.hid (And.intro hSS (show SS.length=W'.ss.length + acc.length by rw [hSS,List.length_append]))
         have jQ:=Lib.hid VU
         have Ez:=Lib.hid WY
         have HR3:=Lib.hid hrow3
         have vg:=Lib.hid Vh
         have Qb:=Lib.hid Rn
         have YA:=Lib.hid hacc
         clear VU WY hrow3 Vh Rn hacc hSS
         cases S with
         | nil=>
           obtain rfl:j=LS.length:=by simpa using hlen3
           have HWN:Hid (qw wr w3.heap.size (bp + 2) s {W' with ts:=W'.ts++[t.nm],ss:=W'.ss++FL k t.body 0}):=Lib.hid (by
            rw [yD.out,jQ.out]; simp only [pE,List.append_nil]; rw [← KI.out.1]; exact Ez.out)
           have HBN:Hid (Below (bp + 2) w3 wr):=Lib.hid (HB.out.trans (lg.out.trans Qb.out))
           have Ed:=Lib.hid ((jc.out.below lg.out).below Qb.out)
           have HSL:Hid ((FL k t.body 0).length=bM t.body):=Lib.hid (by rw [yD.out,IC]; exact yE.out)
           clear hdr
           go_wp2_with fail
           go_roundw
           case rel=>exact ⟨k + 1,R,s,_,by go_num,by omega,HE.out,HWN.out,Ed.out,HBN.out,by have:=qU.out.1; simp only [List.length_append,List.length_cons,List.length_nil]; omega,by have h1:=nH.out; have h2:=HSL.out; simp only [List.length_append]; omega,qU.out.2.2⟩
           case measure=>simp [intOf]; omega
         | cons x S=>
           have hx:LS[j]? =some x:=by
            have:=List.getElem?_drop (xs:=LS) (i:=j) (j:=0)
            rw [hdr] at this; simpa using this.symm
           obtain ⟨aoQ,cpQ,Vr,-,-,hfl⟩:=gF JU HR3.out
           injection Vr with QU QZ QS
           subst QU
           obtain ⟨bq,oq,haq,hbq,hcq⟩:=hfl.at j x hx
           subst haq
           have yq:=hcq 0 _ rfl
           simp only [Nat.zero_add,Nat.mul_one,Nat.add_zero] at yq
           simp only [List.length_cons] at hlen3
           have hjl:j < LS.length:=by omega
           have ao4:bq < wr.heap.size:=hbq
           have HDR:Hid (LS.drop (j + 1)=S):=Lib.hid (by rw [← List.drop_drop,hdr]; rfl)
           clear hcq hfl hdr hx QZ QS
           obtain ⟨uq,uE,iY,-,-,-⟩:=gF EM (Ez.out.own (r:=⟨64,3,s.v5,List.length SS,List.flatMap uz SS⟩) (by unfold gM; repeat (first | exact List.mem_cons_self | refine List.mem_cons_of_mem _ ?_)))
           have iY:s.v5= .slice uq (List.length SS) uE:=iY
           have qP:=Lib.hid iY
           obtain ⟨hbw,c0,c1,c2,c3,c4,c5,cf⟩:=Ez.out.cells
           have fj:=cf 5
           rw [iY] at c5
           have lK:Hid (Below wr.heap.size wr (wr.alloc (.cells (List.toArray (uz (⟨k,j,x⟩:Cn))) 64))):=Lib.hid (aj _ _)
           have jN:=Lib.hid (iQ (heap_alloc_new wr (.cells (List.toArray (uz (⟨k,j,x⟩:Cn))) 64)))
           have pO:=Lib.hid (oz (show wr.ownsRow w3.heap.size 64 3 (.slice uq (List.length SS) uE) (List.length SS) (List.flatMap uz SS) by rw [← iY]; exact Ez.out.own (r:=⟨64,3,s.v5,List.length SS,List.flatMap uz SS⟩) (by unfold gM; repeat (first | exact List.mem_cons_self | refine List.mem_cons_of_mem _ ?_))) lK.out)
           obtain ⟨i0,hi,hz0,hz1,hz2⟩:=infoP Wu
           have hk0:List.length SS≤1000000000000:=(by have h1:=YA.out; have h2:=qU.out.2.1; have h3:=NP.out; have h4:=nH.out; have h5:=yE.out; have h6:=KI.out.2; omega)
           have hk1:List.length SS + 1≤maxLen:=by unfold maxLen; omega
           have pV:(List.length SS + 1) * 24≤140737488355328:=by omega
           have hbs:w3.heap.size≤wr.heap.size + 1:=Nat.le_succ_of_le Ez.out.sz
           clear iY cf
           go_wp2_with (at_builtin; refine wpList_append_lies _ rfl _ _ 33 rfl w3.heap.size 64 i0 _ 3 24 Tryz.underlying33 hi hz0 hz1 hz2 rfl (by decide) _ _ _ rfl pO.out ⟨wr.heap.size,0,none⟩ 1 1 (uz (⟨k,j,x⟩:Cn)) rfl rfl jN.out (si1 _) (by decide) hk1 pV (by simpa using hbs) _ rfl ?_)
           clear hi hz0 hz1 hz2 hk0 hk1 pV hbs
           intro g' cap' w5 hown hgr hmv kH
           have fQ:=Lib.hid (Ez.out.add (s':= {s with v5:= .slice (some ⟨g',0,none⟩) (SS.length + 1) cap'}) (W':= {W' with ts:=W'.ts++[t.nm],ss:=SS++[⟨k,j,x⟩]}) (pre:=[_,_,_,_,_]) (r:=⟨64,3,s.v5,SS.length,SS.flatMap uz⟩) (post:=[]) (j:=5) lK.out rfl (by rw [qP.out]; exact hgr) (by rw [qP.out]; rcases hmv with e | e; exact .inl e; exact .inr (by rw [e]; simp)) hown (by unfold gM; simp only [List.flatMap_append,List.flatMap_singleton,List.length_append,List.length_cons,List.length_nil,List.cons_append,List.nil_append]) rfl)
           have ru:=Lib.hid (KW (j:=5) (u:= .slice (some ⟨g',0,none⟩) (SS.length + 1) cap') (bw:=bp + 2) (v:=s.v5) (v':= .slice (some ⟨g',0,none⟩) (SS.length + 1) cap') HR3.out (by have h6:=qj.out.lt; have h7:=qj.out.sz; omega) vg.out (by rw [qP.out]; exact eY (wJ lK.out) hgr) (by
            rw [qP.out]
            rcases hmv with e | e
            ·exact .inl (by rw [e]; rfl)
            ·exact .inr ⟨g',rfl,by rw [e]; omega⟩))
           clear hown hgr hmv kH jN pO yq
           have cj:=fQ.out.2.2.1.trans c5
           have fj:=fQ.out.2.2.2.1 5
           clear c0 c1 c2 c3 c4 c5
           go_upto_region 30 with fail
           generalize DU:World.setCell w5 _ _=w8 at *
           have qY:Hid (Below (bp + 2) w6 w8):=Lib.hid (Qb.out.trans (fQ.out.2.1 _ (Nat.le_refl _)))
           have HQ8:Hid (pE k 0 LS=acc++[⟨k,j,x⟩]++pE k (j + 1) S):=Lib.hid (by rw [jQ.out,pE]; simp)
           clear cj fj
           go_wp2_with fail
           go_roundw
           case rel=>exact ⟨j + 1,S,_,acc++[⟨k,j,x⟩],SS++[⟨k,j,x⟩],by go_num,by omega,HDR.out,HQ8.out,by rw [List.length_append,YA.out]; rfl,by rw [KI.out.1]; simp,fQ.out.1,ru.out.1,ru.out.2,qY.out⟩
           case measure=>simp [intOf]; omega
   | cons d R=>
     obtain ⟨⟨b,off,rfl,mF,x0,x1,x2,x3,x4,x5,hok⟩,hrest⟩:=HR.out.at'
     simp only [List.length_cons] at hlen
     have hkl:k < p.ds.length:=by omega
     have hsd:=vG (HR.out.ok d List.mem_cons_self).1
     have hs4:=(HR.out.ok d List.mem_cons_self).2
     have jc:=Lib.hid hrest
     have pJ:=Lib.hid hok
     clear hrest hok
     go_upto_region 9 with fail
     obtain ⟨nb,hnb⟩: ∃n,wr.heap.size=n:=⟨_,rfl⟩
     generalize su:World.alloc wr _=w4
     have eX:Hid (Below wr.heap.size wr w4):=Lib.hid (by rw [← su]; exact aj _ _)
     have uX:Hid (w4.heap[nb]? =some (.cells #[.int .i64 d.kind,.int .i64 d.line,.string d.nm,.int .i64 d.size,.int .i64 d.init,.string d.on] 75 (0,0))):=Lib.hid (by rw [← su,← hnb]; exact heap_alloc_new _ _)
     have lI:Hid (w3.heap.size≤nb∧nb < w4.heap.size):=Lib.hid ⟨by rw [← hnb]; exact HR.out.ws.sz,(Array.getElem?_eq_some_iff.1 uX.out).1⟩
     have lJ:=Lib.hid (HR.out.ws.below eX.out)
     have Jc:=Lib.hid (HR.out.map.next eX.out)
     rw [hnb]
     clear su hnb x0 x1 x2 x3 x4 x5
     have z0:=aB (j:=0) uX.out rfl
     have z1:=aB (j:=1) uX.out rfl
     have z2:=aB (j:=2) uX.out rfl
     have z3:=aB (j:=3) uX.out rfl
     have z4:=aB (j:=4) uX.out rfl
     have z5:=aB (j:=5) uX.out rfl
     have hk:=(show d.kind=1∨d.kind=2∨d.kind=3∨d.kind=4∨d.kind=5∨d.kind=6 by omega)
     have Yk:=Lib.hid hk
     have hcap:4 * k≤80:=by omega
     have H9:=Lib.hid hcap
     have hbp:bp + 2≤bp + 2:=Nat.le_refl _
     rcases hk with hk | hk | hk | hk | hk | hk
     case inr.inr.inr.inr.inr=>
      have HK:=Lib.hid hk
      have nk:(d.kind == 1)=(6 == 1):=by rw [hk]; rfl
      have ng:(d.kind == 2)=(6 == 2):=by rw [hk]; rfl
      have mZ:(d.kind == 3)=(6 == 3):=by rw [hk]; rfl
      have nG:(d.kind == 4)=(6 == 4):=by rw [hk]; rfl
      have nu:(d.kind == 5)=(6 == 5):=by rw [hk]; rfl
      have nA:(d.kind == 6)=(6 == 6):=by rw [hk]; rfl
      simp only [show ((1:Nat) == 1)=true from rfl,show ((1:Nat) == 2)=false from rfl,show ((1:Nat) == 3)=false from rfl,show ((1:Nat) == 4)=false from rfl,show ((1:Nat) == 5)=false from rfl,show ((1:Nat) == 6)=false from rfl,show ((2:Nat) == 1)=false from rfl,show ((2:Nat) == 2)=true from rfl,show ((2:Nat) == 3)=false from rfl,show ((2:Nat) == 4)=false from rfl,show ((2:Nat) == 5)=false from rfl,show ((2:Nat) == 6)=false from rfl,show ((3:Nat) == 1)=false from rfl,show ((3:Nat) == 2)=false from rfl,show ((3:Nat) == 3)=true from rfl,show ((3:Nat) == 4)=false from rfl,show ((3:Nat) == 5)=false from rfl,show ((3:Nat) == 6)=false from rfl,show ((4:Nat) == 1)=false from rfl,show ((4:Nat) == 2)=false from rfl,show ((4:Nat) == 3)=false from rfl,show ((4:Nat) == 4)=true from rfl,show ((4:Nat) == 5)=false from rfl,show ((4:Nat) == 6)=false from rfl,show ((5:Nat) == 1)=false from rfl,show ((5:Nat) == 2)=false from rfl,show ((5:Nat) == 3)=false from rfl,show ((5:Nat) == 4)=false from rfl,show ((5:Nat) == 5)=true from rfl,show ((5:Nat) == 6)=false from rfl,show ((6:Nat) == 1)=false from rfl,show ((6:Nat) == 2)=false from rfl,show ((6:Nat) == 3)=false from rfl,show ((6:Nat) == 4)=false from rfl,show ((6:Nat) == 5)=false from rfl,show ((6:Nat) == 6)=true from rfl] at nk ng mZ nG nu nA
      clear hk
      have uj:Hid (iL W g d= {W with fs:=W.fs++[d.nm]} ∧gD W g d=g):=Lib.hid (by unfold iL gD; rw [HK.out]; exact ⟨rfl,rfl⟩)
      have vX:Hid (jd w4 bm n (gD W g d)):=Lib.hid (by rw [uj.out.2]; exact Jc.out)
      have vU:Hid (Below (bp + 2) wr w4):=Lib.hid (eX.out.mono (by have h5:=HR.out.ws.sz; have h6:=HR.out.g0; omega))
      obtain ⟨uq,uE,iY,-,-,-⟩:=gF vK (lJ.out.own (r:=⟨9,1,s.v3,List.length W.fs,List.flatMap lV W.fs⟩) (by unfold gM; repeat (first | exact List.mem_cons_self | refine List.mem_cons_of_mem _ ?_)))
      have iY:s.v3= .slice uq (List.length W.fs) uE:=iY
      have qP:=Lib.hid iY
      obtain ⟨hbw,c0,c1,c2,c3,c4,c5,cf⟩:=lJ.out.cells
      have fj:=cf 3
      rw [iY] at c3
      have lK:Hid (Below w4.heap.size w4 (w4.alloc (.cells (List.toArray (lV d.nm)) 9))):=Lib.hid (aj _ _)
      have jN:=Lib.hid (iQ (heap_alloc_new w4 (.cells (List.toArray (lV d.nm)) 9)))
      have pO:=Lib.hid (oz (show w4.ownsRow w3.heap.size 9 1 (.slice uq (List.length W.fs) uE) (List.length W.fs) (List.flatMap lV W.fs) by rw [← iY]; exact lJ.out.own (r:=⟨9,1,s.v3,List.length W.fs,List.flatMap lV W.fs⟩) (by unfold gM; repeat (first | exact List.mem_cons_self | refine List.mem_cons_of_mem _ ?_))) lK.out)
      obtain ⟨i0,hi,hz0,hz1,hz2⟩:=infoP NA
      have hk0:List.length W.fs≤1000000000000:=(by have:=HR.out.few; omega)
      have hk1:List.length W.fs + 1≤maxLen:=by unfold maxLen; omega
      have pV:(List.length W.fs + 1) * 16≤140737488355328:=by omega
      have hbs:w3.heap.size≤w4.heap.size + 1:=Nat.le_succ_of_le lJ.out.sz
      clear iY cf
      go_wp2_with (at_builtin; refine wpList_append_lies _ rfl _ _ 32 rfl w3.heap.size 9 i0 _ 1 16 Tryz.underlying32 hi hz0 hz1 hz2 rfl (by decide) _ _ _ rfl pO.out ⟨w4.heap.size,0,none⟩ 1 1 (lV d.nm) rfl rfl jN.out (Zj _) (by decide) hk1 pV (by simpa using hbs) _ rfl ?_)
      clear hi hz0 hz1 hz2 hk0 hk1 pV hbs
      intro g' cap' w5 hown hgr hmv kH
      have fQ:=Lib.hid (lJ.out.add (s':= {s with v3:= .slice (some ⟨g',0,none⟩) (W.fs.length + 1) cap'}) (W':=iL W g d) (pre:=[_,_,_]) (r:=⟨9,1,s.v3,W.fs.length,W.fs.flatMap lV⟩) (post:=[_,_]) (j:=3) lK.out rfl (by rw [qP.out]; exact hgr) (by rw [qP.out]; rcases hmv with e | e; exact .inl e; exact .inr (by rw [e]; simp)) hown (by rw [uj.out.1]; simp [gM]) rfl)
      clear hown hgr hmv kH jN pO
      have cj:=fQ.out.2.2.1.trans c3
      have fj:=fQ.out.2.2.2.1 3
      clear c0 c1 c2 c3 c4 c5
      go_upto_region 21 with fail
      generalize zT:World.setCell w5 _ _=w6 at *
      have HN:Hid (AL p w3 w3.heap.size (bp + 2) bm _ (bp + 2) w6 _ (iL W g d) (gD W g d) n (k + 1) R):=Lib.hid (HR.out.next fQ.out.1 (vX.out.same (fQ.out.2.2.2.2 bm HR.out.mlt HR.out.Bl)) (by omega) (vU.out.trans (fQ.out.2.1 _ (Nat.le_refl _))))
      clear cj fj
      go_wp2_with fail
      go_roundw
      case rel=>exact ⟨k + 1,R,_,_,_,_,by go_num,HN.out⟩
      case measure=>simp [intOf]; omega
     case inr.inr.inr.inr.inl=>
      have HK:=Lib.hid hk
      have nk:(d.kind == 1)=(5 == 1):=by rw [hk]; rfl
      have ng:(d.kind == 2)=(5 == 2):=by rw [hk]; rfl
      have mZ:(d.kind == 3)=(5 == 3):=by rw [hk]; rfl
      have nG:(d.kind == 4)=(5 == 4):=by rw [hk]; rfl
      have nu:(d.kind == 5)=(5 == 5):=by rw [hk]; rfl
      have nA:(d.kind == 6)=(5 == 6):=by rw [hk]; rfl
      simp only [show ((1:Nat) == 1)=true from rfl,show ((1:Nat) == 2)=false from rfl,show ((1:Nat) == 3)=false from rfl,show ((1:Nat) == 4)=false from rfl,show ((1:Nat) == 5)=false from rfl,show ((1:Nat) == 6)=false from rfl,show ((2:Nat) == 1)=false from rfl,show ((2:Nat) == 2)=true from rfl,show ((2:Nat) == 3)=false from rfl,show ((2:Nat) == 4)=false from rfl,show ((2:Nat) == 5)=false from rfl,show ((2:Nat) == 6)=false from rfl,show ((3:Nat) == 1)=false from rfl,show ((3:Nat) == 2)=false from rfl,show ((3:Nat) == 3)=true from rfl,show ((3:Nat) == 4)=false from rfl,show ((3:Nat) == 5)=false from rfl,show ((3:Nat) == 6)=false from rfl,show ((4:Nat) == 1)=false from rfl,show ((4:Nat) == 2)=false from rfl,show ((4:Nat) == 3)=false from rfl,show ((4:Nat) == 4)=true from rfl,show ((4:Nat) == 5)=false from rfl,show ((4:Nat) == 6)=false from rfl,show ((5:Nat) == 1)=false from rfl,show ((5:Nat) == 2)=false from rfl,show ((5:Nat) == 3)=false from rfl,show ((5:Nat) == 4)=false from rfl,show ((5:Nat) == 5)=true from rfl,show ((5:Nat) == 6)=false from rfl,show ((6:Nat) == 1)=false from rfl,show ((6:Nat) == 2)=false from rfl,show ((6:Nat) == 3)=false from rfl,show ((6:Nat) == 4)=false from rfl,show ((6:Nat) == 5)=false from rfl,show ((6:Nat) == 6)=true from rfl] at nk ng mZ nG nu nA
      clear hk
      have uj:Hid (iL W g d= {W with ns:=W.ns++[⟨d.nm,g d.on.toList⟩]} ∧gD W g d=g):=Lib.hid (by unfold iL gD; rw [HK.out]; exact ⟨rfl,rfl⟩)
      have vX:Hid (jd w4 bm n (gD W g d)):=Lib.hid (by rw [uj.out.2]; exact Jc.out)
      have hlk:=Jc.out.look d.on pJ.out.2.2.2.2.2
      generalize hgo:g d.on.toList=go at *
      clear hgo
      have vU:Hid (Below (bp + 2) wr w4):=Lib.hid (eX.out.mono (by have h5:=HR.out.ws.sz; have h6:=HR.out.g0; omega))
      obtain ⟨uq,uE,iY,-,-,-⟩:=gF EP (lJ.out.own (r:=⟨66,2,s.v2,List.length W.ns,List.flatMap sP W.ns⟩) (by unfold gM; repeat (first | exact List.mem_cons_self | refine List.mem_cons_of_mem _ ?_)))
      have iY:s.v2= .slice uq (List.length W.ns) uE:=iY
      have qP:=Lib.hid iY
      obtain ⟨hbw,c0,c1,c2,c3,c4,c5,cf⟩:=lJ.out.cells
      have fj:=cf 2
      rw [iY] at c2
      have lK:Hid (Below w4.heap.size w4 (w4.alloc (.cells (List.toArray (sP (⟨d.nm,go⟩:BZ))) 66))):=Lib.hid (aj _ _)
      have jN:=Lib.hid (iQ (heap_alloc_new w4 (.cells (List.toArray (sP (⟨d.nm,go⟩:BZ))) 66)))
      have pO:=Lib.hid (oz (show w4.ownsRow w3.heap.size 66 2 (.slice uq (List.length W.ns) uE) (List.length W.ns) (List.flatMap sP W.ns) by rw [← iY]; exact lJ.out.own (r:=⟨66,2,s.v2,List.length W.ns,List.flatMap sP W.ns⟩) (by unfold gM; repeat (first | exact List.mem_cons_self | refine List.mem_cons_of_mem _ ?_))) lK.out)
      obtain ⟨i0,hi,hz0,hz1,hz2⟩:=infoP UW
      have hk0:List.length W.ns≤1000000000000:=(by have:=HR.out.few; omega)
      have hk1:List.length W.ns + 1≤maxLen:=by unfold maxLen; omega
      have pV:(List.length W.ns + 1) * 24≤140737488355328:=by omega
      have hbs:w3.heap.size≤w4.heap.size + 1:=Nat.le_succ_of_le lJ.out.sz
      clear iY cf
      go_wp2_with (at_builtin; refine wpList_append_lies _ rfl _ _ 31 rfl w3.heap.size 66 i0 _ 2 24 Tryz.underlying31 hi hz0 hz1 hz2 rfl (by decide) _ _ _ rfl pO.out ⟨w4.heap.size,0,none⟩ 1 1 (sP (⟨d.nm,go⟩:BZ)) rfl rfl jN.out (cn1 _) (by decide) hk1 pV (by simpa using hbs) _ rfl ?_)
      clear hi hz0 hz1 hz2 hk0 hk1 pV hbs
      intro g' cap' w5 hown hgr hmv kH
      clear hlk
      have fQ:=Lib.hid (lJ.out.add (s':= {s with v2:= .slice (some ⟨g',0,none⟩) (W.ns.length + 1) cap'}) (W':=iL W g d) (pre:=[_,_]) (r:=⟨66,2,s.v2,W.ns.length,W.ns.flatMap sP⟩) (post:=[_,_,_]) (j:=2) lK.out rfl (by rw [qP.out]; exact hgr) (by rw [qP.out]; rcases hmv with e | e; exact .inl e; exact .inr (by rw [e]; simp)) hown (by rw [uj.out.1]; simp [gM]) rfl)
      clear hown hgr hmv kH jN pO
      have cj:=fQ.out.2.2.1.trans c2
      have fj:=fQ.out.2.2.2.1 2
      clear c0 c1 c2 c3 c4 c5
      go_upto_region 21 with fail
      generalize zT:World.setCell w5 _ _=w6 at *
      have HN:Hid (AL p w3 w3.heap.size (bp + 2) bm _ (bp + 2) w6 _ (iL W g d) (gD W g d) n (k + 1) R):=Lib.hid (HR.out.next fQ.out.1 (vX.out.same (fQ.out.2.2.2.2 bm HR.out.mlt HR.out.Bl)) (by omega) (vU.out.trans (fQ.out.2.1 _ (Nat.le_refl _))))
      clear cj fj
      go_wp2_with fail
      go_roundw
      case rel=>exact ⟨k + 1,R,_,_,_,_,by go_num,HN.out⟩
      case measure=>simp [intOf]; omega
     case inr.inr.inr.inl=>
      have HK:=Lib.hid hk
      have nk:(d.kind == 1)=(4 == 1):=by rw [hk]; rfl
      have ng:(d.kind == 2)=(4 == 2):=by rw [hk]; rfl
      have mZ:(d.kind == 3)=(4 == 3):=by rw [hk]; rfl
      have nG:(d.kind == 4)=(4 == 4):=by rw [hk]; rfl
      have nu:(d.kind == 5)=(4 == 5):=by rw [hk]; rfl
      have nA:(d.kind == 6)=(4 == 6):=by rw [hk]; rfl
      simp only [show ((1:Nat) == 1)=true from rfl,show ((1:Nat) == 2)=false from rfl,show ((1:Nat) == 3)=false from rfl,show ((1:Nat) == 4)=false from rfl,show ((1:Nat) == 5)=false from rfl,show ((1:Nat) == 6)=false from rfl,show ((2:Nat) == 1)=false from rfl,show ((2:Nat) == 2)=true from rfl,show ((2:Nat) == 3)=false from rfl,show ((2:Nat) == 4)=false from rfl,show ((2:Nat) == 5)=false from rfl,show ((2:Nat) == 6)=false from rfl,show ((3:Nat) == 1)=false from rfl,show ((3:Nat) == 2)=false from rfl,show ((3:Nat) == 3)=true from rfl,show ((3:Nat) == 4)=false from rfl,show ((3:Nat) == 5)=false from rfl,show ((3:Nat) == 6)=false from rfl,show ((4:Nat) == 1)=false from rfl,show ((4:Nat) == 2)=false from rfl,show ((4:Nat) == 3)=false from rfl,show ((4:Nat) == 4)=true from rfl,show ((4:Nat) == 5)=false from rfl,show ((4:Nat) == 6)=false from rfl,show ((5:Nat) == 1)=false from rfl,show ((5:Nat) == 2)=false from rfl,show ((5:Nat) == 3)=false from rfl,show ((5:Nat) == 4)=false from rfl,show ((5:Nat) == 5)=true from rfl,show ((5:Nat) == 6)=false from rfl,show ((6:Nat) == 1)=false from rfl,show ((6:Nat) == 2)=false from rfl,show ((6:Nat) == 3)=false from rfl,show ((6:Nat) == 4)=false from rfl,show ((6:Nat) == 5)=false from rfl,show ((6:Nat) == 6)=true from rfl] at nk ng mZ nG nu nA
      clear hk
      have uj:Hid (iL W g d= {W with ls:=W.ls++[⟨d.nm,true⟩]} ∧gD W g d=fun x=>if x=d.nm.toList then (W.ls.length:Int) else g x):=Lib.hid (by unfold iL gD; rw [HK.out]; exact ⟨rfl,rfl⟩)
      obtain ⟨wm,hup,qM,hg4⟩:=Jc.out.put (by have:=HR.out.few; unfold maxLen; omega) d.nm pJ.out.2.2.1 (W.ls.length:Int) (by have:=HR.out.few; unfold dR; omega)
      have vX:Hid (jd wm bm (n + 1) (gD W g d)):=Lib.hid (by rw [uj.out.2]; exact qM)
      have wD:=Lib.hid (lJ.out.keep hg4 HR.out.mlt HR.out.Bl)
      have vU:Hid (Below (bp + 2) wr wm):=Lib.hid ((eX.out.mono (by have h5:=HR.out.ws.sz; have h6:=HR.out.g0; omega)).trans (dB hg4 (by have:=iT.out; omega) (by have h5:=lJ.out.sz; have h6:=HR.out.g0; omega)))
      have NG:=Lib.hid ((hg4.block nb lI.out.2 (by have h5:=lI.out.1; have h6:=HR.out.mlt; simp; omega)).trans uX.out)
      obtain ⟨IL,Ih,Em,-,-,-⟩:=gF vM (lJ.out.own (r:=⟨61,2,s.v1,W.ls.length,W.ls.flatMap mQ⟩) (by simp [gM]))
      have Em:s.v1= .slice IL W.ls.length Ih:=Em
      have c1:=lJ.out.cells.2.2.1
      rw [Em] at c1
      clear qM hg4 Em
      go_upto_region 16 with fail
      clear z0 z1 z2 z3 z4 z5 hup c1
      have z0:=aB (j:=0) NG.out rfl
      have z2:=aB (j:=2) NG.out rfl
      obtain ⟨uq,uE,iY,-,-,-⟩:=gF vM (wD.out.own (r:=⟨61,2,s.v1,List.length W.ls,List.flatMap mQ W.ls⟩) (by unfold gM; repeat (first | exact List.mem_cons_self | refine List.mem_cons_of_mem _ ?_)))
      have iY:s.v1= .slice uq (List.length W.ls) uE:=iY
      have qP:=Lib.hid iY
      obtain ⟨hbw,c0,c1,c2,c3,c4,c5,cf⟩:=wD.out.cells
      have fj:=cf 1
      rw [iY] at c1
      have lK:Hid (Below wm.heap.size wm (wm.alloc (.cells (List.toArray (mQ (⟨d.nm,true⟩:yJ))) 61))):=Lib.hid (aj _ _)
      have jN:=Lib.hid (iQ (heap_alloc_new wm (.cells (List.toArray (mQ (⟨d.nm,true⟩:yJ))) 61)))
      have pO:=Lib.hid (oz (show wm.ownsRow w3.heap.size 61 2 (.slice uq (List.length W.ls) uE) (List.length W.ls) (List.flatMap mQ W.ls) by rw [← iY]; exact wD.out.own (r:=⟨61,2,s.v1,List.length W.ls,List.flatMap mQ W.ls⟩) (by unfold gM; repeat (first | exact List.mem_cons_self | refine List.mem_cons_of_mem _ ?_))) lK.out)
      obtain ⟨i0,hi,hz0,hz1,hz2⟩:=infoP MO
      have hk0:List.length W.ls≤1000000000000:=(by have:=HR.out.few; omega)
      have hk1:List.length W.ls + 1≤maxLen:=by unfold maxLen; omega
      have pV:(List.length W.ls + 1) * 24≤140737488355328:=by omega
      have hbs:w3.heap.size≤wm.heap.size + 1:=Nat.le_succ_of_le wD.out.sz
      clear iY cf
      go_wp2_with (at_builtin; refine wpList_append_lies _ rfl _ _ 30 rfl w3.heap.size 61 i0 _ 2 24 Tryz.underlying30 hi hz0 hz1 hz2 rfl (by decide) _ _ _ rfl pO.out ⟨wm.heap.size,0,none⟩ 1 1 (mQ (⟨d.nm,true⟩:yJ)) rfl rfl jN.out (Zi _) (by decide) hk1 pV (by simpa using hbs) _ rfl ?_)
      clear hi hz0 hz1 hz2 hk0 hk1 pV hbs
      intro g' cap' w5 hown hgr hmv kH
      have fQ:=Lib.hid (wD.out.add (s':= {s with v1:= .slice (some ⟨g',0,none⟩) (W.ls.length + 1) cap'}) (W':=iL W g d) (pre:=[_]) (r:=⟨61,2,s.v1,W.ls.length,W.ls.flatMap mQ⟩) (post:=[_,_,_,_]) (j:=1) lK.out rfl (by rw [qP.out]; exact hgr) (by rw [qP.out]; rcases hmv with e | e; exact .inl e; exact .inr (by rw [e]; simp)) hown (by rw [uj.out.1]; simp [gM]) rfl)
      clear hown hgr hmv kH jN pO
      have cj:=fQ.out.2.2.1.trans c1
      have fj:=fQ.out.2.2.2.1 1
      clear c0 c1 c2 c3 c4 c5
      go_upto_region 21 with fail
      generalize zT:World.setCell w5 _ _=w6 at *
      have HN:Hid (AL p w3 w3.heap.size (bp + 2) bm _ (bp + 2) w6 _ (iL W g d) (gD W g d) (n + 1) (k + 1) R):=Lib.hid (HR.out.next fQ.out.1 (vX.out.same (fQ.out.2.2.2.2 bm HR.out.mlt HR.out.Bl)) (by omega) (vU.out.trans (fQ.out.2.1 _ (Nat.le_refl _))))
      clear cj fj
      go_wp2_with fail
      go_roundw
      case rel=>exact ⟨k + 1,R,_,_,_,_,by go_num,HN.out⟩
      case measure=>simp [intOf]; omega
     case inr.inr.inl=>
      have HK:=Lib.hid hk
      have nk:(d.kind == 1)=(3 == 1):=by rw [hk]; rfl
      have ng:(d.kind == 2)=(3 == 2):=by rw [hk]; rfl
      have mZ:(d.kind == 3)=(3 == 3):=by rw [hk]; rfl
      have nG:(d.kind == 4)=(3 == 4):=by rw [hk]; rfl
      have nu:(d.kind == 5)=(3 == 5):=by rw [hk]; rfl
      have nA:(d.kind == 6)=(3 == 6):=by rw [hk]; rfl
      simp only [show ((1:Nat) == 1)=true from rfl,show ((1:Nat) == 2)=false from rfl,show ((1:Nat) == 3)=false from rfl,show ((1:Nat) == 4)=false from rfl,show ((1:Nat) == 5)=false from rfl,show ((1:Nat) == 6)=false from rfl,show ((2:Nat) == 1)=false from rfl,show ((2:Nat) == 2)=true from rfl,show ((2:Nat) == 3)=false from rfl,show ((2:Nat) == 4)=false from rfl,show ((2:Nat) == 5)=false from rfl,show ((2:Nat) == 6)=false from rfl,show ((3:Nat) == 1)=false from rfl,show ((3:Nat) == 2)=false from rfl,show ((3:Nat) == 3)=true from rfl,show ((3:Nat) == 4)=false from rfl,show ((3:Nat) == 5)=false from rfl,show ((3:Nat) == 6)=false from rfl,show ((4:Nat) == 1)=false from rfl,show ((4:Nat) == 2)=false from rfl,show ((4:Nat) == 3)=false from rfl,show ((4:Nat) == 4)=true from rfl,show ((4:Nat) == 5)=false from rfl,show ((4:Nat) == 6)=false from rfl,show ((5:Nat) == 1)=false from rfl,show ((5:Nat) == 2)=false from rfl,show ((5:Nat) == 3)=false from rfl,show ((5:Nat) == 4)=false from rfl,show ((5:Nat) == 5)=true from rfl,show ((5:Nat) == 6)=false from rfl,show ((6:Nat) == 1)=false from rfl,show ((6:Nat) == 2)=false from rfl,show ((6:Nat) == 3)=false from rfl,show ((6:Nat) == 4)=false from rfl,show ((6:Nat) == 5)=false from rfl,show ((6:Nat) == 6)=true from rfl] at nk ng mZ nG nu nA
      clear hk
      have uj:Hid (iL W g d= {W with ls:=W.ls++[⟨d.nm,false⟩]} ∧gD W g d=fun x=>if x=d.nm.toList then (W.ls.length:Int) else g x):=Lib.hid (by unfold iL gD; rw [HK.out]; exact ⟨rfl,rfl⟩)
      obtain ⟨wm,hup,qM,hg4⟩:=Jc.out.put (by have:=HR.out.few; unfold maxLen; omega) d.nm pJ.out.2.2.1 (W.ls.length:Int) (by have:=HR.out.few; unfold dR; omega)
      have vX:Hid (jd wm bm (n + 1) (gD W g d)):=Lib.hid (by rw [uj.out.2]; exact qM)
      have wD:=Lib.hid (lJ.out.keep hg4 HR.out.mlt HR.out.Bl)
      have vU:Hid (Below (bp + 2) wr wm):=Lib.hid ((eX.out.mono (by have h5:=HR.out.ws.sz; have h6:=HR.out.g0; omega)).trans (dB hg4 (by have:=iT.out; omega) (by have h5:=lJ.out.sz; have h6:=HR.out.g0; omega)))
      have NG:=Lib.hid ((hg4.block nb lI.out.2 (by have h5:=lI.out.1; have h6:=HR.out.mlt; simp; omega)).trans uX.out)
      obtain ⟨IL,Ih,Em,-,-,-⟩:=gF vM (lJ.out.own (r:=⟨61,2,s.v1,W.ls.length,W.ls.flatMap mQ⟩) (by simp [gM]))
      have Em:s.v1= .slice IL W.ls.length Ih:=Em
      have c1:=lJ.out.cells.2.2.1
      rw [Em] at c1
      clear qM hg4 Em
      go_upto_region 16 with fail
      clear z0 z1 z2 z3 z4 z5 hup c1
      have z0:=aB (j:=0) NG.out rfl
      have z2:=aB (j:=2) NG.out rfl
      obtain ⟨uq,uE,iY,-,-,-⟩:=gF vM (wD.out.own (r:=⟨61,2,s.v1,List.length W.ls,List.flatMap mQ W.ls⟩) (by unfold gM; repeat (first | exact List.mem_cons_self | refine List.mem_cons_of_mem _ ?_)))
      have iY:s.v1= .slice uq (List.length W.ls) uE:=iY
      have qP:=Lib.hid iY
      obtain ⟨hbw,c0,c1,c2,c3,c4,c5,cf⟩:=wD.out.cells
      have fj:=cf 1
      rw [iY] at c1
      have lK:Hid (Below wm.heap.size wm (wm.alloc (.cells (List.toArray (mQ (⟨d.nm,false⟩:yJ))) 61))):=Lib.hid (aj _ _)
      have jN:=Lib.hid (iQ (heap_alloc_new wm (.cells (List.toArray (mQ (⟨d.nm,false⟩:yJ))) 61)))
      have pO:=Lib.hid (oz (show wm.ownsRow w3.heap.size 61 2 (.slice uq (List.length W.ls) uE) (List.length W.ls) (List.flatMap mQ W.ls) by rw [← iY]; exact wD.out.own (r:=⟨61,2,s.v1,List.length W.ls,List.flatMap mQ W.ls⟩) (by unfold gM; repeat (first | exact List.mem_cons_self | refine List.mem_cons_of_mem _ ?_))) lK.out)
      obtain ⟨i0,hi,hz0,hz1,hz2⟩:=infoP MO
      have hk0:List.length W.ls≤1000000000000:=(by have:=HR.out.few; omega)
      have hk1:List.length W.ls + 1≤maxLen:=by unfold maxLen; omega
      have pV:(List.length W.ls + 1) * 24≤140737488355328:=by omega
      have hbs:w3.heap.size≤wm.heap.size + 1:=Nat.le_succ_of_le wD.out.sz
      clear iY cf
      go_wp2_with (at_builtin; refine wpList_append_lies _ rfl _ _ 30 rfl w3.heap.size 61 i0 _ 2 24 Tryz.underlying30 hi hz0 hz1 hz2 rfl (by decide) _ _ _ rfl pO.out ⟨wm.heap.size,0,none⟩ 1 1 (mQ (⟨d.nm,false⟩:yJ)) rfl rfl jN.out (Zi _) (by decide) hk1 pV (by simpa using hbs) _ rfl ?_)
      clear hi hz0 hz1 hz2 hk0 hk1 pV hbs
      intro g' cap' w5 hown hgr hmv kH
      have fQ:=Lib.hid (wD.out.add (s':= {s with v1:= .slice (some ⟨g',0,none⟩) (W.ls.length + 1) cap'}) (W':=iL W g d) (pre:=[_]) (r:=⟨61,2,s.v1,W.ls.length,W.ls.flatMap mQ⟩) (post:=[_,_,_,_]) (j:=1) lK.out rfl (by rw [qP.out]; exact hgr) (by rw [qP.out]; rcases hmv with e | e; exact .inl e; exact .inr (by rw [e]; simp)) hown (by rw [uj.out.1]; simp [gM]) rfl)
      clear hown hgr hmv kH jN pO
      have cj:=fQ.out.2.2.1.trans c1
      have fj:=fQ.out.2.2.2.1 1
      clear c0 c1 c2 c3 c4 c5
      go_upto_region 21 with fail
      generalize zT:World.setCell w5 _ _=w6 at *
      have HN:Hid (AL p w3 w3.heap.size (bp + 2) bm _ (bp + 2) w6 _ (iL W g d) (gD W g d) (n + 1) (k + 1) R):=Lib.hid (HR.out.next fQ.out.1 (vX.out.same (fQ.out.2.2.2.2 bm HR.out.mlt HR.out.Bl)) (by omega) (vU.out.trans (fQ.out.2.1 _ (Nat.le_refl _))))
      clear cj fj
      go_wp2_with fail
      go_roundw
      case rel=>exact ⟨k + 1,R,_,_,_,_,by go_num,HN.out⟩
      case measure=>simp [intOf]; omega
     case inl=>
      have HK:=Lib.hid hk
      have nk:(d.kind == 1)=(1 == 1):=by rw [hk]; rfl
      have ng:(d.kind == 2)=(1 == 2):=by rw [hk]; rfl
      have mZ:(d.kind == 3)=(1 == 3):=by rw [hk]; rfl
      have nG:(d.kind == 4)=(1 == 4):=by rw [hk]; rfl
      have nu:(d.kind == 5)=(1 == 5):=by rw [hk]; rfl
      have nA:(d.kind == 6)=(1 == 6):=by rw [hk]; rfl
      simp only [show ((1:Nat) == 1)=true from rfl,show ((1:Nat) == 2)=false from rfl,show ((1:Nat) == 3)=false from rfl,show ((1:Nat) == 4)=false from rfl,show ((1:Nat) == 5)=false from rfl,show ((1:Nat) == 6)=false from rfl,show ((2:Nat) == 1)=false from rfl,show ((2:Nat) == 2)=true from rfl,show ((2:Nat) == 3)=false from rfl,show ((2:Nat) == 4)=false from rfl,show ((2:Nat) == 5)=false from rfl,show ((2:Nat) == 6)=false from rfl,show ((3:Nat) == 1)=false from rfl,show ((3:Nat) == 2)=false from rfl,show ((3:Nat) == 3)=true from rfl,show ((3:Nat) == 4)=false from rfl,show ((3:Nat) == 5)=false from rfl,show ((3:Nat) == 6)=false from rfl,show ((4:Nat) == 1)=false from rfl,show ((4:Nat) == 2)=false from rfl,show ((4:Nat) == 3)=false from rfl,show ((4:Nat) == 4)=true from rfl,show ((4:Nat) == 5)=false from rfl,show ((4:Nat) == 6)=false from rfl,show ((5:Nat) == 1)=false from rfl,show ((5:Nat) == 2)=false from rfl,show ((5:Nat) == 3)=false from rfl,show ((5:Nat) == 4)=false from rfl,show ((5:Nat) == 5)=true from rfl,show ((5:Nat) == 6)=false from rfl,show ((6:Nat) == 1)=false from rfl,show ((6:Nat) == 2)=false from rfl,show ((6:Nat) == 3)=false from rfl,show ((6:Nat) == 4)=false from rfl,show ((6:Nat) == 5)=false from rfl,show ((6:Nat) == 6)=true from rfl] at nk ng mZ nG nu nA
      clear hk
      have uj:Hid (iL W g d= {W with cs:=W.cs++iU d} ∧gD W g d=g):=Lib.hid (by unfold iL gD; rw [HK.out]; exact ⟨rfl,rfl⟩)
      have M4:Hid (jd w4 bm n (gD W g d)):=Lib.hid (by rw [uj.out.2]; exact Jc.out)
      have Dz:Hid (0≤d.size∧d.size≤4):=Lib.hid (by
       have o1:=(HR.out.ok d List.mem_cons_self).1
       unfold kF at o1
       simp only [Bool.and_eq_true,decide_eq_true_eq] at o1
       exact ⟨o1.1.2.1,hs4⟩)
      obtain ⟨GX,Ja,hv0,-,-,-⟩:=gF vJ (lJ.out.own (r:=⟨58,5,s.v0,W.cs.length,W.cs.flatMap kR⟩) (by simp [gM]))
      have hv0:s.v0= .slice GX W.cs.length Ja:=hv0
      have Es:=Lib.hid hv0
      have hc0:=lJ.out.cells.2.1
      rw [hv0] at hc0
      have Hz:=Lib.hid (And.intro lJ.out.cells.1 hc0)
      have uV:=Lib.hid lI.out.2
      clear hv0 hc0
      go_wp2_with fail
      have V0: ∀w',Below w4.heap.size w4 w'→w'.cell? ⟨bp + 2,0,none⟩=some (.slice GX W.cs.length Ja):=fun w' hb=>(hb.cell (p:=⟨bp + 2,0,none⟩) Hz.out.1).trans Hz.out.2
      have Y0: ∀w',Below w4.heap.size w4 w'→w'.cell? ⟨nb,0,none⟩=some (.int .i64 d.kind):=fun w' hb=>(hb.cell (p:=⟨nb,0,none⟩) uV.out).trans z0
      have Y1: ∀w',Below w4.heap.size w4 w'→w'.cell? ⟨nb,1,none⟩=some (.int .i64 d.line):=fun w' hb=>(hb.cell (p:=⟨nb,1,none⟩) uV.out).trans z1
      have Y2: ∀w',Below w4.heap.size w4 w'→w'.cell? ⟨nb,2,none⟩=some (.string d.nm):=fun w' hb=>(hb.cell (p:=⟨nb,2,none⟩) uV.out).trans z2
      have Y3: ∀w',Below w4.heap.size w4 w'→w'.cell? ⟨nb,3,none⟩=some (.int .i64 d.size):=fun w' hb=>(hb.cell (p:=⟨nb,3,none⟩) uV.out).trans z3
      have Y4: ∀w',Below w4.heap.size w4 w'→w'.cell? ⟨nb,4,none⟩=some (.int .i64 d.init):=fun w' hb=>(hb.cell (p:=⟨nb,4,none⟩) uV.out).trans z4
      have Y5: ∀w',Below w4.heap.size w4 w'→w'.cell? ⟨nb,5,none⟩=some (.string d.on):=fun w' hb=>(hb.cell (p:=⟨nb,5,none⟩) uV.out).trans z5
      clear z0 z1 z2 z3 z4 z5
      refine gy (by kernel_rfl) rfl ?_
      refine fU 0 4 [] [[],[0],[],[2],[0,1,2,3],[0,1,2,3,4],[0,1,2,3,4,5]] [[],[],[],[]] (fun _ w'=>Below w4.heap.size w4 w') (fun w w'=>Below w.heap.size w w') [34,35,36,37] rfl rfl (by rfl) (by kernel_rfl) (by kernel_rfl) (by kernel_rfl) (by kernel_rfl) (by kernel_rfl) (by rfl) (fun _=>Below.refl _ _) (by rfl) (below_drewN (Below.refl _ _) 1) ?_
      simp only [List.take_succ_cons,List.take_zero,List.drop_zero,List.drop_succ_cons,mE,List.map_cons,List.map_nil]
      apply bg.step
      case aD=>
       intro c A w' hok hC hO hD
       have e3:=hO 3 (by rfl)
       simp [Act.eval] at e3
       simp [ay,ak,au,Act.eval,Region.binds] at hD
       simp [go_sem,gd,Oper.wp,hD,e3]
       exact aA.mk (Below.refl _ _) hC (ak.mk _ _)
      apply bg.step
      case aD=>
       intro c A w' hok hC hO hD
       simp [ay,ak,au,Act.eval,Region.binds] at hD
       simp [go_sem,gd,Oper.wp,hD,V0,hC]
       exact aA.mk (Below.refl _ _) hC (ak.mk _ _)
      apply bg.step
      case aD=>
       intro c A w' hok hC hO hD
       have e8:=hO 8 (by rfl)
       simp [Act.eval] at e8
       simp [ay,ak,au,Act.eval,Region.binds] at hD
       simp [go_sem,gd,Oper.wp,hD,e8,Y0,Y1,Y2,Y3,Y4,Y5,hC]
       exact aA.mk (Below.refl _ _) hC (ak.mk _ _)
      refine bg.some (fun v w'=>VP d v w') ?_ ?_ ?_
      ·rintro v wa wb hle ⟨gc,yt,h1,h2,h3,h4⟩
       exact ⟨gc,yt,h1,h2,h3,fun j u hu=>(hle.cell (World.block_lt_of_cell? _ _ (h4 j u hu))).trans (h4 j u hu)⟩
      ·intro c A w' hok hC hO hD
       simp [ay,ak,au,Act.eval,Region.binds] at hD
       simp [go_sem,gd,Oper.wp,hD]
       refine (FI d w' Dz.out.1 Dz.out.2).mono ?_
       rintro e w5 ⟨gc,yt,rfl,h4,h2,h3,hb⟩
       exact aA.mk hb (hC.trans (hb.mono hC.size)) ⟨gc,yt,rfl,h2,h3,h4⟩
      simp only [List.nil_append,List.cons_append]
      try simp only [List.nil_append,List.cons_append]
      refine bg.done ?_
      intro wz fH
      try simp only [List.drop_zero,List.drop_succ_cons]
      intro v0 h0 v1 h1 v2 h2 v3 h3
      have h0':=Eq.symm (show v0=_ from h0)
      subst h0'
      have h1':=Eq.symm (show v1=_ from h1)
      subst h1'
      have h2':=Eq.symm (show v2=_ from h2)
      subst h2'
      clear h0 h1 h2
      obtain ⟨gc,yt,rfl,hl0,hl4,hnews⟩:=h3
      refine xq ?_
      go_simp
      have uZ:=Lib.hid fH
      have zU:=Lib.hid (lJ.out.below fH)
      have vX:=Lib.hid (M4.out.next fH)
      have vU:Hid (Below (bp + 2) wr wz):=Lib.hid ((eX.out.trans (fH.mono eX.out.size)).mono (by have h5:=HR.out.ws.sz; have h6:=HR.out.g0; omega))
      clear V0 Y0 Y1 Y2 Y3 Y4 Y5 fH
      refine gX 4 [[],[0],[],[2],[0,1,2,3],[0,1,2,3,4],[0,1,2,3,4,5]] rfl rfl rfl rfl rfl (by kernel_rfl) (by kernel_rfl) (by kernel_rfl) ?_
      obtain ⟨i0,hi0,hz0,hz1,hz2⟩:=infoP IQ
      have hk0:W.cs.length≤1000:=by have:=HR.out.few; omega
      have hfc:((iU d).flatMap kR).length=(iU d).length * 5:=zl vJ _
      refine wp_append_lies wz _ _ _ (by rfl) w3.heap.size 58 i0 _ 5 48 Tryz.underlying29 hi0 hz0 hz1 hz2 (by rfl) (by omega) (.slice GX W.cs.length Ja) W.cs.length (W.cs.flatMap kR) (by rfl) (show wz.ownsRow _ _ _ _ _ _ by rw [← Es.out]; exact zU.out.own (r:=⟨58,5,s.v0,W.cs.length,W.cs.flatMap kR⟩) (by simp [gM])) ⟨gc,0,none⟩ (iU d).length yt ((iU d).flatMap kR) (by rfl) hfc hnews (fun u hu=>by
       obtain ⟨x,-,hx⟩:=List.mem_flatMap.1 hu
       exact QG x u hx) hl0 (by unfold maxLen; omega) (by omega) zU.out.sz _ rfl ?_
      intro g' cap' w5 hown hgr hmv kH
      have fQ:=Lib.hid (zU.out.add (s':= {s with v0:= .slice (some ⟨g',0,none⟩) (W.cs.length + (iU d).length) cap'}) (W':=iL W g d) (pre:=[]) (r:=⟨58,5,s.v0,W.cs.length,W.cs.flatMap kR⟩) (post:=[_,_,_,_,_]) (j:=0) (Below.refl _ _) rfl (by rw [Es.out]; exact hgr) (by rw [Es.out]; exact hmv) hown (by rw [uj.out.1]; simp [gM]) rfl)
      have cj:=fQ.out.2.2.1.trans zU.out.cells.2.1
      have fj:=fQ.out.2.2.2.1 0
      clear hown hgr hmv kH hnews hi0 hz0 hz1 hz2 hk0 hfc
      rw [Es.out] at cj
      go_simp
      refine gX 5 [[],[0],[],[2],[0,1,2,3],[0,1,2,3,4],[0,1,2,3,4,5]] rfl rfl rfl rfl rfl (by kernel_rfl) (by kernel_rfl) (by kernel_rfl) ?_
      simp [go_sem,Oper.wp]
      refine gX 6 [[],[0],[],[2],[0,1,2,3],[0,1,2,3,4],[0,1,2,3,4,5]] rfl rfl rfl rfl rfl (by kernel_rfl) (by kernel_rfl) (by kernel_rfl) ?_
      simp [go_sem,Oper.wp,cj,fj]
      refine iG rfl ?_
      go_simp
      generalize zT:World.setCell w5 _ _=w6 at *
      have HN:Hid (AL p w3 w3.heap.size (bp + 2) bm _ (bp + 2) w6 _ (iL W g d) (gD W g d) n (k + 1) R):=Lib.hid (HR.out.next fQ.out.1 (vX.out.same (fQ.out.2.2.2.2 bm HR.out.mlt HR.out.Bl)) (by omega) (vU.out.trans (fQ.out.2.1 _ (Nat.le_refl _))))
      clear cj fj hl0 hl4
      go_wp2_with fail
      go_roundw
      case rel=>exact ⟨k + 1,R,_,_,_,_,by go_num,HN.out⟩
      case measure=>simp [intOf]; omega
     case inr.inl=>
      have HK:=Lib.hid hk
      have nk:(d.kind == 1)=(2 == 1):=by rw [hk]; rfl
      have ng:(d.kind == 2)=(2 == 2):=by rw [hk]; rfl
      have mZ:(d.kind == 3)=(2 == 3):=by rw [hk]; rfl
      have nG:(d.kind == 4)=(2 == 4):=by rw [hk]; rfl
      have nu:(d.kind == 5)=(2 == 5):=by rw [hk]; rfl
      have nA:(d.kind == 6)=(2 == 6):=by rw [hk]; rfl
      simp only [show ((1:Nat) == 1)=true from rfl,show ((1:Nat) == 2)=false from rfl,show ((1:Nat) == 3)=false from rfl,show ((1:Nat) == 4)=false from rfl,show ((1:Nat) == 5)=false from rfl,show ((1:Nat) == 6)=false from rfl,show ((2:Nat) == 1)=false from rfl,show ((2:Nat) == 2)=true from rfl,show ((2:Nat) == 3)=false from rfl,show ((2:Nat) == 4)=false from rfl,show ((2:Nat) == 5)=false from rfl,show ((2:Nat) == 6)=false from rfl,show ((3:Nat) == 1)=false from rfl,show ((3:Nat) == 2)=false from rfl,show ((3:Nat) == 3)=true from rfl,show ((3:Nat) == 4)=false from rfl,show ((3:Nat) == 5)=false from rfl,show ((3:Nat) == 6)=false from rfl,show ((4:Nat) == 1)=false from rfl,show ((4:Nat) == 2)=false from rfl,show ((4:Nat) == 3)=false from rfl,show ((4:Nat) == 4)=true from rfl,show ((4:Nat) == 5)=false from rfl,show ((4:Nat) == 6)=false from rfl,show ((5:Nat) == 1)=false from rfl,show ((5:Nat) == 2)=false from rfl,show ((5:Nat) == 3)=false from rfl,show ((5:Nat) == 4)=false from rfl,show ((5:Nat) == 5)=true from rfl,show ((5:Nat) == 6)=false from rfl,show ((6:Nat) == 1)=false from rfl,show ((6:Nat) == 2)=false from rfl,show ((6:Nat) == 3)=false from rfl,show ((6:Nat) == 4)=false from rfl,show ((6:Nat) == 5)=false from rfl,show ((6:Nat) == 6)=true from rfl] at nk ng mZ nG nu nA
      clear hk
      have uj:Hid (iL W g d= {W with cs:=W.cs++iU d} ∧gD W g d=g):=Lib.hid (by unfold iL gD; rw [HK.out]; exact ⟨rfl,rfl⟩)
      have M4:Hid (jd w4 bm n (gD W g d)):=Lib.hid (by rw [uj.out.2]; exact Jc.out)
      have Dz:Hid (0≤d.size∧d.size≤4):=Lib.hid (by
       have o1:=(HR.out.ok d List.mem_cons_self).1
       unfold kF at o1
       simp only [Bool.and_eq_true,decide_eq_true_eq] at o1
       exact ⟨o1.1.2.1,hs4⟩)
      obtain ⟨GX,Ja,hv0,-,-,-⟩:=gF vJ (lJ.out.own (r:=⟨58,5,s.v0,W.cs.length,W.cs.flatMap kR⟩) (by simp [gM]))
      have hv0:s.v0= .slice GX W.cs.length Ja:=hv0
      have Es:=Lib.hid hv0
      have hc0:=lJ.out.cells.2.1
      rw [hv0] at hc0
      have Hz:=Lib.hid (And.intro lJ.out.cells.1 hc0)
      have uV:=Lib.hid lI.out.2
      clear hv0 hc0
      go_wp2_with fail
      have V0: ∀w',Below w4.heap.size w4 w'→w'.cell? ⟨bp + 2,0,none⟩=some (.slice GX W.cs.length Ja):=fun w' hb=>(hb.cell (p:=⟨bp + 2,0,none⟩) Hz.out.1).trans Hz.out.2
      have Y0: ∀w',Below w4.heap.size w4 w'→w'.cell? ⟨nb,0,none⟩=some (.int .i64 d.kind):=fun w' hb=>(hb.cell (p:=⟨nb,0,none⟩) uV.out).trans z0
      have Y1: ∀w',Below w4.heap.size w4 w'→w'.cell? ⟨nb,1,none⟩=some (.int .i64 d.line):=fun w' hb=>(hb.cell (p:=⟨nb,1,none⟩) uV.out).trans z1
      have Y2: ∀w',Below w4.heap.size w4 w'→w'.cell? ⟨nb,2,none⟩=some (.string d.nm):=fun w' hb=>(hb.cell (p:=⟨nb,2,none⟩) uV.out).trans z2
      have Y3: ∀w',Below w4.heap.size w4 w'→w'.cell? ⟨nb,3,none⟩=some (.int .i64 d.size):=fun w' hb=>(hb.cell (p:=⟨nb,3,none⟩) uV.out).trans z3
      have Y4: ∀w',Below w4.heap.size w4 w'→w'.cell? ⟨nb,4,none⟩=some (.int .i64 d.init):=fun w' hb=>(hb.cell (p:=⟨nb,4,none⟩) uV.out).trans z4
      have Y5: ∀w',Below w4.heap.size w4 w'→w'.cell? ⟨nb,5,none⟩=some (.string d.on):=fun w' hb=>(hb.cell (p:=⟨nb,5,none⟩) uV.out).trans z5
      clear z0 z1 z2 z3 z4 z5
      refine gy (by kernel_rfl) rfl ?_
      refine fU 0 4 [] [[],[0],[],[2],[0,1,2,3],[0,1,2,3,4],[0,1,2,3,4,5]] [[],[],[],[]] (fun _ w'=>Below w4.heap.size w4 w') (fun w w'=>Below w.heap.size w w') [34,35,36,37] rfl rfl (by rfl) (by kernel_rfl) (by kernel_rfl) (by kernel_rfl) (by kernel_rfl) (by kernel_rfl) (by rfl) (fun _=>Below.refl _ _) (by rfl) (below_drewN (Below.refl _ _) 1) ?_
      simp only [List.take_succ_cons,List.take_zero,List.drop_zero,List.drop_succ_cons,mE,List.map_cons,List.map_nil]
      apply bg.step
      case aD=>
       intro c A w' hok hC hO hD
       have e3:=hO 3 (by rfl)
       simp [Act.eval] at e3
       simp [ay,ak,au,Act.eval,Region.binds] at hD
       simp [go_sem,gd,Oper.wp,hD,e3]
       exact aA.mk (Below.refl _ _) hC (ak.mk _ _)
      apply bg.step
      case aD=>
       intro c A w' hok hC hO hD
       simp [ay,ak,au,Act.eval,Region.binds] at hD
       simp [go_sem,gd,Oper.wp,hD,V0,hC]
       exact aA.mk (Below.refl _ _) hC (ak.mk _ _)
      apply bg.step
      case aD=>
       intro c A w' hok hC hO hD
       have e8:=hO 8 (by rfl)
       simp [Act.eval] at e8
       simp [ay,ak,au,Act.eval,Region.binds] at hD
       simp [go_sem,gd,Oper.wp,hD,e8,Y0,Y1,Y2,Y3,Y4,Y5,hC]
       exact aA.mk (Below.refl _ _) hC (ak.mk _ _)
      refine bg.some (fun v w'=>VP d v w') ?_ ?_ ?_
      ·rintro v wa wb hle ⟨gc,yt,h1,h2,h3,h4⟩
       exact ⟨gc,yt,h1,h2,h3,fun j u hu=>(hle.cell (World.block_lt_of_cell? _ _ (h4 j u hu))).trans (h4 j u hu)⟩
      ·intro c A w' hok hC hO hD
       simp [ay,ak,au,Act.eval,Region.binds] at hD
       simp [go_sem,gd,Oper.wp,hD]
       refine (FI d w' Dz.out.1 Dz.out.2).mono ?_
       rintro e w5 ⟨gc,yt,rfl,h4,h2,h3,hb⟩
       exact aA.mk hb (hC.trans (hb.mono hC.size)) ⟨gc,yt,rfl,h2,h3,h4⟩
      simp only [List.nil_append,List.cons_append]
      try simp only [List.nil_append,List.cons_append]
      refine bg.done ?_
      intro wz fH
      try simp only [List.drop_zero,List.drop_succ_cons]
      intro v0 h0 v1 h1 v2 h2 v3 h3
      have h0':=Eq.symm (show v0=_ from h0)
      subst h0'
      have h1':=Eq.symm (show v1=_ from h1)
      subst h1'
      have h2':=Eq.symm (show v2=_ from h2)
      subst h2'
      clear h0 h1 h2
      obtain ⟨gc,yt,rfl,hl0,hl4,hnews⟩:=h3
      refine xq ?_
      go_simp
      have uZ:=Lib.hid fH
      have zU:=Lib.hid (lJ.out.below fH)
      have vX:=Lib.hid (M4.out.next fH)
      have vU:Hid (Below (bp + 2) wr wz):=Lib.hid ((eX.out.trans (fH.mono eX.out.size)).mono (by have h5:=HR.out.ws.sz; have h6:=HR.out.g0; omega))
      clear V0 Y0 Y1 Y2 Y3 Y4 Y5 fH
      refine gX 4 [[],[0],[],[2],[0,1,2,3],[0,1,2,3,4],[0,1,2,3,4,5]] rfl rfl rfl rfl rfl (by kernel_rfl) (by kernel_rfl) (by kernel_rfl) ?_
      obtain ⟨i0,hi0,hz0,hz1,hz2⟩:=infoP IQ
      have hk0:W.cs.length≤1000:=by have:=HR.out.few; omega
      have hfc:((iU d).flatMap kR).length=(iU d).length * 5:=zl vJ _
      refine wp_append_lies wz _ _ _ (by rfl) w3.heap.size 58 i0 _ 5 48 Tryz.underlying29 hi0 hz0 hz1 hz2 (by rfl) (by omega) (.slice GX W.cs.length Ja) W.cs.length (W.cs.flatMap kR) (by rfl) (show wz.ownsRow _ _ _ _ _ _ by rw [← Es.out]; exact zU.out.own (r:=⟨58,5,s.v0,W.cs.length,W.cs.flatMap kR⟩) (by simp [gM])) ⟨gc,0,none⟩ (iU d).length yt ((iU d).flatMap kR) (by rfl) hfc hnews (fun u hu=>by
       obtain ⟨x,-,hx⟩:=List.mem_flatMap.1 hu
       exact QG x u hx) hl0 (by unfold maxLen; omega) (by omega) zU.out.sz _ rfl ?_
      intro g' cap' w5 hown hgr hmv kH
      have fQ:=Lib.hid (zU.out.add (s':= {s with v0:= .slice (some ⟨g',0,none⟩) (W.cs.length + (iU d).length) cap'}) (W':=iL W g d) (pre:=[]) (r:=⟨58,5,s.v0,W.cs.length,W.cs.flatMap kR⟩) (post:=[_,_,_,_,_]) (j:=0) (Below.refl _ _) rfl (by rw [Es.out]; exact hgr) (by rw [Es.out]; exact hmv) hown (by rw [uj.out.1]; simp [gM]) rfl)
      have cj:=fQ.out.2.2.1.trans zU.out.cells.2.1
      have fj:=fQ.out.2.2.2.1 0
      clear hown hgr hmv kH hnews hi0 hz0 hz1 hz2 hk0 hfc
      rw [Es.out] at cj
      go_simp
      refine gX 5 [[],[0],[],[2],[0,1,2,3],[0,1,2,3,4],[0,1,2,3,4,5]] rfl rfl rfl rfl rfl (by kernel_rfl) (by kernel_rfl) (by kernel_rfl) ?_
      simp [go_sem,Oper.wp]
      refine gX 6 [[],[0],[],[2],[0,1,2,3],[0,1,2,3,4],[0,1,2,3,4,5]] rfl rfl rfl rfl rfl (by kernel_rfl) (by kernel_rfl) (by kernel_rfl) ?_
      simp [go_sem,Oper.wp,cj,fj]
      refine iG rfl ?_
      go_simp
      generalize zT:World.setCell w5 _ _=w6 at *
      have HN:Hid (AL p w3 w3.heap.size (bp + 2) bm _ (bp + 2) w6 _ (iL W g d) (gD W g d) n (k + 1) R):=Lib.hid (HR.out.next fQ.out.1 (vX.out.same (fQ.out.2.2.2.2 bm HR.out.mlt HR.out.Bl)) (by omega) (vU.out.trans (fQ.out.2.1 _ (Nat.le_refl _))))
      clear cj fj hl0 hl4
      go_wp2_with fail
      go_roundw
      case rel=>exact ⟨k + 1,R,_,_,_,_,by go_num,HN.out⟩
      case measure=>simp [intOf]; omega
end Go.Proofs.YtdajkddgnfgijaaGreatDoor
