/-
  Contract of parse.Expr.
  The law package's awake: one fixed program and one expression are parsed and shaped.
-/
import Derived.Test.YtehnipchbmjlhaaGreatDoorGRE
import Derived.Test.YtehnipchbmjlhaaGreatDoorGMC
set_option linter.unusedSimpArgs false
set_option linter.unusedVariables false
set_option maxHeartbeats 40000000
set_option maxRecDepth 1000000
section
namespace Go.Proofs.YtehnipchbmjlhaaGreatDoor
open Go.RowKit
open Md Pz
def e0:E:=⟨0,0,⟨#[]⟩,.nil⟩
def NM (w:World) (r:E × Int × Int) (e:Ending) (w':World):Prop:=
 ∃ao cap,e= .returned (.tuple #[exV r.1.op r.1.n r.1.nm r.1.kids ao cap,.int .i64 r.2.1,.int .i64 r.2.2])∧jA r.1∧r.1.kids.At w' w'.heap.size ao 0∧Below w.heap.size w w'
theorem MV {s:List UInt8} (h: ¬ (Tk.scan s).2.1=0):jB s=(e0,((Tk.scan s).2.1:Int),((Tk.scan s).2.2:Int)):=by unfold jB; rw [if_neg h]; rfl
theorem QZ {s:List UInt8} {rest:ak} (h:(Tk.scan s).2.1=0) (h1:Pz.expr (Tk.scan s).1= .no rest):jB s=(e0,3,bR (Tk.scan s).1 rest):=by unfold jB; rw [if_pos h,h1]; rfl
theorem MC {s:List UInt8} {p:E} {rest:ak} (h:(Tk.scan s).2.1=0) (h1:Pz.expr (Tk.scan s).1= .ok p rest) (h2:rest.isEmpty=false):jB s=(e0,3,bR (Tk.scan s).1 rest):=by
 unfold jB; rw [if_pos h,h1]; show (if _ then _ else _)=_; rw [h2]; rfl
theorem KH {s:List UInt8} {p:E} {rest:ak} (h:(Tk.scan s).2.1=0) (h1:Pz.expr (Tk.scan s).1= .ok p rest) (h2:rest.isEmpty=true):jB s=(p,0,0):=by
 unfold jB; rw [if_pos h,h1]; show (if _ then _ else _)=_; rw [h2]; rfl
theorem Ut:jA e0:=⟨⟨by decide,by decide⟩,⟨by decide,by decide⟩,Nat.zero_le _,Nat.zero_le _⟩
theorem Fx {w W:World} {r:E × Int × Int} {n l:Int} (e:r=(e0,n,l)) (hb:Below w.heap.size w W):NM w r (.returned (.tuple #[.agg #[.int .i64 0,.int .i64 0,.string ⟨#[]⟩,.slice none 0 0],.int .i64 n,.int .i64 l])) W:=by
 subst e
 exact ⟨none,0,rfl,Ut,trivial,hb⟩
theorem Xf {w W:World} {res:E × Int × Int} {x:E} {ao:Option Addr} {cap:Nat} (e:res=(x,0,0)) (hok:jA x) (hst:x.kids.At W W.heap.size ao 0) (hb:Below w.heap.size w W):
 NM w res (.returned (.tuple #[.agg #[.int .i64 x.op,.int .i64 x.n,.string x.nm,.slice ao x.kids.len cap],.int .i64 0,.int .i64 0])) W:=by
 subst e
 exact ⟨ao,cap,rfl,hok,hst,hb⟩
def ExU (R:Rp) (w:World) (ts:ak) (res:E × Int × Int) (e:Ending) (w':World):Prop:=
 ∃(r:ak) (op n:Int) (nm:ByteArray) (kids:aZ) (ao:Option Addr) (cap:Nat) (b:Bool),e= .returned (.tuple #[.agg #[.int .i64 op,.int .i64 n,.string nm,.slice ao kids.len cap],.bool b])∧aY w' R r∧w.grownBy w' (some R.br)∧
  ((b && r.isEmpty)=false→res=(e0,3,bR ts r))∧((b && r.isEmpty)=true→res=(⟨op,n,nm,kids⟩,0,0))∧jA ⟨op,n,nm,kids⟩∧bJ w.heap.size w' (fun w2=>kids.At w2 w2.heap.size ao 0)
theorem Ym {R:Rp} {w w':World} {ts:ak} {res:E × Int × Int} {e:Ending} {pr:bg E}
 (h2: ∀rest,pr= .no rest→res=(e0,3,bR ts rest))
 (h3: ∀p rest,pr= .ok p rest→rest.isEmpty=false→res=(e0,3,bR ts rest))
 (h4: ∀p rest,pr= .ok p rest→rest.isEmpty=true→res=(p,0,0)) (h:kY R w pr e w'):ExU R w ts res e w':=by
 cases pr with
 | no r=>
   obtain ⟨he,hr,hg⟩:=h
   exact ⟨r,0,0,⟨#[]⟩,.nil,none,0,false,he,hr,hg,fun _=>h2 r rfl,fun h=>by simp at h,Ut,fun _ _=>trivial⟩
 | ok x r=>
   obtain ⟨v,he,⟨ao,cap,hv,hok,hst⟩,hr,hg⟩:=h
   subst hv
   exact ⟨r,x.op,x.n,x.nm,x.kids,ao,cap,true,he,hr,hg,fun h=>h3 x r rfl (by simpa using h),fun h=>h4 x r rfl (by simpa using h),hok,hst⟩
def YO:Array Value:= #[.int .i64 0,.int .i64 0,.string ⟨#[]⟩,.slice none 0 0]
theorem Rq (s:ByteArray) (w:World) (jJ:eT w) (hm:s.size≤maxLen):
 Calls Tryz.prog 21 #[.string s] w (NM w (jB s.data.toList)):=by
 have oq:=Lib.hid jJ
 have FU:=Lib.hid (FJ s.data.toList)
 have uN:=Lib.hid (EZ s.data.toList)
 obtain ⟨res,fG⟩: ∃res,Hid (jB s.data.toList=res):=⟨_,Lib.hid rfl⟩
 have qI:Hid (¬ (Tk.scan s.data.toList).2.1=0→res=(e0,((Tk.scan s.data.toList).2.1:Int),((Tk.scan s.data.toList).2.2:Int))):=Lib.hid (fun h=>fG.out.symm.trans (MV h))
 have HE2:Hid (∀rest,(Tk.scan s.data.toList).2.1=0→Pz.expr (Tk.scan s.data.toList).1= .no rest→res=(e0,3,bR (Tk.scan s.data.toList).1 rest)):=Lib.hid (fun rest h h1=>fG.out.symm.trans (QZ h h1))
 have iI:Hid (∀p rest,(Tk.scan s.data.toList).2.1=0→Pz.expr (Tk.scan s.data.toList).1= .ok p rest→rest.isEmpty=false→res=(e0,3,bR (Tk.scan s.data.toList).1 rest)):=Lib.hid (fun p rest h h1 h2=>fG.out.symm.trans (MC h h1 h2))
 have Ck:Hid (∀p rest,(Tk.scan s.data.toList).2.1=0→Pz.expr (Tk.scan s.data.toList).1= .ok p rest→rest.isEmpty=true→res=(p,0,0)):=Lib.hid (fun p rest h h1 h2=>fG.out.symm.trans (KH h h1 h2))
 have xH:Hid (∀w,eT w→Calls Tryz.prog 32 #[.string s] w (vW w (Tk.scan s.data.toList))):=Lib.hid (fun w h=>IU s w h hm)
 rw [fG.out]
 clear fG jJ hm
 generalize Tk.scan s.data.toList=sc at *
 go_enter Tryz.func21,Tryz.ntmps21
 go_upto_region 1 with fail
 generalize hW:World.alloc w _=W0
 have HB0:Hid (Below w.heap.size w W0):=Lib.hid (by rw [← hW]; exact ah _ _)
 have HZ0:Hid (W0.heap[w.heap.size]? =some (.cells YO 45 (0,0))):=Lib.hid (by rw [← hW]; exact heap_alloc_new _ _)
 clear hW
 go_wp2_with fail
 refine (xH.out _ (oq.out.same HB0.out)).mono ?_
 rintro e w1 ⟨v,rfl,hown,hb⟩
 obtain ⟨ao,cap,rfl,htk⟩:=BG hown
 have Aj:=Lib.hid htk
 have HB1:=Lib.hid (HB0.out.trans (hb.mono HB0.out.size))
 have HZ1:=Lib.hid ((hb.block _ (Array.getElem?_eq_some_iff.1 HZ0.out).1).trans HZ0.out)
 clear hown hb htk xH HB0 HZ0
 have y0:w1.cell? ⟨w.heap.size,0,none⟩=some (.int .i64 0):=aj HZ1.out rfl
 have y1:w1.cell? ⟨w.heap.size,1,none⟩=some (.int .i64 0):=aj HZ1.out rfl
 have y2:w1.cell? ⟨w.heap.size,2,none⟩=some (.string ⟨#[]⟩):=aj HZ1.out rfl
 have y3:w1.cell? ⟨w.heap.size,3,none⟩=some (.slice none 0 0):=aj HZ1.out rfl
 have f0:w1.frozen? ⟨w.heap.size,0,none⟩=false:=aF HZ1.out
 have f1:w1.frozen? ⟨w.heap.size,1,none⟩=false:=aF HZ1.out
 have f2:w1.frozen? ⟨w.heap.size,2,none⟩=false:=aF HZ1.out
 have f3:w1.frozen? ⟨w.heap.size,3,none⟩=false:=aF HZ1.out
 have hlt:w.heap.size < w1.heap.size:=(Array.getElem?_eq_some_iff.1 HZ1.out).1
 by_cases h0:sc.2.1=0
 ·have QO:Hid (∀(R:Rp) (wr:World),aY wr R sc.1→Calls Tryz.prog 52 #[.pointer (some ⟨R.br,0,none⟩)] wr (ExU R wr sc.1 res)):=Lib.hid (fun R wr h=>(qz R sc.1 wr h).mono (fun e w' hp=>Ym (fun r=>HE2.out r h0) (fun p r=>iI.out p r h0) (fun p r=>Ck.out p r h0) hp))
  have zA:=Lib.hid (And.intro uN.out.1 uN.out.2.1)
  rw [h0]
  go_upto_region 5 with fail
  generalize hW:World.alloc w1 _=W1
  have HR1:=Lib.hid (PN hW Aj.out FU.out zA.out)
  have HB2:Hid (Below w.heap.size w W1):=Lib.hid (by rw [← hW]; exact HB1.out.trans ((ah w1 _).mono HB1.out.size))
  have HZ2:Hid (W1.heap[w.heap.size]? =some (.cells YO 45 (0,0))):=Lib.hid (by rw [← hW]; exact ((ah w1 _).block _ hlt).trans HZ1.out)
  clear hW y0 y1 y2 y3 f0 f1 f2 f3 qI HE2 iI Ck uN FU oq Aj zA HB1 HZ1
  go_wp2_with fail
  refine (QO.out _ _ HR1.out).mono ?_
  rintro e w2 ⟨r,op,n,nm,kids,a,c,b,rfl,h1,h2,h3,h4,h5,h6⟩
  go_upto_region 6 with fail
  generalize hW:World.alloc w2 _=W3
  have H3:=Lib.hid h3
  have H4:=Lib.hid h4
  have H5:=Lib.hid (And.intro h5 h6)
  have HG:=Lib.hid h2
  have HB3:Hid (Below w.heap.size w W3):=Lib.hid (by rw [← hW]; exact (HB2.out.trans (fu h2 (Nat.le_of_lt hlt) HB2.out.size)).trans ((ah w2 _).mono (Nat.le_trans HB2.out.size h2.size)))
  have A8:Hid (Below w2.heap.size w2 W3):=Lib.hid (by rw [← hW]; exact ah w2 _)
  have HR3:Hid (aY W3 (qW w1 ao cap sc.1) r):=Lib.hid (h1.below A8.out)
  have HZ3:Hid (W3.heap[w.heap.size]? =some (.cells YO 45 (0,0))):=Lib.hid (by
   have k1:=(Array.getElem?_eq_some_iff.1 HZ2.out).1
   exact (A8.out.block _ (Nat.lt_of_lt_of_le k1 h2.size)).trans ((h2.block _ k1 (by simp [qW]; omega)).trans HZ2.out))
  have HD3:Hid (W3.heap[w2.heap.size]? =some (.cells #[.int .i64 op,.int .i64 n,.string nm,.slice a kids.len c] 45 (0,0))):=Lib.hid (by rw [← hW]; exact heap_alloc_new _ _)
  obtain ⟨pos,hpos,hdrop,c0,c1⟩:=HR3.out.pos
  have c0:W3.cell? ⟨w1.heap.size,0,none⟩=some (.slice ao sc.1.length cap):=c0
  have c1:W3.cell? ⟨w1.heap.size,1,none⟩=some (.int .i64 (pos:Int)):=c1
  have hpos:pos≤sc.1.length:=hpos
  have hdrop:sc.1.drop pos=r:=hdrop
  have hlt3:w.heap.size < W3.heap.size:=(Array.getElem?_eq_some_iff.1 HZ3.out).1
  have NV:b=false∨(b=true∧r.isEmpty=false∧pos < sc.1.length)∨(b=true∧r.isEmpty=true∧ ¬ pos < sc.1.length):=by
   cases b
   ·exact .inl rfl
   ·right
    cases hr:r with
    | nil=>rw [hr] at hdrop; have:=List.drop_eq_nil_iff.1 hdrop; exact .inr ⟨rfl,rfl,by omega⟩
    | cons t q=>rw [hr] at hdrop; have:=congrArg List.length hdrop; simp at this; exact .inl ⟨rfl,rfl,by omega⟩
  have hltW:w.heap.size < W1.heap.size:=(Array.getElem?_eq_some_iff.1 HZ2.out).1
  clear hW h1 h2 h3 h4 h5 h6 QO HR1 HZ2 hpos hdrop
  rcases NV with hb | ⟨hb,hr,hq⟩ | ⟨hb,hr,hq⟩
  ·subst hb
   go_quiet (fail)
   generalize uh:World.drewN W3 _=W4
   have dh:Hid (Below W3.heap.size W3 W4):=Lib.hid (by rw [← uh]; exact below_drewN (Below.refl _ _) _)
   clear uh
   have HR4:=Lib.hid (HR3.out.below dh.out)
   go_wp2_with fail
   refine (zO _ r _ HR4.out).mono ?_
   rintro e w5 ⟨rfl,hb5⟩
   have iR:=Lib.hid (HB3.out.trans ((dh.out.trans (hb5.mono dh.out.size)).mono HB3.out.size))
   have iq:=Lib.hid ((hb5.block _ (Nat.lt_of_lt_of_le hlt3 dh.out.size)).trans ((dh.out.block _ hlt3).trans HZ3.out))
   clear hb5
   have y0:w5.cell? ⟨w.heap.size,0,none⟩=some (.int .i64 0):=aj iq.out rfl
   have y1:w5.cell? ⟨w.heap.size,1,none⟩=some (.int .i64 0):=aj iq.out rfl
   have y2:w5.cell? ⟨w.heap.size,2,none⟩=some (.string ⟨#[]⟩):=aj iq.out rfl
   have y3:w5.cell? ⟨w.heap.size,3,none⟩=some (.slice none 0 0):=aj iq.out rfl
   have f0:w5.frozen? ⟨w.heap.size,0,none⟩=false:=aF iq.out
   have f1:w5.frozen? ⟨w.heap.size,1,none⟩=false:=aF iq.out
   have f2:w5.frozen? ⟨w.heap.size,2,none⟩=false:=aF iq.out
   have f3:w5.frozen? ⟨w.heap.size,3,none⟩=false:=aF iq.out
   have Da:w.heap.size < w5.heap.size:=(Array.getElem?_eq_some_iff.1 iq.out).1
   have iX:=Lib.hid (H3.out rfl)
   go_wp2_with fail
   exact bodyPost_ret (v:= .tuple #[.agg #[.int .i64 0,.int .i64 0,.string ⟨#[]⟩,.slice none 0 0],.int .i64 3,.int .i64 (bR sc.1 r)]) (by simp [results,Tryz.results21,go_sem,y0,y1,y2,y3,Da,qW]) rfl (Fx iX.out (bT (bT (bT (bT iR.out _ _ (Nat.le_refl _)) _ _ (Nat.le_refl _)) _ _ (Nat.le_refl _)) _ _ (Nat.le_refl _)))
  ·subst hb
   go_quiet (fail)
   generalize uh:World.drewN W3 _=W4
   have dh:Hid (Below W3.heap.size W3 W4):=Lib.hid (by rw [← uh]; exact below_drewN (Below.refl _ _) _)
   clear uh
   have HR4:=Lib.hid (HR3.out.below dh.out)
   go_wp2_with fail
   refine (zO _ r _ HR4.out).mono ?_
   rintro e w5 ⟨rfl,hb5⟩
   have iR:=Lib.hid (HB3.out.trans ((dh.out.trans (hb5.mono dh.out.size)).mono HB3.out.size))
   have iq:=Lib.hid ((hb5.block _ (Nat.lt_of_lt_of_le hlt3 dh.out.size)).trans ((dh.out.block _ hlt3).trans HZ3.out))
   clear hb5
   have y0:w5.cell? ⟨w.heap.size,0,none⟩=some (.int .i64 0):=aj iq.out rfl
   have y1:w5.cell? ⟨w.heap.size,1,none⟩=some (.int .i64 0):=aj iq.out rfl
   have y2:w5.cell? ⟨w.heap.size,2,none⟩=some (.string ⟨#[]⟩):=aj iq.out rfl
   have y3:w5.cell? ⟨w.heap.size,3,none⟩=some (.slice none 0 0):=aj iq.out rfl
   have f0:w5.frozen? ⟨w.heap.size,0,none⟩=false:=aF iq.out
   have f1:w5.frozen? ⟨w.heap.size,1,none⟩=false:=aF iq.out
   have f2:w5.frozen? ⟨w.heap.size,2,none⟩=false:=aF iq.out
   have f3:w5.frozen? ⟨w.heap.size,3,none⟩=false:=aF iq.out
   have Da:w.heap.size < w5.heap.size:=(Array.getElem?_eq_some_iff.1 iq.out).1
   have iX:=Lib.hid (H3.out (by rw [hr]; rfl))
   go_wp2_with fail
   exact bodyPost_ret (v:= .tuple #[.agg #[.int .i64 0,.int .i64 0,.string ⟨#[]⟩,.slice none 0 0],.int .i64 3,.int .i64 (bR sc.1 r)]) (by simp [results,Tryz.results21,go_sem,y0,y1,y2,y3,Da,qW]) rfl (Fx iX.out (bT (bT (bT (bT iR.out _ _ (Nat.le_refl _)) _ _ (Nat.le_refl _)) _ _ (Nat.le_refl _)) _ _ (Nat.le_refl _)))
  ·subst hb
   have HP:=Lib.hid (H4.out (by rw [hr]; rfl))
   go_quiet (fail)
   generalize uh:World.drewN W3 _=W4
   have dh:Hid (Below W3.heap.size W3 W4):=Lib.hid (by rw [← uh]; exact below_drewN (Below.refl _ _) _)
   clear uh
   have fK:=Lib.hid ((dh.out.block _ hlt3).trans HZ3.out)
   have HD4:=Lib.hid ((dh.out.block _ (Array.getElem?_eq_some_iff.1 HD3.out).1).trans HD3.out)
   have y0:W4.cell? ⟨w.heap.size,0,none⟩=some (.int .i64 0):=aj fK.out rfl
   have y1:W4.cell? ⟨w.heap.size,1,none⟩=some (.int .i64 0):=aj fK.out rfl
   have y2:W4.cell? ⟨w.heap.size,2,none⟩=some (.string ⟨#[]⟩):=aj fK.out rfl
   have y3:W4.cell? ⟨w.heap.size,3,none⟩=some (.slice none 0 0):=aj fK.out rfl
   have f0:W4.frozen? ⟨w.heap.size,0,none⟩=false:=aF fK.out
   have f1:W4.frozen? ⟨w.heap.size,1,none⟩=false:=aF fK.out
   have f2:W4.frozen? ⟨w.heap.size,2,none⟩=false:=aF fK.out
   have f3:W4.frozen? ⟨w.heap.size,3,none⟩=false:=aF fK.out
   have d0:W4.cell? ⟨w2.heap.size,0,none⟩=some (.int .i64 op):=aj HD4.out rfl
   have d1:W4.cell? ⟨w2.heap.size,1,none⟩=some (.int .i64 n):=aj HD4.out rfl
   have d2:W4.cell? ⟨w2.heap.size,2,none⟩=some (.string nm):=aj HD4.out rfl
   have d3:W4.cell? ⟨w2.heap.size,3,none⟩=some (.slice a kids.len c):=aj HD4.out rfl
   have sS:w.heap.size < W4.heap.size:=(Array.getElem?_eq_some_iff.1 fK.out).1
   go_wp2_with fail
   have hfin:dO W1.heap.size w2 ((((W4.setCell ⟨w.heap.size,0,none⟩ (.int .i64 op)).setCell ⟨w.heap.size,1,none⟩ (.int .i64 n)).setCell ⟨w.heap.size,2,none⟩ (.string nm)).setCell ⟨w.heap.size,3,none⟩ (.slice a kids.len c)):=
    ((((aL (B:=W1.heap.size) (A8.out.trans (dh.out.mono A8.out.size))).trans (bH W4 _ _ hltW)).trans (bH _ _ _ hltW)).trans (bH _ _ _ hltW)).trans (bH _ _ _ hltW)
   exact bodyPost_ret (v:= .tuple #[.agg #[.int .i64 op,.int .i64 n,.string nm,.slice a kids.len c],.int .i64 0,.int .i64 0]) (by simp [results,Tryz.results21,go_sem,y0,y1,y2,y3,sS]) rfl (Xf HP.out H5.out.1 (H5.out.2.next hfin).now (bT (bT (bT (bT (HB3.out.trans (dh.out.mono HB3.out.size)) _ _ (Nat.le_refl _)) _ _ (Nat.le_refl _)) _ _ (Nat.le_refl _)) _ _ (Nat.le_refl _)))
 ·have hq:(((sc.2.1:Nat):Int) == 0)=false:=by rw [beq_eq_false_iff_ne]; omega
  have iX:=Lib.hid (qI.out h0)
  go_wp2_with fail
  exact bodyPost_ret (v:= .tuple #[.agg #[.int .i64 0,.int .i64 0,.string ⟨#[]⟩,.slice none 0 0],.int .i64 (sc.2.1:Int),.int .i64 (sc.2.2:Int)]) (by simp [results,Tryz.results21,go_sem,y0,y1,y2,y3,hlt]) rfl (Fx iX.out (bT (bT (bT (bT HB1.out _ _ (Nat.le_refl _)) _ _ (Nat.le_refl _)) _ _ (Nat.le_refl _)) _ _ (Nat.le_refl _)))
end Go.Proofs.YtehnipchbmjlhaaGreatDoor
end
section
namespace Go.Proofs.YtehnipchbmjlhaaGreatDoor
open Go.RowKit
open Md Pz
def Lh:List UInt8:=[118,97,114,32,120,59,116,104,114,101,97,100,32,116,40,41,123,120,61,49,59,125]
def awB:Bool:=(parse Lh).2.1 == 0 && ((parse Lh).2.2 == 0 && ((parse Lh).1.ts.map (·.body.len) == [1] && yx (parse Lh).1))
theorem an9:awB=true:=by decide +kernel
def awC:Bool:=(jB [49]).2.1 == 0 && ((jB [49]).2.2 == 0 && ((jB [49]).1.op == 1 && gW (jB [49]).1.op (jB [49]).1.n (jB [49]).1.nm (jB [49]).1.kids))
theorem an6:awC=true:=by decide +kernel
theorem Vr: ∃p t,parse Lh=(p,0,0)∧p.ts=[t]∧t.body.len=1∧yx p=true:=by
 have h:=an9
 unfold awB at h
 generalize parse Lh=r at h
 obtain ⟨p,e,l⟩:=r
 simp only [Bool.and_eq_true,beq_iff_eq] at h
 obtain ⟨rfl,rfl,h1,h2⟩:=h
 cases hts:p.ts with
 | nil=>rw [hts] at h1; cases h1
 | cons t r=>
   rw [hts] at h1
   cases r with
   | nil=>exact ⟨p,t,rfl,hts,by simpa using h1,h2⟩
   | cons a b=>simp at h1
theorem ab6: ∃x,jB [49]=(x,0,0)∧x.op=1∧gW x.op x.n x.nm x.kids=true:=by
 have h:=an6
 unfold awC at h
 generalize jB [49]=r at h
 obtain ⟨p,e,l⟩:=r
 simp only [Bool.and_eq_true,beq_iff_eq] at h
 obtain ⟨rfl,rfl,h1,h2⟩:=h
 exact ⟨p,rfl,h1,h2⟩
def AwP (p:Pr) (w:World) (e:Ending) (w':World):Prop:=
 ∃bY nD bM b off bW bC aV,e= .returned (.tuple #[.agg #[.slice bY nD bM,.slice (some ⟨b,off,none⟩) 1 bW],.int .i64 0,.int .i64 0])∧nD=p.ds.length∧1=p.ts.length∧b < w'.heap.size∧w'.cell? ⟨b,off + 3,none⟩=some (.slice bC 1 aV)∧p.At w' bY (some ⟨b,off,none⟩)∧Below w.heap.size w w'
theorem WU {p:Pr} {t:Th} {w w':World} {e:Ending} (hts:p.ts=[t]) (hb:t.body.len=1) {N:Nat} (h:F7 N w (p,0,0) e w'):AwP p w e w':=by
 obtain ⟨bY,bM,dV,bW,he,hl,⟨hd,ht⟩,hbl,-⟩:=h
 have ht':=ht
 dsimp only at hl ht he ht'
 rw [hts] at ht'
 obtain ⟨b,off,fP,dn,bC,aV,hao,hlt,c0,c1,c2,c3,-⟩:=ht'.1
 subst hao
 rw [hb] at c3
 have e1:p.ts.length=1:=by rw [hts]; rfl
 rw [e1] at he
 exact ⟨bY,_,bM,b,off,bW,bC,aV,he,rfl,e1.symm,hlt,by rw [Nat.zero_mul,Nat.add_zero] at c3; exact c3,⟨by unfold maxLen; omega,by unfold maxLen; omega,hd,ht⟩,hbl⟩
theorem QX (w:World) (jJ:eT w):
 Calls Tryz.prog 16 #[] w fun e w'=>e= .returned (.bool true)∧Below w.heap.size w w':=by
 obtain ⟨p,t,hp,hts,hbl,hsh⟩:=Vr
 obtain ⟨x,hx,hxo,hxs⟩:=ab6
 have HP:Hid (∀w,eT w→Calls Tryz.prog 11 #[.string ⟨#[118,97,114,32,120,59,116,104,114,101,97,100,32,116,40,41,123,120,61,49,59,125]⟩] w (AwP p w)):=Lib.hid (fun w h=>by
  have h2:=Gd ⟨#[118,97,114,32,120,59,116,104,114,101,97,100,32,116,40,41,123,120,61,49,59,125]⟩ w h (by decide)
  have e:parse (⟨#[118,97,114,32,120,59,116,104,114,101,97,100,32,116,40,41,123,120,61,49,59,125]⟩:ByteArray).data.toList=(p,0,0):=hp
  rw [e] at h2
  exact h2.mono (fun e w' h=>WU hts hbl h))
 have HX:Hid (∀w,eT w→Calls Tryz.prog 21 #[.string ⟨#[49]⟩] w (NM w (x,0,0))):=Lib.hid (fun w h=>by
  have h2:=Rq ⟨#[49]⟩ w h (by decide)
  have e:jB (⟨#[49]⟩:ByteArray).data.toList=(x,0,0):=hx
  rw [e] at h2
  exact h2)
 have oq:=Lib.hid jJ
 have Az:=Lib.hid (And.intro hsh hxs)
 have Mf:=Lib.hid hxo
 clear hp hts hbl hsh hx hxo hxs jJ
 go_enter Tryz.func16,Tryz.ntmps16
 go_wp2_with fail
 refine (HP.out _ oq.out).mono ?_
 rintro e w1 ⟨bY,nD,bM,b,off,bW,bC,aV,rfl,hnD,hnT,hbl,cb,hat,hb1⟩
 have HN:=Lib.hid (And.intro hnD hnT)
 clear hnD hnT
 go_upto_region 2 with fail
 generalize hW:World.alloc w1 _=W1
 have HAT:Hid (p.At W1 bY (some ⟨b,off,none⟩)):=Lib.hid (by rw [← hW]; exact hat.same (ah _ _))
 have HB1:Hid (Below w.heap.size w W1):=Lib.hid (by rw [← hW]; exact hb1.trans ((ah w1 _).mono hb1.size))
 have HZ1:Hid (W1.heap[w1.heap.size]? =some (.cells #[.slice bY nD bM,.slice (some ⟨b,off,none⟩) 1 bW] 26 (0,0))):=Lib.hid (by rw [← hW]; exact heap_alloc_new _ _)
 have uI:Hid (W1.cell? ⟨b,off + 3,none⟩=some (.slice bC 1 aV)):=Lib.hid (by rw [← hW]; exact ((ah w1 _).cell hbl).trans cb)
 have Uy:Hid (b < W1.heap.size):=Lib.hid (by rw [← hW]; exact Nat.lt_of_lt_of_le hbl (ah w1 _).size)
 clear hW hat hb1 hbl cb
 go_wp2_with fail
 refine (HX.out _ (oq.out.same HB1.out)).mono ?_
 rintro e w2 ⟨ao,cap,rfl,hok,hk,hb2⟩
 unfold exV
 go_upto_region 3 with fail
 generalize hW:World.alloc w2 _=W2
 have IL:Hid (Below W1.heap.size W1 W2):=Lib.hid (by rw [← hW]; exact hb2.trans ((ah w2 _).mono hb2.size))
 have eX:Hid (x.kids.At W2 W2.heap.size ao 0):=Lib.hid (by rw [← hW]; exact hk.same (ah w2 _))
 have gN:Hid (W2.heap[w2.heap.size]? =some (.cells #[.int .i64 x.op,.int .i64 x.n,.string x.nm,.slice ao x.kids.len cap] 45 (0,0))):=Lib.hid (by rw [← hW]; exact heap_alloc_new _ _)
 have gq:=Lib.hid hok
 have AV:=Lib.hid (HAT.out.same IL.out)
 have YK:=Lib.hid (oq.out.same (HB1.out.trans (IL.out.mono HB1.out.size)))
 have HZ2:=Lib.hid ((IL.out.block _ (Array.getElem?_eq_some_iff.1 HZ1.out).1).trans HZ1.out)
 have y0:W2.cell? ⟨w1.heap.size,0,none⟩=some (.slice bY nD bM):=aj HZ2.out rfl
 have y1:W2.cell? ⟨w1.heap.size,1,none⟩=some (.slice (some ⟨b,off,none⟩) 1 bW):=aj HZ2.out rfl
 have z3:W2.cell? ⟨b,off + 3,none⟩=some (.slice bC 1 aV):=(IL.out.cell Uy.out).trans uI.out
 have x0:W2.cell? ⟨w2.heap.size,0,none⟩=some (.int .i64 x.op):=aj gN.out rfl
 have x1:W2.cell? ⟨w2.heap.size,1,none⟩=some (.int .i64 x.n):=aj gN.out rfl
 have x2:W2.cell? ⟨w2.heap.size,2,none⟩=some (.string x.nm):=aj gN.out rfl
 have x3:W2.cell? ⟨w2.heap.size,3,none⟩=some (.slice ao x.kids.len cap):=aj gN.out rfl
 have X3:Hid (Below w.heap.size w W2):=Lib.hid (HB1.out.trans (IL.out.mono HB1.out.size))
 have kr:Hid (∀W,Below W2.heap.size W2 W→Calls Tryz.prog 13 #[.agg #[.slice bY nD bM,.slice (some ⟨b,off,none⟩) 1 bW]] W fun e w'=>e= .returned (.bool true)∧Below W.heap.size W w'):=Lib.hid (fun W hb=>by
  have h:=NT p W bY (some ⟨b,off,none⟩) bM bW (AV.out.same hb) (YK.out.same hb)
  rw [Az.out.1,← HN.out.1,← HN.out.2] at h
  exact h)
 have HS2:Hid (∀W,Below W2.heap.size W2 W→Calls Tryz.prog 43 #[.agg #[.int .i64 1,.int .i64 x.n,.string x.nm,.slice ao x.kids.len cap]] W fun e w'=>e= .returned (.bool true)∧Below W.heap.size W w'):=Lib.hid (fun W hb=>by
  have h:=sF x.op x.n x.nm x.kids W ao cap gq.out (eX.out.same hb) (YK.out.same hb)
  rw [Az.out.2,Mf.out] at h
  exact h)
 have hxo:=Mf.out
 rw [hxo] at x0
 clear hW hok hk hb2 HX HP HAT uI HZ1 Az HN eX HZ2 Uy
 go_wp2_with fail
 refine (kr.out _ (Below.refl _ _)).mono ?_
 rintro e w3 ⟨rfl,hb3⟩
 have hlt2:w2.heap.size < W2.heap.size:=(Array.getElem?_eq_some_iff.1 gN.out).1
 have v0:w3.cell? ⟨w2.heap.size,0,none⟩=some (.int .i64 1):=(hb3.cell hlt2).trans x0
 have v1:w3.cell? ⟨w2.heap.size,1,none⟩=some (.int .i64 x.n):=(hb3.cell hlt2).trans x1
 have v2:w3.cell? ⟨w2.heap.size,2,none⟩=some (.string x.nm):=(hb3.cell hlt2).trans x2
 have v3:w3.cell? ⟨w2.heap.size,3,none⟩=some (.slice ao x.kids.len cap):=(hb3.cell hlt2).trans x3
 have HB3:=Lib.hid hb3
 clear hb3 y0 y1 z3 x0 x1 x2 x3 hlt2
 go_wp2_with fail
 refine (HS2.out _ HB3.out).mono ?_
 rintro e w4 ⟨rfl,hb4⟩
 go_wp2_with fail
 go_ret
 exact ⟨rfl,X3.out.trans ((HB3.out.trans (hb4.mono HB3.out.size)).mono X3.out.size)⟩
end Go.Proofs.YtehnipchbmjlhaaGreatDoor
end
