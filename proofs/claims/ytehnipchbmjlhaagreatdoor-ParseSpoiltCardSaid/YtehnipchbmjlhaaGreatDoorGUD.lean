/-
  What the second parser's expressions leave; contract of unary.
  Contract of the second parser's primary.
  Contract of the second parser's expr: all that reads expressions.
  All that reads expressions in the second parser; a statement under way.
-/
import Derived.Test.YtehnipchbmjlhaaGreatDoorGUB
import Derived.Test.YtehnipchbmjlhaaGreatDoorGUC
import Derived.Test.YtehnipchbmjlhaaGreatDoorGRB
import Derived.Test.YtehnipchbmjlhaaGreatDoorGRD
import Derived.Test.YtehnipchbmjlhaaGreatDoorGRC
set_option linter.unusedSimpArgs false
set_option linter.unusedVariables false
set_option maxHeartbeats 40000000
set_option maxRecDepth 1000000
section
namespace Go.Proofs.YtehnipchbmjlhaaGreatDoor
open Go.RowKit
open Md Pz
def mM (R:Rp) (w:World) (q:E × St) (e:Ending) (w':World):Prop:=
 ∃v,e= .returned v∧EV w.heap.size q.1 v w'∧bn w' R q.2∧w.grownBy w' (some R.br)
def tJ (R:Rp) (f:Nat):M→Prop
 | .bin lv=>lv≤6→ ∀s w,enough (.bin lv) s.toks f→bn w R s→Calls Tryz.prog 53 #[.pointer (some ⟨R.br,0,none⟩),.int .i64 (lv:Int)] w (mM R w (aQ R.ts f (.bin lv) s))
 | .un=> ∀s w,enough .un s.toks f→bn w R s→Calls Tryz.prog 92 #[.pointer (some ⟨R.br,0,none⟩)] w (mM R w (aQ R.ts f .un s))
 | .pr=> ∀s w,enough .pr s.toks f→bn w R s→Calls Tryz.prog 125 #[.pointer (some ⟨R.br,0,none⟩)] w (mM R w (aQ R.ts f .pr s))
 | .lp _ _=>True
theorem nV {w:World} {R:Rp} {s:St} (h:bn w R s) (a:Addr) (v:Value) (h0:R.B0≤a.block) (h1:a.block≠R.br):bn (w.setCell a v) R s:=by
 obtain ⟨pos,bad,k1,k2,k3⟩:=h.blk
 exact ⟨⟨pos,bad,k1,k2,(aN w a v rfl h1).trans k3⟩,h.tok.below (fu (cu w a v) h0 (Nat.le_trans R.b0 (Nat.le_of_lt h.lt))),h.ok,h.tl⟩
theorem qm {w:World} {R:Rp} {s:St} (h:bn w R s) (o:Obj):bn (w.alloc o) R s:=h.below (ah _ _)
structure Wr (R:Rp) (w W:World) (s:St):Prop where
 rd:bn W R s
 gr:w.grownBy W (some R.br)
 lt:R.br < w.heap.size
theorem Wr.start {R:Rp} {w:World} {s:St} (h:bn w R s):Wr R w w s:=⟨h,Ca _,h.lt⟩
section
variable {R:Rp} {w W W':World} {s s':St}
theorem Wr.set (h:Wr R w W s) (a:Addr) (v:Value) (hb:w.heap.size≤a.block):Wr R w (W.setCell a v) s:=
 ⟨nV h.rd a v (by have:=R.b0; have:=h.lt; omega) (by have:=h.lt; omega),jC h.gr a v hb,h.lt⟩
theorem Wr.alloc (h:Wr R w W s) (o:Obj):Wr R w (W.alloc o) s:=⟨qm h.rd o,dP h.gr o,h.lt⟩
theorem Wr.below (h:Wr R w W s) (hb:Below W.heap.size W W'):Wr R w W' s:=⟨h.rd.below hb,bD h.gr (aH hb),h.lt⟩
theorem Wr.then (h:Wr R w W s) (h1:bn W' R s') (h2:W.grownBy W' (some R.br)):Wr R w W' s':=⟨h1,bD h.gr h2,h.lt⟩
theorem Wr.gH (h:Wr R w W s) (b:Nat) (v0 v1 v2 v3:Value) (hb:w.heap.size≤b):Wr R w (gH W b v0 v1 v2 v3) s:=
 (((h.set ⟨b,0,none⟩ v0 hb).set ⟨b,1,none⟩ v1 hb).set ⟨b,2,none⟩ v2 hb).set ⟨b,3,none⟩ v3 hb
theorem Wr.kept (h:Wr R w W s) (h2:W.grownBy W' (some R.br)) {k:Nat} (hk:w.heap.size≤k) (hl:k < W.heap.size):W'.heap[k]? =W.heap[k]?:=h2.block k hl (by have:=h.lt; simp; omega)
theorem Wr.aD (h:Wr R w W s) {pos:Nat} (hp:W.cell? ⟨R.br,1,none⟩=some (.int .i64 (pos:Int))) (hne:s.toks≠[]):Wr R w (W.setCell ⟨R.br,1,none⟩ (.int .i64 ((pos:Int) + 1))) s.aD:=
 ⟨h.rd.aD hp hne,bD h.gr (cu _ _ _),h.lt⟩
end
theorem lC (R:Rp) (s:St) (w:World) (x:ByteArray) {l:List UInt8} (hx:x.data.toList=l) {b:Bool} (h:at' l s.toks=b) (hI:bn w R s):
 Calls Tryz.prog 81 #[.pointer (some ⟨R.br,0,none⟩),.string x] w fun e w'=>e= .returned (.bool b)∧Below w.heap.size w w':=by
 subst h; exact nS R s w x hx hI
theorem F8 {R:Rp} {w w2:World} {s:St} {x:E} {ao:Option Addr} {cap:Nat} {op:Int} {nm:ByteArray} {t:TypeId} (hop:aM op) (hn:nm.size≤maxLen) (h:Wr R w w2 s) (hlt:w.heap.size < w2.heap.size) (hE:jA x∧bJ (w.heap.size + 1) w2 (fun w2=>x.kids.At w2 w2.heap.size ao 0)):
 mM R w (⟨op,0,nm,.cons x.op x.n x.nm x.kids .nil⟩,s) (.returned (exV op 0 nm (.cons x.op x.n x.nm x.kids .nil) (some ⟨w2.heap.size,0,none⟩) 1))
  ((gH w2 w.heap.size (.int .i64 op) (.int .i64 0) (.string nm) (.slice (some ⟨w2.heap.size,0,none⟩) 1 1)).alloc (.cells #[.int .i64 x.op,.int .i64 x.n,.string x.nm,.slice ao x.kids.len cap] t)):=by
 have hk:=h.gH w.heap.size (.int .i64 op) (.int .i64 0) (.string nm) (.slice (some ⟨w2.heap.size,0,none⟩) 1 1) (Nat.le_refl _)
 have ha:=wC w2 w.heap.size (.int .i64 op) (.int .i64 0) (.string nm) (.slice (some ⟨w2.heap.size,0,none⟩) 1 1)
 have hs:=xV w2 w.heap.size (.int .i64 op) (.int .i64 0) (.string nm) (.slice (some ⟨w2.heap.size,0,none⟩) 1 1)
 generalize gH w2 w.heap.size _ _ _ _=W at *
 refine ⟨_,rfl,⟨_,1,rfl,⟨hop,kE,hn,by simp [aZ.len,maxLen]⟩,?_⟩,(hk.alloc _).rd,(hk.alloc _).gr⟩
 rw [← hs]
 exact (oO (heap_alloc_new _ _) (by omega) hE.1 ((hE.2.next ha).next (aL (ah _ _)))).mono (Nat.le_succ _)
theorem vK {R:Rp} {w w2:World} {s:St} {x:E} {ao:Option Addr} {cap:Nat} {a b c d:Value} (h:Wr R w w2 s) (hE:jA x∧bJ (w.heap.size + 1) w2 (fun w2=>x.kids.At w2 w2.heap.size ao 0)):
 mM R w (x,s) (.returned (exV x.op x.n x.nm x.kids ao cap)) (gH w2 w.heap.size a b c d):=by
 have hk:=h.gH w.heap.size a b c d (Nat.le_refl _)
 exact ⟨_,rfl,⟨_,cap,rfl,hE.1,(hE.2.next (wC w2 w.heap.size a b c d)).mono (Nat.le_succ _)⟩,hk.rd,hk.gr⟩
theorem GJ {R:Rp} {w w2:World} {s:St} {op n:Int} {nm:ByteArray} {a b c d:Value} (h:Wr R w w2 s) (h1:aM op) (h2:aM n) (h3:nm.size≤maxLen):
 mM R w (⟨op,n,nm,.nil⟩,s) (.returned (exV op n nm .nil none 0)) (gH w2 w.heap.size a b c d):=by
 have hk:=h.gH w.heap.size a b c d (Nat.le_refl _)
 exact ⟨_,rfl,⟨none,0,rfl,⟨h1,h2,h3,Nat.zero_le _⟩,fun _ _=>trivial⟩,hk.rd,hk.gr⟩
theorem KE (R:Rp) (f:Nat) (ihu:tJ R f .un) (ihp:tJ R f .pr):tJ R (f + 1) .un:=by
 intro s w hen hI
 have HI:=Lib.hid hI
 have Pe:=Lib.hid ihu
 have G6:=Lib.hid ihp
 have HF:=Lib.hid hen
 clear hI ihu ihp hen
 cases h0:at' [45] s.toks
 ·cases h1:at' [33] s.toks
  ·have HX:Hid (∀w,bn w R s→Calls Tryz.prog 125 #[.pointer (some ⟨R.br,0,none⟩)] w (mM R w (aQ R.ts f .pr s))):=Lib.hid (fun w h=>G6.out s w (by have:=HF.out; simp only [enough,wt] at *; omega) h)
   rw [WJ h0 h1]
   clear Pe G6 HF
   generalize aQ R.ts f .pr s=res at *
   obtain ⟨x,s'⟩:=res
   go_enter Tryz.func92,Tryz.ntmps92
   go_upto_region 1 with fail
   generalize hW:World.alloc w _=W
   have HK:Hid (Wr R w W s):=Lib.hid (by rw [← hW]; exact (Wr.start HI.out).alloc _)
   have HZ:Hid (W.heap[w.heap.size]? =some (.cells #[.int .i64 0,.int .i64 0,.string ⟨#[]⟩,.slice none 0 0] 45 (0,0))):=Lib.hid (by rw [← hW]; exact heap_alloc_new _ _)
   clear hW
   go_wp2_with fail
   refine (lC R s _ ⟨#[45]⟩ rfl h0 HK.out.rd).mono ?_
   rintro e w0 ⟨rfl,h2⟩
   have dw:=Lib.hid (HK.out.below h2)
   have HZ0:=Lib.hid ((h2.block _ (Array.getElem?_eq_some_iff.1 HZ.out).1).trans HZ.out)
   clear h2 HK HZ
   have HK:=dw
   have HZ:=HZ0
   clear dw HZ0
   go_wp2_with fail
   refine (lC R s _ ⟨#[33]⟩ rfl h1 HK.out.rd).mono ?_
   rintro e w0 ⟨rfl,h2⟩
   have dw:=Lib.hid (HK.out.below h2)
   have HZ0:=Lib.hid ((h2.block _ (Array.getElem?_eq_some_iff.1 HZ.out).1).trans HZ.out)
   clear h2 HK HZ
   have HK:=dw
   have HZ:=HZ0
   clear dw HZ0
   go_wp2_with fail
   refine (HX.out _ HK.out.rd).mono ?_
   rintro e w2 ⟨v,rfl,hv,h2,h3⟩
   have eX:=Lib.hid (HK.out.then h2 h3)
   have HZ2:=Lib.hid ((HK.out.kept h3 (Nat.le_refl _) (Array.getElem?_eq_some_iff.1 HZ.out).1).trans HZ.out)
   have gN:=Lib.hid (hv.mono (Array.getElem?_eq_some_iff.1 HZ.out).1)
   clear h2 h3 HK HZ hv
   obtain ⟨ao,cap,rfl,hok,hst⟩:=gN.out
   have HE:=Lib.hid (And.intro hok hst)
   clear hok hst gN
   obtain ⟨⟨y0,y1,y2,y3⟩,f0,f1,f2,f3⟩:=dH HZ2.out
   unfold exV
   go_wp2_with fail
   exact bodyPost_ret (v:=exV x.op x.n x.nm x.kids ao cap) (by simp [results,Tryz.results92,go_sem,y0,y1,y2,y3,exV]) rfl (vK eX.out HE.out)
  ·have HX:Hid (∀w,bn w R s.aD→Calls Tryz.prog 92 #[.pointer (some ⟨R.br,0,none⟩)] w (mM R w (aQ R.ts f .un s.aD))):=Lib.hid (fun w h=>Pe.out s.aD w (by have:=HF.out; have:=Ef h1; simp only [enough,wt,St.len] at *; omega) h)
   have iQ:=Lib.hid (lN h1)
   rw [Zn h0 h1]
   clear Pe G6 HF
   generalize aQ R.ts f .un s.aD=res at *
   obtain ⟨x,s'⟩:=res
   go_enter Tryz.func92,Tryz.ntmps92
   go_upto_region 1 with fail
   generalize hW:World.alloc w _=W
   have HK:Hid (Wr R w W s):=Lib.hid (by rw [← hW]; exact (Wr.start HI.out).alloc _)
   have HZ:Hid (W.heap[w.heap.size]? =some (.cells #[.int .i64 0,.int .i64 0,.string ⟨#[]⟩,.slice none 0 0] 45 (0,0))):=Lib.hid (by rw [← hW]; exact heap_alloc_new _ _)
   clear hW
   go_wp2_with fail
   refine (lC R s _ ⟨#[45]⟩ rfl h0 HK.out.rd).mono ?_
   rintro e w0 ⟨rfl,h2⟩
   have dw:=Lib.hid (HK.out.below h2)
   have HZ0:=Lib.hid ((h2.block _ (Array.getElem?_eq_some_iff.1 HZ.out).1).trans HZ.out)
   clear h2 HK HZ
   have HK:=dw
   have HZ:=HZ0
   clear dw HZ0
   go_wp2_with fail
   refine (lC R s _ ⟨#[33]⟩ rfl h1 HK.out.rd).mono ?_
   rintro e w0 ⟨rfl,h2⟩
   have dw:=Lib.hid (HK.out.below h2)
   have HZ0:=Lib.hid ((h2.block _ (Array.getElem?_eq_some_iff.1 HZ.out).1).trans HZ.out)
   clear h2 HK HZ
   have HK:=dw
   have HZ:=HZ0
   clear dw HZ0
   obtain ⟨pos,bad,⟨hp,hp2,hl,hlt,hbr⟩,HS,⟨bL,bK⟩,c0,c1,c2,f1,f2⟩:=HK.out.rd.open
   have HA:=Lib.hid (HK.out.aD c1 iQ.out)
   have HQ:=Lib.hid ((aN _ (⟨R.br,1,none⟩:Addr) (.int .i64 ((pos:Int) + 1)) rfl (show R.br≠w.heap.size from Nat.ne_of_lt HK.out.lt)).trans HZ.out)
   go_upto_region 8 with fail
   generalize hW:World.setCell _ _ _=W2
   rw [hW] at HA HQ
   clear hW c0 c1 c2 f1 f2 HS hp hp2 hl hlt hbr bL bK HK HZ
   have HK:=HA
   have HZ:=HQ
   clear HA HQ
   go_wp2_with fail
   refine (HX.out _ HK.out.rd).mono ?_
   rintro e w2 ⟨v,rfl,hv,h2,h3⟩
   have eX:=Lib.hid (HK.out.then h2 h3)
   have HZ2:=Lib.hid ((HK.out.kept h3 (Nat.le_refl _) (Array.getElem?_eq_some_iff.1 HZ.out).1).trans HZ.out)
   have gN:=Lib.hid (hv.mono (Array.getElem?_eq_some_iff.1 HZ.out).1)
   clear h2 h3 HK HZ hv
   obtain ⟨ao,cap,rfl,hok,hst⟩:=gN.out
   have HE:=Lib.hid (And.intro hok hst)
   clear hok hst gN
   obtain ⟨⟨y0,y1,y2,y3⟩,f0,f1,f2,f3⟩:=dH HZ2.out
   have hlt2:w.heap.size < w2.heap.size:=(Array.getElem?_eq_some_iff.1 HZ2.out).1
   unfold exV
   go_wp2_with fail
   exact bodyPost_ret (v:=exV 5 0 ⟨#[]⟩ (.cons x.op x.n x.nm x.kids .nil) (some ⟨w2.heap.size,0,none⟩) 1) (by simp [results,Tryz.results92,go_sem,y0,y1,y2,y3,exV,aZ.len,hlt2]) rfl (F8 (by unfold aM; decide) (Nat.zero_le _) eX.out hlt2 HE.out)
 ·have h1:at' [33] s.toks=false:=Zk (by decide) h0
  have HX:Hid (∀w,bn w R s.aD→Calls Tryz.prog 92 #[.pointer (some ⟨R.br,0,none⟩)] w (mM R w (aQ R.ts f .un s.aD))):=Lib.hid (fun w h=>Pe.out s.aD w (by have:=HF.out; have:=Ef h0; simp only [enough,wt,St.len] at *; omega) h)
  have iQ:=Lib.hid (lN h0)
  rw [Zg h0]
  clear Pe G6 HF
  generalize aQ R.ts f .un s.aD=res at *
  obtain ⟨x,s'⟩:=res
  go_enter Tryz.func92,Tryz.ntmps92
  go_upto_region 1 with fail
  generalize hW:World.alloc w _=W
  have HK:Hid (Wr R w W s):=Lib.hid (by rw [← hW]; exact (Wr.start HI.out).alloc _)
  have HZ:Hid (W.heap[w.heap.size]? =some (.cells #[.int .i64 0,.int .i64 0,.string ⟨#[]⟩,.slice none 0 0] 45 (0,0))):=Lib.hid (by rw [← hW]; exact heap_alloc_new _ _)
  clear hW
  go_wp2_with fail
  refine (lC R s _ ⟨#[45]⟩ rfl h0 HK.out.rd).mono ?_
  rintro e w0 ⟨rfl,h2⟩
  have dw:=Lib.hid (HK.out.below h2)
  have HZ0:=Lib.hid ((h2.block _ (Array.getElem?_eq_some_iff.1 HZ.out).1).trans HZ.out)
  clear h2 HK HZ
  have HK:=dw
  have HZ:=HZ0
  clear dw HZ0
  go_wp2_with fail
  refine (lC R s _ ⟨#[33]⟩ rfl h1 HK.out.rd).mono ?_
  rintro e w0 ⟨rfl,h2⟩
  have dw:=Lib.hid (HK.out.below h2)
  have HZ0:=Lib.hid ((h2.block _ (Array.getElem?_eq_some_iff.1 HZ.out).1).trans HZ.out)
  clear h2 HK HZ
  have HK:=dw
  have HZ:=HZ0
  clear dw HZ0
  obtain ⟨pos,bad,⟨hp,hp2,hl,hlt,hbr⟩,HS,⟨bL,bK⟩,c0,c1,c2,f1,f2⟩:=HK.out.rd.open
  have HA:=Lib.hid (HK.out.aD c1 iQ.out)
  have HQ:=Lib.hid ((aN _ (⟨R.br,1,none⟩:Addr) (.int .i64 ((pos:Int) + 1)) rfl (show R.br≠w.heap.size from Nat.ne_of_lt HK.out.lt)).trans HZ.out)
  go_upto_region 8 with fail
  generalize hW:World.setCell _ _ _=W2
  rw [hW] at HA HQ
  clear hW c0 c1 c2 f1 f2 HS hp hp2 hl hlt hbr bL bK HK HZ
  have HK:=HA
  have HZ:=HQ
  clear HA HQ
  go_wp2_with fail
  refine (HX.out _ HK.out.rd).mono ?_
  rintro e w2 ⟨v,rfl,hv,h2,h3⟩
  have eX:=Lib.hid (HK.out.then h2 h3)
  have HZ2:=Lib.hid ((HK.out.kept h3 (Nat.le_refl _) (Array.getElem?_eq_some_iff.1 HZ.out).1).trans HZ.out)
  have gN:=Lib.hid (hv.mono (Array.getElem?_eq_some_iff.1 HZ.out).1)
  clear h2 h3 HK HZ hv
  obtain ⟨ao,cap,rfl,hok,hst⟩:=gN.out
  have HE:=Lib.hid (And.intro hok hst)
  clear hok hst gN
  obtain ⟨⟨y0,y1,y2,y3⟩,f0,f1,f2,f3⟩:=dH HZ2.out
  have hlt2:w.heap.size < w2.heap.size:=(Array.getElem?_eq_some_iff.1 HZ2.out).1
  unfold exV
  go_wp2_with fail
  exact bodyPost_ret (v:=exV 4 0 ⟨#[]⟩ (.cons x.op x.n x.nm x.kids .nil) (some ⟨w2.heap.size,0,none⟩) 1) (by simp [results,Tryz.results92,go_sem,y0,y1,y2,y3,exV,aZ.len,hlt2]) rfl (F8 (by unfold aM; decide) (Nat.zero_le _) eX.out hlt2 HE.out)
end Go.Proofs.YtehnipchbmjlhaaGreatDoor
end
section
namespace Go.Proofs.YtehnipchbmjlhaaGreatDoor
open Go.RowKit
open Md Pz
theorem yY (R:Rp) (s:St) (w:World) (k:Int) (n:Nat) (hk:k=n) (hn:1≤n) {b:Bool} (h:(nextK s.toks == n)=b) (hI:bn w R s):
 Calls Tryz.prog 84 #[.pointer (some ⟨R.br,0,none⟩),.int .i64 k] w fun e w'=>e= .returned (.bool b)∧Below w.heap.size w w':=by
 subst h; exact Dv R s w k n hk hn hI
theorem fZ {ts:ak} {s:St} (h:kW s.toks):(aJ ts s).1.size≤maxLen:=by
 unfold aJ
 split
 ·rename_i hn; exact mD (mq h hn)
 ·exact Nat.zero_le _
theorem H8 (R:Rp) (f:Nat) (ihb:tJ R f (.bin 1)):tJ R (f + 1) .pr:=by
 intro s w hen hI
 have HI:=Lib.hid hI
 have G7:=Lib.hid ihb
 have HF:=Lib.hid hen
 clear hI ihb hen
 cases h0:(nextK s.toks == 2)
 ·have h0':isNum s.toks=false:=h0
  cases h1:at' [40] s.toks
  ·obtain ⟨q,hq⟩: ∃q,aJ R.ts s=q:=⟨_,rfl⟩
   have eH:Hid (q.1.size≤maxLen):=Lib.hid (by rw [← hq]; exact fZ HI.out.ts)
   have gI:Hid (∀w,bn w R s→Calls Tryz.prog 83 #[.pointer (some ⟨R.br,0,none⟩)] w (qP R w q)):=Lib.hid (fun w h=>by rw [← hq]; exact gQ R s w h)
   have eP:Hid (q.2.len≤s.len):=Lib.hid (by rw [← hq]; exact fJ s)
   cases h2:at' [91] (aJ R.ts s).2.toks
   ·rw [Yn h0' h1 h2]
    rw [hq] at h2 ⊢
    obtain ⟨nm,s1⟩:=q
    clear G7 HF hq eP
    go_enter Tryz.func125,Tryz.ntmps125
    go_upto_region 1 with fail
    generalize hW:World.alloc w _=W
    have HK:Hid (Wr R w W s):=Lib.hid (by rw [← hW]; exact (Wr.start HI.out).alloc _)
    have HZ:Hid (W.heap[w.heap.size]? =some (.cells #[.int .i64 0,.int .i64 0,.string ⟨#[]⟩,.slice none 0 0] 45 (0,0))):=Lib.hid (by rw [← hW]; exact heap_alloc_new _ _)
    clear hW
    go_wp2_with fail
    refine (yY R s _ 2 2 rfl (by decide) h0 HK.out.rd).mono ?_
    rintro e w0 ⟨rfl,h2⟩
    have dw:=Lib.hid (HK.out.below h2)
    have HZ0:=Lib.hid ((h2.block _ (Array.getElem?_eq_some_iff.1 HZ.out).1).trans HZ.out)
    clear h2 HK HZ
    have HK:=dw
    have HZ:=HZ0
    clear dw HZ0
    go_wp2_with fail
    refine (lC R s _ ⟨#[40]⟩ rfl h1 HK.out.rd).mono ?_
    rintro e w0 ⟨rfl,h2⟩
    have dw:=Lib.hid (HK.out.below h2)
    have HZ0:=Lib.hid ((h2.block _ (Array.getElem?_eq_some_iff.1 HZ.out).1).trans HZ.out)
    clear h2 HK HZ
    have HK:=dw
    have HZ:=HZ0
    clear dw HZ0
    go_wp2_with fail
    refine (gI.out _ HK.out.rd).mono ?_
    rintro e w0 ⟨rfl,h2,h3⟩
    have dw:=Lib.hid (HK.out.then h2 h3)
    have HZ0:=Lib.hid ((HK.out.kept h3 (Nat.le_refl _) (Array.getElem?_eq_some_iff.1 HZ.out).1).trans HZ.out)
    clear h2 h3 HK HZ
    have HK:=dw
    have HZ:=HZ0
    clear dw HZ0
    go_wp2_with fail
    refine (lC R s1 _ ⟨#[91]⟩ rfl h2 HK.out.rd).mono ?_
    rintro e w0 ⟨rfl,h2⟩
    have dw:=Lib.hid (HK.out.below h2)
    have HZ0:=Lib.hid ((h2.block _ (Array.getElem?_eq_some_iff.1 HZ.out).1).trans HZ.out)
    clear h2 HK HZ
    have HK:=dw
    have HZ:=HZ0
    clear dw HZ0
    obtain ⟨⟨y0,y1,y2,y3⟩,f0,f1,f2,f3⟩:=dH HZ.out
    go_wp2_with fail
    exact bodyPost_ret (v:=exV 2 0 nm .nil none 0) (by simp [results,Tryz.results125,go_sem,y0,y1,y2,y3,exV,aZ.len]) rfl (GJ HK.out (by unfold aM; decide) kE eH.out)
   ·rw [XR h0' h1 h2]
    rw [hq] at h2 ⊢
    obtain ⟨nm,s1⟩:=q
    have HX:Hid (∀w,bn w R s1.aD→Calls Tryz.prog 53 #[.pointer (some ⟨R.br,0,none⟩),.int .i64 1] w (mM R w (aQ R.ts f (.bin 1) s1.aD))):=Lib.hid (fun w h=>G7.out (by decide) s1.aD w (by have:=HF.out; have:=eP.out; have:=Ef h2; simp only [enough,wt,St.len] at *; omega) h)
    have iQ:=Lib.hid (lN h2)
    clear G7 HF hq eP
    generalize aQ R.ts f (.bin 1) s1.aD=res at *
    obtain ⟨x,s'⟩:=res
    go_enter Tryz.func125,Tryz.ntmps125
    go_upto_region 1 with fail
    generalize hW:World.alloc w _=W
    have HK:Hid (Wr R w W s):=Lib.hid (by rw [← hW]; exact (Wr.start HI.out).alloc _)
    have HZ:Hid (W.heap[w.heap.size]? =some (.cells #[.int .i64 0,.int .i64 0,.string ⟨#[]⟩,.slice none 0 0] 45 (0,0))):=Lib.hid (by rw [← hW]; exact heap_alloc_new _ _)
    clear hW
    go_wp2_with fail
    refine (yY R s _ 2 2 rfl (by decide) h0 HK.out.rd).mono ?_
    rintro e w0 ⟨rfl,h2⟩
    have dw:=Lib.hid (HK.out.below h2)
    have HZ0:=Lib.hid ((h2.block _ (Array.getElem?_eq_some_iff.1 HZ.out).1).trans HZ.out)
    clear h2 HK HZ
    have HK:=dw
    have HZ:=HZ0
    clear dw HZ0
    go_wp2_with fail
    refine (lC R s _ ⟨#[40]⟩ rfl h1 HK.out.rd).mono ?_
    rintro e w0 ⟨rfl,h2⟩
    have dw:=Lib.hid (HK.out.below h2)
    have HZ0:=Lib.hid ((h2.block _ (Array.getElem?_eq_some_iff.1 HZ.out).1).trans HZ.out)
    clear h2 HK HZ
    have HK:=dw
    have HZ:=HZ0
    clear dw HZ0
    go_wp2_with fail
    refine (gI.out _ HK.out.rd).mono ?_
    rintro e w0 ⟨rfl,h2,h3⟩
    have dw:=Lib.hid (HK.out.then h2 h3)
    have HZ0:=Lib.hid ((HK.out.kept h3 (Nat.le_refl _) (Array.getElem?_eq_some_iff.1 HZ.out).1).trans HZ.out)
    clear h2 h3 HK HZ
    have HK:=dw
    have HZ:=HZ0
    clear dw HZ0
    go_wp2_with fail
    refine (lC R s1 _ ⟨#[91]⟩ rfl h2 HK.out.rd).mono ?_
    rintro e w0 ⟨rfl,h2⟩
    have dw:=Lib.hid (HK.out.below h2)
    have HZ0:=Lib.hid ((h2.block _ (Array.getElem?_eq_some_iff.1 HZ.out).1).trans HZ.out)
    clear h2 HK HZ
    have HK:=dw
    have HZ:=HZ0
    clear dw HZ0
    obtain ⟨pos,bad,⟨hp,hp2,hl,hlt,hbr⟩,HS,⟨bL,bK⟩,c0,c1,c2,f1,f2⟩:=HK.out.rd.open
    have HA:=Lib.hid (HK.out.aD c1 iQ.out)
    have HQ:=Lib.hid ((aN _ (⟨R.br,1,none⟩:Addr) (.int .i64 ((pos:Int) + 1)) rfl (show R.br≠w.heap.size from Nat.ne_of_lt HK.out.lt)).trans HZ.out)
    go_upto_region 11 with fail
    generalize hW:World.setCell _ _ _=W2
    rw [hW] at HA HQ
    clear hW c0 c1 c2 f1 f2 HS hp hp2 hl hlt hbr bL bK HK HZ
    have HK:=HA
    have HZ:=HQ
    clear HA HQ
    go_wp2_with fail
    refine (HX.out _ HK.out.rd).mono ?_
    rintro e w2 ⟨v,rfl,hv,h2,h3⟩
    have eX:=Lib.hid (HK.out.then h2 h3)
    have HZ2:=Lib.hid ((HK.out.kept h3 (Nat.le_refl _) (Array.getElem?_eq_some_iff.1 HZ.out).1).trans HZ.out)
    have gN:=Lib.hid (hv.mono (Array.getElem?_eq_some_iff.1 HZ.out).1)
    clear h2 h3 HK HZ hv
    obtain ⟨ao,cap,rfl,hok,hst⟩:=gN.out
    have HE:=Lib.hid (And.intro hok hst)
    clear hok hst gN
    unfold exV
    go_upto_region 12 with fail
    obtain ⟨g,hg⟩: ∃g,w2.heap.size=g:=⟨_,rfl⟩
    generalize hW:World.alloc w2 _=W3
    have iy:Hid (Wr R w W3 s'):=Lib.hid (by rw [← hW]; exact eX.out.alloc _)
    have HB3:Hid (W3.heap[g]? =some (.cells #[.int .i64 x.op,.int .i64 x.n,.string x.nm,.slice ao x.kids.len cap] 45 (0,0))):=Lib.hid (by rw [← hW,← hg]; exact heap_alloc_new _ _)
    have HZ3:Hid (W3.heap[w.heap.size]? =some (.cells #[.int .i64 0,.int .i64 0,.string ⟨#[]⟩,.slice none 0 0] 45 (0,0))):=Lib.hid (by rw [← hW]; exact (heap_alloc_old _ _ (Array.getElem?_eq_some_iff.1 HZ2.out).1).trans HZ2.out)
    have iI:Hid (jA x∧bJ (w.heap.size + 1) W3 (fun w2=>x.kids.At w2 w2.heap.size ao 0)):=Lib.hid ⟨HE.out.1,by rw [← hW]; exact HE.out.2.next (aL (ah _ _))⟩
    have HG:Hid (w.heap.size < g):=Lib.hid (by rw [← hg]; exact (Array.getElem?_eq_some_iff.1 HZ2.out).1)
    have qL:Hid (dS (w.heap.size + 1) (some g) W3 (fun w2=>x.kids.At w2 w2.heap.size ao 0)):=Lib.hid (by rw [← hW]; exact sH HE.out.2 (aL (ah _ _)) (Nat.le_of_eq hg))
    rw [hg]
    clear hW hg eX HZ2 HE
    go_wp2_with fail
    refine (fC R s' _ ⟨#[93]⟩ rfl iy.out.rd).mono ?_
    rintro e w3 ⟨rfl,h2,h3⟩
    have eX:=Lib.hid (iy.out.then h2 h3)
    have HZ2:=Lib.hid ((iy.out.kept h3 (Nat.le_refl _) (Array.getElem?_eq_some_iff.1 HZ3.out).1).trans HZ3.out)
    have HB2:=Lib.hid ((iy.out.kept h3 (Nat.le_of_lt HG.out) (Array.getElem?_eq_some_iff.1 HB3.out).1).trans HB3.out)
    have HE:Hid (jA x∧bJ (w.heap.size + 1) w3 (fun w2=>x.kids.At w2 w2.heap.size ao 0)):=Lib.hid ⟨iI.out.1,iI.out.2.next (fU h3 (Nat.lt_succ_of_lt iy.out.lt))⟩
    clear h2 h3 iy HZ3 HB3 iI
    obtain ⟨⟨y0,y1,y2,y3⟩,f0,f1,f2,f3⟩:=dH HZ2.out
    have z0:w3.cell? ⟨g,0,none⟩=some (.int .i64 x.op):=aj HB2.out rfl
    have z1:w3.cell? ⟨g,1,none⟩=some (.int .i64 x.n):=aj HB2.out rfl
    have z2:w3.cell? ⟨g,2,none⟩=some (.string x.nm):=aj HB2.out rfl
    have z3:w3.cell? ⟨g,3,none⟩=some (.slice ao x.kids.len cap):=aj HB2.out rfl
    have hlt2:w.heap.size < w3.heap.size:=(Array.getElem?_eq_some_iff.1 HZ2.out).1
    have hlt3:g < w3.heap.size:=(Array.getElem?_eq_some_iff.1 HB2.out).1
    go_wp2_with fail
    exact bodyPost_ret (v:=exV 3 0 nm (.cons x.op x.n x.nm x.kids .nil) (some ⟨w3.heap.size,0,none⟩) 1) (by simp [results,Tryz.results125,go_sem,exV,aZ.len,y0,y1,y2,y3,hlt2]) rfl (F8 (by unfold aM; decide) eH.out eX.out hlt2 HE.out)
  ·have HX:Hid (∀w,bn w R s.aD→Calls Tryz.prog 53 #[.pointer (some ⟨R.br,0,none⟩),.int .i64 1] w (mM R w (aQ R.ts f (.bin 1) s.aD))):=Lib.hid (fun w h=>G7.out (by decide) s.aD w (by have:=HF.out; have:=Ef h1; simp only [enough,wt,St.len] at *; omega) h)
   have iQ:=Lib.hid (lN h1)
   rw [Zz h0' h1]
   clear G7 HF
   generalize aQ R.ts f (.bin 1) s.aD=res at *
   obtain ⟨x,s'⟩:=res
   go_enter Tryz.func125,Tryz.ntmps125
   go_upto_region 1 with fail
   generalize hW:World.alloc w _=W
   have HK:Hid (Wr R w W s):=Lib.hid (by rw [← hW]; exact (Wr.start HI.out).alloc _)
   have HZ:Hid (W.heap[w.heap.size]? =some (.cells #[.int .i64 0,.int .i64 0,.string ⟨#[]⟩,.slice none 0 0] 45 (0,0))):=Lib.hid (by rw [← hW]; exact heap_alloc_new _ _)
   clear hW
   go_wp2_with fail
   refine (yY R s _ 2 2 rfl (by decide) h0 HK.out.rd).mono ?_
   rintro e w0 ⟨rfl,h2⟩
   have dw:=Lib.hid (HK.out.below h2)
   have HZ0:=Lib.hid ((h2.block _ (Array.getElem?_eq_some_iff.1 HZ.out).1).trans HZ.out)
   clear h2 HK HZ
   have HK:=dw
   have HZ:=HZ0
   clear dw HZ0
   go_wp2_with fail
   refine (lC R s _ ⟨#[40]⟩ rfl h1 HK.out.rd).mono ?_
   rintro e w0 ⟨rfl,h2⟩
   have dw:=Lib.hid (HK.out.below h2)
   have HZ0:=Lib.hid ((h2.block _ (Array.getElem?_eq_some_iff.1 HZ.out).1).trans HZ.out)
   clear h2 HK HZ
   have HK:=dw
   have HZ:=HZ0
   clear dw HZ0
   obtain ⟨pos,bad,⟨hp,hp2,hl,hlt,hbr⟩,HS,⟨bL,bK⟩,c0,c1,c2,f1,f2⟩:=HK.out.rd.open
   have HA:=Lib.hid (HK.out.aD c1 iQ.out)
   have HQ:=Lib.hid ((aN _ (⟨R.br,1,none⟩:Addr) (.int .i64 ((pos:Int) + 1)) rfl (show R.br≠w.heap.size from Nat.ne_of_lt HK.out.lt)).trans HZ.out)
   go_upto_region 5 with fail
   generalize hW:World.setCell _ _ _=W2
   rw [hW] at HA HQ
   clear hW c0 c1 c2 f1 f2 HS hp hp2 hl hlt hbr bL bK HK HZ
   have HK:=HA
   have HZ:=HQ
   clear HA HQ
   go_wp2_with fail
   refine (HX.out _ HK.out.rd).mono ?_
   rintro e w2 ⟨v,rfl,hv,h2,h3⟩
   have eX:=Lib.hid (HK.out.then h2 h3)
   have HZ2:=Lib.hid ((HK.out.kept h3 (Nat.le_refl _) (Array.getElem?_eq_some_iff.1 HZ.out).1).trans HZ.out)
   have gN:=Lib.hid (hv.mono (Array.getElem?_eq_some_iff.1 HZ.out).1)
   clear h2 h3 HK HZ hv
   obtain ⟨ao,cap,rfl,hok,hst⟩:=gN.out
   have HE:=Lib.hid (And.intro hok hst)
   clear hok hst gN
   unfold exV
   go_upto_region 6 with fail
   obtain ⟨g,hg⟩: ∃g,w2.heap.size=g:=⟨_,rfl⟩
   generalize hW:World.alloc w2 _=W3
   have iy:Hid (Wr R w W3 s'):=Lib.hid (by rw [← hW]; exact eX.out.alloc _)
   have HB3:Hid (W3.heap[g]? =some (.cells #[.int .i64 x.op,.int .i64 x.n,.string x.nm,.slice ao x.kids.len cap] 45 (0,0))):=Lib.hid (by rw [← hW,← hg]; exact heap_alloc_new _ _)
   have HZ3:Hid (W3.heap[w.heap.size]? =some (.cells #[.int .i64 0,.int .i64 0,.string ⟨#[]⟩,.slice none 0 0] 45 (0,0))):=Lib.hid (by rw [← hW]; exact (heap_alloc_old _ _ (Array.getElem?_eq_some_iff.1 HZ2.out).1).trans HZ2.out)
   have iI:Hid (jA x∧bJ (w.heap.size + 1) W3 (fun w2=>x.kids.At w2 w2.heap.size ao 0)):=Lib.hid ⟨HE.out.1,by rw [← hW]; exact HE.out.2.next (aL (ah _ _))⟩
   have HG:Hid (w.heap.size < g):=Lib.hid (by rw [← hg]; exact (Array.getElem?_eq_some_iff.1 HZ2.out).1)
   have qL:Hid (dS (w.heap.size + 1) (some g) W3 (fun w2=>x.kids.At w2 w2.heap.size ao 0)):=Lib.hid (by rw [← hW]; exact sH HE.out.2 (aL (ah _ _)) (Nat.le_of_eq hg))
   rw [hg]
   clear hW hg eX HZ2 HE
   go_wp2_with fail
   refine (fC R s' _ ⟨#[41]⟩ rfl iy.out.rd).mono ?_
   rintro e w3 ⟨rfl,h2,h3⟩
   have eX:=Lib.hid (iy.out.then h2 h3)
   have HZ2:=Lib.hid ((iy.out.kept h3 (Nat.le_refl _) (Array.getElem?_eq_some_iff.1 HZ3.out).1).trans HZ3.out)
   have HB2:=Lib.hid ((iy.out.kept h3 (Nat.le_of_lt HG.out) (Array.getElem?_eq_some_iff.1 HB3.out).1).trans HB3.out)
   have HE:Hid (jA x∧bJ (w.heap.size + 1) w3 (fun w2=>x.kids.At w2 w2.heap.size ao 0)):=Lib.hid ⟨iI.out.1,iI.out.2.next (fU h3 (Nat.lt_succ_of_lt iy.out.lt))⟩
   clear h2 h3 iy HZ3 HB3 iI
   obtain ⟨⟨y0,y1,y2,y3⟩,f0,f1,f2,f3⟩:=dH HZ2.out
   have z0:w3.cell? ⟨g,0,none⟩=some (.int .i64 x.op):=aj HB2.out rfl
   have z1:w3.cell? ⟨g,1,none⟩=some (.int .i64 x.n):=aj HB2.out rfl
   have z2:w3.cell? ⟨g,2,none⟩=some (.string x.nm):=aj HB2.out rfl
   have z3:w3.cell? ⟨g,3,none⟩=some (.slice ao x.kids.len cap):=aj HB2.out rfl
   have hlt2:w.heap.size < w3.heap.size:=(Array.getElem?_eq_some_iff.1 HZ2.out).1
   have hlt3:g < w3.heap.size:=(Array.getElem?_eq_some_iff.1 HB2.out).1
   go_wp2_with fail
   exact bodyPost_ret (v:=exV x.op x.n x.nm x.kids ao cap) (by simp [results,Tryz.results125,go_sem,exV,y0,y1,y2,y3]) rfl (vK eX.out HE.out)
 ·have h0':isNum s.toks=true:=h0
  have HV:Hid (aM ((Tk.val (ay s.toks):Nat):Int)):=Lib.hid (by have:=vF HI.out.ts h0'; unfold aM; omega)
  have gI:Hid (∀w,bn w R s→Calls Tryz.prog 85 #[.pointer (some ⟨R.br,0,none⟩)] w (NuR R w (((Tk.val (ay s.toks):Nat):Int),s.aD))):=Lib.hid (fun w h=>by rw [← I8 (ts:=R.ts) h0']; exact su R s w h)
  rw [Xi h0']
  clear G7 HF
  generalize ((Tk.val (ay s.toks):Nat):Int)=vv at *
  go_enter Tryz.func125,Tryz.ntmps125
  go_upto_region 1 with fail
  generalize hW:World.alloc w _=W
  have HK:Hid (Wr R w W s):=Lib.hid (by rw [← hW]; exact (Wr.start HI.out).alloc _)
  have HZ:Hid (W.heap[w.heap.size]? =some (.cells #[.int .i64 0,.int .i64 0,.string ⟨#[]⟩,.slice none 0 0] 45 (0,0))):=Lib.hid (by rw [← hW]; exact heap_alloc_new _ _)
  clear hW
  go_wp2_with fail
  refine (yY R s _ 2 2 rfl (by decide) h0 HK.out.rd).mono ?_
  rintro e w0 ⟨rfl,h2⟩
  have dw:=Lib.hid (HK.out.below h2)
  have HZ0:=Lib.hid ((h2.block _ (Array.getElem?_eq_some_iff.1 HZ.out).1).trans HZ.out)
  clear h2 HK HZ
  have HK:=dw
  have HZ:=HZ0
  clear dw HZ0
  go_wp2_with fail
  refine (gI.out _ HK.out.rd).mono ?_
  rintro e w0 ⟨rfl,h2,h3⟩
  have dw:=Lib.hid (HK.out.then h2 h3)
  have HZ0:=Lib.hid ((HK.out.kept h3 (Nat.le_refl _) (Array.getElem?_eq_some_iff.1 HZ.out).1).trans HZ.out)
  clear h2 h3 HK HZ
  have HK:=dw
  have HZ:=HZ0
  clear dw HZ0
  obtain ⟨⟨y0,y1,y2,y3⟩,f0,f1,f2,f3⟩:=dH HZ.out
  go_wp2_with fail
  exact bodyPost_ret (v:=exV 1 vv ⟨#[]⟩ .nil none 0) (by simp [results,Tryz.results125,go_sem,y0,y1,y2,y3,exV,aZ.len]) rfl (GJ HK.out (by unfold aM; decide) HV.out (Nat.zero_le _))
end Go.Proofs.YtehnipchbmjlhaaGreatDoor
end
section
namespace Go.Proofs.YtehnipchbmjlhaaGreatDoor
open Go.RowKit
open Md Pz
theorem Xz:(Tryz.prog.info? 45).map (·.size)=some 4:=by kernel_rfl
theorem uV {w w':World} {R:Rp} {s:St} {g:Nat} (h:bn w R s) (hg:w.grownBy w' (some g)) (h0:R.B0≤g) (h1:g≠R.br):bn w' R s:=by
 obtain ⟨pos,bad,k1,k2,k3⟩:=h.blk
 exact ⟨⟨pos,bad,k1,k2,(hg.block _ h.lt (by simp; exact fun e=>h1 e.symm)).trans k3⟩,h.tok.below (fu hg h0 (Nat.le_trans R.b0 (Nat.le_of_lt h.lt))),h.ok,h.tl⟩
theorem vR {w W W':World} {b:Option Nat} {g:Nat} (h:w.grownBy W b) (hg:W.grownBy W' (some g)) (hb:w.heap.size≤g):w.grownBy W' b:=
 ⟨hg.os.trans h.os,hg.tape.trans h.tape,hg.output.trans h.output,Nat.le_trans h.size hg.size,fun k hk hn=>(hg.block k (Nat.lt_of_lt_of_le hk h.size) (by simp; omega)).trans (h.block k hk hn)⟩
theorem Wr.grown {R:Rp} {w W W':World} {s:St} {g:Nat} (h:Wr R w W s) (hg:W.grownBy W' (some g)) (hb:w.heap.size≤g):Wr R w W' s:=
 ⟨uV h.rd hg (by have:=R.b0; have:=h.lt; omega) (by have:=h.lt; omega),vR h.gr hg hb,h.lt⟩
def sK (R:Rp) (w:World) (L:Nat) (l:E) (s:St) (wr:World):Prop:=
 ∃ao cap,Wr R w wr s∧wr.heap[w.heap.size]? =some (.cells zC 45 (0,0))∧wr.heap[L]? =some (.cells (pE l.op l.n l.nm l.kids ao cap).toArray 45 (0,0))∧jA l∧dS (w.heap.size + 1) (some L) wr (fun w2=>l.kids.At w2 w2.heap.size ao 0)
theorem sK.rd {R:Rp} {w:World} {L:Nat} {l:E} {s:St} {wr:World} (h:sK R w L l s wr):bn wr R s:=by
 obtain ⟨_,_,h,-⟩:=h; exact h.rd
theorem sK.below {R:Rp} {w:World} {L:Nat} {l:E} {s:St} {wr w':World} (h:sK R w L l s wr) (hb:Below wr.heap.size wr w'):sK R w L l s w':=by
 obtain ⟨ao,cap,h1,h2,h3,h4,h5⟩:=h
 exact ⟨ao,cap,h1.below hb,(hb.block _ (Array.getElem?_eq_some_iff.1 h2).1).trans h2,(hb.block _ (Array.getElem?_eq_some_iff.1 h3).1).trans h3,h4,h5.next (aL hb).x⟩
theorem sK.aD {R:Rp} {w:World} {L:Nat} {l:E} {s:St} {wr:World} (h:sK R w L l s wr) (hL:w.heap.size < L) {pos:Nat} (hp:wr.cell? ⟨R.br,1,none⟩=some (.int .i64 (pos:Int))) (hne:s.toks≠[]):
 sK R w L l s.aD (wr.setCell ⟨R.br,1,none⟩ (.int .i64 ((pos:Int) + 1))):=by
 obtain ⟨ao,cap,h1,h2,h3,h4,h5⟩:=h
 have hlt:=h1.lt
 exact ⟨ao,cap,h1.aD hp hne,(aN _ _ _ rfl (show R.br≠w.heap.size by omega)).trans h2,(aN _ _ _ rfl (show R.br≠L by omega)).trans h3,h4,h5.next (bH _ ⟨R.br,1,none⟩ _ (show R.br < _ by omega)).x⟩
def RtV (B L:Nat) (x:E) (v:Value) (w:World):Prop:= ∃ao cap,v=exV x.op x.n x.nm x.kids ao cap∧jA x∧dS B (some L) w (fun w2=>x.kids.At w2 w2.heap.size ao 0)
def TwV (B L:Nat) (l x:E) (v:Value) (w:World):Prop:= ∃g,v= .slice (some ⟨g,0,none⟩) 2 2∧dS B (some L) w (fun w2=>(aZ.cons l.op l.n l.nm l.kids (.cons x.op x.n x.nm x.kids .nil)).At w2 w2.heap.size (some ⟨g,0,none⟩) 0)
theorem qw (B:Nat) (g:Option Nat) (w:World):nG B g w w:=⟨Nat.le_refl _,fun _ _ _ _=>rfl⟩
def KW (R:Rp) (W:World) (s:St) (w':World):Prop:=bn w' R s∧W.grownBy w' (some R.br)
theorem Px {R:Rp} {w W w':World} {L:Nat} {l x:E} {op:Int} {s1 s2:St} {ao:Option Addr} {cap:Nat} (hop:aM op) (hL:w.heap.size < L) (h:sK R w L l s1 W) (hk:KW R W s2 w') (hst:dS (w.heap.size + 1) (some L) w' (fun w2=>(mk2 op l x).kids.At w2 w2.heap.size ao 0)):
 sK R w L (mk2 op l x) s2 (w'.setCells L 0 (pE op 0 ⟨#[]⟩ (mk2 op l x).kids ao cap)):=by
 obtain ⟨DN,zW,h1,h2,h3,h4,h5⟩:=h
 have hlt:=h1.lt
 have hg:=aP L (pE op 0 ⟨#[]⟩ (mk2 op l x).kids ao cap) 0 w'
 have hz:=(hk.2.block _ (Array.getElem?_eq_some_iff.1 h2).1 (by simp; omega)).trans h2
 have hb:=(hk.2.block _ (Array.getElem?_eq_some_iff.1 h3).1 (by simp; omega)).trans h3
 have hw:Wr R w w' s2:=⟨hk.1,bD h1.gr hk.2,hlt⟩
 refine ⟨ao,cap,hw.grown hg (Nat.le_of_lt hL),(hg.block _ (Array.getElem?_eq_some_iff.1 hz).1 (by simp; omega)).trans hz,?_,⟨hop,kE,Nat.zero_le _,by simp [mk2,aZ.len,maxLen]⟩,hst.next (nG.wI hg)⟩
 have:=iw (vs:=pE op 0 ⟨#[]⟩ (mk2 op l x).kids ao cap) hb rfl
 exact this
def Yc (R:Rp) (w:World) (f lv L:Nat) (res:E × St) (n g:Nat) (wr:World):Prop:=
 ∃f' l s,g=s.len∧n + s.len≤5000∧f'≤f∧enough (.lp lv l) s.toks f'∧((lv=3∧1≤n)→res=(l,s))∧(¬ (lv=3∧1≤n)→res=aQ R.ts f' (.lp lv l) s)∧sK R w L l s wr
theorem UQ {lv:Int} {s:St} (h:(opAt lv s.toks == 0)=false):s.toks≠[]:=by
 intro e; rw [e] at h; exact absurd h (by simp [opAt,nextK])
theorem ML (R:Rp) (f:Nat) (lv:Nat) (ih: ∀f',f'≤f→ ∀m,tJ R f' m):tJ R (f + 1) (.bin lv):=by
 intro hlv s w hen hI
 have HI:=Lib.hid hI
 have fD:=Lib.hid ih
 have HF:=Lib.hid hen
 clear hI ih hen
 by_cases h5:5 < lv
 ·have hq:decide ((5:Int) < (lv:Int))=true:=by rw [decide_eq_true_iff]; omega
  have HX:Hid (∀w,bn w R s→Calls Tryz.prog 92 #[.pointer (some ⟨R.br,0,none⟩)] w (mM R w (aQ R.ts f .un s))):=Lib.hid (fun w h=>fD.out f (Nat.le_refl _) .un s w (by have:=HF.out; simp only [enough,wt] at *; omega) h)
  rw [Zt h5]
  clear fD HF
  generalize aQ R.ts f .un s=res at *
  obtain ⟨x,s'⟩:=res
  go_enter Tryz.func53,Tryz.ntmps53
  go_upto_region 1 with fail
  generalize hW:World.alloc w _=W
  have HK:Hid (Wr R w W s):=Lib.hid (by rw [← hW]; exact (Wr.start HI.out).alloc _)
  have HZ:Hid (W.heap[w.heap.size]? =some (.cells #[.int .i64 0,.int .i64 0,.string ⟨#[]⟩,.slice none 0 0] 45 (0,0))):=Lib.hid (by rw [← hW]; exact heap_alloc_new _ _)
  clear hW
  go_wp2_with fail
  refine (HX.out _ HK.out.rd).mono ?_
  rintro e w2 ⟨v,rfl,hv,h2,h3⟩
  have eX:=Lib.hid (HK.out.then h2 h3)
  have HZ2:=Lib.hid ((HK.out.kept h3 (Nat.le_refl _) (Array.getElem?_eq_some_iff.1 HZ.out).1).trans HZ.out)
  have gN:=Lib.hid (hv.mono (Array.getElem?_eq_some_iff.1 HZ.out).1)
  clear h2 h3 HK HZ hv
  obtain ⟨ao,cap,rfl,hok,hst⟩:=gN.out
  have HE:=Lib.hid (And.intro hok hst)
  clear hok hst gN
  obtain ⟨⟨y0,y1,y2,y3⟩,f0,f1,f2,f3⟩:=dH HZ2.out
  unfold exV
  go_wp2_with fail
  exact bodyPost_ret (v:=exV x.op x.n x.nm x.kids ao cap) (by simp [results,Tryz.results53,go_sem,y0,y1,y2,y3,exV]) rfl (vK eX.out HE.out)
 ·have hq:decide ((5:Int) < (lv:Int))=false:=by rw [decide_eq_false_iff_not]; omega
  have ap1:(0:Int)≤(lv:Int):=by omega
  have am8:(lv:Int)≤6:=by omega
  have HX:Hid (∀w,bn w R s→Calls Tryz.prog 53 #[.pointer (some ⟨R.br,0,none⟩),.int .i64 ((lv:Int) + 1)] w (mM R w (aQ R.ts f (.bin (lv + 1)) s))):=Lib.hid (fun w h=>fD.out f (Nat.le_refl _) (.bin (lv + 1)) (by omega) s w (by have:=HF.out; simp only [enough,wt] at *; omega) h)
  have eP:Hid ((aQ R.ts f (.bin (lv + 1)) s).2.len≤s.len):=Lib.hid (jX _ _ _)
  have LB:Hid (aQ R.ts (f + 1) (.bin lv) s=aQ R.ts f (.lp lv (aQ R.ts f (.bin (lv + 1)) s).1) (aQ R.ts f (.bin (lv + 1)) s).2):=Lib.hid (Xh h5)
  have iY:Hid (s.len≤4096):=Lib.hid HI.out.len
  generalize aQ R.ts (f + 1) (.bin lv) s=spec at *
  generalize aQ R.ts f (.bin (lv + 1)) s=res at *
  obtain ⟨x,s'⟩:=res
  go_enter Tryz.func53,Tryz.ntmps53
  go_upto_region 1 with fail
  generalize hW:World.alloc w _=W
  have HK:Hid (Wr R w W s):=Lib.hid (by rw [← hW]; exact (Wr.start HI.out).alloc _)
  have HZ:Hid (W.heap[w.heap.size]? =some (.cells #[.int .i64 0,.int .i64 0,.string ⟨#[]⟩,.slice none 0 0] 45 (0,0))):=Lib.hid (by rw [← hW]; exact heap_alloc_new _ _)
  clear hW
  go_wp2_with fail
  refine (HX.out _ HK.out.rd).mono ?_
  rintro e w2 ⟨v,rfl,hv,h2,h3⟩
  have eX:=Lib.hid (HK.out.then h2 h3)
  have HZ2:=Lib.hid ((HK.out.kept h3 (Nat.le_refl _) (Array.getElem?_eq_some_iff.1 HZ.out).1).trans HZ.out)
  have gN:=Lib.hid (hv.mono (Array.getElem?_eq_some_iff.1 HZ.out).1)
  clear h2 h3 HK HZ hv
  obtain ⟨ao,cap,rfl,hok,hst⟩:=gN.out
  have HE:=Lib.hid (And.intro hok hst)
  clear hok hst gN
  unfold exV
  go_upto_region 4 with fail
  obtain ⟨g,hg⟩: ∃g,w2.heap.size=g:=⟨_,rfl⟩
  generalize hW:World.alloc w2 _=W3
  have iy:Hid (Wr R w W3 s'):=Lib.hid (by rw [← hW]; exact eX.out.alloc _)
  have HB3:Hid (W3.heap[g]? =some (.cells #[.int .i64 x.op,.int .i64 x.n,.string x.nm,.slice ao x.kids.len cap] 45 (0,0))):=Lib.hid (by rw [← hW,← hg]; exact heap_alloc_new _ _)
  have HZ3:Hid (W3.heap[w.heap.size]? =some (.cells #[.int .i64 0,.int .i64 0,.string ⟨#[]⟩,.slice none 0 0] 45 (0,0))):=Lib.hid (by rw [← hW]; exact (heap_alloc_old _ _ (Array.getElem?_eq_some_iff.1 HZ2.out).1).trans HZ2.out)
  have iI:Hid (jA x∧bJ (w.heap.size + 1) W3 (fun w2=>x.kids.At w2 w2.heap.size ao 0)):=Lib.hid ⟨HE.out.1,by rw [← hW]; exact HE.out.2.next (aL (ah _ _))⟩
  have HG:Hid (w.heap.size < g):=Lib.hid (by rw [← hg]; exact (Array.getElem?_eq_some_iff.1 HZ2.out).1)
  have qL:Hid (dS (w.heap.size + 1) (some g) W3 (fun w2=>x.kids.At w2 w2.heap.size ao 0)):=Lib.hid (by rw [← hW]; exact sH HE.out.2 (aL (ah _ _)) (Nat.le_of_eq hg))
  rw [hg]
  clear hW hg eX HZ2 HE
  have lU:Hid (Yc R w f lv g spec 0 s'.len W3):=Lib.hid ⟨f,x,s',rfl,by have h1:s'.len≤s.len:=eP.out; have h2:=iY.out; omega,Nat.le_refl _,by
   have:=HF.out; have h1:s'.len≤s.len:=eP.out; simp only [enough,wt,St.len] at *; omega,fun h=>absurd h.2 (by omega),fun _=>LB.out,ao,cap,iy.out,HZ3.out,HB3.out,iI.out.1,qL.out⟩
  clear iy HZ3 HB3 iI qL HX eP LB iY HI HF
  go_wp2_with fail
  go_loopg [6] s'.len (fun gk v6 wr=> ∃n:Nat,v6= .int .i64 (n:Int)∧Yc R w f lv g spec n gk wr)
  case atStart=>exact ⟨0,rfl,lU.out⟩
  case round=>
   obtain ⟨n,rfl,f',l,s,rfl,hn,hf',hen,h3f,h3g,hbe⟩:=hrel
   obtain ⟨f',rfl⟩: ∃n,f'=n + 1:=⟨f' - 1,by simp only [enough,wt] at hen; omega⟩
   have HB:=Lib.hid hbe
   have HF:=Lib.hid (And.intro hf' (And.intro hen hn))
   have Jg:Hid (∀w,bn w R s→Calls Tryz.prog 93 #[.pointer (some ⟨R.br,0,none⟩),.int .i64 (lv:Int)] w fun e w'=>e= .returned (.int .i64 (opAt (lv:Int) s.toks))∧Below w.heap.size w w'):=Lib.hid (fun w h=>KJ R s w (lv:Int) h)
   have H3:=Lib.hid (And.intro h3f h3g)
   clear hbe hf' hen hn h3f h3g lU
   cases hop:(opAt (lv:Int) s.toks == 0)
   ·have cO:=Lib.hid (M6 hop)
    have ao9:decide ((0:Int) < opAt (lv:Int) s.toks)=true:=decide_eq_true (by have:=cO.out; omega)
    by_cases h3:lv=3∧1≤n
    ·have hs:=H3.out.1 h3
     subst hs
     have h3':((lv:Int) != 3)=false:=by rw [h3.1]; rfl
     have h3n:((n:Int) == 0)=false:=by rw [beq_eq_false_iff_ne]; omega
     clear h3 H3
     generalize opAt (lv:Int) s.toks=op at *
     go_wp2_with fail
     refine (Jg.out _ HB.out.rd).mono ?_
     rintro e w3 ⟨rfl,h2⟩
     obtain ⟨fP,dn,hK,hZ,hB,hok,hst⟩:=HB.out.below h2
     have iy:=Lib.hid hK
     have iI:=Lib.hid (And.intro hok hst)
     obtain ⟨⟨y0,y1,y2,y3⟩,f0,f1,f2,f3⟩:=dH hZ
     obtain ⟨⟨z0,z1,z2,z3⟩,d0,d1,d2,d3⟩:=tC hB
     clear h2 hK hZ hB hok hst HB Jg
     go_wp2_with fail
     exact bodyPost_ret (v:=exV l.op l.n l.nm l.kids fP dn) (by simp [results,Tryz.results53,go_sem,exV,y0,y1,y2,y3]) rfl (vK iy.out ⟨iI.out.1,iI.out.2.stay⟩)
    ·have HS:=Lib.hid (H3.out.2 h3)
     have iQ:=Lib.hid (UQ hop)
     have hcond:((lv:Int) != 3)=true∨(((lv:Int) != 3)=false∧((n:Int) == 0)=true):=by
      by_cases e:lv=3
      ·right
       have:n=0:=by omega
       rw [e,this]; exact ⟨rfl,rfl⟩
      ·left; rw [bne_iff_ne]; omega
     have aX:Hid (s.aD.len < s.len):=Lib.hid (uj iQ.out)
     have HX:Hid (∀w,bn w R s.aD→Calls Tryz.prog 53 #[.pointer (some ⟨R.br,0,none⟩),.int .i64 ((lv:Int) + 1)] w (mM R w (aQ R.ts f' (.bin (lv + 1)) s.aD))):=Lib.hid (fun w h=>fD.out f' (by have:=HF.out; omega) (.bin (lv + 1)) (by omega) s.aD w (by have:=HF.out; have:=aX.out; simp only [enough,wt,St.len] at *; omega) h)
     have eP:Hid ((aQ R.ts f' (.bin (lv + 1)) s.aD).2.len≤s.aD.len):=Lib.hid (jX _ _ _)
     have vU:Hid ((lv=3→spec=(mk2 (opAt (lv:Int) s.toks) l (aQ R.ts f' (.bin (lv + 1)) s.aD).1,(aQ R.ts f' (.bin (lv + 1)) s.aD).2))∧(¬ lv=3→spec=aQ R.ts f' (.lp lv (mk2 (opAt (lv:Int) s.toks) l (aQ R.ts f' (.bin (lv + 1)) s.aD).1)) (aQ R.ts f' (.bin (lv + 1)) s.aD).2)):=Lib.hid ⟨fun e=>HS.out.trans (am7 hop e),fun e=>HS.out.trans (ZM hop e)⟩
     clear h3 H3 HS hop
     generalize opAt (lv:Int) s.toks=op at *
     generalize aQ R.ts f' (.bin (lv + 1)) s.aD=res at *
     obtain ⟨x2,s2⟩:=res
     rcases hcond with hc | ⟨hc,hc2⟩
     all_goals
      go_wp2_with fail
      refine (Jg.out _ HB.out.rd).mono ?_
      rintro e w3 ⟨rfl,h2⟩
      have HB3:=Lib.hid (HB.out.below h2)
      clear h2
      go_wp2_with fail
      refine (Jg.out _ HB3.out.rd).mono ?_
      rintro e w4 ⟨rfl,h2⟩
      have dh:=Lib.hid (HB3.out.below h2)
      clear h2 Jg HB3 HB hc
      obtain ⟨pos,bad,⟨hp,hp2,hl,hlt,hbr⟩,gU,⟨bL,bK⟩,c0,c1,c2,f1,f2⟩:=dh.out.rd.open
      have iR:=Lib.hid (dh.out.aD HG.out c1 iQ.out)
      go_upto_region 9 with fail
      generalize hW:World.setCell w4 _ _=W5
      rw [hW] at iR
      clear hW c0 c1 c2 f1 f2 gU hp hp2 hl hlt hbr bL bK dh
      obtain ⟨fP,dn,hK,hZ,hB,hok,hst⟩:=iR.out
      have AO:Hid (R.br < w.heap.size∧w.heap.size + 1≤W5.heap.size∧g < W5.heap.size):=Lib.hid ⟨hK.lt,Nat.le_trans (Nat.succ_le_of_lt (Array.getElem?_eq_some_iff.1 hZ).1) (Nat.le_refl _),(Array.getElem?_eq_some_iff.1 hB).1⟩
      have KD: ∀w',W5.grownBy w' (some R.br)→w'.heap[g]? =some (.cells (pE l.op l.n l.nm l.kids fP dn).toArray 45 (0,0)):=fun w' h=>(h.block _ (Array.getElem?_eq_some_iff.1 hB).1 (by have:=AO.out; have:=HG.out; simp; omega)).trans hB
      have WO:=Lib.hid (And.intro hok hst)
      have hRD:=hK.rd
      clear hK hZ hB hok hst
      have hwl:IntKind.i64.wrap ((lv:Int) + 1)=(lv:Int) + 1:=IntWalk.i64_in _ (by omega)
      refine dY (by kernel_rfl) rfl ?_
      refine dN 0 9 [5,8] [[],[],[],[],[3],[2,3,4],[1,2,3,4,5],[0,1,2,3,4,5,6],[0,1,2,3,4,5,6,7]] [[none,some false],[none,some false],[some false,some false],[some false,some false],[some false,some false],[some false,some false],[some true,some false],[some true,some false],[some true,some false]] (iM (KW R W5 s.aD) (KW R W5 s2) (sK R w g (mk2 op l x2) s2)) (fun u u'=>nG (w.heap.size + 1) (some g) u u') [40,41,42,43,44,45,46,47] rfl rfl (by rfl) (by kernel_rfl) (by kernel_rfl) (by kernel_rfl) (by kernel_rfl) (by kernel_rfl) (by rfl) (fun _=>qw _ _ _) (by rfl) ⟨hRD.below (below_drewN (Below.refl _ _) 1),aH (below_drewN (Below.refl _ _) 1)⟩ ?_
      simp only [List.take_succ_cons,List.take_zero,List.drop_zero,List.drop_succ_cons,jR,List.map_cons,List.map_nil]
      apply aI.step
      case aG=>
       intro c A w' hok hC hO hD
       have e7:=hO 7 (by rfl)
       simp [Act.eval] at e7
       simp [aC,aB,au,Act.eval,Region.binds] at hD
       simp [go_sem,gd,Oper.wp,hD,e7]
       exact aA.mk (qw _ _ _) (iM.skip (by rfl) (by rfl) hC) (aB.mk _ _)
      apply aI.step
      case aG=>
       intro c A w' hok' hC hO hD
       obtain ⟨x',y',rfl⟩:=hC.bits
       obtain ⟨rfl,-⟩:=hok'
       have hb:=KD w' (hC.gr (fun _ h=>h.2) (fun _ h=>h.2))
       have z0:w'.cell? ⟨g,0,none⟩=some (.int .i64 l.op):=aj hb rfl
       have z1:w'.cell? ⟨g,1,none⟩=some (.int .i64 l.n):=aj hb rfl
       have z2:w'.cell? ⟨g,2,none⟩=some (.string l.nm):=aj hb rfl
       have z3:w'.cell? ⟨g,3,none⟩=some (.slice fP l.kids.len dn):=aj hb rfl
       have e5:=hO 5 (by rfl)
       simp [Act.eval] at e5
       simp [aC,aB,au,Act.eval,Region.binds] at hD
       simp [go_sem,gd,Oper.wp,e5,z0,z1,z2,z3]
       exact aA.mk (qw _ _ _) (iM.skip (by rfl) (by rfl) hC) (aB.mk _ _)
      apply aI.step
      case aG=>
       intro c A w' hok hC hO hD
       have e0:=hO 0 (by rfl)
       simp [Act.eval] at e0
       simp [aC,aB,au,Act.eval,Region.binds] at hD
       simp [go_sem,gd,Oper.wp,hD,e0]
       exact aA.mk (qw _ _ _) (iM.skip (by rfl) (by rfl) hC) (aB.mk _ _)
      apply aI.step
      case aG=>
       intro c A w' hok hC hO hD
       have e1:=hO 1 (by rfl)
       simp [Act.eval] at e1
       simp [aC,aB,au,Act.eval,Region.binds] at hD
       simp [go_sem,gd,Oper.wp,hD,e1]
       exact aA.mk (qw _ _ _) (iM.skip (by rfl) (by rfl) hC) (aB.mk _ _)
      simp only [List.nil_append,List.cons_append]
      apply aI.step
      case aG=>
       intro c A w' hok hC hO hD
       simp [aC,aB,au,Act.eval,Region.binds] at hD
       simp [go_sem,gd,Oper.wp,hD,hwl]
       exact aA.mk (qw _ _ _) (iM.skip (by rfl) (by rfl) hC) (aB.mk _ _)
      refine aI.some (fun v w'=>RtV (w.heap.size + 1) g x2 v w') (fun v w1 w' hle h=>by obtain ⟨a,c,h1,h0,h2⟩:=h; exact ⟨a,c,h1,h0,h2.next hle⟩) ?_ ?_
      ·intro c A w' hok' hC hO hD
       obtain ⟨x',y',rfl⟩:=hC.bits
       obtain ⟨rfl,rfl,-⟩:=hok'
       have hC:KW R W5 s.aD w':=hC
       simp [aC,aB,au,Act.eval,Region.binds] at hD
       simp [go_sem,gd,Oper.wp,hD]
       refine (HX.out w' hC.1).mono ?_
       rintro e w6 ⟨v,rfl,⟨a,c,hv,hok2,ak4⟩,h2,h3⟩
       exact aA.mk (fU h3 (by have:=AO.out; omega)).x (iM.fire (by rfl) (by rfl) ⟨h2,bD hC.2 h3⟩) ⟨a,c,hv,hok2,oM ak4 (Nat.le_trans AO.out.2.1 hC.2.size) (fun k hk=>by injection hk with hk; rw [← hk]; exact Nat.lt_of_lt_of_le AO.out.2.2 hC.2.size)⟩
      simp only [List.nil_append,List.cons_append]
      refine aI.some (fun v w'=>TwV (w.heap.size + 1) g l x2 v w') (fun v w1 w' hle h=>by obtain ⟨a,h1,h2⟩:=h; exact ⟨a,h1,h2.next hle⟩) ?_ ?_
      ·intro c A w' hok' hC hO hD
       obtain ⟨x',y',rfl⟩:=hC.bits
       obtain ⟨rfl,rfl,-⟩:=hok'
       have hC:KW R W5 s2 w':=hC
       simp [aC,aB,au,Act.eval,Region.binds] at hD
       obtain ⟨h41,a,c,h45,hok2,kI⟩:=hD
       unfold exV at h45
       simp [go_sem,gd,Oper.wp,h41,h45]
       refine aA.mk (d:=_) (v:= .slice (some ⟨_,0,none⟩) 2 2) (aL (ah _ _)).x (iM.skip (by rfl) (by rfl) (show KW R W5 s2 _ from ⟨hC.1.below (ah _ _),bD hC.2 (aH (ah _ _))⟩)) ⟨_,rfl,?_⟩
       exact FR (heap_alloc_new _ _) (Nat.le_trans AO.out.2.1 hC.2.size) (by have:=AO.out.2.2; have:=hC.2.size; omega) WO.out.1 ((WO.out.2.next (fU hC.2 (by have:=AO.out; omega)).x).next (aL (ah _ _)).x) hok2 (kI.next (aL (ah _ _)).x)
      simp only [List.nil_append,List.cons_append]
      refine aI.some (fun v w'=> ∃gg,v=exV op 0 ⟨#[]⟩ (mk2 op l x2).kids (some ⟨gg,0,none⟩) 2∧dS (w.heap.size + 1) (some g) w' (fun w2=>(mk2 op l x2).kids.At w2 w2.heap.size (some ⟨gg,0,none⟩) 0)) (fun v w1 w' hle h=>by obtain ⟨a,h1,h2⟩:=h; exact ⟨a,h1,h2.next hle⟩) ?_ ?_
      ·intro c A w' hok' hC hO hD
       simp [aC,aB,au,Act.eval,Region.binds] at hD
       obtain ⟨h40,gg,h46,kI⟩:=hD
       simp [go_sem,gd,Oper.wp,h40,h46]
       exact aA.mk (qw _ _ _) (iM.skip (by rfl) (by rfl) hC) ⟨gg,rfl,kI⟩
      simp only [List.nil_append,List.cons_append]
      refine aI.some (fun _ _=>True) (fun _ _ _ _ _=>trivial) ?_ ?_
      ·intro c A w' hok' hC hO hD
       obtain ⟨x',y',rfl⟩:=hC.bits
       obtain ⟨rfl,rfl,-⟩:=hok'
       have hC:KW R W5 s2 w':=hC
       have e5:=hO 5 (by rfl)
       simp [Act.eval] at e5
       simp [aC,aB,au,Act.eval,Region.binds] at hD
       obtain ⟨⟨gg,h47,kI⟩,-⟩:=hD
       simp only [gd,if_true]
       refine wp_store_mid _ _ _ (by rfl) g 0 (pE op 0 ⟨#[]⟩ (mk2 op l x2).kids (some ⟨gg,0,none⟩) 2).toArray (by simp [Act.eval,e5]) (by simp [Act.eval,h47,exV,pE]) (nW (KD w' hC.2) (Nat.le_refl 4)) Xz (by simp [pE,Value.oneCell']) ?_
       exact aA.yU (nG.wI (aP _ _ _ _)) (iM.last (by rfl) (by rfl) (Px (by have:=cO.out; unfold aM; omega) HG.out iR.out hC kI)) trivial
      try simp only [List.nil_append,List.cons_append]
      refine aI.done ?_
      intro w9 xE
      try simp only [List.drop_succ_cons,List.drop_zero]
      intro x0 h0 x1 h1 x2' h2 x3 h3 x4 h4 x5 h5' x6 h6 x7 h7 x8 h8
      clear h0 h1 h2 h3 h4 h5' h6 h7 h8 KD
      refine jm ?_
      refine fM rfl ?_
      have iK:Hid (sK R w g (mk2 op l x2) s2 w9):=Lib.hid xE
      have HNN:Hid (n + 1 + s2.len≤5000):=Lib.hid (by have h1:=HF.out.2.2; have h2:s2.len≤s.aD.len:=eP.out; have h3:=aX.out; omega)
      have hnw:(n:Int)≤5000:=by have:=HF.out.2.2; omega
      have hn0:(0:Int)≤(n:Int):=by omega
      clear xE iR WO hRD HX
      go_simp
      go_wp2_with fail
      go_roundg s2.len
      case measure=>have h2:s2.len≤s.aD.len:=eP.out; have h3:=aX.out; omega
      case rel=>
       by_cases JU:lv=3
       ·exact ⟨n + 1,by go_num,f',mk2 op l x2,s2,rfl,HNN.out,by have:=HF.out.1; omega,by
         have h1:=HF.out.2.1; have h2:s2.len≤s.aD.len:=eP.out; have h3:=aX.out; simp only [enough,wt,St.len] at *; omega,fun _=>vU.out.1 JU,fun h=>absurd ⟨JU,Nat.le_add_left 1 n⟩ h,iK.out⟩
       ·exact ⟨n + 1,by go_num,f',mk2 op l x2,s2,rfl,HNN.out,by have:=HF.out.1; omega,by
         have h1:=HF.out.2.1; have h2:s2.len≤s.aD.len:=eP.out; have h3:=aX.out; simp only [enough,wt,St.len] at *; omega,fun h=>absurd h.1 JU,fun _=>vU.out.2 JU,iK.out⟩
   ·have ao9:decide ((0:Int) < opAt (lv:Int) s.toks)=false:=decide_eq_false (by rw [show opAt (lv:Int) s.toks=0 by simpa using hop]; decide)
    have hs:spec=(l,s):=by
     by_cases h3:lv=3∧1≤n
     ·exact H3.out.1 h3
     ·exact (H3.out.2 h3).trans (Xl hop)
    subst hs
    clear H3 hop
    generalize opAt (lv:Int) s.toks=op at *
    go_wp2_with fail
    refine (Jg.out _ HB.out.rd).mono ?_
    rintro e w3 ⟨rfl,h2⟩
    obtain ⟨fP,dn,hK,hZ,hB,hok,hst⟩:=HB.out.below h2
    have iy:=Lib.hid hK
    have iI:=Lib.hid (And.intro hok hst)
    obtain ⟨⟨y0,y1,y2,y3⟩,f0,f1,f2,f3⟩:=dH hZ
    obtain ⟨⟨z0,z1,z2,z3⟩,d0,d1,d2,d3⟩:=tC hB
    clear h2 hK hZ hB hok hst HB Jg
    go_wp2_with fail
    exact bodyPost_ret (v:=exV l.op l.n l.nm l.kids fP dn) (by simp [results,Tryz.results53,go_sem,exV,y0,y1,y2,y3]) rfl (vK iy.out ⟨iI.out.1,iI.out.2.stay⟩)
end Go.Proofs.YtehnipchbmjlhaaGreatDoor
end
section
namespace Go.Proofs.YtehnipchbmjlhaaGreatDoor
open Go.RowKit
open Md Pz
theorem Xm (R:Rp): ∀f m,tJ R f m:=by
 intro f
 induction f using Nat.strongRecOn with
 | _ f ih=>
   intro m
   cases f with
   | zero=>
     cases m with
     | bin lv=>exact fun _ s w h _=>absurd h (by unfold enough; omega)
     | un=>exact fun s w h _=>absurd h (by unfold enough; omega)
     | pr=>exact fun s w h _=>absurd h (by unfold enough; omega)
     | lp _ _=>trivial
   | succ f=>
     cases m with
     | bin lv=>exact ML R f lv (fun f' hf' m=>ih f' (by omega) m)
     | un=>exact KE R f (ih f (by omega) .un) (ih f (by omega) .pr)
     | pr=>exact H8 R f (ih f (by omega) (.bin 1))
     | lp _ _=>trivial
theorem qy (R:Rp) (s:St) (w:World) (hI:bn w R s):
 Calls Tryz.prog 53 #[.pointer (some ⟨R.br,0,none⟩),.int .i64 1] w (mM R w (dQ R.ts s)):=
 Xm R _ (.bin 1) (by decide) s w (CG _) hI
structure Pn (R:Rp) (w:World) (bz bs B:Nat) (W:World) (x:dG) (s:St):Prop where
 rd:bn W R s
 gr:w.grownBy W (some R.br)
 lt:R.br < w.heap.size∧w.heap.size≤bs∧bs < B∧w.heap.size≤bz∧bz < B∧bz≠bs
 sz:B≤W.heap.size
 blk:W.heap[bs]? =some (.cells (dG.f x).toArray 89 (0,0))
 z:W.heap[bz]? =some (.cells gG 89 (0,0))
 ok:mO x.h x.b x.e
 st:bJ B W (dG.I x)
section
variable {R:Rp} {w:World} {bz bs B:Nat} {W W':World} {x:dG} {s s':St}
theorem Pn.then (h:Pn R w bz bs B W x s) (h1:bn W' R s') (h2:W.grownBy W' (some R.br)):Pn R w bz bs B W' x s':=
 ⟨h1,bD h.gr h2,h.lt,Nat.le_trans h.sz h2.size,(h2.block _ (Nat.lt_of_lt_of_le h.lt.2.2.1 h.sz) (by have:=h.lt; simp; omega)).trans h.blk,(h2.block _ (Nat.lt_of_lt_of_le h.lt.2.2.2.2.1 h.sz) (by have:=h.lt; simp; omega)).trans h.z,h.ok,h.st.next (fU h2 (by have:=h.lt; omega))⟩
theorem Pn.below (h:Pn R w bz bs B W x s) (hb:Below W.heap.size W W'):Pn R w bz bs B W' x s:=h.then (h.rd.below hb) (aH hb)
theorem Pn.aD (h:Pn R w bz bs B W x s) {pos:Nat} (hp:W.cell? ⟨R.br,1,none⟩=some (.int .i64 (pos:Int))) (hne:s.toks≠[]):Pn R w bz bs B (W.setCell ⟨R.br,1,none⟩ (.int .i64 ((pos:Int) + 1))) x s.aD:=
 h.then (h.rd.aD hp hne) (cu _ _ _)
theorem Pn.put (h:Pn R w bz bs B W x s) (j:Nat) (v:Value) {y:dG} (hy:(dG.f x).toArray.setIfInBounds j v=(dG.f y).toArray) (hok:mO y.h y.b y.e) (hst:bJ B W (dG.I y)):Pn R w bz bs B (W.setCell ⟨bs,j,none⟩ v) y s:=
 ⟨nV h.rd _ v (by have:=R.b0; have:=h.lt; show R.B0≤bs; omega) (by have:=h.lt; show bs≠R.br; omega),jC h.gr _ v h.lt.2.1,h.lt,by have:=h.sz; simpa [World.setCell] using this,by rw [aW h.blk,hy],(aN W _ v rfl (by have:=h.lt; show bs≠bz; omega)).trans h.z,hok,hst.next (bH W ⟨bs,j,none⟩ v h.lt.2.2.1)⟩
theorem Pn.nm (h:Pn R w bz bs B W x s) (t:ByteArray) (hs:t.size≤maxLen):Pn R w bz bs B (W.setCell ⟨bs,2,none⟩ (.string t)) ⟨{x.h with nm:=t},x.b,x.e,x.s⟩ s:=
 h.put 2 _ rfl ⟨h.ok.1,h.ok.2.1,hs,h.ok.2.2.2⟩ h.st
theorem Pn.arg (h:Pn R w bz bs B W x s) (t:ByteArray) (hs:t.size≤maxLen):Pn R w bz bs B (W.setCell ⟨bs,3,none⟩ (.string t)) ⟨{x.h with arg:=t},x.b,x.e,x.s⟩ s:=
 h.put 3 _ rfl ⟨h.ok.1,h.ok.2.1,h.ok.2.2.1,hs,h.ok.2.2.2.2⟩ h.st
theorem Pn.op (h:Pn R w bz bs B W x s) (n:Int) (hn:aM n):Pn R w bz bs B (W.setCell ⟨bs,0,none⟩ (.int .i64 n)) ⟨{x.h with op:=n},x.b,x.e,x.s⟩ s:=
 h.put 0 _ rfl ⟨hn,h.ok.2⟩ h.st
theorem Pn.body (h:Pn R w bz bs B W x s) (l:aS) (ao:Option Addr) (cap:Nat) (hl:l.len≤maxLen) (hst:bJ B W (fun w2=>l.At w2 w2.heap.size ao 0)):
 Pn R w bz bs B (W.setCell ⟨bs,9,none⟩ (.slice ao l.len cap)) ⟨x.h,l,x.e,{x.s with bC:=ao,aV:=cap}⟩ s:=
 h.put 9 _ rfl ⟨h.ok.1,h.ok.2.1,h.ok.2.2.1,h.ok.2.2.2.1,h.ok.2.2.2.2.1,h.ok.2.2.2.2.2.1,hl,h.ok.2.2.2.2.2.2.2⟩ (fun w2 h2=>⟨(h.st w2 h2).1,(h.st w2 h2).2.1,hst w2 h2,(h.st w2 h2).2.2.2⟩)
theorem Pn.els (h:Pn R w bz bs B W x s) (l:aS) (ao:Option Addr) (cap:Nat) (hl:l.len≤maxLen) (hst:bJ B W (fun w2=>l.At w2 w2.heap.size ao 0)):
 Pn R w bz bs B (W.setCell ⟨bs,10,none⟩ (.slice ao l.len cap)) ⟨x.h,x.b,l,{x.s with eZ:=ao,dL:=cap}⟩ s:=
 h.put 10 _ rfl ⟨h.ok.1,h.ok.2.1,h.ok.2.2.1,h.ok.2.2.2.1,h.ok.2.2.2.2.1,h.ok.2.2.2.2.2.1,h.ok.2.2.2.2.2.2.1,hl⟩ (fun w2 h2=>⟨(h.st w2 h2).1,(h.st w2 h2).2.1,(h.st w2 h2).2.2.1,hst w2 h2⟩)
theorem Pn.ex (h:Pn R w bz bs B W x s) (y:E) (ao:Option Addr) (cap:Nat) (hy:jA y) (hst:bJ B W (fun w2=>y.kids.At w2 w2.heap.size ao 0)):
 Pn R w bz bs B (zH W bs (.int .i64 y.op) (.int .i64 y.n) (.string y.nm) (.slice ao y.kids.len cap)) ⟨bf.ex x.h y,x.b,x.e,{x.s with cB:=ao,bF:=cap}⟩ s:=by
 have ha:dO B W (zH W bs (.int .i64 y.op) (.int .i64 y.n) (.string y.nm) (.slice ao y.kids.len cap)):=by
  have x1:dO B W _:=bH W ⟨bs,5,none⟩ (.int .i64 y.op) h.lt.2.2.1
  have x2:=x1.trans (bH _ ⟨bs,6,none⟩ (.int .i64 y.n) h.lt.2.2.1)
  have x3:=x2.trans (bH _ ⟨bs,7,none⟩ (.string y.nm) h.lt.2.2.1)
  exact x3.trans (bH _ ⟨bs,8,none⟩ (.slice ao y.kids.len cap) h.lt.2.2.1)
 have hb:R.B0≤bs:=by have:=R.b0; have:=h.lt; omega
 have hn:bs≠R.br:=by have:=h.lt; omega
 have hz:bs≠bz:=by have:=h.lt; omega
 refine ⟨nV (nV (nV (nV h.rd _ _ hb hn) _ _ hb hn) _ _ hb hn) _ _ hb hn,jC (jC (jC (jC h.gr _ _ h.lt.2.1) _ _ h.lt.2.1) _ _ h.lt.2.1) _ _ h.lt.2.1,h.lt,Nat.le_trans h.sz ha.1,?_,?_,⟨h.ok.1,h.ok.2.1,h.ok.2.2.1,h.ok.2.2.2.1,h.ok.2.2.2.2.1,hy,h.ok.2.2.2.2.2.2⟩,?_⟩
 ·unfold zH
  rw [aW (aW (aW (aW h.blk _) _) _) _]; rfl
 ·unfold zH
  rw [aN _ _ _ rfl hz,aN _ _ _ rfl hz,aN _ _ _ rfl hz,aN _ _ _ rfl hz]; exact h.z
 ·exact fun w2 h2=>⟨(h.st w2 (ha.trans h2)).1,hst w2 (ha.trans h2),(h.st w2 (ha.trans h2)).2.2⟩
theorem Pn.Sw (h:Pn R w bz bs B W x s) (y:E) (ao:Option Addr) (cap:Nat) (t:TypeId) (hy:jA y∧bJ B W (fun w2=>y.kids.At w2 w2.heap.size ao 0)):
 Pn R w bz bs B ((W.setCell ⟨bs,4,none⟩ (.slice (some ⟨W.heap.size,0,none⟩) 1 1)).alloc (.cells #[.int .i64 y.op,.int .i64 y.n,.string y.nm,.slice ao y.kids.len cap] t)) ⟨{x.h with idx:= .cons y.op y.n y.nm y.kids .nil},x.b,x.e,{x.s with fH:=some ⟨W.heap.size,0,none⟩,dW:=1}⟩ s:=by
 have ha:dO B W (W.setCell ⟨bs,4,none⟩ (.slice (some ⟨W.heap.size,0,none⟩) 1 1)):=bH W ⟨bs,4,none⟩ _ h.lt.2.2.1
 have hs:(W.setCell ⟨bs,4,none⟩ (.slice (some ⟨W.heap.size,0,none⟩) 1 1)).heap.size=W.heap.size:=by simp [World.setCell]
 have hb:(W.setCell ⟨bs,4,none⟩ (.slice (some ⟨W.heap.size,0,none⟩) 1 1)).heap[bs]? =some (.cells (dG.f ⟨{x.h with idx:= .cons y.op y.n y.nm y.kids .nil},x.b,x.e,{x.s with fH:=some ⟨W.heap.size,0,none⟩,dW:=1}⟩).toArray 89 (0,0)):=by rw [aW h.blk]; rfl
 have hr:=nV h.rd ⟨bs,4,none⟩ (.slice (some ⟨W.heap.size,0,none⟩) 1 1) (by have:=R.b0; have:=h.lt; show R.B0≤bs; omega) (by have:=h.lt; show bs≠R.br; omega)
 have hgr:=jC h.gr ⟨bs,4,none⟩ (.slice (some ⟨W.heap.size,0,none⟩) 1 1) h.lt.2.1
 have hzz:=(aN W ⟨bs,4,none⟩ (.slice (some ⟨W.heap.size,0,none⟩) 1 1) rfl (show bs≠bz by have:=h.lt; omega)).trans h.z
 have hz:=h.sz
 generalize W.setCell ⟨bs,4,none⟩ (.slice (some ⟨W.heap.size,0,none⟩) 1 1)=W1 at *
 have hst:bJ B (W1.alloc (.cells #[.int .i64 y.op,.int .i64 y.n,.string y.nm,.slice ao y.kids.len cap] t)) (fun w2=>(aZ.cons y.op y.n y.nm y.kids .nil).At w2 w2.heap.size (some ⟨W.heap.size,0,none⟩) 0):=by
  rw [← hs]
  exact oO (heap_alloc_new _ _) (by omega) hy.1 ((hy.2.next ha).next (aL (ah _ _)))
 refine ⟨qm hr _,dP hgr _,h.lt,by simp; omega,(heap_alloc_old _ _ (Array.getElem?_eq_some_iff.1 hb).1).trans hb,(heap_alloc_old _ _ (Array.getElem?_eq_some_iff.1 hzz).1).trans hzz,⟨h.ok.1,h.ok.2.1,h.ok.2.2.1,h.ok.2.2.2.1,by simp [aZ.len,maxLen],h.ok.2.2.2.2.2⟩,fun w2 h2=>⟨hst w2 h2,(h.st w2 ((ha.trans (aL (ah _ _))).trans h2)).2⟩⟩
theorem Pn.cell (h:Pn R w bz bs B W x s) {j:Nat} {u:Value} (hu:(dG.f x).toArray[j]? =some u):W.cell? ⟨bs,j,none⟩=some u:=aj h.blk hu
theorem Pn.free (h:Pn R w bz bs B W x s) (j:Nat):W.frozen? ⟨bs,j,none⟩=false:=aF h.blk
end
def CX (R:Rp) (w:World) (q:Sx × St) (e:Ending) (w':World):Prop:=
 (∃sl,e= .returned (bP q.1.h q.1.b q.1.e sl)∧mO q.1.h q.1.b q.1.e∧bJ w.heap.size w' (dG.I ⟨q.1.h,q.1.b,q.1.e,sl⟩))∧bn w' R q.2∧w.grownBy w' (some R.br)
def sQ (R:Rp) (w:World) (q:aS × St) (e:Ending) (w':World):Prop:=
 (∃ao cap,e= .returned (.slice ao q.1.len cap)∧q.1.len≤5000∧bJ w.heap.size w' (fun w2=>q.1.At w2 w2.heap.size ao 0))∧bn w' R q.2∧w.grownBy w' (some R.br)
end Go.Proofs.YtehnipchbmjlhaaGreatDoor
end
