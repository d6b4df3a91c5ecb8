/-
  What words and signs begin: contracts of binaryOperator, declared, rest.
  The reader's state; contracts of its methods next, at, accept, name.
  Contracts of the reader's method number.
-/
import Derived.Test.YtdajkddgnfgijaaGreatDoorGZA
import Derived.Test.YtdajkddgnfgijaaGreatDoorGMA
import Derived.Test.YtdajkddgnfgijaaGreatDoorGZB
import Derived.Test.YtdajkddgnfgijaaGreatDoorGMB
import Derived.Deep.QuietTactic
import Derived.BigQuiet
import Derived.StillTailTactics
import Derived.Deep.CutBlock
import Derived.IntWalk
import Derived.Outline
import Derived.Lib.AtoiErrMem
import Derived.Test.YtdajkddgnfgijaaGreatDoorShelf
section
set_option linter.unusedSimpArgs false
set_option linter.unusedVariables false
namespace Go.Proofs.YtdajkddgnfgijaaGreatDoor
open Go.RowKit
open Md Pz
theorem zq {a b:Int} (h:a=b):Ending.returned (.int .i64 a)= .returned (.int .i64 b):=by rw [h]
set_option maxHeartbeats 1000000 in
theorem Av (x:ByteArray) {l:List UInt8} (hx:x.data.toList=l) (w:World):
 Calls Tryz.prog 62 #[.string x] w fun e w'=>e= .returned (.int .i64 (jE l))∧w=w':=by
 have hl:x.toList=l:=by rw [Lib.toList_data]; exact hx
 go_enter Tryz.func62,Tryz.ntmps62
 go_wp2
 all_goals go_ret
 all_goals exact ⟨zq (by unfold jE; simp only [*]; rfl),rfl⟩
theorem Ww {a b c d:Int} (h:(a,c)=(b,d)):Ending.returned (.tuple #[.int .i64 a,.int .i64 c])= .returned (.tuple #[.int .i64 b,.int .i64 d]):=by
 injection h with h1 h2; rw [h1,h2]
set_option maxHeartbeats 1000000 in
theorem Bp (x:ByteArray) {l:List UInt8} (hx:x.data.toList=l) (w:World):
 Calls Tryz.prog 233 #[.string x] w fun e w'=>e= .returned (.tuple #[.int .i64 (nM l).1,.int .i64 (nM l).2])∧w=w':=by
 have hl:x.toList=l:=by rw [Lib.toList_data]; exact hx
 go_enter Tryz.func233,Tryz.ntmps233
 go_wp2
 all_goals go_ret2
 all_goals exact ⟨Ww (by unfold nM; simp only [*]; rfl),rfl⟩
def Si (op:Int):Value:=
 if op == 2 then .func (.func 199) #[] #[] else if op == 3 then .func (.func 200) #[] #[]
 else if op == 4 || op == 5 || op == 6 then .func (.func 201) #[] #[] else if op == 7 || op == 8 then .func (.func 202) #[] #[]
 else if op == 14 then .func (.func 204) #[] #[] else if op == 15 then .func (.func 205) #[] #[]
 else if op == 0 then .nilFunc else .func (.func 203) #[] #[]
theorem Xu {a b:Int} {v:Value} (h:a=b) (hv:v=Si a):Ending.returned (.tuple #[.int .i64 a,v])= .returned (.tuple #[.int .i64 b,Si b]):=by rw [← h,hv]
set_option maxHeartbeats 1000000 in
theorem Hl (x:ByteArray) {l:List UInt8} (hx:x.data.toList=l) (w:World):
 Calls Tryz.prog 172 #[.string x] w fun e w'=>e= .returned (.tuple #[.int .i64 (iA l),Si (iA l)])∧w=w':=by
 have hl:x.toList=l:=by rw [Lib.toList_data]; exact hx
 go_enter Tryz.func172,Tryz.ntmps172
 go_wp2
 all_goals go_ret2
 all_goals exact ⟨Xu (by unfold iA; simp only [*]; rfl) (by rfl),rfl⟩
end Go.Proofs.YtdajkddgnfgijaaGreatDoor
end
section
set_option linter.unusedSimpArgs false
set_option linter.unusedVariables false
namespace Go.Proofs.YtdajkddgnfgijaaGreatDoor
open Go.RowKit
open Md Pz
def qG (w:World) (B:Nat):aJ→Option Addr→Nat→Prop
 | [],_,_=>True
 | t ::r,ao,k=>(∃b off,ao=some ⟨b,off,none⟩∧b < B∧w.cell? ⟨b,off + k * 3,none⟩=some (.int .i64 (t.kind:Int))∧w.cell? ⟨b,off + k * 3 + 1,none⟩=some (.string (tx t.text))∧w.cell? ⟨b,off + k * 3 + 2,none⟩=some (.int .i64 (t.line:Int)))∧qG w B r ao (k + 1)
theorem qG.below {w w':World} {B:Nat} (hb:Below B w w'): ∀ {l:aJ} {ao:Option Addr} {k:Nat},qG w B l ao k→qG w' B l ao k
 | [],_,_,_=>trivial
 | _ ::_,_,_,⟨⟨b,off,e,hB,c0,c1,c2⟩,hr⟩=>⟨⟨b,off,e,hB,(hb.cell hB).trans c0,(hb.cell hB).trans c1,(hb.cell hB).trans c2⟩,qG.below hb hr⟩
theorem qG.drop {w:World} {B:Nat} : ∀ {l:aJ} {ao:Option Addr} {k:Nat} (i:Nat),qG w B l ao k→qG w B (l.drop i) ao (k + i)
 | _,_,_,0,h=>h
 | [],_,_,_ + 1,_=>by simp [qG]
 | _ ::_,_,k,i + 1,⟨_,hr⟩=>by have:=qG.drop i hr; rw [List.drop_succ_cons]; rwa [Nat.add_assoc,Nat.add_comm 1 i] at this
structure Rp where
 B0:Nat
 br:Nat
 ao:Option Addr
 cap:Nat
 ts:aJ
 b0:B0≤br
structure bf (w:World) (R:Rp) (rest:aJ):Prop where
 blk: ∃pos:Nat,pos≤R.ts.length∧R.ts.drop pos=rest∧w.heap[R.br]? =some (.cells #[.slice R.ao R.ts.length R.cap,.int .i64 (pos:Int)] 82 (0,0))
 tok:qG w R.B0 R.ts R.ao 0
 ok:Aq R.ts∧R.ts.length≤4096
 tl:Od R.ts
theorem bf.lt {w:World} {R:Rp} {rest:aJ} (h:bf w R rest):R.br < w.heap.size:=by obtain ⟨a,-,-,h⟩:=h.blk; exact (Array.getElem?_eq_some_iff.1 h).1
theorem bf.ts {w:World} {R:Rp} {rest:aJ} (h:bf w R rest):Aq rest:=by
 obtain ⟨a,-,rfl,-⟩:=h.blk
 exact fun t ht=>h.ok.1 t (List.mem_of_mem_drop ht)
theorem bf.Yt {w:World} {R:Rp} {rest:aJ} (h:bf w R rest):Od rest:=by
 obtain ⟨a,-,rfl,-⟩:=h.blk
 exact fun t ht=>h.tl t (List.mem_of_mem_drop ht)
theorem bf.len {w:World} {R:Rp} {rest:aJ} (h:bf w R rest):rest.length≤4096:=by
 obtain ⟨a,-,rfl,-⟩:=h.blk
 have:=h.ok.2; simp; omega
theorem bf.below {w w':World} {R:Rp} {rest:aJ} (h:bf w R rest) (hb:Below w.heap.size w w'):bf w' R rest:=by
 obtain ⟨a,h1,h2,h3⟩:=h.blk
 exact ⟨⟨a,h1,h2,(hb.block _ h.lt).trans h3⟩,h.tok.below (hb.mono (Nat.le_trans R.b0 (Nat.le_of_lt h.lt))),h.ok,h.tl⟩
theorem bf.next {w:World} {R:Rp} {t:Tk.Tok} {r:aJ} {pos:Nat} (h:bf w R (t ::r)) (hd:R.ts.drop pos=t ::r) (hb:w.heap[R.br]? =some (.cells #[.slice R.ao R.ts.length R.cap,.int .i64 (pos:Int)] 82 (0,0))):bf (w.setCell ⟨R.br,1,none⟩ (.int .i64 ((pos:Int) + 1))) R r:=by
 have hlt:pos < R.ts.length:=by
  have:=congrArg List.length hd; simp at this; omega
 refine ⟨⟨pos + 1,hlt,?_,by rw [dV hb]; rfl⟩,h.tok.below (dB (dO _ _ _) R.b0 (Nat.le_trans R.b0 (Nat.le_of_lt h.lt))),h.ok,h.tl⟩
 rw [← List.drop_drop,hd]; rfl
def kI (ts:aJ):Value:= .agg #[.int .i64 (nextK ts:Nat),.string (tx (aI ts)),.int .i64 (bF ts:Nat)]
theorem wZ (w:World) (cs:Array Value) (t:TypeId) (n:Nat):Below w.heap.size w ((w.alloc (.cells cs t)).drewN n)∧((w.alloc (.cells cs t)).drewN n).heap[w.heap.size]? =some (.cells cs t (0,0)):=
 ⟨below_drewN (aj _ _) n,((below_drewN (Below.refl (w.alloc (.cells cs t)).heap.size _) n).block _ (by simp)).trans (heap_alloc_new w _)⟩
theorem iR {B:Nat} {w w':World} (h:Below B w w') (a:Addr) (v:Value) (hb:B≤a.block):Below B w (w'.setCell a v):=
 ⟨h.os,h.tape,h.output,by have:=h.size; simpa [World.setCell] using this,fun k hk=>(bJ w' a v rfl (by omega)).trans (h.block k hk)⟩
theorem La {w:World} {B:Nat} : ∀ {l:aJ} {ao:Option Addr} {k:Nat} {t:Tk.Tok} {r:aJ},l=t ::r→qG w B l ao k→ ∃b off,ao=some ⟨b,off,none⟩∧b < B∧w.cell? ⟨b,off + k * 3,none⟩=some (.int .i64 (t.kind:Int))∧w.cell? ⟨b,off + k * 3 + 1,none⟩=some (.string (tx t.text))∧w.cell? ⟨b,off + k * 3 + 2,none⟩=some (.int .i64 (t.line:Int))
 | _,_,_,_,_,rfl,h=>h.1
set_option maxRecDepth 100000 in
set_option maxHeartbeats 1000000 in
theorem gT (R:Rp) (rest:aJ) (w:World) (hI:bf w R rest):
 Calls Tryz.prog 61 #[.pointer (some ⟨R.br,0,none⟩)] w fun e w'=>e= .returned (kI rest)∧Below w.heap.size w w':=by
 obtain ⟨pos,hp,hd,hblk⟩:=hI.blk
 have HI:=Lib.hid hI
 have HD:=Lib.hid hd
 have c0:w.cell? ⟨R.br,0,none⟩=some (.slice R.ao R.ts.length R.cap):=aB hblk rfl
 have c1:w.cell? ⟨R.br,1,none⟩=some (.int .i64 (pos:Int)):=aB hblk rfl
 have hl:=hI.ok.2
 have hlt:=hI.lt
 clear hI hd hblk
 by_cases hlt2:R.ts.length≤pos
 ·have hq:decide ((R.ts.length:Int)≤(pos:Int))=true:=by rw [decide_eq_true_iff]; omega
  have HR:Hid (rest=[]):=Lib.hid (by rw [← HD.out]; exact List.drop_eq_nil_iff.2 hlt2)
  go_enter Tryz.func61,Tryz.ntmps61
  go_upto_region 1 with fail
  go_quiet (fail)
  generalize hW:World.drewN (World.alloc w _) _=W1
  have HB1:Hid (Below w.heap.size w W1):=Lib.hid (by rw [← hW]; exact (wZ w _ _ _).1)
  have zi:Hid (W1.heap[w.heap.size]? =some (.cells #[.int .i64 0,.string ⟨#[]⟩,.int .i64 0] 138 (0,0))):=Lib.hid (by rw [← hW]; exact (wZ w _ _ _).2)
  clear hW c0 c1 hq
  have y0:W1.cell? ⟨w.heap.size,0,none⟩=some (.int .i64 0):=aB zi.out rfl
  have y1:W1.cell? ⟨w.heap.size,1,none⟩=some (.string ⟨#[]⟩):=aB zi.out rfl
  have y2:W1.cell? ⟨w.heap.size,2,none⟩=some (.int .i64 0):=aB zi.out rfl
  have f0:W1.frozen? ⟨w.heap.size,0,none⟩=false:=bH zi.out
  have f1:W1.frozen? ⟨w.heap.size,1,none⟩=false:=bH zi.out
  have f2:W1.frozen? ⟨w.heap.size,2,none⟩=false:=bH zi.out
  go_wp2_with fail
  have hr:=HR.out
  subst hr
  exact bodyPost_ret (v:=kI []) (by simp [results,Tryz.results61,go_sem,y0,y1,y2,kI,nextK,aI,bF,tx]) rfl ⟨rfl,iR (iR (iR HB1.out _ _ (Nat.le_refl _)) _ _ (Nat.le_refl _)) _ _ (Nat.le_refl _)⟩
 ·have hq:decide ((R.ts.length:Int)≤(pos:Int))=false:=by rw [decide_eq_false_iff_not]; omega
  obtain ⟨t,r,HR⟩: ∃t r,Hid (rest=t ::r):=by
   cases hrs:rest with
   | nil=>rw [hrs] at HD; exact absurd (List.drop_eq_nil_iff.1 HD.out) hlt2
   | cons t r=>exact ⟨t,r,Lib.hid rfl⟩
  have KT:Hid (∀w',Below w.heap.size w w'→ ∃b off,R.ao=some ⟨b,off,none⟩∧b < R.B0∧w'.cell? ⟨b,off + pos * 3,none⟩=some (.int .i64 (t.kind:Int))∧w'.cell? ⟨b,off + pos * 3 + 1,none⟩=some (.string (tx t.text))∧w'.cell? ⟨b,off + pos * 3 + 2,none⟩=some (.int .i64 (t.line:Int))):=Lib.hid (fun w' hb=>by
   have:=(HI.out.below hb).tok.drop pos
   rw [Nat.zero_add] at this
   exact La (HD.out.trans HR.out) this)
  obtain ⟨bb,off,hao,hbb,-⟩:=KT.out w (Below.refl _ _)
  have WS:=Lib.hid hao
  rw [hao] at c0
  clear hao
  go_enter Tryz.func61,Tryz.ntmps61
  go_upto_region 1 with fail
  go_quiet (fail)
  generalize hW:World.drewN (World.alloc w _) _=W1
  have HB1:Hid (Below w.heap.size w W1):=Lib.hid (by rw [← hW]; exact (wZ w _ _ _).1)
  have zi:Hid (W1.heap[w.heap.size]? =some (.cells #[.int .i64 0,.string ⟨#[]⟩,.int .i64 0] 138 (0,0))):=Lib.hid (by rw [← hW]; exact (wZ w _ _ _).2)
  have d0:W1.cell? ⟨R.br,0,none⟩=some (.slice (some ⟨bb,off,none⟩) R.ts.length R.cap):=(HB1.out.cell hlt).trans c0
  have d1:W1.cell? ⟨R.br,1,none⟩=some (.int .i64 (pos:Int)):=(HB1.out.cell hlt).trans c1
  obtain ⟨b',off',hao,-,e0,e1,e2⟩:=KT.out W1 HB1.out
  rw [WS.out] at hao
  injection hao with hao
  injection hao with h1 h2
  subst h1
  subst h2
  clear hW c0 c1 hq KT
  have y0:W1.cell? ⟨w.heap.size,0,none⟩=some (.int .i64 0):=aB zi.out rfl
  have y1:W1.cell? ⟨w.heap.size,1,none⟩=some (.string ⟨#[]⟩):=aB zi.out rfl
  have y2:W1.cell? ⟨w.heap.size,2,none⟩=some (.int .i64 0):=aB zi.out rfl
  have f0:W1.frozen? ⟨w.heap.size,0,none⟩=false:=bH zi.out
  have f1:W1.frozen? ⟨w.heap.size,1,none⟩=false:=bH zi.out
  have f2:W1.frozen? ⟨w.heap.size,2,none⟩=false:=bH zi.out
  have hb0:(0:Int)≤(pos:Int):=by omega
  have hb1:(pos:Int) < (R.ts.length:Int):=by omega
  go_upto_region 3 with fail
  go_still_tail 10,(by kernel_rfl)
  change wpList _ _ _ _ _ W1.drew
  have HB2:Hid (Below w.heap.size w W1.drew):=Lib.hid (below_drewN HB1.out 1)
  have hr:=HR.out
  go_wp2_with fail
  subst hr
  exact bodyPost_ret (v:=kI (t ::r)) (by simp [results,Tryz.results61,go_sem,y0,y1,y2,kI,nextK,aI,bF]) rfl ⟨rfl,iR (iR (iR HB2.out _ _ (Nat.le_refl _)) _ _ (Nat.le_refl _)) _ _ (Nat.le_refl _)⟩
theorem Sn (x:ByteArray) {l:List UInt8} (hx:x.data.toList=l) (rest:aJ):
 at' l rest=(((((nextK rest:Nat):Int) == 3) || (((nextK rest:Nat):Int) == 4)) && ((tx (aI rest)).toList == x.toList)):=by
 have h3:(((nextK rest:Nat):Int) == 3)=(nextK rest == 3):=by
  rw [Bool.eq_iff_iff,beq_iff_eq,beq_iff_eq]; omega
 have h4:(((nextK rest:Nat):Int) == 4)=(nextK rest == 4):=by
  rw [Bool.eq_iff_iff,beq_iff_eq,beq_iff_eq]; omega
 rw [h3,h4,Lib.toList_data,Lib.toList_data,hx]
 rfl
set_option maxHeartbeats 1000000 in
theorem Er (R:Rp) (rest:aJ) (w:World) (x:ByteArray) {l:List UInt8} (hx:x.data.toList=l) (hI:bf w R rest):
 Calls Tryz.prog 64 #[.pointer (some ⟨R.br,0,none⟩),.string x] w fun e w'=>e= .returned (.bool (at' l rest))∧Below w.heap.size w w':=by
 have HE:=Lib.hid (Sn x hx rest)
 have HN:=Lib.hid (gT R rest w hI)
 unfold kI at HN
 generalize at' l rest=res at *
 generalize ((nextK rest:Nat):Int)=k at *
 generalize ((bF rest:Nat):Int)=n at *
 generalize tx (aI rest)=s at *
 clear hI hx
 go_enter Tryz.func64,Tryz.ntmps64
 go_wp2_with fail
 refine HN.out.mono ?_
 rintro e w1 ⟨rfl,hb⟩
 have HB:=Lib.hid hb
 clear hb HN
 go_wp2_with fail
 all_goals go_ret
 all_goals exact ⟨congrArg (fun b=>Ending.returned (.bool b)) (by rw [HE.out]; simp [*]),HB.out.alloc HB.out.size _⟩
theorem cell_far {w:World} {a:Addr} {v:Value} {g j:Nat} {u:Value} (h:a.block≠g) (hc:w.cell? ⟨g,j,none⟩=some u):(w.setCell a v).cell? ⟨g,j,none⟩=some u:=
 (World.cell?_of_block (a:=⟨g,j,none⟩) (bJ w a v rfl h)).trans hc
theorem bP {b:Option Nat} {w w':World} (h:Below w.heap.size w w'):w.grownBy w' b:=⟨h.os,h.tape,h.output,h.size,fun k hk _=>h.block k hk⟩
theorem bf.nt {w:World} {R:Rp} {t:Tk.Tok} {r:aJ} {pos:Nat} (h:bf w R (t ::r)) (hd:R.ts.drop pos=t ::r) (hb:w.heap[R.br]? =some (.cells #[.slice R.ao R.ts.length R.cap,.int .i64 (pos:Int)] 82 (0,0))):
 bf (w.setCell ⟨R.br,1,none⟩ (.int .i64 ((pos:Int) + 1))) R r∧w.grownBy (w.setCell ⟨R.br,1,none⟩ (.int .i64 ((pos:Int) + 1))) (some R.br):=
 ⟨h.next hd hb,dO w ⟨R.br,1,none⟩ _⟩
theorem bf.open {w:World} {R:Rp} {rest:aJ} (h:bf w R rest): ∃pos:Nat,(pos≤R.ts.length∧pos≤4096)∧w.cell? ⟨R.br,0,none⟩=some (.slice R.ao R.ts.length R.cap)∧w.cell? ⟨R.br,1,none⟩=some (.int .i64 (pos:Int))∧w.frozen? ⟨R.br,1,none⟩=false∧
 Hid (∀t r,rest=t ::r→bf (w.setCell ⟨R.br,1,none⟩ (.int .i64 ((pos:Int) + 1))) R r∧w.grownBy (w.setCell ⟨R.br,1,none⟩ (.int .i64 ((pos:Int) + 1))) (some R.br)):=by
 obtain ⟨pos,h1,h2,h3⟩:=h.blk
 have:=h.ok.2
 refine ⟨pos,⟨h1,by omega⟩,aB h3 rfl,aB h3 rfl,bH h3,Lib.hid (fun t r e=> ?_)⟩
 subst e
 exact h.nt h2 h3
theorem dU (R:Rp) (rest:aJ) (w:World) (x:ByteArray) {l:List UInt8} (hx:x.data.toList=l) (h:at' l rest=false) (hI:bf w R rest):
 Calls Tryz.prog 101 #[.pointer (some ⟨R.br,0,none⟩),.string x] w fun e w'=>e= .returned (.bool false)∧Below w.heap.size w w':=by
 have HN:=Lib.hid (Er R rest w x hx hI)
 rw [h] at HN
 clear hI hx h
 go_enter Tryz.func101,Tryz.ntmps101
 go_wp2_with fail
 refine HN.out.mono ?_
 rintro e w1 ⟨rfl,hb⟩
 have HB:=Lib.hid hb
 clear hb HN
 go_wp2_with fail
 go_ret
 exact ⟨rfl,HB.out⟩
theorem cu (R:Rp) (rest:aJ) (w:World) (x:ByteArray) {l:List UInt8} (hx:x.data.toList=l) (h:at' l rest=true) (hI:bf w R rest):
 Calls Tryz.prog 101 #[.pointer (some ⟨R.br,0,none⟩),.string x] w fun e w'=>e= .returned (.bool true)∧bf w' R rest.tail∧w.grownBy w' (some R.br):=by
 have HN:=Lib.hid (Er R rest w x hx hI)
 rw [h] at HN
 obtain ⟨t,r,hr⟩:=GN h
 have HR:=Lib.hid hr
 have HI:=Lib.hid hI
 clear hI hx h hr
 go_enter Tryz.func101,Tryz.ntmps101
 go_wp2_with fail
 refine HN.out.mono ?_
 rintro e w1 ⟨rfl,hb⟩
 obtain ⟨pos,hp,c0,c1,f1,HX⟩:=(HI.out.below hb).open
 have HB:=Lib.hid hb
 clear hb HN
 go_wp2_with fail
 go_ret
 obtain ⟨q1,q2⟩:=HX.out t r HR.out
 exact ⟨rfl,by rw [HR.out]; exact q1,eY (bP HB.out) q2⟩
theorem uI (n:Nat) (rest:aJ):(nextK rest == n)=(((nextK rest:Nat):Int) == (n:Int)):=by
 rw [Bool.eq_iff_iff,beq_iff_eq,beq_iff_eq]; omega
theorem jY (R:Rp) (rest:aJ) (w:World) (h:isName rest=false) (hI:bf w R rest):
 Calls Tryz.prog 98 #[.pointer (some ⟨R.br,0,none⟩)] w fun e w'=>e= .returned (.tuple #[.string ⟨#[]⟩,.bool false])∧Below w.heap.size w w':=by
 have HN:=Lib.hid (gT R rest w hI)
 have h1:(((nextK rest:Nat):Int) == 1)=false:=(uI 1 rest).symm.trans h
 unfold kI at HN
 generalize ((nextK rest:Nat):Int)=k at *
 clear hI h
 go_enter Tryz.func98,Tryz.ntmps98
 go_wp2_with fail
 refine HN.out.mono ?_
 rintro e w1 ⟨rfl,hb⟩
 have HB:=Lib.hid hb
 clear hb HN
 go_wp2_with fail
 go_ret2
 exact ⟨rfl,HB.out.alloc HB.out.size _⟩
theorem jr (R:Rp) (rest:aJ) (w:World) (h:isName rest=true) (hI:bf w R rest):
 Calls Tryz.prog 98 #[.pointer (some ⟨R.br,0,none⟩)] w fun e w'=>e= .returned (.tuple #[.string (tx (aI rest)),.bool true])∧bf w' R rest.tail∧w.grownBy w' (some R.br):=by
 have HN:=Lib.hid (gT R rest w hI)
 obtain ⟨t,r,hr⟩: ∃t r,rest=t ::r:=by
  cases rest with
  | nil=>exact absurd h (by simp [isName,nextK])
  | cons t r=>exact ⟨t,r,rfl⟩
 have HR:=Lib.hid hr
 have HI:=Lib.hid hI
 have hk:nextK rest=1:=by simpa [isName] using h
 unfold kI at HN
 rw [hk] at HN
 have HK:=Lib.hid hk
 have hlt:=hI.lt
 clear hI h hr hk
 go_enter Tryz.func98,Tryz.ntmps98
 go_wp2_with fail
 refine HN.out.mono ?_
 rintro e w1 ⟨rfl,hb⟩
 have HB:=Lib.hid hb
 clear hb HN
 go_upto_region 2 with fail
 obtain ⟨g,hg⟩: ∃g,w1.heap.size=g:=⟨_,rfl⟩
 generalize hW:World.alloc w1 _=W
 have HB1:Hid (Below w.heap.size w W):=Lib.hid (by rw [← hW]; exact HB.out.alloc HB.out.size _)
 have HC:Hid (W.heap[g]? =some (.cells #[.int .i64 1,.string (tx (aI rest)),.int .i64 ((bF rest:Nat):Int)] 138 (0,0))):=Lib.hid (by rw [← hW,← hg]; exact heap_alloc_new _ _)
 have HG:Hid (g≠R.br):=Lib.hid (by have:=HB.out.size; omega)
 rw [hg]
 have y0:W.cell? ⟨g,0,none⟩=some (.int .i64 1):=aB HC.out rfl
 have y1:W.cell? ⟨g,1,none⟩=some (.string (tx (aI rest))):=aB HC.out rfl
 obtain ⟨pos,hp,c0,c1,f1,HX⟩:=(HI.out.below HB1.out).open
 have z1:(W.setCell ⟨R.br,1,none⟩ (.int .i64 ((pos:Int) + 1))).cell? ⟨g,1,none⟩=some (.string (tx (aI rest))):=cell_far (fun e=>HG.out e.symm) y1
 clear hW hg HB
 go_wp2_with fail
 go_ret2
 obtain ⟨q1,q2⟩:=HX.out t r HR.out
 exact ⟨rfl,by rw [HR.out]; exact q1,eY (bP HB1.out) q2⟩
theorem op_spec (lv:Int) (rest:aJ):opAt lv rest=if (((nextK rest:Nat):Int) == 4)=true∧((nM (aI rest)).2 == lv)=true then (nM (aI rest)).1 else 0:=by
 have h4:(((nextK rest:Nat):Int) == 4)=(nextK rest == 4):=by
  rw [Bool.eq_iff_iff,beq_iff_eq,beq_iff_eq]; omega
 rw [h4]
 unfold opAt
 simp only [Bool.and_eq_true]
set_option maxHeartbeats 1000000 in
theorem Ho (R:Rp) (rest:aJ) (w:World) (lv:Int) (hI:bf w R rest):
 Calls Tryz.prog 230 #[.pointer (some ⟨R.br,0,none⟩),.int .i64 lv] w fun e w'=>e= .returned (.int .i64 (opAt lv rest))∧Below w.heap.size w w':=by
 have HE:=Lib.hid (op_spec lv rest)
 have HN:=Lib.hid (gT R rest w hI)
 have HB0:Hid (∀w,Calls Tryz.prog 233 #[.string (tx (aI rest))] w fun e w'=>e= .returned (.tuple #[.int .i64 (nM (aI rest)).1,.int .i64 (nM (aI rest)).2])∧w=w'):=Lib.hid (Bp (tx (aI rest)) rfl)
 unfold kI at HN
 generalize opAt lv rest=res at *
 generalize ((nextK rest:Nat):Int)=k at *
 generalize ((bF rest:Nat):Int)=n at *
 generalize tx (aI rest)=s at *
 generalize (nM (aI rest)).1=a at *
 generalize (nM (aI rest)).2=b at *
 clear hI
 go_enter Tryz.func230,Tryz.ntmps230
 go_wp2_with fail
 refine HN.out.mono ?_
 rintro e w1 ⟨rfl,hb⟩
 have HB:=Lib.hid hb
 clear hb HN
 cases h4:(k == 4)
 ·go_wp2_with fail
  go_ret
  exact ⟨zq (by rw [HE.out,if_neg (by rw [h4]; rintro ⟨h,-⟩; cases h)]),HB.out.alloc HB.out.size _⟩
 ·cases hl:(b == lv)
  all_goals
   go_wp2_with (with_reducible refine (HB0.out _).mono ?_; rintro e w2 ⟨rfl,rfl⟩)
   go_ret
  ·exact ⟨zq (by rw [HE.out,if_neg (by rw [hl]; rintro ⟨-,h⟩; cases h)]),HB.out.alloc HB.out.size _⟩
  ·exact ⟨zq (by rw [HE.out,if_pos ⟨h4,hl⟩]),HB.out.alloc HB.out.size _⟩
theorem bf.pos {w:World} {R:Rp} {rest:aJ} (h:bf w R rest): ∃pos:Nat,pos≤R.ts.length∧R.ts.drop pos=rest∧w.cell? ⟨R.br,0,none⟩=some (.slice R.ao R.ts.length R.cap)∧w.cell? ⟨R.br,1,none⟩=some (.int .i64 (pos:Int)):=by
 obtain ⟨pos,h1,h2,h3⟩:=h.blk
 exact ⟨pos,h1,h2,aB h3 rfl,aB h3 rfl⟩
theorem last_at {ts:aJ} {n:Nat} (h:ts.length=n + 1): ∃t,ts.drop n=[t]∧ts.getLast? =some t:=by
 have hlt:n < ts.length:=by omega
 refine ⟨ts[n],?_,?_⟩
 ·rw [List.drop_eq_getElem_cons hlt,List.drop_eq_nil_iff.2 (by omega)]
 ·rw [List.getLast?_eq_getElem?,show ts.length - 1=n by omega]; exact List.getElem?_eq_getElem hlt
set_option maxHeartbeats 1000000 in
theorem Im (R:Rp) (rest:aJ) (w:World) (hI:bf w R rest):
 Calls Tryz.prog 28 #[.pointer (some ⟨R.br,0,none⟩)] w fun e w'=>e= .returned (.int .i64 (ji R.ts rest))∧Below w.heap.size w w':=by
 obtain ⟨pos,hp,hd,c0,c1⟩:=hI.pos
 have hl:=hI.ok.2
 have hT:=hI.tok
 by_cases h0:R.ts.length=0
 ·have HE:Hid (ji R.ts rest=1):=Lib.hid (by
   have e:R.ts=[]:=List.length_eq_zero_iff.1 h0
   rw [← hd,e]; simp [ji])
  rw [h0] at c0
  clear hI hd hT
  go_enter Tryz.func28,Tryz.ntmps28
  go_wp2_with fail
  go_ret
  exact ⟨zq HE.out.symm,Below.refl _ _⟩
 ·have h0':((R.ts.length:Int) == 0)=false:=by rw [beq_eq_false_iff_ne]; omega
  by_cases h1:R.ts.length≤pos
  ·obtain ⟨n,hn⟩: ∃n,R.ts.length=n + 1:=⟨R.ts.length - 1,by omega⟩
   obtain ⟨t,ht,hlast⟩:=last_at hn
   have HE:Hid (ji R.ts rest=t.line):=Lib.hid (by
    have e:rest=[]:=by rw [← hd]; exact List.drop_eq_nil_iff.2 h1
    rw [e]; simp [ji,hlast])
   have hT':=hT.drop n
   rw [Nat.zero_add] at hT'
   obtain ⟨b,off,hao,hb,e0,e1,e2⟩:=La ht hT'
   rw [hao] at c0
   have hq:decide ((R.ts.length:Int)≤(pos:Int))=true:=by rw [decide_eq_true_iff]; omega
   have hw:IntKind.i64.wrap ((R.ts.length:Int) - 1)=(n:Int):=by rw [hn]; rw [show ((n + 1:Nat):Int) - 1=(n:Int) by omega]; exact IntWalk.i64_in _ (by omega)
   have hb0:(0:Int)≤(n:Int):=by omega
   have hb1:(n:Int) < (R.ts.length:Int):=by omega
   clear hI hd hT hT' ht hlast hao e0 e1 hl
   have HN:=Lib.hid hn
   clear hn h0
   go_enter Tryz.func28,Tryz.ntmps28
   go_wp2_with fail
   go_ret
   exact ⟨zq HE.out.symm,Below.refl _ _⟩
  ·obtain ⟨t,r,hr⟩: ∃t r,rest=t ::r:=by
    cases hrs:rest with
    | nil=>rw [hrs] at hd; exact absurd (List.drop_eq_nil_iff.1 hd) h1
    | cons t r=>exact ⟨t,r,rfl⟩
   have HE:Hid (ji R.ts rest=t.line):=Lib.hid (by rw [hr]; rfl)
   have hT':=hT.drop pos
   rw [Nat.zero_add] at hT'
   obtain ⟨b,off,hao,hb,e0,e1,e2⟩:=La (hd.trans hr) hT'
   rw [hao] at c0
   have hq:decide ((R.ts.length:Int)≤(pos:Int))=false:=by rw [decide_eq_false_iff_not]; omega
   have hb0:(0:Int)≤(pos:Int):=by omega
   have hb1:(pos:Int) < (R.ts.length:Int):=by omega
   clear hI hd hT hT' hao e0 e1 hl hr h0
   go_enter Tryz.func28,Tryz.ntmps28
   go_upto_region 6 with fail
   go_quiet (fail)
   go_wp2_with fail
   go_ret
   exact ⟨zq HE.out.symm,below_drewN (Below.refl _ _) _⟩
end Go.Proofs.YtdajkddgnfgijaaGreatDoor
end
section
set_option linter.unusedSimpArgs false
set_option linter.unusedVariables false
namespace Go.Proofs.YtdajkddgnfgijaaGreatDoor
open Go.RowKit
open Md Pz
theorem JC {w w':World} {T:TypeId} (h:w'=w∨ ∃t,w'=Lib.bytesWorld w T t):Below w.heap.size w w':=by
 rcases h with rfl | ⟨t,rfl⟩
 ·exact Below.refl _ _
 ·exact Lib.bytesWorld_below _ _ _
theorem vV (R:Rp) (rest:aJ) (w:World) (h:isNum rest=false) (hI:bf w R rest):
 Calls Tryz.prog 147 #[.pointer (some ⟨R.br,0,none⟩)] w fun e w'=>e= .returned (.tuple #[.int .i64 0,.bool false])∧Below w.heap.size w w':=by
 have HN:=Lib.hid (gT R rest w hI)
 have h1:(((nextK rest:Nat):Int) == 2)=false:=(uI 2 rest).symm.trans h
 unfold kI at HN
 generalize ((nextK rest:Nat):Int)=k at *
 clear hI h
 go_enter Tryz.func147,Tryz.ntmps147
 go_wp2_with fail
 refine HN.out.mono ?_
 rintro e w1 ⟨rfl,hb⟩
 have HB:=Lib.hid hb
 clear hb HN
 go_wp2_with fail
 go_ret2
 exact ⟨rfl,HB.out.alloc HB.out.size _⟩
set_option maxHeartbeats 1000000 in
theorem yX (R:Rp) (rest:aJ) (w:World) (h:isNum rest=true) (hI:bf w R rest):
 Calls Tryz.prog 147 #[.pointer (some ⟨R.br,0,none⟩)] w fun e w'=>e= .returned (.tuple #[.int .i64 ((Tk.val (aI rest):Nat):Int),.bool true])∧bf w' R rest.tail∧w.grownBy w' (some R.br):=by
 have HN:=Lib.hid (gT R rest w hI)
 obtain ⟨t,r,hr⟩: ∃t r,rest=t ::r:=by
  cases rest with
  | nil=>exact absurd h (by simp [isNum,nextK])
  | cons t r=>exact ⟨t,r,rfl⟩
 have HR:=Lib.hid hr
 have HI:=Lib.hid hI
 have hk:nextK rest=2:=by simpa [isNum] using h
 have hts:=Oy hI.ts h
 have hsz:(tx (aI rest)).size≤9223372036854775806:=by
  have:=(hI.Yt t (by rw [hr]; simp)).2.2.2
  rw [hr]; show t.text.toArray.size≤_
  simp; omega
 have HP:Hid (∀w,Calls Tryz.prog 170 #[.string (tx (aI rest)),.int .i64 10,.int .i64 64] w fun e w'=>e= .returned (.tuple #[.int .i64 ((Tk.val (aI rest):Nat):Int),.nilIface])∧(w'=w∨ ∃t,w'=Lib.bytesWorld w 5 t)):=Lib.hid (fun w=>Tryz.strconv_ParseInt_10_at64_ok (tx (aI rest)) hsz _ (by rw [F8]; exact N9 hts.1.1 hts.1.2 hts.2) w)
 unfold kI at HN
 rw [hk] at HN
 have hlt:=hI.lt
 clear hI h hr hk hts
 generalize ((Tk.val (aI rest):Nat):Int)=n at *
 go_enter Tryz.func147,Tryz.ntmps147
 go_wp2_with fail
 refine HN.out.mono ?_
 rintro e w1 ⟨rfl,hb⟩
 have HB:=Lib.hid hb
 clear hb HN
 go_wp2_with fail
 refine (HP.out _).mono ?_
 rintro e w2 ⟨rfl,hb⟩
 have HB2:Hid (Below w.heap.size w w2):=Lib.hid ((HB.out.alloc HB.out.size _).trans ((JC hb).mono (by have:=HB.out.size; simp; omega)))
 obtain ⟨pos,hp,c0,c1,f1,HX⟩:=(HI.out.below HB2.out).open
 clear hb HP
 go_wp2_with fail
 go_ret2
 obtain ⟨q1,q2⟩:=HX.out t r HR.out
 exact ⟨rfl,by rw [HR.out]; exact q1,eY (bP HB2.out) q2⟩
end Go.Proofs.YtdajkddgnfgijaaGreatDoor
end
