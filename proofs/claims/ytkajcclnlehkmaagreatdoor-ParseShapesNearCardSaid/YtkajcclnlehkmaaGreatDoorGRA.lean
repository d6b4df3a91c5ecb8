/- What words and signs begin: contracts of binaryOperator, declared, rest. And what hangs on it. -/
import Derived.Test.YtkajcclnlehkmaaGreatDoorGZA
import Derived.Test.YtkajcclnlehkmaaGreatDoorGMA
import Derived.Test.YtkajcclnlehkmaaGreatDoorGZB
import Derived.Test.YtkajcclnlehkmaaGreatDoorGMB
import Derived.Deep.QuietTactic
import Derived.BigQuiet
import Derived.StillTailTactics
import Derived.Deep.CutBlock
import Derived.IntWalk
import Derived.Outline
import Derived.Lib.AtoiErrMem
import Derived.Test.YtkajcclnlehkmaaGreatDoorShelf
set_option linter.unusedSimpArgs false
set_option linter.unusedVariables false
set_option maxHeartbeats 40000000
set_option maxRecDepth 1000000
namespace Go.Proofs.YtkajcclnlehkmaaGreatDoor
open Go.RowKit
open Md Pz
theorem tQ {a b:Int} (h:a=b):Ending.returned (.int .i64 a)= .returned (.int .i64 b):=by rw [h]
theorem uZ (x:ByteArray) {l:List UInt8} (hx:x.data.toList=l) (w:World):
 Calls Tryz.prog 47 #[.string x] w fun e w'=>e= .returned (.int .i64 (gY l))∧w=w':=by
 have hl:x.toList=l:=by rw [Lib.toList_data]; exact hx
 go_enter Tryz.func47,Tryz.ntmps47;go_wp2
 all_goals go_ret
 all_goals exact ⟨tQ (by unfold gY; simp only [*]; rfl),rfl⟩
theorem Py {a b c d:Int} (h:(a,c)=(b,d)):Ending.returned (.tuple #[.int .i64 a,.int .i64 c])= .returned (.tuple #[.int .i64 b,.int .i64 d]):=by
 injection h with h1 h2; rw [h1,h2]
theorem uW (x:ByteArray) {l:List UInt8} (hx:x.data.toList=l) (w:World):
 Calls Tryz.prog 74 #[.string x] w fun e w'=>e= .returned (.tuple #[.int .i64 (jW l).1,.int .i64 (jW l).2])∧w=w':=by
 have hl:x.toList=l:=by rw [Lib.toList_data]; exact hx
 go_enter Tryz.func74,Tryz.ntmps74;go_wp2
 all_goals go_ret2
 all_goals exact ⟨Py (by unfold jW; simp only [*]; rfl),rfl⟩
def Ll (op:Int):Value:=
 if op == 2 then .func (.func 88) #[] #[] else if op == 3 then .func (.func 89) #[] #[]
 else if op == 4 || op == 5 || op == 6 then .func (.func 90) #[] #[] else if op == 7 || op == 8 then .func (.func 91) #[] #[]
 else if op == 14 then .func (.func 93) #[] #[] else if op == 15 then .func (.func 94) #[] #[]
 else if op == 0 then .nilFunc else .func (.func 92) #[] #[]
theorem Qx {a b:Int} {v:Value} (h:a=b) (hv:v=Ll a):Ending.returned (.tuple #[.int .i64 a,v])= .returned (.tuple #[.int .i64 b,Ll b]):=by rw [<- h,hv]
theorem Db (x:ByteArray) {l:List UInt8} (hx:x.data.toList=l) (w:World):
 Calls Tryz.prog 82 #[.string x] w fun e w'=>e= .returned (.tuple #[.int .i64 (fK l),Ll (fK l)])∧w=w':=by
 have hl:x.toList=l:=by rw [Lib.toList_data]; exact hx
 go_enter Tryz.func82,Tryz.ntmps82;go_wp2
 all_goals go_ret2
 all_goals exact ⟨Qx (by unfold fK; simp only [*]; rfl) (by rfl),rfl⟩
def mh (w:World) (B:Nat):aA->Option Addr->Nat->Prop
 | [],_,_=>True
 | t ::r,ao,k=>(∃b off,ao=some ⟨b,off,none⟩∧b < B∧w.cell? ⟨b,off + k * 3,none⟩=some (.int .i64 (t.kind:Int))∧w.cell? ⟨b,off + k * 3 + 1,none⟩=some (.string (tx t.text))∧w.cell? ⟨b,off + k * 3 + 2,none⟩=some (.int .i64 (t.line:Int)))∧mh w B r ao (k + 1)
theorem mh.below {w w':World} {B:Nat} (hb:Below B w w'): ∀ {l:aA} {ao:Option Addr} {k:Nat},mh w B l ao k->mh w' B l ao k
 | [],_,_,_=>trivial
 | _ ::_,_,_,⟨⟨b,off,e,hB,c0,c1,c2⟩,hr⟩=>⟨⟨b,off,e,hB,(hb.cell hB).trans c0,(hb.cell hB).trans c1,(hb.cell hB).trans c2⟩,mh.below hb hr⟩
theorem mh.drop {w:World} {B:Nat} : ∀ {l:aA} {ao:Option Addr} {k:Nat} (i:Nat),mh w B l ao k->mh w B (l.drop i) ao (k + i)
 | _,_,_,0,h=>h
 | [],_,_,_ + 1,_=>by simp [mh]
 | _ ::_,_,k,i + 1,⟨_,hr⟩=>by have:=mh.drop i hr; rw [List.drop_succ_cons]; rwa [Nat.add_assoc,Nat.add_comm 1 i] at this
structure Rp where
 B0:Nat
 br:Nat
 ao:Option Addr
 cap:Nat
 ts:aA
 b0:B0<=br
structure aK (w:World) (R:Rp) (rest:aA):Prop where
 blk: ∃pos:Nat,pos<=R.ts.length∧R.ts.drop pos=rest∧w.heap[R.br]? =some (.cells #[.slice R.ao R.ts.length R.cap,.int .i64 (pos:Int)] 77 (0,0))
 tok:mh w R.B0 R.ts R.ao 0
 ok:uV R.ts∧R.ts.length<=4096
 tl:GA R.ts
theorem aK.lt {w:World} {R:Rp} {rest:aA} (h:aK w R rest):R.br < w.heap.size:=by obtain ⟨a,-,-,h⟩:=h.blk; exact (Array.getElem?_eq_some_iff.1 h).1
theorem aK.ts {w:World} {R:Rp} {rest:aA} (h:aK w R rest):uV rest:=by
 obtain ⟨a,-,rfl,-⟩:=h.blk;exact fun t ht=>h.ok.1 t (List.mem_of_mem_drop ht)
theorem aK.RO {w:World} {R:Rp} {rest:aA} (h:aK w R rest):GA rest:=by
 obtain ⟨a,-,rfl,-⟩:=h.blk;exact fun t ht=>h.tl t (List.mem_of_mem_drop ht)
theorem aK.len {w:World} {R:Rp} {rest:aA} (h:aK w R rest):rest.length<=4096:=by
 obtain ⟨a,-,rfl,-⟩:=h.blk;have:=h.ok.2; simp; omega
theorem aK.below {w w':World} {R:Rp} {rest:aA} (h:aK w R rest) (hb:Below w.heap.size w w'):aK w' R rest:=by
 obtain ⟨a,h1,h2,h3⟩:=h.blk;exact ⟨⟨a,h1,h2,(hb.block _ h.lt).trans h3⟩,h.tok.below (hb.mono (Nat.le_trans R.b0 (Nat.le_of_lt h.lt))),h.ok,h.tl⟩
theorem aK.next {w:World} {R:Rp} {t:Tk.Tok} {r:aA} {pos:Nat} (h:aK w R (t ::r)) (hd:R.ts.drop pos=t ::r) (hb:w.heap[R.br]? =some (.cells #[.slice R.ao R.ts.length R.cap,.int .i64 (pos:Int)] 77 (0,0))):aK (w.setCell ⟨R.br,1,none⟩ (.int .i64 ((pos:Int) + 1))) R r:=by
 have hlt:pos < R.ts.length:=by have:=congrArg List.length hd; simp at this; omega
 refine ⟨⟨pos + 1,hlt,?_,by rw [aY hb]; rfl⟩,h.tok.below (dL (dD _ _ _) R.b0 (Nat.le_trans R.b0 (Nat.le_of_lt h.lt))),h.ok,h.tl⟩;rw [<- List.drop_drop,hd]; rfl
def iY (ts:aA):Value:= .agg #[.int .i64 (nextK ts:Nat),.string (tx (ay ts)),.int .i64 (aP ts:Nat)]
theorem qQ (w:World) (cs:Array Value) (t:TypeId) (n:Nat):Below w.heap.size w ((w.alloc (.cells cs t)).drewN n)∧((w.alloc (.cells cs t)).drewN n).heap[w.heap.size]? =some (.cells cs t (0,0)):=
 ⟨below_drewN (ak _ _) n,((below_drewN (Below.refl (w.alloc (.cells cs t)).heap.size _) n).block _ (by simp)).trans (heap_alloc_new w _)⟩
theorem bL {B:Nat} {w w':World} (h:Below B w w') (a:Addr) (v:Value) (hb:B<=a.block):Below B w (w'.setCell a v):=
 ⟨h.os,h.tape,h.output,by have:=h.size; simpa [World.setCell] using this,fun k hk=>(aW w' a v rfl (by omega)).trans (h.block k hk)⟩
theorem FV {w:World} {B:Nat} : ∀ {l:aA} {ao:Option Addr} {k:Nat} {t:Tk.Tok} {r:aA},l=t ::r->mh w B l ao k-> ∃b off,ao=some ⟨b,off,none⟩∧b < B∧w.cell? ⟨b,off + k * 3,none⟩=some (.int .i64 (t.kind:Int))∧w.cell? ⟨b,off + k * 3 + 1,none⟩=some (.string (tx t.text))∧w.cell? ⟨b,off + k * 3 + 2,none⟩=some (.int .i64 (t.line:Int))
 | _,_,_,_,_,rfl,h=>h.1
theorem eH (R:Rp) (rest:aA) (w:World) (hI:aK w R rest):
 Calls Tryz.prog 46 #[.pointer (some ⟨R.br,0,none⟩)] w fun e w'=>e= .returned (iY rest)∧Below w.heap.size w w':=by
 obtain ⟨pos,hp,hd,hblk⟩:=hI.blk;have HI:=ah hI;have HD:=ah hd;have c0:w.cell? ⟨R.br,0,none⟩=some (.slice R.ao R.ts.length R.cap):=au hblk rfl;have c1:w.cell? ⟨R.br,1,none⟩=some (.int .i64 (pos:Int)):=au hblk rfl;have hl:=hI.ok.2;have hlt:=hI.lt;clear hI hd hblk;by_cases hlt2:R.ts.length<=pos
 ·have hq:decide ((R.ts.length:Int)<=(pos:Int))=true:=by rw [decide_eq_true_iff]; omega
  have HR:aj (rest=[]):=ah (by rw [<- HD.o]; exact List.drop_eq_nil_iff.2 hlt2);go_enter Tryz.func46,Tryz.ntmps46;go_upto_region 1 with fail;go_quiet (fail);generalize hW:World.drewN (World.alloc w _) _=W1;have HB1:aj (Below w.heap.size w W1):=ah (by rw [<- hW]; exact (qQ w _ _ _).1);have oN:aj (W1.heap[w.heap.size]? =some (.cells #[.int .i64 0,.string ⟨#[]⟩,.int .i64 0] 94 (0,0))):=ah (by rw [<- hW]; exact (qQ w _ _ _).2);clear hW c0 c1 hq;have y0:W1.cell? ⟨w.heap.size,0,none⟩=some (.int .i64 0):=au oN.o rfl;have y1:W1.cell? ⟨w.heap.size,1,none⟩=some (.string ⟨#[]⟩):=au oN.o rfl;have y2:W1.cell? ⟨w.heap.size,2,none⟩=some (.int .i64 0):=au oN.o rfl;have f0:W1.frozen? ⟨w.heap.size,0,none⟩=false:=aB oN.o;have f1:W1.frozen? ⟨w.heap.size,1,none⟩=false:=aB oN.o;have f2:W1.frozen? ⟨w.heap.size,2,none⟩=false:=aB oN.o;go_wp2_with fail;have hr:=HR.o;subst hr;exact bodyPost_ret (v:=iY []) (by simp [results,Tryz.results46,go_sem,y0,y1,y2,iY,nextK,ay,aP,tx]) rfl ⟨rfl,bL (bL (bL HB1.o _ _ (Nat.le_refl _)) _ _ (Nat.le_refl _)) _ _ (Nat.le_refl _)⟩
 ·have hq:decide ((R.ts.length:Int)<=(pos:Int))=false:=by rw [decide_eq_false_iff_not]; omega
  obtain ⟨t,r,HR⟩: ∃t r,aj (rest=t ::r):=by
   cases hrs:rest with
   | nil=>rw [hrs] at HD; exact absurd (List.drop_eq_nil_iff.1 HD.o) hlt2
   | cons t r=>exact ⟨t,r,ah rfl⟩
  have yx:aj (∀w',Below w.heap.size w w'-> ∃b off,R.ao=some ⟨b,off,none⟩∧b < R.B0∧w'.cell? ⟨b,off + pos * 3,none⟩=some (.int .i64 (t.kind:Int))∧w'.cell? ⟨b,off + pos * 3 + 1,none⟩=some (.string (tx t.text))∧w'.cell? ⟨b,off + pos * 3 + 2,none⟩=some (.int .i64 (t.line:Int))):=ah (fun w' hb=>by have:=(HI.o.below hb).tok.drop pos;rw [Nat.zero_add] at this;exact FV (HD.o.trans HR.o) this);obtain ⟨bb,off,hao,hbb,-⟩:=yx.o w (Below.refl _ _);have QD:=ah hao;rw [hao] at c0;clear hao;go_enter Tryz.func46,Tryz.ntmps46;go_upto_region 1 with fail;go_quiet (fail);generalize hW:World.drewN (World.alloc w _) _=W1;have HB1:aj (Below w.heap.size w W1):=ah (by rw [<- hW]; exact (qQ w _ _ _).1);have oN:aj (W1.heap[w.heap.size]? =some (.cells #[.int .i64 0,.string ⟨#[]⟩,.int .i64 0] 94 (0,0))):=ah (by rw [<- hW]; exact (qQ w _ _ _).2);have d0:W1.cell? ⟨R.br,0,none⟩=some (.slice (some ⟨bb,off,none⟩) R.ts.length R.cap):=(HB1.o.cell hlt).trans c0;have d1:W1.cell? ⟨R.br,1,none⟩=some (.int .i64 (pos:Int)):=(HB1.o.cell hlt).trans c1;obtain ⟨b',off',hao,-,e0,e1,e2⟩:=yx.o W1 HB1.o;rw [QD.o] at hao;injection hao with hao;injection hao with h1 h2;subst h1;subst h2;clear hW c0 c1 hq yx;have y0:W1.cell? ⟨w.heap.size,0,none⟩=some (.int .i64 0):=au oN.o rfl;have y1:W1.cell? ⟨w.heap.size,1,none⟩=some (.string ⟨#[]⟩):=au oN.o rfl;have y2:W1.cell? ⟨w.heap.size,2,none⟩=some (.int .i64 0):=au oN.o rfl;have f0:W1.frozen? ⟨w.heap.size,0,none⟩=false:=aB oN.o;have f1:W1.frozen? ⟨w.heap.size,1,none⟩=false:=aB oN.o;have f2:W1.frozen? ⟨w.heap.size,2,none⟩=false:=aB oN.o;have hb0:(0:Int)<=(pos:Int):=by omega
  have hb1:(pos:Int) < (R.ts.length:Int):=by omega
  go_upto_region 3 with fail;go_still_tail 10,(by kernel_rfl);change wpList _ _ _ _ _ W1.drew;have HB2:aj (Below w.heap.size w W1.drew):=ah (below_drewN HB1.o 1);have hr:=HR.o;go_wp2_with fail;subst hr;exact bodyPost_ret (v:=iY (t ::r)) (by simp [results,Tryz.results46,go_sem,y0,y1,y2,iY,nextK,ay,aP]) rfl ⟨rfl,bL (bL (bL HB2.o _ _ (Nat.le_refl _)) _ _ (Nat.le_refl _)) _ _ (Nat.le_refl _)⟩
theorem LB (x:ByteArray) {l:List UInt8} (hx:x.data.toList=l) (rest:aA):
 at' l rest=(((((nextK rest:Nat):Int) == 3) || (((nextK rest:Nat):Int) == 4)) && ((tx (ay rest)).toList == x.toList)):=by
 have h3:(((nextK rest:Nat):Int) == 3)=(nextK rest == 3):=by rw [Bool.eq_iff_iff,beq_iff_eq,beq_iff_eq]; omega
 have h4:(((nextK rest:Nat):Int) == 4)=(nextK rest == 4):=by rw [Bool.eq_iff_iff,beq_iff_eq,beq_iff_eq]; omega
 rw [h3,h4,Lib.toList_data,Lib.toList_data,hx];rfl
theorem yG (R:Rp) (rest:aA) (w:World) (x:ByteArray) {l:List UInt8} (hx:x.data.toList=l) (hI:aK w R rest):
 Calls Tryz.prog 49 #[.pointer (some ⟨R.br,0,none⟩),.string x] w fun e w'=>e= .returned (.bool (at' l rest))∧Below w.heap.size w w':=by
 have HE:=ah (LB x hx rest);have HN:=ah (eH R rest w hI);unfold iY at HN;generalize at' l rest=res at *;generalize ((nextK rest:Nat):Int)=k at *;generalize ((aP rest:Nat):Int)=n at *;generalize tx (ay rest)=s at *;clear hI hx;go_enter Tryz.func49,Tryz.ntmps49;go_wp2_with fail;refine HN.o.mono ?_;rintro e w1 ⟨rfl,hb⟩;have HB:=ah hb;clear hb HN;go_wp2_with fail
 all_goals go_ret
 all_goals exact ⟨congrArg (fun b=>Ending.returned (.bool b)) (by rw [HE.o]; simp [*]),HB.o.alloc HB.o.size _⟩
theorem cell_far {w:World} {a:Addr} {v:Value} {g j:Nat} {u:Value} (h:a.block≠g) (hc:w.cell? ⟨g,j,none⟩=some u):(w.setCell a v).cell? ⟨g,j,none⟩=some u:=
 (World.cell?_of_block (a:=⟨g,j,none⟩) (aW w a v rfl h)).trans hc
theorem aV {b:Option Nat} {w w':World} (h:Below w.heap.size w w'):w.grownBy w' b:=⟨h.os,h.tape,h.output,h.size,fun k hk _=>h.block k hk⟩
theorem aK.nt {w:World} {R:Rp} {t:Tk.Tok} {r:aA} {pos:Nat} (h:aK w R (t ::r)) (hd:R.ts.drop pos=t ::r) (hb:w.heap[R.br]? =some (.cells #[.slice R.ao R.ts.length R.cap,.int .i64 (pos:Int)] 77 (0,0))):
 aK (w.setCell ⟨R.br,1,none⟩ (.int .i64 ((pos:Int) + 1))) R r∧w.grownBy (w.setCell ⟨R.br,1,none⟩ (.int .i64 ((pos:Int) + 1))) (some R.br):=
 ⟨h.next hd hb,dD w ⟨R.br,1,none⟩ _⟩
theorem aK.open {w:World} {R:Rp} {rest:aA} (h:aK w R rest): ∃pos:Nat,(pos<=R.ts.length∧pos<=4096)∧w.cell? ⟨R.br,0,none⟩=some (.slice R.ao R.ts.length R.cap)∧w.cell? ⟨R.br,1,none⟩=some (.int .i64 (pos:Int))∧w.frozen? ⟨R.br,1,none⟩=false∧
 aj (∀t r,rest=t ::r->aK (w.setCell ⟨R.br,1,none⟩ (.int .i64 ((pos:Int) + 1))) R r∧w.grownBy (w.setCell ⟨R.br,1,none⟩ (.int .i64 ((pos:Int) + 1))) (some R.br)):=by
 obtain ⟨pos,h1,h2,h3⟩:=h.blk;have:=h.ok.2;refine ⟨pos,⟨h1,by omega⟩,au h3 rfl,au h3 rfl,aB h3,ah (fun t r e=> ?_)⟩;subst e;exact h.nt h2 h3
theorem bQ (R:Rp) (rest:aA) (w:World) (x:ByteArray) {l:List UInt8} (hx:x.data.toList=l) (h:at' l rest=false) (hI:aK w R rest):
 Calls Tryz.prog 65 #[.pointer (some ⟨R.br,0,none⟩),.string x] w fun e w'=>e= .returned (.bool false)∧Below w.heap.size w w':=by
 have HN:=ah (yG R rest w x hx hI);rw [h] at HN;clear hI hx h;go_enter Tryz.func65,Tryz.ntmps65;go_wp2_with fail;refine HN.o.mono ?_;rintro e w1 ⟨rfl,hb⟩;have HB:=ah hb;clear hb HN;go_wp2_with fail;go_ret;exact ⟨rfl,HB.o⟩
theorem bf (R:Rp) (rest:aA) (w:World) (x:ByteArray) {l:List UInt8} (hx:x.data.toList=l) (h:at' l rest=true) (hI:aK w R rest):
 Calls Tryz.prog 65 #[.pointer (some ⟨R.br,0,none⟩),.string x] w fun e w'=>e= .returned (.bool true)∧aK w' R rest.tail∧w.grownBy w' (some R.br):=by
 have HN:=ah (yG R rest w x hx hI);rw [h] at HN;obtain ⟨t,r,hr⟩:=Ci h;have HR:=ah hr;have HI:=ah hI;clear hI hx h hr;go_enter Tryz.func65,Tryz.ntmps65;go_wp2_with fail;refine HN.o.mono ?_;rintro e w1 ⟨rfl,hb⟩;obtain ⟨pos,hp,c0,c1,f1,HX⟩:=(HI.o.below hb).open;have HB:=ah hb;clear hb HN;go_wp2_with fail;go_ret;obtain ⟨q1,q2⟩:=HX.o t r HR.o;exact ⟨rfl,by rw [HR.o]; exact q1,eu (aV HB.o) q2⟩
theorem oq (n:Nat) (rest:aA):(nextK rest == n)=(((nextK rest:Nat):Int) == (n:Int)):=by
 rw [Bool.eq_iff_iff,beq_iff_eq,beq_iff_eq]; omega
theorem iW (R:Rp) (rest:aA) (w:World) (h:isName rest=false) (hI:aK w R rest):
 Calls Tryz.prog 62 #[.pointer (some ⟨R.br,0,none⟩)] w fun e w'=>e= .returned (.tuple #[.string ⟨#[]⟩,.bool false])∧Below w.heap.size w w':=by
 have HN:=ah (eH R rest w hI);have h1:(((nextK rest:Nat):Int) == 1)=false:=(oq 1 rest).symm.trans h;unfold iY at HN;generalize ((nextK rest:Nat):Int)=k at *;clear hI h;go_enter Tryz.func62,Tryz.ntmps62;go_wp2_with fail;refine HN.o.mono ?_;rintro e w1 ⟨rfl,hb⟩;have HB:=ah hb;clear hb HN;go_wp2_with fail
 go_ret2
 exact ⟨rfl,HB.o.alloc HB.o.size _⟩
theorem gL (R:Rp) (rest:aA) (w:World) (h:isName rest=true) (hI:aK w R rest):
 Calls Tryz.prog 62 #[.pointer (some ⟨R.br,0,none⟩)] w fun e w'=>e= .returned (.tuple #[.string (tx (ay rest)),.bool true])∧aK w' R rest.tail∧w.grownBy w' (some R.br):=by
 have HN:=ah (eH R rest w hI);obtain ⟨t,r,hr⟩: ∃t r,rest=t ::r:=by
  cases rest with
  | nil=>exact absurd h (by simp [isName,nextK])
  | cons t r=>exact ⟨t,r,rfl⟩
 have HR:=ah hr;have HI:=ah hI;have hk:nextK rest=1:=by simpa [isName] using h
 unfold iY at HN;rw [hk] at HN;have HK:=ah hk;have hlt:=hI.lt;clear hI h hr hk;go_enter Tryz.func62,Tryz.ntmps62;go_wp2_with fail;refine HN.o.mono ?_;rintro e w1 ⟨rfl,hb⟩;have HB:=ah hb;clear hb HN;go_upto_region 2 with fail;obtain ⟨g,hg⟩: ∃g,w1.heap.size=g:=⟨_,rfl⟩;generalize hW:World.alloc w1 _=W;have HB1:aj (Below w.heap.size w W):=ah (by rw [<- hW]; exact HB.o.alloc HB.o.size _);have HC:aj (W.heap[g]? =some (.cells #[.int .i64 1,.string (tx (ay rest)),.int .i64 ((aP rest:Nat):Int)] 94 (0,0))):=ah (by rw [<- hW,<- hg]; exact heap_alloc_new _ _);have HG:aj (g≠R.br):=ah (by have:=HB.o.size; omega);rw [hg];have y0:W.cell? ⟨g,0,none⟩=some (.int .i64 1):=au HC.o rfl;have y1:W.cell? ⟨g,1,none⟩=some (.string (tx (ay rest))):=au HC.o rfl;obtain ⟨pos,hp,c0,c1,f1,HX⟩:=(HI.o.below HB1.o).open;have z1:(W.setCell ⟨R.br,1,none⟩ (.int .i64 ((pos:Int) + 1))).cell? ⟨g,1,none⟩=some (.string (tx (ay rest))):=cell_far (fun e=>HG.o e.symm) y1;clear hW hg HB;go_wp2_with fail
 go_ret2
 obtain ⟨q1,q2⟩:=HX.o t r HR.o;exact ⟨rfl,by rw [HR.o]; exact q1,eu (aV HB1.o) q2⟩
theorem op_spec (lv:Int) (rest:aA):opAt lv rest=if (((nextK rest:Nat):Int) == 4)=true∧((jW (ay rest)).2 == lv)=true then (jW (ay rest)).1 else 0:=by
 have h4:(((nextK rest:Nat):Int) == 4)=(nextK rest == 4):=by rw [Bool.eq_iff_iff,beq_iff_eq,beq_iff_eq]; omega
 rw [h4];unfold opAt;simp only [Bool.and_eq_true]
theorem D8 (R:Rp) (rest:aA) (w:World) (lv:Int) (hI:aK w R rest):
 Calls Tryz.prog 68 #[.pointer (some ⟨R.br,0,none⟩),.int .i64 lv] w fun e w'=>e= .returned (.int .i64 (opAt lv rest))∧Below w.heap.size w w':=by
 have HE:=ah (op_spec lv rest);have HN:=ah (eH R rest w hI);have HB0:aj (∀w,Calls Tryz.prog 74 #[.string (tx (ay rest))] w fun e w'=>e= .returned (.tuple #[.int .i64 (jW (ay rest)).1,.int .i64 (jW (ay rest)).2])∧w=w'):=ah (uW (tx (ay rest)) rfl);unfold iY at HN;generalize opAt lv rest=res at *;generalize ((nextK rest:Nat):Int)=k at *;generalize ((aP rest:Nat):Int)=n at *;generalize tx (ay rest)=s at *;generalize (jW (ay rest)).1=a at *;generalize (jW (ay rest)).2=b at *;clear hI;go_enter Tryz.func68,Tryz.ntmps68;go_wp2_with fail;refine HN.o.mono ?_;rintro e w1 ⟨rfl,hb⟩;have HB:=ah hb;clear hb HN;cases h4:(k == 4)
 ·go_wp2_with fail;go_ret;exact ⟨tQ (by rw [HE.o,if_neg (by rw [h4]; rintro ⟨h,-⟩; cases h)]),HB.o.alloc HB.o.size _⟩
 ·cases hl:(b == lv)
  all_goals go_wp2_with (with_reducible refine (HB0.o _).mono ?_; rintro e w2 ⟨rfl,rfl⟩);go_ret
  ·exact ⟨tQ (by rw [HE.o,if_neg (by rw [hl]; rintro ⟨-,h⟩; cases h)]),HB.o.alloc HB.o.size _⟩
  ·exact ⟨tQ (by rw [HE.o,if_pos ⟨h4,hl⟩]),HB.o.alloc HB.o.size _⟩
theorem aK.pos {w:World} {R:Rp} {rest:aA} (h:aK w R rest): ∃pos:Nat,pos<=R.ts.length∧R.ts.drop pos=rest∧w.cell? ⟨R.br,0,none⟩=some (.slice R.ao R.ts.length R.cap)∧w.cell? ⟨R.br,1,none⟩=some (.int .i64 (pos:Int)):=by
 obtain ⟨pos,h1,h2,h3⟩:=h.blk;exact ⟨pos,h1,h2,au h3 rfl,au h3 rfl⟩
theorem last_at {ts:aA} {n:Nat} (h:ts.length=n + 1): ∃t,ts.drop n=[t]∧ts.getLast? =some t:=by
 have hlt:n < ts.length:=by omega
 refine ⟨ts[n],?_,?_⟩
 ·rw [List.drop_eq_getElem_cons hlt,List.drop_eq_nil_iff.2 (by omega)]
 ·rw [List.getLast?_eq_getElem?,show ts.length - 1=n by omega]; exact List.getElem?_eq_getElem hlt
theorem tH (R:Rp) (rest:aA) (w:World) (hI:aK w R rest):
 Calls Tryz.prog 32 #[.pointer (some ⟨R.br,0,none⟩)] w fun e w'=>e= .returned (.int .i64 (dM R.ts rest))∧Below w.heap.size w w':=by
 obtain ⟨pos,hp,hd,c0,c1⟩:=hI.pos;have hl:=hI.ok.2;have hT:=hI.tok;by_cases h0:R.ts.length=0
 ·have HE:aj (dM R.ts rest=1):=ah (by have e:R.ts=[]:=List.length_eq_zero_iff.1 h0;rw [<- hd,e]; simp [dM]);rw [h0] at c0;clear hI hd hT;go_enter Tryz.func32,Tryz.ntmps32;go_wp2_with fail;go_ret;exact ⟨tQ HE.o.symm,Below.refl _ _⟩
 ·have h0':((R.ts.length:Int) == 0)=false:=by rw [beq_eq_false_iff_ne]; omega
  by_cases h1:R.ts.length<=pos
  ·obtain ⟨n,hn⟩: ∃n,R.ts.length=n + 1:=⟨R.ts.length - 1,by omega⟩;obtain ⟨t,ht,hlast⟩:=last_at hn;have HE:aj (dM R.ts rest=t.line):=ah (by have e:rest=[]:=(by rw [<- hd]; exact List.drop_eq_nil_iff.2 h1);rw [e]; simp [dM,hlast]);have hT':=hT.drop n;rw [Nat.zero_add] at hT';obtain ⟨b,off,hao,hb,e0,e1,e2⟩:=FV ht hT';rw [hao] at c0;have hq:decide ((R.ts.length:Int)<=(pos:Int))=true:=by rw [decide_eq_true_iff]; omega
   have hw:IntKind.i64.wrap ((R.ts.length:Int) - 1)=(n:Int):=by rw [hn]; rw [show ((n + 1:Nat):Int) - 1=(n:Int) by omega]; exact IntWalk.i64_in _ (by omega)
   have hb0:(0:Int)<=(n:Int):=by omega
   have hb1:(n:Int) < (R.ts.length:Int):=by omega
   clear hI hd hT hT' ht hlast hao e0 e1 hl;have HN:=ah hn;clear hn h0;go_enter Tryz.func32,Tryz.ntmps32;go_wp2_with fail;go_ret;exact ⟨tQ HE.o.symm,Below.refl _ _⟩
  ·obtain ⟨t,r,hr⟩: ∃t r,rest=t ::r:=by
    cases hrs:rest with
    | nil=>rw [hrs] at hd; exact absurd (List.drop_eq_nil_iff.1 hd) h1
    | cons t r=>exact ⟨t,r,rfl⟩
   have HE:aj (dM R.ts rest=t.line):=ah (by rw [hr]; rfl);have hT':=hT.drop pos;rw [Nat.zero_add] at hT';obtain ⟨b,off,hao,hb,e0,e1,e2⟩:=FV (hd.trans hr) hT';rw [hao] at c0;have hq:decide ((R.ts.length:Int)<=(pos:Int))=false:=by rw [decide_eq_false_iff_not]; omega
   have hb0:(0:Int)<=(pos:Int):=by omega
   have hb1:(pos:Int) < (R.ts.length:Int):=by omega
   clear hI hd hT hT' hao e0 e1 hl hr h0;go_enter Tryz.func32,Tryz.ntmps32;go_upto_region 6 with fail;go_quiet (fail);go_wp2_with fail;go_ret;exact ⟨tQ HE.o.symm,below_drewN (Below.refl _ _) _⟩
theorem Dw {w w':World} {T:TypeId} (h:w'=w∨ ∃t,w'=Lib.bytesWorld w T t):Below w.heap.size w w':=by
 rcases h with rfl | ⟨t,rfl⟩
 ·exact Below.refl _ _
 ·exact Lib.bytesWorld_below _ _ _
theorem qC (R:Rp) (rest:aA) (w:World) (h:isNum rest=false) (hI:aK w R rest):
 Calls Tryz.prog 71 #[.pointer (some ⟨R.br,0,none⟩)] w fun e w'=>e= .returned (.tuple #[.int .i64 0,.bool false])∧Below w.heap.size w w':=by
 have HN:=ah (eH R rest w hI);have h1:(((nextK rest:Nat):Int) == 2)=false:=(oq 2 rest).symm.trans h;unfold iY at HN;generalize ((nextK rest:Nat):Int)=k at *;clear hI h;go_enter Tryz.func71,Tryz.ntmps71;go_wp2_with fail;refine HN.o.mono ?_;rintro e w1 ⟨rfl,hb⟩;have HB:=ah hb;clear hb HN;go_wp2_with fail
 go_ret2
 exact ⟨rfl,HB.o.alloc HB.o.size _⟩
theorem sO (R:Rp) (rest:aA) (w:World) (h:isNum rest=true) (hI:aK w R rest):
 Calls Tryz.prog 71 #[.pointer (some ⟨R.br,0,none⟩)] w fun e w'=>e= .returned (.tuple #[.int .i64 ((Tk.val (ay rest):Nat):Int),.bool true])∧aK w' R rest.tail∧w.grownBy w' (some R.br):=by
 have HN:=ah (eH R rest w hI);obtain ⟨t,r,hr⟩: ∃t r,rest=t ::r:=by
  cases rest with
  | nil=>exact absurd h (by simp [isNum,nextK])
  | cons t r=>exact ⟨t,r,rfl⟩
 have HR:=ah hr;have HI:=ah hI;have hk:nextK rest=2:=by simpa [isNum] using h
 have hts:=IZ hI.ts h;have hsz:(tx (ay rest)).size<=9223372036854775806:=by have:=(hI.RO t (by rw [hr]; simp)).2.2.2;rw [hr]; show t.text.toArray.size<=_;simp; omega
 have HP:aj (∀w,Calls Tryz.prog 80 #[.string (tx (ay rest)),.int .i64 10,.int .i64 64] w fun e w'=>e= .returned (.tuple #[.int .i64 ((Tk.val (ay rest):Nat):Int),.nilIface])∧(w'=w∨ ∃t,w'=Lib.bytesWorld w 5 t)):=ah (fun w=>Tryz.strconv_ParseInt_10_at64_ok (tx (ay rest)) hsz _ (by rw [A9]; exact Iy hts.1.1 hts.1.2 hts.2) w);unfold iY at HN;rw [hk] at HN;have hlt:=hI.lt;clear hI h hr hk hts;generalize ((Tk.val (ay rest):Nat):Int)=n at *;go_enter Tryz.func71,Tryz.ntmps71;go_wp2_with fail;refine HN.o.mono ?_;rintro e w1 ⟨rfl,hb⟩;have HB:=ah hb;clear hb HN;go_wp2_with fail;refine (HP.o _).mono ?_;rintro e w2 ⟨rfl,hb⟩;have HB2:aj (Below w.heap.size w w2):=ah ((HB.o.alloc HB.o.size _).trans ((Dw hb).mono (by have:=HB.o.size; simp; omega)));obtain ⟨pos,hp,c0,c1,f1,HX⟩:=(HI.o.below HB2.o).open;clear hb HP;go_wp2_with fail
 go_ret2
 obtain ⟨q1,q2⟩:=HX.o t r HR.o;exact ⟨rfl,by rw [HR.o]; exact q1,eu (aV HB2.o) q2⟩
end Go.Proofs.YtkajcclnlehkmaaGreatDoor
