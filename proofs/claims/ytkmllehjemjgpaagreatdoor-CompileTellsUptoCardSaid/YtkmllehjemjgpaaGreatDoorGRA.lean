/- What words and signs begin: contracts of binaryOperator, declared, rest. And what hangs on it. -/
import Derived.Test.YtkmllehjemjgpaaGreatDoorGZA
import Derived.Test.YtkmllehjemjgpaaGreatDoorGMA
import Derived.Test.YtkmllehjemjgpaaGreatDoorGZB
import Derived.Test.YtkmllehjemjgpaaGreatDoorGMB
import Derived.Deep.QuietTactic
import Derived.BigQuiet
import Derived.StillTailTactics
import Derived.Deep.CutBlock
import Derived.IntWalk
import Derived.Outline
import Derived.Lib.AtoiErrMem
import Derived.Test.YtkmllehjemjgpaaGreatDoorShelf
set_option linter.unusedSimpArgs false
set_option linter.unusedVariables false
set_option maxHeartbeats 40000000
set_option maxRecDepth 1000000
namespace Go.Proofs.YtkmllehjemjgpaaGreatDoor
open Go.RowKit
open Md Pz
theorem Mg {a b:Int} (h:a=b):Ending.returned (.int .i64 a)= .returned (.int .i64 b):=by rw[h]
theorem ET (x:ByteArray) {l:List UInt8} (hx:x.data.toList=l) (w:World):
 Calls Tryz.prog 101 #[.string x] w λe w'=>e= .returned (.int .i64 (pX l))∧w=w':=by
 have hl:x.toList=l:=by rw[Lib.toList_data];exact hx
 go_enter Tryz.func101,Tryz.ntmps101;go_wp2
 all_goals go_ret
 all_goals exact⟨Mg (by unfold pX;simp only[*];rfl),rfl⟩
theorem ay4 {a b c d:Int} (h:(a,c)=(b,d)):Ending.returned (.tuple #[.int .i64 a,.int .i64 c])= .returned (.tuple #[.int .i64 b,.int .i64 d]):=by
 injection h with h1 h2;rw[h1,h2]
theorem EK (x:ByteArray) {l:List UInt8} (hx:x.data.toList=l) (w:World):
 Calls Tryz.prog 198 #[.string x] w λe w'=>e= .returned (.tuple #[.int .i64 (uU l).1,.int .i64 (uU l).2])∧w=w':=by
 have hl:x.toList=l:=by rw[Lib.toList_data];exact hx
 go_enter Tryz.func198,Tryz.ntmps198;go_wp2
 all_goals go_ret2
 all_goals exact⟨ay4 (by unfold uU;simp only[*];rfl),rfl⟩
def rdV (op:Int):Value:=
 if op==2 then .func (.func 171) #[] #[]else if op==3 then .func (.func 172) #[] #[]
 else if op==4||op==5||op==6 then .func (.func 173) #[] #[]else if op==7||op==8 then .func (.func 174) #[] #[]
 else if op==14 then .func (.func 176) #[] #[]else if op==15 then .func (.func 177) #[] #[]
 else if op==0 then .nilFunc else .func (.func 175) #[] #[]
theorem aC8 {a b:Int} {v:Value} (h:a=b) (hv:v=rdV a):Ending.returned (.tuple #[.int .i64 a,v])= .returned (.tuple #[.int .i64 b,rdV b]):=by rw[<- h,hv]
theorem Yy (x:ByteArray) {l:List UInt8} (hx:x.data.toList=l) (w:World):
 Calls Tryz.prog 164 #[.string x] w λe w'=>e= .returned (.tuple #[.int .i64 (OY l),rdV (OY l)])∧w=w':=by
 have hl:x.toList=l:=by rw[Lib.toList_data];exact hx
 go_enter Tryz.func164,Tryz.ntmps164;go_wp2
 all_goals go_ret2
 all_goals exact⟨aC8 (by unfold OY;simp only[*];rfl) (by rfl),rfl⟩
def uZ (w:World) (B:Nat):aO->Option Addr->Nat->Prop
 | [],_,_=>True
 |t::r,ao,k=>(∃b off,ao=some ⟨b,off,none⟩∧b<B∧w.cell? ⟨b,off+k*3,none⟩=some (.int .i64 (t.kind:Int))∧w.cell? ⟨b,off+k*3+1,none⟩=some (.string (tx t.text))∧w.cell? ⟨b,off+k*3+2,none⟩=some (.int .i64 (t.line:Int)))∧uZ w B r ao (k+1)
theorem uZ.below {w w':World} {B:Nat} (hb:Below B w w'): ∀ {l:aO} {ao:Option Addr} {k:Nat},uZ w B l ao k->uZ w' B l ao k
 | [],_,_,_=>trivial
 |_::_,_,_,⟨⟨b,off,e,hB,c0,c1,c2⟩,hr⟩=>⟨⟨b,off,e,hB,(hb.cell hB).trans c0,(hb.cell hB).trans c1,(hb.cell hB).trans c2⟩,uZ.below hb hr⟩
theorem uZ.drop {w:World} {B:Nat} : ∀ {l:aO} {ao:Option Addr} {k:Nat} (i:Nat),uZ w B l ao k->uZ w B (l.drop i) ao (k+i)
 |_,_,_,0,h=>h
 | [],_,_,_+1,_=>by simp[uZ]
 |_::_,_,k,i+1,⟨_,hr⟩=>by have:=uZ.drop i hr;rw[List.drop_succ_cons];rwa [Nat.add_assoc,Nat.add_comm 1 i]at this
structure Rp where
 B0:Nat
 br:Nat
 ao:Option Addr
 cap:Nat
 ts:aO
 b0:B0<=br
structure dM (w:World) (R:Rp) (rest:aO):Prop where
 blk: ∃pos:Nat,pos<=R.ts.length∧R.ts.drop pos=rest∧w.heap[R.br]? =some (.cells #[.slice R.ao R.ts.length R.cap,.int .i64 (pos:Int)] 123 (0,0))
 tok:uZ w R.B0 R.ts R.ao 0
 ok:EG R.ts∧R.ts.length<=4096
 tl:Uc R.ts
theorem dM.lt {w:World} {R:Rp} {rest:aO} (h:dM w R rest):R.br<w.heap.size:=by obtain⟨a,-,-,h⟩:=h.blk;exact(Array.getElem?_eq_some_iff.1 h).1
theorem dM.ts {w:World} {R:Rp} {rest:aO} (h:dM w R rest):EG rest:=by
 obtain⟨a,-,rfl,-⟩:=h.blk;exact λt ht=>h.ok.1 t (List.mem_of_mem_drop ht)
theorem dM.tsl {w:World} {R:Rp} {rest:aO} (h:dM w R rest):Uc rest:=by
 obtain⟨a,-,rfl,-⟩:=h.blk;exact λt ht=>h.tl t (List.mem_of_mem_drop ht)
theorem dM.len {w:World} {R:Rp} {rest:aO} (h:dM w R rest):rest.length<=4096:=by
 obtain⟨a,-,rfl,-⟩:=h.blk;have:=h.ok.2;simp;omega
theorem dM.below {w w':World} {R:Rp} {rest:aO} (h:dM w R rest) (hb:Below w.heap.size w w'):dM w' R rest:=by
 obtain⟨a,h1,h2,h3⟩:=h.blk;exact⟨⟨a,h1,h2,(hb.block _ h.lt).trans h3⟩,h.tok.below (hb.mono (Nat.le_trans R.b0 (Nat.le_of_lt h.lt))),h.ok,h.tl⟩
theorem dM.next {w:World} {R:Rp} {t:Tk.Tok} {r:aO} {pos:Nat} (h:dM w R (t::r)) (hd:R.ts.drop pos=t::r) (hb:w.heap[R.br]? =some (.cells #[.slice R.ao R.ts.length R.cap,.int .i64 (pos:Int)] 123 (0,0))):dM (w.setCell ⟨R.br,1,none⟩ (.int .i64 ((pos:Int)+1))) R r:=by
 have hlt:pos<R.ts.length:=by have:=congrArg List.length hd;simp at this;omega
 refine⟨⟨pos+1,hlt,?_,by rw[eZ hb];rfl⟩,h.tok.below (bL (bQ _ _ _) R.b0 (Nat.le_trans R.b0 (Nat.le_of_lt h.lt))),h.ok,h.tl⟩;rw[<- List.drop_drop,hd];rfl
def vE (ts:aO):Value:= .agg #[.int .i64 (nextK ts:Nat),.string (tx (aQ ts)),.int .i64 (dV ts:Nat)]
theorem Bp (w:World) (cs:Array Value) (t:TypeId) (n:Nat):Below w.heap.size w ((w.alloc (.cells cs t)).drewN n)∧((w.alloc (.cells cs t)).drewN n).heap[w.heap.size]? =some (.cells cs t (0,0)):=
 ⟨below_drewN (ak _ _) n,((below_drewN (Below.refl (w.alloc (.cells cs t)).heap.size _) n).block _ (by simp)).trans (heap_alloc_new w _)⟩
theorem oC {B:Nat} {w w':World} (h:Below B w w') (a:Addr) (v:Value) (hb:B<=a.block):Below B w (w'.setCell a v):=
 ⟨h.os,h.tape,h.output,by have:=h.size;simpa[World.setCell]using this,λk hk=>(bY w' a v rfl (by omega)).trans (h.block k hk)⟩
theorem aD4 {w:World} {B:Nat} : ∀ {l:aO} {ao:Option Addr} {k:Nat} {t:Tk.Tok} {r:aO},l=t::r->uZ w B l ao k->∃b off,ao=some ⟨b,off,none⟩∧b<B∧w.cell? ⟨b,off+k*3,none⟩=some (.int .i64 (t.kind:Int))∧w.cell? ⟨b,off+k*3+1,none⟩=some (.string (tx t.text))∧w.cell? ⟨b,off+k*3+2,none⟩=some (.int .i64 (t.line:Int))
 |_,_,_,_,_,rfl,h=>h.1
theorem qb (R:Rp) (rest:aO) (w:World) (hI:dM w R rest):
 Calls Tryz.prog 100 #[.pointer (some ⟨R.br,0,none⟩)] w λe w'=>e= .returned (vE rest)∧Below w.heap.size w w':=by
 obtain⟨pos,hp,hd,hblk⟩:=hI.blk;have HI:=ah hI;have HD:=ah hd;have c0:w.cell? ⟨R.br,0,none⟩=some (.slice R.ao R.ts.length R.cap):=au hblk rfl;have c1:w.cell? ⟨R.br,1,none⟩=some (.int .i64 (pos:Int)):=au hblk rfl;have hl:=hI.ok.2;have hlt:=hI.lt;clear hI hd hblk;by_cases hlt2:R.ts.length<=pos
 ·have hq:decide ((R.ts.length:Int)<=(pos:Int))=true:=by rw[decide_eq_true_iff];omega
  have HR:aj (rest=[]):=ah (by rw[<- HD.o];exact List.drop_eq_nil_iff.2 hlt2);go_enter Tryz.func100,Tryz.ntmps100;go_upto_region 1 with fail;go_quiet (fail);generalize hW:World.drewN (World.alloc w _) _=W1;have HB1:aj (Below w.heap.size w W1):=ah (by rw[<- hW];exact(Bp w _ _ _).1);have xH:aj (W1.heap[w.heap.size]? =some (.cells #[.int .i64 0,.string ⟨#[]⟩,.int .i64 0] 145 (0,0))):=ah (by rw[<- hW];exact(Bp w _ _ _).2);clear hW c0 c1 hq;have y0:W1.cell? ⟨w.heap.size,0,none⟩=some (.int .i64 0):=au xH.o rfl;have y1:W1.cell? ⟨w.heap.size,1,none⟩=some (.string ⟨#[]⟩):=au xH.o rfl;have y2:W1.cell? ⟨w.heap.size,2,none⟩=some (.int .i64 0):=au xH.o rfl;have f0:W1.frozen? ⟨w.heap.size,0,none⟩=false:=bG xH.o;have f1:W1.frozen? ⟨w.heap.size,1,none⟩=false:=bG xH.o;have f2:W1.frozen? ⟨w.heap.size,2,none⟩=false:=bG xH.o;go_wp2_with fail;have hr:=HR.o;subst hr;exact bodyPost_ret (v:=vE []) (by simp[results,Tryz.results100,go_sem,y0,y1,y2,vE,nextK,aQ,dV,tx]) rfl ⟨rfl,oC (oC (oC HB1.o _ _ (Nat.le_refl _)) _ _ (Nat.le_refl _)) _ _ (Nat.le_refl _)⟩
 ·have hq:decide ((R.ts.length:Int)<=(pos:Int))=false:=by rw[decide_eq_false_iff_not];omega
  obtain⟨t,r,HR⟩: ∃t r,aj (rest=t::r):=by
   cases hrs:rest with
   |nil=>rw[hrs]at HD;exact absurd (List.drop_eq_nil_iff.1 HD.o) hlt2
   |cons t r=>exact⟨t,r,ah rfl⟩
  have Ql:aj (∀w',Below w.heap.size w w'->∃b off,R.ao=some ⟨b,off,none⟩∧b<R.B0∧w'.cell? ⟨b,off+pos*3,none⟩=some (.int .i64 (t.kind:Int))∧w'.cell? ⟨b,off+pos*3+1,none⟩=some (.string (tx t.text))∧w'.cell? ⟨b,off+pos*3+2,none⟩=some (.int .i64 (t.line:Int))):=ah (λw' hb=>by have:=(HI.o.below hb).tok.drop pos;rw[Nat.zero_add]at this;exact aD4 (HD.o.trans HR.o) this);obtain⟨bb,off,hao,hbb,-⟩:=Ql.o w (Below.refl _ _);have xG:=ah hao;rw[hao]at c0;clear hao;go_enter Tryz.func100,Tryz.ntmps100;go_upto_region 1 with fail;go_quiet (fail);generalize hW:World.drewN (World.alloc w _) _=W1;have HB1:aj (Below w.heap.size w W1):=ah (by rw[<- hW];exact(Bp w _ _ _).1);have xH:aj (W1.heap[w.heap.size]? =some (.cells #[.int .i64 0,.string ⟨#[]⟩,.int .i64 0] 145 (0,0))):=ah (by rw[<- hW];exact(Bp w _ _ _).2);have d0:W1.cell? ⟨R.br,0,none⟩=some (.slice (some ⟨bb,off,none⟩) R.ts.length R.cap):=(HB1.o.cell hlt).trans c0;have d1:W1.cell? ⟨R.br,1,none⟩=some (.int .i64 (pos:Int)):=(HB1.o.cell hlt).trans c1;obtain⟨b',off',hao,-,e0,e1,e2⟩:=Ql.o W1 HB1.o;rw[xG.o]at hao;injection hao with hao;injection hao with h1 h2;subst h1;subst h2;clear hW c0 c1 hq Ql;have y0:W1.cell? ⟨w.heap.size,0,none⟩=some (.int .i64 0):=au xH.o rfl;have y1:W1.cell? ⟨w.heap.size,1,none⟩=some (.string ⟨#[]⟩):=au xH.o rfl;have y2:W1.cell? ⟨w.heap.size,2,none⟩=some (.int .i64 0):=au xH.o rfl;have f0:W1.frozen? ⟨w.heap.size,0,none⟩=false:=bG xH.o;have f1:W1.frozen? ⟨w.heap.size,1,none⟩=false:=bG xH.o;have f2:W1.frozen? ⟨w.heap.size,2,none⟩=false:=bG xH.o;have hb0:(0:Int)<=(pos:Int):=by omega
  have hb1:(pos:Int)<(R.ts.length:Int):=by omega
  go_upto_region 3 with fail;go_still_tail 10,(by kernel_rfl);change wpList _ _ _ _ _ W1.drew;have HB2:aj (Below w.heap.size w W1.drew):=ah (below_drewN HB1.o 1);have hr:=HR.o;go_wp2_with fail;subst hr;exact bodyPost_ret (v:=vE (t::r)) (by simp[results,Tryz.results100,go_sem,y0,y1,y2,vE,nextK,aQ,dV]) rfl ⟨rfl,oC (oC (oC HB2.o _ _ (Nat.le_refl _)) _ _ (Nat.le_refl _)) _ _ (Nat.le_refl _)⟩
theorem ab4 (x:ByteArray) {l:List UInt8} (hx:x.data.toList=l) (rest:aO):
 at' l rest=(((((nextK rest:Nat):Int)==3)||(((nextK rest:Nat):Int)==4))&&((tx (aQ rest)).toList==x.toList)):=by
 have h3:(((nextK rest:Nat):Int)==3)=(nextK rest==3):=by rw[Bool.eq_iff_iff,beq_iff_eq,beq_iff_eq];omega
 have h4:(((nextK rest:Nat):Int)==4)=(nextK rest==4):=by rw[Bool.eq_iff_iff,beq_iff_eq,beq_iff_eq];omega
 rw[h3,h4,Lib.toList_data,Lib.toList_data,hx];rfl
theorem J9 (R:Rp) (rest:aO) (w:World) (x:ByteArray) {l:List UInt8} (hx:x.data.toList=l) (hI:dM w R rest):
 Calls Tryz.prog 103 #[.pointer (some ⟨R.br,0,none⟩),.string x] w λe w'=>e= .returned (.bool (at' l rest))∧Below w.heap.size w w':=by
 have HE:=ah (ab4 x hx rest);have HN:=ah (qb R rest w hI);unfold vE at HN;generalize at' l rest=res at *;generalize ((nextK rest:Nat):Int)=k at *;generalize ((dV rest:Nat):Int)=n at *;generalize tx (aQ rest)=s at *;clear hI hx;go_enter Tryz.func103,Tryz.ntmps103;go_wp2_with fail;refine HN.o.mono ?_;rintro e w1 ⟨rfl,hb⟩;have HB:=ah hb;clear hb HN;go_wp2_with fail
 all_goals go_ret
 all_goals exact⟨congrArg (λb=>Ending.returned (.bool b)) (by rw[HE.o];simp[*]),HB.o.alloc HB.o.size _⟩
theorem cell_far {w:World} {a:Addr} {v:Value} {g j:Nat} {u:Value} (h:a.block≠g) (hc:w.cell? ⟨g,j,none⟩=some u):(w.setCell a v).cell? ⟨g,j,none⟩=some u:=
 (World.cell?_of_block (a:=⟨g,j,none⟩) (bY w a v rfl h)).trans hc
theorem iR {b:Option Nat} {w w':World} (h:Below w.heap.size w w'):w.grownBy w' b:=⟨h.os,h.tape,h.output,h.size,λk hk _=>h.block k hk⟩
theorem dM.nt {w:World} {R:Rp} {t:Tk.Tok} {r:aO} {pos:Nat} (h:dM w R (t::r)) (hd:R.ts.drop pos=t::r) (hb:w.heap[R.br]? =some (.cells #[.slice R.ao R.ts.length R.cap,.int .i64 (pos:Int)] 123 (0,0))):
 dM (w.setCell ⟨R.br,1,none⟩ (.int .i64 ((pos:Int)+1))) R r∧w.grownBy (w.setCell ⟨R.br,1,none⟩ (.int .i64 ((pos:Int)+1))) (some R.br):=
 ⟨h.next hd hb,bQ w ⟨R.br,1,none⟩ _⟩
theorem dM.open {w:World} {R:Rp} {rest:aO} (h:dM w R rest): ∃pos:Nat,(pos<=R.ts.length∧pos<=4096)∧w.cell? ⟨R.br,0,none⟩=some (.slice R.ao R.ts.length R.cap)∧w.cell? ⟨R.br,1,none⟩=some (.int .i64 (pos:Int))∧w.frozen? ⟨R.br,1,none⟩=false∧
 aj (∀t r,rest=t::r->dM (w.setCell ⟨R.br,1,none⟩ (.int .i64 ((pos:Int)+1))) R r∧w.grownBy (w.setCell ⟨R.br,1,none⟩ (.int .i64 ((pos:Int)+1))) (some R.br)):=by
 obtain⟨pos,h1,h2,h3⟩:=h.blk;have:=h.ok.2;refine⟨pos,⟨h1,by omega⟩,au h3 rfl,au h3 rfl,bG h3,ah (λt r e=> ?_)⟩;subst e;exact h.nt h2 h3
theorem ow (R:Rp) (rest:aO) (w:World) (x:ByteArray) {l:List UInt8} (hx:x.data.toList=l) (h:at' l rest=false) (hI:dM w R rest):
 Calls Tryz.prog 143 #[.pointer (some ⟨R.br,0,none⟩),.string x] w λe w'=>e= .returned (.bool false)∧Below w.heap.size w w':=by
 have HN:=ah (J9 R rest w x hx hI);rw[h]at HN;clear hI hx h;go_enter Tryz.func143,Tryz.ntmps143;go_wp2_with fail;refine HN.o.mono ?_;rintro e w1 ⟨rfl,hb⟩;have HB:=ah hb;clear hb HN;go_wp2_with fail;go_ret;exact⟨rfl,HB.o⟩
theorem jN (R:Rp) (rest:aO) (w:World) (x:ByteArray) {l:List UInt8} (hx:x.data.toList=l) (h:at' l rest=true) (hI:dM w R rest):
 Calls Tryz.prog 143 #[.pointer (some ⟨R.br,0,none⟩),.string x] w λe w'=>e= .returned (.bool true)∧dM w' R rest.tail∧w.grownBy w' (some R.br):=by
 have HN:=ah (J9 R rest w x hx hI);rw[h]at HN;obtain⟨t,r,hr⟩:=Uh h;have HR:=ah hr;have HI:=ah hI;clear hI hx h hr;go_enter Tryz.func143,Tryz.ntmps143;go_wp2_with fail;refine HN.o.mono ?_;rintro e w1 ⟨rfl,hb⟩;obtain⟨pos,hp,c0,c1,f1,HX⟩:=(HI.o.below hb).open;have HB:=ah hb;clear hb HN;go_wp2_with fail;go_ret;obtain⟨q1,q2⟩:=HX.o t r HR.o;exact⟨rfl,by rw[HR.o];exact q1,gY (iR HB.o) q2⟩
theorem LC (n:Nat) (rest:aO):(nextK rest==n)=(((nextK rest:Nat):Int)==(n:Int)):=by
 rw[Bool.eq_iff_iff,beq_iff_eq,beq_iff_eq];omega
theorem sV (R:Rp) (rest:aO) (w:World) (h:isName rest=true) (hI:dM w R rest):
 Calls Tryz.prog 140 #[.pointer (some ⟨R.br,0,none⟩)] w λe w'=>e= .returned (.tuple #[.string (tx (aQ rest)),.bool true])∧dM w' R rest.tail∧w.grownBy w' (some R.br):=by
 have HN:=ah (qb R rest w hI);obtain⟨t,r,hr⟩: ∃t r,rest=t::r:=by
  cases rest with
  |nil=>exact absurd h (by simp[isName,nextK])
  |cons t r=>exact⟨t,r,rfl⟩
 have HR:=ah hr;have HI:=ah hI;have hk:nextK rest=1:=by simpa[isName]using h
 unfold vE at HN;rw[hk]at HN;have HK:=ah hk;have hlt:=hI.lt;clear hI h hr hk;go_enter Tryz.func140,Tryz.ntmps140;go_wp2_with fail;refine HN.o.mono ?_;rintro e w1 ⟨rfl,hb⟩;have HB:=ah hb;clear hb HN;go_upto_region 2 with fail;obtain⟨g,hg⟩: ∃g,w1.heap.size=g:=⟨_,rfl⟩;generalize hW:World.alloc w1 _=W;have HB1:aj (Below w.heap.size w W):=ah (by rw[<- hW];exact HB.o.alloc HB.o.size _);have HC:aj (W.heap[g]? =some (.cells #[.int .i64 1,.string (tx (aQ rest)),.int .i64 ((dV rest:Nat):Int)] 145 (0,0))):=ah (by rw[<- hW,<- hg];exact heap_alloc_new _ _);have HG:aj (g≠R.br):=ah (by have:=HB.o.size;omega);rw[hg];have y0:W.cell? ⟨g,0,none⟩=some (.int .i64 1):=au HC.o rfl;have y1:W.cell? ⟨g,1,none⟩=some (.string (tx (aQ rest))):=au HC.o rfl;obtain⟨pos,hp,c0,c1,f1,HX⟩:=(HI.o.below HB1.o).open;have z1:(W.setCell ⟨R.br,1,none⟩ (.int .i64 ((pos:Int)+1))).cell? ⟨g,1,none⟩=some (.string (tx (aQ rest))):=cell_far (λe=>HG.o e.symm) y1;clear hW hg HB;go_wp2_with fail
 go_ret2
 obtain⟨q1,q2⟩:=HX.o t r HR.o;exact⟨rfl,by rw[HR.o];exact q1,gY (iR HB1.o) q2⟩
theorem op_spec (lv:Int) (rest:aO):opAt lv rest=if(((nextK rest:Nat):Int)==4)=true∧((uU (aQ rest)).2==lv)=true then(uU (aQ rest)).1 else 0:=by
 have h4:(((nextK rest:Nat):Int)==4)=(nextK rest==4):=by rw[Bool.eq_iff_iff,beq_iff_eq,beq_iff_eq];omega
 rw[h4];unfold opAt;simp only[Bool.and_eq_true]
theorem OG (R:Rp) (rest:aO) (w:World) (lv:Int) (hI:dM w R rest):
 Calls Tryz.prog 195 #[.pointer (some ⟨R.br,0,none⟩),.int .i64 lv] w λe w'=>e= .returned (.int .i64 (opAt lv rest))∧Below w.heap.size w w':=by
 have HE:=ah (op_spec lv rest);have HN:=ah (qb R rest w hI);have HB0:aj (∀w,Calls Tryz.prog 198 #[.string (tx (aQ rest))] w λe w'=>e= .returned (.tuple #[.int .i64 (uU (aQ rest)).1,.int .i64 (uU (aQ rest)).2])∧w=w'):=ah (EK (tx (aQ rest)) rfl);unfold vE at HN;generalize opAt lv rest=res at *;generalize ((nextK rest:Nat):Int)=k at *;generalize ((dV rest:Nat):Int)=n at *;generalize tx (aQ rest)=s at *;generalize (uU (aQ rest)).1=a at *;generalize (uU (aQ rest)).2=b at *;clear hI;go_enter Tryz.func195,Tryz.ntmps195;go_wp2_with fail;refine HN.o.mono ?_;rintro e w1 ⟨rfl,hb⟩;have HB:=ah hb;clear hb HN;cases h4:(k==4)
 ·go_wp2_with fail;go_ret;exact⟨Mg (by rw[HE.o,if_neg (by rw[h4];rintro⟨h,-⟩;cases h)]),HB.o.alloc HB.o.size _⟩
 ·cases hl:(b==lv)
  all_goals go_wp2_with (with_reducible refine(HB0.o _).mono ?_;rintro e w2 ⟨rfl,rfl⟩);go_ret
  ·exact⟨Mg (by rw[HE.o,if_neg (by rw[hl];rintro⟨-,h⟩;cases h)]),HB.o.alloc HB.o.size _⟩
  ·exact⟨Mg (by rw[HE.o,if_pos ⟨h4,hl⟩]),HB.o.alloc HB.o.size _⟩
theorem dM.pos {w:World} {R:Rp} {rest:aO} (h:dM w R rest): ∃pos:Nat,pos<=R.ts.length∧R.ts.drop pos=rest∧w.cell? ⟨R.br,0,none⟩=some (.slice R.ao R.ts.length R.cap)∧w.cell? ⟨R.br,1,none⟩=some (.int .i64 (pos:Int)):=by
 obtain⟨pos,h1,h2,h3⟩:=h.blk;exact⟨pos,h1,h2,au h3 rfl,au h3 rfl⟩
theorem Pt {w w':World} {T:TypeId} (h:w'=w∨∃t,w'=Lib.bytesWorld w T t):Below w.heap.size w w':=by
 rcases h with rfl|⟨t,rfl⟩
 ·exact Below.refl _ _
 ·exact Lib.bytesWorld_below _ _ _
theorem Vw (R:Rp) (rest:aO) (w:World) (h:isNum rest=false) (hI:dM w R rest):
 Calls Tryz.prog 152 #[.pointer (some ⟨R.br,0,none⟩)] w λe w'=>e= .returned (.tuple #[.int .i64 0,.bool false])∧Below w.heap.size w w':=by
 have HN:=ah (qb R rest w hI);have h1:(((nextK rest:Nat):Int)==2)=false:=(LC 2 rest).symm.trans h;unfold vE at HN;generalize ((nextK rest:Nat):Int)=k at *;clear hI h;go_enter Tryz.func152,Tryz.ntmps152;go_wp2_with fail;refine HN.o.mono ?_;rintro e w1 ⟨rfl,hb⟩;have HB:=ah hb;clear hb HN;go_wp2_with fail
 go_ret2
 exact⟨rfl,HB.o.alloc HB.o.size _⟩
theorem Ra (R:Rp) (rest:aO) (w:World) (h:isNum rest=true) (hI:dM w R rest):
 Calls Tryz.prog 152 #[.pointer (some ⟨R.br,0,none⟩)] w λe w'=>e= .returned (.tuple #[.int .i64 ((Tk.val (aQ rest):Nat):Int),.bool true])∧dM w' R rest.tail∧w.grownBy w' (some R.br):=by
 have HN:=ah (qb R rest w hI);obtain⟨t,r,hr⟩: ∃t r,rest=t::r:=by
  cases rest with
  |nil=>exact absurd h (by simp[isNum,nextK])
  |cons t r=>exact⟨t,r,rfl⟩
 have HR:=ah hr;have HI:=ah hI;have hk:nextK rest=2:=by simpa[isNum]using h
 have hts:=Wn hI.ts h;have hsz:(tx (aQ rest)).size<=9223372036854775806:=by have:=(hI.tsl t (by rw[hr];simp)).2.2.2;rw[hr];show t.text.toArray.size<=_;simp;omega
 have HP:aj (∀w,Calls Tryz.prog 162 #[.string (tx (aQ rest)),.int .i64 10,.int .i64 64] w λe w'=>e= .returned (.tuple #[.int .i64 ((Tk.val (aQ rest):Nat):Int),.nilIface])∧(w'=w∨∃t,w'=Lib.bytesWorld w 5 t)):=ah (λw=>Tryz.strconv_ParseInt_10_at64_ok (tx (aQ rest)) hsz _ (by rw[Ku];exact VB hts.1.1 hts.1.2 hts.2) w);unfold vE at HN;rw[hk]at HN;have hlt:=hI.lt;clear hI h hr hk hts;generalize ((Tk.val (aQ rest):Nat):Int)=n at *;go_enter Tryz.func152,Tryz.ntmps152;go_wp2_with fail;refine HN.o.mono ?_;rintro e w1 ⟨rfl,hb⟩;have HB:=ah hb;clear hb HN;go_wp2_with fail;refine(HP.o _).mono ?_;rintro e w2 ⟨rfl,hb⟩;have HB2:aj (Below w.heap.size w w2):=ah ((HB.o.alloc HB.o.size _).trans ((Pt hb).mono (by have:=HB.o.size;simp;omega)));obtain⟨pos,hp,c0,c1,f1,HX⟩:=(HI.o.below HB2.o).open;clear hb HP;go_wp2_with fail
 go_ret2
 obtain⟨q1,q2⟩:=HX.o t r HR.o;exact⟨rfl,by rw[HR.o];exact q1,gY (iR HB2.o) q2⟩
def Gn (x:E):Prop:=sD x.op x.n x.nm x.kids
def EV (B:Nat) (x:E) (v:Value) (w:World):Prop:= ∃ao cap,v=exV x.op x.n x.nm x.kids ao cap∧Gn x∧ig B w (λw2=>x.kids.At w2 w2.heap.size ao 0)
theorem EV.next {B:Nat} {x:E} {v:Value} {w w':World} (h:EV B x v w) (ha:lF B w w'):EV B x v w':=by
 obtain⟨ao,cap,h1,h2,h3⟩:=h;exact⟨ao,cap,h1,h2,h3.next ha⟩
theorem EV.mono {B B':Nat} {x:E} {v:Value} {w:World} (h:EV B' x v w) (hB:B<=B'):EV B x v w:=by
 obtain⟨ao,cap,h1,h2,h3⟩:=h;exact⟨ao,cap,h1,h2,h3.mono hB⟩
def zE:Value:= .agg #[.int .i64 0,.int .i64 0,.string ⟨#[]⟩,.slice none 0 0]
def uy (R:Rp) (w:World) (r:nE E) (e:Ending) (w':World):Prop:=
 match r with
 | .ok x rest=> ∃v,e= .returned (.tuple #[v,.bool true])∧EV w.heap.size x v w'∧dM w' R rest∧w.grownBy w' (some R.br)
 | .no rest=>e= .returned (.tuple #[zE,.bool false])∧dM w' R rest∧w.grownBy w' (some R.br)
def yZ (w:World) (b:Nat) (v0 v1 v2 v3:Value):World:=(((w.setCell ⟨b,0,none⟩ v0).setCell ⟨b,1,none⟩ v1).setCell ⟨b,2,none⟩ v2).setCell ⟨b,3,none⟩ v3
theorem Ay {br:Nat} {w w':World} (h:w.grownBy w' (some br)) (a:Addr) (v:Value) (hb:w.heap.size<=a.block):w.grownBy (w'.setCell a v) (some br):=
 ⟨h.os,h.tape,h.output,by have:=h.size;simpa[World.setCell]using this,λk hk hn=>(bY w' a v rfl (by omega)).trans (h.block k hk hn)⟩
theorem yu {br:Nat} {w w':World} (h:w.grownBy w' (some br)) (o:Obj):w.grownBy (w'.alloc o) (some br):=gY h (iR (ak _ _))
theorem tu {w:World} {R:Rp} {rest:aO} (h:dM w R rest) (a:Addr) (v:Value) (h0:R.B0<=a.block) (h1:a.block≠R.br):dM (w.setCell a v) R rest:=by
 obtain⟨pos,k1,k2,k3⟩:=h.blk;exact⟨⟨pos,k1,k2,(bY w a v rfl h1).trans k3⟩,h.tok.below (bL (bQ w a v) h0 (Nat.le_trans R.b0 (Nat.le_of_lt h.lt))),h.ok,h.tl⟩
theorem yx {w:World} {R:Rp} {rest:aO} (h:dM w R rest) (o:Obj):dM (w.alloc o) R rest:=h.below (ak _ _)
structure Wk (R:Rp) (w W:World) (rest:aO):Prop where
 rd:dM W R rest
 gr:w.grownBy W (some R.br)
 lt:R.br<w.heap.size
theorem Wk.start {R:Rp} {w:World} {rest:aO} (h:dM w R rest):Wk R w w rest:=⟨h,zV _,h.lt⟩
section
variable {R:Rp} {w W W':World} {rest rest':aO}
theorem Wk.set (h:Wk R w W rest) (a:Addr) (v:Value) (hb:w.heap.size<=a.block):Wk R w (W.setCell a v) rest:=
 ⟨tu h.rd a v (by have:=R.b0;have:=h.lt;omega) (by have:=h.lt;omega),Ay h.gr a v hb,h.lt⟩
theorem Wk.alloc (h:Wk R w W rest) (o:Obj):Wk R w (W.alloc o) rest:=⟨yx h.rd o,yu h.gr o,h.lt⟩
theorem Wk.below (h:Wk R w W rest) (hb:Below W.heap.size W W'):Wk R w W' rest:=⟨h.rd.below hb,gY h.gr (iR hb),h.lt⟩
theorem Wk.then (h:Wk R w W rest) (h1:dM W' R rest') (h2:W.grownBy W' (some R.br)):Wk R w W' rest':=⟨h1,gY h.gr h2,h.lt⟩
theorem Wk.yZ (h:Wk R w W rest) (b:Nat) (v0 v1 v2 v3:Value) (hb:w.heap.size<=b):Wk R w (yZ W b v0 v1 v2 v3) rest:=
 (((h.set ⟨b,0,none⟩ v0 hb).set ⟨b,1,none⟩ v1 hb).set ⟨b,2,none⟩ v2 hb).set ⟨b,3,none⟩ v3 hb
theorem Wk.kept (h:Wk R w W rest) (h2:W.grownBy W' (some R.br)) {k:Nat} (hk:w.heap.size<=k) (hl:k<W.heap.size):W'.heap[k]? =W.heap[k]?:=h2.block k hl (by have:=h.lt;simp;omega)
end
theorem OO (w:World) (b:Nat) (v0 v1 v2 v3:Value):lF (b+1) w (yZ w b v0 v1 v2 v3):=by
 have x1:lF (b+1) w _:=jg w ⟨b,0,none⟩ v0 (Nat.lt_succ_self _);have x2:=x1.trans (jg _ ⟨b,1,none⟩ v1 (Nat.lt_succ_self _));have x3:=x2.trans (jg _ ⟨b,2,none⟩ v2 (Nat.lt_succ_self _));exact x3.trans (jg _ ⟨b,3,none⟩ v3 (Nat.lt_succ_self _))
theorem VL (w:World) (b:Nat) (v0 v1 v2 v3:Value):(yZ w b v0 v1 v2 v3).heap.size=w.heap.size:=by simp[yZ,World.setCell]
theorem yJ {br B:Nat} {w w':World} (h:w.grownBy w' (some br)) (hB:br<B):lF B w w':=⟨h.size,λk h1 h2=>h.block k h2 (by simp;omega)⟩
theorem yC {w:World} {b:Nat} {t:TypeId} (h:w.heap[b]? =some (.cells #[.int .i64 0,.int .i64 0,.string ⟨#[]⟩,.slice none 0 0] t (0,0))):
 (w.cell? ⟨b,0,none⟩=some (.int .i64 0)∧w.cell? ⟨b,1,none⟩=some (.int .i64 0)∧w.cell? ⟨b,2,none⟩=some (.string ⟨#[]⟩)∧w.cell? ⟨b,3,none⟩=some (.slice none 0 0))∧w.frozen? ⟨b,0,none⟩=false∧w.frozen? ⟨b,1,none⟩=false∧w.frozen? ⟨b,2,none⟩=false∧w.frozen? ⟨b,3,none⟩=false:=
 ⟨⟨au h rfl,au h rfl,au h rfl,au h rfl⟩,bG h,bG h,bG h,bG h⟩
theorem P6 {B g:Nat} {w w1:World} {Q:World->Prop} (h:ig B w Q) (ha:lF B w w1) (hg:w.heap.size<=g):nG B (some g) w1 Q:=λw' h'=>
 h w' ⟨Nat.le_trans ha.1 h'.1,λk h1 h2=>(h'.2 k h1 (λe=>by injection e with e;omega) (Nat.lt_of_lt_of_le h2 ha.1)).trans (ha.2 k h1 h2)⟩
theorem BA:fD 0:=by unfold fD;omega
theorem Jd {R:Rp} {w w2:World} {r:aO} {x:E} {ao:Option Addr} {cap:Nat} {a b c d:Value} (h:Wk R w w2 r) (hE:Gn x∧ig (w.heap.size+1) w2 (λw2=>x.kids.At w2 w2.heap.size ao 0)):
 uy R w (.ok x r) (.returned (.tuple #[exV x.op x.n x.nm x.kids ao cap,.bool true])) (yZ w2 w.heap.size a b c d):=by
 have hk:=h.yZ w.heap.size a b c d (Nat.le_refl _);exact⟨_,rfl,⟨ao,cap,rfl,hE.1,(hE.2.next (OO w2 w.heap.size a b c d)).mono (Nat.le_succ _)⟩,hk.rd,hk.gr⟩
theorem Yi {R:Rp} {w w2:World} {r:aO} {op n:Int} {nm:ByteArray} {a b c d:Value} (h:Wk R w w2 r) (h1:fD op) (h2:fD n) (h3:nm.size<=maxLen):
 uy R w (.ok ⟨op,n,nm,.nil⟩ r) (.returned (.tuple #[exV op n nm .nil none 0,.bool true])) (yZ w2 w.heap.size a b c d):=by
 have hk:=h.yZ w.heap.size a b c d (Nat.le_refl _);exact⟨_,rfl,⟨none,0,rfl,⟨h1,h2,h3,Nat.zero_le _⟩,λ_ _=>trivial⟩,hk.rd,hk.gr⟩
theorem ax4 {R:Rp} {w w2:World} {r:aO} {x:E} {ao:Option Addr} {cap:Nat} {nm:ByteArray} {t:TypeId} (hn:nm.size<=maxLen) (h:Wk R w w2 r) (hlt:w.heap.size<w2.heap.size) (hE:Gn x∧ig (w.heap.size+1) w2 (λw2=>x.kids.At w2 w2.heap.size ao 0)):
 uy R w (.ok (QY nm x) r) (.returned (.tuple #[exV 3 0 nm (.cons x.op x.n x.nm x.kids .nil) (some ⟨w2.heap.size,0,none⟩) 1,.bool true]))
  ((yZ w2 w.heap.size (.int .i64 3) (.int .i64 0) (.string nm) (.slice (some ⟨w2.heap.size,0,none⟩) 1 1)).alloc (.cells #[.int .i64 x.op,.int .i64 x.n,.string x.nm,.slice ao x.kids.len cap] t)):=by
 have hk:=h.yZ w.heap.size (.int .i64 3) (.int .i64 0) (.string nm) (.slice (some ⟨w2.heap.size,0,none⟩) 1 1) (Nat.le_refl _);have ha:=OO w2 w.heap.size (.int .i64 3) (.int .i64 0) (.string nm) (.slice (some ⟨w2.heap.size,0,none⟩) 1 1);have hs:=VL w2 w.heap.size (.int .i64 3) (.int .i64 0) (.string nm) (.slice (some ⟨w2.heap.size,0,none⟩) 1 1);generalize yZ w2 w.heap.size _ _ _ _=W at *;refine⟨_,rfl,⟨_,1,rfl,⟨(by unfold fD;decide:fD 3),BA,hn,by simp[QY,bC.len,maxLen]⟩,?_⟩,(hk.alloc _).rd,(hk.alloc _).gr⟩;rw[<- hs];exact(YL (heap_alloc_new _ _) (by omega) hE.1 ((hE.2.next ha).next (dN (ak _ _)))).mono (Nat.le_succ _)
theorem vZ {l:List UInt8} (h:Tk.iC l=true):(tx l).size<=maxLen:=by
 unfold Tk.iC at h;simp only[Bool.and_eq_true,decide_eq_true_eq]at h;have:(tx l).size=l.length:=by simp[tx,ByteArray.size]
 unfold maxLen;omega
theorem UG {w:World} {g:Nat} {x:E} {ao:Option Addr} {cap:Nat} {t:TypeId} (h:w.heap[g]? =some (.cells (exC x.op x.n x.nm x.kids ao cap).toArray t (0,0))):
 (w.cell? ⟨g,0,none⟩=some (.int .i64 x.op)∧w.cell? ⟨g,1,none⟩=some (.int .i64 x.n)∧w.cell? ⟨g,2,none⟩=some (.string x.nm)∧w.cell? ⟨g,3,none⟩=some (.slice ao x.kids.len cap))∧w.frozen? ⟨g,0,none⟩=false∧w.frozen? ⟨g,1,none⟩=false∧w.frozen? ⟨g,2,none⟩=false∧w.frozen? ⟨g,3,none⟩=false:=
 ⟨⟨au h rfl,au h rfl,au h rfl,au h rfl⟩,bG h,bG h,bG h,bG h⟩
def Nh (r:aO):Prop:= ∀lv:Int,opAt lv r=0
inductive Ez:aO->E->aO->Prop
 |nm {ts:aO} :isName ts=true->at' [91] ts.tail=false->Nh ts.tail->Ez ts ⟨2,0,tx (aQ ts),.nil⟩ ts.tail
 |ix {ts r:aO} {x:E} :isName ts=true->at' [91] ts.tail=true->Ez ts.tail.tail x r->at' [93] r=true->Nh r.tail->Ez ts (QY (tx (aQ ts)) x) r.tail
theorem Ez.name {ts r:aO} {x:E} (h:Ez ts x r):isName ts=true:=by cases h <;> assumption
theorem Ez.noop {ts r:aO} {x:E} (h:Ez ts x r):Nh r:=by cases h <;> assumption
theorem ZT {ts:aO} (h:isName ts=true) (y:List UInt8):at' y ts=false:=by
 unfold isName at h;unfold at';rw[eq_of_beq h];rfl
theorem Vu {ts:aO} (h:isName ts=true):isNum ts=false:=by
 unfold isName at h;unfold isNum;rw[eq_of_beq h];rfl
theorem got {R:Rp} {w W w2:World} {ts r:aO} {x:E} {e:Ending} {a:Array Value} {t:TypeId} (hk:Wk R w W ts) (hz:W.heap[w.heap.size]? =some (.cells a t (0,0))) (h:uy R W (.ok x r) e w2):
 ∃ao cap,e= .returned (.tuple #[exV x.op x.n x.nm x.kids ao cap,.bool true])∧aj (Wk R w w2 r∧w2.heap[w.heap.size]? =some (.cells a t (0,0))∧(Gn x∧ig (w.heap.size+1) w2 (λw2=>x.kids.At w2 w2.heap.size ao 0))):=by
 obtain⟨v,rfl,hv,h2,h3⟩:=h;have hl:=(Array.getElem?_eq_some_iff.1 hz).1;obtain⟨ao,cap,rfl,hok,hst⟩:=hv.mono hl;exact⟨ao,cap,rfl,ah ⟨hk.then h2 h3,(hk.kept h3 (Nat.le_refl _) hl).trans hz,hok,hst⟩⟩
section
variable (R:Rp) (ts r:aO) (x:E)
theorem aD5 (he:isName ts=true) (HX:aj (∀w,dM w R ts->Calls Tryz.prog 197 #[.pointer (some ⟨R.br,0,none⟩)] w (uy R w (.ok x r)))) (w:World) (hI:dM w R ts):
 Calls Tryz.prog 194 #[.pointer (some ⟨R.br,0,none⟩)] w (uy R w (.ok x r)):=by
 have HI:=ah hI;clear hI;go_enter Tryz.func194,Tryz.ntmps194;go_upto_region 1 with fail;generalize hW:World.alloc w _=W;have HK:aj (Wk R w W ts):=ah (by rw[<- hW];exact(Wk.start HI.o).alloc _);have HZ:aj (W.heap[w.heap.size]? =some (.cells #[.int .i64 0,.int .i64 0,.string ⟨#[]⟩,.slice none 0 0] 88 (0,0))):=ah (by rw[<- hW];exact heap_alloc_new _ _);clear hW;go_wp2_with fail;refine(ow R _ _ ⟨#[45]⟩ rfl (ZT he _) HK.o.rd).mono ?_;rintro e w0 ⟨rfl,h2⟩;have vI:=ah (HK.o.below h2);have HZ0:=ah ((h2.block _ (Array.getElem?_eq_some_iff.1 HZ.o).1).trans HZ.o);clear h2 HK HZ;have HK:=vI;have HZ:=HZ0;clear vI HZ0;go_wp2_with fail;refine(ow R _ _ ⟨#[33]⟩ rfl (ZT he _) HK.o.rd).mono ?_;rintro e w0 ⟨rfl,h2⟩;have vI:=ah (HK.o.below h2);have HZ0:=ah ((h2.block _ (Array.getElem?_eq_some_iff.1 HZ.o).1).trans HZ.o);clear h2 HK HZ;have HK:=vI;have HZ:=HZ0;clear vI HZ0;go_wp2_with fail;refine(HX.o _ HK.o.rd).mono ?_;intro e w2 h';obtain⟨ao,cap,rfl,HG⟩:=got HK.o HZ.o h';clear h' HK HZ;obtain⟨⟨y0,y1,y2,y3⟩,f0,f1,f2,f3⟩:=yC HG.o.2.1;have hlt2:w.heap.size<w2.heap.size:=(Array.getElem?_eq_some_iff.1 HG.o.2.1).1;unfold exV;go_wp2_with fail;exact bodyPost_ret (v:= .tuple #[exV x.op x.n x.nm x.kids ao cap,.bool true]) (by simp[results,Tryz.results194,go_sem,exV,y0,y1,y2,y3,hlt2]) rfl (Jd HG.o.1 HG.o.2.2)
theorem ab5 (HX:aj (∀w,dM w R ts->Calls Tryz.prog 194 #[.pointer (some ⟨R.br,0,none⟩)] w (uy R w (.ok x r)))) (w:World) (hI:dM w R ts):
 Calls Tryz.prog 185 #[.pointer (some ⟨R.br,0,none⟩),.int .i64 6] w (uy R w (.ok x r)):=by
 have HI:=ah hI;clear hI;go_enter Tryz.func185,Tryz.ntmps185;go_upto_region 1 with fail;generalize hW:World.alloc w _=W;have HK:aj (Wk R w W ts):=ah (by rw[<- hW];exact(Wk.start HI.o).alloc _);have HZ:aj (W.heap[w.heap.size]? =some (.cells #[.int .i64 0,.int .i64 0,.string ⟨#[]⟩,.slice none 0 0] 88 (0,0))):=ah (by rw[<- hW];exact heap_alloc_new _ _);clear hW;go_wp2_with fail;refine(HX.o _ HK.o.rd).mono ?_;intro e w2 h';obtain⟨ao,cap,rfl,HG⟩:=got HK.o HZ.o h';clear h' HK HZ;obtain⟨⟨y0,y1,y2,y3⟩,f0,f1,f2,f3⟩:=yC HG.o.2.1;have hlt2:w.heap.size<w2.heap.size:=(Array.getElem?_eq_some_iff.1 HG.o.2.1).1;unfold exV;go_wp2_with fail;exact bodyPost_ret (v:= .tuple #[exV x.op x.n x.nm x.kids ao cap,.bool true]) (by simp[results,Tryz.results185,go_sem,exV,y0,y1,y2,y3,hlt2]) rfl (Jd HG.o.1 HG.o.2.2)
theorem ap8 (hn:Nh r) (lv:Nat) (hlv:lv<=5) (HX:aj (∀w,dM w R ts->Calls Tryz.prog 185 #[.pointer (some ⟨R.br,0,none⟩),.int .i64 ((lv:Int)+1)] w (uy R w (.ok x r)))) (w:World) (hI:dM w R ts):
 Calls Tryz.prog 185 #[.pointer (some ⟨R.br,0,none⟩),.int .i64 (lv:Int)] w (uy R w (.ok x r)):=by
 have hq:decide ((5:Int)<(lv:Int))=false:=by rw[decide_eq_false_iff_not];omega
 have bk4:(0:Int)<=(lv:Int):=by omega
 have bk5:(lv:Int)<=6:=by omega
 have HI:=ah hI;clear hI;go_enter Tryz.func185,Tryz.ntmps185;go_upto_region 1 with fail;generalize hW:World.alloc w _=W;have HK:aj (Wk R w W ts):=ah (by rw[<- hW];exact(Wk.start HI.o).alloc _);have HZ:aj (W.heap[w.heap.size]? =some (.cells #[.int .i64 0,.int .i64 0,.string ⟨#[]⟩,.slice none 0 0] 88 (0,0))):=ah (by rw[<- hW];exact heap_alloc_new _ _);clear hW;go_wp2_with fail;refine(HX.o _ HK.o.rd).mono ?_;have mR:=HK;have HZ1:=HZ;clear HK HZ;rintro e w2 ⟨v,rfl,hv,h2,h3⟩;have rR:=ah (mR.o.then h2 h3);have HZ2:=ah ((mR.o.kept h3 (Nat.le_refl _) (Array.getElem?_eq_some_iff.1 HZ1.o).1).trans HZ1.o);have uL:=ah (hv.mono (Array.getElem?_eq_some_iff.1 HZ1.o).1);clear h2 h3 mR HZ1 hv;obtain⟨ao,cap,rfl,hok,hst⟩:=uL.o;have HE:=ah (And.intro hok hst);clear hok hst uL;unfold exV;go_upto_region 4 with fail;obtain⟨g,hg⟩: ∃g,w2.heap.size=g:=⟨_,rfl⟩;generalize hW:World.alloc w2 _=W2;have uH:aj (Wk R w W2 r):=ah (by rw[<- hW];exact rR.o.alloc _);have HB3:aj (W2.heap[g]? =some (.cells #[.int .i64 x.op,.int .i64 x.n,.string x.nm,.slice ao x.kids.len cap] 88 (0,0))):=ah (by rw[<- hW,<- hg];exact heap_alloc_new _ _);have HZ3:aj (W2.heap[w.heap.size]? =some (.cells #[.int .i64 0,.int .i64 0,.string ⟨#[]⟩,.slice none 0 0] 88 (0,0))):=ah (by rw[<- hW];exact(heap_alloc_old _ _ (Array.getElem?_eq_some_iff.1 HZ2.o).1).trans HZ2.o);have om:aj (Gn x∧ig (w.heap.size+1) W2 (λw2=>x.kids.At w2 w2.heap.size ao 0)):=ah ⟨HE.o.1,by rw[<- hW];exact HE.o.2.next (dN (ak _ _))⟩;have HG:aj (w.heap.size<g):=ah (by rw[<- hg];exact(Array.getElem?_eq_some_iff.1 HZ2.o).1);have HEX:aj (nG (w.heap.size+1) (some g) W2 (λw2=>x.kids.At w2 w2.heap.size ao 0)):=ah (by rw[<- hW];exact P6 HE.o.2 (dN (ak _ _)) (Nat.le_of_eq hg));rw[hg];clear hW hg rR HZ2 HE;go_wp2_with fail;go_loopw [8] (λ_ wr=>wr=W2) (λ_ _=>0)
 case atStart=>rfl
 case round=>subst hrel;have HOA:aj (Calls Tryz.prog 195 #[.pointer (some ⟨R.br,0,none⟩),.int .i64 (lv:Int)] wr λe w'=>e= .returned (.int .i64 0)∧Below wr.heap.size wr w'):=ah (by have:=OG R r wr (lv:Int) uH.o.rd;rw[hn]at this;exact this);go_wp2_with fail;refine HOA.o.mono ?_;rintro e w3 ⟨rfl,h2⟩;have HK4:=ah (uH.o.below h2);have zh:aj (Gn x∧ig (w.heap.size+1) w3 (λw2=>x.kids.At w2 w2.heap.size ao 0)):=ah ⟨om.o.1,om.o.2.next (dN h2)⟩;obtain⟨⟨y0,y1,y2,y3⟩,f0,f1,f2,f3⟩:=yC ((h2.block _ (Array.getElem?_eq_some_iff.1 HZ3.o).1).trans HZ3.o);obtain⟨⟨z0,z1,z2,z3⟩,d0,d1,d2,d3⟩:=UG ((h2.block _ (Array.getElem?_eq_some_iff.1 HB3.o).1).trans HB3.o);clear h2 uH HZ3 HB3 om HOA HEX;go_wp2_with fail;exact bodyPost_ret (v:= .tuple #[exV x.op x.n x.nm x.kids ao cap,.bool true]) (by simp[results,Tryz.results185,go_sem,exV,y0,y1,y2,y3]) rfl (Jd HK4.o zh.o)
theorem aB4 (HX:aj (∀w,dM w R ts->Calls Tryz.prog 185 #[.pointer (some ⟨R.br,0,none⟩),.int .i64 1] w (uy R w (.ok x r)))) (w:World) (hI:dM w R ts):
 Calls Tryz.prog 170 #[.pointer (some ⟨R.br,0,none⟩)] w (uy R w (.ok x r)):=by
 have HI:=ah hI;clear hI;go_enter Tryz.func170,Tryz.ntmps170;go_upto_region 1 with fail;generalize hW:World.alloc w _=W;have HK:aj (Wk R w W ts):=ah (by rw[<- hW];exact(Wk.start HI.o).alloc _);have HZ:aj (W.heap[w.heap.size]? =some (.cells #[.int .i64 0,.int .i64 0,.string ⟨#[]⟩,.slice none 0 0] 88 (0,0))):=ah (by rw[<- hW];exact heap_alloc_new _ _);clear hW;go_wp2_with fail;refine(HX.o _ HK.o.rd).mono ?_;intro e w2 h';obtain⟨ao,cap,rfl,HG⟩:=got HK.o HZ.o h';clear h' HK HZ;obtain⟨⟨y0,y1,y2,y3⟩,f0,f1,f2,f3⟩:=yC HG.o.2.1;have hlt2:w.heap.size<w2.heap.size:=(Array.getElem?_eq_some_iff.1 HG.o.2.1).1;unfold exV;go_wp2_with fail;exact bodyPost_ret (v:= .tuple #[exV x.op x.n x.nm x.kids ao cap,.bool true]) (by simp[results,Tryz.results170,go_sem,exV,y0,y1,y2,y3,hlt2]) rfl (Jd HG.o.1 HG.o.2.2)
end
theorem QE (R:Rp) {ts r:aO} {x:E} (h:Ez ts x r) (hp: ∀w,dM w R ts->Calls Tryz.prog 197 #[.pointer (some ⟨R.br,0,none⟩)] w (uy R w (.ok x r))) (w:World) (hI:dM w R ts):
 Calls Tryz.prog 170 #[.pointer (some ⟨R.br,0,none⟩)] w (uy R w (.ok x r)):=by
 have b (n:Nat) (hn:n<=5):=ap8 R ts r x h.noop n hn;exact aB4 R ts r x (ah (b 1 (by decide) (ah (b 2 (by decide) (ah (b 3 (by decide) (ah (b 4 (by decide) (ah (b 5 (by decide) (ah (ab5 R ts r x (ah (aD5 R ts r x h.name (ah hp))))))))))))))) w hI
theorem aC7 (R:Rp): ∀ {ts r:aO} {x:E},Ez ts x r->∀w,dM w R ts->Calls Tryz.prog 197 #[.pointer (some ⟨R.br,0,none⟩)] w (uy R w (.ok x r)):=by
 intro ts r x h
 induction h with
 |nm h1 h2=>rename_i ts _;intro w hI;have HI:=ah hI;have vJ:aj ((tx (aQ ts)).size<=maxLen):=ah (vZ (wC hI.ts h1));clear hI;go_enter Tryz.func197,Tryz.ntmps197;go_upto_region 1 with fail;generalize hW:World.alloc w _=W;have HK:aj (Wk R w W ts):=ah (by rw[<- hW];exact(Wk.start HI.o).alloc _);have HZ:aj (W.heap[w.heap.size]? =some (.cells #[.int .i64 0,.int .i64 0,.string ⟨#[]⟩,.slice none 0 0] 88 (0,0))):=ah (by rw[<- hW];exact heap_alloc_new _ _);clear hW;go_wp2_with fail;refine(Vw R _ _ (Vu h1) HK.o.rd).mono ?_;rintro e w0 ⟨rfl,h2⟩;have vI:=ah (HK.o.below h2);have HZ0:=ah ((h2.block _ (Array.getElem?_eq_some_iff.1 HZ.o).1).trans HZ.o);clear h2 HK HZ;have HK:=vI;have HZ:=HZ0;clear vI HZ0;go_wp2_with fail;refine(sV R _ _ h1 HK.o.rd).mono ?_;rintro e w0 ⟨rfl,h2,h3⟩;have vI:=ah (HK.o.then h2 h3);have HZ0:=ah ((HK.o.kept h3 (Nat.le_refl _) (Array.getElem?_eq_some_iff.1 HZ.o).1).trans HZ.o);clear h2 h3 HK HZ;have HK:=vI;have HZ:=HZ0;clear vI HZ0;go_wp2_with fail;refine(ow R _ _ ⟨#[91]⟩ rfl h2 HK.o.rd).mono ?_;rintro e w0 ⟨rfl,h2⟩;have vI:=ah (HK.o.below h2);have HZ0:=ah ((h2.block _ (Array.getElem?_eq_some_iff.1 HZ.o).1).trans HZ.o);clear h2 HK HZ;have HK:=vI;have HZ:=HZ0;clear vI HZ0;obtain⟨⟨y0,y1,y2,y3⟩,f0,f1,f2,f3⟩:=yC HZ.o;go_wp2_with fail;exact bodyPost_ret (v:= .tuple #[exV 2 0 (tx (aQ ts)) .nil none 0,.bool true]) (by simp[results,Tryz.results197,go_sem,y0,y1,y2,y3,exV,bC.len]) rfl (Yi HK.o (by unfold fD;decide) BA vJ.o)
 |ix h1 h2 hx h4 hn ih=>rename_i ts r x;intro w hI;have HI:=ah hI;have HX:=ah (QE R hx ih);have vJ:aj ((tx (aQ ts)).size<=maxLen):=ah (vZ (wC hI.ts h1));obtain⟨nm,Em⟩: ∃nm,aj (tx (aQ ts)=nm):=⟨_,ah rfl⟩;rw[Em.o]at vJ⊢;clear hI ih hx hn;go_enter Tryz.func197,Tryz.ntmps197;go_upto_region 1 with fail;generalize hW:World.alloc w _=W;have HK:aj (Wk R w W ts):=ah (by rw[<- hW];exact(Wk.start HI.o).alloc _);have HZ:aj (W.heap[w.heap.size]? =some (.cells #[.int .i64 0,.int .i64 0,.string ⟨#[]⟩,.slice none 0 0] 88 (0,0))):=ah (by rw[<- hW];exact heap_alloc_new _ _);clear hW;go_wp2_with fail;refine(Vw R _ _ (Vu h1) HK.o.rd).mono ?_;rintro e w0 ⟨rfl,h2⟩;have vI:=ah (HK.o.below h2);have HZ0:=ah ((h2.block _ (Array.getElem?_eq_some_iff.1 HZ.o).1).trans HZ.o);clear h2 HK HZ;have HK:=vI;have HZ:=HZ0;clear vI HZ0;go_wp2_with fail;refine(sV R _ _ h1 HK.o.rd).mono ?_;rw[Em.o];rintro e w0 ⟨rfl,h2,h3⟩;have vI:=ah (HK.o.then h2 h3);have HZ0:=ah ((HK.o.kept h3 (Nat.le_refl _) (Array.getElem?_eq_some_iff.1 HZ.o).1).trans HZ.o);clear h2 h3 HK HZ;have HK:=vI;have HZ:=HZ0;clear vI HZ0;go_wp2_with fail;refine(jN R _ _ ⟨#[91]⟩ rfl h2 HK.o.rd).mono ?_;rintro e w1 ⟨rfl,h2,h3⟩;have mR:=ah (HK.o.then h2 h3);have HZ1:=ah ((HK.o.kept h3 (Nat.le_refl _) (Array.getElem?_eq_some_iff.1 HZ.o).1).trans HZ.o);clear h2 h3 HK HZ;go_wp2_with fail;refine(HX.o _ mR.o.rd).mono ?_;rintro e w2 ⟨v,rfl,hv,h2,h3⟩;have rR:=ah (mR.o.then h2 h3);have HZ2:=ah ((mR.o.kept h3 (Nat.le_refl _) (Array.getElem?_eq_some_iff.1 HZ1.o).1).trans HZ1.o);have uL:=ah (hv.mono (Array.getElem?_eq_some_iff.1 HZ1.o).1);clear h2 h3 mR HZ1 hv;obtain⟨ao,cap,rfl,hok,hst⟩:=uL.o;have HE:=ah (And.intro hok hst);clear hok hst uL;unfold exV;go_upto_region 9 with fail;obtain⟨g,hg⟩: ∃g,w2.heap.size=g:=⟨_,rfl⟩;generalize hW:World.alloc w2 _=W2;have uH:aj (Wk R w W2 r):=ah (by rw[<- hW];exact rR.o.alloc _);have HB3:aj (W2.heap[g]? =some (.cells #[.int .i64 x.op,.int .i64 x.n,.string x.nm,.slice ao x.kids.len cap] 88 (0,0))):=ah (by rw[<- hW,<- hg];exact heap_alloc_new _ _);have HZ3:aj (W2.heap[w.heap.size]? =some (.cells #[.int .i64 0,.int .i64 0,.string ⟨#[]⟩,.slice none 0 0] 88 (0,0))):=ah (by rw[<- hW];exact(heap_alloc_old _ _ (Array.getElem?_eq_some_iff.1 HZ2.o).1).trans HZ2.o);have om:aj (Gn x∧ig (w.heap.size+1) W2 (λw2=>x.kids.At w2 w2.heap.size ao 0)):=ah ⟨HE.o.1,by rw[<- hW];exact HE.o.2.next (dN (ak _ _))⟩;have HG:aj (w.heap.size<g):=ah (by rw[<- hg];exact(Array.getElem?_eq_some_iff.1 HZ2.o).1);have HEX:aj (nG (w.heap.size+1) (some g) W2 (λw2=>x.kids.At w2 w2.heap.size ao 0)):=ah (by rw[<- hW];exact P6 HE.o.2 (dN (ak _ _)) (Nat.le_of_eq hg));rw[hg];clear hW hg rR HZ2 HE;go_wp2_with fail;refine(jN R _ _ ⟨#[93]⟩ rfl h4 uH.o.rd).mono ?_;rintro e w3 ⟨rfl,h2,h3⟩;have rR:=ah (uH.o.then h2 h3);have HZ2:=ah ((uH.o.kept h3 (Nat.le_refl _) (Array.getElem?_eq_some_iff.1 HZ3.o).1).trans HZ3.o);have HB2:=ah ((uH.o.kept h3 (Nat.le_of_lt HG.o) (Array.getElem?_eq_some_iff.1 HB3.o).1).trans HB3.o);have HE:aj (Gn x∧ig (w.heap.size+1) w3 (λw2=>x.kids.At w2 w2.heap.size ao 0)):=ah ⟨om.o.1,om.o.2.next (yJ h3 (Nat.lt_succ_of_lt uH.o.lt))⟩;clear h2 h3 uH HZ3 HB3 om;obtain⟨⟨y0,y1,y2,y3⟩,f0,f1,f2,f3⟩:=yC HZ2.o;have z0:w3.cell? ⟨g,0,none⟩=some (.int .i64 x.op):=au HB2.o rfl;have z1:w3.cell? ⟨g,1,none⟩=some (.int .i64 x.n):=au HB2.o rfl;have z2:w3.cell? ⟨g,2,none⟩=some (.string x.nm):=au HB2.o rfl;have z3:w3.cell? ⟨g,3,none⟩=some (.slice ao x.kids.len cap):=au HB2.o rfl;have hlt2:w.heap.size<w3.heap.size:=(Array.getElem?_eq_some_iff.1 HZ2.o).1;have hlt3:g<w3.heap.size:=(Array.getElem?_eq_some_iff.1 HB2.o).1;go_wp2_with fail;exact bodyPost_ret (v:= .tuple #[exV 3 0 nm (.cons x.op x.n x.nm x.kids .nil) (some ⟨w3.heap.size,0,none⟩) 1,.bool true]) (by simp[results,Tryz.results197,go_sem,exV,bC.len,y0,y1,y2,y3,hlt2]) rfl (ax4 vJ.o rR.o hlt2 HE.o)
theorem ac5 (R:Rp) {ts r:aO} {x:E} (h:Ez ts x r) (w:World) (hI:dM w R ts):Calls Tryz.prog 170 #[.pointer (some ⟨R.br,0,none⟩)] w (uy R w (.ok x r)):=QE R h (aC7 R h) w hI
end Go.Proofs.YtkmllehjemjgpaaGreatDoor
