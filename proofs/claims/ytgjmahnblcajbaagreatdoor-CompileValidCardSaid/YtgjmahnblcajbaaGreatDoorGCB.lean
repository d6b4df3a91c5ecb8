/- Contracts of compile's lines and cells. And what hangs on it. -/
import Derived.Test.YtgjmahnblcajbaaGreatDoorGCA
import Derived.Test.YtgjmahnblcajbaaGreatDoorGPI
import Derived.Deep.AppendLies
import Derived.IntWalk
import Derived.Test.YtgjmahnblcajbaaGreatDoorGME
set_option linter.unusedSimpArgs false
set_option linter.unusedVariables false
set_option maxHeartbeats 40000000
set_option maxRecDepth 1000000
namespace Go.Proofs.YtgjmahnblcajbaaGreatDoor
open Go.RowKit
open Md
namespace Md
def DJ (n:Int):List Value:=[.int .i64 n]
def qX:aJ->List Int
 | .nil=>[]
 | .cons h b e r=>h.line ::(qX b++qX e++qX r)
theorem oV: ∀l:aJ,(qX l).length=dK l
 | .nil=>rfl
 | .cons h b e r=>by have h1:=oV b; have h2:=oV e; have h3:=oV r;simp only [qX,dK,List.length_cons,List.length_append]; omega
end Md
theorem Qv: ∀n:Int,(DJ n).length=1:=fun _=>rfl
theorem aM8 (n:Int): ∀u ∈ DJ n,u.oneCell'=true:=by intro u hu; simp [DJ] at hu; subst hu; rfl
theorem au7:(Tryz.prog.info? 3).map (fun i=>(i.zero,i.size,i.bytes))=some (some (.int .i64 0),1,8):=by kernel_rfl
theorem infoP {o:Option TypeInfo} {z:Option Value} {a b:Nat} (h:o.map (fun i=>(i.zero,i.size,i.bytes))=some (z,a,b)): ∃i0,o=some i0∧i0.zero=z∧i0.size=a∧i0.bytes=b:=by
 cases o with
 | none=>cases h
 | some i=>simp at h; exact ⟨i,rfl,h.1,h.2.1,h.2.2⟩
theorem NH {v v1:Value} {w w1 w2:World} (h:w.grownBy w1 v.ownBlock) (ho:lI w v v1) (k:w1.grownBy w2 v1.ownBlock):w.grownBy w2 v.ownBlock:=
 ⟨k.os.trans h.os,k.tape.trans h.tape,k.output.trans h.output,Nat.le_trans h.size k.size,fun j hj hne=>(k.block j (Nat.lt_of_lt_of_le hj h.size) (by
   rcases ho with e | ⟨g,e,hg⟩
   ·rw [e]; exact hne
   ·rw [e]; intro e'; injection e' with e'; omega)).trans (h.block j hj hne)⟩
theorem zQ {w w':World} {g:Option Nat} (h:Below w.heap.size w w'):w.grownBy w' g:=⟨h.os,h.tape,h.output,h.size,fun k hk _=>h.block k hk⟩
theorem qb {w w':World} {base n m:Nat} {e:TypeId} {v:Value} {xs:List Value} (h:w.ownsRow base e m v n xs) (hb:Below w.heap.size w w'):w'.ownsRow base e m v n xs:=
 h.kept (row:=none) ⟨hb.os,hb.tape,hb.output,hb.size,fun k hk _=>hb.block k hk⟩ (by cases hv:v.ownBlock <;> simp)
structure Tw (T:TypeId) (B nb:Nat) (cs:Array Value) (ty:TypeId) (w:World) (v:Value) (xs:List Int) (w2:World) (v2:Value):Prop where
 r:w2.ownsRow B T 1 v2 xs.length (xs.flatMap DJ)
 g:w.grownBy w2 v.ownBlock
 o:lI w v v2
 x:w2.heap[nb]? =some (.cells cs ty (0,0))
 b:B<=w2.heap.size
 n:v2.ownBlock≠some nb
def BU (l:aJ):Prop:= ∀(w:World) (B:Nat) (v:Value) (xs:List Int) (ao:Option Addr) (cap:Nat),w.ownsRow B 3 1 v xs.length (xs.flatMap DJ)->B<=w.heap.size->l.len<=maxLen->l.At w B ao 0->xs.length + dK l<=1000000000000->
 Calls Tryz.prog 36 #[v,.slice ao l.len cap] w fun e w'=> ∃v',e= .returned v'∧w'.ownsRow B 3 1 v' (xs++qX l).length ((xs++qX l).flatMap DJ)∧w.grownBy w' v.ownBlock∧lI w v v'
theorem Tw.call {T ty:TypeId} {B nb:Nat} {cs:Array Value} {w w2 w':World} {v v2 v':Value} {xs ys:List Int} (h:Tw T B nb cs ty w v xs w2 v2) (hr:w'.ownsRow B T 1 v' ys.length (ys.flatMap DJ)) (hg:w2.grownBy w' v2.ownBlock) (ho:lI w2 v2 v'):Tw T B nb cs ty w v ys w' v':=by
 have hlt:=(Array.getElem?_eq_some_iff.1 h.x).1;exact ⟨hr,NH h.g h.o hg,h.o.trans ho h.g.size,(hg.block nb hlt (fun e=>h.n e.symm)).trans h.x,Nat.le_trans h.b hg.size,ho.ne hlt h.n⟩
theorem Cr {B:Nat} {T:TypeId} {m n:Nat} {v:Value} {w w':World} {xs:List Value} (h:w.ownsRow B T m v n xs) (hB:B<=w.heap.size) (hg:w.grownBy w' v.ownBlock):Below B w w':=
 ⟨hg.os,hg.tape,hg.output,hg.size,fun k hk=>hg.block k (by omega) (fun e=>by have:=(h.lt k e.symm).1; omega)⟩
theorem GK (l:aJ) (hall:l.All fun _ b e=>BU b∧BU e):BU l:=by
 intro w B v xs ao cap hrow hBw hl hat hlen;generalize hres:xs++qX l=res;have HR:=ah hres;have HRW:=ah hrow;have HAT:=ah hat;have HL:=ah hlen;have kX:=ah hall;have Ku:=ah hBw;obtain ⟨i0,hi,hz0,hz1,hz2⟩:=infoP au7;have eX:=ah (And.intro hi (And.intro hz0 (And.intro hz1 hz2)));unfold maxLen at hl;clear hres hrow hat hlen hall hBw hi hz0 hz1 hz2;go_enter Tryz.func36,Tryz.ntmps36;go_wp2_with fail;go_loopw [0,6,9] (fun v0 _ i wr=> ∃(k:Nat) (R:aJ) (ys:List Int),i= .int .i64 k∧k + R.len=l.len∧res=ys++qX R∧ys.length + dK R<=1000000000000∧(R.All fun _ b e=>BU b∧BU e)∧R.At wr B ao k∧B<=wr.heap.size∧wr.ownsRow B 3 1 v0 ys.length (ys.flatMap DJ)∧w.grownBy wr v.ownBlock∧lI w v v0) (fun _ _ i _=>l.len - (intOf i).toNat)
 case atStart=>exact ⟨0,l,xs,rfl,by simp,HR.o.symm,HL.o,kX.o,HAT.o,Ku.o,HRW.o,JU _,.inl rfl⟩
 case round=>
  obtain ⟨k,R,ys,rfl,hlen,heq,hl12,hall,hat,hBr,hrow,hgr,how⟩:=hrel;have HE:=ah heq;have Td:=ah hl12;have JB:=ah hrow;have HG:=ah hgr;have HO:=ah how;have Hw:=ah hBr;clear heq hl12 hrow hgr how hBr;cases R with
  | nil=>
    obtain rfl:k=l.len:=by simpa [aJ.len] using hlen
    have HX:aj (res=ys):=ah (by rw [HE.o]; simp [qX]);clear hat hall;go_wp2_with fail;go_ret;exact ⟨_,rfl,by rw [HX.o]; exact JB.o,HG.o,HO.o⟩
  | cons h e0 e1 R=>
    obtain ⟨bl,off,sl,rfl,hbl,hin,hcs,hrest⟩:=LK hat;have hkl:k < l.len:=by simp only [aJ.len] at hlen; omega
    obtain ⟨⟨hs0,hs1⟩,AA⟩:=hall;have uL:=ah (And.intro hs0 hs1);have qC:=ah AA;have QV:=ah hin;have gU:=ah hrest;have x0:=hcs 0 _ rfl;have x1:=hcs 1 _ rfl;have x2:=hcs 2 _ rfl;have x3:=hcs 3 _ rfl;have x4:=hcs 4 _ rfl;have x5:=hcs 5 _ rfl;have x6:=hcs 6 _ rfl;have x7:=hcs 7 _ rfl;have x8:=hcs 8 _ rfl;have x9:=hcs 9 _ rfl;have x10:=hcs 10 _ rfl;simp only [stA,Nat.add_zero] at x0 x1 x2 x3 x4 x5 x6 x7 x8 x9 x10;clear hat hin hcs hrest hs0 hs1 AA;go_upto_region 4 with fail;generalize hW2:World.alloc wr _=w2;obtain ⟨nb,hnb⟩: ∃n,wr.heap.size=n:=⟨_,rfl⟩;have HB:aj (Below wr.heap.size wr w2):=ah (by rw [<- hW2]; exact au _ _);have HX:aj (w2.heap[nb]? =some (.cells (stA h e0 e1 sl) 107 (0,0))):=ah (by rw [<- hW2,<- hnb]; exact heap_alloc_new _ _);have S0:aj (Tw 3 B nb (stA h e0 e1 sl) 107 wr u0 ys w2 u0):=ah ⟨qb JB.o HB.o,zQ HB.o,.inl rfl,HX.o,Nat.le_trans Hw.o HB.o.size,fun e=>by have:=(JB.o.lt _ e).2; omega⟩;rw [hnb];clear hW2 hnb x0 x1 x2 x3 x4 x5 x6 x7 x8 x9 x10 HX;have z1:=ak (j:=1) S0.o.x rfl;have z9:=ak (j:=9) S0.o.x rfl;have cZ:=ak (j:=10) S0.o.x rfl;simp only [stA,List.getElem_toArray,List.getElem_cons_zero,List.getElem_cons_succ] at z1 z9 cZ;have mO:aj (Below w2.heap.size w2 (w2.alloc (.cells (DJ h.line).toArray 3))):=ah (au _ _);have jR:=ah (iP (heap_alloc_new w2 (.cells (DJ h.line).toArray 3)));have qH:=ah (qb S0.o.r mO.o);obtain ⟨hi,hz0,hz1,hz2⟩:=eX.o;have hk1:ys.length + 1<=maxLen:=by have:=Td.o; simp only [dK] at this; unfold maxLen; omega
    have qU:(ys.length + 1) * 8<=140737488355328:=by have:=Td.o; simp only [dK] at this; omega
    have hbs:B<=w2.heap.size + 1:=Nat.le_succ_of_le S0.o.b;go_wp2_with (at_builtin; refine wpList_append_lies _ rfl _ _ 80 rfl B 3 i0 _ 1 8 Tryz.underlying80 hi hz0 hz1 hz2 rfl (by decide) _ _ _ rfl qH.o ⟨w2.heap.size,0,none⟩ 1 1 (DJ h.line) rfl rfl jR.o (aM8 _) (by decide) hk1 qU (by simpa using hbs) _ rfl ?_);intro g' cap' w3 hown hgr hmv hlt3;clear hi hz0 hz1 hz2 hk1 qU hbs z1 z9 cZ;have S1:aj (Tw 3 B nb (stA h e0 e1 sl) 107 wr u0 (ys++[h.line]) w3 (.slice (some ⟨g',0,none⟩) (ys.length + 1) cap')):=ah (S0.o.call (by rw [List.flatMap_append,List.flatMap_singleton,List.length_append]; exact hown) (eP (zQ mO.o) hgr) (by
     rcases hmv with e | e
     ·exact .inl (by rw [e]; rfl)
     ·exact .inr ⟨g',rfl,by have:=mO.o.size; simp at e this; omega⟩))
    have ql:=ah (Cr JB.o Hw.o S1.o.g);clear hown hgr hmv hlt3 qH jR mO S0;have z9:=ak (j:=9) S1.o.x rfl;have cZ:=ak (j:=10) S1.o.x rfl;simp only [stA,List.getElem_toArray,List.getElem_cons_zero,List.getElem_cons_succ] at z9 cZ;go_wp2_with fail;refine (uL.o.1 w3 B _ (ys++[h.line]) sl.cK sl.aZ S1.o.r S1.o.b QV.o.1.2.2.2.2.2.2.1 (QV.o.2.2.2.1.below ql.o) (by have:=Td.o; simp only [dK,List.length_append,List.length_cons,List.length_nil] at *; omega)).mono ?_;rintro e' w4 ⟨v4,rfl,hr4,hg4,ho4⟩;have S2:=ah (S1.o.call hr4 hg4 ho4);have VE:=ah (Cr JB.o Hw.o S2.o.g);clear hr4 hg4 ho4 z9 cZ;have cZ:=ak (j:=10) S2.o.x rfl;simp only [stA,List.getElem_toArray,List.getElem_cons_zero,List.getElem_cons_succ] at cZ;go_wp2_with fail;refine (uL.o.2 w4 B _ (ys++[h.line]++qX e0) sl.fF sl.dX S2.o.r S2.o.b QV.o.1.2.2.2.2.2.2.2 (QV.o.2.2.2.2.below VE.o) (by have:=Td.o; have h5:=oV e0; simp only [dK,List.length_append,List.length_cons,List.length_nil] at *; omega)).mono ?_;rintro e' w5 ⟨v5,rfl,hr5,hg5,ho5⟩;have S3:=ah (S2.o.call hr5 hg5 ho5);have aG0:=ah (Cr JB.o Hw.o S3.o.g);clear hr5 hg5 ho5 cZ;go_wp2_with fail;go_roundw
    case rel=>
     refine ⟨k + 1,R,ys++[h.line]++qX e0++qX e1,by go_num,by simp only [aJ.len] at hlen; omega,?_,?_,qC.o,gU.o.below aG0.o,S3.o.b,S3.o.r,NH HG.o HO.o S3.o.g,HO.o.trans S3.o.o HG.o.size⟩
     ·rw [HE.o,qX]; simp
     ·have:=Td.o; have h5:=oV e0; have h6:=oV e1; simp only [dK,List.length_append,List.length_cons,List.length_nil] at *; omega
    case measure=>simp [intOf]; omega
theorem UC (l:aJ):BU l:=GK l (aJ.mU (fun _ b e hb he=>⟨GK b hb,GK e he⟩) l)
theorem yV: ∀x:kM,(kJ x).length=5:=fun _=>rfl
theorem VX (x:kM): ∀u ∈ kJ x,u.oneCell'=true:=by
 intro u hu; simp [kJ] at hu;rcases hu with rfl | rfl | rfl | rfl | rfl <;> rfl
theorem O4:(Tryz.prog.info? 83).map (fun i=>(i.zero,i.size,i.bytes))=some (some (.agg #[.string ⟨#[]⟩,.int .i64 0,.int .i64 0,.bool false,.int .i64 0]),5,48):=by kernel_rfl
theorem wM (d:De): ∀(n k:Nat),(nE d n k).length=n
 | 0,_=>rfl
 | n + 1,k=>by rw [nE,List.length_cons,wM d n]
theorem KV (d:De): ∀(n k:Nat),nE d (n + 1) k=nE d n k++[⟨d.nm,((k + n:Nat):Int),d.size,false,d.init⟩]
 | 0,k=>rfl
 | n + 1,k=>by rw [nE,KV d n (k + 1),nE,show k + 1 + n=k + (n + 1) by omega]; rfl
def aE4 (d:De) (w:World) (e:Ending) (w':World):Prop:= ∃g cap,e= .returned (.slice (some ⟨g,0,none⟩) (ji d).length cap)∧(∀j u,((ji d).flatMap kJ)[j]? =some u->w'.cell? ((⟨g,0,none⟩:Addr).add j)=some u)∧0 < (ji d).length∧(ji d).length<=4∧Below w.heap.size w w'
def deV (d:De):Value:= .agg #[.int .i64 d.kind,.int .i64 d.line,.string d.nm,.int .i64 d.size,.int .i64 d.init,.string d.on]
theorem N8 {w:World} {g j:Nat} {u:Value} (h:w.cell? ⟨g,j,none⟩=some u):w.cell? ((⟨g,0,none⟩:Addr).add j)=some u:=by
 rcases Nat.eq_zero_or_pos j with rfl | hj
 ·simpa [Addr.add] using h
 ·simpa [Addr.add,Nat.ne_of_gt hj] using h
theorem KX (d:De) (w:World) (h0:0<=d.size) (h4:d.size<=4):Calls Tryz.prog 35 #[deV d] w (aE4 d w):=by
 unfold deV;by_cases hz:d.size=0
 ·have hcp:ji d=[⟨d.nm,0,0,d.kind == 2,d.init⟩]:=by unfold ji; rw [hz]; rfl
  have Mh:=ah hcp;clear hcp h0 h4;obtain ⟨kd,ln,nm,sz,ini,on⟩:=d;obtain rfl:sz=0:=hz;go_enter Tryz.func35,Tryz.ntmps35;go_wp2
  all_goals (
   go_ret;refine ⟨w.heap.size + 1,1,by rw [Mh.o]; rfl,fun j u hu=> ?_,by rw [Mh.o]; exact Nat.one_pos,by rw [Mh.o]; simp,(au _ _).alloc (by simp) _⟩;rw [Mh.o] at hu;have hg:=heap_alloc_new (w.alloc (.cells #[.int .i64 kd,.int .i64 ln,.string nm,.int .i64 0,.int .i64 ini,.string on] 86)) (.cells (kJ ⟨nm,0,0,kd == 2,ini⟩).toArray 83);have e:(w.alloc (.cells #[.int .i64 kd,.int .i64 ln,.string nm,.int .i64 0,.int .i64 ini,.string on] 86)).heap.size=w.heap.size + 1:=by simp
   rw [e] at hg;refine N8 ?_;exact ak hg (by simpa using hu))
 ·have hcp:ji d=nE d d.size.toNat 0:=by unfold ji; rw [if_neg (by simpa using hz)]
  have Mh:=ah hcp;have hs1:0 < d.size:=by omega
  have hzb:(d.size == 0)=false:=by rw [beq_eq_false_iff_ne]; exact hz
  clear hcp hz;obtain ⟨i0,hi,hz0,hz1,hz2⟩:=infoP O4;have eX:=ah (And.intro hi (And.intro hz0 (And.intro hz1 hz2)));clear hi hz0 hz1 hz2;go_enter Tryz.func35,Tryz.ntmps35;go_upto_region 1 with fail;generalize hW:World.alloc w _=w1;obtain ⟨nb,hnb⟩: ∃n,w.heap.size=n:=⟨_,rfl⟩;have HB:aj (Below w.heap.size w w1):=ah (by rw [<- hW]; exact au _ _);have HX:aj (w1.heap[nb]? =some (.cells #[.int .i64 d.kind,.int .i64 d.line,.string d.nm,.int .i64 d.size,.int .i64 d.init,.string d.on] 86 (0,0))):=ah (by rw [<- hW,<- hnb]; exact heap_alloc_new _ _);have bF:aj (nb < w1.heap.size):=ah (Array.getElem?_eq_some_iff.1 HX.o).1;rw [hnb];clear hW hnb;have z0:=ak (j:=0) HX.o rfl;have z2:=ak (j:=2) HX.o rfl;have z3:=ak (j:=3) HX.o rfl;have z4:=ak (j:=4) HX.o rfl;go_wp2_with fail;go_loopw [3,4,19] (fun v3 _ i wr=> ∃k:Nat,i= .int .i64 k∧(k:Int)<=d.size∧wr.ownsRow w1.heap.size 83 5 v3 (nE d k 0).length ((nE d k 0).flatMap kJ)∧Below w1.heap.size w1 wr) (fun _ _ i _=>d.size.toNat - (intOf i).toNat)
  case atStart=>exact ⟨0,rfl,by omega,World.ownsRow_nil _ _ _ _,Below.refl _ _⟩
  case round=>
   obtain ⟨k,rfl,hk,hrow,hbel⟩:=hrel;have HRW:=ah hrow;have kZ:=ah hbel;clear hrow hbel z0 z2 z3 z4;have jq:=ah ((kZ.o.block nb bF.o).trans HX.o);have z0:=ak (j:=0) jq.o rfl;have z2:=ak (j:=2) jq.o rfl;have z3:=ak (j:=3) jq.o rfl;have z4:=ak (j:=4) jq.o rfl;by_cases hlt:(k:Int) < d.size
   ·have mO:aj (Below wr.heap.size wr (wr.alloc (.cells (kJ ⟨d.nm,k,d.size,false,d.init⟩).toArray 83))):=ah (au _ _);have jR:=ah (iP (heap_alloc_new wr (.cells (kJ ⟨d.nm,k,d.size,false,d.init⟩).toArray 83)));have qH:=ah (qb HRW.o mO.o);have XO:=ah (wM d k 0);obtain ⟨hi,hz0,hz1,hz2⟩:=eX.o;have hk1:(nE d k 0).length + 1<=maxLen:=(by rw [XO.o]; unfold maxLen; omega);have qU:((nE d k 0).length + 1) * 48<=140737488355328:=(by rw [XO.o]; omega);have hbs:w1.heap.size<=wr.heap.size + 1:=Nat.le_succ_of_le kZ.o.size;go_wp2_with (at_builtin; refine wpList_append_lies _ rfl _ _ 22 rfl w1.heap.size 83 i0 _ 5 48 Tryz.underlying22 hi hz0 hz1 hz2 rfl (by decide) _ _ _ rfl qH.o ⟨wr.heap.size,0,none⟩ 1 1 (kJ ⟨d.nm,k,d.size,false,d.init⟩) rfl rfl jR.o (VX _) (by decide) hk1 qU (by simpa using hbs) _ rfl ?_);intro g' cap' w3 hown hgr hmv hlt3;have HR3:aj (w3.ownsRow w1.heap.size 83 5 (.slice (some ⟨g',0,none⟩) ((nE d k 0).length + 1) cap') (nE d (k + 1) 0).length ((nE d (k + 1) 0).flatMap kJ)):=ah (by rw [KV,List.flatMap_append,List.flatMap_singleton,List.length_append,Nat.zero_add]; exact hown);have HB3:aj (Below w1.heap.size w1 w3):=ah (kZ.o.trans (Cr HRW.o kZ.o.size (eP (zQ mO.o) hgr)));clear hi hz0 hz1 hz2 hk1 qU hbs hown hgr hmv hlt3 qH jR mO z0 z2 z3 z4;go_wp2_with fail;go_roundw
    case rel=>exact ⟨k + 1,by go_num,by omega,HR3.o,HB3.o⟩
    case measure=>simp [intOf]; omega
   ·have hke:d.size.toNat=k:=(by omega);have HE:aj (ji d=nE d k 0):=ah (by rw [Mh.o,hke]);have HK:aj (0 < k∧k<=4):=ah (by omega);go_wp2_with fail;go_ret;rcases HRW.o.2 with ⟨-,hn⟩ | ⟨g,cap,cur,hv,hb,hg,h1,h2,h3,h5⟩
    ·rw [wM] at hn; have:=HK.o.1; omega
    ·refine ⟨g,cap,(show Ending.returned u3=_ by rw [HE.o,hv]),fun j u hu=>N8 ?_,by rw [HE.o,wM]; exact HK.o.1,by rw [HE.o,wM]; exact HK.o.2,HB.o.trans (kZ.o.mono HB.o.size)⟩;rw [HE.o,<- h5] at hu;have lJ:=(List.getElem?_eq_some_iff.1 hu).1;rw [List.getElem?_take_of_lt (by rw [List.length_take] at lJ; omega)] at hu;exact ak hg (by rw [<- hu]; simp)
structure Rw where
 T:TypeId
 m:Nat
 v:Value
 n:Nat
 xs:List Value
def Rw.Ok (w:World) (B:Nat) (r:Rw):Prop:=w.ownsRow B r.T r.m r.v r.n r.xs
def Apart (a b:Rw):Prop:= ∀k,a.v.ownBlock=some k->b.v.ownBlock≠some k
theorem Apart.symm {a b:Rw} (h:Apart a b):Apart b a:=fun k hb ha=>h k ha hb
structure Rows (w:World) (B:Nat) (l:List Rw):Prop where
 own: ∀r ∈ l,r.Ok w B
 ap:l.Pairwise Apart
section
variable {w w':World} {B:Nat} {l pre post:List Rw} {r r':Rw}
theorem Rows.below (h:Rows w B l) (hb:Below w.heap.size w w'):Rows w' B l:=⟨fun r hr=>qb (h.own r hr) hb,h.ap⟩
theorem Rows.keep (h:Rows w B l) {k:Nat} (hg:w.grownBy w' (some k)) (hk:k < B):Rows w' B l:=⟨fun r hr=>(h.own r hr).kept hg (by
 cases hv:r.v.ownBlock with
 | none=>exact .inl rfl
 | some j=>refine .inr (fun e=> ?_); have:=((h.own r hr).lt j hv).1; injection e with e; omega),h.ap⟩
theorem Rows.put (h:Rows w B (pre++r ::post)) (hg:w.grownBy w' r.v.ownBlock) (hr:r'.Ok w' B) (ho:lI w r.v r'.v):Rows w' B (pre++r' ::post):=by
 have hap:=h.ap;rw [List.pairwise_append,List.pairwise_cons] at hap;obtain ⟨h1,⟨h2,h3⟩,h4⟩:=hap;have keep: ∀q ∈ pre++r ::post,Apart q r->q.Ok w' B:=fun q hq ha=>(h.own q hq).kept hg (by
  cases hv:q.v.ownBlock with
  | none=>exact .inl rfl
  | some j=>exact .inr (fun e=>ha j hv e.symm))
 have far: ∀q ∈ pre++r ::post,Apart q r->Apart q r':=fun q hq ha k hk e=>by
  rcases ho with e' | ⟨g,e',hge⟩
  ·rw [e'] at e; exact ha k hk e
  ·rw [e'] at e; injection e with e; subst e;have:=((h.own q hq).lt _ hk).2; omega
 have ap1: ∀q ∈ pre,Apart q r:=fun q hq=>h4 q hq r List.mem_cons_self;have ap2: ∀q ∈ post,Apart q r:=fun q hq=>(h2 q hq).symm;have m1: ∀q ∈ pre,q ∈ pre++r ::post:=fun q hq=>List.mem_append_left _ hq;have m2: ∀q ∈ post,q ∈ pre++r ::post:=fun q hq=>List.mem_append_right _ (List.mem_cons_of_mem _ hq);refine ⟨fun q hq=> ?_,?_⟩
 ·rcases List.mem_append.1 hq with hq | hq
  ·exact keep q (m1 q hq) (ap1 q hq)
  ·rcases List.mem_cons.1 hq with rfl | hq
   ·exact hr
   ·exact keep q (m2 q hq) (ap2 q hq)
 ·rw [List.pairwise_append,List.pairwise_cons];refine ⟨h1,⟨fun q hq=>(far q (m2 q hq) (ap2 q hq)).symm,h3⟩,fun q hq x hx=> ?_⟩;rcases List.mem_cons.1 hx with rfl | hx
  ·exact far q (m1 q hq) (ap1 q hq)
  ·exact h4 q hq x (List.mem_cons_of_mem _ hx)
end
namespace Md
structure Vs where
 v0:Value
 v1:Value
 v2:Value
 v3:Value
 v4:Value
 v5:Value
end Md
def iw (s:Vs) (W:Wo):List Rw:=[⟨83,5,s.v0,W.cs.length,W.cs.flatMap kJ⟩,⟨56,2,s.v1,W.ls.length,W.ls.flatMap nN⟩,⟨50,2,s.v2,W.ns.length,W.ns.flatMap tZ⟩,
 ⟨9,1,s.v3,W.fs.length,W.fs.flatMap ny⟩,⟨9,1,s.v4,W.ts.length,W.ts.flatMap ny⟩,⟨58,3,s.v5,W.ss.length,W.ss.flatMap uG⟩]
structure sH (w:World) (B bw:Nat) (s:Vs) (W:Wo):Prop where
 blk:w.heap[bw]? =some (.cells #[s.v0,s.v1,s.v2,s.v3,s.v4,s.v5] 28 (0,0))
 row:Rows w B (iw s W)
 lt:bw < B
 sz:B<=w.heap.size
theorem yZ: ∀x:zH,(nN x).length=2:=fun _=>rfl
theorem JJ: ∀x:Ab,(tZ x).length=2:=fun _=>rfl
theorem ze: ∀x:ByteArray,(ny x).length=1:=fun _=>rfl
theorem Ka: ∀x:rU,(uG x).length=3:=fun _=>rfl
section
variable {w w' w4:World} {B bw:Nat} {s:Vs} {W:Wo}
theorem sH.below (h:sH w B bw s W) (hb:Below w.heap.size w w'):sH w' B bw s W:=
 ⟨(hb.block _ (Array.getElem?_eq_some_iff.1 h.blk).1).trans h.blk,h.row.below hb,h.lt,Nat.le_trans h.sz hb.size⟩
theorem sH.keep (h:sH w B bw s W) {k:Nat} (hg:w.grownBy w' (some k)) (hk:k < B) (hne:k≠bw):sH w' B bw s W:=
 ⟨(hg.block _ (Array.getElem?_eq_some_iff.1 h.blk).1 (by simp; exact fun e=>hne e.symm)).trans h.blk,h.row.keep hg hk,h.lt,Nat.le_trans h.sz hg.size⟩
theorem sH.cells (h:sH w B bw s W):bw < w.heap.size∧w.cell? ⟨bw,0,none⟩=some s.v0∧w.cell? ⟨bw,1,none⟩=some s.v1∧w.cell? ⟨bw,2,none⟩=some s.v2∧w.cell? ⟨bw,3,none⟩=some s.v3∧w.cell? ⟨bw,4,none⟩=some s.v4∧w.cell? ⟨bw,5,none⟩=some s.v5∧ ∀j,w.frozen? ⟨bw,j,none⟩=false:=
 ⟨(Array.getElem?_eq_some_iff.1 h.blk).1,ak h.blk rfl,ak h.blk rfl,ak h.blk rfl,ak h.blk rfl,ak h.blk rfl,ak h.blk rfl,fun _=>aU h.blk⟩
theorem sH.grow {pre post:List Rw} {r r':Rw} {s':Vs} {W':Wo} {j:Nat} (h:sH w B bw s W) (hg:w.grownBy w4 r.v.ownBlock) (e1:iw s W=pre++r ::post) (e2:iw s' W'=pre++r' ::post) (hr:r'.Ok w4 B) (ho:lI w r.v r'.v)
 (hc:(#[s.v0,s.v1,s.v2,s.v3,s.v4,s.v5]:Array Value).setIfInBounds j r'.v= #[s'.v0,s'.v1,s'.v2,s'.v3,s'.v4,s'.v5]):sH (w4.setCell ⟨bw,j,none⟩ r'.v) B bw s' W':=by
 have hrow:=h.row;rw [e1] at hrow;have h4:=hrow.put hg hr ho;rw [<- e2] at h4;have hlt:=h.lt;have hne:r.v.ownBlock≠some bw:=fun e=>by have:=((hrow.own r (by simp)).lt _ e).1; omega
 have hb:w4.heap[bw]? =some (.cells #[s.v0,s.v1,s.v2,s.v3,s.v4,s.v5] 28 (0,0)):=(hg.block _ (Array.getElem?_eq_some_iff.1 h.blk).1 (fun e=>hne e.symm)).trans h.blk;have hgs:=bQ w4 ⟨bw,j,none⟩ r'.v;exact ⟨om hb _ hc,h4.keep hgs hlt,hlt,Nat.le_trans h.sz (Nat.le_trans hg.size hgs.size)⟩
theorem sH.own (h:sH w B bw s W) {r:Rw} (hr:r ∈ iw s W):r.Ok w B:=h.row.own r hr
end
theorem Ld: ∀(ds pre:List De) (c l n f:Int),(nH ds pre c l n f).1=0-> ∀d ∈ ds,d.size<=4
 | [],_,_,_,_,_,_=>fun d hd=>by cases hd
 | d ::r,pre,c,l,n,f,h0=>by
   rw [nH] at h0;split at h0
   ·exact absurd (show (4:Int)=0 from h0) (by decide)
   split at h0
   ·exact absurd (show (2:Int)=0 from h0) (by decide)
   rename_i h2;split at h0
   ·exact absurd (show (2:Int)=0 from h0) (by decide)
   split at h0
   ·exact absurd (show (5:Int)=0 from h0) (by decide)
   split at h0
   ·exact absurd (show (6:Int)=0 from h0) (by decide)
   intro x hx;rcases List.mem_cons.1 hx with rfl | hx
   ·simpa using h2
   ·exact Ld r _ _ _ _ _ h0 x hx
namespace Md
def qZ (i:Int):Nat->List Int->List rU
 | _,[]=>[]
 | n,x ::r=>⟨i,n,x⟩ ::qZ i (n + 1) r
theorem H7 (i:Int): ∀(l r:List Int) (n:Nat),qZ i n (l++r)=qZ i n l++qZ i (n + l.length) r
 | [],r,n=>by simp [qZ]
 | x ::l,r,n=>by rw [List.cons_append,qZ,H7 i l r (n + 1),qZ,List.length_cons,show n + 1 + l.length=n + (l.length + 1) by omega]; rfl
theorem Oz (i:Int): ∀(l:List Int) (n:Nat),(qZ i n l).length=l.length
 | [],_=>rfl
 | x ::l,n=>by rw [qZ,List.length_cons,Oz i l,List.length_cons]
theorem Fy (i:Int): ∀(l:aJ) (n:Nat),LH i l n=qZ i n (qX l)
 | .nil,_=>rfl
 | .cons h b e r,n=>by have hb:=oV b; have he:=oV e;rw [LH,qX,qZ,Fy i b,Fy i e,Fy i r,H7,H7,List.length_append,hb,he,show n + 1 + (dK b + dK e)=n + 1 + dK b + dK e by omega]
theorem Qf {w:World} {B:Nat} : ∀ {l:List De} {ao:Option Addr} {k:Nat},gQ w B l ao k-> ∀d ∈ l,d.Ok
 | [],_,_,_=>fun d hd=>by cases hd
 | x ::r,_,_,⟨⟨_,_,_,_,_,_,_,_,_,_,h⟩,hr⟩=>fun d hd=>by
   rcases List.mem_cons.1 hd with rfl | hd
   ·exact h
   ·exact Qf hr d hd
theorem Kj {w:World} {B:Nat} : ∀ {l:List Th} {ao:Option Addr} {k:Nat},gF w B l ao k-> ∀t ∈ l,t.Ok
 | [],_,_,_=>fun d hd=>by cases hd
 | x ::r,_,_,⟨⟨_,_,_,_,_,_,_,_,_,_,_,_,h,_⟩,hr⟩=>fun d hd=>by
   rcases List.mem_cons.1 hd with rfl | hd
   ·exact h
   ·exact Kj hr d hd
theorem Qb (d:De) (hd:bV d.size): ∀(n k:Nat),∀c ∈ nE d n k,bV c.sz
 | 0,_=>fun c hc=>by cases hc
 | n + 1,k=>fun c hc=>by
   rw [nE] at hc;rcases List.mem_cons.1 hc with rfl | hc
   ·exact hd
   ·exact Qb d hd n _ c hc
theorem Vm: ∀(l:List De) (W:Wo) (g:List UInt8->Int),(∀d ∈ l,d.Ok)->(∀c ∈ W.cs,bV c.sz)->(∀x ∈ W.fs,x.size<=maxLen)->(∀c ∈ (G7 l W g).cs,bV c.sz)∧(∀x ∈ (G7 l W g).fs,x.size<=maxLen)
 | [],W,g,_,h1,h2=>⟨h1,h2⟩
 | d ::r,W,g,hd,h1,h2=>by
   obtain ⟨-,-,hn,hs,-,-⟩:=hd d List.mem_cons_self;rw [G7];refine Vm r _ _ (fun x hx=>hd x (List.mem_cons_of_mem _ hx)) ?_ ?_
   ·unfold jd
    repeat' split
    ·intro c hc;rcases List.mem_append.1 hc with hc | hc
     ·exact h1 c hc
     ·unfold ji at hc;split at hc
      ·rw [List.mem_singleton.1 hc]; show bV 0; unfold bV; decide
      ·exact Qb d hs _ _ c hc
    all_goals exact h1
   ·unfold jd
    repeat' split
    all_goals first | exact h2 | skip
    intro x hx;rcases List.mem_append.1 hx with hx | hx
    ·exact h2 x hx
    ·rw [List.mem_singleton.1 hx]; exact hn
theorem QM: ∀(l:List Th) (W:Wo) (i:Nat),(CB W i l).ts=W.ts++l.map (·.nm)
 | [],W,i=>by simp [CB]
 | t ::r,W,i=>by rw [CB,QM r]; simp
theorem JQ {w:World} {B:Nat} : ∀ {l:List ByteArray} {ao:Option Addr} {k:Nat},bL ny 1 w B l ao k->(∀x ∈ l,x.size<=maxLen)->dU w B l ao k
 | [],_,_,_,_=>trivial
 | s ::r,ao,k,⟨⟨b,off,e,hB,c⟩,hr⟩,h=>⟨⟨b,off,e,hB,by have:=c 0 _ rfl; simpa using this,h s List.mem_cons_self⟩,JQ hr (fun x hx=>h x (List.mem_cons_of_mem _ hx))⟩
end Md
theorem wN {α:Type} {f:α->List Value} {m:Nat} {w:World} {base:Nat} {T:TypeId} {ao:Option Addr} {cap:Nat} {xs:List α} (hf: ∀x,(f x).length=m) (h:w.ownsRow base T m (.slice ao xs.length cap) xs.length (xs.flatMap f)):bL f m w w.heap.size xs ao 0:=by
 obtain ⟨mH,cap',e,-,-,h2⟩:=gL hf h;injection e with e1 e2 e3;subst e1; exact h2
def Yl (lo:Nat) (s:gW):Prop:=(∀b,s.aC=some b->lo<=b.block)∧(∀b,s.aL=some b->lo<=b.block)∧(∀b,s.aN=some b->lo<=b.block)∧(∀b,s.aF=some b->lo<=b.block)∧(∀b,s.aT=some b->lo<=b.block)∧(∀b,s.aS=some b->lo<=b.block)
theorem za {w:World} {B lo m n cap:Nat} {T:TypeId} {ao:Option Addr} {xs:List Value} {v:Value} (h:w.ownsRow B T m v n xs) (hv:v= .slice ao n cap) (hB:lo<=B): ∀b,ao=some b->lo<=b.block:=fun b e=>by
 have:=(h.lt b.block (by rw [hv,e]; rfl)).1; omega
theorem bL.keep {α:Type} {f:α->List Value} {m:Nat} {w w':World} {B:Nat} {l:List α} {ao:Option Addr} {k:Nat} (h:bL f m w B l ao k) (hk: ∀b,ao=some b->w'.heap[b.block]? =w.heap[b.block]?):bL f m w' B l ao k:=bL.mk (fun i x hx=>by
 obtain ⟨b,off,e,hB,hc⟩:=bL.at i x h hx;exact ⟨b,off,e,hB,fun j u hu=>(World.cell?_of_block (a:=⟨b,off + (k + i) * m + j,none⟩) (show w'.heap[b]? =w.heap[b]? from hk ⟨b,off,none⟩ e)).trans (hc j u hu)⟩)
theorem dU.keep {w w':World} {B:Nat} : ∀ {l:List ByteArray} {ao:Option Addr} {k:Nat},dU w B l ao k->(∀b,ao=some b->w'.heap[b.block]? =w.heap[b.block]?)->dU w' B l ao k
 | [],_,_,_,_=>trivial
 | _ ::_,_,k,⟨⟨b,off,e,hB,c,hs⟩,hr⟩,hk=>⟨⟨b,off,e,hB,(World.cell?_of_block (a:=⟨b,off + k,none⟩) (show w'.heap[b]? =w.heap[b]? from hk ⟨b,off,none⟩ e)).trans c,hs⟩,dU.keep hr hk⟩
theorem dR.keep {w w':World} {B lo:Nat} {W:Wo} {s:gW} (h:dR w B W s) (hn:Yl lo s) (hk: ∀k,lo<=k->w'.heap[k]? =w.heap[k]?):dR w' B W s:=
 ⟨bL.keep h.cs (fun b e=>hk _ (hn.1 b e)),bL.keep h.ls (fun b e=>hk _ (hn.2.1 b e)),bL.keep h.ns (fun b e=>hk _ (hn.2.2.1 b e)),dU.keep h.fs (fun b e=>hk _ (hn.2.2.2.1 b e)),dU.keep h.ts (fun b e=>hk _ (hn.2.2.2.2.1 b e)),bL.keep h.ss (fun b e=>hk _ (hn.2.2.2.2.2 b e)),h.lc,h.ll,h.ln,h.lf,h.lt,h.lS,h.ok⟩
theorem Sn {w w4:World} {BL bw m n j:Nat} {T:TypeId} {v v' vL u:Value} {xs:List Value} (hL:w.ownsRow BL T m vL n xs) (hbw:bw < BL) (hap: ∀q,vL.ownBlock=some q->v.ownBlock≠some q) (hg:w.grownBy w4 v.ownBlock) (ho:lI w v v'):
 (w4.setCell ⟨bw,j,none⟩ u).ownsRow BL T m vL n xs∧ ∀q,vL.ownBlock=some q->v'.ownBlock≠some q:=by
 have h4:w4.ownsRow BL T m vL n xs:=hL.kept hg (by
  cases hv:vL.ownBlock with
  | none=>exact .inl rfl
  | some q=>exact .inr (fun e=>hap q hv e.symm))
 refine ⟨h4.kept (bQ w4 ⟨bw,j,none⟩ u) ?_,fun q hq e=> ?_⟩
 ·cases hv:vL.ownBlock with
  | none=>exact .inl rfl
  | some q=>refine .inr (fun e=> ?_); have:=(h4.lt q hv).1; injection e with e; simp only at e; omega
 ·rcases ho with e' | ⟨g,e',hg'⟩
  ·rw [e'] at e; exact hap q hq e
  ·rw [e'] at e; injection e with e; subst e;have:=(hL.lt _ hq).2; omega
end Go.Proofs.YtgjmahnblcajbaaGreatDoor
