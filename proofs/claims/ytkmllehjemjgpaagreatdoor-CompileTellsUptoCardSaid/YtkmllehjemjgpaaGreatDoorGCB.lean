/- Contracts of compile's lines and cells. And what hangs on it. -/
import Derived.Test.YtkmllehjemjgpaaGreatDoorGCA
import Derived.Test.YtkmllehjemjgpaaGreatDoorGPI
import Derived.Deep.AppendLies
import Derived.IntWalk
import Derived.Test.YtkmllehjemjgpaaGreatDoorGME
set_option linter.unusedSimpArgs false
set_option linter.unusedVariables false
set_option maxHeartbeats 40000000
set_option maxRecDepth 1000000
namespace Go.Proofs.YtkmllehjemjgpaaGreatDoor
open Go.RowKit
open Md
namespace Md
def DZ (n:Int):List Value:=[.int .i64 n]
def sU:aH->List Int
 | .nil=>[]
 | .cons h b e r=>h.line::(sU b++sU e++sU r)
theorem mO: ∀l:aH,(sU l).length=bF l
 | .nil=>rfl
 | .cons h b e r=>by have h1:=mO b;have h2:=mO e;have h3:=mO r;simp only[sU,bF,List.length_cons,List.length_append];omega
end Md
theorem QW: ∀n:Int,(DZ n).length=1:=λ_=>rfl
theorem aW6 (n:Int): ∀u∈DZ n,u.oneCell'=true:=by intro u hu;simp[DZ]at hu;subst hu;rfl
theorem aC4:(Tryz.prog.info? 3).map (λi=>(i.zero,i.size,i.bytes))=some (some (.int .i64 0),1,8):=by kernel_rfl
theorem infoP {o:Option TypeInfo} {z:Option Value} {a b:Nat} (h:o.map (λi=>(i.zero,i.size,i.bytes))=some (z,a,b)): ∃i0,o=some i0∧i0.zero=z∧i0.size=a∧i0.bytes=b:=by
 cases o with
 |none=>cases h
 |some i=>simp at h;exact⟨i,rfl,h.1,h.2.1,h.2.2⟩
theorem Ia {v v1:Value} {w w1 w2:World} (h:w.grownBy w1 v.ownBlock) (ho:mH w v v1) (k:w1.grownBy w2 v1.ownBlock):w.grownBy w2 v.ownBlock:=
 ⟨k.os.trans h.os,k.tape.trans h.tape,k.output.trans h.output,Nat.le_trans h.size k.size,λj hj hne=>(k.block j (Nat.lt_of_lt_of_le hj h.size) (by
   rcases ho with e|⟨g,e,hg⟩
   ·rw[e];exact hne
   ·rw[e];intro e';injection e' with e';omega)).trans (h.block j hj hne)⟩
theorem vo {w w':World} {g:Option Nat} (h:Below w.heap.size w w'):w.grownBy w' g:=⟨h.os,h.tape,h.output,h.size,λk hk _=>h.block k hk⟩
theorem lZ {w w':World} {base n m:Nat} {e:TypeId} {v:Value} {xs:List Value} (h:w.ownsRow base e m v n xs) (hb:Below w.heap.size w w'):w'.ownsRow base e m v n xs:=
 h.kept (row:=none) ⟨hb.os,hb.tape,hb.output,hb.size,λk hk _=>hb.block k hk⟩ (by cases hv:v.ownBlock <;> simp)
structure U8 (T:TypeId) (B nb:Nat) (cs:Array Value) (ty:TypeId) (w:World) (v:Value) (xs:List Int) (w2:World) (v2:Value):Prop where
 r:w2.ownsRow B T 1 v2 xs.length (xs.flatMap DZ)
 g:w.grownBy w2 v.ownBlock
 o:mH w v v2
 x:w2.heap[nb]? =some (.cells cs ty (0,0))
 b:B<=w2.heap.size
 n:v2.ownBlock≠some nb
def Cm (l:aH):Prop:= ∀(w:World) (B:Nat) (v:Value) (xs:List Int) (ao:Option Addr) (cap:Nat),w.ownsRow B 3 1 v xs.length (xs.flatMap DZ)->B<=w.heap.size->l.len<=maxLen->l.At w B ao 0->xs.length+bF l<=1000000000000->
 Calls Tryz.prog 20 #[v,.slice ao l.len cap] w λe w'=> ∃v',e= .returned v'∧w'.ownsRow B 3 1 v' (xs++sU l).length ((xs++sU l).flatMap DZ)∧w.grownBy w' v.ownBlock∧mH w v v'
theorem U8.call {T ty:TypeId} {B nb:Nat} {cs:Array Value} {w w2 w':World} {v v2 v':Value} {xs ys:List Int} (h:U8 T B nb cs ty w v xs w2 v2) (hr:w'.ownsRow B T 1 v' ys.length (ys.flatMap DZ)) (hg:w2.grownBy w' v2.ownBlock) (ho:mH w2 v2 v'):U8 T B nb cs ty w v ys w' v':=by
 have hlt:=(Array.getElem?_eq_some_iff.1 h.x).1;exact⟨hr,Ia h.g h.o hg,h.o.trans ho h.g.size,(hg.block nb hlt (λe=>h.n e.symm)).trans h.x,Nat.le_trans h.b hg.size,ho.ne hlt h.n⟩
theorem vY {B:Nat} {T:TypeId} {m n:Nat} {v:Value} {w w':World} {xs:List Value} (h:w.ownsRow B T m v n xs) (hB:B<=w.heap.size) (hg:w.grownBy w' v.ownBlock):Below B w w':=
 ⟨hg.os,hg.tape,hg.output,hg.size,λk hk=>hg.block k (by omega) (λe=>by have:=(h.lt k e.symm).1;omega)⟩
theorem Im (l:aH) (hall:l.All λ_ b e=>Cm b∧Cm e):Cm l:=by
 intro w B v xs ao cap hrow hBw hl hat hlen;generalize hres:xs++sU l=res;have HR:=ah hres;have HRW:=ah hrow;have HAT:=ah hat;have HL:=ah hlen;have jd:=ah hall;have mh:=ah hBw;obtain⟨i0,hi,hz0,hz1,hz2⟩:=infoP aC4;have dY:=ah (And.intro hi (And.intro hz0 (And.intro hz1 hz2)));unfold maxLen at hl;clear hres hrow hat hlen hall hBw hi hz0 hz1 hz2;go_enter Tryz.func20,Tryz.ntmps20;go_wp2_with fail;go_loopw [0,6,9] (λv0 _ i wr=> ∃(k:Nat) (R:aH) (ys:List Int),i= .int .i64 k∧k+R.len=l.len∧res=ys++sU R∧ys.length+bF R<=1000000000000∧(R.All λ_ b e=>Cm b∧Cm e)∧R.At wr B ao k∧B<=wr.heap.size∧wr.ownsRow B 3 1 v0 ys.length (ys.flatMap DZ)∧w.grownBy wr v.ownBlock∧mH w v v0) (λ_ _ i _=>l.len -(intOf i).toNat)
 case atStart=>exact⟨0,l,xs,rfl,by simp,HR.o.symm,HL.o,jd.o,HAT.o,mh.o,HRW.o,zV _,.inl rfl⟩
 case round=>
  obtain⟨k,R,ys,rfl,hlen,heq,hl12,hall,hat,hBr,hrow,hgr,how⟩:=hrel;have HE:=ah heq;have KM:=ah hl12;have JZ:=ah hrow;have HG:=ah hgr;have HO:=ah how;have DR:=ah hBr;clear heq hl12 hrow hgr how hBr;cases R with
  |nil=>
   obtain rfl:k=l.len:=by simpa[aH.len]using hlen
   have HX:aj (res=ys):=ah (by rw[HE.o];simp[sU]);clear hat hall;go_wp2_with fail;go_ret;exact⟨_,rfl,by rw[HX.o];exact JZ.o,HG.o,HO.o⟩
  |cons h e0 e1 R=>
   obtain⟨bl,off,sl,rfl,hbl,hin,hcs,hrest⟩:=BG hat;have hkl:k<l.len:=by simp only[aH.len]at hlen;omega
   obtain⟨⟨hs0,hs1⟩,pF⟩:=hall;have lH:=ah (And.intro hs0 hs1);have jy:=ah pF;have CZ:=ah hin;have jE:=ah hrest;have x0:=hcs 0 _ rfl;have x1:=hcs 1 _ rfl;have x2:=hcs 2 _ rfl;have x3:=hcs 3 _ rfl;have x4:=hcs 4 _ rfl;have x5:=hcs 5 _ rfl;have x6:=hcs 6 _ rfl;have x7:=hcs 7 _ rfl;have x8:=hcs 8 _ rfl;have x9:=hcs 9 _ rfl;have x10:=hcs 10 _ rfl;simp only[stA,Nat.add_zero]at x0 x1 x2 x3 x4 x5 x6 x7 x8 x9 x10;clear hat hin hcs hrest hs0 hs1 pF;go_upto_region 4 with fail;generalize hW2:World.alloc wr _=w2;obtain⟨nb,hnb⟩: ∃n,wr.heap.size=n:=⟨_,rfl⟩;have HB:aj (Below wr.heap.size wr w2):=ah (by rw[<- hW2];exact ak _ _);have HX:aj (w2.heap[nb]? =some (.cells (stA h e0 e1 sl) 90 (0,0))):=ah (by rw[<- hW2,<- hnb];exact heap_alloc_new _ _);have S0:aj (U8 3 B nb (stA h e0 e1 sl) 90 wr u0 ys w2 u0):=ah ⟨lZ JZ.o HB.o,vo HB.o,.inl rfl,HX.o,Nat.le_trans DR.o HB.o.size,λe=>by have:=(JZ.o.lt _ e).2;omega⟩;rw[hnb];clear hW2 hnb x0 x1 x2 x3 x4 x5 x6 x7 x8 x9 x10 HX;have z1:=au (j:=1) S0.o.x rfl;have z9:=au (j:=9) S0.o.x rfl;have bJ:=au (j:=10) S0.o.x rfl;simp only[stA,List.getElem_toArray,List.getElem_cons_zero,List.getElem_cons_succ]at z1 z9 bJ;have iB:aj (Below w2.heap.size w2 (w2.alloc (.cells (DZ h.line).toArray 3))):=ah (ak _ _);have iG:=ah (gq (heap_alloc_new w2 (.cells (DZ h.line).toArray 3)));have kN:=ah (lZ S0.o.r iB.o);obtain⟨hi,hz0,hz1,hz2⟩:=dY.o;have hk1:ys.length+1<=maxLen:=by have:=KM.o;simp only[bF]at this;unfold maxLen;omega
   have kQ:(ys.length+1)*8<=140737488355328:=by have:=KM.o;simp only[bF]at this;omega
   have hbs:B<=w2.heap.size+1:=Nat.le_succ_of_le S0.o.b;go_wp2_with (at_builtin;refine wpList_append_lies _ rfl _ _ 63 rfl B 3 i0 _ 1 8 Tryz.underlying63 hi hz0 hz1 hz2 rfl (by decide) _ _ _ rfl kN.o ⟨w2.heap.size,0,none⟩ 1 1 (DZ h.line) rfl rfl iG.o (aW6 _) (by decide) hk1 kQ (by simpa using hbs) _ rfl ?_);intro g' cap' w3 hown hgr hmv hlt3;clear hi hz0 hz1 hz2 hk1 kQ hbs z1 z9 bJ;have S1:aj (U8 3 B nb (stA h e0 e1 sl) 90 wr u0 (ys++[h.line]) w3 (.slice (some ⟨g',0,none⟩) (ys.length+1) cap')):=ah (S0.o.call (by rw[List.flatMap_append,List.flatMap_singleton,List.length_append];exact hown) (gY (vo iB.o) hgr) (by
    rcases hmv with e|e
    ·exact .inl (by rw[e];rfl)
    ·exact .inr ⟨g',rfl,by have:=iB.o.size;simp at e this;omega⟩))
   have nN:=ah (vY JZ.o DR.o S1.o.g);clear hown hgr hmv hlt3 kN iG iB S0;have z9:=au (j:=9) S1.o.x rfl;have bJ:=au (j:=10) S1.o.x rfl;simp only[stA,List.getElem_toArray,List.getElem_cons_zero,List.getElem_cons_succ]at z9 bJ;go_wp2_with fail;refine(lH.o.1 w3 B _ (ys++[h.line]) sl.bR sl.aY S1.o.r S1.o.b CZ.o.1.2.2.2.2.2.2.1 (CZ.o.2.2.2.1.below nN.o) (by have:=KM.o;simp only[bF,List.length_append,List.length_cons,List.length_nil]at *;omega)).mono ?_;rintro e' w4 ⟨v4,rfl,hr4,hg4,ho4⟩;have S2:=ah (S1.o.call hr4 hg4 ho4);have D8:=ah (vY JZ.o DR.o S2.o.g);clear hr4 hg4 ho4 z9 bJ;have bJ:=au (j:=10) S2.o.x rfl;simp only[stA,List.getElem_toArray,List.getElem_cons_zero,List.getElem_cons_succ]at bJ;go_wp2_with fail;refine(lH.o.2 w4 B _ (ys++[h.line]++sU e0) sl.fH sl.dX S2.o.r S2.o.b CZ.o.1.2.2.2.2.2.2.2 (CZ.o.2.2.2.2.below D8.o) (by have:=KM.o;have h5:=mO e0;simp only[bF,List.length_append,List.length_cons,List.length_nil]at *;omega)).mono ?_;rintro e' w5 ⟨v5,rfl,hr5,hg5,ho5⟩;have S3:=ah (S2.o.call hr5 hg5 ho5);have WU:=ah (vY JZ.o DR.o S3.o.g);clear hr5 hg5 ho5 bJ;go_wp2_with fail;go_roundw
   case rel=>
    refine⟨k+1,R,ys++[h.line]++sU e0++sU e1,by go_num,by simp only[aH.len]at hlen;omega,?_,?_,jy.o,jE.o.below WU.o,S3.o.b,S3.o.r,Ia HG.o HO.o S3.o.g,HO.o.trans S3.o.o HG.o.size⟩
    ·rw[HE.o,sU];simp
    ·have:=KM.o;have h5:=mO e0;have h6:=mO e1;simp only[bF,List.length_append,List.length_cons,List.length_nil]at *;omega
   case measure=>simp[intOf];omega
theorem Vo (l:aH):Cm l:=Im l (aH.lM (λ_ b e hb he=>⟨Im b hb,Im e he⟩) l)
theorem vQ: ∀x:rQ,(jo x).length=5:=λ_=>rfl
theorem NA (x:rQ): ∀u∈jo x,u.oneCell'=true:=by
 intro u hu;simp[jo]at hu;rcases hu with rfl|rfl|rfl|rfl|rfl <;> rfl
theorem Fh:(Tryz.prog.info? 66).map (λi=>(i.zero,i.size,i.bytes))=some (some (.agg #[.string ⟨#[]⟩,.int .i64 0,.int .i64 0,.bool false,.int .i64 0]),5,48):=by kernel_rfl
theorem yj (d:De): ∀(n k:Nat),(pV d n k).length=n
 |0,_=>rfl
 |n+1,k=>by rw[pV,List.length_cons,yj d n]
theorem Lc (d:De): ∀(n k:Nat),pV d (n+1) k=pV d n k++[⟨d.nm,((k+n:Nat):Int),d.size,false,d.init⟩]
 |0,k=>rfl
 |n+1,k=>by rw[pV,Lc d n (k+1),pV,show k+1+n=k+(n+1) by omega];rfl
def aN7 (d:De) (w:World) (e:Ending) (w':World):Prop:= ∃g cap,e= .returned (.slice (some ⟨g,0,none⟩) (kG d).length cap)∧(∀j u,((kG d).flatMap jo)[j]? =some u->w'.cell? ((⟨g,0,none⟩:Addr).add j)=some u)∧0<(kG d).length∧(kG d).length<=4∧Below w.heap.size w w'
def deV (d:De):Value:= .agg #[.int .i64 d.kind,.int .i64 d.line,.string d.nm,.int .i64 d.size,.int .i64 d.init,.string d.on]
theorem Nv {w:World} {g j:Nat} {u:Value} (h:w.cell? ⟨g,j,none⟩=some u):w.cell? ((⟨g,0,none⟩:Addr).add j)=some u:=by
 rcases Nat.eq_zero_or_pos j with rfl|hj
 ·simpa[Addr.add]using h
 ·simpa[Addr.add,Nat.ne_of_gt hj]using h
theorem Ld (d:De) (w:World) (h0:0<=d.size) (h4:d.size<=4):Calls Tryz.prog 19 #[deV d] w (aN7 d w):=by
 unfold deV;by_cases hz:d.size=0
 ·have hcp:kG d=[⟨d.nm,0,0,d.kind==2,d.init⟩]:=by unfold kG;rw[hz];rfl
  have KG:=ah hcp;clear hcp h0 h4;obtain⟨kd,ln,nm,sz,ini,on⟩:=d;obtain rfl:sz=0:=hz;go_enter Tryz.func19,Tryz.ntmps19;go_wp2
  all_goals (
   go_ret;refine⟨w.heap.size+1,1,by rw[KG.o];rfl,λj u hu=> ?_,by rw[KG.o];exact Nat.one_pos,by rw[KG.o];simp,(ak _ _).alloc (by simp) _⟩;rw[KG.o]at hu;have hg:=heap_alloc_new (w.alloc (.cells #[.int .i64 kd,.int .i64 ln,.string nm,.int .i64 0,.int .i64 ini,.string on] 75)) (.cells (jo ⟨nm,0,0,kd==2,ini⟩).toArray 66);have e:(w.alloc (.cells #[.int .i64 kd,.int .i64 ln,.string nm,.int .i64 0,.int .i64 ini,.string on] 75)).heap.size=w.heap.size+1:=by simp
   rw[e]at hg;refine Nv ?_;exact au hg (by simpa using hu))
 ·have hcp:kG d=pV d d.size.toNat 0:=by unfold kG;rw[if_neg (by simpa using hz)]
  have KG:=ah hcp;have hs1:0<d.size:=by omega
  have hzb:(d.size==0)=false:=by rw[beq_eq_false_iff_ne];exact hz
  clear hcp hz;obtain⟨i0,hi,hz0,hz1,hz2⟩:=infoP Fh;have dY:=ah (And.intro hi (And.intro hz0 (And.intro hz1 hz2)));clear hi hz0 hz1 hz2;go_enter Tryz.func19,Tryz.ntmps19;go_upto_region 1 with fail;generalize hW:World.alloc w _=w1;obtain⟨nb,hnb⟩: ∃n,w.heap.size=n:=⟨_,rfl⟩;have HB:aj (Below w.heap.size w w1):=ah (by rw[<- hW];exact ak _ _);have HX:aj (w1.heap[nb]? =some (.cells #[.int .i64 d.kind,.int .i64 d.line,.string d.nm,.int .i64 d.size,.int .i64 d.init,.string d.on] 75 (0,0))):=ah (by rw[<- hW,<- hnb];exact heap_alloc_new _ _);have gB:aj (nb<w1.heap.size):=ah (Array.getElem?_eq_some_iff.1 HX.o).1;rw[hnb];clear hW hnb;have z0:=au (j:=0) HX.o rfl;have z2:=au (j:=2) HX.o rfl;have z3:=au (j:=3) HX.o rfl;have z4:=au (j:=4) HX.o rfl;go_wp2_with fail;go_loopw [3,4,19] (λv3 _ i wr=> ∃k:Nat,i= .int .i64 k∧(k:Int)<=d.size∧wr.ownsRow w1.heap.size 66 5 v3 (pV d k 0).length ((pV d k 0).flatMap jo)∧Below w1.heap.size w1 wr) (λ_ _ i _=>d.size.toNat -(intOf i).toNat)
  case atStart=>exact⟨0,rfl,by omega,World.ownsRow_nil _ _ _ _,Below.refl _ _⟩
  case round=>
   obtain⟨k,rfl,hk,hrow,hbel⟩:=hrel;have HRW:=ah hrow;have mQ:=ah hbel;clear hrow hbel z0 z2 z3 z4;have kP:=ah ((mQ.o.block nb gB.o).trans HX.o);have z0:=au (j:=0) kP.o rfl;have z2:=au (j:=2) kP.o rfl;have z3:=au (j:=3) kP.o rfl;have z4:=au (j:=4) kP.o rfl;by_cases hlt:(k:Int)<d.size
   ·have iB:aj (Below wr.heap.size wr (wr.alloc (.cells (jo ⟨d.nm,k,d.size,false,d.init⟩).toArray 66))):=ah (ak _ _);have iG:=ah (gq (heap_alloc_new wr (.cells (jo ⟨d.nm,k,d.size,false,d.init⟩).toArray 66)));have kN:=ah (lZ HRW.o iB.o);have KF:=ah (yj d k 0);obtain⟨hi,hz0,hz1,hz2⟩:=dY.o;have hk1:(pV d k 0).length+1<=maxLen:=(by rw[KF.o];unfold maxLen;omega);have kQ:((pV d k 0).length+1)*48<=140737488355328:=(by rw[KF.o];omega);have hbs:w1.heap.size<=wr.heap.size+1:=Nat.le_succ_of_le mQ.o.size;go_wp2_with (at_builtin;refine wpList_append_lies _ rfl _ _ 26 rfl w1.heap.size 66 i0 _ 5 48 Tryz.underlying26 hi hz0 hz1 hz2 rfl (by decide) _ _ _ rfl kN.o ⟨wr.heap.size,0,none⟩ 1 1 (jo ⟨d.nm,k,d.size,false,d.init⟩) rfl rfl iG.o (NA _) (by decide) hk1 kQ (by simpa using hbs) _ rfl ?_);intro g' cap' w3 hown hgr hmv hlt3;have HR3:aj (w3.ownsRow w1.heap.size 66 5 (.slice (some ⟨g',0,none⟩) ((pV d k 0).length+1) cap') (pV d (k+1) 0).length ((pV d (k+1) 0).flatMap jo)):=ah (by rw[Lc,List.flatMap_append,List.flatMap_singleton,List.length_append,Nat.zero_add];exact hown);have HB3:aj (Below w1.heap.size w1 w3):=ah (mQ.o.trans (vY HRW.o mQ.o.size (gY (vo iB.o) hgr)));clear hi hz0 hz1 hz2 hk1 kQ hbs hown hgr hmv hlt3 kN iG iB z0 z2 z3 z4;go_wp2_with fail;go_roundw
    case rel=>exact⟨k+1,by go_num,by omega,HR3.o,HB3.o⟩
    case measure=>simp[intOf];omega
   ·have hke:d.size.toNat=k:=(by omega);have HE:aj (kG d=pV d k 0):=ah (by rw[KG.o,hke]);have HK:aj (0<k∧k<=4):=ah (by omega);go_wp2_with fail;go_ret;rcases HRW.o.2 with⟨-,hn⟩|⟨g,cap,cur,hv,hb,hg,h1,h2,h3,h5⟩
    ·rw[yj]at hn;have:=HK.o.1;omega
    ·refine⟨g,cap,(show Ending.returned u3=_ by rw[HE.o,hv]),λj u hu=>Nv ?_,by rw[HE.o,yj];exact HK.o.1,by rw[HE.o,yj];exact HK.o.2,HB.o.trans (mQ.o.mono HB.o.size)⟩;rw[HE.o,<- h5]at hu;have jw:=(List.getElem?_eq_some_iff.1 hu).1;rw[List.getElem?_take_of_lt (by rw[List.length_take]at jw;omega)]at hu;exact au hg (by rw[<- hu];simp)
structure Rw where
 T:TypeId
 m:Nat
 v:Value
 n:Nat
 xs:List Value
def Rw.Ok (w:World) (B:Nat) (r:Rw):Prop:=w.ownsRow B r.T r.m r.v r.n r.xs
def Apart (a b:Rw):Prop:= ∀k,a.v.ownBlock=some k->b.v.ownBlock≠some k
theorem Apart.symm {a b:Rw} (h:Apart a b):Apart b a:=λk hb ha=>h k ha hb
structure Rows (w:World) (B:Nat) (l:List Rw):Prop where
 own: ∀r∈l,r.Ok w B
 ap:l.Pairwise Apart
section
variable {w w':World} {B:Nat} {l pre post:List Rw} {r r':Rw}
theorem Rows.below (h:Rows w B l) (hb:Below w.heap.size w w'):Rows w' B l:=⟨λr hr=>lZ (h.own r hr) hb,h.ap⟩
theorem Rows.keep (h:Rows w B l) {k:Nat} (hg:w.grownBy w' (some k)) (hk:k<B):Rows w' B l:=⟨λr hr=>(h.own r hr).kept hg (by
 cases hv:r.v.ownBlock with
 |none=>exact .inl rfl
 |some j=>refine .inr (λe=> ?_);have:=((h.own r hr).lt j hv).1;injection e with e;omega),h.ap⟩
theorem Rows.put (h:Rows w B (pre++r::post)) (hg:w.grownBy w' r.v.ownBlock) (hr:r'.Ok w' B) (ho:mH w r.v r'.v):Rows w' B (pre++r'::post):=by
 have hap:=h.ap;rw[List.pairwise_append,List.pairwise_cons]at hap;obtain⟨h1,⟨h2,h3⟩,h4⟩:=hap;have keep: ∀q∈pre++r::post,Apart q r->q.Ok w' B:=λq hq ha=>(h.own q hq).kept hg (by
  cases hv:q.v.ownBlock with
  |none=>exact .inl rfl
  |some j=>exact .inr (λe=>ha j hv e.symm))
 have far: ∀q∈pre++r::post,Apart q r->Apart q r':=λq hq ha k hk e=>by
  rcases ho with e'|⟨g,e',hge⟩
  ·rw[e']at e;exact ha k hk e
  ·rw[e']at e;injection e with e;subst e;have:=((h.own q hq).lt _ hk).2;omega
 have ap1: ∀q∈pre,Apart q r:=λq hq=>h4 q hq r List.mem_cons_self;have ap2: ∀q∈post,Apart q r:=λq hq=>(h2 q hq).symm;have m1: ∀q∈pre,q∈pre++r::post:=λq hq=>List.mem_append_left _ hq;have m2: ∀q∈post,q∈pre++r::post:=λq hq=>List.mem_append_right _ (List.mem_cons_of_mem _ hq);refine⟨λq hq=> ?_,?_⟩
 ·rcases List.mem_append.1 hq with hq|hq
  ·exact keep q (m1 q hq) (ap1 q hq)
  ·rcases List.mem_cons.1 hq with rfl|hq
   ·exact hr
   ·exact keep q (m2 q hq) (ap2 q hq)
 ·rw[List.pairwise_append,List.pairwise_cons];refine⟨h1,⟨λq hq=>(far q (m2 q hq) (ap2 q hq)).symm,h3⟩,λq hq x hx=> ?_⟩;rcases List.mem_cons.1 hx with rfl|hx
  ·exact far q (m1 q hq) (ap1 q hq)
  ·exact h4 q hq x (List.mem_cons_of_mem _ hx)
end
namespace Md
structure Vs where
 v0:Value
 v1:Value
 v2:Value
 v3:Value
 v4:Value
 v5:Value
end Md
def gF (s:Vs) (W:Wo):List Rw:=[⟨66,5,s.v0,W.cs.length,W.cs.flatMap jo⟩,⟨68,2,s.v1,W.ls.length,W.ls.flatMap ku⟩,⟨70,2,s.v2,W.ns.length,W.ns.flatMap rE⟩,
 ⟨9,1,s.v3,W.fs.length,W.fs.flatMap jr⟩,⟨9,1,s.v4,W.ts.length,W.ts.flatMap jr⟩,⟨72,3,s.v5,W.ss.length,W.ss.flatMap pR⟩]
structure mE (w:World) (B bw:Nat) (s:Vs) (W:Wo):Prop where
 blk:w.heap[bw]? =some (.cells #[s.v0,s.v1,s.v2,s.v3,s.v4,s.v5] 32 (0,0))
 row:Rows w B (gF s W)
 lt:bw<B
 sz:B<=w.heap.size
theorem rH: ∀x:sJ,(ku x).length=2:=λ_=>rfl
theorem FW: ∀x:AZ,(rE x).length=2:=λ_=>rfl
theorem wD: ∀x:ByteArray,(jr x).length=1:=λ_=>rfl
theorem CO: ∀x:xM,(pR x).length=3:=λ_=>rfl
section
variable {w w' w4:World} {B bw:Nat} {s:Vs} {W:Wo}
theorem mE.below (h:mE w B bw s W) (hb:Below w.heap.size w w'):mE w' B bw s W:=
 ⟨(hb.block _ (Array.getElem?_eq_some_iff.1 h.blk).1).trans h.blk,h.row.below hb,h.lt,Nat.le_trans h.sz hb.size⟩
theorem mE.keep (h:mE w B bw s W) {k:Nat} (hg:w.grownBy w' (some k)) (hk:k<B) (hne:k≠bw):mE w' B bw s W:=
 ⟨(hg.block _ (Array.getElem?_eq_some_iff.1 h.blk).1 (by simp;exact λe=>hne e.symm)).trans h.blk,h.row.keep hg hk,h.lt,Nat.le_trans h.sz hg.size⟩
theorem mE.cells (h:mE w B bw s W):bw<w.heap.size∧w.cell? ⟨bw,0,none⟩=some s.v0∧w.cell? ⟨bw,1,none⟩=some s.v1∧w.cell? ⟨bw,2,none⟩=some s.v2∧w.cell? ⟨bw,3,none⟩=some s.v3∧w.cell? ⟨bw,4,none⟩=some s.v4∧w.cell? ⟨bw,5,none⟩=some s.v5∧∀j,w.frozen? ⟨bw,j,none⟩=false:=
 ⟨(Array.getElem?_eq_some_iff.1 h.blk).1,au h.blk rfl,au h.blk rfl,au h.blk rfl,au h.blk rfl,au h.blk rfl,au h.blk rfl,λ_=>bG h.blk⟩
theorem mE.grow {pre post:List Rw} {r r':Rw} {s':Vs} {W':Wo} {j:Nat} (h:mE w B bw s W) (hg:w.grownBy w4 r.v.ownBlock) (e1:gF s W=pre++r::post) (e2:gF s' W'=pre++r'::post) (hr:r'.Ok w4 B) (ho:mH w r.v r'.v)
 (hc:(#[s.v0,s.v1,s.v2,s.v3,s.v4,s.v5]:Array Value).setIfInBounds j r'.v= #[s'.v0,s'.v1,s'.v2,s'.v3,s'.v4,s'.v5]):mE (w4.setCell ⟨bw,j,none⟩ r'.v) B bw s' W':=by
 have hrow:=h.row;rw[e1]at hrow;have h4:=hrow.put hg hr ho;rw[<- e2]at h4;have hlt:=h.lt;have hne:r.v.ownBlock≠some bw:=λe=>by have:=((hrow.own r (by simp)).lt _ e).1;omega
 have hb:w4.heap[bw]? =some (.cells #[s.v0,s.v1,s.v2,s.v3,s.v4,s.v5] 32 (0,0)):=(hg.block _ (Array.getElem?_eq_some_iff.1 h.blk).1 (λe=>hne e.symm)).trans h.blk;have hgs:=bQ w4 ⟨bw,j,none⟩ r'.v;exact⟨nA hb _ hc,h4.keep hgs hlt,hlt,Nat.le_trans h.sz (Nat.le_trans hg.size hgs.size)⟩
theorem mE.own (h:mE w B bw s W) {r:Rw} (hr:r∈gF s W):r.Ok w B:=h.row.own r hr
end
theorem ES: ∀(ds pre:List De) (c l n f:Int),(kL ds pre c l n f).1=0->∀d∈ds,d.size<=4
 | [],_,_,_,_,_,_=>λd hd=>by cases hd
 |d::r,pre,c,l,n,f,h0=>by
  rw[kL]at h0;split at h0
  ·exact absurd (show(4:Int)=0 from h0) (by decide)
  split at h0
  ·exact absurd (show(2:Int)=0 from h0) (by decide)
  rename_i h2;split at h0
  ·exact absurd (show(2:Int)=0 from h0) (by decide)
  split at h0
  ·exact absurd (show(5:Int)=0 from h0) (by decide)
  split at h0
  ·exact absurd (show(6:Int)=0 from h0) (by decide)
  intro x hx;rcases List.mem_cons.1 hx with rfl|hx
  ·simpa using h2
  ·exact ES r _ _ _ _ _ h0 x hx
namespace Md
def tC (i:Int):Nat->List Int->List xM
 |_,[]=>[]
 |n,x::r=>⟨i,n,x⟩::tC i (n+1) r
theorem Ip (i:Int): ∀(l r:List Int) (n:Nat),tC i n (l++r)=tC i n l++tC i (n+l.length) r
 | [],r,n=>by simp[tC]
 |x::l,r,n=>by rw[List.cons_append,tC,Ip i l r (n+1),tC,List.length_cons,show n+1+l.length=n+(l.length+1) by omega];rfl
theorem yB (i:Int): ∀(l:List Int) (n:Nat),(tC i n l).length=l.length
 | [],_=>rfl
 |x::l,n=>by rw[tC,List.length_cons,yB i l,List.length_cons]
theorem wh (i:Int): ∀(l:aH) (n:Nat),sj i l n=tC i n (sU l)
 | .nil,_=>rfl
 | .cons h b e r,n=>by have hb:=mO b;have he:=mO e;rw[sj,sU,tC,wh i b,wh i e,wh i r,Ip,Ip,List.length_append,hb,he,show n+1+(bF b+bF e)=n+1+bF b+bF e by omega]
theorem K9 {w:World} {B:Nat} : ∀ {l:List De} {ao:Option Addr} {k:Nat},gM w B l ao k->∀d∈l,d.Ok
 | [],_,_,_=>λd hd=>by cases hd
 |x::r,_,_,⟨⟨_,_,_,_,_,_,_,_,_,_,h⟩,hr⟩=>λd hd=>by
  rcases List.mem_cons.1 hd with rfl|hd
  ·exact h
  ·exact K9 hr d hd
theorem CQ {w:World} {B:Nat} : ∀ {l:List Th} {ao:Option Addr} {k:Nat},fQ w B l ao k->∀t∈l,t.Ok
 | [],_,_,_=>λd hd=>by cases hd
 |x::r,_,_,⟨⟨_,_,_,_,_,_,_,_,_,_,_,_,h,_⟩,hr⟩=>λd hd=>by
  rcases List.mem_cons.1 hd with rfl|hd
  ·exact h
  ·exact CQ hr d hd
theorem Qx (d:De) (hd:fD d.size): ∀(n k:Nat),∀c∈pV d n k,fD c.sz
 |0,_=>λc hc=>by cases hc
 |n+1,k=>λc hc=>by
  rw[pV]at hc;rcases List.mem_cons.1 hc with rfl|hc
  ·exact hd
  ·exact Qx d hd n _ c hc
theorem Pn: ∀(l:List De) (W:Wo) (g:List UInt8->Int),(∀d∈l,d.Ok)->(∀c∈W.cs,fD c.sz)->(∀x∈W.fs,x.size<=maxLen)->(∀c∈(FK l W g).cs,fD c.sz)∧(∀x∈(FK l W g).fs,x.size<=maxLen)
 | [],W,g,_,h1,h2=>⟨h1,h2⟩
 |d::r,W,g,hd,h1,h2=>by
  obtain⟨-,-,hn,hs,-,-⟩:=hd d List.mem_cons_self;rw[FK];refine Pn r _ _ (λx hx=>hd x (List.mem_cons_of_mem _ hx)) ?_ ?_
  ·unfold jW
   repeat' split
   ·intro c hc;rcases List.mem_append.1 hc with hc|hc
    ·exact h1 c hc
    ·unfold kG at hc;split at hc
     ·rw[List.mem_singleton.1 hc];show fD 0;unfold fD;decide
     ·exact Qx d hs _ _ c hc
   all_goals exact h1
  ·unfold jW
   repeat' split
   all_goals first|exact h2|skip
   intro x hx;rcases List.mem_append.1 hx with hx|hx
   ·exact h2 x hx
   ·rw[List.mem_singleton.1 hx];exact hn
theorem Kz: ∀(l:List Th) (W:Wo) (i:Nat),(zF W i l).ts=W.ts++l.map (·.nm)
 | [],W,i=>by simp[zF]
 |t::r,W,i=>by rw[zF,Kz r];simp
theorem Ke {w:World} {B:Nat} : ∀ {l:List ByteArray} {ao:Option Addr} {k:Nat},dF jr 1 w B l ao k->(∀x∈l,x.size<=maxLen)->eD w B l ao k
 | [],_,_,_,_=>trivial
 |s::r,ao,k,⟨⟨b,off,e,hB,c⟩,hr⟩,h=>⟨⟨b,off,e,hB,by have:=c 0 _ rfl;simpa using this,h s List.mem_cons_self⟩,Ke hr (λx hx=>h x (List.mem_cons_of_mem _ hx))⟩
end Md
theorem tN {α:Type} {f:α->List Value} {m:Nat} {w:World} {base:Nat} {T:TypeId} {ao:Option Addr} {cap:Nat} {xs:List α} (hf: ∀x,(f x).length=m) (h:w.ownsRow base T m (.slice ao xs.length cap) xs.length (xs.flatMap f)):dF f m w w.heap.size xs ao 0:=by
 obtain⟨nR,cap',e,-,-,h2⟩:=eU hf h;injection e with e1 e2 e3;subst e1;exact h2
def Mc (lo:Nat) (s:jf):Prop:=(∀b,s.aC=some b->lo<=b.block)∧(∀b,s.aL=some b->lo<=b.block)∧(∀b,s.aN=some b->lo<=b.block)∧(∀b,s.aF=some b->lo<=b.block)∧(∀b,s.aT=some b->lo<=b.block)∧(∀b,s.aS=some b->lo<=b.block)
theorem zX {w:World} {B lo m n cap:Nat} {T:TypeId} {ao:Option Addr} {xs:List Value} {v:Value} (h:w.ownsRow B T m v n xs) (hv:v= .slice ao n cap) (hB:lo<=B): ∀b,ao=some b->lo<=b.block:=λb e=>by
 have:=(h.lt b.block (by rw[hv,e];rfl)).1;omega
theorem dF.keep {α:Type} {f:α->List Value} {m:Nat} {w w':World} {B:Nat} {l:List α} {ao:Option Addr} {k:Nat} (h:dF f m w B l ao k) (hk: ∀b,ao=some b->w'.heap[b.block]? =w.heap[b.block]?):dF f m w' B l ao k:=dF.mk (λi x hx=>by
 obtain⟨b,off,e,hB,hc⟩:=dF.at i x h hx;exact⟨b,off,e,hB,λj u hu=>(World.cell?_of_block (a:=⟨b,off+(k+i)*m+j,none⟩) (show w'.heap[b]? =w.heap[b]? from hk ⟨b,off,none⟩ e)).trans (hc j u hu)⟩)
theorem eD.keep {w w':World} {B:Nat} : ∀ {l:List ByteArray} {ao:Option Addr} {k:Nat},eD w B l ao k->(∀b,ao=some b->w'.heap[b.block]? =w.heap[b.block]?)->eD w' B l ao k
 | [],_,_,_,_=>trivial
 |_::_,_,k,⟨⟨b,off,e,hB,c,hs⟩,hr⟩,hk=>⟨⟨b,off,e,hB,(World.cell?_of_block (a:=⟨b,off+k,none⟩) (show w'.heap[b]? =w.heap[b]? from hk ⟨b,off,none⟩ e)).trans c,hs⟩,eD.keep hr hk⟩
theorem fJ.keep {w w':World} {B lo:Nat} {W:Wo} {s:jf} (h:fJ w B W s) (hn:Mc lo s) (hk: ∀k,lo<=k->w'.heap[k]? =w.heap[k]?):fJ w' B W s:=
 ⟨dF.keep h.cs (λb e=>hk _ (hn.1 b e)),dF.keep h.ls (λb e=>hk _ (hn.2.1 b e)),dF.keep h.ns (λb e=>hk _ (hn.2.2.1 b e)),eD.keep h.fs (λb e=>hk _ (hn.2.2.2.1 b e)),eD.keep h.ts (λb e=>hk _ (hn.2.2.2.2.1 b e)),dF.keep h.ss (λb e=>hk _ (hn.2.2.2.2.2 b e)),h.lc,h.ll,h.ln,h.lf,h.lt,h.lS,h.ok⟩
theorem Tc {w w4:World} {BL bw m n j:Nat} {T:TypeId} {v v' vL u:Value} {xs:List Value} (hL:w.ownsRow BL T m vL n xs) (hbw:bw<BL) (hap: ∀q,vL.ownBlock=some q->v.ownBlock≠some q) (hg:w.grownBy w4 v.ownBlock) (ho:mH w v v'):
 (w4.setCell ⟨bw,j,none⟩ u).ownsRow BL T m vL n xs∧∀q,vL.ownBlock=some q->v'.ownBlock≠some q:=by
 have h4:w4.ownsRow BL T m vL n xs:=hL.kept hg (by
  cases hv:vL.ownBlock with
  |none=>exact .inl rfl
  |some q=>exact .inr (λe=>hap q hv e.symm))
 refine⟨h4.kept (bQ w4 ⟨bw,j,none⟩ u) ?_,λq hq e=> ?_⟩
 ·cases hv:vL.ownBlock with
  |none=>exact .inl rfl
  |some q=>refine .inr (λe=> ?_);have:=(h4.lt q hv).1;injection e with e;simp only at e;omega
 ·rcases ho with e'|⟨g,e',hg'⟩
  ·rw[e']at e;exact hap q hq e
  ·rw[e']at e;injection e with e;subst e;have:=(hL.lt _ hq).2;omega
theorem zO (l:List sJ) (nm:ByteArray) (w:World) (ao:Option Addr) (cap:Nat) (hl:l.length<=maxLen) (hw:dF ku 2 w w.heap.size l ao 0):
 Calls Tryz.prog 21 #[.slice ao l.length cap,.string nm] w λe w'=>e= .returned (.int .i64 (eB (l.map (·.nm)) nm))∧w=w':=by
 unfold maxLen at hl;go_enter Tryz.func21,Tryz.ntmps21;go_wp2_with fail;go_loop [5] (λs=> ∃(k:Nat) (R:List sJ),s= .int .i64 k∧k+R.length=l.length∧eB (l.map (·.nm)) nm=qI (R.map (·.nm)) nm k∧dF ku 2 w w.heap.size R ao k) (λs=>l.length -(intOf s).toNat)
 case atStart=>exact⟨0,l,rfl,by simp,rfl,hw⟩
 case round=>
  obtain⟨k,R,rfl,hlen,heq,hrow⟩:=hrel;have HE:=ah heq;clear heq;cases R with
  |nil=>
   obtain rfl:k=l.length:=by simpa using hlen
   go_wp2_with fail;go_ret;exact⟨aV HE.o.symm,rfl⟩
  |cons x R=>
   obtain⟨⟨b,off,rfl,hB,hcs⟩,hrest⟩:=hrow;have z0:=hcs 0 _ rfl;simp only[Nat.add_zero]at z0;simp only[List.length_cons]at hlen;have hkl:k<l.length:=by omega
   clear hcs;cases hc:(x.nm.toList==nm.toList)
   ·have bV:=ah (HE.o.trans (if_neg (show ¬(x.nm.toList==nm.toList)=true by rw[hc];decide)));go_wp2_with fail;go_round
    case rel=>exact⟨k+1,R,by go_num,by omega,by simpa using bV.o,hrest⟩
    case measure=>simp[intOf];omega
   ·have bV:=ah (HE.o.trans (if_pos hc));go_wp2_with fail;go_ret;exact⟨aV bV.o.symm,rfl⟩
theorem zG (W:Wo) (s:jf) (nm:ByteArray) (w:World) (hw:fJ w w.heap.size W s):
 Calls Tryz.prog 96 #[nD W s,.string nm] w λe w'=>e= .returned (.int .i64 (W.cell nm))∧Below w.heap.size w w':=by
 have hl:=hw.lc;unfold maxLen at hl;have HW:=ah hw;clear hw;unfold Wo.cell nD;go_enter Tryz.func96,Tryz.ntmps96;go_upto_region 1 with fail;generalize hW:World.alloc w _=W1;obtain⟨nb,hnb⟩: ∃n,w.heap.size=n:=⟨_,rfl⟩;have HB:aj (Below w.heap.size w W1):=ah (by rw[<- hW];exact ak _ _);have hc0:W1.cell? ⟨nb,0,none⟩=some (.slice s.aC W.cs.length s.cC):=by rw[<- hW,<- hnb];exact au (heap_alloc_new _ _) rfl
 have HF:=ah (HW.o.cs.same HB.o);rw[hnb];clear hW hnb;go_wp2_with fail;go_loop [5] (λs5=> ∃(k:Nat) (R:List rQ),s5= .int .i64 k∧k+R.length=W.cs.length∧eB (W.cs.map (·.nm)) nm=qI (R.map (·.nm)) nm k∧dF jo 5 W1 W1.heap.size R s.aC k) (λs=>W.cs.length -(intOf s).toNat)
 case atStart=>exact⟨0,W.cs,rfl,by simp,rfl,HF.o⟩
 case round=>
  obtain⟨k,R,rfl,hlen,heq,hrow⟩:=hrel;have HE:=ah heq;clear heq HF;cases R with
  |nil=>
   obtain rfl:k=W.cs.length:=by simpa using hlen
   go_wp2_with fail;go_ret;exact⟨aV HE.o.symm,HB.o⟩
  |cons x R=>
   obtain⟨⟨b,off,hao,iL,hcs⟩,hrest⟩:=hrow;have z0:=hcs 0 _ rfl;simp only[Nat.add_zero]at z0;rw[hao]at hc0;simp only[List.length_cons]at hlen;have hkl:k<W.cs.length:=by omega
   have xG:=ah hao;clear hcs hao;cases hc:(x.nm.toList==nm.toList)
   ·have bV:=ah (HE.o.trans (if_neg (show ¬(x.nm.toList==nm.toList)=true by rw[hc];decide)));go_wp2_with fail;go_round
    case rel=>exact⟨k+1,R,by go_num,by omega,by simpa using bV.o,hrest⟩
    case measure=>simp[intOf];omega
   ·have bV:=ah (HE.o.trans (if_pos hc));go_wp2_with fail;go_ret;exact⟨aV bV.o.symm,HB.o⟩
theorem Fz {T:TypeId} {w:World} {L:GL} {W:Wo} {s:jf} {lc:List ByteArray} {al:Option Addr} {cl:Nat} {v:Value} {code:List bM} {a b:Int} (h:eX T w L W s lc al cl v code a b) (nm:ByteArray):
 Calls Tryz.prog 70 #[.pointer (some ⟨L.gb,0,none⟩),.string nm] w λe w'=>e= .returned (.int .i64 (W.cond nm))∧w=w':=by
 obtain⟨hlt,-,-,hc0,-,-,-,-,-,-,-,-⟩:=h.cells;have hl:=h.wo.ln;unfold maxLen at hl;have HF:=ah (h.wo.ns.mono h.b0);unfold Wo.cond;clear h;go_enter Tryz.func70,Tryz.ntmps70;go_wp2_with fail;go_loop [5] (λs4=> ∃(k:Nat) (R:List AZ),s4= .int .i64 k∧k+R.length=W.ns.length∧eB (W.ns.map (·.nm)) nm=qI (R.map (·.nm)) nm k∧dF rE 2 w w.heap.size R s.aN k) (λs=>W.ns.length -(intOf s).toNat)
 case atStart=>exact⟨0,W.ns,rfl,by simp,rfl,HF.o⟩
 case round=>
  obtain⟨k,R,rfl,hlen,heq,hrow⟩:=hrel;have HE:=ah heq;clear heq HF;cases R with
  |nil=>
   obtain rfl:k=W.ns.length:=by simpa using hlen
   go_wp2_with fail;go_ret;exact⟨aV HE.o.symm,rfl⟩
  |cons x R=>
   obtain⟨⟨b,off,hao,iL,hcs⟩,hrest⟩:=hrow;have z0:=hcs 0 _ rfl;simp only[Nat.add_zero]at z0;rw[hao]at hc0;simp only[List.length_cons]at hlen;have hkl:k<W.ns.length:=by omega
   clear hcs hao;cases hc:(x.nm.toList==nm.toList)
   ·have bV:=ah (HE.o.trans (if_neg (show ¬(x.nm.toList==nm.toList)=true by rw[hc];decide)));go_wp2_with fail;go_round
    case rel=>exact⟨k+1,R,by go_num,by omega,by simpa using bV.o,hrest⟩
    case measure=>simp[intOf];omega
   ·have bV:=ah (HE.o.trans (if_pos hc));go_wp2_with fail;go_ret;exact⟨aV bV.o.symm,rfl⟩
end Go.Proofs.YtkmllehjemjgpaaGreatDoor
