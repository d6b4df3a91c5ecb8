/- The checker's state as data, and the contract of its statement at every operator. And what hangs on it. -/
import Derived.Test.YtcjgfgkllmldpaaGreatDoorGMG
set_option linter.unusedSimpArgs false
set_option linter.unusedVariables false
set_option maxHeartbeats 40000000
set_option maxRecDepth 1000000
namespace Go.Proofs.YtcjgfgkllmldpaaGreatDoor
open Go.RowKit
namespace Md
structure Fr where
 h:dM
 b:bf
 e:bf
 s:Sl
def dJ:List Fr->bf
 | []=> .nil
 |x::r=> .cons x.h x.b x.e (dJ r)
def qy (h:dM) (b e:bf) (s:Sl):List Value:=[.int .i64 h.op,.int .i64 h.line,.string h.nm,.string h.arg,.slice s.gu h.idx.len s.eG,.int .i64 h.dY,.int .i64 h.xn,.string h.dX,.slice s.gY h.bM.len s.fD,.slice s.dR b.len s.dA,.slice s.jc e.len s.gZ]
def CF:List Fr->List Value
 | []=>[]
 |x::r=>qy x.h x.b x.e x.s++CF r
theorem GA: ∀A:List Fr,(CF A).length=A.length*11
 | []=>rfl
 |x::r=>by simp only[CF,au,GA r,aB];simp[qy];omega
theorem Ei: ∀(A:List Fr) (x:Fr),CF (A++[x])=CF A++qy x.h x.b x.e x.s
 | [],x=>by simp[CF]
 |y::r,x=>by simp[CF,Ei r x]
theorem sV: ∀A:List Fr,(dJ A).len=A.length
 | []=>rfl
 |x::r=>by simp[dJ,bf.len,sV r]
def uW (w:World) (B:Nat) (h:dM) (b e:bf) (s:Sl):Prop:=A9 h b e∧h.idx.At w B s.gu 0∧h.bM.At w B s.gY 0∧b.At w B s.dR 0∧e.At w B s.jc 0
theorem uW.below {w w':World} {B:Nat} {h:dM} {b e:bf} {s:Sl} (hi:uW w B h b e s) (hb:Below B w w'):uW w' B h b e s:=
 ⟨hi.1,hi.2.1.below hb,hi.2.2.1.below hb,hi.2.2.2.1.below hb,hi.2.2.2.2.below hb⟩
theorem uW.use {w:World} {B:Nat} {h:dM} {b e:bf} {s:Sl} (hi:uW w B h b e s) (hb:B<=w.heap.size):FJ w h b e s:=
 ⟨hi.1,hi.2.1.mono hb,hi.2.2.1.mono hb,hi.2.2.2.1.mono hb,hi.2.2.2.2.mono hb⟩
def ap7 (w:World) (B:Nat) (A:List Fr):Prop:= ∀x∈A,uW w B x.h x.b x.e x.s
theorem av4 {w:World} {B B' g:Nat} (hB:B<=B') (hg:g<B'): ∀(A:List Fr) (k:Nat),(∀j u,(CF A)[j]? =some u->w.cell? ⟨g,k*11+j,none⟩=some u)->ap7 w B A->(dJ A).At w B' (some ⟨g,0,none⟩) k
 | [],_,_,_=>trivial
 |x::r,k,hc,hin=>by
  have hx:=hin x ahh;have c: ∀j u,(qy x.h x.b x.e x.s)[j]? =some u->w.cell? ⟨g,0+k*11+j,none⟩=some u:=λj u hu=>by rw[aU];refine hc j u ?_;have:j<(qy x.h x.b x.e x.s).length:=(List.getElem?_eq_some_iff.1 hu).1;rw[CF,List.getElem?_append_left this];exact hu
  refine⟨⟨g,0,x.s.gu,x.s.eG,x.s.gY,x.s.fD,x.s.dR,x.s.dA,x.s.jc,x.s.gZ,rfl,hg,c 0 _ rfl,c 1 _ rfl,c 2 _ rfl,c 3 _ rfl,c 4 _ rfl,c 5 _ rfl,c 6 _ rfl,c 7 _ rfl,c 8 _ rfl,c 9 _ rfl,c 10 _ rfl,hx.1,hx.2.1.mono hB,hx.2.2.1.mono hB,hx.2.2.2.1.mono hB,hx.2.2.2.2.mono hB⟩,?_⟩;refine av4 hB hg r (k+1) (λj u hu=> ?_) (λy hy=>hin y ahx);have:=hc (11+j) u (by rw[CF,List.getElem?_append_right (by simp[qy])];simpa[qy]using hu);rw[show(k+1)*11+j=k*11+(11+j) by omega];exact this
def lq (p:Pr) (j:Nat) (tn iD:ByteArray) (ar:bf) (f g:List UInt8->Bool) (h:dM):Int:=
 if h.op==1 then JR p j h else if h.op==2||h.op==3 then nO p j h.dY h.xn h.dX h.bM else
 if h.op==4 then iI [gU (mean p j h.nm) [4],nest (jh ar [7]||wD ar h.nm [4])]else
 if h.op==5||h.op==6 then iI [gU (mean p j h.nm) [5],nest (jh ar [7]||wD ar h.nm [5,6])]else
 if h.op==7 then nest (jh ar [7])else if h.op==8 then nest (jh ar [7,8])else
 if h.op==9||h.op==10||h.op==11 then iI [gU (mean p j h.nm) [6],nest ((jh ar [7]|| !wD ar (BQ p.ds h.nm) [4])||(h.op==9&&jh ar [8]))]else
 if h.op==12 then iI [gU (mean p j h.nm) [8],nest (jh ar [7,8,3]||(h.nm.toList==tn.toList||h.nm.toList==iD.toList)),(qL (f h.nm.toList))]else
 if h.op==13 then iI [gU (mean p j h.nm) [8],nest (jh ar [7,8]||h.nm.toList==tn.toList)]else
 if h.op==14 then iI [gU (mean p j h.nm) [7],nest (jh ar [7,3]),(qL (g h.nm.toList)),nO p j h.dY h.xn h.dX h.bM]else
 if h.op==15 then iI [gU (mean p j h.nm) [1],gU (mean p j h.arg) [7],nest (jh ar [7])]else 0
end Md
open Md
def ckV (p:Pr) (aQ aR:Option Addr) (aJ aH:Nat) (i:Int) (v:Value) (bs bt:Nat):Array Value:= #[.slice aQ p.ds.length aJ,.slice aR p.ts.length aH,.int .i64 i,v,.map (some bs),.map (some bt)]
structure Lay where
 B0:Nat
 B1:Nat
 bc:Nat
 bs:Nat
 bt:Nat
 c0:B0<=bc
 s0:B0<=bs
 t0:B0<=bt
 c1:bc<B1
 s1:bs<B1
 t1:bt<B1
 cs:bc≠bs
 ct:bc≠bt
 st:bs≠bt
 kw:0<B0
def Xd (w:World) (B0:Nat) (p:Pr) (aQ aR:Option Addr):Prop:=p.ds.length<=maxLen∧p.ts.length<=maxLen∧jG w B0 p.ds aQ 0∧iP w B0 p.ts aR 0∧eD w
theorem Xd.below {w w':World} {L:Lay} {p:Pr} {aQ aR:Option Addr} (h:Xd w L.B0 p aQ aR) (hb:Below L.B0 w w'):Xd w' L.B0 p aQ aR:=
 ⟨h.1,h.2.1,h.2.2.1.below hb,h.2.2.2.1.below hb,h.2.2.2.2.below hb L.kw⟩
theorem Xd.use {w:World} {B0:Nat} {p:Pr} {aQ aR:Option Addr} (h:Xd w B0 p aQ aR) (hB:B0<=w.heap.size):p.At w aQ aR:=⟨h.1,h.2.1,h.2.2.1.mono hB,h.2.2.2.1.mono hB⟩
structure Kp (L:Lay) (v:Value) (w w':World):Prop where
 os:w'.os=w.os
 tape:w'.tape=w.tape
 output:w'.output=w.output
 size:w.heap.size<=w'.heap.size
 block: ∀k,k<w.heap.size->k≠L.bc->k≠L.bs->k≠L.bt->v.ownBlock≠some k->w'.heap[k]? =w.heap[k]?
def C9 (w:World) (v v':Value):Prop:=v'.ownBlock=v.ownBlock∨∃g,v'.ownBlock=some g∧w.heap.size<=g
theorem Kp.refl (L:Lay) (v:Value) (w:World):Kp L v w w:=⟨rfl,rfl,rfl,aD _,λ_ _ _ _ _ _=>rfl⟩
theorem Kp.of_below {L:Lay} {v:Value} {w w':World} (h:Below w.heap.size w w'):Kp L v w w':=⟨h.os,h.tape,h.output,h.size,λk hk _ _ _ _=>h.block k hk⟩
theorem Kp.trans {L:Lay} {v v1:Value} {w w1 w2:World} (h:Kp L v w w1) (ho:C9 w v v1∨v1.ownBlock=none) (k:Kp L v1 w1 w2):Kp L v w w2:=
 ⟨k.os.trans h.os,k.tape.trans h.tape,k.output.trans h.output,aO h.size k.size,λj hj hc hs ht hv=>(k.block j (aV hj h.size) hc hs ht (by
   rcases ho with(e|⟨g,e,hg⟩)|e
   ·rw[e];exact hv
   ·rw[e];intro e';injection e' with e';omega
   ·rw[e];simp)).trans (h.block j hj hc hs ht hv)⟩
theorem Kp.below {L:Lay} {v:Value} {w w':World} (h:Kp L v w w') (hB:L.B0<=w.heap.size) (hv: ∀k,v.ownBlock=some k->L.B1<=k):Below L.B0 w w':=
 ⟨h.os,h.tape,h.output,h.size,λk hk=>h.block k ahf (by have:=L.c0;omega) (by have:=L.s0;omega) (by have:=L.t0;omega) (λe=>acz)⟩
theorem Kp.far {L:Lay} {v:Value} {w w':World} {k:Nat} (h:Kp L v w w') (hk:k<w.heap.size) (hB:L.B1<=k) (hv:v.ownBlock≠some k):w'.heap[k]? =w.heap[k]?:=
 h.block k hk agn (by have:=L.s1;omega) (by have:=L.t1;omega) hv
theorem C9.trans {w w1:World} {v v1 v2:Value} (h:C9 w v v1) (k:C9 w1 v1 v2) (hs:w.heap.size<=w1.heap.size):C9 w v v2:=by
 rcases k with e|⟨g,e,hg⟩
 ·rcases h with e'|⟨g,e',hg⟩
  ·exact .inl (e.trans e')
  ·exact .inr ⟨g,e.trans e',hg⟩
 ·exact .inr ⟨g,e,aO hs hg⟩
theorem C9.ne {w:World} {v v':Value} {k:Nat} (h:C9 w v v') (hk:k<w.heap.size) (hv:v.ownBlock≠some k):v'.ownBlock≠some k:=by
 rcases h with e|⟨g,e,hg⟩
 ·rw[e];exact hv
 ·rw[e];intro e';injection e' with e';omega
structure qA (w:World) (L:Lay) (p:Pr) (aQ aR:Option Addr) (aJ aH:Nat) (i:Int) (A:List Fr) (f g:List UInt8->Bool) (n m:Nat) (v:Value):Prop where
 blk:w.heap[L.bc]? =some (.cells (ckV p aQ aR aJ aH i v L.bs L.bt) 161 (0,0))
 row:w.ownsRow L.B1 82 11 v A.length (CF A)
 ms:mh w L.bs n f
 mt:mh w L.bt m g
 sz:L.B1<=w.heap.size
 dat:Xd w L.B0 p aQ aR
 tO:ap7 w L.B0 A
section
variable {w:World} {L:Lay} {p:Pr} {aQ aR:Option Addr} {aJ aH:Nat} {i:Int} {A:List Fr} {f g:List UInt8->Bool} {n m:Nat} {v:Value}
theorem qA.b0 (h:qA w L p aQ aR aJ aH i A f g n m v):L.B0<=w.heap.size:=ad5
theorem qA.form (h:qA w L p aQ aR aJ aH i A f g n m v): ∃eZ dU,v= .slice eZ A.length dU∧(dJ A).At w w.heap.size eZ 0:=by
 exact AaS
theorem eT {w:World} {b j:Nat} {cs:Array Value} {t:TypeId} {fr:Nat×Nat} {u:Value} (h:w.heap[b]? =some (.cells cs t fr)) (hu:cs[j]? =some u):b<w.heap.size∧w.cell? ⟨b,j,none⟩=some u:=
 ⟨(aI h),by rw[cell_of_row w b j cs t fr h];exact hu⟩
theorem qA.holds {eZ:Option Addr} {dU:Nat} (h:qA w L p aQ aR aJ aH i A f g n m (.slice eZ A.length dU)):Holds w (JZ L.bc p aQ aR aJ aH i eZ (dJ A).len dU L.bs L.bt):=by
 have hb:=h.blk;rw[sV];exact⟨eT hb (j:=0) rfl,eT hb (j:=1) rfl,eT hb (j:=2) rfl,eT hb (j:=3) rfl,eT hb (j:=4) rfl,eT hb (j:=5) rfl,trivial⟩
theorem qA.below {w':World} (h:qA w L p aQ aR aJ aH i A f g n m v) (hb:Below w.heap.size w w'):qA w' L p aQ aR aJ aH i A f g n m v where
 blk:=(hb.block _ (aI h.blk)).trans h.blk
 row:=h.row.kept (row:=none) ⟨hb.os,hb.tape,hb.output,hb.size,λk hk _=>hb.block k hk⟩ acY
 ms:=h.ms.next hb
 mt:=h.mt.next hb
 sz:=aO h.sz hb.size
 dat:=h.dat.below (hb.mono h.b0)
 tO:=λx hx=>(h.tO x hx).below (hb.mono h.b0)
theorem qA.own_ne (h:qA w L p aQ aR aJ aH i A f g n m v) {b:Nat} (hb:b<L.B1):v.ownBlock=none∨v.ownBlock≠some b:=by
 cases hv:v.ownBlock with
 |none=>exact .inl rfl
 |some k=>refine .inr (λe=> ?_);injection e with e;subst e;have:=(h.row.lt _ hv).1;omega
end
def fS (h:dM) (f:List UInt8->Bool):List UInt8->Bool:=if h.op==12 then ZJ f h.nm.toList else f
def gS (h:dM) (g:List UInt8->Bool):List UInt8->Bool:=if h.op==14 then ZJ g h.nm.toList else g
def nS (k:Int) (h:dM) (n:Nat):Nat:=if h.op==k then n+1 else n
def Sn (w:World) (L:Lay) (p:Pr) (aQ aR:Option Addr) (aJ aH:Nat) (i:Int) (A:List Fr) (h:dM) (f g:List UInt8->Bool) (n m:Nat) (v:Value) (r:Int) (e:Ending) (w':World):Prop:=
 e= .returned (.int .i64 r)∧Kp L (.slice none 0 0) w w'∧qA w' L p aQ aR aJ aH i A (fS h f) (gS h g) (nS 12 h n) (nS 14 h m) v
theorem Sn.plain {w w':World} {L:Lay} {p:Pr} {aQ aR:Option Addr} {aJ aH:Nat} {i:Int} {A:List Fr} {h:dM} {f g:List UInt8->Bool} {n m:Nat} {v:Value} {r x:Int} {e:Ending}
 (hI:qA w L p aQ aR aJ aH i A f g n m v) (h12:(h.op==12)=false) (CG:(h.op==14)=false) (hr:r=x) (hp:e= .returned (.int .i64 x)∧Below w.heap.size w w'):Sn w L p aQ aR aJ aH i A h f g n m v r e w':=by
 subst hr;refine⟨hp.1,Kp.of_below hp.2,?_⟩;unfold fS gS nS;rw[h12,CG];exact hI.below hp.2
theorem YT (w:World) (L:Lay) (p:Pr) (aQ aR:Option Addr) (aJ aH:Nat) (j:Nat) (A:List Fr) (f g:List UInt8->Bool) (n m:Nat) (v:Value) (t t0:Th) (r r0:List Th) (hd:p.ts.drop j=t::r) (hts:p.ts=t0::r0) (hj:cO (j:Int)) (hA:A.length<=maxLen) (hn:n<maxLen) (hm:m<maxLen)
 (hI:qA w L p aQ aR aJ aH (j:Int) A f g n m v) (h:dM) (b e:bf) (s:Sl) (hin:uW w L.B0 h b e s) (hS:BH h):
 Calls Tryz.prog 128 #[.pointer (some ⟨L.bc,0,none⟩),iG h b e s] w (Sn w L p aQ aR aJ aH (j:Int) A h f g n m v (lq p j t.nm t0.nm (dJ A) f g h)):=by
 obtain⟨eZ,dU,rfl,hat⟩:=hI.form;have hp:=hI.dat.use hI.b0;have hin':=hin.use hI.b0;have fG:=hI.dat.2.2.2.2;have hal:(dJ A).len<=maxLen:=ahd
 have hh:=hI.holds;rcases hS with hc|hc
 ·exact(Ue p w aQ aR aJ aH j eZ dU L.bs L.bt L.bc h b e (dJ A) s hj hp hin' fG hal hat hh (.inl ⟨hc,rfl⟩)).mono (λe' w' hr=>Sn.plain hI ahO ahO afD hr)
 ·exact(Ue p w aQ aR aJ aH j eZ dU L.bs L.bt L.bc h b e (dJ A) s hj hp hin' fG hal hat hh (.inr ⟨hc,rfl⟩)).mono (λe' w' hr=>Sn.plain hI ahO ahO afD hr)
namespace Md
def bf.app:bf->bf->bf
 | .nil,s=>s
 | .cons h b e r,s=> .cons h b e (r.app s)
theorem Bh: ∀(A:List Fr) (x:Fr),dJ (A++[x])=(dJ A).app (.cons x.h x.b x.e .nil)
 | [],_=>rfl
 |y::r,x=>by simp only[List.cons_append,dJ,bf.app,Bh r x]
structure Ql where
 err:Int
 line:Int
 f:List (List UInt8)
 g:List (List UInt8)
def mem (l:List (List UInt8)):List UInt8->Bool:=λx=>l.contains x
def fL (k:Int) (h:dM) (f:List (List UInt8)):List (List UInt8):=if h.op==k then h.nm.toList::f else f
def ig (p:Pr) (j:Nat) (tn iD:ByteArray):bf->bf->List (List UInt8)->List (List UInt8)->Ql
 | .nil,_,f,g=>⟨0,0,f,g⟩
 | .cons h b e r,ar,f,g=>
   if decide (6<ar.len+1)then⟨2,h.line,f,g⟩else
   if lq p j tn iD ar (mem f) (mem g) h != 0 then⟨lq p j tn iD ar (mem f) (mem g) h,h.line,f,g⟩else
   if(ig p j tn iD b (ar.app (.cons h b e .nil)) (fL 12 h f) (fL 14 h g)).err != 0 then ig p j tn iD b (ar.app (.cons h b e .nil)) (fL 12 h f) (fL 14 h g)else
   if(ig p j tn iD e (ar.app (.cons h b e .nil)) (ig p j tn iD b (ar.app (.cons h b e .nil)) (fL 12 h f) (fL 14 h g)).f (ig p j tn iD b (ar.app (.cons h b e .nil)) (fL 12 h f) (fL 14 h g)).g).err != 0 then
    ig p j tn iD e (ar.app (.cons h b e .nil)) (ig p j tn iD b (ar.app (.cons h b e .nil)) (fL 12 h f) (fL 14 h g)).f (ig p j tn iD b (ar.app (.cons h b e .nil)) (fL 12 h f) (fL 14 h g)).g else
   ig p j tn iD r ar (ig p j tn iD e (ar.app (.cons h b e .nil)) (ig p j tn iD b (ar.app (.cons h b e .nil)) (fL 12 h f) (fL 14 h g)).f (ig p j tn iD b (ar.app (.cons h b e .nil)) (fL 12 h f) (fL 14 h g)).g).f
    (ig p j tn iD e (ar.app (.cons h b e .nil)) (ig p j tn iD b (ar.app (.cons h b e .nil)) (fL 12 h f) (fL 14 h g)).f (ig p j tn iD b (ar.app (.cons h b e .nil)) (fL 12 h f) (fL 14 h g)).g).g
def nR (ns:List (List UInt8)) (f:List (List UInt8)):Prop:=f.Nodup∧∀x∈f,x∈ns
theorem nR.le {ns f:List (List UInt8)} (h:nR ns f):f.length<=ns.length:=h.1.length_le_of_subset (λ_ hx=>h.2 _ hx)
def lu (p:Pr):List (List UInt8):=p.ts.map λt=>t.nm.toList
def lW (p:Pr):List (List UInt8):=p.ds.map λd=>d.nm.toList
theorem nI: ∀ {l:List Int},iI l=0->∀x∈l,x=0
 | [],_,_,h=>ahv
 |a::r,h,x,hx=>by
  unfold iI at h;by_cases ha:(a != 0)=true
  ·rw[if_pos ha]at h;subst h;simp at ha
  ·rw[if_neg ha]at h;have ha':a=0:=by simpa using ha
   rcases List.mem_cons.1 hx with rfl|hx
   ·exact ha'
   ·exact nI h x hx
theorem uz {m k:Int} (h:gU m [k]=0):m=k:=by
 unfold gU at h;by_cases h0:(m==0)=true
 ·rw[if_pos h0]at h;simp at h
 ·rw[if_neg h0]at h;by_cases h1:([k].any λx=>m==x)=true
  ·simpa using h1
  ·rw[if_neg h1]at h;simp at h
theorem OT {b:Bool} (h:qL b=0):b=false:=by cases b <;> simp[qL]at h⊢
theorem Mv {p:Pr} {j:Int} {nm:ByteArray} (h:mean p j nm=8):nm.toList∈lu p:=by
 unfold mean at h;split at h
 ·cases h
 ·cases hd:qK p.ds nm with
  |some m=>
   rw[hd]at h;unfold qK at hd;obtain⟨d,-,hm⟩:=Option.map_eq_some_iff.1 hd;exfalso
   have:gM d≠8:=by unfold gM;repeat' split
                   all_goals decide
   rw[hm]at this;exact this h
  |none=>
   rw[hd]at h;simp only[Option.getD_none]at h;unfold uE at h;split at h
   ·rename_i ha;obtain⟨t,ht,he⟩:=List.any_eq_true.1 ha;unfold lu;exact List.mem_map.2 ⟨t,ht,ahy⟩
   ·cases h
theorem Wq {p:Pr} {j:Int} {nm:ByteArray} (h:mean p j nm=7):nm.toList∈lW p:=by
 unfold mean at h;split at h
 ·cases h
 ·cases hd:qK p.ds nm with
  |some m=>unfold qK at hd;obtain⟨d,hf,-⟩:=Option.map_eq_some_iff.1 hd;unfold lW;exact List.mem_map.2 ⟨d,List.mem_of_find?_eq_some hf,by simpa using List.find?_some hf⟩
  |none=>rw[hd]at h;simp only[Option.getD_none]at h;unfold uE at h;split at h <;> cases h
theorem aG9 {p:Pr} {j:Nat} {tn iD:ByteArray} {ar:bf} {f g:List (List UInt8)} {h:dM} (hf:nR (lu p) f) (h0:lq p j tn iD ar (mem f) (mem g) h=0):nR (lu p) (fL 12 h f):=by
 unfold fL;by_cases h12:(h.op==12)=true
 ·rw[if_pos h12];have e:h.op=12:=by simpa using h12
  have hs:lq p j tn iD ar (mem f) (mem g) h=iI [gU (mean p j h.nm) [8],nest (jh ar [7,8,3]||(h.nm.toList==tn.toList||h.nm.toList==iD.toList)),(qL (mem f h.nm.toList))]:=by unfold lq;simp[e]
  rw[hs]at h0;have h1:=nI h0 _ (by simp:gU (mean p j h.nm) [8]∈_);have h2:=nI h0 _ (by simp:qL (mem f h.nm.toList)∈_);refine⟨List.nodup_cons.2 ⟨?_,hf.1⟩,λx hx=> ?_⟩
  ·have:=OT h2;unfold mem at this;simpa using this
  ·rcases List.mem_cons.1 hx with rfl|hx
   ·exact Mv (uz h1)
   ·exact hf.2 x hx
 ·rw[if_neg h12];exact hf
theorem aH0 {p:Pr} {j:Nat} {tn iD:ByteArray} {ar:bf} {f g:List (List UInt8)} {h:dM} (hf:nR (lW p) g) (h0:lq p j tn iD ar (mem f) (mem g) h=0):nR (lW p) (fL 14 h g):=by
 unfold fL;by_cases h12:(h.op==14)=true
 ·rw[if_pos h12];have e:h.op=14:=by simpa using h12
  have hs:lq p j tn iD ar (mem f) (mem g) h=iI [gU (mean p j h.nm) [7],nest (jh ar [7,3]),(qL (mem g h.nm.toList)),nO p j h.dY h.xn h.dX h.bM]:=by unfold lq;simp[e]
  rw[hs]at h0;have h1:=nI h0 _ (by simp:gU (mean p j h.nm) [7]∈_);have h2:=nI h0 _ (by simp:qL (mem g h.nm.toList)∈_);refine⟨List.nodup_cons.2 ⟨?_,hf.1⟩,λx hx=> ?_⟩
  ·have:=OT h2;unfold mem at this;simpa using this
  ·rcases List.mem_cons.1 hx with rfl|hx
   ·exact Wq (uz h1)
   ·exact hf.2 x hx
 ·rw[if_neg h12];exact hf
end Md
theorem mem_cons (x:List UInt8) (f:List (List UInt8)):ZJ (mem f) x=mem (x::f):=by
 funext y;unfold ZJ mem;by_cases h:y=x
 ·subst h;simp
 ·rw[if_neg h];simp[h]
theorem ba9 (h:dM) (f:List (List UInt8)):fS h (mem f)=mem (fL 12 h f):=by
 unfold fS fL;cases h.op==12 <;> simp[mem_cons]
theorem bc4 (h:dM) (f:List (List UInt8)):gS h (mem f)=mem (fL 14 h f):=by
 unfold gS fL;cases h.op==14 <;> simp[mem_cons]
theorem ak0 (k:Int) (h:dM) (f:List (List UInt8)):nS k h f.length=(fL k h f).length:=by
 unfold nS fL;cases h.op==k <;> simp
theorem Vm (w:World) {a a':Addr} (v v':Value) (h:a.block≠a'.block):(w.setCell a v).setCell a' v'=(w.setCell a' v').setCell a v:=by
 unfold World.setCell;congr 1;refine Array.ext_getElem? (λk=> ?_);simp only[Array.getElem?_modify];by_cases h1:a'.block=k
 ·by_cases h2:a.block=k
  ·exact(h (h2.trans h1.symm)).elim
  ·simp[h1,h2]
 ·by_cases h2:a.block=k <;> simp[h1,h2]
theorem Ja {b:Nat} {a':Addr} (v':Value) (h:b≠a'.block): ∀(vs:List Value) (o:Nat) (w:World),(w.setCell a' v').setCells b o vs=(w.setCells b o vs).setCell a' v'
 | [],_,_=>rfl
 |v::vs,o,w=>by simp only[World.setCells];rw[<- Vm w (a:=⟨b,o,none⟩) (a':=a') v v' h];exact Ja v' h vs (o+1) _
def PC (w4:World) (g o:Nat) (vs:List Value) (a:Addr) (v:Value):List Bool->World->Prop
 | [x,y],w'=>w'=(if y then(if x then w4.setCells g o vs else w4).setCell a v else(if x then w4.setCells g o vs else w4))
 |_,_=>False
theorem PC.bits {w4:World} {g o:Nat} {vs:List Value} {a:Addr} {v:Value} : ∀ {c:List Bool} {w':World},PC w4 g o vs a v c w'->∃x y,c=[x,y]
 | [x,y],_,_=>⟨x,y,rfl⟩
 | [],_,h=>h.elim
 | [_],_,h=>h.elim
 |_::_::_::_,_,h=>h.elim
theorem PC.skip {w4:World} {g o:Nat} {vs:List Value} {a:Addr} {v:Value} {a1 a2 i:Nat} {c:List Bool} {w':World} (h1:(a1==i)=false) (h2:(a2==i)=false) (h:PC w4 g o vs a v c w'):PC w4 g o vs a v (jA [a1,a2] c i) w':=by
 obtain⟨x,y,rfl⟩:=h.bits;simp only[jA,h1,h2,Bool.or_false];exact h
theorem PC.elt {w4:World} {g o:Nat} {vs:List Value} {a:Addr} {v:Value} {a1 a2 i:Nat} {y:Bool} {w':World} (hg:g≠a.block) (h1:(a1==i)=true) (h2:(a2==i)=false) (h:PC w4 g o vs a v [false,y] w'):PC w4 g o vs a v (jA [a1,a2] [false,y] i) (w'.setCells g o vs):=by
 simp only[jA,h1,h2,Bool.or_false,Bool.or_true];cases y
 ·have h:w'=w4:=h;subst h;rfl
 ·have h:w'=w4.setCell a v:=h;subst h;exact Ja v hg vs o w4
theorem PC.fld {w4:World} {g o:Nat} {vs:List Value} {a:Addr} {v:Value} {a1 a2 i:Nat} {x:Bool} {w':World} (h1:(a1==i)=false) (h2:(a2==i)=true) (h:PC w4 g o vs a v [x,false] w'):PC w4 g o vs a v (jA [a1,a2] [x,false] i) (w'.setCell a v):=by
 simp only[jA,h1,h2,Bool.or_false,Bool.or_true];cases x
 ·have h:w'=w4:=h;subst h;rfl
 ·have h:w'=w4.setCells g o vs:=h;subst h;rfl
theorem PC.Xo {w4:World} {g o:Nat} {vs:List Value} {a:Addr} {v:Value} {y:Bool} {w':World} (hg:g≠a.block) (h:PC w4 g o vs a v [false,y] w'):w'.heap[g]? =w4.heap[g]?:=by
 cases y
 ·have h:w'=w4:=h;rw[h]
 ·have h:w'=w4.setCell a v:=h;rw[h];exact bF w4 a v rfl (λe=>hg e.symm)
theorem PC.Xt {w4:World} {g o:Nat} {vs:List Value} {a:Addr} {v:Value} {x:Bool} {w':World} (hg:g≠a.block) (h:PC w4 g o vs a v [x,false] w') (hl:a.block<w4.heap.size):w'.heap[a.block]? =w4.heap[a.block]?:=by
 cases x
 ·have h:w'=w4:=h;rw[h]
 ·have h:w'=w4.setCells g o vs:=h;rw[h];exact(dZ g vs o w4).block _ hl (by simp;exact λe=>hg e.symm)
section
variable {w:World} {L:Lay} {p:Pr} {aQ aR:Option Addr} {aJ aH:Nat} {i:Int} {A:List Fr} {f g:List UInt8->Bool} {n m:Nat} {v:Value}
theorem qA.push {wz w4:World} {g' cap':Nat} {zs:List Value} (h:qA w L p aQ aR aJ aH i A f g n m v) (x:Fr) (hx:uW w L.B0 x.h x.b x.e x.s) (hb:Below w.heap.size w wz) (hown:w4.ownsRow L.B1 82 11 (.slice (some ⟨g',0,none⟩) (A.length+1) cap') (A.length+1) (CF A++zs)) (hgr:wz.grownBy w4 v.ownBlock) (hat:v.ownBlock=some g'∨g'=wz.heap.size):
 qA ((w4.setCells g' (A.length*11) (qy x.h x.b x.e x.s)).setCell ⟨L.bc,3,none⟩ (.slice (some ⟨g',0,none⟩) (A.length+1) cap')) L p aQ aR aJ aH i (A++[x]) f g n m (.slice (some ⟨g',0,none⟩) (A.length+1) cap')∧
 Kp L v w ((w4.setCells g' (A.length*11) (qy x.h x.b x.e x.s)).setCell ⟨L.bc,3,none⟩ (.slice (some ⟨g',0,none⟩) (A.length+1) cap'))∧C9 w v (.slice (some ⟨g',0,none⟩) (A.length+1) cap'):=by
 have hg1:=(hown.lt g' rfl).1;have hg2:=(hown.lt g' rfl).2;have hc1:=L.c1;have hs1:=L.s1;have ht1:=L.t1;have hput:=Vi (vs:=qy x.h x.b x.e x.s) hown (GA A) rfl;generalize hw5:w4.setCells g' (A.length*11) (qy x.h x.b x.e x.s)=w5 at *;have hgw:w4.grownBy w5 (some g'):=by rw[<- hw5];exact dZ _ _ _ _
 have hgz:=bQ w5 ⟨L.bc,3,none⟩ (.slice (some ⟨g',0,none⟩) (A.length+1) cap');have hsz:w.heap.size<=w4.heap.size:=aO hb.size hgr.size;have hlow: ∀k,k<w.heap.size->v.ownBlock≠some k->w5.heap[k]? =w.heap[k]?:=λk hk hv=>by
  have hkg:k≠g':=by
   rcases hat with e|e
   ·intro e';exact hv (by rw[e,e'])
   ·have:=hb.size;omega
  rw[hgw.block k ahf (by simp;exact hkg),hgr.block k (aV hk hb.size) (λe=>hv e.symm),hb.block k hk]
 have hlow': ∀k,k<L.B1->w5.heap[k]? =w.heap[k]?:=λk hk=>hlow k (aV hk h.sz) (λe=>by have:=(h.row.lt k e).1;omega);have hkp:Kp L v w (w5.setCell ⟨L.bc,3,none⟩ (.slice (some ⟨g',0,none⟩) (A.length+1) cap')):=
  ⟨hgz.os.trans (hgw.os.trans (hgr.os.trans hb.os)),hgz.tape.trans (hgw.tape.trans (hgr.tape.trans hb.tape)),hgz.output.trans (hgw.output.trans (hgr.output.trans hb.output)),aO hsz (aO hgw.size hgz.size),λk hk hc _ _ hv=>
   (hgz.block k (aV hk (aO hsz hgw.size)) ahR).trans (hlow k hk hv)⟩
 have hbel:=hkp.below h.b0 (λk e=>(h.row.lt k e).1);have vX: ∀k,k<L.B1->k≠L.bc->(w5.setCell ⟨L.bc,3,none⟩ (.slice (some ⟨g',0,none⟩) (A.length+1) cap')).heap[k]? =w.heap[k]?:=λk hk hc=>by rw[bF w5 ⟨L.bc,3,none⟩ _ rfl (λe=>hc e.symm)];exact hlow' k hk
 refine⟨?_,hkp,?_⟩
 ·refine {blk:= ?_,row:= ?_,ms:=h.ms.same (vX _ hs1 (λe=>L.cs e.symm)),mt:=h.mt.same (vX _ ht1 (λe=>L.ct e.symm)),sz:= ?_,dat:=h.dat.below hbel,tO:= ?_}
  ·exact dQ ((hlow' _ hc1).trans h.blk) _
  ·rw[au,Ei];refine hput.kept hgz (.inr ?_);simp[Value.ownBlock];omega
  ·exact aO h.sz hkp.size
  ·intro y hy;rcases List.mem_append.1 hy with hy|hy
   ·exact(h.tO y hy).below hbel
   ·obtain rfl:=List.mem_singleton.1 hy;exact hx.below hbel
 ·rcases hat with e|e
  ·exact .inl ahB
  ·exact .inr ⟨g',rfl,afL⟩
theorem qA.pop {wz:World} {g' cap':Nat} (x:Fr) (h:qA w L p aQ aR aJ aH i (A++[x]) f g n m (.slice (some ⟨g',0,none⟩) (A.length+1) cap')) (hb:Below w.heap.size w wz):
 qA (wz.setCell ⟨L.bc,3,none⟩ (.slice (some ⟨g',0,none⟩) A.length cap')) L p aQ aR aJ aH i A f g n m (.slice (some ⟨g',0,none⟩) A.length cap')∧
 Kp L (.slice (some ⟨g',0,none⟩) (A.length+1) cap') w (wz.setCell ⟨L.bc,3,none⟩ (.slice (some ⟨g',0,none⟩) A.length cap')):=by
 have hI:=h.below hb;have hc1:=L.c1;have hgz:=bQ wz ⟨L.bc,3,none⟩ (.slice (some ⟨g',0,none⟩) A.length cap');have hkp:Kp L (.slice (some ⟨g',0,none⟩) (A.length+1) cap') w (wz.setCell ⟨L.bc,3,none⟩ (.slice (some ⟨g',0,none⟩) A.length cap')):=
  ⟨hgz.os.trans hb.os,hgz.tape.trans hb.tape,hgz.output.trans hb.output,aO hb.size hgz.size,λk hk hc _ _ _=>(hgz.block k (aV hk hb.size) ahR).trans (hb.block k hk)⟩
 have hbel:Below L.B0 wz (wz.setCell ⟨L.bc,3,none⟩ (.slice (some ⟨g',0,none⟩) A.length cap')):=cB hgz L.c0 hI.b0;have hrow:=hI.row;rw[au,Ei]at hrow;have hg1:=(hrow.lt g' rfl).1;refine⟨{blk:=dQ hI.blk _,row:=(Rn hrow (GA A)).kept hgz (.inr aeX),ms:=hI.ms.same (bF wz _ _ rfl L.cs),mt:=hI.mt.same (bF wz _ _ rfl L.ct),sz:=aO hI.sz hgz.size,dat:=hI.dat.below hbel,tO:=λy hy=>(hI.tO y ahx).below hbel},hkp⟩
end
theorem bf.At.aH8 {w:World} {B:Nat} {h:dM} {b e r:bf} {ao:Option Addr} {k:Nat} (hat:(bf.cons h b e r).At w B ao k): ∃bl off s,ao=some ⟨bl,off,none⟩∧bl<B∧uW w B h b e s∧
 w.cell? ⟨bl,off+k*11,none⟩=some (.int .i64 h.op)∧w.cell? ⟨bl,off+k*11+1,none⟩=some (.int .i64 h.line)∧w.cell? ⟨bl,off+k*11+2,none⟩=some (.string h.nm)∧w.cell? ⟨bl,off+k*11+3,none⟩=some (.string h.arg)∧w.cell? ⟨bl,off+k*11+4,none⟩=some (.slice s.gu h.idx.len s.eG)∧
 w.cell? ⟨bl,off+k*11+5,none⟩=some (.int .i64 h.dY)∧w.cell? ⟨bl,off+k*11+6,none⟩=some (.int .i64 h.xn)∧w.cell? ⟨bl,off+k*11+7,none⟩=some (.string h.dX)∧w.cell? ⟨bl,off+k*11+8,none⟩=some (.slice s.gY h.bM.len s.fD)∧
 w.cell? ⟨bl,off+k*11+9,none⟩=some (.slice s.dR b.len s.dA)∧w.cell? ⟨bl,off+k*11+10,none⟩=some (.slice s.jc e.len s.gZ)∧r.At w B ao (k+1):=by
 obtain⟨⟨b,off,gu,eG,gY,fD,dR,dA,jc,gZ,e,hB,c0,c1,c2,c3,c4,c5,c6,c7,c8,c9,c10,hok,h1,h2,h3,h4⟩,hr⟩:=hat;exact⟨b,off,⟨gu,eG,gY,fD,dR,dA,jc,gZ⟩,e,hB,⟨hok,h1,h2,h3,h4⟩,c0,c1,c2,c3,c4,c5,c6,c7,c8,c9,c10,hr⟩
theorem U8 {w:World} {nb:Nat} {h:dM} {b e:bf} {s:Sl} {t:TypeId} {fr:Nat×Nat} (hb:w.heap[nb]? =some (.cells (qy h b e s).toArray t fr)):w.cell? ⟨nb,0,none⟩=some (.int .i64 h.op)∧w.cell? ⟨nb,1,none⟩=some (.int .i64 h.line)∧w.cell? ⟨nb,2,none⟩=some (.string h.nm)∧w.cell? ⟨nb,3,none⟩=some (.string h.arg)∧w.cell? ⟨nb,4,none⟩=some (.slice s.gu h.idx.len s.eG)∧w.cell? ⟨nb,5,none⟩=some (.int .i64 h.dY)∧w.cell? ⟨nb,6,none⟩=some (.int .i64 h.xn)∧w.cell? ⟨nb,7,none⟩=some (.string h.dX)∧w.cell? ⟨nb,8,none⟩=some (.slice s.gY h.bM.len s.fD)∧w.cell? ⟨nb,9,none⟩=some (.slice s.dR b.len s.dA)∧w.cell? ⟨nb,10,none⟩=some (.slice s.jc e.len s.gZ):=
 ⟨(eT hb (j:=0) rfl).2,(eT hb (j:=1) rfl).2,(eT hb (j:=2) rfl).2,(eT hb (j:=3) rfl).2,(eT hb (j:=4) rfl).2,(eT hb (j:=5) rfl).2,(eT hb (j:=6) rfl).2,(eT hb (j:=7) rfl).2,(eT hb (j:=8) rfl).2,(eT hb (j:=9) rfl).2,(eT hb (j:=10) rfl).2⟩
theorem qY {x y a b:Value} (h1:x=a) (h2:y=b):Ending.returned (.tuple #[x,y])= .returned (.tuple #[a,b]):=by rw[h1,h2]
theorem aN2:(Tryz.prog.info? 82).map (λi=>(i.zero,i.size,i.bytes))=some (some (.agg #[.int .i64 0,.int .i64 0,.string ⟨#[]⟩,.string ⟨#[]⟩,.slice none 0 0,.int .i64 0,.int .i64 0,.string ⟨#[]⟩,.slice none 0 0,.slice none 0 0,.slice none 0 0]),11,176):=ahe
def zSt:Array Value:= #[.int .i64 0,.int .i64 0,.string ⟨#[]⟩,.string ⟨#[]⟩,.slice none 0 0,.int .i64 0,.int .i64 0,.string ⟨#[]⟩,.slice none 0 0,.slice none 0 0,.slice none 0 0]
theorem Yf: ∃i0,Tryz.prog.info? 82=some i0∧i0.zero=some (.agg zSt)∧i0.size=11∧i0.bytes=176:=info_parts aN2
theorem Yg:(Tryz.prog.info? 82).map (·.size)=some 11:=ahe
theorem ix0 (a b:Option Addr) (l1 c1 l2 c2:Nat) (w:World):(Instr.index 181 (.agg #[.slice a l1 c1,.slice b l2 c2]) (.int .i64 0)).run Tryz.prog w= .ok (.slice a l1 c1) w:=ahe
theorem ix1 (a b:Option Addr) (l1 c1 l2 c2:Nat) (w:World):(Instr.index 181 (.agg #[.slice a l1 c1,.slice b l2 c2]) (.int .i64 1)).run Tryz.prog w= .ok (.slice b l2 c2) w:=ahe
def Uf (p:Pr) (j:Nat) (tn iD:ByteArray) (e R ar Gs:bf) (f g:List (List UInt8)):Ql:=if(ig p j tn iD e Gs f g).err != 0 then ig p j tn iD e Gs f g else ig p j tn iD R ar (ig p j tn iD e Gs f g).f (ig p j tn iD e Gs f g).g
def ba0 (p:Pr) (j:Nat) (tn iD:ByteArray) (b e R ar Gs:bf) (f g:List (List UInt8)):Ql:=if(ig p j tn iD b Gs f g).err != 0 then ig p j tn iD b Gs f g else Uf p j tn iD e R ar Gs (ig p j tn iD b Gs f g).f (ig p j tn iD b Gs f g).g
def Xn (p:Pr) (j:Nat) (tn iD:ByteArray) (b e R ar Gs:bf) (k:Nat) (f g:List (List UInt8)):Ql:=if k=0 then ba0 p j tn iD b e R ar Gs f g else if k=1 then Uf p j tn iD e R ar Gs f g else ig p j tn iD R ar f g
def aR0 (w:World) (L:Lay) (p:Pr) (aQ aR:Option Addr) (aJ aH:Nat) (i:Int) (A:List Fr) (v:Value) (r:Ql) (e:Ending) (w':World):Prop:=
 e= .returned (.tuple #[.int .i64 r.err,.int .i64 r.line])∧Kp L v w w'∧(r.err=0->nR (lu p) r.f∧nR (lW p) r.g∧∃v',C9 w v v'∧qA w' L p aQ aR aJ aH i A (mem r.f) (mem r.g) r.f.length r.g.length v')
def FX (L:Lay) (p:Pr) (aQ aR:Option Addr) (aJ aH:Nat) (j:Nat) (t t0:Th) (l:bf):Prop:=
 ∀(w:World) (ao:Option Addr) (cap:Nat) (A:List Fr) (f g:List (List UInt8)) (v:Value),l.len<=maxLen->l.At w L.B0 ao 0->A.length<=6->nR (lu p) f->nR (lW p) g->qA w L p aQ aR aJ aH (j:Int) A (mem f) (mem g) f.length g.length v->
  Calls Tryz.prog 100 #[.pointer (some ⟨L.bc,0,none⟩),.slice ao l.len cap] w (aR0 w L p aQ aR aJ aH (j:Int) A v (ig p j t.nm t0.nm l (dJ A) f g))
theorem QW (L:Lay) (p:Pr) (aQ aR:Option Addr) (aJ aH:Nat) (j:Nat) (t t0:Th) (r r0:List Th) (hd:p.ts.drop j=t::r) (hts:p.ts=t0::r0) (hj:cO (j:Int)) (hT:p.ts.length<maxLen) (hD:p.ds.length<maxLen) (l:bf) (hall:l.All λh b e=>BH h∧(FX L p aQ aR aJ aH j t t0 b∧FX L p aQ aR aJ aH j t t0 e)):FX L p aQ aR aJ aH j t t0 l:=by
 intro w ao cap A f g v hl hat hA hf hg hI;generalize hres:ig p j t.nm t0.nm l (dJ A) f g=res;have HR:=ah hres;have HAT:=ah hat;have lG:=ah hall;have HF:=ah hf;have HG:=ah hg;have HI:=ah hI;unfold maxLen at hl;have HA:=ah hA;clear hres hat hall hf hg hI hA;go_enter Tryz.func100,Tryz.ntmps100;go_wp2_with fail;go_loopw [7,8,10,11,12,15,51,52] (λ_ _ _ _ _ s _ _ wr=> ∃(k:Nat) (R:bf) (f1 g1:List (List UInt8)) (v1:Value),s= .int .i64 k∧k+R.len=l.len∧res=ig p j t.nm t0.nm R (dJ A) f1 g1∧(R.All λh b e=>BH h∧(FX L p aQ aR aJ aH j t t0 b∧FX L p aQ aR aJ aH j t t0 e))∧R.At wr L.B0 ao k∧nR (lu p) f1∧nR (lW p) g1∧Kp L v w wr∧C9 w v v1∧qA wr L p aQ aR aJ aH (j:Int) A (mem f1) (mem g1) f1.length g1.length v1) (λ_ _ _ _ _ s _ _ _=>l.len -(intOf s).toNat)
 case atStart=>exact⟨0,l,f,g,v,rfl,ahh,HR.o.symm,lG.o,HAT.o,HF.o,HG.o,Kp.refl _ _ _,.inl rfl,HI.o⟩
 case round=>
  obtain⟨k,R,f1,g1,v1,rfl,hlen,heq,hall,hrow,hf1,hg1,hKp,hOw,hI⟩:=hrel;have HE:=ah heq;have HK:=ah hKp;have HO:=ah hOw;clear heq hKp hOw;cases R with
  |nil=>
   obtain rfl:k=l.len:=afk
   have HX:aj (aR0 w L p aQ aR aJ aH (j:Int) A v res (.returned (.tuple #[.int .i64 0,.int .i64 0])) wr):=ah (by rw[HE.o];exact⟨rfl,HK.o,λ_=>⟨hf1,hg1,v1,HO.o,hI⟩⟩);clear hI hall hrow hf1 hg1 HE;go_wp2_with fail
   go_ret2
   exact HX.o
  |cons h b e R=>
   obtain⟨bl,off,s,rfl,hbl,hin,x0,x1,x2,x3,x4,x5,x6,x7,x8,x9,x10,hrest⟩:=bf.At.aH8 hrow;have hkl:k<l.len:=acB
   obtain⟨⟨hhd,jV⟩,rJ⟩:=hall;have HHD:=ah hhd;obtain⟨eZ,dU,rfl,-⟩:=hI.form;have Tq:=ah jV;have ap8:=ah rJ;have Av:=ah hf1;have rD:=ah hg1;have fF:=ah hin;have kg:=ah hrest;have Dy:=ah hI;clear hhd hrow hin jV rJ hf1 hg1 hrest hI;go_upto_region 4 with fail;generalize hW2:World.alloc wr _=W2;obtain⟨nb,hnb,Ar,-,yh,-⟩:=oJ hW2;have HI2:=ah (Dy.o.below Ar.o);have qg:aj (Kp L v w W2):=ah (HK.o.trans (.inl HO.o) (Kp.of_below Ar.o));have dG:aj (L.B1<=nb∧nb<W2.heap.size):=ah ⟨by rw[<- hnb];exact Dy.o.sz,(aI yh.o)⟩;have Ta:aj (Value.ownBlock (.slice eZ A.length dU)≠some nb):=ah (λe=>by have:=Dy.o.row.lt _ e;omega);have HOZ:aj (w.heap.size<=W2.heap.size):=ah qg.o.size;rw[hnb];clear hW2 hnb x0 x1 x2 x3 x4 x5 x6 x7 x8 x9 x10 hbl;have c3:W2.cell? ⟨L.bc,3,none⟩=some (.slice eZ A.length dU):=(eT HI2.o.blk (j:=3) rfl).2;have hA6:=HA.o;obtain⟨y0,y1,y2,y3,y4,y5,y6,y7,y8,y9,jM⟩:=U8 yh.o;by_cases Us:A.length=6
   ·have HX:aj (res=⟨2,h.line,f1,g1⟩):=ah (HE.o.trans aed);rw[Us]at c3;clear hA6;go_wp2_with fail;go_quiet (fail);go_wp2_with fail
    go_ret2
    refine⟨qY ahw ahw,qg.o.trans (.inr rfl) (v1:= .slice none 0 0) (Kp.of_below (below_drewN (ak _ _) _)),λh0=> ?_⟩;rw[HX.o]at h0;cases h0
   ·have hA':A.length<6:=ahf;have hdec:decide (6<(A.length:Int)+1)=false:=ado;go_wp2_with fail;refine(YT W2 L p aQ aR aJ aH j A (mem f1) (mem g1) f1.length g1.length _ t t0 r r0 hd hts hj afc (Nat.lt_of_le_of_lt Av.o.le (by simpa[lu]using hT)) (Nat.lt_of_le_of_lt rD.o.le (by simpa[lW]using hD)) HI2.o h b e s (fF.o.below (Ar.o.mono Dy.o.b0)) HHD.o).mono ?_;rintro e' w3 ⟨rfl,hK3,El⟩;rw[ba9,bc4,ak0,ak0]at El;have Du:aj (w3.heap[nb]? =some (.cells (qy h b e s).toArray 82 (0,0))):=ah ((hK3.far dG.o.2 dG.o.1 afw).trans yh.o);have HI3:=ah El;have uG:aj (Kp L v w w3):=ah (qg.o.trans (.inr rfl) hK3);have MI:=ah hK3;have Il:nb<w3.heap.size:=(aI Du.o);clear hK3 El y0 y1 y2 y3 y4 y5 y6 y7 y8 y9 jM c3 hdec Us;obtain⟨y0,y1,y2,y3,y4,y5,y6,y7,y8,y9,jM⟩:=U8 Du.o;have c3:w3.cell? ⟨L.bc,3,none⟩=some (.slice eZ A.length dU):=(eT HI3.o.blk (j:=3) rfl).2;have HE2:aj (res=ig p j t.nm t0.nm (bf.cons h b e R) (dJ A) f1 g1):=HE;have Gb:aj (lq p j t.nm t0.nm (dJ A) (mem f1) (mem g1) h=0->nR (lu p) (fL 12 h f1)∧nR (lW p) (fL 14 h g1)):=ah (λh0=>⟨aG9 Av.o h0,aH0 rD.o h0⟩);have HU:aj (ig p j t.nm t0.nm (bf.cons h b e R) (dJ A) f1 g1=if lq p j t.nm t0.nm (dJ A) (mem f1) (mem g1) h != 0 then⟨lq p j t.nm t0.nm (dJ A) (mem f1) (mem g1) h,h.line,f1,g1⟩else Xn p j t.nm t0.nm b e R (dJ A) ((dJ A).app (.cons h b e .nil)) 0 (fL 12 h f1) (fL 14 h g1)):=ah abC;generalize lq p j t.nm t0.nm (dJ A) (mem f1) (mem g1) h=x at *;cases hx:(x != 0)
    ·have HT:aj (res=Xn p j t.nm t0.nm b e R (dJ A) ((dJ A).app (.cons h b e .nil)) 0 (fL 12 h f1) (fL 14 h g1)):=ah (HE2.o.trans (HU.o.trans (by rw[hx];rfl)));have zf:=ah (Gb.o ahu);clear HU Gb HE HE2;go_upto_region 9 with fail;obtain⟨Y0,Y1,Y2,Y3,Y4,Y5,Y6,Y7,Y8,Y9,uJ⟩:=FL Il y0 y1 y2 y3 y4 y5 y6 y7 y8 y9 jM;have L3:=jN aci c3;clear y0 y1 y2 y3 y4 y5 y6 y7 y8 y9 jM c3;refine cK ahe rfl ?_;refine bW 0 7 [] [[],[0],[0,1],[0,1,2],[],[0,1,2,3],[],[0,1,2,3,4,5,6],[0,1,2,3,4,5,6,7],[0,1,2,3,4,5,6,7,8],[0,1,2,3,4,5,6,7],[0,1,2,3,4,5,6,7,10],[0,1,2,3,4,5,6,7,10,11]] [[],[],[],[],[],[],[]] (λ_ w'=>Below w3.heap.size w3 w') (λw w'=>Below w.heap.size w w') [36,37,38,39,40,41,42] rfl rfl aix ahe ahe ahe ahe ahe aix (λ_=>ak _ _) aix (below_drewN (ak _ _) 1) ?_;simp only[gJ,kE]
     iterate 6
      apply bH.step
      case cu=>intro c A w' hok hC hO hD;have e0:=hO 0 aix;have e7:=hO 7 aix;simp[Act.eval]at e0 e7;simp[Act.eval]at hD;simp[go_sem,gd,Oper.wp,hD,e0,e7,L3,hC,Y0,Y1,Y2,Y3,Y4,Y5,Y6,Y7,Y8,Y9,uJ];exact AbN
     refine bH.some (λv w'=> ∃bb,v= .slice (some ⟨bb,0,none⟩) 1 1∧w'.heap[bb]? =some (.cells zSt 82 (0,0))) ?_ ?_ ?_
     ·rintro v w w' hle ⟨bb,rfl,hbb⟩;exact⟨bb,rfl,(hle.block bb (aI hbb)).trans hbb⟩
     ·intro c A w' hok hC hO hD;simp[go_sem,gd,Oper.wp];exact Abi
     try simp only[dI]
     refine bH.done ?_;intro wz dx;simp only[List.drop_zero];intro v0 h0 v1 h1 v2 h2 v3 h3 v4 h4 v5 h5 v6 h6;have h0':v0=_:=h0;have h1':v1=_:=h1;have h2':v2=_:=h2;have h3':v3=_:=h3;have h4':v4=_:=h4;have h5':v5=_:=h5;subst h0' h1' h2' h3' h4' h5';obtain⟨bb,rfl,hbb⟩:=h6;clear h0 h1 h2 h3 h4 h5;refine eY.nil ?_;go_simp;refine dD 7 [[],[0],[0,1],[0,1,2],[],[0,1,2,3],[],[0,1,2,3,4,5,6],[0,1,2,3,4,5,6,7],[0,1,2,3,4,5,6,7,8],[0,1,2,3,4,5,6,7],[0,1,2,3,4,5,6,7,10],[0,1,2,3,4,5,6,7,10,11]] rfl rfl rfl rfl rfl ahe ahe ahe ?_;obtain⟨i0,hi0,hz0,hz1,hz2⟩:=Yf;have DF:=ah (HI3.o.below dx);refine wp_append_lies wz _ _ _ aix L.B1 82 i0 _ 11 176 Tryz.underlying61 hi0 hz0 hz1 hz2 aix ahf (.slice eZ A.length dU) A.length (CF A) aix DF.o.row ⟨bb,0,none⟩ 1 1 zSt.toList aix aix (World.news_of_block hbb) ahg ahf afc ahf DF.o.sz wz.heap.size rfl ?_;intro g' cap' w4 uy qH vV Er;clear hi0 hz0 hz1 hz2 hbb Y0 Y1 Y2 Y3 Y4 Y5 Y6 Y7 Y8 Y9 uJ L3;have yt:=ah (HI3.o.push ⟨h,b,e,s⟩ (fF.o.below ((Ar.o.mono Dy.o.b0).trans (MI.o.below HI2.o.b0 afw))) dx uy qH vV);have hgb:=(uy.lt g' rfl).1;have dL:aj (w4.heap[L.bc]? =some (.cells (ckV p aQ aR aJ aH (j:Int) (.slice eZ A.length dU) L.bs L.bt) 161 (0,0))):=ah (by
      rw[qH.block _ (by have:=DF.o.sz;have:=L.c1;omega) (λe'=>by
       have:=DF.o.own_ne L.c1;rcases this with h1|h1
       ·rw[h1]at e';cases e'
       ·exact h1 e'.symm)]
      exact DF.o.blk)
     have tH:=ah (OW uy);have Ik:g'≠L.bc:=agn;clear uy qH vV Er hgb;go_simp;refine bW 8 13 [9,12] [[],[0],[0,1],[0,1,2],[],[0,1,2,3],[],[0,1,2,3,4,5,6],[0,1,2,3,4,5,6,7],[0,1,2,3,4,5,6,7,8],[0,1,2,3,4,5,6,7],[0,1,2,3,4,5,6,7,10],[0,1,2,3,4,5,6,7,10,11]] [[some false,none],[some false,none],[none,some false],[none,some false],[none,some false]] (PC w4 g' (A.length*11) (qy h b e s) ⟨L.bc,3,none⟩ (.slice (some ⟨g',0,none⟩) (A.length+1) cap')) (λ_ _=>True) [44,45,46] rfl rfl aix ahe ahe ahe ahe ahe aix (λ_=>trivial) aix rfl ?_;simp only[gJ,kE];have Xw:(0:Int)<=(A.length:Int):=ahf;have hA1:(A.length:Int)<(A.length:Int)+1:=ahf;apply bH.step
     case cu=>intro c A w' hok hC hO hD;have e43:=hO 43 aix;have e41:=hO 41 aix;simp[Act.eval]at e43 e41;simp[Act.eval]at hD;simp[go_sem,gd,Oper.wp,hD,e43,e41,hA1];exact aZ.mk trivial (PC.skip aix aix hC) (dO.mk _ _)
     refine bH.some (λ_ _=>True) (λ_ _ _ _ _=>trivial) ?_ ?_
     ·intro c A' w' hok hC hO hD;obtain⟨x,y,rfl⟩:=hC.bits;obtain⟨rfl,-⟩:=hok;have e40:=hO 40 aix;simp[Act.eval]at hD;simp only[gd,if_true];refine wp_store_mid _ _ _ aix g' (A.length*11) (qy h b e s).toArray afA (e40.trans aix) (GX tH.o (hC.Xo Ik)) Yg (by simp[qy,Value.oneCell']) ?_;exact aZ.EA trivial (PC.elt Ik aix aix hC) trivial
     try simp only[dI]
     iterate 2
      apply bH.step
      case cu=>intro c A w' hok hC hO hD;have e36:=hO 36 aix;simp[Act.eval]at e36;simp[Act.eval]at hD;simp[go_sem,gd,Oper.wp,hD,e36];exact aZ.mk trivial (PC.skip aix aix hC) (dO.mk _ _)
     refine bH.some (λ_ _=>True) (λ_ _ _ _ _=>trivial) ?_ ?_
     ·intro c A' w' hok hC hO hD;obtain⟨x,y,rfl⟩:=hC.bits;obtain⟨rfl,-⟩:=hok;have e43:=hO 43 aix;simp[Act.eval]at e43;simp[Act.eval]at hD;have hbk0:w'.heap[L.bc]? =w4.heap[L.bc]?:=PC.Xt (a:=⟨L.bc,3,none⟩) Ik hC (aI dL.o);have hbk:=hbk0.trans dL.o;have hcl:w'.cell? ⟨L.bc,3,none⟩=some (.slice eZ A.length dU):=(eT hbk (j:=3) rfl).2;have hfr:w'.frozen? ⟨L.bc,3,none⟩=false:=bG hbk;simp[go_sem,gd,Oper.wp,hD,e43,hcl,hfr];exact aZ.EA (v:=undef) trivial (PC.fld aix aix hC) trivial
     simp only[List.nil_append,List.cons_append,List.drop_succ_cons,List.drop_zero];refine bH.done ?_;intro w5 hC5;simp only[List.drop_succ_cons,List.drop_zero];intro v0 h0 v1 h1 v2 h2 v3 h3 v4 h4;clear h0 h1 h2 h3 h4;refine eY.nil ?_;refine dH rfl ?_;have su:aj (w5=(w4.setCells g' (A.length*11) (qy h b e s)).setCell ⟨L.bc,3,none⟩ (.slice (some ⟨g',0,none⟩) (A.length+1) cap')):=ah hC5;rw[<- su.o]at yt;have gP:=ah yt.o.1;have WR:aj (Kp L v w w5):=ah (uG.o.trans (.inl (HO.o.trans (.inl rfl) (aD _))) yt.o.2.1);have MJ:=ah yt.o.2.1;have Pq:=ah yt.o.2.2;clear hC5 su yt tH dL Xw hA1 Ik;go_simp;have Jp:aj (w5.heap[nb]? =some (.cells (qy h b e s).toArray 82 (0,0))):=ah ((MJ.o.far Il dG.o.1 Ta.o).trans Du.o);have Pt:=ah (Pq.o.ne Il Ta.o);have WW:aj (C9 w v (.slice (some ⟨g',0,none⟩) (A.length+1) cap')):=ah (HO.o.trans Pq.o uG.o.size);have M6:aj (bf.At w5 L.B0 R (some ⟨bl,off,none⟩) (k+1)):=ah (kg.o.below (((Ar.o.mono Dy.o.b0).trans (MI.o.below HI2.o.b0 afw)).trans (MJ.o.below HI3.o.b0 (λq hq=>(HI3.o.row.lt q hq).1))));have iZ:aj (b.len<=maxLen∧e.len<=maxLen):=ah fF.o.1.2.2.2.2.2.2;obtain⟨-,-,-,-,-,-,-,-,-,y9,jM⟩:=U8 Jp.o;clear hx Il DF dx HI3 uG MI Du MJ Pq Ta HI2 qg yh Ar Dy fF kg HO HK Av rD HF HG HI HAT;go_wp2_with fail;go_loopw [10,11,12,52] (λ_ _ _ s52 wq=> ∃(kk:Nat) (f2 g2:List (List UInt8)) (v2:Value),s52= .int .i64 kk∧kk<=2∧res=Xn p j t.nm t0.nm b e R (dJ A) ((dJ A).app (.cons h b e .nil)) kk f2 g2∧nR (lu p) f2∧nR (lW p) g2∧Kp L v w wq∧C9 w v v2∧v2.ownBlock≠some nb∧wq.heap[nb]? =some (.cells (qy h b e s).toArray 82 (0,0))∧R.At wq L.B0 (some ⟨bl,off,none⟩) (k+1)∧qA wq L p aQ aR aJ aH (j:Int) (A++[⟨h,b,e,s⟩]) (mem f2) (mem g2) f2.length g2.length v2) (λ_ _ _ s52 _=>2 -(intOf s52).toNat)
     case atStart=>exact⟨0,_,_,_,rfl,ahf,HT.o,zf.o.1,zf.o.2,WR.o,WW.o,Pt.o,Jp.o,M6.o,gP.o⟩
     case round=>
      obtain⟨kk,f2,g2,v2,rfl,hkk,heq2,hf2,hg2,Uu,Xy,bc7,bc6,hR6,Oo⟩:=hrel;clear y9 jM;have Cq:=ah heq2;have yj:=ah hf2;have HG2:=ah hg2;have Ju:=ah Uu;have Jy:=ah Xy;have Pv:=ah bc7;have FE:=ah bc6;have uT:=ah hR6;have tC:=ah Oo;have HIS:=ah (Oo.tO ⟨h,b,e,s⟩ ahh);clear heq2 hf2 hg2 Uu Xy bc7 bc6 hR6 Oo HT zf WR WW Pt Jp M6 gP;have hk3:kk=0∨kk=1∨kk=2:=ahf;have ixa:=ix0 s.dR s.jc b.len s.dA e.len s.gZ;have ixb:=ix1 s.dR s.jc b.len s.dA e.len s.gZ;rcases hk3 with rfl|rfl|rfl
      ·have zP:aj (res=if(ig p j t.nm t0.nm b (dJ (A++[⟨h,b,e,s⟩])) f2 g2).err != 0 then ig p j t.nm t0.nm b (dJ (A++[⟨h,b,e,s⟩])) f2 g2 else Uf p j t.nm t0.nm e R (dJ A) (dJ (A++[⟨h,b,e,s⟩])) (ig p j t.nm t0.nm b (dJ (A++[⟨h,b,e,s⟩])) f2 g2).f (ig p j t.nm t0.nm b (dJ (A++[⟨h,b,e,s⟩])) f2 g2).g):=ah (by rw[Bh];exact Cq.o);clear Cq;go_wp2_with fail;refine(Tq.o.1 _ s.dR s.dA (A++[⟨h,b,e,s⟩]) f2 g2 v2 iZ.o.1 HIS.o.2.2.2.1 ahi yj.o HG2.o tC.o).mono ?_;rintro e' w7 ⟨rfl,CJ,Kr⟩;generalize ig p j t.nm t0.nm b (dJ (A++[⟨h,b,e,s⟩])) f2 g2=r1 at *;have LW:aj (Kp L v w w7):=ah (Ju.o.trans (.inl Jy.o) CJ);have DN:=ah Kr;have Jm:aj (w7.heap[nb]? =some (.cells (qy h b e s).toArray 82 (0,0))):=ah ((CJ.far (aI FE.o) dG.o.1 Pv.o).trans FE.o);have kN:aj (R.At w7 L.B0 (some ⟨bl,off,none⟩) (k+1)):=ah (uT.o.below (CJ.below tC.o.b0 (λq hq=>(tC.o.row.lt q hq).1)));clear CJ Kr;cases hr1:(r1.err != 0)
       ·have DR:aj (res=Xn p j t.nm t0.nm b e R (dJ A) ((dJ A).app (.cons h b e .nil)) 1 r1.f r1.g):=ah (zP.o.trans ((if_neg ah4).trans aeB));obtain⟨Rb,Ko,v7,Kl,F9⟩:=DN.o afu;have DT:=ah (ay Rb (ay Ko (ay Kl F9)));clear Rb Ko Kl F9 DN zP;go_wp2_with fail;go_roundw
        case rel=>exact⟨1,r1.f,r1.g,v7,rfl,ahf,DR.o,DT.o.1,DT.o.2.1,LW.o,Jy.o.trans DT.o.2.2.1 Ju.o.size,DT.o.2.2.1.ne (aI FE.o) Pv.o,Jm.o,kN.o,DT.o.2.2.2⟩
        case measure=>simp[intOf]
       ·exact AaT
      ·have zP:aj (res=if(ig p j t.nm t0.nm e (dJ (A++[⟨h,b,e,s⟩])) f2 g2).err != 0 then ig p j t.nm t0.nm e (dJ (A++[⟨h,b,e,s⟩])) f2 g2 else ig p j t.nm t0.nm R (dJ A) (ig p j t.nm t0.nm e (dJ (A++[⟨h,b,e,s⟩])) f2 g2).f (ig p j t.nm t0.nm e (dJ (A++[⟨h,b,e,s⟩])) f2 g2).g):=ah (by rw[Bh];exact Cq.o);clear Cq;go_wp2_with fail;refine(Tq.o.2 _ s.jc s.gZ (A++[⟨h,b,e,s⟩]) f2 g2 v2 iZ.o.2 HIS.o.2.2.2.2 ahi yj.o HG2.o tC.o).mono ?_;rintro e' w7 ⟨rfl,CJ,Kr⟩;generalize ig p j t.nm t0.nm e (dJ (A++[⟨h,b,e,s⟩])) f2 g2=r1 at *;have LW:aj (Kp L v w w7):=ah (Ju.o.trans (.inl Jy.o) CJ);have DN:=ah Kr;have Jm:aj (w7.heap[nb]? =some (.cells (qy h b e s).toArray 82 (0,0))):=ah ((CJ.far (aI FE.o) dG.o.1 Pv.o).trans FE.o);have kN:aj (R.At w7 L.B0 (some ⟨bl,off,none⟩) (k+1)):=ah (uT.o.below (CJ.below tC.o.b0 (λq hq=>(tC.o.row.lt q hq).1)));clear CJ Kr;cases hr1:(r1.err != 0)
       ·have DR:aj (res=Xn p j t.nm t0.nm b e R (dJ A) ((dJ A).app (.cons h b e .nil)) 2 r1.f r1.g):=ah (zP.o.trans ((if_neg ah4).trans aeB));obtain⟨Rb,Ko,v7,Kl,F9⟩:=DN.o afu;have DT:=ah (ay Rb (ay Ko (ay Kl F9)));clear Rb Ko Kl F9 DN zP;go_wp2_with fail;go_roundw
        case rel=>exact⟨2,r1.f,r1.g,v7,rfl,ahf,DR.o,DT.o.1,DT.o.2.1,LW.o,Jy.o.trans DT.o.2.2.1 Ju.o.size,DT.o.2.2.1.ne (aI FE.o) Pv.o,Jm.o,kN.o,DT.o.2.2.2⟩
        case measure=>simp[intOf]
       ·exact AaT
      ·have DR:aj (res=ig p j t.nm t0.nm R (dJ A) f2 g2):=Cq;obtain⟨g7,I6,rfl,hc7⟩: ∃g7 I6,v2= .slice (some ⟨g7,0,none⟩) (A.length+1) I6∧A.length+1<=I6:=by
        rcases tC.o.row.2 with⟨-,hn⟩|⟨g',cap,cur,e',-,-,hcc,-⟩
        ·simp at hn
        ·exact⟨g',cap,by rw[e'];simp,by simpa using hcc⟩
       have hcl: ∀w',Below (World.heap wr).size wr w'->w'.cell? ⟨L.bc,3,none⟩=some (.slice (some ⟨g7,0,none⟩) (A.length+1) I6):=λw' hb=>(hb.cell (p:=⟨L.bc,3,none⟩) (by have:=tC.o.sz;have:=L.c1;show L.bc<_;omega)).trans (eT tC.o.blk (j:=3) rfl).2;have hz1:(0:Int)<=(A.length:Int):=ahf;have hz2:(A.length:Int)<=(I6:Int):=ahf;have hwr:IntKind.i64.wrap (A.length:Int)=(A.length:Int):=IntWalk.i64_in _ ahf;have Im:(A.length:Int)+1 -1=(A.length:Int):=ahf;clear Cq ixa ixb;go_upto_region 17 with fail;refine cK ahe rfl ?_;refine bW 0 14 [] [[],[],[1],[1,2],[1,2,3],[],[5],[5,6],[5,6,7],[5,6,7,8],[5,6,7,8,9],[1,2,3,4,5,6,7,8,9,10],[0,1,2,3,4,5,6,7,8,9,10,11],[0,1,2,3,4,5,6,7,8,9,10,11,12],[0,1,2,3,4,5,6,7,8,9,10,11,12,13]] [[],[],[],[],[],[],[],[],[],[],[],[],[],[]] (λ_ w'=>Below (World.heap wr).size wr w') (λw w'=>Below w.heap.size w w') [66,67,68,69,70,71,72,73,74,75,76,77,78,79] rfl rfl aix ahe ahe ahe ahe ahe aix (λ_=>ak _ _) aix (below_drewN (ak _ _) 1) ?_;simp only[gJ,kE]
       iterate 14
        apply bH.step
        case cu=>intro c A w' hok hC hO hD;have e0:=hO 0 aix;simp[Act.eval]at e0;simp[Act.eval]at hD;simp[go_sem,gd,Oper.wp,hD,e0,hcl,hC,Im,hwr,hz1,hz2];exact AbN
        try simp only[dI]
       try simp only[dI]
       refine bH.done ?_;intro wz dx;simp only[List.drop_zero];intro v0 h0 v1 h1 v2 h2 v3 h3 v4 h4 v5 h5 v6 h6 v7 h7 v8 h8 v9 h9 v10 h10 v11 h11 v12 h12 v13 Om;have Ur:v11=_:=h11;have av6:v13=_:=Om;subst Ur av6;clear h0 h1 h2 h3 h4 h5 h6 h7 h8 h9 h10 h11 h12 Om;refine eY.nil ?_;go_simp;have Qx:=ah (qA.pop ⟨h,b,e,s⟩ tC.o dx);have hclz:wz.cell? ⟨L.bc,3,none⟩=some (.slice (some ⟨g7,0,none⟩) (A.length+1) I6):=hcl wz dx;have UE:wz.frozen? ⟨L.bc,3,none⟩=false:=bG ((tC.o.below dx).blk);clear hcl Im hwr;refine dD 14 [[],[],[1],[1,2],[1,2,3],[],[5],[5,6],[5,6,7],[5,6,7,8],[5,6,7,8,9],[1,2,3,4,5,6,7,8,9,10],[0,1,2,3,4,5,6,7,8,9,10,11],[0,1,2,3,4,5,6,7,8,9,10,11,12],[0,1,2,3,4,5,6,7,8,9,10,11,12,13]] rfl rfl rfl rfl rfl ahe ahe ahe ?_;simp[go_sem,Oper.wp,hclz,UE];refine dH rfl ?_;clear hclz UE dx;go_simp;go_wp2_with fail;go_roundw
       case rel=>exact⟨k+1,R,f2,g2,.slice (some ⟨g7,0,none⟩) A.length I6,ahj,acB,DR.o,ap8.o,uT.o.below (Qx.o.2.below tC.o.b0 (λq hq=>(tC.o.row.lt q hq).1)),yj.o,HG2.o,Ju.o.trans (.inl Jy.o) Qx.o.2,Jy.o.trans (.inl rfl) Ju.o.size,Qx.o.1⟩
       case measure=>simp[intOf];omega
    ·have HX:aj (res=⟨x,h.line,f1,g1⟩):=ah (HE2.o.trans (HU.o.trans (by rw[hx];rfl)));have HX0:aj (x≠0):=ah ahu;clear HU Gb HE HE2;go_wp2_with fail;go_quiet (fail);go_wp2_with fail
     go_ret2
     refine⟨qY ahw ahw,uG.o.trans (.inr rfl) (v1:= .slice none 0 0) (Kp.of_below (below_drewN (ak _ _) _)),λh0=> ?_⟩;rw[HX.o]at h0;exact(HX0.o h0).elim
theorem YS (L:Lay) (p:Pr) (aQ aR:Option Addr) (aJ aH:Nat) (j:Nat) (t t0:Th) (r r0:List Th) (hd:p.ts.drop j=t::r) (hts:p.ts=t0::r0) (hj:cO (j:Int)) (hT:p.ts.length<maxLen) (hD:p.ds.length<maxLen) (l:bf) (hE:l.Ev BH):FX L p aQ aR aJ aH j t t0 l:=
 QW L p aQ aR aJ aH j t t0 r r0 hd hts hj hT hD l (JO (QW L p aQ aR aJ aH j t t0 r r0 hd hts hj hT hD) l hE)
namespace Md
def jH (p:Pr) (iD:ByteArray):List Th->Nat->List (List UInt8)->List (List UInt8)->Ql
 | [],_,f,g=>⟨0,0,f,g⟩
 |t::r,j,f,g=>if(ig p j t.nm iD t.body .nil f g).err != 0 then ig p j t.nm iD t.body .nil f g else jH p iD r (j+1) (ig p j t.nm iD t.body .nil f g).f (ig p j t.nm iD t.body .nil f g).g
end Md
def aI5 (n:Nat) (h:0<n):Lay where
 B0:=n
 B1:=n+4
 bc:=n+1+1+1
 bs:=n+1
 bt:=n+1+1
 c0:=ahf
 s0:=ahf
 t0:=ahf
 c1:=ahf
 s1:=ahf
 t1:=ahf
 cs:=ahf
 ct:=ahf
 st:=ahf
 kw:=h
theorem aL8 {p:Pr} {w W:World} {aQ aR:Option Addr} {aJ aH:Nat} (hp:p.At w aQ aR) (fG:eD w)
 (hW:((((w.alloc (.cells #[.slice aQ p.ds.length aJ,.slice aR p.ts.length aH] 52)).alloc (.map #[] 0)).alloc (.map #[] 0)).alloc (.cells #[.slice aQ p.ds.length aJ,.slice aR p.ts.length aH,.int .i64 0,.slice none 0 0,.map (some (w.heap.size+1)),.map (some (w.heap.size+1+1))] 161))=W):
 qA W (aI5 w.heap.size fG.lt) p aQ aR aJ aH 0 [] (mem []) (mem []) 0 0 (.slice none 0 0)∧Below w.heap.size w W∧W.heap[w.heap.size]? =some (.cells #[.slice aQ p.ds.length aJ,.slice aR p.ts.length aH] 52 (0,0)):=by
 have hb:Below w.heap.size w W:=by rw[<- hW];exact((((ak _ _).alloc (aD _) _).alloc ahh _).alloc ahi _).alloc ahi _
 have h0:W.heap[w.heap.size]? =some (.cells #[.slice aQ p.ds.length aJ,.slice aR p.ts.length aH] 52 (0,0)):=by rw[<- hW,heap_alloc_old _ _ ahi,heap_alloc_old _ _ ahi,heap_alloc_old _ _ ahh];exact heap_alloc_new _ _
 have h1:mh W (w.heap.size+1) 0 (mem []):=by
  have:=mh.made (w.alloc (.cells #[.slice aQ p.ds.length aJ,.slice aR p.ts.length aH] 52));have e:(w.alloc (.cells #[.slice aQ p.ds.length aJ,.slice aR p.ts.length aH] 52)).heap.size=w.heap.size+1:=ahh
  rw[e]at this;refine mh.same (f:=mem []) this ?_;rw[<- hW,heap_alloc_old _ _ ahh,heap_alloc_old _ _ ahh]
 have h2:mh W (w.heap.size+1+1) 0 (mem []):=by
  have:=mh.made ((w.alloc (.cells #[.slice aQ p.ds.length aJ,.slice aR p.ts.length aH] 52)).alloc (.map #[] 0));have e:((w.alloc (.cells #[.slice aQ p.ds.length aJ,.slice aR p.ts.length aH] 52)).alloc (.map #[] 0)).heap.size=w.heap.size+1+1:=ahh
  rw[e]at this;refine mh.same (f:=mem []) this ?_;rw[<- hW,heap_alloc_old _ _ ahh]
 have h3:W.heap[w.heap.size+1+1+1]? =some (.cells (ckV p aQ aR aJ aH 0 (.slice none 0 0) (w.heap.size+1) (w.heap.size+1+1)) 161 (0,0)):=by
  rw[<- hW];have e:(((w.alloc (.cells #[.slice aQ p.ds.length aJ,.slice aR p.ts.length aH] 52)).alloc (.map #[] 0)).alloc (.map #[] 0)).heap.size=w.heap.size+1+1+1:=ahh
  rw[<- e];exact heap_alloc_new _ _
 refine⟨{blk:=h3,row:=World.ownsRow_nil _ _ _ _,ms:=h1,mt:=h2,sz:= ?_,dat:= ?_,tO:=agb},hb,h0⟩
 ·show w.heap.size+4<=W.heap.size;rw[<- hW];simp
 ·exact⟨hp.1,hp.2.1,hp.2.2.1.below hb,hp.2.2.2.below hb,fG.same hb⟩
theorem qA.aA7 {w:World} {L:Lay} {p:Pr} {aQ aR:Option Addr} {aJ aH:Nat} {i i':Int} {A:List Fr} {f g:List UInt8->Bool} {n m:Nat} {v:Value}
 (h:qA w L p aQ aR aJ aH i A f g n m v):qA (w.setCell ⟨L.bc,2,none⟩ (.int .i64 i')) L p aQ aR aJ aH i' A f g n m v:=by
 have hg:=bQ w ⟨L.bc,2,none⟩ (.int .i64 i');have hbel:=cB hg L.c0 h.b0;exact {blk:=agD,row:=h.row.kept hg (h.own_ne L.c1),ms:=h.ms.same (bF w _ _ rfl L.cs),mt:=h.mt.same (bF w _ _ rfl L.ct),sz:=aO h.sz hg.size,dat:=h.dat.below hbel,tO:=λx hx=>(h.tO x hx).below hbel}
theorem VU (p:Pr) (w:World) (aQ aR:Option Addr) (aJ aH:Nat) (t0:Th) (r0:List Th) (hts:p.ts=t0::r0) (hT:p.ts.length<maxLen) (hD:p.ds.length<maxLen) (hp:p.At w aQ aR) (fG:eD w) (hS: ∀t∈p.ts,t.body.Ev BH):
 Calls Tryz.prog 71 #[.agg #[.slice aQ p.ds.length aJ,.slice aR p.ts.length aH]] w λe w'=>e= .returned (.tuple #[.int .i64 (jH p t0.nm p.ts 0 [] []).err,.int .i64 (jH p t0.nm p.ts 0 [] []).line])∧Below w.heap.size w w':=by
 generalize hres:jH p t0.nm p.ts 0 [] []=res;have HR:=ah hres;have HP:=ah hp;have kG:=ah fG;have lH:=ah hts;have HT:=ah hT;unfold maxLen at hT;have JA:=ah hS;clear hres hp fG hts hS;have hmm:= @run_makeMap Tryz.prog;go_enter Tryz.func71,Tryz.ntmps71;go_upto_region 2 with fail;generalize hW:World.alloc (World.alloc (World.alloc (World.alloc w _) _) _) _=W;generalize Value.agg #[_,_]=a0;have HS:=ah (aL8 HP.o kG.o hW);obtain⟨L,hL⟩: ∃L,aI5 w.heap.size kG.o.lt=L:=⟨_,rfl⟩;have hLc:w.heap.size+1+1+1=L.bc:=by rw[<- hL];rfl
 have HL0:aj (w.heap.size=L.B0):=ah (by rw[<- hL];rfl);rw[hL]at HS;clear hW hL hmm;have c0:W.cell? ⟨w.heap.size,1,none⟩=some (.slice aR p.ts.length aH):=(eT HS.o.2.2 (j:=1) rfl).2;rw[hLc];clear hLc;go_wp2_with fail;go_loopw [5,6,7,8,17] (λ_ _ _ _ s wr=> ∃(k:Nat) (R:List Th) (f1 g1:List (List UInt8)) (v1:Value) (i1:Int),s= .int .i64 k∧k+R.length=p.ts.length∧p.ts.drop k=R∧res=jH p t0.nm R k f1 g1∧nR (lu p) f1∧nR (lW p) g1∧Below L.B0 w wr∧qA wr L p aQ aR aJ aH i1 [] (mem f1) (mem g1) f1.length g1.length v1) (λ_ _ _ _ s _=>p.ts.length -(intOf s).toNat)
 case atStart=>exact⟨0,p.ts,[],[],_,0,rfl,ahh,rfl,HR.o.symm,⟨List.nodup_nil,ahh⟩,⟨List.nodup_nil,ahh⟩,by rw[<- HL0.o];exact HS.o.2.1,HS.o.1⟩
 case round=>
  obtain⟨k,R,f1,g1,v1,i1,rfl,hlen,hdr,heq,hf1,hg1,hB,hI⟩:=hrel;have HE:=ah heq;have Av:=ah hf1;have rD:=ah hg1;have HB:=ah hB;have HI:=ah hI;have HDR:=ah hdr;clear heq hf1 hg1 hB hI hdr c0 HS;cases R with
  |nil=>
   obtain rfl:k=p.ts.length:=afb
   have HX:aj (res.err=0∧res.line=0):=ah agY;go_wp2_with fail
   go_ret2
   exact⟨qY (by rw[HX.o.1];rfl) (by rw[HX.o.2];rfl),by rw[HL0.o];exact HB.o⟩
  |cons t R=>
   have hrow:=HI.o.dat.2.2.2.1.drop k;rw[HDR.o,aU]at hrow;obtain⟨⟨bl,off,iO,eF,dR,dA,rfl,hbl,x0,x1,x2,x3,hok,htx,hst,-⟩,-⟩:=hrow;simp only[aB]at hlen;have hkl:k<p.ts.length:=ahf
   have kK:=ah hok;have HST:=ah hst;clear hok hst htx hbl;go_upto_region 5 with fail;generalize hW2:World.alloc wr _=W2;obtain⟨nb,hnb,Ar,-,yh,-⟩:=oJ hW2;have HI2:=ah (HI.o.below Ar.o);have dG:aj (L.B1<=nb):=ah (by rw[<- hnb];exact HI.o.sz);have HB2:aj (Below L.B0 w W2):=ah (HB.o.trans (Ar.o.mono HI.o.b0));have aW3:=ah (HST.o.below (Ar.o.mono HI.o.b0));rw[hnb];clear hW2 hnb x0 x1 x2 x3 HST HB;have c2:W2.cell? ⟨L.bc,2,none⟩=some (.int .i64 i1):=(eT HI2.o.blk (j:=2) rfl).2;have f2:W2.frozen? ⟨L.bc,2,none⟩=false:=bG HI2.o.blk;go_upto_region 6 with fail;generalize hW3:World.setCell W2 _ _=W3;have oG:aj (W2.grownBy W3 (some L.bc)):=ah (by rw[<- hW3];exact bQ _ _ _);have HI3:aj (qA W3 L p aQ _ aJ aH (k:Int) [] (mem f1) (mem g1) f1.length g1.length v1):=ah (by rw[<- hW3];exact HI2.o.aA7);have Du:aj (W3.heap[nb]? =some (.cells #[.string t.nm,.int .i64 t.line,.slice iO t.cZ.length eF,.slice dR t.body.len dA] 63 (0,0))):=ah ((oG.o.block _ (aI yh.o) (by have:=L.c1;have:=dG.o;simp;omega)).trans yh.o);have qM:=ah (cB oG.o L.c0 HI2.o.b0);have HB3:=ah (HB2.o.trans qM.o);have bG1:=ah (aW3.o.below qM.o);clear hW3 c2 f2 HI2 yh Ar HB2 aW3 qM HI;have y3:W3.cell? ⟨nb,3,none⟩=some (.slice dR t.body.len dA):=(eT Du.o (j:=3) rfl).2;have zP:aj (res=if(ig p k t.nm t0.nm t.body (dJ []) f1 g1).err != 0 then ig p k t.nm t0.nm t.body (dJ []) f1 g1 else jH p t0.nm R (k+1) (ig p k t.nm t0.nm t.body (dJ []) f1 g1).f (ig p k t.nm t0.nm t.body (dJ []) f1 g1).g):=ah HE.o;clear HE;go_wp2_with fail;refine(YS L p _ _ aJ aH k t t0 R r0 HDR.o lH.o afM HT.o hD t.body (JA.o t (List.mem_of_mem_drop (by rw[HDR.o];exact aW))) W3 dR dA [] f1 g1 v1 kK.o.2.2.2 bG1.o ahh Av.o rD.o HI3.o).mono ?_;rintro e' w4 ⟨rfl,hK4,hq4⟩;generalize ig p k t.nm t0.nm t.body (dJ []) f1 g1=r1 at *;have dL:=ah (HB3.o.trans (hK4.below HI3.o.b0 (λq hq=>(HI3.o.row.lt q hq).1)));have DL:=ah hq4;clear hK4 hq4;cases hr1:(r1.err != 0)
   ·have DR:aj (res=jH p t0.nm R (k+1) r1.f r1.g):=ah (zP.o.trans (if_neg ah4));obtain⟨Rb,Ko,v7,-,F9⟩:=DL.o afu;have DT:=ah (ay Rb (ay Ko F9));have HD7:aj (p.ts.drop (k+1)=R):=ah aem;clear Rb Ko F9 DL zP;go_wp2_with fail;go_roundw
    case rel=>exact⟨k+1,R,r1.f,r1.g,v7,_,ahj,ahf,HD7.o,DR.o,DT.o.1,DT.o.2.1,dL.o,DT.o.2.2⟩
    case measure=>simp[intOf];omega
   ·have xH:aj (res=r1):=ah (zP.o.trans (if_pos hr1));clear zP DL;go_wp2_with fail
    go_ret2
    exact⟨qY aib aib,by rw[HL0.o];exact dL.o⟩
namespace Md
def K5:bf->Int->Int
 | .nil,n=>n
 | .cons _ b e r,n=>K5 r (wrap64 (n+(K5 b b.len+K5 e e.len)))
def Ib (l:bf):Int:=K5 l l.len
end Md
theorem aQ7 (n x:Int):wrap64 (n+wrap64 x)=wrap64 (n+x):=by
 unfold wrap64;omega
theorem wrap_in' (n x y:Int):wrap64 (wrap64 (n+x)+y)=wrap64 (n+(x+y)):=by
 unfold wrap64;omega
def Dl (l:bf):Prop:= ∀(w:World) (ao:Option Addr) (cap:Nat),l.len<=maxLen->l.At w w.heap.size ao 0->
 Calls Tryz.prog 70 #[.slice ao l.len cap] w λe w'=>e= .returned (.int .i64 (Ib l))∧Below w.heap.size w w'
theorem MU (l:bf) (hall:l.All λ_ b e=>Dl b∧Dl e):Dl l:=by
 intro w ao cap hl hat;generalize hres:Ib l=res;have HR:=ah hres;have HAT:=ah hat;have lG:=ah hall;unfold maxLen at hl;clear hres hat hall;go_enter Tryz.func70,Tryz.ntmps70;go_wp2_with fail;go_loopw [3,5,10] (λs3 _ s wr=> ∃(k:Nat) (R:bf) (n:Int),s= .int .i64 k∧s3= .int .i64 n∧k+R.len=l.len∧res=K5 R n∧(R.All λ_ b e=>Dl b∧Dl e)∧R.At wr wr.heap.size ao k∧Below w.heap.size w wr) (λ_ _ s _=>l.len -(intOf s).toNat)
 case atStart=>exact⟨0,l,l.len,rfl,rfl,ahh,HR.o.symm,lG.o,HAT.o,ak _ _⟩
 case round=>
  obtain⟨k,R,n,rfl,rfl,hlen,heq,pR,hrow,hB⟩:=hrel;have HE:=ah heq;have HB:=ah hB;clear heq hB;cases R with
  |nil=>
   obtain rfl:k=l.len:=afk
   go_wp2_with fail;go_ret;exact⟨dh HE.o.symm,HB.o⟩
  |cons h b e R=>
   obtain⟨bl,off,s,rfl,hbl,hin,x0,x1,x2,x3,x4,x5,x6,x7,x8,x9,x10,hrest⟩:=bf.At.head hrow;obtain⟨⟨hsb,hse⟩,En⟩:=pR;have eX:=ah hsb;have Gb:=ah hse;have fF:=ah hin;have hkl:k<l.len:=acB
   clear hrow hin hsb hse;go_upto_region 5 with fail;obtain⟨nb,hnb⟩: ∃n,wr.heap.size=n:=⟨_,rfl⟩;generalize hW2:World.alloc wr _=W2;have HY:aj (Sit wr W2 (xL nb h b e s [])):=ah aaq;rw[hnb];clear hW2 hnb x0 x1 x2 x3 x4 x5 x6 x7 x8 x9 x10;obtain⟨T,F,yU,hst,hF,hnext⟩:=calm W2;have HF:=ah hF;have dN:=ah hnext;clear hnext hF;obtain⟨d0,d1,d2,d3,d4,d5,d6,d7,d8,d9,tN,-⟩:=HY.o.Ca HF.o;clear d0 d1 d2 d3 d4 d5 d6 d7 d8;refine gX F ahe ahe hst ?_
   repeat (any_goals (first|go_big_quiet_step ((first|(go_at_call_of 70 (Value.slice s.dR b.len s.dA);refine(eX.o _ s.dR s.dA fF.o.1.2.2.2.2.2.2.1 ((fF.o.same HY.o.1).same (HF.o _)).2.2.2.1).mono ?_;rintro e w' ⟨rfl,hb⟩;exact⟨rfl,dN.o _ _ hb⟩)|(go_at_call_of 70 (Value.slice s.jc e.len s.gZ);refine(Gb.o _ s.jc s.gZ fF.o.1.2.2.2.2.2.2.2 ((fF.o.same HY.o.1).same (HF.o _)).2.2.2.2).mono ?_;rintro e w' ⟨rfl,hb⟩;exact⟨rfl,dN.o _ _ hb⟩)))|(refine wpQuiet_step (λK hK=> ?_);go_simp;first|(refine hK _ ?_;clear hK K)|(split <;> first|(refine hK _ ?_;clear hK K)|(apply Exists.intro;refine⟨λ_=> ?_,hK _ ?_⟩;((first|(go_at_call_of 70 (Value.slice s.dR b.len s.dA);refine(eX.o _ s.dR s.dA fF.o.1.2.2.2.2.2.2.1 ((fF.o.same HY.o.1).same (HF.o _)).2.2.2.1).mono ?_;rintro e w' ⟨rfl,hb⟩;exact⟨rfl,dN.o _ _ hb⟩)|(go_at_call_of 70 (Value.slice s.jc e.len s.gZ);refine(Gb.o _ s.jc s.gZ fF.o.1.2.2.2.2.2.2.2 ((fF.o.same HY.o.1).same (HF.o _)).2.2.2.2).mono ?_;rintro e w' ⟨rfl,hb⟩;exact⟨rfl,dN.o _ _ hb⟩)));clear hK K)))))
   all_goals (refine wpQuiet_nil ?_;rintro _ ⟨x,rfl⟩)
   have HB2:=ah (HY.o.1.trans ((HF.o x).mono HY.o.1.size));clear d9 tN HF dN hst;generalize F x=W3 at *;go_wp2_with fail;go_roundw
   case rel=>exact⟨k+1,R,_,ahj,rfl,acB,HE.o.trans (show K5 R (wrap64 (n+(Ib b+Ib e)))=_ by rw[<- aQ7]),En,hrest.same HB2.o,HB.o.trans (HB2.o.mono HB.o.size)⟩
   case measure=>simp[intOf];omega
theorem ae7 (l:bf):Dl l:=MU l (bf.qG (λ_ b e hb he=>⟨MU b hb,MU e he⟩) l)
namespace Md
def uq:List Th->Int->Int
 | [],n=>n
 |t::r,n=>uq r (wrap64 (n+Ib t.body))
theorem Ef: ∀(ds pre:List De) (c l n f:Int),(∀d∈ds,jF d=true)->(mY ds pre c l n f).1=0->c+l+n+f<=20->(ds.length:Int)+(c+l+n+f)<=20
 | [],_,_,_,_,_,_,_,h=>aiy
 |d::r,pre,c,l,n,f,hs,h0,h=>by
  have hd:=xg (hs d ahh);rw[K8]at h0;split at h0
  ·simp at h0
  split at h0
  ·simp at h0
  split at h0
  ·simp at h0
  rename_i hlim;split at h0
  ·simp at h0
  split at h0
  ·simp at h0
  have hl:dc d c<=12∧dl d l<=4∧dn d n<=2∧df d f<=2:=by unfold lim at hlim;simp only[Bool.or_eq_true,decide_eq_true_eq,not_or]at hlim;omega
  have ih:=Ef r (pre++[d]) _ _ _ _ (λx hx=>hs x (by simp[hx])) h0 ahf;have hsum:c+l+n+f+1<=dc d c+dl d l+dn d n+df d f:=by
   unfold dc dl dn df;have hk:d.kind=1∨d.kind=2∨d.kind=3∨d.kind=4∨d.kind=5∨d.kind=6:=ahf
   rcases hk with hk|hk|hk|hk|hk|hk <;> simp[hk] <;> omega
  simp only[aB];omega
def kS (p:Pr):ByteArray:=(p.ts.head?.map (·.nm)).getD ⟨#[]⟩
def jL (p:Pr):Int×Int:=
 if !qZ p then(3,0)else if(mY p.ds [] 0 0 0 0).1 != 0 then mY p.ds [] 0 0 0 0 else
 if decide ((4:Int)<p.ts.length)then(2,0)else if(mq p).1 != 0 then mq p else
 if decide (60<uq p.ts 0)then(2,0)else((jH p (kS p) p.ts 0 [] []).err,(jH p (kS p) p.ts 0 [] []).line)
end Md
theorem M9 (p:Pr) (w:World) (aQ aR:Option Addr) (aJ aH:Nat) (hp:p.At w aQ aR) (fG:eD w) (hS: ∀t∈p.ts,t.body.Ev BH):
 Calls Tryz.prog 40 #[.agg #[.slice aQ p.ds.length aJ,.slice aR p.ts.length aH]] w λe w'=>e= .returned (.tuple #[.int .i64 (jL p).1,.int .i64 (jL p).2])∧Below w.heap.size w w':=by
 have HS:aj (jL p=if !qZ p then(3,0)else if(mY p.ds [] 0 0 0 0).1 != 0 then mY p.ds [] 0 0 0 0 else
  if decide ((4:Int)<p.ts.length)then(2,0)else if(mq p).1 != 0 then mq p else
  if decide (60<uq p.ts 0)then(2,0)else((jH p (kS p) p.ts 0 [] []).err,(jH p (kS p) p.ts 0 [] []).line)):=ah rfl
 have JA:=ah hS;clear hS;generalize jL p=res at *;have hld:=hp.1;have hlt:=hp.2.1;unfold maxLen at hld hlt;have HP:=ah hp;have kG:=ah fG;clear hp fG;go_enter Tryz.func40,Tryz.ntmps40;go_upto_region 1 with fail;generalize hW:World.alloc w _=W;generalize Value.agg #[_,_]=a0;have HX:=ah ((Sit.start w).yP rfl (.slice aQ p.ds.length aJ) (.slice aR p.ts.length aH) 52);rw[hW]at HX;clear hW;obtain⟨c0,c1,-⟩:=HX.o.cs;go_wp2_with fail;refine(YM p _ aQ aR aJ aH (HP.o.same HX.o.1) (kG.o.same HX.o.1)).mono ?_;rintro e w1 ⟨rfl,hb1⟩;have HY:=ah (HX.o.next hb1);clear HX hb1 c0 c1;obtain⟨c0,c1,-⟩:=HY.o.cs;have BF:aj (qZ p=true->(∀d∈p.ds,jF d=true)∧∃t0 r0,p.ts=t0::r0):=ah (λh=>by
  unfold qZ at h;simp only[aM,List.all_eq_true,decide_eq_true_eq]at h;refine⟨h.1.1,?_⟩;cases hts:p.ts with
  |nil=>rw[hts]at h;simp at h
  |cons a b=>exact⟨a,b,rfl⟩)
 cases hS:qZ p
 ·have HE:aj (res=(3,0)):=ah (HS.o.trans ain);clear BF;go_wp2_with fail
  go_ret2
  exact⟨qY ahC ahC,HY.o.1⟩
 ·have HE:aj (res=if(mY p.ds [] 0 0 0 0).1 != 0 then mY p.ds [] 0 0 0 0 else
   if decide ((4:Int)<p.ts.length)then(2,0)else if(mq p).1 != 0 then mq p else
   if decide (60<uq p.ts 0)then(2,0)else((jH p (kS p) p.ts 0 [] []).err,(jH p (kS p) p.ts 0 [] []).line)):=ah (HS.o.trans ain)
  have xE:=ah (BF.o hS);have Dv:aj ((mY p.ds [] 0 0 0 0).1=0->p.ds.length<=20):=ah (λh0=>ab4);clear HS BF;go_wp2_with fail;refine(MW p.ds _ aQ aJ HP.o.1 ((HP.o.same HY.o.1).2.2.1) xE.o.1).mono ?_;rintro e w2 ⟨rfl,hb2⟩;have HZ:=ah (HY.o.next hb2);clear HY hb2 c0 c1;obtain⟨c0,c1,-⟩:=HZ.o.cs;generalize mY p.ds [] 0 0 0 0=dd at *;cases h1:(dd.1 != 0)
  case true=>
   have dP:aj (res=dd):=ah (HE.o.trans (if_pos h1));clear HE xE Dv;go_wp2_with fail
   go_ret2
   exact⟨qY ahn ahn,HZ.o.1⟩
  have HSU:=ah (Dv.o ahm);clear Dv;have rC:aj (res=if decide ((4:Int)<p.ts.length)then(2,0)else if(mq p).1 != 0 then mq p else
   if decide (60<uq p.ts 0)then(2,0)else((jH p (kS p) p.ts 0 [] []).err,(jH p (kS p) p.ts 0 [] []).line)):=ah (HE.o.trans (if_neg ahr))
  clear HE;by_cases h4:(4:Int)<(p.ts.length:Int)
  ·have dP:aj (res=(2,0)):=ah (rC.o.trans (if_pos ahN));clear rC xE;go_wp2_with fail
   go_ret2
   exact⟨qY ahn ahn,HZ.o.1⟩
  have HE2:aj (res=if(mq p).1 != 0 then mq p else
   if decide (60<uq p.ts 0)then(2,0)else((jH p (kS p) p.ts 0 [] []).err,(jH p (kS p) p.ts 0 [] []).line)):=ah (rC.o.trans (if_neg ahN))
  have h4':(p.ts.length:Int)<=4:=ahf
  have Gc:aj (p.ts.length<=4):=ah ahf;clear rC;go_wp2_with fail;refine(WC p _ aQ aR aJ aH (HP.o.same HZ.o.1) (by have:=HSU.o;have:=Gc.o;unfold maxLen;omega)).mono ?_;rintro e w3 ⟨rfl,hb3⟩;have HV:=ah (HZ.o.next hb3);clear HZ hb3 c0 c1 h1;obtain⟨c0,c1,-⟩:=HV.o.cs;generalize mq p=tt at *;cases h2:(tt.1 != 0)
  case true=>
   have dP:aj (res=tt):=ah (HE2.o.trans (if_pos h2));clear HE2 xE;go_wp2_with fail
   go_ret2
   exact⟨qY ahn ahn,HV.o.1⟩
  have kF:aj (res=if decide (60<uq p.ts 0)then(2,0)else((jH p (kS p) p.ts 0 [] []).err,(jH p (kS p) p.ts 0 [] []).line)):=ah (HE2.o.trans (if_neg ahz));clear HE2;have qX:=(HP.o.same HV.o.1).2.2.2;go_wp2_with fail;go_loopw [8,10,40] (λs8 _ s wr=> ∃(k:Nat) (R:List Th) (n:Int),s= .int .i64 k∧s8= .int .i64 n∧k+R.length=p.ts.length∧uq p.ts 0=uq R n∧iP wr wr.heap.size R aR k∧Sit w wr [(w.heap.size,0,(.slice aQ p.ds.length aJ)),(w.heap.size,1,(.slice aR p.ts.length aH))]) (λ_ _ s _=>p.ts.length -(intOf s).toNat)
  case atStart=>exact⟨0,p.ts,0,rfl,rfl,ahh,rfl,qX,HV.o⟩
  case round=>
   obtain⟨k,R,n,rfl,rfl,hlen,heq,hrow,hsit⟩:=hrel;have HU:=ah hsit;have HQ:=ah heq;clear hsit HV c0 c1 qX heq h2;obtain⟨c0,c1,-⟩:=HU.o.cs;cases R with
   |nil=>
    obtain rfl:k=p.ts.length:=afb;have HN:aj (uq p.ts 0=n):=HQ;by_cases h6:60<n
    ·have dP:aj (res=(2,0)):=ah (kF.o.trans (if_pos afO));clear kF xE;go_wp2_with fail
     go_ret2
     exact⟨qY ahn ahn,HU.o.1⟩
    ·have h6':n<=60:=ahf;obtain⟨-,t0,r0,hts⟩:=xE.o;have lH:=ah hts;have HHN:aj (kS p=t0.nm):=ah (by unfold kS;rw[hts];rfl);have dP:aj (res=((jH p t0.nm p.ts 0 [] []).err,(jH p t0.nm p.ts 0 [] []).line)):=ah (kF.o.trans ((if_neg afO).trans (by rw[HHN.o])));clear kF xE hts;go_wp2_with fail;refine(VU p _ aQ aR aJ aH t0 r0 lH.o (by have:=Gc.o;unfold maxLen;omega) (by have:=HSU.o;unfold maxLen;omega) (HP.o.same HU.o.1) (kG.o.same HU.o.1) JA.o).mono ?_;rintro e w4 ⟨rfl,hb4⟩;go_wp2_with fail
     go_ret2
     exact⟨qY ahn ahn,(HU.o.next hb4).1⟩
   |cons t R=>
    obtain⟨⟨b,off,iO,eF,dR,dA,rfl,hB,x0,x1,x2,x3,hok,htx,hst,hcl⟩,hrest⟩:=hrow;simp only[aB]at hlen;have hkl:k<p.ts.length:=ahf;have kK:=ah hok;have HST:=ah hst;clear hok htx hst hcl;go_upto_region 15 with fail;clear c0 c1;obtain⟨n2,hn2⟩: ∃n,wr.heap.size=n:=⟨_,rfl⟩;generalize hW2:World.alloc wr _=W2;have HB2:aj (Below wr.heap.size wr W2):=ah afl;have HV:aj (Sit w W2 ((n2,0,.string t.nm)::(n2,1,.int .i64 t.line)::(n2,2,.slice iO t.cZ.length eF)::(n2,3,.slice dR t.body.len dA)::[(w.heap.size,0,(.slice aQ p.ds.length aJ)),(w.heap.size,1,(.slice (some ⟨b,off,none⟩) p.ts.length aH))])):=ah ac7;rw[hn2];clear hW2 hn2 x0 x1 x2 x3;obtain⟨c0,c1,c2,c3,c4,c5,-⟩:=HV.o.cs;go_wp2_with fail;refine(ae7 t.body _ dR dA kK.o.2.2.2 (HST.o.same HB2.o)).mono ?_;rintro e' w4 ⟨rfl,hb4⟩;have iU:=ah (HB2.o.trans (hb4.mono HB2.o.size));clear hb4 c0 c1 c2 c3 c4 c5;go_wp2_with fail;go_roundw
    case rel=>exact⟨k+1,R,_,ahj,rfl,ahf,HQ.o.trans rfl,hrest.same iU.o,HU.o.next iU.o⟩
    case measure=>simp[intOf];omega
end Go.Proofs.YtcjgfgkllmldpaaGreatDoor
