/- Statements of the fixed program: assignments of expressions to names, and blocks under a lock. -/
import Derived.Test.YtkmllehjemjgpaaGreatDoorGRA
import Derived.Test.YtkmllehjemjgpaaGreatDoorGMB
import Derived.Deep.AppendLies
import Derived.Deep.MidRow
import Derived.Deep.LoopGhost
set_option linter.unusedSimpArgs false
set_option linter.unusedVariables false
set_option maxHeartbeats 40000000
set_option maxRecDepth 1000000
namespace Go.Proofs.YtkmllehjemjgpaaGreatDoor
open Go.RowKit
open Md Pz
structure Sx where
 h:cB
 b:aH
 e:aH
structure Fr (br bs:Nat) (w w':World):Prop where
 os:w'.os=w.os
 tape:w'.tape=w.tape
 output:w'.output=w.output
 size:w.heap.size<=w'.heap.size
 block: ∀k,k<w.heap.size->k≠br->k≠bs->w'.heap[k]? =w.heap[k]?
section
variable {br bs:Nat} {w w1 w2 w':World}
theorem Fr.refl (br bs:Nat) (w:World):Fr br bs w w:=⟨rfl,rfl,rfl,Nat.le_refl _,λ_ _ _ _=>rfl⟩
theorem Fr.trans (h:Fr br bs w w1) (k:Fr br bs w1 w2):Fr br bs w w2:=
 ⟨k.os.trans h.os,k.tape.trans h.tape,k.output.trans h.output,Nat.le_trans h.size k.size,λj hj h1 h2=>(k.block j (Nat.lt_of_lt_of_le hj h.size) h1 h2).trans (h.block j hj h1 h2)⟩
theorem Fr.rY (h:w.grownBy w' (some br)):Fr br bs w w':=⟨h.os,h.tape,h.output,h.size,λk hk h1 _=>h.block k hk (by simp;exact h1)⟩
theorem Fr.set (h:Fr br bs w w') (a:Addr) (v:Value) (ha:a.block=bs∨w.heap.size<=a.block):Fr br bs w (w'.setCell a v):=
 ⟨h.os,h.tape,h.output,by have:=h.size;simpa[World.setCell]using this,λk hk h1 h2=>(bY w' a v rfl (by omega)).trans (h.block k hk h1 h2)⟩
theorem Fr.alloc (h:Fr br bs w w') (o:Obj):Fr br bs w (w'.alloc o):=h.trans (Fr.rY (iR (ak _ _)))
theorem Fr.gr (h:Fr br bs w1 w') (hb:Below w.heap.size w w1) (hs:w.heap.size<=bs):w.grownBy w' (some br):=
 ⟨h.os.trans hb.os,h.tape.trans hb.tape,h.output.trans hb.output,Nat.le_trans hb.size h.size,λk hk h1=>(h.block k (Nat.lt_of_lt_of_le hk hb.size) (by simpa using h1) (by omega)).trans (hb.block k hk)⟩
end
def zS:Sl:=⟨none,0,none,0,none,0,none,0⟩
structure Pm (R:Rp) (bs B:Nat) (w:World) (x:lK) (rest:aO):Prop where
 rd:dM w R rest
 lt:bs<B∧R.br<B
 ne:bs≠R.br
 b0:R.B0<=bs
 sz:B<=w.heap.size
 blk:w.heap[bs]? =some (.cells (lK.f x).toArray 90 (0,0))
 ok:uY x.h x.b x.e
 st:ig B w (lK.I x)
section
variable {R:Rp} {bs B:Nat} {w W W':World} {x:lK} {rest rest':aO}
theorem Pm.then (h:Pm R bs B W x rest) (h1:dM W' R rest') (h2:W.grownBy W' (some R.br)):Pm R bs B W' x rest':=
 ⟨h1,h.lt,h.ne,h.b0,Nat.le_trans h.sz h2.size,(h2.block _ (Nat.lt_of_lt_of_le h.lt.1 h.sz) (by simp;exact h.ne)).trans h.blk,h.ok,h.st.next (yJ h2 h.lt.2)⟩
theorem Pm.below (h:Pm R bs B W x rest) (hb:Below W.heap.size W W'):Pm R bs B W' x rest:=h.then (h.rd.below hb) (iR hb)
theorem Pm.alloc (h:Pm R bs B W x rest) (o:Obj):Pm R bs B (W.alloc o) x rest:=h.below (ak _ _)
theorem Pm.put (h:Pm R bs B W x rest) (j:Nat) (v:Value) {y:lK} (hy:(lK.f x).toArray.setIfInBounds j v=(lK.f y).toArray) (hok:uY y.h y.b y.e) (hst:ig B W (lK.I y)):Pm R bs B (W.setCell ⟨bs,j,none⟩ v) y rest:=
 ⟨tu h.rd _ v h.b0 h.ne,h.lt,h.ne,h.b0,by have:=h.sz;simpa[World.setCell]using this,by rw[eZ h.blk,hy],hok,hst.next (jg W ⟨bs,j,none⟩ v h.lt.1)⟩
theorem Pm.nm (h:Pm R bs B W x rest) (s:ByteArray) (hs:s.size<=maxLen):Pm R bs B (W.setCell ⟨bs,2,none⟩ (.string s)) ⟨{x.h with nm:=s},x.b,x.e,x.s⟩ rest:=
 h.put 2 _ rfl ⟨h.ok.1,h.ok.2.1,hs,h.ok.2.2.2⟩ h.st
theorem Pm.arg (h:Pm R bs B W x rest) (s:ByteArray) (hs:s.size<=maxLen):Pm R bs B (W.setCell ⟨bs,3,none⟩ (.string s)) ⟨{x.h with arg:=s},x.b,x.e,x.s⟩ rest:=
 h.put 3 _ rfl ⟨h.ok.1,h.ok.2.1,h.ok.2.2.1,hs,h.ok.2.2.2.2⟩ h.st
theorem Pm.op (h:Pm R bs B W x rest) (n:Int) (hn:fD n):Pm R bs B (W.setCell ⟨bs,0,none⟩ (.int .i64 n)) ⟨{x.h with op:=n},x.b,x.e,x.s⟩ rest:=
 h.put 0 _ rfl ⟨hn,h.ok.2⟩ h.st
theorem Pm.idx (h:Pm R bs B W x rest) (l:bC) (ao:Option Addr) (cap:Nat) (hl:l.len<=maxLen) (hst:ig B W (λw2=>l.At w2 w2.heap.size ao 0)):
 Pm R bs B (W.setCell ⟨bs,4,none⟩ (.slice ao l.len cap)) ⟨{x.h with idx:=l},x.b,x.e,{x.s with eu:=ao,dI:=cap}⟩ rest:=
 h.put 4 _ rfl ⟨h.ok.1,h.ok.2.1,h.ok.2.2.1,h.ok.2.2.2.1,hl,h.ok.2.2.2.2.2⟩ (λw2 h2=>⟨hst w2 h2,(h.st w2 h2).2⟩)
theorem Pm.body (h:Pm R bs B W x rest) (l:aH) (ao:Option Addr) (cap:Nat) (hl:l.len<=maxLen) (hst:ig B W (λw2=>l.At w2 w2.heap.size ao 0)):
 Pm R bs B (W.setCell ⟨bs,9,none⟩ (.slice ao l.len cap)) ⟨x.h,l,x.e,{x.s with bR:=ao,aY:=cap}⟩ rest:=
 h.put 9 _ rfl ⟨h.ok.1,h.ok.2.1,h.ok.2.2.1,h.ok.2.2.2.1,h.ok.2.2.2.2.1,h.ok.2.2.2.2.2.1,hl,h.ok.2.2.2.2.2.2.2⟩ (λw2 h2=>⟨(h.st w2 h2).1,(h.st w2 h2).2.1,hst w2 h2,(h.st w2 h2).2.2.2⟩)
theorem Pm.els (h:Pm R bs B W x rest) (l:aH) (ao:Option Addr) (cap:Nat) (hl:l.len<=maxLen) (hst:ig B W (λw2=>l.At w2 w2.heap.size ao 0)):
 Pm R bs B (W.setCell ⟨bs,10,none⟩ (.slice ao l.len cap)) ⟨x.h,x.b,l,{x.s with fH:=ao,dX:=cap}⟩ rest:=
 h.put 10 _ rfl ⟨h.ok.1,h.ok.2.1,h.ok.2.2.1,h.ok.2.2.2.1,h.ok.2.2.2.2.1,h.ok.2.2.2.2.2.1,h.ok.2.2.2.2.2.2.1,hl⟩ (λw2 h2=>⟨(h.st w2 h2).1,(h.st w2 h2).2.1,(h.st w2 h2).2.2.1,hst w2 h2⟩)
def Td (w:World) (b:Nat) (v0 v1 v2 v3:Value):World:=(((w.setCell ⟨b,5,none⟩ v0).setCell ⟨b,6,none⟩ v1).setCell ⟨b,7,none⟩ v2).setCell ⟨b,8,none⟩ v3
theorem Pm.ex (h:Pm R bs B W x rest) (y:E) (ao:Option Addr) (cap:Nat) (hy:Gn y) (hst:ig B W (λw2=>y.kids.At w2 w2.heap.size ao 0)):
 Pm R bs B (Td W bs (.int .i64 y.op) (.int .i64 y.n) (.string y.nm) (.slice ao y.kids.len cap)) ⟨cB.ex x.h y,x.b,x.e,{x.s with dR:=ao,cO:=cap}⟩ rest:=by
 have ha:lF B W (Td W bs (.int .i64 y.op) (.int .i64 y.n) (.string y.nm) (.slice ao y.kids.len cap)):=by have x1:lF B W _:=jg W ⟨bs,5,none⟩ (.int .i64 y.op) h.lt.1;have x2:=x1.trans (jg _ ⟨bs,6,none⟩ (.int .i64 y.n) h.lt.1);have x3:=x2.trans (jg _ ⟨bs,7,none⟩ (.string y.nm) h.lt.1);exact x3.trans (jg _ ⟨bs,8,none⟩ (.slice ao y.kids.len cap) h.lt.1)
 refine⟨tu (tu (tu (tu h.rd _ _ h.b0 h.ne) _ _ h.b0 h.ne) _ _ h.b0 h.ne) _ _ h.b0 h.ne,h.lt,h.ne,h.b0,Nat.le_trans h.sz ha.1,?_,⟨h.ok.1,h.ok.2.1,h.ok.2.2.1,h.ok.2.2.2.1,h.ok.2.2.2.2.1,hy,h.ok.2.2.2.2.2.2⟩,?_⟩
 ·unfold Td;rw[eZ (eZ (eZ (eZ h.blk _) _) _) _];rfl
 ·exact λw2 h2=>⟨(h.st w2 (ha.trans h2)).1,hst w2 (ha.trans h2),(h.st w2 (ha.trans h2)).2.2⟩
theorem Pm.cell (h:Pm R bs B W x rest) {j:Nat} {u:Value} (hu:(lK.f x).toArray[j]? =some u):W.cell? ⟨bs,j,none⟩=some u:=au h.blk hu
theorem Pm.free (h:Pm R bs B W x rest) (j:Nat):W.frozen? ⟨bs,j,none⟩=false:=bG h.blk
end
def RN (R:Rp) (bs B:Nat) (w:World) (res:nE Sx) (e:Ending) (w':World):Prop:=
 match res with
 | .ok y r=>e= .returned (.bool true)∧(∃s,Pm R bs B w' ⟨y.h,y.b,y.e,s⟩ r)∧Fr R.br bs w w'
 | .no r=>e= .returned (.bool false)∧(∃x,Pm R bs B w' x r)∧Fr R.br bs w w'
def aN6 (R:Rp) (w:World) (res:nE aH) (e:Ending) (w':World):Prop:=
 match res with
 | .ok b r=>(∃ao cap,e= .returned (.tuple #[.slice ao b.len cap,.bool true])∧b.len<=4096∧ig w.heap.size w' (λw2=>b.At w2 w2.heap.size ao 0))∧dM w' R r∧w.grownBy w' (some R.br)
 | .no r=>e= .returned (.tuple #[.slice none 0 0,.bool false])∧dM w' R r∧w.grownBy w' (some R.br)
theorem P7 {R:Rp} {bs B:Nat} {w W:World} {y:Sx} {s:Sl} {r:aO} (h:Pm R bs B W ⟨y.h,y.b,y.e,s⟩ r) (hf:Fr R.br bs w W):RN R bs B w (.ok y r) (.returned (.bool true)) W:=⟨rfl,⟨s,h⟩,hf⟩
theorem aD6:Gn ⟨0,0,⟨#[]⟩,.nil⟩:=⟨BA,BA,Nat.zero_le _,Nat.zero_le _⟩
def BI:Array Value:= #[.int .i64 0,.int .i64 0,.string ⟨#[]⟩,.string ⟨#[]⟩,.slice none 0 0,.int .i64 0,.int .i64 0,.string ⟨#[]⟩,.slice none 0 0,.slice none 0 0,.slice none 0 0]
theorem AV {w w':World} {R:Rp} {rest:aO} {b:Nat} (h:dM w R rest) (hg:w.grownBy w' (some b)) (h0:R.B0<=b) (h1:b≠R.br):dM w' R rest:=by
 obtain⟨pos,k1,k2,k3⟩:=h.blk;exact⟨⟨pos,k1,k2,(hg.block _ h.lt (by simp;omega)).trans k3⟩,h.tok.below (bL hg h0 (Nat.le_trans R.b0 (Nat.le_of_lt h.lt))),h.ok,h.tl⟩
theorem uQ {br:Nat} {w w':World} (h:w.grownBy w' (some br)) (b o:Nat) (vs:List Value) (hb:w.heap.size<=b):w.grownBy (w'.setCells b o vs) (some br):=
 have k:=bU b vs o w'
 ⟨k.os.trans h.os,k.tape.trans h.tape,k.output.trans h.output,Nat.le_trans h.size k.size,λj hj hn=>(k.block j (Nat.lt_of_lt_of_le hj h.size) (by simp;omega)).trans (h.block j hj hn)⟩
def ao6 (R:Rp) (w:World) (y:Sx) (r:aO) (e:Ending) (w':World):Prop:= ∃s,e= .returned (.tuple #[jD y.h y.b y.e s,.bool true])∧(uY y.h y.b y.e∧ig w.heap.size w' (lK.I ⟨y.h,y.b,y.e,s⟩))∧dM w' R r∧w.grownBy w' (some R.br)
theorem VU {R:Rp} {bs B:Nat} {w W:World} {y:Sx} {s:Sl} {r:aO} (hP:Pm R bs B W ⟨y.h,y.b,y.e,s⟩ r) (hg:w.grownBy W (some R.br)) (hl:R.br<w.heap.size) (hB:w.heap.size<B):
 ao6 R w y r (.returned (.tuple #[jD y.h y.b y.e s,.bool true])) (W.setCells w.heap.size 0 (lK.f ⟨y.h,y.b,y.e,s⟩)):=
 ⟨s,rfl,⟨hP.ok,(hP.st.next ⟨(bU w.heap.size _ 0 W).size,λk h1 h2=>(bU w.heap.size _ 0 W).block k h2 (by simp;omega)⟩).mono (Nat.le_of_lt hB)⟩,AV hP.rd (bU _ _ _ _) (by have:=R.b0;omega) (by omega),uQ hg _ _ _ (Nat.le_refl _)⟩
theorem z11 {w:World} {b:Nat} {t:TypeId} (h:w.heap[b]? =some (.cells BI t (0,0))):
 (w.cell? ⟨b,0,none⟩=some (.int .i64 0)∧w.cell? ⟨b,1,none⟩=some (.int .i64 0)∧w.cell? ⟨b,2,none⟩=some (.string ⟨#[]⟩)∧w.cell? ⟨b,3,none⟩=some (.string ⟨#[]⟩)∧w.cell? ⟨b,4,none⟩=some (.slice none 0 0)∧w.cell? ⟨b,5,none⟩=some (.int .i64 0)∧w.cell? ⟨b,6,none⟩=some (.int .i64 0)∧w.cell? ⟨b,7,none⟩=some (.string ⟨#[]⟩)∧w.cell? ⟨b,8,none⟩=some (.slice none 0 0)∧w.cell? ⟨b,9,none⟩=some (.slice none 0 0)∧w.cell? ⟨b,10,none⟩=some (.slice none 0 0))∧∀j,w.frozen? ⟨b,j,none⟩=false:=
 ⟨⟨au h rfl,au h rfl,au h rfl,au h rfl,au h rfl,au h rfl,au h rfl,au h rfl,au h rfl,au h rfl,au h rfl⟩,λ_=>bG h⟩
theorem OI {R:Rp} {bs B:Nat} {W:World} {x:lK} {r:aO} (h:Pm R bs B W x r):
 W.cell? ⟨bs,0,none⟩=some (.int .i64 x.h.op)∧W.cell? ⟨bs,1,none⟩=some (.int .i64 x.h.line)∧W.cell? ⟨bs,2,none⟩=some (.string x.h.nm)∧W.cell? ⟨bs,3,none⟩=some (.string x.h.arg)∧W.cell? ⟨bs,4,none⟩=some (.slice x.s.eu x.h.idx.len x.s.dI)∧W.cell? ⟨bs,5,none⟩=some (.int .i64 x.h.cu)∧W.cell? ⟨bs,6,none⟩=some (.int .i64 x.h.xn)∧W.cell? ⟨bs,7,none⟩=some (.string x.h.bZ)∧W.cell? ⟨bs,8,none⟩=some (.slice x.s.dR x.h.aK.len x.s.cO)∧W.cell? ⟨bs,9,none⟩=some (.slice x.s.bR x.b.len x.s.aY)∧W.cell? ⟨bs,10,none⟩=some (.slice x.s.fH x.e.len x.s.dX):=
 ⟨h.cell rfl,h.cell rfl,h.cell rfl,h.cell rfl,h.cell rfl,h.cell rfl,h.cell rfl,h.cell rfl,h.cell rfl,h.cell rfl,h.cell rfl⟩
theorem OZ {R:Rp} {w w1:World} {ts:aO} {kv:Value} {sv:Value} (hI:dM w R ts) (hB:Below w.heap.size w w1) (hz:w1.heap[w.heap.size]? =some (.cells BI 90 (0,0))) (hL:fD ((dV ts:Nat):Int)) (gt:Nat) (hg:w1.heap.size=gt):
 ∀W,((w1.alloc (.cells #[kv,sv,.int .i64 ((dV ts:Nat):Int)] 145)).alloc (.cells #[.int .i64 0,.int .i64 ((dV ts:Nat):Int),.string ⟨#[]⟩,.string ⟨#[]⟩,.slice none 0 0,.int .i64 0,.int .i64 0,.string ⟨#[]⟩,.slice none 0 0,.slice none 0 0,.slice none 0 0] 90))=W->
 Pm R (gt+1) (gt+2) W ⟨hd 0 ((dV ts:Nat):Int),.nil,.nil,zS⟩ ts∧Below w.heap.size w W∧W.heap[w.heap.size]? =some (.cells BI 90 (0,0))∧W.cell? ⟨gt,0,none⟩=some kv∧W.cell? ⟨gt,1,none⟩=some sv∧w.heap.size<gt:=by
 intro W hW;have h0:=(Array.getElem?_eq_some_iff.1 hz).1;have hb1:Below w.heap.size w (w1.alloc (.cells #[kv,sv,.int .i64 ((dV ts:Nat):Int)] 145)):=hB.alloc hB.size _;have ht:(w1.alloc (.cells #[kv,sv,.int .i64 ((dV ts:Nat):Int)] 145)).heap[gt]? =some (.cells #[kv,sv,.int .i64 ((dV ts:Nat):Int)] 145 (0,0)):=by rw[<- hg];exact heap_alloc_new _ _
 have hz1:(w1.alloc (.cells #[kv,sv,.int .i64 ((dV ts:Nat):Int)] 145)).heap[w.heap.size]? =some (.cells BI 90 (0,0)):=(heap_alloc_old _ _ h0).trans hz;have hs1:(w1.alloc (.cells #[kv,sv,.int .i64 ((dV ts:Nat):Int)] 145)).heap.size=gt+1:=by simp[hg]
 generalize w1.alloc (.cells #[kv,sv,.int .i64 ((dV ts:Nat):Int)] 145)=W1 at *;have hb2:Below w.heap.size w W:=by rw[<- hW];exact hb1.alloc hb1.size _
 have ht2:W.heap[gt]? =some (.cells #[kv,sv,.int .i64 ((dV ts:Nat):Int)] 145 (0,0)):=by rw[<- hW];exact(heap_alloc_old _ _ (Array.getElem?_eq_some_iff.1 ht).1).trans ht
 refine⟨⟨hI.below hb2,⟨by omega,by have:=hI.lt;omega⟩,by have:=hI.lt;omega,by have:=hI.lt;have:=R.b0;omega,by rw[<- hW];simp;omega,by rw[<- hW,<- hs1];exact heap_alloc_new _ _,⟨BA,hL,Nat.zero_le _,Nat.zero_le _,Nat.zero_le _,aD6,Nat.zero_le _,Nat.zero_le _⟩,λ_ _=>⟨trivial,trivial,trivial,trivial⟩⟩,hb2,?_,au ht2 rfl,au ht2 rfl,by omega⟩;rw[<- hW];exact(heap_alloc_old _ _ (Array.getElem?_eq_some_iff.1 hz1).1).trans hz1
theorem Dv {w:World} {R:Rp} {ts:aO} (hI:dM w R ts):fD ((dV ts:Nat):Int):=by
 cases ts with
 |nil=>exact BA
 |cons t r=>have:=(hI.tsl t (by simp)).1;show fD (t.line:Int);unfold fD;omega
theorem G8 {br bs k:Nat} {w w':World} {o:Obj} (h:Fr br bs w w') (hk:w.heap[k]? =some o) (h1:k≠br) (h2:k≠bs):w'.heap[k]? =some o:=(h.block k (Array.getElem?_eq_some_iff.1 hk).1 h1 h2).trans hk
theorem ac9:(Tryz.prog.info? 90).map (λi=>(i.zero,i.size,i.bytes))=some (some (.agg BI),11,176):=by kernel_rfl
theorem aw6: ∃i0,Tryz.prog.info? 90=some i0∧i0.zero=some (.agg BI)∧i0.size=11∧i0.bytes=176:=info_parts ac9
theorem YN (x:lK): ∀u∈lK.f x,u.oneCell'=true:=by
 intro u hu;simp[lK.f]at hu;rcases hu with rfl|rfl|rfl|rfl|rfl|rfl|rfl|rfl|rfl|rfl|rfl <;> rfl
theorem uM {B:Nat} {w w':World} {g:Option Nat} (h:w.grownBy w' g) (hg: ∀k,g=some k->B<=k) (hB:B<=w.heap.size):Below B w w':=
 ⟨h.os,h.tape,h.output,h.size,λk hk=>h.block k (by omega) (λe=>by have:=hg k e.symm;omega)⟩
theorem JJ {w w':World} {R:Rp} {rest:aO} {g:Option Nat} (h:dM w R rest) (hg:w.grownBy w' g) (h0: ∀k,g=some k->R.B0<=k∧k≠R.br):dM w' R rest:=by
 obtain⟨pos,k1,k2,k3⟩:=h.blk;exact⟨⟨pos,k1,k2,(hg.block _ h.lt (λe=>(h0 _ e.symm).2 rfl)).trans k3⟩,h.tok.below (uM hg (λk hk=>(h0 k hk).1) (Nat.le_trans R.b0 (Nat.le_of_lt h.lt))),h.ok,h.tl⟩
theorem Jo {br:Nat} {w w1 w2:World} (h:w.grownBy w1 (some br)) (hb:Below w.heap.size w1 w2):w.grownBy w2 (some br):=
 ⟨hb.os.trans h.os,hb.tape.trans h.tape,hb.output.trans h.output,Nat.le_trans h.size hb.size,λk hk hn=>(hb.block k hk).trans (h.block k hk hn)⟩
def Cq (R:Rp) (ts:aO) (y:Sx) (r:aO):Prop:= ∀w,dM w R ts->Calls Tryz.prog 153 #[.pointer (some ⟨R.br,0,none⟩)] w (ao6 R w y r)
def tJ (R:Rp) (ts:aO) (b:aH) (r:aO):Prop:= ∀w,dM w R ts->Calls Tryz.prog 144 #[.pointer (some ⟨R.br,0,none⟩)] w (aN6 R w (.ok b r))
theorem ap6 (R:Rp) (bs B:Nat) (r q:aO) (x:E) (h:cB) (s:Sl) (w:World) (hp:Pm R bs B w ⟨h,.nil,.nil,s⟩ r) (hn:isName r=true) (h1:at' [91] r.tail=false) (h5:at' [61] r.tail=true) (hx:Ez r.tail.tail x q) (h4:at' [59] q=true):
 Calls Tryz.prog 163 #[.pointer (some ⟨R.br,0,none⟩),.pointer (some ⟨bs,0,none⟩)] w (RN R bs B w (.ok ⟨cB.ex {h with nm:=tx (aQ r)} x,.nil,.nil⟩ q.tail)):=by
 have HP:=ah hp;have vJ:aj ((tx (aQ r)).size<=maxLen):=ah (vZ (wC hp.rd.ts hn));have HC:=ah (ac5 R hx);clear hp hx;go_enter Tryz.func163,Tryz.ntmps163;go_wp2_with fail;refine(sV R _ _ hn HP.o.rd).mono ?_;rintro e w1 ⟨rfl,h2,h3⟩;have iW:=ah (HP.o.then h2 h3);have HF:=ah (Fr.rY (br:=R.br) (bs:=bs) h3);clear h2 h3 HP;have c2:=iW.o.cell (j:=2) rfl;have f2:=iW.o.free 2;go_upto_region 3 with fail;generalize hW:World.setCell w1 _ _=W;have fU:aj (Pm R bs B W ⟨{h with nm:=tx (aQ r)},.nil,.nil,s⟩ r.tail):=ah (by rw[<- hW];exact iW.o.nm _ vJ.o);have xI:aj (Fr R.br bs w W):=ah (by rw[<- hW];exact HF.o.set _ _ (.inl rfl));clear hW c2 f2 iW HF;go_wp2_with fail;refine(ow R _ _ ⟨#[91]⟩ rfl h1 fU.o.rd).mono ?_;rintro e w0 ⟨rfl,h2⟩;have KO:=ah (fU.o.below h2);have HF6:=ah (xI.o.trans (Fr.rY (iR h2)));clear h2 fU xI;go_wp2_with fail;refine(jN R _ _ ⟨#[61]⟩ rfl h5 KO.o.rd).mono ?_;rintro e w7 ⟨rfl,h2,h3⟩;have Bg:=ah (KO.o.then h2 h3);have HF7:=ah (HF6.o.trans (Fr.rY h3));clear h2 h3 KO HF6;go_wp2_with fail;refine(HC.o _ Bg.o.rd).mono ?_;rintro e w3 ⟨v,rfl,hv,h2,h3⟩;have ng:=ah (Bg.o.then h2 h3);have zi:=ah (HF7.o.trans (Fr.rY h3));have HV:=ah (hv.mono Bg.o.sz);clear h2 h3 hv Bg HF7;obtain⟨ao,cap,rfl,hok,hst⟩:=HV.o;have HE:=ah (And.intro hok hst);clear hok hst HV;have c5:=ng.o.cell (j:=5) rfl;have c6:=ng.o.cell (j:=6) rfl;have c7:=ng.o.cell (j:=7) rfl;have c8:=ng.o.cell (j:=8) rfl;have f5:=ng.o.free 5;have f6:=ng.o.free 6;have f7:=ng.o.free 7;have f8:=ng.o.free 8;unfold exV;go_upto_region 13 with fail;generalize hW:World.setCell (World.setCell (World.setCell (World.setCell w3 _ _) _ _) _ _) _ _=W5;have MS:aj (Pm R bs B W5 ⟨cB.ex {h with nm:=tx (aQ r)} x,.nil,.nil,{s with dR:=ao,cO:=cap}⟩ q):=ah (by rw[<- hW];exact ng.o.ex x ao cap HE.o.1 HE.o.2);have HF5:aj (Fr R.br bs w W5):=ah (by rw[<- hW];exact(((zi.o.set _ _ (.inl rfl)).set _ _ (.inl rfl)).set _ _ (.inl rfl)).set _ _ (.inl rfl));clear hW c5 c6 c7 c8 f5 f6 f7 f8 ng zi HE;go_wp2_with fail;refine(jN R _ _ ⟨#[59]⟩ rfl h4 MS.o.rd).mono ?_;rintro e w3 ⟨rfl,h2,h3⟩;have ng:=ah (MS.o.then h2 h3);have zi:=ah (HF5.o.trans (Fr.rY h3));clear h2 h3;go_wp2_with fail;go_ret;exact P7 (y:=⟨cB.ex {h with nm:=tx (aQ r)} x,.nil,.nil⟩) ng.o zi.o
theorem Yw (R:Rp) (bs B:Nat) (r q:aO) (b:aH) (fP:aj (tJ R r b q)) (h:cB) (s:Sl) (w:World) (hp:Pm R bs B w ⟨h,.nil,.nil,s⟩ r):
 Calls Tryz.prog 174 #[.pointer (some ⟨R.br,0,none⟩),.pointer (some ⟨bs,0,none⟩)] w (RN R bs B w (.ok ⟨h,b,.nil⟩ q)):=by
 have HP:=ah hp;have HC:=ah (fP.o w hp.rd);clear hp fP;go_enter Tryz.func174,Tryz.ntmps174;go_wp2_with fail;refine HC.o.mono ?_;rintro e w1 ⟨⟨ao,cap,rfl,hl,hst⟩,h2,h3⟩;have iW:=ah (HP.o.then h2 h3);have HF:=ah (Fr.rY (bs:=bs) h3);have HL:aj (b.len<=maxLen):=ah (Nat.le_trans hl (by unfold maxLen;decide));have HS:=ah (hst.mono HP.o.sz);clear h2 h3 HP hl hst;have c9:=iW.o.cell (j:=9) rfl;have f9:=iW.o.free 9;go_wp2_with fail;go_ret;exact P7 (y:=⟨h,b,.nil⟩) (iW.o.body b ao cap HL.o HS.o) (HF.o.set _ _ (.inl rfl))
theorem M7 (R:Rp) (bs B:Nat) (r q:aO) (b:aH) (hn:isName r=true) (fP:aj (tJ R r.tail b q)) (h:cB) (s:Sl) (w:World) (hp:Pm R bs B w ⟨h,.nil,.nil,s⟩ r):
 Calls Tryz.prog 173 #[.pointer (some ⟨R.br,0,none⟩),.pointer (some ⟨bs,0,none⟩)] w (RN R bs B w (.ok ⟨{h with nm:=tx (aQ r)},b,.nil⟩ q)):=by
 have HP:=ah hp;have vJ:aj ((tx (aQ r)).size<=maxLen):=ah (vZ (wC HP.o.rd.ts hn));have HC:=ah (Yw R bs B r.tail q b fP {h with nm:=tx (aQ r)} s);clear hp fP;go_enter Tryz.func173,Tryz.ntmps173;go_wp2_with fail;refine(sV R _ _ hn HP.o.rd).mono ?_;rintro e w1 ⟨rfl,h2,h3⟩;have iW:=ah (HP.o.then h2 h3);have HF:=ah (Fr.rY (br:=R.br) (bs:=bs) h3);clear h2 h3 HP;have c2:=iW.o.cell (j:=2) rfl;have f2:=iW.o.free 2;go_upto_region 3 with fail;generalize hW:World.setCell w1 _ _=W;have fU:aj (Pm R bs B W ⟨{h with nm:=tx (aQ r)},.nil,.nil,s⟩ r.tail):=ah (by rw[<- hW];exact iW.o.nm _ vJ.o);have xI:aj (Fr R.br bs w W):=ah (by rw[<- hW];exact HF.o.set _ _ (.inl rfl));clear hW c2 f2 iW HF;go_wp2_with fail;refine(HC.o _ fU.o).mono ?_;rintro e w3 ⟨rfl,⟨x,h2⟩,h3⟩;have ng:=ah h2;have zi:=ah (xI.o.trans h3);clear h2 h3;go_wp2_with fail;go_ret;exact P7 (y:=⟨{h with nm:=tx (aQ r)},b,.nil⟩) ng.o zi.o
theorem af0 (R:Rp) (ts q:aO) (x:E) (h1:nextK ts=1) (h2:at' [91] ts.tail=false) (h5:at' [61] ts.tail=true) (hx:Ez ts.tail.tail x q) (h4:at' [59] q=true):
 Cq R ts ⟨cB.ex {hd 1 ((dV ts:Nat):Int)with nm:=tx (aQ ts)} x,.nil,.nil⟩ q.tail:=by
 intro w hI;have hn:isName ts=true:=by unfold isName;rw[h1];rfl
 have hk:=h1;clear h1;have Q7:=ah (λgt W hP=>ap6 R (gt+1) (gt+2) ts q x (hd 1 ((dV ts:Nat):Int)) zS W hP hn h2 h5 hx h4);obtain⟨Y,HY⟩: ∃Y:Sx,aj ((⟨cB.ex {hd 1 ((dV ts:Nat):Int)with nm:=tx (aQ ts)} x,.nil,.nil⟩:Sx)=Y):=⟨_,ah rfl⟩;rw[HY.o]at Q7⊢;clear h2 h5 hx h4 HY hn;have HI:=ah hI;have HL:=ah (Dv hI);have hlt:=hI.lt;go_enter Tryz.func153,Tryz.ntmps153;go_upto_region 1 with fail;generalize hW:World.alloc w _=W0;have HB0:aj (Below w.heap.size w W0):=ah (by rw[<- hW];exact ak _ _);have HZ0:aj (W0.heap[w.heap.size]? =some (.cells BI 90 (0,0))):=ah (by rw[<- hW];exact heap_alloc_new _ _);have HN:=ah (qb R ts W0 (HI.o.below HB0.o));unfold vE at HN;rw[hk]at HN;clear hW hI hk;go_wp2_with fail;refine HN.o.mono ?_;rintro e w1 ⟨rfl,h2⟩;have HB1:=ah (HB0.o.trans (h2.mono HB0.o.size));have HZ1:=ah ((h2.block _ (Array.getElem?_eq_some_iff.1 HZ0.o).1).trans HZ0.o);clear h2 HN HB0 HZ0;go_upto_region 3 with fail;obtain⟨gt,hg⟩: ∃g,w1.heap.size=g:=⟨_,rfl⟩;rw[hg];generalize hW:World.alloc (World.alloc w1 _) _=W2;have fU:=ah (OZ HI.o HB1.o HZ1.o HL.o gt hg W2 hW);have e0:=fU.o.2.2.2.1;have e1:=fU.o.2.2.2.2.1;have oH:aj (R.br<w.heap.size∧w.heap.size<gt):=ah ⟨hlt,fU.o.2.2.2.2.2⟩;clear hW hg HB1 HZ1;have f0:=fU.o.1.free 0;have c0:=fU.o.1.cell (j:=0) rfl;go_upto_region 6 with fail;generalize hW:World.setCell W2 _ _=W3;have ng:aj (Pm R (gt+1) (gt+2) W3 ⟨hd 1 ((dV ts:Nat):Int),.nil,.nil,zS⟩ ts):=ah (by rw[<- hW];exact fU.o.1.op 1 (by unfold fD;decide));have zi:aj (Fr R.br (gt+1) W2 W3):=ah (by rw[<- hW];exact(Fr.refl _ _ _).set _ _ (.inl rfl));clear hW f0 c0 e0 e1;have HC:=ah (Q7.o gt W3 ng.o);clear Q7;go_wp2_with fail;refine HC.o.mono ?_;rintro e w4 ⟨rfl,⟨s,h2⟩,h3⟩;have pE:=ah h2;have Mx:=ah (zi.o.trans h3);clear h2 h3;have Ey:=ah (G8 Mx.o fU.o.2.2.1 (by have:=oH.o;omega) (by have:=oH.o;omega));obtain⟨⟨y0,y1,y2,y3,y4,y5,y6,y7,y8,y9,uq⟩,fz⟩:=z11 Ey.o;have z0:=fz 0;have z1:=fz 1;have z2:=fz 2;have z3:=fz 3;have z4:=fz 4;have z5:=fz 5;have z6:=fz 6;have z7:=fz 7;have z8:=fz 8;have z9:=fz 9;have bJ:=fz 10;obtain⟨d0,d1,d2,d3,d4,d5,d6,d7,d8,d9,qH⟩:=OI pE.o;clear fz;go_wp2_with fail;exact bodyPost_ret (v:= .tuple #[jD Y.h Y.b Y.e s,.bool true]) (by simp[results,Tryz.results153,go_sem,jD,y0,y1,y2,y3,y4,y5,y6,y7,y8,y9,uq]) rfl (VU pE.o (Mx.o.gr fU.o.2.1 (by have:=oH.o;omega)) oH.o.1 (by have:=oH.o;omega))
theorem ac1 (w:World):(binOp .eql 209 (.func (.func 173) #[] #[]) .nilFunc).run Tryz.prog w= .ok (.bool false) w:=by kernel_rfl
theorem YK (R:Rp) (ts q:aO) (b:aH) (h1:nextK ts=3) (h2:OY (aQ ts)=4) (hn:isName ts.tail=true) (fP:aj (tJ R ts.tail.tail b q)):
 Cq R ts ⟨{hd 4 ((dV ts:Nat):Int)with nm:=tx (aQ ts.tail)},b,.nil⟩ q:=by
 intro w hI;obtain⟨t0,r0,hr⟩: ∃t r,ts=t::r:=by
  cases ts with
  |nil=>exact absurd h1 (by simp[nextK])
  |cons t r=>exact⟨t,r,rfl⟩
 have KS:=ah hr;have Qk:aj (∀w,Calls Tryz.prog 164 #[.string (tx (aQ ts))] w λe w'=>e= .returned (.tuple #[.int .i64 4,.func (.func 173) #[] #[]])∧w=w'):=ah (λw=>by have:=Yy (tx (aQ ts)) (l:=aQ ts) rfl w;rw[h2]at this;exact this);have hk:=h1;have Q7:=ah (λgt W hP=>M7 R (gt+1) (gt+2) ts.tail q b hn fP (hd 4 ((dV ts:Nat):Int)) zS W hP);obtain⟨Y,HY⟩: ∃Y:Sx,aj ((⟨{hd 4 ((dV ts:Nat):Int)with nm:=tx (aQ ts.tail)},b,.nil⟩:Sx)=Y):=⟨_,ah rfl⟩;rw[HY.o]at Q7⊢;clear h1 h2 hr HY hn fP;have hnf:=ac1;have HI:=ah hI;have HL:=ah (Dv hI);have hlt:=hI.lt;go_enter Tryz.func153,Tryz.ntmps153;go_upto_region 1 with fail;generalize hW:World.alloc w _=W0;have HB0:aj (Below w.heap.size w W0):=ah (by rw[<- hW];exact ak _ _);have HZ0:aj (W0.heap[w.heap.size]? =some (.cells BI 90 (0,0))):=ah (by rw[<- hW];exact heap_alloc_new _ _);have HN:=ah (qb R ts W0 (HI.o.below HB0.o));unfold vE at HN;rw[hk]at HN;clear hW hI hk;go_wp2_with fail;refine HN.o.mono ?_;rintro e w1 ⟨rfl,h2⟩;have HB1:=ah (HB0.o.trans (h2.mono HB0.o.size));have HZ1:=ah ((h2.block _ (Array.getElem?_eq_some_iff.1 HZ0.o).1).trans HZ0.o);clear h2 HN HB0 HZ0;go_upto_region 3 with fail;obtain⟨gt,hg⟩: ∃g,w1.heap.size=g:=⟨_,rfl⟩;rw[hg];generalize hW:World.alloc (World.alloc w1 _) _=W2;have fU:=ah (OZ HI.o HB1.o HZ1.o HL.o gt hg W2 hW);have e0:=fU.o.2.2.2.1;have e1:=fU.o.2.2.2.2.1;have oH:aj (R.br<w.heap.size∧w.heap.size<gt):=ah ⟨hlt,fU.o.2.2.2.2.2⟩;clear hW hg HB1 HZ1;go_wp2_with fail;refine(Qk.o _).mono ?_;rintro e w3 ⟨rfl,rfl⟩;have f0:=fU.o.1.free 0;have c0:=fU.o.1.cell (j:=0) rfl;go_upto_region 13 with fail;generalize hW:World.setCell W2 _ _=W3;have ng:aj (Pm R (gt+1) (gt+2) W3 ⟨hd 4 ((dV ts:Nat):Int),.nil,.nil,zS⟩ ts):=ah (by rw[<- hW];exact fU.o.1.op 4 (by unfold fD;decide));have xI:aj (Fr R.br (gt+1) W2 W3):=ah (by rw[<- hW];exact(Fr.refl _ _ _).set _ _ (.inl rfl));obtain⟨pos,hp,q0,q1,fq,HX⟩:=ng.o.rd.open;clear hW f0 c0 e0 e1 hnf Qk;go_upto_region 14 with fail;generalize hW:World.setCell W3 _ _=W4;have HQ:aj (dM W4 R ts.tail∧W3.grownBy W4 (some R.br)):=ah (by rw[<- hW,KS.o];exact HX.o t0 r0 KS.o);have pE:=ah (ng.o.then HQ.o.1 HQ.o.2);have zi:=ah (xI.o.trans (Fr.rY HQ.o.2));clear hW q0 q1 fq HX ng HQ xI;go_wp2_with fail;refine(Q7.o gt _ pE.o).mono ?_;rintro e w4 ⟨rfl,⟨s,h2⟩,h3⟩;have pE:=ah h2;have Mx:=ah (zi.o.trans h3);clear h2 h3;have Ey:=ah (G8 Mx.o fU.o.2.2.1 (by have:=oH.o;omega) (by have:=oH.o;omega));obtain⟨⟨y0,y1,y2,y3,y4,y5,y6,y7,y8,y9,uq⟩,fz⟩:=z11 Ey.o;have z0:=fz 0;have z1:=fz 1;have z2:=fz 2;have z3:=fz 3;have z4:=fz 4;have z5:=fz 5;have z6:=fz 6;have z7:=fz 7;have z8:=fz 8;have z9:=fz 9;have bJ:=fz 10;obtain⟨d0,d1,d2,d3,d4,d5,d6,d7,d8,d9,qH⟩:=OI pE.o;clear fz;go_wp2_with fail;exact bodyPost_ret (v:= .tuple #[jD Y.h Y.b Y.e s,.bool true]) (by simp[results,Tryz.results153,go_sem,jD,y0,y1,y2,y3,y4,y5,y6,y7,y8,y9,uq]) rfl (VU pE.o (Mx.o.gr fU.o.2.1 (by have:=oH.o;omega)) oH.o.1 (by have:=oH.o;omega))
inductive Lz (S:aO->Sx->aO->Prop):aO->List Sx->aO->Prop
 |nil {ts:aO} :at' [125] ts=true->Lz S ts [] ts.tail
 |cons {ts q r:aO} {y:Sx} {m:List Sx} :at' [125] ts=false->S ts y q->Lz S q m r->Lz S ts (y::m) r
def zD:List Sx->aH
 | []=> .nil
 |y::m=> .cons y.h y.b y.e (zD m)
theorem VY: ∀l:List lK,zR l=zD (l.map (λx=>⟨x.h,x.b,x.e⟩))
 | []=>rfl
 |x::r=>by show aH.cons x.h x.b x.e (zR r)=aH.cons x.h x.b x.e (zD _);rw[VY r]
theorem Hy (R:Rp) (S:aO->Sx->aO->Prop) (N9:aj (∀q y r,S q y r->Cq R q y r)) (ts r:aO) (M:List Sx) (h1:at' [123] ts=true) (hM:Lz S ts.tail M r) (hl:M.length<=4096):tJ R ts (zD M) r:=by
 intro w hI;have HI:=ah hI;have WX:=ah HI.o.lt;have HM:=ah (And.intro hM hl);clear hI hM hl;obtain⟨i0,hi,hz0,hz1,hz2⟩:=aw6;have dY:=ah (And.intro hi (And.intro hz0 (And.intro hz1 hz2)));clear hi hz0 hz1 hz2;go_enter Tryz.func144,Tryz.ntmps144;go_wp2_with fail;refine(jN R _ _ ⟨#[123]⟩ rfl h1 HI.o).mono ?_;rintro e w1 ⟨rfl,h2,h3⟩;have HK:=ah (And.intro h2 h3);clear h2 h3 HI h1;go_wp2_with fail;go_loopg [4] M.length (λgk v4 wr=> ∃(l:List lK) (m:List Sx) (rest:aO),gk=m.length∧Lz S rest m r∧l.map (λx=>(⟨x.h,x.b,x.e⟩:Sx))++m=M∧Iz w.heap.size wr v4 l∧(∀x∈l,uY x.h x.b x.e)∧dM wr R rest∧w.grownBy wr (some R.br))
 case atStart=>exact⟨[],M,_,rfl,HM.o.1,rfl,Grow.nil _ _ _ _ _ _,by simp,HK.o.1,HK.o.2⟩
 case round=>
  obtain⟨l,m,rest,rfl,hz,hlm,hg,hok,hr,hgr⟩:=hrel;have IK:=ah hlm;have HL:aj (l.length+m.length<=4096):=ah (by have:=congrArg List.length hlm;simp only[List.length_append,List.length_map]at this;have:=HM.o.2;omega);have HG:=ah hg;have mZ:=ah hok;have HR:=ah hr;have mK:=ah hgr;clear hlm hg hok hr hgr HK;cases hz with
  | @nil rest h4=>
    go_wp2_with fail;refine(jN R _ _ ⟨#[125]⟩ rfl h4 HR.o).mono ?_;rintro e w2 ⟨rfl,h2,h3⟩;have HG2:=ah (HG.o.next (yJ h3 WX.o));have HR2:=ah h2;have MF:=ah (gY mK.o h3);clear h2 h3;go_wp2_with fail
    go_ret2
    have hgs:Iz w.heap.size w2 u4 l:=HG2.o;obtain⟨ao,cap,e,hst⟩:=hgs.says mZ.o;have hq:zR l=zD M:=by rw[VY,<- IK.o,List.append_nil]
    rw[<- hq];exact⟨⟨ao,cap,by rw[e];rfl,by rw[FI];have:=HL.o;omega,hst⟩,HR2.o,MF.o⟩
  | @cons _ q _ y m h4 hs hzz=>
    have HC:=ah (N9.o _ _ _ hs);have Qn:=ah hzz;clear hs hzz;go_wp2_with fail;refine(ow R _ _ ⟨#[125]⟩ rfl h4 HR.o).mono ?_;rintro e w2 ⟨rfl,h2⟩;have HG2:=ah (HG.o.next (dN h2));have HR2:=ah (HR.o.below h2);have MF:=ah (gY mK.o (iR h2));clear h2 HG HR mK;go_wp2_with fail;refine(HC.o _ HR2.o).mono ?_;rintro e w3 ⟨s,rfl,⟨hok,hst⟩,h2,h3⟩;clear HC;have HYX:aj (y=⟨y.h,y.b,y.e⟩):=ah rfl;obtain⟨x,uh⟩: ∃x:lK,aj (x=⟨y.h,y.b,y.e,s⟩):=⟨_,ah rfl⟩;have hok:uY x.h x.b x.e:=by rw[uh.o];exact hok
    have hst:ig w2.heap.size w3 (lK.I x):=by rw[uh.o];exact hst
    rw[show jD y.h y.b y.e s=jD x.h x.b x.e x.s by rw[uh.o]];have Cb:=ah (HG2.o.next (yJ h3 WX.o));have HR3:=ah h2;have MG:=ah (gY MF.o h3);have zl:=ah hst;have HOX:=ah hok;have uf:aj (w2.heap.size<=w3.heap.size∧w.heap.size<=w2.heap.size):=ah ⟨h3.size,MF.o.size⟩;have nN:=ah HG2.o.lt;clear h2 h3 hst hok HG2 HR2 MF;unfold jD;go_upto_region 6 with fail;obtain⟨gs,hg⟩: ∃g,w3.heap.size=g:=⟨_,rfl⟩;generalize hW:World.alloc w3 _=W4;have KI:aj (Iz w.heap.size W4 u4 l):=ah (by rw[<- hW];exact Cb.o.next (dN (ak _ _)));have HR4:aj (dM W4 R q):=ah (by rw[<- hW];exact yx HR3.o _);have ai3:aj (w.grownBy W4 (some R.br)):=ah (by rw[<- hW];exact yu MG.o _);have lJ:aj (ig w2.heap.size W4 (lK.I x)):=ah (by rw[<- hW];exact zl.o.next (dN (ak _ _)));have dH:aj (W4.heap[gs]? =some (.cells (lK.f x).toArray 90 (0,0))):=ah (by rw[<- hW,<- hg];exact heap_alloc_new _ _);rw[hg];clear hW hg Cb HR3 MG zl;obtain⟨d0,d1,d2,d3,d4,d5,d6,d7,d8,d9,qH⟩:(W4.cell? ⟨gs,0,none⟩=some (.int .i64 x.h.op)∧W4.cell? ⟨gs,1,none⟩=some (.int .i64 x.h.line)∧W4.cell? ⟨gs,2,none⟩=some (.string x.h.nm)∧W4.cell? ⟨gs,3,none⟩=some (.string x.h.arg)∧W4.cell? ⟨gs,4,none⟩=some (.slice x.s.eu x.h.idx.len x.s.dI)∧W4.cell? ⟨gs,5,none⟩=some (.int .i64 x.h.cu)∧W4.cell? ⟨gs,6,none⟩=some (.int .i64 x.h.xn)∧W4.cell? ⟨gs,7,none⟩=some (.string x.h.bZ)∧W4.cell? ⟨gs,8,none⟩=some (.slice x.s.dR x.h.aK.len x.s.cO)∧W4.cell? ⟨gs,9,none⟩=some (.slice x.s.bR x.b.len x.s.aY)∧W4.cell? ⟨gs,10,none⟩=some (.slice x.s.fH x.e.len x.s.dX)):=⟨au dH.o rfl,au dH.o rfl,au dH.o rfl,au dH.o rfl,au dH.o rfl,au dH.o rfl,au dH.o rfl,au dH.o rfl,au dH.o rfl,au dH.o rfl,au dH.o rfl⟩;have oo:=ah (KI.o.next (dN (ak W4 (.cells (lK.f x).toArray 90))));have iG:=ah (gq (heap_alloc_new W4 (.cells (lK.f x).toArray 90)));have TM:aj (w.heap.size<=W4.heap.size):=ah ai3.o.size;obtain⟨hi,hz0,hz1,hz2⟩:=dY.o;have hbs:w.heap.size<=W4.heap.size+1:=Nat.le_succ_of_le TM.o;have hkl:l.length+1<=maxLen:=by have:=HL.o;simp only[List.length_cons]at this;unfold maxLen;omega
    have ZI:(l.length+1)*176<=140737488355328:=by have:=HL.o;simp only[List.length_cons]at this;omega
    go_wp2_with (at_builtin;refine wpList_append_lies _ rfl _ _ 50 rfl w.heap.size 90 i0 _ 11 176 Tryz.underlying50 hi hz0 hz1 hz2 rfl (by decide) _ _ _ rfl oo.o.own ⟨W4.heap.size,0,none⟩ 1 1 (lK.f x) rfl rfl iG.o (YN _) (by decide) hkl ZI (by simpa using hbs) _ rfl ?_);clear hi hz0 hz1 hz2 d0 d1 d2 d3 d4 d5 d6 d7 d8 d9 qH;intro g cap w5 hown hgr hmv hlt2;have wM:aj (nG w.heap.size u4.ownBlock (W4.alloc (.cells (lK.f x).toArray 90)) (lK.I x)):=ah (P5 (lJ.o.next (dN (ak _ _))) uf.o.2 (λk hk=>(nN.o k hk).2));have KJ:=ah (oo.o.push wM.o rfl hown hgr (by simpa using hmv));have jS:aj (Below w.heap.size (W4.alloc (.cells (lK.f x).toArray 90)) w5):=ah (uM hgr (λk hk=>(nN.o k hk).1) (by simpa using hbs));have MW:aj (dM w5 R q):=ah (JJ (yx HR4.o _) hgr (λk hk=>by have h1:=(nN.o k hk).1;have h2:=WX.o;have h3:=R.b0;omega));have Ry:aj (w.grownBy w5 (some R.br)):=ah (Jo (yu ai3.o _) jS.o);have aP3:aj (∀y∈l++[x],uY y.h y.b y.e):=ah (λy hy=>by
     rcases List.mem_append.1 hy with hy|hy
     ·exact mZ.o y hy
     ·rw[List.mem_singleton.1 hy];exact HOX.o)
    clear hown hgr hmv hlt2 hbs hkl ZI wM lJ iG oo jS;go_wp2_with fail;go_roundg m.length
    case measure=>simp
    case rel=>exact⟨l++[x],m,q,rfl,Qn.o,by rw[<- IK.o,uh.o];simp,KJ.o,aP3.o,MW.o,Ry.o⟩
end Go.Proofs.YtkmllehjemjgpaaGreatDoor
