/- What makes programs of numbers: its state as data, what is kept; no shapes, only sizes. And what hangs on it. -/
import Derived.Test.YtldapdcphphodaaGreatDoorGPI
set_option linter.unusedSimpArgs false
set_option linter.unusedVariables false
set_option maxHeartbeats 40000000
set_option maxRecDepth 1000000
namespace Go.Proofs.YtldapdcphphodaaGreatDoor
open Go.RowKit
open Md
structure jN (w:World) (T:Tp):Prop where
 tape:uX w T
 Fx: ∃line left:Int,dD line∧0<=left∧left<=100∧w.heap[T.bm]? =some (.cells #[.pointer (some ⟨T.bt,0,none⟩),.int .i64 line,.int .i64 left] 51 (0,0))
def Tb (T:Tp) (n:Nat):Prop:=T.bt<n∧T.bm<n∧T.B0<=n
structure Mk (T:Tp) (w w':World):Prop where
 os:w'.os=w.os
 tape:w'.tape=w.tape
 output:w'.output=w.output
 size:w.heap.size<=w'.heap.size
 block: ∀k,k<w.heap.size->k≠T.bt->k≠T.bm->w'.heap[k]? =w.heap[k]?
theorem Fa (x:Int):dD (wrap64 x):=by unfold dD wrap64;omega
theorem Dj:dD 0:=afo
section
variable {T:Tp} {w w1 w2 W w':World} {B n k:Nat}
theorem jN.lt (h:jN w T):T.bm<w.heap.size:=by obtain⟨a,b,-,-,-,h⟩:=h.Fx;exact(aU h)
theorem jN.tb (h:jN w T):Tb T w.heap.size:=⟨h.tape.lt,h.lt,h.tape.b0⟩
theorem Tb.up (h:Tb T n) (hn:n<=k):Tb T k:=by unfold Tb at *;omega
theorem Mk.refl (T:Tp) (w:World):Mk T w w:=⟨rfl,rfl,rfl,aH _,λ_ _ _ _=>rfl⟩
theorem Mk.trans (h:Mk T w w1) (k:Mk T w1 w2):Mk T w w2:=
 ⟨k.os.trans h.os,k.tape.trans h.tape,k.output.trans h.output,aR h.size k.size,λj hj h1 h2=>(k.block j (aJ hj h.size) h1 h2).trans (h.block j hj h1 h2)⟩
theorem Mk.ao5 (h:Mk T w W) (hb:Below w.heap.size W w'):Mk T w w':=
 ⟨hb.os.trans h.os,hb.tape.trans h.tape,hb.output.trans h.output,aR h.size hb.size,λk hk h1 h2=>(hb.block k hk).trans (h.block k hk h1 h2)⟩
theorem Mk.of_below (h:Below w.heap.size w w'):Mk T w w':=(Mk.refl T w).ao5 h
theorem Mk.bq6 (h:w.grownBy w' (some T.bt)):Mk T w w':=⟨h.os,h.tape,h.output,h.size,λk hk h1 _=>h.block k hk ain⟩
theorem Mk.bq5 (h:w.grownBy w' (some T.bm)):Mk T w w':=⟨h.os,h.tape,h.output,h.size,λk hk _ h1=>h.block k hk ain⟩
theorem Mk.kp {x:Obj} (h:Mk T w w') (t:Tb T n) (hn:n<=k) (c:w.heap[k]? =some x):w'.heap[k]? =some x:=
 (h.block _ (aU c) agr agr).trans c
theorem Mk.ab (h:Mk T w w') (t:Tb T n) (hn:n<=B):jS B w w':=⟨h.size,λk h1 h2=>h.block k h2 agr agr⟩
theorem ZO (hb:Below w.heap.size w w2) (hm:Mk T w2 W) (h1:w.heap.size<=T.bt) (h2:w.heap.size<=T.bm):Below w.heap.size w W:=
 ⟨hm.os.trans hb.os,hm.tape.trans hb.tape,hm.output.trans hb.output,aR hb.size hm.size,λk hk=>(hm.block k (aJ hk hb.size) ahe ahe).trans (hb.block k hk)⟩
theorem kL {g:Option Nat} (h:w.grownBy w' g) (hg: ∀k,g=some k->B<=k) (hB:B<=w.heap.size):Below B w w':=
 ⟨h.os,h.tape,h.output,h.size,λk hk=>h.block k ahe (λe=>by have:=hg k e.symm;omega)⟩
theorem jN.rG (h:jN w T) (hb:Below B w w') (t:Tb T B):jN w' T:=by
 obtain⟨x,k1,k2⟩:=h.tape.blk;obtain⟨l,m,k3,k4,k5,k6⟩:=h.Fx;exact⟨⟨⟨x,k1,(hb.block _ t.1).trans k2⟩,h.tape.WR.below (hb.mono t.2.2),h.tape.len⟩,⟨l,m,k3,k4,k5,(hb.block _ t.2.1).trans k6⟩⟩
theorem jN.below (h:jN w T) (hb:Below w.heap.size w w'):jN w' T:=h.rG hb h.tb
structure Ki (T:Tp) (w W:World):Prop where
 mi:jN W T
 km:Mk T w W
 tb:Tb T w.heap.size
theorem Ki.go (h:Ki T w W) (hM:Mk T W w') (hI:jN w' T):Ki T w w':=⟨hI,h.km.trans hM,h.tb⟩
theorem Ki.rG (h:Ki T w W) (hb:Below B W w') (hn:w.heap.size<=B):Ki T w w':=⟨h.mi.rG hb (h.tb.up hn),h.km.ao5 (hb.mono hn),h.tb⟩
theorem Ki.set (h:Ki T w W) (a:Addr) (v:Value) (ha:w.heap.size<=a.block):Ki T w (W.setCell a v):=
 h.rG (kL (cB W a v) (λk e=>by cases e;exact ha) h.km.size) (aH _)
theorem Ki.al (h:Ki T w W) (o:Obj):Ki T w (W.alloc o):=h.rG (aA _ _) h.km.size
theorem jN.line {l':Int} (h:jN w T) (hl:dD l'):jN (w.setCell ⟨T.bm,1,none⟩ (.int .i64 l')) T:=by
 obtain⟨x,k1,k2⟩:=h.tape.blk;obtain⟨l,m,k3,k4,k5,k6⟩:=h.Fx;exact⟨⟨⟨x,k1,(dB w _ _ rfl T.tm.symm).trans k2⟩,h.tape.WR.below (cZ (cB w _ _) T.m0 h.tape.b0),h.tape.len⟩,⟨l',m,hl,k4,k5,by rw[dX k6];rfl⟩⟩
theorem jN.left {m':Int} (h:jN w T) (h0:0<=m') (h1:m'<=100):jN (w.setCell ⟨T.bm,2,none⟩ (.int .i64 m')) T:=by
 obtain⟨x,k1,k2⟩:=h.tape.blk;obtain⟨l,m,k3,k4,k5,k6⟩:=h.Fx;exact⟨⟨⟨x,k1,(dB w _ _ rfl T.tm.symm).trans k2⟩,h.tape.WR.below (cZ (cB w _ _) T.m0 h.tape.b0),h.tape.len⟩,⟨l,m',k3,h0,h1,by rw[dX k6];rfl⟩⟩
theorem Mk.R7 (h:Mk T w w') (j:Nat) (v:Value):Mk T w (w'.setCell ⟨T.bm,j,none⟩ v):=h.trans (Mk.bq5 (cB w' ⟨T.bm,j,none⟩ v))
theorem jN.ln (h:jN w T): ∃line:Int,w.cell? ⟨T.bm,1,none⟩=some (.int .i64 line)∧dD line:=by
 obtain⟨l,m,k1,-,-,k⟩:=h.Fx;exact⟨l,aQ k rfl,k1⟩
theorem jN.ptr (h:jN w T):w.cell? ⟨T.bm,0,none⟩=some (.pointer (some ⟨T.bt,0,none⟩)):=by
 obtain⟨l,m,-,-,-,k⟩:=h.Fx;exact aQ k rfl
theorem qK (hI:jN w T):Mk T w (w.drewN 1)∧jN (w.drewN 1) T:=⟨Mk.of_below (below_drewN (ak _ _) 1),hI.below (below_drewN (ak _ _) 1)⟩
def Ab (W:World) (o:Obj) (f:Nat->Value) (v:Value) (w':World):Prop:= ∃g,v=f g∧W.heap.size<=g∧w'.heap[g]? =some o
theorem Ab.go {o:Obj} {f:Nat->Value} {v:Value} (t:Tb T W.heap.size) (h:Ab W o f v w) (hle:Mk T w w'):Ab W o f v w':=by
 obtain⟨g,h1,h2,h3⟩:=h;exact⟨g,h1,h2,hle.kp t h2 h3⟩
def WC (W:World) (o:Obj) (n:Nat) (v:Value) (w':World):Prop:= ∃g r:Nat,v= .pointer (some ⟨g,r,none⟩)∧r<n∧W.heap.size<=g∧w'.heap[g]? =some o
theorem WC.go {o:Obj} {v:Value} (t:Tb T W.heap.size) (h:WC W o n v w) (hle:Mk T w w'):WC W o n v w':=by
 obtain⟨g,r,h1,h2,h3,h4⟩:=h;exact⟨g,r,h1,h2,h3,hle.kp t h3 h4⟩
def yV (a b:Nat) (v:Value) (_:World):Prop:= ∃r:Nat,v= .int .i64 (r:Int)∧a<=r∧r<=b
def CM (T:Tp) (W:World) {α:Type} (_:α) (w':World):Prop:=Mk T W w'∧jN w' T
theorem Lx (o:Obj) (hC:Mk T W w∧jN w T):Mk T W (w.alloc o)∧jN (w.alloc o) T:=⟨hC.1.trans (Mk.of_below (aA _ _)),hC.2.below (aA _ _)⟩
end
def Nms (n:Nat) (cs:Array Value):Prop:= ∀j,j<n->∃s:ByteArray,cs[j]? =some (.string s)∧s.size<=12
def Jf:List (List UInt8)->Array Value:=λl=>(l.map λx=>Value.string ⟨x.toArray⟩).toArray
theorem nms (l:List (List UInt8)) (h:l.all (λx=>decide (x.length<=12))=true):Nms l.length (Jf l):=λj hj=>
 ⟨⟨l[j].toArray⟩,by simp[Jf,hj],by have:=List.all_eq_true.1 h _ (List.getElem_mem hj);simpa[ByteArray.size]using this⟩
def ExS (q:Nat) (op n:Int) (nm:ByteArray) (kids:bY):Prop:=ru op n nm kids∧dR kids<q
def GE (d:Nat):Nat:=4*3 ^ d
theorem Ox (d:Nat):4<=GE d:=by unfold GE;have:0<3 ^ d:=Nat.pow_pos ahf;omega
theorem aR1 (d:Nat):GE d+GE d+4<=GE (d+1):=by have:=Ox d;unfold GE at *;rw[Nat.pow_succ];omega
def VD (T:Tp) (q:Nat) (w:World) (e:Ending) (w':World):Prop:= ∃op n nm kids ao cap,e= .returned (exV op n nm kids ao cap)∧ExS q op n nm kids∧Mk T w w'∧jN w' T∧gB w.heap.size w' (λw2=>kids.At w2 w2.heap.size ao 0)
def EX (q B:Nat) (v:Value) (w:World):Prop:= ∃op n nm kids ao cap,v=exV op n nm kids ao cap∧ExS q op n nm kids∧gB B w (λw2=>kids.At w2 w2.heap.size ao 0)
theorem EX.next {q B:Nat} {v:Value} {w w':World} (h:EX q B v w) (ha:jS B w w'):EX q B v w':=by
 obtain⟨op,n,nm,kids,ao,cap,h1,h2,h3⟩:=h;exact⟨op,n,nm,kids,ao,cap,h1,h2,h3.next ha⟩
theorem EX.mono {q B B':Nat} {v:Value} {w:World} (h:EX q B' v w) (hB:B<=B'):EX q B v w:=by
 obtain⟨op,n,nm,kids,ao,cap,h1,h2,h3⟩:=h;exact⟨op,n,nm,kids,ao,cap,h1,h2,h3.mono hB⟩
theorem aG6 {T:Tp} {q:Nat} {w w':World} {v:Value} (hM:Mk T w w') (hI:jN w' T) (h:EX q w.heap.size v w'):VD T q w (.returned v) w':=by
 obtain⟨op,n,nm,kids,ao,cap,rfl,h2,h3⟩:=h;exact⟨op,n,nm,kids,ao,cap,rfl,h2,hM,hI,h3⟩
theorem Q7 {T:Tp} {q:Nat} {w w':World} {e:Ending} (h:VD T q w e w'): ∃v,e= .returned v∧EX q w.heap.size v w'∧Mk T w w'∧jN w' T:=by
 obtain⟨op,n,nm,kids,ao,cap,h1,h2,h3,h4,h5⟩:=h;exact⟨_,h1,⟨op,n,nm,kids,ao,cap,rfl,h2,h5⟩,h3,h4⟩
theorem jl {T:Tp} {w W8 W:World} (h:Ki T w W∧jS (w.heap.size+1) W8 W) (j:Nat) (v:Value):
 Ki T w (W.setCell ⟨w.heap.size,j,none⟩ v)∧jS (w.heap.size+1) W8 (W.setCell ⟨w.heap.size,j,none⟩ v):=
 ⟨h.1.set _ _ (aH _),h.2.trans (gW _ _ _ (Nat.lt_succ_self _))⟩
theorem Qa {T:Tp} {w w4:World} {q:Nat} {op n:Int} {nm:ByteArray} {kids:bY} {ao:Option Addr} {cap:Nat} (h:Ki T w w4) (hok:ExS q op n nm kids) (hst:gB (w.heap.size+1) w4 (λw2=>kids.At w2 w2.heap.size ao 0)):
 VD T q w (.returned (exV op n nm kids ao cap)) ((((w4.setCell ⟨w.heap.size,0,none⟩ (.int .i64 op)).setCell ⟨w.heap.size,1,none⟩ (.int .i64 n)).setCell ⟨w.heap.size,2,none⟩ (.string nm)).setCell ⟨w.heap.size,3,none⟩ (.slice ao kids.len cap)):=by
 have k:=jl (jl (jl (jl ⟨h,jS.refl _ _⟩ 0 (.int .i64 op)) 1 (.int .i64 n)) 2 (.string nm)) 3 (.slice ao kids.len cap);exact aG6 k.1.km k.1.mi ⟨op,n,nm,kids,ao,cap,rfl,hok,(hst.next k.2).mono (eG _)⟩
def aR3 (T:Tp) (n:Int) (w:World) (e:Ending) (w':World):Prop:= ∃r:Nat,e= .returned (.int .i64 (r:Int))∧(0<n->(r:Int)<n)∧Mk T w w'∧jN w' T
theorem gN (T:Tp) (n:Int) (w:World) (hn:dD n) (hI:jN w T):
 Calls Tryz.prog 12 #[.pointer (some ⟨T.bt,0,none⟩),.int .i64 n] w (aR3 T n w):=
 (ZG T n w hn hI.tape).mono λe w' ⟨r,h1,h2,h3,h4,h5,h6⟩=>by obtain⟨r,rfl⟩:=Int.eq_ofNat_of_zero_le h2;obtain⟨l,m,k1,k2,k3,k4⟩:=hI.Fx;exact⟨r,h1,h3,Mk.bq6 h5,h6,⟨l,m,k1,k2,k3,(h5.block _ hI.lt (by simp;exact T.tm.symm)).trans k4⟩⟩
def n8:Array Value:= #[.int .i64 0,.int .i64 1,.int .i64 2,.int .i64 3,.int .i64 7,.int .i64 10,.int .i64 100,.int .i64 9223372036854775807]
theorem aS7: ∀j,j<8->∃z,n8[j]? =some (.int .i64 z)∧dD z
 |0,_|1,_|2,_|3,_|4,_|5,_|6,_|7,_=>⟨_,rfl,afo⟩
theorem zc {w:World} {b:Nat} {t:TypeId} (h:w.heap[b]? =some (.cells zEx t (0,0))):w.cell? ⟨b,0,none⟩=some (.int .i64 0)∧w.cell? ⟨b,1,none⟩=some (.int .i64 0)∧w.cell? ⟨b,2,none⟩=some (.string ⟨#[]⟩)∧w.cell? ⟨b,3,none⟩=some (.slice none 0 0)∧w.frozen? ⟨b,0,none⟩=false∧w.frozen? ⟨b,1,none⟩=false∧w.frozen? ⟨b,2,none⟩=false∧w.frozen? ⟨b,3,none⟩=false:=
 ⟨aQ h rfl,aQ h rfl,aQ h rfl,aQ h rfl,bC h,bC h,bC h,bC h⟩
theorem KX {op n:Int} {nm:ByteArray} {l:bY} (h1:0<=op) (h2:op<=100) (h3:dD n) (h4:nm.size<=12) (h5:l.len<=12):ru op n nm l:=
 ⟨afM,h3,afp,afp⟩
def XS (q B:Nat) (v:Value) (w:World):Prop:= ∃l ao cap,v= .slice ao (bY.len l) cap∧(bY.len l=1∧dR l<=q)∧gB B w (λw2=>l.At w2 w2.heap.size ao 0)
def Ph (v:Value) (_:World):Prop:= ∃s:ByteArray,v= .string s∧s.size<=12
def zL (T:Tp) (d:Int):Prop:= ∀w,jN w T->Calls Tryz.prog 52 #[.pointer (some ⟨T.bm,0,none⟩),.int .i64 d] w (VD T (GE d.toNat) w)
theorem NA (T:Tp) (d:Nat) (hd:d<=100) (ih: ∀d':Nat,d=d'+1->zL T (d':Int)):zL T (d:Int):=by
 unfold zL;rw[Int.toNat_natCast];intro w hI;have HI0:=ah hI;have oL:=ah ih;clear hI ih;go_enter Tryz.func52,Tryz.ntmps52;go_upto_region 2 with fail;generalize hW:World.alloc (World.alloc w _) _=W;obtain⟨_,rfl,-,HB,-,HZ,HN,-⟩:=WK hW;have HK:aj (Ki T w W):=ah ⟨HI0.o.below HB.o,Mk.of_below HB.o,HI0.o.tb⟩;clear hW;have c0:=HK.o.mi.ptr;go_wp2_with fail;refine(gN T 20 _ afo HK.o.mi).mono ?_;rintro e w2 ⟨k,rfl,hk1,hM,hI2⟩;have lI:=ah (HK.o.go hM hI2);have HZ2:=ah (hM.kp HK.o.tb (aH _) HZ.o);have HN2:aj (w2.heap[w.heap.size+1]? =some (.cells (Jf [[120],[121],[97],[98],[118],[113],[109],[116],[122,122],[102]]) 9 (0,0))):=ah (hM.kp HK.o.tb (eG _) HN.o);have bE2:k<20:=by have:=hk1 ahf;omega
 clear hM hI2 HZ HN HK c0 HB hk1;have hcase:(k<4∨(4<=k∧d=0∧k<10))∨(4<=k∧ ¬(d=0∧k<10))∧(k<8∨d=0)∨(8<=k∧d≠0):=ahe
 rcases hcase with hA|hB|hC
 ·have hA':(k:Int)<4∨(4<=(k:Int)∧((d:Int)==0)=true∧(k:Int)<10):=by
   rcases hA with hA|⟨h1,h2,h3⟩
   ·exact .inl ahe
   ·exact .inr ⟨ahe,by simp[h2],ahe⟩
  clear hA oL;rcases hA' with hA|⟨hA1,hA2,hA3⟩
  all_goals
   go_upto_region 5 with fail;generalize hW3:World.alloc w2 _=W3;obtain⟨g,hg,HB3,-,Bu,-⟩:=nI hW3;have nY:=ah (lI.o.rG HB3.o lI.o.km.size);have wV:aj (w.heap.size<g):=ah adU;have HZ3:=gV HB3.o HZ2;rw[hg];have c0:=nY.o.mi.ptr;clear hW3 hg;go_wp2_with fail;refine(gN T 8 _ afo nY.o.mi).mono ?_;rintro e w4 ⟨r,rfl,hr1,NM,NJ⟩;have Qw:r<8:=by have:=hr1 ahf;omega
   obtain⟨z,hz,NS⟩:=aS7 r Qw;have cz:w4.cell? ⟨g,r,none⟩=some (.int .i64 z):=aQ (NM.kp nY.o.tb (bM wV.o) Bu.o) hz;obtain⟨y0,y1,y2,y3,f0,f1,f2,f3⟩:=zc (NM.kp nY.o.tb (aH _) HZ3.o);have Kj:=ah (nY.o.go NM NJ);have HZI:=ah NS;have bE8:(0:Int)<=(r:Int):=ahe
   have bE9:(r:Int)<8:=ahe
   clear NM NJ hz NS c0 hr1;go_wp2_with fail;exact bodyPost_ret (v:=exV 1 z ⟨#[]⟩ .nil none 0) aby rfl (Qa Kj.o ⟨KX ahf ahf HZI.o ahf ahf,by have:=Ox d;show 0<_;omega⟩ (λ_ _=>trivial))
 ·have hB':(4<=(k:Int)∧(k:Int)<8∧((d:Int)==0)=false)∨(10<=(k:Int)∧((d:Int)==0)=true):=by
   rcases hB with⟨⟨h1,h2⟩,h3|h3⟩
   ·exact .inl ⟨ahe,ahe,acN⟩
   ·exact .inr ⟨ahe,by simp[h3]⟩
  clear hB oL;have K0: ∀w',jN w' T->w'.cell? ⟨T.bm,0,none⟩=some (.pointer (some ⟨T.bt,0,none⟩)):=λw' h=>h.ptr;have KN: ∀w',Mk T w2 w'->∀j,j<10->∃s,w'.cell? ⟨w.heap.size+1,j,none⟩=some (.string s)∧s.size<=12:=λw' h j hj=>by obtain⟨s,h1,h2⟩:=nms [[120],[121],[97],[98],[118],[113],[109],[116],[122,122],[102]] rfl j hj;exact⟨s,aQ (h.kp lI.o.tb (eG _) HN2.o) h1,h2⟩
  rcases hB' with⟨hB1,hB2,hB3⟩|⟨hB1,hB2⟩
  all_goals
   go_upto_region 7 with fail;refine bS ahd rfl ?_;refine bK 0 18 [] [[],[],[1],[1,2],[1,2,3],[],[5],[1,2,3,4,5,6],[],[8],[8,9],[8,9,10],[1,2,3,4,5,6,7,8,9,10,11],[1,2,3,4,5,6,7,8,9,10,11,12],[1,2,3,4,5,6,7,8,9,10,11,12,13],[0,1,2,3,4,5,6,7,8,9,10,11,12,13,14],[0,1,2,3,4,5,6,7,8,9,10,11,12,13,14,15],[0,1,2,3,4,5,6,7,8,9,10,11,12,13,14,15,16],[0,1,2,3,4,5,6,7,8,9,10,11,12,13,14,15,16,17]] [[],[],[],[],[],[],[],[],[],[],[],[],[],[],[],[],[],[]] (CM T w2) (Mk T) [46,47,48,49,50,51,52,53,54,55,56,57,58,59,60,61,62,63] rfl rfl aip ahd ahd ahd ahd ahd aip (Mk.refl T) aip (qK lI.o.mi) ?_;simp only[eB,iP]
   iterate 7
    apply bf.step
    case aZ=>intro c A w' hok hC hO hD;have e5:=hO 5 aip;have e0:=hO 0 aip;simp[Act.eval]at e5 e0;simp[Act.eval]at hD;simp[go_sem,gd,Oper.wp,hD,e5,e0,K0,hC.2];exact aO.mk (Mk.refl _ _) hC (bT.mk _ _)
    try simp only[bP]
   refine bf.some (yV 0 9) (λ_ _ _ _ h=>h) ?_ ?_
   ·intro c A w' hok hC hO hD;simp[Act.eval]at hD;simp[go_sem,gd,Oper.wp,hD];refine(gN T 10 w' afo hC.2).mono ?_;rintro e w2 ⟨r,rfl,h1,hM,hI⟩;exact aO.mk hM ⟨hC.1.trans hM,hI⟩ ⟨r,rfl,bF _,acY⟩
   try simp only[bP]
   iterate 4
    apply bf.step
    case aZ=>intro c A w' hok hC hO hD;have e0:=hO 0 aip;simp[Act.eval]at e0;simp[Act.eval]at hD;simp[go_sem,gd,Oper.wp,hD,e0,K0,hC.2];exact aO.mk (Mk.refl _ _) hC (bT.mk _ _)
    try simp only[bP]
   refine bf.some (yV 0 7) (λ_ _ _ _ h=>h) ?_ ?_
   ·intro c A w' hok hC hO hD;simp[Act.eval]at hD;simp[go_sem,gd,Oper.wp,hD];refine(gN T 8 w' afo hC.2).mono ?_;rintro e w2 ⟨r,rfl,h1,hM,hI⟩;exact aO.mk hM ⟨hC.1.trans hM,hI⟩ ⟨r,rfl,bF _,acY⟩
   try simp only[bP]
   refine bf.some (λv w'=>yV 3 10 v w') (λ_ _ _ _ h=>h) ?_ ?_
   ·intro c A w' hok hC hO hD;simp[Act.eval]at hD;obtain⟨r,hr,hr7,Qw⟩:=hD;have hw:IntKind.i64.wrap (3+(r:Int))=3+r:=IntWalk.i64_in _ ahe;simp[go_sem,gd,Oper.wp,hr,hw];exact aO.mk (Mk.refl _ _) hC (⟨3+r,ahg,ahe,ahe⟩)
   try simp only[bP]
   refine bf.some (λv w'=>yV 0 9 v w') (λ_ _ _ _ h=>h) ?_ ?_
   ·intro c A w' hok hC hO hD;simp[Act.eval]at hD;obtain⟨⟨r,hr,h0,h1⟩,s,hs,h2,h3⟩:=hD;have hs2:s≠0:=ahe;simp[go_sem,gd,Oper.wp,hr,hs,hs2];exact aO.mk (Mk.refl _ _) hC (⟨r%s,rfl,bF _,aR (Nat.mod_le _ _) h1⟩)
   refine bf.some (λv w'=> ∃r:Nat,v= .pointer (some ⟨w.heap.size+1,r,none⟩)∧r<10) (λ_ _ _ _ h=>h) ?_ ?_
   ·intro c A w' hok hC hO hD;simp[Act.eval]at hD;obtain⟨h46,r,hr,h0,h1⟩:=hD;have hb0:(0:Int)<=(r:Int):=ahe;have hb1:(r:Int)<10:=ahe;simp[go_sem,gd,Oper.wp,h46,hr,hb0,hb1];exact aO.mk (Mk.refl _ _) hC (⟨r,rfl,ahe⟩)
   try simp only[bP]
   refine bf.some (λv w'=>Ph v w') (λ_ _ _ _ h=>h) ?_ ?_
   ·intro c A w' hok hC hO hD;simp[Act.eval]at hD;obtain⟨r,hr,h1⟩:=hD;obtain⟨s,hs,hsz⟩:=KN w' hC.1 r h1;simp[go_sem,gd,Oper.wp,hr,hs];exact aO.mk (Mk.refl _ _) hC (⟨s,rfl,hsz⟩)
   refine bf.some (λv _=> ∃s:ByteArray,v=exV 2 0 s .nil none 0∧s.size<=12) (λ_ _ _ _ h=>h) ?_ ?_
   ·intro c A w' hok hC hO hD;simp[Act.eval]at hD;obtain⟨⟨s,hs,hsz⟩,-⟩:=hD;simp[go_sem,gd,Oper.wp,hs];refine(ae1 s w').mono ?_;rintro e w3 ⟨rfl,hb⟩;exact aO.mk (Mk.of_below hb) ⟨hC.1.trans (Mk.of_below hb),hC.2.below hb⟩ ⟨s,rfl,hsz⟩
   try simp only[bP]
   refine bf.done ?_;intro wz bR
   try simp only[eB]
   intro v0 h0 v1 h1 v2 h2 v3 h3 v4 h4 v5 h5 v6 h6 v7 h7 v8 h8 v9 h9 v10 h10 v11 h11 v12 h12 v13 tY v14 qD v15 uL v16 h16 v17 AA;clear h0 h1 h2 h3 h4 h5 h6 h7 h8 h9 h10 h11 h12 tY qD uL h16;obtain⟨s,rfl,hsz⟩:=AA;clear K0 KN;refine dH.nil ?_;go_simp;obtain⟨y0,y1,y2,y3,f0,f1,f2,f3⟩:=zc (bR.1.kp lI.o.tb (aH _) HZ2.o);have VQ:=ah (lI.o.go bR.1 bR.2);clear bR;unfold exV;refine dA 18 [[],[],[1],[1,2],[1,2,3],[],[5],[1,2,3,4,5,6],[],[8],[8,9],[8,9,10],[1,2,3,4,5,6,7,8,9,10,11],[1,2,3,4,5,6,7,8,9,10,11,12],[1,2,3,4,5,6,7,8,9,10,11,12,13],[0,1,2,3,4,5,6,7,8,9,10,11,12,13,14],[0,1,2,3,4,5,6,7,8,9,10,11,12,13,14,15],[0,1,2,3,4,5,6,7,8,9,10,11,12,13,14,15,16],[0,1,2,3,4,5,6,7,8,9,10,11,12,13,14,15,16,17]] rfl rfl rfl rfl rfl ahd ahd ahd ?_;simp[go_sem,Oper.wp,y0,y1,y2,y3,f0,f1,f2,f3,bY.len];refine cO rfl ?_;go_simp;go_wp2_with fail;exact bodyPost_ret (v:=exV 2 0 s .nil none 0) aby rfl (Qa VQ.o ⟨KX ahf ahf Dj hsz ahf,by have:=Ox d;show 0<_;omega⟩ (λ_ _=>trivial))
 ·have Bv:aj (GE (d -1)+GE (d -1)+4<=GE d):=ah (by obtain⟨d',rfl⟩: ∃d',d=d'+1:=⟨d -1,ahe⟩;exact aR1 d');have HX:aj (∀w,jN w T->Calls Tryz.prog 52 #[.pointer (some ⟨T.bm,0,none⟩),.int .i64 ((d:Int) -1)] w (VD T (GE (d -1)) w)):=ah (by obtain⟨d',rfl⟩: ∃d',d=d'+1:=⟨d -1,ahe⟩;have:=oL.o d' rfl;unfold zL at this;rw[Int.toNat_natCast]at this;rw[show((d'+1:Nat):Int) -1=(d':Int) by omega];exact this);have hdz:((d:Int)==0)=false:=by rw[beq_eq_false_iff_ne];omega
  have hd0:0<d:=ahe
  have HW2:aj (w.heap.size+1<=w2.heap.size):=ah (aU HZ2.o);have K0: ∀w',jN w' T->w'.cell? ⟨T.bm,0,none⟩=some (.pointer (some ⟨T.bt,0,none⟩)):=λw' h=>h.ptr;have hwd:IntKind.i64.wrap ((d:Int) -1)=(d:Int) -1:=IntWalk.i64_in _ ahe;have kT:k=8∨(9<=(k:Int)∧(k:Int)<11)∨11<=(k:Int):=ahe
  clear oL HN2 hC;rcases kT with rfl|⟨GR,hk10⟩|bE1
  ·have HT2:aj (Tb T w2.heap.size):=ah (lI.o.tb.up lI.o.km.size);go_upto_region 9 with fail;refine bS ahd rfl ?_;refine bK 0 14 [] [[],[],[1],[1,2],[1,2,3],[1,2,3,4],[0,1,2,3,4,5],[0,1,2,3,4,5,6],[],[],[9],[1,2,3,4,5,8,9,10],[1,2,3,4,5,8,9,10,11],[0,1,2,3,4,5,6,7,8,9,10,11,12],[0,1,2,3,4,5,6,7,8,9,10,11,12,13]] [[],[],[],[],[],[],[],[],[],[],[],[],[],[]] (CM T w2) (Mk T) [67,68,69,70,71,72,73,74,75,76,77,78,79,80] rfl rfl aip ahd ahd ahd ahd ahd aip (Mk.refl T) aip (qK lI.o.mi) ?_;simp only[eB,iP];refine bf.some (Ab w2 (.cells (Jf [[113],[113],[113],[120],[109]]) 9 (0,0)) (λg=> .slice (some ⟨g,0,none⟩) 5 5)) (λ_ _ _ hle h=>h.go HT2.o hle) ?_ ?_
   ·intro c A w' hok hC hO hD;simp[go_sem,gd,Oper.wp];exact aO.mk (d:=_) (v:= .slice (some ⟨_,0,none⟩) 5 5) (Mk.of_below (aA _ _)) ahy ⟨_,rfl,hC.1.size,heap_alloc_new _ _⟩
   try simp only[bP]
   iterate 4
    apply bf.step
    case aZ=>intro c A w' hok hC hO hD;have e0:=hO 0 aip;simp[Act.eval]at e0;simp[Act.eval]at hD;simp[go_sem,gd,Oper.wp,hD,e0,K0,hC.2];exact aO.mk (Mk.refl _ _) hC (bT.mk _ _)
    try simp only[bP]
   refine bf.some (yV 0 4) (λ_ _ _ _ h=>h) ?_ ?_
   ·intro c A w' hok hC hO hD;simp[Act.eval]at hD;simp[go_sem,gd,Oper.wp,hD];refine(gN T 5 w' afo hC.2).mono ?_;rintro e w2 ⟨r,rfl,h1,hM,hI⟩;exact aO.mk hM ⟨hC.1.trans hM,hI⟩ ⟨r,rfl,bF _,acY⟩
   try simp only[bP]
   refine bf.some (λv w'=>WC w2 (.cells (Jf [[113],[113],[113],[120],[109]]) 9 (0,0)) 5 v w') (λ_ _ _ hle h=>h.go HT2.o hle) ?_ ?_
   ·intro c A w' hok hC hO hD;simp[Act.eval]at hD;obtain⟨⟨g,hg,hg1,hg2⟩,r,hr,h0,h1⟩:=hD;have hb0:(0:Int)<=(r:Int):=ahe;have hb1:(r:Int)<5:=ahe;simp[go_sem,gd,Oper.wp,hg,hr,hb0,hb1];exact aO.mk (Mk.refl _ _) hC (⟨g,r,rfl,ahe,hg1,hg2⟩)
   try simp only[bP]
   refine bf.some (λv w'=>Ph v w') (λ_ _ _ _ h=>h) ?_ ?_
   ·intro c A w' hok hC hO hD;simp[Act.eval]at hD;obtain⟨g,r,hr,h1,hg1,hg2⟩:=hD;obtain⟨s,hs,hsz⟩:=nms [[113],[113],[113],[120],[109]] rfl r h1;simp[go_sem,gd,Oper.wp,hr,(aQ hg2 hs)];exact aO.mk (Mk.refl _ _) hC (⟨s,rfl,hsz⟩)
   iterate 3
    apply bf.step
    case aZ=>intro c A w' hok hC hO hD;have e0:=hO 0 aip;have e1:=hO 1 aip;simp[Act.eval]at e0 e1;simp[Act.eval]at hD;simp[go_sem,gd,Oper.wp,hD,e0,e1,hwd];exact aO.mk (Mk.refl _ _) hC (bT.mk _ _)
    try simp only[bP]
   refine bf.some (EX (GE (d -1)) w2.heap.size) (λv w1 w' hle h=>h.next (hle.ab HT2.o (aH _))) ?_ ?_
   ·intro c A w' hok hC hO hD;simp[Act.eval]at hD;simp[go_sem,gd,Oper.wp,hD];refine(HX.o w' hC.2).mono ?_;intro e w3 hp;obtain⟨v,rfl,h1,h2,h3⟩:=Q7 hp;exact aO.mk h2 ⟨hC.1.trans h2,h3⟩ (h1.mono hC.1.size)
   try simp only[bP]
   refine bf.some (XS (GE (d -1)) w2.heap.size) (λv w1 w' hle ⟨l,ao,cap,h1,h2,h3⟩=>⟨l,ao,cap,h1,h2,h3.next (hle.ab HT2.o (aH _))⟩) ?_ ?_
   ·intro c A w' hok hC hO hD;simp[Act.eval]at hD;obtain⟨op,n,nm,kids,ao,cap,hv,hok',hst⟩:=hD;unfold exV at hv;simp[go_sem,gd,Oper.wp,hv];exact aO.mk (d:=_) (v:= .slice (some ⟨_,0,none⟩) 1 1) (Mk.of_below (aA _ _)) ahy ⟨.cons op n nm kids .nil,some ⟨_,0,none⟩,1,rfl,⟨rfl,by have:=hok'.2;show 1+dR kids+0<=_;omega⟩,F6 (heap_alloc_new _ _) hC.1.size hok'.1 (hst.next (dO (aA _ _)))⟩
   refine bf.some (EX (GE d) w2.heap.size) (λv w1 w' hle h=>h.next (hle.ab HT2.o (aH _))) ?_ ?_
   ·intro c A w' hok hC hO hD;simp[Act.eval]at hD;obtain⟨⟨s,hs,hsz⟩,l,ao,cap,hv,hl,hst⟩:=hD;simp[go_sem,gd,Oper.wp,hs,hv];exact aO.mk (Mk.refl _ _) hC ⟨3,0,s,l,ao,cap,rfl,⟨KX ahf ahf Dj hsz (by have:=hl.1;omega),by have:=Bv.o;have:=hl.2;omega⟩,hst⟩
   try simp only[bP]
   refine bf.done ?_;intro wz bR
   try simp only[eB]
   intro v0 h0 v1 h1 v2 h2 v3 h3 v4 h4 v5 h5 v6 h6 v7 h7 v8 h8 v9 h9 v10 h10 v11 h11 v12 h12 v13 tY;clear h0 h1 h2 h3 h4 h5 h6 h7 h8 h9 h10 h11 h12;obtain⟨op,n,nm,kids,ao,cap,rfl,hok,hst⟩:=tY;clear K0 hwd;refine dH.nil ?_;go_simp;obtain⟨y0,y1,y2,y3,f0,f1,f2,f3⟩:=zc (bR.1.kp lI.o.tb (aH _) HZ2.o);have VQ:=ah (lI.o.go bR.1 bR.2);have je:=ah hok;have HST:=ah (gB.mono hst HW2.o);clear bR hok hst;unfold exV;refine dA 14 [[],[],[1],[1,2],[1,2,3],[1,2,3,4],[0,1,2,3,4,5],[0,1,2,3,4,5,6],[],[],[9],[1,2,3,4,5,8,9,10],[1,2,3,4,5,8,9,10,11],[0,1,2,3,4,5,6,7,8,9,10,11,12],[0,1,2,3,4,5,6,7,8,9,10,11,12,13]] rfl rfl rfl rfl rfl ahd ahd ahd ?_;simp[go_sem,Oper.wp,y0,y1,y2,y3,f0,f1,f2,f3];refine cO rfl ?_;go_simp;go_wp2_with fail;exact bodyPost_ret (v:=exV op n nm kids ao cap) abN rfl (Qa VQ.o je.o HST.o)
  all_goals
   have bE3:((k:Int)==8)=false:=acN
   have c0:=lI.o.mi.ptr;go_wp2_with fail;refine(gN T _ _ afo lI.o.mi).mono ?_;rintro e w3 ⟨r,rfl,hr1,Fz,C9⟩;have hr1:=hr1 ahf;have nY:=ah (lI.o.go Fz C9);have HZ3:=ah (Fz.kp lI.o.tb (aH _) HZ2.o);have HW3:aj (w.heap.size+1<=w3.heap.size):=ah (aR HW2.o Fz.size);clear Fz C9 c0 HZ2 lI HW2;go_wp2_with fail;refine(HX.o _ nY.o.mi).mono ?_;intro e w4 hp;obtain⟨v,rfl,hex,NM,NJ⟩:=Q7 hp;obtain⟨op,n,nm,kids,ao,cap,rfl,hok,hst⟩:=hex;have Kj:=ah (nY.o.go NM NJ);have je:=ah hok;have HST:=ah (hst.mono HW3.o);have BN:=ah (NM.kp nY.o.tb (aH _) HZ3.o);have Ws:aj (w.heap.size+1<=w4.heap.size):=ah (aU BN.o);clear hp hok hst NM NJ HZ3 nY HW3;unfold exV
  ·obtain⟨y0,y1,y2,y3,f0,f1,f2,f3⟩:=zc BN.o;have yu:w.heap.size<w4.heap.size:=Ws.o;clear K0 hwd;go_wp2_with fail;have HF:=ah (Qa (cap:=1) (Kj.o.al (.cells #[.int .i64 op,.int .i64 n,.string nm,.slice ao kids.len cap] 99)) (q:=GE d) (op:=4+r) (n:=0) (nm:=⟨#[]⟩) (kids:= .cons op n nm kids .nil) ⟨KX ahe ahe Dj ahf (show 1<=12 by decide),by have:=Bv.o;have:=je.o.2;show 1+dR kids+0<_;omega⟩ (F6 (heap_alloc_new _ _) Ws.o je.o.1 (HST.o.next (dO (aA _ _)))));rw[World.setCell_alloc_past _ _ _ _ Ws.o,World.setCell_alloc_past _ _ _ _ aib,World.setCell_alloc_past _ _ _ _ aib,World.setCell_alloc_past _ _ _ _ aib]at HF;exact bodyPost_ret (v:=exV (4+r) 0 ⟨#[]⟩ (.cons op n nm kids .nil) (some ⟨w4.heap.size,0,none⟩) 1) (by simp[results,Tryz.results52,go_sem,exV,bY.len,y0,y1,y2,y3,yu]) rfl HF.o
  ·go_upto_region 14 with fail;generalize rP:World.alloc w4 _=W5;obtain⟨ga,hga,jF,-,HA5,-⟩:=nI rP;have Cv:=ah (Kj.o.rG jF.o Kj.o.km.size);have SH:=gV jF.o BN;have bi9:=ah (HST.o.next (dO jF.o));have nD:aj (w.heap.size<=ga):=ah (by rw[<- hga];exact Kj.o.km.size);have sZ:aj (w.heap.size+1<=W5.heap.size):=ah (aU SH.o);rw[hga];clear rP hga jF BN HST Kj;have KA: ∀w',Mk T W5 w'->_:=λw' h=>cl4 (h.kp Cv.o.tb nD.o HA5.o);refine bS ahd rfl ?_;refine bK 0 7 [] [[],[],[],[],[3],[2,3,4],[0,1,2,3,4,5],[0,1,2,3,4,5,6]] [[],[],[],[],[],[],[]] (CM T W5) (Mk T) [106,107,108,109,110,111,112] rfl rfl aip ahd ahd ahd ahd ahd aip (Mk.refl T) aip (qK Cv.o.mi) ?_;simp only[eB,iP]
   iterate 5
    apply bf.step
    case aZ=>intro c A w' hok hC hO hD;have e8:=hO 8 aip;have e9:=hO 9 aip;have e0:=hO 0 aip;have e1:=hO 1 aip;simp[Act.eval]at e8 e9 e0 e1;simp[Act.eval]at hD;simp[go_sem,gd,Oper.wp,hD,e8,e9,e0,e1,(KA w' hC.1).1,(KA w' hC.1).2.1,(KA w' hC.1).2.2.1,(KA w' hC.1).2.2.2,hwd];exact aO.mk (Mk.refl _ _) hC (bT.mk _ _)
    try simp only[bP]
   refine bf.some (EX (GE (d -1)) (w.heap.size+1)) (λv w1 w' hle h=>h.next (hle.ab Cv.o.tb (eG _))) ?_ ?_
   ·intro c A w' hok hC hO hD;simp[Act.eval]at hD;simp[go_sem,gd,Oper.wp,hD];refine(HX.o w' hC.2).mono ?_;intro e w3 hp;obtain⟨v,rfl,h1,h2,h3⟩:=Q7 hp;exact aO.mk h2 ⟨hC.1.trans h2,h3⟩ (h1.mono (aR sZ.o hC.1.size))
   try simp only[bP]
   refine bf.some (EX (GE d) (w.heap.size+1)) (λv w1 w' hle h=>h.next (hle.ab Cv.o.tb (eG _))) ?_ ?_
   ·intro c A w' hok hC hO hD;simp[Act.eval]at hD;obtain⟨bo7,bo8,op',n',nm',gM,kR,cap',hv,hok',hst'⟩:=hD;unfold exV at hv;simp[go_sem,gd,Oper.wp,bo7,bo8,hv];refine(UH (6+r) op n nm kids ao cap op' n' nm' gM kR cap' w').mono ?_;rintro e w6 ⟨g,rfl,hg,hcell,hb⟩;exact aO.mk (Mk.of_below hb) ⟨hC.1.trans (Mk.of_below hb),hC.2.below hb⟩ ⟨6+r,0,⟨#[]⟩,.cons op n nm kids (.cons op' n' nm' gM .nil),some ⟨g,0,none⟩,2,rfl,⟨KX ahe ahe Dj ahf (by simp[bY.len]),by have:=Bv.o;have:=je.o.2;have:=hok'.2;show 1+dR kids+(1+dR gM+0)<_;omega⟩,ag7 hcell (aR (aR sZ.o hC.1.size) hg) je.o.1 (bi9.o.next (((hC.1).ab Cv.o.tb (eG _)).trans (dO hb))) hok'.1 (hst'.next (dO hb))⟩
   try simp only[bP]
   refine bf.done ?_;intro wz bR
   try simp only[eB]
   intro v0 h0 v1 h1 v2 h2 v3 h3 v4 h4 v5 h5 v6 h6;clear h0 h1 h2 h3 h4 h5;obtain⟨op',n',nm',gM,kR,cap',rfl,hok,hst⟩:=h6;clear K0 hwd KA;refine dH.nil ?_;go_simp;obtain⟨y0,y1,y2,y3,f0,f1,f2,f3⟩:=zc (bR.1.kp Cv.o.tb (aH _) SH.o);have VQ:=ah (Cv.o.go bR.1 bR.2);have bi4:=ah hok;have bj1:=ah hst;clear bR hok hst;unfold exV;refine dA 7 [[],[],[],[],[3],[2,3,4],[0,1,2,3,4,5],[0,1,2,3,4,5,6]] rfl rfl rfl rfl rfl ahd ahd ahd ?_;simp[go_sem,Oper.wp,y0,y1,y2,y3,f0,f1,f2,f3];refine cO rfl ?_;go_simp;go_wp2_with fail;exact bodyPost_ret (v:=exV op' n' nm' gM kR cap') abN rfl (Qa VQ.o bi4.o bj1.o)
theorem JC (T:Tp): ∀d:Nat,d<=100->zL T (d:Int)
 |0,h=>NA T 0 h (λd' e=>ahe)
 |d+1,h=>NA T (d+1) h (λd' e=>by
  obtain rfl:d=d':=ahe
  exact JC T d ahe)
def LkP (T:Tp) (w:World) (e:Ending) (w':World):Prop:= ∃s:ByteArray,e= .returned (.string s)∧s.size<=12∧Mk T w w'∧jN w' T
theorem ad7 {T:Tp} {w:World} {g n:Nat} {cs:Array Value} (hs:Nms n cs) (hI:jN w T) (hg:w.heap[g]? =some (.cells cs 9 (0,0))) (hn:0<n) (hn2:n<=1000) (hgt:g≠T.bt∧g≠T.bm):
 Calls Tryz.prog 51 #[.pointer (some ⟨T.bm,0,none⟩),.slice (some ⟨g,0,none⟩) n n] w (LkP T w):=by
 have HI:=ah hI;have HG:=ah hg;have HS:=ah hs;have HGG:=ah hgt;clear hI hg hs hgt;have c0:=HI.o.ptr;go_enter Tryz.func51,Tryz.ntmps51;go_wp2_with fail;refine(gN T 8 _ afo HI.o).mono ?_;rintro e w2 ⟨k,rfl,hk1,hM,hI2⟩;have HM:=ah hM;have HI2:=ah hI2;have HG2:aj (w2.heap[g]? =some (.cells cs 9 (0,0))):=ah ((hM.block g (aU HG.o) HGG.o.1 HGG.o.2).trans HG.o);clear hM hI2 c0 hk1;have c0:=HI2.o.ptr;cases TG:((k:Int)==7)
 ·go_wp2_with fail;refine(gN T n _ afM HI2.o).mono ?_;rintro e w3 ⟨r,rfl,hr1,Fz,C9⟩;have hrn:r<n:=by have:=hr1 ahe;omega
  obtain⟨s,hs,hsz⟩:=HS.o r hrn;have cz:w3.cell? ⟨g,r,none⟩=some (.string s):=aQ ((Fz.block g (aU HG2.o) HGG.o.1 HGG.o.2).trans HG2.o) hs;have HF:aj (LkP T w _ w3):=ah ⟨s,rfl,hsz,HM.o.trans Fz,C9⟩;clear Fz C9 hs hsz hr1 c0;go_wp2_with fail;go_ret;exact HF.o
 ·have hlt:=HI2.o.lt;go_wp2_with fail;have nY:aj (Ki T w2 _):=ah (Ki.al ⟨HI2.o,Mk.refl _ _,HI2.o.tb⟩ (.cells (Jf [[120],[113],[97],[109],[114],[99],[102],[116],[122,122]]) 9));refine(gN T 9 _ afo nY.o.mi).mono ?_;rintro e w3 ⟨r,rfl,hr1,Fz,C9⟩;have hrn:r<9:=by have:=hr1 ahf;omega
  obtain⟨s,hs,hsz⟩:=nms [[120],[113],[97],[109],[114],[99],[102],[116],[122,122]] rfl r hrn;have cz:w3.cell? ⟨w2.heap.size,r,none⟩=some (.string s):=aQ (Fz.kp nY.o.tb (aH _) (heap_alloc_new _ _)) hs;have HF:aj (LkP T w _ w3):=ah ⟨s,rfl,hsz,(HM.o.trans nY.o.km).trans Fz,C9⟩;have hb0:(0:Int)<=(r:Int):=ahe
  have hb1:(r:Int)<9:=ahe
  clear Fz C9 hs hsz hr1 c0;go_wp2_with fail;go_ret;exact HF.o
def StS (B:Nat) (w:World) (h:dM) (b e:aY) (s:Sl):Prop:=uE h b e∧gB B w (λw2=>h.idx.At w2 w2.heap.size s.fM 0∧h.bG.At w2 w2.heap.size s.fD 0∧b.At w2 w2.heap.size s.dL 0∧e.At w2 w2.heap.size s.gJ 0)
def vM (q:Nat) (l:aY):Prop:=jR l<=q∧l.Ev (λh=>fu h<=300000)
def EI (q:Nat) (h:dM) (b e:aY):Prop:=fu h<=400∧fu h+jR b+jR e<=q∧b.Ev (λh=>fu h<=300000)∧e.Ev (λh=>fu h<=300000)
theorem ME {q q1 q2:Nat} {h:dM} {b e:aY} (hs:fu h<=400) (h1:vM q1 b) (h2:vM q2 e) (hq:400+q1+q2<=q):EI q h b e:=⟨hs,by have:=h1.1;have:=h2.1;omega,h1.2,h2.2⟩
theorem vM.mono {q q':Nat} {l:aY} (h:vM q l) (hq:q<=q'):vM q' l:=⟨aR h.1 hq,h.2⟩
theorem JW:vM 0 .nil:=⟨aH _,trivial⟩
def GS (d:Nat):Nat:=400*5 ^ d
theorem VE (d:Nat):400<=GS d:=by unfold GS;have:0<5 ^ d:=Nat.pow_pos ahf;omega
theorem aR2 (d:Nat):400+3*GS d+GS d<=GS (d+1):=by have:=VE d;unfold GS at *;rw[Nat.pow_succ];omega
def StP (T:Tp) (q:Nat) (w:World) (e':Ending) (w':World):Prop:= ∃h b e s,e'= .returned (jH h b e s)∧EI q h b e∧StS w.heap.size w' h b e s∧Mk T w w'∧jN w' T
def SlP (T:Tp) (q:Nat) (w:World) (e':Ending) (w':World):Prop:= ∃l ao cap,e'= .returned (.slice ao (aY.len l) cap)∧(aY.len l<=1000∧vM q l)∧gB w.heap.size w' (λw2=>l.At w2 w2.heap.size ao 0)∧Mk T w w'∧jN w' T
def Left (w:World) (T:Tp):Prop:= ∃line left:Int,dD line∧1<=left∧left<=100∧w.heap[T.bm]? =some (.cells #[.pointer (some ⟨T.bt,0,none⟩),.int .i64 line,.int .i64 left] 51 (0,0))
def KC (T:Tp) (d:Int):Prop:= ∀w,jN w T->Left w T->Calls Tryz.prog 31 #[.pointer (some ⟨T.bm,0,none⟩),.int .i64 d] w (StP T (GS d.toNat) w)
def DZ (T:Tp) (d:Int):Prop:= ∀w (n:Int),jN w T->dD n->n<=1000->Calls Tryz.prog 15 #[.pointer (some ⟨T.bm,0,none⟩),.int .i64 d,.int .i64 n] w (SlP T (n.toNat*GS d.toNat) w)
def NI (op line:Int):dM:=⟨op,line,⟨#[]⟩,⟨#[]⟩,.nil,0,0,⟨#[]⟩,.nil⟩
def R3:Sl:=⟨none,0,none,0,none,0,none,0⟩
structure SJ (T:Tp) (w:World) (sb:Nat) (W:World) (c:Array Value):Prop where
 box:W.heap[sb]? =some (.cells c 101 (0,0))
 k:Ki T w W
 z:W.heap[w.heap.size]? =some (.cells RA 101 (0,0))
 lt:w.heap.size<sb
def SI (T:Tp) (w:World) (sb:Nat) (W:World) (h:dM) (b e:aY) (s:Sl):Prop:=SJ T w sb W (oJ h b e s).toArray∧StS (sb+1) W h b e s
section
variable {T:Tp} {w W W':World} {sb:Nat} {h:dM} {b e:aY} {s:Sl} {c:Array Value}
theorem SJ.sz (h:SJ T w sb W c):sb+1<=W.heap.size:=(aU h.box)
theorem SJ.go (h:SJ T w sb W c) (hM:Mk T W W') (hI:jN W' T):SJ T w sb W' c:=
 ⟨hM.kp h.k.tb (bM h.lt) h.box,h.k.go hM hI,hM.kp h.k.tb (aH _) h.z,h.lt⟩
theorem SJ.put (h:SJ T w sb W c) (j:Nat) (v:Value):SJ T w sb (W.setCell ⟨sb,j,none⟩ v) (c.setIfInBounds j v):=
 ⟨dX h.box v,h.k.set _ _ (bM h.lt),(dB W _ _ rfl (Nat.ne_of_gt h.lt)).trans h.z,h.lt⟩
theorem SI.go (hS:SI T w sb W h b e s) (hM:Mk T W W') (hI:jN W' T):SI T w sb W' h b e s:=
 ⟨hS.1.go hM hI,hS.2.1,hS.2.2.next (hM.ab hS.1.k.tb (Nat.le_succ_of_le (bM hS.1.lt)))⟩
theorem rU (j:Nat) (v:Value):jS (sb+1) W (W.setCell ⟨sb,j,none⟩ v):=gW _ _ _ (Nat.lt_succ_self _)
theorem SI.nm (hS:SI T w sb W h b e s) (x:ByteArray) (hx:x.size<=12):SI T w sb (W.setCell ⟨sb,2,none⟩ (.string x)) {h with nm:=x} b e s:=by
 obtain⟨k1,k2,k3,k4⟩:=hS.2.1;exact⟨hS.1.put 2 _,⟨k1,k2,aeE,k4⟩,hS.2.2.next (rU _ _)⟩
theorem SI.arg (hS:SI T w sb W h b e s) (x:ByteArray) (hx:x.size<=12):SI T w sb (W.setCell ⟨sb,3,none⟩ (.string x)) {h with arg:=x} b e s:=by
 obtain⟨k1,k2,k3,k4,k5⟩:=hS.2.1;exact⟨hS.1.put 3 _,⟨k1,k2,k3,aeE,k5⟩,hS.2.2.next (rU _ _)⟩
theorem SI.idx (hS:SI T w sb W h b e s) (l:bY) (ao:Option Addr) (cap:Nat) (hl:l.len<=maxLen) (hst:gB (sb+1) W (λw2=>l.At w2 w2.heap.size ao 0)):SI T w sb (W.setCell ⟨sb,4,none⟩ (.slice ao l.len cap)) {h with idx:=l} b e {s with fM:=ao,eU:=cap} :=by
 obtain⟨k1,k2,k3,k4,k5,k6⟩:=hS.2.1;exact⟨hS.1.put 4 _,⟨k1,k2,k3,k4,hl,k6⟩,λw2 h2=>⟨hst.next (rU _ _) w2 h2,(hS.2.2.next (rU _ _) w2 h2).2⟩⟩
theorem SI.body (hS:SI T w sb W h b e s) (l:aY) (ao:Option Addr) (cap:Nat) (hl:l.len<=1000) (hst:gB (sb+1) W (λw2=>l.At w2 w2.heap.size ao 0)):SI T w sb (W.setCell ⟨sb,9,none⟩ (.slice ao l.len cap)) h l e {s with dL:=ao,cK:=cap} :=by
 obtain⟨k1,k2,k3,k4,k5,k6,k7,k8⟩:=hS.2.1;exact⟨hS.1.put 9 _,⟨k1,k2,k3,k4,k5,k6,afp,k8⟩,λw2 h2=>have k:=hS.2.2.next (rU _ _) w2 h2;⟨k.1,k.2.1,hst.next (rU _ _) w2 h2,k.2.2.2⟩⟩
theorem SI.els (hS:SI T w sb W h b e s) (l:aY) (ao:Option Addr) (cap:Nat) (hl:l.len<=1000) (hst:gB (sb+1) W (λw2=>l.At w2 w2.heap.size ao 0)):SI T w sb (W.setCell ⟨sb,10,none⟩ (.slice ao l.len cap)) h b l {s with gJ:=ao,fH:=cap} :=by
 obtain⟨k1,k2,k3,k4,k5,k6,k7,k8⟩:=hS.2.1;exact⟨hS.1.put 10 _,⟨k1,k2,k3,k4,k5,k6,k7,afp⟩,λw2 h2=>have k:=hS.2.2.next (rU _ _) w2 h2;⟨k.1,k.2.1,k.2.2.1,hst.next (rU _ _) w2 h2⟩⟩
theorem SI.x (hS:SI T w sb W h b e s) (op n:Int) (nm:ByteArray) (kids:bY) (ao:Option Addr) (cap:Nat) (hok:ru op n nm kids) (hst:gB (sb+1) W (λw2=>kids.At w2 w2.heap.size ao 0)):SI T w sb ((((W.setCell ⟨sb,5,none⟩ (.int .i64 op)).setCell ⟨sb,6,none⟩ (.int .i64 n)).setCell ⟨sb,7,none⟩ (.string nm)).setCell ⟨sb,8,none⟩ (.slice ao kids.len cap)) {h with dQ:=op,xn:=n,dP:=nm,bG:=kids} b e {s with fD:=ao,dS:=cap} :=by
 obtain⟨k1,k2,k3,k4,k5,k6,k7⟩:=hS.2.1;refine⟨(((hS.1.put 5 _).put 6 _).put 7 _).put 8 _,⟨k1,k2,k3,k4,k5,hok,k7⟩,λw2 h2=> ?_⟩;have ha:jS (sb+1) W w2:=(((rU 5 _).trans (rU 6 _)).trans (rU 7 _)).trans ((rU 8 _).trans h2);exact⟨(hS.2.2 w2 ha).1,hst w2 ha,(hS.2.2 w2 ha).2.2⟩
end
theorem XV {T:Tp} {w W:World} {sb n:Nat} {h:dM} {b e:aY} {s:Sl} {cs:Array Value} (hS:SI T w sb W h b e s) (hs:Nms n cs) (h0:0<n) (h1:n<=1000):
 Calls Tryz.prog 51 #[.pointer (some ⟨T.bm,0,none⟩),.slice (some ⟨W.heap.size,0,none⟩) n n] (W.alloc (.cells cs 9)) λe' w'=> ∃x:ByteArray,e'= .returned (.string x)∧x.size<=12∧SI T w sb w' h b e s:=
 (ad7 hs (hS.1.k.mi.below (aA _ _)) (heap_alloc_new _ _) h0 h1 ⟨Nat.ne_of_gt hS.1.k.mi.tape.lt,Nat.ne_of_gt hS.1.k.mi.lt⟩).mono
  λe' w' ⟨x,h1,h2,h3,h4⟩=>⟨x,h1,h2,hS.go ((Mk.of_below (aA _ _)).trans h3) h4⟩
theorem exS {T:Tp} {w W:World} {sb:Nat} {d:Int} {h:dM} {b e:aY} {s:Sl} (hS:SI T w sb W h b e s) (hE:zL T d):
 Calls Tryz.prog 52 #[.pointer (some ⟨T.bm,0,none⟩),.int .i64 d] W λe' w'=> ∃op n nm kids ao cap,e'= .returned (exV op n nm kids ao cap)∧ExS (GE d.toNat) op n nm kids∧gB (sb+1) w' (λw2=>kids.At w2 w2.heap.size ao 0)∧SI T w sb w' h b e s:=
 (hE _ hS.1.k.mi).mono λe' w' ⟨op,n,nm,kids,ao,cap,h1,h2,h3,h4,h5⟩=>⟨op,n,nm,kids,ao,cap,h1,h2,h5.mono hS.1.sz,hS.go h3 h4⟩
theorem ah6 {h:dM} {q:Nat} (h1:dR h.bG<q) (h2:dR h.idx<100) (hq:q<=100):fu h<=400:=agN
theorem O4 (T:Tp) (d:Nat) (hd:d<=100) (ih: ∀d':Nat,d=d'+1->DZ T (d':Int)):KC T (d:Int):=by
 unfold KC;rw[Int.toNat_natCast];intro w hI hL;obtain⟨line,left,hl1,hl2,hl3,hblk⟩:=hL;have HI0:=ah hI;have oL:=ah ih;have GK:=hI.lt;have c1:w.cell? ⟨T.bm,1,none⟩=some (.int .i64 line):=aQ hblk rfl;have c2:w.cell? ⟨T.bm,2,none⟩=some (.int .i64 left):=aQ hblk rfl;have f1:w.frozen? ⟨T.bm,1,none⟩=false:=bC hblk;have f2:w.frozen? ⟨T.bm,2,none⟩=false:=bC hblk;clear hI ih hblk hl1;go_enter Tryz.func31,Tryz.ntmps31;go_upto_region 3 with fail;obtain⟨w0,hw0⟩: ∃x,x=(w.setCell ⟨T.bm,1,none⟩ (.int .i64 (wrap64 (line+1)))).setCell ⟨T.bm,2,none⟩ (.int .i64 (left -1)):=⟨_,rfl⟩;rw[<- hw0];generalize hW:World.alloc w0 _=W;obtain⟨nb,hnb,-,HB,HZ,-⟩:=nI hW;have hsz:w0.heap.size=w.heap.size:=by rw[hw0];simp[World.setCell]
 have hsz2:w0.heap.size=nb:=hnb;have HK:aj (Ki T w W):=ah (Ki.rG ⟨by rw[hw0];exact(HI0.o.line (Fa _)).left ahe ahe,by rw[hw0];exact((Mk.refl T w).R7 _ _).R7 _ _,HI0.o.tb⟩ HB.o ahe);rw[<- hsz2,hsz]at HZ;clear hW hw0 hnb hsz hsz2 HB c1 c2 f1 f2 GK hl2 hl3;have vF:aj (Tb T W.heap.size):=ah HK.o.mi.tb;refine bS ahd rfl ?_;refine bK 0 12 [] [[],[0],[0,1],[0,1,2],[0,1,2,3],[0,1,2,3,4],[],[6],[6,7],[6,7,8],[0,1,2,3,4,5,6,7,8,9],[],[0,1,2,3,4,5,6,7,8,9,10,11]] [[],[],[],[],[],[],[],[],[],[],[],[]] (CM T W) (Mk T) [20,21,22,23,24,25,26,27,28,29,30,5] rfl rfl aip ahd ahd ahd ahd ahd aip (Mk.refl T) aip (qK HK.o.mi) ?_;simp only[eB,iP]
 iterate 4
  apply bf.step
  case aZ=>intro c A w' hok hC hO hD;have e0:=hO 0 aip;simp[Act.eval]at e0;simp[Act.eval]at hD;simp[go_sem,gd,Oper.wp,hD,e0,hC.2.ptr];exact aO.mk (Mk.refl _ _) hC (bT.mk _ _)
  try simp only[bP]
 refine bf.some (yV 0 14) (λ_ _ _ _ h=>h) ?_ ?_
 ·intro c A w' hok hC hO hD;simp[Act.eval]at hD;simp[go_sem,gd,Oper.wp,hD];refine(gN T 15 w' afo hC.2).mono ?_;rintro e w2 ⟨r,rfl,h1,hM,hI⟩;exact aO.mk hM ⟨hC.1.trans hM,hI⟩ ⟨r,rfl,bF _,acY⟩
 try simp only[bP]
 refine bf.some (λv w'=>yV 1 15 v w') (λ_ _ _ _ h=>h) ?_ ?_
 ·intro c A w' hok hC hO hD;simp[Act.eval]at hD;obtain⟨r,hr,hr7,Qw⟩:=hD;have hw:IntKind.i64.wrap (1+(r:Int))=1+r:=IntWalk.i64_in _ ahe;simp[go_sem,gd,Oper.wp,hr,hw];exact aO.mk (Mk.refl _ _) hC (⟨1+r,ahg,ahe,ahe⟩)
 try simp only[bP]
 iterate 3
  apply bf.step
  case aZ=>intro c A w' hok hC hO hD;have e0:=hO 0 aip;simp[Act.eval]at e0;simp[Act.eval]at hD;simp[go_sem,gd,Oper.wp,hD,e0];exact aO.mk (Mk.refl _ _) hC (bT.mk _ _)
  try simp only[bP]
 refine bf.some (λv w'=> ∃l:Int,v= .int .i64 l∧dD l) (λ_ _ _ _ h=>h) ?_ ?_
 ·intro c A w' hok hC hO hD;simp[Act.eval]at hD;obtain⟨l,hc,hl⟩:=hC.2.ln;simp[go_sem,gd,Oper.wp,hD,hc];exact aO.mk (Mk.refl _ _) hC (⟨l,rfl,hl⟩)
 try simp only[bP]
 refine bf.some (λv w'=> ∃(r:Nat) (l:Int),v=jH (NI r l) .nil .nil R3∧1<=r∧r<=15∧dD l) (λ_ _ _ _ h=>h) ?_ ?_
 ·intro c A w' hok hC hO hD;simp[Act.eval]at hD;obtain⟨⟨r,hr,h1,h2⟩,l,hl,h3⟩:=hD;simp[go_sem,gd,Oper.wp,hr,hl];exact aO.mk (Mk.refl _ _) hC (⟨r,l,rfl,h1,h2,h3⟩)
 try simp only[bP]
 refine bf.some (Ab W (.cells RA 101 (0,0)) (λg=> .pointer (some ⟨g,0,none⟩))) (λ_ _ _ hle h=>h.go vF.o hle) ?_ ?_
 ·intro c A w' hok hC hO hD;simp[go_sem,gd,Oper.wp];exact aO.mk (d:=_) (v:= .pointer (some ⟨_,0,none⟩)) (Mk.of_below (aA _ _)) ahy ⟨_,rfl,hC.1.size,heap_alloc_new _ _⟩
 try simp only[bP]
 refine bf.done ?_;intro wz bR
 try simp only[eB]
 intro v0 h0 v1 h1 v2 h2 v3 h3 v4 h4 v5 h5 v6 h6 v7 h7 v8 h8 v9 h9 v10 h10 v11 h11;clear h0 h1 h2 h3 h4 h5 h6 h7 h8 h9;obtain⟨r,l,rfl,hr1,hr2,Ep⟩:=h10;obtain⟨sb,rfl,GX,rQ⟩:=h11;refine dH.nil ?_;go_simp;refine dA 12 [[],[0],[0,1],[0,1,2],[0,1,2,3],[0,1,2,3,4],[],[6],[6,7],[6,7,8],[0,1,2,3,4,5,6,7,8,9],[],[0,1,2,3,4,5,6,7,8,9,10,11]] rfl rfl rfl rfl rfl ahd ahd ahd ?_;have Ao:aj (w.heap.size<sb):=ah (aJ (aU HZ.o) GX);have HLI:=ah Ep;refine wp_store_mid _ _ _ aip sb 0 (oJ (NI r l) .nil .nil R3).toArray aip aip (yH rQ (aH 11)) MI (by simp[oJ,NI,R3,Value.oneCell']) ?_;refine cO rfl ?_;generalize rP:World.setCells wz sb 0 _=W5;obtain⟨kX,vQ,-⟩:=Er rP rQ rfl;have lZ:aj (SI T w sb W5 (NI r l) .nil .nil R3):=ah ⟨⟨kX.o,(HK.o.go bR.1 bR.2).rG (kL vQ.o (λk e=>by cases e;exact aH _) (bM (aU rQ))) (bM Ao.o),(vQ.o.block _ (Nat.lt_trans Ao.o (aU rQ)) (by have:=Ao.o;simp;omega)).trans (bR.1.kp HK.o.tb (aH _) HZ.o),Ao.o⟩,⟨afc,HLI.o,bF _,bF _,bF _,⟨Dj,Dj,bF _,bF _⟩,bF _,bF _⟩,λ_ _=>⟨trivial,trivial,trivial,trivial⟩⟩;clear rP bR rQ GX Ep HZ HK kX vQ vF;go_simp;have y0:W5.cell? ⟨sb,0,none⟩=some (.int .i64 (r:Int)):=aQ lZ.o.1.box rfl;have f0:W5.frozen? ⟨sb,0,none⟩=false:=bC lZ.o.1.box;go_upto_region 4 with fail;go_cut [42] (λs' W'=>W5=W'∧∃q,s'= .bool q∧decide (d=0∧2<=r∧r<=8)=q)
 case first=>
  cases hdz:((d:Int)==0)
  ·have hdn:d≠0:=by simpa using hdz
   go_wp2_with fail;go_meet;exact⟨rfl,_,rfl,ahB⟩
  ·have hdn:d=0:=by simpa using hdz
   have HDN:=ah hdn;clear hdn;go_wp2_with fail
   all_goals go_meet
   all_goals exact⟨rfl,_,rfl,by have:=HDN.o;go_light;grind⟩
 obtain⟨rfl,q,rfl,hq⟩:=hcut;have HQ:=ah hq;clear hq
 go_upto_if 42 with fail
 go_cut [5] (λs5 W'=>s5= .pointer (some ⟨sb,0,none⟩)∧∃r':Nat,1<=r'∧r'<=15∧(d=0->r'<2∨8<r')∧SI T w sb W' (NI r' l) .nil .nil R3)
 case first=>
  cases q
  ·have hq: ¬(d=0∧2<=r∧r<=8):=by simpa using HQ.o
   have DL:aj (d=0->r<2∨8<r):=ah (λe=>ahe);clear hq;go_wp2_with fail;go_meet;exact⟨rfl,r,hr1,hr2,DL.o,lZ.o⟩
  ·go_wp2_with fail;go_meet;exact⟨rfl,1,ahf,ahf,λ_=> .inl ahf,lZ.o.1.put 0 _,⟨by show dD 1;unfold dD;decide,lZ.o.2.1.2⟩,lZ.o.2.2.next (rU _ _)⟩
 obtain⟨rfl,r',hr1',hr2',aK7,hS⟩:=hcut;obtain⟨W6,rfl⟩: ∃W:World,W=wc:=⟨_,rfl⟩;have oC:=ah hS;have HR3:=ah aK7;clear hS aK7 lZ HQ y0 f0 hr1 hr2;have y0:W6.cell? ⟨sb,0,none⟩=some (.int .i64 (r':Int)):=aQ oC.o.1.box rfl;go_upto_block 0 with fail;go_cut [5] (λs5 W'=>s5= .pointer (some ⟨sb,0,none⟩)∧∃h s,SI T w sb W' h .nil .nil s∧h.op=(r':Int)∧fu h<=400)
 case first=>
  have E1:aj (zL T 1):=ah (JC T 1 ahf);have E2:aj (zL T 2):=ah (JC T 2 ahf);clear y0;have hc:(r':Int)=1∨(r':Int)=14∨(r':Int)=15∨(r':Int)=2∨(r':Int)=3∨(r':Int)=4∨(r':Int)=5∨(r':Int)=6∨(r':Int)=9∨(r':Int)=10∨(r':Int)=11∨(r':Int)=12∨(r':Int)=13∨(r':Int)=7∨(r':Int)=8:=ahe
  clear hr1' hr2';rcases hc with hop|hop|hop|hop|hop|hop|hop|hop|hop|hop|hop|hop|hop|hop|hop
  all_goals
   first|have G:=op1 hop|have G:=op2 hop|have G:=Ye hop|have G:=Yf hop|have G:=Yg hop|have G:=Yh hop|have G:=Yi hop|have G:=Yj hop|have G:=Yk hop|have G:=QM hop|have G:=QN hop|have G:=QO hop|have G:=QS hop|have G:=QT hop|have G:=QU hop
   obtain⟨g1,g2,g3,g4,g5,g6,g7,g8,g9,g10,g11,g12,g13,g14,g15⟩:=G;clear hop
  ·go_wp2_with fail;refine(XV oC.o (by exact nms [[120],[121],[97],[118],[113]] rfl) ahf ahf).mono ?_;rintro e wa ⟨sa,rfl,hsa,GI⟩;have yQ:=ah GI;have OX:=ah hsa;clear hsa GI;have y2:=(vY yQ.o.1.box).2.2.1;have f2:wa.frozen? ⟨sb,2,none⟩=false:=bC yQ.o.1.box;go_upto_region 9 with fail;generalize CY:World.setCell wa _ _=wb;have vV:=ah (yQ.o.nm sa OX.o);rw[CY]at vV;clear CY y2 f2 yQ;go_cut [62] (λs' W'=>(∃q,s'= .bool q)∧SI T w sb W' {NI r' l with nm:=sa} .nil .nil R3)
   case first=>
    have y2:=(vY vV.o.1.box).2.2.1;have c0:=vV.o.1.k.mi.ptr;go_wp2_with (first|(go_at_call 12;refine(gN T 6 _ afo vV.o.1.k.mi).mono ?_;rintro e wn ⟨kn,rfl,hn1,Xr,hIn⟩;have HSn:=ah (vV.o.go Xr hIn);clear Xr hIn))
    all_goals go_meet
    all_goals first|exact⟨⟨_,rfl⟩,HSn.o⟩|exact⟨⟨_,rfl⟩,vV.o⟩
   obtain⟨⟨q,rfl⟩,NP⟩:=hcut;obtain⟨wd,rfl⟩: ∃W:World,W=wc:=⟨_,rfl⟩;have Nh:=ah NP;clear NP vV
   go_upto_if 62 with fail
   go_cut [5] (λs5 W'=>s5= .pointer (some ⟨sb,0,none⟩)∧∃ix s,dR ix<100∧SI T w sb W' {NI r' l with nm:=sa,idx:=ix} .nil .nil s)
   case first=>
    cases q
    ·go_wp2_with fail;go_meet;exact⟨rfl,.nil,_,ahf,Nh.o⟩
    ·go_wp2_with fail;refine(exS Nh.o E1.o).mono ?_;rintro e we ⟨xo,xn,xm,xk,xa,xc,rfl,hok,hst,hS'⟩;have je:=ah hok;have HST:=ah hst;have Ko:=ah hS';clear hok hst hS';unfold exV;have y4:=(vY Ko.o.1.box).2.2.2.2.1;have f4:we.frozen? ⟨sb,4,none⟩=false:=bC Ko.o.1.box;have hlt:sb<we.heap.size:=Ko.o.1.sz;go_wp2_with fail;go_meet;have HR:=Ko.o.go (Mk.of_below (aA _ (.cells #[.int .i64 xo,.int .i64 xn,.string xm,.slice xa xk.len xc] 99))) (Ko.o.1.k.mi.below (aA _ _));have P7:=HR.idx (.cons xo xn xm xk .nil) (some ⟨we.heap.size,0,none⟩) 1 (by simp[bY.len,maxLen]) (F6 (heap_alloc_new _ _) hlt je.o.1 ((HST.o).next (dO (aA _ _))));rw[World.setCell_alloc_past _ _ _ _ (show(Addr.mk sb 4 none).block<_ from hlt)]at P7;have HRH:=ah P7;clear P7 HR;refine⟨rfl,?_⟩;exact⟨.cons xo xn xm xk .nil,_,by have:=je.o.2;have e:GE (Int.toNat 1)=12:=rfl;show 1+dR xk+0<100;omega,HRH.o⟩
   obtain⟨rfl,ix,s2,hix,NP⟩:=hcut;have IW:=ah hix;obtain⟨wg,rfl⟩: ∃W:World,W=wc:=⟨_,rfl⟩;have HSg:=ah NP;clear hix NP Nh;go_wp2_with fail;refine(exS HSg.o E2.o).mono ?_;rintro e we ⟨xo,xn,xm,xk,xa,xc,rfl,hok,hst,hS'⟩;have je:=ah hok;have HST:=ah hst;have FX:=ah hS';clear hok hst hS';unfold exV;obtain⟨-,-,-,-,-,y5,y6,y7,y8,-,-⟩:=vY FX.o.1.box;have f: ∀j,we.frozen? ⟨sb,j,none⟩=false:=λj=>bC FX.o.1.box;go_wp2_with fail;go_meet;exact⟨rfl,_,_,FX.o.x xo xn xm xk xa xc je.o.1 HST.o,rfl,ah6 je.o.2 IW.o ahf⟩
  ·as_aux_lemma=>go_wp2_with fail;refine(XV oC.o (by exact nms [[102]] rfl) ahf ahf).mono ?_;rintro e wa ⟨sa,rfl,hsa,GI⟩;have yQ:=ah GI;have OX:=ah hsa;clear hsa GI;have y2:=(vY yQ.o.1.box).2.2.1;have f2:wa.frozen? ⟨sb,2,none⟩=false:=bC yQ.o.1.box;go_upto_region 31 with fail;generalize CY:World.setCell wa _ _=wb;have vV:=ah (yQ.o.nm sa OX.o);rw[CY]at vV;clear CY y2 f2 yQ;go_wp2_with fail;refine(exS vV.o E1.o).mono ?_;rintro e we ⟨xo,xn,xm,xk,xa,xc,rfl,hok,hst,hS'⟩;have je:=ah hok;have HST:=ah hst;have FX:=ah hS';clear hok hst hS';unfold exV;obtain⟨-,-,-,-,-,y5,y6,y7,y8,-,-⟩:=vY FX.o.1.box;have f: ∀j,we.frozen? ⟨sb,j,none⟩=false:=λj=>bC FX.o.1.box;go_wp2_with fail;go_meet;exact⟨rfl,_,_,FX.o.x xo xn xm xk xa xc je.o.1 HST.o,rfl,ah6 je.o.2 (show 0<100 by decide) ahf⟩
  ·as_aux_lemma=>go_wp2_with fail;refine(XV oC.o (by exact nms [[97]] rfl) ahf ahf).mono ?_;rintro e wa ⟨sa,rfl,hsa,GI⟩;have yQ:=ah GI;have OX:=ah hsa;clear hsa GI;have y2:=(vY yQ.o.1.box).2.2.1;have f2:wa.frozen? ⟨sb,2,none⟩=false:=bC yQ.o.1.box;go_upto_region 34 with fail;generalize CY:World.setCell wa _ _=wb;have vV:=ah (yQ.o.nm sa OX.o);rw[CY]at vV;clear CY y2 f2 yQ;go_wp2_with fail;refine(XV vV.o (by exact nms [[102]] rfl) ahf ahf).mono ?_;rintro e wc ⟨sc,rfl,hsc,hSc⟩;have HSc:=ah hSc;have HNc:=ah hsc;clear hsc hSc;have y3:=(vY HSc.o.1.box).2.2.2.1;have f3:wc.frozen? ⟨sb,3,none⟩=false:=bC HSc.o.1.box;go_wp2_with fail;go_meet;exact⟨rfl,_,_,HSc.o.arg sc HNc.o,rfl,(by decide:3+0+0<=400)⟩
  iterate 2
   ·as_aux_lemma=>go_wp2_with fail;refine(exS oC.o E2.o).mono ?_;rintro e we ⟨xo,xn,xm,xk,xa,xc,rfl,hok,hst,hS'⟩;have je:=ah hok;have HST:=ah hst;have FX:=ah hS';clear hok hst hS';unfold exV;obtain⟨-,-,-,-,-,y5,y6,y7,y8,-,-⟩:=vY FX.o.1.box;have f: ∀j,we.frozen? ⟨sb,j,none⟩=false:=λj=>bC FX.o.1.box;go_wp2_with fail;go_meet;exact⟨rfl,_,_,FX.o.x xo xn xm xk xa xc je.o.1 HST.o,rfl,ah6 je.o.2 (show 0<100 by decide) ahf⟩
  iterate 8
   ·as_aux_lemma=>go_wp2_with fail;refine(XV oC.o (by first|exact nms [[109],[110]] rfl|exact nms [[114]] rfl|exact nms [[99]] rfl|exact nms [[116],[117],[119]] rfl) ahf ahf).mono ?_;rintro e wa ⟨sa,rfl,hsa,GI⟩;have yQ:=ah GI;have OX:=ah hsa;clear hsa GI;have y2:=(vY yQ.o.1.box).2.2.1;have f2:wa.frozen? ⟨sb,2,none⟩=false:=bC yQ.o.1.box;go_wp2_with fail;go_meet;exact⟨rfl,_,_,yQ.o.nm sa OX.o,rfl,(by decide:3+0+0<=400)⟩
  all_goals go_wp2_with fail;go_meet;exact⟨rfl,_,_,oC.o,rfl,(by decide:3+0+0<=400)⟩
 obtain⟨rfl,h,s,hS,hop,GY⟩:=hcut;obtain⟨W7,rfl⟩: ∃W:World,W=wc:=⟨_,rfl⟩;have yP:=ah hS;have dI:=ah hop;have Uw:=ah GY;clear hS hop GY oC y0;have y0:W7.cell? ⟨sb,0,none⟩=some (.int .i64 (r':Int)):=by rw[<- dI.o];exact aQ yP.o.1.box rfl
 go_upto_region 35 with fail;go_cut [133] (λs' W'=>W7=W'∧∃q,s'= .bool q∧decide (2<=r'∧r'<=8)=q)
 case first=>
  go_wp2_with fail
  all_goals go_meet
  all_goals exact⟨rfl,_,rfl,ahB⟩
 obtain⟨rfl,q,rfl,hq⟩:=hcut;have HQ:=ah hq;clear hq
 go_upto_if 133 with fail
 go_cut [5] (λs5 W'=>s5= .pointer (some ⟨sb,0,none⟩)∧∃b e s,EI (GS d) h b e∧SI T w sb W' h b e s)
 case first=>
  cases q
  ·go_wp2_with fail;go_meet;have HF:aj (EI (GS d) h .nil .nil):=ah (ME Uw.o JW JW (by have:=VE d;omega));exact⟨rfl,.nil,.nil,s,HF.o,yP.o⟩
  ·have hq:2<=r'∧r'<=8:=by simpa using HQ.o
   have hdd: ∃d',d=d'+1:=⟨d -1,by have:=HR3.o;omega⟩;have Ke:aj (400+3*GS (d -1)+GS (d -1)<=GS d):=ah (by obtain⟨d',rfl⟩:=hdd;exact aR2 d');have HSL:aj (∀w (n:Int),jN w T->dD n->n<=1000->Calls Tryz.prog 15 #[.pointer (some ⟨T.bm,0,none⟩),.int .i64 ((d:Int) -1),.int .i64 n] w (SlP T (n.toNat*GS (d -1)) w)):=ah (by obtain⟨d',rfl⟩:=hdd;have:=oL.o d' rfl;unfold DZ at this;rw[Int.toNat_natCast]at this;rw[show((d'+1:Nat):Int) -1=(d':Int) by omega];exact this);have HQQ:=ah hq;have hd0:0<d:=by obtain⟨d',rfl⟩:=hdd;omega
   have c0:=yP.o.1.k.mi.ptr;clear hq hdd;go_wp2_with fail;refine(gN T 3 _ afo yP.o.1.k.mi).mono ?_;rintro e w8 ⟨k,rfl,hk1,hM8,hI8⟩;have hk3:k<3:=by have:=hk1 ahf;omega
   have pY:=ah (yP.o.go hM8 hI8);clear hM8 hI8 hk1 c0 y0;go_wp2_with fail;refine(HSL.o _ _ pY.o.1.k.mi afM ahe).mono ?_;rintro e w9 ⟨lb,ao,cap,rfl,hln,hst,hM9,hI9⟩;have HS9:=ah (pY.o.go hM9 hI9);have rC:aj (aY.len lb<=1000∧vM (3*GS (d -1)) lb):=ah ⟨hln.1,hln.2.mono (Nat.mul_le_mul_right _ ahe)⟩;have HST:=ah (hst.mono pY.o.1.sz);clear hM9 hI9 hln hst hk3;have y9:=(vY HS9.o.1.box).2.2.2.2.2.2.2.2.2.1;have f9:w9.frozen? ⟨sb,9,none⟩=false:=bC HS9.o.1.box;go_upto_region 37 with fail;generalize CY:World.setCell w9 _ _=wb;have vV:=ah (HS9.o.body lb ao cap rC.o.1 HST.o);rw[CY]at vV;clear CY y9 f9 HS9;have y0:wb.cell? ⟨sb,0,none⟩=some (.int .i64 (r':Int)):=by rw[<- dI.o];exact aQ vV.o.1.box rfl
   have c0:=vV.o.1.k.mi.ptr;go_cut [155] (λs' W'=>(∃q,s'= .bool q)∧SI T w sb W' h lb .nil {s with dL:=ao,cK:=cap})
   case first=>
    cases h2:((r':Int)==2)
    ·go_wp2_with fail;go_meet;exact⟨⟨_,rfl⟩,vV.o⟩
    ·go_wp2_with (first|(go_at_call 12;refine(gN T 3 _ afo vV.o.1.k.mi).mono ?_;rintro e wn ⟨kn,rfl,hn1,Xr,hIn⟩;have HSn:=ah (vV.o.go Xr hIn);clear Xr hIn))
     all_goals go_meet
     all_goals exact⟨⟨_,rfl⟩,HSn.o⟩
   obtain⟨⟨q,rfl⟩,NP⟩:=hcut;obtain⟨wd,rfl⟩: ∃W:World,W=wc:=⟨_,rfl⟩;have Nh:=ah NP;clear NP vV y0 c0;cases q
   ·go_wp2_with fail;go_meet;have HF:aj (EI (GS d) h lb .nil):=ah (ME Uw.o rC.o.2 JW (by have:=Ke.o;omega));exact⟨rfl,lb,.nil,_,HF.o,Nh.o⟩
   ·go_wp2_with fail;refine(HSL.o _ _ Nh.o.1.k.mi afo ahf).mono ?_;rintro e wf ⟨le,gJ,fH,rfl,hln,hst,hMf,hIf⟩;have Ko:=ah (Nh.o.go hMf hIf);have jV:aj (aY.len le<=1000∧vM (GS (d -1)) le):=ah ⟨hln.1,hln.2.mono (Nat.le_of_eq (Nat.one_mul _))⟩;have bj0:=ah (hst.mono Nh.o.1.sz);clear hMf hIf hln hst;have uo:=(vY Ko.o.1.box).2.2.2.2.2.2.2.2.2.2;have f10:wf.frozen? ⟨sb,10,none⟩=false:=bC Ko.o.1.box;go_wp2_with fail;go_meet;have HF:aj (EI (GS d) h lb le):=ah (ME Uw.o rC.o.2 jV.o.2 (by have:=Ke.o;omega));exact⟨rfl,lb,le,_,HF.o,Ko.o.els le gJ fH jV.o.1 bj0.o⟩
 obtain⟨rfl,b,e,s',GY,hS⟩:=hcut;obtain⟨W8,rfl⟩: ∃W:World,W=wc:=⟨_,rfl⟩;have pY:=ah hS;have xU:=ah GY;clear hS GY yP HQ Uw dI y0;obtain⟨y0,y1,y2,y3,y4,y5,y6,y7,y8,y9,uo⟩:=vY pY.o.1.box;have f: ∀j,W8.frozen? ⟨w.heap.size,j,none⟩=false:=λj=>bC pY.o.1.z;obtain⟨z0,z1,z2,z3,z4,z5,z6,z7,z8,z9,dw⟩:=vY (h:=NI 0 0) (b:= .nil) (e:= .nil) (s:=R3) pY.o.1.z;go_wp2_with fail;clear f;have HP:=ah (jl (jl (jl (jl (jl (jl (jl (jl (jl (jl (jl ⟨pY.o.1.k,jS.refl _ _⟩ 0 (.int .i64 h.op)) 1 (.int .i64 h.line)) 2 (.string h.nm)) 3 (.string h.arg)) 4 (.slice s'.fM h.idx.len s'.eU)) 5 (.int .i64 h.dQ)) 6 (.int .i64 h.xn)) 7 (.string h.dP)) 8 (.slice s'.fD h.bG.len s'.dS)) 9 (.slice s'.dL b.len s'.cK)) 10 (.slice s'.gJ e.len s'.fH));exact bodyPost_ret (v:=jH h b e s') (by simp[results,Tryz.results31,go_sem,jH,z0,z1,z2,z3,z4,z5,z6,z7,z8,z9,dw]) rfl ⟨h,b,e,s',rfl,xU.o,⟨pY.o.2.1,(pY.o.2.2.next (HP.o.2.mono (Nat.succ_le_succ (bM pY.o.1.lt)))).mono (Nat.le_succ_of_le (bM pY.o.1.lt))⟩,HP.o.1.km,HP.o.1.mi⟩
theorem Rl {q:Nat} : ∀l:List kE,(∀x∈l,EI q x.h x.b x.e)->vM (l.length*q) (wG l)
 | [],_=>⟨bF _,trivial⟩
 |x::r,h=>by obtain⟨h1,h2,h3,h4⟩:=h x aW;have hr:=Rl r (λy hy=>h y (aX _ hy));refine⟨?_,by show fu x.h<=300000;omega,h3,h4,hr.2⟩;have:=hr.1;show fu x.h+jR x.b+jR x.e+jR (wG r)<=(r.length+1)*q;rw[Nat.add_mul];omega
theorem av0 (x:kE): ∀u∈kE.f x,u.oneCell'=true:=by
 intro u hu;simp[kE.f]at hu;rcases hu with rfl|rfl|rfl|rfl|rfl|rfl|rfl|rfl|rfl|rfl|rfl <;> rfl
theorem LW (T:Tp) (d:Int) (hst:KC T d):DZ T d:=by
 intro w n hI hn1 hn2;have HST:=ah hst;have HK:aj (Ki T w w):=ah ⟨hI,Mk.refl _ _,hI.tb⟩;obtain⟨hn3,hn4⟩:=hn1;obtain⟨i0,hi,hz0,hz1,hz2⟩:=MH;have fF:=ah (aB hi (aB hz0 (aB hz1 hz2)));clear hst hI hi hz0 hz1 hz2;go_enter Tryz.func15,Tryz.ntmps15;go_wp2_with fail;go_loopw [7,8] (λv7 v8 wr=> ∃(k:Nat) (l:List kE),v8= .int .i64 k∧k<=n.toNat∧l.length=k∧Ia w.heap.size wr v7 l∧(∀x∈l,uE x.h x.b x.e∧EI (GS d.toNat) x.h x.b x.e)∧Ki T w wr) (λ_ i _=>(n -intOf i).toNat)
 case atStart=>exact⟨0,[],rfl,bF _,rfl,Grow.nil _ _ _ _ _ _,ahg,HK.o⟩
 case round=>
  clear HK;obtain⟨k,l,rfl,hk,hl,hg,hok,hki⟩:=hrel;have HR:aj (SlP T (n.toNat*GS d.toNat) w (.returned u7) wr):=ah (by obtain⟨ao,cap,e,hst⟩:=hg.says (λx hx=>(hok x hx).1);exact⟨wG l,ao,cap,congrArg Ending.returned e,⟨by rw[Db,hl];omega,(Rl l (λx hx=>(hok x hx).2)).mono (Nat.mul_le_mul_right _ (by rw[hl];exact hk))⟩,hst,hki.km,hki.mi⟩);obtain⟨line,left,h1,h2,h3,hblk⟩:=hki.mi.Fx;have HL:=ah hl;have HG:=ah hg;have je:=ah hok;have HK:=ah hki;have jv:=ah (aB h1 (aB h3 hblk));have c2:wr.cell? ⟨T.bm,2,none⟩=some (.int .i64 left):=aQ hblk rfl;clear hl hg hok hki h1 h3 hblk;by_cases hlt:(k:Int)<n
  ·by_cases hlf:0<left
   ·go_wp2_with fail;refine(HST.o _ HK.o.mi ⟨line,left,jv.o.1,hlf,jv.o.2.1,jv.o.2.2⟩).mono ?_;rintro e w1 ⟨h,b,e',s,rfl,GY,ac4,hM,hI1⟩;have rZ:=ah (HG.o.next (hM.ab HK.o.tb (aH _)));have nE:=ah (HK.o.go hM hI1);have bi1:=ah (aB ac4.1 GY);have HX:=ah ac4.2;have oM:=ah HG.o.lt;clear hM hI1 ac4 GY HG jv c2 HR;unfold jH;have nD:=ah (rZ.o.next (dO (aA w1 (.cells (kE.f ⟨h,b,e',s⟩).toArray 101))));have N7:=ah (nE.o.al (.cells (kE.f ⟨h,b,e',s⟩).toArray 101));obtain⟨hi,hz0,hz1,hz2⟩:=fF.o;have hkl:l.length+1<=maxLen:=(by rw[HL.o];unfold maxLen;omega);have Lc:(l.length+1)*176<=140737488355328:=(by rw[HL.o];omega);go_wp2_with (at_builtin;refine wpList_append_lies _ rfl _ _ 57 rfl w.heap.size 101 i0 _ 11 176 Tryz.underlying57 hi hz0 hz1 hz2 rfl ahf _ _ _ rfl nD.o.own ⟨w1.heap.size,0,none⟩ 1 1 (kE.f ⟨h,b,e',s⟩) rfl rfl (gG (heap_alloc_new _ _)) (av0 _) ahf hkl Lc N7.o.km.size _ rfl ?_);clear hi hz0 hz1 hz2;intro g cap w2 hown hgr hmv hlt2;have HG2:=ah (nD.o.push (x:=⟨h,b,e',s⟩) (F5 (HX.o.next (dO (aA _ _))) HK.o.km.size (λk hk=>(oM.o k hk).2)) rfl hown hgr afP);have lI:=ah (N7.o.rG (kL hgr (λk hk=>(oM.o k hk).1) N7.o.km.size) (aH _));have bi2:aj (∀x∈l++[(⟨h,b,e',s⟩:kE)],uE x.h x.b x.e∧EI (GS d.toNat) x.h x.b x.e):=ah (λx hx=>by
     rcases List.mem_append.1 hx with hx|hx
     ·exact je.o x hx
     ·rw[List.mem_singleton.1 hx];exact bi1.o)
    clear hown hgr hmv hlt2 hkl Lc HX nD;go_wp2_with fail;go_roundw
    case rel=>exact⟨k+1,l++[⟨h,b,e',s⟩],ahi,ahe,by simp[HL.o],HG2.o,bi2.o,lI.o⟩
    case measure=>simp[intOf];omega
   ·have hlz:left=0:=ahe;subst hlz;go_wp2_with fail;go_ret;exact HR.o
  ·go_wp2_with fail;go_ret;exact HR.o
theorem Rn (T:Tp): ∀d:Nat,d<=100->KC T (d:Int)
 |0,h=>O4 T 0 h (λd' e=>ahe)
 |d+1,h=>O4 T (d+1) h (λd' e=>by
  obtain rfl:d=d':=ahe
  exact LW T _ (Rn T d ahe))
theorem O5 (T:Tp) (d:Nat) (h:d<=100):DZ T (d:Int):=LW T _ (Rn T d h)
def zDe:Array Value:= #[.int .i64 0,.int .i64 0,.string ⟨#[]⟩,.int .i64 0,.int .i64 0,.string ⟨#[]⟩]
def dvL (d:De):Value:= .agg #[.int .i64 d.kind,.int .i64 d.line,.string d.nm,.int .i64 d.size,.int .i64 d.init,.string d.on]
def d0 (r l:Int) (s:ByteArray):De:=⟨r,l,s,0,0,⟨#[]⟩⟩
def aN4:Array Value:=Jf [[120],[121],[118],[113],[109],[110],[114],[99],[100],[102],[103],[116]]
theorem U7:Nms 12 aN4:=nms [[120],[121],[118],[113],[109],[110],[114],[99],[100],[102],[103],[116]] rfl
def bg4 (T:Tp) (w:World) (e':Ending) (w':World):Prop:= ∃d,e'= .returned (dvL d)∧d.Ok∧Mk T w w'∧jN w' T
def in6 (a b c:Int):Array Value:= #[.int .i64 0,.int .i64 0,.int .i64 1,.int .i64 a,.int .i64 b,.int .i64 c]
theorem XL (a b c:Int) (ha:dD a∧dD b∧dD c): ∀j,j<6->∃z,(in6 a b c)[j]? =some (.int .i64 z)∧dD z
 |0,_|1,_=>⟨_,rfl,Dj⟩
 |2,_=>⟨_,rfl,afo⟩
 |3,_=>⟨_,rfl,ha.1⟩
 |4,_=>⟨_,rfl,ha.2.1⟩
 |5,_=>⟨_,rfl,ha.2.2⟩
structure DI (T:Tp) (w:World) (db:Nat) (W:World) (d:De):Prop where
 box:W.heap[db]? =some (.cells (oD d).toArray 55 (0,0))
 ok:d.Ok
 nms:W.heap[w.heap.size+1]? =some (.cells aN4 9 (0,0))
 k:Ki T w W
 z:W.heap[w.heap.size]? =some (.cells zDe 55 (0,0))
 lt:w.heap.size+1<db
section
variable {T:Tp} {w W W':World} {db:Nat} {d:De}
theorem DI.le (h:DI T w db W d):w.heap.size<=db:=agj
theorem DI.go (h:DI T w db W d) (hM:Mk T W W') (hI:jN W' T):DI T w db W' d:=
 ⟨hM.kp h.k.tb h.le h.box,h.ok,hM.kp h.k.tb (eG _) h.nms,h.k.go hM hI,hM.kp h.k.tb (aH _) h.z,h.lt⟩
theorem DI.put {d':De} (h:DI T w db W d) (j:Nat) (v:Value) (hv:(oD d).toArray.setIfInBounds j v=(oD d').toArray) (hs:d'.Ok):DI T w db (W.setCell ⟨db,j,none⟩ v) d':=
 ⟨by rw[dX h.box,hv],hs,(dB W _ _ rfl (Nat.ne_of_gt h.lt)).trans h.nms,h.k.set _ _ h.le,(dB W _ _ rfl (by have:=h.lt;show db≠_;omega)).trans h.z,h.lt⟩
theorem dC {t:TypeId} (h:W.heap[db]? =some (.cells (oD d).toArray t (0,0))):W.cell? ⟨db,0,none⟩=some (.int .i64 d.kind)∧W.cell? ⟨db,1,none⟩=some (.int .i64 d.line)∧W.cell? ⟨db,2,none⟩=some (.string d.nm)∧W.cell? ⟨db,3,none⟩=some (.int .i64 d.size)∧W.cell? ⟨db,4,none⟩=some (.int .i64 d.init)∧W.cell? ⟨db,5,none⟩=some (.string d.on):=
 ⟨aQ h rfl,aQ h rfl,aQ h rfl,aQ h rfl,aQ h rfl,aQ h rfl⟩
end
theorem nxD {T:Tp} {w W:World} {db:Nat} {d:De} (n:Nat) (cs:Array Value) (t:TypeId) (hn:n=6) (h:DI T w db W d):
 Calls Tryz.prog 12 #[.pointer (some ⟨T.bt,0,none⟩),.int .i64 n] (W.alloc (.cells cs t)) λe w'=> ∃r:Nat,e= .returned (.int .i64 (r:Int))∧r<6∧w'.heap[W.heap.size]? =some (.cells cs t (0,0))∧DI T w db w' d:=by
 subst hn;have k:=h.k.al (.cells cs t);exact(gN T 6 _ afo k.mi).mono λe w' ⟨r,h1,h2,h3,h4⟩=>⟨r,h1,by have:=h2 ahf;omega,h3.kp k.tb h.k.km.size (heap_alloc_new _ _),h.go ((Mk.of_below (aA _ _)).trans h3) h4⟩
theorem ar1:(Tryz.prog.info? 55).map (·.size)=some 6:=ahd
theorem aa4 (T:Tp) (w:World) (hI:jN w T):Calls Tryz.prog 14 #[.pointer (some ⟨T.bm,0,none⟩)] w (bg4 T w):=by
 obtain⟨line,left,hl1,hl2,hl3,hblk⟩:=hI.Fx;have HI0:=ah hI;have GK:=hI.lt;have c1:w.cell? ⟨T.bm,1,none⟩=some (.int .i64 line):=aQ hblk rfl;have f1:w.frozen? ⟨T.bm,1,none⟩=false:=bC hblk;clear hI hblk hl1;go_enter Tryz.func14,Tryz.ntmps14;go_upto_region 3 with fail;obtain⟨w0,hw0⟩: ∃x,x=w.setCell ⟨T.bm,1,none⟩ (.int .i64 (wrap64 (line+1))):=⟨_,rfl⟩;rw[<- hw0];generalize hW:World.alloc (World.alloc w0 _) _=W;have hsz:w0.heap.size=w.heap.size:=by rw[hw0];simp[World.setCell]
 obtain⟨nb,hnb,-,HB,-,HZ,HN,-⟩:=WK hW;rw[hsz]at hnb HB;subst hnb;have HK:aj (Ki T w W):=ah (Ki.rG ⟨by rw[hw0];exact HI0.o.line (Fa _),by rw[hw0];exact(Mk.refl T w).R7 _ _,HI0.o.tb⟩ HB.o (aH _));clear hW hw0 hsz HB c1 f1 GK hl2 hl3;have KN: ∀w',Mk T W w'->∀j,j<12->∃s,w'.cell? ⟨w.heap.size+1,j,none⟩=some (.string s)∧s.size<=12:=λw' h j hj=>by obtain⟨s,h1,h2⟩:=U7 j hj;exact⟨s,aQ (h.kp HK.o.tb (eG _) HN.o) h1,h2⟩
 have vF:aj (Tb T W.heap.size):=ah HK.o.mi.tb;refine bS ahd rfl ?_;refine bK 0 22 [] [[],[0],[0,1],[0,1,2],[0,1,2,3],[0,1,2,3,4],[],[6],[6,7],[6,7,8],[],[],[11],[11,12],[11,12,13],[],[15],[0,1,2,3,4,11,12,13,14,15,16],[0,1,2,3,4,10,11,12,13,14,15,16,17],[0,1,2,3,4,10,11,12,13,14,15,16,17,18],[0,1,2,3,4,5,6,7,8,9,10,11,12,13,14,15,16,17,18,19],[],[0,1,2,3,4,5,6,7,8,9,10,11,12,13,14,15,16,17,18,19,20,21]] [[],[],[],[],[],[],[],[],[],[],[],[],[],[],[],[],[],[],[],[],[],[]] (CM T W) (Mk T) [13,14,15,16,17,18,19,20,21,22,23,24,25,26,27,28,29,30,31,32,33,4] rfl rfl aip ahd ahd ahd ahd ahd aip (Mk.refl T) aip (qK HK.o.mi) ?_;simp only[eB,iP]
 iterate 4
  apply bf.step
  case aZ=>intro c A w' hok hC hO hD;have e0:=hO 0 aip;simp[Act.eval]at e0;simp[Act.eval]at hD;simp[go_sem,gd,Oper.wp,hD,e0,hC.2.ptr];exact aO.mk (Mk.refl _ _) hC (bT.mk _ _)
  try simp only[bP]
 refine bf.some (yV 0 5) (λ_ _ _ _ h=>h) ?_ ?_
 ·intro c A w' hok hC hO hD;simp[Act.eval]at hD;simp[go_sem,gd,Oper.wp,hD];refine(gN T 6 w' afo hC.2).mono ?_;rintro e w2 ⟨r,rfl,h1,hM,hI⟩;exact aO.mk hM ⟨hC.1.trans hM,hI⟩ ⟨r,rfl,bF _,acY⟩
 try simp only[bP]
 refine bf.some (λv w'=>yV 1 6 v w') (λ_ _ _ _ h=>h) ?_ ?_
 ·intro c A w' hok hC hO hD;simp[Act.eval]at hD;obtain⟨r,hr,hr7,Qw⟩:=hD;have hw:IntKind.i64.wrap (1+(r:Int))=1+r:=IntWalk.i64_in _ ahe;simp[go_sem,gd,Oper.wp,hr,hw];exact aO.mk (Mk.refl _ _) hC (⟨1+r,ahg,ahe,ahe⟩)
 try simp only[bP]
 iterate 3
  apply bf.step
  case aZ=>intro c A w' hok hC hO hD;have e0:=hO 0 aip;simp[Act.eval]at e0;simp[Act.eval]at hD;simp[go_sem,gd,Oper.wp,hD,e0];exact aO.mk (Mk.refl _ _) hC (bT.mk _ _)
  try simp only[bP]
 refine bf.some (λv w'=> ∃l:Int,v= .int .i64 l∧dD l) (λ_ _ _ _ h=>h) ?_ ?_
 ·intro c A w' hok hC hO hD;simp[Act.eval]at hD;obtain⟨l,hc,hl⟩:=hC.2.ln;simp[go_sem,gd,Oper.wp,hD,hc];exact aO.mk (Mk.refl _ _) hC (⟨l,rfl,hl⟩)
 try simp only[bP]
 iterate 7
  apply bf.step
  case aZ=>intro c A w' hok hC hO hD;have e3:=hO 3 aip;have e0:=hO 0 aip;simp[Act.eval]at e3 e0;simp[Act.eval]at hD;simp[go_sem,gd,Oper.wp,hD,e3,e0,hC.2.ptr];exact aO.mk (Mk.refl _ _) hC (bT.mk _ _)
  try simp only[bP]
 refine bf.some (yV 0 11) (λ_ _ _ _ h=>h) ?_ ?_
 ·intro c A w' hok hC hO hD;simp[Act.eval]at hD;simp[go_sem,gd,Oper.wp,hD];refine(gN T 12 w' afo hC.2).mono ?_;rintro e w2 ⟨r,rfl,h1,hM,hI⟩;exact aO.mk hM ⟨hC.1.trans hM,hI⟩ ⟨r,rfl,bF _,acY⟩
 try simp only[bP]
 refine bf.some (λv w'=> ∃r:Nat,v= .pointer (some ⟨w.heap.size+1,r,none⟩)∧r<12) (λ_ _ _ _ h=>h) ?_ ?_
 ·intro c A w' hok hC hO hD;simp[Act.eval]at hD;obtain⟨h46,r,hr,h0,h1⟩:=hD;have hb0:(0:Int)<=(r:Int):=by omega
  have hb1:(r:Int)<12:=ahe
  simp[go_sem,gd,Oper.wp,h46,hr,hb0,hb1];exact aO.mk (Mk.refl _ _) hC (⟨r,rfl,ahe⟩)
 try simp only[bP]
 refine bf.some (λv w'=>Ph v w') (λ_ _ _ _ h=>h) ?_ ?_
 ·intro c A w' hok hC hO hD;simp[Act.eval]at hD;obtain⟨r,hr,h1⟩:=hD;obtain⟨s,hs,hsz⟩:=KN w' hC.1 r h1;simp[go_sem,gd,Oper.wp,hr,hs];exact aO.mk (Mk.refl _ _) hC (⟨s,rfl,hsz⟩)
 try simp only[bP]
 refine bf.some (λv w'=> ∃(r:Nat) (l:Int) (s:ByteArray),v=dvL (d0 r l s)∧r<=6∧dD l∧s.size<=12) (λ_ _ _ _ h=>h) ?_ ?_
 ·intro c A w' hok hC hO hD;simp[Act.eval]at hD;obtain⟨⟨r,hr,h1,h2⟩,⟨l,hl,h3⟩,s,hs,h4⟩:=hD;simp[go_sem,gd,Oper.wp,hr,hl,hs];exact aO.mk (Mk.refl _ _) hC (⟨r,l,s,rfl,h2,h3,h4⟩)
 try simp only[bP]
 refine bf.some (Ab W (.cells zDe 55 (0,0)) (λg=> .pointer (some ⟨g,0,none⟩))) (λ_ _ _ hle h=>h.go vF.o hle) ?_ ?_
 ·intro c A w' hok hC hO hD;simp[go_sem,gd,Oper.wp];exact aO.mk (d:=_) (v:= .pointer (some ⟨_,0,none⟩)) (Mk.of_below (aA _ _)) ahy ⟨_,rfl,hC.1.size,heap_alloc_new _ _⟩
 try simp only[bP]
 refine bf.done ?_;intro wz bR
 try simp only[eB]
 intro v0 h0 v1 h1 v2 h2 v3 h3 v4 h4 v5 h5 v6 h6 v7 h7 v8 h8 v9 h9 v10 h10 v11 h11 v12 h12 v13 tY v14 qD v15 uL v16 h16 v17 AA v18 h18 v19 h19 v20 h20 v21 h21;clear h0 h1 h2 h3 h4 h5 h6 h7 h8 h9 h10 h11 h12 tY qD uL h16 AA h18 h19;obtain⟨r,l,s,rfl,hr2,Ep,hs⟩:=h20;obtain⟨db,rfl,GX,rQ⟩:=h21;clear KN;refine dH.nil ?_;go_simp;refine dA 22 [[],[0],[0,1],[0,1,2],[0,1,2,3],[0,1,2,3,4],[],[6],[6,7],[6,7,8],[],[],[11],[11,12],[11,12,13],[],[15],[0,1,2,3,4,11,12,13,14,15,16],[0,1,2,3,4,10,11,12,13,14,15,16,17],[0,1,2,3,4,10,11,12,13,14,15,16,17,18],[0,1,2,3,4,5,6,7,8,9,10,11,12,13,14,15,16,17,18,19],[],[0,1,2,3,4,5,6,7,8,9,10,11,12,13,14,15,16,17,18,19,20,21]] rfl rfl rfl rfl rfl ahd ahd ahd ?_;have Ao:aj (w.heap.size+1<db):=ah (aJ (aU HN.o) GX);refine wp_store_mid _ _ _ aip db 0 (oD (d0 r l s)).toArray aip aip (yH rQ (aH 6)) ar1 (by simp[oD,d0,Value.oneCell']) ?_;refine cO rfl ?_;generalize rP:World.setCells wz db 0 _=W5;obtain⟨kX,vQ,-⟩:=Er rP rQ rfl;have HDI:aj (DI T w db W5 (d0 r l s)):=ah (by have hz:=(aU rQ);have hlt:=Ao.o;exact⟨kX.o,⟨afc,Ep,by show s.size<=maxLen;unfold maxLen;omega,Dj,Dj,bF _⟩,(vQ.o.block _ (Nat.lt_trans hlt hz) ahh).trans (bR.1.kp HK.o.tb (eG _) HN.o),(HK.o.go bR.1 bR.2).rG (kL vQ.o (λk e=>by cases e;exact aH _) (bM hz)) ahe,(vQ.o.block _ ahe ahh).trans (bR.1.kp HK.o.tb (aH _) HZ.o),hlt⟩);clear rP bR rQ GX Ep HZ HK hs HN vF kX vQ hr2;go_simp;obtain⟨d1,HD1⟩: ∃d,aj (DI T w db W5 d):=⟨_,HDI⟩;clear HDI;have y0:=(dC HD1.o.box).1
 go_upto_if 36 with fail
 go_cut [4] (λs4 W'=>s4= .pointer (some ⟨db,0,none⟩)∧∃d,DI T w db W' d)
 case first=>
  cases h1:(d1.kind==1)
  ·go_wp2_with fail;go_meet;exact⟨rfl,_,HD1.o⟩
  ·have c0:=HD1.o.k.mi.ptr;have GK:=HD1.o.k.mi.lt;go_wp2_with fail;refine(nxD 6 (in6 2 4 5) 3 rfl HD1.o).mono ?_;rintro e w6 ⟨k,rfl,Eo,hc,hD⟩;obtain⟨z,hz,NS⟩:=XL 2 4 5 afo k Eo;have cz:=aQ hc hz;have HZ:=ah NS;have HD6:=ah hD;have y1:=(dC hD.box).2.2.2.1;have f1:w6.frozen? ⟨db,3,none⟩=false:=bC hD.box;have hb0:(0:Int)<=(k:Int):=by omega
   have hb1:(k:Int)<6:=ahe
   clear hz NS hc hD c0 y0 GK;go_wp2_with fail;go_meet;obtain⟨k1,k2,k3,k4,k5,k6⟩:=HD6.o.ok;exact⟨rfl,{d1 with size:=z},HD6.o.put 3 _ rfl ⟨k1,k2,k3,HZ.o,k5,k6⟩⟩
 obtain⟨rfl,d2,hD⟩:=hcut;obtain⟨W6,rfl⟩: ∃W:World,W=wc:=⟨_,rfl⟩;have HD2:=ah hD;clear hD HD1 y0;have y0:=(dC HD2.o.box).1;go_upto_region 6 with fail;go_cut [53] (λs' W'=>W6=W'∧∃q,s'= .bool q)
 case first=>
  go_wp2_with fail
  all_goals go_meet
  all_goals exact⟨rfl,_,rfl⟩
 obtain⟨rfl,q,rfl⟩:=hcut
 go_upto_if 53 with fail
 go_cut [4] (λs4 W'=>s4= .pointer (some ⟨db,0,none⟩)∧∃d,DI T w db W' d)
 case first=>
  cases q
  ·go_wp2_with fail;go_meet;exact⟨rfl,_,HD2.o⟩
  ·have c0:=HD2.o.k.mi.ptr;have GK:=HD2.o.k.mi.lt;go_wp2_with fail;refine(nxD 6 (in6 (-1) 9223372036854775807 (-9223372036854775807)) 2 rfl HD2.o).mono ?_;rintro e w6 ⟨k,rfl,Eo,hc,hD⟩;obtain⟨z,hz,NS⟩:=XL (-1) 9223372036854775807 (-9223372036854775807) afo k Eo;have cz:=aQ hc hz;have HZ:=ah NS;have HD6:=ah hD;have y1:=(dC hD.box).2.2.2.2.1;have f1:w6.frozen? ⟨db,4,none⟩=false:=bC hD.box;have hb0:(0:Int)<=(k:Int):=by omega
   have hb1:(k:Int)<6:=ahe
   clear hz NS hc hD c0 y0 GK;go_wp2_with fail;go_meet;obtain⟨k1,k2,k3,k4,k5,k6⟩:=HD6.o.ok;exact⟨rfl,{d2 with init:=z},HD6.o.put 4 _ rfl ⟨k1,k2,k3,k4,HZ.o,k6⟩⟩
 obtain⟨rfl,d3,hD⟩:=hcut;obtain⟨W7,rfl⟩: ∃W:World,W=wc:=⟨_,rfl⟩;have HD3:=ah hD;clear hD HD2 y0;have y0:=(dC HD3.o.box).1
 go_upto_if 65 with fail
 go_cut [4] (λs4 W'=>s4= .pointer (some ⟨db,0,none⟩)∧∃d,DI T w db W' d)
 case first=>
  cases h5:(d3.kind==5)
  ·go_wp2_with fail;go_meet;exact⟨rfl,_,HD3.o⟩
  ·have c0:=HD3.o.k.mi.ptr;go_wp2_with fail;refine(gN T 12 _ afo HD3.o.k.mi).mono ?_;rintro e w8 ⟨k,rfl,hk1,hM,La⟩;have Eo:k<12:=by have:=hk1 ahf;omega
   obtain⟨o,hz,hz0⟩:=U7 k Eo;have HO:=ah hz0;have VK:=ah (HD3.o.go hM La);have cz:w8.cell? ⟨w.heap.size+1,k,none⟩=some (.string o):=aQ VK.o.nms hz;have y5:=(dC VK.o.box).2.2.2.2.2;have f5:w8.frozen? ⟨db,5,none⟩=false:=bC VK.o.box;have hb0:(0:Int)<=(k:Int):=ahe
   have hb1:(k:Int)<12:=ahe
   clear hz hz0 hM La hk1 c0 y0;go_wp2_with fail;go_meet;obtain⟨k1,k2,k3,k4,k5,k6⟩:=VK.o.ok;exact⟨rfl,{d3 with on:=o},VK.o.put 5 _ rfl ⟨k1,k2,k3,k4,k5,by have:=HO.o;show o.size<=_;unfold maxLen;omega⟩⟩
 obtain⟨rfl,d,hD⟩:=hcut;obtain⟨W9,rfl⟩: ∃W:World,W=wc:=⟨_,rfl⟩;have VL:=ah hD;clear hD HD3 y0;obtain⟨y0,y1,y2,y3,y4,y5⟩:=dC VL.o.box;have f: ∀j,W9.frozen? ⟨w.heap.size,j,none⟩=false:=λj=>bC VL.o.z;obtain⟨z0,z1,z2,z3,z4,z5⟩:=dC (d:=d0 0 0 ⟨#[]⟩) VL.o.z;go_wp2_with fail;clear f;have HP:=ah (jl (jl (jl (jl (jl (jl ⟨VL.o.k,jS.refl _ _⟩ 0 (.int .i64 d.kind)) 1 (.int .i64 d.line)) 2 (.string d.nm)) 3 (.int .i64 d.size)) 4 (.int .i64 d.init)) 5 (.string d.on));exact bodyPost_ret (v:=dvL d) (by simp[results,Tryz.results14,go_sem,dvL,z0,z1,z2,z3,z4,z5]) rfl ⟨d,rfl,VL.o.ok,HP.o.1.km,HP.o.1.mi⟩
def Q0:List De:=[⟨1,0,⟨#[120]⟩,0,0,⟨#[]⟩⟩,⟨1,0,⟨#[121]⟩,0,1,⟨#[]⟩⟩,⟨2,0,⟨#[118]⟩,0,0,⟨#[]⟩⟩,⟨1,0,⟨#[113]⟩,2,0,⟨#[]⟩⟩,⟨3,0,⟨#[109]⟩,0,0,⟨#[]⟩⟩,⟨3,0,⟨#[110]⟩,0,0,⟨#[]⟩⟩,⟨4,0,⟨#[114]⟩,0,0,⟨#[]⟩⟩,⟨5,0,⟨#[99]⟩,0,0,⟨#[109]⟩⟩,⟨6,0,⟨#[102]⟩,0,0,⟨#[]⟩⟩]
theorem as4:(Tryz.prog.info? 55).map (λi=>(i.zero,i.size,i.bytes))=some (some (.agg zDe),6,64):=ahd
theorem ar0: ∃i0,Tryz.prog.info? 55=some i0∧i0.zero=some (.agg zDe)∧i0.size=6∧i0.bytes=64:=info_parts as4
theorem ar3 (x:De): ∀u∈oD x,u.oneCell'=true:=by
 intro u hu;simp[oD]at hu;rcases hu with rfl|rfl|rfl|rfl|rfl|rfl <;> rfl
theorem ar2: ∀d∈Q0,d.Ok:=by
 intro d hd;simp only[Q0,List.mem_cons,List.not_mem_nil,or_false]at hd;rcases hd with rfl|rfl|rfl|rfl|rfl|rfl|rfl|rfl|rfl <;> exact⟨afo,afo,afA,afo,afo,afA⟩
def aR0 (w:World) (e:Ending) (w':World):Prop:= ∃g,e= .returned (.slice (some ⟨g,0,none⟩) 9 9)∧w.heap.size<=g∧w'.heap[g]? =some (.cells (Q0.flatMap oD).toArray 55 (0,0))∧Below w.heap.size w w'
theorem Xc (w:World):Calls Tryz.prog 13 #[] w (aR0 w):=by
 go_enter Tryz.func13,Tryz.ntmps13;go_wp2;go_ret;refine⟨_,rfl,?_,?_,?_⟩
 ·exact aH _
 ·exact heap_alloc_new _ _
 ·exact aA _ _
theorem Grow.Vl {α:Type} {f:α->List Value} {m:Nat} {ty:TypeId} {B:Nat} {w w':World} {v:Value} {xs:List α} {g:Option Nat} (h:Grow f m (λ_ _=>True) ty B w v xs) (ha:zf B g w w') (hne: ∀k,v.ownBlock=some k->some k≠g):Grow f m (λ_ _=>True) ty B w' v xs:=by
 refine⟨⟨h.own.1,?_⟩,λx hx _ _=>trivial⟩;rcases h.own.2 with h1|⟨g',cap,cur,h1,h2,h3,h4⟩
 ·exact .inl h1
 ·exact .inr ⟨g',cap,cur,h1,h2,(ha.2 g' h2 (hne g' ah9) (aU h3)).trans h3,h4⟩
theorem Grow.made {α:Type} {f:α->List Value} {m:Nat} {ty:TypeId} {B:Nat} {W:World} {g n:Nat} {xs:List α} (hf: ∀x,(f x).length=m) (h:W.heap[g]? =some (.cells (xs.flatMap f).toArray ty (0,0))) (hB:B<=g) (hn:xs.length=n) (hm:n<=maxLen):Grow f m (λ_ _=>True) ty B W (.slice (some ⟨g,0,none⟩) n n) xs:=by
 subst hn;have hl:=zA hf xs;refine⟨⟨hl,.inr ⟨g,xs.length,_,rfl,hB,h,aH _,hm,ahW,?_⟩⟩,λx hx _ _=>trivial⟩;exact List.take_of_length_le (by simpa using Nat.le_of_eq hl)
theorem Qb {α:Type} {f:α->List Value} {m:Nat} (hf: ∀x,(f x).length=m): ∀(xs:List α) (k:Nat) (x x':α) (j:Nat) (u:Value),xs[k]? =some x->j<m->(f x).set j u=f x'->(xs.flatMap f).set (k*m+j) u=(xs.set k x').flatMap f
 | [],_,_,_,_,_,h,_,_=>ahD
 |y::xs,0,x,x',j,u,h,hj,hu=>by simp at h;subst h;rw[Nat.zero_mul,aV,List.flatMap_cons,List.set_append_left _ _ (by rw[hf];exact hj),hu];rfl
 |y::xs,k+1,x,x',j,u,h,hj,hu=>by
  have ih:=Qb hf xs k x x' j u aiq hj hu;have e:(k+1)*m+j=m+(k*m+j):=by rw[Nat.add_mul];omega
  rw[List.flatMap_cons,List.set_append_right _ _ (by rw[hf,e];omega),hf,e,Nat.add_sub_cancel_left,ih];rfl
theorem Grow.set {α:Type} {f:α->List Value} {m:Nat} {ty:TypeId} {B:Nat} {w:World} {g n cap k j:Nat} {u:Value} {xs:List α} {x x':α} (hf: ∀x,(f x).length=m) (h:Grow f m (λ_ _=>True) ty B w (.slice (some ⟨g,0,none⟩) n cap) xs) (hk:xs[k]? =some x) (hj:j<m) (hu:(f x).set j u=f x'):
 Grow f m (λ_ _=>True) ty B (w.setCell ⟨g,k*m+j,none⟩ u) (.slice (some ⟨g,0,none⟩) n cap) (xs.set k x'):=by
 refine⟨⟨by rw[zA hf,],?_⟩,λx hx _ _=>trivial⟩;rcases h.own.2 with⟨h1,-⟩|⟨g',cap',cur,h1,h2,h3,h4,h5,h6,h7⟩
 ·cases h1
 ·injection h1 with e1 e2 e3;injection e1 with e1;injection e1 with e1;subst e1;subst e3;subst e2;refine .inr ⟨g,cap,cur.setIfInBounds (k*m+j) u,by rw[List.length_set],h2,dX h3 u,by rw[List.length_set];exact h4,h5,ail,?_⟩;rw[<- Qb hf xs k x x' j u hk hj hu,<- h7,Array.toList_setIfInBounds,List.length_set,List.take_set]
structure PD (T:Tp) (w1:World) (pb:Nat) (W:World) (vD:Value) (ds:List De):Prop where
 box:W.heap[pb]? =some (.cells #[vD,.slice none 0 0] 26 (0,0))
 gd:AQ (pb+1) W vD ds
 ok: ∀d∈ds,d.Ok
 k:Ki T w1 W
 le:w1.heap.size<=pb
section
variable {T:Tp} {w1 W W':World} {pb:Nat} {vD:Value} {ds:List De}
theorem PD.sz (h:PD T w1 pb W vD ds):pb+1<=W.heap.size:=(aU h.box)
theorem PD.go (h:PD T w1 pb W vD ds) (hM:Mk T W W') (hI:jN W' T):PD T w1 pb W' vD ds:=
 ⟨hM.kp h.k.tb h.le h.box,h.gd.next (hM.ab h.k.tb (Nat.le_succ_of_le h.le)),h.ok,h.k.go hM hI,h.le⟩
theorem PD.put' {v0 Ui:Value} {ds':List De} (hb:W.heap[pb]? =some (.cells #[v0,.slice none 0 0] 26 (0,0))) (k:Ki T w1 W) (le:w1.heap.size<=pb) (hg:AQ (pb+1) W Ui ds') (hok: ∀d∈ds',d.Ok):PD T w1 pb (W.setCell ⟨pb,0,none⟩ Ui) Ui ds':=
 ⟨by rw[dX hb];rfl,hg.next (gW _ _ _ (Nat.lt_succ_self _)),hok,k.set _ _ le,le⟩
theorem PD.line {k:Nat} {d:De} {l:Int} {g n cap:Nat} (h:PD T w1 pb W (.slice (some ⟨g,0,none⟩) n cap) ds) (hk:ds[k]? =some d) (hl:dD l):PD T w1 pb (W.setCell ⟨g,k*6+1,none⟩ (.int .i64 l)) (.slice (some ⟨g,0,none⟩) n cap) (ds.set k {d with line:=l}):=
 have hg:=(h.gd.lt g rfl).1
 ⟨(dB W _ _ rfl (Nat.ne_of_gt hg)).trans h.box,h.gd.set Eh hk ahf rfl,λx hx=>by
   rcases List.mem_or_eq_of_mem_set hx with hx|rfl
   ·exact h.ok x hx
   ·have:=h.ok d (List.mem_of_getElem? hk);exact⟨this.1,hl,this.2.2⟩,h.k.set _ _ (aR h.le (bM hg)),h.le⟩
theorem PD.Vk {l:Int} (h:PD T w1 pb W vD ds) (hl:dD l):PD T w1 pb (W.setCell ⟨T.bm,1,none⟩ (.int .i64 l)) vD ds:=
 h.go ((Mk.refl T W).R7 _ _) (h.k.mi.line hl)
end
def nmT:Array Value:=Jf [[116],[117],[119],[122],[122,53]]
def WB:Nat:=10000000000
structure PI (T:Tp) (w1:World) (pb nb:Nat) (W:World) (vD:Value) (ds:List De) (vT:Value) (rV:List kF):Prop where
 box:W.heap[pb]? =some (.cells #[vD,vT] 26 (0,0))
 nms:W.heap[nb]? =some (.cells nmT 9 (0,0))
 gd:AQ (pb+1) W vD ds
 dlt: ∀k,vD.ownBlock=some k->k<nb
 gt:Bo (nb+1) W vT rV
 okd: ∀d∈ds,d.Ok
 okt: ∀x∈rV,(x.t.Ok∧x.t.cu.length<=x.dW)∧vM WB x.t.body
 k:Ki T w1 W
 le:w1.heap.size<=pb
 lt:pb<nb
section
variable {T:Tp} {w1 W W':World} {pb nb:Nat} {vD vT:Value} {ds:List De} {rV:List kF}
theorem PD.pi (h:PD T w1 pb W vD ds):PI T w1 pb W.heap.size (W.alloc (.cells nmT 9)) vD ds (.slice none 0 0) []:=
 ⟨((aA W (.cells nmT 9)).block pb h.sz).trans h.box,heap_alloc_new _ _,h.gd.next (dO (aA _ _)),λk hk=>(h.gd.lt k hk).2,Grow.nil _ _ _ _ _ _,h.ok,ahg,h.k.al _,h.le,h.sz⟩
theorem PI.sz (h:PI T w1 pb nb W vD ds vT rV):nb+1<=W.heap.size:=(aU h.nms)
theorem PI.go (h:PI T w1 pb nb W vD ds vT rV) (hM:Mk T W W') (hI:jN W' T):PI T w1 pb nb W' vD ds vT rV:=
 have hl:=aR h.le (bM h.lt)
 ⟨hM.kp h.k.tb h.le h.box,hM.kp h.k.tb hl h.nms,h.gd.next (hM.ab h.k.tb (Nat.le_succ_of_le h.le)),h.dlt,h.gt.next (hM.ab h.k.tb (Nat.le_succ_of_le hl)),h.okd,h.okt,h.k.go hM hI,h.le,h.lt⟩
theorem PI.Vk {l:Int} (h:PI T w1 pb nb W vD ds vT rV) (hl:dD l):PI T w1 pb nb (W.setCell ⟨T.bm,1,none⟩ (.int .i64 l)) vD ds vT rV:=
 h.go ((Mk.refl T W).R7 _ _) (h.k.mi.line hl)
theorem PI.push {x:kF} {g cap n:Nat} (h:PI T w1 pb nb W vD ds vT rV) (hx:nP (nb+1) vT.ownBlock W (kF.I x)) (hok:(x.t.Ok∧x.t.cu.length<=x.dW)∧vM WB x.t.body) (hn:n=rV.length+1) (hown:W'.ownsRow (nb+1) 59 4 (.slice (some ⟨g,0,none⟩) n cap) n (rV.flatMap kF.f++kF.f x)) (hg:W.grownBy W' vT.ownBlock) (hmv:vT.ownBlock=some g∨g=W.heap.size):
 PI T w1 pb nb (W'.setCell ⟨pb,1,none⟩ (.slice (some ⟨g,0,none⟩) n cap)) vD ds (.slice (some ⟨g,0,none⟩) n cap) (rV++[x]):=by
 have hb:Below (nb+1) W W':=kL hg (λk hk=>(h.gt.lt k hk).1) h.sz;have hl:=h.lt;have hbx:W'.heap[pb]? =some (.cells #[vD,vT] 26 (0,0)):=(hb.block pb ahe).trans h.box;refine⟨by rw[dX hbx];rfl,(dB W' _ _ rfl (Nat.ne_of_lt hl)).trans ((hb.block nb (Nat.lt_succ_self _)).trans h.nms),?_,h.dlt,?_,h.okd,?_,(h.k.rG hb (by have:=h.le;omega)).set _ _ h.le,h.le,hl⟩
 ·refine(h.gd.Vl (w':=W') (g:=vT.ownBlock) (zf.JU hg) (λk hk e=> ?_)).next (gW _ _ _ (Nat.lt_succ_self _));have:=h.dlt k hk;have:=(h.gt.lt k e.symm).1;omega
 ·exact(h.gt.push hx hn hown hg hmv).next (gW _ _ _ (by show pb<_;omega))
 ·intro y hy;rcases List.mem_append.1 hy with hy|hy
  ·exact h.okt y hy
  ·rw[List.mem_singleton.1 hy];exact hok
end
structure TI (T:Tp) (W0:World) (tb:Nat) (W:World) (nm:ByteArray) (line:Int) (vL:Value) (cu:List ByteArray) (vB:Value):Prop where
 box:W.heap[tb]? =some (.cells #[.string nm,.int .i64 line,vL,vB] 59 (0,0))
 gl:mQ W0.heap.size W vL cu
 ne: ∀k,vL.ownBlock=some k->k≠tb
 ok:nm.size<=12∧dD line∧(∀s∈cu,s.size<=12)∧cu.length<=10
 k:Ki T W0 W
 le:W0.heap.size<=tb
section
variable {T:Tp} {W0 W W':World} {tb:Nat} {nm:ByteArray} {line:Int} {vL vB:Value} {cu:List ByteArray}
theorem TI.sz (h:TI T W0 tb W nm line vL cu vB):tb+1<=W.heap.size:=(aU h.box)
theorem TI.go (h:TI T W0 tb W nm line vL cu vB) (hM:Mk T W W') (hI:jN W' T):TI T W0 tb W' nm line vL cu vB:=
 ⟨hM.kp h.k.tb h.le h.box,h.gl.next (hM.ab h.k.tb (aH _)),h.ne,h.ok,h.k.go hM hI,h.le⟩
theorem TI.put {nm':ByteArray} {v0 v Uj vB':Value} {Iy:List ByteArray} (j:Nat) (hb:W.heap[tb]? =some (.cells #[.string nm,.int .i64 line,v0,vB] 59 (0,0))) (hv:(#[.string nm,.int .i64 line,v0,vB]:Array Value).setIfInBounds j v= #[.string nm',.int .i64 line,Uj,vB']) (hg:mQ W0.heap.size W Uj Iy) (hne: ∀k,Uj.ownBlock=some k->k≠tb) (hok:nm'.size<=12∧dD line∧(∀s∈Iy,s.size<=12)∧Iy.length<=10) (k:Ki T W0 W) (le:W0.heap.size<=tb):
 TI T W0 tb (W.setCell ⟨tb,j,none⟩ v) nm' line Uj Iy vB':=
 ⟨by rw[dX hb,hv],hg.Vl (zf.JU (cB W ⟨tb,j,none⟩ v)) (λk hk e=>hne k hk (by injection e)),hne,hok,k.set _ _ le,le⟩
end
theorem as6:(Tryz.prog.info? 59).map (λi=>(i.zero,i.size,i.bytes))=some (some (.agg #[.string ⟨#[]⟩,.int .i64 0,.slice none 0 0,.slice none 0 0]),4,72):=ahd
theorem av2: ∃i0,Tryz.prog.info? 59=some i0∧i0.zero=some (.agg #[.string ⟨#[]⟩,.int .i64 0,.slice none 0 0,.slice none 0 0])∧i0.size=4∧i0.bytes=72:=info_parts as6
theorem av3:(Tryz.prog.info? 59).map (·.size)=some 4:=ahd
theorem av4 (x:kF): ∀u∈kF.f x,u.oneCell'=true:=by
 intro u hu;simp[kF.f]at hu;rcases hu with rfl|rfl|rfl|rfl <;> rfl
theorem as7:(Tryz.prog.info? 9).map (λi=>(i.zero,i.size,i.bytes))=some (some (.string ⟨#[]⟩),1,16):=ahd
theorem av6: ∃i0,Tryz.prog.info? 9=some i0∧i0.zero=some (.string ⟨#[]⟩)∧i0.size=1∧i0.bytes=16:=info_parts as7
end Go.Proofs.YtldapdcphphodaaGreatDoor
