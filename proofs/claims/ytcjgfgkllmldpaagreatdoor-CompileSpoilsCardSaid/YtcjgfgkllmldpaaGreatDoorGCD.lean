/- Contracts of the look-ups of the code generators: the place of a name among cells, locks, conditions, texts. And what hangs on it. -/
import Derived.Test.YtcjgfgkllmldpaaGreatDoorGPI
import Derived.Test.YtcjgfgkllmldpaaGreatDoorGR0
set_option linter.unusedSimpArgs false
set_option linter.unusedVariables false
set_option maxHeartbeats 40000000
set_option maxRecDepth 1000000
namespace Go.Proofs.YtcjgfgkllmldpaaGreatDoor
open Go.RowKit
open Md
theorem Uj (nm:ByteArray): ∀(l:List ByteArray) (k:Nat),fidx (λs=>s.toList==nm.toList) l k=sG l nm k
 | [],_=>rfl
 |s::r,k=>by rw[fidx,sG,Uj nm r (k+1)];rfl
theorem zm (l:List ByteArray) (nm:ByteArray):MQ l nm=gK l nm:=Uj nm l 0
theorem MC (l:List ByteArray) (nm:ByteArray) (w:World) (ao:Option Addr) (cap:Nat) (hl:l.length<=maxLen) (hw:fT w w.heap.size l ao 0):
 Calls Tryz.prog 110 #[.slice ao l.length cap,.string nm] w λe w'=>e= .returned (.int .i64 (gK l nm))∧w=w':=by
 unfold maxLen at hl;go_enter Tryz.func110,Tryz.ntmps110;go_wp2_with fail;go_loop [8] (λs=> ∃(k:Nat) (R:List ByteArray),s= .int .i64 k∧k+R.length=l.length∧gK l nm=sG R nm k∧fT w w.heap.size R ao k) (λs=>l.length -(intOf s).toNat)
 case atStart=>exact⟨0,l,rfl,ahh,rfl,hw⟩
 case round=>
  obtain⟨k,R,rfl,hlen,heq,hrow⟩:=hrel;have HE:=ah heq;clear heq;cases R with
  |nil=>
   exact Abv
  |cons s R=>
   obtain⟨⟨b,off,rfl,hB,y0,hs⟩,hrest⟩:=hrow;simp only[aB]at hlen;have hkl:k<l.length:=ahf
   cases hc:(s.toList==nm.toList)
   ·have dP:=ah (HE.o.trans (if_neg (show ¬(s.toList==nm.toList)=true by rw[hc];decide)));have hc':(nm.toList==s.toList)=false:=(by rw[<- hc];exact BEq.comm);exact Abh
   ·have dP:=ah (HE.o.trans (if_pos hc));have hc':(nm.toList==s.toList)=true:=(by rw[<- hc];exact BEq.comm);go_wp2_with fail;go_ret;exact⟨dh dP.o.symm,rfl⟩
theorem ae3 (x:mU) (nm:ByteArray) (B:Nat) (w:World) (hB:B<w.heap.size) (hc:w.cell? ⟨B,0,none⟩=some (.string nm)):
 Calls Tryz.prog 165 #[.agg #[.string x.nm,.int .i64 x.ix,.int .i64 x.sz,.bool x.xM,.int .i64 x.init],.pointer (some ⟨B,0,none⟩)] w λe w'=>e= .returned (.bool (x.nm.toList==nm.toList))∧Below w.heap.size w w':=by
 have hne:B≠w.heap.size:=ahf
 go_enter Tryz.func165,Tryz.ntmps165;go_wp2
 all_goals (go_ret;exact⟨by first|rfl|simp_all,aA _ _⟩)
theorem YR (l:List mU) (nm:ByteArray) (B:Nat) (w:World) (ao:Option Addr) (cap:Nat) (hl:l.length<=maxLen) (hw:dS kM 5 w w.heap.size l ao 0) (hB:B<w.heap.size) (hc:w.cell? ⟨B,0,none⟩=some (.string nm)):
 Calls Tryz.prog 164 #[.slice ao l.length cap,.func (.func 165) #[] #[.pointer (some ⟨B,0,none⟩)]] w λe w'=>e= .returned (.int .i64 (gK (l.map (·.nm)) nm))∧Below w.heap.size w w':=by
 unfold maxLen at hl;have HW:=ah hw;have HC:=ah hc;have HB:=ah hB;clear hw hc hB;go_enter Tryz.func164,Tryz.ntmps164;go_wp2_with fail;go_loopw [8] (λs wr=> ∃(k:Nat) (R:List mU),s= .int .i64 k∧k+R.length=l.length∧gK (l.map (·.nm)) nm=sG (R.map (·.nm)) nm k∧dS kM 5 wr wr.heap.size R ao k∧Below w.heap.size w wr) (λs _=>l.length -(intOf s).toNat)
 case atStart=>exact⟨0,l,rfl,ahh,rfl,HW.o,ak _ _⟩
 case round=>
  obtain⟨k,R,rfl,hlen,heq,hrow,hbel⟩:=hrel;have HE:=ah heq;have qM:=ah hbel;clear heq hbel;cases R with
  |nil=>
   obtain rfl:k=l.length:=afb
   go_wp2_with fail;go_ret;exact⟨dh HE.o.symm,qM.o⟩
  |cons x R=>
   obtain⟨⟨b,off,rfl,jT,hcs⟩,hrest⟩:=hrow;have kg:=ah hrest;have z0:=hcs 0 _ rfl;have z1:=hcs 1 _ rfl;have z2:=hcs 2 _ rfl;have z3:=hcs 3 _ rfl;have z4:=hcs 4 _ rfl;simp only[Nat.add_zero]at z0;simp only[aB]at hlen;have hkl:k<l.length:=ahf
   have WG:aj (B<wr.heap.size∧wr.cell? ⟨B,0,none⟩=some (.string nm)):=ah ⟨aV HB.o qM.o.size,(qM.o.cell (p:=⟨B,0,none⟩) HB.o).trans HC.o⟩;clear hcs hrest;go_wp2_with fail;refine(ae3 x nm B wr WG.o.1 WG.o.2).mono ?_;rintro e w3 ⟨rfl,hb3⟩;have HB3:=ah (qM.o.trans (hb3.mono qM.o.size));have HR3:=ah (kg.o.same hb3);clear hb3 z0 z1 z2 z3 z4;exact Aay
theorem F7 {T:TypeId} {w:World} {L:GL} {W:Wo} {s:jr} {lc:List ByteArray} {al:Option Addr} {cl:Nat} {v:Value} {code:List dw} {a b:Int} (h:iE T w L W s lc al cl v code a b) (nm:ByteArray):
 Calls Tryz.prog 129 #[.pointer (some ⟨L.gb,0,none⟩),.string nm] w λe w'=>e= .returned (.int .i64 (W.cell nm))∧Below w.heap.size w w':=by
 obtain⟨hlt,c0,c1,c2,-,-,-,-,-,-,-,-⟩:=h.cells;have HI:=ah h;clear h;unfold Wo.cell;go_enter Tryz.func129,Tryz.ntmps129;go_upto_region 1 with fail;generalize hW:World.alloc w _=W1;have HB:aj (Below w.heap.size w W1):=ah afd;have HN:aj (w.heap.size<W1.heap.size∧W1.cell? ⟨w.heap.size,0,none⟩=some (.string nm)):=ah abx;have HI1:=ah (HI.o.below HB.o);clear hW hlt c0 c1 c2;obtain⟨hlt,c0,c1,c2,-,-,-,-,-,-,-,-⟩:=HI1.o.cells;go_wp2_with fail;refine(YR W.cs nm w.heap.size W1 s.aC s.cC HI1.o.wo.lc (HI1.o.wo.cs.mono HI1.o.b0) HN.o.1 HN.o.2).mono ?_;rintro e w3 ⟨rfl,hb3⟩;have HB3:=ah (HB.o.trans (hb3.mono HB.o.size));clear hb3 c0 c1 c2;go_wp2_with fail;go_ret;exact⟨rfl,HB3.o⟩
theorem aj7 (x:xI) (nm:ByteArray) (B:Nat) (w:World) (hB:B<w.heap.size) (hc:w.cell? ⟨B,0,none⟩=some (.string nm)):
 Calls Tryz.prog 131 #[.agg #[.string x.nm,.bool x.rw],.pointer (some ⟨B,0,none⟩)] w λe w'=>e= .returned (.bool (x.nm.toList==nm.toList))∧Below w.heap.size w w':=by
 have hne:B≠w.heap.size:=ahf
 go_enter Tryz.func131,Tryz.ntmps131;go_wp2
 all_goals (go_ret;exact⟨by first|rfl|simp_all,aA _ _⟩)
theorem Zn (l:List xI) (nm:ByteArray) (B:Nat) (w:World) (ao:Option Addr) (cap:Nat) (hl:l.length<=maxLen) (hw:dS mW 2 w w.heap.size l ao 0) (hB:B<w.heap.size) (hc:w.cell? ⟨B,0,none⟩=some (.string nm)):
 Calls Tryz.prog 130 #[.slice ao l.length cap,.func (.func 131) #[] #[.pointer (some ⟨B,0,none⟩)]] w λe w'=>e= .returned (.int .i64 (gK (l.map (·.nm)) nm))∧Below w.heap.size w w':=by
 unfold maxLen at hl;have HW:=ah hw;have HC:=ah hc;have HB:=ah hB;clear hw hc hB;go_enter Tryz.func130,Tryz.ntmps130;go_wp2_with fail;go_loopw [8] (λs wr=> ∃(k:Nat) (R:List xI),s= .int .i64 k∧k+R.length=l.length∧gK (l.map (·.nm)) nm=sG (R.map (·.nm)) nm k∧dS mW 2 wr wr.heap.size R ao k∧Below w.heap.size w wr) (λs _=>l.length -(intOf s).toNat)
 case atStart=>exact⟨0,l,rfl,ahh,rfl,HW.o,ak _ _⟩
 case round=>
  obtain⟨k,R,rfl,hlen,heq,hrow,hbel⟩:=hrel;have HE:=ah heq;have qM:=ah hbel;clear heq hbel;cases R with
  |nil=>
   obtain rfl:k=l.length:=afb
   go_wp2_with fail;go_ret;exact⟨dh HE.o.symm,qM.o⟩
  |cons x R=>
   obtain⟨⟨b,off,rfl,jT,hcs⟩,hrest⟩:=hrow;have kg:=ah hrest;have z0:=hcs 0 _ rfl;have z1:=hcs 1 _ rfl;simp only[Nat.add_zero]at z0;simp only[aB]at hlen;have hkl:k<l.length:=ahf
   have WG:aj (B<wr.heap.size∧wr.cell? ⟨B,0,none⟩=some (.string nm)):=ah ⟨aV HB.o qM.o.size,(qM.o.cell (p:=⟨B,0,none⟩) HB.o).trans HC.o⟩;clear hcs hrest;go_wp2_with fail;refine(aj7 x nm B wr WG.o.1 WG.o.2).mono ?_;rintro e w3 ⟨rfl,hb3⟩;have HB3:=ah (qM.o.trans (hb3.mono qM.o.size));have HR3:=ah (kg.o.same hb3);clear hb3 z0 z1;exact Aay
theorem ag4 {T:TypeId} {w:World} {L:GL} {W:Wo} {s:jr} {lc:List ByteArray} {al:Option Addr} {cl:Nat} {v:Value} {code:List dw} {a b:Int} (h:iE T w L W s lc al cl v code a b) (nm:ByteArray):
 Calls Tryz.prog 105 #[.pointer (some ⟨L.gb,0,none⟩),.string nm] w λe w'=>e= .returned (.int .i64 (W.lock nm))∧Below w.heap.size w w':=by
 obtain⟨hlt,c0,c1,c2,-,-,-,-,-,-,-,-⟩:=h.cells;have HI:=ah h;clear h;unfold Wo.lock;go_enter Tryz.func105,Tryz.ntmps105;go_upto_region 1 with fail;generalize hW:World.alloc w _=W1;have HB:aj (Below w.heap.size w W1):=ah afd;have HN:aj (w.heap.size<W1.heap.size∧W1.cell? ⟨w.heap.size,0,none⟩=some (.string nm)):=ah abx;have HI1:=ah (HI.o.below HB.o);clear hW hlt c0 c1 c2;obtain⟨hlt,c0,c1,c2,-,-,-,-,-,-,-,-⟩:=HI1.o.cells;go_wp2_with fail;refine(Zn W.ls nm w.heap.size W1 s.aL s.cL HI1.o.wo.ll (HI1.o.wo.ls.mono HI1.o.b0) HN.o.1 HN.o.2).mono ?_;rintro e w3 ⟨rfl,hb3⟩;have HB3:=ah (HB.o.trans (hb3.mono HB.o.size));clear hb3 c0 c1 c2;go_wp2_with fail;go_ret;exact⟨rfl,HB3.o⟩
theorem bK {w:World} {b j:Nat} {cs:Array Value} {t:TypeId} {fr:Nat×Nat} {u:Value} (h:w.heap[b]? =some (.cells cs t fr)) (hu:cs[j]? =some u):b<w.heap.size∧w.cell? ⟨b,j,none⟩=some u:=
 ⟨(aI h),aG h hu⟩
def Sr (op n:Int) (nm:ByteArray) (kids:bV):Prop:=
 ∀(w:World) (L:GL) (W:Wo) (s:jr) (lc:List ByteArray) (al:Option Addr) (cl:Nat) (v:Value) (code:List dw) (a b:Int) (ao:Option Addr) (cap:Nat) (d:Int),
  iE 106 w L W s lc al cl v code a b->qR op n nm kids->kids.At w L.B0 ao 0->jZ op n nm kids=true->AP W op nm kids=true->0<=d->d+1+fH kids<=1000000->code.length+1+fH kids<=1000000000000->
  Calls Tryz.prog 108 #[.pointer (some ⟨L.gb,0,none⟩),exV op n nm kids ao cap,.int .i64 d] w λe w'=>e= .returned (.tuple #[])∧Qm 106 w L W s lc al cl v code a b (lY W lc b op n nm kids d) w'
theorem Wj (op n:Int) (nm:ByteArray) (kids:bV) (ih:kids.All Sr):Sr op n nm kids:=by
 intro w L W s lc al cl v code a b ao cap d hI hok hat hs hok2 hd0 hd1 hlen;have HI:=ah hI;have HAT:=ah hat;have oH:=ah ih;have HKL:=ah hok.2.2.2;have HL:=ah hlen;have hcs:=Pb hs hok2;clear hI hat ih hok hs hok2 hlen;unfold exV;go_enter Tryz.func108,Tryz.ntmps108;go_upto_region 1 with fail;generalize hW:World.alloc w _=w1;obtain⟨nb,hnb⟩: ∃n,w.heap.size=n:=⟨_,rfl⟩;have HB:aj (Below w.heap.size w w1):=ah afd;have HX:aj (w1.heap[nb]? =some (.cells #[.int .i64 op,.int .i64 n,.string nm,.slice ao kids.len cap] 80 (0,0))):=ah aaX;have S0:=ah (kU.start HI.o HB.o hnb HX.o);have pO:=ah (HI.o.keep (Kg.of_below HB.o));have zM:=ah (HAT.o.below pO.o);rw[hnb];clear hW hnb HX HB;obtain⟨bP,q0,q1,q2,q3,q4,q5,q6,-,q8,q9,-⟩:=S0.o.i.cells;have z0:=(bK S0.o.x (j:=0) rfl).2;have z1:=(bK S0.o.x (j:=1) rfl).2;have z2:=(bK S0.o.x (j:=2) rfl).2;have z3:=(bK S0.o.x (j:=3) rfl).2;rcases hcs with⟨rfl,rfl⟩|⟨rfl,rfl⟩|⟨rfl,hce,o1,n1,m1,k1,rfl,hs1,ho1⟩|⟨hop,o1,n1,m1,k1,rfl,hs1,ho1⟩|⟨hop1,hop2,o1,n1,m1,k1,o2,n2,m2,k2,rfl,hs1,ho1,hs2,ho2⟩
 ·go_wp2_with fail;refine(nV (S0.o.i) ⟨1,d,0,0,n,0⟩ aaU).mono ?_;rintro e w2 ⟨rfl,hem⟩;obtain⟨v9,bY⟩:=S0.o.then hem;have S1:=ah bY;clear hem bY;clear bP q0 q1 q2 q3 q4 q5 q6 q8 q9 z0 z1 z2 z3;go_wp2_with fail;exact bodyPost_end (v:= .tuple #[]) acL rfl ⟨rfl,S1.o.fin rfl⟩
 ·go_upto_region 8 with fail;have HSL:aj (∀nq,Calls Tryz.prog 110 #[.slice al lc.length cl,.string nm] (w1.drewN nq) λe w'=>e= .returned (.int .i64 (gK lc nm))∧w1.drewN nq=w'):=ah (λnq=>by have hb:=below_drewN (n:=nq) (ak w1.heap.size w1);have:=S0.o.i.below hb;exact MC lc nm (w1.drewN nq) al cl acW (this.lc.mono this.b0));go_quiet ((go_at_call 110;exact kJ (HSL.o _)));have S1:=ah (S0.o.below (below_drewN (n:=nq) (ak w1.heap.size w1)));clear HSL pO zM S0;clear bP q0 q1 q2 q3 q4 q5 q6 q8 q9 z0 z1 z2 z3;generalize w1.drewN nq=w2 at *;obtain⟨bP,q0,q1,q2,q3,q4,q5,q6,-,q8,q9,-⟩:=S1.o.i.cells;have z0:=(bK S1.o.x (j:=0) rfl).2;have z1:=(bK S1.o.x (j:=1) rfl).2;have z2:=(bK S1.o.x (j:=2) rfl).2;have z3:=(bK S1.o.x (j:=3) rfl).2;have HX8:=ah (XO lc nm);have HV:aj (lY W lc b 2 n nm .nil d=[Df W lc 2 n nm d b]):=ah rfl;by_cases hk:0<=gK lc nm
  ·have AJ:aj (lY W lc b 2 n nm .nil d=[⟨2,d,gK lc nm,0,0,b⟩]):=ah (HV.o.trans abo);clear HV;generalize gK lc nm=k at *;go_wp2_with fail;refine(nV (S1.o.i) ⟨2,d,k,0,0,0⟩ aaU).mono ?_;rintro e w3 ⟨rfl,hem⟩;obtain⟨v9,bY⟩:=S1.o.then hem;have S2:=ah bY;clear hem bY;clear bP q0 q1 q2 q3 q4 q5 q6 q8 q9 z0 z1 z2 z3;go_wp2_with fail;refine bodyPost_ret (v:= .tuple #[]) acL rfl ⟨rfl,S2.o.fin AJ.o.symm⟩
  ·have AJ:aj (lY W lc b 2 n nm .nil d=[⟨6,d,W.cell nm,0,0,b⟩]):=ah (HV.o.trans abp);clear HV;generalize gK lc nm=k at *;go_wp2_with fail;refine(F7 S1.o.i nm).mono ?_;rintro e w3 ⟨rfl,hb3⟩;have S2:=ah (S1.o.below hb3);clear hb3;clear bP q0 q1 q2 q3 q4 q5 q6 q8 q9 z0 z1 z2 z3;obtain⟨bP,q0,q1,q2,q3,q4,q5,q6,-,q8,q9,-⟩:=S2.o.i.cells;have z0:=(bK S2.o.x (j:=0) rfl).2;have z1:=(bK S2.o.x (j:=1) rfl).2;have z2:=(bK S2.o.x (j:=2) rfl).2;have z3:=(bK S2.o.x (j:=3) rfl).2;go_wp2_with fail;refine(nV (S2.o.i) ⟨6,d,W.cell nm,0,0,0⟩ aaU).mono ?_;rintro e w4 ⟨rfl,hem⟩;obtain⟨v9,bY⟩:=S2.o.then hem;have S3:=ah bY;clear hem bY;clear bP q0 q1 q2 q3 q4 q5 q6 q8 q9 z0 z1 z2 z3;go_wp2_with fail;exact bodyPost_end (v:= .tuple #[]) acL rfl ⟨rfl,S3.o.fin AJ.o.symm⟩
 ·obtain⟨⟨bb,off,Eb,yQ,rfl,jT,x0,x1,x2,x3,hok1,hk1⟩,-⟩:=zM.o;simp only[Nat.zero_mul,Nat.add_zero]at x0 x1 x2 x3;clear z3;have z3:w1.cell? ⟨nb,3,none⟩=some (.slice (some ⟨bb,off,none⟩) 1 cap):=(bK S0.o.x (j:=3) rfl).2;have oI:=ah (ay hok1 hk1);have rE:aj (d+1+fH (.cons o1 n1 m1 k1 .nil)<=1000000):=ah hd1;have AL:=ah (ku W lc b o1 n1 m1 k1 d);obtain⟨c,hc1,hc2,hc3,hc4⟩:=Ld hce;have HC:=ah (ay hc1 (ay hc2 hc3));have G7:=ah (ay hce hc4);have HV:aj (lY W lc b 3 n nm (.cons o1 n1 m1 k1 .nil) d=lY W lc b o1 n1 m1 k1 d++[⟨7,d,W.cell nm,d,W.size nm,b⟩]):=ah (LC ahf);clear hok1 hk1 hc1 hc2 hc3 hc4 hce;go_wp2_with fail;refine(oH.o.1 _ L W s lc al cl _ _ a b Eb yQ d S0.o.i oI.o.1 oI.o.2 hs1 ho1 ahf acF aaU).mono ?_;rintro e w2 ⟨rfl,hem⟩;obtain⟨v9,bY⟩:=S0.o.then hem;have S1:=ah bY;have xA:=ah (S0.o.i.keep hem.choose_spec.2.1);clear hem bY;clear bP q0 q1 q2 q3 q4 q5 q6 q8 q9 z0 z1 z2 z3;clear x0 x1 x2 x3 jT oH HAT;obtain⟨bP,q0,q1,q2,q3,q4,q5,q6,-,q8,q9,-⟩:=S1.o.i.cells;have z0:=(bK S1.o.x (j:=0) rfl).2;have z1:=(bK S1.o.x (j:=1) rfl).2;have z2:=(bK S1.o.x (j:=2) rfl).2;have z3:=(bK S1.o.x (j:=3) rfl).2;go_wp2_with fail;refine(F7 S1.o.i nm).mono ?_;rintro e w3 ⟨rfl,hb3⟩;have S2:=ah (S1.o.below hb3);clear hb3;clear bP q0 q1 q2 q3 q4 q5 q6 q8 q9 z0 z1 z2 z3;obtain⟨kn,hkn⟩: ∃kn:Nat,W.cell nm=kn:=⟨(W.cell nm).toNat,agt⟩;have Cn:=ah hkn;have hk0:(0:Int)<=(kn:Int):=by omega
  have hk1:(kn:Int)<(W.cs.length:Int):=ags
  have hkt:(W.cell nm).toNat=kn:=ahf
  obtain⟨b3,az9,Km,hb3,hcc⟩:=dS.at kn c S2.o.i.wo.cs afP;have y2:=hcc 2 _ rfl;obtain⟨bP,q0,q1,q2,q3,q4,q5,q6,-,q8,q9,-⟩:=S2.o.i.cells;have z0:=(bK S2.o.x (j:=0) rfl).2;have z1:=(bK S2.o.x (j:=1) rfl).2;have z2:=(bK S2.o.x (j:=2) rfl).2;have z3:=(bK S2.o.x (j:=3) rfl).2;rw[Km]at q0;simp only[aU]at y2;rw[hkn];clear hkn hkt hcc Km hb3;go_wp2_with fail;refine(nV (S2.o.i) ⟨7,d,kn,d,c.sz,0⟩ aaY).mono ?_;rintro e w4 ⟨rfl,hem⟩;obtain⟨v9,bY⟩:=S2.o.then hem;have S3:=ah bY;clear hem bY;clear bP q0 q1 q2 q3 q4 q5 q6 q8 q9 z0 z1 z2 z3;clear y2;go_wp2_with fail;exact bodyPost_end (v:= .tuple #[]) acL rfl ⟨rfl,S3.o.fin acZ⟩
 ·obtain⟨⟨bb,off,Eb,yQ,rfl,jT,x0,x1,x2,x3,hok1,hk1⟩,-⟩:=zM.o;simp only[Nat.zero_mul,Nat.add_zero]at x0 x1 x2 x3;clear z3;have z3:w1.cell? ⟨nb,3,none⟩=some (.slice (some ⟨bb,off,none⟩) 1 cap):=(bK S0.o.x (j:=3) rfl).2;have oI:=ah (ay hok1 hk1);have rE:aj (d+1+fH (.cons o1 n1 m1 k1 .nil)<=1000000):=ah hd1;have AL:=ah (ku W lc b o1 n1 m1 k1 d);have HV:aj (lY W lc b op n nm (.cons o1 n1 m1 k1 .nil) d=lY W lc b o1 n1 m1 k1 d++[⟨3,d,d,0,op,b⟩]):=ah ((LC ahf).trans aaM);have e1:(op==1)=false:=by rw[beq_eq_false_iff_ne];omega
  have e2:(op==2)=false:=acA
  have e3:(op==3)=false:=acA
  have e45:((op==4)=true)∨((op==4)=false∧(op==5)=true):=by
   rcases hop with rfl|rfl
   ·exact .inl rfl
   ·exact .inr ⟨rfl,rfl⟩
  clear hok1 hk1 hop;rcases e45 with e4|⟨e4,e5⟩
  all_goals go_wp2_with fail;refine(oH.o.1 _ L W s lc al cl _ _ a b Eb yQ d S0.o.i oI.o.1 oI.o.2 hs1 ho1 ahf acF aaU).mono ?_;rintro e w2 ⟨rfl,hem⟩;obtain⟨v9,bY⟩:=S0.o.then hem;have S1:=ah bY;have xA:=ah (S0.o.i.keep hem.choose_spec.2.1);clear hem bY;clear bP q0 q1 q2 q3 q4 q5 q6 q8 q9 z0 z1 z2 z3;clear x0 x1 x2 x3 jT oH HAT;obtain⟨bP,q0,q1,q2,q3,q4,q5,q6,-,q8,q9,-⟩:=S1.o.i.cells;have z0:=(bK S1.o.x (j:=0) rfl).2;have z1:=(bK S1.o.x (j:=1) rfl).2;have z2:=(bK S1.o.x (j:=2) rfl).2;have z3:=(bK S1.o.x (j:=3) rfl).2;go_wp2_with fail;refine(nV (S1.o.i) ⟨3,d,d,0,op,0⟩ aaY).mono ?_;rintro e w3 ⟨rfl,hem⟩;obtain⟨v9,bY⟩:=S1.o.then hem;have S2:=ah bY;clear hem bY;clear bP q0 q1 q2 q3 q4 q5 q6 q8 q9 z0 z1 z2 z3;go_wp2_with fail;exact bodyPost_end (v:= .tuple #[]) acL rfl ⟨rfl,S2.o.fin aic⟩
 ·obtain⟨⟨bb,off,Eb,yQ,rfl,jT,x0,x1,x2,x3,hok1,hk1⟩,⟨⟨bb',off',U6,cap2,hao,av7,y0,y1,y2,y3,hok2,hk2⟩,-⟩⟩:=zM.o;injection hao with hao;injection hao with Uw PY;subst Uw PY;simp only[Nat.zero_mul,Nat.add_zero,Nat.one_mul,aU]at x0 x1 x2 x3 y0 y1 y2 y3;clear z3;have z3:w1.cell? ⟨nb,3,none⟩=some (.slice (some ⟨bb,off,none⟩) 2 cap):=(bK S0.o.x (j:=3) rfl).2;have HY:=ah (ay y0 (ay y1 (ay y2 y3)));have oI:=ah (ay hok1 hk1);have qg:=ah (ay hok2 hk2);have rE:aj (d+1+fH (.cons o1 n1 m1 k1 (.cons o2 n2 m2 k2 .nil))<=1000000):=ah hd1;have AL:=ah (ku W lc b o1 n1 m1 k1 d);have as6:=ah (ku W lc b o2 n2 m2 k2 (d+1));have HV:aj (lY W lc b op n nm (.cons o1 n1 m1 k1 (.cons o2 n2 m2 k2 .nil)) d=lY W lc b o1 n1 m1 k1 d++lY W lc b o2 n2 m2 k2 (d+1)++[⟨4,d,d,d+1,op,b⟩]):=ah ((Yl ahf).trans abn);have e1:(op==1)=false:=by rw[beq_eq_false_iff_ne];omega
  have e2:(op==2)=false:=acA
  have e3:(op==3)=false:=acA
  have e4:(op==4)=false:=acA
  have e5:(op==5)=false:=acA
  have hwd:IntKind.i64.wrap (d+1)=d+1:=IntWalk.i64_in _ ahf;have yg:=ah jT;clear hok1 hk1 hok2 hk2 y0 y1 y2 y3 av7;go_wp2_with fail;refine(oH.o.1 _ L W s lc al cl _ _ a b Eb yQ d S0.o.i oI.o.1 oI.o.2 hs1 ho1 ahf acF aaU).mono ?_;rintro e w2 ⟨rfl,hem⟩;obtain⟨v9,bY⟩:=S0.o.then hem;have S1:=ah bY;have xA:=ah (S0.o.i.keep hem.choose_spec.2.1);clear hem bY;clear bP q0 q1 q2 q3 q4 q5 q6 q8 q9 z0 z1 z2 z3;clear x0 x1 x2 x3 HAT;have y0:=(xA.o.cell (p:=⟨bb,off+4,none⟩) yg.o).trans HY.o.1;have y1:=(xA.o.cell (p:=⟨bb,off+4+1,none⟩) yg.o).trans HY.o.2.1;have y2:=(xA.o.cell (p:=⟨bb,off+4+2,none⟩) yg.o).trans HY.o.2.2.1;have y3:=(xA.o.cell (p:=⟨bb,off+4+3,none⟩) yg.o).trans HY.o.2.2.2;have ar4:=ah (qg.o.2.below xA.o);have hd2:0<=d+1:=ahf
  obtain⟨bP,q0,q1,q2,q3,q4,q5,q6,-,q8,q9,-⟩:=S1.o.i.cells;have z0:=(bK S1.o.x (j:=0) rfl).2;have z1:=(bK S1.o.x (j:=1) rfl).2;have z2:=(bK S1.o.x (j:=2) rfl).2;have z3:=(bK S1.o.x (j:=3) rfl).2;clear z3;have z3:w2.cell? ⟨nb,3,none⟩=some (.slice (some ⟨bb,off,none⟩) 2 cap):=(bK S1.o.x (j:=3) rfl).2;go_wp2_with fail;refine(oH.o.2.1 _ L W s lc al cl _ _ a b U6 cap2 (d+1) S1.o.i qg.o.1 ar4.o hs2 ho2 ahf acF aaY).mono ?_;rintro e w3 ⟨rfl,hem⟩;obtain⟨v9,bY⟩:=S1.o.then hem;have S2:=ah bY;have xA:=ah (S1.o.i.keep hem.choose_spec.2.1);clear hem bY;clear bP q0 q1 q2 q3 q4 q5 q6 q8 q9 z0 z1 z2 z3;clear y0 y1 y2 y3 jT oH;obtain⟨bP,q0,q1,q2,q3,q4,q5,q6,-,q8,q9,-⟩:=S2.o.i.cells;have z0:=(bK S2.o.x (j:=0) rfl).2;have z1:=(bK S2.o.x (j:=1) rfl).2;have z2:=(bK S2.o.x (j:=2) rfl).2;have z3:=(bK S2.o.x (j:=3) rfl).2;go_wp2_with fail;refine(nV (S2.o.i) ⟨4,d,d,d+1,op,0⟩ aaK).mono ?_;rintro e w4 ⟨rfl,hem⟩;obtain⟨v9,bY⟩:=S2.o.then hem;have S3:=ah bY;clear hem bY;clear bP q0 q1 q2 q3 q4 q5 q6 q8 q9 z0 z1 z2 z3;go_wp2_with fail;exact bodyPost_end (v:= .tuple #[]) acL rfl ⟨rfl,S3.o.fin aic⟩
theorem Ih (op n:Int) (nm:ByteArray) (kids:bV):Sr op n nm kids:=bV.BS Wj op n nm kids
theorem QK {W:Wo} {h:dM} {bl el:Nat} (hs:oM h bl el=true) (ho:KE W h=true) (hop:h.op=1):
 jZ h.dY h.xn h.dX h.bM=true∧AP W h.dY h.dX h.bM=true∧(h.idx= .nil∨∃o n m k,h.idx= .cons o n m k .nil∧jZ o n m k=true∧AP W o m k=true∧0<=W.cell h.nm):=by
 unfold oM at hs;simp only[aM]at hs;obtain⟨⟨-,⟨h2,h3⟩,h3'⟩,h4,-⟩:=hs;rw[show fX h.op=true by rw[hop];rfl,if_pos rfl]at h4;unfold KE at ho;rw[aM,aM]at ho;obtain⟨k1,k2,k3⟩:=ho;refine⟨h4,k1,?_⟩;cases hi:h.idx with
 |nil=>exact .inl rfl
 |cons o n m k r=>
  right;rw[hi]at h2 h3' k2 k3;have h5:(bV.cons o n m k r).len<=1:=aho
  simp only[bV.len]at h5;have hr:r= .nil:=Nf ahf;subst hr;rw[nX,aM]at h3';rw[IC,aM]at k2;refine⟨o,n,m,k,rfl,h3'.1,k2.1,?_⟩;simpa[bV.len,hop]using k3
theorem Xi {W:Wo} {lc:List ByteArray} {st:Int} {h:dM} (hi:h.idx= .nil):EZ W lc st h=iX W lc st h lc.length++[if decide (0<=gK lc h.nm)then⟨2,gK lc h.nm,lc.length,0,0,st⟩else⟨8,W.cell h.nm,lc.length,0,0,st⟩]:=by
 unfold EZ;rw[hi]
theorem Xj {W:Wo} {lc:List ByteArray} {st:Int} {h:dM} {o n:Int} {m:ByteArray} {k:bV} (hi:h.idx= .cons o n m k .nil):EZ W lc st h=lY W lc st o n m k lc.length++iX W lc st h (lc.length+1)++[⟨9,W.cell h.nm,lc.length+1,lc.length,W.size h.nm,st⟩]:=by
 unfold EZ;rw[hi]
theorem Wi {w:World} {L:GL} {W:Wo} {s:jr} {lc:List ByteArray} {al:Option Addr} {cl:Nat} {v:Value} {code:List dw} {a b:Int} (hI:iE 106 w L W s lc al cl v code a b) {h:dM} {e0 e1:bf} {sl:Sl} {nx:Nat} (hp:rG w L W code h e0 e1 sl nx) (hop:h.op=1):
 Calls Tryz.prog 101 #[.pointer (some ⟨L.gb,0,none⟩),iG h e0 e1 sl] w λe w'=>e= .returned (.tuple #[])∧Qm 106 w L W s lc al cl v code a b (EZ W lc b h) w':=by
 obtain⟨hs1,ho1,hidx⟩:=QK hp.sh hp.ok.1 hop;have HI:=ah hI;have HP:=ah hp;have HL:=ah hp.len;have sw:=ah hp.ok.2;have NC:=ah hI.few;have hl0:(lc.length:Int)<=1000:=afx
 clear hI hp hop;unfold iG;go_enter Tryz.func101,Tryz.ntmps101;go_upto_region 1 with fail;generalize hW:World.alloc w _=w1;obtain⟨nb,hnb,HB,-,HX,-⟩:=oJ hW;have S0:=ah (kU.start HI.o HB.o hnb HX.o);have pO:=ah (HI.o.keep (Kg.of_below HB.o));have mI:=ah (HP.o.below pO.o);rw[hnb];clear hW hnb HX HB;obtain⟨bP,q0,q1,q2,q3,q4,q5,q6,-,q8,q9,-⟩:=S0.o.i.cells;obtain⟨z0,z1,z2,z3,z4,z5,z6,z7,z8,z9,dV⟩:=nH S0.o.x;have HVX:=ah (ku W lc b h.dY h.xn h.dX h.bM lc.length);have HVY:=ah (ku W lc b h.dY h.xn h.dX h.bM (lc.length+1));have hwk:IntKind.i64.wrap ((lc.length:Int)+1)=(lc.length:Int)+1:=IntWalk.i64_in _ ahf;rcases hidx with hi|⟨o1,n1,m1,k1,hi,hs2,ho2,hce⟩
 ·have HV:=ah (Xi (W:=W) (lc:=lc) (st:=b) hi);have Jh:w1.cell? ⟨nb,4,none⟩=some (.slice sl.gu 0 sl.eG):=by rw[z4,hi];rfl
  have rE:aj ((lc.length:Int)+1+fH h.bM<=1000000):=ah acR;clear z4;go_wp2_with fail;refine(Ih h.dY h.xn h.dX h.bM _ L W s lc al cl _ _ a b sl.gY sl.fD lc.length S0.o.i mI.o.m.1.2.2.2.2.2.1 mI.o.m.2.2.1 hs1 ho1 ahf rE.o abP).mono ?_;rintro e w2 ⟨rfl,hem⟩;obtain⟨v9,bY⟩:=S0.o.then hem;have S1:=ah bY;clear hem bY Jh;clear bP q0 q1 q2 q3 q4 q5 q6 q8 q9 z0 z1 z2 z3 z5 z6 z7 z8 z9 dV;obtain⟨bP,q0,q1,q2,q3,q4,q5,q6,-,q8,q9,-⟩:=S1.o.i.cells;obtain⟨z0,z1,z2,z3,z4,z5,z6,z7,z8,z9,dV⟩:=nH S1.o.x;go_wp2_with fail;have HSL:aj (∀nq,Calls Tryz.prog 110 #[.slice al lc.length cl,.string h.nm] (w2.drewN nq) λe w'=>e= .returned (.int .i64 (gK lc h.nm))∧w2.drewN nq=w'):=ah (λnq=>by have hb:=below_drewN (n:=nq) (ak w2.heap.size w2);have:=S1.o.i.below hb;exact MC lc h.nm (w2.drewN nq) al cl acW (this.lc.mono this.b0));go_quiet ((go_at_call 110;exact kJ (HSL.o _)));have S2:=ah (S1.o.below (below_drewN (n:=nq) (ak w2.heap.size w2)));clear HSL S1;clear bP q0 q1 q2 q3 q4 q5 q6 q8 q9 z0 z1 z2 z3 z5 z6 z7 z8 z9 dV;generalize w2.drewN nq=w3 at *;obtain⟨bP,q0,q1,q2,q3,q4,q5,q6,-,q8,q9,-⟩:=S2.o.i.cells;obtain⟨z0,z1,z2,z3,z4,z5,z6,z7,z8,z9,dV⟩:=nH S2.o.x;by_cases hk:0<=gK lc h.nm
  ·have AJ:aj (EZ W lc b h=iX W lc b h lc.length++[⟨2,gK lc h.nm,lc.length,0,0,b⟩]):=ah (HV.o.trans aep);clear HV;generalize gK lc h.nm=k at *;go_wp2_with fail;refine(nV (S2.o.i) ⟨2,k,lc.length,0,0,0⟩ aao).mono ?_;rintro e w4 ⟨rfl,hem⟩;obtain⟨v9,bY⟩:=S2.o.then hem;have S3:=ah bY;have qh:=ah (S2.o.i.keep hem.choose_spec.2.1);clear hem bY;clear bP q0 q1 q2 q3 q4 q5 q6 q8 q9 z0 z1 z2 z3 z5 z6 z7 z8 z9 dV;go_wp2_with fail;exact bodyPost_ret (v:= .tuple #[]) adf rfl ⟨rfl,S3.o.fin AJ.o.symm⟩
  ·have AJ:aj (EZ W lc b h=iX W lc b h lc.length++[⟨8,W.cell h.nm,lc.length,0,0,b⟩]):=ah (HV.o.trans aer);clear HV;generalize gK lc h.nm=k at *;go_wp2_with fail;refine(F7 S2.o.i h.nm).mono ?_;rintro e w4 ⟨rfl,hb4⟩;have S3:=ah (S2.o.below hb4);clear hb4;clear bP q0 q1 q2 q3 q4 q5 q6 q8 q9 z0 z1 z2 z3 z5 z6 z7 z8 z9 dV;obtain⟨bP,q0,q1,q2,q3,q4,q5,q6,-,q8,q9,-⟩:=S3.o.i.cells;obtain⟨z0,z1,z2,z3,z4,z5,z6,z7,z8,z9,dV⟩:=nH S3.o.x;go_wp2_with fail;refine(nV (S3.o.i) ⟨8,W.cell h.nm,lc.length,0,0,0⟩ aao).mono ?_;rintro e w5 ⟨rfl,hem⟩;obtain⟨v9,bY⟩:=S3.o.then hem;have S4:=ah bY;have qh:=ah (S3.o.i.keep hem.choose_spec.2.1);clear hem bY;clear bP q0 q1 q2 q3 q4 q5 q6 q8 q9 z0 z1 z2 z3 z5 z6 z7 z8 z9 dV;go_wp2_with fail;exact bodyPost_end (v:= .tuple #[]) adf rfl ⟨rfl,S4.o.fin AJ.o.symm⟩
 ·have HV:=ah (Xj (W:=W) (lc:=lc) (st:=b) hi);have Jh:w1.cell? ⟨nb,4,none⟩=some (.slice sl.gu 1 sl.eG):=by rw[z4,hi];rfl
  have hidx:=mI.o.m.2.1;rw[hi]at hidx;obtain⟨⟨bb,off,Eb,yQ,hao,jT,x0,x1,x2,x3,hok1,hk1⟩,-⟩:=hidx;rw[hao]at Jh;simp only[Nat.zero_mul,Nat.add_zero]at x0 x1 x2 x3;have oI:=ah (ay hok1 hk1);have rE:aj ((lc.length:Int)+2+fH h.bM<=1000000∧(lc.length:Int)+1+fH k1<=1000000∧1+fH h.bM+(1+fH k1)+1<=iT h):=ah aaQ;have HVK:=ah (ku W lc b o1 n1 m1 k1 lc.length);obtain⟨c,hc1,hc2,hc3,hc4⟩:=Ld hce;have HC:=ah (ay hc1 (ay hc2 hc3));have G7:=ah (ay hce hc4);clear z4 hok1 hk1 hc1 hc2 hc3 hc4 hce hao hi;go_wp2_with fail;refine(Ih o1 n1 m1 k1 _ L W s lc al cl _ _ a b Eb yQ lc.length S0.o.i oI.o.1 oI.o.2 hs2 ho2 ahf rE.o.2.1 abZ).mono ?_;rintro e w2 ⟨rfl,hem⟩;obtain⟨v9,bY⟩:=S0.o.then hem;have S1:=ah bY;have jC:=ah (mI.o.below (S0.o.i.keep hem.choose_spec.2.1));clear hem bY Jh x0 x1 x2 x3;clear bP q0 q1 q2 q3 q4 q5 q6 q8 q9 z0 z1 z2 z3 z5 z6 z7 z8 z9 dV;obtain⟨bP,q0,q1,q2,q3,q4,q5,q6,-,q8,q9,-⟩:=S1.o.i.cells;obtain⟨z0,z1,z2,z3,z4,z5,z6,z7,z8,z9,dV⟩:=nH S1.o.x;go_wp2_with fail;refine(Ih h.dY h.xn h.dX h.bM _ L W s lc al cl _ _ a b sl.gY sl.fD (lc.length+1) S1.o.i jC.o.m.1.2.2.2.2.2.1 jC.o.m.2.2.1 hs1 ho1 ahf (by have:=rE.o.1;omega) aaN).mono ?_;rintro e w3 ⟨rfl,hem⟩;obtain⟨v9,bY⟩:=S1.o.then hem;have S2:=ah bY;clear hem bY;clear bP q0 q1 q2 q3 q4 q5 q6 q8 q9 z0 z1 z2 z3 z5 z6 z7 z8 z9 dV;obtain⟨bP,q0,q1,q2,q3,q4,q5,q6,-,q8,q9,-⟩:=S2.o.i.cells;obtain⟨z0,z1,z2,z3,z4,z5,z6,z7,z8,z9,dV⟩:=nH S2.o.x;go_wp2_with fail;refine(F7 S2.o.i h.nm).mono ?_;rintro e w4 ⟨rfl,hb4⟩;have S3:=ah (S2.o.below hb4);clear hb4;clear bP q0 q1 q2 q3 q4 q5 q6 q8 q9 z0 z1 z2 z3 z5 z6 z7 z8 z9 dV;obtain⟨kn,hkn⟩: ∃kn:Nat,W.cell h.nm=kn:=⟨(W.cell h.nm).toNat,agt⟩;have Cn:=ah hkn;have hk0:(0:Int)<=(kn:Int):=ahf
  have hk1:(kn:Int)<(W.cs.length:Int):=ags
  have hkt:(W.cell h.nm).toNat=kn:=ahf
  obtain⟨b3,az9,Km,hb3,hcc⟩:=dS.at kn c S3.o.i.wo.cs afP;have y2:=hcc 2 _ rfl;obtain⟨bP,q0,q1,q2,q3,q4,q5,q6,-,q8,q9,-⟩:=S3.o.i.cells;obtain⟨z0,z1,z2,z3,z4,z5,z6,z7,z8,z9,dV⟩:=nH S3.o.x;rw[Km]at q0;simp only[aU]at y2;rw[hkn];clear hkn hkt hcc Km hb3;go_wp2_with fail;refine(nV (S3.o.i) ⟨9,kn,lc.length+1,lc.length,c.sz,0⟩ aaw).mono ?_;rintro e w5 ⟨rfl,hem⟩;obtain⟨v9,bY⟩:=S3.o.then hem;have S4:=ah bY;have qh:=ah (S3.o.i.keep hem.choose_spec.2.1);clear hem bY;clear bP q0 q1 q2 q3 q4 q5 q6 q8 q9 z0 z1 z2 z3 z5 z6 z7 z8 z9 dV;clear y2;go_wp2_with fail;exact bodyPost_ret (v:= .tuple #[]) adf rfl ⟨rfl,S4.o.fin acZ⟩
def zJ (l:bf):Prop:= ∀(w:World) (L:GL) (W:Wo) (s:jr) (lc:List ByteArray) (al:Option Addr) (cl:Nat) (v:Value) (code:List dw) (b:Int) (nx:Nat) (ao:Option Addr) (cap:Nat),
 iE 106 w L W s lc al cl v code (nx:Nat) b->l.len<=maxLen->l.At w L.B0 ao 0->gy l=true->l.Ev (MB W)->code.length+lJ l<=1000000000000->nx+lJ l<=1000000000000->
 Calls Tryz.prog 42 #[.pointer (some ⟨L.gb,0,none⟩),.slice ao l.len cap] w λe w'=>e= .returned (.tuple #[])∧IU (λa' _=>a'=((nx+dB l:Nat):Int)) 106 w L W s lc al cl v code (ko W lc l nx code.length) w'
theorem Wh {w:World} {L:GL} {W:Wo} {s:jr} {lc:List ByteArray} {al:Option Addr} {cl:Nat} {v:Value} {code:List dw} {b:Int} {h:dM} {e0 e1:bf} {sl:Sl} {nx:Nat} (hI:iE 106 w L W s lc al cl v code ((nx+1:Nat):Int) b) (hp:rG w L W code h e0 e1 sl nx) (x y o:Int) (jV:zJ e0):
 Calls Tryz.prog 104 #[.pointer (some ⟨L.gb,0,none⟩),iG h e0 e1 sl,.int .i64 x,.int .i64 y,.int .i64 o] w λe w'=>e= .returned (.tuple #[])∧IU (λa' _=>a'=((nx+1+dB e0:Nat):Int)) 106 w L W s lc al cl v code ([⟨x,o,0,0,0,b⟩]++ko W lc e0 (nx+1) (code.length+1)++[⟨y,o,0,0,0,b⟩]) w':=by
 have HI:=ah hI;have HP:=ah hp;have HL:=ah hp.len;have zQ:=ah hp.cnt;have sw:=ah hp.ok.2;have hl0:(lc.length:Int)<=1000:=afx
 clear hI hp;unfold iG;go_enter Tryz.func104,Tryz.ntmps104;go_upto_region 1 with fail;generalize hW:World.alloc w _=w1;obtain⟨nb,hnb,HB,-,HX,-⟩:=oJ hW;have S0:=ah (kU.start HI.o HB.o hnb HX.o);have mI:=ah (HP.o.below (HI.o.keep (Kg.of_below HB.o)));rw[hnb];clear hW hnb HX HB;have rF:=ah jV;clear jV;obtain⟨bP,q0,q1,q2,q3,q4,q5,q6,-,q8,q9,-⟩:=S0.o.i.cells;obtain⟨z0,z1,z2,z3,z4,z5,z6,z7,z8,z9,dV⟩:=nH S0.o.x;go_wp2_with fail;refine(nV (S0.o.i) ⟨x,o,0,0,0,0⟩ aal).mono ?_;rintro e w2 ⟨rfl,hem⟩;obtain⟨v9,bY⟩:=S0.o.then hem;have S1:=ah bY;have qh:=ah (S0.o.i.keep hem.choose_spec.2.1);clear hem bY;have jC:=ah (mI.o.below qh.o);clear bP q0 q1 q2 q3 q4 q5 q6 q8 q9 z0 z1 z2 z3 z5 z6 z7 z8 z9 dV;clear z4;obtain⟨bP,q0,q1,q2,q3,q4,q5,q6,-,q8,q9,-⟩:=S1.o.i.cells;obtain⟨z0,z1,z2,z3,z4,z5,z6,z7,z8,z9,dV⟩:=nH S1.o.x;go_wp2_with fail;refine(rF.o _ L W s lc al cl _ _ b (nx+1) sl.dR sl.dA S1.o.i (jC.o.b7) jC.o.m.2.2.2.1 jC.o.sb jC.o.ob aaD acV).mono ?_;rintro e w3 ⟨rfl,hem⟩;generalize Ad:ko W lc e0 (nx+1) _=GB at hem;have zT:=ah Ad;have Jw:aj (GB.length<=lJ e0):=ah acS;clear Ad;obtain⟨v9,a3,b3,lI,bY⟩:=S1.o.list hem;have S2:=ah bY;have ze:=ah lI;have xA:=ah (S1.o.i.keep hem.choose_spec.choose_spec.choose_spec.2.2.1);clear hem bY lI;clear bP q0 q1 q2 q3 q4 q5 q6 q8 q9 z0 z1 z2 z3 z5 z6 z7 z8 z9 dV;clear z4;obtain⟨bP,q0,q1,q2,q3,q4,q5,q6,-,q8,q9,-⟩:=S2.o.i.cells;obtain⟨z0,z1,z2,z3,z4,z5,z6,z7,z8,z9,dV⟩:=nH S2.o.x;have f9:=S2.o.i.cells.2.2.2.2.2.2.2.2.2.2.2 9;go_upto_region 5 with fail;generalize hW:World.setCell w3 _ _=w4;have S3:=ah (show kU _ _ _ _ _ _ _ _ _ _ _ _ _ _ _ _ w4 _ by rw[<- hW];exact S2.o.jA b);clear hW f9 S2;clear bP q0 q1 q2 q3 q4 q5 q6 q8 q9 z0 z1 z2 z3 z5 z6 z7 z8 z9 dV;clear z4;obtain⟨bP,q0,q1,q2,q3,q4,q5,q6,-,q8,q9,-⟩:=S3.o.i.cells;obtain⟨z0,z1,z2,z3,z4,z5,z6,z7,z8,z9,dV⟩:=nH S3.o.x;go_wp2_with fail;refine(nV (S3.o.i) ⟨y,o,0,0,0,0⟩ aaC).mono ?_;rintro e w5 ⟨rfl,hem⟩;obtain⟨v9,bY⟩:=S3.o.then hem;have S4:=ah bY;have qh:=ah (S3.o.i.keep hem.choose_spec.2.1);clear hem bY;clear bP q0 q1 q2 q3 q4 q5 q6 q8 q9 z0 z1 z2 z3 z5 z6 z7 z8 z9 dV;go_wp2_with fail;exact bodyPost_end (v:= .tuple #[]) (by simp[results,Tryz.results104,go_sem]) rfl ⟨rfl,S4.o.qW ze.o (by rw[<- zT.o];simp)⟩
theorem ZU {W:Wo} {h:dM} {bl el:Nat} (hs:oM h bl el=true) (ho:KE W h=true) (hf:fX h.op=true):jZ h.dY h.xn h.dX h.bM=true∧AP W h.dY h.dX h.bM=true:=by
 unfold oM at hs;simp only[aM]at hs;obtain⟨-,h4,-⟩:=hs;rw[hf,if_pos rfl]at h4;unfold KE at ho;rw[aM]at ho;exact⟨h4,ho.1⟩
theorem aA8 {W:Wo} {lc:List ByteArray} {h:dM} {b e:bf} {nx pos:Nat} (hop:h.op=3) {X B:List dw} (hX:lY W lc nx h.dY h.xn h.dX h.bM lc.length=X) {q:Nat} (hB:ko W lc b (nx+1) q=B) (hq:q=pos+X.length+1):
 vC W lc h b e nx pos=X++[⟨10,lc.length,((pos+X.length+1+B.length+1:Nat):Int),0,0,nx⟩]++B++[⟨5,(pos:Int),0,0,0,nx⟩]:=by
 subst hq;unfold vC GR rM;rw[show iX W lc nx h lc.length=X from hX];simp only[hop];rw[show((3:Int)==2)=false from rfl,show((3:Int)==3)=true from rfl];simp only[Bool.false_or,if_true,if_false,Bool.false_eq_true];rw[show pos+(X.length+1)=pos+X.length+1 from rfl,hB]
theorem bl3 {W:Wo} {lc:List ByteArray} {h:dM} {b e:bf} {nx pos:Nat} (hop:h.op=2) {X B:List dw} (hX:lY W lc nx h.dY h.xn h.dX h.bM lc.length=X) {q:Nat} (hB:ko W lc b (nx+1) q=B) (hq:q=pos+X.length+1) (he:e= .nil):
 vC W lc h b e nx pos=X++[⟨10,lc.length,((pos+X.length+1+B.length:Nat):Int),0,0,nx⟩]++B:=by
 subst hq;unfold vC GR rM;rw[show iX W lc nx h lc.length=X from hX];simp only[hop,he];rw[show((2:Int)==2)=true from rfl];simp only[Bool.true_or,if_true,bf.none];rw[show pos+(X.length+1)=pos+X.length+1 from rfl,hB]
theorem aO8 {W:Wo} {lc:List ByteArray} {h:dM} {b e:bf} {nx pos:Nat} (hop:h.op=2) {X B E:List dw} (hX:lY W lc nx h.dY h.xn h.dX h.bM lc.length=X) {q:Nat} (hB:ko W lc b (nx+1) q=B) (hq:q=pos+X.length+1) {n r:Nat} (hE:ko W lc e n r=E) (hn:n=nx+1+dB b) (hr:r=pos+X.length+1+B.length+1) (he:e.none=false):
 vC W lc h b e nx pos=X++[⟨10,lc.length,((pos+X.length+1+B.length+1:Nat):Int),0,0,nx⟩]++B++[⟨5,((pos+X.length+1+B.length+1+E.length:Nat):Int),0,0,0,nx⟩]++E:=by
 subst hq hn hr;unfold vC GR rM;rw[show iX W lc nx h lc.length=X from hX];simp only[hop,he];rw[show((2:Int)==2)=true from rfl];simp only[Bool.true_or,if_true,Bool.false_eq_true,if_false];rw[show pos+(X.length+1)=pos+X.length+1 from rfl,hB,hE]
theorem Iz {e:bf} (h:e.len=0):e= .nil:=by
 cases e with
 |nil=>rfl
 |cons=>simp[bf.len]at h
theorem aB6 {e:bf} (h:0<e.len):e.none=false:=by
 cases e with
 |nil=>simp[bf.len]at h
 |cons=>rfl
theorem Xv (A:List dw) (p:dw) (B:List dw) (q:dw) (E:List dw):(A++p::(B++[q])++E)[A.length+1+B.length]? =some q:=by
 have e:A++p::(B++[q])++E=(A++p::B)++(q::E):=ahh
 rw[e,List.getElem?_append_right ahi];rw[show A.length+1+B.length -(A++p::B).length=0 by simp;omega];rfl
theorem set_mid (A:List dw) (p:dw) (B:List dw) (q q':dw) (E:List dw):(A++p::(B++[q])++E).set (A.length+1+B.length) q'=A++[p]++B++[q']++E:=by
 have e:A++p::(B++[q])++E=(A++p::B)++(q::E):=ahh
 rw[e,List.set_append_right _ _ ahi];rw[show A.length+1+B.length -(A++p::B).length=0 by simp;omega];simp
theorem wZ {W:Wo} {lc:List ByteArray} {h:dM} {b e:bf} {nx pos:Nat} (h1:4<=h.op) (h2:h.op<=8) {B:List dw} (hB:ko W lc b (nx+1) (pos+1)=B):vC W lc h b e nx pos=[⟨Cw h.op,Mf W h,0,0,0,nx⟩]++B++[⟨Cw h.op+1,Mf W h,0,0,0,nx⟩]:=by
 unfold vC GR rM;have e2:(h.op==2)=false:=acA
 have e3:(h.op==3)=false:=acA
 have e4:(decide (4<=h.op)&&decide (h.op<=8))=true:=ahi
 simp only[e2,e3,e4,Bool.false_or,Bool.false_eq_true,if_false,if_true];rw[hB]
theorem pX {W:Wo} {lc:List ByteArray} {h:dM} {b e:bf} {nx pos:Nat} (h1:h.op=1∨9<=h.op):vC W lc h b e nx pos=yX W lc nx h:=by
 unfold vC GR rM;have e2:(h.op==2)=false:=acA
 have e3:(h.op==3)=false:=acA
 have e4:(decide (4<=h.op)&&decide (h.op<=8))=false:=ahi
 simp only[e2,e3,e4,Bool.false_eq_true,if_false]
theorem Vn {h:dM} {b e:bf} (hs:oM h b.len e.len=true):(1<=h.op∧h.op<=15)∧(h.op≠2->e= .nil)∧(h.op=1∨9<=h.op->b= .nil):=by
 unfold oM at hs;simp only[aM]at hs;obtain⟨⟨⟨h1,-⟩,-,-⟩,-,h5,h6⟩:=hs;unfold fO at h1;simp only[aM,decide_eq_true_eq]at h1;refine⟨h1,λhn=> ?_,λhn=> ?_⟩
 ·rw[Bool.or_eq_true]at h6;rcases h6 with h6|h6
  ·unfold fE at h6;exact absurd (by simpa using h6) hn
  ·exact Iz (by simpa using h6)
 ·rw[Bool.or_eq_true]at h5;rcases h5 with h5|h5
  ·unfold fB at h5;simp only[aM,decide_eq_true_eq]at h5;omega
  ·exact Iz air
theorem av5 {w:World} {L:GL} {W:Wo} {s:jr} {lc:List ByteArray} {al:Option Addr} {cl:Nat} {v:Value} {code:List dw} {h:dM} {e0 e1:bf} {sl:Sl} {nx:Nat} (hI:iE 106 w L W s lc al cl v code ((nx+1:Nat):Int) (nx:Nat)) (hp:rG w L W code h e0 e1 sl nx) (jV:zJ e0) (Fb:zJ e1) (hS:BH h):
 Calls Tryz.prog 74 #[.pointer (some ⟨L.gb,0,none⟩),iG h e0 e1 sl] w λe w'=>e= .returned (.tuple #[])∧IU (λa' _=>a'=((nx+1+dB e0+dB e1:Nat):Int)) 106 w L W s lc al cl v code (vC W lc h e0 e1 nx code.length) w':=by
 have fF:=ah (Vn hp.sh);have rF:=ah jV;have ql:=ah Fb;have xE:=ah hS;clear jV Fb hS;have HI:=ah hI;have HP:=ah hp;have HL:=ah hp.len;have zQ:=ah hp.cnt;have sw:=ah hp.ok.2;have hl0:(lc.length:Int)<=1000:=afx
 clear hI hp;unfold iG;go_enter Tryz.func74,Tryz.ntmps74;go_upto_region 1 with fail;generalize hW:World.alloc w _=w1;obtain⟨nb,hnb,HB,-,HX,-⟩:=oJ hW;have S0:=ah (kU.start HI.o HB.o hnb HX.o);have mI:=ah (HP.o.below (HI.o.keep (Kg.of_below HB.o)));rw[hnb];clear hW hnb HX HB;obtain⟨bP,q0,q1,q2,q3,q4,q5,q6,-,q8,q9,-⟩:=S0.o.i.cells;obtain⟨z0,z1,z2,z3,z4,z5,z6,z7,z8,z9,dV⟩:=nH S0.o.x;have hop:h.op=1∨h.op=4:=xE.o;rcases hop with hop|hop
 all_goals have hin:=fF.o;have iC:=ah hop
 ·obtain⟨sH,sI,qQ,sJ,sK,sM,CP,CQ,CS,xR,xS,xU,xV,xW,xX⟩:=op1 hop;clear hop fF;obtain rfl:=hin.2.1 afg;obtain rfl:=hin.2.2 (.inl iC.o);go_wp2_with fail;refine(Wi S0.o.i (h:=h) (e0:= .nil) (e1:= .nil) (sl:=sl) (nx:=nx) (by simpa using mI.o) iC.o).mono ?_;rintro e w2 ⟨rfl,hem⟩;obtain⟨v9,bY⟩:=S0.o.then hem;clear hem;clear bP q0 q1 q2 q3 q4 q5 q6 q8 q9 z0 z1 z2 z3 z5 z6 z7 z8 z9 dV;clear z4;go_wp2_with fail;exact bodyPost_end (v:= .tuple #[]) adW rfl ⟨rfl,bY.qW rfl acp⟩
 ·obtain⟨sH,sI,qQ,sJ,sK,sM,CP,CQ,CS,xR,xS,xU,xV,xW,xX⟩:=op4 hop;clear hop fF;obtain rfl:=hin.2.1 afg;go_wp2_with fail;have HZ:=ah (FL (aI S0.o.x) z0 z1 z2 z3 z4 z5 z6 z7 z8 z9 dV);have HQ:=ah (ay bP q6);clear bP q0 q1 q2 q3 q4 q5 q6 q8 q9 z0 z1 z2 z3 z5 z6 z7 z8 z9 dV;clear z4;obtain⟨Y0,Y1,Y2,Y3,Y4,Y5,Y6,Y7,Y8,Y9,uJ⟩:=HZ.o;refine cK ahe rfl ?_;refine bW 0 6 [] [[],[],[],[],[3],[2,3,4],[0,1,2,3,4,5]] [[],[],[],[],[],[]] (λ_ w'=>Below w1.heap.size w1 w') (λw w'=>Below w.heap.size w w') [29,30,31,32,33,34] rfl rfl aix ahe ahe ahe ahe ahe aix (λ_=>ak _ _) aix (below_drewN (ak _ _) 1) ?_;simp only[gJ,kE]
  iterate 5
   apply bH.step
   case cu=>intro c A w' hok hC hO hD;have e0:=hO 0 aix;have e3:=hO 3 aix;simp[Act.eval]at e0 e3;simp[Act.eval]at hD;simp[go_sem,gd,Oper.wp,hD,e0,e3,Y0,Y1,Y2,Y3,Y4,Y5,Y6,Y7,Y8,Y9,uJ,hC];exact AbN
   try simp only[dI]
  refine bH.some (λv _=>v= .int .i64 (W.lock h.nm)) (λ_ _ _ _ h=>h) ?_ ?_
  ·intro c A w' hok hC hO hD;simp[Act.eval]at hD;simp[go_sem,gd,Oper.wp,hD];refine(ag4 (S0.o.i.below hC) h.nm).mono ?_;exact AbD
  try simp only[dI]
  refine bH.done ?_;intro wz dx
  try simp only[gJ]
  iterate 6 refine kZ ?_
  refine mE ?_;go_simp;have S1:=ah (S0.o.below dx);have DK:=ah (HP.o.below (HI.o.keep S1.o.k));clear Y0 Y1 Y2 Y3 Y4 Y5 Y6 Y7 Y8 Y9 uJ dx;refine dD 6 [[],[],[],[],[3],[2,3,4],[0,1,2,3,4,5]] rfl rfl rfl rfl rfl ahe ahe ahe ?_;simp[go_sem,Oper.wp];refine(Wh S1.o.i (h:=h) (e0:=e0) (e1:= .nil) (sl:=sl) (nx:=nx) agi 11 12 (W.lock h.nm) rF.o).mono ?_;rintro e w2 ⟨rfl,hem⟩;obtain⟨v9,a9,b9,lI,bY⟩:=S1.o.list hem;clear hem;refine dH rfl ?_;go_simp;go_wp2_with fail;exact bodyPost_end (v:= .tuple #[]) adW rfl ⟨rfl,bY.qW lI aas⟩
theorem Uo (l:bf) (hall:l.All λh b e=>BH h∧(zJ b∧zJ e)):zJ l:=by
 intro w L W s lc al cl v code b nx ao cap hI hl hat hsh hev hlen hcnt;have hBase:=ah hI;generalize hres:ko W lc l nx code.length=res;have HR:=ah hres;have HI:=ah hI;have HAT:=ah hat;have BF:=ah hsh;have HEV:=ah hev;have HL:=ah hlen;have HN:=ah hcnt;have lG:=ah hall;have WG:=ah (uL l);unfold maxLen at hl;clear hres hI hat hsh hev hlen hcnt hall;go_enter Tryz.func42,Tryz.ntmps42;go_wp2_with fail;go_loopw [5,8] (λ_ i wr=> ∃(k:Nat) (R:bf) (xs:List dw) (v':Value) (nx':Nat) (b':Int),i= .int .i64 k∧k+R.len=l.len∧res=xs++ko W lc R nx' (code++xs).length∧nx'+dB R=nx+dB l∧xs.length+lJ R<=lJ l∧nx'+lJ R<=nx+lJ l∧gy R=true∧R.Ev (MB W)∧(R.All λh b e=>BH h∧(zJ b∧zJ e))∧R.At wr L.B0 ao k∧iE 106 wr L W s lc al cl v' (code++xs) (nx':Nat) b'∧Kg L v w wr∧pI w v v') (λ_ i _=>l.len -(intOf i).toNat)
 case atStart=>exact⟨0,l,[],v,nx,b,rfl,ahh,by rw[<- HR.o];simp,rfl,ahh,aD _,BF.o,HEV.o,lG.o,HAT.o,aga,Kg.refl _ _ _,.inl rfl⟩
 case round=>
  obtain⟨k,R,xs,v',nx',b',rfl,hlen,heq,hnx,hw1,hw2,hsh,hev,hall,hrow,hge,hkg,how⟩:=hrel;have HE:=ah heq;have dN:=ah (ay hnx (ay hw1 hw2));have HG:=ah hge;have HK:=ah hkg;have HO:=ah how;clear heq hnx hw1 hw2 hge hkg how;cases R with
  |nil=>
   obtain rfl:k=l.len:=afk
   have HX:aj (IU (λa' _=>a'=((nx+dB l:Nat):Int)) 106 w L W s lc al cl v code res wr):=ah ⟨v',((nx':Nat):Int),b',(show((nx':Nat):Int)=((nx+dB l:Nat):Int) by have:=dN.o.1;simp only[dB,Nat.add_zero]at this;rw[this]),by rw[HE.o];simpa[ko]using HG.o,HK.o,HO.o⟩;clear hrow hsh hev hall;go_wp2_with fail;exact bodyPost_end (v:= .tuple #[]) (by simp[results,Tryz.results42,go_sem]) rfl ⟨rfl,HX.o⟩
  |cons h e0 e1 R=>
   obtain⟨bl,off,sl,rfl,hbl,hin,hcs,hrest⟩:=Fv hrow;have hkl:k<l.len:=acB
   rw[gy,aM,aM,aM]at hsh;obtain⟨⟨hs1,hsb,hse⟩,hsr⟩:=hsh;obtain⟨hq,hqb,hqe,hqr⟩:=hev;obtain⟨⟨hhd,Ox,Oy⟩,rJ⟩:=hall;have HHD:=ah hhd;have rF:=ah (ay Ox Oy);have pz:=ah (ay hsr (ay hqr rJ));have HPQ:=ah (ay hs1 (ay hsb (ay hse (ay hq (ay hqb hqe)))));have fF:=ah hin;have kg:=ah hrest;have x0:=hcs 0 _ rfl;have x1:=hcs 1 _ rfl;have x2:=hcs 2 _ rfl;have x3:=hcs 3 _ rfl;have x4:=hcs 4 _ rfl;have x5:=hcs 5 _ rfl;have x6:=hcs 6 _ rfl;have x7:=hcs 7 _ rfl;have x8:=hcs 8 _ rfl;have x9:=hcs 9 _ rfl;have x10:=hcs 10 _ rfl;simp only[stA,Nat.add_zero]at x0 x1 x2 x3 x4 x5 x6 x7 x8 x9 x10;clear hhd hrow hin hcs hrest Ox Oy hsr hqr rJ hs1 hsb hse hq hqb hqe;go_upto_region 3 with fail;generalize hW2:World.alloc wr _=w2;obtain⟨nb,hnb,HB,-,HX,-⟩:=oJ hW2;have S0:=ah (kU.start HG.o HB.o hnb HX.o);rw[hnb];clear hW2 hnb HX x0 x1 x2 x3 x4 x5 x6 x7 x8 x9 x10;obtain⟨bP,q0,q1,q2,q3,q4,q5,q6,-,q8,q9,-⟩:=S0.o.i.cells;obtain⟨z0,z1,z2,z3,z4,z5,z6,z7,z8,z9,dV⟩:=nH S0.o.x;have f9:=S0.o.i.cells.2.2.2.2.2.2.2.2.2.2.2 9;go_upto_region 4 with fail;generalize hW3:World.setCell w2 _ _=w3;have S1:=ah (show kU _ _ _ _ _ _ _ _ _ _ _ _ _ _ _ _ w3 _ by rw[<- hW3];exact S0.o.jA (nx':Nat));clear hW3 f9;clear bP q0 q1 q2 q3 q4 q5 q6 q8 q9 z0 z1 z2 z3 z5 z6 z7 z8 z9 dV;clear z4;obtain⟨bP,q0,q1,q2,q3,q4,q5,q6,-,q8,q9,-⟩:=S1.o.i.cells;obtain⟨z0,z1,z2,z3,z4,z5,z6,z7,z8,z9,dV⟩:=nH S1.o.x;have f8:=S1.o.i.cells.2.2.2.2.2.2.2.2.2.2.2 8;have hwn:IntKind.i64.wrap ((nx':Int)+1)=((nx'+1:Nat):Int):=by have:=dN.o.2.2;have:=HN.o;rw[IntWalk.i64_in _ ahf];omega
   go_upto_region 5 with fail;generalize uM:World.setCell w3 _ _=w4;have S2:=ah (show kU _ _ _ _ _ _ _ _ _ _ _ _ _ _ _ _ w4 _ by rw[<- uM];exact S1.o.KN ((nx'+1:Nat):Int));clear uM f8 hwn;clear bP q0 q1 q2 q3 q4 q5 q6 q8 q9 z0 z1 z2 z3 z5 z6 z7 z8 z9 dV;clear z4;obtain⟨bP,q0,q1,q2,q3,q4,q5,q6,-,q8,q9,-⟩:=S2.o.i.cells;obtain⟨z0,z1,z2,z3,z4,z5,z6,z7,z8,z9,dV⟩:=nH S2.o.x;have pO:=ah (HG.o.keep S2.o.k);have xD:aj (rG w4 L W (code++xs++[]) h e0 e1 sl nx'):=ah ⟨fF.o.below pO.o,HPQ.o.1,HPQ.o.2.1,HPQ.o.2.2.1,HPQ.o.2.2.2.1,HPQ.o.2.2.2.2.1,HPQ.o.2.2.2.2.2,by
    have h1:=dN.o.2.1;have h2:=HL.o;simp only[lJ,List.append_nil,au]at *;omega,by
    have h1:=dN.o.2.2;have h2:=HN.o;simp only[lJ]at *;omega⟩
   go_wp2_with fail;refine(av5 S2.o.i xD.o rF.o.1 rF.o.2 HHD.o).mono ?_;rintro e' w5 ⟨rfl,hem⟩;obtain⟨v9,a9,b9,lI,bY⟩:=S2.o.list hem;have lI:a9=((nx'+1+dB e0+dB e1:Nat):Int):=lI;subst lI;have S3:=ah bY;clear hem bY;clear bP q0 q1 q2 q3 q4 q5 q6 q8 q9 z0 z1 z2 z3 z5 z6 z7 z8 z9 dV;clear z4;have Hl:=ah (HG.o.keep S3.o.k);have Aw:=ah (Yd W lc h e0 e1 nx' (code++xs).length);have xu:=ah (ay (uL e0) (uL e1));go_wp2_with fail;go_roundw
   case rel=>
    refine⟨k+1,R,xs++vC W lc h e0 e1 nx' (code++xs).length,v9,nx'+1+dB e0+dB e1,b9,ahj,acB,?_,?_,?_,?_,pz.o.1,pz.o.2.1,pz.o.2.2,kg.o.below Hl.o,?_,HK.o.trans HO.o S3.o.k,HO.o.trans S3.o.o HK.o.size⟩
    ·rw[HE.o,Um,<- List.append_assoc,show(code++(xs++vC W lc h e0 e1 nx' (code++xs).length)).length=(code++xs).length+(vC W lc h e0 e1 nx' (code++xs).length).length by simp[Nat.add_assoc]]
    ·have:=dN.o.1;simp only[dB]at this;omega
    ·have h1:=dN.o.2.1;have h2:=Aw.o;simp only[lJ,au]at *;omega
    ·have h1:=dN.o.2.2;have h2:=xu.o;simp only[lJ]at *;unfold iT at *;omega
    ·have:=S3.o.i;simpa using this
   case measure=>simp[intOf];omega
theorem ag3 (l:bf) (hE:l.Ev BH):zJ l:=Uo l (JO Uo l hE)
end Go.Proofs.YtcjgfgkllmldpaaGreatDoor
