/- Contracts of registers (the program's and the reference's) and of the generator's regs. And what hangs on it. -/
import Derived.Test.YtkmllehjemjgpaaGreatDoorGCA
import Derived.Test.YtkmllehjemjgpaaGreatDoorGME
import Derived.IntWalk
import Derived.Test.YtkmllehjemjgpaaGreatDoorGCB
import Derived.Test.YtkmllehjemjgpaaGreatDoorGPI
import Derived.Test.YtkmllehjemjgpaaGreatDoorGMX
import Derived.Test.YtkmllehjemjgpaaGreatDoorGCC
import Derived.Test.YtkmllehjemjgpaaGreatDoorGCD
set_option linter.unusedSimpArgs false
set_option linter.unusedVariables false
set_option maxHeartbeats 40000000
set_option maxRecDepth 1000000
namespace Go.Proofs.YtkmllehjemjgpaaGreatDoor
open Go.RowKit
open Md
theorem Ou {W:World} {g:Nat} {t:TypeId} {fr:Nat×Nat} {cs:Array Value} (h:W.heap[g]? =some (.cells cs t fr)): ∀(l:List Int) (k:Nat),(∀j (n:Int),l[j]? =some n->cs[k+j]? =some (.int .i64 n))->(∀n∈l,fD n)->eH W W.heap.size l (some ⟨g,0,none⟩) k
 | [],_,_,_=>trivial
 |n::r,k,hc,hi=>⟨⟨g,0,rfl,(Array.getElem?_eq_some_iff.1 h).1,by rw[Nat.zero_add];exact au h (hc 0 n rfl)⟩,Ou h r (k+1) (λj m hm=>by have:=hc (j+1) m (by simpa using hm);rw[show k+1+j=k+(j+1) by omega];exact this) (λm hm=>hi m (List.mem_cons_of_mem _ hm))⟩
def RgP (x:bM) (w:World) (e:Ending) (w':World):Prop:= ∃ao cap,e= .returned (.slice ao (gK x).length cap)∧eH w' w'.heap.size (gK x) ao 0∧Below w.heap.size w w'∧∀q,ao=some q->w.heap.size<=q.block
theorem jV {x:bM} {w:World} {l:List Int} {cs:Array Value} {o:Obj} {t:TypeId} {n:Nat} (hr:gK x=l) (hc:cs=(l.map (λn=>Value.int .i64 n)).toArray) (hn:n=l.length) (hi: ∀n∈l,fD n):RgP x w (.returned (.slice (some ⟨w.heap.size+1,0,none⟩) n n)) ((w.alloc o).alloc (.cells cs t)):=by
 subst hc hn;rw[<- hr]at *;refine⟨_,_,rfl,?_,(ak _ _).alloc (by simp) _,λq e=>by injection e with e;subst e;exact Nat.le_succ _⟩;have hg:=heap_alloc_new (w.alloc o) (.cells ((gK x).map (λn=>Value.int .i64 n)).toArray t);have e:(w.alloc o).heap.size=w.heap.size+1:=by simp
 rw[e]at hg;refine Ou hg (gK x) 0 (λj n hn=> ?_) hi;simp[hn]
theorem Li (x:bM) (w:World) (hi: ∀r∈gK x,fD r):Calls Tryz.prog 32 #[GQ x] w (RgP x w):=by
 have hcs:x.op=1∨x.op=6∨x.op=10∨x.op=27∨x.op=2∨x.op=3∨x.op=4∨x.op=7∨x.op=8∨x.op=26∨x.op=9∨(x.op≠1∧x.op≠6∧x.op≠10∧x.op≠27∧x.op≠2∧x.op≠3∧x.op≠4∧x.op≠7∧x.op≠8∧x.op≠26∧x.op≠9):=by omega
 unfold GQ;rcases hcs with hop|hop|hop|hop|hop|hop|hop|hop|hop|hop|hop|hop
 ·obtain⟨op,a,b,c,n,st⟩:=x;obtain rfl:op=1:=hop;go_enter Tryz.func32,Tryz.ntmps32;go_wp2
  all_goals (go_ret;exact jV (l:=[a]) rfl rfl rfl (by have:=hi;simp only[gK]at this;simpa using this))
 ·obtain⟨op,a,b,c,n,st⟩:=x;obtain rfl:op=6:=hop;go_enter Tryz.func32,Tryz.ntmps32;go_wp2
  all_goals (go_ret;exact jV (l:=[a]) rfl rfl rfl (by have:=hi;simp only[gK]at this;simpa using this))
 ·obtain⟨op,a,b,c,n,st⟩:=x;obtain rfl:op=10:=hop;go_enter Tryz.func32,Tryz.ntmps32;go_wp2
  all_goals (go_ret;exact jV (l:=[a]) rfl rfl rfl (by have:=hi;simp only[gK]at this;simpa using this))
 ·obtain⟨op,a,b,c,n,st⟩:=x;obtain rfl:op=27:=hop;go_enter Tryz.func32,Tryz.ntmps32;go_wp2
  all_goals (go_ret;exact jV (l:=[a]) rfl rfl rfl (by have:=hi;simp only[gK]at this;simpa using this))
 ·obtain⟨op,a,b,c,n,st⟩:=x;obtain rfl:op=2:=hop;go_enter Tryz.func32,Tryz.ntmps32;go_wp2
  all_goals (go_ret;exact jV (l:=[a,b]) rfl rfl rfl (by have:=hi;simp only[gK]at this;simpa using this))
 ·obtain⟨op,a,b,c,n,st⟩:=x;obtain rfl:op=3:=hop;go_enter Tryz.func32,Tryz.ntmps32;go_wp2
  all_goals (go_ret;exact jV (l:=[a,b]) rfl rfl rfl (by have:=hi;simp only[gK]at this;simpa using this))
 ·obtain⟨op,a,b,c,n,st⟩:=x;obtain rfl:op=4:=hop;go_enter Tryz.func32,Tryz.ntmps32;go_wp2
  all_goals (go_ret;exact jV (l:=[a,b,c]) rfl rfl rfl (by have:=hi;simp only[gK]at this;simpa using this))
 ·obtain⟨op,a,b,c,n,st⟩:=x;obtain rfl:op=7:=hop;go_enter Tryz.func32,Tryz.ntmps32;go_wp2
  all_goals (go_ret;exact jV (l:=[a,c]) rfl rfl rfl (by have:=hi;simp only[gK]at this;simpa using this))
 ·obtain⟨op,a,b,c,n,st⟩:=x;obtain rfl:op=8:=hop;go_enter Tryz.func32,Tryz.ntmps32;go_wp2
  all_goals (go_ret;exact jV (l:=[b]) rfl rfl rfl (by have:=hi;simp only[gK]at this;simpa using this))
 ·obtain⟨op,a,b,c,n,st⟩:=x;obtain rfl:op=26:=hop;go_enter Tryz.func32,Tryz.ntmps32;go_wp2
  all_goals (go_ret;exact jV (l:=[b]) rfl rfl rfl (by have:=hi;simp only[gK]at this;simpa using this))
 ·obtain⟨op,a,b,c,n,st⟩:=x;obtain rfl:op=9:=hop;go_enter Tryz.func32,Tryz.ntmps32;go_wp2
  all_goals (go_ret;exact jV (l:=[b,c]) rfl rfl rfl (by have:=hi;simp only[gK]at this;simpa using this))
 ·obtain⟨op,a,b,c,n,st⟩:=x;obtain⟨n1,n2,n3,n4,n5,n6,n7,n8,n9,n10,n11⟩:=hop;simp only at n1 n2 n3 n4 n5 n6 n7 n8 n9 n10 n11;have hr:gK ⟨op,a,b,c,n,st⟩=[]:=by unfold gK;simp[n1,n2,n3,n4,n5,n6,n7,n8,n9,n10,n11]
  have HR:=ah hr;have k1:(op==1)=false:=by simpa using n1
  have k2:(op==6)=false:=by simpa using n2
  have k3:(op==10)=false:=by simpa using n3
  have k4:(op==27)=false:=by simpa using n4
  have k5:(op==2)=false:=by simpa using n5
  have k6:(op==3)=false:=by simpa using n6
  have k7:(op==4)=false:=by simpa using n7
  have k8:(op==7)=false:=by simpa using n8
  have k9:(op==8)=false:=by simpa using n9
  have k10:(op==26)=false:=by simpa using n10
  have k11:(op==9)=false:=by simpa using n11
  clear n1 n2 n3 n4 n5 n6 n7 n8 n9 n10 n11 hr hi;go_enter Tryz.func32,Tryz.ntmps32;go_wp2
  all_goals (go_ret;exact⟨none,0,by rw[HR.o];rfl,by rw[HR.o];trivial,ak _ _,λq e=>by cases e⟩)
theorem VG (x:bM) (w:World) (hi: ∀r∈gK x,fD r):Calls Tryz.prog 18 #[GQ x] w (RgP x w):=by
 have hcs:x.op=1∨x.op=6∨x.op=10∨x.op=27∨x.op=2∨x.op=3∨x.op=4∨x.op=7∨x.op=8∨x.op=26∨x.op=9∨(x.op≠1∧x.op≠6∧x.op≠10∧x.op≠27∧x.op≠2∧x.op≠3∧x.op≠4∧x.op≠7∧x.op≠8∧x.op≠26∧x.op≠9):=by omega
 unfold GQ;rcases hcs with hop|hop|hop|hop|hop|hop|hop|hop|hop|hop|hop|hop
 ·obtain⟨op,a,b,c,n,st⟩:=x;obtain rfl:op=1:=hop;go_enter Tryz.func18,Tryz.ntmps18;go_wp2
  all_goals (go_ret;exact jV (l:=[a]) rfl rfl rfl (by have:=hi;simp only[gK]at this;simpa using this))
 ·obtain⟨op,a,b,c,n,st⟩:=x;obtain rfl:op=6:=hop;go_enter Tryz.func18,Tryz.ntmps18;go_wp2
  all_goals (go_ret;exact jV (l:=[a]) rfl rfl rfl (by have:=hi;simp only[gK]at this;simpa using this))
 ·obtain⟨op,a,b,c,n,st⟩:=x;obtain rfl:op=10:=hop;go_enter Tryz.func18,Tryz.ntmps18;go_wp2
  all_goals (go_ret;exact jV (l:=[a]) rfl rfl rfl (by have:=hi;simp only[gK]at this;simpa using this))
 ·obtain⟨op,a,b,c,n,st⟩:=x;obtain rfl:op=27:=hop;go_enter Tryz.func18,Tryz.ntmps18;go_wp2
  all_goals (go_ret;exact jV (l:=[a]) rfl rfl rfl (by have:=hi;simp only[gK]at this;simpa using this))
 ·obtain⟨op,a,b,c,n,st⟩:=x;obtain rfl:op=2:=hop;go_enter Tryz.func18,Tryz.ntmps18;go_wp2
  all_goals (go_ret;exact jV (l:=[a,b]) rfl rfl rfl (by have:=hi;simp only[gK]at this;simpa using this))
 ·obtain⟨op,a,b,c,n,st⟩:=x;obtain rfl:op=3:=hop;go_enter Tryz.func18,Tryz.ntmps18;go_wp2
  all_goals (go_ret;exact jV (l:=[a,b]) rfl rfl rfl (by have:=hi;simp only[gK]at this;simpa using this))
 ·obtain⟨op,a,b,c,n,st⟩:=x;obtain rfl:op=4:=hop;go_enter Tryz.func18,Tryz.ntmps18;go_wp2
  all_goals (go_ret;exact jV (l:=[a,b,c]) rfl rfl rfl (by have:=hi;simp only[gK]at this;simpa using this))
 ·obtain⟨op,a,b,c,n,st⟩:=x;obtain rfl:op=7:=hop;go_enter Tryz.func18,Tryz.ntmps18;go_wp2
  all_goals (go_ret;exact jV (l:=[a,c]) rfl rfl rfl (by have:=hi;simp only[gK]at this;simpa using this))
 ·obtain⟨op,a,b,c,n,st⟩:=x;obtain rfl:op=8:=hop;go_enter Tryz.func18,Tryz.ntmps18;go_wp2
  all_goals (go_ret;exact jV (l:=[b]) rfl rfl rfl (by have:=hi;simp only[gK]at this;simpa using this))
 ·obtain⟨op,a,b,c,n,st⟩:=x;obtain rfl:op=26:=hop;go_enter Tryz.func18,Tryz.ntmps18;go_wp2
  all_goals (go_ret;exact jV (l:=[b]) rfl rfl rfl (by have:=hi;simp only[gK]at this;simpa using this))
 ·obtain⟨op,a,b,c,n,st⟩:=x;obtain rfl:op=9:=hop;go_enter Tryz.func18,Tryz.ntmps18;go_wp2
  all_goals (go_ret;exact jV (l:=[b,c]) rfl rfl rfl (by have:=hi;simp only[gK]at this;simpa using this))
 ·obtain⟨op,a,b,c,n,st⟩:=x;obtain⟨n1,n2,n3,n4,n5,n6,n7,n8,n9,n10,n11⟩:=hop;simp only at n1 n2 n3 n4 n5 n6 n7 n8 n9 n10 n11;have hr:gK ⟨op,a,b,c,n,st⟩=[]:=by unfold gK;simp[n1,n2,n3,n4,n5,n6,n7,n8,n9,n10,n11]
  have HR:=ah hr;have k1:(op==1)=false:=by simpa using n1
  have k2:(op==6)=false:=by simpa using n2
  have k3:(op==10)=false:=by simpa using n3
  have k4:(op==27)=false:=by simpa using n4
  have k5:(op==2)=false:=by simpa using n5
  have k6:(op==3)=false:=by simpa using n6
  have k7:(op==4)=false:=by simpa using n7
  have k8:(op==7)=false:=by simpa using n8
  have k9:(op==8)=false:=by simpa using n9
  have k10:(op==26)=false:=by simpa using n10
  have k11:(op==9)=false:=by simpa using n11
  clear n1 n2 n3 n4 n5 n6 n7 n8 n9 n10 n11 hr hi;go_enter Tryz.func18,Tryz.ntmps18;go_wp2
  all_goals (go_ret;exact⟨none,0,by rw[HR.o];rfl,by rw[HR.o];trivial,ak _ _,λq e=>by cases e⟩)
def jH (l:List bM):Prop:= ∀i∈l,∀r∈gK i,-1000000000<=r∧r<=1000000000
theorem UN {T:TypeId} {w:World} {L:GL} {W:Wo} {s:jf} {lc:List ByteArray} {al:Option Addr} {cl:Nat} {v:Value} {code:List bM} {a b:Int} (hI:eX T w L W s lc al cl v code a b) (hb:jH code):
 Calls Tryz.prog 14 #[.pointer (some ⟨L.gb,0,none⟩)] w λe w'=>e= .returned (.int .i64 (uo code lc.length))∧Below w.heap.size w w':=by
 obtain⟨aI,-,-,-,-,-,-,q6,q7,-,-,-⟩:=hI.cells;obtain⟨ao,cap,rfl,hcap,hcm,hfl⟩:=eU yw hI.row;have HF:=ah hfl;have HB:=ah hb;unfold maxLen at hcm;generalize hres:uo code lc.length=res;have HR:=ah hres;clear hI hb hfl hres;go_enter Tryz.func14,Tryz.ntmps14;go_wp2_with fail;go_loopw [3,5,7,18,23,24,25] (λn _ _ i _ _ _ wr=> ∃(k:Nat) (R:List bM) (m:Int),i= .int .i64 k∧n= .int .i64 m∧k+R.length=code.length∧res=uo R m∧jH R∧dF jI 6 wr wr.heap.size R ao k∧Below w.heap.size w wr) (λ_ _ _ i _ _ _ _=>code.length -(intOf i).toNat)
 case atStart=>exact⟨0,code,lc.length,rfl,rfl,by simp,HR.o.symm,HB.o,HF.o,Below.refl _ _⟩
 case round=>
  obtain⟨k,R,m,rfl,rfl,hlen,heq,hrb,hrow,hbel⟩:=hrel;have HE:=ah heq;have mQ:=ah hbel;clear heq hbel HF;cases R with
  |nil=>
   obtain rfl:k=code.length:=by simpa using hlen
   go_wp2_with fail;go_ret;exact⟨aV HE.o.symm,mQ.o⟩
  |cons x R=>
   obtain⟨⟨b1,off,rfl,hb1,hcs⟩,hrest⟩:=hrow;simp only[List.length_cons]at hlen;have hkl:k<code.length:=by omega
   have x0:=hcs 0 _ rfl;have x1:=hcs 1 _ rfl;have x2:=hcs 2 _ rfl;have x3:=hcs 3 _ rfl;have x4:=hcs 4 _ rfl;have x5:=hcs 5 _ rfl;simp only[Nat.add_zero]at x0;have jE:=ah hrest;have Es:=ah (And.intro (hrb x List.mem_cons_self) (show jH R from λi hi=>hrb i (List.mem_cons_of_mem _ hi)));clear hcs hrest hrb;go_upto_region 5 with fail;generalize hW:World.alloc wr _=w2;obtain⟨nb,hnb⟩: ∃n,wr.heap.size=n:=⟨_,rfl⟩;have HB2:aj (Below wr.heap.size wr w2):=ah (by rw[<- hW];exact ak _ _);have HX:aj (w2.heap[nb]? =some (.cells (jI x).toArray 56 (0,0))):=ah (by rw[<- hW,<- hnb];exact heap_alloc_new _ _);rw[hnb];clear hW hnb x0 x1 x2 x3 x4 x5;have x0:=au (j:=0) HX.o rfl;have x1:=au (j:=1) HX.o rfl;have x2:=au (j:=2) HX.o rfl;have x3:=au (j:=3) HX.o rfl;have x4:=au (j:=4) HX.o rfl;have x5:=au (j:=5) HX.o rfl;go_wp2_with fail;refine(Li x w2 (λr hr=>by have:=Es.o.1 r hr;unfold fD;omega)).mono ?_;rintro e w3 ⟨Ug,Hz,rfl,hin,hb3,-⟩;have dY:=ah hin;have HB3:=ah (mQ.o.trans ((HB2.o.trans (hb3.mono HB2.o.size)).mono mQ.o.size));have HR3:=ah ((jE.o.same HB2.o).same hb3);have TD:aj ((gK x).length<=3):=ah (by unfold gK;(repeat' split) <;> simp);clear hin hb3 x0 x1 x2 x3 x4 x5;have HE2:aj (res=uo R (R7 (gK x) m)):=ah HE.o;have TJ:=ah Es.o.1;generalize gK x=rs at *;go_wp2_with fail;go_loopw [3,7,25] (λn _ i wq=> ∃(j:Nat) (S:List Int) (m2:Int),i= .int .i64 j∧n= .int .i64 m2∧j+S.length=rs.length∧res=uo R (R7 S m2)∧(∀r∈S,-1000000000<=r∧r<=1000000000)∧eH wq wq.heap.size S Ug j∧wq=w3) (λ_ _ i _=>rs.length -(intOf i).toNat)
   case atStart=>exact⟨0,rs,m,rfl,rfl,by simp,HE2.o,TJ.o,dY.o,rfl⟩
   case round=>
    obtain⟨j,S,m2,rfl,rfl,uV,heq2,XU,hin2,rfl⟩:=hrel;have HQ:=ah heq2;have h3:=TD.o;clear heq2;cases S with
    |nil=>
     obtain rfl:j=rs.length:=(by simpa using uV);have Er:aj (res=uo R m2):=HQ;go_wp2_with fail;go_roundw
     case rel=>exact⟨k+1,R,m2,by go_num,rfl,by omega,Er.o,Es.o.2,HR3.o,HB3.o⟩
     case measure=>simp[intOf];omega
    |cons r S=>
     obtain⟨⟨b4,Yt,rfl,hb4,y0⟩,yN⟩:=hin2;simp only[List.length_cons]at uV;have hjl:j<rs.length:=(by omega);have hr:=XU r List.mem_cons_self;have hwr:IntKind.i64.wrap (r+1)=r+1:=IntWalk.i64_in _ (by omega);have HR4:=ah yN;have TI:=ah (λq hq=>XU q (List.mem_cons_of_mem _ hq));clear yN XU;go_wp2_with fail;go_roundw
     case rel=>exact⟨j+1,S,max m2 (r+1),by go_num,by first|rfl|simp[hwr],by omega,HQ.o,TI.o,HR4.o,trivial⟩
     case measure=>simp[intOf];omega
theorem jH.app {a b:List bM} (ha:jH a) (hb:jH b):jH (a++b):=λi hi=>by
 rcases List.mem_append.1 hi with h|h
 ·exact ha i h
 ·exact hb i h
theorem jH.one {i:bM} (h: ∀r∈gK i,-1000000000<=r∧r<=1000000000):jH [i]:=λj hj=>by
 rw[List.mem_singleton.1 hj];exact h
theorem jH.nil:jH []:=λi hi=>by cases hi
theorem Ox {lc:List ByteArray} (h:lc.length<=1000) (nm:ByteArray): -1<=eB lc nm∧eB lc nm<=1000:=by
 have:=QZ lc nm;omega
theorem OJ {W:Wo} {lc:List ByteArray} (hlc:lc.length<=1000) (st:Int): ∀(l:bC) (d:Int),0<=d->d+cZ l<=1000000->jH (Ea W lc st l d)
 | .nil,_,_,_=>jH.nil
 | .cons op n nm kids rest,d,h0,h1=>by
   rw[cZ]at h1;have hk:=OJ hlc (W:=W) st kids d h0 (by omega);have hr:=OJ hlc (W:=W) st rest (d+1) (by omega) (by omega);have hix:=Ox hlc nm;rw[Ea];refine jH.app ?_ hr;split
   ·refine jH.one ?_;unfold zN;split
    ·intro r hr;simp[gK]at hr;omega
    ·split
     ·intro r hr;simp[gK]at hr;omega
     ·intro r hr;simp[gK]at hr;omega
   ·refine jH.app hk (jH.one ?_);unfold JH;split
    ·intro r hr;simp[gK]at hr;omega
    ·split
     ·intro r hr;simp[gK]at hr;omega
     ·intro r hr;simp[gK]at hr;omega
theorem Gg {W:Wo} {lc:List ByteArray} (hlc:lc.length<=1000) (st op n:Int) (nm:ByteArray) (kids:bC) (d:Int) (h0:0<=d) (h1:d+1+cZ kids<=1000000):jH (jl W lc st op n nm kids d):=by
 have:=OJ hlc (W:=W) st (.cons op n nm kids .nil) d h0 (by simp only[cZ];omega);rw[DJ,Ea,List.append_nil]at this;exact this
theorem ae0 {W:Wo} {lc:List ByteArray} (hlc:lc.length<=1000) (st:Int) {h:cB} (hw:dU h<=300000):jH (oV W lc st h):=by
 have hix:=Ox hlc h.nm;have hw':=hw;unfold dU at hw';have hx:=Gg (W:=W) hlc st h.cu h.xn h.bZ h.aK lc.length (by omega) (by omega);have hx1:=Gg (W:=W) hlc st h.cu h.xn h.bZ h.aK (lc.length+1) (by omega) (by omega);unfold oV;split
 ·unfold Bo;split
  ·refine jH.app hx (jH.one ?_);split
   ·intro r hr;simp[gK]at hr;omega
   ·intro r hr;simp[gK]at hr;omega
  ·rename_i op n nm kids r hi;have hk:cZ h.idx=1+cZ kids+cZ r:=by rw[hi,cZ]
   refine jH.app (jH.app (Gg hlc st op n nm kids lc.length (by omega) (by omega)) hx1) (jH.one ?_);intro r hr;simp[gK]at hr;omega
 ·repeat' split
  all_goals first
   |exact jH.nil
   |exact jH.app hx (jH.one (by intro r hr;simp[gK]at hr;omega))
   |exact jH.one (by intro r hr;simp[gK]at hr;try omega)
theorem az1 {W:Wo} {lc:List ByteArray} (hlc:lc.length<=1000) (st:Int) {h:cB} (hw:dU h<=300000) {B E:List bM} (hB:jH B) (hE:jH E) (ne:Bool) (pos:Nat):jH (CP W lc st h (fF W lc st h lc.length) B E ne pos):=by
 have hw':=hw;unfold dU at hw';have hx:jH (fF W lc st h lc.length):=Gg (W:=W) hlc st h.cu h.xn h.bZ h.aK lc.length (by omega) (by omega);have br: ∀x:Int,jH [⟨10,lc.length,x,0,0,st⟩]:=λx=>jH.one (by intro r hr;simp[gK]at hr;omega);have jm: ∀x:Int,jH [⟨5,x,0,0,0,st⟩]:=λx=>jH.one (by intro r hr;simp[gK]at hr);unfold CP;split
 ·split
  ·exact(hx.app (br _)).app hB
  ·exact(((hx.app (br _)).app hB).app (jm _)).app hE
 ·split
  ·exact((hx.app (br _)).app hB).app (jm _)
  ·split
   ·rename_i h48;rw[Bool.and_eq_true,decide_eq_true_eq,decide_eq_true_eq]at h48;have hb:vP h.op=11∨vP h.op=13∨vP h.op=15∨vP h.op=17∨vP h.op=19:=by
     unfold vP
     repeat' split
     all_goals simp
    refine((jH.one ?_).app hB).app (jH.one ?_)
    ·intro r hr;rcases hb with e|e|e|e|e <;> rw[e]at hr <;> simp[gK]at hr
    ·intro r hr;rcases hb with e|e|e|e|e <;> rw[e]at hr <;> simp[gK]at hr
   ·exact ae0 hlc st hw
theorem FB {W:Wo} {lc:List ByteArray} (hlc:lc.length<=1000): ∀(l:aH) (nx pos:Nat),l.Ev (GY W)->jH (iH W lc l nx pos)
 | .nil,_,_,_=>jH.nil
 | .cons h b e r,nx,pos,hev=>by obtain⟨h1,h2,h3,h4⟩:=hev;rw[iH];exact(az1 hlc _ h1.2 (FB hlc b _ _ h2) (FB hlc e _ _ h3) _ _).app (FB hlc r _ _ h4)
theorem Rc {a:List bM} (h:jH a):jH (a++[⟨28,0,0,0,0,-1⟩]):=h.app (jH.one (by intro r hr;simp[gK]at hr))
theorem LV {ds:List De} {ts:List Th} : ∀ {l:List Th},(ze ds ts l).1=0->∀t∈l,t.bg.length<=4
 | [],_=>λt ht=>by cases ht
 |t::r,h=>by
  rw[ze]at h;split at h
  ·exact absurd (show(2:Int)=0 from h) (by decide)
  ·rename_i h4;split at h
   ·exact absurd (show(4:Int)=0 from h) (by decide)
   ·intro x hx;rcases List.mem_cons.1 hx with rfl|hx
    ·simp at h4;omega
    ·exact LV h x hx
theorem LW {p:Pr} (h:(jY p).1=0): ∀t∈p.ts,t.bg.length<=4:=by
 unfold jY at h;split at h
 ·exact absurd (show(4:Int)=0 from h) (by decide)
 ·exact LV h
namespace Md
structure qw where
 regs:Int
 is:List bM
 ao:Option Addr
 cap:Nat
def qw.t (x:qw):xO:=⟨x.regs,x.is⟩
def GZ (x:qw):List Value:=[.int .i64 x.regs,.slice x.ao x.is.length x.cap]
def qw.I (x:qw) (w:World):Prop:=dF jI 6 w w.heap.size x.is x.ao 0
def jM (w:World) (B:Nat):List xO->Option Addr->Nat->Prop
 | [],_,_=>True
 |t::r,ao,k=>(∃b off eu dI,ao=some ⟨b,off,none⟩∧b<B∧w.cell? ⟨b,off+k*2,none⟩=some (.int .i64 t.regs)∧w.cell? ⟨b,off+k*2+1,none⟩=some (.slice eu t.is.length dI)∧t.is.length<=3000000000000∧dF jI 6 w B t.is eu 0)∧jM w B r ao (k+1)
def uT:List Th->Nat
 | []=>0
 |t::r=>iV t.body+uT r
def Fit (p:Pr):Prop:=uT p.ts<=100000000000∧∀t∈p.ts,t.body.Ev (λh=>dU h<=300000)
theorem FX: ∀l:List Th,wR l<=uT l
 | []=>Nat.le_refl _
 |t::r=>by have:=qy t.body;have:=FX r;rw[wR,uT];omega
end Md
theorem af2: ∀x:qw,(GZ x).length=2:=λ_=>rfl
theorem aA3 (x:qw): ∀u∈GZ x,u.oneCell'=true:=by intro u hu;simp[GZ]at hu;rcases hu with rfl|rfl <;> rfl
theorem Vl:(Tryz.prog.info? 59).map (λi=>(i.zero,i.size,i.bytes))=some (some (.agg #[.int .i64 0,.slice none 0 0]),2,32):=by kernel_rfl
abbrev sF (B:Nat) (w:World) (v:Value) (l:List qw):Prop:=Grow GZ 2 qw.I 59 B w v l
theorem JL {w:World} {B B' m m' n n':Nat} {e e':TypeId} {v v':Value} {xs xs':List Value} (h:w.ownsRow B e m v n xs) (h':w.ownsRow B' e' m' v' n' xs') (hne:e≠e'): ∀k,v.ownBlock=some k->v'.ownBlock≠some k:=by
 intro k hk hk';rcases h.2 with⟨rfl,-⟩|⟨g,cap,cur,rfl,-,hg,-⟩
 ·cases hk
 rcases h'.2 with⟨rfl,-⟩|⟨g',cap',cur',rfl,-,hg',-⟩
 ·cases hk'
 injection hk with hk;injection hk' with hk';simp only at hk hk';subst hk;subst hk';rw[hg]at hg';injection hg' with hg';injection hg' with _ h2 _;exact hne h2
theorem Rl {w:World} {B:Nat} {g:Option Nat} {ao:Option Addr} {cap:Nat} {is:List bM} {r:Int} (h:w.ownsRow B 56 6 (.slice ao is.length cap) is.length (is.flatMap jI)) (hg: ∀k,(Value.slice ao is.length cap).ownBlock=some k->g≠some k):nG B g w (qw.I ⟨r,is,ao,cap⟩):=λw' ha=>by
 have h':w'.ownsRow B 56 6 (.slice ao is.length cap) is.length (is.flatMap jI):=by
  refine⟨h.1,?_⟩;rcases h.2 with h1|⟨q,cap',cur,h1,h2,h3,h4⟩
  ·exact .inl h1
  ·refine .inr ⟨q,cap',cur,h1,h2,?_,h4⟩;rw[ha.2 q h2 (λe=>hg q (by rw[h1];rfl) e.symm) (Array.getElem?_eq_some_iff.1 h3).1];exact h3
 exact tN yw h'
theorem Gh {w:World} {B:Nat} {v:Value} {l:List qw} (h:sF B w v l) (hl: ∀x∈l,x.is.length<=1000000000000): ∃ao cap,v= .slice ao l.length cap∧l.length<=cap∧jM w w.heap.size (l.map qw.t) ao 0:=by
 obtain⟨hI,ao,cap,hv,hc,hcells⟩:=(h.cells af2).now;refine⟨ao,cap,hv,hc,?_⟩;have: ∀(r:List qw) (k:Nat),(∀i x,r[i]? =some x->l[k+i]? =some x)->jM w w.heap.size (r.map qw.t) ao k:=by
  intro r
  induction r with
  |nil=>exact λ_ _=>trivial
  |cons x r ih=>
   intro k hk;have hx:=hk 0 x rfl;obtain⟨g,rfl,hB,hlt,hcs⟩:=hcells k x hx;have hm:x∈l:=List.mem_of_getElem? hx;refine⟨⟨g,0,x.ao,x.cap,rfl,hlt,?_,?_,Nat.le_trans (hl x hm) (by decide),hI x hm⟩,ih (k+1) (λi y hy=>by have:=hk (i+1) y (by simpa using hy);rw[show k+1+i=k+(i+1) by omega];exact this)⟩
   ·have:=hcs 0 _ rfl;rw[Nat.zero_add];exact this
   ·have:=hcs 1 _ rfl;rw[Nat.zero_add];exact this
 exact this l 0 (λi x hx=>by rw[Nat.zero_add];exact hx)
def BbQ (r:Int) (ao:Option Addr) (n cap:Nat) (v:Value) (w':World):Prop:= ∃bb,v= .slice (some ⟨bb,0,none⟩) 1 1∧w'.heap[bb]? =some (.cells #[.int .i64 r,.slice ao n cap] 59 (0,0))
theorem eX.far {T:TypeId} {w w':World} {L:GL} {W:Wo} {s:jf} {lc:List ByteArray} {al:Option Addr} {cl:Nat} {v:Value} {code:List bM} {a b:Int} {g:Option Nat} (h:eX T w L W s lc al cl v code a b) (hg:w.grownBy w' g) (hk: ∀k,g=some k->L.B0<=k∧k≠L.gb∧v.ownBlock≠some k):eX T w' L W s lc al cl v code a b:=by
 have hb:Below L.B0 w w':=⟨hg.os,hg.tape,hg.output,hg.size,λk hlt=>hg.block k (Nat.lt_of_lt_of_le hlt h.b0) (λe=>by have:=(hk k e.symm).1;omega)⟩
 exact {blk:=(hg.block _ (Array.getElem?_eq_some_iff.1 h.blk).1 (λe=>(hk _ e.symm).2.1 rfl)).trans h.blk
        row:=h.row.kept hg (by
         cases hv:v.ownBlock with
         |none=>exact .inl rfl
         |some q=>exact .inr (λe=>(hk q e.symm).2.2 hv))
        sz:=Nat.le_trans h.sz hg.size,wo:=h.wo.below hb,few:=h.few,lc:=h.lc.below hb}
theorem GH (p:Pr) (w:World) (aB aD:Option Addr) (aA ay:Nat) (hp:p.At w aB aD) (dG:dD w) (hfit:Fit p) (hok:(iT p).1=0):
 Calls Tryz.prog 4 #[.agg #[.slice aB p.ds.length aA,.slice aD p.ts.length ay]] w λe w'=> ∃s ao cap,e= .returned (.tuple #[.agg #[.slice s.aC (iI p).cs.length s.cC,.slice s.aL (iI p).ls.length s.cL,.slice s.aN (iI p).ns.length s.cN,.slice s.aF (iI p).fs.length s.cF,.slice s.aT (iI p).ts.length s.cT,.slice s.aS (iI p).ss.length s.cS,.slice ao p.ts.length cap],.int .i64 0,.int .i64 0])∧
  fJ w' w'.heap.size (iI p) s∧jM w' w'.heap.size (rF (iI p) p.ts 0) ao 0∧p.ts.length<=cap∧Below w.heap.size w w':=by
 have HP:=ah hp;have iF:=ah dG;have MB:=ah hfit;have mZ:=ah (okP hok);have MU:=ah (tq hok);have MR:=ah hok;have Ci:aj (qD p=iI p):=ah (by unfold qD;rw[hok];rfl);have hpe:iT p=(0,(iT p).2):=by rw[<- hok]
 have htl:p.ts.length<=4:=by have:=MU.o.2.2.1;omega
 have Zl:=ah htl;clear hp dG hfit hok;go_enter Tryz.func4,Tryz.ntmps4;go_upto_region 1 with fail;generalize hW:World.alloc (World.alloc w _) _=w1;obtain⟨bp,hbp⟩: ∃n,w.heap.size=n:=⟨_,rfl⟩;have HB1:aj (Below w.heap.size w w1):=ah (by rw[<- hW];exact(ak _ _).alloc (by simp) _);have kE:aj (w1.heap.size=bp+2):=ah (by rw[<- hW,<- hbp];simp);have ou:aj (w1.heap[bp]? =some (.cells #[.slice aB p.ds.length aA,.slice aD p.ts.length ay] 25 (0,0))):=ah (by rw[<- hW,<- hbp,heap_alloc_old _ _ (by simp)];exact heap_alloc_new _ _);have kP:aj (w1.heap[bp+1]? =some (.cells #[.slice none 0 0,.slice none 0 0,.slice none 0 0,.slice none 0 0,.slice none 0 0,.slice none 0 0,.slice none 0 0] 35 (0,0))):=ah (by have:=heap_alloc_new (w.alloc (.cells #[.slice aB p.ds.length aA,.slice aD p.ts.length ay] 25)) (.cells #[.slice none 0 0,.slice none 0 0,.slice none 0 0,.slice none 0 0,.slice none 0 0,.slice none 0 0,.slice none 0 0] 35);rw[<- hW,<- hbp];simpa using this);have pq:=ah hbp;rw[hbp];clear hW hbp;have y0:=au (j:=0) ou.o rfl;have y1:=au (j:=1) ou.o rfl;go_wp2_with fail;refine(BM p w1 aB aD aA ay (HP.o.same HB1.o) (iF.o.same HB1.o)).mono ?_;rintro e w2 ⟨rfl,hb2⟩;have HB2:=ah (HB1.o.trans (hb2.mono HB1.o.size));have oP:=ah ((hb2.block _ (Array.getElem?_eq_some_iff.1 ou.o).1).trans ou.o);have iM:=ah ((hb2.block _ (Array.getElem?_eq_some_iff.1 kP.o).1).trans kP.o);rw[show(iT p).1=0 from MR.o];clear hb2 y0 y1 ou kP hpe;generalize (iT p).2=ln at *;have y0:=au (j:=0) oP.o rfl;have y1:=au (j:=1) oP.o rfl;go_wp2_with fail;refine(Je p w2 aB aD aA ay (HP.o.same HB2.o) (iF.o.same HB2.o) (by have:=MB.o.1;have:=FX p.ts;omega)).mono ?_;rintro e w3 ⟨s,rfl,hwo,hb3,hnew⟩;have HNW:=ah hnew;rw[Ci.o]at hwo;have zk:=ah hwo;have HB3:=ah (HB2.o.trans (hb3.mono HB2.o.size));have uW:=ah ((hb3.block _ (Array.getElem?_eq_some_iff.1 oP.o).1).trans oP.o);have uX:=ah ((hb3.block _ (Array.getElem?_eq_some_iff.1 iM.o).1).trans iM.o);rw[Ci.o];have HS2:=ah ((Array.getElem?_eq_some_iff.1 iM.o).1);clear hwo hb3 y0 y1 oP iM hnew;generalize Jp:iI p=W at *;have Xc:=ah Jp;clear Jp;unfold nD;have y1:=au (j:=1) uW.o rfl;go_upto_region 6 with fail;obtain⟨bc,hbc⟩: ∃n,w3.heap.size=n:=⟨_,rfl⟩;generalize AA:World.alloc (World.alloc w3 _) _=w5;have jS:aj (Below w3.heap.size w3 w5):=ah (by rw[<- AA];exact(ak _ _).alloc (by simp) _);have vN:aj (w5.heap[bc]? =some (.cells #[.slice s.aC W.cs.length s.cC,.slice s.aL W.ls.length s.cL,.slice s.aN W.ns.length s.cN,.slice s.aF W.fs.length s.cF,.slice s.aT W.ts.length s.cT,.slice s.aS W.ss.length s.cS,.slice none 0 0] 35 (0,0))):=ah (by rw[<- AA,<- hbc,heap_alloc_old _ _ (by simp)];exact heap_alloc_new _ _);have HXg:aj (w5.heap[bc+1]? =some (.cells (NV W s [] none 0 (.slice none 0 0) 0 0) 49 (0,0))):=ah (by have:=heap_alloc_new (w3.alloc (.cells #[.slice s.aC W.cs.length s.cC,.slice s.aL W.ls.length s.cL,.slice s.aN W.ns.length s.cN,.slice s.aF W.fs.length s.cF,.slice s.aT W.ts.length s.cT,.slice s.aS W.ss.length s.cS,.slice none 0 0] 35)) (.cells (NV W s [] none 0 (.slice none 0 0) 0 0) 49);rw[show(w3.alloc (.cells #[.slice s.aC W.cs.length s.cC,.slice s.aL W.ls.length s.cL,.slice s.aN W.ns.length s.cN,.slice s.aF W.fs.length s.cF,.slice s.aT W.ts.length s.cT,.slice s.aS W.ss.length s.cS,.slice none 0 0] 35)).heap.size=w3.heap.size+1 by simp]at this;rw[<- AA,<- hbc];exact this);have uf:aj (w5.heap.size=bc+2):=ah (by rw[<- AA,<- hbc];simp);have uE:=ah hbc;rw[hbc];obtain⟨L,hL0,Lu,hL1⟩: ∃L:GL,L.B0=bc∧bc+1=L.gb∧L.B1=bc+2:=⟨⟨bc,bc+1,bc+2,by omega,by omega⟩,rfl,rfl,rfl⟩;rw[Lu];have HL:=ah (And.intro hL0 (And.intro Lu hL1));have RF:=ah ((jS.o.block _ (Array.getElem?_eq_some_iff.1 uW.o).1).trans uW.o);have KJ:aj (eX 49 w5 L W s [] none 0 (.slice none 0 0) [] 0 0):=ah
  {blk:=by rw[<- Lu];exact HXg.o,row:=World.ownsRow_nil _ _ _ _,sz:=by rw[hL1,uf.o];exact Nat.le_refl _,wo:=by rw[hL0,<- hbc];exact zk.o.below jS.o,few:=Nat.zero_le _,lc:=trivial}
 have wL:aj (fQ w5 bc p.ts aD 0):=ah (by have h1:=HP.o.2.2.2.below (HB3.o.trans (jS.o.mono HB3.o.size));exact h1.mono (by rw[<- hbc];exact HB3.o.size));have HLC:=ah (LW MU.o.2.2.2.1);have HSP:aj (∀t∈p.ts,eG t.body=true):=ah (λt ht=>by have h1:=MU.o.1;unfold oZ at h1;simp only[Bool.and_eq_true]at h1;have:=List.all_eq_true.1 h1.1.2 t ht;unfold nL at this;simp only[Bool.and_eq_true]at this;exact this.2);have TP:=ah (CQ HP.o.2.2.2);clear AA hbc hL0 Lu hL1 y1 HXg zk uW;have y1:=au (j:=1) RF.o rfl;go_wp2_with fail;go_loopw [10,31] (λ_ i wr=> ∃(k:Nat) (R:List Th) (xs:List qw) (vT:Value) (nx:Nat) (code:List bM) (v:Value) (b:Int) (lc:List ByteArray) (al:Option Addr) (cl:Nat),i= .int .i64 k∧k+R.length=p.ts.length∧rF W p.ts 0=xs.map qw.t++rF W R nx∧xs.length=k∧(∀x∈xs,x.is.length<=1000000000000)∧eX 49 wr L W s lc al cl v code (nx:Nat) b∧sF L.B1 wr vT xs∧
  wr.heap[bc]? =some (.cells #[.slice s.aC W.cs.length s.cC,.slice s.aL W.ls.length s.cL,.slice s.aN W.ns.length s.cN,.slice s.aF W.fs.length s.cF,.slice s.aT W.ts.length s.cT,.slice s.aS W.ss.length s.cS,vT] 35 (0,0))∧fQ wr bc R aD k∧Below bc w5 wr∧nx+uT R<=uT p.ts∧(∀t∈R,t∈p.ts)) (λ_ i _=>p.ts.length -(intOf i).toNat)
 case atStart=>exact⟨0,p.ts,[],.slice none 0 0,0,[],_,0,[],none,0,rfl,by simp,by simp,rfl,by simp,KJ.o,Grow.nil _ _ _ _ _ _,vN.o,wL.o,Below.refl _ _,by simp,λt h=>h⟩
 case round=>
  obtain⟨k,R,xs,vT,nx,code,v,b,lc,al,cl,rfl,hlen,heq,hxl,hxs,hge,hgr,hbx,hth,hbel,hwt,hmem⟩:=hrel;have HE:=ah heq;have HG:=ah hge;have MI:=ah hgr;have HX:=ah hbx;have ji:=ah hbel;have HN:=ah (And.intro hxl (And.intro hxs (And.intro hwt hmem)));clear heq hge hgr hbx hbel hxl hxs hwt hmem KJ wL vN y1;cases R with
  |nil=>
   obtain rfl:k=p.ts.length:=by simpa using hlen
   obtain⟨jX,nk,Fg,hcc,hat⟩:=Gh MI.o HN.o.2.1;subst Fg;have HAT:=ah hat;have HCAP:=ah hcc;have qM:=ah ((ji.o.block (bp+1) (by have h1:=(Array.getElem?_eq_some_iff.1 uX.o).1;have h2:=uE.o;omega)).trans ((jS.o.block _ (Array.getElem?_eq_some_iff.1 uX.o).1).trans uX.o));have hxl:xs.length=p.ts.length:=HN.o.1;have IC:aj (rF W p.ts 0=xs.map qw.t):=ah (by rw[HE.o];simp[rF]);have sI:aj (wr.heap[bc]? =some (.cells #[.slice s.aC W.cs.length s.cC,.slice s.aL W.ls.length s.cL,.slice s.aN W.ns.length s.cN,.slice s.aF W.fs.length s.cF,.slice s.aT W.ts.length s.cT,.slice s.aS W.ss.length s.cS,.slice jX p.ts.length nk] 35 (0,0))):=ah (by rw[HX.o,hxl]);have c0:=au (j:=0) sI.o rfl;have c1:=au (j:=1) sI.o rfl;have c2:=au (j:=2) sI.o rfl;have c3:=au (j:=3) sI.o rfl;have c4:=au (j:=4) sI.o rfl;have c5:=au (j:=5) sI.o rfl;have c6:=au (j:=6) sI.o rfl;simp only[List.getElem_toArray,List.getElem_cons_zero,List.getElem_cons_succ]at c0 c1 c2 c3 c4 c5 c6;have r0:=au (j:=0) qM.o rfl;have r1:=au (j:=1) qM.o rfl;have r2:=au (j:=2) qM.o rfl;have r3:=au (j:=3) qM.o rfl;have r4:=au (j:=4) qM.o rfl;have r5:=au (j:=5) qM.o rfl;have r6:=au (j:=6) qM.o rfl;have rf:=λj=>bG (o:=j) qM.o;have rf0:=rf 0;have rf1:=rf 1;have rf2:=rf 2;have rf3:=rf 3;have rf4:=rf 4;have rf5:=rf 5;have rf6:=rf 6;have mh:=ah (Nat.lt_of_lt_of_le (Array.getElem?_eq_some_iff.1 HX.o).1 (Nat.le_refl _));have hcl:p.ts.length<=nk:=by rw[hxl]at hcc;exact hcc
   have KF:=ah hcl;clear rf hat hth hcc hcl;go_wp2_with fail;show bodyPost _ _ _ _ _ (World.setCells wr (bp+1) 0 [.slice s.aC W.cs.length s.cC,.slice s.aL W.ls.length s.cL,.slice s.aN W.ns.length s.cN,.slice s.aF W.fs.length s.cF,.slice s.aT W.ts.length s.cT,.slice s.aS W.ss.length s.cS,.slice jX p.ts.length nk]);have jA:=ah (iE (vs:=[.slice s.aC W.cs.length s.cC,.slice s.aL W.ls.length s.cL,.slice s.aN W.ns.length s.cN,.slice s.aF W.fs.length s.cF,.slice s.aT W.ts.length s.cT,.slice s.aS W.ss.length s.cS,.slice jX p.ts.length nk]) qM.o rfl);have mK:aj (wr.grownBy (World.setCells wr (bp+1) 0 [.slice s.aC W.cs.length s.cC,.slice s.aL W.ls.length s.cL,.slice s.aN W.ns.length s.cN,.slice s.aF W.fs.length s.cF,.slice s.aT W.ts.length s.cT,.slice s.aS W.ss.length s.cS,.slice jX p.ts.length nk]) (some (bp+1))):=ah (bU _ _ _ _);have HW3:aj (bp+1<bc):=ah (by have h1:=(Array.getElem?_eq_some_iff.1 uX.o).1;have h2:=uE.o;omega);have Eo:aj (Below w.heap.size w (World.setCells wr (bp+1) 0 [.slice s.aC W.cs.length s.cC,.slice s.aL W.ls.length s.cL,.slice s.aN W.ns.length s.cN,.slice s.aF W.fs.length s.cF,.slice s.aT W.ts.length s.cT,.slice s.aS W.ss.length s.cS,.slice jX p.ts.length nk])):=ah (((HB3.o.trans (jS.o.mono HB3.o.size)).trans (ji.o.mono (by have h1:=HB3.o.size;have h2:=uE.o;omega))).trans (bL mK.o (by have:=pq.o;omega) (by have h1:=HB3.o.size;have h2:=jS.o.size;have h3:=ji.o.size;omega)));have HKP:aj (∀k,w2.heap.size<=k->(World.setCells wr (bp+1) 0 [.slice s.aC W.cs.length s.cC,.slice s.aL W.ls.length s.cL,.slice s.aN W.ns.length s.cN,.slice s.aF W.fs.length s.cF,.slice s.aT W.ts.length s.cT,.slice s.aS W.ss.length s.cS,.slice jX p.ts.length nk]).heap[k]? =wr.heap[k]?):=ah (λk hk=>by
    have h1:=HS2.o;by_cases hlt:k<wr.heap.size
    ·exact mK.o.block k hlt (by simp;omega)
    ·have e1:(World.setCells wr (bp+1) 0 [.slice s.aC W.cs.length s.cC,.slice s.aL W.ls.length s.cL,.slice s.aN W.ns.length s.cN,.slice s.aF W.fs.length s.cF,.slice s.aT W.ts.length s.cT,.slice s.aS W.ss.length s.cS,.slice jX p.ts.length nk]).heap.size=wr.heap.size:=(by simp[World.setCells,World.setCell]);rw[Array.getElem?_eq_none (by omega),Array.getElem?_eq_none (by omega)])
   have HGK:aj (sF L.B1 (World.setCells wr (bp+1) 0 [.slice s.aC W.cs.length s.cC,.slice s.aL W.ls.length s.cL,.slice s.aN W.ns.length s.cN,.slice s.aF W.fs.length s.cF,.slice s.aT W.ts.length s.cT,.slice s.aS W.ss.length s.cS,.slice jX p.ts.length nk]) (.slice jX xs.length nk) xs):=ah (MI.o.next ⟨mK.o.size,λk h1 h2=>mK.o.block k h2 (by have h3:=HL.o;have h4:=HW3.o;simp;omega)⟩);have HWK:aj (fJ (World.setCells wr (bp+1) 0 [.slice s.aC W.cs.length s.cC,.slice s.aL W.ls.length s.cL,.slice s.aN W.ns.length s.cN,.slice s.aF W.fs.length s.cF,.slice s.aT W.ts.length s.cT,.slice s.aS W.ss.length s.cS,.slice jX p.ts.length nk]) (World.setCells wr (bp+1) 0 [.slice s.aC W.cs.length s.cC,.slice s.aL W.ls.length s.cL,.slice s.aN W.ns.length s.cN,.slice s.aF W.fs.length s.cF,.slice s.aT W.ts.length s.cT,.slice s.aS W.ss.length s.cS,.slice jX p.ts.length nk]).heap.size W s):=ah ((fJ.keep HG.o.wo HNW.o HKP.o).mono (by have h1:=HG.o.b0;exact Nat.le_trans h1 mK.o.size));generalize F7:World.setCells wr _ _ _=wz at *;have o0:=au (j:=0) jA.o rfl;have o1:=au (j:=1) jA.o rfl;have o2:=au (j:=2) jA.o rfl;have o3:=au (j:=3) jA.o rfl;have o4:=au (j:=4) jA.o rfl;have o5:=au (j:=5) jA.o rfl;have o6:=au (j:=6) jA.o rfl;clear F7;obtain⟨aoQ,cpQ,Ve,-,O6⟩:=Gh HGK.o HN.o.2.1;injection Ve with Om Oo Oq;subst Om;have WH:=ah O6;clear O6 Oo Oq;have Jp:=Xc.o;subst Jp;exact bodyPost_ret (v:= .tuple #[.agg #[.slice s.aC (iI p).cs.length s.cC,.slice s.aL (iI p).ls.length s.cL,.slice s.aN (iI p).ns.length s.cN,.slice s.aF (iI p).fs.length s.cF,.slice s.aT (iI p).ts.length s.cT,.slice s.aS (iI p).ss.length s.cS,.slice jX p.ts.length nk],.int .i64 0,.int .i64 0]) (by simp[results,Tryz.results4,go_sem,o0,o1,o2,o3,o4,o5,o6]) rfl ⟨s,jX,nk,rfl,HWK.o,by rw[IC.o];exact WH.o,KF.o,Eo.o⟩
  |cons t R=>
   obtain⟨⟨b1,off,fC,dw,bR,aY,hao,iL,x0,x1,x2,x3,hok,htx,hst,hcl⟩,hrest⟩:=hth;have xG:=ah hao;subst hao;simp only[List.length_cons]at hlen;have hkl:k<p.ts.length:=by omega
   have jE:=ah hrest;have qg:=ah (And.intro hst (And.intro hok.2.2.2 htx));have Fe:=HN.o.2.2.2 t List.mem_cons_self;have Et:aj (t.bg.length<=4∧eG t.body=true∧t.body.Ev (GY W)):=ah ⟨HLC.o t Fe,HSP.o t Fe,by have h1:=mZ.o t Fe;have h2:=MB.o.2 t Fe;exact(h1.and h2)⟩;have nP:aj (nx+(iV t.body+uT R)<=100000000000∧nx+(iV t.body+uT R)<=uT p.ts):=ah (by have h1:=HN.o.2.2.1;have h2:=MB.o.1;simp only[uT]at h1;omega);clear hrest hok htx hst hcl Fe;go_upto_region 9 with fail;obtain⟨nb,hnb⟩: ∃n,wr.heap.size=n:=⟨_,rfl⟩;generalize vU:World.alloc wr _=w6;have nM:aj (Below wr.heap.size wr w6):=ah (by rw[<- vU];exact ak _ _);have Gw:aj (w6.heap[nb]? =some (.cells #[.string t.nm,.int .i64 t.line,.slice fC t.bg.length dw,.slice bR t.body.len aY] 52 (0,0))):=ah (by rw[<- vU,<- hnb];exact heap_alloc_new _ _);have gB:aj (L.B1<=nb∧nb<w6.heap.size):=ah ⟨by rw[<- hnb];exact HG.o.sz,(Array.getElem?_eq_some_iff.1 Gw.o).1⟩;have Qd:=ah (HG.o.below nM.o);have aO3:=ah (MI.o.next (dN nM.o));have Eu:=ah ((nM.o.block bc (Array.getElem?_eq_some_iff.1 HX.o).1).trans HX.o);have aj4:aj (Below bc wr w6):=ah (nM.o.mono (Nat.le_of_lt (Array.getElem?_eq_some_iff.1 HX.o).1));rw[hnb];clear vU hnb x0 x1 x2 x3;have x2:=au (j:=2) Gw.o rfl;have hg0:=Qd.o.cells.1;have c6:=Qd.o.cells.2.2.2.2.2.2.2.1;have f6:=Qd.o.cells.2.2.2.2.2.2.2.2.2.2.2 6;have sG:aj (L.B0=bc∧bc+1=L.gb∧L.B1=bc+2):=HL;go_upto_region 10 with fail;generalize QL:World.setCell w6 _ _=w7;have TA:aj (eX 49 w7 L W s t.bg fC dw v code (nx:Nat) b):=ah (by rw[<- QL];exact Qd.o.aX3 dw (by rw[sG.o.1];exact qg.o.2.2.below aj4.o) (by have:=Et.o.1;omega));have aO4:aj (sF L.B1 w7 vT xs):=ah (by rw[<- QL];exact aO3.o.next (jg _ _ _ L.b1));have zm:=ah ((show w7.heap[bc]? =w6.heap[bc]? by rw[<- QL];exact bY _ _ _ rfl (by show L.gb≠bc;have:=sG.o;omega)).trans Eu.o);have aR1:=ah ((show w7.heap[nb]? =w6.heap[nb]? by rw[<- QL];exact bY _ _ _ rfl (by show L.gb≠nb;have:=sG.o;have:=gB.o;omega)).trans Gw.o);have aP0:aj (Below bc wr w7):=ah (by rw[<- QL];exact aj4.o.trans (bL (bQ _ _ _) (by show bc<=L.gb;have:=sG.o;omega) (Nat.le_trans (Nat.le_of_lt (Array.getElem?_eq_some_iff.1 HX.o).1) nM.o.size)));clear QL c6 f6 hg0 x2;have hg0:=TA.o.cells.1;obtain⟨ao7,BQ,hv7,-,-⟩:=TA.o.form;have c7:=TA.o.cells.2.2.2.2.2.2.2.2.1;rw[hv7]at c7;have f7:=TA.o.cells.2.2.2.2.2.2.2.2.2.2.2 7;go_upto_region 11 with fail;generalize F6:World.setCell w7 _ _=w8;have HG8:aj (eX 49 w8 L W s t.bg fC dw (.slice none 0 0) [] (nx:Nat) b):=ah (by rw[<- F6];exact TA.o.aX4);have aO5:aj (sF L.B1 w8 vT xs):=ah (by rw[<- F6];exact aO4.o.next (jg _ _ _ L.b1));have J3:=ah ((show w8.heap[bc]? =w7.heap[bc]? by rw[<- F6];exact bY _ _ _ rfl (by show L.gb≠bc;have:=sG.o;omega)).trans zm.o);have aR2:=ah ((show w8.heap[nb]? =w7.heap[nb]? by rw[<- F6];exact bY _ _ _ rfl (by show L.gb≠nb;have:=sG.o;have:=gB.o;omega)).trans aR1.o);have aj5:aj (Below bc wr w8):=ah (by rw[<- F6];exact aP0.o.trans (bL (bQ _ _ _) (by show bc<=L.gb;have:=sG.o;omega) (Nat.le_of_lt (Array.getElem?_eq_some_iff.1 zm.o).1)));clear F6 c7 f7 hg0 hv7;have x3:=au (j:=3) aR2.o rfl;go_wp2_with fail;refine(UL t.body w8 L W s t.bg fC dw (.slice none 0 0) [] b nx bR aY HG8.o qg.o.2.1 (by rw[sG.o.1];exact qg.o.1.below aj5.o) Et.o.2.1 Et.o.2.2 (by have:=nP.o.1;simp only[List.length_nil];omega) (by have:=nP.o.1;omega)).mono ?_;rintro e w9 ⟨rfl,hem⟩;obtain⟨v9,a9,b9,gG,CJ,Jq,Lx⟩:=hem;have gG:a9=((nx+bF t.body:Nat):Int):=gG;subst gG;rw[List.nil_append,List.length_nil]at CJ;have DT:=ah (mM W t.bg t.body nx 0);have TJ:=ah (FB (W:=W) (lc:=t.bg) (by have:=Et.o.1;omega) t.body nx 0 Et.o.2.2);have Q9:aj (rF W p.ts 0=xs.map qw.t++(⟨uo (iH W t.bg t.body nx 0++[⟨28,0,0,0,0,-1⟩]) t.bg.length,iH W t.bg t.body nx 0++[⟨28,0,0,0,0,-1⟩]⟩::rF W R (nx+bF t.body))):=ah HE.o;generalize iH W t.bg t.body nx 0=GC at *;have tZ:=ah CJ;have Qg:=ah Jq;have KN:=ah Lx;clear CJ Jq Lx x3;have c9:=tZ.o.cells.2.2.2.2.2.2.2.2.2.2.1;have f9:=tZ.o.cells.2.2.2.2.2.2.2.2.2.2.2 9;have hg0:=tZ.o.cells.1;go_upto_region 13 with fail;generalize O1:World.setCell w9 _ _=wa;have oo:aj (eX 49 wa L W s t.bg fC dw v9 GC ((nx+bF t.body:Nat):Int) (-1)):=ah (by rw[<- O1];exact tZ.o.gJ (-1));have Zb:aj (Kg L (.slice none 0 0) w8 wa):=ah (by rw[<- O1];exact Qg.o.trans KN.o (Kg.set _ _ _));clear O1 c9 f9 hg0;have hg0:=oo.o.cells.1;go_wp2_with fail;refine(fV oo.o ⟨28,0,0,0,0,0⟩ (by have h1:=DT.o;have h2:=nP.o.1;omega)).mono ?_;rintro e wb ⟨rfl,ve,hge,hke,hoe⟩;have Ei:aj (eX 49 wb L W s t.bg fC dw ve (GC++[⟨28,0,0,0,0,-1⟩]) ((nx+bF t.body:Nat):Int) (-1)):=ah hge;have Bd:aj (Kg L (.slice none 0 0) w8 wb):=ah (Zb.o.trans KN.o hke);clear hge hke hoe hg0;have Qk:aj (jH (GC++[⟨28,0,0,0,0,-1⟩])):=ah (Rc TJ.o);have jT:aj ((GC++[(⟨28,0,0,0,0,-1⟩:bM)]).length<=1000000000000):=ah (by have h1:=DT.o;have h2:=nP.o.1;simp only[List.length_append,List.length_cons,List.length_nil];omega);generalize GC++[⟨28,0,0,0,0,-1⟩]=GD at *;have qh:=ah ((Bd.o.block bc (Array.getElem?_eq_some_iff.1 J3.o).1 (by have:=sG.o;omega) (by simp[Value.ownBlock])).trans J3.o);have RA:=ah (aO5.o.next ⟨Bd.o.size,λq h1 h2=>Bd.o.block q h2 (by have:=L.b1;omega) (by simp[Value.ownBlock])⟩);have aP1:aj (Below bc wr wb):=ah (aj5.o.trans ⟨Bd.o.os,Bd.o.tape,Bd.o.output,Bd.o.size,λq hq=>Bd.o.block q (Nat.lt_trans hq (Array.getElem?_eq_some_iff.1 J3.o).1) (by have:=sG.o;omega) (by simp[Value.ownBlock])⟩);obtain⟨jX,nk,Fg⟩:=RA.o.len;obtain⟨fT,sM,Ol,-,-⟩:=Ei.o.form;have Aj:=ah Fg;have Nb:=ah Ol;have hxc:=au (j:=6) qh.o rfl;have hxe:=Ei.o.cells.2.2.2.2.2.2.2.2.1;simp only[List.getElem_toArray,List.getElem_cons_zero,List.getElem_cons_succ]at hxc;rw[Fg]at hxc;rw[Ol]at hxe;have zf:=ah (And.intro (Array.getElem?_eq_some_iff.1 qh.o).1 (And.intro hxc (And.intro Ei.o.cells.1 hxe)));clear Fg Ol hxc hxe;go_upto_region 14 with fail;have V0:=fM zf.o.1 zf.o.2.1;have V1:=fM zf.o.2.2.1 zf.o.2.2.2;refine bf (by kernel_rfl) rfl ?_;refine aX 0 10 [] [[],[0],[],[2],[],[4],[4,5],[4,5,6],[2,3,4,5,6,7],[2,3,4,5,6,7,8],[0,1,2,3,4,5,6,7,8,9],[0,1,2,3,4,5,6,7,8,9,10],[0,1,2,3,4,5,6,7,8,9,10,11]] [[],[],[],[],[],[],[],[],[],[]] (λ_ w'=>Below wb.heap.size wb w') (λw w'=>Below w.heap.size w w') [53,54,55,56,57,58,59,60,61,62] rfl rfl (by rfl) (by kernel_rfl) (by kernel_rfl) (by kernel_rfl) (by kernel_rfl) (by kernel_rfl) (by rfl) (λ_=>Below.refl _ _) (by rfl) (below_drewN (Below.refl _ _) 1) ?_;simp only[eP,jq]
   iterate 3
    apply aR.step
    case aJ=>intro c A w' hok hC hO hD;have e7:=hO 7 (by rfl);have e8:=hO 8 (by rfl);simp[Act.eval]at e7 e8;simp[Act.eval]at hD;simp[go_sem,gd,Oper.wp,hD,e7,e8,V0,hC];exact aG.mk (Below.refl _ _) hC (aW.mk _ _)
    try simp only[bP]
   refine aR.some (λv _=>v= .int .i64 (uo GD t.bg.length)) (λ_ _ _ _ h=>h) ?_ ?_
   ·intro c A w' hok hC hO hD;simp[Act.eval]at hD;simp[go_sem,gd,Oper.wp,hD];refine(UN (Ei.o.below hC) Qk.o).mono ?_;rintro e w5 ⟨rfl,hb⟩;exact aG.mk hb (hC.trans (hb.mono hC.size)) rfl
   try simp only[bP]
   iterate 5
    apply aR.step
    case aJ=>intro c A w' hok hC hO hD;have e8:=hO 8 (by rfl);simp[Act.eval]at e8;simp[Act.eval]at hD;simp[go_sem,gd,Oper.wp,hD,e8,V1,hC];exact aG.mk (Below.refl _ _) hC (aW.mk _ _)
    try simp only[bP]
   refine aR.some (λv w'=>BbQ (uo GD t.bg.length) fT GD.length sM v w') ?_ ?_ ?_
   ·rintro v wx wy hle ⟨bb,rfl,hbb⟩;exact⟨bb,rfl,(hle.block bb (Array.getElem?_eq_some_iff.1 hbb).1).trans hbb⟩
   ·intro c A w' hok hC hO hD;simp[Act.eval]at hD;simp[go_sem,gd,Oper.wp,hD];exact aG.mk (d:=_) (v:= .slice (some ⟨_,0,none⟩) 1 1) (ak _ _) (hC.trans ((ak _ _).mono hC.size)) ⟨_,rfl,heap_alloc_new _ _⟩
   try simp only[bP]
   try simp only[bP]
   refine aR.done ?_;intro wz bH
   try simp only[eP]
   iterate 9 refine jv ?_
   intro v9 h9;obtain⟨bb,rfl,hbb⟩:=h9;refine jB ?_;go_simp;have gX:=ah bH;have uD:=ah hbb;clear V0 V1 bH hbb;have IJ:=ah (RA.o.next (dN gX.o));have Mw:=ah (Ei.o.below gX.o);refine cK 10 [[],[0],[],[2],[],[4],[4,5],[4,5,6],[2,3,4,5,6,7],[2,3,4,5,6,7,8],[0,1,2,3,4,5,6,7,8,9],[0,1,2,3,4,5,6,7,8,9,10],[0,1,2,3,4,5,6,7,8,9,10,11]] rfl rfl rfl rfl rfl (by kernel_rfl) (by kernel_rfl) (by kernel_rfl) ?_;obtain⟨i0,hi0,hz0,hz1,hz2⟩:=infoP Vl;have hk0:xs.length<=4:=by have:=HN.o.1;omega
   refine wp_append_lies wz _ _ _ (by rfl) L.B1 59 i0 _ 2 32 Tryz.underlying33 hi0 hz0 hz1 hz2 (by rfl) (by omega) (.slice jX xs.length nk) xs.length (xs.flatMap GZ) (by rfl) (by rw[<- Aj.o];exact IJ.o.own) ⟨bb,0,none⟩ 1 1 (GZ ⟨uo GD t.bg.length,GD,fT,sM⟩) (by rfl) (by rfl) (gq uD.o) (aA3 _) (by decide) (by unfold maxLen;omega) (by omega) Mw.o.sz _ rfl ?_;intro g' cap' wd hown hgr hmv jw;have Rv:aj (∀q,vT.ownBlock=some q->ve.ownBlock≠some q):=ah (JL IJ.o.own Mw.o.row (by decide));have uK:aj (sF L.B1 wd (.slice (some ⟨g',0,none⟩) (xs.length+1) cap') (xs++[⟨uo GD t.bg.length,GD,fT,sM⟩])):=ah (IJ.o.push (x:=⟨uo GD t.bg.length,GD,fT,sM⟩) (by have:=Mw.o.row;rw[Nb.o]at this;exact Rl this (λq hq e=>Rv.o q e (by rw[Nb.o];exact hq))) rfl hown (by rw[Aj.o];exact hgr) (by rw[Aj.o];exact hmv));have HGD:aj (eX 49 wd L W s t.bg fC dw ve GD ((nx+bF t.body:Nat):Int) (-1)):=ah (Mw.o.far hgr (λq hq=>by have h1:=(IJ.o.lt q (by rw[Aj.o];exact hq)).1;exact⟨by have:=L.b0;have:=L.b1;omega,by have:=L.b1;omega,Rv.o q (by rw[Aj.o];exact hq)⟩));have Ck:aj (wd.heap[bc]? =some (.cells #[.slice s.aC W.cs.length s.cC,.slice s.aL W.ls.length s.cL,.slice s.aN W.ns.length s.cN,.slice s.aF W.fs.length s.cF,.slice s.aT W.ts.length s.cT,.slice s.aS W.ss.length s.cS,.slice jX xs.length nk] 35 (0,0))):=ah ((hgr.block bc (Nat.lt_of_lt_of_le zf.o.1 gX.o.size) (λe=>by have h1:=(IJ.o.lt bc (by rw[Aj.o];exact e.symm)).1;have:=sG.o;omega)).trans ((gX.o.block bc zf.o.1).trans (by rw[qh.o,Aj.o])));have WW:aj (Below bc wr wd):=ah ((aP1.o.trans (gX.o.mono (Nat.le_of_lt zf.o.1))).trans ⟨hgr.os,hgr.tape,hgr.output,hgr.size,λq hq=>hgr.block q (by have:=zf.o.1;have:=gX.o.size;omega) (λe=>by have h1:=(IJ.o.lt q (by rw[Aj.o];exact e.symm)).1;have:=sG.o;omega)⟩);clear hown hgr hmv jw hi0 hz0 hz1 hz2 hk0;have cj:=au (j:=6) Ck.o rfl;simp only[List.getElem_toArray,List.getElem_cons_zero,List.getElem_cons_succ]at cj;have fj:=bG (o:=6) Ck.o;have Sq:=(Array.getElem?_eq_some_iff.1 Ck.o).1;go_simp;refine cK 11 [[],[0],[],[2],[],[4],[4,5],[4,5,6],[2,3,4,5,6,7],[2,3,4,5,6,7,8],[0,1,2,3,4,5,6,7,8,9],[0,1,2,3,4,5,6,7,8,9,10],[0,1,2,3,4,5,6,7,8,9,10,11]] rfl rfl rfl rfl rfl (by kernel_rfl) (by kernel_rfl) (by kernel_rfl) ?_;simp[go_sem,Oper.wp];refine cK 12 [[],[0],[],[2],[],[4],[4,5],[4,5,6],[2,3,4,5,6,7],[2,3,4,5,6,7,8],[0,1,2,3,4,5,6,7,8,9],[0,1,2,3,4,5,6,7,8,9,10],[0,1,2,3,4,5,6,7,8,9,10,11]] rfl rfl rfl rfl rfl (by kernel_rfl) (by kernel_rfl) (by kernel_rfl) ?_;simp[go_sem,Oper.wp,cj,fj];refine bT rfl ?_;go_simp;generalize hWf:World.setCell wd _ _=wf;have HGf:aj (eX 49 wf L W s t.bg fC dw ve GD ((nx+bF t.body:Nat):Int) (-1)):=ah (by rw[<- hWf];exact HGD.o.far (bQ _ _ _) (λq hq=>by injection hq with hq;have hq:bc=q:=hq;subst hq;refine⟨by have:=sG.o;omega,by have:=sG.o;omega,λe=> ?_⟩;have:=(HGD.o.own bc e).1;have:=sG.o;omega));have HPf:aj (sF L.B1 wf (.slice (some ⟨g',0,none⟩) (xs.length+1) cap') (xs++[⟨uo GD t.bg.length,GD,fT,sM⟩])):=ah (by rw[<- hWf];exact uK.o.next (jg _ _ _ (by show bc<L.B1;have:=sG.o;omega)));have HXf:aj (wf.heap[bc]? =some (.cells #[.slice s.aC W.cs.length s.cC,.slice s.aL W.ls.length s.cL,.slice s.aN W.ns.length s.cN,.slice s.aF W.fs.length s.cF,.slice s.aT W.ts.length s.cT,.slice s.aS W.ss.length s.cS,.slice (some ⟨g',0,none⟩) (xs.length+1) cap'] 35 (0,0))):=ah (by rw[<- hWf];exact nA Ck.o _ rfl);have JV:aj (Below bc wr wf):=ah (by rw[<- hWf];exact WW.o.trans (bL (bQ _ _ _) (Nat.le_refl _) (Nat.le_of_lt Sq)));clear hWf cj fj Sq;go_wp2_with fail;go_roundw
   case rel=>
    refine⟨k+1,R,xs++[⟨uo GD t.bg.length,GD,fT,sM⟩],_,nx+bF t.body,GD,ve,-1,t.bg,fC,dw,by go_num,by omega,?_,by rw[List.length_append,HN.o.1];rfl,?_,HGf.o,HPf.o,HXf.o,jE.o.below JV.o,ji.o.trans JV.o,?_,λx hx=>HN.o.2.2.2 x (List.mem_cons_of_mem _ hx)⟩
    ·rw[Q9.o];simp[qw.t]
    ·intro x hx;rcases List.mem_append.1 hx with hx|hx
     ·exact HN.o.2.1 x hx
     ·rw[List.mem_singleton.1 hx];exact jT.o
    ·have h1:=nP.o.2;have h2:=qy t.body;omega
   case measure=>simp[intOf];omega
end Go.Proofs.YtkmllehjemjgpaaGreatDoor
