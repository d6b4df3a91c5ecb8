/- Contracts of registers (the program's and the reference's) and of the generator's regs. And what hangs on it. -/
import Derived.Test.YtgjmahnblcajbaaGreatDoorGCA
import Derived.Test.YtgjmahnblcajbaaGreatDoorGME
import Derived.IntWalk
import Derived.Test.YtgjmahnblcajbaaGreatDoorGCB
import Derived.Test.YtgjmahnblcajbaaGreatDoorGPI
import Derived.Test.YtgjmahnblcajbaaGreatDoorGCC
import Derived.Test.YtgjmahnblcajbaaGreatDoorGCD
set_option linter.unusedSimpArgs false
set_option linter.unusedVariables false
set_option maxHeartbeats 40000000
set_option maxRecDepth 1000000
namespace Go.Proofs.YtgjmahnblcajbaaGreatDoor
open Go.RowKit
open Md
theorem O1 {W:World} {g:Nat} {t:TypeId} {fr:Nat × Nat} {cs:Array Value} (h:W.heap[g]? =some (.cells cs t fr)): ∀(l:List Int) (k:Nat),(∀j (n:Int),l[j]? =some n->cs[k + j]? =some (.int .i64 n))->(∀n ∈ l,bV n)->dS W W.heap.size l (some ⟨g,0,none⟩) k
 | [],_,_,_=>trivial
 | n ::r,k,hc,hi=>⟨⟨g,0,rfl,(Array.getElem?_eq_some_iff.1 h).1,by rw [Nat.zero_add]; exact ak h (hc 0 n rfl)⟩,O1 h r (k + 1) (fun j m hm=>by have:=hc (j + 1) m (by simpa using hm);rw [show k + 1 + j=k + (j + 1) by omega]; exact this) (fun m hm=>hi m (List.mem_cons_of_mem _ hm))⟩
def RgP (x:aQ) (w:World) (e:Ending) (w':World):Prop:= ∃ao cap,e= .returned (.slice ao (dx x).length cap)∧dS w' w'.heap.size (dx x) ao 0∧Below w.heap.size w w'∧ ∀q,ao=some q->w.heap.size<=q.block
theorem jc {x:aQ} {w:World} {l:List Int} {cs:Array Value} {o:Obj} {t:TypeId} {n:Nat} (hr:dx x=l) (hc:cs=(l.map (fun n=>Value.int .i64 n)).toArray) (hn:n=l.length) (hi: ∀n ∈ l,bV n):RgP x w (.returned (.slice (some ⟨w.heap.size + 1,0,none⟩) n n)) ((w.alloc o).alloc (.cells cs t)):=by
 subst hc hn;rw [<- hr] at *;refine ⟨_,_,rfl,?_,(au _ _).alloc (by simp) _,fun q e=>by injection e with e; subst e; exact Nat.le_succ _⟩;have hg:=heap_alloc_new (w.alloc o) (.cells ((dx x).map (fun n=>Value.int .i64 n)).toArray t);have e:(w.alloc o).heap.size=w.heap.size + 1:=by simp
 rw [e] at hg;refine O1 hg (dx x) 0 (fun j n hn=> ?_) hi;simp [hn]
theorem EA (x:aQ) (w:World) (hi: ∀r ∈ dx x,bV r):Calls Tryz.prog 45 #[EM x] w (RgP x w):=by
 have hcs:x.op=1∨x.op=6∨x.op=10∨x.op=27∨x.op=2∨x.op=3∨x.op=4∨x.op=7∨x.op=8∨x.op=26∨x.op=9∨(x.op≠1∧x.op≠6∧x.op≠10∧x.op≠27∧x.op≠2∧x.op≠3∧x.op≠4∧x.op≠7∧x.op≠8∧x.op≠26∧x.op≠9):=by omega
 unfold EM;rcases hcs with hop | hop | hop | hop | hop | hop | hop | hop | hop | hop | hop | hop
 ·obtain ⟨op,a,b,c,n,st⟩:=x;obtain rfl:op=1:=hop;go_enter Tryz.func45,Tryz.ntmps45;go_wp2
  all_goals (go_ret; exact jc (l:=[a]) rfl rfl rfl (by have:=hi; simp only [dx] at this; simpa using this))
 ·obtain ⟨op,a,b,c,n,st⟩:=x;obtain rfl:op=6:=hop;go_enter Tryz.func45,Tryz.ntmps45;go_wp2
  all_goals (go_ret; exact jc (l:=[a]) rfl rfl rfl (by have:=hi; simp only [dx] at this; simpa using this))
 ·obtain ⟨op,a,b,c,n,st⟩:=x;obtain rfl:op=10:=hop;go_enter Tryz.func45,Tryz.ntmps45;go_wp2
  all_goals (go_ret; exact jc (l:=[a]) rfl rfl rfl (by have:=hi; simp only [dx] at this; simpa using this))
 ·obtain ⟨op,a,b,c,n,st⟩:=x;obtain rfl:op=27:=hop;go_enter Tryz.func45,Tryz.ntmps45;go_wp2
  all_goals (go_ret; exact jc (l:=[a]) rfl rfl rfl (by have:=hi; simp only [dx] at this; simpa using this))
 ·obtain ⟨op,a,b,c,n,st⟩:=x;obtain rfl:op=2:=hop;go_enter Tryz.func45,Tryz.ntmps45;go_wp2
  all_goals (go_ret; exact jc (l:=[a,b]) rfl rfl rfl (by have:=hi; simp only [dx] at this; simpa using this))
 ·obtain ⟨op,a,b,c,n,st⟩:=x;obtain rfl:op=3:=hop;go_enter Tryz.func45,Tryz.ntmps45;go_wp2
  all_goals (go_ret; exact jc (l:=[a,b]) rfl rfl rfl (by have:=hi; simp only [dx] at this; simpa using this))
 ·obtain ⟨op,a,b,c,n,st⟩:=x;obtain rfl:op=4:=hop;go_enter Tryz.func45,Tryz.ntmps45;go_wp2
  all_goals (go_ret; exact jc (l:=[a,b,c]) rfl rfl rfl (by have:=hi; simp only [dx] at this; simpa using this))
 ·obtain ⟨op,a,b,c,n,st⟩:=x;obtain rfl:op=7:=hop;go_enter Tryz.func45,Tryz.ntmps45;go_wp2
  all_goals (go_ret; exact jc (l:=[a,c]) rfl rfl rfl (by have:=hi; simp only [dx] at this; simpa using this))
 ·obtain ⟨op,a,b,c,n,st⟩:=x;obtain rfl:op=8:=hop;go_enter Tryz.func45,Tryz.ntmps45;go_wp2
  all_goals (go_ret; exact jc (l:=[b]) rfl rfl rfl (by have:=hi; simp only [dx] at this; simpa using this))
 ·obtain ⟨op,a,b,c,n,st⟩:=x;obtain rfl:op=26:=hop;go_enter Tryz.func45,Tryz.ntmps45;go_wp2
  all_goals (go_ret; exact jc (l:=[b]) rfl rfl rfl (by have:=hi; simp only [dx] at this; simpa using this))
 ·obtain ⟨op,a,b,c,n,st⟩:=x;obtain rfl:op=9:=hop;go_enter Tryz.func45,Tryz.ntmps45;go_wp2
  all_goals (go_ret; exact jc (l:=[b,c]) rfl rfl rfl (by have:=hi; simp only [dx] at this; simpa using this))
 ·obtain ⟨op,a,b,c,n,st⟩:=x;obtain ⟨n1,n2,n3,n4,n5,n6,n7,n8,n9,n10,n11⟩:=hop;simp only at n1 n2 n3 n4 n5 n6 n7 n8 n9 n10 n11;have hr:dx ⟨op,a,b,c,n,st⟩=[]:=by unfold dx; simp [n1,n2,n3,n4,n5,n6,n7,n8,n9,n10,n11]
  have HR:=ah hr;have k1:(op == 1)=false:=by simpa using n1
  have k2:(op == 6)=false:=by simpa using n2
  have k3:(op == 10)=false:=by simpa using n3
  have k4:(op == 27)=false:=by simpa using n4
  have k5:(op == 2)=false:=by simpa using n5
  have k6:(op == 3)=false:=by simpa using n6
  have k7:(op == 4)=false:=by simpa using n7
  have k8:(op == 7)=false:=by simpa using n8
  have k9:(op == 8)=false:=by simpa using n9
  have k10:(op == 26)=false:=by simpa using n10
  have k11:(op == 9)=false:=by simpa using n11
  clear n1 n2 n3 n4 n5 n6 n7 n8 n9 n10 n11 hr hi;go_enter Tryz.func45,Tryz.ntmps45;go_wp2
  all_goals (go_ret; exact ⟨none,0,by rw [HR.o]; rfl,by rw [HR.o]; trivial,au _ _,fun q e=>by cases e⟩)
theorem LG (x:aQ) (w:World) (hi: ∀r ∈ dx x,bV r):Calls Tryz.prog 34 #[EM x] w (RgP x w):=by
 have hcs:x.op=1∨x.op=6∨x.op=10∨x.op=27∨x.op=2∨x.op=3∨x.op=4∨x.op=7∨x.op=8∨x.op=26∨x.op=9∨(x.op≠1∧x.op≠6∧x.op≠10∧x.op≠27∧x.op≠2∧x.op≠3∧x.op≠4∧x.op≠7∧x.op≠8∧x.op≠26∧x.op≠9):=by omega
 unfold EM;rcases hcs with hop | hop | hop | hop | hop | hop | hop | hop | hop | hop | hop | hop
 ·obtain ⟨op,a,b,c,n,st⟩:=x;obtain rfl:op=1:=hop;go_enter Tryz.func34,Tryz.ntmps34;go_wp2
  all_goals (go_ret; exact jc (l:=[a]) rfl rfl rfl (by have:=hi; simp only [dx] at this; simpa using this))
 ·obtain ⟨op,a,b,c,n,st⟩:=x;obtain rfl:op=6:=hop;go_enter Tryz.func34,Tryz.ntmps34;go_wp2
  all_goals (go_ret; exact jc (l:=[a]) rfl rfl rfl (by have:=hi; simp only [dx] at this; simpa using this))
 ·obtain ⟨op,a,b,c,n,st⟩:=x;obtain rfl:op=10:=hop;go_enter Tryz.func34,Tryz.ntmps34;go_wp2
  all_goals (go_ret; exact jc (l:=[a]) rfl rfl rfl (by have:=hi; simp only [dx] at this; simpa using this))
 ·obtain ⟨op,a,b,c,n,st⟩:=x;obtain rfl:op=27:=hop;go_enter Tryz.func34,Tryz.ntmps34;go_wp2
  all_goals (go_ret; exact jc (l:=[a]) rfl rfl rfl (by have:=hi; simp only [dx] at this; simpa using this))
 ·obtain ⟨op,a,b,c,n,st⟩:=x;obtain rfl:op=2:=hop;go_enter Tryz.func34,Tryz.ntmps34;go_wp2
  all_goals (go_ret; exact jc (l:=[a,b]) rfl rfl rfl (by have:=hi; simp only [dx] at this; simpa using this))
 ·obtain ⟨op,a,b,c,n,st⟩:=x;obtain rfl:op=3:=hop;go_enter Tryz.func34,Tryz.ntmps34;go_wp2
  all_goals (go_ret; exact jc (l:=[a,b]) rfl rfl rfl (by have:=hi; simp only [dx] at this; simpa using this))
 ·obtain ⟨op,a,b,c,n,st⟩:=x;obtain rfl:op=4:=hop;go_enter Tryz.func34,Tryz.ntmps34;go_wp2
  all_goals (go_ret; exact jc (l:=[a,b,c]) rfl rfl rfl (by have:=hi; simp only [dx] at this; simpa using this))
 ·obtain ⟨op,a,b,c,n,st⟩:=x;obtain rfl:op=7:=hop;go_enter Tryz.func34,Tryz.ntmps34;go_wp2
  all_goals (go_ret; exact jc (l:=[a,c]) rfl rfl rfl (by have:=hi; simp only [dx] at this; simpa using this))
 ·obtain ⟨op,a,b,c,n,st⟩:=x;obtain rfl:op=8:=hop;go_enter Tryz.func34,Tryz.ntmps34;go_wp2
  all_goals (go_ret; exact jc (l:=[b]) rfl rfl rfl (by have:=hi; simp only [dx] at this; simpa using this))
 ·obtain ⟨op,a,b,c,n,st⟩:=x;obtain rfl:op=26:=hop;go_enter Tryz.func34,Tryz.ntmps34;go_wp2
  all_goals (go_ret; exact jc (l:=[b]) rfl rfl rfl (by have:=hi; simp only [dx] at this; simpa using this))
 ·obtain ⟨op,a,b,c,n,st⟩:=x;obtain rfl:op=9:=hop;go_enter Tryz.func34,Tryz.ntmps34;go_wp2
  all_goals (go_ret; exact jc (l:=[b,c]) rfl rfl rfl (by have:=hi; simp only [dx] at this; simpa using this))
 ·obtain ⟨op,a,b,c,n,st⟩:=x;obtain ⟨n1,n2,n3,n4,n5,n6,n7,n8,n9,n10,n11⟩:=hop;simp only at n1 n2 n3 n4 n5 n6 n7 n8 n9 n10 n11;have hr:dx ⟨op,a,b,c,n,st⟩=[]:=by unfold dx; simp [n1,n2,n3,n4,n5,n6,n7,n8,n9,n10,n11]
  have HR:=ah hr;have k1:(op == 1)=false:=by simpa using n1
  have k2:(op == 6)=false:=by simpa using n2
  have k3:(op == 10)=false:=by simpa using n3
  have k4:(op == 27)=false:=by simpa using n4
  have k5:(op == 2)=false:=by simpa using n5
  have k6:(op == 3)=false:=by simpa using n6
  have k7:(op == 4)=false:=by simpa using n7
  have k8:(op == 7)=false:=by simpa using n8
  have k9:(op == 8)=false:=by simpa using n9
  have k10:(op == 26)=false:=by simpa using n10
  have k11:(op == 9)=false:=by simpa using n11
  clear n1 n2 n3 n4 n5 n6 n7 n8 n9 n10 n11 hr hi;go_enter Tryz.func34,Tryz.ntmps34;go_wp2
  all_goals (go_ret; exact ⟨none,0,by rw [HR.o]; rfl,by rw [HR.o]; trivial,au _ _,fun q e=>by cases e⟩)
def jf (l:List aQ):Prop:= ∀i ∈ l,∀r ∈ dx i,-1000000000<=r∧r<=1000000000
theorem Ub {T:TypeId} {w:World} {L:GL} {W:Wo} {s:gW} {lc:List ByteArray} {al:Option Addr} {cl:Nat} {v:Value} {code:List aQ} {a b:Int} (hI:eH T w L W s lc al cl v code a b) (hb:jf code):
 Calls Tryz.prog 30 #[.pointer (some ⟨L.gb,0,none⟩)] w fun e w'=>e= .returned (.int .i64 (yE code lc.length))∧Below w.heap.size w w':=by
 obtain ⟨aV,-,-,-,-,-,-,q6,q7,-,-,-⟩:=hI.cells;obtain ⟨ao,cap,rfl,hcap,hcm,hfl⟩:=gL yX hI.row;have HF:=ah hfl;have HB:=ah hb;unfold maxLen at hcm;generalize hres:yE code lc.length=res;have HR:=ah hres;clear hI hb hfl hres;go_enter Tryz.func30,Tryz.ntmps30;go_wp2_with fail;go_loopw [3,5,7,18,23,24,25] (fun n _ _ i _ _ _ wr=> ∃(k:Nat) (R:List aQ) (m:Int),i= .int .i64 k∧n= .int .i64 m∧k + R.length=code.length∧res=yE R m∧jf R∧bL gK 6 wr wr.heap.size R ao k∧Below w.heap.size w wr) (fun _ _ _ i _ _ _ _=>code.length - (intOf i).toNat)
 case atStart=>exact ⟨0,code,lc.length,rfl,rfl,by simp,HR.o.symm,HB.o,HF.o,Below.refl _ _⟩
 case round=>
  obtain ⟨k,R,m,rfl,rfl,hlen,heq,hrb,hrow,hbel⟩:=hrel;have HE:=ah heq;have kZ:=ah hbel;clear heq hbel HF;cases R with
  | nil=>
    obtain rfl:k=code.length:=by simpa using hlen
    go_wp2_with fail;go_ret;exact ⟨dB HE.o.symm,kZ.o⟩
  | cons x R=>
    obtain ⟨⟨b1,off,rfl,hb1,hcs⟩,hrest⟩:=hrow;simp only [List.length_cons] at hlen;have hkl:k < code.length:=by omega
    have x0:=hcs 0 _ rfl;have x1:=hcs 1 _ rfl;have x2:=hcs 2 _ rfl;have x3:=hcs 3 _ rfl;have x4:=hcs 4 _ rfl;have x5:=hcs 5 _ rfl;simp only [Nat.add_zero] at x0;have gU:=ah hrest;have BP:=ah (And.intro (hrb x List.mem_cons_self) (show jf R from fun i hi=>hrb i (List.mem_cons_of_mem _ hi)));clear hcs hrest hrb;go_upto_region 5 with fail;generalize hW:World.alloc wr _=w2;obtain ⟨nb,hnb⟩: ∃n,wr.heap.size=n:=⟨_,rfl⟩;have HB2:aj (Below wr.heap.size wr w2):=ah (by rw [<- hW]; exact au _ _);have HX:aj (w2.heap[nb]? =some (.cells (gK x).toArray 75 (0,0))):=ah (by rw [<- hW,<- hnb]; exact heap_alloc_new _ _);rw [hnb];clear hW hnb x0 x1 x2 x3 x4 x5;have x0:=ak (j:=0) HX.o rfl;have x1:=ak (j:=1) HX.o rfl;have x2:=ak (j:=2) HX.o rfl;have x3:=ak (j:=3) HX.o rfl;have x4:=ak (j:=4) HX.o rfl;have x5:=ak (j:=5) HX.o rfl;go_wp2_with fail;refine (EA x w2 (fun r hr=>by have:=BP.o.1 r hr; unfold bV; omega)).mono ?_;rintro e w3 ⟨Ip,CW,rfl,hin,hb3,-⟩;have eX:=ah hin;have HB3:=ah (kZ.o.trans ((HB2.o.trans (hb3.mono HB2.o.size)).mono kZ.o.size));have HR3:=ah ((gU.o.same HB2.o).same hb3);have I9:aj ((dx x).length<=3):=ah (by unfold dx; (repeat' split) <;> simp);clear hin hb3 x0 x1 x2 x3 x4 x5;have HE2:aj (res=yE R (YH (dx x) m)):=ah HE.o;have MG:=ah BP.o.1;generalize dx x=rs at *;go_wp2_with fail;go_loopw [3,7,25] (fun n _ i wq=> ∃(j:Nat) (S:List Int) (m2:Int),i= .int .i64 j∧n= .int .i64 m2∧j + S.length=rs.length∧res=yE R (YH S m2)∧(∀r ∈ S,-1000000000<=r∧r<=1000000000)∧dS wq wq.heap.size S Ip j∧wq=w3) (fun _ _ i _=>rs.length - (intOf i).toNat)
    case atStart=>exact ⟨0,rs,m,rfl,rfl,by simp,HE2.o,MG.o,eX.o,rfl⟩
    case round=>
     obtain ⟨j,S,m2,rfl,rfl,nO,heq2,WL,hin2,rfl⟩:=hrel;have HQ:=ah heq2;have h3:=I9.o;clear heq2;cases S with
     | nil=>
       obtain rfl:j=rs.length:=(by simpa using nO);have mF:aj (res=yE R m2):=HQ;go_wp2_with fail;go_roundw
       case rel=>exact ⟨k + 1,R,m2,by go_num,rfl,by omega,mF.o,BP.o.2,HR3.o,HB3.o⟩
       case measure=>simp [intOf]; omega
     | cons r S=>
       obtain ⟨⟨b4,Sd,rfl,hb4,y0⟩,mW⟩:=hin2;simp only [List.length_cons] at nO;have hjl:j < rs.length:=(by omega);have hr:=WL r List.mem_cons_self;have hwr:IntKind.i64.wrap (r + 1)=r + 1:=IntWalk.i64_in _ (by omega);have HR4:=ah mW;have HRB:=ah (fun q hq=>WL q (List.mem_cons_of_mem _ hq));clear mW WL;go_wp2_with fail;go_roundw
       case rel=>exact ⟨j + 1,S,max m2 (r + 1),by go_num,by first | rfl | simp [hwr],by omega,HQ.o,HRB.o,HR4.o,trivial⟩
       case measure=>simp [intOf]; omega
theorem jf.app {a b:List aQ} (ha:jf a) (hb:jf b):jf (a++b):=fun i hi=>by
 rcases List.mem_append.1 hi with h | h
 ·exact ha i h
 ·exact hb i h
theorem jf.one {i:aQ} (h: ∀r ∈ dx i,-1000000000<=r∧r<=1000000000):jf [i]:=fun j hj=>by
 rw [List.mem_singleton.1 hj]; exact h
theorem jf.nil:jf []:=fun i hi=>by cases hi
theorem O8 {lc:List ByteArray} (h:lc.length<=1000) (nm:ByteArray): -1<=fC lc nm∧fC lc nm<=1000:=by
 have:=Qw lc nm; omega
theorem Ov {W:Wo} {lc:List ByteArray} (hlc:lc.length<=1000) (st:Int): ∀(l:bf) (d:Int),0<=d->d + fG l<=100000->jf (DR W lc st l d)
 | .nil,_,_,_=>jf.nil
 | .cons op n nm kids rest,d,h0,h1=>by
   rw [fG] at h1;have hk:=Ov hlc (W:=W) st kids d h0 (by omega);have hr:=Ov hlc (W:=W) st rest (d + 1) (by omega) (by omega);have hix:=O8 hlc nm;rw [DR];refine jf.app ?_ hr;split
   ·refine jf.one ?_;unfold Fu;split
    ·intro r hr; simp [dx] at hr; omega
    ·split
     ·intro r hr; simp [dx] at hr; omega
     ·intro r hr; simp [dx] at hr; omega
   ·refine jf.app hk (jf.one ?_);unfold Oo;split
    ·intro r hr; simp [dx] at hr; omega
    ·split
     ·intro r hr; simp [dx] at hr; omega
     ·intro r hr; simp [dx] at hr; omega
theorem Fx {W:Wo} {lc:List ByteArray} (hlc:lc.length<=1000) (st op n:Int) (nm:ByteArray) (kids:bf) (d:Int) (h0:0<=d) (h1:d + 1 + fG kids<=100000):jf (kT W lc st op n nm kids d):=by
 have:=Ov hlc (W:=W) st (.cons op n nm kids .nil) d h0 (by simp only [fG]; omega);rw [Dj,DR,List.append_nil] at this;exact this
theorem ZB {W:Wo} {lc:List ByteArray} (hlc:lc.length<=1000) (st:Int) {h:aX} (hw:gP h<=1000):jf (vH W lc st h):=by
 have hix:=O8 hlc h.nm;have hw':=hw;unfold gP at hw';have hx:=Fx (W:=W) hlc st h.dP h.xn h.dO h.aO lc.length (by omega) (by omega);have hx1:=Fx (W:=W) hlc st h.dP h.xn h.dO h.aO (lc.length + 1) (by omega) (by omega);unfold vH;split
 ·unfold Es;split
  ·refine jf.app hx (jf.one ?_);split
   ·intro r hr; simp [dx] at hr; omega
   ·intro r hr; simp [dx] at hr; omega
  ·rename_i op n nm kids r hi;have hk:fG h.idx=1 + fG kids + fG r:=by rw [hi,fG]
   refine jf.app (jf.app (Fx hlc st op n nm kids lc.length (by omega) (by omega)) hx1) (jf.one ?_);intro r hr; simp [dx] at hr; omega
 ·repeat' split
  all_goals first
   | exact jf.nil
   | exact jf.app hx (jf.one (by intro r hr; simp [dx] at hr; omega))
   | exact jf.one (by intro r hr; simp [dx] at hr; try omega)
theorem ar3 {W:Wo} {lc:List ByteArray} (hlc:lc.length<=1000) (st:Int) {h:aX} (hw:gP h<=1000) {B E:List aQ} (hB:jf B) (hE:jf E) (ne:Bool) (pos:Nat):jf (Cv W lc st h (fV W lc st h lc.length) B E ne pos):=by
 have hw':=hw;unfold gP at hw';have hx:jf (fV W lc st h lc.length):=Fx (W:=W) hlc st h.dP h.xn h.dO h.aO lc.length (by omega) (by omega);have br: ∀x:Int,jf [⟨10,lc.length,x,0,0,st⟩]:=fun x=>jf.one (by intro r hr; simp [dx] at hr; omega);have jm: ∀x:Int,jf [⟨5,x,0,0,0,st⟩]:=fun x=>jf.one (by intro r hr; simp [dx] at hr);unfold Cv;split
 ·split
  ·exact (hx.app (br _)).app hB
  ·exact (((hx.app (br _)).app hB).app (jm _)).app hE
 ·split
  ·exact ((hx.app (br _)).app hB).app (jm _)
  ·split
   ·rename_i h48;rw [Bool.and_eq_true,decide_eq_true_eq,decide_eq_true_eq] at h48;have hb:zJ h.op=11∨zJ h.op=13∨zJ h.op=15∨zJ h.op=17∨zJ h.op=19:=by
     unfold zJ
     repeat' split
     all_goals simp
    refine ((jf.one ?_).app hB).app (jf.one ?_)
    ·intro r hr;rcases hb with e | e | e | e | e <;> rw [e] at hr <;> simp [dx] at hr
    ·intro r hr;rcases hb with e | e | e | e | e <;> rw [e] at hr <;> simp [dx] at hr
   ·exact ZB hlc st hw
theorem Jf {W:Wo} {lc:List ByteArray} (hlc:lc.length<=1000): ∀(l:aJ) (nx pos:Nat),l.Ev (Ol W)->jf (iW W lc l nx pos)
 | .nil,_,_,_=>jf.nil
 | .cons h b e r,nx,pos,hev=>by obtain ⟨h1,h2,h3,h4⟩:=hev;rw [iW];exact (ar3 hlc _ h1.2 (Jf hlc b _ _ h2) (Jf hlc e _ _ h3) _ _).app (Jf hlc r _ _ h4)
theorem ZA {a:List aQ} (h:jf a):jf (a++[⟨28,0,0,0,0,-1⟩]):=h.app (jf.one (by intro r hr; simp [dx] at hr))
theorem LQ {ds:List De} {ts:List Th} : ∀ {l:List Th},(F6 ds ts l).1=0-> ∀t ∈ l,t.cu.length<=4
 | [],_=>fun t ht=>by cases ht
 | t ::r,h=>by
   rw [F6] at h;split at h
   ·exact absurd (show (2:Int)=0 from h) (by decide)
   ·rename_i h4;split at h
    ·exact absurd (show (4:Int)=0 from h) (by decide)
    ·intro x hx;rcases List.mem_cons.1 hx with rfl | hx
     ·simp at h4; omega
     ·exact LQ h x hx
theorem Va {p:Pr} (h:(qh p).1=0): ∀t ∈ p.ts,t.cu.length<=4:=by
 unfold qh at h;split at h
 ·exact absurd (show (4:Int)=0 from h) (by decide)
 ·exact LQ h
namespace Md
structure uQ where
 regs:Int
 is:List aQ
 ao:Option Addr
 cap:Nat
def uQ.t (x:uQ):qJ:=⟨x.regs,x.is⟩
def QF (x:uQ):List Value:=[.int .i64 x.regs,.slice x.ao x.is.length x.cap]
def uQ.I (x:uQ) (w:World):Prop:=bL gK 6 w w.heap.size x.is x.ao 0
def mg (w:World) (B:Nat):List qJ->Option Addr->Nat->Prop
 | [],_,_=>True
 | t ::r,ao,k=>(∃b off dw bJ,ao=some ⟨b,off,none⟩∧b < B∧w.cell? ⟨b,off + k * 2,none⟩=some (.int .i64 t.regs)∧w.cell? ⟨b,off + k * 2 + 1,none⟩=some (.slice dw t.is.length bJ)∧t.is.length<=3000000000000∧bL gK 6 w B t.is dw 0)∧mg w B r ao (k + 1)
def F8:List Th->Nat
 | []=>0
 | t ::r=>mJ t.body + F8 r
def Fit (p:Pr):Prop:=F8 p.ts<=100000000000∧ ∀t ∈ p.ts,t.body.Ev (fun h=>gP h<=1000)
theorem Qd: ∀l:List Th,Ez l<=F8 l
 | []=>Nat.le_refl _
 | t ::r=>by have:=uT t.body; have:=Qd r; rw [Ez,F8]; omega
end Md
theorem ZQ: ∀x:uQ,(QF x).length=2:=fun _=>rfl
theorem aO0 (x:uQ): ∀u ∈ QF x,u.oneCell'=true:=by intro u hu; simp [QF] at hu; rcases hu with rfl | rfl <;> rfl
theorem am7:(Tryz.prog.info? 62).map (fun i=>(i.zero,i.size,i.bytes))=some (some (.agg #[.int .i64 0,.slice none 0 0]),2,32):=by kernel_rfl
abbrev zf (B:Nat) (w:World) (v:Value) (l:List uQ):Prop:=Grow QF 2 uQ.I 62 B w v l
theorem Sq {w:World} {B B' m m' n n':Nat} {e e':TypeId} {v v':Value} {xs xs':List Value} (h:w.ownsRow B e m v n xs) (h':w.ownsRow B' e' m' v' n' xs') (hne:e≠e'): ∀k,v.ownBlock=some k->v'.ownBlock≠some k:=by
 intro k hk hk';rcases h.2 with ⟨rfl,-⟩ | ⟨g,cap,cur,rfl,-,hg,-⟩
 ·cases hk
 rcases h'.2 with ⟨rfl,-⟩ | ⟨g',cap',cur',rfl,-,hg',-⟩
 ·cases hk'
 injection hk with hk; injection hk' with hk';simp only at hk hk';subst hk; subst hk';rw [hg] at hg';injection hg' with hg'; injection hg' with _ h2 _;exact hne h2
theorem ZR {w:World} {B:Nat} {g:Option Nat} {ao:Option Addr} {cap:Nat} {is:List aQ} {r:Int} (h:w.ownsRow B 75 6 (.slice ao is.length cap) is.length (is.flatMap gK)) (hg: ∀k,(Value.slice ao is.length cap).ownBlock=some k->g≠some k):gN B g w (uQ.I ⟨r,is,ao,cap⟩):=fun w' ha=>by
 have h':w'.ownsRow B 75 6 (.slice ao is.length cap) is.length (is.flatMap gK):=by
  refine ⟨h.1,?_⟩;rcases h.2 with h1 | ⟨q,cap',cur,h1,h2,h3,h4⟩
  ·exact .inl h1
  ·refine .inr ⟨q,cap',cur,h1,h2,?_,h4⟩;rw [ha.2 q h2 (fun e=>hg q (by rw [h1]; rfl) e.symm) (Array.getElem?_eq_some_iff.1 h3).1]; exact h3
 exact wN yX h'
theorem QE {w:World} {B:Nat} {v:Value} {l:List uQ} (h:zf B w v l) (hl: ∀x ∈ l,x.is.length<=1000000000000): ∃ao cap,v= .slice ao l.length cap∧l.length<=cap∧mg w w.heap.size (l.map uQ.t) ao 0:=by
 obtain ⟨hI,ao,cap,hv,hc,hcells⟩:=(h.cells ZQ).now;refine ⟨ao,cap,hv,hc,?_⟩;have: ∀(r:List uQ) (k:Nat),(∀i x,r[i]? =some x->l[k + i]? =some x)->mg w w.heap.size (r.map uQ.t) ao k:=by
  intro r
  induction r with
  | nil=>exact fun _ _=>trivial
  | cons x r ih=>
    intro k hk;have hx:=hk 0 x rfl;obtain ⟨g,rfl,hB,hlt,hcs⟩:=hcells k x hx;have hm:x ∈ l:=List.mem_of_getElem? hx;refine ⟨⟨g,0,x.ao,x.cap,rfl,hlt,?_,?_,Nat.le_trans (hl x hm) (by decide),hI x hm⟩,ih (k + 1) (fun i y hy=>by have:=hk (i + 1) y (by simpa using hy);rw [show k + 1 + i=k + (i + 1) by omega]; exact this)⟩
    ·have:=hcs 0 _ rfl;rw [Nat.zero_add]; exact this
    ·have:=hcs 1 _ rfl;rw [Nat.zero_add]; exact this
 exact this l 0 (fun i x hx=>by rw [Nat.zero_add]; exact hx)
def BbQ (r:Int) (ao:Option Addr) (n cap:Nat) (v:Value) (w':World):Prop:= ∃bb,v= .slice (some ⟨bb,0,none⟩) 1 1∧w'.heap[bb]? =some (.cells #[.int .i64 r,.slice ao n cap] 62 (0,0))
theorem eH.far {T:TypeId} {w w':World} {L:GL} {W:Wo} {s:gW} {lc:List ByteArray} {al:Option Addr} {cl:Nat} {v:Value} {code:List aQ} {a b:Int} {g:Option Nat} (h:eH T w L W s lc al cl v code a b) (hg:w.grownBy w' g) (hk: ∀k,g=some k->L.B0<=k∧k≠L.gb∧v.ownBlock≠some k):eH T w' L W s lc al cl v code a b:=by
 have hb:Below L.B0 w w':=⟨hg.os,hg.tape,hg.output,hg.size,fun k hlt=>hg.block k (Nat.lt_of_lt_of_le hlt h.b0) (fun e=>by have:=(hk k e.symm).1; omega)⟩
 exact {blk:=(hg.block _ (Array.getElem?_eq_some_iff.1 h.blk).1 (fun e=>(hk _ e.symm).2.1 rfl)).trans h.blk
        row:=h.row.kept hg (by
         cases hv:v.ownBlock with
         | none=>exact .inl rfl
         | some q=>exact .inr (fun e=>(hk q e.symm).2.2 hv))
        sz:=Nat.le_trans h.sz hg.size,wo:=h.wo.below hb,few:=h.few,lc:=h.lc.below hb}
theorem OW (p:Pr) (w:World) (aG aH:Option Addr) (aB aD:Nat) (hp:p.At w aG aH) (dH:cB w) (hfit:Fit p) (hok:(pq p).1=0):
 Calls Tryz.prog 11 #[.agg #[.slice aG p.ds.length aB,.slice aH p.ts.length aD]] w fun e w'=> ∃s ao cap,e= .returned (.tuple #[.agg #[.slice s.aC (jr p).cs.length s.cC,.slice s.aL (jr p).ls.length s.cL,.slice s.aN (jr p).ns.length s.cN,.slice s.aF (jr p).fs.length s.cF,.slice s.aT (jr p).ts.length s.cT,.slice s.aS (jr p).ss.length s.cS,.slice ao p.ts.length cap],.int .i64 0,.int .i64 0])∧
  dR w' w'.heap.size (jr p) s∧mg w' w'.heap.size (zM (jr p) p.ts 0) ao 0∧p.ts.length<=cap∧Below w.heap.size w w':=by
 have HP:=ah hp;have gV:=ah dH;have HFT:=ah hfit;have qG:=ah (okP hok);have HPZ:=ah (AY hok);have Tf:=ah hok;have PV:aj (G8 p=jr p):=ah (by unfold G8; rw [hok]; rfl);have hpe:pq p=(0,(pq p).2):=by rw [<- hok]
 have htl:p.ts.length<=4:=by have:=HPZ.o.2.2.1; omega
 have El:=ah htl;clear hp dH hfit hok;go_enter Tryz.func11,Tryz.ntmps11;go_upto_region 1 with fail;generalize hW:World.alloc (World.alloc w _) _=w1;obtain ⟨bp,hbp⟩: ∃n,w.heap.size=n:=⟨_,rfl⟩;have HB1:aj (Below w.heap.size w w1):=ah (by rw [<- hW]; exact (au _ _).alloc (by simp) _);have iG:aj (w1.heap.size=bp + 2):=ah (by rw [<- hW,<- hbp]; simp);have Aj:aj (w1.heap[bp]? =some (.cells #[.slice aG p.ds.length aB,.slice aH p.ts.length aD] 38 (0,0))):=ah (by rw [<- hW,<- hbp,heap_alloc_old _ _ (by simp)]; exact heap_alloc_new _ _);have jq:aj (w1.heap[bp + 1]? =some (.cells #[.slice none 0 0,.slice none 0 0,.slice none 0 0,.slice none 0 0,.slice none 0 0,.slice none 0 0,.slice none 0 0] 33 (0,0))):=ah (by have:=heap_alloc_new (w.alloc (.cells #[.slice aG p.ds.length aB,.slice aH p.ts.length aD] 38)) (.cells #[.slice none 0 0,.slice none 0 0,.slice none 0 0,.slice none 0 0,.slice none 0 0,.slice none 0 0,.slice none 0 0] 33);rw [<- hW,<- hbp]; simpa using this);have Hu:=ah hbp;rw [hbp];clear hW hbp;have y0:=ak (j:=0) Aj.o rfl;have y1:=ak (j:=1) Aj.o rfl;go_wp2_with fail;refine (FN p w1 aG aH aB aD (HP.o.same HB1.o) (gV.o.same HB1.o)).mono ?_;rintro e w2 ⟨rfl,hb2⟩;have HB2:=ah (HB1.o.trans (hb2.mono HB1.o.size));have zG:=ah ((hb2.block _ (Array.getElem?_eq_some_iff.1 Aj.o).1).trans Aj.o);have rX:=ah ((hb2.block _ (Array.getElem?_eq_some_iff.1 jq.o).1).trans jq.o);rw [show (pq p).1=0 from Tf.o];clear hb2 y0 y1 Aj jq hpe;generalize (pq p).2=ln at *;have y0:=ak (j:=0) zG.o rfl;have y1:=ak (j:=1) zG.o rfl;go_wp2_with fail;refine (Ro p w2 aG aH aB aD (HP.o.same HB2.o) (gV.o.same HB2.o) (by have:=HFT.o.1; have:=Qd p.ts; omega)).mono ?_;rintro e w3 ⟨s,rfl,hwo,hb3,hnew⟩;have HNW:=ah hnew;rw [PV.o] at hwo;have MN:=ah hwo;have HB3:=ah (HB2.o.trans (hb3.mono HB2.o.size));have Gg:=ah ((hb3.block _ (Array.getElem?_eq_some_iff.1 zG.o).1).trans zG.o);have Gh:=ah ((hb3.block _ (Array.getElem?_eq_some_iff.1 rX.o).1).trans rX.o);rw [PV.o];have HS2:=ah ((Array.getElem?_eq_some_iff.1 rX.o).1);clear hwo hb3 y0 y1 zG rX hnew;generalize Yu:jr p=W at *;have aH2:=ah Yu;clear Yu;unfold jS;have y1:=ak (j:=1) Gg.o rfl;go_upto_region 6 with fail;obtain ⟨bc,hbc⟩: ∃n,w3.heap.size=n:=⟨_,rfl⟩;generalize wC:World.alloc (World.alloc w3 _) _=w5;have jh:aj (Below w3.heap.size w3 w5):=ah (by rw [<- wC]; exact (au _ _).alloc (by simp) _);have wh:aj (w5.heap[bc]? =some (.cells #[.slice s.aC W.cs.length s.cC,.slice s.aL W.ls.length s.cL,.slice s.aN W.ns.length s.cN,.slice s.aF W.fs.length s.cF,.slice s.aT W.ts.length s.cT,.slice s.aS W.ss.length s.cS,.slice none 0 0] 33 (0,0))):=ah (by rw [<- wC,<- hbc,heap_alloc_old _ _ (by simp)]; exact heap_alloc_new _ _);have HXg:aj (w5.heap[bc + 1]? =some (.cells (Qk W s [] none 0 (.slice none 0 0) 0 0) 68 (0,0))):=ah (by have:=heap_alloc_new (w3.alloc (.cells #[.slice s.aC W.cs.length s.cC,.slice s.aL W.ls.length s.cL,.slice s.aN W.ns.length s.cN,.slice s.aF W.fs.length s.cF,.slice s.aT W.ts.length s.cT,.slice s.aS W.ss.length s.cS,.slice none 0 0] 33)) (.cells (Qk W s [] none 0 (.slice none 0 0) 0 0) 68);rw [show (w3.alloc (.cells #[.slice s.aC W.cs.length s.cC,.slice s.aL W.ls.length s.cL,.slice s.aN W.ns.length s.cN,.slice s.aF W.fs.length s.cF,.slice s.aT W.ts.length s.cT,.slice s.aS W.ss.length s.cS,.slice none 0 0] 33)).heap.size=w3.heap.size + 1 by simp] at this;rw [<- wC,<- hbc]; exact this);have lY:aj (w5.heap.size=bc + 2):=ah (by rw [<- wC,<- hbc]; simp);have HBC:=ah hbc;rw [hbc];obtain ⟨L,hL0,Yt,hL1⟩: ∃L:GL,L.B0=bc∧bc + 1=L.gb∧L.B1=bc + 2:=⟨⟨bc,bc + 1,bc + 2,by omega,by omega⟩,rfl,rfl,rfl⟩;rw [Yt];have HL:=ah (And.intro hL0 (And.intro Yt hL1));have aH4:=ah ((jh.o.block _ (Array.getElem?_eq_some_iff.1 Gg.o).1).trans Gg.o);have Ky:aj (eH 68 w5 L W s [] none 0 (.slice none 0 0) [] 0 0):=ah
  {blk:=by rw [<- Yt]; exact HXg.o,row:=World.ownsRow_nil _ _ _ _,sz:=by rw [hL1,lY.o]; exact Nat.le_refl _,wo:=by rw [hL0,<- hbc]; exact MN.o.below jh.o,few:=Nat.zero_le _,lc:=trivial}
 have KJ:aj (gF w5 bc p.ts aH 0):=ah (by have h1:=HP.o.2.2.2.below (HB3.o.trans (jh.o.mono HB3.o.size));exact h1.mono (by rw [<- hbc]; exact HB3.o.size));have KA:=ah (Va HPZ.o.2.2.2.1);have Ej:aj (∀t ∈ p.ts,iK t.body=true):=ah (fun t ht=>by have h1:=HPZ.o.1;unfold wU at h1;simp only [Bool.and_eq_true] at h1;have:=List.all_eq_true.1 h1.1.2 t ht;unfold wV at this;simp only [Bool.and_eq_true] at this;exact this.2);have HTO:=ah (Kj HP.o.2.2.2);clear wC hbc hL0 Yt hL1 y1 HXg MN Gg;have y1:=ak (j:=1) aH4.o rfl;go_wp2_with fail;go_loopw [10,31] (fun _ i wr=> ∃(k:Nat) (R:List Th) (xs:List uQ) (vT:Value) (nx:Nat) (code:List aQ) (v:Value) (b:Int) (lc:List ByteArray) (al:Option Addr) (cl:Nat),i= .int .i64 k∧k + R.length=p.ts.length∧zM W p.ts 0=xs.map uQ.t++zM W R nx∧xs.length=k∧(∀x ∈ xs,x.is.length<=1000000000000)∧eH 68 wr L W s lc al cl v code (nx:Nat) b∧zf L.B1 wr vT xs∧
  wr.heap[bc]? =some (.cells #[.slice s.aC W.cs.length s.cC,.slice s.aL W.ls.length s.cL,.slice s.aN W.ns.length s.cN,.slice s.aF W.fs.length s.cF,.slice s.aT W.ts.length s.cT,.slice s.aS W.ss.length s.cS,vT] 33 (0,0))∧gF wr bc R aH k∧Below bc w5 wr∧nx + F8 R<=F8 p.ts∧(∀t ∈ R,t ∈ p.ts)) (fun _ i _=>p.ts.length - (intOf i).toNat)
 case atStart=>exact ⟨0,p.ts,[],.slice none 0 0,0,[],_,0,[],none,0,rfl,by simp,by simp,rfl,by simp,Ky.o,Grow.nil _ _ _ _ _ _,wh.o,KJ.o,Below.refl _ _,by simp,fun t h=>h⟩
 case round=>
  obtain ⟨k,R,xs,vT,nx,code,v,b,lc,al,cl,rfl,hlen,heq,hxl,hxs,hge,hgr,hbx,hth,hbel,hwt,hmem⟩:=hrel;have HE:=ah heq;have HG:=ah hge;have HGT:=ah hgr;have HX:=ah hbx;have ig:=ah hbel;have HN:=ah (And.intro hxl (And.intro hxs (And.intro hwt hmem)));clear heq hge hgr hbx hbel hxl hxs hwt hmem Ky KJ wh y1;cases R with
  | nil=>
    obtain rfl:k=p.ts.length:=by simpa using hlen
    obtain ⟨qL,wu,Uo,hcc,hat⟩:=QE HGT.o HN.o.2.1;subst Uo;have HAT:=ah hat;have HCAP:=ah hcc;have CO:=ah ((ig.o.block (bp + 1) (by have h1:=(Array.getElem?_eq_some_iff.1 Gh.o).1; have h2:=HBC.o; omega)).trans ((jh.o.block _ (Array.getElem?_eq_some_iff.1 Gh.o).1).trans Gh.o));have hxl:xs.length=p.ts.length:=HN.o.1;have XQ:aj (zM W p.ts 0=xs.map uQ.t):=ah (by rw [HE.o]; simp [zM]);have Dv:aj (wr.heap[bc]? =some (.cells #[.slice s.aC W.cs.length s.cC,.slice s.aL W.ls.length s.cL,.slice s.aN W.ns.length s.cN,.slice s.aF W.fs.length s.cF,.slice s.aT W.ts.length s.cT,.slice s.aS W.ss.length s.cS,.slice qL p.ts.length wu] 33 (0,0))):=ah (by rw [HX.o,hxl]);have c0:=ak (j:=0) Dv.o rfl;have c1:=ak (j:=1) Dv.o rfl;have c2:=ak (j:=2) Dv.o rfl;have c3:=ak (j:=3) Dv.o rfl;have c4:=ak (j:=4) Dv.o rfl;have c5:=ak (j:=5) Dv.o rfl;have c6:=ak (j:=6) Dv.o rfl;simp only [List.getElem_toArray,List.getElem_cons_zero,List.getElem_cons_succ] at c0 c1 c2 c3 c4 c5 c6;have r0:=ak (j:=0) CO.o rfl;have r1:=ak (j:=1) CO.o rfl;have r2:=ak (j:=2) CO.o rfl;have r3:=ak (j:=3) CO.o rfl;have r4:=ak (j:=4) CO.o rfl;have r5:=ak (j:=5) CO.o rfl;have r6:=ak (j:=6) CO.o rfl;have rf:=fun j=>aU (o:=j) CO.o;have rf0:=rf 0;have rf1:=rf 1;have rf2:=rf 2;have rf3:=rf 3;have rf4:=rf 4;have rf5:=rf 5;have rf6:=rf 6;have Ku:=ah (Nat.lt_of_lt_of_le (Array.getElem?_eq_some_iff.1 HX.o).1 (Nat.le_refl _));have hcl:p.ts.length<=wu:=by rw [hxl] at hcc; exact hcc
    have XO:=ah hcl;clear rf hat hth hcc hcl;go_wp2_with fail;show bodyPost _ _ _ _ _ (World.setCells wr (bp + 1) 0 [.slice s.aC W.cs.length s.cC,.slice s.aL W.ls.length s.cL,.slice s.aN W.ns.length s.cN,.slice s.aF W.fs.length s.cF,.slice s.aT W.ts.length s.cT,.slice s.aS W.ss.length s.cS,.slice qL p.ts.length wu]);have sG:=ah (kL (vs:=[.slice s.aC W.cs.length s.cC,.slice s.aL W.ls.length s.cL,.slice s.aN W.ns.length s.cN,.slice s.aF W.fs.length s.cF,.slice s.aT W.ts.length s.cT,.slice s.aS W.ss.length s.cS,.slice qL p.ts.length wu]) CO.o rfl);have su:aj (wr.grownBy (World.setCells wr (bp + 1) 0 [.slice s.aC W.cs.length s.cC,.slice s.aL W.ls.length s.cL,.slice s.aN W.ns.length s.cN,.slice s.aF W.fs.length s.cF,.slice s.aT W.ts.length s.cT,.slice s.aS W.ss.length s.cS,.slice qL p.ts.length wu]) (some (bp + 1))):=ah (bW _ _ _ _);have HW3:aj (bp + 1 < bc):=ah (by have h1:=(Array.getElem?_eq_some_iff.1 Gh.o).1; have h2:=HBC.o; omega);have KC:aj (Below w.heap.size w (World.setCells wr (bp + 1) 0 [.slice s.aC W.cs.length s.cC,.slice s.aL W.ls.length s.cL,.slice s.aN W.ns.length s.cN,.slice s.aF W.fs.length s.cF,.slice s.aT W.ts.length s.cT,.slice s.aS W.ss.length s.cS,.slice qL p.ts.length wu])):=ah (((HB3.o.trans (jh.o.mono HB3.o.size)).trans (ig.o.mono (by have h1:=HB3.o.size; have h2:=HBC.o; omega))).trans (bK su.o (by have:=Hu.o; omega) (by have h1:=HB3.o.size; have h2:=jh.o.size; have h3:=ig.o.size; omega)));have HKP:aj (∀k,w2.heap.size<=k->(World.setCells wr (bp + 1) 0 [.slice s.aC W.cs.length s.cC,.slice s.aL W.ls.length s.cL,.slice s.aN W.ns.length s.cN,.slice s.aF W.fs.length s.cF,.slice s.aT W.ts.length s.cT,.slice s.aS W.ss.length s.cS,.slice qL p.ts.length wu]).heap[k]? =wr.heap[k]?):=ah (fun k hk=>by
     have h1:=HS2.o;by_cases hlt:k < wr.heap.size
     ·exact su.o.block k hlt (by simp; omega)
     ·have e1:(World.setCells wr (bp + 1) 0 [.slice s.aC W.cs.length s.cC,.slice s.aL W.ls.length s.cL,.slice s.aN W.ns.length s.cN,.slice s.aF W.fs.length s.cF,.slice s.aT W.ts.length s.cT,.slice s.aS W.ss.length s.cS,.slice qL p.ts.length wu]).heap.size=wr.heap.size:=(by simp [World.setCells,World.setCell]);rw [Array.getElem?_eq_none (by omega),Array.getElem?_eq_none (by omega)])
    have HGK:aj (zf L.B1 (World.setCells wr (bp + 1) 0 [.slice s.aC W.cs.length s.cC,.slice s.aL W.ls.length s.cL,.slice s.aN W.ns.length s.cN,.slice s.aF W.fs.length s.cF,.slice s.aT W.ts.length s.cT,.slice s.aS W.ss.length s.cS,.slice qL p.ts.length wu]) (.slice qL xs.length wu) xs):=ah (HGT.o.next ⟨su.o.size,fun k h1 h2=>su.o.block k h2 (by have h3:=HL.o; have h4:=HW3.o; simp; omega)⟩);have HWK:aj (dR (World.setCells wr (bp + 1) 0 [.slice s.aC W.cs.length s.cC,.slice s.aL W.ls.length s.cL,.slice s.aN W.ns.length s.cN,.slice s.aF W.fs.length s.cF,.slice s.aT W.ts.length s.cT,.slice s.aS W.ss.length s.cS,.slice qL p.ts.length wu]) (World.setCells wr (bp + 1) 0 [.slice s.aC W.cs.length s.cC,.slice s.aL W.ls.length s.cL,.slice s.aN W.ns.length s.cN,.slice s.aF W.fs.length s.cF,.slice s.aT W.ts.length s.cT,.slice s.aS W.ss.length s.cS,.slice qL p.ts.length wu]).heap.size W s):=ah ((dR.keep HG.o.wo HNW.o HKP.o).mono (by have h1:=HG.o.b0; exact Nat.le_trans h1 su.o.size));generalize Uf:World.setCells wr _ _ _=wz at *;have o0:=ak (j:=0) sG.o rfl;have o1:=ak (j:=1) sG.o rfl;have o2:=ak (j:=2) sG.o rfl;have o3:=ak (j:=3) sG.o rfl;have o4:=ak (j:=4) sG.o rfl;have o5:=ak (j:=5) sG.o rfl;have o6:=ak (j:=6) sG.o rfl;clear Uf;obtain ⟨aoQ,cpQ,hvQ,-,ai4⟩:=QE HGK.o HN.o.2.1;injection hvQ with WM WO WQ;subst WM;have aF0:=ah ai4;clear ai4 WO WQ;have Yu:=aH2.o;subst Yu;exact bodyPost_ret (v:= .tuple #[.agg #[.slice s.aC (jr p).cs.length s.cC,.slice s.aL (jr p).ls.length s.cL,.slice s.aN (jr p).ns.length s.cN,.slice s.aF (jr p).fs.length s.cF,.slice s.aT (jr p).ts.length s.cT,.slice s.aS (jr p).ss.length s.cS,.slice qL p.ts.length wu],.int .i64 0,.int .i64 0]) (by simp [results,Tryz.results11,go_sem,o0,o1,o2,o3,o4,o5,o6]) rfl ⟨s,qL,wu,rfl,HWK.o,by rw [XQ.o]; exact aF0.o,XO.o,KC.o⟩
  | cons t R=>
    obtain ⟨⟨b1,off,eZ,dM,cK,aZ,hao,nM,x0,x1,x2,x3,hok,htx,hst,hcl⟩,hrest⟩:=hth;have DZ:=ah hao;subst hao;simp only [List.length_cons] at hlen;have hkl:k < p.ts.length:=by omega
    have gU:=ah hrest;have kY:=ah (And.intro hst (And.intro hok.2.2.2 htx));have Um:=HN.o.2.2.2 t List.mem_cons_self;have Tn:aj (t.cu.length<=4∧iK t.body=true∧t.body.Ev (Ol W)):=ah ⟨KA.o t Um,Ej.o t Um,by have h1:=qG.o t Um;have h2:=HFT.o.2 t Um;exact (h1.and h2)⟩;have zA:aj (nx + (mJ t.body + F8 R)<=100000000000∧nx + (mJ t.body + F8 R)<=F8 p.ts):=ah (by have h1:=HN.o.2.2.1; have h2:=HFT.o.1; simp only [F8] at h1; omega);clear hrest hok htx hst hcl Um;go_upto_region 9 with fail;obtain ⟨nb,hnb⟩: ∃n,wr.heap.size=n:=⟨_,rfl⟩;generalize DI:World.alloc wr _=w6;have rJ:aj (Below wr.heap.size wr w6):=ah (by rw [<- DI]; exact au _ _);have KO:aj (w6.heap[nb]? =some (.cells #[.string t.nm,.int .i64 t.line,.slice eZ t.cu.length dM,.slice cK t.body.len aZ] 71 (0,0))):=ah (by rw [<- DI,<- hnb]; exact heap_alloc_new _ _);have bF:aj (L.B1<=nb∧nb < w6.heap.size):=ah ⟨by rw [<- hnb]; exact HG.o.sz,(Array.getElem?_eq_some_iff.1 KO.o).1⟩;have XT:=ah (HG.o.below rJ.o);have aF4:=ah (HGT.o.next (bg rJ.o));have PX:=ah ((rJ.o.block bc (Array.getElem?_eq_some_iff.1 HX.o).1).trans HX.o);have ac8:aj (Below bc wr w6):=ah (rJ.o.mono (Nat.le_of_lt (Array.getElem?_eq_some_iff.1 HX.o).1));rw [hnb];clear DI hnb x0 x1 x2 x3;have x2:=ak (j:=2) KO.o rfl;have hg0:=XT.o.cells.1;have c6:=XT.o.cells.2.2.2.2.2.2.2.1;have f6:=XT.o.cells.2.2.2.2.2.2.2.2.2.2.2 6;have rP:aj (L.B0=bc∧bc + 1=L.gb∧L.B1=bc + 2):=HL;go_upto_region 10 with fail;generalize Qn:World.setCell w6 _ _=w7;have T9:aj (eH 68 w7 L W s t.cu eZ dM v code (nx:Nat) b):=ah (by rw [<- Qn]; exact XT.o.aN8 dM (by rw [rP.o.1]; exact kY.o.2.2.below ac8.o) (by have:=Tn.o.1; omega));have aF5:aj (zf L.B1 w7 vT xs):=ah (by rw [<- Qn]; exact aF4.o.next (gX _ _ _ L.b1));have BS:=ah ((show w7.heap[bc]? =w6.heap[bc]? by rw [<- Qn]; exact aY _ _ _ rfl (by show L.gb≠bc; have:=rP.o; omega)).trans PX.o);have aH6:=ah ((show w7.heap[nb]? =w6.heap[nb]? by rw [<- Qn]; exact aY _ _ _ rfl (by show L.gb≠nb; have:=rP.o; have:=bF.o; omega)).trans KO.o);have aG1:aj (Below bc wr w7):=ah (by rw [<- Qn]; exact ac8.o.trans (bK (bQ _ _ _) (by show bc<=L.gb; have:=rP.o; omega) (Nat.le_trans (Nat.le_of_lt (Array.getElem?_eq_some_iff.1 HX.o).1) rJ.o.size)));clear Qn c6 f6 hg0 x2;have hg0:=T9.o.cells.1;obtain ⟨ao7,CX,hv7,-,-⟩:=T9.o.form;have c7:=T9.o.cells.2.2.2.2.2.2.2.2.1;rw [hv7] at c7;have f7:=T9.o.cells.2.2.2.2.2.2.2.2.2.2.2 7;go_upto_region 11 with fail;generalize IV:World.setCell w7 _ _=w8;have HG8:aj (eH 68 w8 L W s t.cu eZ dM (.slice none 0 0) [] (nx:Nat) b):=ah (by rw [<- IV]; exact T9.o.aN9);have aF6:aj (zf L.B1 w8 vT xs):=ah (by rw [<- IV]; exact aF5.o.next (gX _ _ _ L.b1));have Yf:=ah ((show w8.heap[bc]? =w7.heap[bc]? by rw [<- IV]; exact aY _ _ _ rfl (by show L.gb≠bc; have:=rP.o; omega)).trans BS.o);have aH7:=ah ((show w8.heap[nb]? =w7.heap[nb]? by rw [<- IV]; exact aY _ _ _ rfl (by show L.gb≠nb; have:=rP.o; have:=bF.o; omega)).trans aH6.o);have ac9:aj (Below bc wr w8):=ah (by rw [<- IV]; exact aG1.o.trans (bK (bQ _ _ _) (by show bc<=L.gb; have:=rP.o; omega) (Nat.le_of_lt (Array.getElem?_eq_some_iff.1 BS.o).1)));clear IV c7 f7 hg0 hv7;have x3:=ak (j:=3) aH7.o rfl;go_wp2_with fail;refine (U9 t.body w8 L W s t.cu eZ dM (.slice none 0 0) [] b nx cK aZ HG8.o kY.o.2.1 (by rw [rP.o.1]; exact kY.o.1.below ac9.o) Tn.o.2.1 Tn.o.2.2 (by have:=zA.o.1; simp only [List.length_nil]; omega) (by have:=zA.o.1; omega)).mono ?_;rintro e w9 ⟨rfl,hem⟩;obtain ⟨v9,a9,b9,lF,hg9,hk9,ho9⟩:=hem;have lF:a9=((nx + dK t.body:Nat):Int):=lF;subst lF;rw [List.nil_append,List.length_nil] at hg9;have XU:=ah (pY W t.cu t.body nx 0);have MG:=ah (Jf (W:=W) (lc:=t.cu) (by have:=Tn.o.1; omega) t.body nx 0 Tn.o.2.2);have XP:aj (zM W p.ts 0=xs.map uQ.t++(⟨yE (iW W t.cu t.body nx 0++[⟨28,0,0,0,0,-1⟩]) t.cu.length,iW W t.cu t.body nx 0++[⟨28,0,0,0,0,-1⟩]⟩ ::zM W R (nx + dK t.body))):=ah HE.o;generalize iW W t.cu t.body nx 0=GC at *;have BJ:=ah hg9;have HK9:=ah hk9;have HO9:=ah ho9;clear hg9 hk9 ho9 x3;have c9:=BJ.o.cells.2.2.2.2.2.2.2.2.2.2.1;have f9:=BJ.o.cells.2.2.2.2.2.2.2.2.2.2.2 9;have hg0:=BJ.o.cells.1;go_upto_region 13 with fail;generalize hWA:World.setCell w9 _ _=wa;have rO:aj (eH 68 wa L W s t.cu eZ dM v9 GC ((nx + dK t.body:Nat):Int) (-1)):=ah (by rw [<- hWA]; exact BJ.o.jD (-1));have HKA:aj (Kg L (.slice none 0 0) w8 wa):=ah (by rw [<- hWA]; exact HK9.o.trans HO9.o (Kg.set _ _ _));clear hWA c9 f9 hg0;have hg0:=rO.o.cells.1;go_wp2_with fail;refine (eF rO.o ⟨28,0,0,0,0,0⟩ (by have h1:=XU.o; have h2:=zA.o.1; omega)).mono ?_;rintro e wb ⟨rfl,ve,hge,hke,hoe⟩;have Mq:aj (eH 68 wb L W s t.cu eZ dM ve (GC++[⟨28,0,0,0,0,-1⟩]) ((nx + dK t.body:Nat):Int) (-1)):=ah hge;have Kz:aj (Kg L (.slice none 0 0) w8 wb):=ah (HKA.o.trans HO9.o hke);clear hge hke hoe hg0;have mG:aj (jf (GC++[⟨28,0,0,0,0,-1⟩])):=ah (ZA MG.o);have qj:aj ((GC++[(⟨28,0,0,0,0,-1⟩:aQ)]).length<=1000000000000):=ah (by have h1:=XU.o; have h2:=zA.o.1; simp only [List.length_append,List.length_cons,List.length_nil]; omega);generalize GC++[⟨28,0,0,0,0,-1⟩]=GD at *;have HXb:=ah ((Kz.o.block bc (Array.getElem?_eq_some_iff.1 Yf.o).1 (by have:=rP.o; omega) (by simp [Value.ownBlock])).trans Yf.o);have ac1:=ah (aF6.o.next ⟨Kz.o.size,fun q h1 h2=>Kz.o.block q h2 (by have:=L.b1; omega) (by simp [Value.ownBlock])⟩);have aG2:aj (Below bc wr wb):=ah (ac9.o.trans ⟨Kz.o.os,Kz.o.tape,Kz.o.output,Kz.o.size,fun q hq=>Kz.o.block q (Nat.lt_trans hq (Array.getElem?_eq_some_iff.1 Yf.o).1) (by have:=rP.o; omega) (by simp [Value.ownBlock])⟩);obtain ⟨qL,wu,Uo⟩:=ac1.o.len;obtain ⟨Nf,Nu,hvE,-,-⟩:=Mq.o.form;have Ai:=ah Uo;have HVE:=ah hvE;have hxc:=ak (j:=6) HXb.o rfl;have hxe:=Mq.o.cells.2.2.2.2.2.2.2.2.1;simp only [List.getElem_toArray,List.getElem_cons_zero,List.getElem_cons_succ] at hxc;rw [Uo] at hxc;rw [hvE] at hxe;have Kw:=ah (And.intro (Array.getElem?_eq_some_iff.1 HXb.o).1 (And.intro hxc (And.intro Mq.o.cells.1 hxe)));clear Uo hvE hxc hxe;go_upto_region 14 with fail;have V0: ∀w',Below wb.heap.size wb w'->w'.cell? ⟨bc,6,none⟩=some (.slice qL xs.length wu):=fun w' hb=>(hb.cell (p:=⟨bc,6,none⟩) Kw.o.1).trans Kw.o.2.1;have V1: ∀w',Below wb.heap.size wb w'->w'.cell? ⟨L.gb,7,none⟩=some (.slice Nf GD.length Nu):=fun w' hb=>(hb.cell (p:=⟨L.gb,7,none⟩) Kw.o.2.2.1).trans Kw.o.2.2.2;refine gM (by kernel_rfl) rfl ?_;refine gq 0 10 [] [[],[0],[],[2],[],[4],[4,5],[4,5,6],[2,3,4,5,6,7],[2,3,4,5,6,7,8],[0,1,2,3,4,5,6,7,8,9],[0,1,2,3,4,5,6,7,8,9,10],[0,1,2,3,4,5,6,7,8,9,10,11]] [[],[],[],[],[],[],[],[],[],[]] (fun _ w'=>Below wb.heap.size wb w') (fun w w'=>Below w.heap.size w w') [53,54,55,56,57,58,59,60,61,62] rfl rfl (by rfl) (by kernel_rfl) (by kernel_rfl) (by kernel_rfl) (by kernel_rfl) (by kernel_rfl) (by rfl) (fun _=>Below.refl _ _) (by rfl) (below_drewN (Below.refl _ _) 1) ?_;simp only [qB,yC]
    iterate 3
     apply dQ.step
     case aP=>intro c A w' hok hC hO hD;have e7:=hO 7 (by rfl);have e8:=hO 8 (by rfl);simp [Act.eval] at e7 e8;simp [Act.eval] at hD;simp [go_sem,gd,Oper.wp,hD,e7,e8,V0,hC];exact aI.mk (Below.refl _ _) hC (bG.mk _ _)
     try simp only [gZ]
    refine dQ.some (fun v _=>v= .int .i64 (yE GD t.cu.length)) (fun _ _ _ _ h=>h) ?_ ?_
    ·intro c A w' hok hC hO hD;simp [Act.eval] at hD;simp [go_sem,gd,Oper.wp,hD];refine (Ub (Mq.o.below hC) mG.o).mono ?_;rintro e w5 ⟨rfl,hb⟩;exact aI.mk hb (hC.trans (hb.mono hC.size)) rfl
    try simp only [gZ]
    iterate 5
     apply dQ.step
     case aP=>intro c A w' hok hC hO hD;have e8:=hO 8 (by rfl);simp [Act.eval] at e8;simp [Act.eval] at hD;simp [go_sem,gd,Oper.wp,hD,e8,V1,hC];exact aI.mk (Below.refl _ _) hC (bG.mk _ _)
     try simp only [gZ]
    refine dQ.some (fun v w'=>BbQ (yE GD t.cu.length) Nf GD.length Nu v w') ?_ ?_ ?_
    ·rintro v wx wy hle ⟨bb,rfl,hbb⟩;exact ⟨bb,rfl,(hle.block bb (Array.getElem?_eq_some_iff.1 hbb).1).trans hbb⟩
    ·intro c A w' hok hC hO hD;simp [Act.eval] at hD;simp [go_sem,gd,Oper.wp,hD];exact aI.mk (d:=_) (v:= .slice (some ⟨_,0,none⟩) 1 1) (au _ _) (hC.trans ((au _ _).mono hC.size)) ⟨_,rfl,heap_alloc_new _ _⟩
    try simp only [gZ]
    try simp only [gZ]
    refine dQ.done ?_;intro wz gy
    try simp only [qB]
    iterate 9 refine Er ?_
    intro v9 h9;obtain ⟨bb,rfl,hbb⟩:=h9;refine yM ?_;go_simp;have Ac:=ah gy;have E5:=ah hbb;clear V0 V1 gy hbb;have Px:=ah (ac1.o.next (bg Ac.o));have Ea:=ah (Mq.o.below Ac.o);refine iB 10 [[],[0],[],[2],[],[4],[4,5],[4,5,6],[2,3,4,5,6,7],[2,3,4,5,6,7,8],[0,1,2,3,4,5,6,7,8,9],[0,1,2,3,4,5,6,7,8,9,10],[0,1,2,3,4,5,6,7,8,9,10,11]] rfl rfl rfl rfl rfl (by kernel_rfl) (by kernel_rfl) (by kernel_rfl) ?_;obtain ⟨i0,hi0,hz0,hz1,hz2⟩:=infoP am7;have hk0:xs.length<=4:=by have:=HN.o.1; omega
    refine wp_append_lies wz _ _ _ (by rfl) L.B1 62 i0 _ 2 32 Tryz.underlying31 hi0 hz0 hz1 hz2 (by rfl) (by omega) (.slice qL xs.length wu) xs.length (xs.flatMap QF) (by rfl) (by rw [<- Ai.o]; exact Px.o.own) ⟨bb,0,none⟩ 1 1 (QF ⟨yE GD t.cu.length,GD,Nf,Nu⟩) (by rfl) (by rfl) (iP E5.o) (aO0 _) (by decide) (by unfold maxLen; omega) (by omega) Ea.o.sz _ rfl ?_;intro g' cap' wd hown hgr hmv lJ;have aa9:aj (∀q,vT.ownBlock=some q->ve.ownBlock≠some q):=ah (Sq Px.o.own Ea.o.row (by decide));have Ee:aj (zf L.B1 wd (.slice (some ⟨g',0,none⟩) (xs.length + 1) cap') (xs++[⟨yE GD t.cu.length,GD,Nf,Nu⟩])):=ah (Px.o.push (x:=⟨yE GD t.cu.length,GD,Nf,Nu⟩) (by have:=Ea.o.row;rw [HVE.o] at this;exact ZR this (fun q hq e=>aa9.o q e (by rw [HVE.o]; exact hq))) rfl hown (by rw [Ai.o]; exact hgr) (by rw [Ai.o]; exact hmv));have HGD:aj (eH 68 wd L W s t.cu eZ dM ve GD ((nx + dK t.body:Nat):Int) (-1)):=ah (Ea.o.far hgr (fun q hq=>by have h1:=(Px.o.lt q (by rw [Ai.o]; exact hq)).1;exact ⟨by have:=L.b0; have:=L.b1; omega,by have:=L.b1; omega,aa9.o q (by rw [Ai.o]; exact hq)⟩));have Yg:aj (wd.heap[bc]? =some (.cells #[.slice s.aC W.cs.length s.cC,.slice s.aL W.ls.length s.cL,.slice s.aN W.ns.length s.cN,.slice s.aF W.fs.length s.cF,.slice s.aT W.ts.length s.cT,.slice s.aS W.ss.length s.cS,.slice qL xs.length wu] 33 (0,0))):=ah ((hgr.block bc (Nat.lt_of_lt_of_le Kw.o.1 Ac.o.size) (fun e=>by have h1:=(Px.o.lt bc (by rw [Ai.o]; exact e.symm)).1;have:=rP.o; omega)).trans ((Ac.o.block bc Kw.o.1).trans (by rw [HXb.o,Ai.o])));have aG3:aj (Below bc wr wd):=ah ((aG2.o.trans (Ac.o.mono (Nat.le_of_lt Kw.o.1))).trans ⟨hgr.os,hgr.tape,hgr.output,hgr.size,fun q hq=>hgr.block q (by have:=Kw.o.1; have:=Ac.o.size; omega) (fun e=>by have h1:=(Px.o.lt q (by rw [Ai.o]; exact e.symm)).1;have:=rP.o; omega)⟩);clear hown hgr hmv lJ hi0 hz0 hz1 hz2 hk0;have cj:=ak (j:=6) Yg.o rfl;simp only [List.getElem_toArray,List.getElem_cons_zero,List.getElem_cons_succ] at cj;have fj:=aU (o:=6) Yg.o;have ai6:=(Array.getElem?_eq_some_iff.1 Yg.o).1;go_simp;refine iB 11 [[],[0],[],[2],[],[4],[4,5],[4,5,6],[2,3,4,5,6,7],[2,3,4,5,6,7,8],[0,1,2,3,4,5,6,7,8,9],[0,1,2,3,4,5,6,7,8,9,10],[0,1,2,3,4,5,6,7,8,9,10,11]] rfl rfl rfl rfl rfl (by kernel_rfl) (by kernel_rfl) (by kernel_rfl) ?_;simp [go_sem,Oper.wp];refine iB 12 [[],[0],[],[2],[],[4],[4,5],[4,5,6],[2,3,4,5,6,7],[2,3,4,5,6,7,8],[0,1,2,3,4,5,6,7,8,9],[0,1,2,3,4,5,6,7,8,9,10],[0,1,2,3,4,5,6,7,8,9,10,11]] rfl rfl rfl rfl rfl (by kernel_rfl) (by kernel_rfl) (by kernel_rfl) ?_;simp [go_sem,Oper.wp,cj,fj];refine iU rfl ?_;go_simp;generalize hWf:World.setCell wd _ _=wf;have HGf:aj (eH 68 wf L W s t.cu eZ dM ve GD ((nx + dK t.body:Nat):Int) (-1)):=ah (by rw [<- hWf];exact HGD.o.far (bQ _ _ _) (fun q hq=>by injection hq with hq;have hq:bc=q:=hq;subst hq;refine ⟨by have:=rP.o; omega,by have:=rP.o; omega,fun e=> ?_⟩;have:=(HGD.o.own bc e).1;have:=rP.o; omega));have HPf:aj (zf L.B1 wf (.slice (some ⟨g',0,none⟩) (xs.length + 1) cap') (xs++[⟨yE GD t.cu.length,GD,Nf,Nu⟩])):=ah (by rw [<- hWf]; exact Ee.o.next (gX _ _ _ (by show bc < L.B1; have:=rP.o; omega)));have HXf:aj (wf.heap[bc]? =some (.cells #[.slice s.aC W.cs.length s.cC,.slice s.aL W.ls.length s.cL,.slice s.aN W.ns.length s.cN,.slice s.aF W.fs.length s.cF,.slice s.aT W.ts.length s.cT,.slice s.aS W.ss.length s.cS,.slice (some ⟨g',0,none⟩) (xs.length + 1) cap'] 33 (0,0))):=ah (by rw [<- hWf]; exact om Yg.o _ rfl);have ad1:aj (Below bc wr wf):=ah (by rw [<- hWf]; exact aG3.o.trans (bK (bQ _ _ _) (Nat.le_refl _) (Nat.le_of_lt ai6)));clear hWf cj fj ai6;go_wp2_with fail;go_roundw
    case rel=>
     refine ⟨k + 1,R,xs++[⟨yE GD t.cu.length,GD,Nf,Nu⟩],_,nx + dK t.body,GD,ve,-1,t.cu,eZ,dM,by go_num,by omega,?_,by rw [List.length_append,HN.o.1]; rfl,?_,HGf.o,HPf.o,HXf.o,gU.o.below ad1.o,ig.o.trans ad1.o,?_,fun x hx=>HN.o.2.2.2 x (List.mem_cons_of_mem _ hx)⟩
     ·rw [XP.o]; simp [uQ.t]
     ·intro x hx;rcases List.mem_append.1 hx with hx | hx
      ·exact HN.o.2.1 x hx
      ·rw [List.mem_singleton.1 hx]; exact qj.o
     ·have h1:=zA.o.2; have h2:=uT t.body; omega
    case measure=>simp [intOf]; omega
end Go.Proofs.YtgjmahnblcajbaaGreatDoor
