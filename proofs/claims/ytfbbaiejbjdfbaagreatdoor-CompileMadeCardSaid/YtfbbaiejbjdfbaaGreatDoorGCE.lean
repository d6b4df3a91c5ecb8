/- Contracts of registers (the program's and the reference's) and of the generator's regs. And what hangs on it. -/
import Derived.Test.YtfbbaiejbjdfbaaGreatDoorGCA
import Derived.Test.YtfbbaiejbjdfbaaGreatDoorGME
import Derived.IntWalk
import Derived.Test.YtfbbaiejbjdfbaaGreatDoorGCB
import Derived.Test.YtfbbaiejbjdfbaaGreatDoorGPI
import Derived.Test.YtfbbaiejbjdfbaaGreatDoorGCC
import Derived.Test.YtfbbaiejbjdfbaaGreatDoorGCD
import Derived.Test.YtfbbaiejbjdfbaaGreatDoorGPA
set_option linter.unusedSimpArgs false
set_option linter.unusedVariables false
set_option maxHeartbeats 40000000
set_option maxRecDepth 1000000
namespace Go.Proofs.YtfbbaiejbjdfbaaGreatDoor
open Go.RowKit
open Md
theorem QW {W:World} {g:Nat} {t:TypeId} {fr:Nat × Nat} {cs:Array Value} (h:W.heap[g]? =some (.cells cs t fr)): ∀(l:List Int) (k:Nat),(∀j (n:Int),l[j]? =some n->cs[k + j]? =some (.int .i64 n))->(∀n ∈ l,bS n)->fM W W.heap.size l (some ⟨g,0,none⟩) k
 | [],_,_,_=>trivial
 | n ::r,k,hc,hi=>⟨⟨g,0,rfl,(Array.getElem?_eq_some_iff.1 h).1,by rw [Nat.zero_add]; exact au h (hc 0 n rfl)⟩,QW h r (k + 1) (fun j m hm=>by have:=hc (j + 1) m (by simpa using hm);rw [show k + 1 + j=k + (j + 1) by omega]; exact this) (fun m hm=>hi m (List.mem_cons_of_mem _ hm))⟩
def RgP (x:aX) (w:World) (e:Ending) (w':World):Prop:= ∃ao cap,e= .returned (.slice ao (dI x).length cap)∧fM w' w'.heap.size (dI x) ao 0∧Below w.heap.size w w'∧ ∀q,ao=some q->w.heap.size<=q.block
theorem lT {x:aX} {w:World} {l:List Int} {cs:Array Value} {o:Obj} {t:TypeId} {n:Nat} (hr:dI x=l) (hc:cs=(l.map (fun n=>Value.int .i64 n)).toArray) (hn:n=l.length) (hi: ∀n ∈ l,bS n):RgP x w (.returned (.slice (some ⟨w.heap.size + 1,0,none⟩) n n)) ((w.alloc o).alloc (.cells cs t)):=by
 subst hc hn;rw [<- hr] at *;refine ⟨_,_,rfl,?_,(ak _ _).alloc (by simp) _,fun q e=>by injection e with e; subst e; exact Nat.le_succ _⟩;have hg:=heap_alloc_new (w.alloc o) (.cells ((dI x).map (fun n=>Value.int .i64 n)).toArray t);have e:(w.alloc o).heap.size=w.heap.size + 1:=by simp
 rw [e] at hg;refine QW hg (dI x) 0 (fun j n hn=> ?_) hi;simp [hn]
theorem Gt (x:aX) (w:World) (hi: ∀r ∈ dI x,bS r):Calls Tryz.prog 42 #[Jm x] w (RgP x w):=by
 have hcs:x.op=1∨x.op=6∨x.op=10∨x.op=27∨x.op=2∨x.op=3∨x.op=4∨x.op=7∨x.op=8∨x.op=26∨x.op=9∨(x.op≠1∧x.op≠6∧x.op≠10∧x.op≠27∧x.op≠2∧x.op≠3∧x.op≠4∧x.op≠7∧x.op≠8∧x.op≠26∧x.op≠9):=by omega
 unfold Jm;rcases hcs with hop | hop | hop | hop | hop | hop | hop | hop | hop | hop | hop | hop
 ·obtain ⟨op,a,b,c,n,st⟩:=x;obtain rfl:op=1:=hop;go_enter Tryz.func42,Tryz.ntmps42;go_wp2
  all_goals (go_ret; exact lT (l:=[a]) rfl rfl rfl (by have:=hi; simp only [dI] at this; simpa using this))
 ·obtain ⟨op,a,b,c,n,st⟩:=x;obtain rfl:op=6:=hop;go_enter Tryz.func42,Tryz.ntmps42;go_wp2
  all_goals (go_ret; exact lT (l:=[a]) rfl rfl rfl (by have:=hi; simp only [dI] at this; simpa using this))
 ·obtain ⟨op,a,b,c,n,st⟩:=x;obtain rfl:op=10:=hop;go_enter Tryz.func42,Tryz.ntmps42;go_wp2
  all_goals (go_ret; exact lT (l:=[a]) rfl rfl rfl (by have:=hi; simp only [dI] at this; simpa using this))
 ·obtain ⟨op,a,b,c,n,st⟩:=x;obtain rfl:op=27:=hop;go_enter Tryz.func42,Tryz.ntmps42;go_wp2
  all_goals (go_ret; exact lT (l:=[a]) rfl rfl rfl (by have:=hi; simp only [dI] at this; simpa using this))
 ·obtain ⟨op,a,b,c,n,st⟩:=x;obtain rfl:op=2:=hop;go_enter Tryz.func42,Tryz.ntmps42;go_wp2
  all_goals (go_ret; exact lT (l:=[a,b]) rfl rfl rfl (by have:=hi; simp only [dI] at this; simpa using this))
 ·obtain ⟨op,a,b,c,n,st⟩:=x;obtain rfl:op=3:=hop;go_enter Tryz.func42,Tryz.ntmps42;go_wp2
  all_goals (go_ret; exact lT (l:=[a,b]) rfl rfl rfl (by have:=hi; simp only [dI] at this; simpa using this))
 ·obtain ⟨op,a,b,c,n,st⟩:=x;obtain rfl:op=4:=hop;go_enter Tryz.func42,Tryz.ntmps42;go_wp2
  all_goals (go_ret; exact lT (l:=[a,b,c]) rfl rfl rfl (by have:=hi; simp only [dI] at this; simpa using this))
 ·obtain ⟨op,a,b,c,n,st⟩:=x;obtain rfl:op=7:=hop;go_enter Tryz.func42,Tryz.ntmps42;go_wp2
  all_goals (go_ret; exact lT (l:=[a,c]) rfl rfl rfl (by have:=hi; simp only [dI] at this; simpa using this))
 ·obtain ⟨op,a,b,c,n,st⟩:=x;obtain rfl:op=8:=hop;go_enter Tryz.func42,Tryz.ntmps42;go_wp2
  all_goals (go_ret; exact lT (l:=[b]) rfl rfl rfl (by have:=hi; simp only [dI] at this; simpa using this))
 ·obtain ⟨op,a,b,c,n,st⟩:=x;obtain rfl:op=26:=hop;go_enter Tryz.func42,Tryz.ntmps42;go_wp2
  all_goals (go_ret; exact lT (l:=[b]) rfl rfl rfl (by have:=hi; simp only [dI] at this; simpa using this))
 ·obtain ⟨op,a,b,c,n,st⟩:=x;obtain rfl:op=9:=hop;go_enter Tryz.func42,Tryz.ntmps42;go_wp2
  all_goals (go_ret; exact lT (l:=[b,c]) rfl rfl rfl (by have:=hi; simp only [dI] at this; simpa using this))
 ·obtain ⟨op,a,b,c,n,st⟩:=x;obtain ⟨n1,n2,n3,n4,n5,n6,n7,n8,n9,n10,n11⟩:=hop;simp only at n1 n2 n3 n4 n5 n6 n7 n8 n9 n10 n11;have hr:dI ⟨op,a,b,c,n,st⟩=[]:=by unfold dI; simp [n1,n2,n3,n4,n5,n6,n7,n8,n9,n10,n11]
  have HR:=ah hr;have k1:(op == 1)=false:=by simpa using n1
  have k2:(op == 6)=false:=by simpa using n2
  have k3:(op == 10)=false:=by simpa using n3
  have k4:(op == 27)=false:=by simpa using n4
  have k5:(op == 2)=false:=by simpa using n5
  have k6:(op == 3)=false:=by simpa using n6
  have k7:(op == 4)=false:=by simpa using n7
  have k8:(op == 7)=false:=by simpa using n8
  have k9:(op == 8)=false:=by simpa using n9
  have k10:(op == 26)=false:=by simpa using n10
  have k11:(op == 9)=false:=by simpa using n11
  clear n1 n2 n3 n4 n5 n6 n7 n8 n9 n10 n11 hr hi;go_enter Tryz.func42,Tryz.ntmps42;go_wp2
  all_goals (go_ret; exact ⟨none,0,by rw [HR.o]; rfl,by rw [HR.o]; trivial,ak _ _,fun q e=>by cases e⟩)
theorem Ye (x:aX) (w:World) (hi: ∀r ∈ dI x,bS r):Calls Tryz.prog 25 #[Jm x] w (RgP x w):=by
 have hcs:x.op=1∨x.op=6∨x.op=10∨x.op=27∨x.op=2∨x.op=3∨x.op=4∨x.op=7∨x.op=8∨x.op=26∨x.op=9∨(x.op≠1∧x.op≠6∧x.op≠10∧x.op≠27∧x.op≠2∧x.op≠3∧x.op≠4∧x.op≠7∧x.op≠8∧x.op≠26∧x.op≠9):=by omega
 unfold Jm;rcases hcs with hop | hop | hop | hop | hop | hop | hop | hop | hop | hop | hop | hop
 ·obtain ⟨op,a,b,c,n,st⟩:=x;obtain rfl:op=1:=hop;go_enter Tryz.func25,Tryz.ntmps25;go_wp2
  all_goals (go_ret; exact lT (l:=[a]) rfl rfl rfl (by have:=hi; simp only [dI] at this; simpa using this))
 ·obtain ⟨op,a,b,c,n,st⟩:=x;obtain rfl:op=6:=hop;go_enter Tryz.func25,Tryz.ntmps25;go_wp2
  all_goals (go_ret; exact lT (l:=[a]) rfl rfl rfl (by have:=hi; simp only [dI] at this; simpa using this))
 ·obtain ⟨op,a,b,c,n,st⟩:=x;obtain rfl:op=10:=hop;go_enter Tryz.func25,Tryz.ntmps25;go_wp2
  all_goals (go_ret; exact lT (l:=[a]) rfl rfl rfl (by have:=hi; simp only [dI] at this; simpa using this))
 ·obtain ⟨op,a,b,c,n,st⟩:=x;obtain rfl:op=27:=hop;go_enter Tryz.func25,Tryz.ntmps25;go_wp2
  all_goals (go_ret; exact lT (l:=[a]) rfl rfl rfl (by have:=hi; simp only [dI] at this; simpa using this))
 ·obtain ⟨op,a,b,c,n,st⟩:=x;obtain rfl:op=2:=hop;go_enter Tryz.func25,Tryz.ntmps25;go_wp2
  all_goals (go_ret; exact lT (l:=[a,b]) rfl rfl rfl (by have:=hi; simp only [dI] at this; simpa using this))
 ·obtain ⟨op,a,b,c,n,st⟩:=x;obtain rfl:op=3:=hop;go_enter Tryz.func25,Tryz.ntmps25;go_wp2
  all_goals (go_ret; exact lT (l:=[a,b]) rfl rfl rfl (by have:=hi; simp only [dI] at this; simpa using this))
 ·obtain ⟨op,a,b,c,n,st⟩:=x;obtain rfl:op=4:=hop;go_enter Tryz.func25,Tryz.ntmps25;go_wp2
  all_goals (go_ret; exact lT (l:=[a,b,c]) rfl rfl rfl (by have:=hi; simp only [dI] at this; simpa using this))
 ·obtain ⟨op,a,b,c,n,st⟩:=x;obtain rfl:op=7:=hop;go_enter Tryz.func25,Tryz.ntmps25;go_wp2
  all_goals (go_ret; exact lT (l:=[a,c]) rfl rfl rfl (by have:=hi; simp only [dI] at this; simpa using this))
 ·obtain ⟨op,a,b,c,n,st⟩:=x;obtain rfl:op=8:=hop;go_enter Tryz.func25,Tryz.ntmps25;go_wp2
  all_goals (go_ret; exact lT (l:=[b]) rfl rfl rfl (by have:=hi; simp only [dI] at this; simpa using this))
 ·obtain ⟨op,a,b,c,n,st⟩:=x;obtain rfl:op=26:=hop;go_enter Tryz.func25,Tryz.ntmps25;go_wp2
  all_goals (go_ret; exact lT (l:=[b]) rfl rfl rfl (by have:=hi; simp only [dI] at this; simpa using this))
 ·obtain ⟨op,a,b,c,n,st⟩:=x;obtain rfl:op=9:=hop;go_enter Tryz.func25,Tryz.ntmps25;go_wp2
  all_goals (go_ret; exact lT (l:=[b,c]) rfl rfl rfl (by have:=hi; simp only [dI] at this; simpa using this))
 ·obtain ⟨op,a,b,c,n,st⟩:=x;obtain ⟨n1,n2,n3,n4,n5,n6,n7,n8,n9,n10,n11⟩:=hop;simp only at n1 n2 n3 n4 n5 n6 n7 n8 n9 n10 n11;have hr:dI ⟨op,a,b,c,n,st⟩=[]:=by unfold dI; simp [n1,n2,n3,n4,n5,n6,n7,n8,n9,n10,n11]
  have HR:=ah hr;have k1:(op == 1)=false:=by simpa using n1
  have k2:(op == 6)=false:=by simpa using n2
  have k3:(op == 10)=false:=by simpa using n3
  have k4:(op == 27)=false:=by simpa using n4
  have k5:(op == 2)=false:=by simpa using n5
  have k6:(op == 3)=false:=by simpa using n6
  have k7:(op == 4)=false:=by simpa using n7
  have k8:(op == 7)=false:=by simpa using n8
  have k9:(op == 8)=false:=by simpa using n9
  have k10:(op == 26)=false:=by simpa using n10
  have k11:(op == 9)=false:=by simpa using n11
  clear n1 n2 n3 n4 n5 n6 n7 n8 n9 n10 n11 hr hi;go_enter Tryz.func25,Tryz.ntmps25;go_wp2
  all_goals (go_ret; exact ⟨none,0,by rw [HR.o]; rfl,by rw [HR.o]; trivial,ak _ _,fun q e=>by cases e⟩)
def kU (l:List aX):Prop:= ∀i ∈ l,∀r ∈ dI i,-1000000000<=r∧r<=1000000000
theorem Xd {T:TypeId} {w:World} {L:GL} {W:Wo} {s:jM} {lc:List ByteArray} {al:Option Addr} {cl:Nat} {v:Value} {code:List aX} {a b:Int} (hI:gq T w L W s lc al cl v code a b) (hb:kU code):
 Calls Tryz.prog 21 #[.pointer (some ⟨L.gb,0,none⟩)] w fun e w'=>e= .returned (.int .i64 (qI code lc.length))∧Below w.heap.size w w':=by
 obtain ⟨aJ,-,-,-,-,-,-,q6,q7,-,-,-⟩:=hI.cells;obtain ⟨ao,cap,rfl,hcap,hcm,hfl⟩:=eX Ai hI.row;have HF:=ah hfl;have HB:=ah hb;unfold maxLen at hcm;generalize hres:qI code lc.length=res;have HR:=ah hres;clear hI hb hfl hres;go_enter Tryz.func21,Tryz.ntmps21;go_wp2_with fail;go_loopw [3,5,7,18,23,24,25] (fun n _ _ i _ _ _ wr=> ∃(k:Nat) (R:List aX) (m:Int),i= .int .i64 k∧n= .int .i64 m∧k + R.length=code.length∧res=qI R m∧kU R∧dK jE 6 wr wr.heap.size R ao k∧Below w.heap.size w wr) (fun _ _ _ i _ _ _ _=>code.length - (intOf i).toNat)
 case atStart=>exact ⟨0,code,lc.length,rfl,rfl,by simp,HR.o.symm,HB.o,HF.o,Below.refl _ _⟩
 case round=>
  obtain ⟨k,R,m,rfl,rfl,hlen,heq,hrb,hrow,hbel⟩:=hrel;have HE:=ah heq;have pK:=ah hbel;clear heq hbel HF;cases R with
  | nil=>
    obtain rfl:k=code.length:=by simpa using hlen
    go_wp2_with fail;go_ret;exact ⟨bF HE.o.symm,pK.o⟩
  | cons x R=>
    obtain ⟨⟨b1,off,rfl,hb1,hcs⟩,hrest⟩:=hrow;simp only [List.length_cons] at hlen;have hkl:k < code.length:=by omega
    have x0:=hcs 0 _ rfl;have x1:=hcs 1 _ rfl;have x2:=hcs 2 _ rfl;have x3:=hcs 3 _ rfl;have x4:=hcs 4 _ rfl;have x5:=hcs 5 _ rfl;simp only [Nat.add_zero] at x0;have ko:=ah hrest;have Ea:=ah (And.intro (hrb x List.mem_cons_self) (show kU R from fun i hi=>hrb i (List.mem_cons_of_mem _ hi)));clear hcs hrest hrb;go_upto_region 5 with fail;generalize hW:World.alloc wr _=w2;obtain ⟨nb,hnb⟩: ∃n,wr.heap.size=n:=⟨_,rfl⟩;have HB2:aj (Below wr.heap.size wr w2):=ah (by rw [<- hW]; exact ak _ _);have HX:aj (w2.heap[nb]? =some (.cells (jE x).toArray 52 (0,0))):=ah (by rw [<- hW,<- hnb]; exact heap_alloc_new _ _);rw [hnb];clear hW hnb x0 x1 x2 x3 x4 x5;have x0:=au (j:=0) HX.o rfl;have x1:=au (j:=1) HX.o rfl;have x2:=au (j:=2) HX.o rfl;have x3:=au (j:=3) HX.o rfl;have x4:=au (j:=4) HX.o rfl;have x5:=au (j:=5) HX.o rfl;go_wp2_with fail;refine (Gt x w2 (fun r hr=>by have:=Ea.o.1 r hr; unfold bS; omega)).mono ?_;rintro e w3 ⟨Qb,Gm,rfl,hin,hb3,-⟩;have fu:=ah hin;have HB3:=ah (pK.o.trans ((HB2.o.trans (hb3.mono HB2.o.size)).mono pK.o.size));have HR3:=ah ((ko.o.same HB2.o).same hb3);have Pd:aj ((dI x).length<=3):=ah (by unfold dI; (repeat' split) <;> simp);clear hin hb3 x0 x1 x2 x3 x4 x5;have HE2:aj (res=qI R (Dv (dI x) m)):=ah HE.o;have E9:=ah Ea.o.1;generalize dI x=rs at *;go_wp2_with fail;go_loopw [3,7,25] (fun n _ i wq=> ∃(j:Nat) (S:List Int) (m2:Int),i= .int .i64 j∧n= .int .i64 m2∧j + S.length=rs.length∧res=qI R (Dv S m2)∧(∀r ∈ S,-1000000000<=r∧r<=1000000000)∧fM wq wq.heap.size S Qb j∧wq=w3) (fun _ _ i _=>rs.length - (intOf i).toNat)
    case atStart=>exact ⟨0,rs,m,rfl,rfl,by simp,HE2.o,E9.o,fu.o,rfl⟩
    case round=>
     obtain ⟨j,S,m2,rfl,rfl,uo,heq2,ZE,hin2,rfl⟩:=hrel;have HQ:=ah heq2;have h3:=Pd.o;clear heq2;cases S with
     | nil=>
       obtain rfl:j=rs.length:=(by simpa using uo);have yZ:aj (res=qI R m2):=HQ;go_wp2_with fail;go_roundw
       case rel=>exact ⟨k + 1,R,m2,by go_num,rfl,by omega,yZ.o,Ea.o.2,HR3.o,HB3.o⟩
       case measure=>simp [intOf]; omega
     | cons r S=>
       obtain ⟨⟨b4,Rk,rfl,hb4,y0⟩,vU⟩:=hin2;simp only [List.length_cons] at uo;have hjl:j < rs.length:=(by omega);have hr:=ZE r List.mem_cons_self;have hwr:IntKind.i64.wrap (r + 1)=r + 1:=IntWalk.i64_in _ (by omega);have HR4:=ah vU;have HRB:=ah (fun q hq=>ZE q (List.mem_cons_of_mem _ hq));clear vU ZE;go_wp2_with fail;go_roundw
       case rel=>exact ⟨j + 1,S,max m2 (r + 1),by go_num,by first | rfl | simp [hwr],by omega,HQ.o,HRB.o,HR4.o,trivial⟩
       case measure=>simp [intOf]; omega
theorem kU.app {a b:List aX} (ha:kU a) (hb:kU b):kU (a++b):=fun i hi=>by
 rcases List.mem_append.1 hi with h | h
 ·exact ha i h
 ·exact hb i h
theorem kU.one {i:aX} (h: ∀r ∈ dI i,-1000000000<=r∧r<=1000000000):kU [i]:=fun j hj=>by
 rw [List.mem_singleton.1 hj]; exact h
theorem kU.nil:kU []:=fun i hi=>by cases hi
theorem QZ {lc:List ByteArray} (h:lc.length<=1000) (nm:ByteArray): -1<=dV lc nm∧dV lc nm<=1000:=by
 have:=N8 lc nm; omega
theorem Ro {W:Wo} {lc:List ByteArray} (hlc:lc.length<=1000) (st:Int): ∀(l:aZ) (d:Int),0<=d->d + dh l<=100000->kU (zA W lc st l d)
 | .nil,_,_,_=>kU.nil
 | .cons op n nm kids rest,d,h0,h1=>by
   rw [dh] at h1;have hk:=Ro hlc (W:=W) st kids d h0 (by omega);have hr:=Ro hlc (W:=W) st rest (d + 1) (by omega) (by omega);have hix:=QZ hlc nm;rw [zA];refine kU.app ?_ hr;split
   ·refine kU.one ?_;unfold wQ;split
    ·intro r hr; simp [dI] at hr; omega
    ·split
     ·intro r hr; simp [dI] at hr; omega
     ·intro r hr; simp [dI] at hr; omega
   ·refine kU.app hk (kU.one ?_);unfold EC;split
    ·intro r hr; simp [dI] at hr; omega
    ·split
     ·intro r hr; simp [dI] at hr; omega
     ·intro r hr; simp [dI] at hr; omega
theorem IC {W:Wo} {lc:List ByteArray} (hlc:lc.length<=1000) (st op n:Int) (nm:ByteArray) (kids:aZ) (d:Int) (h0:0<=d) (h1:d + 1 + dh kids<=100000):kU (jO W lc st op n nm kids d):=by
 have:=Ro hlc (W:=W) st (.cons op n nm kids .nil) d h0 (by simp only [dh]; omega);rw [Fp,zA,List.append_nil] at this;exact this
theorem ak9 {W:Wo} {lc:List ByteArray} (hlc:lc.length<=1000) (st:Int) {h:dL} (hw:fG h<=1000):kU (oI W lc st h):=by
 have hix:=QZ hlc h.nm;have hw':=hw;unfold fG at hw';have hx:=IC (W:=W) hlc st h.bY h.xn h.bW h.aI lc.length (by omega) (by omega);have hx1:=IC (W:=W) hlc st h.bY h.xn h.bW h.aI (lc.length + 1) (by omega) (by omega);unfold oI;split
 ·unfold zN;split
  ·refine kU.app hx (kU.one ?_);split
   ·intro r hr; simp [dI] at hr; omega
   ·intro r hr; simp [dI] at hr; omega
  ·rename_i op n nm kids r hi;have hk:dh h.idx=1 + dh kids + dh r:=by rw [hi,dh]
   refine kU.app (kU.app (IC hlc st op n nm kids lc.length (by omega) (by omega)) hx1) (kU.one ?_);intro r hr; simp [dI] at hr; omega
 ·repeat' split
  all_goals first
   | exact kU.nil
   | exact kU.app hx (kU.one (by intro r hr; simp [dI] at hr; omega))
   | exact kU.one (by intro r hr; simp [dI] at hr; try omega)
theorem aH6 {W:Wo} {lc:List ByteArray} (hlc:lc.length<=1000) (st:Int) {h:dL} (hw:fG h<=1000) {B E:List aX} (hB:kU B) (hE:kU E) (ne:Bool) (pos:Nat):kU (yL W lc st h (gy W lc st h lc.length) B E ne pos):=by
 have hw':=hw;unfold fG at hw';have hx:kU (gy W lc st h lc.length):=IC (W:=W) hlc st h.bY h.xn h.bW h.aI lc.length (by omega) (by omega);have br: ∀x:Int,kU [⟨10,lc.length,x,0,0,st⟩]:=fun x=>kU.one (by intro r hr; simp [dI] at hr; omega);have jm: ∀x:Int,kU [⟨5,x,0,0,0,st⟩]:=fun x=>kU.one (by intro r hr; simp [dI] at hr);unfold yL;split
 ·split
  ·exact (hx.app (br _)).app hB
  ·exact (((hx.app (br _)).app hB).app (jm _)).app hE
 ·split
  ·exact ((hx.app (br _)).app hB).app (jm _)
  ·split
   ·rename_i h48;rw [Bool.and_eq_true,decide_eq_true_eq,decide_eq_true_eq] at h48;have hb:rD h.op=11∨rD h.op=13∨rD h.op=15∨rD h.op=17∨rD h.op=19:=by
     unfold rD
     repeat' split
     all_goals simp
    refine ((kU.one ?_).app hB).app (kU.one ?_)
    ·intro r hr;rcases hb with e | e | e | e | e <;> rw [e] at hr <;> simp [dI] at hr
    ·intro r hr;rcases hb with e | e | e | e | e <;> rw [e] at hr <;> simp [dI] at hr
   ·exact ak9 hlc st hw
theorem Ht {W:Wo} {lc:List ByteArray} (hlc:lc.length<=1000): ∀(l:aH) (nx pos:Nat),l.Ev (Js W)->kU (gU W lc l nx pos)
 | .nil,_,_,_=>kU.nil
 | .cons h b e r,nx,pos,hev=>by obtain ⟨h1,h2,h3,h4⟩:=hev;rw [gU];exact (aH6 hlc _ h1.2 (Ht hlc b _ _ h2) (Ht hlc e _ _ h3) _ _).app (Ht hlc r _ _ h4)
theorem Ue {a:List aX} (h:kU a):kU (a++[⟨28,0,0,0,0,-1⟩]):=h.app (kU.one (by intro r hr; simp [dI] at hr))
theorem Ou {ds:List De} {ts:List Th} : ∀ {l:List Th},(Bh ds ts l).1=0-> ∀t ∈ l,t.bM.length<=4
 | [],_=>fun t ht=>by cases ht
 | t ::r,h=>by
   rw [Bh] at h;split at h
   ·exact absurd (show (2:Int)=0 from h) (by decide)
   ·rename_i h4;split at h
    ·exact absurd (show (4:Int)=0 from h) (by decide)
    ·intro x hx;rcases List.mem_cons.1 hx with rfl | hx
     ·simp at h4; omega
     ·exact Ou h x hx
theorem Ov {p:Pr} (h:(lW p).1=0): ∀t ∈ p.ts,t.bM.length<=4:=by
 unfold lW at h;split at h
 ·exact absurd (show (4:Int)=0 from h) (by decide)
 ·exact Ou h
namespace Md
structure sW where
 regs:Int
 is:List aX
 ao:Option Addr
 cap:Nat
def sW.t (x:sW):xg:=⟨x.regs,x.is⟩
def Ju (x:sW):List Value:=[.int .i64 x.regs,.slice x.ao x.is.length x.cap]
def sW.I (x:sW) (w:World):Prop:=dK jE 6 w w.heap.size x.is x.ao 0
def lu (w:World) (B:Nat):List xg->Option Addr->Nat->Prop
 | [],_,_=>True
 | t ::r,ao,k=>(∃b off dU dG,ao=some ⟨b,off,none⟩∧b < B∧w.cell? ⟨b,off + k * 2,none⟩=some (.int .i64 t.regs)∧w.cell? ⟨b,off + k * 2 + 1,none⟩=some (.slice dU t.is.length dG)∧t.is.length<=1000000000000∧dK jE 6 w B t.is dU 0)∧lu w B r ao (k + 1)
def zF:List Th->Nat
 | []=>0
 | t ::r=>kJ t.body + zF r
def Fit (p:Pr):Prop:=zF p.ts<=100000000000∧ ∀t ∈ p.ts,t.body.Ev (fun h=>fG h<=1000)
theorem Ep: ∀l:List Th,yt l<=zF l
 | []=>Nat.le_refl _
 | t ::r=>by have:=tq t.body; have:=Ep r; rw [yt,zF]; omega
end Md
theorem al5: ∀x:sW,(Ju x).length=2:=fun _=>rfl
theorem aI0 (x:sW): ∀u ∈ Ju x,u.oneCell'=true:=by intro u hu; simp [Ju] at hu; rcases hu with rfl | rfl <;> rfl
theorem XB:(Tryz.prog.info? 50).map (fun i=>(i.zero,i.size,i.bytes))=some (some (.agg #[.int .i64 0,.slice none 0 0]),2,32):=by kernel_rfl
abbrev vE (B:Nat) (w:World) (v:Value) (l:List sW):Prop:=Grow Ju 2 sW.I 50 B w v l
theorem M6 {w:World} {B B' m m' n n':Nat} {e e':TypeId} {v v':Value} {xs xs':List Value} (h:w.ownsRow B e m v n xs) (h':w.ownsRow B' e' m' v' n' xs') (hne:e≠e'): ∀k,v.ownBlock=some k->v'.ownBlock≠some k:=by
 intro k hk hk';rcases h.2 with ⟨rfl,-⟩ | ⟨g,cap,cur,rfl,-,hg,-⟩
 ·cases hk
 rcases h'.2 with ⟨rfl,-⟩ | ⟨g',cap',cur',rfl,-,hg',-⟩
 ·cases hk'
 injection hk with hk; injection hk' with hk';simp only at hk hk';subst hk; subst hk';rw [hg] at hg';injection hg' with hg'; injection hg' with _ h2 _;exact hne h2
theorem Ul {w:World} {B:Nat} {g:Option Nat} {ao:Option Addr} {cap:Nat} {is:List aX} {r:Int} (h:w.ownsRow B 52 6 (.slice ao is.length cap) is.length (is.flatMap jE)) (hg: ∀k,(Value.slice ao is.length cap).ownBlock=some k->g≠some k):xW B g w (sW.I ⟨r,is,ao,cap⟩):=fun w' ha=>by
 have h':w'.ownsRow B 52 6 (.slice ao is.length cap) is.length (is.flatMap jE):=by
  refine ⟨h.1,?_⟩;rcases h.2 with h1 | ⟨q,cap',cur,h1,h2,h3,h4⟩
  ·exact .inl h1
  ·refine .inr ⟨q,cap',cur,h1,h2,?_,h4⟩;rw [ha.2 q h2 (fun e=>hg q (by rw [h1]; rfl) e.symm) (Array.getElem?_eq_some_iff.1 h3).1]; exact h3
 exact oL Ai h'
theorem IG {w:World} {B:Nat} {v:Value} {l:List sW} (h:vE B w v l) (hl: ∀x ∈ l,x.is.length<=1000000000000): ∃ao cap,v= .slice ao l.length cap∧l.length<=cap∧lu w w.heap.size (l.map sW.t) ao 0:=by
 obtain ⟨hI,ao,cap,hv,hc,hcells⟩:=(h.cells al5).now;refine ⟨ao,cap,hv,hc,?_⟩;have: ∀(r:List sW) (k:Nat),(∀i x,r[i]? =some x->l[k + i]? =some x)->lu w w.heap.size (r.map sW.t) ao k:=by
  intro r
  induction r with
  | nil=>exact fun _ _=>trivial
  | cons x r ih=>
    intro k hk;have hx:=hk 0 x rfl;obtain ⟨g,rfl,hB,hlt,hcs⟩:=hcells k x hx;have hm:x ∈ l:=List.mem_of_getElem? hx;refine ⟨⟨g,0,x.ao,x.cap,rfl,hlt,?_,?_,hl x hm,hI x hm⟩,ih (k + 1) (fun i y hy=>by have:=hk (i + 1) y (by simpa using hy);rw [show k + 1 + i=k + (i + 1) by omega]; exact this)⟩
    ·have:=hcs 0 _ rfl;rw [Nat.zero_add]; exact this
    ·have:=hcs 1 _ rfl;rw [Nat.zero_add]; exact this
 exact this l 0 (fun i x hx=>by rw [Nat.zero_add]; exact hx)
def BbQ (r:Int) (ao:Option Addr) (n cap:Nat) (v:Value) (w':World):Prop:= ∃bb,v= .slice (some ⟨bb,0,none⟩) 1 1∧w'.heap[bb]? =some (.cells #[.int .i64 r,.slice ao n cap] 50 (0,0))
theorem gq.far {T:TypeId} {w w':World} {L:GL} {W:Wo} {s:jM} {lc:List ByteArray} {al:Option Addr} {cl:Nat} {v:Value} {code:List aX} {a b:Int} {g:Option Nat} (h:gq T w L W s lc al cl v code a b) (hg:w.grownBy w' g) (hk: ∀k,g=some k->L.B0<=k∧k≠L.gb∧v.ownBlock≠some k):gq T w' L W s lc al cl v code a b:=by
 have hb:Below L.B0 w w':=⟨hg.os,hg.tape,hg.output,hg.size,fun k hlt=>hg.block k (Nat.lt_of_lt_of_le hlt h.b0) (fun e=>by have:=(hk k e.symm).1; omega)⟩
 exact {blk:=(hg.block _ (Array.getElem?_eq_some_iff.1 h.blk).1 (fun e=>(hk _ e.symm).2.1 rfl)).trans h.blk
        row:=h.row.kept hg (by
         cases hv:v.ownBlock with
         | none=>exact .inl rfl
         | some q=>exact .inr (fun e=>(hk q e.symm).2.2 hv))
        sz:=Nat.le_trans h.sz hg.size,wo:=h.wo.below hb,few:=h.few,lc:=h.lc.below hb}
theorem Jg (p:Pr) (w:World) (aB aD:Option Addr) (aA ay:Nat) (hp:p.At w aB aD) (fK:fC w) (hfit:Fit p) (hok:(jr p).1=0):
 Calls Tryz.prog 6 #[.agg #[.slice aB p.ds.length aA,.slice aD p.ts.length ay]] w fun e w'=> ∃s ao cap,e= .returned (.tuple #[.agg #[.slice s.aC (fF p).cs.length s.cC,.slice s.aL (fF p).ls.length s.cL,.slice s.aN (fF p).ns.length s.cN,.slice s.aF (fF p).fs.length s.cF,.slice s.aT (fF p).ts.length s.cT,.slice s.aS (fF p).ss.length s.cS,.slice ao p.ts.length cap],.int .i64 0,.int .i64 0])∧
  gN w' w'.heap.size (fF p) s∧lu w' w'.heap.size (oQ (fF p) p.ts 0) ao 0∧p.ts.length<=cap∧Below w.heap.size w w':=by
 have HP:=ah hp;have kD:=ah fK;have Bn:=ah hfit;have nK:=ah (okP hok);have Pp:=ah (qJ hok);have HP0:=ah hok;have Cr:aj (xC p=fF p):=ah (by unfold xC; rw [hok]; rfl);have hpe:jr p=(0,(jr p).2):=by rw [<- hok]
 have htl:p.ts.length<=4:=by have:=Pp.o.2.2.1; omega
 have KH:=ah htl;clear hp fK hfit hok;go_enter Tryz.func6,Tryz.ntmps6;go_upto_region 1 with fail;generalize hW:World.alloc (World.alloc w _) _=w1;obtain ⟨bp,hbp⟩: ∃n,w.heap.size=n:=⟨_,rfl⟩;have HB1:aj (Below w.heap.size w w1):=ah (by rw [<- hW]; exact (ak _ _).alloc (by simp) _);have pO:aj (w1.heap.size=bp + 2):=ah (by rw [<- hW,<- hbp]; simp);have vO:aj (w1.heap[bp]? =some (.cells #[.slice aB p.ds.length aA,.slice aD p.ts.length ay] 26 (0,0))):=ah (by rw [<- hW,<- hbp,heap_alloc_old _ _ (by simp)]; exact heap_alloc_new _ _);have qC:aj (w1.heap[bp + 1]? =some (.cells #[.slice none 0 0,.slice none 0 0,.slice none 0 0,.slice none 0 0,.slice none 0 0,.slice none 0 0,.slice none 0 0] 37 (0,0))):=ah (by have:=heap_alloc_new (w.alloc (.cells #[.slice aB p.ds.length aA,.slice aD p.ts.length ay] 26)) (.cells #[.slice none 0 0,.slice none 0 0,.slice none 0 0,.slice none 0 0,.slice none 0 0,.slice none 0 0,.slice none 0 0] 37);rw [<- hW,<- hbp]; simpa using this);have vG:=ah hbp;rw [hbp];clear hW hbp;have y0:=au (j:=0) vO.o rfl;have y1:=au (j:=1) vO.o rfl;go_wp2_with fail;refine (Je p w1 aB aD aA ay (HP.o.same HB1.o) (kD.o.same HB1.o)).mono ?_;rintro e w2 ⟨rfl,hb2⟩;have HB2:=ah (HB1.o.trans (hb2.mono HB1.o.size));have rE:=ah ((hb2.block _ (Array.getElem?_eq_some_iff.1 vO.o).1).trans vO.o);have mh:=ah ((hb2.block _ (Array.getElem?_eq_some_iff.1 qC.o).1).trans qC.o);rw [show (jr p).1=0 from HP0.o];clear hb2 y0 y1 vO qC hpe;generalize (jr p).2=ln at *;have y0:=au (j:=0) rE.o rfl;have y1:=au (j:=1) rE.o rfl;go_wp2_with fail;refine (KW p w2 aB aD aA ay (HP.o.same HB2.o) (kD.o.same HB2.o) (by have:=Bn.o.1; have:=Ep p.ts; omega)).mono ?_;rintro e w3 ⟨s,rfl,hwo,hb3,hnew⟩;have HNW:=ah hnew;rw [Cr.o] at hwo;have AB:=ah hwo;have HB3:=ah (HB2.o.trans (hb3.mono HB2.o.size));have xZ:=ah ((hb3.block _ (Array.getElem?_eq_some_iff.1 rE.o).1).trans rE.o);have yc:=ah ((hb3.block _ (Array.getElem?_eq_some_iff.1 mh.o).1).trans mh.o);rw [Cr.o];have HS2:=ah ((Array.getElem?_eq_some_iff.1 mh.o).1);clear hwo hb3 y0 y1 rE mh hnew;generalize Lh:fF p=W at *;have YX:=ah Lh;clear Lh;unfold pY;have y1:=au (j:=1) xZ.o rfl;go_upto_region 6 with fail;obtain ⟨bc,hbc⟩: ∃n,w3.heap.size=n:=⟨_,rfl⟩;generalize Dq:World.alloc (World.alloc w3 _) _=w5;have kS:aj (Below w3.heap.size w3 w5):=ah (by rw [<- Dq]; exact (ak _ _).alloc (by simp) _);have qO:aj (w5.heap[bc]? =some (.cells #[.slice s.aC W.cs.length s.cC,.slice s.aL W.ls.length s.cL,.slice s.aN W.ns.length s.cN,.slice s.aF W.fs.length s.cF,.slice s.aT W.ts.length s.cT,.slice s.aS W.ss.length s.cS,.slice none 0 0] 37 (0,0))):=ah (by rw [<- Dq,<- hbc,heap_alloc_old _ _ (by simp)]; exact heap_alloc_new _ _);have HXg:aj (w5.heap[bc + 1]? =some (.cells (Qq W s [] none 0 (.slice none 0 0) 0 0) 76 (0,0))):=ah (by have:=heap_alloc_new (w3.alloc (.cells #[.slice s.aC W.cs.length s.cC,.slice s.aL W.ls.length s.cL,.slice s.aN W.ns.length s.cN,.slice s.aF W.fs.length s.cF,.slice s.aT W.ts.length s.cT,.slice s.aS W.ss.length s.cS,.slice none 0 0] 37)) (.cells (Qq W s [] none 0 (.slice none 0 0) 0 0) 76);rw [show (w3.alloc (.cells #[.slice s.aC W.cs.length s.cC,.slice s.aL W.ls.length s.cL,.slice s.aN W.ns.length s.cN,.slice s.aF W.fs.length s.cF,.slice s.aT W.ts.length s.cT,.slice s.aS W.ss.length s.cS,.slice none 0 0] 37)).heap.size=w3.heap.size + 1 by simp] at this;rw [<- Dq,<- hbc]; exact this);have mg:aj (w5.heap.size=bc + 2):=ah (by rw [<- Dq,<- hbc]; simp);have DY:=ah hbc;rw [hbc];obtain ⟨L,hL0,Ob,hL1⟩: ∃L:GL,L.B0=bc∧bc + 1=L.gb∧L.B1=bc + 2:=⟨⟨bc,bc + 1,bc + 2,by omega,by omega⟩,rfl,rfl,rfl⟩;rw [Ob];have HL:=ah (And.intro hL0 (And.intro Ob hL1));have UJ:=ah ((kS.o.block _ (Array.getElem?_eq_some_iff.1 xZ.o).1).trans xZ.o);have HG5:aj (gq 76 w5 L W s [] none 0 (.slice none 0 0) [] 0 0):=ah
  {blk:=by rw [<- Ob]; exact HXg.o,row:=World.ownsRow_nil _ _ _ _,sz:=by rw [hL1,mg.o]; exact Nat.le_refl _,wo:=by rw [hL0,<- hbc]; exact AB.o.below kS.o,few:=Nat.zero_le _,lc:=trivial}
 have tL:aj (iN w5 bc p.ts aD 0):=ah (by have h1:=HP.o.2.2.2.below (HB3.o.trans (kS.o.mono HB3.o.size));exact h1.mono (by rw [<- hbc]; exact HB3.o.size));have Pe:=ah (Ov Pp.o.2.2.2.1);have HSP:aj (∀t ∈ p.ts,dW t.body=true):=ah (fun t ht=>by have h1:=Pp.o.1;unfold qz at h1;simp only [Bool.and_eq_true] at h1;have:=List.all_eq_true.1 h1.1.2 t ht;unfold pI at this;simp only [Bool.and_eq_true] at this;exact this.2);have Wn:=ah (EG HP.o.2.2.2);clear Dq hbc hL0 Ob hL1 y1 HXg AB xZ;have y1:=au (j:=1) UJ.o rfl;go_wp2_with fail;go_loopw [10,31] (fun _ i wr=> ∃(k:Nat) (R:List Th) (xs:List sW) (vT:Value) (nx:Nat) (code:List aX) (v:Value) (b:Int) (lc:List ByteArray) (al:Option Addr) (cl:Nat),i= .int .i64 k∧k + R.length=p.ts.length∧oQ W p.ts 0=xs.map sW.t++oQ W R nx∧xs.length=k∧(∀x ∈ xs,x.is.length<=1000000000000)∧gq 76 wr L W s lc al cl v code (nx:Nat) b∧vE L.B1 wr vT xs∧
  wr.heap[bc]? =some (.cells #[.slice s.aC W.cs.length s.cC,.slice s.aL W.ls.length s.cL,.slice s.aN W.ns.length s.cN,.slice s.aF W.fs.length s.cF,.slice s.aT W.ts.length s.cT,.slice s.aS W.ss.length s.cS,vT] 37 (0,0))∧iN wr bc R aD k∧Below bc w5 wr∧nx + zF R<=zF p.ts∧(∀t ∈ R,t ∈ p.ts)) (fun _ i _=>p.ts.length - (intOf i).toNat)
 case atStart=>exact ⟨0,p.ts,[],.slice none 0 0,0,[],_,0,[],none,0,rfl,by simp,by simp,rfl,by simp,HG5.o,Grow.nil _ _ _ _ _ _,qO.o,tL.o,Below.refl _ _,by simp,fun t h=>h⟩
 case round=>
  obtain ⟨k,R,xs,vT,nx,code,v,b,lc,al,cl,rfl,hlen,heq,hxl,hxs,hge,hgr,hbx,hth,hbel,hwt,hmem⟩:=hrel;have HE:=ah heq;have HG:=ah hge;have KE:=ah hgr;have HX:=ah hbx;have kg:=ah hbel;have HN:=ah (And.intro hxl (And.intro hxs (And.intro hwt hmem)));clear heq hge hgr hbx hbel hxl hxs hwt hmem HG5 tL qO y1;cases R with
  | nil=>
    obtain rfl:k=p.ts.length:=by simpa using hlen
    obtain ⟨lF,oU,Dt,hcc,hat⟩:=IG KE.o HN.o.2.1;subst Dt;have HAT:=ah hat;have HCAP:=ah hcc;have tZ:=ah ((kg.o.block (bp + 1) (by have h1:=(Array.getElem?_eq_some_iff.1 yc.o).1; have h2:=DY.o; omega)).trans ((kS.o.block _ (Array.getElem?_eq_some_iff.1 yc.o).1).trans yc.o));have hxl:xs.length=p.ts.length:=HN.o.1;have Ky:aj (oQ W p.ts 0=xs.map sW.t):=ah (by rw [HE.o]; simp [oQ]);have vN:aj (wr.heap[bc]? =some (.cells #[.slice s.aC W.cs.length s.cC,.slice s.aL W.ls.length s.cL,.slice s.aN W.ns.length s.cN,.slice s.aF W.fs.length s.cF,.slice s.aT W.ts.length s.cT,.slice s.aS W.ss.length s.cS,.slice lF p.ts.length oU] 37 (0,0))):=ah (by rw [HX.o,hxl]);have c0:=au (j:=0) vN.o rfl;have c1:=au (j:=1) vN.o rfl;have c2:=au (j:=2) vN.o rfl;have c3:=au (j:=3) vN.o rfl;have c4:=au (j:=4) vN.o rfl;have c5:=au (j:=5) vN.o rfl;have c6:=au (j:=6) vN.o rfl;simp only [List.getElem_toArray,List.getElem_cons_zero,List.getElem_cons_succ] at c0 c1 c2 c3 c4 c5 c6;have r0:=au (j:=0) tZ.o rfl;have r1:=au (j:=1) tZ.o rfl;have r2:=au (j:=2) tZ.o rfl;have r3:=au (j:=3) tZ.o rfl;have r4:=au (j:=4) tZ.o rfl;have r5:=au (j:=5) tZ.o rfl;have r6:=au (j:=6) tZ.o rfl;have rf:=fun j=>dH (o:=j) tZ.o;have rf0:=rf 0;have rf1:=rf 1;have rf2:=rf 2;have rf3:=rf 3;have rf4:=rf 4;have rf5:=rf 5;have rf6:=rf 6;have mZ:=ah (Nat.lt_of_lt_of_le (Array.getElem?_eq_some_iff.1 HX.o).1 (Nat.le_refl _));have hcl:p.ts.length<=oU:=by rw [hxl] at hcc; exact hcc
    have IY:=ah hcl;clear rf hat hth hcc hcl;go_wp2_with fail;show bodyPost _ _ _ _ _ (World.setCells wr (bp + 1) 0 [.slice s.aC W.cs.length s.cC,.slice s.aL W.ls.length s.cL,.slice s.aN W.ns.length s.cN,.slice s.aF W.fs.length s.cF,.slice s.aT W.ts.length s.cT,.slice s.aS W.ss.length s.cS,.slice lF p.ts.length oU]);have mq:=ah (mM (vs:=[.slice s.aC W.cs.length s.cC,.slice s.aL W.ls.length s.cL,.slice s.aN W.ns.length s.cN,.slice s.aF W.fs.length s.cF,.slice s.aT W.ts.length s.cT,.slice s.aS W.ss.length s.cS,.slice lF p.ts.length oU]) tZ.o rfl);have rU:aj (wr.grownBy (World.setCells wr (bp + 1) 0 [.slice s.aC W.cs.length s.cC,.slice s.aL W.ls.length s.cL,.slice s.aN W.ns.length s.cN,.slice s.aF W.fs.length s.cF,.slice s.aT W.ts.length s.cT,.slice s.aS W.ss.length s.cS,.slice lF p.ts.length oU]) (some (bp + 1))):=ah (ig _ _ _ _);have HW3:aj (bp + 1 < bc):=ah (by have h1:=(Array.getElem?_eq_some_iff.1 yc.o).1; have h2:=DY.o; omega);have FZ:aj (Below w.heap.size w (World.setCells wr (bp + 1) 0 [.slice s.aC W.cs.length s.cC,.slice s.aL W.ls.length s.cL,.slice s.aN W.ns.length s.cN,.slice s.aF W.fs.length s.cF,.slice s.aT W.ts.length s.cT,.slice s.aS W.ss.length s.cS,.slice lF p.ts.length oU])):=ah (((HB3.o.trans (kS.o.mono HB3.o.size)).trans (kg.o.mono (by have h1:=HB3.o.size; have h2:=DY.o; omega))).trans (bQ rU.o (by have:=vG.o; omega) (by have h1:=HB3.o.size; have h2:=kS.o.size; have h3:=kg.o.size; omega)));have HKP:aj (∀k,w2.heap.size<=k->(World.setCells wr (bp + 1) 0 [.slice s.aC W.cs.length s.cC,.slice s.aL W.ls.length s.cL,.slice s.aN W.ns.length s.cN,.slice s.aF W.fs.length s.cF,.slice s.aT W.ts.length s.cT,.slice s.aS W.ss.length s.cS,.slice lF p.ts.length oU]).heap[k]? =wr.heap[k]?):=ah (fun k hk=>by
     have h1:=HS2.o;by_cases hlt:k < wr.heap.size
     ·exact rU.o.block k hlt (by simp; omega)
     ·have e1:(World.setCells wr (bp + 1) 0 [.slice s.aC W.cs.length s.cC,.slice s.aL W.ls.length s.cL,.slice s.aN W.ns.length s.cN,.slice s.aF W.fs.length s.cF,.slice s.aT W.ts.length s.cT,.slice s.aS W.ss.length s.cS,.slice lF p.ts.length oU]).heap.size=wr.heap.size:=(by simp [World.setCells,World.setCell]);rw [Array.getElem?_eq_none (by omega),Array.getElem?_eq_none (by omega)])
    have HGK:aj (vE L.B1 (World.setCells wr (bp + 1) 0 [.slice s.aC W.cs.length s.cC,.slice s.aL W.ls.length s.cL,.slice s.aN W.ns.length s.cN,.slice s.aF W.fs.length s.cF,.slice s.aT W.ts.length s.cT,.slice s.aS W.ss.length s.cS,.slice lF p.ts.length oU]) (.slice lF xs.length oU) xs):=ah (KE.o.next ⟨rU.o.size,fun k h1 h2=>rU.o.block k h2 (by have h3:=HL.o; have h4:=HW3.o; simp; omega)⟩);have HWK:aj (gN (World.setCells wr (bp + 1) 0 [.slice s.aC W.cs.length s.cC,.slice s.aL W.ls.length s.cL,.slice s.aN W.ns.length s.cN,.slice s.aF W.fs.length s.cF,.slice s.aT W.ts.length s.cT,.slice s.aS W.ss.length s.cS,.slice lF p.ts.length oU]) (World.setCells wr (bp + 1) 0 [.slice s.aC W.cs.length s.cC,.slice s.aL W.ls.length s.cL,.slice s.aN W.ns.length s.cN,.slice s.aF W.fs.length s.cF,.slice s.aT W.ts.length s.cT,.slice s.aS W.ss.length s.cS,.slice lF p.ts.length oU]).heap.size W s):=ah ((gN.keep HG.o.wo HNW.o HKP.o).mono (by have h1:=HG.o.b0; exact Nat.le_trans h1 rU.o.size));generalize GK:World.setCells wr _ _ _=wz at *;have o0:=au (j:=0) mq.o rfl;have o1:=au (j:=1) mq.o rfl;have o2:=au (j:=2) mq.o rfl;have o3:=au (j:=3) mq.o rfl;have o4:=au (j:=4) mq.o rfl;have o5:=au (j:=5) mq.o rfl;have o6:=au (j:=6) mq.o rfl;clear GK;obtain ⟨aoQ,cpQ,Xv,-,Qz⟩:=IG HGK.o HN.o.2.1;injection Xv with QO QT QU;subst QO;have YA:=ah Qz;clear Qz QT QU;have Lh:=YX.o;subst Lh;exact bodyPost_ret (v:= .tuple #[.agg #[.slice s.aC (fF p).cs.length s.cC,.slice s.aL (fF p).ls.length s.cL,.slice s.aN (fF p).ns.length s.cN,.slice s.aF (fF p).fs.length s.cF,.slice s.aT (fF p).ts.length s.cT,.slice s.aS (fF p).ss.length s.cS,.slice lF p.ts.length oU],.int .i64 0,.int .i64 0]) (by simp [results,Tryz.results6,go_sem,o0,o1,o2,o3,o4,o5,o6]) rfl ⟨s,lF,oU,rfl,HWK.o,by rw [Ky.o]; exact YA.o,IY.o,FZ.o⟩
  | cons t R=>
    obtain ⟨⟨b1,off,iK,fq,cu,bJ,hao,jD,x0,x1,x2,x3,hok,htx,hst,hcl⟩,hrest⟩:=hth;have zH:=ah hao;subst hao;simp only [List.length_cons] at hlen;have hkl:k < p.ts.length:=by omega
    have ko:=ah hrest;have DZ:=ah (And.intro hst (And.intro hok.2.2.2 htx));have vX:=HN.o.2.2.2 t List.mem_cons_self;have Bt:aj (t.bM.length<=4∧dW t.body=true∧t.body.Ev (Js W)):=ah ⟨Pe.o t vX,HSP.o t vX,by have h1:=nK.o t vX;have h2:=Bn.o.2 t vX;exact (h1.and h2)⟩;have qN:aj (nx + (kJ t.body + zF R)<=100000000000∧nx + (kJ t.body + zF R)<=zF p.ts):=ah (by have h1:=HN.o.2.2.1; have h2:=Bn.o.1; simp only [zF] at h1; omega);clear hrest hok htx hst hcl vX;go_upto_region 9 with fail;obtain ⟨nb,hnb⟩: ∃n,wr.heap.size=n:=⟨_,rfl⟩;generalize tC:World.alloc wr _=w6;have bU:aj (Below wr.heap.size wr w6):=ah (by rw [<- tC]; exact ak _ _);have G8:aj (w6.heap[nb]? =some (.cells #[.string t.nm,.int .i64 t.line,.slice iK t.bM.length fq,.slice cu t.body.len bJ] 63 (0,0))):=ah (by rw [<- tC,<- hnb]; exact heap_alloc_new _ _);have fD:aj (L.B1<=nb∧nb < w6.heap.size):=ah ⟨by rw [<- hnb]; exact HG.o.sz,(Array.getElem?_eq_some_iff.1 G8.o).1⟩;have P6:=ah (HG.o.below bU.o);have aX4:=ah (KE.o.next (dB bU.o));have Ja:=ah ((bU.o.block bc (Array.getElem?_eq_some_iff.1 HX.o).1).trans HX.o);have ar4:aj (Below bc wr w6):=ah (bU.o.mono (Nat.le_of_lt (Array.getElem?_eq_some_iff.1 HX.o).1));rw [hnb];clear tC hnb x0 x1 x2 x3;have x2:=au (j:=2) G8.o rfl;have hg0:=P6.o.cells.1;have c6:=P6.o.cells.2.2.2.2.2.2.2.1;have f6:=P6.o.cells.2.2.2.2.2.2.2.2.2.2.2 6;have yD:aj (L.B0=bc∧bc + 1=L.gb∧L.B1=bc + 2):=HL;go_upto_region 10 with fail;generalize fU:World.setCell w6 _ _=w7;have Nz:aj (gq 76 w7 L W s t.bM iK fq v code (nx:Nat) b):=ah (by rw [<- fU]; exact P6.o.bh2 fq (by rw [yD.o.1]; exact DZ.o.2.2.below ar4.o) (by have:=Bt.o.1; omega));have aX5:aj (vE L.B1 w7 vT xs):=ah (by rw [<- fU]; exact aX4.o.next (qK _ _ _ L.b1));have wX:=ah ((show w7.heap[bc]? =w6.heap[bc]? by rw [<- fU]; exact aV _ _ _ rfl (by show L.gb≠bc; have:=yD.o; omega)).trans Ja.o);have ba8:=ah ((show w7.heap[nb]? =w6.heap[nb]? by rw [<- fU]; exact aV _ _ _ rfl (by show L.gb≠nb; have:=yD.o; have:=fD.o; omega)).trans G8.o);have aY3:aj (Below bc wr w7):=ah (by rw [<- fU]; exact ar4.o.trans (bQ (bL _ _ _) (by show bc<=L.gb; have:=yD.o; omega) (Nat.le_trans (Nat.le_of_lt (Array.getElem?_eq_some_iff.1 HX.o).1) bU.o.size)));clear fU c6 f6 hg0 x2;have hg0:=Nz.o.cells.1;obtain ⟨ao7,DR,hv7,-,-⟩:=Nz.o.form;have c7:=Nz.o.cells.2.2.2.2.2.2.2.2.1;rw [hv7] at c7;have f7:=Nz.o.cells.2.2.2.2.2.2.2.2.2.2.2 7;go_upto_region 11 with fail;generalize AP:World.setCell w7 _ _=w8;have HG8:aj (gq 76 w8 L W s t.bM iK fq (.slice none 0 0) [] (nx:Nat) b):=ah (by rw [<- AP]; exact Nz.o.bh3);have aX6:aj (vE L.B1 w8 vT xs):=ah (by rw [<- AP]; exact aX5.o.next (qK _ _ _ L.b1));have KN:=ah ((show w8.heap[bc]? =w7.heap[bc]? by rw [<- AP]; exact aV _ _ _ rfl (by show L.gb≠bc; have:=yD.o; omega)).trans wX.o);have ba9:=ah ((show w8.heap[nb]? =w7.heap[nb]? by rw [<- AP]; exact aV _ _ _ rfl (by show L.gb≠nb; have:=yD.o; have:=fD.o; omega)).trans ba8.o);have ar5:aj (Below bc wr w8):=ah (by rw [<- AP]; exact aY3.o.trans (bQ (bL _ _ _) (by show bc<=L.gb; have:=yD.o; omega) (Nat.le_of_lt (Array.getElem?_eq_some_iff.1 wX.o).1)));clear AP c7 f7 hg0 hv7;have x3:=au (j:=3) ba9.o rfl;go_wp2_with fail;refine (Xb t.body w8 L W s t.bM iK fq (.slice none 0 0) [] b nx cu bJ HG8.o DZ.o.2.1 (by rw [yD.o.1]; exact DZ.o.1.below ar5.o) Bt.o.2.1 Bt.o.2.2 (by have:=qN.o.1; simp only [List.length_nil]; omega) (by have:=qN.o.1; omega)).mono ?_;rintro e w9 ⟨rfl,hem⟩;obtain ⟨v9,a9,b9,iM,EA,Ll,Od⟩:=hem;have iM:a9=((nx + aR t.body:Nat):Int):=iM;subst iM;rw [List.nil_append,List.length_nil] at EA;have Bo:=ah (oM W t.bM t.body nx 0);have E9:=ah (Ht (W:=W) (lc:=t.bM) (by have:=Bt.o.1; omega) t.body nx 0 Bt.o.2.2);have VT:aj (oQ W p.ts 0=xs.map sW.t++(⟨qI (gU W t.bM t.body nx 0++[⟨28,0,0,0,0,-1⟩]) t.bM.length,gU W t.bM t.body nx 0++[⟨28,0,0,0,0,-1⟩]⟩ ::oQ W R (nx + aR t.body))):=ah HE.o;generalize gU W t.bM t.body nx 0=GC at *;have E5:=ah EA;have SI:=ah Ll;have NH:=ah Od;clear EA Ll Od x3;have c9:=E5.o.cells.2.2.2.2.2.2.2.2.2.2.1;have f9:=E5.o.cells.2.2.2.2.2.2.2.2.2.2.2 9;have hg0:=E5.o.cells.1;go_upto_region 13 with fail;generalize Qu:World.setCell w9 _ _=wa;have qY:aj (gq 76 wa L W s t.bM iK fq v9 GC ((nx + aR t.body:Nat):Int) (-1)):=ah (by rw [<- Qu]; exact E5.o.jX (-1));have HKA:aj (Kg L (.slice none 0 0) w8 wa):=ah (by rw [<- Qu]; exact SI.o.trans NH.o (Kg.set _ _ _));clear Qu c9 f9 hg0;have hg0:=qY.o.cells.1;go_wp2_with fail;refine (iC qY.o ⟨28,0,0,0,0,0⟩ (by have h1:=Bo.o; have h2:=qN.o.1; omega)).mono ?_;rintro e wb ⟨rfl,ve,hge,hke,hoe⟩;have FU:aj (gq 76 wb L W s t.bM iK fq ve (GC++[⟨28,0,0,0,0,-1⟩]) ((nx + aR t.body:Nat):Int) (-1)):=ah hge;have Dc:aj (Kg L (.slice none 0 0) w8 wb):=ah (HKA.o.trans NH.o hke);clear hge hke hoe hg0;have HRE:aj (kU (GC++[⟨28,0,0,0,0,-1⟩])):=ah (Ue E9.o);have mR:aj ((GC++[(⟨28,0,0,0,0,-1⟩:aX)]).length<=1000000000000):=ah (by have h1:=Bo.o; have h2:=qN.o.1; simp only [List.length_append,List.length_cons,List.length_nil]; omega);generalize GC++[⟨28,0,0,0,0,-1⟩]=GD at *;have sO:=ah ((Dc.o.block bc (Array.getElem?_eq_some_iff.1 KN.o).1 (by have:=yD.o; omega) (by simp [Value.ownBlock])).trans KN.o);have UA:=ah (aX6.o.next ⟨Dc.o.size,fun q h1 h2=>Dc.o.block q h2 (by have:=L.b1; omega) (by simp [Value.ownBlock])⟩);have aY4:aj (Below bc wr wb):=ah (ar5.o.trans ⟨Dc.o.os,Dc.o.tape,Dc.o.output,Dc.o.size,fun q hq=>Dc.o.block q (Nat.lt_trans hq (Array.getElem?_eq_some_iff.1 KN.o).1) (by have:=yD.o; omega) (by simp [Value.ownBlock])⟩);obtain ⟨lF,oU,Dt⟩:=UA.o.len;obtain ⟨gY,uW,QN,-,-⟩:=FU.o.form;have Co:=ah Dt;have Py:=ah QN;have hxc:=au (j:=6) sO.o rfl;have hxe:=FU.o.cells.2.2.2.2.2.2.2.2.1;simp only [List.getElem_toArray,List.getElem_cons_zero,List.getElem_cons_succ] at hxc;rw [Dt] at hxc;rw [QN] at hxe;have Bj:=ah (And.intro (Array.getElem?_eq_some_iff.1 sO.o).1 (And.intro hxc (And.intro FU.o.cells.1 hxe)));clear Dt QN hxc hxe;go_upto_region 14 with fail;have V0: ∀w',Below wb.heap.size wb w'->w'.cell? ⟨bc,6,none⟩=some (.slice lF xs.length oU):=fun w' hb=>(hb.cell (p:=⟨bc,6,none⟩) Bj.o.1).trans Bj.o.2.1;have V1: ∀w',Below wb.heap.size wb w'->w'.cell? ⟨L.gb,7,none⟩=some (.slice gY GD.length uW):=fun w' hb=>(hb.cell (p:=⟨L.gb,7,none⟩) Bj.o.2.2.1).trans Bj.o.2.2.2;refine bG (by kernel_rfl) rfl ?_;refine aY 0 10 [] [[],[0],[],[2],[],[4],[4,5],[4,5,6],[2,3,4,5,6,7],[2,3,4,5,6,7,8],[0,1,2,3,4,5,6,7,8,9],[0,1,2,3,4,5,6,7,8,9,10],[0,1,2,3,4,5,6,7,8,9,10,11]] [[],[],[],[],[],[],[],[],[],[]] (fun _ w'=>Below wb.heap.size wb w') (fun w w'=>Below w.heap.size w w') [53,54,55,56,57,58,59,60,61,62] rfl rfl (by rfl) (by kernel_rfl) (by kernel_rfl) (by kernel_rfl) (by kernel_rfl) (by kernel_rfl) (by rfl) (fun _=>Below.refl _ _) (by rfl) (below_drewN (Below.refl _ _) 1) ?_;simp only [eP,jC]
    iterate 3
     apply aU.step
     case aM=>intro c A w' hok hC hO hD;have e7:=hO 7 (by rfl);have e8:=hO 8 (by rfl);simp [Act.eval] at e7 e8;simp [Act.eval] at hD;simp [go_sem,gd,Oper.wp,hD,e7,e8,V0,hC];exact aG.mk (Below.refl _ _) hC (bH.mk _ _)
     try simp only [bP]
    refine aU.some (fun v _=>v= .int .i64 (qI GD t.bM.length)) (fun _ _ _ _ h=>h) ?_ ?_
    ·intro c A w' hok hC hO hD;simp [Act.eval] at hD;simp [go_sem,gd,Oper.wp,hD];refine (Xd (FU.o.below hC) HRE.o).mono ?_;rintro e w5 ⟨rfl,hb⟩;exact aG.mk hb (hC.trans (hb.mono hC.size)) rfl
    try simp only [bP]
    iterate 5
     apply aU.step
     case aM=>intro c A w' hok hC hO hD;have e8:=hO 8 (by rfl);simp [Act.eval] at e8;simp [Act.eval] at hD;simp [go_sem,gd,Oper.wp,hD,e8,V1,hC];exact aG.mk (Below.refl _ _) hC (bH.mk _ _)
     try simp only [bP]
    refine aU.some (fun v w'=>BbQ (qI GD t.bM.length) gY GD.length uW v w') ?_ ?_ ?_
    ·rintro v wx wy hle ⟨bb,rfl,hbb⟩;exact ⟨bb,rfl,(hle.block bb (Array.getElem?_eq_some_iff.1 hbb).1).trans hbb⟩
    ·intro c A w' hok hC hO hD;simp [Act.eval] at hD;simp [go_sem,gd,Oper.wp,hD];exact aG.mk (d:=_) (v:= .slice (some ⟨_,0,none⟩) 1 1) (ak _ _) (hC.trans ((ak _ _).mono hC.size)) ⟨_,rfl,heap_alloc_new _ _⟩
    try simp only [bP]
    try simp only [bP]
    refine aU.done ?_;intro wz bC
    try simp only [eP]
    iterate 9 refine jq ?_
    intro v9 h9;obtain ⟨bb,rfl,hbb⟩:=h9;refine kH ?_;go_simp;have jY:=ah bC;have yQ:=ah hbb;clear V0 V1 bC hbb;have KF:=ah (UA.o.next (dB jY.o));have HEZ:=ah (FU.o.below jY.o);refine bZ 10 [[],[0],[],[2],[],[4],[4,5],[4,5,6],[2,3,4,5,6,7],[2,3,4,5,6,7,8],[0,1,2,3,4,5,6,7,8,9],[0,1,2,3,4,5,6,7,8,9,10],[0,1,2,3,4,5,6,7,8,9,10,11]] rfl rfl rfl rfl rfl (by kernel_rfl) (by kernel_rfl) (by kernel_rfl) ?_;obtain ⟨i0,hi0,hz0,hz1,hz2⟩:=infoP XB;have hk0:xs.length<=4:=by have:=HN.o.1; omega
    refine wp_append_lies wz _ _ _ (by rfl) L.B1 50 i0 _ 2 32 Tryz.underlying35 hi0 hz0 hz1 hz2 (by rfl) (by omega) (.slice lF xs.length oU) xs.length (xs.flatMap Ju) (by rfl) (by rw [<- Co.o]; exact KF.o.own) ⟨bb,0,none⟩ 1 1 (Ju ⟨qI GD t.bM.length,GD,gY,uW⟩) (by rfl) (by rfl) (gP yQ.o) (aI0 _) (by decide) (by unfold maxLen; omega) (by omega) HEZ.o.sz _ rfl ?_;intro g' cap' wd hown hgr hmv jy;have Uw:aj (∀q,vT.ownBlock=some q->ve.ownBlock≠some q):=ah (M6 KF.o.own HEZ.o.row (by decide));have zI:aj (vE L.B1 wd (.slice (some ⟨g',0,none⟩) (xs.length + 1) cap') (xs++[⟨qI GD t.bM.length,GD,gY,uW⟩])):=ah (KF.o.push (x:=⟨qI GD t.bM.length,GD,gY,uW⟩) (by have:=HEZ.o.row;rw [Py.o] at this;exact Ul this (fun q hq e=>Uw.o q e (by rw [Py.o]; exact hq))) rfl hown (by rw [Co.o]; exact hgr) (by rw [Co.o]; exact hmv));have P7:aj (gq 76 wd L W s t.bM iK fq ve GD ((nx + aR t.body:Nat):Int) (-1)):=ah (HEZ.o.far hgr (fun q hq=>by have h1:=(KF.o.lt q (by rw [Co.o]; exact hq)).1;exact ⟨by have:=L.b0; have:=L.b1; omega,by have:=L.b1; omega,Uw.o q (by rw [Co.o]; exact hq)⟩));have Fw:aj (wd.heap[bc]? =some (.cells #[.slice s.aC W.cs.length s.cC,.slice s.aL W.ls.length s.cL,.slice s.aN W.ns.length s.cN,.slice s.aF W.fs.length s.cF,.slice s.aT W.ts.length s.cT,.slice s.aS W.ss.length s.cS,.slice lF xs.length oU] 37 (0,0))):=ah ((hgr.block bc (Nat.lt_of_lt_of_le Bj.o.1 jY.o.size) (fun e=>by have h1:=(KF.o.lt bc (by rw [Co.o]; exact e.symm)).1;have:=yD.o; omega)).trans ((jY.o.block bc Bj.o.1).trans (by rw [sO.o,Co.o])));have YN:aj (Below bc wr wd):=ah ((aY4.o.trans (jY.o.mono (Nat.le_of_lt Bj.o.1))).trans ⟨hgr.os,hgr.tape,hgr.output,hgr.size,fun q hq=>hgr.block q (by have:=Bj.o.1; have:=jY.o.size; omega) (fun e=>by have h1:=(KF.o.lt q (by rw [Co.o]; exact e.symm)).1;have:=yD.o; omega)⟩);clear hown hgr hmv jy hi0 hz0 hz1 hz2 hk0;have cj:=au (j:=6) Fw.o rfl;simp only [List.getElem_toArray,List.getElem_cons_zero,List.getElem_cons_succ] at cj;have fj:=dH (o:=6) Fw.o;have Vh:=(Array.getElem?_eq_some_iff.1 Fw.o).1;go_simp;refine bZ 11 [[],[0],[],[2],[],[4],[4,5],[4,5,6],[2,3,4,5,6,7],[2,3,4,5,6,7,8],[0,1,2,3,4,5,6,7,8,9],[0,1,2,3,4,5,6,7,8,9,10],[0,1,2,3,4,5,6,7,8,9,10,11]] rfl rfl rfl rfl rfl (by kernel_rfl) (by kernel_rfl) (by kernel_rfl) ?_;simp [go_sem,Oper.wp];refine bZ 12 [[],[0],[],[2],[],[4],[4,5],[4,5,6],[2,3,4,5,6,7],[2,3,4,5,6,7,8],[0,1,2,3,4,5,6,7,8,9],[0,1,2,3,4,5,6,7,8,9,10],[0,1,2,3,4,5,6,7,8,9,10,11]] rfl rfl rfl rfl rfl (by kernel_rfl) (by kernel_rfl) (by kernel_rfl) ?_;simp [go_sem,Oper.wp,cj,fj];refine bV rfl ?_;go_simp;generalize hWf:World.setCell wd _ _=wf;have HGf:aj (gq 76 wf L W s t.bM iK fq ve GD ((nx + aR t.body:Nat):Int) (-1)):=ah (by rw [<- hWf];exact P7.o.far (bL _ _ _) (fun q hq=>by injection hq with hq;have hq:bc=q:=hq;subst hq;refine ⟨by have:=yD.o; omega,by have:=yD.o; omega,fun e=> ?_⟩;have:=(P7.o.own bc e).1;have:=yD.o; omega));have HPf:aj (vE L.B1 wf (.slice (some ⟨g',0,none⟩) (xs.length + 1) cap') (xs++[⟨qI GD t.bM.length,GD,gY,uW⟩])):=ah (by rw [<- hWf]; exact zI.o.next (qK _ _ _ (by show bc < L.B1; have:=yD.o; omega)));have HXf:aj (wf.heap[bc]? =some (.cells #[.slice s.aC W.cs.length s.cC,.slice s.aL W.ls.length s.cL,.slice s.aN W.ns.length s.cN,.slice s.aF W.fs.length s.cF,.slice s.aT W.ts.length s.cT,.slice s.aS W.ss.length s.cS,.slice (some ⟨g',0,none⟩) (xs.length + 1) cap'] 37 (0,0))):=ah (by rw [<- hWf]; exact pG Fw.o _ rfl);have Mk:aj (Below bc wr wf):=ah (by rw [<- hWf]; exact YN.o.trans (bQ (bL _ _ _) (Nat.le_refl _) (Nat.le_of_lt Vh)));clear hWf cj fj Vh;go_wp2_with fail;go_roundw
    case rel=>
     refine ⟨k + 1,R,xs++[⟨qI GD t.bM.length,GD,gY,uW⟩],_,nx + aR t.body,GD,ve,-1,t.bM,iK,fq,by go_num,by omega,?_,by rw [List.length_append,HN.o.1]; rfl,?_,HGf.o,HPf.o,HXf.o,ko.o.below Mk.o,kg.o.trans Mk.o,?_,fun x hx=>HN.o.2.2.2 x (List.mem_cons_of_mem _ hx)⟩
     ·rw [VT.o]; simp [sW.t]
     ·intro x hx;rcases List.mem_append.1 hx with hx | hx
      ·exact HN.o.2.1 x hx
      ·rw [List.mem_singleton.1 hx]; exact mR.o
     ·have h1:=qN.o.2; have h2:=tq t.body; omega
    case measure=>simp [intOf]; omega
namespace Md
theorem LV: ∀l:aZ,xu l=dh l
 | .nil=>rfl
 | .cons _ _ _ k r=>by rw [xu,dh,LV k,LV r]
theorem ai2 (h:dL):wM h=fG h:=by unfold wM fG; rw [LV,LV]
def gW:Nat->Nat
 | 0=>0
 | n + 1=>100 + 20 * gW n
theorem Ii: ∀(a b:aH),(a.app b).len=a.len + b.len
 | .nil,b=>by show b.len=0 + b.len; omega
 | .cons h x y r,b=>by show (r.app b).len + 1=(r.len + 1) + b.len;rw [Ii r b]; omega
theorem OP (p:Pr) (j:Nat) (tn gI:ByteArray): ∀(l ar:aH) (f g:List (List UInt8)),(gK p j tn gI l ar f g).err=0->xE l->kJ l<=l.len * gW (6 - ar.len)
 | .nil,_,_,_,_,_=>Nat.zero_le _
 | .cons h b e r,ar,f,g,h0,hs=>by
   obtain ⟨s1,⟨s2,s3⟩,⟨s4,s5⟩,s6⟩:=hs;rw [gK] at h0;split at h0
   ·exact absurd (show (2:Int)=0 from h0) (by decide)
   ·rename_i h6;split at h0
    ·rename_i h1; rw [show iE p j tn gI ar (mem f) (mem g) h=0 from h0] at h1; exact absurd h1 (by decide)
    ·split at h0
     ·rename_i h2; rw [h0] at h2; exact absurd h2 (by decide)
     ·rename_i h2;split at h0
      ·rename_i h3; rw [h0] at h3; exact absurd h3 (by decide)
      ·rename_i h3;have ib:=OP p j tn gI b _ _ _ (by simpa using h2) s3;have ie:=OP p j tn gI e _ _ _ (by simpa using h3) s5;have ir:=OP p j tn gI r _ _ _ h0 s6;have h6':ar.len<=5:=(by simp at h6; omega);have el:(ar.app (.cons h b e .nil)).len=ar.len + 1:=(by rw [Ii]; rfl);rw [el] at ib ie;obtain ⟨q,hq⟩: ∃q,q=gW (6 - (ar.len + 1)):=⟨_,rfl⟩;have hg:gW (6 - ar.len)=100 + 20 * q:=(by rw [hq,show 6 - ar.len=(6 - (ar.len + 1)) + 1 by omega,gW]);rw [<- hq] at ib ie;rw [hg] at ir ⊢;have b1:b.len * q<=10 * q:=Nat.mul_le_mul_right _ s2;have e1:e.len * q<=10 * q:=Nat.mul_le_mul_right _ s4;have hl:(aH.cons h b e r).len=r.len + 1:=rfl;rw [kJ,hl,Nat.add_mul,Nat.one_mul,<- ai2];omega
theorem Uj (p:Pr) (gI:ByteArray): ∀(l:List Th) (j:Nat) (f g:List (List UInt8)),(ji p gI l j f g).err=0->(∀t ∈ l,t.body.len<=20∧xE t.body)->zF l<=l.length * (20 * gW 6)
 | [],_,_,_,_,_=>Nat.zero_le _
 | t ::r,j,f,g,h0,hs=>by
   rw [ji] at h0;split at h0
   ·rename_i h2; rw [h0] at h2; exact absurd h2 (by decide)
   ·rename_i h2;have h1:=OP p j t.nm gI t.body .nil f g (by simpa using h2) (hs t List.mem_cons_self).2;have h3:=Uj p gI r _ _ _ h0 (fun x hx=>hs x (List.mem_cons_of_mem _ hx));have h4:t.body.len * gW 6<=20 * gW 6:=Nat.mul_le_mul_right _ (hs t List.mem_cons_self).1;have h5:kJ t.body<=t.body.len * gW 6:=h1;rw [zF,List.length_cons,Nat.add_mul,Nat.one_mul];omega
theorem OJ: ∀l:aH,xE l->l.Ev (fun h=>fG h<=1000)
 | .nil,_=>trivial
 | .cons h b e r,hs=>⟨by have:=hs.1; rw [ai2] at this; omega,OJ b hs.2.1.2,OJ e hs.2.2.1.2,OJ r hs.2.2.2⟩
theorem Xa {p:Pr} (h0:(jr p).1=0) (hs: ∀t ∈ p.ts,t.body.len<=20∧xE t.body):Fit p:=by
 have hz:=qJ h0;refine ⟨?_,fun t ht=>OJ _ (hs t ht).2⟩;have h1:=Uj p (kC p) p.ts 0 [] [] hz.2.2.2.2.2 hs;have h2:p.ts.length<=4:=by have:=hz.2.2.1; omega
 have h3:p.ts.length * (20 * gW 6)<=4 * (20 * gW 6):=Nat.mul_le_mul_right _ h2;have h4:4 * (20 * gW 6)<=100000000000:=by decide
 omega
end Md
end Go.Proofs.YtfbbaiejbjdfbaaGreatDoor
