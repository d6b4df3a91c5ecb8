/-
  Contracts of registers (the program's and the reference's) and of the generator's regs.
  Contract of the generator's regs.
  Plain facts of the code: its registers are small; threads have few locals. No walk in sight.
  Contract of compile's Program.
-/
import Derived.Test.YtdajkddgnfgijaaGreatDoorGCA
import Derived.Test.YtdajkddgnfgijaaGreatDoorGME
import Derived.IntWalk
import Derived.Test.YtdajkddgnfgijaaGreatDoorGCB
import Derived.Test.YtdajkddgnfgijaaGreatDoorGPI
import Derived.Test.YtdajkddgnfgijaaGreatDoorGCC
import Derived.Test.YtdajkddgnfgijaaGreatDoorGCD
section
set_option linter.unusedSimpArgs false
set_option linter.unusedVariables false
namespace Go.Proofs.YtdajkddgnfgijaaGreatDoor
open Go.RowKit
open Md
theorem J9 {W:World} {g:Nat} {t:TypeId} {fr:Nat × Nat} {cs:Array Value} (h:W.heap[g]? =some (.cells cs t fr)): ∀(l:List Int) (k:Nat),(∀j (n:Int),l[j]? =some n→cs[k + j]? =some (.int .i64 n))→(∀n ∈ l,dR n)→dP W W.heap.size l (some ⟨g,0,none⟩) k
 | [],_,_,_=>trivial
 | n ::r,k,hc,hi=>⟨⟨g,0,rfl,(Array.getElem?_eq_some_iff.1 h).1,by rw [Nat.zero_add]; exact aB h (hc 0 n rfl)⟩,J9 h r (k + 1) (fun j m hm=>by
     have:=hc (j + 1) m (by simpa using hm)
     rw [show k + 1 + j=k + (j + 1) by omega]; exact this) (fun m hm=>hi m (List.mem_cons_of_mem _ hm))⟩
def YW (x:bS) (w:World) (e:Ending) (w':World):Prop:= ∃ao cap,e= .returned (.slice ao (iW x).length cap)∧dP w' w'.heap.size (iW x) ao 0∧Below w.heap.size w w'∧ ∀q,ao=some q→w.heap.size≤q.block
theorem pq {x:bS} {w:World} {l:List Int} {cs:Array Value} {o:Obj} {t:TypeId} {n:Nat} (hr:iW x=l) (hc:cs=(l.map (fun n=>Value.int .i64 n)).toArray) (hn:n=l.length) (hi: ∀n ∈ l,dR n):YW x w (.returned (.slice (some ⟨w.heap.size + 1,0,none⟩) n n)) ((w.alloc o).alloc (.cells cs t)):=by
 subst hc hn
 rw [← hr] at *
 refine ⟨_,_,rfl,?_,(aj _ _).alloc (by simp) _,fun q e=>by injection e with e; subst e; exact Nat.le_succ _⟩
 have hg:=heap_alloc_new (w.alloc o) (.cells ((iW x).map (fun n=>Value.int .i64 n)).toArray t)
 have e:(w.alloc o).heap.size=w.heap.size + 1:=by simp
 rw [e] at hg
 refine J9 hg (iW x) 0 (fun j n hn=> ?_) hi
 simp [hn]
set_option maxHeartbeats 2000000 in
theorem ML (x:bS) (w:World) (hi: ∀r ∈ iW x,dR r):Calls Tryz.prog 72 #[Sm x] w (YW x w):=by
 have hcs:x.op=1∨x.op=6∨x.op=10∨x.op=27∨x.op=2∨x.op=3∨x.op=4∨x.op=7∨x.op=8∨x.op=26∨x.op=9∨(x.op≠1∧x.op≠6∧x.op≠10∧x.op≠27∧x.op≠2∧x.op≠3∧x.op≠4∧x.op≠7∧x.op≠8∧x.op≠26∧x.op≠9):=by omega
 unfold Sm
 rcases hcs with hop | hop | hop | hop | hop | hop | hop | hop | hop | hop | hop | hop
 ·obtain ⟨op,a,b,c,n,st⟩:=x
  obtain rfl:op=1:=hop
  go_enter Tryz.func72,Tryz.ntmps72
  go_wp2
  all_goals (go_ret; exact pq (l:=[a]) rfl rfl rfl (by have:=hi; simp only [iW] at this; simpa using this))
 ·obtain ⟨op,a,b,c,n,st⟩:=x
  obtain rfl:op=6:=hop
  go_enter Tryz.func72,Tryz.ntmps72
  go_wp2
  all_goals (go_ret; exact pq (l:=[a]) rfl rfl rfl (by have:=hi; simp only [iW] at this; simpa using this))
 ·obtain ⟨op,a,b,c,n,st⟩:=x
  obtain rfl:op=10:=hop
  go_enter Tryz.func72,Tryz.ntmps72
  go_wp2
  all_goals (go_ret; exact pq (l:=[a]) rfl rfl rfl (by have:=hi; simp only [iW] at this; simpa using this))
 ·obtain ⟨op,a,b,c,n,st⟩:=x
  obtain rfl:op=27:=hop
  go_enter Tryz.func72,Tryz.ntmps72
  go_wp2
  all_goals (go_ret; exact pq (l:=[a]) rfl rfl rfl (by have:=hi; simp only [iW] at this; simpa using this))
 ·obtain ⟨op,a,b,c,n,st⟩:=x
  obtain rfl:op=2:=hop
  go_enter Tryz.func72,Tryz.ntmps72
  go_wp2
  all_goals (go_ret; exact pq (l:=[a,b]) rfl rfl rfl (by have:=hi; simp only [iW] at this; simpa using this))
 ·obtain ⟨op,a,b,c,n,st⟩:=x
  obtain rfl:op=3:=hop
  go_enter Tryz.func72,Tryz.ntmps72
  go_wp2
  all_goals (go_ret; exact pq (l:=[a,b]) rfl rfl rfl (by have:=hi; simp only [iW] at this; simpa using this))
 ·obtain ⟨op,a,b,c,n,st⟩:=x
  obtain rfl:op=4:=hop
  go_enter Tryz.func72,Tryz.ntmps72
  go_wp2
  all_goals (go_ret; exact pq (l:=[a,b,c]) rfl rfl rfl (by have:=hi; simp only [iW] at this; simpa using this))
 ·obtain ⟨op,a,b,c,n,st⟩:=x
  obtain rfl:op=7:=hop
  go_enter Tryz.func72,Tryz.ntmps72
  go_wp2
  all_goals (go_ret; exact pq (l:=[a,c]) rfl rfl rfl (by have:=hi; simp only [iW] at this; simpa using this))
 ·obtain ⟨op,a,b,c,n,st⟩:=x
  obtain rfl:op=8:=hop
  go_enter Tryz.func72,Tryz.ntmps72
  go_wp2
  all_goals (go_ret; exact pq (l:=[b]) rfl rfl rfl (by have:=hi; simp only [iW] at this; simpa using this))
 ·obtain ⟨op,a,b,c,n,st⟩:=x
  obtain rfl:op=26:=hop
  go_enter Tryz.func72,Tryz.ntmps72
  go_wp2
  all_goals (go_ret; exact pq (l:=[b]) rfl rfl rfl (by have:=hi; simp only [iW] at this; simpa using this))
 ·obtain ⟨op,a,b,c,n,st⟩:=x
  obtain rfl:op=9:=hop
  go_enter Tryz.func72,Tryz.ntmps72
  go_wp2
  all_goals (go_ret; exact pq (l:=[b,c]) rfl rfl rfl (by have:=hi; simp only [iW] at this; simpa using this))
 ·obtain ⟨op,a,b,c,n,st⟩:=x
  obtain ⟨n1,n2,n3,n4,n5,n6,n7,n8,n9,n10,n11⟩:=hop
  simp only at n1 n2 n3 n4 n5 n6 n7 n8 n9 n10 n11
  have hr:iW ⟨op,a,b,c,n,st⟩=[]:=by unfold iW; simp [n1,n2,n3,n4,n5,n6,n7,n8,n9,n10,n11]
  have HR:=Lib.hid hr
  have k1:(op == 1)=false:=by simpa using n1
  have k2:(op == 6)=false:=by simpa using n2
  have k3:(op == 10)=false:=by simpa using n3
  have k4:(op == 27)=false:=by simpa using n4
  have k5:(op == 2)=false:=by simpa using n5
  have k6:(op == 3)=false:=by simpa using n6
  have k7:(op == 4)=false:=by simpa using n7
  have k8:(op == 7)=false:=by simpa using n8
  have k9:(op == 8)=false:=by simpa using n9
  have k10:(op == 26)=false:=by simpa using n10
  have k11:(op == 9)=false:=by simpa using n11
  clear n1 n2 n3 n4 n5 n6 n7 n8 n9 n10 n11 hr hi
  go_enter Tryz.func72,Tryz.ntmps72
  go_wp2
  all_goals (go_ret; exact ⟨none,0,by rw [HR.out]; rfl,by rw [HR.out]; trivial,aj _ _,fun q e=>by cases e⟩)
end Go.Proofs.YtdajkddgnfgijaaGreatDoor
end
section
set_option linter.unusedSimpArgs false
set_option linter.unusedVariables false
namespace Go.Proofs.YtdajkddgnfgijaaGreatDoor
open Go.RowKit
open Md
def iP (l:List bS):Prop:= ∀i ∈ l,∀r ∈ iW i,-1000000000≤r∧r≤1000000000
set_option maxHeartbeats 4000000 in
set_option maxRecDepth 100000 in
theorem O8 {T:TypeId} {w:World} {L:GL} {W:Wo} {s:iE} {lc:List ByteArray} {al:Option Addr} {cl:Nat} {v:Value} {code:List bS} {a b:Int} (hI:dX T w L W s lc al cl v code a b) (hb:iP code):
 Calls Tryz.prog 32 #[.pointer (some ⟨L.gb,0,none⟩)] w fun e w'=>e= .returned (.int .i64 (uW code lc.length))∧Below w.heap.size w w':=by
 obtain ⟨aZ,-,-,-,-,-,-,q6,q7,-,-,-⟩:=hI.cells
 obtain ⟨ao,cap,rfl,hcap,hcm,hfl⟩:=gF sZ hI.row
 have HF:=Lib.hid hfl
 have HB:=Lib.hid hb
 unfold maxLen at hcm
 generalize hres:uW code lc.length=res
 have HR:=Lib.hid hres
 clear hI hb hfl hres
 go_enter Tryz.func32,Tryz.ntmps32
 go_wp2_with fail
 go_loopw [3,5,7,18,23,24,25] (fun n _ _ i _ _ _ wr=> ∃(k:Nat) (R:List bS) (m:Int),i= .int .i64 k∧n= .int .i64 m∧k + R.length=code.length∧res=uW R m∧iP R∧fT kY 6 wr wr.heap.size R ao k∧Below w.heap.size w wr) (fun _ _ _ i _ _ _ _=>code.length - (intOf i).toNat)
 case atStart=>exact ⟨0,code,lc.length,rfl,rfl,by simp,HR.out.symm,HB.out,HF.out,Below.refl _ _⟩
 case round=>
  obtain ⟨k,R,m,rfl,rfl,hlen,heq,hrb,hrow,hbel⟩:=hrel
  have HE:=Lib.hid heq
  have kV:=Lib.hid hbel
  clear heq hbel HF
  cases R with
  | nil=>
    obtain rfl:k=code.length:=by simpa using hlen
    go_wp2_with fail
    go_ret
    exact ⟨bG HE.out.symm,kV.out⟩
  | cons x R=>
    obtain ⟨⟨b1,off,rfl,hb1,hcs⟩,hrest⟩:=hrow
    simp only [List.length_cons] at hlen
    have hkl:k < code.length:=by omega
    have x0:=hcs 0 _ rfl
    have x1:=hcs 1 _ rfl
    have x2:=hcs 2 _ rfl
    have x3:=hcs 3 _ rfl
    have x4:=hcs 4 _ rfl
    have x5:=hcs 5 _ rfl
    simp only [Nat.add_zero] at x0
    have jc:=Lib.hid hrest
    have Uf:=Lib.hid (And.intro (hrb x List.mem_cons_self) (show iP R from fun i hi=>hrb i (List.mem_cons_of_mem _ hi)))
    clear hcs hrest hrb
    go_upto_region 5 with fail
    generalize hW:World.alloc wr _=w2
    obtain ⟨nb,hnb⟩: ∃n,wr.heap.size=n:=⟨_,rfl⟩
    have HB2:Hid (Below wr.heap.size wr w2):=Lib.hid (by rw [← hW]; exact aj _ _)
    have HX:Hid (w2.heap[nb]? =some (.cells (kY x).toArray 42 (0,0))):=Lib.hid (by rw [← hW,← hnb]; exact heap_alloc_new _ _)
    rw [hnb]
    clear hW hnb x0 x1 x2 x3 x4 x5
    have x0:=aB (j:=0) HX.out rfl
    have x1:=aB (j:=1) HX.out rfl
    have x2:=aB (j:=2) HX.out rfl
    have x3:=aB (j:=3) HX.out rfl
    have x4:=aB (j:=4) HX.out rfl
    have x5:=aB (j:=5) HX.out rfl
    go_wp2_with fail
    refine (ML x w2 (fun r hr=>by have:=Uf.out.1 r hr; unfold dR; omega)).mono ?_
    rintro e w3 ⟨ao3,ap0,rfl,hin,hb3,-⟩
    have jT:=Lib.hid hin
    have HB3:=Lib.hid (kV.out.trans ((HB2.out.trans (hb3.mono HB2.out.size)).mono kV.out.size))
    have HR3:=Lib.hid ((jc.out.same HB2.out).same hb3)
    have HL3:Hid ((iW x).length≤3):=Lib.hid (by unfold iW; repeat' split
                                                all_goals simp)
    clear hin hb3 x0 x1 x2 x3 x4 x5
    have HE2:Hid (res=uW R (Rl (iW x) m)):=Lib.hid HE.out
    have WC:=Lib.hid Uf.out.1
    generalize iW x=rs at *
    go_wp2_with fail
    go_loopw [3,7,25] (fun n _ i wq=> ∃(j:Nat) (S:List Int) (m2:Int),i= .int .i64 j∧n= .int .i64 m2∧j + S.length=rs.length∧res=uW R (Rl S m2)∧(∀r ∈ S,-1000000000≤r∧r≤1000000000)∧dP wq wq.heap.size S ao3 j∧wq=w3) (fun _ _ i _=>rs.length - (intOf i).toNat)
    case atStart=>exact ⟨0,rs,m,rfl,rfl,by simp,HE2.out,WC.out,jT.out,rfl⟩
    case round=>
     obtain ⟨j,S,m2,rfl,rfl,Gn,heq2,PK,hin2,rfl⟩:=hrel
     have HQ:=Lib.hid heq2
     have h3:=HL3.out
     clear heq2
     cases S with
     | nil=>
       obtain rfl:j=rs.length:=by simpa using Gn
       have xK:Hid (res=uW R m2):=HQ
       go_wp2_with fail
       go_roundw
       case rel=>exact ⟨k + 1,R,m2,by go_num,rfl,by omega,xK.out,Uf.out.2,HR3.out,HB3.out⟩
       case measure=>simp [intOf]; omega
     | cons r S=>
       obtain ⟨⟨b4,aq1,rfl,hb4,y0⟩,NJ⟩:=hin2
       simp only [List.length_cons] at Gn
       have hjl:j < rs.length:=by omega
       have hr:=PK r List.mem_cons_self
       have hwr:IntKind.i64.wrap (r + 1)=r + 1:=IntWalk.i64_in _ (by omega)
       have HR4:=Lib.hid NJ
       have HRB:=Lib.hid (fun q hq=>PK q (List.mem_cons_of_mem _ hq))
       clear NJ PK
       go_wp2_with fail
       go_roundw
       case rel=>exact ⟨j + 1,S,max m2 (r + 1),by go_num,by first | rfl | simp [hwr],by omega,HQ.out,HRB.out,HR4.out,trivial⟩
       case measure=>simp [intOf]; omega
end Go.Proofs.YtdajkddgnfgijaaGreatDoor
end
section
set_option linter.unusedSimpArgs false
set_option linter.unusedVariables false
namespace Go.Proofs.YtdajkddgnfgijaaGreatDoor
open Go.RowKit
open Md
theorem iP.app {a b:List bS} (ha:iP a) (hb:iP b):iP (a++b):=fun i hi=>by
 rcases List.mem_append.1 hi with h | h
 ·exact ha i h
 ·exact hb i h
theorem iP.one {i:bS} (h: ∀r ∈ iW i,-1000000000≤r∧r≤1000000000):iP [i]:=fun j hj=>by
 rw [List.mem_singleton.1 hj]; exact h
theorem iP.nil:iP []:=fun i hi=>by cases hi
theorem Ji {lc:List ByteArray} (h:lc.length≤1000) (nm:ByteArray): -1≤fV lc nm∧fV lc nm≤1000:=by
 have:=JJ lc nm; omega
theorem I6 {W:Wo} {lc:List ByteArray} (hlc:lc.length≤1000) (st:Int): ∀(l:bL) (d:Int),0≤d→d + fD l≤100000→iP (zN W lc st l d)
 | .nil,_,_,_=>iP.nil
 | .cons op n nm kids rest,d,h0,h1=>by
   rw [fD] at h1
   have hk:=I6 hlc (W:=W) st kids d h0 (by omega)
   have hr:=I6 hlc (W:=W) st rest (d + 1) (by omega) (by omega)
   have hix:=Ji hlc nm
   rw [zN]
   refine iP.app ?_ hr
   split
   ·refine iP.one ?_
    unfold BD
    split
    ·intro r hr; simp [iW] at hr; omega
    ·split
     ·intro r hr; simp [iW] at hr; omega
     ·intro r hr; simp [iW] at hr; omega
   ·refine iP.app hk (iP.one ?_)
    unfold Ij
    split
    ·intro r hr; simp [iW] at hr; omega
    ·split
     ·intro r hr; simp [iW] at hr; omega
     ·intro r hr; simp [iW] at hr; omega
theorem BG {W:Wo} {lc:List ByteArray} (hlc:lc.length≤1000) (st op n:Int) (nm:ByteArray) (kids:bL) (d:Int) (h0:0≤d) (h1:d + 1 + fD kids≤100000):iP (jX W lc st op n nm kids d):=by
 have:=I6 hlc (W:=W) st (.cons op n nm kids .nil) d h0 (by simp only [fD]; omega)
 rw [zo,zN,List.append_nil] at this
 exact this
theorem TG {W:Wo} {lc:List ByteArray} (hlc:lc.length≤1000) (st:Int) {h:aX} (hw:gH h≤1000):iP (rV W lc st h):=by
 have hix:=Ji hlc h.nm
 have hw':=hw
 unfold gH at hw'
 have hx:=BG (W:=W) hlc st h.dN h.xn h.dM h.aR lc.length (by omega) (by omega)
 have hx1:=BG (W:=W) hlc st h.dN h.xn h.dM h.aR (lc.length + 1) (by omega) (by omega)
 unfold rV
 split
 ·unfold Ba
  split
  ·refine iP.app hx (iP.one ?_)
   split
   ·intro r hr; simp [iW] at hr; omega
   ·intro r hr; simp [iW] at hr; omega
  ·rename_i op n nm kids r hi
   have hk:fD h.idx=1 + fD kids + fD r:=by rw [hi,fD]
   refine iP.app (iP.app (BG hlc st op n nm kids lc.length (by omega) (by omega)) hx1) (iP.one ?_)
   intro r hr; simp [iW] at hr; omega
 ·repeat' split
  all_goals first
   | exact iP.nil
   | exact iP.app hx (iP.one (by intro r hr; simp [iW] at hr; omega))
   | exact iP.one (by intro r hr; simp [iW] at hr; try omega)
theorem V7 {W:Wo} {lc:List ByteArray} (hlc:lc.length≤1000) (st:Int) {h:aX} (hw:gH h≤1000) {B E:List bS} (hB:iP B) (hE:iP E) (ne:Bool) (pos:Nat):iP (yV W lc st h (fK W lc st h lc.length) B E ne pos):=by
 have hw':=hw
 unfold gH at hw'
 have hx:iP (fK W lc st h lc.length):=BG (W:=W) hlc st h.dN h.xn h.dM h.aR lc.length (by omega) (by omega)
 have br: ∀x:Int,iP [⟨10,lc.length,x,0,0,st⟩]:=fun x=>iP.one (by intro r hr; simp [iW] at hr; omega)
 have jm: ∀x:Int,iP [⟨5,x,0,0,0,st⟩]:=fun x=>iP.one (by intro r hr; simp [iW] at hr)
 unfold yV
 split
 ·split
  ·exact (hx.app (br _)).app hB
  ·exact (((hx.app (br _)).app hB).app (jm _)).app hE
 ·split
  ·exact ((hx.app (br _)).app hB).app (jm _)
  ·split
   ·rename_i h48
    rw [Bool.and_eq_true,decide_eq_true_eq,decide_eq_true_eq] at h48
    have hb:wG h.op=11∨wG h.op=13∨wG h.op=15∨wG h.op=17∨wG h.op=19:=by
     unfold wG
     repeat' split
     all_goals simp
    refine ((iP.one ?_).app hB).app (iP.one ?_)
    ·intro r hr
     rcases hb with e | e | e | e | e <;> rw [e] at hr <;> simp [iW] at hr
    ·intro r hr
     rcases hb with e | e | e | e | e <;> rw [e] at hr <;> simp [iW] at hr
   ·exact TG hlc st hw
theorem DY {W:Wo} {lc:List ByteArray} (hlc:lc.length≤1000): ∀(l:aP) (nx pos:Nat),l.Ev (H7 W)→iP (iI W lc l nx pos)
 | .nil,_,_,_=>iP.nil
 | .cons h b e r,nx,pos,hev=>by
   obtain ⟨h1,h2,h3,h4⟩:=hev
   rw [iI]
   exact (V7 hlc _ h1.2 (DY hlc b _ _ h2) (DY hlc e _ _ h3) _ _).app (DY hlc r _ _ h4)
theorem TK {a:List bS} (h:iP a):iP (a++[⟨28,0,0,0,0,-1⟩]):=h.app (iP.one (by intro r hr; simp [iW] at hr))
theorem Fu {ds:List De} {ts:List Th} : ∀ {l:List Th},(AA ds ts l).1=0→ ∀t ∈ l,t.cZ.length≤4
 | [],_=>fun t ht=>by cases ht
 | t ::r,h=>by
   rw [AA] at h
   split at h
   ·exact absurd (show (2:Int)=0 from h) (by decide)
   ·rename_i h4
    split at h
    ·exact absurd (show (4:Int)=0 from h) (by decide)
    ·intro x hx
     rcases List.mem_cons.1 hx with rfl | hx
     ·simp at h4; omega
     ·exact Fu h x hx
theorem OU {p:Pr} (h:(oH p).1=0): ∀t ∈ p.ts,t.cZ.length≤4:=by
 unfold oH at h
 split at h
 ·exact absurd (show (4:Int)=0 from h) (by decide)
 ·exact Fu h
end Go.Proofs.YtdajkddgnfgijaaGreatDoor
end
section
set_option linter.unusedSimpArgs false
set_option linter.unusedVariables false
namespace Go.Proofs.YtdajkddgnfgijaaGreatDoor
open Go.RowKit
open Md
namespace Md
structure rM where
 regs:Int
 is:List bS
 ao:Option Addr
 cap:Nat
def rM.t (x:rM):R8:=⟨x.regs,x.is⟩
def JQ (x:rM):List Value:=[.int .i64 x.regs,.slice x.ao x.is.length x.cap]
def rM.I (x:rM) (w:World):Prop:=fT kY 6 w w.heap.size x.is x.ao 0
def KV (w:World) (B:Nat):List R8→Option Addr→Nat→Prop
 | [],_,_=>True
 | t ::r,ao,k=>(∃b off dZ dG,ao=some ⟨b,off,none⟩∧b < B∧w.cell? ⟨b,off + k * 2,none⟩=some (.int .i64 t.regs)∧w.cell? ⟨b,off + k * 2 + 1,none⟩=some (.slice dZ t.is.length dG)∧t.is.length≤1000000000000∧fT kY 6 w B t.is dZ 0)∧KV w B r ao (k + 1)
def AY:List Th→Nat
 | []=>0
 | t ::r=>kZ t.body + AY r
def Fit (p:Pr):Prop:=AY p.ts≤100000000000∧ ∀t ∈ p.ts,t.body.Ev (fun h=>gH h≤1000)
theorem Kn: ∀l:List Th,AV l≤AY l
 | []=>Nat.le_refl _
 | t ::r=>by have:=rG t.body; have:=Kn r; rw [AV,AY]; omega
end Md
theorem TN: ∀x:rM,(JQ x).length=2:=fun _=>rfl
theorem aa7 (x:rM): ∀u ∈ JQ x,u.oneCell'=true:=by intro u hu; simp [JQ] at hu; rcases hu with rfl | rfl <;> rfl
theorem UA:(Tryz.prog.info? 45).map (fun i=>(i.zero,i.size,i.bytes))=some (some (.agg #[.int .i64 0,.slice none 0 0]),2,32):=by kernel_rfl
abbrev wI (B:Nat) (w:World) (v:Value) (l:List rM):Prop:=Grow JQ 2 rM.I 45 B w v l
theorem Li {w:World} {B B' m m' n n':Nat} {e e':TypeId} {v v':Value} {xs xs':List Value} (h:w.ownsRow B e m v n xs) (h':w.ownsRow B' e' m' v' n' xs') (hne:e≠e'): ∀k,v.ownBlock=some k→v'.ownBlock≠some k:=by
 intro k hk hk'
 rcases h.2 with ⟨rfl,-⟩ | ⟨g,cap,cur,rfl,-,hg,-⟩
 ·cases hk
 rcases h'.2 with ⟨rfl,-⟩ | ⟨g',cap',cur',rfl,-,hg',-⟩
 ·cases hk'
 injection hk with hk; injection hk' with hk'
 simp only at hk hk'
 subst hk; subst hk'
 rw [hg] at hg'
 injection hg' with hg'; injection hg' with _ h2 _
 exact hne h2
theorem Te {w:World} {B:Nat} {g:Option Nat} {ao:Option Addr} {cap:Nat} {is:List bS} {r:Int} (h:w.ownsRow B 42 6 (.slice ao is.length cap) is.length (is.flatMap kY)) (hg: ∀k,(Value.slice ao is.length cap).ownBlock=some k→g≠some k):gG B g w (rM.I ⟨r,is,ao,cap⟩):=fun w' ha=>by
 have h':w'.ownsRow B 42 6 (.slice ao is.length cap) is.length (is.flatMap kY):=by
  refine ⟨h.1,?_⟩
  rcases h.2 with h1 | ⟨q,cap',cur,h1,h2,h3,h4⟩
  ·exact .inl h1
  ·refine .inr ⟨q,cap',cur,h1,h2,?_,h4⟩
   rw [ha.2 q h2 (fun e=>hg q (by rw [h1]; rfl) e.symm) (Array.getElem?_eq_some_iff.1 h3).1]; exact h3
 exact tL sZ h'
theorem JW {w:World} {B:Nat} {v:Value} {l:List rM} (h:wI B w v l) (hl: ∀x ∈ l,x.is.length≤1000000000000): ∃ao cap,v= .slice ao l.length cap∧l.length≤cap∧KV w w.heap.size (l.map rM.t) ao 0:=by
 obtain ⟨hI,ao,cap,hv,hc,hcells⟩:=(h.cells TN).now
 refine ⟨ao,cap,hv,hc,?_⟩
 have: ∀(r:List rM) (k:Nat),(∀i x,r[i]? =some x→l[k + i]? =some x)→KV w w.heap.size (r.map rM.t) ao k:=by
  intro r
  induction r with
  | nil=>exact fun _ _=>trivial
  | cons x r ih=>
    intro k hk
    have hx:=hk 0 x rfl
    obtain ⟨g,rfl,hB,hlt,hcs⟩:=hcells k x hx
    have hm:x ∈ l:=List.mem_of_getElem? hx
    refine ⟨⟨g,0,x.ao,x.cap,rfl,hlt,?_,?_,hl x hm,hI x hm⟩,ih (k + 1) (fun i y hy=>by
     have:=hk (i + 1) y (by simpa using hy)
     rw [show k + 1 + i=k + (i + 1) by omega]; exact this)⟩
    ·have:=hcs 0 _ rfl
     rw [Nat.zero_add]; exact this
    ·have:=hcs 1 _ rfl
     rw [Nat.zero_add]; exact this
 exact this l 0 (fun i x hx=>by rw [Nat.zero_add]; exact hx)
def BbQ (r:Int) (ao:Option Addr) (n cap:Nat) (v:Value) (w':World):Prop:= ∃bb,v= .slice (some ⟨bb,0,none⟩) 1 1∧w'.heap[bb]? =some (.cells #[.int .i64 r,.slice ao n cap] 45 (0,0))
theorem dX.far {T:TypeId} {w w':World} {L:GL} {W:Wo} {s:iE} {lc:List ByteArray} {al:Option Addr} {cl:Nat} {v:Value} {code:List bS} {a b:Int} {g:Option Nat} (h:dX T w L W s lc al cl v code a b) (hg:w.grownBy w' g) (hk: ∀k,g=some k→L.B0≤k∧k≠L.gb∧v.ownBlock≠some k):dX T w' L W s lc al cl v code a b:=by
 have hb:Below L.B0 w w':=⟨hg.os,hg.tape,hg.output,hg.size,fun k hlt=>hg.block k (Nat.lt_of_lt_of_le hlt h.b0) (fun e=>by have:=(hk k e.symm).1; omega)⟩
 exact {blk:=(hg.block _ (Array.getElem?_eq_some_iff.1 h.blk).1 (fun e=>(hk _ e.symm).2.1 rfl)).trans h.blk
        row:=h.row.kept hg (by
         cases hv:v.ownBlock with
         | none=>exact .inl rfl
         | some q=>exact .inr (fun e=>(hk q e.symm).2.2 hv))
        sz:=Nat.le_trans h.sz hg.size,wo:=h.wo.below hb,few:=h.few,lc:=h.lc.below hb}
set_option maxHeartbeats 8000000 in
set_option maxRecDepth 100000 in
theorem JD (p:Pr) (w:World) (aK aM:Option Addr) (aG aH:Nat) (hp:p.At w aK aM) (dI:dw w) (hfit:Fit p) (hok:(nT p).1=0):
 Calls Tryz.prog 12 #[.agg #[.slice aK p.ds.length aG,.slice aM p.ts.length aH]] w fun e w'=> ∃s ao cap,e= .returned (.tuple #[.agg #[.slice s.aC (kL p).cs.length s.cC,.slice s.aL (kL p).ls.length s.cL,.slice s.aN (kL p).ns.length s.cN,.slice s.aF (kL p).fs.length s.cF,.slice s.aT (kL p).ts.length s.cT,.slice s.aS (kL p).ss.length s.cS,.slice ao p.ts.length cap],.int .i64 0,.int .i64 0])∧
  oI w' w'.heap.size (kL p) s∧KV w' w'.heap.size (zL (kL p) p.ts 0) ao 0∧p.ts.length≤cap∧Below w.heap.size w w':=by
 have HP:=Lib.hid hp
 have gU:=Lib.hid dI
 have Ws:=Lib.hid hfit
 have pJ:=Lib.hid (okP hok)
 have UY:=Lib.hid (wX hok)
 have NV:=Lib.hid hok
 have Ky:Hid (BU p=kL p):=Lib.hid (by unfold BU; rw [hok]; rfl)
 have hpe:nT p=(0,(nT p).2):=by rw [← hok]
 have htl:p.ts.length≤4:=by have:=UY.out.2.2.1; omega
 have Eh:=Lib.hid htl
 clear hp dI hfit hok
 go_enter Tryz.func12,Tryz.ntmps12
 go_upto_region 1 with fail
 generalize hW:World.alloc (World.alloc w _) _=w1
 obtain ⟨bp,hbp⟩: ∃n,w.heap.size=n:=⟨_,rfl⟩
 have HB1:Hid (Below w.heap.size w w1):=Lib.hid (by rw [← hW]; exact (aj _ _).alloc (by simp) _)
 have sI:Hid (w1.heap.size=bp + 2):=Lib.hid (by rw [← hW,← hbp]; simp)
 have Bo:Hid (w1.heap[bp]? =some (.cells #[.slice aK p.ds.length aG,.slice aM p.ts.length aH] 25 (0,0))):=Lib.hid (by
  rw [← hW,← hbp,heap_alloc_old _ _ (by simp)]; exact heap_alloc_new _ _)
 have A9:Hid (w1.heap[bp + 1]? =some (.cells #[.slice none 0 0,.slice none 0 0,.slice none 0 0,.slice none 0 0,.slice none 0 0,.slice none 0 0,.slice none 0 0] 38 (0,0))):=Lib.hid (by
  have:=heap_alloc_new (w.alloc (.cells #[.slice aK p.ds.length aG,.slice aM p.ts.length aH] 25)) (.cells #[.slice none 0 0,.slice none 0 0,.slice none 0 0,.slice none 0 0,.slice none 0 0,.slice none 0 0,.slice none 0 0] 38)
  rw [← hW,← hbp]; simpa using this)
 have Dx:=Lib.hid hbp
 rw [hbp]
 clear hW hbp
 have y0:=aB (j:=0) Bo.out rfl
 have y1:=aB (j:=1) Bo.out rfl
 go_wp2_with fail
 refine (Ck p w1 aK aM aG aH (HP.out.same HB1.out) (gU.out.same HB1.out)).mono ?_
 rintro e w2 ⟨rfl,hb2⟩
 have HB2:=Lib.hid (HB1.out.trans (hb2.mono HB1.out.size))
 have wC:=Lib.hid ((hb2.block _ (Array.getElem?_eq_some_iff.1 Bo.out).1).trans Bo.out)
 have ql:=Lib.hid ((hb2.block _ (Array.getElem?_eq_some_iff.1 A9.out).1).trans A9.out)
 rw [show (nT p).1=0 from NV.out]
 clear hb2 y0 y1 Bo A9 hpe
 generalize (nT p).2=ln at *
 have y0:=aB (j:=0) wC.out rfl
 have y1:=aB (j:=1) wC.out rfl
 go_wp2_with fail
 refine (KZ p w2 aK aM aG aH (HP.out.same HB2.out) (gU.out.same HB2.out) (by have:=Ws.out.1; have:=Kn p.ts; omega)).mono ?_
 rintro e w3 ⟨s,rfl,hwo,hb3,hnew⟩
 have HNW:=Lib.hid hnew
 rw [Ky.out] at hwo
 have MZ:=Lib.hid hwo
 have HB3:=Lib.hid (HB2.out.trans (hb3.mono HB2.out.size))
 have CZ:=Lib.hid ((hb3.block _ (Array.getElem?_eq_some_iff.1 wC.out).1).trans wC.out)
 have CB:=Lib.hid ((hb3.block _ (Array.getElem?_eq_some_iff.1 ql.out).1).trans ql.out)
 rw [Ky.out]
 have HS2:=Lib.hid ((Array.getElem?_eq_some_iff.1 ql.out).1)
 clear hwo hb3 y0 y1 wC ql hnew
 generalize Rh:kL p=W at *
 have ab9:=Lib.hid Rh
 clear Rh
 unfold KS
 have y1:=aB (j:=1) CZ.out rfl
 go_upto_region 6 with fail
 obtain ⟨bc,hbc⟩: ∃n,w3.heap.size=n:=⟨_,rfl⟩
 generalize Cc:World.alloc (World.alloc w3 _) _=w5
 have mR:Hid (Below w3.heap.size w3 w5):=Lib.hid (by rw [← Cc]; exact (aj _ _).alloc (by simp) _)
 have Yg:Hid (w5.heap[bc]? =some (.cells #[.slice s.aC W.cs.length s.cC,.slice s.aL W.ls.length s.cL,.slice s.aN W.ns.length s.cN,.slice s.aF W.fs.length s.cF,.slice s.aT W.ts.length s.cT,.slice s.aS W.ss.length s.cS,.slice none 0 0] 38 (0,0))):=Lib.hid (by
  rw [← Cc,← hbc,heap_alloc_old _ _ (by simp)]; exact heap_alloc_new _ _)
 have Yv:Hid (w5.heap[bc + 1]? =some (.cells (KG W s [] none 0 (.slice none 0 0) 0 0) 90 (0,0))):=Lib.hid (by
  have:=heap_alloc_new (w3.alloc (.cells #[.slice s.aC W.cs.length s.cC,.slice s.aL W.ls.length s.cL,.slice s.aN W.ns.length s.cN,.slice s.aF W.fs.length s.cF,.slice s.aT W.ts.length s.cT,.slice s.aS W.ss.length s.cS,.slice none 0 0] 38)) (.cells (KG W s [] none 0 (.slice none 0 0) 0 0) 90)
  rw [show (w3.alloc (.cells #[.slice s.aC W.cs.length s.cC,.slice s.aL W.ls.length s.cL,.slice s.aN W.ns.length s.cN,.slice s.aF W.fs.length s.cF,.slice s.aT W.ts.length s.cT,.slice s.aS W.ss.length s.cS,.slice none 0 0] 38)).heap.size=w3.heap.size + 1 by simp] at this
  rw [← Cc,← hbc]; exact this)
 have jy:Hid (w5.heap.size=bc + 2):=Lib.hid (by rw [← Cc,← hbc]; simp)
 have Va:=Lib.hid hbc
 rw [hbc]
 obtain ⟨L,hL0,Rq,hL1⟩: ∃L:GL,L.B0=bc∧bc + 1=L.gb∧L.B1=bc + 2:=⟨⟨bc,bc + 1,bc + 2,by omega,by omega⟩,rfl,rfl,rfl⟩
 rw [Rq]
 have HL:=Lib.hid (And.intro hL0 (And.intro Rq hL1))
 have ZH:=Lib.hid ((mR.out.block _ (Array.getElem?_eq_some_iff.1 CZ.out).1).trans CZ.out)
 have FQ:Hid (dX 90 w5 L W s [] none 0 (.slice none 0 0) [] 0 0):=Lib.hid
  {blk:=by rw [← Rq]; exact Yv.out,row:=World.ownsRow_nil _ _ _ _,sz:=by rw [hL1,jy.out]; exact Nat.le_refl _,wo:=by rw [hL0,← hbc]; exact MZ.out.below mR.out,few:=Nat.zero_le _,lc:=trivial}
 have Fx:Hid (gJ w5 bc p.ts aM 0):=Lib.hid (by
  have h1:=HP.out.2.2.2.below (HB3.out.trans (mR.out.mono HB3.out.size))
  exact h1.mono (by rw [← hbc]; exact HB3.out.size))
 have HLC:=Lib.hid (OU UY.out.2.2.2.1)
 have Aw:Hid (∀t ∈ p.ts,iy t.body=true):=Lib.hid (fun t ht=>by
  have h1:=UY.out.1
  unfold tq at h1
  simp only [Bool.and_eq_true] at h1
  have:=List.all_eq_true.1 h1.1.2 t ht
  unfold sW at this
  simp only [Bool.and_eq_true] at this
  exact this.2)
 have Zb:=Lib.hid (ED HP.out.2.2.2)
 clear Cc hbc hL0 Rq hL1 y1 Yv MZ CZ
 have y1:=aB (j:=1) ZH.out rfl
 go_wp2_with fail
 go_loopw [10,31] (fun _ i wr=> ∃(k:Nat) (R:List Th) (xs:List rM) (vT:Value) (nx:Nat) (code:List bS) (v:Value) (b:Int) (lc:List ByteArray) (al:Option Addr) (cl:Nat),i= .int .i64 k∧k + R.length=p.ts.length∧zL W p.ts 0=xs.map rM.t++zL W R nx∧xs.length=k∧(∀x ∈ xs,x.is.length≤1000000000000)∧dX 90 wr L W s lc al cl v code (nx:Nat) b∧wI L.B1 wr vT xs∧
  wr.heap[bc]? =some (.cells #[.slice s.aC W.cs.length s.cC,.slice s.aL W.ls.length s.cL,.slice s.aN W.ns.length s.cN,.slice s.aF W.fs.length s.cF,.slice s.aT W.ts.length s.cT,.slice s.aS W.ss.length s.cS,vT] 38 (0,0))∧gJ wr bc R aM k∧Below bc w5 wr∧nx + AY R≤AY p.ts∧(∀t ∈ R,t ∈ p.ts)) (fun _ i _=>p.ts.length - (intOf i).toNat)
 case atStart=>exact ⟨0,p.ts,[],.slice none 0 0,0,[],_,0,[],none,0,rfl,by simp,by simp,rfl,by simp,FQ.out,Grow.nil _ _ _ _ _ _,Yg.out,Fx.out,Below.refl _ _,by simp,fun t h=>h⟩
 case round=>
  obtain ⟨k,R,xs,vT,nx,code,v,b,lc,al,cl,rfl,hlen,heq,hxl,hxs,hge,hgr,hbx,hth,hbel,hwt,hmem⟩:=hrel
  have HE:=Lib.hid heq
  have HG:=Lib.hid hge
  have Xc:=Lib.hid hgr
  have HX:=Lib.hid hbx
  have IB:=Lib.hid hbel
  have HN:=Lib.hid (And.intro hxl (And.intro hxs (And.intro hwt hmem)))
  clear heq hge hgr hbx hbel hxl hxs hwt hmem FQ Fx Yg y1
  cases R with
  | nil=>
    obtain rfl:k=p.ts.length:=by simpa using hlen
    obtain ⟨pW,sO,Ob,hcc,hat⟩:=JW Xc.out HN.out.2.1
    subst Ob
    have HAT:=Lib.hid hat
    have HCAP:=Lib.hid hcc
    have zk:=Lib.hid ((IB.out.block (bp + 1) (by have h1:=(Array.getElem?_eq_some_iff.1 CB.out).1; have h2:=Va.out; omega)).trans ((mR.out.block _ (Array.getElem?_eq_some_iff.1 CB.out).1).trans CB.out))
    have hxl:xs.length=p.ts.length:=HN.out.1
    have HCS:Hid (zL W p.ts 0=xs.map rM.t):=Lib.hid (by rw [HE.out]; simp [zL])
    have Ab:Hid (wr.heap[bc]? =some (.cells #[.slice s.aC W.cs.length s.cC,.slice s.aL W.ls.length s.cL,.slice s.aN W.ns.length s.cN,.slice s.aF W.fs.length s.cF,.slice s.aT W.ts.length s.cT,.slice s.aS W.ss.length s.cS,.slice pW p.ts.length sO] 38 (0,0))):=Lib.hid (by rw [HX.out,hxl])
    have c0:=aB (j:=0) Ab.out rfl
    have c1:=aB (j:=1) Ab.out rfl
    have c2:=aB (j:=2) Ab.out rfl
    have c3:=aB (j:=3) Ab.out rfl
    have c4:=aB (j:=4) Ab.out rfl
    have c5:=aB (j:=5) Ab.out rfl
    have c6:=aB (j:=6) Ab.out rfl
    simp only [List.getElem_toArray,List.getElem_cons_zero,List.getElem_cons_succ] at c0 c1 c2 c3 c4 c5 c6
    have r0:=aB (j:=0) zk.out rfl
    have r1:=aB (j:=1) zk.out rfl
    have r2:=aB (j:=2) zk.out rfl
    have r3:=aB (j:=3) zk.out rfl
    have r4:=aB (j:=4) zk.out rfl
    have r5:=aB (j:=5) zk.out rfl
    have r6:=aB (j:=6) zk.out rfl
    have rf:=fun j=>bH (o:=j) zk.out
    have rf0:=rf 0
    have rf1:=rf 1
    have rf2:=rf 2
    have rf3:=rf 3
    have rf4:=rf 4
    have rf5:=rf 5
    have rf6:=rf 6
    have Cm:=Lib.hid (Nat.lt_of_lt_of_le (Array.getElem?_eq_some_iff.1 HX.out).1 (Nat.le_refl _))
    have hcl:p.ts.length≤sO:=by rw [hxl] at hcc; exact hcc
    have RQ:=Lib.hid hcl
    clear rf hat hth hcc hcl
    go_wp2_with fail
    show bodyPost _ _ _ _ _ (World.setCells wr (bp + 1) 0 [.slice s.aC W.cs.length s.cC,.slice s.aL W.ls.length s.cL,.slice s.aN W.ns.length s.cN,.slice s.aF W.fs.length s.cF,.slice s.aT W.ts.length s.cT,.slice s.aS W.ss.length s.cS,.slice pW p.ts.length sO])
    have qo:=Lib.hid (jR (vs:=[.slice s.aC W.cs.length s.cC,.slice s.aL W.ls.length s.cL,.slice s.aN W.ns.length s.cN,.slice s.aF W.fs.length s.cF,.slice s.aT W.ts.length s.cT,.slice s.aS W.ss.length s.cS,.slice pW p.ts.length sO]) zk.out rfl)
    have wh:Hid (wr.grownBy (World.setCells wr (bp + 1) 0 [.slice s.aC W.cs.length s.cC,.slice s.aL W.ls.length s.cL,.slice s.aN W.ns.length s.cN,.slice s.aF W.fs.length s.cF,.slice s.aT W.ts.length s.cT,.slice s.aS W.ss.length s.cS,.slice pW p.ts.length sO]) (some (bp + 1))):=Lib.hid (cB _ _ _ _)
    have HW3:Hid (bp + 1 < bc):=Lib.hid (by have h1:=(Array.getElem?_eq_some_iff.1 CB.out).1; have h2:=Va.out; omega)
    have OO:Hid (Below w.heap.size w (World.setCells wr (bp + 1) 0 [.slice s.aC W.cs.length s.cC,.slice s.aL W.ls.length s.cL,.slice s.aN W.ns.length s.cN,.slice s.aF W.fs.length s.cF,.slice s.aT W.ts.length s.cT,.slice s.aS W.ss.length s.cS,.slice pW p.ts.length sO])):=Lib.hid (((HB3.out.trans (mR.out.mono HB3.out.size)).trans (IB.out.mono (by have h1:=HB3.out.size; have h2:=Va.out; omega))).trans (dB wh.out (by have:=Dx.out; omega) (by have h1:=HB3.out.size; have h2:=mR.out.size; have h3:=IB.out.size; omega)))
    have HKP:Hid (∀k,w2.heap.size≤k→(World.setCells wr (bp + 1) 0 [.slice s.aC W.cs.length s.cC,.slice s.aL W.ls.length s.cL,.slice s.aN W.ns.length s.cN,.slice s.aF W.fs.length s.cF,.slice s.aT W.ts.length s.cT,.slice s.aS W.ss.length s.cS,.slice pW p.ts.length sO]).heap[k]? =wr.heap[k]?):=Lib.hid (fun k hk=>by
     have h1:=HS2.out
     by_cases hlt:k < wr.heap.size
     ·exact wh.out.block k hlt (by simp; omega)
     ·have e1:(World.setCells wr (bp + 1) 0 [.slice s.aC W.cs.length s.cC,.slice s.aL W.ls.length s.cL,.slice s.aN W.ns.length s.cN,.slice s.aF W.fs.length s.cF,.slice s.aT W.ts.length s.cT,.slice s.aS W.ss.length s.cS,.slice pW p.ts.length sO]).heap.size=wr.heap.size:=by simp [World.setCells,World.setCell]
      rw [Array.getElem?_eq_none (by omega),Array.getElem?_eq_none (by omega)])
    have HGK:Hid (wI L.B1 (World.setCells wr (bp + 1) 0 [.slice s.aC W.cs.length s.cC,.slice s.aL W.ls.length s.cL,.slice s.aN W.ns.length s.cN,.slice s.aF W.fs.length s.cF,.slice s.aT W.ts.length s.cT,.slice s.aS W.ss.length s.cS,.slice pW p.ts.length sO]) (.slice pW xs.length sO) xs):=Lib.hid (Xc.out.next ⟨wh.out.size,fun k h1 h2=>wh.out.block k h2 (by have h3:=HL.out; have h4:=HW3.out; simp; omega)⟩)
    have HWK:Hid (oI (World.setCells wr (bp + 1) 0 [.slice s.aC W.cs.length s.cC,.slice s.aL W.ls.length s.cL,.slice s.aN W.ns.length s.cN,.slice s.aF W.fs.length s.cF,.slice s.aT W.ts.length s.cT,.slice s.aS W.ss.length s.cS,.slice pW p.ts.length sO]) (World.setCells wr (bp + 1) 0 [.slice s.aC W.cs.length s.cC,.slice s.aL W.ls.length s.cL,.slice s.aN W.ns.length s.cN,.slice s.aF W.fs.length s.cF,.slice s.aT W.ts.length s.cT,.slice s.aS W.ss.length s.cS,.slice pW p.ts.length sO]).heap.size W s):=Lib.hid ((oI.keep HG.out.wo HNW.out HKP.out).mono (by have h1:=HG.out.b0; exact Nat.le_trans h1 wh.out.size))
    generalize Mx:World.setCells wr _ _ _=wz at *
    have o0:=aB (j:=0) qo.out rfl
    have o1:=aB (j:=1) qo.out rfl
    have o2:=aB (j:=2) qo.out rfl
    have o3:=aB (j:=3) qo.out rfl
    have o4:=aB (j:=4) qo.out rfl
    have o5:=aB (j:=5) qo.out rfl
    have o6:=aB (j:=6) qo.out rfl
    clear Mx
    obtain ⟨aoQ,cpQ,Vr,-,Xp⟩:=JW HGK.out HN.out.2.1
    injection Vr with QU QZ QS
    subst QU
    have ZX:=Lib.hid Xp
    clear Xp QZ QS
    have Rh:=ab9.out
    subst Rh
    exact bodyPost_ret (v:= .tuple #[.agg #[.slice s.aC (kL p).cs.length s.cC,.slice s.aL (kL p).ls.length s.cL,.slice s.aN (kL p).ns.length s.cN,.slice s.aF (kL p).fs.length s.cF,.slice s.aT (kL p).ts.length s.cT,.slice s.aS (kL p).ss.length s.cS,.slice pW p.ts.length sO],.int .i64 0,.int .i64 0]) (by simp [results,Tryz.results12,go_sem,o0,o1,o2,o3,o4,o5,o6]) rfl ⟨s,pW,sO,rfl,HWK.out,by rw [HCS.out]; exact ZX.out,RQ.out,OO.out⟩
  | cons t R=>
    obtain ⟨⟨b1,off,fF,dW,bV,bC,hao,mF,x0,x1,x2,x3,hok,htx,hst,hcl⟩,hrest⟩:=hth
    have WS:=Lib.hid hao
    subst hao
    simp only [List.length_cons] at hlen
    have hkl:k < p.ts.length:=by omega
    have jc:=Lib.hid hrest
    have ko:=Lib.hid (And.intro hst (And.intro hok.2.2.2 htx))
    have MF:=HN.out.2.2.2 t List.mem_cons_self
    have NI:Hid (t.cZ.length≤4∧iy t.body=true∧t.body.Ev (H7 W)):=Lib.hid ⟨HLC.out t MF,Aw.out t MF,by
     have h1:=pJ.out t MF
     have h2:=Ws.out.2 t MF
     exact (h1.and h2)⟩
    have lW:Hid (nx + (kZ t.body + AY R)≤100000000000∧nx + (kZ t.body + AY R)≤AY p.ts):=Lib.hid (by have h1:=HN.out.2.2.1; have h2:=Ws.out.1; simp only [AY] at h1; omega)
    clear hrest hok htx hst hcl MF
    go_upto_region 9 with fail
    obtain ⟨nb,hnb⟩: ∃n,wr.heap.size=n:=⟨_,rfl⟩
    generalize zT:World.alloc wr _=w6
    have lg:Hid (Below wr.heap.size wr w6):=Lib.hid (by rw [← zT]; exact aj _ _)
    have Vt:Hid (w6.heap[nb]? =some (.cells #[.string t.nm,.int .i64 t.line,.slice fF t.cZ.length dW,.slice bV t.body.len bC] 93 (0,0))):=Lib.hid (by rw [← zT,← hnb]; exact heap_alloc_new _ _)
    have lI:Hid (L.B1≤nb∧nb < w6.heap.size):=Lib.hid ⟨by rw [← hnb]; exact HG.out.sz,(Array.getElem?_eq_some_iff.1 Vt.out).1⟩
    have RO:=Lib.hid (HG.out.below lg.out)
    have ZM:=Lib.hid (Xc.out.next (bU lg.out))
    have DL:=Lib.hid ((lg.out.block bc (Array.getElem?_eq_some_iff.1 HX.out).1).trans HX.out)
    have Xr:Hid (Below bc wr w6):=Lib.hid (lg.out.mono (Nat.le_of_lt (Array.getElem?_eq_some_iff.1 HX.out).1))
    rw [hnb]
    clear zT hnb x0 x1 x2 x3
    have x2:=aB (j:=2) Vt.out rfl
    have hg0:=RO.out.cells.1
    have c6:=RO.out.cells.2.2.2.2.2.2.2.1
    have f6:=RO.out.cells.2.2.2.2.2.2.2.2.2.2.2 6
    have qO:Hid (L.B0=bc∧bc + 1=L.gb∧L.B1=bc + 2):=HL
    go_upto_region 10 with fail
    generalize KR:World.setCell w6 _ _=w7
    have Mv:Hid (dX 90 w7 L W s t.cZ fF dW v code (nx:Nat) b):=Lib.hid (by rw [← KR]; exact RO.out.aa0 dW (by rw [qO.out.1]; exact ko.out.2.2.below Xr.out) (by have:=NI.out.1; omega))
    have ZY:Hid (wI L.B1 w7 vT xs):=Lib.hid (by rw [← KR]; exact ZM.out.next (gK _ _ _ L.b1))
    have yH:=Lib.hid ((show w7.heap[bc]? =w6.heap[bc]? by rw [← KR]; exact bJ _ _ _ rfl (by show L.gb≠bc; have:=qO.out; omega)).trans DL.out)
    have Zr:=Lib.hid ((show w7.heap[nb]? =w6.heap[nb]? by rw [← KR]; exact bJ _ _ _ rfl (by show L.gb≠nb; have:=qO.out; have:=lI.out; omega)).trans Vt.out)
    have ab8:Hid (Below bc wr w7):=Lib.hid (by rw [← KR]; exact Xr.out.trans (dB (dO _ _ _) (by show bc≤L.gb; have:=qO.out; omega) (Nat.le_trans (Nat.le_of_lt (Array.getElem?_eq_some_iff.1 HX.out).1) lg.out.size)))
    clear KR c6 f6 hg0 x2
    have hg0:=Mv.out.cells.1
    obtain ⟨ao7,zA,hv7,-,-⟩:=Mv.out.form
    have c7:=Mv.out.cells.2.2.2.2.2.2.2.2.1
    rw [hv7] at c7
    have f7:=Mv.out.cells.2.2.2.2.2.2.2.2.2.2.2 7
    go_upto_region 11 with fail
    generalize DU:World.setCell w7 _ _=w8
    have HG8:Hid (dX 90 w8 L W s t.cZ fF dW (.slice none 0 0) [] (nx:Nat) b):=Lib.hid (by rw [← DU]; exact Mv.out.ac6)
    have ZT:Hid (wI L.B1 w8 vT xs):=Lib.hid (by rw [← DU]; exact ZY.out.next (gK _ _ _ L.b1))
    have Rk:=Lib.hid ((show w8.heap[bc]? =w7.heap[bc]? by rw [← DU]; exact bJ _ _ _ rfl (by show L.gb≠bc; have:=qO.out; omega)).trans yH.out)
    have Zo:=Lib.hid ((show w8.heap[nb]? =w7.heap[nb]? by rw [← DU]; exact bJ _ _ _ rfl (by show L.gb≠nb; have:=qO.out; have:=lI.out; omega)).trans Zr.out)
    have X9:Hid (Below bc wr w8):=Lib.hid (by rw [← DU]; exact ab8.out.trans (dB (dO _ _ _) (by show bc≤L.gb; have:=qO.out; omega) (Nat.le_of_lt (Array.getElem?_eq_some_iff.1 yH.out).1)))
    clear DU c7 f7 hg0 hv7
    have x3:=aB (j:=3) Zo.out rfl
    go_wp2_with fail
    refine (NU t.body w8 L W s t.cZ fF dW (.slice none 0 0) [] b nx bV bC HG8.out ko.out.2.1 (by rw [qO.out.1]; exact ko.out.1.below X9.out) NI.out.2.1 NI.out.2.2 (by have:=lW.out.1; simp only [List.length_nil]; omega) (by have:=lW.out.1; omega)).mono ?_
    rintro e w9 ⟨rfl,hem⟩
    obtain ⟨v9,a9,b9,ku,Vg,Yi,Yy⟩:=hem
    have ku:a9=((nx + bM t.body:Nat):Int):=ku
    subst ku
    rw [List.nil_append,List.length_nil] at Vg
    have RX:=Lib.hid (oC W t.cZ t.body nx 0)
    have WC:=Lib.hid (DY (W:=W) (lc:=t.cZ) (by have:=NI.out.1; omega) t.body nx 0 NI.out.2.2)
    have RI:Hid (zL W p.ts 0=xs.map rM.t++(⟨uW (iI W t.cZ t.body nx 0++[⟨28,0,0,0,0,-1⟩]) t.cZ.length,iI W t.cZ t.body nx 0++[⟨28,0,0,0,0,-1⟩]⟩ ::zL W R (nx + bM t.body))):=Lib.hid HE.out
    generalize iI W t.cZ t.body nx 0=GC at *
    have za:=Lib.hid Vg
    have HK9:=Lib.hid Yi
    have Ye:=Lib.hid Yy
    clear Vg Yi Yy x3
    have c9:=za.out.cells.2.2.2.2.2.2.2.2.2.2.1
    have f9:=za.out.cells.2.2.2.2.2.2.2.2.2.2.2 9
    have hg0:=za.out.cells.1
    go_upto_region 13 with fail
    generalize UN:World.setCell w9 _ _=wa
    have sG:Hid (dX 90 wa L W s t.cZ fF dW v9 GC ((nx + bM t.body:Nat):Int) (-1)):=Lib.hid (by rw [← UN]; exact za.out.je (-1))
    have HKA:Hid (Kg L (.slice none 0 0) w8 wa):=Lib.hid (by rw [← UN]; exact HK9.out.trans Ye.out (Kg.set _ _ _))
    clear UN c9 f9 hg0
    have hg0:=sG.out.cells.1
    go_wp2_with fail
    refine (eU sG.out ⟨28,0,0,0,0,0⟩ (by have h1:=RX.out; have h2:=lW.out.1; omega)).mono ?_
    rintro e wb ⟨rfl,ve,hge,hke,hoe⟩
    have Ir:Hid (dX 90 wb L W s t.cZ fF dW ve (GC++[⟨28,0,0,0,0,-1⟩]) ((nx + bM t.body:Nat):Int) (-1)):=Lib.hid hge
    have Fy:Hid (Kg L (.slice none 0 0) w8 wb):=Lib.hid (HKA.out.trans Ye.out hke)
    clear hge hke hoe hg0
    have lq:Hid (iP (GC++[⟨28,0,0,0,0,-1⟩])):=Lib.hid (TK WC.out)
    have oU:Hid ((GC++[(⟨28,0,0,0,0,-1⟩:bS)]).length≤1000000000000):=Lib.hid (by have h1:=RX.out; have h2:=lW.out.1; simp only [List.length_append,List.length_cons,List.length_nil]; omega)
    generalize GC++[⟨28,0,0,0,0,-1⟩]=GD at *
    have Us:=Lib.hid ((Fy.out.block bc (Array.getElem?_eq_some_iff.1 Rk.out).1 (by have:=qO.out; omega) (by simp [Value.ownBlock])).trans Rk.out)
    have Xa:=Lib.hid (ZT.out.next ⟨Fy.out.size,fun q h1 h2=>Fy.out.block q h2 (by have:=L.b1; omega) (by simp [Value.ownBlock])⟩)
    have ZK:Hid (Below bc wr wb):=Lib.hid (X9.out.trans ⟨Fy.out.os,Fy.out.tape,Fy.out.output,Fy.out.size,fun q hq=>Fy.out.block q (Nat.lt_trans hq (Array.getElem?_eq_some_iff.1 Rk.out).1) (by have:=qO.out; omega) (by simp [Value.ownBlock])⟩)
    obtain ⟨pW,sO,Ob⟩:=Xa.out.len
    obtain ⟨Gt,Ii,Ur,-,-⟩:=Ir.out.form
    have Fq:=Lib.hid Ob
    have Ym:=Lib.hid Ur
    have hxc:=aB (j:=6) Us.out rfl
    have hxe:=Ir.out.cells.2.2.2.2.2.2.2.2.1
    simp only [List.getElem_toArray,List.getElem_cons_zero,List.getElem_cons_succ] at hxc
    rw [Ob] at hxc
    rw [Ur] at hxe
    have G8:=Lib.hid (And.intro (Array.getElem?_eq_some_iff.1 Us.out).1 (And.intro hxc (And.intro Ir.out.cells.1 hxe)))
    clear Ob Ur hxc hxe
    go_upto_region 14 with fail
    have V0: ∀w',Below wb.heap.size wb w'→w'.cell? ⟨bc,6,none⟩=some (.slice pW xs.length sO):=fun w' hb=>(hb.cell (p:=⟨bc,6,none⟩) G8.out.1).trans G8.out.2.1
    have V1: ∀w',Below wb.heap.size wb w'→w'.cell? ⟨L.gb,7,none⟩=some (.slice Gt GD.length Ii):=fun w' hb=>(hb.cell (p:=⟨L.gb,7,none⟩) G8.out.2.2.1).trans G8.out.2.2.2
    refine gy (by kernel_rfl) rfl ?_
    refine fU 0 10 [] [[],[0],[],[2],[],[4],[4,5],[4,5,6],[2,3,4,5,6,7],[2,3,4,5,6,7,8],[0,1,2,3,4,5,6,7,8,9],[0,1,2,3,4,5,6,7,8,9,10],[0,1,2,3,4,5,6,7,8,9,10,11]] [[],[],[],[],[],[],[],[],[],[]] (fun _ w'=>Below wb.heap.size wb w') (fun w w'=>Below w.heap.size w w') [53,54,55,56,57,58,59,60,61,62] rfl rfl (by rfl) (by kernel_rfl) (by kernel_rfl) (by kernel_rfl) (by kernel_rfl) (by kernel_rfl) (by rfl) (fun _=>Below.refl _ _) (by rfl) (below_drewN (Below.refl _ _) 1) ?_
    simp only [List.take_succ_cons,List.take_zero,List.drop_zero,List.drop_succ_cons,mE,List.map_cons,List.map_nil]
    apply bg.step
    case aD=>
     intro c A w' hok hC hO hD
     have e7:=hO 7 (by rfl)
     simp [Act.eval] at e7
     simp [ay,ak,au,Act.eval,Region.binds] at hD
     simp [go_sem,gd,Oper.wp,hD,e7]
     exact aA.mk (Below.refl _ _) hC (ak.mk _ _)
    apply bg.step
    case aD=>
     intro c A w' hok hC hO hD
     simp [ay,ak,au,Act.eval,Region.binds] at hD
     simp [go_sem,gd,Oper.wp,hD,V0,hC]
     exact aA.mk (Below.refl _ _) hC (ak.mk _ _)
    apply bg.step
    case aD=>
     intro c A w' hok hC hO hD
     have e8:=hO 8 (by rfl)
     simp [Act.eval] at e8
     simp [ay,ak,au,Act.eval,Region.binds] at hD
     simp [go_sem,gd,Oper.wp,hD,e8]
     exact aA.mk (Below.refl _ _) hC (ak.mk _ _)
    simp only [List.nil_append,List.cons_append]
    refine bg.some (fun v _=>v= .int .i64 (uW GD t.cZ.length)) (fun _ _ _ _ h=>h) ?_ ?_
    ·intro c A w' hok hC hO hD
     simp [ay,ak,au,Act.eval,Region.binds] at hD
     simp [go_sem,gd,Oper.wp,hD]
     refine (O8 (Ir.out.below hC) lq.out).mono ?_
     rintro e w5 ⟨rfl,hb⟩
     exact aA.mk hb (hC.trans (hb.mono hC.size)) rfl
    simp only [List.nil_append,List.cons_append]
    apply bg.step
    case aD=>
     intro c A w' hok hC hO hD
     have e8:=hO 8 (by rfl)
     simp [Act.eval] at e8
     simp [ay,ak,au,Act.eval,Region.binds] at hD
     simp [go_sem,gd,Oper.wp,hD,e8]
     exact aA.mk (Below.refl _ _) hC (ak.mk _ _)
    apply bg.step
    case aD=>
     intro c A w' hok hC hO hD
     simp [ay,ak,au,Act.eval,Region.binds] at hD
     simp [go_sem,gd,Oper.wp,hD]
     exact aA.mk (Below.refl _ _) hC (ak.mk _ _)
    apply bg.step
    case aD=>
     intro c A w' hok hC hO hD
     simp [ay,ak,au,Act.eval,Region.binds] at hD
     simp [go_sem,gd,Oper.wp,hD]
     exact aA.mk (Below.refl _ _) hC (ak.mk _ _)
    apply bg.step
    case aD=>
     intro c A w' hok hC hO hD
     simp [ay,ak,au,Act.eval,Region.binds] at hD
     simp [go_sem,gd,Oper.wp,hD,V1,hC]
     exact aA.mk (Below.refl _ _) hC (ak.mk _ _)
    simp only [List.nil_append,List.cons_append]
    apply bg.step
    case aD=>
     intro c A w' hok hC hO hD
     simp [ay,ak,au,Act.eval,Region.binds] at hD
     simp [go_sem,gd,Oper.wp,hD]
     exact aA.mk (Below.refl _ _) hC (ak.mk _ _)
    refine bg.some (fun v w'=>BbQ (uW GD t.cZ.length) Gt GD.length Ii v w') ?_ ?_ ?_
    ·rintro v wx wy hle ⟨bb,rfl,hbb⟩
     exact ⟨bb,rfl,(hle.block bb (Array.getElem?_eq_some_iff.1 hbb).1).trans hbb⟩
    ·intro c A w' hok hC hO hD
     simp [ay,ak,au,Act.eval,Region.binds] at hD
     simp [go_sem,gd,Oper.wp,hD]
     exact aA.mk (d:=_) (v:= .slice (some ⟨_,0,none⟩) 1 1) (aj _ _) (hC.trans ((aj _ _).mono hC.size)) ⟨_,rfl,heap_alloc_new _ _⟩
    simp only [List.nil_append,List.cons_append]
    try simp only [List.nil_append,List.cons_append]
    refine bg.done ?_
    intro wz fH
    try simp only [List.drop_zero,List.drop_succ_cons]
    intro v0 h0 v1 h1 v2 h2 v3 h3 v4 h4 v5 h5 v6 h6 v7 h7 v8 h8 v9 h9
    have h0':=Eq.symm (show v0=_ from h0)
    subst h0'
    have h1':=Eq.symm (show v1=_ from h1)
    subst h1'
    have h2':=Eq.symm (show v2=_ from h2)
    subst h2'
    have h3':=Eq.symm (show v3=_ from h3)
    subst h3'
    have h4':=Eq.symm (show v4=_ from h4)
    subst h4'
    have h5':=Eq.symm (show v5=_ from h5)
    subst h5'
    have h6':=Eq.symm (show v6=_ from h6)
    subst h6'
    have Bv:=Eq.symm (show v7=_ from h7)
    subst Bv
    have h8':=Eq.symm (show v8=_ from h8)
    subst h8'
    clear h0 h1 h2 h3 h4 h5 h6 h7 h8
    obtain ⟨bb,rfl,hbb⟩:=h9
    refine xq ?_
    go_simp
    have uZ:=Lib.hid fH
    have wK:=Lib.hid hbb
    clear V0 V1 fH hbb
    have KU:=Lib.hid (Xa.out.next (bU uZ.out))
    have Bg:=Lib.hid (Ir.out.below uZ.out)
    refine gX 10 [[],[0],[],[2],[],[4],[4,5],[4,5,6],[2,3,4,5,6,7],[2,3,4,5,6,7,8],[0,1,2,3,4,5,6,7,8,9],[0,1,2,3,4,5,6,7,8,9,10],[0,1,2,3,4,5,6,7,8,9,10,11]] rfl rfl rfl rfl rfl (by kernel_rfl) (by kernel_rfl) (by kernel_rfl) ?_
    obtain ⟨i0,hi0,hz0,hz1,hz2⟩:=infoP UA
    have hk0:xs.length≤4:=by have:=HN.out.1; omega
    refine wp_append_lies wz _ _ _ (by rfl) L.B1 45 i0 _ 2 32 Tryz.underlying36 hi0 hz0 hz1 hz2 (by rfl) (by omega) (.slice pW xs.length sO) xs.length (xs.flatMap JQ) (by rfl) (by rw [← Fq.out]; exact KU.out.own) ⟨bb,0,none⟩ 1 1 (JQ ⟨uW GD t.cZ.length,GD,Gt,Ii⟩) (by rfl) (by rfl) (iQ wK.out) (aa7 _) (by decide) (by unfold maxLen; omega) (by omega) Bg.out.sz _ rfl ?_
    intro g' cap' wd hown hgr hmv kH
    have V3:Hid (∀q,vT.ownBlock=some q→ve.ownBlock≠some q):=Lib.hid (Li KU.out.own Bg.out.row (by decide))
    have AP:Hid (wI L.B1 wd (.slice (some ⟨g',0,none⟩) (xs.length + 1) cap') (xs++[⟨uW GD t.cZ.length,GD,Gt,Ii⟩])):=Lib.hid (KU.out.push (x:=⟨uW GD t.cZ.length,GD,Gt,Ii⟩) (by
     have:=Bg.out.row
     rw [Ym.out] at this
     exact Te this (fun q hq e=>V3.out q e (by rw [Ym.out]; exact hq))) rfl hown (by rw [Fq.out]; exact hgr) (by rw [Fq.out]; exact hmv))
    have Yp:Hid (dX 90 wd L W s t.cZ fF dW ve GD ((nx + bM t.body:Nat):Int) (-1)):=Lib.hid (Bg.out.far hgr (fun q hq=>by
     have h1:=(KU.out.lt q (by rw [Fq.out]; exact hq)).1
     exact ⟨by have:=L.b0; have:=L.b1; omega,by have:=L.b1; omega,V3.out q (by rw [Fq.out]; exact hq)⟩))
    have RN:Hid (wd.heap[bc]? =some (.cells #[.slice s.aC W.cs.length s.cC,.slice s.aL W.ls.length s.cL,.slice s.aN W.ns.length s.cN,.slice s.aF W.fs.length s.cF,.slice s.aT W.ts.length s.cT,.slice s.aS W.ss.length s.cS,.slice pW xs.length sO] 38 (0,0))):=Lib.hid ((hgr.block bc (Nat.lt_of_lt_of_le G8.out.1 uZ.out.size) (fun e=>by
     have h1:=(KU.out.lt bc (by rw [Fq.out]; exact e.symm)).1
     have:=qO.out; omega)).trans ((uZ.out.block bc G8.out.1).trans (by rw [Us.out,Fq.out])))
    have ab6:Hid (Below bc wr wd):=Lib.hid ((ZK.out.trans (uZ.out.mono (Nat.le_of_lt G8.out.1))).trans ⟨hgr.os,hgr.tape,hgr.output,hgr.size,fun q hq=>hgr.block q (by have:=G8.out.1; have:=uZ.out.size; omega) (fun e=>by
     have h1:=(KU.out.lt q (by rw [Fq.out]; exact e.symm)).1
     have:=qO.out; omega)⟩)
    clear hown hgr hmv kH hi0 hz0 hz1 hz2 hk0
    have cj:=aB (j:=6) RN.out rfl
    simp only [List.getElem_toArray,List.getElem_cons_zero,List.getElem_cons_succ] at cj
    have fj:=bH (o:=6) RN.out
    have Wz:=(Array.getElem?_eq_some_iff.1 RN.out).1
    go_simp
    refine gX 11 [[],[0],[],[2],[],[4],[4,5],[4,5,6],[2,3,4,5,6,7],[2,3,4,5,6,7,8],[0,1,2,3,4,5,6,7,8,9],[0,1,2,3,4,5,6,7,8,9,10],[0,1,2,3,4,5,6,7,8,9,10,11]] rfl rfl rfl rfl rfl (by kernel_rfl) (by kernel_rfl) (by kernel_rfl) ?_
    simp [go_sem,Oper.wp]
    refine gX 12 [[],[0],[],[2],[],[4],[4,5],[4,5,6],[2,3,4,5,6,7],[2,3,4,5,6,7,8],[0,1,2,3,4,5,6,7,8,9],[0,1,2,3,4,5,6,7,8,9,10],[0,1,2,3,4,5,6,7,8,9,10,11]] rfl rfl rfl rfl rfl (by kernel_rfl) (by kernel_rfl) (by kernel_rfl) ?_
    simp [go_sem,Oper.wp,cj,fj]
    refine iG rfl ?_
    go_simp
    generalize hWf:World.setCell wd _ _=wf
    have HGf:Hid (dX 90 wf L W s t.cZ fF dW ve GD ((nx + bM t.body:Nat):Int) (-1)):=Lib.hid (by
     rw [← hWf]
     exact Yp.out.far (dO _ _ _) (fun q hq=>by
      injection hq with hq
      have hq:bc=q:=hq
      subst hq
      refine ⟨by have:=qO.out; omega,by have:=qO.out; omega,fun e=> ?_⟩
      have:=(Yp.out.own bc e).1
      have:=qO.out; omega))
    have HPf:Hid (wI L.B1 wf (.slice (some ⟨g',0,none⟩) (xs.length + 1) cap') (xs++[⟨uW GD t.cZ.length,GD,Gt,Ii⟩])):=Lib.hid (by rw [← hWf]; exact AP.out.next (gK _ _ _ (by show bc < L.B1; have:=qO.out; omega)))
    have HXf:Hid (wf.heap[bc]? =some (.cells #[.slice s.aC W.cs.length s.cC,.slice s.aL W.ls.length s.cL,.slice s.aN W.ns.length s.cN,.slice s.aF W.fs.length s.cF,.slice s.aT W.ts.length s.cT,.slice s.aS W.ss.length s.cS,.slice (some ⟨g',0,none⟩) (xs.length + 1) cap'] 38 (0,0))):=Lib.hid (by rw [← hWf]; exact rQ RN.out _ rfl)
    have VO:Hid (Below bc wr wf):=Lib.hid (by rw [← hWf]; exact ab6.out.trans (dB (dO _ _ _) (Nat.le_refl _) (Nat.le_of_lt Wz)))
    clear hWf cj fj Wz
    go_wp2_with fail
    go_roundw
    case rel=>
     refine ⟨k + 1,R,xs++[⟨uW GD t.cZ.length,GD,Gt,Ii⟩],_,nx + bM t.body,GD,ve,-1,t.cZ,fF,dW,by go_num,by omega,?_,by rw [List.length_append,HN.out.1]; rfl,?_,HGf.out,HPf.out,HXf.out,jc.out.below VO.out,IB.out.trans VO.out,?_,fun x hx=>HN.out.2.2.2 x (List.mem_cons_of_mem _ hx)⟩
     ·rw [RI.out]; simp [rM.t]
     ·intro x hx
      rcases List.mem_append.1 hx with hx | hx
      ·exact HN.out.2.1 x hx
      ·rw [List.mem_singleton.1 hx]; exact oU.out
     ·have h1:=lW.out.2; have h2:=rG t.body; omega
    case measure=>simp [intOf]; omega
end Go.Proofs.YtdajkddgnfgijaaGreatDoor
end
