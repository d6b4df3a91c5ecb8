/- Two cells compared. A closed law on values. And what hangs on it. -/
import Derived.Test.YtgjmahnblcajbaaGreatDoorGVA
import Derived.Test.YtgjmahnblcajbaaGreatDoorGMB
import Derived.Test.YtgjmahnblcajbaaGreatDoorGMX
import Derived.Test.YtgjmahnblcajbaaGreatDoorGCA
import Derived.Deep.AppendLies
set_option linter.unusedSimpArgs false
set_option linter.unusedVariables false
set_option maxHeartbeats 40000000
set_option maxRecDepth 1000000
namespace Go.Proofs.YtgjmahnblcajbaaGreatDoor
open Go.RowKit
open Md
theorem X4 (a a':ByteArray) (i i' z z' n n':Int) (v v':Bool) (w:World):
 (binOp .neq 83 (.agg #[.string a,.int .i64 i,.int .i64 z,.bool v,.int .i64 n]) (.agg #[.string a',.int .i64 i',.int .i64 z',.bool v',.int .i64 n'])).run Tryz.prog w= .ok (.bool (!(a.toList == a'.toList && (i == i' && (z == z' && (v == v' && n == n')))))) w:=by
 cases h1:(a.toList == a'.toList) <;> cases h2:(i == i') <;> cases h3:(z == z') <;> cases h4:(v == v') <;> cases h5:(n == n')
 all_goals simp [go_sem,h1,h2,h3,h4,h5]
theorem as5 {P:Program} {o:Oper} {a:Act} {w:World} {K:Act->World->Prop} {Q:Exit->Act->World->Prop} (s x:Operand) (T ty:TypeId) (ho:o.op= .binOp .neq T s x ty)
 (A B:Value) (r:Bool) (hs:a.eval s=A) (hx:a.eval x=B) (hg:(eqGuard .neq T s x A B).run P w= .ok () w) (hr:(binOp .neq T A B).run P w= .ok (.bool r) w) (h:K (a.put o.dst (.bool r)) w):o.wp P a w K Q:=by
 unfold Oper.wp execOp;simp only [ho,Sem.run_bind,Sem.run_pure,Result.andThen_ok,hs,hx,hg,hr];exact h
theorem RA (s x:Operand) (xs ys:Array Value) (w:World):(eqGuard .neq 83 s x (.agg xs) (.agg ys)).run Tryz.prog w= .ok () w:=run_eqGuard_agg (w:=w) .neq 83 s x xs ys Tryz.eqGuardType83
theorem jB.far {B b:Nat} {w w':World} {v:Value} {l:List ByteArray} (h:jB B w v l) (hg:w.grownBy w' (some b)) (hne:v.ownBlock≠some b):jB B w' v l:=
 ⟨h.own.kept hg (.inr hne),fun _ _ _ _=>trivial⟩
theorem Qp:(Tryz.prog.info? 9).map (fun i=>(i.zero,i.size,i.bytes))=some (some (.string ⟨#[]⟩),1,16):=by kernel_rfl
theorem drop_at {α:Type} {f:α->List Value} {m B:Nat} {w:World} {ao:Option Addr} : ∀ {l:List α} {k:Nat} (i:Nat),bL f m w B l ao k->bL f m w B (l.drop i) ao (k + i):=fun i h=>Lg i h
def VcP (o:Option (List ByteArray)) (w:World) (e:Ending) (w':World):Prop:=(match o with
 | none=>e= .returned (.tuple #[.slice none 0 0,.bool false])
 | some v=> ∃ao cap,e= .returned (.tuple #[.slice ao v.length cap,.bool true])∧dU w' w'.heap.size v ao 0∧v.length<=cap)∧Below w.heap.size w w'
theorem Bv {o:Option (List ByteArray)} {a:List ByteArray} {x:ByteArray} :(o.map (fun l=>x ::l)).map (fun l=>a++l)=o.map (fun l=>(a++[x])++l):=by
 cases o <;> simp
theorem Kn (l:List kM) (w:World) (ao:Option Addr) (cap:Nat) (hl:l.length<=12) (hw:bL kJ 5 w w.heap.size l ao 0) (hn: ∀c ∈ l,c.nm.size<=maxLen):
 Calls Tryz.prog 17 #[.slice ao l.length cap] w (VcP (Aa l) w):=by
 have HW:=ah hw;have HN:=ah hn;obtain ⟨res,hres⟩: ∃r,Aa l=r:=⟨_,rfl⟩;have HR:=ah hres;rw [hres];obtain ⟨B,hB⟩: ∃n,w.heap.size=n:=⟨_,rfl⟩;have nK:=ah hB;rw [hB] at HW;clear hw hn hres hB;go_enter Tryz.func17,Tryz.ntmps17;go_wp2_with fail;go_loopw [4,5,6,7,51,52] (fun v4 v5 _ _ _ _ wr=> ∃(k:Nat) (R:List kM) (acc:List ByteArray) (f:Nat),v5= .int .i64 k∧k + R.length=l.length∧R.length<=f∧res=(oI f R).map (fun l=>acc++l)∧jB B wr v4 acc∧bL kJ 5 wr B R ao k∧Below B w wr∧acc.length<=k∧(∀c ∈ R,c.nm.size<=maxLen)∧(∀x ∈ acc,x.size<=maxLen)) (fun _ v _ _ _ _ _=>l.length - (intOf v).toNat)
 case atStart=>exact ⟨0,l,[],l.length,rfl,by simp,Nat.le_refl _,by rw [<- HR.o]; show oI l.length l=_; cases oI l.length l <;> rfl,Grow.nil _ _ _ _ _ _,HW.o,Below.refl _ _,Nat.le_refl _,HN.o,fun x hx=>by cases hx⟩
 case round=>
  obtain ⟨k,R,acc,f,rfl,hlen,Qm,heq,hg,hrow,hbel,hac,hnR,Uj⟩:=hrel;have HE:=ah heq;have HG:=ah hg;have HB:=ah hbel;have HNR:=ah hnR;have PD:=ah Uj;have lY:aj (B<=wr.heap.size):=ah (by have h1:=hbel.size; have h2:=nK.o; omega);clear heq hg hbel hnR Uj;cases R with
  | nil=>
    obtain rfl:k=l.length:=by simpa using hlen
    obtain ⟨C9,cap2,rfl,hc2,hst⟩:=jB.says HG.o PD.o;have HT:aj (res=some acc):=ah (by rw [HE.o]; cases f <;> simp [oI]);have HST:=ah hst.now;have Dn:=ah hc2;clear hst hc2;go_wp2_with fail
    go_ret2
    rw [HT.o];exact ⟨⟨C9,cap2,rfl,HST.o,Dn.o⟩,by rw [nK.o]; exact HB.o⟩
  | cons c R=>
    obtain ⟨f,rfl⟩: ∃g,f=g + 1:=⟨f - 1,by simp at Qm; omega⟩;have aG6:=ah hrow;obtain ⟨⟨b,off,rfl,hb1,hcs⟩,hrest⟩:=hrow;simp only [List.length_cons] at hlen Qm;have hkl:k < l.length:=by omega
    have x0:=hcs 0 _ rfl;have x1:=hcs 1 _ rfl;have x2:=hcs 2 _ rfl;have x3:=hcs 3 _ rfl;have x4:=hcs 4 _ rfl;simp only [Nat.add_zero] at x0;have gU:=ah hrest;clear hcs hrest;go_upto_region 5 with fail;obtain ⟨cb,hcb⟩: ∃n,wr.heap.size=n:=⟨_,rfl⟩;generalize hW2:World.alloc wr _=w2;have HB2:aj (Below wr.heap.size wr w2):=ah (by rw [<- hW2]; exact au _ _);have wh:aj (w2.heap[cb]? =some (.cells #[.string c.nm,.int .i64 c.ix,.int .i64 c.sz,.bool c.rW,.int .i64 c.init] 83 (0,0))):=ah (by rw [<- hW2,<- hcb]; exact heap_alloc_new _ _);have FE:=ah hcb;have HG2:=ah (HG.o.next (bg HB2.o));rw [hcb];clear hW2 hcb x0 x1 x2 x3 x4;have y0:=ak (j:=0) wh.o rfl;simp only [List.getElem_toArray,List.getElem_cons_zero,List.getElem_cons_succ] at y0;obtain ⟨av,cv,hv⟩:=HG2.o.len;subst hv;have rO:=ah (HG2.o.next (bg (au w2 (.cells (rC c.nm).toArray 9))));have jR:=ah (iP (heap_alloc_new w2 (.cells (rC c.nm).toArray 9)));obtain ⟨i0,hi,hz0,hz1,hz2⟩:=yP Qp;have hbs:B<=w2.heap.size + 1:=by have h1:=lY.o; have h2:=HB2.o.size; omega
    have ak7:acc.length + 1<=maxLen:=by unfold maxLen; omega
    have NY:(acc.length + 1) * 16<=140737488355328:=by omega
    go_wp2_with (at_builtin; refine wpList_append_lies _ rfl _ _ 25 rfl B 9 i0 _ 1 16 Tryz.underlying25 hi hz0 hz1 hz2 rfl (by decide) _ _ _ rfl rO.o.own ⟨w2.heap.size,0,none⟩ 1 1 (rC c.nm) rfl rfl jR.o (by simp [rC,Value.oneCell']) (by decide) ak7 NY (by simpa using hbs) _ rfl ?_);clear hi hz0 hz1 hz2 y0;intro g CW w3 hown hgr hmv hlt3;have BI:aj (jB B w3 (.slice (some ⟨g,0,none⟩) (acc.length + 1) CW) (acc++[c.nm])):=ah (rO.o.push (x:=c.nm) (fun _ _=>trivial) rfl hown hgr (by simpa using hmv));have Ht:aj (∀q,(Value.slice av acc.length cv).ownBlock=some q->B<=q∧q < cb):=ah (fun q hq=>by have:=HG.o.lt q hq; rw [FE.o] at this; exact this);have HW2:aj (cb < w2.heap.size):=ah (Array.getElem?_eq_some_iff.1 wh.o).1;have Vw:aj (Below B wr w3):=ah (((HB2.o.mono lY.o).trans ((au w2 _).mono (by have h1:=lY.o; have h2:=HB2.o.size; omega))).trans ⟨hgr.os,hgr.tape,hgr.output,hgr.size,fun q hq=>hgr.block q (by simp; have h1:=lY.o; have h2:=HB2.o.size; omega) (fun e=>by have:=(Ht.o q e.symm).1; omega)⟩);have HB3:=ah (HB.o.trans Vw.o);have uM:aj (w3.heap[cb]? =some (.cells #[.string c.nm,.int .i64 c.ix,.int .i64 c.sz,.bool c.rW,.int .i64 c.init] 83 (0,0))):=ah ((hgr.block cb (by simp; have:=HW2.o; omega) (fun e=>by have:=(Ht.o cb e.symm).2; omega)).trans ((heap_alloc_old _ _ HW2.o).trans wh.o));have HGN:aj (g≠cb):=ah (by
     rcases hmv with h | h
     ·have:=(Ht.o g h).2; omega
     ·have:=HW2.o; omega)
    have Te:aj (∀x ∈ acc++[c.nm],x.size<=maxLen):=ah (fun x hx=>by
     rcases List.mem_append.1 hx with hx | hx
     ·exact PD.o x hx
     ·rw [List.mem_singleton.1 hx]; exact HNR.o c List.mem_cons_self)
    have HNT:aj (∀x ∈ R,x.nm.size<=maxLen):=ah (fun x hx=>HNR.o x (List.mem_cons_of_mem _ hx));clear hown hgr hmv hlt3 hbs ak7 NY jR rO HG2 wh HG;have z0:=ak (j:=0) uM.o rfl;have z1:=ak (j:=1) uM.o rfl;have z2:=ak (j:=2) uM.o rfl;have z3:=ak (j:=3) uM.o rfl;have z4:=ak (j:=4) uM.o rfl;simp only [List.getElem_toArray,List.getElem_cons_zero,List.getElem_cons_succ] at z0 z1 z2 z3 z4;have hwl:IntKind.i64.wrap ((l.length:Int) - (k:Int))=(l.length:Int) - (k:Int):=IntWalk.i64_in _ (by omega);have hw1:IntKind.i64.wrap ((k:Int) + 1)=(k:Int) + 1:=IntWalk.i64_in _ (by omega);cases hsz:(c.sz == 0)
    ·by_cases h1:c.sz < 1
     ·have HT:aj (res=none):=ah (by rw [HE.o,oI,hsz]; simp [h1]);go_wp2_with fail
      go_ret2
      rw [HT.o];exact ⟨rfl,by rw [nK.o]; exact HB3.o⟩
     ·by_cases h2:4 < c.sz
      ·have HT:aj (res=none):=ah (by rw [HE.o,oI,hsz]; simp [h2]);go_wp2_with fail
       go_ret2
       rw [HT.o];exact ⟨rfl,by rw [nK.o]; exact HB3.o⟩
      ·cases Uq:c.rW
       ·have HVO:=ah Uq;rw [Uq] at z3 uM;by_cases h4:(l.length:Int) - (k:Int) < c.sz
        ·have HT:aj (res=none):=ah (by rw [HE.o,oI,hsz];have:decide (((R.length + 1:Nat):Int) < c.sz)=true:=(by rw [decide_eq_true_iff]; omega);simp only [this]; simp);go_wp2_with fail
         go_ret2
         rw [HT.o];exact ⟨rfl,by rw [nK.o]; exact HB3.o⟩
        ·obtain ⟨n,hn⟩:=Int.eq_ofNat_of_zero_le (show 0<=c.sz by omega);have FL:=ah hn;have hn1:1<=n:=(by omega);have hn4:n<=4:=(by omega);have hnR:n<=R.length + 1:=(by omega);have iy:aj (res=if vJ c n 0 (c ::R) then (oI f ((c ::R).drop n)).map (fun l=>(acc++[c.nm])++l) else none):=ah (by
          have hd:(decide (c.sz < 1) || (decide (4 < c.sz) || (c.rW || decide (((R.length + 1:Nat):Int) < c.sz))))=false:=(by rw [Uq]; simp; omega);rw [HE.o,oI,hsz,hd];have e:c.sz.toNat=n:=(by omega);rw [e];cases vJ c n 0 (c ::R)
          ·rfl
          ·exact Bv)
         clear hn HE;go_upto_region 13 with fail;clear z0 z1 z2 z3 z4;obtain ⟨wI,J4⟩: ∃W:World,W=wr:=⟨_,rfl⟩;subst J4;go_loopw [7,52] (fun _ v52 wq=> ∃(j:Nat) (Q:List kM) (ix:Int),v52= .int .i64 j∧j<=n∧Q=(c ::R).drop j∧vJ c n 0 (c ::R)=vJ c (n - j) j Q∧wq.heap[cb]? =some (.cells #[.string c.nm,.int .i64 ix,.int .i64 c.sz,.bool false,.int .i64 c.init] 83 (0,0))∧jB B wq (.slice (some ⟨g,0,none⟩) (acc.length + 1) CW) (acc++[c.nm])∧bL kJ 5 wq B (c ::R) (some ⟨b,off,none⟩) k∧Below B w wq) (fun _ v _=>n - (intOf v).toNat)
         case atStart=>exact ⟨0,_,c.ix,rfl,Nat.zero_le _,rfl,rfl,uM.o,BI.o,aG6.o.below Vw.o,HB3.o⟩
         case round=>
          obtain ⟨j,Q,ix,rfl,hjn,hQ,heq,hbx,hg,hrow,hbel⟩:=hrel;have HQ:=ah hQ;have qE:=ah heq;have qm:=ah hbx;have HGq:=ah hg;have HRq:=ah hrow;have HBq:=ah hbel;clear hQ heq hbx hg hrow hbel;by_cases hjl:j < n
          ·cases Q with
           | nil=>exfalso;have:=congrArg List.length HQ.o;simp at this; omega
           | cons x Q=>
             have hx:(c ::R)[j]? =some x:=(by have:=congrArg (fun l=>l[0]?) HQ.o;simpa using this.symm);obtain ⟨b',off',e,hb',hcs⟩:=HRq.o.at j x hx;injection e with e; injection e with e1 e2;subst e1 e2;have z0:=hcs 0 _ rfl;have z1:=hcs 1 _ rfl;have z2:=hcs 2 _ rfl;have z3:=hcs 3 _ rfl;have z4:=hcs 4 _ rfl;simp only [Nat.add_zero] at z0;have hjs:(j:Int) < c.sz:=(by have:=FL.o; omega);have y2:wr.cell? ⟨cb,2,none⟩=some (.int .i64 c.sz):=ak qm.o rfl;have y1:wr.cell? ⟨cb,1,none⟩=some (.int .i64 ix):=ak qm.o rfl;have f1:wr.frozen? ⟨cb,1,none⟩=false:=aU qm.o;have hkj:k + j < l.length:=(by omega);have hwk:IntKind.i64.wrap ((k:Int) + (j:Int))=((k + j:Nat):Int):=(by rw [IntWalk.i64_in _ (by omega)]; omega);have vV:aj (B<=cb):=ah (by have:=lY.o; have:=FE.o; omega);clear hcs hx;go_upto_region 16 with fail;generalize hW:World.setCell wr _ _=w4;have Gb:aj (Below B wr w4):=ah (by rw [<- hW]; exact bK (bQ _ _ _) vV.o (Nat.le_trans vV.o (Nat.le_of_lt (Array.getElem?_eq_some_iff.1 qm.o).1)));have mR:aj (w4.heap[cb]? =some (.cells #[.string c.nm,.int .i64 j,.int .i64 c.sz,.bool false,.int .i64 c.init] 83 (0,0))):=ah (by rw [<- hW]; exact om qm.o _ rfl);have Ad:aj (jB B w4 (.slice (some ⟨g,0,none⟩) (acc.length + 1) CW) (acc++[c.nm])):=ah (by rw [<- hW]; exact jB.far HGq.o (bQ _ _ _) (fun e=>by injection e with e; exact HGN.o e));have HR4:=ah (HRq.o.below Gb.o);have dG:=ah (HBq.o.trans Gb.o);have Vu:aj (B<=w4.heap.size):=ah (by have h1:=vV.o; have h2:=(Array.getElem?_eq_some_iff.1 mR.o).1; omega);have QN:=(Gb.o.cell (p:=⟨b,_,none⟩) hb').trans z0;have z1':=(Gb.o.cell (p:=⟨b,_,none⟩) hb').trans z1;have z2':=(Gb.o.cell (p:=⟨b,_,none⟩) hb').trans z2;have z3':=(Gb.o.cell (p:=⟨b,_,none⟩) hb').trans z3;have OJ:=(Gb.o.cell (p:=⟨b,_,none⟩) hb').trans z4;have hb4:b < w4.heap.size:=Nat.lt_of_lt_of_le hb' Vu.o;clear hW z0 z1 z2 z3 z4 y1 y2 f1;have Z0:=fun w' (hb:Below w4.heap.size w4 w')=>(hb.cell (p:=⟨b,_,none⟩) hb4).trans QN;have Z1:=fun w' (hb:Below w4.heap.size w4 w')=>(hb.cell (p:=⟨b,_,none⟩) hb4).trans z1';have Z2:=fun w' (hb:Below w4.heap.size w4 w')=>(hb.cell (p:=⟨b,_,none⟩) hb4).trans z2';have Z3:=fun w' (hb:Below w4.heap.size w4 w')=>(hb.cell (p:=⟨b,_,none⟩) hb4).trans z3';have Z4:=fun w' (hb:Below w4.heap.size w4 w')=>(hb.cell (p:=⟨b,_,none⟩) hb4).trans OJ;have C: ∀(i:Nat) (u:Value),(#[.string c.nm,.int .i64 j,.int .i64 c.sz,.bool false,.int .i64 c.init]:Array Value)[i]? =some u-> ∀w',Below w4.heap.size w4 w'->w'.cell? ⟨cb,i,none⟩=some u:=fun i u hu w' hb=>ak ((hb.block cb (Array.getElem?_eq_some_iff.1 mR.o).1).trans mR.o) hu;have C0:=C 0 _ rfl;have C1:=C 1 _ rfl;have C2:=C 2 _ rfl;have C3:=C 3 _ rfl;have C4:=C 4 _ rfl;have I4:aj (vJ c n 0 (c ::R)=(ED c j x && vJ c (n - (j + 1)) ((j:Int) + 1) Q)):=ah (by rw [qE.o,show n - j=(n - (j + 1)) + 1 by omega,vJ]);have Hz:aj (ED c j x=(x.nm.toList == c.nm.toList && (x.ix == (j:Int) && (x.sz == c.sz && (x.rW == false && x.init == c.init))))):=ah (by unfold ED; rw [HVO.o]);clear C QN z1' z2' z3' OJ;have k0:(0:Int)<=(k:Int) + (j:Int):=(by omega);have k1:(k:Int) + (j:Int) < (l.length:Int):=(by omega);have kt:((k:Int) + (j:Int)).toNat=k + j:=(by omega);have hnq: ∀w,(binOp .neq 83 (.agg #[.string x.nm,.int .i64 x.ix,.int .i64 x.sz,.bool x.rW,.int .i64 x.init]) (.agg #[.string c.nm,.int .i64 j,.int .i64 c.sz,.bool false,.int .i64 c.init])).run Tryz.prog w= .ok (.bool (!(ED c j x))) w:=fun w=>by rw [X4,Hz.o]
             go_wp2_with fail;refine gM (by kernel_rfl) rfl ?_;refine gq 0 7 [] [[],[],[],[1,2],[0,1,2,3],[0,1,2,3,4],[],[0,1,2,3,4,5,6]] [[],[],[],[],[],[],[]] (fun _ w'=>Below w4.heap.size w4 w') (fun w w'=>Below w.heap.size w w') [57,58,59,60,61,62,63] rfl rfl (by rfl) (by kernel_rfl) (by kernel_rfl) (by kernel_rfl) (by kernel_rfl) (by kernel_rfl) (by rfl) (fun _=>Below.refl _ _) (by rfl) (below_drewN (Below.refl _ _) 1) ?_;simp only [qB,yC]
             iterate 7
              apply dQ.step
              case aP=>intro c A w' hok hC hO hD;have e0:=hO 0 (by rfl);have e5:=hO 5 (by rfl);have e7:=hO 7 (by rfl);have e6:=hO 6 (by rfl);simp [Act.eval] at e0 e5 e7 e6;simp [Act.eval] at hD;simp [go_sem,gd,Oper.wp,hD,e0,e5,e7,e6,hwk,k0,k1,kt,Z0,Z1,Z2,Z3,Z4,hC,C0,C1,C2,C3,C4];exact aI.mk (Below.refl _ _) hC (bG.mk _ _)
              try simp only [gZ]
             try simp only [gZ]
             refine dQ.done ?_;intro wz gy
             try simp only [qB]
             iterate 7 refine Er ?_
             refine yM ?_;go_simp;have xu:=ah (dG.o.trans (gy.mono Vu.o));have aF2:aj (Below B w4 wz):=ah (gy.mono Vu.o);have PZ:aj (wz.heap[cb]? =some (.cells #[.string c.nm,.int .i64 j,.int .i64 c.sz,.bool false,.int .i64 c.init] 83 (0,0))):=ah ((gy.block cb (Array.getElem?_eq_some_iff.1 mR.o).1).trans mR.o);have HGz:aj (jB B wz (.slice (some ⟨g,0,none⟩) (acc.length + 1) CW) (acc++[c.nm])):=ah (Ad.o.next ⟨gy.size,fun q _ h2=>gy.block q h2⟩);have HRz:=ah (HR4.o.below aF2.o);clear Z0 Z1 Z2 Z3 Z4 C0 C1 C2 C3 C4 gy;refine iB 7 [[],[],[],[1,2],[0,1,2,3],[0,1,2,3,4],[],[0,1,2,3,4,5,6]] rfl rfl rfl rfl rfl (by kernel_rfl) (by kernel_rfl) (by kernel_rfl) ?_;refine as5 _ _ _ _ rfl _ _ _ rfl rfl (RA _ _ _ _ wz) (hnq wz) ?_;refine iU rfl ?_;clear hnq;cases he:ED c j x
             ·have HT:aj (res=none):=ah (by rw [iy.o,I4.o,he]; rfl);go_simp;go_wp2_with fail
              go_ret2
              rw [HT.o];exact ⟨rfl,by rw [nK.o]; exact xu.o⟩
             ·have Vy:aj (vJ c n 0 (c ::R)=vJ c (n - (j + 1)) ((j:Int) + 1) Q):=ah (by rw [I4.o,he]; rfl);have mF:aj (Q=(c ::R).drop (j + 1)):=ah (by have:=congrArg (List.drop 1) HQ.o;rw [List.drop_drop] at this;simpa using this);have y2:wz.cell? ⟨cb,2,none⟩=some (.int .i64 c.sz):=ak PZ.o rfl;go_simp;go_wp2_with fail;go_roundw
              case rel=>exact ⟨j + 1,Q,j,by go_num,by omega,mF.o,Vy.o,PZ.o,HGz.o,HRz.o,xu.o⟩
              case measure=>simp [intOf]; omega
          ·obtain rfl:j=n:=(by omega);have HT:aj (vJ c j 0 (c ::R)=true):=ah (by rw [qE.o,Nat.sub_self]; cases Q <;> rfl);have zm:aj (res=(oI f ((c ::R).drop j)).map (fun l=>(acc++[c.nm])++l)):=ah (by rw [iy.o,HT.o]; rfl);have hnlt: ¬ (j:Int) < c.sz:=(by have:=FL.o; omega);have hw2:IntKind.i64.wrap ((k:Int) + c.sz)=((k + j:Nat):Int):=(by have:=FL.o;rw [IntWalk.i64_in _ (by omega)]; omega);have z2:wr.cell? ⟨cb,2,none⟩=some (.int .i64 c.sz):=ak qm.o rfl;go_wp2_with fail;go_roundw
           case rel=>exact ⟨k + j,(c ::R).drop j,acc++[c.nm],f,by first | rfl | simp [hw2],by simp; omega,by simp; omega,zm.o,HGq.o,drop_at j HRq.o,HBq.o,by simp; omega,fun x hx=>HNR.o x (List.mem_of_mem_drop hx),Te.o⟩
           case measure=>simp [intOf]; omega
       ·have HT:aj (res=none):=ah (by rw [HE.o,oI,hsz,Uq]; simp);rw [Uq] at z3;go_wp2_with fail
        go_ret2
        rw [HT.o];exact ⟨rfl,by rw [nK.o]; exact HB3.o⟩
    ·cases hix:(c.ix == 0)
     ·have HT:aj (res=none):=ah (by rw [HE.o,oI,hsz]; simp [bne,hix]);go_wp2_with fail
      go_ret2
      rw [HT.o];exact ⟨rfl,by rw [nK.o]; exact HB3.o⟩
     ·have HE2:aj (res=(oI f R).map (fun l=>(acc++[c.nm])++l)):=ah (by rw [HE.o,oI,hsz];have:(c.ix != 0)=false:=(by simp [bne,hix]);rw [this];exact Bv);go_wp2_with fail;go_roundw
      case rel=>exact ⟨k + 1,R,acc++[c.nm],f,by go_num,by omega,by omega,HE2.o,BI.o,gU.o.below Vw.o,HB3.o,by simp; omega,HNT.o,Te.o⟩
      case measure=>simp [intOf]; omega
theorem Kq (W:Wo) (s:gW) (w:World) (hw:dR w w.heap.size W s) (h60:W.ss.length<=60):
 Calls Tryz.prog 20 #[jS W s] w fun e w'=>e= .returned (.bool (vsA W.ts.length 0 0 W.ss))∧Below w.heap.size w w':=by
 obtain ⟨aC,aL,aN,aF,aT,aS,cC,cL,cN,cF,cT,cS⟩:=s;have HW:=ah hw;have hlt:=hw.lt;unfold maxLen at hlt;obtain ⟨res,hres⟩: ∃r,vsA W.ts.length 0 0 W.ss=r:=⟨_,rfl⟩;have HR:=ah hres;rw [hres];clear hw hres;unfold jS;dsimp only;go_enter Tryz.func20,Tryz.ntmps20;go_upto_region 1 with fail;generalize hW:World.alloc w _=W1;obtain ⟨nb,hnb⟩: ∃n,w.heap.size=n:=⟨_,rfl⟩;have HB:aj (Below nb w W1):=ah (by rw [<- hW,<- hnb]; exact au _ _);have HX:aj (W1.heap[nb]? =some (.cells #[.slice aC W.cs.length cC,.slice aL W.ls.length cL,.slice aN W.ns.length cN,.slice aF W.fs.length cF,.slice aT W.ts.length cT,.slice aS W.ss.length cS] 28 (0,0))):=ah (by rw [<- hW,<- hnb]; exact heap_alloc_new _ _);have iG:aj (W1.heap.size=nb + 1):=ah (by rw [<- hW,<- hnb]; simp);have HF:aj (bL uG 3 W1 nb W.ss aS 0):=ah (by have:=HW.o.ss; rw [hnb] at this; exact this.below HB.o);have bF:=ah hnb;rw [hnb];clear hW hnb HW;have g5:=ak (j:=5) HX.o rfl;simp only [List.getElem_toArray,List.getElem_cons_zero,List.getElem_cons_succ] at g5;go_wp2_with fail;go_loopw [3,4,6,10] (fun v3 v4 _ v10 wr=> ∃(k:Nat) (R:List rU) (th nx:Int),v10= .int .i64 k∧v3= .int .i64 th∧v4= .int .i64 nx∧k + R.length=W.ss.length∧res=vsA W.ts.length th nx R∧0<=nx∧nx<=k∧bL uG 3 wr nb R aS k∧Below (nb + 1) W1 wr) (fun _ _ _ v _=>W.ss.length - (intOf v).toNat)
 case atStart=>exact ⟨0,W.ss,0,0,rfl,rfl,rfl,by simp,HR.o.symm,by decide,by decide,HF.o,Below.refl _ _⟩
 case round=>
  obtain ⟨k,R,th,nx,rfl,rfl,rfl,hlen,heq,hn0,hnk,hrow,hbel⟩:=hrel;have HE:=ah heq;have ig:=ah hbel;have jq:=ah ((ig.o.block nb (Nat.lt_succ_self _)).trans HX.o);have mP:aj (Below nb w wr):=ah (HB.o.trans (ig.o.mono (Nat.le_succ _)));have dY:aj (nb + 1<=wr.heap.size):=ah (by have h1:=ig.o.size; have h2:=iG.o; omega);clear heq hbel g5;cases R with
  | nil=>
    have HT:aj (res=true):=ah HE.o;obtain rfl:k=W.ss.length:=by simpa using hlen
    go_wp2_with fail;go_ret;exact ⟨by rw [HT.o]; rfl,by rw [bF.o]; exact mP.o⟩
  | cons x R=>
    obtain ⟨⟨b,off,hao,hb1,hcs⟩,hrest⟩:=hrow;simp only [List.length_cons] at hlen;have hkl:k < W.ss.length:=by omega
    have x0:=hcs 0 _ rfl;have x1:=hcs 1 _ rfl;have x2:=hcs 2 _ rfl;simp only [Nat.add_zero] at x0;have gU:=ah hrest;subst hao;have g4:=ak (j:=4) jq.o rfl;simp only [List.getElem_toArray,List.getElem_cons_zero,List.getElem_cons_succ] at g4;have hwn:IntKind.i64.wrap (nx + 1)=nx + 1:=IntWalk.i64_in _ (by omega);have aM5:IntKind.i64.wrap ((0:Int) + 1)=1:=IntWalk.i64_in _ (by omega);have hnl:nb < wr.heap.size:=by have:=dY.o; omega
    have hnb: ¬ nb=wr.heap.size:=by omega
    clear hcs hrest;by_cases h1:x.th < th
    ·have HT:aj (res=false):=ah (by rw [HE.o,vsA]; simp [h1]);go_wp2_with fail;go_ret;exact ⟨by rw [HT.o]; rfl,by rw [bF.o]; exact mP.o.trans ((au _ _).mono (by have:=dY.o; omega))⟩
    ·by_cases h2:(W.ts.length:Int)<=x.th
     ·have HT:aj (res=false):=ah (by rw [HE.o,vsA]; simp [h2]);go_wp2_with fail;go_ret;exact ⟨by rw [HT.o]; rfl,by rw [bF.o]; exact mP.o.trans ((au _ _).mono (by have:=dY.o; omega))⟩
     ·by_cases h3:th < x.th
      ·cases h4:(x.st == 0)
       ·have HT:aj (res=false):=ah (by rw [HE.o,vsA]; simp [h1,h2,h3,bne,h4]);go_wp2_with fail;go_ret;exact ⟨by rw [HT.o]; rfl,by rw [bF.o]; exact mP.o.trans ((au _ _).mono (by have:=dY.o; omega))⟩
       ·have HE2:aj (res=vsA W.ts.length x.th 1 R):=ah (by rw [HE.o,vsA]; simp [h1,h2,h3,bne,h4]);go_wp2_with fail;go_roundw
        case rel=>exact ⟨k + 1,R,x.th,1,by go_num,rfl,by first | rfl | simp [aM5],by omega,HE2.o,by decide,by omega,gU.o.below ((au _ _).mono (by have:=dY.o; omega)),ig.o.trans ((au _ _).mono dY.o)⟩
        case measure=>simp [intOf]; omega
      ·cases h4:(x.st == nx)
       ·have HT:aj (res=false):=ah (by rw [HE.o,vsA]; simp [h1,h2,h3,bne,h4]);go_wp2_with fail;go_ret;exact ⟨by rw [HT.o]; rfl,by rw [bF.o]; exact mP.o.trans ((au _ _).mono (by have:=dY.o; omega))⟩
       ·have HE2:aj (res=vsA W.ts.length th (nx + 1) R):=ah (by rw [HE.o,vsA]; simp [h1,h2,h3,bne,h4]);go_wp2_with fail;go_roundw
        case rel=>exact ⟨k + 1,R,th,nx + 1,by go_num,rfl,by first | rfl | simp [hwn],by omega,HE2.o,by omega,by omega,gU.o.below ((au _ _).mono (by have:=dY.o; omega)),ig.o.trans ((au _ _).mono dY.o)⟩
        case measure=>simp [intOf]; omega
end Go.Proofs.YtgjmahnblcajbaaGreatDoor
