/- Two cells compared. A closed law on values. And what hangs on it. -/
import Derived.Test.YtfbbaiejbjdfbaaGreatDoorGVA
import Derived.Test.YtfbbaiejbjdfbaaGreatDoorGMB
import Derived.Test.YtfbbaiejbjdfbaaGreatDoorGMX
import Derived.Test.YtfbbaiejbjdfbaaGreatDoorGCA
import Derived.Deep.AppendLies
set_option linter.unusedSimpArgs false
set_option linter.unusedVariables false
set_option maxHeartbeats 40000000
set_option maxRecDepth 1000000
namespace Go.Proofs.YtfbbaiejbjdfbaaGreatDoor
open Go.RowKit
open Md
theorem ZU (a a':ByteArray) (i i' z z' n n':Int) (v v':Bool) (w:World):
 (binOp .neq 86 (.agg #[.string a,.int .i64 i,.int .i64 z,.bool v,.int .i64 n]) (.agg #[.string a',.int .i64 i',.int .i64 z',.bool v',.int .i64 n'])).run Tryz.prog w= .ok (.bool (!(a.toList == a'.toList && (i == i' && (z == z' && (v == v' && n == n')))))) w:=by
 cases h1:(a.toList == a'.toList) <;> cases h2:(i == i') <;> cases h3:(z == z') <;> cases h4:(v == v') <;> cases h5:(n == n')
 all_goals simp [go_sem,h1,h2,h3,h4,h5]
theorem aI7 {P:Program} {o:Oper} {a:Act} {w:World} {K:Act->World->Prop} {Q:Exit->Act->World->Prop} (s x:Operand) (T ty:TypeId) (ho:o.op= .binOp .neq T s x ty)
 (A B:Value) (r:Bool) (hs:a.eval s=A) (hx:a.eval x=B) (hg:(eqGuard .neq T s x A B).run P w= .ok () w) (hr:(binOp .neq T A B).run P w= .ok (.bool r) w) (h:K (a.put o.dst (.bool r)) w):o.wp P a w K Q:=by
 unfold Oper.wp execOp;simp only [ho,Sem.run_bind,Sem.run_pure,Result.andThen_ok,hs,hx,hg,hr];exact h
theorem Ve (s x:Operand) (xs ys:Array Value) (w:World):(eqGuard .neq 86 s x (.agg xs) (.agg ys)).run Tryz.prog w= .ok () w:=run_eqGuard_agg (w:=w) .neq 86 s x xs ys Tryz.eqGuardType86
theorem kQ.far {B b:Nat} {w w':World} {v:Value} {l:List ByteArray} (h:kQ B w v l) (hg:w.grownBy w' (some b)) (hne:v.ownBlock≠some b):kQ B w' v l:=
 ⟨h.own.kept hg (.inr hne),fun _ _ _ _=>trivial⟩
theorem TP:(Tryz.prog.info? 9).map (fun i=>(i.zero,i.size,i.bytes))=some (some (.string ⟨#[]⟩),1,16):=by kernel_rfl
theorem drop_at {α:Type} {f:α->List Value} {m B:Nat} {w:World} {ao:Option Addr} : ∀ {l:List α} {k:Nat} (i:Nat),dK f m w B l ao k->dK f m w B (l.drop i) ao (k + i):=fun i h=>O8 i h
def VcP (o:Option (List ByteArray)) (w:World) (e:Ending) (w':World):Prop:=(match o with
 | none=>e= .returned (.tuple #[.slice none 0 0,.bool false])
 | some v=> ∃ao cap,e= .returned (.tuple #[.slice ao v.length cap,.bool true])∧fP w' w'.heap.size v ao 0∧v.length<=cap)∧Below w.heap.size w w'
theorem Jt {o:Option (List ByteArray)} {a:List ByteArray} {x:ByteArray} :(o.map (fun l=>x ::l)).map (fun l=>a++l)=o.map (fun l=>(a++[x])++l):=by
 cases o <;> simp
theorem Nl (l:List qB) (w:World) (ao:Option Addr) (cap:Nat) (hl:l.length<=12) (hw:dK jK 5 w w.heap.size l ao 0) (hn: ∀c ∈ l,c.nm.size<=maxLen):
 Calls Tryz.prog 46 #[.slice ao l.length cap] w (VcP (AZ l) w):=by
 have HW:=ah hw;have HN:=ah hn;obtain ⟨res,hres⟩: ∃r,AZ l=r:=⟨_,rfl⟩;have HR:=ah hres;rw [hres];obtain ⟨B,hB⟩: ∃n,w.heap.size=n:=⟨_,rfl⟩;have iJ:=ah hB;rw [hB] at HW;clear hw hn hres hB;go_enter Tryz.func46,Tryz.ntmps46;go_wp2_with fail;go_loopw [4,5,6,7,51,52] (fun v4 v5 _ _ _ _ wr=> ∃(k:Nat) (R:List qB) (acc:List ByteArray) (f:Nat),v5= .int .i64 k∧k + R.length=l.length∧R.length<=f∧res=(vC f R).map (fun l=>acc++l)∧kQ B wr v4 acc∧dK jK 5 wr B R ao k∧Below B w wr∧acc.length<=k∧(∀c ∈ R,c.nm.size<=maxLen)∧(∀x ∈ acc,x.size<=maxLen)) (fun _ v _ _ _ _ _=>l.length - (intOf v).toNat)
 case atStart=>exact ⟨0,l,[],l.length,rfl,by simp,Nat.le_refl _,by rw [<- HR.o]; show vC l.length l=_; cases vC l.length l <;> rfl,Grow.nil _ _ _ _ _ _,HW.o,Below.refl _ _,Nat.le_refl _,HN.o,fun x hx=>by cases hx⟩
 case round=>
  obtain ⟨k,R,acc,f,rfl,hlen,hRf,heq,hg,hrow,hbel,hac,hnR,hnA⟩:=hrel;have HE:=ah heq;have HG:=ah hg;have HB:=ah hbel;have HNR:=ah hnR;have HNA:=ah hnA;have mg:aj (B<=wr.heap.size):=ah (by have h1:=hbel.size; have h2:=iJ.o; omega);clear heq hg hbel hnR hnA;cases R with
  | nil=>
    obtain rfl:k=l.length:=by simpa using hlen
    obtain ⟨Fy,cap2,rfl,hc2,hst⟩:=kQ.says HG.o HNA.o;have HT:aj (res=some acc):=ah (by rw [HE.o]; cases f <;> simp [vC]);have HST:=ah hst.now;have OY:=ah hc2;clear hst hc2;go_wp2_with fail
    go_ret2
    rw [HT.o];exact ⟨⟨Fy,cap2,rfl,HST.o,OY.o⟩,by rw [iJ.o]; exact HB.o⟩
  | cons c R=>
    obtain ⟨f,rfl⟩: ∃g,f=g + 1:=⟨f - 1,by simp at hRf; omega⟩;have YT:=ah hrow;obtain ⟨⟨b,off,rfl,hb1,hcs⟩,hrest⟩:=hrow;simp only [List.length_cons] at hlen hRf;have hkl:k < l.length:=by omega
    have x0:=hcs 0 _ rfl;have x1:=hcs 1 _ rfl;have x2:=hcs 2 _ rfl;have x3:=hcs 3 _ rfl;have x4:=hcs 4 _ rfl;simp only [Nat.add_zero] at x0;have ko:=ah hrest;clear hcs hrest;go_upto_region 5 with fail;obtain ⟨cb,hcb⟩: ∃n,wr.heap.size=n:=⟨_,rfl⟩;generalize hW2:World.alloc wr _=w2;have HB2:aj (Below wr.heap.size wr w2):=ah (by rw [<- hW2]; exact ak _ _);have qO:aj (w2.heap[cb]? =some (.cells #[.string c.nm,.int .i64 c.ix,.int .i64 c.sz,.bool c.I6,.int .i64 c.init] 86 (0,0))):=ah (by rw [<- hW2,<- hcb]; exact heap_alloc_new _ _);have HCB:=ah hcb;have HG2:=ah (HG.o.next (dB HB2.o));rw [hcb];clear hW2 hcb x0 x1 x2 x3 x4;have y0:=au (j:=0) qO.o rfl;simp only [List.getElem_toArray,List.getElem_cons_zero,List.getElem_cons_succ] at y0;obtain ⟨av,cv,hv⟩:=HG2.o.len;subst hv;have qY:=ah (HG2.o.next (dB (ak w2 (.cells (yN c.nm).toArray 9))));have jv:=ah (gP (heap_alloc_new w2 (.cells (yN c.nm).toArray 9)));obtain ⟨i0,hi,hz0,hz1,hz2⟩:=zq TP;have hbs:B<=w2.heap.size + 1:=by have h1:=mg.o; have h2:=HB2.o.size; omega
    have aC7:acc.length + 1<=maxLen:=by unfold maxLen; omega
    have aC6:(acc.length + 1) * 16<=140737488355328:=by omega
    go_wp2_with (at_builtin; refine wpList_append_lies _ rfl _ _ 31 rfl B 9 i0 _ 1 16 Tryz.underlying31 hi hz0 hz1 hz2 rfl (by decide) _ _ _ rfl qY.o.own ⟨w2.heap.size,0,none⟩ 1 1 (yN c.nm) rfl rfl jv.o (by simp [yN,Value.oneCell']) (by decide) aC7 aC6 (by simpa using hbs) _ rfl ?_);clear hi hz0 hz1 hz2 y0;intro g Gm w3 hown hgr hmv hlt3;have VW:aj (kQ B w3 (.slice (some ⟨g,0,none⟩) (acc.length + 1) Gm) (acc++[c.nm])):=ah (qY.o.push (x:=c.nm) (fun _ _=>trivial) rfl hown hgr (by simpa using hmv));have SC:aj (∀q,(Value.slice av acc.length cv).ownBlock=some q->B<=q∧q < cb):=ah (fun q hq=>by have:=HG.o.lt q hq; rw [HCB.o] at this; exact this);have HW2:aj (cb < w2.heap.size):=ah (Array.getElem?_eq_some_iff.1 qO.o).1;have YG:aj (Below B wr w3):=ah (((HB2.o.mono mg.o).trans ((ak w2 _).mono (by have h1:=mg.o; have h2:=HB2.o.size; omega))).trans ⟨hgr.os,hgr.tape,hgr.output,hgr.size,fun q hq=>hgr.block q (by simp; have h1:=mg.o; have h2:=HB2.o.size; omega) (fun e=>by have:=(SC.o q e.symm).1; omega)⟩);have HB3:=ah (HB.o.trans YG.o);have JJ:aj (w3.heap[cb]? =some (.cells #[.string c.nm,.int .i64 c.ix,.int .i64 c.sz,.bool c.I6,.int .i64 c.init] 86 (0,0))):=ah ((hgr.block cb (by simp; have:=HW2.o; omega) (fun e=>by have:=(SC.o cb e.symm).2; omega)).trans ((heap_alloc_old _ _ HW2.o).trans qO.o));have HGN:aj (g≠cb):=ah (by
     rcases hmv with h | h
     ·have:=(SC.o g h).2; omega
     ·have:=HW2.o; omega)
    have HNN:aj (∀x ∈ acc++[c.nm],x.size<=maxLen):=ah (fun x hx=>by
     rcases List.mem_append.1 hx with hx | hx
     ·exact HNA.o x hx
     ·rw [List.mem_singleton.1 hx]; exact HNR.o c List.mem_cons_self)
    have Pk:aj (∀x ∈ R,x.nm.size<=maxLen):=ah (fun x hx=>HNR.o x (List.mem_cons_of_mem _ hx));clear hown hgr hmv hlt3 hbs aC7 aC6 jv qY HG2 qO HG;have z0:=au (j:=0) JJ.o rfl;have z1:=au (j:=1) JJ.o rfl;have z2:=au (j:=2) JJ.o rfl;have z3:=au (j:=3) JJ.o rfl;have z4:=au (j:=4) JJ.o rfl;simp only [List.getElem_toArray,List.getElem_cons_zero,List.getElem_cons_succ] at z0 z1 z2 z3 z4;have hwl:IntKind.i64.wrap ((l.length:Int) - (k:Int))=(l.length:Int) - (k:Int):=IntWalk.i64_in _ (by omega);have hw1:IntKind.i64.wrap ((k:Int) + 1)=(k:Int) + 1:=IntWalk.i64_in _ (by omega);cases hsz:(c.sz == 0)
    ·by_cases h1:c.sz < 1
     ·have HT:aj (res=none):=ah (by rw [HE.o,vC,hsz]; simp [h1]);go_wp2_with fail
      go_ret2
      rw [HT.o];exact ⟨rfl,by rw [iJ.o]; exact HB3.o⟩
     ·by_cases h2:4 < c.sz
      ·have HT:aj (res=none):=ah (by rw [HE.o,vC,hsz]; simp [h2]);go_wp2_with fail
       go_ret2
       rw [HT.o];exact ⟨rfl,by rw [iJ.o]; exact HB3.o⟩
      ·cases Xw:c.I6
       ·have Wt:=ah Xw;rw [Xw] at z3 JJ;by_cases h4:(l.length:Int) - (k:Int) < c.sz
        ·have HT:aj (res=none):=ah (by rw [HE.o,vC,hsz];have:decide (((R.length + 1:Nat):Int) < c.sz)=true:=(by rw [decide_eq_true_iff]; omega);simp only [this]; simp);go_wp2_with fail
         go_ret2
         rw [HT.o];exact ⟨rfl,by rw [iJ.o]; exact HB3.o⟩
        ·obtain ⟨n,hn⟩:=Int.eq_ofNat_of_zero_le (show 0<=c.sz by omega);have FX:=ah hn;have hn1:1<=n:=(by omega);have hn4:n<=4:=(by omega);have hnR:n<=R.length + 1:=(by omega);have sS:aj (res=if Ak c n 0 (c ::R) then (vC f ((c ::R).drop n)).map (fun l=>(acc++[c.nm])++l) else none):=ah (by
          have hd:(decide (c.sz < 1) || (decide (4 < c.sz) || (c.I6 || decide (((R.length + 1:Nat):Int) < c.sz))))=false:=(by rw [Xw]; simp; omega);rw [HE.o,vC,hsz,hd];have e:c.sz.toNat=n:=(by omega);rw [e];cases Ak c n 0 (c ::R)
          ·rfl
          ·exact Jt)
         clear hn HE;go_upto_region 13 with fail;clear z0 z1 z2 z3 z4;obtain ⟨wI,Lx⟩: ∃W:World,W=wr:=⟨_,rfl⟩;subst Lx;go_loopw [7,52] (fun _ v52 wq=> ∃(j:Nat) (Q:List qB) (ix:Int),v52= .int .i64 j∧j<=n∧Q=(c ::R).drop j∧Ak c n 0 (c ::R)=Ak c (n - j) j Q∧wq.heap[cb]? =some (.cells #[.string c.nm,.int .i64 ix,.int .i64 c.sz,.bool false,.int .i64 c.init] 86 (0,0))∧kQ B wq (.slice (some ⟨g,0,none⟩) (acc.length + 1) Gm) (acc++[c.nm])∧dK jK 5 wq B (c ::R) (some ⟨b,off,none⟩) k∧Below B w wq) (fun _ v _=>n - (intOf v).toNat)
         case atStart=>exact ⟨0,_,c.ix,rfl,Nat.zero_le _,rfl,rfl,JJ.o,VW.o,YT.o.below YG.o,HB3.o⟩
         case round=>
          obtain ⟨j,Q,ix,rfl,hjn,hQ,heq,hbx,hg,hrow,hbel⟩:=hrel;have HQ:=ah hQ;have Au:=ah heq;have rW:=ah hbx;have HGq:=ah hg;have HRq:=ah hrow;have Nu:=ah hbel;clear hQ heq hbx hg hrow hbel;by_cases hjl:j < n
          ·cases Q with
           | nil=>exfalso;have:=congrArg List.length HQ.o;simp at this; omega
           | cons x Q=>
             have hx:(c ::R)[j]? =some x:=(by have:=congrArg (fun l=>l[0]?) HQ.o;simpa using this.symm);obtain ⟨b',off',e,hb',hcs⟩:=HRq.o.at j x hx;injection e with e; injection e with e1 e2;subst e1 e2;have z0:=hcs 0 _ rfl;have z1:=hcs 1 _ rfl;have z2:=hcs 2 _ rfl;have z3:=hcs 3 _ rfl;have z4:=hcs 4 _ rfl;simp only [Nat.add_zero] at z0;have hjs:(j:Int) < c.sz:=(by have:=FX.o; omega);have y2:wr.cell? ⟨cb,2,none⟩=some (.int .i64 c.sz):=au rW.o rfl;have y1:wr.cell? ⟨cb,1,none⟩=some (.int .i64 ix):=au rW.o rfl;have f1:wr.frozen? ⟨cb,1,none⟩=false:=dH rW.o;have hkj:k + j < l.length:=(by omega);have hwk:IntKind.i64.wrap ((k:Int) + (j:Int))=((k + j:Nat):Int):=(by rw [IntWalk.i64_in _ (by omega)]; omega);have HLS:aj (B<=cb):=ah (by have:=mg.o; have:=HCB.o; omega);clear hcs hx;go_upto_region 16 with fail;generalize hW:World.setCell wr _ _=w4;have JC:aj (Below B wr w4):=ah (by rw [<- hW]; exact bQ (bL _ _ _) HLS.o (Nat.le_trans HLS.o (Nat.le_of_lt (Array.getElem?_eq_some_iff.1 rW.o).1)));have kT:aj (w4.heap[cb]? =some (.cells #[.string c.nm,.int .i64 j,.int .i64 c.sz,.bool false,.int .i64 c.init] 86 (0,0))):=ah (by rw [<- hW]; exact pG rW.o _ rfl);have Fv:aj (kQ B w4 (.slice (some ⟨g,0,none⟩) (acc.length + 1) Gm) (acc++[c.nm])):=ah (by rw [<- hW]; exact kQ.far HGq.o (bL _ _ _) (fun e=>by injection e with e; exact HGN.o e));have HR4:=ah (HRq.o.below JC.o);have dO:=ah (Nu.o.trans JC.o);have YF:aj (B<=w4.heap.size):=ah (by have h1:=HLS.o; have h2:=(Array.getElem?_eq_some_iff.1 kT.o).1; omega);have Ut:=(JC.o.cell (p:=⟨b,_,none⟩) hb').trans z0;have z1':=(JC.o.cell (p:=⟨b,_,none⟩) hb').trans z1;have z2':=(JC.o.cell (p:=⟨b,_,none⟩) hb').trans z2;have z3':=(JC.o.cell (p:=⟨b,_,none⟩) hb').trans z3;have FJ:=(JC.o.cell (p:=⟨b,_,none⟩) hb').trans z4;have hb4:b < w4.heap.size:=Nat.lt_of_lt_of_le hb' YF.o;clear hW z0 z1 z2 z3 z4 y1 y2 f1;have Z0:=fun w' (hb:Below w4.heap.size w4 w')=>(hb.cell (p:=⟨b,_,none⟩) hb4).trans Ut;have Z1:=fun w' (hb:Below w4.heap.size w4 w')=>(hb.cell (p:=⟨b,_,none⟩) hb4).trans z1';have Z2:=fun w' (hb:Below w4.heap.size w4 w')=>(hb.cell (p:=⟨b,_,none⟩) hb4).trans z2';have Z3:=fun w' (hb:Below w4.heap.size w4 w')=>(hb.cell (p:=⟨b,_,none⟩) hb4).trans z3';have Z4:=fun w' (hb:Below w4.heap.size w4 w')=>(hb.cell (p:=⟨b,_,none⟩) hb4).trans FJ;have C: ∀(i:Nat) (u:Value),(#[.string c.nm,.int .i64 j,.int .i64 c.sz,.bool false,.int .i64 c.init]:Array Value)[i]? =some u-> ∀w',Below w4.heap.size w4 w'->w'.cell? ⟨cb,i,none⟩=some u:=fun i u hu w' hb=>au ((hb.block cb (Array.getElem?_eq_some_iff.1 kT.o).1).trans kT.o) hu;have C0:=C 0 _ rfl;have C1:=C 1 _ rfl;have C2:=C 2 _ rfl;have C3:=C 3 _ rfl;have C4:=C 4 _ rfl;have HEQ:aj (Ak c n 0 (c ::R)=(JU c j x && Ak c (n - (j + 1)) ((j:Int) + 1) Q)):=ah (by rw [Au.o,show n - j=(n - (j + 1)) + 1 by omega,Ak]);have HEC:aj (JU c j x=(x.nm.toList == c.nm.toList && (x.ix == (j:Int) && (x.sz == c.sz && (x.I6 == false && x.init == c.init))))):=ah (by unfold JU; rw [Wt.o]);clear C Ut z1' z2' z3' FJ;have k0:(0:Int)<=(k:Int) + (j:Int):=(by omega);have k1:(k:Int) + (j:Int) < (l.length:Int):=(by omega);have kt:((k:Int) + (j:Int)).toNat=k + j:=(by omega);have hnq: ∀w,(binOp .neq 86 (.agg #[.string x.nm,.int .i64 x.ix,.int .i64 x.sz,.bool x.I6,.int .i64 x.init]) (.agg #[.string c.nm,.int .i64 j,.int .i64 c.sz,.bool false,.int .i64 c.init])).run Tryz.prog w= .ok (.bool (!(JU c j x))) w:=fun w=>by rw [ZU,HEC.o]
             go_wp2_with fail;refine bG (by kernel_rfl) rfl ?_;refine aY 0 7 [] [[],[],[],[1,2],[0,1,2,3],[0,1,2,3,4],[],[0,1,2,3,4,5,6]] [[],[],[],[],[],[],[]] (fun _ w'=>Below w4.heap.size w4 w') (fun w w'=>Below w.heap.size w w') [57,58,59,60,61,62,63] rfl rfl (by rfl) (by kernel_rfl) (by kernel_rfl) (by kernel_rfl) (by kernel_rfl) (by kernel_rfl) (by rfl) (fun _=>Below.refl _ _) (by rfl) (below_drewN (Below.refl _ _) 1) ?_;simp only [eP,jC]
             iterate 7
              apply aU.step
              case aM=>intro c A w' hok hC hO hD;have e0:=hO 0 (by rfl);have e5:=hO 5 (by rfl);have e7:=hO 7 (by rfl);have e6:=hO 6 (by rfl);simp [Act.eval] at e0 e5 e7 e6;simp [Act.eval] at hD;simp [go_sem,gd,Oper.wp,hD,e0,e5,e7,e6,hwk,k0,k1,kt,Z0,Z1,Z2,Z3,Z4,hC,C0,C1,C2,C3,C4];exact aG.mk (Below.refl _ _) hC (bH.mk _ _)
              try simp only [bP]
             try simp only [bP]
             refine aU.done ?_;intro wz bC
             try simp only [eP]
             iterate 7 refine jq ?_
             refine kH ?_;go_simp;have HBz:=ah (dO.o.trans (bC.mono YF.o));have aX1:aj (Below B w4 wz):=ah (bC.mono YF.o);have HXz:aj (wz.heap[cb]? =some (.cells #[.string c.nm,.int .i64 j,.int .i64 c.sz,.bool false,.int .i64 c.init] 86 (0,0))):=ah ((bC.block cb (Array.getElem?_eq_some_iff.1 kT.o).1).trans kT.o);have HGz:aj (kQ B wz (.slice (some ⟨g,0,none⟩) (acc.length + 1) Gm) (acc++[c.nm])):=ah (Fv.o.next ⟨bC.size,fun q _ h2=>bC.block q h2⟩);have Dh:=ah (HR4.o.below aX1.o);clear Z0 Z1 Z2 Z3 Z4 C0 C1 C2 C3 C4 bC;refine bZ 7 [[],[],[],[1,2],[0,1,2,3],[0,1,2,3,4],[],[0,1,2,3,4,5,6]] rfl rfl rfl rfl rfl (by kernel_rfl) (by kernel_rfl) (by kernel_rfl) ?_;refine aI7 _ _ _ _ rfl _ _ _ rfl rfl (Ve _ _ _ _ wz) (hnq wz) ?_;refine bV rfl ?_;clear hnq;cases he:JU c j x
             ·have HT:aj (res=none):=ah (by rw [sS.o,HEQ.o,he]; rfl);go_simp;go_wp2_with fail
              go_ret2
              rw [HT.o];exact ⟨rfl,by rw [iJ.o]; exact HBz.o⟩
             ·have aX3:aj (Ak c n 0 (c ::R)=Ak c (n - (j + 1)) ((j:Int) + 1) Q):=ah (by rw [HEQ.o,he]; rfl);have yZ:aj (Q=(c ::R).drop (j + 1)):=ah (by have:=congrArg (List.drop 1) HQ.o;rw [List.drop_drop] at this;simpa using this);have y2:wz.cell? ⟨cb,2,none⟩=some (.int .i64 c.sz):=au HXz.o rfl;go_simp;go_wp2_with fail;go_roundw
              case rel=>exact ⟨j + 1,Q,j,by go_num,by omega,yZ.o,aX3.o,HXz.o,HGz.o,Dh.o,HBz.o⟩
              case measure=>simp [intOf]; omega
          ·obtain rfl:j=n:=(by omega);have HT:aj (Ak c j 0 (c ::R)=true):=ah (by rw [Au.o,Nat.sub_self]; cases Q <;> rfl);have IZ:aj (res=(vC f ((c ::R).drop j)).map (fun l=>(acc++[c.nm])++l)):=ah (by rw [sS.o,HT.o]; rfl);have hnlt: ¬ (j:Int) < c.sz:=(by have:=FX.o; omega);have hw2:IntKind.i64.wrap ((k:Int) + c.sz)=((k + j:Nat):Int):=(by have:=FX.o;rw [IntWalk.i64_in _ (by omega)]; omega);have z2:wr.cell? ⟨cb,2,none⟩=some (.int .i64 c.sz):=au rW.o rfl;go_wp2_with fail;go_roundw
           case rel=>exact ⟨k + j,(c ::R).drop j,acc++[c.nm],f,by first | rfl | simp [hw2],by simp; omega,by simp; omega,IZ.o,HGq.o,drop_at j HRq.o,Nu.o,by simp; omega,fun x hx=>HNR.o x (List.mem_of_mem_drop hx),HNN.o⟩
           case measure=>simp [intOf]; omega
       ·have HT:aj (res=none):=ah (by rw [HE.o,vC,hsz,Xw]; simp);rw [Xw] at z3;go_wp2_with fail
        go_ret2
        rw [HT.o];exact ⟨rfl,by rw [iJ.o]; exact HB3.o⟩
    ·cases hix:(c.ix == 0)
     ·have HT:aj (res=none):=ah (by rw [HE.o,vC,hsz]; simp [bne,hix]);go_wp2_with fail
      go_ret2
      rw [HT.o];exact ⟨rfl,by rw [iJ.o]; exact HB3.o⟩
     ·have HE2:aj (res=(vC f R).map (fun l=>(acc++[c.nm])++l)):=ah (by rw [HE.o,vC,hsz];have:(c.ix != 0)=false:=(by simp [bne,hix]);rw [this];exact Jt);go_wp2_with fail;go_roundw
      case rel=>exact ⟨k + 1,R,acc++[c.nm],f,by go_num,by omega,by omega,HE2.o,VW.o,ko.o.below YG.o,HB3.o,by simp; omega,Pk.o,HNN.o⟩
      case measure=>simp [intOf]; omega
theorem Np (W:Wo) (s:jM) (w:World) (hw:gN w w.heap.size W s) (h60:W.ss.length<=60):
 Calls Tryz.prog 49 #[pY W s] w fun e w'=>e= .returned (.bool (vsA W.ts.length 0 0 W.ss))∧Below w.heap.size w w':=by
 obtain ⟨aC,aL,aN,aF,aT,aS,cC,cL,cN,cF,cT,cS⟩:=s;have HW:=ah hw;have hlt:=hw.lt;unfold maxLen at hlt;obtain ⟨res,hres⟩: ∃r,vsA W.ts.length 0 0 W.ss=r:=⟨_,rfl⟩;have HR:=ah hres;rw [hres];clear hw hres;unfold pY;dsimp only;go_enter Tryz.func49,Tryz.ntmps49;go_upto_region 1 with fail;generalize hW:World.alloc w _=W1;obtain ⟨nb,hnb⟩: ∃n,w.heap.size=n:=⟨_,rfl⟩;have HB:aj (Below nb w W1):=ah (by rw [<- hW,<- hnb]; exact ak _ _);have HX:aj (W1.heap[nb]? =some (.cells #[.slice aC W.cs.length cC,.slice aL W.ls.length cL,.slice aN W.ns.length cN,.slice aF W.fs.length cF,.slice aT W.ts.length cT,.slice aS W.ss.length cS] 34 (0,0))):=ah (by rw [<- hW,<- hnb]; exact heap_alloc_new _ _);have pO:aj (W1.heap.size=nb + 1):=ah (by rw [<- hW,<- hnb]; simp);have HF:aj (dK oV 3 W1 nb W.ss aS 0):=ah (by have:=HW.o.ss; rw [hnb] at this; exact this.below HB.o);have fD:=ah hnb;rw [hnb];clear hW hnb HW;have g5:=au (j:=5) HX.o rfl;simp only [List.getElem_toArray,List.getElem_cons_zero,List.getElem_cons_succ] at g5;go_wp2_with fail;go_loopw [3,4,6,10] (fun v3 v4 _ v10 wr=> ∃(k:Nat) (R:List wZ) (th nx:Int),v10= .int .i64 k∧v3= .int .i64 th∧v4= .int .i64 nx∧k + R.length=W.ss.length∧res=vsA W.ts.length th nx R∧0<=nx∧nx<=k∧dK oV 3 wr nb R aS k∧Below (nb + 1) W1 wr) (fun _ _ _ v _=>W.ss.length - (intOf v).toNat)
 case atStart=>exact ⟨0,W.ss,0,0,rfl,rfl,rfl,by simp,HR.o.symm,by decide,by decide,HF.o,Below.refl _ _⟩
 case round=>
  obtain ⟨k,R,th,nx,rfl,rfl,rfl,hlen,heq,hn0,hnk,hrow,hbel⟩:=hrel;have HE:=ah heq;have kg:=ah hbel;have qC:=ah ((kg.o.block nb (Nat.lt_succ_self _)).trans HX.o);have vI:aj (Below nb w wr):=ah (HB.o.trans (kg.o.mono (Nat.le_succ _)));have kE:aj (nb + 1<=wr.heap.size):=ah (by have h1:=kg.o.size; have h2:=pO.o; omega);clear heq hbel g5;cases R with
  | nil=>
    have HT:aj (res=true):=ah HE.o;obtain rfl:k=W.ss.length:=by simpa using hlen
    go_wp2_with fail;go_ret;exact ⟨by rw [HT.o]; rfl,by rw [fD.o]; exact vI.o⟩
  | cons x R=>
    obtain ⟨⟨b,off,hao,hb1,hcs⟩,hrest⟩:=hrow;simp only [List.length_cons] at hlen;have hkl:k < W.ss.length:=by omega
    have x0:=hcs 0 _ rfl;have x1:=hcs 1 _ rfl;have x2:=hcs 2 _ rfl;simp only [Nat.add_zero] at x0;have ko:=ah hrest;subst hao;have g4:=au (j:=4) qC.o rfl;simp only [List.getElem_toArray,List.getElem_cons_zero,List.getElem_cons_succ] at g4;have hwn:IntKind.i64.wrap (nx + 1)=nx + 1:=IntWalk.i64_in _ (by omega);have bg1:IntKind.i64.wrap ((0:Int) + 1)=1:=IntWalk.i64_in _ (by omega);have hnl:nb < wr.heap.size:=by have:=kE.o; omega
    have hnb: ¬ nb=wr.heap.size:=by omega
    clear hcs hrest;by_cases h1:x.th < th
    ·have HT:aj (res=false):=ah (by rw [HE.o,vsA]; simp [h1]);go_wp2_with fail;go_ret;exact ⟨by rw [HT.o]; rfl,by rw [fD.o]; exact vI.o.trans ((ak _ _).mono (by have:=kE.o; omega))⟩
    ·by_cases h2:(W.ts.length:Int)<=x.th
     ·have HT:aj (res=false):=ah (by rw [HE.o,vsA]; simp [h2]);go_wp2_with fail;go_ret;exact ⟨by rw [HT.o]; rfl,by rw [fD.o]; exact vI.o.trans ((ak _ _).mono (by have:=kE.o; omega))⟩
     ·by_cases h3:th < x.th
      ·cases h4:(x.st == 0)
       ·have HT:aj (res=false):=ah (by rw [HE.o,vsA]; simp [h1,h2,h3,bne,h4]);go_wp2_with fail;go_ret;exact ⟨by rw [HT.o]; rfl,by rw [fD.o]; exact vI.o.trans ((ak _ _).mono (by have:=kE.o; omega))⟩
       ·have HE2:aj (res=vsA W.ts.length x.th 1 R):=ah (by rw [HE.o,vsA]; simp [h1,h2,h3,bne,h4]);go_wp2_with fail;go_roundw
        case rel=>exact ⟨k + 1,R,x.th,1,by go_num,rfl,by first | rfl | simp [bg1],by omega,HE2.o,by decide,by omega,ko.o.below ((ak _ _).mono (by have:=kE.o; omega)),kg.o.trans ((ak _ _).mono kE.o)⟩
        case measure=>simp [intOf]; omega
      ·cases h4:(x.st == nx)
       ·have HT:aj (res=false):=ah (by rw [HE.o,vsA]; simp [h1,h2,h3,bne,h4]);go_wp2_with fail;go_ret;exact ⟨by rw [HT.o]; rfl,by rw [fD.o]; exact vI.o.trans ((ak _ _).mono (by have:=kE.o; omega))⟩
       ·have HE2:aj (res=vsA W.ts.length th (nx + 1) R):=ah (by rw [HE.o,vsA]; simp [h1,h2,h3,bne,h4]);go_wp2_with fail;go_roundw
        case rel=>exact ⟨k + 1,R,th,nx + 1,by go_num,rfl,by first | rfl | simp [hwn],by omega,HE2.o,by omega,by omega,ko.o.below ((ak _ _).mono (by have:=kE.o; omega)),kg.o.trans ((ak _ _).mono kE.o)⟩
        case measure=>simp [intOf]; omega
end Go.Proofs.YtfbbaiejbjdfbaaGreatDoor
