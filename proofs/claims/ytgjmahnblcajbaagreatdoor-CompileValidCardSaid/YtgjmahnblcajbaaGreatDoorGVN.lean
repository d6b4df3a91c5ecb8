/- Contract of the reference's names. And what hangs on it. -/
import Derived.Test.YtgjmahnblcajbaaGreatDoorGVD
import Derived.Test.YtgjmahnblcajbaaGreatDoorGVP
import Derived.Test.YtgjmahnblcajbaaGreatDoorGNA
import Derived.Test.YtgjmahnblcajbaaGreatDoorGCD
set_option linter.unusedSimpArgs false
set_option linter.unusedVariables false
set_option maxHeartbeats 40000000
set_option maxRecDepth 1000000
namespace Go.Proofs.YtgjmahnblcajbaaGreatDoor
open Go.RowKit
open Md
theorem qK.Ru {w0:World} {nb:Nat} {W:Wo} {s:gW} {w:World} {v:Value} {l:List ByteArray} (h:qK w0 nb W s w v l):w.cell? ⟨nb,0,none⟩=some (.slice s.aC W.cs.length s.cC):=ak (j:=0) h.x rfl
theorem Gs {α:Type} {l R:List α} {k:Nat} {x:α} (h:x ::R=l.drop k):l[k]? =some x∧R=l.drop (k + 1):=by
 have h0:=congrArg (fun m=>m[0]?) h;simp at h0;have h1:=congrArg (List.drop 1) h;rw [List.drop_drop] at h1;exact ⟨h0.symm,by simpa using h1⟩
theorem Sk (W:Wo) (s:gW) (w:World) (hw:dR w w.heap.size W s) (hk:Al W) (hsm:kI W):
 Calls Tryz.prog 21 #[jS W s] w (VcP ((sP W.cs.length W.cs).map (lK W)) w):=by
 have HW:=ah hw;have HK:=ah hk;obtain ⟨hs0,hs1,hs2,hs3,hs4,hs5,hs6⟩:=hsm;obtain ⟨res,hres⟩: ∃r,sP W.cs.length W.cs=r:=⟨_,rfl⟩;have HR:=ah hres;rw [hres];clear hw hk hres;unfold jS;go_enter Tryz.func21,Tryz.ntmps21;go_upto_region 1 with fail;generalize hW:World.alloc w _=W1;obtain ⟨nb,hnb⟩: ∃n,w.heap.size=n:=⟨_,rfl⟩;have HB:aj (Below nb w W1):=ah (by rw [<- hW,<- hnb]; exact au _ _);have HI:aj (qK w nb W s W1 (.slice none 0 0) []):=ah ⟨Grow.nil _ _ _ _ _ _,fun q hq=>(by cases hq),(by rw [<- hW,<- hnb]; exact heap_alloc_new _ _),(by have:=HW.o; rw [hnb] at this; exact this.below HB.o),HB.o⟩;have bF:=ah hnb;rw [hnb];clear hW hnb HW HB;go_wp2_with fail;go_loopw [4,5,6,7,8] (fun v4 v5 _ _ _ wr=> ∃(k:Nat) (R:List kM) (acc:List ByteArray) (f:Nat),v5= .int .i64 k∧R=W.cs.drop k∧k<=W.cs.length∧R.length<=f∧res=(sP f R).map (fun l=>acc++l)∧qK w nb W s wr v4 acc∧acc.length<=k∧(∀x ∈ acc,x.size<=maxLen)) (fun _ v _ _ _ _=>W.cs.length - (intOf v).toNat)
 case atStart=>exact ⟨0,W.cs,[],W.cs.length,rfl,rfl,Nat.zero_le _,Nat.le_refl _,by rw [<- HR.o]; cases sP W.cs.length W.cs <;> rfl,HI.o,Nat.le_refl _,fun x hx=>by cases hx⟩
 case round=>
  obtain ⟨k,R,acc,f,rfl,hR,hk,Qm,heq,hi,hac,Uj⟩:=hrel;have HE:=ah heq;have HI:=ah hi;have PD:=ah Uj;have BN:=ah hR;have hlen:R.length=W.cs.length - k:=by rw [hR,List.length_drop]
  clear heq hi Uj hR;have g0:=HI.o.Ru;cases R with
  | nil=>
    obtain rfl:k=W.cs.length:=by simp at hlen; omega
    have HT:aj (res=some acc):=ah (by rw [HE.o]; cases f <;> simp [sP]);obtain ⟨gB,gC,gD,gE⟩:=HI.o.cells;obtain ⟨wA,Ur⟩: ∃X:World,X=wr:=⟨_,rfl⟩;subst Ur;clear hk Qm hlen HE BN;go_upto_region 20 with fail;clear g0 gB gC gD gE;go_loopw [4,9] (fun v4 vi wr=> ∃k:Nat,vi= .int .i64 k∧k<=W.ls.length∧qK w nb W s wr v4 (acc++(W.ls.take k).map (·.nm))) (fun _ v _=>W.ls.length - (intOf v).toNat)
    case atStart=>exact ⟨0,rfl,Nat.zero_le _,by simpa using HI.o⟩
    case round=>
     obtain ⟨k,rfl,hk,hi⟩:=hrel;obtain ⟨Am,hacc⟩: ∃q,acc++(W.ls.take k).map (·.nm)=q:=⟨_,rfl⟩;rw [hacc] at hi;have HI:=ah hi;have vS:=ah hacc;have ai1:Am.length<=100:=(by rw [<- hacc]; simp; omega);have gA:=ak (j:=0) hi.x rfl;obtain ⟨gB,gC,gD,gE⟩:=hi.cells;clear hi hacc gA;by_cases hkl:k < W.ls.length
     ·obtain ⟨x,hx⟩: ∃x,W.ls[k]? =some x:=⟨_,List.getElem?_eq_getElem hkl⟩;have HX:=ah hx;obtain ⟨b,off,hao,hb1,hcs⟩:=HI.o.wo.ls.at k x hx;have x0:=hcs 0 _ rfl;simp only [Nat.zero_add,Nat.add_zero] at x0;clear hcs hx;rw [hao] at gB; clear hao;have HI3:=ah (HI.o.next (au wr (.cells #[.string x.nm] 9)));have hlen1:Am.length + 1<=1000000:=(by omega);have hnm:x.nm.size<=maxLen:=HK.o.ls x (List.mem_of_getElem? HX.o);clear HI;go_wp2_with (at_builtin; refine pX _ rfl _ _ rfl rfl HI3.o.g rfl (F7 hnm) hlen1 (Nat.le_of_lt HI3.o.lt) ?_);intro v3 w3 hg3 tJ uW;have HI4:=ah (HI3.o.step hg3 tJ (by simpa using uW));have HE2:aj (Am++[x.nm]=acc++(W.ls.take (k + 1)).map (·.nm)):=ah (by rw [<- vS.o,Bc (f:=fun y=>y.nm) HX.o,List.append_assoc]);clear hg3 tJ uW HI3 hlen1 hnm gB gC gD gE x0;go_wp2_with fail;go_roundw
      case rel=>exact ⟨k + 1,by go_num,by omega,by rw [<- HE2.o]; exact HI4.o⟩
      case measure=>simp [intOf]; omega
     ·obtain rfl:k=W.ls.length:=(by omega);rw [List.take_length] at vS;have HA0:=vS;obtain ⟨wB,Us⟩: ∃X:World,X=wr:=⟨_,rfl⟩;subst Us;go_upto_region 24 with fail;clear gB gC gD gE;go_loopw [4,10] (fun v4 vi wr=> ∃k:Nat,vi= .int .i64 k∧k<=W.ns.length∧qK w nb W s wr v4 (Am++(W.ns.take k).map (·.nm))) (fun _ v _=>W.ns.length - (intOf v).toNat)
      case atStart=>exact ⟨0,rfl,Nat.zero_le _,by simpa using HI.o⟩
      case round=>
       obtain ⟨k,rfl,hk,hi⟩:=hrel;obtain ⟨Ep,hacc⟩: ∃q,Am++(W.ns.take k).map (·.nm)=q:=⟨_,rfl⟩;rw [hacc] at hi;have HI:=ah hi;have vS:=ah hacc;have ai1:Ep.length<=200:=(by rw [<- hacc]; simp; omega);have gA:=ak (j:=0) hi.x rfl;obtain ⟨gB,gC,gD,gE⟩:=hi.cells;clear hi hacc gA;by_cases hkl:k < W.ns.length
       ·obtain ⟨x,hx⟩: ∃x,W.ns[k]? =some x:=⟨_,List.getElem?_eq_getElem hkl⟩;have HX:=ah hx;obtain ⟨b,off,hao,hb1,hcs⟩:=HI.o.wo.ns.at k x hx;have x0:=hcs 0 _ rfl;simp only [Nat.zero_add,Nat.add_zero] at x0;clear hcs hx;rw [hao] at gC; clear hao;have HI3:=ah (HI.o.next (au wr (.cells #[.string x.nm] 9)));have hlen1:Ep.length + 1<=1000000:=(by omega);have hnm:x.nm.size<=maxLen:=HK.o.ns x (List.mem_of_getElem? HX.o);clear HI;go_wp2_with (at_builtin; refine pX _ rfl _ _ rfl rfl HI3.o.g rfl (F7 hnm) hlen1 (Nat.le_of_lt HI3.o.lt) ?_);intro v3 w3 hg3 tJ uW;have HI4:=ah (HI3.o.step hg3 tJ (by simpa using uW));have HE2:aj (Ep++[x.nm]=Am++(W.ns.take (k + 1)).map (·.nm)):=ah (by rw [<- vS.o,Bc (f:=fun y=>y.nm) HX.o,List.append_assoc]);clear hg3 tJ uW HI3 hlen1 hnm gB gC gD gE x0;go_wp2_with fail;go_roundw
        case rel=>exact ⟨k + 1,by go_num,by omega,by rw [<- HE2.o]; exact HI4.o⟩
        case measure=>simp [intOf]; omega
       ·obtain rfl:k=W.ns.length:=(by omega);rw [List.take_length] at vS;have hl5:Ep.length + W.fs.length<=1000000:=(by omega);go_wp2_with (at_builtin; refine pX _ rfl _ _ rfl rfl HI.o.g rfl (HI.o.wo.fs.mono (Nat.le_of_lt HI.o.lt)) hl5 (Nat.le_of_lt HI.o.lt) ?_);intro v4 w4 hg4 NS EI;have hi4:=HI.o.step hg4 NS EI;obtain ⟨TG,RD⟩: ∃TG,Ep++W.fs=TG:=⟨_,rfl⟩;rw [RD] at hi4;have HI4:=ah hi4;have aE7:=ah RD;have aY9:TG.length<=300:=(by rw [<- RD]; simp; omega);clear hg4 NS EI HI gB gC gD gE hl5 hi4 RD;obtain ⟨gB,gC,gD,gE⟩:=HI4.o.cells;have Uh:TG.length + W.ts.length<=1000000:=(by omega);go_wp2_with (at_builtin; refine pX _ rfl _ _ rfl rfl HI4.o.g rfl (HI4.o.wo.ts.mono (Nat.le_of_lt HI4.o.lt)) Uh (Nat.le_of_lt HI4.o.lt) ?_);intro v5 w5 hg5 hgr5 NM;have sw:=ah (HI4.o.step hg5 hgr5 NM);have HEN:aj (TG++W.ts=lK W acc):=ah (by rw [<- aE7.o,<- vS.o,<- HA0.o]; rfl);have HZZ:aj (∀x ∈ lK W acc,x.size<=maxLen):=ah (fun x hx=>by
         unfold lK at hx;simp only [List.mem_append,List.mem_map] at hx;rcases hx with (((h | ⟨y,hy,rfl⟩) | ⟨y,hy,rfl⟩) | h) | h
         ·exact PD.o x h
         ·exact HK.o.ls y hy
         ·exact HK.o.ns y hy
         ·exact tL sw.o.wo.fs x h
         ·exact tL sw.o.wo.ts x h)
        clear hg5 hgr5 NM gB gC gD gE;go_wp2_with fail
        go_ret2
        rw [HT.o];refine ⟨?_,by rw [bF.o]; exact sw.o.b⟩;have hg:=sw.o.g;rw [HEN.o] at hg;obtain ⟨C9,cap2,e,hc2,hst⟩:=jB.says hg HZZ.o;exact ⟨C9,cap2,by rw [e]; rfl,hst.now,hc2⟩
  | cons c R=>
    obtain ⟨f,rfl⟩: ∃g,f=g + 1:=⟨f - 1,by simp at Qm; omega⟩;have hx:=Gs BN.o;have HX:=ah hx.1;have HR2:=ah hx.2;obtain ⟨b,off,hao,hb1,hcs⟩:=HI.o.wo.cs.at k c hx.1;simp only [List.length_cons] at hlen Qm;have hkl:k < W.cs.length:=by omega
    have x0:=hcs 0 _ rfl;have x1:=hcs 1 _ rfl;have x2:=hcs 2 _ rfl;have x3:=hcs 3 _ rfl;have x4:=hcs 4 _ rfl;simp only [Nat.zero_add,Nat.add_zero] at x0 x1 x2 x3 x4;have DZ:=ah hao;rw [hao] at g0;clear hcs hx hao;go_upto_region 5 with fail;obtain ⟨cb,hcb⟩: ∃n,wr.heap.size=n:=⟨_,rfl⟩;generalize hW2:World.alloc wr _=w2;have HB2:aj (Below wr.heap.size wr w2):=ah (by rw [<- hW2]; exact au _ _);have wh:aj (w2.heap[cb]? =some (.cells #[.string c.nm,.int .i64 c.ix,.int .i64 c.sz,.bool c.rW,.int .i64 c.init] 83 (0,0))):=ah (by rw [<- hW2,<- hcb]; exact heap_alloc_new _ _);have HI2:=ah (HI.o.next HB2.o);have Ht:=ah (fun q hq=>by have:=(HI.o.g.lt q hq).2; rw [hcb] at this; exact this);rw [hcb];clear hW2 hcb x0 x1 x2 x3 x4 HI HB2 g0;have y0:w2.cell? ⟨cb,0,none⟩=some (.string c.nm):=ak wh.o rfl;have HI3:=ah (HI2.o.next (au w2 (.cells #[.string c.nm] 9)));have hlen1:acc.length + 1<=1000000:=by omega
    have hnm:c.nm.size<=maxLen:=HK.o.cs c (List.mem_of_getElem? HX.o);go_wp2_with (at_builtin; refine pX _ rfl _ _ rfl rfl HI3.o.g rfl (F7 hnm) hlen1 (Nat.le_of_lt HI3.o.lt) ?_);intro v3 w3 hg3 tJ uW;have HI4:=ah (HI3.o.step hg3 tJ (by simpa using uW));have Dn:aj (cb < w2.heap.size):=ah (Array.getElem?_eq_some_iff.1 wh.o).1;have uM:aj (w3.heap[cb]? =some (.cells #[.string c.nm,.int .i64 c.ix,.int .i64 c.sz,.bool c.rW,.int .i64 c.init] 83 (0,0))):=ah ((tJ.block cb (by simp; have:=Dn.o; omega) (fun e=>by have:=Ht.o cb e.symm; omega)).trans ((heap_alloc_old _ _ Dn.o).trans wh.o));have Te:aj (∀x ∈ acc++[c.nm],x.size<=maxLen):=ah (fun x hx=>by
     rcases List.mem_append.1 hx with hx | hx
     ·exact PD.o x hx
     ·rw [List.mem_singleton.1 hx]; exact hnm)
    have HEA:aj (∀o:Option (List ByteArray),(o.map (fun l=>c.nm ::l)).map (fun l=>acc++l)=o.map (fun l=>(acc++[c.nm])++l)):=ah (fun o=>Bv);have hal:(acc++[c.nm]).length<=k + 1:=by simp; omega
    generalize acc++[c.nm]=JF at *;have sw:=HI4;clear hg3 tJ uW HI3 HI2 wh y0 hlen1 hnm Ht Dn PD HI4;have g0:=sw.o.Ru;have z0:=ak (j:=0) uM.o rfl;have z1:=ak (j:=1) uM.o rfl;have z2:=ak (j:=2) uM.o rfl;have z3:=ak (j:=3) uM.o rfl;have z4:=ak (j:=4) uM.o rfl;simp only [List.getElem_toArray,List.getElem_cons_zero,List.getElem_cons_succ] at z0 z1 z2 z3 z4;have hwl:IntKind.i64.wrap ((W.cs.length:Int) - (k:Int))=(W.cs.length:Int) - (k:Int):=IntWalk.i64_in _ (by omega);have hw1:IntKind.i64.wrap ((k:Int) + 1)=(k:Int) + 1:=IntWalk.i64_in _ (by omega);cases hsz:(c.sz == 0)
    ·by_cases h1:c.sz < 1
     ·have HT:aj (res=none):=ah (by rw [HE.o,sP,hsz]; simp [h1]);go_wp2_with fail
      go_ret2
      rw [HT.o];exact ⟨rfl,by rw [bF.o]; exact sw.o.b⟩
     ·by_cases h2:4 < c.sz
      ·have HT:aj (res=none):=ah (by rw [HE.o,sP,hsz]; simp [h2]);go_wp2_with fail
       go_ret2
       rw [HT.o];exact ⟨rfl,by rw [bF.o]; exact sw.o.b⟩
      ·by_cases h4:(W.cs.length:Int) - (k:Int) < c.sz
       ·have HT:aj (res=none):=ah (by rw [HE.o,sP,hsz];have:decide (((R.length + 1:Nat):Int) < c.sz)=true:=(by rw [decide_eq_true_iff]; omega);simp only [this]; simp);go_wp2_with fail
        go_ret2
        rw [HT.o];exact ⟨rfl,by rw [bF.o]; exact sw.o.b⟩
       ·obtain ⟨n,hn⟩:=Int.eq_ofNat_of_zero_le (show 0<=c.sz by omega);have FL:=ah hn;have hn1:1<=n:=(by omega);have hn4:n<=4:=(by omega);have hnR:n<=R.length + 1:=(by omega);have iy:aj (res=if rZ c n 0 (c ::R) then (sP f ((c ::R).drop n)).map (fun l=>JF++l) else none):=ah (by
         have hd:(decide (c.sz < 1) || (decide (4 < c.sz) || decide (((R.length + 1:Nat):Int) < c.sz)))=false:=(by simp; omega);rw [HE.o,sP,hsz,hd];have e:c.sz.toNat=n:=(by omega);rw [e];cases rZ c n 0 (c ::R)
         ·rfl
         ·exact HEA.o _)
        clear hn HE;go_upto_region 13 with fail;clear z0 z1 z2 z3 z4 g0;obtain ⟨wI,J4⟩: ∃W:World,W=wr:=⟨_,rfl⟩;subst J4;go_loopw [7,8] (fun v7 _ wq=> ∃(j:Nat) (Q:List kM),v7= .int .i64 j∧j<=n∧Q=(c ::R).drop j∧rZ c n 0 (c ::R)=rZ c (n - j) j Q∧wq.heap[cb]? =some (.cells #[.string c.nm,.int .i64 c.ix,.int .i64 c.sz,.bool c.rW,.int .i64 c.init] 83 (0,0))∧qK w nb W s wq v3 JF) (fun v _ _=>n - (intOf v).toNat)
        case atStart=>exact ⟨0,_,rfl,Nat.zero_le _,rfl,rfl,uM.o,sw.o⟩
        case round=>
         obtain ⟨j,Q,rfl,hjn,hQ,heq,hbx,hi⟩:=hrel;have HQ:=ah hQ;have qE:=ah heq;have qm:=ah hbx;have XV:=ah hi;have g0:=hi.Ru;have z0:=ak (j:=0) hbx rfl;have z2:=ak (j:=2) hbx rfl;have z4:=ak (j:=4) hbx rfl;simp only [List.getElem_toArray,List.getElem_cons_zero,List.getElem_cons_succ] at z0 z2 z4;clear hQ heq hbx hi;by_cases hjl:j < n
         ·cases Q with
          | nil=>exfalso;have:=congrArg List.length HQ.o;simp at this; omega
          | cons x Q=>
            have hx:W.cs[k + j]? =some x:=(by have:=congrArg (fun l=>l[0]?) HQ.o;rw [BN.o] at this;simpa using this.symm);have hkj:k + j < W.cs.length:=(List.getElem?_eq_some_iff.1 hx).1;obtain ⟨b',off',e,hb',hcs⟩:=XV.o.wo.cs.at (k + j) x hx;rw [DZ.o] at e;injection e with e; injection e with e1 e2;subst e1 e2;rw [DZ.o] at g0;have t0:=hcs 0 _ rfl;have t1:=hcs 1 _ rfl;have t2:=hcs 2 _ rfl;have t3:=hcs 3 _ rfl;have t4:=hcs 4 _ rfl;simp only [Nat.zero_add,Nat.add_zero] at t0 t1 t2 t3 t4;have hjs:(j:Int) < c.sz:=(by have:=FL.o; omega);have hwk:IntKind.i64.wrap ((k:Int) + (j:Int))=((k + j:Nat):Int):=(by rw [IntWalk.i64_in _ (by omega)]; omega);have k0:(0:Int)<=((k + j:Nat):Int):=(by omega);have k1:((k + j:Nat):Int) < (W.cs.length:Int):=(by omega);have HRQ:aj (rZ c n 0 (c ::R)=(GU c j x && rZ c (n - (j + 1)) ((j:Int) + 1) Q)):=ah (by rw [qE.o,show n - j=(n - (j + 1)) + 1 by omega,rZ]);have mF:aj (Q=(c ::R).drop (j + 1)):=ah (by have:=congrArg (List.drop 1) HQ.o;rw [List.drop_drop] at this;simpa using this);clear hcs hx qE;go_upto_region 16 with fail;obtain ⟨xb,hxb⟩: ∃n,wr.heap.size=n:=⟨_,rfl⟩;generalize wC:World.alloc wr _=w5;have jh:aj (Below wr.heap.size wr w5):=ah (by rw [<- wC]; exact au _ _);have Tv:aj (w5.heap[xb]? =some (.cells #[.string x.nm,.int .i64 x.ix,.int .i64 x.sz,.bool x.rW,.int .i64 x.init] 83 (0,0))):=ah (by rw [<- wC,<- hxb]; exact heap_alloc_new _ _);have sF:=ah ((jh.o.block cb (Array.getElem?_eq_some_iff.1 qm.o).1).trans qm.o);have tQ:=ah (XV.o.next jh.o);rw [hxb];clear wC hxb t0 t1 t2 t3 t4 z0 z2 z4 g0 XV qm jh;have z0:=ak (j:=0) sF.o rfl;have z2:=ak (j:=2) sF.o rfl;have z4:=ak (j:=4) sF.o rfl;have t0:=ak (j:=0) Tv.o rfl;have t1:=ak (j:=1) Tv.o rfl;have t2:=ak (j:=2) Tv.o rfl;have t3:=ak (j:=3) Tv.o rfl;have t4:=ak (j:=4) Tv.o rfl;simp only [List.getElem_toArray,List.getElem_cons_zero,List.getElem_cons_succ] at z0 z2 z4 t0 t1 t2 t3 t4;have rQ:aj (GU c j x=false->res=none):=ah (fun h=>by rw [iy.o,HRQ.o,h]; rfl);have PI:aj (GU c j x=(x.ix == (j:Int) && (x.nm.toList == c.nm.toList && (x.sz == c.sz && (x.init == c.init && !x.rW))))):=ah rfl;by_cases e1:x.ix=(j:Int)
            case neg=>
             have HT:aj (res=none):=ah (rQ.o (by rw [PI.o]; simp [e1]));go_wp2_with fail
             go_ret2
             rw [HT.o];exact ⟨rfl,by rw [bF.o]; exact tQ.o.b⟩
            by_cases e2:x.nm.toList=c.nm.toList
            case neg=>
             have HT:aj (res=none):=ah (rQ.o (by rw [PI.o]; simp [e1,e2]));go_wp2_with fail
             go_ret2
             rw [HT.o];exact ⟨rfl,by rw [bF.o]; exact tQ.o.b⟩
            by_cases e3:x.sz=c.sz
            case neg=>
             have HT:aj (res=none):=ah (rQ.o (by rw [PI.o]; simp [e1,e2,e3]));go_wp2_with fail
             go_ret2
             rw [HT.o];exact ⟨rfl,by rw [bF.o]; exact tQ.o.b⟩
            by_cases e4:x.init=c.init
            case neg=>
             have HT:aj (res=none):=ah (rQ.o (by rw [PI.o]; simp [e1,e2,e3,e4]));go_wp2_with fail
             go_ret2
             rw [HT.o];exact ⟨rfl,by rw [bF.o]; exact tQ.o.b⟩
            cases e5:x.rW
            ·have Vy:aj (rZ c n 0 (c ::R)=rZ c (n - (j + 1)) ((j:Int) + 1) Q):=ah (by rw [HRQ.o,PI.o]; simp [e1,e2,e3,e4,e5]);rw [e5] at t3;go_wp2_with fail;go_roundw
             case rel=>exact ⟨j + 1,Q,by go_num,by omega,mF.o,Vy.o,sF.o,tQ.o⟩
             case measure=>simp [intOf]; omega
            ·rw [e5] at t3;have HT:aj (res=none):=ah (rQ.o (by rw [PI.o]; simp [e1,e2,e3,e4,e5]));go_wp2_with fail
             go_ret2
             rw [HT.o];exact ⟨rfl,by rw [bF.o]; exact tQ.o.b⟩
         ·obtain rfl:j=n:=(by omega);have HT:aj (rZ c j 0 (c ::R)=true):=ah (by rw [qE.o,Nat.sub_self]; cases Q <;> rfl);have zm:aj (res=(sP f ((c ::R).drop j)).map (fun l=>JF++l)):=ah (by rw [iy.o,HT.o]; rfl);have hnlt: ¬ (j:Int) < c.sz:=(by have:=FL.o; omega);have hw2:IntKind.i64.wrap ((k:Int) + c.sz)=((k + j:Nat):Int):=(by have:=FL.o;rw [IntWalk.i64_in _ (by omega)]; omega);go_wp2_with fail;go_roundw
          case rel=>exact ⟨k + j,(c ::R).drop j,JF,f,by first | rfl | simp [hw2],by rw [BN.o,List.drop_drop],by omega,by simp; omega,zm.o,XV.o,by omega,Te.o⟩
          case measure=>simp [intOf]; omega
    ·cases hix:(c.ix == 0)
     ·have HT:aj (res=none):=ah (by rw [HE.o,sP,hsz]; simp [bne,hix]);go_wp2_with fail
      go_ret2
      rw [HT.o];exact ⟨rfl,by rw [bF.o]; exact sw.o.b⟩
     ·have HE2:aj (res=(sP f R).map (fun l=>JF++l)):=ah (by rw [HE.o,sP,hsz];have:(c.ix != 0)=false:=(by simp [bne,hix]);rw [this];exact HEA.o _);go_wp2_with fail;go_roundw
      case rel=>exact ⟨k + 1,R,JF,f,by go_num,HR2.o,by omega,by omega,HE2.o,sw.o,by omega,Te.o⟩
      case measure=>simp [intOf]; omega
theorem as1 {W:Wo} (h: ¬ kI W):vW W=false:=by
 unfold vW;split
 ·rfl
 ·rename_i h1;split
  ·rfl
  ·rename_i h2;exfalso;apply h;simp at h1 h2;unfold kI;omega
theorem XD {W:Wo} (h:kI W):vW W=match sP W.cs.length W.cs with
 | none=>false
 | some v=>DU [] (lK W v) && (W.ns.all (fun c=>fT W c.mx false) && nA W.ts.length none W.ss):=by
 obtain ⟨h0,h1,h2,h3,h4,h5,h6⟩:=h;unfold vW;rw [if_neg (by simp; omega),if_neg (by simp; omega),Jm];unfold Aa;cases oI W.cs.length W.cs with
 | none=>rfl
 | some v=>simp only [Vi,XE]; rfl
theorem Zq {W:Wo} {v:List ByteArray} (h:kI W) (hv:sP W.cs.length W.cs=some v):(lK W v).length<=30:=by
 rw [Jm] at hv;have:=Fz _ _ _ hv;obtain ⟨h0,h1,h2,h3,h4,h5,h6⟩:=h;unfold lK;simp only [List.length_append,List.length_map];omega
def aH9 (l:List rU) (k:Nat):Option rU->Prop
 | none=>k=0
 | some q=> ∃j,k=j + 1∧l[j]? =some q∧0<=q.st∧q.st<=j
theorem vK (W:Wo) (s:gW) (w:World) (hw:dR w w.heap.size W s) (hk:Al W):
 Calls Tryz.prog 7 #[jS W s] w fun e w'=>e= .returned (.bool (vW W))∧Below w.heap.size w w':=by
 have HW:=ah hw;have HK:=ah hk;have hl0:=hw.lc;have hl1:=hw.ll;have hl2:=hw.ln;have hl3:=hw.lf;have hl4:=hw.lt;have hl5:=hw.lS;unfold maxLen at hl0 hl1 hl2 hl3 hl4 hl5;obtain ⟨res,hres⟩: ∃r,vW W=r:=⟨_,rfl⟩;have HR:=ah hres;rw [hres];clear hw hk hres;have E8:aj (¬ kI W->res=false):=ah (fun h=>by rw [<- HR.o]; exact as1 h);go_enter Tryz.func7,Tryz.ntmps7;go_upto_region 1 with fail;unfold jS;generalize hW:World.alloc w _=W1;obtain ⟨nb,hnb⟩: ∃n,w.heap.size=n:=⟨_,rfl⟩;have HB:aj (Below nb w W1):=ah (by rw [<- hW,<- hnb]; exact au _ _);have HX:aj (W1.heap[nb]? =some (.cells #[.slice s.aC W.cs.length s.cC,.slice s.aL W.ls.length s.cL,.slice s.aN W.ns.length s.cN,.slice s.aF W.fs.length s.cF,.slice s.aT W.ts.length s.cT,.slice s.aS W.ss.length s.cS] 28 (0,0))):=ah (by rw [<- hW,<- hnb]; exact heap_alloc_new _ _);have iG:aj (W1.heap.size=nb + 1):=ah (by rw [<- hW,<- hnb]; simp);have HW1:aj (dR W1 nb W s):=ah (by have:=HW.o; rw [hnb] at this; exact this.below HB.o);have bF:=ah hnb;rw [hnb];clear hW hnb HW;have g0:=ak (j:=0) HX.o rfl;have g1:=ak (j:=1) HX.o rfl;have g2:=ak (j:=2) HX.o rfl;have g3:=ak (j:=3) HX.o rfl;have g4:=ak (j:=4) HX.o rfl;have g5:=ak (j:=5) HX.o rfl;simp only [List.getElem_toArray,List.getElem_cons_zero,List.getElem_cons_succ] at g0 g1 g2 g3 g4 g5;by_cases q0:(12:Int) < W.cs.length
 ·have HT:aj (res=false):=ah (E8.o (by unfold kI; omega));go_wp2_with fail;go_ret;exact ⟨by rw [HT.o]; rfl,by rw [bF.o]; exact HB.o⟩
 ·skip;by_cases q1:(4:Int) < W.ls.length
  ·have HT:aj (res=false):=ah (E8.o (by unfold kI; omega));go_wp2_with fail;go_ret;exact ⟨by rw [HT.o]; rfl,by rw [bF.o]; exact HB.o⟩
  ·skip;by_cases q2:(2:Int) < W.ns.length
   ·have HT:aj (res=false):=ah (E8.o (by unfold kI; omega));go_wp2_with fail;go_ret;exact ⟨by rw [HT.o]; rfl,by rw [bF.o]; exact HB.o⟩
   ·skip;by_cases q3:(2:Int) < W.fs.length
    ·have HT:aj (res=false):=ah (E8.o (by unfold kI; omega));go_wp2_with fail;go_ret;exact ⟨by rw [HT.o]; rfl,by rw [bF.o]; exact HB.o⟩
    ·skip;by_cases q5:(W.ts.length:Int) < 1
     ·have HT:aj (res=false):=ah (E8.o (by unfold kI; omega));go_wp2_with fail;go_ret;exact ⟨by rw [HT.o]; rfl,by rw [bF.o]; exact HB.o⟩
     ·skip;by_cases q6:(4:Int) < W.ts.length
      ·have HT:aj (res=false):=ah (E8.o (by unfold kI; omega));go_wp2_with fail;go_ret;exact ⟨by rw [HT.o]; rfl,by rw [bF.o]; exact HB.o⟩
      ·skip;by_cases q4:(60:Int) < W.ss.length
       ·have HT:aj (res=false):=ah (E8.o (by unfold kI; omega));go_wp2_with fail;go_ret;exact ⟨by rw [HT.o]; rfl,by rw [bF.o]; exact HB.o⟩
       ·have hsm:kI W:=(by unfold kI; omega);have KI:=ah hsm;have HR2:=ah (HR.o.symm.trans (XD hsm));clear hsm;have HWX:=ah (HW1.o.mono (show nb<=W1.heap.size by have:=iG.o; omega));go_wp2_with fail;refine (Sk W s W1 HWX.o HK.o KI.o).mono ?_;intro e w2 FU;have hb2:=FU.2;have hm:=FU.1;clear FU;have wG:aj (Below nb w w2):=ah (HB.o.trans (hb2.mono (by have:=iG.o; omega)));have fu:=ah ((hb2.block nb (by have:=iG.o; omega)).trans HX.o);have HS2:aj (nb < w2.heap.size):=ah (by have h1:=iG.o; have h2:=hb2.size; omega);have HW2:aj (dR w2 nb W s):=ah (HW1.o.below (hb2.mono (by have:=iG.o; omega)));have Ij:=ah (fun v hv=>Zq KI.o hv (v:=v));clear hb2 g0 g1 g2 g3 g4 g5 q0 q1 q2 q3 q4 q5 q6 HB HX HWX HW1 HR E8 KI iG;cases hv:sP W.cs.length W.cs with
        | none=>rw [hv] at hm;obtain rfl:e=_:=hm;have HT:aj (res=false):=ah (by rw [HR2.o,hv]);go_wp2_with fail;go_ret;exact ⟨by rw [HT.o]; rfl,by rw [bF.o]; exact wG.o⟩
        | some v=>
          rw [hv] at hm;obtain ⟨ao,cap,rfl,hat,hcap⟩:=hm;have hlen:=Ij.o v hv;have HR3:aj (res=(DU [] (lK W v) && (W.ns.all (fun c=>fT W c.mx false) && nA W.ts.length none W.ss))):=ah (by have:=HR2.o; rw [hv] at this; exact this);clear hv Ij HR2;have HAT:=ah hat;have lY:=ah (tL hat);clear hat;generalize lK W v=l at *;go_upto_region 7 with fail;go_loopw [5] (fun v5 wr=> ∃(pre R:List ByteArray),v5= .int .i64 pre.length∧pre++R=l∧DU [] l=DU pre R∧Below w2.heap.size w2 wr) (fun v _=>l.length - (intOf v).toNat)
          case atStart=>exact ⟨[],l,rfl,rfl,rfl,Below.refl _ _⟩
          case round=>
           obtain ⟨pre,R,rfl,hds,heq,hbel⟩:=hrel;have HE:=ah heq;have uK:=ah hds;have ig:=ah hbel;have mP:aj (Below nb w wr):=ah (wG.o.trans (ig.o.mono (Nat.le_of_lt HS2.o)));have dY:aj (nb < wr.heap.size):=ah (Nat.lt_of_lt_of_le HS2.o ig.o.size);have jq:=ah ((ig.o.block nb HS2.o).trans fu.o);have Du:aj (dR wr nb W s):=ah (HW2.o.below (ig.o.mono (Nat.le_of_lt HS2.o)));have hll:pre.length + R.length=l.length:=(by rw [<- hds,List.length_append]);have BR:=ah (HAT.o.same ig.o);clear heq hds hbel;cases R with
           | cons z R=>
             have hrd:=BR.o.drop pre.length;rw [Nat.zero_add,<- uK.o,List.drop_left] at hrd;obtain ⟨⟨b,off,hao,hb1,x0,hsz⟩,-⟩:=hrd;have KE:aj (dU wr wr.heap.size pre ao 0):=ah (dU.take (R:=z ::R) (by rw [uK.o]; exact BR.o));simp only [List.length_cons] at hll;have hkl:pre.length < l.length:=(by omega);have hkm:pre.length<=maxLen:=(by unfold maxLen; omega);have KL:aj (DU pre (z ::R)=((Tk.iO z.toList && !decide (0<=fC pre z)) && DU (pre++[z]) R)):=ah rfl;subst hao;rw [Lib.toList_data] at KL;have k0:(0:Int)<=(pre.length:Int):=(by omega);have k1:(pre.length:Int) < (l.length:Int):=(by omega);have k2:(pre.length:Int)<=(l.length:Int):=(by omega);obtain ⟨T,F,GA,hst,hF,hnext⟩:=calm wr;have HF:=ah hF;have eY:=ah hnext;have y0:=fun x=>((HF.o x).cell (p:=⟨b,_,none⟩) hb1).trans x0;clear hF hnext x0;cases hn:Tk.iO z.data.toList
             ·have HT:aj (res=false):=ah (by rw [HR3.o,HE.o,KL.o,hn]; rfl);go_wp2_with fail;refine jo F (by kernel_rfl) (by kernel_rfl) hst ?_
              repeat (any_goals (first | go_big_quiet_step ((go_at_call 22; refine (mK _ _ hsz).mono ?_; rintro e w' ⟨rfl,hb⟩; exact ⟨congrArg (fun q=>Ending.returned (.bool q)) hn,eY.o _ _ hb⟩)) | (refine wpQuiet_step (fun K hK=> ?_); go_simp; first | (refine hK _ ?_; clear hK K) | (split <;> first | (refine hK _ ?_; clear hK K) | (apply Exists.intro; refine ⟨fun _=> ?_,hK _ ?_⟩; ((go_at_call 22; refine (mK _ _ hsz).mono ?_; rintro e w' ⟨rfl,hb⟩; exact ⟨congrArg (fun q=>Ending.returned (.bool q)) hn,eY.o _ _ hb⟩)); clear hK K)))))
              all_goals (refine wpQuiet_nil ?_; rintro _ ⟨x,rfl⟩)
              have xu:=ah (mP.o.trans ((HF.o x).mono (Nat.le_of_lt dY.o)));go_wp2_with fail;go_ret;exact ⟨by rw [HT.o]; rfl,by rw [bF.o]; exact xu.o⟩
             ·have Ta:aj (∀w',Below wr.heap.size wr w'->Calls Tryz.prog 23 #[.slice (some ⟨b,off,none⟩) pre.length cap,.string z] w' fun e w''=>e= .returned (.int .i64 (fC pre z))∧w'=w''):=ah (fun w' hb=>by rw [<- YU];exact TA pre z w' _ cap hkm (KE.o.same hb));by_cases h0:0<=fC pre z
              ·have HT:aj (res=false):=ah (by rw [HR3.o,HE.o,KL.o,hn]; simp [h0]);go_wp2_with fail;refine jo F (by kernel_rfl) (by kernel_rfl) hst ?_
               repeat (any_goals (first | go_big_quiet_step ((first | (go_at_call 22; refine (mK _ _ hsz).mono ?_; rintro e w' ⟨rfl,hb⟩; exact ⟨congrArg (fun q=>Ending.returned (.bool q)) hn,eY.o _ _ hb⟩) | (go_at_call 23; refine (Ta.o _ (HF.o _)).mono ?_; rintro e w' ⟨rfl,hw⟩; exact ⟨rfl,_,hw.symm⟩))) | (refine wpQuiet_step (fun K hK=> ?_); go_simp; first | (refine hK _ ?_; clear hK K) | (split <;> first | (refine hK _ ?_; clear hK K) | (apply Exists.intro; refine ⟨fun _=> ?_,hK _ ?_⟩; ((first | (go_at_call 22; refine (mK _ _ hsz).mono ?_; rintro e w' ⟨rfl,hb⟩; exact ⟨congrArg (fun q=>Ending.returned (.bool q)) hn,eY.o _ _ hb⟩) | (go_at_call 23; refine (Ta.o _ (HF.o _)).mono ?_; rintro e w' ⟨rfl,hw⟩; exact ⟨rfl,_,hw.symm⟩))); clear hK K)))))
               all_goals (refine wpQuiet_nil ?_; rintro _ ⟨x,rfl⟩)
               have xu:=ah (mP.o.trans ((HF.o x).mono (Nat.le_of_lt dY.o)));go_wp2_with fail;go_ret;exact ⟨by rw [HT.o]; rfl,by rw [bF.o]; exact xu.o⟩
              ·have HT:aj (DU [] l=DU (pre++[z]) R):=ah (by rw [HE.o,KL.o,hn]; simp [h0]);go_wp2_with fail;refine jo F (by kernel_rfl) (by kernel_rfl) hst ?_
               repeat (any_goals (first | go_big_quiet_step ((first | (go_at_call 22; refine (mK _ _ hsz).mono ?_; rintro e w' ⟨rfl,hb⟩; exact ⟨congrArg (fun q=>Ending.returned (.bool q)) hn,eY.o _ _ hb⟩) | (go_at_call 23; refine (Ta.o _ (HF.o _)).mono ?_; rintro e w' ⟨rfl,hw⟩; exact ⟨rfl,_,hw.symm⟩))) | (refine wpQuiet_step (fun K hK=> ?_); go_simp; first | (refine hK _ ?_; clear hK K) | (split <;> first | (refine hK _ ?_; clear hK K) | (apply Exists.intro; refine ⟨fun _=> ?_,hK _ ?_⟩; ((first | (go_at_call 22; refine (mK _ _ hsz).mono ?_; rintro e w' ⟨rfl,hb⟩; exact ⟨congrArg (fun q=>Ending.returned (.bool q)) hn,eY.o _ _ hb⟩) | (go_at_call 23; refine (Ta.o _ (HF.o _)).mono ?_; rintro e w' ⟨rfl,hw⟩; exact ⟨rfl,_,hw.symm⟩))); clear hK K)))))
               all_goals (refine wpQuiet_nil ?_; rintro _ ⟨x,rfl⟩)
               have xu:=ah (ig.o.trans ((HF.o x).mono ig.o.size));clear y0 HF eY Ta hst;generalize F x=wz at *;go_wp2_with fail;go_roundw
               case rel=>exact ⟨pre++[z],R,by rw [List.length_append]; go_num,by rw [List.append_assoc]; exact uK.o,HT.o,xu.o⟩
               case measure=>simp [intOf]; omega
           | nil=>
             obtain rfl:pre=l:=(by have:=uK.o; rw [List.append_nil] at this; exact this);have HT:aj (DU [] pre=true):=ah (by rw [HE.o]; rfl);have HR4:aj (res=(W.ns.all (fun c=>fT W c.mx false) && nA W.ts.length none W.ss)):=ah (by rw [HR3.o,HT.o]; rfl);obtain ⟨wA,Ur⟩: ∃X:World,X=wr:=⟨_,rfl⟩;subst Ur;have g2:=ak (j:=2) jq.o rfl;simp only [List.getElem_toArray,List.getElem_cons_zero,List.getElem_cons_succ] at g2;go_upto_region 12 with fail;clear g2;go_loopw [6,7] (fun v6 _ wq=> ∃(k:Nat) (R:List Ab),v6= .int .i64 k∧R=W.ns.drop k∧k<=W.ns.length∧W.ns.all (fun c=>fT W c.mx false)=R.all (fun c=>fT W c.mx false)∧Below wA.heap.size wA wq) (fun v _ _=>W.ns.length - (intOf v).toNat)
             case atStart=>exact ⟨0,W.ns,rfl,rfl,Nat.zero_le _,rfl,Below.refl _ _⟩
             case round=>
              obtain ⟨k,R,rfl,hR,hk,heq,hbel⟩:=hrel;have BN:=ah hR;have HE2:=ah heq;have Ga:=ah hbel;have Gc:=ah (mP.o.trans (hbel.mono (Nat.le_of_lt dY.o)));have qm:=ah ((hbel.block nb dY.o).trans jq.o);have Ik:=ah (Du.o.below (hbel.mono (Nat.le_of_lt dY.o)));have Yc:aj (nb < wr.heap.size):=ah (Nat.lt_of_lt_of_le dY.o hbel.size);have hlen:R.length=W.ns.length - k:=(by rw [hR,List.length_drop]);have g1:=ak (j:=1) qm.o rfl;have g2:=ak (j:=2) qm.o rfl;have g5:=ak (j:=5) qm.o rfl;simp only [List.getElem_toArray,List.getElem_cons_zero,List.getElem_cons_succ] at g1 g2 g5;clear heq hbel hR;cases R with
              | cons x R=>
                have hx:=Gs BN.o;have HR2:=ah hx.2;obtain ⟨b,off,hao,hb1,hcs⟩:=Ik.o.ns.at k x hx.1;have x1:=hcs 1 _ rfl;simp only [List.length_cons] at hlen;have hkl:k < W.ns.length:=(by omega);have HLK:aj (W.ns.all (fun c=>fT W c.mx false)=(fT W x.mx false && R.all (fun c=>fT W c.mx false))):=ah (by rw [HE2.o,List.all_cons]);have Ed:aj (fT W x.mx false=(bT x.mx W.ls.length && (match W.ls[x.mx.toNat]? with | some l=>l.rw == false | none=>false))):=ah rfl;have rQ:aj (fT W x.mx false=false->res=false):=ah (fun h=>by rw [HR4.o,HLK.o,h]; rfl);simp only [Nat.zero_add] at x1;rw [hao] at g2;clear hao hcs hx g5 hlen;by_cases m0:x.mx < 0
                ·have HT2:aj (res=false):=ah (rQ.o (by rw [Ed.o,bT]; simp [show ¬ 0<=x.mx by omega]));go_wp2_with fail;go_ret;exact ⟨by rw [HT2.o]; rfl,by rw [bF.o]; exact Gc.o⟩
                ·by_cases m1:(W.ls.length:Int)<=x.mx
                 ·have HT2:aj (res=false):=ah (rQ.o (by rw [Ed.o,bT]; simp [show ¬ x.mx < W.ls.length by omega]));go_wp2_with fail;go_ret;exact ⟨by rw [HT2.o]; rfl,by rw [bF.o]; exact Gc.o⟩
                 ·obtain ⟨j,hj⟩:=Int.eq_ofNat_of_zero_le (show 0<=x.mx by omega);have hjl:j < W.ls.length:=(by omega);obtain ⟨y,hy⟩: ∃y,W.ls[j]? =some y:=⟨_,List.getElem?_eq_getElem hjl⟩;obtain ⟨b2,off2,RF,hb2,hcs2⟩:=Ik.o.ls.at j y hy;have y1:=hcs2 1 _ rfl;have KA:aj (fT W x.mx false=(y.rw == false)):=ah (by rw [Ed.o,bT,hj,show ((j:Int)).toNat=j by omega,hy];simp [hjl]);have j0:(0:Int)<=(j:Int):=(by omega);have j1:(j:Int) < (W.ls.length:Int):=(by omega);have j2: ¬ (j:Int) < 0:=(by omega);have j3: ¬ (W.ls.length:Int)<=(j:Int):=(by omega);simp only [Nat.zero_add] at y1;rw [hj] at x1;rw [RF] at g1;clear RF hcs2 hy m0 m1;cases hrw:y.rw
                  ·have iy:aj (W.ns.all (fun c=>fT W c.mx false)=R.all (fun c=>fT W c.mx false)):=ah (by rw [HLK.o,KA.o,hrw]; rfl);rw [hrw] at y1;go_wp2_with fail;go_roundw
                   case rel=>exact ⟨k + 1,R,by go_num,HR2.o,by omega,iy.o,Ga.o⟩
                   case measure=>simp [intOf]; omega
                  ·have HT2:aj (res=false):=ah (rQ.o (by rw [KA.o,hrw]; rfl));rw [hrw] at y1;go_wp2_with fail;go_ret;exact ⟨by rw [HT2.o]; rfl,by rw [bF.o]; exact Gc.o⟩
              | nil=>
                have MF:aj (res=nA W.ts.length none W.ss):=ah (by rw [HR4.o,HE2.o]; rfl);obtain rfl:k=W.ns.length:=(by simp at hlen; omega);obtain ⟨wB,Us⟩: ∃X:World,X=wr:=⟨_,rfl⟩;subst Us;go_upto_region 18 with fail;clear g1 g2 g5 hlen;go_loopw [8,9] (fun v8 _ wq=> ∃(k:Nat) (p:Option rU) (R:List rU),v8= .int .i64 k∧R=W.ss.drop k∧k<=W.ss.length∧nA W.ts.length none W.ss=nA W.ts.length p R∧aH9 W.ss k p∧Below wB.heap.size wB wq) (fun v _ _=>W.ss.length - (intOf v).toNat)
                case atStart=>exact ⟨0,none,W.ss,rfl,rfl,Nat.zero_le _,rfl,rfl,Below.refl _ _⟩
                case round=>
                 obtain ⟨k,p,R,rfl,hR,hk,heq,hpv,hbel⟩:=hrel;have BN:=ah hR;have HE2:=ah heq;have HPV:=ah hpv;have Bf:=ah hbel;have CF:=ah (Gc.o.trans (hbel.mono (Nat.le_of_lt Yc.o)));have PZ:=ah ((hbel.block nb Yc.o).trans qm.o);have HWz:=ah (Ik.o.below (hbel.mono (Nat.le_of_lt Yc.o)));have hlen:R.length=W.ss.length - k:=(by rw [hR,List.length_drop]);have g4:=ak (j:=4) PZ.o rfl;have g5:=ak (j:=5) PZ.o rfl;simp only [List.getElem_toArray,List.getElem_cons_zero,List.getElem_cons_succ] at g4 g5;clear heq hbel hR hpv;cases R with
                 | nil=>obtain rfl:k=W.ss.length:=(by simp at hlen; omega);have HT2:aj (res=true):=ah (by rw [MF.o,HE2.o]; cases p <;> rfl);go_wp2_with fail;go_ret;exact ⟨by rw [HT2.o]; rfl,by rw [bF.o]; exact CF.o⟩
                 | cons x R=>
                   have hx:=Gs BN.o;have HR2:=ah hx.2;have vZ:=ah hx.1;obtain ⟨b,off,hao,hb1,hcs⟩:=HWz.o.ss.at k x hx.1;have x0:=hcs 0 _ rfl;have x1:=hcs 1 _ rfl;have x2:=hcs 2 _ rfl;simp only [List.length_cons] at hlen;have hkl:k < W.ss.length:=(by omega);simp only [Nat.zero_add,Nat.add_zero] at x0 x1 x2;have DZ:=ah hao;rw [hao] at g5;clear hao hcs hx;go_upto_region 21 with fail;obtain ⟨sb,hsb⟩: ∃n,wr.heap.size=n:=⟨_,rfl⟩;generalize wC:World.alloc wr _=w5;have jh:aj (Below wr.heap.size wr w5):=ah (by rw [<- wC]; exact au _ _);have HXs:aj (w5.heap[sb]? =some (.cells #[.int .i64 x.th,.int .i64 x.st,.int .i64 x.ln] 58 (0,0))):=ah (by rw [<- wC,<- hsb]; exact heap_alloc_new _ _);rw [hsb];clear wC hsb x0 x1 x2 g4 g5;have HNZ:aj (nb < wr.heap.size):=ah (Nat.lt_of_lt_of_le Yc.o Bf.o.size);have sF:=ah ((jh.o.block nb HNZ.o).trans PZ.o);have Yd:=ah (HWz.o.below (jh.o.mono (Nat.le_of_lt HNZ.o)));have xu:=ah (CF.o.trans (jh.o.mono (Nat.le_of_lt HNZ.o)));have HBn:=ah (Bf.o.trans (jh.o.mono Bf.o.size));have g4:=ak (j:=4) sF.o rfl;have g5:=ak (j:=5) sF.o rfl;have x0:=ak (j:=0) HXs.o rfl;have x1:=ak (j:=1) HXs.o rfl;simp only [List.getElem_toArray,List.getElem_cons_zero,List.getElem_cons_succ] at g4 g5 x0 x1;rw [DZ.o] at g5;have rQ:aj (nA W.ts.length p (x ::R)=false->res=false):=ah (fun h=>by rw [MF.o,HE2.o,h]);by_cases t0:x.th < 0
                   case pos=>have HT2:aj (res=false):=ah (rQ.o (by cases p <;> simp [nA,t0]));go_wp2_with fail;go_ret;exact ⟨by rw [HT2.o]; rfl,by rw [bF.o]; exact (by repeat (first | exact xu.o | refine below_drewN ?_ _))⟩
                   by_cases t1:(W.ts.length:Int)<=x.th
                   case pos=>have HT2:aj (res=false):=ah (rQ.o (by cases p <;> simp [nA,t1]));go_wp2_with fail;go_ret;exact ⟨by rw [HT2.o]; rfl,by rw [bF.o]; exact (by repeat (first | exact xu.o | refine below_drewN ?_ _))⟩
                   cases p with
                   | none=>
                     obtain rfl:k=0:=HPV.o;by_cases s0:x.st=0
                     case neg=>have s1:(x.st != 0)=true:=(by simpa using s0);have HT2:aj (res=false):=ah (rQ.o (by simp [nA,s0]));go_wp2_with fail;go_quiet (fail);go_wp2_with fail;go_quiet (fail);go_wp2_with fail;go_ret;exact ⟨by rw [HT2.o]; rfl,by rw [bF.o]; exact (by repeat (first | exact xu.o | refine below_drewN ?_ _))⟩
                     have s1:(x.st != 0)=false:=(by simp [s0]);have iy:aj (nA W.ts.length none W.ss=nA W.ts.length (some x) R):=ah (by rw [HE2.o,nA]; simp [t0,t1,s0]);go_wp2_with fail;go_quiet (fail);go_wp2_with fail;go_quiet (fail);go_wp2_with fail;go_roundw
                     case rel=>exact ⟨1,some x,R,by go_num,HR2.o,by omega,iy.o,⟨0,rfl,vZ.o,by omega,by omega⟩,(by repeat (first | exact HBn.o | refine below_drewN ?_ _))⟩
                     case measure=>simp [intOf]; omega
                   | some q=>
                     obtain ⟨j,hkj,hq,hq0,hq1⟩:=HPV.o;obtain ⟨b2,off2,e,hb2,hcs⟩:=Yd.o.ss.at j q hq;rw [DZ.o] at e;injection e with e; injection e with e1 e2;subst e1 e2;have q0:=hcs 0 _ rfl;have q1:=hcs 1 _ rfl;simp only [Nat.zero_add,Nat.add_zero] at q0 q1;have Lu:IntKind.i64.wrap ((k:Int) - 1)=(j:Int):=(by rw [IntWalk.i64_in _ (by omega)]; omega);have hws:IntKind.i64.wrap (q.st + 1)=q.st + 1:=IntWalk.i64_in _ (by omega);have j0:(0:Int)<=(j:Int):=(by omega);have j1:(j:Int) < (W.ss.length:Int):=(by omega);have k0:((k:Int) == 0)=false:=(by rw [beq_eq_false_iff_ne]; omega);have k1:(0:Int) < (k:Int):=(by omega);have k2:0 < k:=(by omega);have XW:=ah hkj;clear hcs hq hkj;by_cases th:q.th=x.th
                     ·have th1:(q.th != x.th)=false:=(by simp [th]);by_cases st:x.st=q.st + 1
                      case neg=>have s1:(x.st != q.st + 1)=true:=(by simpa using st);have HT2:aj (res=false):=ah (rQ.o (by rw [nA]; simp [t0,t1,th,st]));go_wp2_with fail;go_quiet (fail);go_wp2_with fail;go_quiet (fail);go_wp2_with fail;go_ret;exact ⟨by rw [HT2.o]; rfl,by rw [bF.o]; exact (by repeat (first | exact xu.o | refine below_drewN ?_ _))⟩
                      have s1:(x.st != q.st + 1)=false:=(by simp [st]);have iy:aj (nA W.ts.length none W.ss=nA W.ts.length (some x) R):=ah (by rw [HE2.o,nA]; simp [t0,t1,th,st]);go_wp2_with fail;go_quiet (fail);go_wp2_with fail;go_quiet (fail);go_wp2_with fail;go_roundw
                      case rel=>exact ⟨k + 1,some x,R,by go_num,HR2.o,by omega,iy.o,⟨k,rfl,vZ.o,by have:=XW.o; omega,by have:=XW.o; omega⟩,(by repeat (first | exact HBn.o | refine below_drewN ?_ _))⟩
                      case measure=>simp [intOf]; omega
                     ·have th1:(q.th != x.th)=true:=(by simpa using th);by_cases s0:x.st=0
                      case neg=>have s1:(x.st != 0)=true:=(by simpa using s0);have HT2:aj (res=false):=ah (rQ.o (by rw [nA]; simp [t0,t1,th,s0]));go_wp2_with fail;go_quiet (fail);go_wp2_with fail;go_quiet (fail);go_wp2_with fail;go_ret;exact ⟨by rw [HT2.o]; rfl,by rw [bF.o]; exact (by repeat (first | exact xu.o | refine below_drewN ?_ _))⟩
                      have s1:(x.st != 0)=false:=(by simp [s0]);by_cases gt:x.th < q.th
                      case pos=>have HT2:aj (res=false):=ah (rQ.o (by rw [nA]; simp [t0,t1,th,s0,gt]));go_wp2_with fail;go_quiet (fail);go_wp2_with fail;go_quiet (fail);go_wp2_with fail;go_ret;exact ⟨by rw [HT2.o]; rfl,by rw [bF.o]; exact (by repeat (first | exact xu.o | refine below_drewN ?_ _))⟩
                      have iy:aj (nA W.ts.length none W.ss=nA W.ts.length (some x) R):=ah (by rw [HE2.o,nA]; simp [t0,t1,th,s0,gt]);go_wp2_with fail;go_quiet (fail);go_wp2_with fail;go_quiet (fail);go_wp2_with fail;go_roundw
                      case rel=>exact ⟨k + 1,some x,R,by go_num,HR2.o,by omega,iy.o,⟨k,rfl,vZ.o,by have:=XW.o; omega,by have:=XW.o; omega⟩,(by repeat (first | exact HBn.o | refine below_drewN ?_ _))⟩
                      case measure=>simp [intOf]; omega
end Go.Proofs.YtgjmahnblcajbaaGreatDoor
