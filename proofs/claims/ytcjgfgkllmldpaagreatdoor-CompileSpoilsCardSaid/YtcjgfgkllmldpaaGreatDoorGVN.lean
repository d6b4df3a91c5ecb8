/- Contract of the reference's names. And what hangs on it. -/
import Derived.Test.YtcjgfgkllmldpaaGreatDoorGVA
import Derived.Test.YtcjgfgkllmldpaaGreatDoorGCI
set_option linter.unusedSimpArgs false
set_option linter.unusedVariables false
set_option maxHeartbeats 40000000
set_option maxRecDepth 1000000
namespace Go.Proofs.YtcjgfgkllmldpaaGreatDoor
open Go.RowKit
open Md
theorem yx.YZ {w0:World} {nb:Nat} {W:Wo} {s:jr} {w:World} {v:Value} {l:List ByteArray} (h:yx w0 nb W s w v l):w.cell? ⟨nb,0,none⟩=some (.slice s.aC W.cs.length s.cC):=aG (j:=0) h.x rfl
theorem MX {α:Type} {l R:List α} {k:Nat} {x:α} (h:x::R=l.drop k):l[k]? =some x∧R=l.drop (k+1):=by
 have h0:=congrArg (λm=>m[0]?) h;simp at h0;have h1:=congrArg (List.drop 1) h;rw[List.drop_drop]at h1;exact⟨h0.symm,ahm⟩
theorem ZC (W:Wo) (s:jr) (w:World) (hw:gq w w.heap.size W s) (hk:Ma W) (hsm:oO W):
 Calls Tryz.prog 34 #[mQ W s] w (VcP ((yG W.cs.length W.cs).map (pW W)) w):=by
 have HW:=ah hw;have HK:=ah hk;obtain⟨hs0,hs1,hs2,hs3,hs4,hs5,hs6⟩:=hsm;obtain⟨res,hres⟩: ∃r,yG W.cs.length W.cs=r:=⟨_,rfl⟩;have HR:=ah hres;rw[hres];clear hw hk hres;unfold mQ;go_enter Tryz.func34,Tryz.ntmps34;go_upto_region 1 with fail;generalize hW:World.alloc w _=W1;obtain⟨nb,hnb⟩: ∃n,w.heap.size=n:=⟨_,rfl⟩;have HB:aj (Below nb w W1):=ah acM;have HI:aj (yx w nb W s W1 (.slice none 0 0) []):=ah ⟨Grow.nil _ _ _ _ _ _,λq hq=>(by cases hq),aaX,aa1,HB.o⟩;have dG:=ah hnb;rw[hnb];clear hW hnb HW HB;go_wp2_with fail;go_loopw [4,5,6,7,8] (λv4 v5 _ _ _ wr=> ∃(k:Nat) (R:List mU) (acc:List ByteArray) (f:Nat),v5= .int .i64 k∧R=W.cs.drop k∧k<=W.cs.length∧R.length<=f∧res=(yG f R).map (λl=>acc++l)∧yx w nb W s wr v4 acc∧acc.length<=k∧(∀x∈acc,x.size<=maxLen)) (λ_ v _ _ _ _=>W.cs.length -(intOf v).toNat)
 case atStart=>exact⟨0,W.cs,[],W.cs.length,rfl,rfl,bC _,aD _,by rw[<- HR.o];cases yG W.cs.length W.cs <;> rfl,HI.o,aD _,λx hx=>ahQ⟩
 case round=>
  obtain⟨k,R,acc,f,rfl,hR,hk,Xz,heq,hi,hac,hnA⟩:=hrel;have HE:=ah heq;have HI:=ah hi;have WU:=ah hnA;have QB:=ah hR;have hlen:R.length=W.cs.length -k:=agB
  clear heq hi hnA hR;have g0:=HI.o.YZ;cases R with
  |nil=>
   obtain rfl:k=W.cs.length:=agL
   have HT:aj (res=some acc):=ah (by rw[HE.o];cases f <;> simp[yG]);obtain⟨gB,gC,gD,gE⟩:=HI.o.cells;obtain⟨wA,hwA⟩: ∃X:World,X=wr:=⟨_,rfl⟩;subst hwA;clear hk Xz hlen HE QB;go_upto_region 20 with fail;clear g0 gB gC gD gE;go_loopw [4,9] (λv4 vi wr=> ∃k:Nat,vi= .int .i64 k∧k<=W.ls.length∧yx w nb W s wr v4 (acc++(W.ls.take k).map (·.nm))) (λ_ v _=>W.ls.length -(intOf v).toNat)
   case atStart=>exact⟨0,rfl,bC _,aga⟩
   case round=>
    obtain⟨k,rfl,hk,hi⟩:=hrel;obtain⟨EY,hacc⟩: ∃q,acc++(W.ls.take k).map (·.nm)=q:=⟨_,rfl⟩;rw[hacc]at hi;have HI:=ah hi;have Au:=ah hacc;have bc8:EY.length<=100:=afU;have gA:=aG (j:=0) hi.x rfl;obtain⟨gB,gC,gD,gE⟩:=hi.cells;clear hi hacc gA;by_cases hkl:k<W.ls.length
    ·obtain⟨x,hx⟩: ∃x,W.ls[k]? =some x:=⟨_,aX hkl⟩;have HX:=ah hx;obtain⟨b,off,hao,hb1,hcs⟩:=HI.o.wo.ls.at k x hx;have x0:=hcs 0 _ rfl;simp only[aU,Nat.add_zero]at x0;clear hcs hx;rw[hao]at gB;clear hao;have HI3:=ah (HI.o.next (aA wr (.cells #[.string x.nm] 9)));have hlen1:EY.length+1<=1000000:=ahf;have hnm:x.nm.size<=maxLen:=HK.o.ls x (List.mem_of_getElem? HX.o);clear HI;go_wp2_with (at_builtin;refine uN _ rfl _ _ rfl rfl HI3.o.g rfl (KS hnm) hlen1 (bg HI3.o.lt) ?_);intro v3 w3 hg3 yS Ae;have HI4:=ah (HI3.o.step hg3 yS ahK);have HE2:aj (EY++[x.nm]=acc++(W.ls.take (k+1)).map (·.nm)):=ah abH;clear hg3 yS Ae HI3 hlen1 hnm gB gC gD gE x0;go_wp2_with fail;go_roundw
     case rel=>exact⟨k+1,ahj,ahf,by rw[<- HE2.o];exact HI4.o⟩
     case measure=>simp[intOf];omega
    ·obtain rfl:k=W.ls.length:=ahf;rw[List.take_length]at Au;have HA0:=Au;obtain⟨wB,hwB⟩: ∃X:World,X=wr:=⟨_,rfl⟩;subst hwB;go_upto_region 24 with fail;clear gB gC gD gE;go_loopw [4,10] (λv4 vi wr=> ∃k:Nat,vi= .int .i64 k∧k<=W.ns.length∧yx w nb W s wr v4 (EY++(W.ns.take k).map (·.nm))) (λ_ v _=>W.ns.length -(intOf v).toNat)
     case atStart=>exact⟨0,rfl,bC _,aga⟩
     case round=>
      obtain⟨k,rfl,hk,hi⟩:=hrel;obtain⟨JN,hacc⟩: ∃q,EY++(W.ns.take k).map (·.nm)=q:=⟨_,rfl⟩;rw[hacc]at hi;have HI:=ah hi;have Au:=ah hacc;have bc8:JN.length<=200:=afU;have gA:=aG (j:=0) hi.x rfl;obtain⟨gB,gC,gD,gE⟩:=hi.cells;clear hi hacc gA;by_cases hkl:k<W.ns.length
      ·obtain⟨x,hx⟩: ∃x,W.ns[k]? =some x:=⟨_,aX hkl⟩;have HX:=ah hx;obtain⟨b,off,hao,hb1,hcs⟩:=HI.o.wo.ns.at k x hx;have x0:=hcs 0 _ rfl;simp only[aU,Nat.add_zero]at x0;clear hcs hx;rw[hao]at gC;clear hao;have HI3:=ah (HI.o.next (aA wr (.cells #[.string x.nm] 9)));have hlen1:JN.length+1<=1000000:=ahf;have hnm:x.nm.size<=maxLen:=HK.o.ns x (List.mem_of_getElem? HX.o);clear HI;go_wp2_with (at_builtin;refine uN _ rfl _ _ rfl rfl HI3.o.g rfl (KS hnm) hlen1 (bg HI3.o.lt) ?_);intro v3 w3 hg3 yS Ae;have HI4:=ah (HI3.o.step hg3 yS ahK);have HE2:aj (JN++[x.nm]=EY++(W.ns.take (k+1)).map (·.nm)):=ah abH;clear hg3 yS Ae HI3 hlen1 hnm gB gC gD gE x0;go_wp2_with fail;go_roundw
       case rel=>exact⟨k+1,ahj,ahf,by rw[<- HE2.o];exact HI4.o⟩
       case measure=>simp[intOf];omega
      ·obtain rfl:k=W.ns.length:=ahf;rw[List.take_length]at Au;have hl5:JN.length+W.fs.length<=1000000:=ahf;go_wp2_with (at_builtin;refine uN _ rfl _ _ rfl rfl HI.o.g rfl (HI.o.wo.fs.mono (bg HI.o.lt)) hl5 (bg HI.o.lt) ?_);intro v4 w4 hg4 UF vV;have hi4:=HI.o.step hg4 UF vV;obtain⟨ac4,Zc⟩: ∃ac4,JN++W.fs=ac4:=⟨_,rfl⟩;rw[Zc]at hi4;have HI4:=ah hi4;have bD2:=ah Zc;have bU9:ac4.length<=300:=(by rw[<- Zc];simp;omega);clear hg4 UF vV HI gB gC gD gE hl5 hi4 Zc;obtain⟨gB,gC,gD,gE⟩:=HI4.o.cells;have hl6:ac4.length+W.ts.length<=1000000:=ahf;go_wp2_with (at_builtin;refine uN _ rfl _ _ rfl rfl HI4.o.g rfl (HI4.o.wo.ts.mono (bg HI4.o.lt)) hl6 (bg HI4.o.lt) ?_);intro v5 w5 hg5 hgr5 Uy;have gP:=ah (HI4.o.step hg5 hgr5 Uy);have HEN:aj (ac4++W.ts=pW W acc):=ah (by rw[<- bD2.o,<- Au.o,<- HA0.o];rfl);have QH:aj (∀x∈pW W acc,x.size<=maxLen):=ah (λx hx=>by
        unfold pW at hx;simp only[List.mem_append,List.mem_map]at hx;rcases hx with(((h|⟨y,hy,rfl⟩)|⟨y,hy,rfl⟩)|h)|h
        ·exact WU.o x h
        ·exact HK.o.ls y hy
        ·exact HK.o.ns y hy
        ·exact yZ gP.o.wo.fs x h
        ·exact yZ gP.o.wo.ts x h)
       clear hg5 hgr5 Uy gB gC gD gE;go_wp2_with fail
       go_ret2
       rw[HT.o];refine⟨?_,afK⟩;have hg:=gP.o.g;rw[HEN.o]at hg;obtain⟨U6,cap2,e,hc2,hst⟩:=kC.says hg QH.o;exact⟨U6,cap2,ahB,hst.now,hc2⟩
  |cons c R=>
   obtain⟨f,rfl⟩: ∃g,f=g+1:=⟨f -1,by simp at Xz;omega⟩;have hx:=MX QB.o;have HX:=ah hx.1;have HR2:=ah hx.2;obtain⟨b,off,hao,hb1,hcs⟩:=HI.o.wo.cs.at k c hx.1;simp only[aB]at hlen Xz;have hkl:k<W.cs.length:=ahf
   have x0:=hcs 0 _ rfl;have x1:=hcs 1 _ rfl;have x2:=hcs 2 _ rfl;have x3:=hcs 3 _ rfl;have x4:=hcs 4 _ rfl;simp only[aU,Nat.add_zero]at x0 x1 x2 x3 x4;have zL:=ah hao;rw[hao]at g0;clear hcs hx hao;go_upto_region 5 with fail;obtain⟨cb,hcb⟩: ∃n,wr.heap.size=n:=⟨_,rfl⟩;generalize hW2:World.alloc wr _=w2;have HB2:aj (Below wr.heap.size wr w2):=ah afl;have yu:aj (w2.heap[cb]? =some (.cells #[.string c.nm,.int .i64 c.ix,.int .i64 c.sz,.bool c.xM,.int .i64 c.init] 42 (0,0))):=ah aa7;have HI2:=ah (HI.o.next HB2.o);have Nz:=ah (λq hq=>by have:=(HI.o.g.lt q hq).2;rw[hcb]at this;exact this);rw[hcb];clear hW2 hcb x0 x1 x2 x3 x4 HI HB2 g0;have y0:w2.cell? ⟨cb,0,none⟩=some (.string c.nm):=aG yu.o rfl;have HI3:=ah (HI2.o.next (aA w2 (.cells #[.string c.nm] 9)));have hlen1:acc.length+1<=1000000:=ahf
   have hnm:c.nm.size<=maxLen:=HK.o.cs c (List.mem_of_getElem? HX.o);go_wp2_with (at_builtin;refine uN _ rfl _ _ rfl rfl HI3.o.g rfl (KS hnm) hlen1 (bg HI3.o.lt) ?_);intro v3 w3 hg3 yS Ae;have HI4:=ah (HI3.o.step hg3 yS ahK);have IW:aj (cb<w2.heap.size):=ah (aI yu.o);have zW:aj (w3.heap[cb]? =some (.cells #[.string c.nm,.int .i64 c.ix,.int .i64 c.sz,.bool c.xM,.int .i64 c.init] 42 (0,0))):=ah ((yS.block cb (by simp;have:=IW.o;omega) (λe=>by have:=Nz.o cb e.symm;omega)).trans ((heap_alloc_old _ _ IW.o).trans yu.o));have HNN:aj (∀x∈acc++[c.nm],x.size<=maxLen):=ah (λx hx=>by
    rcases List.mem_append.1 hx with hx|hx
    ·exact WU.o x hx
    ·rw[List.mem_singleton.1 hx];exact hnm)
   have WJ:aj (∀o:Option (List ByteArray),(o.map (λl=>c.nm::l)).map (λl=>acc++l)=o.map (λl=>(acc++[c.nm])++l)):=ah (λo=>FT);have hal:(acc++[c.nm]).length<=k+1:=ahi
   generalize acc++[c.nm]=PE at *;have gP:=HI4;clear hg3 yS Ae HI3 HI2 yu y0 hlen1 hnm Nz IW WU HI4;have g0:=gP.o.YZ;have z0:=aG (j:=0) zW.o rfl;have z1:=aG (j:=1) zW.o rfl;have z2:=aG (j:=2) zW.o rfl;have z3:=aG (j:=3) zW.o rfl;have z4:=aG (j:=4) zW.o rfl;simp only[List.getElem_toArray,List.getElem_cons_zero,List.getElem_cons_succ]at z0 z1 z2 z3 z4;have hwl:IntKind.i64.wrap ((W.cs.length:Int) -(k:Int))=(W.cs.length:Int) -(k:Int):=IntWalk.i64_in _ ahf;have hw1:IntKind.i64.wrap ((k:Int)+1)=(k:Int)+1:=IntWalk.i64_in _ ahf;cases hsz:(c.sz==0)
   ·by_cases h1:c.sz<1
    ·have HT:aj (res=none):=ah (by rw[HE.o,yG,hsz];simp[h1]);go_wp2_with fail
     go_ret2
     rw[HT.o];exact⟨rfl,afK⟩
    ·by_cases h2:4<c.sz
     ·have HT:aj (res=none):=ah (by rw[HE.o,yG,hsz];simp[h2]);go_wp2_with fail
      go_ret2
      rw[HT.o];exact⟨rfl,afK⟩
     ·by_cases h4:(W.cs.length:Int) -(k:Int)<c.sz
      ·have HT:aj (res=none):=ah (by rw[HE.o,yG,hsz];have:decide (((R.length+1:Nat):Int)<c.sz)=true:=adt;simp only[this];simp);go_wp2_with fail
       go_ret2
       rw[HT.o];exact⟨rfl,afK⟩
      ·obtain⟨n,hn⟩:=Int.eq_ofNat_of_zero_le (show 0<=c.sz by omega);have DJ:=ah hn;have hn1:1<=n:=ahf;have hn4:n<=4:=ahf;have hnR:n<=R.length+1:=ahf;have kF:aj (res=if xZ c n 0 (c::R)then(yG f ((c::R).drop n)).map (λl=>PE++l)else none):=ah (by
        have hd:(decide (c.sz<1)||(decide (4<c.sz)||decide (((R.length+1:Nat):Int)<c.sz)))=false:=ahi;rw[HE.o,yG,hsz,hd];have e:c.sz.toNat=n:=ahf;rw[e];cases xZ c n 0 (c::R)
        ·rfl
        ·exact WJ.o _)
       clear hn HE;go_upto_region 13 with fail;clear z0 z1 z2 z3 z4 g0;obtain⟨wI,Ku⟩: ∃W:World,W=wr:=⟨_,rfl⟩;subst Ku;go_loopw [7,8] (λv7 _ wq=> ∃(j:Nat) (Q:List mU),v7= .int .i64 j∧j<=n∧Q=(c::R).drop j∧xZ c n 0 (c::R)=xZ c (n -j) j Q∧wq.heap[cb]? =some (.cells #[.string c.nm,.int .i64 c.ix,.int .i64 c.sz,.bool c.xM,.int .i64 c.init] 42 (0,0))∧yx w nb W s wq v3 PE) (λv _ _=>n -(intOf v).toNat)
       case atStart=>exact⟨0,_,rfl,bC _,rfl,rfl,zW.o,gP.o⟩
       case round=>
        obtain⟨j,Q,rfl,hjn,hQ,heq,hbx,hi⟩:=hrel;have HQ:=ah hQ;have vK:=ah heq;have sD:=ah hbx;have WQ:=ah hi;have g0:=hi.YZ;have z0:=aG (j:=0) hbx rfl;have z2:=aG (j:=2) hbx rfl;have z4:=aG (j:=4) hbx rfl;simp only[List.getElem_toArray,List.getElem_cons_zero,List.getElem_cons_succ]at z0 z2 z4;clear hQ heq hbx hi;by_cases hjl:j<n
        ·cases Q with
         |nil=>exfalso;have:=congrArg List.length HQ.o;simp at this;omega
         |cons x Q=>
          have hx:W.cs[k+j]? =some x:=(by have:=congrArg (λl=>l[0]?) HQ.o;rw[QB.o]at this;simpa using this.symm);have hkj:k+j<W.cs.length:=(List.getElem?_eq_some_iff.1 hx).1;obtain⟨b',off',e,hb',hcs⟩:=WQ.o.wo.cs.at (k+j) x hx;rw[zL.o]at e;injection e with e;injection e with e1 e2;subst e1 e2;rw[zL.o]at g0;have t0:=hcs 0 _ rfl;have t1:=hcs 1 _ rfl;have t2:=hcs 2 _ rfl;have t3:=hcs 3 _ rfl;have t4:=hcs 4 _ rfl;simp only[aU,Nat.add_zero]at t0 t1 t2 t3 t4;have hjs:(j:Int)<c.sz:=agq;have hwk:IntKind.i64.wrap ((k:Int)+(j:Int))=((k+j:Nat):Int):=adb;have k0:(0:Int)<=((k+j:Nat):Int):=ahf;have k1:((k+j:Nat):Int)<(W.cs.length:Int):=ahf;have HRQ:aj (xZ c n 0 (c::R)=(Nk c j x&&xZ c (n -(j+1)) ((j:Int)+1) Q)):=ah (by rw[vK.o,show n -j=(n -(j+1))+1 by omega,xZ]);have sP:aj (Q=(c::R).drop (j+1)):=ah aaz;clear hcs hx vK;go_upto_region 16 with fail;obtain⟨xb,hxb⟩: ∃n,wr.heap.size=n:=⟨_,rfl⟩;generalize tT:World.alloc wr _=w5;have iU:aj (Below wr.heap.size wr w5):=ah agC;have HXx:aj (w5.heap[xb]? =some (.cells #[.string x.nm,.int .i64 x.ix,.int .i64 x.sz,.bool x.xM,.int .i64 x.init] 42 (0,0))):=ah (by rw[<- tT,<- hxb];exact heap_alloc_new _ _);have tJ:=ah ((iU.o.block cb (aI sD.o)).trans sD.o);have tC:=ah (WQ.o.next iU.o);rw[hxb];clear tT hxb t0 t1 t2 t3 t4 z0 z2 z4 g0 WQ sD iU;have z0:=aG (j:=0) tJ.o rfl;have z2:=aG (j:=2) tJ.o rfl;have z4:=aG (j:=4) tJ.o rfl;have t0:=aG (j:=0) HXx.o rfl;have t1:=aG (j:=1) HXx.o rfl;have t2:=aG (j:=2) HXx.o rfl;have t3:=aG (j:=3) HXx.o rfl;have t4:=aG (j:=4) HXx.o rfl;simp only[List.getElem_toArray,List.getElem_cons_zero,List.getElem_cons_succ]at z0 z2 z4 t0 t1 t2 t3 t4;have xB:aj (Nk c j x=false->res=none):=ah (λh=>by rw[kF.o,HRQ.o,h];rfl);have WY:aj (Nk c j x=(x.ix==(j:Int)&&(x.nm.toList==c.nm.toList&&(x.sz==c.sz&&(x.init==c.init&& !x.xM))))):=ah rfl;by_cases e1:x.ix=(j:Int)
          case neg=>
           have HT:aj (res=none):=ah (xB.o (by rw[WY.o];simp[e1]));exact AbL
          by_cases e2:x.nm.toList=c.nm.toList
          case neg=>
           have HT:aj (res=none):=ah (xB.o (by rw[WY.o];simp[e1,e2]));exact AbL
          by_cases e3:x.sz=c.sz
          case neg=>
           have HT:aj (res=none):=ah (xB.o (by rw[WY.o];simp[e1,e2,e3]));exact AbL
          by_cases e4:x.init=c.init
          case neg=>
           have HT:aj (res=none):=ah (xB.o (by rw[WY.o];simp[e1,e2,e3,e4]));exact AbL
          cases e5:x.xM
          ·have aq9:aj (xZ c n 0 (c::R)=xZ c (n -(j+1)) ((j:Int)+1) Q):=ah (by rw[HRQ.o,WY.o];simp[e1,e2,e3,e4,e5]);rw[e5]at t3;go_wp2_with fail;go_roundw
           case rel=>exact⟨j+1,Q,ahj,ahf,sP.o,aq9.o,tJ.o,tC.o⟩
           case measure=>simp[intOf];omega
          ·rw[e5]at t3;have HT:aj (res=none):=ah (xB.o (by rw[WY.o];simp[e1,e2,e3,e4,e5]));exact AbL
        ·obtain rfl:j=n:=ahf;have HT:aj (xZ c j 0 (c::R)=true):=ah adO;have IX:aj (res=(yG f ((c::R).drop j)).map (λl=>PE++l)):=ah (by rw[kF.o,HT.o];rfl);have hnlt: ¬(j:Int)<c.sz:=agq;have hw2:IntKind.i64.wrap ((k:Int)+c.sz)=((k+j:Nat):Int):=ab1;go_wp2_with fail;go_roundw
         case rel=>exact⟨k+j,(c::R).drop j,PE,f,by first|rfl|simp[hw2],by rw[QB.o,List.drop_drop],ahf,ahi,IX.o,WQ.o,ahf,HNN.o⟩
         case measure=>simp[intOf];omega
   ·cases hix:(c.ix==0)
    ·have HT:aj (res=none):=ah (by rw[HE.o,yG,hsz];simp[bne,hix]);go_wp2_with fail
     go_ret2
     rw[HT.o];exact⟨rfl,afK⟩
    ·have HE2:aj (res=(yG f R).map (λl=>PE++l)):=ah (by rw[HE.o,yG,hsz];have:(c.ix != 0)=false:=(by simp[bne,hix]);rw[this];exact WJ.o _);go_wp2_with fail;go_roundw
     case rel=>exact⟨k+1,R,PE,f,ahj,HR2.o,ahf,ahf,HE2.o,gP.o,ahf,HNN.o⟩
     case measure=>simp[intOf];omega
theorem bm8 {W:Wo} (h: ¬oO W):vW W=false:=by
 unfold vW;split
 ·rfl
 ·rename_i h1;split
  ·rfl
  ·rename_i h2;exfalso;apply h;simp at h1 h2;unfold oO;omega
theorem aC4 {W:Wo} (h:oO W):vW W=match yG W.cs.length W.cs with
 |none=>false
 |some v=>Jf [] (pW W v)&&(W.ns.all (λc=>jE W c.mx false)&&rT W.ts.length none W.ss):=by
 obtain⟨h0,h1,h2,h3,h4,h5,h6⟩:=h;unfold vW;rw[if_neg ahi,if_neg ahi,Ph];unfold EI;cases ug W.cs.length W.cs with
 |none=>rfl
 |some v=>simp only[an8,aC6];rfl
theorem Lv {W:Wo} {v:List ByteArray} (h:oO W) (hv:yG W.cs.length W.cs=some v):(pW W v).length<=30:=by
 rw[Ph]at hv;have:=LD _ _ _ hv;obtain⟨h0,h1,h2,h3,h4,h5,h6⟩:=h;unfold pW;simp only[au,fM];omega
def bH2 (l:List tK) (k:Nat):Option tK->Prop
 |none=>k=0
 |some q=> ∃j,k=j+1∧l[j]? =some q∧0<=q.st∧q.st<=j
theorem P8 (W:Wo) (s:jr) (w:World) (hw:gq w w.heap.size W s) (hk:Ma W):
 Calls Tryz.prog 12 #[mQ W s] w λe w'=>e= .returned (.bool (vW W))∧Below w.heap.size w w':=by
 have HW:=ah hw;have HK:=ah hk;have hl0:=hw.lc;have hl1:=hw.ll;have hl2:=hw.ln;have hl3:=hw.lf;have hl4:=hw.lt;have hl5:=hw.lS;unfold maxLen at hl0 hl1 hl2 hl3 hl4 hl5;obtain⟨res,hres⟩: ∃r,vW W=r:=⟨_,rfl⟩;have HR:=ah hres;rw[hres];clear hw hk hres;have Jo:aj (¬oO W->res=false):=ah (λh=>by rw[<- HR.o];exact bm8 h);go_enter Tryz.func12,Tryz.ntmps12;go_upto_region 1 with fail;unfold mQ;generalize hW:World.alloc w _=W1;obtain⟨nb,hnb⟩: ∃n,w.heap.size=n:=⟨_,rfl⟩;have HB:aj (Below nb w W1):=ah acM;have HX:aj (W1.heap[nb]? =some (.cells #[.slice s.aC W.cs.length s.cC,.slice s.aL W.ls.length s.cL,.slice s.aN W.ns.length s.cN,.slice s.aF W.fs.length s.cF,.slice s.aT W.ts.length s.cT,.slice s.aS W.ss.length s.cS] 29 (0,0))):=ah aaX;have jX:aj (W1.heap.size=nb+1):=ah aft;have HW1:aj (gq W1 nb W s):=ah aa1;have dG:=ah hnb;rw[hnb];clear hW hnb HW;have g0:=aG (j:=0) HX.o rfl;have g1:=aG (j:=1) HX.o rfl;have g2:=aG (j:=2) HX.o rfl;have g3:=aG (j:=3) HX.o rfl;have g4:=aG (j:=4) HX.o rfl;have g5:=aG (j:=5) HX.o rfl;simp only[List.getElem_toArray,List.getElem_cons_zero,List.getElem_cons_succ]at g0 g1 g2 g3 g4 g5;by_cases q0:(12:Int)<W.cs.length
 ·exact Abu
 ·skip;by_cases q1:(4:Int)<W.ls.length
  ·exact Abu
  ·skip;by_cases q2:(2:Int)<W.ns.length
   ·exact Abu
   ·skip;by_cases q3:(2:Int)<W.fs.length
    ·exact Abu
    ·skip;by_cases q5:(W.ts.length:Int)<1
     ·exact Abu
     ·skip;by_cases q6:(4:Int)<W.ts.length
      ·exact Abu
      ·skip;by_cases q4:(60:Int)<W.ss.length
       ·exact Abu
       ·have hsm:oO W:=(by unfold oO;omega);have QC:=ah hsm;have HR2:=ah (HR.o.symm.trans (aC4 hsm));clear hsm;have HWX:=ah (HW1.o.mono (show nb<=W1.heap.size by have:=jX.o;omega));go_wp2_with fail;refine(ZC W s W1 HWX.o HK.o QC.o).mono ?_;intro e w2 Mq;have hb2:=Mq.2;have hm:=Mq.1;clear Mq;have AQ:aj (Below nb w w2):=ah (HB.o.trans (hb2.mono afj));have jY:=ah ((hb2.block nb afj).trans HX.o);have HS2:aj (nb<w2.heap.size):=ah (by have h1:=jX.o;have h2:=hb2.size;omega);have HW2:aj (gq w2 nb W s):=ah (HW1.o.below (hb2.mono afj));have AL:=ah (λv hv=>Lv QC.o hv (v:=v));clear hb2 g0 g1 g2 g3 g4 g5 q0 q1 q2 q3 q4 q5 q6 HB HX HWX HW1 HR Jo QC jX;cases hv:yG W.cs.length W.cs with
        |none=>rw[hv]at hm;obtain rfl:e=_:=hm;have HT:aj (res=false):=ah aiv;exact AbI
        |some v=>
         rw[hv]at hm;obtain⟨ao,cap,rfl,hat,hcap⟩:=hm;have hlen:=AL.o v hv;have HR3:aj (res=(Jf [] (pW W v)&&(W.ns.all (λc=>jE W c.mx false)&&rT W.ts.length none W.ss))):=ah (by have:=HR2.o;rw[hv]at this;exact this);clear hv AL HR2;have HAT:=ah hat;have ql:=ah (yZ hat);clear hat;generalize pW W v=l at *;go_upto_region 7 with fail;go_loopw [5] (λv5 wr=> ∃(pre R:List ByteArray),v5= .int .i64 pre.length∧pre++R=l∧Jf [] l=Jf pre R∧Below w2.heap.size w2 wr) (λv _=>l.length -(intOf v).toNat)
         case atStart=>exact⟨[],l,rfl,rfl,rfl,ak _ _⟩
         case round=>
          obtain⟨pre,R,rfl,hds,heq,hbel⟩:=hrel;have HE:=ah heq;have sO:=ah hds;have iZ:=ah hbel;have pY:aj (Below nb w wr):=ah (AQ.o.trans (iZ.o.mono (bg HS2.o)));have iw:aj (nb<wr.heap.size):=ah (aV HS2.o iZ.o.size);have lU:=ah ((iZ.o.block nb HS2.o).trans jY.o);have DV:aj (gq wr nb W s):=ah (HW2.o.below (iZ.o.mono (bg HS2.o)));have hll:pre.length+R.length=l.length:=(by rw[<- hds,au]);have AB:=ah (HAT.o.same iZ.o);clear heq hds hbel;cases R with
          |cons z R=>
           have hrd:=AB.o.drop pre.length;rw[aU,<- sO.o,List.drop_left]at hrd;obtain⟨⟨b,off,hao,hb1,x0,hsz⟩,-⟩:=hrd;have xD:aj (fT wr wr.heap.size pre ao 0):=ah (fT.take (R:=z::R) (by rw[sO.o];exact AB.o));simp only[aB]at hll;have hkl:pre.length<l.length:=ahf;have hkm:pre.length<=maxLen:=afc;have Gd:aj (Jf pre (z::R)=((Tk.ji z.toList&& !decide (0<=gK pre z))&&Jf (pre++[z]) R)):=ah rfl;subst hao;rw[Lib.toList_data]at Gd;have k0:(0:Int)<=(pre.length:Int):=ahf;have k1:(pre.length:Int)<(l.length:Int):=ahf;have k2:(pre.length:Int)<=(l.length:Int):=ahf;obtain⟨T,F,yU,hst,hF,hnext⟩:=calm wr;have HF:=ah hF;have dN:=ah hnext;have y0:=λx=>((HF.o x).cell (p:=⟨b,_,none⟩) hb1).trans x0;clear hF hnext x0;cases hn:Tk.ji z.data.toList
           ·have HT:aj (res=false):=ah (by rw[HR3.o,HE.o,Gd.o,hn];rfl);go_wp2_with fail;refine gX F ahe ahe hst ?_
            repeat (any_goals (first|go_big_quiet_step ((go_at_call 35;refine(jl _ _ hsz).mono ?_;rintro e w' ⟨rfl,hb⟩;exact⟨congrArg (λq=>Ending.returned (.bool q)) hn,dN.o _ _ hb⟩))|(refine wpQuiet_step (λK hK=> ?_);go_simp;first|(refine hK _ ?_;clear hK K)|(split <;> first|(refine hK _ ?_;clear hK K)|(apply Exists.intro;refine⟨λ_=> ?_,hK _ ?_⟩;((go_at_call 35;refine(jl _ _ hsz).mono ?_;rintro e w' ⟨rfl,hb⟩;exact⟨congrArg (λq=>Ending.returned (.bool q)) hn,dN.o _ _ hb⟩));clear hK K)))))
            all_goals (refine wpQuiet_nil ?_;rintro _ ⟨x,rfl⟩)
            have Bz:=ah (pY.o.trans ((HF.o x).mono (bg iw.o)));go_wp2_with fail;go_ret;exact⟨ahk,agR⟩
           ·have EM:aj (∀w',Below wr.heap.size wr w'->Calls Tryz.prog 36 #[.slice (some ⟨b,off,none⟩) pre.length cap,.string z] w' λe w''=>e= .returned (.int .i64 (gK pre z))∧w'=w''):=ah (λw' hb=>by rw[<- zm];exact jK pre z w' _ cap hkm (xD.o.same hb));by_cases h0:0<=gK pre z
            ·have HT:aj (res=false):=ah (by rw[HR3.o,HE.o,Gd.o,hn];simp[h0]);go_wp2_with fail;refine gX F ahe ahe hst ?_
             repeat (any_goals (first|go_big_quiet_step ((first|(go_at_call 35;refine(jl _ _ hsz).mono ?_;rintro e w' ⟨rfl,hb⟩;exact⟨congrArg (λq=>Ending.returned (.bool q)) hn,dN.o _ _ hb⟩)|(go_at_call 36;refine(EM.o _ (HF.o _)).mono ?_;rintro e w' ⟨rfl,hw⟩;exact⟨rfl,_,hw.symm⟩)))|(refine wpQuiet_step (λK hK=> ?_);go_simp;first|(refine hK _ ?_;clear hK K)|(split <;> first|(refine hK _ ?_;clear hK K)|(apply Exists.intro;refine⟨λ_=> ?_,hK _ ?_⟩;((first|(go_at_call 35;refine(jl _ _ hsz).mono ?_;rintro e w' ⟨rfl,hb⟩;exact⟨congrArg (λq=>Ending.returned (.bool q)) hn,dN.o _ _ hb⟩)|(go_at_call 36;refine(EM.o _ (HF.o _)).mono ?_;rintro e w' ⟨rfl,hw⟩;exact⟨rfl,_,hw.symm⟩)));clear hK K)))))
             all_goals (refine wpQuiet_nil ?_;rintro _ ⟨x,rfl⟩)
             have Bz:=ah (pY.o.trans ((HF.o x).mono (bg iw.o)));go_wp2_with fail;go_ret;exact⟨ahk,agR⟩
            ·have HT:aj (Jf [] l=Jf (pre++[z]) R):=ah (by rw[HE.o,Gd.o,hn];simp[h0]);go_wp2_with fail;refine gX F ahe ahe hst ?_
             repeat (any_goals (first|go_big_quiet_step ((first|(go_at_call 35;refine(jl _ _ hsz).mono ?_;rintro e w' ⟨rfl,hb⟩;exact⟨congrArg (λq=>Ending.returned (.bool q)) hn,dN.o _ _ hb⟩)|(go_at_call 36;refine(EM.o _ (HF.o _)).mono ?_;rintro e w' ⟨rfl,hw⟩;exact⟨rfl,_,hw.symm⟩)))|(refine wpQuiet_step (λK hK=> ?_);go_simp;first|(refine hK _ ?_;clear hK K)|(split <;> first|(refine hK _ ?_;clear hK K)|(apply Exists.intro;refine⟨λ_=> ?_,hK _ ?_⟩;((first|(go_at_call 35;refine(jl _ _ hsz).mono ?_;rintro e w' ⟨rfl,hb⟩;exact⟨congrArg (λq=>Ending.returned (.bool q)) hn,dN.o _ _ hb⟩)|(go_at_call 36;refine(EM.o _ (HF.o _)).mono ?_;rintro e w' ⟨rfl,hw⟩;exact⟨rfl,_,hw.symm⟩)));clear hK K)))))
             all_goals (refine wpQuiet_nil ?_;rintro _ ⟨x,rfl⟩)
             have Bz:=ah (iZ.o.trans ((HF.o x).mono iZ.o.size));clear y0 HF dN EM hst;generalize F x=wz at *;go_wp2_with fail;go_roundw
             case rel=>exact⟨pre++[z],R,by rw[au];go_num,acE,HT.o,Bz.o⟩
             case measure=>simp[intOf];omega
          |nil=>
           obtain rfl:pre=l:=(by have:=sO.o;rw[List.append_nil]at this;exact this);have HT:aj (Jf [] pre=true):=ah ahC;have HR4:aj (res=(W.ns.all (λc=>jE W c.mx false)&&rT W.ts.length none W.ss)):=ah (by rw[HR3.o,HT.o];rfl);obtain⟨wA,hwA⟩: ∃X:World,X=wr:=⟨_,rfl⟩;subst hwA;have g2:=aG (j:=2) lU.o rfl;simp only[List.getElem_toArray,List.getElem_cons_zero,List.getElem_cons_succ]at g2;go_upto_region 12 with fail;clear g2;go_loopw [6,7] (λv6 _ wq=> ∃(k:Nat) (R:List Ji),v6= .int .i64 k∧R=W.ns.drop k∧k<=W.ns.length∧W.ns.all (λc=>jE W c.mx false)=R.all (λc=>jE W c.mx false)∧Below wA.heap.size wA wq) (λv _ _=>W.ns.length -(intOf v).toNat)
           case atStart=>exact⟨0,W.ns,rfl,rfl,bC _,rfl,ak _ _⟩
           case round=>
            obtain⟨k,R,rfl,hR,hk,heq,hbel⟩:=hrel;have QB:=ah hR;have HE2:=ah heq;have MF:=ah hbel;have MH:=ah (pY.o.trans (hbel.mono (bg iw.o)));have sD:=ah ((hbel.block nb iw.o).trans lU.o);have NV:=ah (DV.o.below (hbel.mono (bg iw.o)));have HSq:aj (nb<wr.heap.size):=ah (aV iw.o hbel.size);have hlen:R.length=W.ns.length -k:=agB;have g1:=aG (j:=1) sD.o rfl;have g2:=aG (j:=2) sD.o rfl;have g5:=aG (j:=5) sD.o rfl;simp only[List.getElem_toArray,List.getElem_cons_zero,List.getElem_cons_succ]at g1 g2 g5;clear heq hbel hR;cases R with
            |cons x R=>
             have hx:=MX QB.o;have HR2:=ah hx.2;obtain⟨b,off,hao,hb1,hcs⟩:=NV.o.ns.at k x hx.1;have x1:=hcs 1 _ rfl;simp only[aB]at hlen;have hkl:k<W.ns.length:=ahf;have HLK:aj (W.ns.all (λc=>jE W c.mx false)=(jE W x.mx false&&R.all (λc=>jE W c.mx false))):=ah (by rw[HE2.o,List.all_cons]);have Ay:aj (jE W x.mx false=(eB x.mx W.ls.length&&(match W.ls[x.mx.toNat]? with|some l=>l.rw==false|none=>false))):=ah rfl;have xB:aj (jE W x.mx false=false->res=false):=ah (λh=>by rw[HR4.o,HLK.o,h];rfl);simp only[aU]at x1;rw[hao]at g2;clear hao hcs hx g5 hlen;by_cases m0:x.mx<0
             ·have HT2:aj (res=false):=ah (xB.o (by rw[Ay.o,eB];simp[show ¬0<=x.mx by omega]));go_wp2_with fail;go_ret;exact⟨ahA,agh⟩
             ·by_cases m1:(W.ls.length:Int)<=x.mx
              ·have HT2:aj (res=false):=ah (xB.o (by rw[Ay.o,eB];simp[show ¬x.mx<W.ls.length by omega]));go_wp2_with fail;go_ret;exact⟨ahA,agh⟩
              ·obtain⟨j,hj⟩:=Int.eq_ofNat_of_zero_le (show 0<=x.mx by omega);have hjl:j<W.ls.length:=ahf;obtain⟨y,hy⟩: ∃y,W.ls[j]? =some y:=⟨_,aX hjl⟩;obtain⟨b2,off2,PY,hb2,hcs2⟩:=NV.o.ls.at j y hy;have y1:=hcs2 1 _ rfl;have LY:aj (jE W x.mx false=(y.rw==false)):=ah (by rw[Ay.o,eB,hj,show((j:Int)).toNat=j by omega,hy];simp[hjl]);have j0:(0:Int)<=(j:Int):=ahf;have j1:(j:Int)<(W.ls.length:Int):=ahf;have j2: ¬(j:Int)<0:=ahf;have j3: ¬(W.ls.length:Int)<=(j:Int):=ahf;simp only[aU]at y1;rw[hj]at x1;rw[PY]at g1;clear PY hcs2 hy m0 m1;cases hrw:y.rw
               ·have kF:aj (W.ns.all (λc=>jE W c.mx false)=R.all (λc=>jE W c.mx false)):=ah (by rw[HLK.o,LY.o,hrw];rfl);rw[hrw]at y1;go_wp2_with fail;go_roundw
                case rel=>exact⟨k+1,R,ahj,HR2.o,ahf,kF.o,MF.o⟩
                case measure=>simp[intOf];omega
               ·have HT2:aj (res=false):=ah (xB.o (by rw[LY.o,hrw];rfl));rw[hrw]at y1;go_wp2_with fail;go_ret;exact⟨ahA,agh⟩
            |nil=>
             have M6:aj (res=rT W.ts.length none W.ss):=ah (by rw[HR4.o,HE2.o];rfl);obtain rfl:k=W.ns.length:=agL;obtain⟨wB,hwB⟩: ∃X:World,X=wr:=⟨_,rfl⟩;subst hwB;go_upto_region 18 with fail;clear g1 g2 g5 hlen;go_loopw [8,9] (λv8 _ wq=> ∃(k:Nat) (p:Option tK) (R:List tK),v8= .int .i64 k∧R=W.ss.drop k∧k<=W.ss.length∧rT W.ts.length none W.ss=rT W.ts.length p R∧bH2 W.ss k p∧Below wB.heap.size wB wq) (λv _ _=>W.ss.length -(intOf v).toNat)
             case atStart=>exact⟨0,none,W.ss,rfl,rfl,bC _,rfl,rfl,ak _ _⟩
             case round=>
              obtain⟨k,p,R,rfl,hR,hk,heq,hpv,hbel⟩:=hrel;have QB:=ah hR;have HE2:=ah heq;have HPV:=ah hpv;have FD:=ah hbel;have Hf:=ah (MH.o.trans (hbel.mono (bg HSq.o)));have Xa:=ah ((hbel.block nb HSq.o).trans sD.o);have HWz:=ah (NV.o.below (hbel.mono (bg HSq.o)));have hlen:R.length=W.ss.length -k:=agB;have g4:=aG (j:=4) Xa.o rfl;have g5:=aG (j:=5) Xa.o rfl;simp only[List.getElem_toArray,List.getElem_cons_zero,List.getElem_cons_succ]at g4 g5;clear heq hbel hR hpv;cases R with
              |nil=>obtain rfl:k=W.ss.length:=agL;have HT2:aj (res=true):=ah (by rw[M6.o,HE2.o];cases p <;> rfl);go_wp2_with fail;go_ret;exact⟨ahA,by rw[dG.o];exact Hf.o⟩
              |cons x R=>
               have hx:=MX QB.o;have HR2:=ah hx.2;have uV:=ah hx.1;obtain⟨b,off,hao,hb1,hcs⟩:=HWz.o.ss.at k x hx.1;have x0:=hcs 0 _ rfl;have x1:=hcs 1 _ rfl;have x2:=hcs 2 _ rfl;simp only[aB]at hlen;have hkl:k<W.ss.length:=ahf;simp only[aU,Nat.add_zero]at x0 x1 x2;have zL:=ah hao;rw[hao]at g5;clear hao hcs hx;go_upto_region 21 with fail;obtain⟨sb,hsb⟩: ∃n,wr.heap.size=n:=⟨_,rfl⟩;generalize tT:World.alloc wr _=w5;have iU:aj (Below wr.heap.size wr w5):=ah agC;have HXs:aj (w5.heap[sb]? =some (.cells #[.int .i64 x.th,.int .i64 x.st,.int .i64 x.ln] 94 (0,0))):=ah (by rw[<- tT,<- hsb];exact heap_alloc_new _ _);rw[hsb];clear tT hsb x0 x1 x2 g4 g5;have HNZ:aj (nb<wr.heap.size):=ah (aV HSq.o FD.o.size);have tJ:=ah ((iU.o.block nb HNZ.o).trans Xa.o);have su:=ah (HWz.o.below (iU.o.mono (bg HNZ.o)));have Bz:=ah (Hf.o.trans (iU.o.mono (bg HNZ.o)));have HBn:=ah (FD.o.trans (iU.o.mono FD.o.size));have g4:=aG (j:=4) tJ.o rfl;have g5:=aG (j:=5) tJ.o rfl;have x0:=aG (j:=0) HXs.o rfl;have x1:=aG (j:=1) HXs.o rfl;simp only[List.getElem_toArray,List.getElem_cons_zero,List.getElem_cons_succ]at g4 g5 x0 x1;rw[zL.o]at g5;have xB:aj (rT W.ts.length p (x::R)=false->res=false):=ah (λh=>by rw[M6.o,HE2.o,h]);by_cases t0:x.th<0
               case pos=>have HT2:aj (res=false):=ah (xB.o (by cases p <;> simp[rT,t0]));go_wp2_with fail;go_ret;exact⟨ahA,aau⟩
               by_cases t1:(W.ts.length:Int)<=x.th
               case pos=>have HT2:aj (res=false):=ah (xB.o (by cases p <;> simp[rT,t1]));go_wp2_with fail;go_ret;exact⟨ahA,aau⟩
               cases p with
               |none=>
                obtain rfl:k=0:=HPV.o;by_cases s0:x.st=0
                case neg=>have s1:(x.st != 0)=true:=(by simpa using s0);have HT2:aj (res=false):=ah (xB.o (by simp[rT,s0]));exact Abs
                have s1:(x.st != 0)=false:=(by simp[s0]);have kF:aj (rT W.ts.length none W.ss=rT W.ts.length (some x) R):=ah (by rw[HE2.o,rT];simp[t0,t1,s0]);go_wp2_with fail;go_quiet (fail);go_wp2_with fail;go_quiet (fail);go_wp2_with fail;go_roundw
                case rel=>exact⟨1,some x,R,ahj,HR2.o,ahf,kF.o,⟨0,rfl,uV.o,ahf,ahf⟩,abS⟩
                case measure=>simp[intOf];omega
               |some q=>
                obtain⟨j,hkj,hq,hq0,hq1⟩:=HPV.o;obtain⟨b2,off2,e,hb2,hcs⟩:=su.o.ss.at j q hq;rw[zL.o]at e;injection e with e;injection e with e1 e2;subst e1 e2;have q0:=hcs 0 _ rfl;have q1:=hcs 1 _ rfl;simp only[aU,Nat.add_zero]at q0 q1;have Rf:IntKind.i64.wrap ((k:Int) -1)=(j:Int):=adb;have hws:IntKind.i64.wrap (q.st+1)=q.st+1:=IntWalk.i64_in _ ahf;have j0:(0:Int)<=(j:Int):=ahf;have j1:(j:Int)<(W.ss.length:Int):=ahf;have k0:((k:Int)==0)=false:=acA;have k1:(0:Int)<(k:Int):=ahf;have k2:0<k:=ahf;have HKJ:=ah hkj;clear hcs hq hkj;by_cases th:q.th=x.th
                ·have EH:(q.th != x.th)=false:=(by simp[th]);by_cases st:x.st=q.st+1
                 case neg=>have s1:(x.st != q.st+1)=true:=(by simpa using st);have HT2:aj (res=false):=ah (xB.o (by rw[rT];simp[t0,t1,th,st]));exact Abs
                 have s1:(x.st != q.st+1)=false:=(by simp[st]);have kF:aj (rT W.ts.length none W.ss=rT W.ts.length (some x) R):=ah (by rw[HE2.o,rT];simp[t0,t1,th,st]);exact Abe
                ·have EH:(q.th != x.th)=true:=(by simpa using th);by_cases s0:x.st=0
                 case neg=>have s1:(x.st != 0)=true:=(by simpa using s0);have HT2:aj (res=false):=ah (xB.o (by rw[rT];simp[t0,t1,th,s0]));exact Abs
                 have s1:(x.st != 0)=false:=(by simp[s0]);by_cases gt:x.th<q.th
                 case pos=>have HT2:aj (res=false):=ah (xB.o (by rw[rT];simp[t0,t1,th,s0,gt]));exact Abs
                 have kF:aj (rT W.ts.length none W.ss=rT W.ts.length (some x) R):=ah (by rw[HE2.o,rT];simp[t0,t1,th,s0,gt]);exact Abe
theorem zA (i n:Int) (w:World):Calls Tryz.prog 39 #[.int .i64 i,.int .i64 n] w λe w'=>e= .returned (.bool (eB i n))∧w=w':=by
 unfold eB;by_cases h0:0<=i <;> by_cases h1:i<n
 all_goals go_enter Tryz.func39,Tryz.ntmps39;go_wp2_with fail;go_ret;exact⟨ait,rfl⟩
theorem Hy (i:Int) (w:World):Calls Tryz.prog 66 #[.int .i64 i] w λe w'=>e= .returned (.bool (og i))∧w=w':=by
 unfold og;by_cases h0:1<=i <;> by_cases h1:i<=5
 all_goals go_enter Tryz.func66,Tryz.ntmps66;go_wp2_with fail;go_ret;exact⟨ait,rfl⟩
theorem aj5 (l:List dw) (at0:Int) (w:World) (ao:Option Addr) (cap:Nat) (hl:l.length<=3000000000000) (hw:dS jd 6 w w.heap.size l ao 0):
 Calls Tryz.prog 38 #[.slice ao l.length cap,.int .i64 at0] w λe w'=>e= .returned (.bool (vk l (l.length+1) at0))∧w=w':=by
 have HW:=ah hw;obtain⟨res,hres⟩: ∃r,vk l (l.length+1) at0=r:=⟨_,rfl⟩;have HR:=ah hres;rw[hres];clear hw hres;go_enter Tryz.func38,Tryz.ntmps38;go_wp2_with fail;go_loopw [1,5] (λv1 v5 wr=> ∃(k:Nat) (a:Int),v5= .int .i64 k∧v1= .int .i64 a∧k<=l.length+1∧res=vk l (l.length+1 -k) a∧wr=w) (λ_ v _=>l.length+1 -(intOf v).toNat)
 case atStart=>exact⟨0,at0,rfl,rfl,bC _,HR.o.symm,rfl⟩
 case round=>
  obtain⟨k,a,rfl,rfl,hk,heq,rfl⟩:=hrel;have HE:=ah heq;clear heq;by_cases hkl:k<=l.length
  ·have hkl':(k:Int)<=(l.length:Int):=by omega
   have rC:aj (res=vk l ((l.length -k)+1) a):=ah (by rw[HE.o,show l.length+1 -k=(l.length -k)+1 by omega]);cases hwi:eB a l.length
   ·have HT:aj (res=false):=ah (by rw[rC.o,vk,hwi];rfl);have hc:a<0∨(¬a<0∧(l.length:Int)<=a):=(by unfold eB at hwi;simp at hwi;omega);clear hwi;rcases hc with h|⟨h1,h2⟩
    ·go_wp2_with fail;go_ret;exact⟨ahk,rfl⟩
    ·go_wp2_with fail;go_ret;exact⟨ahk,rfl⟩
   ·obtain⟨j,x,rfl,hj,hx⟩:=oF hwi;obtain⟨b,off,hao,hb,hcs⟩:=HW.o.at j x hx;subst hao;have x0:=hcs 0 _ rfl;have x1:=hcs 1 _ rfl;simp only[aU,Nat.add_zero]at x0 x1;have j0: ¬(j:Int)<0:=ahf;have j0':(0:Int)<=(j:Int):=ahf;have j1: ¬(l.length:Int)<=(j:Int):=ahf;have j1':(j:Int)<(l.length:Int):=ahf;have HE2:aj (res=if og x.op then vk l (l.length -k) (if x.op==5 then x.a else(j:Int)+1)else true):=ah (by rw[rC.o,vk,if_pos hwi];simp[hx]);clear hcs hwi hx;cases hs:og x.op
    ·have HT:aj (res=true):=ah (by rw[HE2.o,hs];rfl);go_wp2_with fail;refine(Hy x.op wr).mono ?_;rintro e w2 ⟨rfl,rfl⟩;rw[hs];go_wp2_with fail;go_ret;exact⟨ahk,rfl⟩
    ·cases h5:(x.op==5)
     ·have kF:aj (res=vk l (l.length -k) ((j:Int)+1)):=ah (by rw[HE2.o,hs,h5];rfl);have Rf:IntKind.i64.wrap ((j:Int)+1)=(j:Int)+1:=IntWalk.i64_in _ ahf;go_wp2_with fail;refine(Hy x.op wr).mono ?_;rintro e w2 ⟨rfl,rfl⟩;rw[hs];go_wp2_with fail;go_roundw
      case rel=>exact⟨k+1,(j:Int)+1,ahj,by first|rfl|simp[Rf],ahf,abX,trivial⟩
      case measure=>simp[intOf];omega
     ·have kF:aj (res=vk l (l.length -k) x.a):=ah (by rw[HE2.o,hs,h5];rfl);go_wp2_with fail;refine(Hy x.op wr).mono ?_;rintro e w2 ⟨rfl,rfl⟩;rw[hs];go_wp2_with fail;go_roundw
      case rel=>exact⟨k+1,x.a,ahj,rfl,ahf,abX,trivial⟩
      case measure=>simp[intOf];omega
  ·have hke:k=l.length+1:=by omega
   have hkl': ¬(k:Int)<=(l.length:Int):=ahf
   have HT:aj (res=false):=ah (by rw[HE.o,hke,Nat.sub_self];rfl);go_wp2_with fail;go_ret;exact⟨ahk,rfl⟩
theorem jw {i n:Int} {b:Bool} (h:eB i n=b) (w:World):Calls Tryz.prog 39 #[.int .i64 i,.int .i64 n] w λe w'=>e= .returned (.bool b)∧w=w':=by
 subst h;exact zA i n w
theorem OZ (W:Wo) (s:jr) (i:Int) (n:Int) (w:World) (hw:gq w w.heap.size W s):
 Calls Tryz.prog 65 #[mQ W s,.int .i64 i,.int .i64 n] w λe w'=>e= .returned (.bool (J6 W i n))∧Below w.heap.size w w':=by
 have hl:=hw.lc;unfold maxLen at hl;have HW:=ah hw;clear hw;unfold mQ;cases hwi:eB i W.cs.length
 ·have hres:J6 W i n=false:=by unfold J6;rw[hwi];rfl
  rw[hres];go_enter Tryz.func65,Tryz.ntmps65;go_upto_region 1 with fail;generalize hW:World.alloc w _=W1;obtain⟨nb,hnb⟩: ∃n,w.heap.size=n:=⟨_,rfl⟩;have HB:aj (Below w.heap.size w W1):=ah afd;have hc:W1.cell? ⟨nb,0,none⟩=some (.slice s.aC W.cs.length s.cC):=aaW
  have HF:=ah (HW.o.cs.same HB.o);rw[hnb];clear hW hnb;go_wp2_with fail;refine(jw hwi W1).mono ?_;rintro e w2 ⟨rfl,rfl⟩;go_wp2_with fail;go_ret;exact⟨rfl,HB.o⟩
 ·obtain⟨k,x,rfl,hk,hx⟩:=oF hwi;have hres:J6 W k n=(x.ix==0&&(x.sz != 0&&x.sz==n)):=by unfold J6;rw[hwi];simp[hx]
  rw[hres];go_enter Tryz.func65,Tryz.ntmps65;go_upto_region 1 with fail;generalize hW:World.alloc w _=W1;obtain⟨nb,hnb⟩: ∃n,w.heap.size=n:=⟨_,rfl⟩;have HB:aj (Below w.heap.size w W1):=ah afd;have hc:W1.cell? ⟨nb,0,none⟩=some (.slice s.aC W.cs.length s.cC):=aaW
  have HF:=ah (HW.o.cs.same HB.o);rw[hnb];clear hW hnb;obtain⟨b,off,hao,hb,hcs⟩:=HF.o.at k x hx;rw[hao]at hc;have k0:(0:Int)<=(k:Int):=ahf
  have k1:(k:Int)<(W.cs.length:Int):=ahf
  have z1:=hcs 1 _ rfl;have z2:=hcs 2 _ rfl;simp only[aU,Nat.add_zero]at z1 z2;clear hcs HF;cases h1:(x.ix==0)
  ·go_wp2_with fail;refine(jw hwi W1).mono ?_;rintro e w2 ⟨rfl,rfl⟩;go_wp2_with fail;go_ret;exact⟨by rw[h1];simp,HB.o⟩
  ·cases h2:(x.sz==0)
   ·have h2':(x.sz != 0)=true:=aia;go_wp2_with fail;refine(jw hwi W1).mono ?_;rintro e w2 ⟨rfl,rfl⟩;go_wp2_with fail;go_ret;exact⟨agJ,HB.o⟩
   ·have h2':(x.sz != 0)=false:=aia;go_wp2_with fail;refine(jw hwi W1).mono ?_;rintro e w2 ⟨rfl,rfl⟩;go_wp2_with fail;go_ret;exact⟨agJ,HB.o⟩
theorem Ww (W:Wo) (s:jr) (x:dw) (w:World) (hw:gq w w.heap.size W s):
 Calls Tryz.prog 37 #[mQ W s,GK x] w λe w'=>e= .returned (.bool (Mw W x))∧Below w.heap.size w w':=by
 obtain⟨op,a,b,c,m,st⟩:=x;have HW:=ah hw;clear hw;unfold mQ GK;go_enter Tryz.func37,Tryz.ntmps37;go_upto_region 1 with fail;generalize hW:World.alloc (World.alloc w _) _=W1;obtain⟨nb,hnb⟩: ∃n,w.heap.size=n:=⟨_,rfl⟩;have HB:aj (Below w.heap.size w W1):=ah aa3;have qE:aj (W1.heap[nb]? =some (.cells #[.slice s.aC W.cs.length s.cC,.slice s.aL W.ls.length s.cL,.slice s.aN W.ns.length s.cN,.slice s.aF W.fs.length s.cF,.slice s.aT W.ts.length s.cT,.slice s.aS W.ss.length s.cS] 29 (0,0))):=ah aap;have jY:aj (W1.heap[nb+1]? =some (.cells #[.int .i64 op,.int .i64 a,.int .i64 b,.int .i64 c,.int .i64 m,.int .i64 st] 40 (0,0))):=ah ξ;have AO:=ah (HW.o.same HB.o);rw[hnb];clear hW hnb HW;have c0:=aG (j:=0) qE.o rfl;have c1:=aG (j:=1) qE.o rfl;have c2:=aG (j:=2) qE.o rfl;have c3:=aG (j:=3) qE.o rfl;have c4:=aG (j:=4) qE.o rfl;have c5:=aG (j:=5) qE.o rfl;have x0:=aG (j:=0) jY.o rfl;have x1:=aG (j:=1) jY.o rfl;have x2:=aG (j:=2) jY.o rfl;have x3:=aG (j:=3) jY.o rfl;have x4:=aG (j:=4) jY.o rfl;simp only[List.getElem_toArray,List.getElem_cons_zero,List.getElem_cons_succ]at c0 c1 c2 c3 c4 c5 x0 x1 x2 x3 x4;clear qE jY;have hcs:op=6∨op=8∨op=7∨op=9∨op=11∨op=12∨op=13∨op=14∨op=15∨op=16∨op=21∨op=22∨op=23∨op=24∨op=25∨op=26∨op=27∨op=3∨op=4∨(op≠6∧op≠8∧op≠7∧op≠9∧op≠11∧op≠12∧op≠13∧op≠14∧op≠15∧op≠16∧op≠21∧op≠22∧op≠23∧op≠24∧op≠25∧op≠26∧op≠27∧op≠3∧op≠4):=ahf
 rcases hcs with rfl|rfl|rfl|rfl|rfl|rfl|rfl|rfl|rfl|rfl|rfl|rfl|rfl|rfl|rfl|rfl|rfl|rfl|rfl|⟨n6,n8,n7,n9,n11,n12,n13,n14,n15,n16,n21,n22,n23,n24,n25,n26,n27,n3,n4⟩
 ·cases hwi:eB b W.cs.length
  ·go_wp2_with fail;refine(jw hwi W1).mono ?_;rintro e w2 ⟨rfl,rfl⟩;go_wp2_with fail;go_ret;exact⟨by show Ending.returned (Value.bool false)= .returned (.bool (BX W b));unfold BX;rw[hwi];rfl,HB.o⟩
  ·exact Aax
 ·cases hwi:eB a W.cs.length
  ·go_wp2_with fail;refine(jw hwi W1).mono ?_;rintro e w2 ⟨rfl,rfl⟩;go_wp2_with fail;go_ret;exact⟨by show Ending.returned (Value.bool false)= .returned (.bool (BX W a));unfold BX;rw[hwi];rfl,HB.o⟩
  ·exact Aax
 ·go_wp2_with fail;refine(OZ W s _ _ W1 AO.o).mono ?_;rintro e w2 ⟨rfl,hb⟩;go_wp2_with fail;go_ret;exact⟨rfl,HB.o.trans (hb.mono HB.o.size)⟩
 ·go_wp2_with fail;refine(OZ W s _ _ W1 AO.o).mono ?_;rintro e w2 ⟨rfl,hb⟩;go_wp2_with fail;go_ret;exact⟨rfl,HB.o.trans (hb.mono HB.o.size)⟩
 ·exact Aav
 ·exact Aav
 ·exact Aaw
 ·exact Aaw
 ·exact Aaw
 ·exact Aaw
 ·exact AbC
 ·exact AbC
 ·exact AbC
 ·exact AbC
 ·exact AbC
 ·exact AbC
 ·exact AbC
 ·cases h4:(m==4)
  ·go_wp2_with fail;go_ret;exact⟨aaS,HB.o⟩
  ·go_wp2_with fail;go_ret;exact⟨aaS,HB.o⟩
 ·by_cases h6:6<=m
  ·go_wp2_with fail;go_ret;exact⟨by show _=Ending.returned (Value.bool (decide (6<=m)&&decide (m<=18)));simp[h6],HB.o⟩
  ·go_wp2_with fail;go_ret;exact⟨by show _=Ending.returned (Value.bool (decide (6<=m)&&decide (m<=18)));rw[decide_eq_false (show ¬6<=m by omega)];rfl,HB.o⟩
 ·have HT:aj (Mw W ⟨op,a,b,c,m,st⟩=true):=ah (by
   unfold Mw tX;simp only;by_cases h5:op=5
   ·simp[h5]
   ·by_cases h10:op=10
    ·simp[h10]
    ·simp[h5,h10,n6,n8,n7,n9,n11,n12,n13,n14,n15,n16,n21,n22,n23,n24,n25,n26,n27,n3,n4])
  have k6:(op==6)=false:=ahY
  have k8:(op==8)=false:=ahW
  have k7:(op==7)=false:=ahX
  have k9:(op==9)=false:=ahV
  have k11:(op==11)=false:=agc
  have k12:(op==12)=false:=ahc
  have k13:(op==13)=false:=ahb
  have k14:(op==14)=false:=aha
  have k15:(op==15)=false:=ag9
  have k16:(op==16)=false:=ag8
  have k21:(op==21)=false:=by simpa using n21
  have k22:(op==22)=false:=by simpa using n22
  have k23:(op==23)=false:=by simpa using n23
  have k24:(op==24)=false:=by simpa using n24
  have k25:(op==25)=false:=by simpa using n25
  have k26:(op==26)=false:=by simpa using n26
  have k27:(op==27)=false:=by simpa using n27
  have k3:(op==3)=false:=aii
  have k4:(op==4)=false:=aif
  clear n6 n8 n7 n9 n11 n12 n13 n14 n15 n16 n21 n22 n23 n24 n25 n26 n27 n3 n4;go_wp2_with fail;go_ret;exact⟨ahk,HB.o⟩
theorem Nl (W:Wo) (s:jr) (th:Int) (t:xJ) (gu:Option Addr) (eG:Nat) (w:World) (hw:gq w w.heap.size W s) (hf:dS jd 6 w w.heap.size t.is gu 0) (hl:t.is.length<=3000000000000):
 Calls Tryz.prog 13 #[mQ W s,.int .i64 th,.agg #[.int .i64 t.regs,.slice gu t.is.length eG]] w λe w'=>e= .returned (.bool (GY W th t))∧Below w.heap.size w w':=by
 rw[<- bk4];obtain⟨regs,l⟩:=t;have HW:=ah hw;have HF0:aj (dS jd 6 w w.heap.size l gu 0):=ah hf;have hls:=hw.lS;unfold maxLen at hls;have hl:l.length<=3000000000000:=hl;obtain⟨res,hres⟩: ∃r,rTh W th ⟨regs,l⟩=r:=⟨_,rfl⟩;have HR:=ah hres;rw[hres];clear hw hf hres;dsimp only;unfold mQ;go_enter Tryz.func13,Tryz.ntmps13;go_upto_region 1 with fail;generalize hW:World.alloc (World.alloc w _) _=W1;obtain⟨nb,hnb⟩: ∃n,w.heap.size=n:=⟨_,rfl⟩;have HB:aj (Below w.heap.size w W1):=ah aa3;have qE:aj (W1.heap[nb]? =some (.cells #[.slice s.aC W.cs.length s.cC,.slice s.aL W.ls.length s.cL,.slice s.aN W.ns.length s.cN,.slice s.aF W.fs.length s.cF,.slice s.aT W.ts.length s.cT,.slice s.aS W.ss.length s.cS] 29 (0,0))):=ah aap;have jY:aj (W1.heap[nb+1]? =some (.cells #[.int .i64 regs,.slice gu l.length eG] 37 (0,0))):=ah υ;have dG:aj (w.heap.size=nb):=ah hnb;have jX:aj (W1.heap.size=nb+2):=ah aft;have AO:aj (gq W1 nb W s):=ah ab3;have SC:aj (dS jd 6 W1 nb l gu 0):=ah ab0;have HB0:aj (Below nb w W1):=ah adV;rw[hnb];clear hW hnb HW HF0 HB;have t0:=aG (j:=0) jY.o rfl;have t1:=aG (j:=1) jY.o rfl;simp only[List.getElem_toArray,List.getElem_cons_zero,List.getElem_cons_succ]at t0 t1;by_cases hA:regs<0∨32<regs∨l.length=0
 ·have HT:aj (res=false):=ah (by rw[<- HR.o];unfold rTh;rw[if_pos];rcases hA with h|h|h <;> simp[h]);by_cases h1:regs<0
  ·exact AbG
  ·by_cases h2:32<regs
   ·exact AbG
   ·have h3:l.length=0:=ahf;exact AbG
 ·have hA1: ¬regs<0:=by omega
  have hA2: ¬32<regs:=ahf
  have hA3:l.length≠0:=ahf
  have hA4:((l.length:Int)==0)=false:=acA
  have HR2:aj (res=IE W th l.length regs l 0 l):=ah (by rw[<- HR.o];unfold rTh;rw[if_neg];simp[hA1,hA2,hA3]);clear hA HR;go_wp2_with fail;go_loopw [8,9,10,11] (λv8 _ _ _ wr=> ∃(k:Nat) (R:List dw),v8= .int .i64 k∧k+R.length=l.length∧res=IE W th l.length regs l k R∧dS jd 6 wr nb R gu k∧Below (nb+2) W1 wr) (λv _ _ _ _=>l.length -(intOf v).toNat)
  case atStart=>exact⟨0,l,rfl,ahh,HR2.o,SC.o,ak _ _⟩
  case round=>
   obtain⟨k,R,rfl,hlen,heq,hrow,hbel⟩:=hrel;have HE:=ah heq;have iZ:=ah hbel;have DW:=ah ((iZ.o.block nb ahf).trans qE.o);have Ht:=ah ((iZ.o.block (nb+1) ahf).trans jY.o);have pY:aj (Below nb w wr):=ah (HB0.o.trans (iZ.o.mono ahf));have DV:aj (gq wr nb W s):=ah (AO.o.below (iZ.o.mono ahf));have iw:aj (nb+2<=wr.heap.size):=ah ac9;clear heq hbel t0 t1;have t0:=aG (j:=0) Ht.o rfl;have t1:=aG (j:=1) Ht.o rfl;simp only[List.getElem_toArray,List.getElem_cons_zero,List.getElem_cons_succ]at t0 t1;cases R with
   |nil=>have HT:aj (res=true):=ah HE.o;obtain rfl:k=l.length:=afb;go_wp2_with fail;go_ret;exact⟨ahk,agf⟩
   |cons x R=>
    obtain⟨⟨b1,off,rfl,hb1,hcs⟩,hrest⟩:=hrow;simp only[aB]at hlen;have hkl:k<l.length:=ahf;have x0:=hcs 0 _ rfl;have x1:=hcs 1 _ rfl;have x2:=hcs 2 _ rfl;have x3:=hcs 3 _ rfl;have x4:=hcs 4 _ rfl;have x5:=hcs 5 _ rfl;simp only[Nat.add_zero]at x0;have kg:=ah hrest;have rC:aj (res=(CW W th l.length regs l k x&&IE W th l.length regs l ((k:Int)+1) R)):=ah HE.o;clear hcs hrest HE;go_upto_region 8 with fail;generalize hW2:World.alloc wr _=w2;obtain⟨ib,hib⟩: ∃n,wr.heap.size=n:=⟨_,rfl⟩;have HB2:aj (Below wr.heap.size wr w2):=ah afl;have zk:aj (w2.heap[ib]? =some (.cells (jd x).toArray 40 (0,0))):=ah aco;rw[hib];clear hW2 hib x0 x1 x2 x3 x4 x5 t0 t1;have uh:=ah ((HB2.o.block nb (aI DW.o)).trans DW.o);have DX:=ah ((HB2.o.block (nb+1) (aI Ht.o)).trans Ht.o);have yJ:aj (Below nb w w2):=ah (pY.o.trans (HB2.o.mono afi));have MF:aj (Below (nb+2) W1 w2):=ah (iZ.o.trans (HB2.o.mono iw.o));have HS2:aj (nb+2<=w2.heap.size):=ah acP;have X8:aj (gq w2 nb W s):=ah (DV.o.below (HB2.o.mono afi));have Pw:aj (dS jd 6 w2 nb R (some ⟨b1,off,none⟩) (k+1)):=ah (kg.o.below (HB2.o.mono afi));have t0:=aG (j:=0) DX.o rfl;have t1:=aG (j:=1) DX.o rfl;have g0:=aG (j:=0) uh.o rfl;have g1:=aG (j:=1) uh.o rfl;have g2:=aG (j:=2) uh.o rfl;have g3:=aG (j:=3) uh.o rfl;have g4:=aG (j:=4) uh.o rfl;have g5:=aG (j:=5) uh.o rfl;have x0:w2.cell? ⟨ib,0,none⟩=some (.int .i64 x.op):=aG zk.o rfl;have x1:w2.cell? ⟨ib,1,none⟩=some (.int .i64 x.a):=aG zk.o rfl;have x2:w2.cell? ⟨ib,2,none⟩=some (.int .i64 x.b):=aG zk.o rfl;have x3:w2.cell? ⟨ib,3,none⟩=some (.int .i64 x.c):=aG zk.o rfl;have x4:w2.cell? ⟨ib,4,none⟩=some (.int .i64 x.n):=aG zk.o rfl;have x5:w2.cell? ⟨ib,5,none⟩=some (.int .i64 x.st):=aG zk.o rfl;simp only[List.getElem_toArray,List.getElem_cons_zero,List.getElem_cons_succ]at t0 t1 g0 g1 g2 g3 g4 g5;have hwn:IntKind.i64.wrap ((l.length:Int) -1)=(l.length:Int) -1:=IntWalk.i64_in _ ahf;have sj:aj (CW W th l.length regs l k x=false->res=false):=ah (λh=>by rw[rC.o,h];rfl);by_cases h1:x.op<1
    ·have HT:aj (res=false):=ah (sj.o (by unfold CW;simp[show ¬(1<=x.op) by omega]));exact AbH
    by_cases h2:28<x.op
    ·have HT:aj (res=false):=ah (sj.o (by unfold CW;simp[show ¬(x.op<=28) by omega]));exact AbH
    obtain⟨e28,Cc⟩: ∃q,(x.op==28)=q:=⟨_,rfl⟩;obtain⟨ek,hek⟩: ∃q,((k:Int)==(l.length:Int) -1)=q:=⟨_,rfl⟩;by_cases hq:e28=ek
    case neg=>
     have NP:aj (CW W th l.length regs l k x=false):=ah (by unfold CW;rw[Cc,hek];cases e28 <;> cases ek <;> simp_all);exact Abd
    subst hq;have fF:aj (CW W th l.length regs l k x=((Mw W x&&vk l (l.length+1) k)&&(zB W th x&&(((!(x.op==5)||eB x.a l.length)&&(!(x.op==10)||eB x.b l.length))&&(je x).all (λr=>eB r regs))))):=ah (by unfold CW;rw[Cc,hek];simp[show 1<=x.op by omega,show x.op<=28 by omega]);have hqq:(e28==e28)=true:=ahh;have aw6:(x.op != 28)=(!e28):=(by rw[bne,Cc]);have Dw:=ah Cc;have bG7:aj (gq w2 w2.heap.size W s):=ah (X8.o.mono afN);have bD9:aj (dS jd 6 w2 nb l (some ⟨b1,off,none⟩) 0):=ah (SC.o.below (MF.o.mono ahf));have HOX:aj (Calls Tryz.prog 37 #[mQ W s,GK x] w2 λe w'=>e= .returned (.bool (Mw W x))∧Below w2.heap.size w2 w'):=ah (Ww W s x w2 bG7.o);cases e28
    all_goals
     simp only[Bool.not_false,Bool.not_true]at aw6;go_wp2_with fail;refine HOX.o.mono ?_;rintro e w3 ⟨rfl,hb3⟩;have HB3:=ah hb3;clear hb3 g0 g1 g2 g3 g4 g5 x0 x1 x2 x3 x4 x5 t0 t1 hek hwn HOX;have vI:aj (Below nb w w3):=ah (yJ.o.trans (HB3.o.mono afN));have kH:aj (nb+2<=w3.heap.size):=ah (by have h1:=HS2.o;have h2:=HB3.o.size;omega);have TA:=ah ((HB3.o.block nb (aI uh.o)).trans uh.o);have DY:=ah ((HB3.o.block (nb+1) (aI DX.o)).trans DX.o);have DZ:=ah ((HB3.o.block ib (aI zk.o)).trans zk.o);have NV:aj (gq w3 nb W s):=ah (X8.o.below (HB3.o.mono afN));have HFq:aj (dS jd 6 w3 w3.heap.size l (some ⟨b1,off,none⟩) 0):=ah ((bD9.o.below (HB3.o.mono afN)).mono afv);have Ho:aj (dS jd 6 w3 nb R (some ⟨b1,off,none⟩) (k+1)):=ah (Pw.o.below (HB3.o.mono afN));have FD:aj (Below (nb+2) W1 w3):=ah (MF.o.trans (HB3.o.mono HS2.o));have t1:=aG (j:=1) DY.o rfl;have g5:=aG (j:=5) TA.o rfl;have x0:w3.cell? ⟨ib,0,none⟩=some (.int .i64 x.op):=aG DZ.o rfl;have x1:w3.cell? ⟨ib,1,none⟩=some (.int .i64 x.a):=aG DZ.o rfl;have x2:w3.cell? ⟨ib,2,none⟩=some (.int .i64 x.b):=aG DZ.o rfl;have x3:w3.cell? ⟨ib,3,none⟩=some (.int .i64 x.c):=aG DZ.o rfl;have x4:w3.cell? ⟨ib,4,none⟩=some (.int .i64 x.n):=aG DZ.o rfl;have x5:w3.cell? ⟨ib,5,none⟩=some (.int .i64 x.st):=aG DZ.o rfl;simp only[List.getElem_toArray,List.getElem_cons_zero,List.getElem_cons_succ]at t1 g5;have WT:aj (Calls Tryz.prog 38 #[.slice (some ⟨b1,off,none⟩) l.length eG,.int .i64 k] w3 λe w'=>e= .returned (.bool (vk l (l.length+1) k))∧w3=w'):=ah (aj5 l k w3 (some ⟨b1,off,none⟩) eG hl HFq.o);cases ho:Mw W x
     case false=>have HT:aj (res=false):=ah (sj.o (by rw[fF.o,ho];rfl));exact AbM
     go_wp2_with fail;refine WT.o.mono ?_;rintro e w4 ⟨rfl,rfl⟩;have EO:=ah ho;clear ho WT;cases hla:vk l (l.length+1) k
     case false=>have HT:aj (res=false):=ah (sj.o (by rw[fF.o,hla];simp));exact AbM
     have yL:aj (CW W th l.length regs l k x=(zB W th x&&(((!(x.op==5)||eB x.a l.length)&&(!(x.op==10)||eB x.b l.length))&&(je x).all (λr=>eB r regs)))):=ah (by rw[fF.o,EO.o,hla];rfl);clear hla fF EO
    ·cases hwi:eB x.st W.ss.length
     ·have HT:aj (res=false):=ah (sj.o (by rw[yL.o];unfold zB;rw[Dw.o,hwi];simp));exact Abt
     ·obtain⟨js,sx,hjs,hjl,hsx⟩:=oF hwi;obtain⟨b5,IB,Ux,hb5,nP⟩:=NV.o.ss.at js sx hsx;have z0:=nP 0 _ rfl;simp only[aU,Nat.add_zero]at z0;rw[Ux]at g5;have j0:(0:Int)<=(js:Int):=ahf;have j1:(js:Int)<(W.ss.length:Int):=ahf;have eX:aj (zB W th x=(sx.th==th)):=ah adS;rw[hjs]at x5 hwi;clear nP hjs hsx Ux;have hnt:(sx.th != th)= !(sx.th==th):=rfl;cases hth:(sx.th==th)
      all_goals rw[hth]at hnt;simp only[Bool.not_false,Bool.not_true]at hnt
      ·have HT:aj (res=false):=ah (sj.o (by rw[yL.o,eX.o,hth];rfl));exact Abt
      ·have kX:aj (zB W th x=true):=ah (by rw[eX.o,hth]);go_wp2_with fail;refine(jw hwi w3).mono ?_;rintro e w4 ⟨rfl,rfl⟩;clear hwi;go_upto_region 12 with fail;clear hth hnt z0 j0 j1 hb5 hjl x5;have x5:w3.cell? ⟨ib,5,none⟩=some (.int .i64 x.st):=aG DZ.o rfl;exact Aad
    ·have hns:(x.st != -1)= !(x.st== -1):=rfl;cases hst:(x.st== -1)
     all_goals rw[hst]at hns;simp only[Bool.not_false,Bool.not_true]at hns
     ·have HT:aj (res=false):=ah (sj.o (by rw[yL.o];unfold zB;rw[Dw.o,hst];rfl));exact AbM
     ·have kX:aj (zB W th x=true):=ah aeV;go_upto_region 12 with fail;clear hst hns;exact Aad
theorem ZG (W:Wo) (s:jr) (l:List xJ) (BK:Option Addr) (cap:Nat) (w:World) (hw:gq w w.heap.size W s) (hk:Ma W) (hc:qU w w.heap.size l BK 0) (hl:l.length<=maxLen):
 Calls Tryz.prog 6 #[.agg #[.slice s.aC W.cs.length s.cC,.slice s.aL W.ls.length s.cL,.slice s.aN W.ns.length s.cN,.slice s.aF W.fs.length s.cF,.slice s.aT W.ts.length s.cT,.slice s.aS W.ss.length s.cS,.slice BK l.length cap]] w λe w'=>e= .returned (.bool (CY W l))∧Below w.heap.size w w':=by
 have HW:=ah hw;have HK:=ah hk;have HC:=ah hc;have hlt:=hw.lt;unfold maxLen at hlt hl;obtain⟨res,hres⟩: ∃r,CY W l=r:=⟨_,rfl⟩;have HR:=ah hres;rw[hres];clear hw hk hc hres;go_enter Tryz.func6,Tryz.ntmps6;go_upto_region 1 with fail;generalize hW:World.alloc w _=W1;obtain⟨nb,hnb⟩: ∃n,w.heap.size=n:=⟨_,rfl⟩;have HB:aj (Below nb w W1):=ah acM;have HX:aj (W1.heap[nb]? =some (.cells #[.slice s.aC W.cs.length s.cC,.slice s.aL W.ls.length s.cL,.slice s.aN W.ns.length s.cN,.slice s.aF W.fs.length s.cF,.slice s.aT W.ts.length s.cT,.slice s.aS W.ss.length s.cS,.slice BK l.length cap] 32 (0,0))):=ah aaX;have jX:aj (W1.heap.size=nb+1):=ah aft;have HW1:aj (gq W1 nb W s):=ah aa1;have FZ:aj (qU W1 nb l BK 0):=ah ace;have dG:=ah hnb;rw[hnb];clear hW hnb HW HC;have g0:=aG (j:=0) HX.o rfl;have g1:=aG (j:=1) HX.o rfl;have g2:=aG (j:=2) HX.o rfl;have g3:=aG (j:=3) HX.o rfl;have g4:=aG (j:=4) HX.o rfl;have g5:=aG (j:=5) HX.o rfl;have g6:=aG (j:=6) HX.o rfl;simp only[List.getElem_toArray,List.getElem_cons_zero,List.getElem_cons_succ]at g0 g1 g2 g3 g4 g5 g6;go_wp2_with fail;refine(P8 W s W1 (HW1.o.mono afj) HK.o).mono ?_;rintro e w2 ⟨rfl,hb2⟩;have HB2:=ah hb2;have AQ:aj (Below nb w w2):=ah (HB.o.trans (hb2.mono afj));have jY:=ah ((hb2.block nb afj).trans HX.o);clear hb2 g0 g1 g2 g3 g4 g5 g6;have g4:=aG (j:=4) jY.o rfl;have g6:=aG (j:=6) jY.o rfl;simp only[List.getElem_toArray,List.getElem_cons_zero,List.getElem_cons_succ]at g4 g6;cases hv:vW W
 ·have HT:aj (res=false):=ah aef;exact AbI
 ·cases hne:((l.length:Int)==(W.ts.length:Int))
  ·have HT:aj (res=false):=ah aa8;exact AbI
  ·have HR2:aj (res=FV W 0 l):=ah aa8;have IW:aj (qU w2 nb l BK 0):=ah (rR (HB2.o.mono afj) FZ.o);have Hq:aj (nb+1<=w2.heap.size):=ah ac3;have HW2:aj (gq w2 nb W s):=ah (HW1.o.below (HB2.o.mono afj));clear HR HK;go_wp2_with fail;rw[show((l.length:Int) != (W.ts.length:Int))=false by simp[bne,hne]];clear hne;go_loopw [3] (λv wr=> ∃(k:Nat) (R:List xJ),v= .int .i64 k∧k+R.length=l.length∧res=FV W k R∧qU wr nb R BK k∧Below (nb+1) w2 wr) (λv _=>l.length -(intOf v).toNat)
   case atStart=>exact⟨0,l,rfl,ahh,HR2.o,IW.o,ak _ _⟩
   case round=>
    obtain⟨k,R,rfl,hlen,heq,hrow,hbel⟩:=hrel;have HE:=ah heq;have iZ:=ah hbel;have lU:=ah ((iZ.o.block nb (Nat.lt_succ_self _)).trans jY.o);have pY:aj (Below nb w wr):=ah (AQ.o.trans (iZ.o.mono (jv _)));have iw:aj (nb+1<=wr.heap.size):=ah adN;have DV:aj (gq wr nb W s):=ah (HW2.o.below (iZ.o.mono (jv _)));clear heq hbel g4 g6;have g6:=aG (j:=6) lU.o rfl;simp only[List.getElem_toArray,List.getElem_cons_zero,List.getElem_cons_succ]at g6;cases R with
    |nil=>obtain rfl:k=l.length:=afb;have HT:aj (res=true):=ah HE.o;go_wp2_with fail;go_ret;exact⟨ahk,agf⟩
    |cons t R=>
     obtain⟨⟨b,off,gu,eG,rfl,hb1,x0,x1,htl,hfl⟩,hrest⟩:=hrow;simp only[aB]at hlen;have hkl:k<l.length:=ahf;have kg:=ah hrest;have rC:aj (res=(GY W k t&&FV W ((k:Int)+1) R)):=ah HE.o;have k0:(0:Int)<=(k:Int):=ahf;have k1:(k:Int)<(l.length:Int):=ahf;obtain⟨T,F,yU,hst,hF,hnext⟩:=calm wr;have HF:=ah hF;have dN:=ah hnext;have xG:aj (∀x,Calls Tryz.prog 13 #[mQ W s,.int .i64 k,.agg #[.int .i64 t.regs,.slice gu t.is.length eG]] (F x) λe w'=>e= .returned (.bool (GY W k t))∧Below (F x).heap.size (F x) w'):=ah (λx=>
      Nl W s k t gu eG (F x) ((DV.o.mono (Nat.le_of_succ_le iw.o)).same (HF.o x)) ((hfl.below ((HF.o x).mono (Nat.le_of_succ_le iw.o))).mono (by have h1:=iw.o;have h2:=(HF.o x).size;omega)) htl)
     have G0:=λx=>((HF.o x).cell (p:=⟨nb,0,none⟩) iw.o).trans (aG (j:=0) lU.o rfl);have G1:=λx=>((HF.o x).cell (p:=⟨nb,1,none⟩) iw.o).trans (aG (j:=1) lU.o rfl);have G2:=λx=>((HF.o x).cell (p:=⟨nb,2,none⟩) iw.o).trans (aG (j:=2) lU.o rfl);have G3:=λx=>((HF.o x).cell (p:=⟨nb,3,none⟩) iw.o).trans (aG (j:=3) lU.o rfl);have G4:=λx=>((HF.o x).cell (p:=⟨nb,4,none⟩) iw.o).trans (aG (j:=4) lU.o rfl);have G5:=λx=>((HF.o x).cell (p:=⟨nb,5,none⟩) iw.o).trans (aG (j:=5) lU.o rfl);have G6:=λx=>((HF.o x).cell (p:=⟨nb,6,none⟩) iw.o).trans g6;have X0:=λx=>((HF.o x).cell (p:=⟨b,_,none⟩) (Nat.lt_trans hb1 iw.o)).trans x0;have X1:=λx=>((HF.o x).cell (p:=⟨b,_,none⟩) (Nat.lt_trans hb1 iw.o)).trans x1;simp only[List.getElem_toArray,List.getElem_cons_zero,List.getElem_cons_succ]at G0 G1 G2 G3 G4 G5 G6;clear hrest hfl htl HE x0 x1 hF hnext;cases OB:GY W k t
     ·have HT:aj (res=false):=ah agv;go_wp2_with fail;clear g6;refine gX F ahe ahe hst ?_
      repeat (any_goals (first|go_big_quiet_step ((go_at_call 13;refine(xG.o _).mono ?_;rintro e w' ⟨rfl,hb⟩;exact⟨congrArg (λq=>Ending.returned (.bool q)) OB,dN.o _ _ hb⟩))|(refine wpQuiet_step (λK hK=> ?_);go_simp;first|(refine hK _ ?_;clear hK K)|(split <;> first|(refine hK _ ?_;clear hK K)|(apply Exists.intro;refine⟨λ_=> ?_,hK _ ?_⟩;((go_at_call 13;refine(xG.o _).mono ?_;rintro e w' ⟨rfl,hb⟩;exact⟨congrArg (λq=>Ending.returned (.bool q)) OB,dN.o _ _ hb⟩));clear hK K)))))
      all_goals (refine wpQuiet_nil ?_;rintro _ ⟨x,rfl⟩)
      have Bz:=ah (pY.o.trans ((HF.o x).mono (Nat.le_of_succ_le iw.o)));go_wp2_with fail;go_ret;exact⟨ahk,agR⟩
     ·have HE2:aj (res=FV W ((k:Int)+1) R):=ah agv;go_wp2_with fail;clear g6;refine gX F ahe ahe hst ?_
      repeat (any_goals (first|go_big_quiet_step ((go_at_call 13;refine(xG.o _).mono ?_;rintro e w' ⟨rfl,hb⟩;exact⟨congrArg (λq=>Ending.returned (.bool q)) OB,dN.o _ _ hb⟩))|(refine wpQuiet_step (λK hK=> ?_);go_simp;first|(refine hK _ ?_;clear hK K)|(split <;> first|(refine hK _ ?_;clear hK K)|(apply Exists.intro;refine⟨λ_=> ?_,hK _ ?_⟩;((go_at_call 13;refine(xG.o _).mono ?_;rintro e w' ⟨rfl,hb⟩;exact⟨congrArg (λq=>Ending.returned (.bool q)) OB,dN.o _ _ hb⟩));clear hK K)))))
      all_goals (refine wpQuiet_nil ?_;rintro _ ⟨x,rfl⟩)
      have HB3:=ah (HF.o x);clear G0 G1 G2 G3 G4 G5 G6 X0 X1 xG HF dN hst;generalize F x=wz at *;go_wp2_with fail;go_roundw
      case rel=>exact⟨k+1,R,ahj,ahf,HE2.o,rR (HB3.o.mono (Nat.le_of_succ_le iw.o)) kg.o,iZ.o.trans (HB3.o.mono iw.o)⟩
      case measure=>simp[intOf];omega
end Go.Proofs.YtcjgfgkllmldpaaGreatDoor
