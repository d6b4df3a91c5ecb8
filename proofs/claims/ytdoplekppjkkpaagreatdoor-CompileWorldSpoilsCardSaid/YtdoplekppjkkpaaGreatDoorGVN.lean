/- Contract of the reference's names. And what hangs on it. -/
import Derived.Test.YtdoplekppjkkpaaGreatDoorGVD
set_option linter.unusedSimpArgs false
set_option linter.unusedVariables false
set_option maxHeartbeats 40000000
set_option maxRecDepth 1000000
namespace Go.Proofs.YtdoplekppjkkpaaGreatDoor
open Go.RowKit
open Md
theorem vo.Vn {w0:World} {nb:Nat} {W:Wo} {s:jS} {w:World} {v:Value} {l:List ByteArray} (h:vo w0 nb W s w v l):w.cell? ⟨nb,0,none⟩=some (.slice s.aC W.cs.length s.cC):=aQ (j:=0) h.x rfl
theorem Kh {α:Type} {l R:List α} {k:Nat} {x:α} (h:x::R=l.drop k):l[k]? =some x∧R=l.drop (k+1):=by
 have h0:=congrArg (λm=>m[0]?) h;simp at h0;have h1:=congrArg (List.drop 1) h;rw[List.drop_drop]at h1;exact⟨h0.symm,agO⟩
theorem VZ (W:Wo) (s:jS) (w:World) (hw:iP w w.heap.size W s) (hk:NY W) (hsm:oz W):
 Calls Tryz.prog 21 #[nD W s] w (VcP ((xM W.cs.length W.cs).map (pK W)) w):=by
 have HW:=ah hw;have HK:=ah hk;obtain⟨hs0,hs1,hs2,hs3,hs4,hs5,hs6⟩:=hsm;obtain⟨res,hres⟩: ∃r,xM W.cs.length W.cs=r:=⟨_,rfl⟩;have HR:=ah hres;rw[hres];clear hw hk hres;unfold nD;go_enter Tryz.func21,Tryz.ntmps21;go_upto_region 1 with fail;generalize hW:World.alloc w _=W1;obtain⟨nb,hnb⟩: ∃n,w.heap.size=n:=⟨_,rfl⟩;have HB:aj (Below nb w W1):=ah acL;have HI:aj (vo w nb W s W1 (.slice none 0 0) []):=ah ⟨Grow.nil _ _ _ _ _ _,λq hq=>(by cases hq),aaP,aaO,HB.o⟩;have fC:=ah hnb;rw[hnb];clear hW hnb HW HB;go_wp2_with fail;go_loopw [4,5,6,7,8] (λv4 v5 _ _ _ wr=> ∃(k:Nat) (R:List mP) (acc:List ByteArray) (f:Nat),v5= .int .i64 k∧R=W.cs.drop k∧k<=W.cs.length∧R.length<=f∧res=(xM f R).map (λl=>acc++l)∧vo w nb W s wr v4 acc∧acc.length<=k∧(∀x∈acc,x.size<=maxLen)) (λ_ v _ _ _ _=>W.cs.length -(intOf v).toNat)
 case atStart=>exact⟨0,W.cs,[],W.cs.length,rfl,rfl,bF _,aB _,by rw[<- HR.o];cases xM W.cs.length W.cs <;> rfl,HI.o,aB _,λx hx=>ahB⟩
 case round=>
  obtain⟨k,R,acc,f,rfl,hR,hk,Ua,heq,hi,hac,XW⟩:=hrel;have HE:=ah heq;have HI:=ah hi;have Tt:=ah XW;have NR:=ah hR;have hlen:R.length=W.cs.length -k:=agf
  clear heq hi XW hR;have g0:=HI.o.Vn;cases R with
  |nil=>
   obtain rfl:k=W.cs.length:=agq
   have HT:aj (res=some acc):=ah (by rw[HE.o];cases f <;> simp[xM]);obtain⟨gB,gC,gD,gE⟩:=HI.o.cells;obtain⟨wA,Ye⟩: ∃X:World,X=wr:=⟨_,rfl⟩;subst Ye;clear hk Ua hlen HE NR;go_upto_region 20 with fail;clear g0 gB gC gD gE;go_loopw [4,9] (λv4 vi wr=> ∃k:Nat,vi= .int .i64 k∧k<=W.ls.length∧vo w nb W s wr v4 (acc++(W.ls.take k).map (·.nm))) (λ_ v _=>W.ls.length -(intOf v).toNat)
   case atStart=>exact⟨0,rfl,bF _,agi⟩
   case round=>
    obtain⟨k,rfl,hk,hi⟩:=hrel;obtain⟨Dx,hacc⟩: ∃q,acc++(W.ls.take k).map (·.nm)=q:=⟨_,rfl⟩;rw[hacc]at hi;have HI:=ah hi;have zR:=ah hacc;have aM1:Dx.length<=100:=afJ;have gA:=aQ (j:=0) hi.x rfl;obtain⟨gB,gC,gD,gE⟩:=hi.cells;clear hi hacc gA;by_cases hkl:k<W.ls.length
    ·obtain⟨x,hx⟩: ∃x,W.ls[k]? =some x:=⟨_,bC hkl⟩;have HX:=ah hx;obtain⟨b,off,hao,hb1,hcs⟩:=HI.o.wo.ls.at k x hx;have x0:=hcs 0 _ rfl;simp only[aU,Nat.add_zero]at x0;clear hcs hx;rw[hao]at gB;clear hao;have HI3:=ah (HI.o.next (ak wr (.cells #[.string x.nm] 9)));have hlen1:Dx.length+1<=1000000:=agH;have hnm:x.nm.size<=maxLen:=HK.o.ls x (List.mem_of_getElem? HX.o);clear HI;go_wp2_with (at_builtin;refine uo _ rfl _ _ rfl rfl HI3.o.g rfl (IL hnm) hlen1 (bH HI3.o.lt) ?_);intro v3 w3 hg3 xY zq;have HI4:=ah (HI3.o.step hg3 xY ahn);have HE2:aj (Dx++[x.nm]=acc++(W.ls.take (k+1)).map (·.nm)):=ah abB;clear hg3 xY zq HI3 hlen1 hnm gB gC gD gE x0;go_wp2_with fail;go_roundw
     case rel=>exact⟨k+1,agL,agH,by rw[<- HE2.o];exact HI4.o⟩
     case measure=>simp[intOf];omega
    ·obtain rfl:k=W.ls.length:=agH;rw[List.take_length]at zR;have HA0:=zR;obtain⟨wB,Yf⟩: ∃X:World,X=wr:=⟨_,rfl⟩;subst Yf;go_upto_region 24 with fail;clear gB gC gD gE;go_loopw [4,10] (λv4 vi wr=> ∃k:Nat,vi= .int .i64 k∧k<=W.ns.length∧vo w nb W s wr v4 (Dx++(W.ns.take k).map (·.nm))) (λ_ v _=>W.ns.length -(intOf v).toNat)
     case atStart=>exact⟨0,rfl,bF _,agi⟩
     case round=>
      obtain⟨k,rfl,hk,hi⟩:=hrel;obtain⟨Hf,hacc⟩: ∃q,Dx++(W.ns.take k).map (·.nm)=q:=⟨_,rfl⟩;rw[hacc]at hi;have HI:=ah hi;have zR:=ah hacc;have aM1:Hf.length<=200:=afJ;have gA:=aQ (j:=0) hi.x rfl;obtain⟨gB,gC,gD,gE⟩:=hi.cells;clear hi hacc gA;by_cases hkl:k<W.ns.length
      ·obtain⟨x,hx⟩: ∃x,W.ns[k]? =some x:=⟨_,bC hkl⟩;have HX:=ah hx;obtain⟨b,off,hao,hb1,hcs⟩:=HI.o.wo.ns.at k x hx;have x0:=hcs 0 _ rfl;simp only[aU,Nat.add_zero]at x0;clear hcs hx;rw[hao]at gC;clear hao;have HI3:=ah (HI.o.next (ak wr (.cells #[.string x.nm] 9)));have hlen1:Hf.length+1<=1000000:=agH;have hnm:x.nm.size<=maxLen:=HK.o.ns x (List.mem_of_getElem? HX.o);clear HI;go_wp2_with (at_builtin;refine uo _ rfl _ _ rfl rfl HI3.o.g rfl (IL hnm) hlen1 (bH HI3.o.lt) ?_);intro v3 w3 hg3 xY zq;have HI4:=ah (HI3.o.step hg3 xY ahn);have HE2:aj (Hf++[x.nm]=Dx++(W.ns.take (k+1)).map (·.nm)):=ah abB;clear hg3 xY zq HI3 hlen1 hnm gB gC gD gE x0;go_wp2_with fail;go_roundw
       case rel=>exact⟨k+1,agL,agH,by rw[<- HE2.o];exact HI4.o⟩
       case measure=>simp[intOf];omega
      ·obtain rfl:k=W.ns.length:=agH;rw[List.take_length]at zR;have hl5:Hf.length+W.fs.length<=1000000:=agH;go_wp2_with (at_builtin;refine uo _ rfl _ _ rfl rfl HI.o.g rfl (HI.o.wo.fs.mono (bH HI.o.lt)) hl5 (bH HI.o.lt) ?_);intro v4 w4 hg4 QT vM;have hi4:=HI.o.step hg4 QT vM;obtain⟨Xb,Vx⟩: ∃Xb,Hf++W.fs=Xb:=⟨_,rfl⟩;rw[Vx]at hi4;have HI4:=ah hi4;have bo5:=ah Vx;have bL5:Xb.length<=300:=(by rw[<- Vx];simp;omega);clear hg4 QT vM HI gB gC gD gE hl5 hi4 Vx;obtain⟨gB,gC,gD,gE⟩:=HI4.o.cells;have XU:Xb.length+W.ts.length<=1000000:=agH;go_wp2_with (at_builtin;refine uo _ rfl _ _ rfl rfl HI4.o.g rfl (HI4.o.wo.ts.mono (bH HI4.o.lt)) XU (bH HI4.o.lt) ?_);intro v5 w5 hg5 hgr5 QM;have gL:=ah (HI4.o.step hg5 hgr5 QM);have HEN:aj (Xb++W.ts=pK W acc):=ah (by rw[<- bo5.o,<- zR.o,<- HA0.o];rfl);have NW:aj (∀x∈pK W acc,x.size<=maxLen):=ah (λx hx=>by
        unfold pK at hx;simp only[List.mem_append,List.mem_map]at hx;rcases hx with(((h|⟨y,hy,rfl⟩)|⟨y,hy,rfl⟩)|h)|h
        ·exact Tt.o x h
        ·exact HK.o.ls y hy
        ·exact HK.o.ns y hy
        ·exact yh gL.o.wo.fs x h
        ·exact yh gL.o.wo.ts x h)
       clear hg5 hgr5 QM gB gC gD gE;go_wp2_with fail
       go_ret2
       rw[HT.o];refine⟨?_,afz⟩;have hg:=gL.o.g;rw[HEN.o]at hg;obtain⟨Xc,cap2,e,hc2,hst⟩:=jU.says hg NW.o;exact⟨Xc,cap2,ahf,hst.now,hc2⟩
  |cons c R=>
   obtain⟨f,rfl⟩: ∃g,f=g+1:=⟨f -1,by simp at Ua;omega⟩;have hx:=Kh NR.o;have HX:=ah hx.1;have HR2:=ah hx.2;obtain⟨b,off,hao,hb1,hcs⟩:=HI.o.wo.cs.at k c hx.1;simp only[aD]at hlen Ua;have hkl:k<W.cs.length:=agH
   have x0:=hcs 0 _ rfl;have x1:=hcs 1 _ rfl;have x2:=hcs 2 _ rfl;have x3:=hcs 3 _ rfl;have x4:=hcs 4 _ rfl;simp only[aU,Nat.add_zero]at x0 x1 x2 x3 x4;have Av:=ah hao;rw[hao]at g0;clear hcs hx hao;go_upto_region 5 with fail;obtain⟨cb,hcb⟩: ∃n,wr.heap.size=n:=⟨_,rfl⟩;generalize hW2:World.alloc wr _=w2;have HB2:aj (Below wr.heap.size wr w2):=ah afb;have zX:aj (w2.heap[cb]? =some (.cells #[.string c.nm,.int .i64 c.ix,.int .i64 c.sz,.bool c.wW,.int .i64 c.init] 39 (0,0))):=ah aaT;have HI2:=ah (HI.o.next HB2.o);have KS:=ah (λq hq=>by have:=(HI.o.g.lt q hq).2;rw[hcb]at this;exact this);rw[hcb];clear hW2 hcb x0 x1 x2 x3 x4 HI HB2 g0;have y0:w2.cell? ⟨cb,0,none⟩=some (.string c.nm):=aQ zX.o rfl;have HI3:=ah (HI2.o.next (ak w2 (.cells #[.string c.nm] 9)));have hlen1:acc.length+1<=1000000:=agH
   have hnm:c.nm.size<=maxLen:=HK.o.cs c (List.mem_of_getElem? HX.o);go_wp2_with (at_builtin;refine uo _ rfl _ _ rfl rfl HI3.o.g rfl (IL hnm) hlen1 (bH HI3.o.lt) ?_);intro v3 w3 hg3 xY zq;have HI4:=ah (HI3.o.step hg3 xY ahn);have Nu:aj (cb<w2.heap.size):=ah (aO zX.o);have yZ:aj (w3.heap[cb]? =some (.cells #[.string c.nm,.int .i64 c.ix,.int .i64 c.sz,.bool c.wW,.int .i64 c.init] 39 (0,0))):=ah ((xY.block cb (by simp;have:=Nu.o;omega) (λe=>by have:=KS.o cb e.symm;omega)).trans ((heap_alloc_old _ _ Nu.o).trans zX.o));have WK:aj (∀x∈acc++[c.nm],x.size<=maxLen):=ah (λx hx=>by
    rcases List.mem_append.1 hx with hx|hx
    ·exact Tt.o x hx
    ·rw[List.mem_singleton.1 hx];exact hnm)
   have HEA:aj (∀o:Option (List ByteArray),(o.map (λl=>c.nm::l)).map (λl=>acc++l)=o.map (λl=>(acc++[c.nm])++l)):=ah (λo=>En);have hal:(acc++[c.nm]).length<=k+1:=agK
   generalize acc++[c.nm]=MJ at *;have gL:=HI4;clear hg3 xY zq HI3 HI2 zX y0 hlen1 hnm KS Nu Tt HI4;have g0:=gL.o.Vn;have z0:=aQ (j:=0) yZ.o rfl;have z1:=aQ (j:=1) yZ.o rfl;have z2:=aQ (j:=2) yZ.o rfl;have z3:=aQ (j:=3) yZ.o rfl;have z4:=aQ (j:=4) yZ.o rfl;simp only[List.getElem_toArray,List.getElem_cons_zero,List.getElem_cons_succ]at z0 z1 z2 z3 z4;have hwl:IntKind.i64.wrap ((W.cs.length:Int) -(k:Int))=(W.cs.length:Int) -(k:Int):=IntWalk.i64_in _ agH;have hw1:IntKind.i64.wrap ((k:Int)+1)=(k:Int)+1:=IntWalk.i64_in _ agH;cases hsz:(c.sz==0)
   ·by_cases h1:c.sz<1
    ·have HT:aj (res=none):=ah (by rw[HE.o,xM,hsz];simp[h1]);go_wp2_with fail
     go_ret2
     rw[HT.o];exact⟨rfl,afz⟩
    ·by_cases h2:4<c.sz
     ·have HT:aj (res=none):=ah (by rw[HE.o,xM,hsz];simp[h2]);go_wp2_with fail
      go_ret2
      rw[HT.o];exact⟨rfl,afz⟩
     ·by_cases h4:(W.cs.length:Int) -(k:Int)<c.sz
      ·have HT:aj (res=none):=ah (by rw[HE.o,xM,hsz];have:decide (((R.length+1:Nat):Int)<c.sz)=true:=adl;simp only[this];simp);go_wp2_with fail
       go_ret2
       rw[HT.o];exact⟨rfl,afz⟩
      ·obtain⟨n,hn⟩:=Int.eq_ofNat_of_zero_le (show 0<=c.sz by omega);have Ey:=ah hn;have hn1:1<=n:=agH;have hn4:n<=4:=agH;have hnR:n<=R.length+1:=agH;have kU:aj (res=if xu c n 0 (c::R)then(xM f ((c::R).drop n)).map (λl=>MJ++l)else none):=ah (by
        have hd:(decide (c.sz<1)||(decide (4<c.sz)||decide (((R.length+1:Nat):Int)<c.sz)))=false:=agK;rw[HE.o,xM,hsz,hd];have e:c.sz.toNat=n:=agH;rw[e];cases xu c n 0 (c::R)
        ·rfl
        ·exact HEA.o _)
       clear hn HE;go_upto_region 13 with fail;clear z0 z1 z2 z3 z4 g0;obtain⟨wI,Yg⟩: ∃W:World,W=wr:=⟨_,rfl⟩;subst Yg;go_loopw [7,8] (λv7 _ wq=> ∃(j:Nat) (Q:List mP),v7= .int .i64 j∧j<=n∧Q=(c::R).drop j∧xu c n 0 (c::R)=xu c (n -j) j Q∧wq.heap[cb]? =some (.cells #[.string c.nm,.int .i64 c.ix,.int .i64 c.sz,.bool c.wW,.int .i64 c.init] 39 (0,0))∧vo w nb W s wq v3 MJ) (λv _ _=>n -(intOf v).toNat)
       case atStart=>exact⟨0,_,rfl,bF _,rfl,rfl,yZ.o,gL.o⟩
       case round=>
        obtain⟨j,Q,rfl,hjn,hQ,heq,hbx,hi⟩:=hrel;have HQ:=ah hQ;have uT:=ah heq;have uZ:=ah hbx;have HIq:=ah hi;have g0:=hi.Vn;have z0:=aQ (j:=0) hbx rfl;have z2:=aQ (j:=2) hbx rfl;have z4:=aQ (j:=4) hbx rfl;simp only[List.getElem_toArray,List.getElem_cons_zero,List.getElem_cons_succ]at z0 z2 z4;clear hQ heq hbx hi;by_cases hjl:j<n
        ·cases Q with
         |nil=>exfalso;have:=congrArg List.length HQ.o;simp at this;omega
         |cons x Q=>
          have hx:W.cs[k+j]? =some x:=(by have:=congrArg (λl=>l[0]?) HQ.o;rw[NR.o]at this;simpa using this.symm);have hkj:k+j<W.cs.length:=(List.getElem?_eq_some_iff.1 hx).1;obtain⟨b',off',e,hb',hcs⟩:=HIq.o.wo.cs.at (k+j) x hx;rw[Av.o]at e;injection e with e;injection e with e1 e2;subst e1 e2;rw[Av.o]at g0;have t0:=hcs 0 _ rfl;have t1:=hcs 1 _ rfl;have t2:=hcs 2 _ rfl;have t3:=hcs 3 _ rfl;have t4:=hcs 4 _ rfl;simp only[aU,Nat.add_zero]at t0 t1 t2 t3 t4;have hjs:(j:Int)<c.sz:=afV;have hwk:IntKind.i64.wrap ((k:Int)+(j:Int))=((k+j:Nat):Int):=acX;have k0:(0:Int)<=((k+j:Nat):Int):=agH;have k1:((k+j:Nat):Int)<(W.cs.length:Int):=agH;have HRQ:aj (xu c n 0 (c::R)=(KA c j x&&xu c (n -(j+1)) ((j:Int)+1) Q)):=ah (by rw[uT.o,show n -j=(n -(j+1))+1 by omega,xu]);have Ct:aj (Q=(c::R).drop (j+1)):=ah aaw;clear hcs hx uT;go_upto_region 16 with fail;obtain⟨xb,hxb⟩: ∃n,wr.heap.size=n:=⟨_,rfl⟩;generalize xI:World.alloc wr _=w5;have kg:aj (Below wr.heap.size wr w5):=ah (by rw[<- xI];exact ak _ _);have WZ:aj (w5.heap[xb]? =some (.cells #[.string x.nm,.int .i64 x.ix,.int .i64 x.sz,.bool x.wW,.int .i64 x.init] 39 (0,0))):=ah (by rw[<- xI,<- hxb];exact heap_alloc_new _ _);have uI:=ah ((kg.o.block cb (aO uZ.o)).trans uZ.o);have sG:=ah (HIq.o.next kg.o);rw[hxb];clear xI hxb t0 t1 t2 t3 t4 z0 z2 z4 g0 HIq uZ kg;have z0:=aQ (j:=0) uI.o rfl;have z2:=aQ (j:=2) uI.o rfl;have z4:=aQ (j:=4) uI.o rfl;have t0:=aQ (j:=0) WZ.o rfl;have t1:=aQ (j:=1) WZ.o rfl;have t2:=aQ (j:=2) WZ.o rfl;have t3:=aQ (j:=3) WZ.o rfl;have t4:=aQ (j:=4) WZ.o rfl;simp only[List.getElem_toArray,List.getElem_cons_zero,List.getElem_cons_succ]at z0 z2 z4 t0 t1 t2 t3 t4;have Bq:aj (KA c j x=false->res=none):=ah (λh=>by rw[kU.o,HRQ.o,h];rfl);have Tx:aj (KA c j x=(x.ix==(j:Int)&&(x.nm.toList==c.nm.toList&&(x.sz==c.sz&&(x.init==c.init&& !x.wW))))):=ah rfl;by_cases e1:x.ix=(j:Int)
          case neg=>
           have HT:aj (res=none):=ah (Bq.o (by rw[Tx.o];simp[e1]));go_wp2_with fail
           go_ret2
           rw[HT.o];exact⟨rfl,afy⟩
          by_cases e2:x.nm.toList=c.nm.toList
          case neg=>
           have HT:aj (res=none):=ah (Bq.o (by rw[Tx.o];simp[e1,e2]));go_wp2_with fail
           go_ret2
           rw[HT.o];exact⟨rfl,afy⟩
          by_cases e3:x.sz=c.sz
          case neg=>
           have HT:aj (res=none):=ah (Bq.o (by rw[Tx.o];simp[e1,e2,e3]));go_wp2_with fail
           go_ret2
           rw[HT.o];exact⟨rfl,afy⟩
          by_cases e4:x.init=c.init
          case neg=>
           have HT:aj (res=none):=ah (Bq.o (by rw[Tx.o];simp[e1,e2,e3,e4]));go_wp2_with fail
           go_ret2
           rw[HT.o];exact⟨rfl,afy⟩
          cases e5:x.wW
          ·have Zr:aj (xu c n 0 (c::R)=xu c (n -(j+1)) ((j:Int)+1) Q):=ah (by rw[HRQ.o,Tx.o];simp[e1,e2,e3,e4,e5]);rw[e5]at t3;go_wp2_with fail;go_roundw
           case rel=>exact⟨j+1,Q,agL,agH,Ct.o,Zr.o,uI.o,sG.o⟩
           case measure=>simp[intOf];omega
          ·rw[e5]at t3;have HT:aj (res=none):=ah (Bq.o (by rw[Tx.o];simp[e1,e2,e3,e4,e5]));go_wp2_with fail
           go_ret2
           rw[HT.o];exact⟨rfl,afy⟩
        ·obtain rfl:j=n:=agH;have HT:aj (xu c j 0 (c::R)=true):=ah adF;have G6:aj (res=(xM f ((c::R).drop j)).map (λl=>MJ++l)):=ah (by rw[kU.o,HT.o];rfl);have hnlt: ¬(j:Int)<c.sz:=afV;have hw2:IntKind.i64.wrap ((k:Int)+c.sz)=((k+j:Nat):Int):=abP;go_wp2_with fail;go_roundw
         case rel=>exact⟨k+j,(c::R).drop j,MJ,f,by first|rfl|simp[hw2],by rw[NR.o,List.drop_drop],agH,agK,G6.o,HIq.o,agH,WK.o⟩
         case measure=>simp[intOf];omega
   ·cases hix:(c.ix==0)
    ·have HT:aj (res=none):=ah (by rw[HE.o,xM,hsz];simp[bne,hix]);go_wp2_with fail
     go_ret2
     rw[HT.o];exact⟨rfl,afz⟩
    ·have HE2:aj (res=(xM f R).map (λl=>MJ++l)):=ah (by rw[HE.o,xM,hsz];have:(c.ix != 0)=false:=(by simp[bne,hix]);rw[this];exact HEA.o _);go_wp2_with fail;go_roundw
     case rel=>exact⟨k+1,R,MJ,f,agL,HR2.o,agH,agH,HE2.o,gL.o,agH,WK.o⟩
     case measure=>simp[intOf];omega
theorem aW1 {W:Wo} (h: ¬oz W):vW W=false:=by
 unfold vW;split
 ·rfl
 ·rename_i h1;split
  ·rfl
  ·rename_i h2;exfalso;apply h;simp at h1 h2;unfold oz;omega
theorem ai7 {W:Wo} (h:oz W):vW W=match xM W.cs.length W.cs with
 |none=>false
 |some v=>Gs [] (pK W v)&&(W.ns.all (λc=>pY W c.mx false)&&qU W.ts.length none W.ss):=by
 obtain⟨h0,h1,h2,h3,h4,h5,h6⟩:=h;unfold vW;rw[if_neg agK,if_neg agK,Ml];unfold Dj;cases tu W.cs.length W.cs with
 |none=>rfl
 |some v=>simp only[Z8,ai9];rfl
theorem Jg {W:Wo} {v:List ByteArray} (h:oz W) (hv:xM W.cs.length W.cs=some v):(pK W v).length<=30:=by
 rw[Ml]at hv;have:=Jk _ _ _ hv;obtain⟨h0,h1,h2,h3,h4,h5,h6⟩:=h;unfold pK;simp only[aA,gH];omega
def bt3 (l:List sK) (k:Nat):Option sK->Prop
 |none=>k=0
 |some q=> ∃j,k=j+1∧l[j]? =some q∧0<=q.st∧q.st<=j
theorem Mh (W:Wo) (s:jS) (w:World) (hw:iP w w.heap.size W s) (hk:NY W):
 Calls Tryz.prog 7 #[nD W s] w λe w'=>e= .returned (.bool (vW W))∧Below w.heap.size w w':=by
 have HW:=ah hw;have HK:=ah hk;have hl0:=hw.lc;have hl1:=hw.ll;have hl2:=hw.ln;have hl3:=hw.lf;have hl4:=hw.lt;have hl5:=hw.lS;unfold maxLen at hl0 hl1 hl2 hl3 hl4 hl5;obtain⟨res,hres⟩: ∃r,vW W=r:=⟨_,rfl⟩;have HR:=ah hres;rw[hres];clear hw hk hres;have Gw:aj (¬oz W->res=false):=ah (λh=>by rw[<- HR.o];exact aW1 h);go_enter Tryz.func7,Tryz.ntmps7;go_upto_region 1 with fail;unfold nD;generalize hW:World.alloc w _=W1;obtain⟨nb,hnb⟩: ∃n,w.heap.size=n:=⟨_,rfl⟩;have HB:aj (Below nb w W1):=ah acL;have HX:aj (W1.heap[nb]? =some (.cells #[.slice s.aC W.cs.length s.cC,.slice s.aL W.ls.length s.cL,.slice s.aN W.ns.length s.cN,.slice s.aF W.fs.length s.cF,.slice s.aT W.ts.length s.cT,.slice s.aS W.ss.length s.cS] 30 (0,0))):=ah aaP;have mU:aj (W1.heap.size=nb+1):=ah agl;have HW1:aj (iP W1 nb W s):=ah aaO;have fC:=ah hnb;rw[hnb];clear hW hnb HW;have g0:=aQ (j:=0) HX.o rfl;have g1:=aQ (j:=1) HX.o rfl;have g2:=aQ (j:=2) HX.o rfl;have g3:=aQ (j:=3) HX.o rfl;have g4:=aQ (j:=4) HX.o rfl;have g5:=aQ (j:=5) HX.o rfl;simp only[List.getElem_toArray,List.getElem_cons_zero,List.getElem_cons_succ]at g0 g1 g2 g3 g4 g5;by_cases q0:(12:Int)<W.cs.length
 ·exact AaA
 ·skip;by_cases q1:(4:Int)<W.ls.length
  ·exact AaA
  ·skip;by_cases q2:(2:Int)<W.ns.length
   ·exact AaA
   ·skip;by_cases q3:(2:Int)<W.fs.length
    ·exact AaA
    ·skip;by_cases q5:(W.ts.length:Int)<1
     ·exact AaA
     ·skip;by_cases q6:(4:Int)<W.ts.length
      ·exact AaA
      ·skip;by_cases q4:(60:Int)<W.ss.length
       ·exact AaA
       ·have hsm:oz W:=(by unfold oz;omega);have NS:=ah hsm;have HR2:=ah (HR.o.symm.trans (ai7 hsm));clear hsm;have HWX:=ah (HW1.o.mono (show nb<=W1.heap.size by have:=mU.o;omega));go_wp2_with fail;refine(VZ W s W1 HWX.o HK.o NS.o).mono ?_;intro e w2 JO;have hb2:=JO.2;have hm:=JO.1;clear JO;have Pk:aj (Below nb w w2):=ah (HB.o.trans (hb2.mono aff));have oV:=ah ((hb2.block nb aff).trans HX.o);have HS2:aj (nb<w2.heap.size):=ah (by have h1:=mU.o;have h2:=hb2.size;omega);have HW2:aj (iP w2 nb W s):=ah (HW1.o.below (hb2.mono aff));have GQ:=ah (λv hv=>Jg NS.o hv (v:=v));clear hb2 g0 g1 g2 g3 g4 g5 q0 q1 q2 q3 q4 q5 q6 HB HX HWX HW1 HR Gw NS mU;cases hv:xM W.cs.length W.cs with
        |none=>rw[hv]at hm;obtain rfl:e=_:=hm;have HT:aj (res=false):=ah ahQ;go_wp2_with fail;go_ret;exact⟨agR,by rw[fC.o];exact Pk.o⟩
        |some v=>
         rw[hv]at hm;obtain⟨ao,cap,rfl,hat,hcap⟩:=hm;have hlen:=GQ.o v hv;have HR3:aj (res=(Gs [] (pK W v)&&(W.ns.all (λc=>pY W c.mx false)&&qU W.ts.length none W.ss))):=ah (by have:=HR2.o;rw[hv]at this;exact this);clear hv GQ HR2;have HAT:=ah hat;have sI:=ah (yh hat);clear hat;generalize pK W v=l at *;go_upto_region 7 with fail;go_loopw [5] (λv5 wr=> ∃(pre R:List ByteArray),v5= .int .i64 pre.length∧pre++R=l∧Gs [] l=Gs pre R∧Below w2.heap.size w2 wr) (λv _=>l.length -(intOf v).toNat)
         case atStart=>exact⟨[],l,rfl,rfl,rfl,au _ _⟩
         case round=>
          obtain⟨pre,R,rfl,hds,heq,hbel⟩:=hrel;have HE:=ah heq;have rP:=ah hds;have kI:=ah hbel;have xC:aj (Below nb w wr):=ah (Pk.o.trans (kI.o.mono (bH HS2.o)));have ou:aj (nb<wr.heap.size):=ah (aR HS2.o kI.o.size);have oI:=ah ((kI.o.block nb HS2.o).trans oV.o);have Q5:aj (iP wr nb W s):=ah (HW2.o.below (kI.o.mono (bH HS2.o)));have hll:pre.length+R.length=l.length:=(by rw[<- hds,aA]);have zW:=ah (HAT.o.same kI.o);clear heq hds hbel;cases R with
          |cons z R=>
           have hrd:=zW.o.drop pre.length;rw[aU,<- rP.o,List.drop_left]at hrd;obtain⟨⟨b,off,hao,hb1,x0,hsz⟩,-⟩:=hrd;have yA:aj (fP wr wr.heap.size pre ao 0):=ah (fP.take (R:=z::R) (by rw[rP.o];exact zW.o));simp only[aD]at hll;have hkl:pre.length<l.length:=agH;have hkm:pre.length<=maxLen:=aeS;have ED:aj (Gs pre (z::R)=((Tk.jf z.toList&& !decide (0<=iK pre z))&&Gs (pre++[z]) R)):=ah rfl;subst hao;rw[Lib.toList_data]at ED;have k0:(0:Int)<=(pre.length:Int):=agH;have k1:(pre.length:Int)<(l.length:Int):=agH;have k2:(pre.length:Int)<=(l.length:Int):=agH;obtain⟨T,F,Ah,hst,hF,hnext⟩:=calm wr;have HF:=ah hF;have dh:=ah hnext;have y0:=λx=>((HF.o x).cell (p:=⟨b,_,none⟩) hb1).trans x0;clear hF hnext x0;cases hn:Tk.jf z.data.toList
           ·have HT:aj (res=false):=ah (by rw[HR3.o,HE.o,ED.o,hn];rfl);go_wp2_with fail;refine iI F agG agG hst ?_
            repeat (any_goals (first|go_big_quiet_step ((go_at_call 22;refine(ji _ _ hsz).mono ?_;rintro e w' ⟨rfl,hb⟩;exact⟨congrArg (λq=>Ending.returned (.bool q)) hn,dh.o _ _ hb⟩))|(refine wpQuiet_step (λK hK=> ?_);go_simp;first|(refine hK _ ?_;clear hK K)|(split <;> first|(refine hK _ ?_;clear hK K)|(apply Exists.intro;refine⟨λ_=> ?_,hK _ ?_⟩;((go_at_call 22;refine(ji _ _ hsz).mono ?_;rintro e w' ⟨rfl,hb⟩;exact⟨congrArg (λq=>Ending.returned (.bool q)) hn,dh.o _ _ hb⟩));clear hK K)))))
            all_goals (refine wpQuiet_nil ?_;rintro _ ⟨x,rfl⟩)
            have Cj:=ah (xC.o.trans ((HF.o x).mono (bH ou.o)));go_wp2_with fail;go_ret;exact⟨agR,by rw[fC.o];exact Cj.o⟩
           ·have Dn:aj (∀w',Below wr.heap.size wr w'->Calls Tryz.prog 23 #[.slice (some ⟨b,off,none⟩) pre.length cap,.string z] w' λe w''=>e= .returned (.int .i64 (iK pre z))∧w'=w''):=ah (λw' hb=>by rw[<- au6];exact nH pre z w' _ cap hkm (yA.o.same hb));by_cases h0:0<=iK pre z
            ·have HT:aj (res=false):=ah (by rw[HR3.o,HE.o,ED.o,hn];simp[h0]);go_wp2_with fail;refine iI F agG agG hst ?_
             repeat (any_goals (first|go_big_quiet_step ((first|(go_at_call 22;refine(ji _ _ hsz).mono ?_;rintro e w' ⟨rfl,hb⟩;exact⟨congrArg (λq=>Ending.returned (.bool q)) hn,dh.o _ _ hb⟩)|(go_at_call 23;refine(Dn.o _ (HF.o _)).mono ?_;rintro e w' ⟨rfl,hw⟩;exact⟨rfl,_,hw.symm⟩)))|(refine wpQuiet_step (λK hK=> ?_);go_simp;first|(refine hK _ ?_;clear hK K)|(split <;> first|(refine hK _ ?_;clear hK K)|(apply Exists.intro;refine⟨λ_=> ?_,hK _ ?_⟩;((first|(go_at_call 22;refine(ji _ _ hsz).mono ?_;rintro e w' ⟨rfl,hb⟩;exact⟨congrArg (λq=>Ending.returned (.bool q)) hn,dh.o _ _ hb⟩)|(go_at_call 23;refine(Dn.o _ (HF.o _)).mono ?_;rintro e w' ⟨rfl,hw⟩;exact⟨rfl,_,hw.symm⟩)));clear hK K)))))
             all_goals (refine wpQuiet_nil ?_;rintro _ ⟨x,rfl⟩)
             have Cj:=ah (xC.o.trans ((HF.o x).mono (bH ou.o)));go_wp2_with fail;go_ret;exact⟨agR,by rw[fC.o];exact Cj.o⟩
            ·have HT:aj (Gs [] l=Gs (pre++[z]) R):=ah (by rw[HE.o,ED.o,hn];simp[h0]);go_wp2_with fail;refine iI F agG agG hst ?_
             repeat (any_goals (first|go_big_quiet_step ((first|(go_at_call 22;refine(ji _ _ hsz).mono ?_;rintro e w' ⟨rfl,hb⟩;exact⟨congrArg (λq=>Ending.returned (.bool q)) hn,dh.o _ _ hb⟩)|(go_at_call 23;refine(Dn.o _ (HF.o _)).mono ?_;rintro e w' ⟨rfl,hw⟩;exact⟨rfl,_,hw.symm⟩)))|(refine wpQuiet_step (λK hK=> ?_);go_simp;first|(refine hK _ ?_;clear hK K)|(split <;> first|(refine hK _ ?_;clear hK K)|(apply Exists.intro;refine⟨λ_=> ?_,hK _ ?_⟩;((first|(go_at_call 22;refine(ji _ _ hsz).mono ?_;rintro e w' ⟨rfl,hb⟩;exact⟨congrArg (λq=>Ending.returned (.bool q)) hn,dh.o _ _ hb⟩)|(go_at_call 23;refine(Dn.o _ (HF.o _)).mono ?_;rintro e w' ⟨rfl,hw⟩;exact⟨rfl,_,hw.symm⟩)));clear hK K)))))
             all_goals (refine wpQuiet_nil ?_;rintro _ ⟨x,rfl⟩)
             have Cj:=ah (kI.o.trans ((HF.o x).mono kI.o.size));clear y0 HF dh Dn hst;generalize F x=wz at *;go_wp2_with fail;go_roundw
             case rel=>exact⟨pre++[z],R,by rw[aA];go_num,acC,HT.o,Cj.o⟩
             case measure=>simp[intOf];omega
          |nil=>
           obtain rfl:pre=l:=(by have:=rP.o;rw[List.append_nil]at this;exact this);have HT:aj (Gs [] pre=true):=ah ahb;have HR4:aj (res=(W.ns.all (λc=>pY W c.mx false)&&qU W.ts.length none W.ss)):=ah (by rw[HR3.o,HT.o];rfl);obtain⟨wA,Ye⟩: ∃X:World,X=wr:=⟨_,rfl⟩;subst Ye;have g2:=aQ (j:=2) oI.o rfl;simp only[List.getElem_toArray,List.getElem_cons_zero,List.getElem_cons_succ]at g2;go_upto_region 12 with fail;clear g2;go_loopw [6,7] (λv6 _ wq=> ∃(k:Nat) (R:List Er),v6= .int .i64 k∧R=W.ns.drop k∧k<=W.ns.length∧W.ns.all (λc=>pY W c.mx false)=R.all (λc=>pY W c.mx false)∧Below wA.heap.size wA wq) (λv _ _=>W.ns.length -(intOf v).toNat)
           case atStart=>exact⟨0,W.ns,rfl,rfl,bF _,rfl,au _ _⟩
           case round=>
            obtain⟨k,R,rfl,hR,hk,heq,hbel⟩:=hrel;have NR:=ah hR;have HE2:=ah heq;have bp0:=ah hbel;have JX:=ah (xC.o.trans (hbel.mono (bH ou.o)));have uZ:=ah ((hbel.block nb ou.o).trans oI.o);have HWq:=ah (Q5.o.below (hbel.mono (bH ou.o)));have PZ:aj (nb<wr.heap.size):=ah (aR ou.o hbel.size);have hlen:R.length=W.ns.length -k:=agf;have g1:=aQ (j:=1) uZ.o rfl;have g2:=aQ (j:=2) uZ.o rfl;have g5:=aQ (j:=5) uZ.o rfl;simp only[List.getElem_toArray,List.getElem_cons_zero,List.getElem_cons_succ]at g1 g2 g5;clear heq hbel hR;cases R with
            |cons x R=>
             have hx:=Kh NR.o;have HR2:=ah hx.2;obtain⟨b,off,hao,hb1,hcs⟩:=HWq.o.ns.at k x hx.1;have x1:=hcs 1 _ rfl;simp only[aD]at hlen;have hkl:k<W.ns.length:=agH;have HLK:aj (W.ns.all (λc=>pY W c.mx false)=(pY W x.mx false&&R.all (λc=>pY W c.mx false))):=ah (by rw[HE2.o,List.all_cons]);have zT:aj (pY W x.mx false=(yP x.mx W.ls.length&&(match W.ls[x.mx.toNat]? with|some l=>l.rw==false|none=>false))):=ah rfl;have Bq:aj (pY W x.mx false=false->res=false):=ah (λh=>by rw[HR4.o,HLK.o,h];rfl);simp only[aU]at x1;rw[hao]at g2;clear hao hcs hx g5 hlen;by_cases m0:x.mx<0
             ·have HT2:aj (res=false):=ah (Bq.o (by rw[zT.o,yP];simp[show ¬0<=x.mx by omega]));go_wp2_with fail;go_ret;exact⟨ahk,afP⟩
             ·by_cases m1:(W.ls.length:Int)<=x.mx
              ·have HT2:aj (res=false):=ah (Bq.o (by rw[zT.o,yP];simp[show ¬x.mx<W.ls.length by omega]));go_wp2_with fail;go_ret;exact⟨ahk,afP⟩
              ·obtain⟨j,hj⟩:=Int.eq_ofNat_of_zero_le (show 0<=x.mx by omega);have hjl:j<W.ls.length:=agH;obtain⟨y,hy⟩: ∃y,W.ls[j]? =some y:=⟨_,bC hjl⟩;obtain⟨b2,off2,Vy,hb2,hcs2⟩:=HWq.o.ls.at j y hy;have y1:=hcs2 1 _ rfl;have HLC:aj (pY W x.mx false=(y.rw==false)):=ah (by rw[zT.o,yP,hj,show((j:Int)).toNat=j by omega,hy];simp[hjl]);have j0:(0:Int)<=(j:Int):=agH;have j1:(j:Int)<(W.ls.length:Int):=agH;have j2: ¬(j:Int)<0:=agH;have j3: ¬(W.ls.length:Int)<=(j:Int):=agH;simp only[aU]at y1;rw[hj]at x1;rw[Vy]at g1;clear Vy hcs2 hy m0 m1;cases hrw:y.rw
               ·have kU:aj (W.ns.all (λc=>pY W c.mx false)=R.all (λc=>pY W c.mx false)):=ah (by rw[HLK.o,HLC.o,hrw];rfl);rw[hrw]at y1;go_wp2_with fail;go_roundw
                case rel=>exact⟨k+1,R,agL,HR2.o,agH,kU.o,bp0.o⟩
                case measure=>simp[intOf];omega
               ·have HT2:aj (res=false):=ah (Bq.o (by rw[HLC.o,hrw];rfl));rw[hrw]at y1;go_wp2_with fail;go_ret;exact⟨ahk,afP⟩
            |nil=>
             have Jv:aj (res=qU W.ts.length none W.ss):=ah (by rw[HR4.o,HE2.o];rfl);obtain rfl:k=W.ns.length:=agq;obtain⟨wB,Yf⟩: ∃X:World,X=wr:=⟨_,rfl⟩;subst Yf;go_upto_region 18 with fail;clear g1 g2 g5 hlen;go_loopw [8,9] (λv8 _ wq=> ∃(k:Nat) (p:Option sK) (R:List sK),v8= .int .i64 k∧R=W.ss.drop k∧k<=W.ss.length∧qU W.ts.length none W.ss=qU W.ts.length p R∧bt3 W.ss k p∧Below wB.heap.size wB wq) (λv _ _=>W.ss.length -(intOf v).toNat)
             case atStart=>exact⟨0,none,W.ss,rfl,rfl,bF _,rfl,rfl,au _ _⟩
             case round=>
              obtain⟨k,p,R,rfl,hR,hk,heq,hpv,hbel⟩:=hrel;have NR:=ah hR;have HE2:=ah heq;have HPV:=ah hpv;have Zo:=ah hbel;have Fg:=ah (JX.o.trans (hbel.mono (bH PZ.o)));have TG:=ah ((hbel.block nb PZ.o).trans uZ.o);have HWz:=ah (HWq.o.below (hbel.mono (bH PZ.o)));have hlen:R.length=W.ss.length -k:=agf;have g4:=aQ (j:=4) TG.o rfl;have g5:=aQ (j:=5) TG.o rfl;simp only[List.getElem_toArray,List.getElem_cons_zero,List.getElem_cons_succ]at g4 g5;clear heq hbel hR hpv;cases R with
              |nil=>obtain rfl:k=W.ss.length:=agq;have HT2:aj (res=true):=ah (by rw[Jv.o,HE2.o];cases p <;> rfl);go_wp2_with fail;go_ret;exact⟨ahk,by rw[fC.o];exact Fg.o⟩
              |cons x R=>
               have hx:=Kh NR.o;have HR2:=ah hx.2;have Cz:=ah hx.1;obtain⟨b,off,hao,hb1,hcs⟩:=HWz.o.ss.at k x hx.1;have x0:=hcs 0 _ rfl;have x1:=hcs 1 _ rfl;have x2:=hcs 2 _ rfl;simp only[aD]at hlen;have hkl:k<W.ss.length:=agH;simp only[aU,Nat.add_zero]at x0 x1 x2;have Av:=ah hao;rw[hao]at g5;clear hao hcs hx;go_upto_region 21 with fail;obtain⟨sb,hsb⟩: ∃n,wr.heap.size=n:=⟨_,rfl⟩;generalize xI:World.alloc wr _=w5;have kg:aj (Below wr.heap.size wr w5):=ah (by rw[<- xI];exact ak _ _);have HXs:aj (w5.heap[sb]? =some (.cells #[.int .i64 x.th,.int .i64 x.st,.int .i64 x.ln] 45 (0,0))):=ah (by rw[<- xI,<- hsb];exact heap_alloc_new _ _);rw[hsb];clear xI hsb x0 x1 x2 g4 g5;have HNZ:aj (nb<wr.heap.size):=ah (aR PZ.o Zo.o.size);have uI:=ah ((kg.o.block nb HNZ.o).trans TG.o);have tZ:=ah (HWz.o.below (kg.o.mono (bH HNZ.o)));have Cj:=ah (Fg.o.trans (kg.o.mono (bH HNZ.o)));have HBn:=ah (Zo.o.trans (kg.o.mono Zo.o.size));have g4:=aQ (j:=4) uI.o rfl;have g5:=aQ (j:=5) uI.o rfl;have x0:=aQ (j:=0) HXs.o rfl;have x1:=aQ (j:=1) HXs.o rfl;simp only[List.getElem_toArray,List.getElem_cons_zero,List.getElem_cons_succ]at g4 g5 x0 x1;rw[Av.o]at g5;have Bq:aj (qU W.ts.length p (x::R)=false->res=false):=ah (λh=>by rw[Jv.o,HE2.o,h]);by_cases t0:x.th<0
               case pos=>have HT2:aj (res=false):=ah (Bq.o (by cases p <;> simp[qU,t0]));go_wp2_with fail;go_ret;exact⟨ahk,aas⟩
               by_cases t1:(W.ts.length:Int)<=x.th
               case pos=>have HT2:aj (res=false):=ah (Bq.o (by cases p <;> simp[qU,t1]));go_wp2_with fail;go_ret;exact⟨ahk,aas⟩
               cases p with
               |none=>
                obtain rfl:k=0:=HPV.o;by_cases s0:x.st=0
                case neg=>have s1:(x.st != 0)=true:=(by simpa using s0);have HT2:aj (res=false):=ah (Bq.o (by simp[qU,s0]));exact Aaz
                have s1:(x.st != 0)=false:=(by simp[s0]);have kU:aj (qU W.ts.length none W.ss=qU W.ts.length (some x) R):=ah (by rw[HE2.o,qU];simp[t0,t1,s0]);go_wp2_with fail;go_quiet (fail);go_wp2_with fail;go_quiet (fail);go_wp2_with fail;go_roundw
                case rel=>exact⟨1,some x,R,agL,HR2.o,agH,kU.o,⟨0,rfl,Cz.o,agH,agH⟩,aaZ⟩
                case measure=>simp[intOf];omega
               |some q=>
                obtain⟨j,hkj,hq,hq0,hq1⟩:=HPV.o;obtain⟨b2,off2,e,hb2,hcs⟩:=tZ.o.ss.at j q hq;rw[Av.o]at e;injection e with e;injection e with e1 e2;subst e1 e2;have q0:=hcs 0 _ rfl;have q1:=hcs 1 _ rfl;simp only[aU,Nat.add_zero]at q0 q1;have hwj:IntKind.i64.wrap ((k:Int) -1)=(j:Int):=acX;have hws:IntKind.i64.wrap (q.st+1)=q.st+1:=IntWalk.i64_in _ agH;have j0:(0:Int)<=(j:Int):=agH;have j1:(j:Int)<(W.ss.length:Int):=agH;have k0:((k:Int)==0)=false:=acy;have k1:(0:Int)<(k:Int):=agH;have k2:0<k:=agH;have HKJ:=ah hkj;clear hcs hq hkj;by_cases th:q.th=x.th
                ·have Di:(q.th != x.th)=false:=(by simp[th]);by_cases st:x.st=q.st+1
                 case neg=>have s1:(x.st != q.st+1)=true:=(by simpa using st);have HT2:aj (res=false):=ah (Bq.o (by rw[qU];simp[t0,t1,th,st]));exact Aaz
                 have s1:(x.st != q.st+1)=false:=(by simp[st]);have kU:aj (qU W.ts.length none W.ss=qU W.ts.length (some x) R):=ah (by rw[HE2.o,qU];simp[t0,t1,th,st]);go_wp2_with fail;go_quiet (fail);go_wp2_with fail;go_quiet (fail);go_wp2_with fail;go_roundw
                 case rel=>exact⟨k+1,some x,R,agL,HR2.o,agH,kU.o,⟨k,rfl,Cz.o,agd,agd⟩,aaZ⟩
                 case measure=>simp[intOf];omega
                ·have Di:(q.th != x.th)=true:=(by simpa using th);by_cases s0:x.st=0
                 case neg=>have s1:(x.st != 0)=true:=(by simpa using s0);have HT2:aj (res=false):=ah (Bq.o (by rw[qU];simp[t0,t1,th,s0]));exact Aaz
                 have s1:(x.st != 0)=false:=(by simp[s0]);by_cases gt:x.th<q.th
                 case pos=>have HT2:aj (res=false):=ah (Bq.o (by rw[qU];simp[t0,t1,th,s0,gt]));exact Aaz
                 have kU:aj (qU W.ts.length none W.ss=qU W.ts.length (some x) R):=ah (by rw[HE2.o,qU];simp[t0,t1,th,s0,gt]);go_wp2_with fail;go_quiet (fail);go_wp2_with fail;go_quiet (fail);go_wp2_with fail;go_roundw
                 case rel=>exact⟨k+1,some x,R,agL,HR2.o,agH,kU.o,⟨k,rfl,Cz.o,agd,agd⟩,aaZ⟩
                 case measure=>simp[intOf];omega
end Go.Proofs.YtdoplekppjkkpaaGreatDoor
