/- The law CompileSound, walked: it returns true for every input. -/
import Derived.Test.YtfbbaiejbjdfbaaGreatDoorGRG
import Derived.Test.YtfbbaiejbjdfbaaGreatDoorGPL
import Derived.Test.YtfbbaiejbjdfbaaGreatDoorGCE
import Derived.Test.YtfbbaiejbjdfbaaGreatDoorGVD
import Derived.Test.YtfbbaiejbjdfbaaGreatDoorGSE
set_option linter.unusedSimpArgs false
set_option linter.unusedVariables false
set_option maxHeartbeats 40000000
set_option maxRecDepth 1000000
namespace Go.Proofs.YtfbbaiejbjdfbaaGreatDoor
open Go.RowKit
open Md
theorem Qh: ∀l:List Th,(l.map (fun t=>aR t.body)).sum=yt l
 | []=>rfl
 | t ::r=>by rw [List.map_cons,List.sum_cons,Qh r]; rfl
theorem uU.some {B gD gT ay:Nat} {W:World} {dx:List fZ} (h:uU B W gD gT ay dx):0 < (AY 0 (dx.map (·.t))).length:=by
 obtain ⟨n,-,h1,h2⟩:=h.made.ts;cases dx with
 | nil=>simp at h2; omega
 | cons x r=>have:=(h.CY x List.mem_cons_self).2.2.1.2;rw [Nj];simp only [List.map_cons,List.sum_cons];have h3:=EB x.t.body;omega
theorem uU.fit {B gD gT ay:Nat} {W:World} {dx:List fZ} (h:uU B W gD gT ay dx):Fit ⟨jg,dx.map (·.t)⟩:=Xa (by rw [h.zero]) (fun t ht=>by
 obtain ⟨x,hx,rfl⟩:=List.mem_map.1 ht;exact (h.CY x hx).2.2.2)
theorem uU.sound {B gD gT ay:Nat} {W:World} {dx:List fZ} (h:uU B W gD gT ay dx):Sound ⟨jg,dx.map (·.t)⟩:=ab0 h.made (by rw [h.zero]) (fun t ht=>by
 obtain ⟨x,hx,rfl⟩:=List.mem_map.1 ht;exact (h.CY x hx).2.2.2.2) (by
 have h1:=h.fit.1;have h2:=Ep (dx.map (·.t));have h3:((dx.map (·.t)).map (fun t=>aR t.body)).sum=yt (dx.map (·.t)):=Qh _;show ((dx.map (·.t)).map (fun t=>aR t.body)).sum<=_;rw [h3];have h4:zF (dx.map (·.t))<=100000000000:=h1;omega)
theorem Uk {w:World} {B:Nat} : ∀ {l:List xg} {ao:Option Addr} {k:Nat} (i:Nat) (x:xg),lu w B l ao k->l[i]? =some x-> ∃b off dU dG,ao=some ⟨b,off,none⟩∧b < B∧w.cell? ⟨b,off + (k + i) * 2 + 1,none⟩=some (.slice dU x.is.length dG)∧x.is.length<=1000000000000∧dK jE 6 w B x.is dU 0
 | [],_,_,i,x,_,h=>by simp at h
 | t ::r,_,k,0,x,⟨⟨b,off,dU,dG,e,hB,x0,x1,hl,hf⟩,_⟩,h=>by
   have:t=x:=by simpa using h
   subst this;exact ⟨b,off,dU,dG,e,hB,x1,hl,hf⟩
 | t ::r,_,k,i + 1,x,⟨_,h2⟩,h=>by have:=Uk i x h2 (by simpa using h);rw [show k + 1 + i=k + (i + 1) by omega] at this;exact this
theorem Oo {w:World} {B B':Nat} (hB:B<=B'): ∀ {l:List xg} {ao:Option Addr} {k:Nat},lu w B l ao k->lu w B' l ao k
 | [],_,_,_=>trivial
 | _ ::_,_,_,⟨⟨b,off,dU,dG,e,hb,x0,x1,hl,hf⟩,hr⟩=>⟨⟨b,off,dU,dG,e,Nat.lt_of_lt_of_le hb hB,x0,x1,hl,hf.mono hB⟩,Oo hB hr⟩
theorem Oq {w w':World} {l:List xg} {ao:Option Addr} {k:Nat} (h:lu w w.heap.size l ao k) (hb:Below w.heap.size w w'):lu w' w'.heap.size l ao k:=Oo hb.size (zy hb h)
theorem aM1 {W:Wo} (h:WM W):WoK W:=by
 refine ⟨fun c hc=> ?_,fun c hc=> ?_,fun c hc=> ?_⟩
 ·rw [h.cs] at hc;simp only [Jh,List.mem_cons,List.not_mem_nil,or_false] at hc;rcases hc with rfl | rfl | rfl | rfl | rfl <;> (show (1:Nat)<=maxLen; unfold maxLen; decide)
 ·rw [h.ls] at hc;simp only [LU,List.mem_cons,List.not_mem_nil,or_false] at hc;rcases hc with rfl | rfl | rfl <;> (show (1:Nat)<=maxLen; unfold maxLen; decide)
 ·rw [h.ns] at hc;simp only [Oi,List.mem_cons,List.not_mem_nil,or_false] at hc;rcases hc with rfl; (show (1:Nat)<=maxLen; unfold maxLen; decide)
theorem Nq:Q5:=OC Nn
theorem IQ (ao:Option Addr) (len cap:Nat) (zs:List Int) (hlen:zs.length=len) (hcap:len<=maxLen) (w:World) (hz:FK w w.heap.size zs ao) (fK:fC w):
 Calls Tryz.prog 4 #[.slice ao len cap] w fun e w'=>e= .returned (.bool true)∧Below w.heap.size w w':=by
 subst hlen;have HZ:=ah hz;have kD:=ah fK;unfold maxLen at hcap;clear hz fK;by_cases be8:200 < zs.length
 ·go_enter Tryz.func4,Tryz.ntmps4;go_wp2_with fail;go_ret;exact ⟨rfl,Below.refl _ _⟩
 ·go_enter Tryz.func4,Tryz.ntmps4;go_wp2_with fail;refine (PI w zs ao cap HZ.o (by omega)).mono ?_;rintro e w1 ⟨gD,gT,ay,dx,rfl,hO,hb⟩;have HA:=ah hO.at;have Bn:=ah hO.fit;have tK:=ah hO.sound;have as3:=ah hO.some;have VZ:=ah hO.made;have Jd:aj ((jr ⟨jg,dx.map (·.t)⟩).1=0):=ah (by rw [hO.zero]);have HB:=ah hb;have KH:aj ((dx.map (fun x:fZ=>x.t)).length=dx.length):=ah (List.length_map _);clear hO hb HZ;obtain ⟨p,hp⟩: ∃p:Pr,p=⟨jg,dx.map (fun x:fZ=>x.t)⟩:=⟨_,rfl⟩;have qL:aj (p.ds.length=9∧p.ts.length=dx.length):=ah (by rw [hp]; exact ⟨rfl,KH.o⟩);have FX:aj (0 < (AY 0 p.ts).length):=ah (by rw [hp]; exact as3.o);have Po:=ah HA.o.1;rw [<- hp] at Po Bn Jd tK VZ;clear as3;have HCAP:=ah HA.o.2;clear hp KH HA;have za:aj (p.ts.length<=4):=ah (qJ Jd.o).2.2.1;have aX9:=ah (kD.o.same HB.o);have Kv:=ah (Jg p w1 _ _ 9 ay Po.o aX9.o Bn.o Jd.o);rw [qL.o.1,qL.o.2] at Kv;go_wp2_with fail;refine Kv.o.mono ?_;rintro e w3 ⟨⟨aC,aL,aN,aF,aT,aS,cC,cL,cN,cF,cT,cS⟩,Tg,MN,rfl,hwo,htc,-,hb3⟩;have AB:=ah hwo;have NK:=ah htc;have HB3:=ah (HB.o.trans (hb3.mono HB.o.size));clear hwo htc hb3 Kv HB Po;go_upto_region 4 with fail;obtain ⟨cb,hcb⟩: ∃g,w3.heap.size=g:=⟨_,rfl⟩;generalize hW:World.alloc w3 _=w4;have dO:aj (Below w3.heap.size w3 w4):=ah (by rw [<- hW]; exact ak _ _);have qO:aj (w4.heap[cb]? =some (.cells #[.slice aC (fF p).cs.length cC,.slice aL (fF p).ls.length cL,.slice aN (fF p).ns.length cN,.slice aF (fF p).fs.length cF,.slice aT (fF p).ts.length cT,.slice aS (fF p).ss.length cS,.slice Tg dx.length MN] 37 (0,0))):=ah (by rw [<- hW,<- hcb]; exact heap_alloc_new _ _);rw [hcb];clear hW hcb;have FQ:=ah (HB3.o.trans (dO.o.mono HB3.o.size));have ME:=ah (AB.o.same dO.o);have MB:=ah (Oq NK.o dO.o);have aY1:=ah (kD.o.same FQ.o);have HWM:=ah (WM.of VZ.o);have IY:aj ((oQ (fF p) p.ts 0).length=dx.length):=ah (by rw [JO,qL.o.2]);have mU:aj ((fF p).ts.length=dx.length):=ah (by
   have:(fF p).ts=p.ts.map (·.nm):=by unfold fF;rw [VZ.o.ds,IJ,EI];rfl
   rw [this,List.length_map,qL.o.2])
  have HVA:=ah (ab5 Nq (fF p) ⟨aC,aL,aN,aF,aT,aS,cC,cL,cN,cF,cT,cS⟩ (oQ (fF p) p.ts 0) Tg MN w4 ME.o aY1.o (aM1 HWM.o) MB.o (by rw [IY.o,<- qL.o.2]; have:=za.o; unfold maxLen; omega) (fun t ht i hi r hr=>by have:=tK.o.rg t ht i hi r hr; unfold bS; omega));rw [IY.o,tK.o.va] at HVA;have VT:=ah tK.o.co;have Wd:aj (0 < (fF p).ss.length):=ah (by unfold fF;rw [VZ.o.ds,IJ,RS];simpa using FX.o);have Pk:aj (dx.length<=4):=ah (by rw [<- qL.o.2]; exact za.o);clear HB3 dO AB NK tK Bn Jd VZ FX za qL;generalize fF p=W at *;generalize oQ W p.ts 0=C at *;have y0:=au (j:=0) qO.o rfl;have y1:=au (j:=1) qO.o rfl;have y2:=au (j:=2) qO.o rfl;have y3:=au (j:=3) qO.o rfl;have y4:=au (j:=4) qO.o rfl;have y5:=au (j:=5) qO.o rfl;have y6:=au (j:=6) qO.o rfl;simp only [List.getElem_toArray,List.getElem_cons_zero,List.getElem_cons_succ] at y0 y1 y2 y3 y4 y5 y6;go_wp2_with fail;refine HVA.o.mono ?_;rintro e w5 ⟨rfl,hb5⟩;have kS:=ah (FQ.o.trans (hb5.mono FQ.o.size));have av9:=ah (ME.o.same hb5);have ba0:=ah (Oq MB.o hb5);have JK:=ah ((hb5.block _ (Array.getElem?_eq_some_iff.1 qO.o).1).trans qO.o);clear y0 y1 y2 y3 y4 y5 y6 hb5 HVA qO ME MB FQ;have y4:=au (j:=4) JK.o rfl;have y5:=au (j:=5) JK.o rfl;have y6:=au (j:=6) JK.o rfl;simp only [List.getElem_toArray,List.getElem_cons_zero,List.getElem_cons_succ] at y4 y5 y6;have hts:=mU.o;rw [hts] at y4;have hnt:=Pk.o;have hls:=av9.o.lS;unfold maxLen at hls;go_wp2_with fail;go_loopw [6,7,8,9] (fun v6 _ _ _ wr=> ∃k:Nat,v6= .int .i64 k∧k<=W.ss.length∧w5=wr) (fun v _ _ _ _=>W.ss.length - (intOf v).toNat)
  case atStart=>exact ⟨0,rfl,Nat.zero_le _,rfl⟩
  case round=>
   obtain ⟨k,rfl,hk,Xx⟩:=hrel;subst Xx;by_cases hkl:k < W.ss.length
   ·obtain ⟨x,d,tc,hx,hxt,hd,i,hi,hst⟩:=VT.o k hkl;obtain ⟨b,off,hao,hb1,hcs⟩:=av9.o.ss.at k x hx;have x0:=hcs 0 _ rfl;simp only [Nat.zero_add,Nat.add_zero] at x0;rw [hxt] at x0;obtain ⟨b2,off2,dU,dG,Qw,hb2,x1,hl1,hf⟩:=Uk d tc ba0.o hd;simp only [Nat.zero_add] at x1;have hdl:d < dx.length:=(by rw [<- IY.o]; exact (List.getElem?_eq_some_iff.1 hd).1);have HF:=ah hf;have HST:aj (tc.is.any (fun y=>y.st == (k:Int))=true):=ah (List.any_eq_true.2 ⟨i,hi,by rw [hst]; simp⟩);have h0d:(0:Int)<=(d:Int):=(by omega);have h1d:(d:Int) < (dx.length:Int):=(by omega);dsimp only at hao;subst hao Qw;clear hcs hx hxt hd hi hst hf hb1 hb2;go_wp2_with fail;go_loopw [8,9] (fun v8 v9 wr=> ∃q:Nat,v9= .int .i64 q∧q<=tc.is.length∧v8= .bool ((tc.is.take q).any (fun y=>y.st == (k:Int)))∧w5=wr) (fun _ v _=>tc.is.length - (intOf v).toNat)
    case atStart=>exact ⟨0,rfl,Nat.zero_le _,rfl,rfl⟩
    case round=>
     obtain ⟨q,rfl,hq,rfl,hw6⟩:=hrel;subst hw6;by_cases hql:q < tc.is.length
     ·obtain ⟨y,hy⟩: ∃y,tc.is[q]? =some y:=⟨_,List.getElem?_eq_getElem hql⟩;obtain ⟨b3,VA,bf1,hb3,hcs⟩:=HF.o.at q y hy;have z5:=hcs 5 _ rfl;simp only [Nat.zero_add] at z5;have HSN:aj ((tc.is.take (q + 1)).any (fun y=>y.st == (k:Int))=((tc.is.take q).any (fun y=>y.st == (k:Int)) || y.st == (k:Int))):=ah (by rw [List.take_add_one,hy]; simp);subst bf1;clear hcs hy hb3;cases hfd:(tc.is.take q).any (fun y=>y.st == (k:Int))
      ·go_wp2_with fail;go_roundw
       case rel=>exact ⟨q + 1,by go_num,by omega,by rw [HSN.o,hfd]; first | rfl | simp,trivial⟩
       case measure=>simp [intOf]; omega
      ·go_wp2_with fail;go_roundw
       case rel=>exact ⟨q + 1,by go_num,by omega,by rw [HSN.o,hfd]; first | rfl | simp,trivial⟩
       case measure=>simp [intOf]; omega
     ·obtain rfl:q=tc.is.length:=(by omega);rw [List.take_length,HST.o];go_wp2_with fail;go_roundw
      case rel=>exact ⟨k + 1,by go_num,by omega,trivial⟩
      case measure=>simp [intOf]; omega
   ·obtain rfl:k=W.ss.length:=(by omega);have hpos:0 < W.ss.length:=Wd.o;go_wp2_with fail;go_ret;exact ⟨by first | rfl | (simp only [decide_eq_true hpos]; rfl),kS.o⟩
end Go.Proofs.YtfbbaiejbjdfbaaGreatDoor
