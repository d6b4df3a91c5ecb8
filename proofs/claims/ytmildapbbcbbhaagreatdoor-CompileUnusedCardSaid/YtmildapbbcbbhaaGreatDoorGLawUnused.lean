/- The law CompileUnused, walked: it returns true for every input. -/
import Derived.Test.YtmildapbbcbbhaaGreatDoorGVA
import Derived.Test.YtmildapbbcbbhaaGreatDoorGR6
import Derived.Test.YtmildapbbcbbhaaGreatDoorGCG
set_option linter.unusedSimpArgs false
set_option linter.unusedVariables false
set_option maxHeartbeats 40000000
set_option maxRecDepth 1000000
namespace Go.Proofs.YtmildapbbcbbhaaGreatDoor
open Go.RowKit
open Md
theorem yR.fit {B gD gT aD:Nat} {W:World} {dW:List dU} (h:yR B W gD gT aD dW):Fit ⟨jB,dW.map (·.t)⟩:=aH0 (by rw[h.zero]) (λt ht=>by
 obtain⟨x,hx,rfl⟩:=List.mem_map.1 ht;exact(h.FI x hx).2.2.2)
def KW (n:Nat):Int:=[1,2,3,4,6].getD (n%5) 1
theorem XI (n:Nat):KU (KW n):=by
 have:n%5=0∨n%5=1∨n%5=2∨n%5=3∨n%5=4:=by omega
 unfold KW KU;rcases this with h|h|h|h|h <;> rw[h] <;> decide
theorem aG3 (n:Nat):(pY (KW n)).Ok:=by
 have h:=XI n;unfold KU at h;refine⟨by unfold bW pY;dsimp only;omega,rC,by show(6:Nat)<=maxLen;unfold maxLen;decide,rC,rC,bT _⟩
section
variable {w w':World} {g B:Nat} (hg:Ad g w) (ho:zO g w w') (hB:B<=w.heap.size)
include hg ho hB
theorem eD.off {α:Type} {f:α->List Value} {m:Nat} (hf: ∀x,(∃k n,(f x)[0]? =some (.int k n))∨∃s,(f x)[0]? =some (.string s)): ∀ {l:List α} {ao:Option Addr} {k:Nat},eD f m w B l ao k->eD f m w' B l ao k
 | [],_,_,_=>trivial
 |x::_,_,_,⟨⟨b,off,e,hb,hc⟩,hr⟩=>by
  have hne:b≠g:=λq=>by
   subst q;rcases hf x with⟨k,n,h⟩|⟨s,h⟩
   ·exact(hg _).1 _ _ (hc 0 _ h)
   ·exact(hg _).2 _ (hc 0 _ h)
  exact⟨⟨b,off,e,hb,λj u hu=>(ho b hne (aG hb hB) _).trans (hc j u hu)⟩,eD.off hf hr⟩
theorem iO.off {W:Wo} {s:lV} (h:iO w B W s):iO w' B W s:=
 ⟨eD.off hg ho hB (λ_=> .inr ⟨_,rfl⟩) h.cs,eD.off hg ho hB (λ_=> .inr ⟨_,rfl⟩) h.ls,eD.off hg ho hB (λ_=> .inr ⟨_,rfl⟩) h.ns,h.fs.off hg ho hB,h.ts.off hg ho hB,eD.off hg ho hB (λ_=> .inl ⟨_,_,rfl⟩) h.ss,h.lc,h.ll,h.ln,h.lf,h.lt,h.lS,h.ok⟩
theorem Rb: ∀ {l:List yS} {ao:Option Addr} {k:Nat},kM w B l ao k->kM w' B l ao k
 | [],_,_,_=>trivial
 |_::_,_,_,⟨⟨b,off,fQ,eU,e,hb,x0,x1,hl,hf⟩,hr⟩=>by
  have hne:b≠g:=λq=>by subst q;exact(hg _).1 _ _ x0
  have h:=ho b hne (aG hb hB);exact⟨⟨b,off,fQ,eU,e,hb,(h _).trans x0,(h _).trans x1,hl,eD.off hg ho hB (λ_=> .inl ⟨_,_,rfl⟩) hf⟩,Rb hr⟩
end
theorem VN (ao:Option Addr) (cap:Nat) (zs:List Int) (hcap:zs.length<=maxLen) (n:Nat) (hn:n<=255) (w:World) (hz:FP w w.heap.size zs ao) (eH:eG w):
 Calls Tryz.prog 3 #[.slice ao zs.length cap,.int .u8 n] w λe w'=>e= .returned (.bool true)∧Below w.heap.size w w':=by
 have HZ:=ah hz;have jK:=ah eH;unfold maxLen at hcap;clear hz eH;by_cases bL9:200<zs.length
 ·go_enter Tryz.func3,Tryz.ntmps3;go_wp2_with fail;go_ret;exact⟨rfl,ak _ _⟩
 ·go_enter Tryz.func3,Tryz.ntmps3;go_wp2_with fail;refine(Zm w zs ao cap HZ.o (by omega)).mono ?_;rintro e w1 ⟨gD,gT,aD,dW,rfl,hO,hb⟩;have HO:=ah hO;have HB:=ah hb;have HF:=ah hO.few;clear hO hb HZ;go_upto_region 4 with fail;generalize hW:World.alloc w1 _=w2;obtain⟨pb,hpb,HB2,-,HX,-⟩:=oO hW;have MV:=ah hpb;rw[hpb];clear hW hpb;have Ur:=ah (HB.o.trans (HB2.o.mono HB.o.size));have N7:aj ((dW.map (λx:dU=>x.t)).length=dW.length):=ah (gX _);obtain⟨y0,y1⟩:=pK HX.o;have BI:aj (∀(p:Pr) (w2:World) (aK:Option Addr) (aH nD:Nat),p.ds.length=nD->p.ts.length=dW.length->p.At w2 aK (some ⟨gT,0,none⟩)->eG w2->Fit p->(jD p).1=0->_):=ah (λp w2 aK aH nD hd ht h k f z=>by have:=IW p w2 aK (some ⟨gT,0,none⟩) aH aD h k f z;rw[hd,ht]at this;exact this);go_wp2_with fail;refine(BI.o ⟨jB,dW.map (λx:dU=>x.t)⟩ w2 (some ⟨gD,0,none⟩) 9 9 rfl N7.o (HO.o.at.1.same HB2.o) (jK.o.same Ur.o) HO.o.fit (by rw[HO.o.zero])).mono ?_;rintro e w3 ⟨s,aoc,Zz,rfl,hwo,htc,-,hb3⟩;have oM:aj (pb<w3.heap.size):=ah (aG (aO HX.o) hb3.size);have IG:=ah hwo;have HTC:=ah htc;have HB3:=ah (Ur.o.trans (hb3.mono Ur.o.size));have G7:=jl hb3 HX;have Du:=ah (HB2.o.trans (hb3.mono HB2.o.size));clear hwo htc hb3 HX Ur y0 y1;go_upto_region 5 with fail;generalize hW:World.alloc w3 _=w4;obtain⟨cb,hcb,eF,-,Aw,-⟩:=oO hW;have OG:=ah hcb;rw[hcb];clear hW hcb;have pV:=jl eF.o G7;have Dw:=ah (HB3.o.trans (eF.o.mono HB3.o.size));have HO4:=ah (HO.o.next (bL (Du.o.trans (eF.o.mono Du.o.size))));have Ph:=ah (IG.o.same eF.o);have UA:=ah (HTC.o.same eF.o);have HQ:aj (gD<pb∧gT<pb∧w.heap.size<=pb):=ah ⟨by rw[<- MV.o];exact(aO HO.o.dec),by rw[<- MV.o];exact(HO.o.row.lt gT rfl).2,by rw[<- MV.o];exact HB.o.size⟩;have ax5:aj (Below pb w1 w4):=ah (by rw[<- MV.o];exact Du.o.trans (eF.o.mono Du.o.size));have rT:aj (iJ w1 pb (dW.map (λx:dU=>x.t)) (some ⟨gT,0,none⟩) 0):=ah (by rw[<- MV.o];exact HO.o.at.1.2.2.2);have FZ:=ah HO.o.made;have HZR:aj ((jD ⟨jB,dW.map (λx:dU=>x.t)⟩).1=0):=ah (by rw[HO.o.zero]);have RY:=ah HO.o.fit;have OL:aj (w4.heap[gD]? =some (.cells (jB.flatMap oF).toArray 43 (0,0))):=ah HO4.o.dec;have HK:aj (∃k,KW n=k∧KU k∧(pY k).Ok):=ah ⟨_,rfl,XI n,aG3 n⟩;clear G7 HB2 Du eF IG HTC HB3 HO4 HO;obtain⟨e0,e1⟩:=pK pV.o;have hpl:=(aO pV.o);have E0:=ko hpl e0;obtain⟨q,hq⟩: ∃q,n%5=q:=⟨_,rfl⟩;have hn5:((n:Nat):Int).tmod 5=(q:Int):=by rw[Int.tmod_eq_emod_of_nonneg (by omega)];omega
  have hki:(#[.int .i64 1,.int .i64 2,.int .i64 3,.int .i64 4,.int .i64 6]:Array Value)[q]? =some (.int .i64 (KW n)):=by
   have h5:q=0∨q=1∨q=2∨q=3∨q=4:=by omega
   unfold KW;rw[hq];rcases h5 with rfl|rfl|rfl|rfl|rfl <;> rfl
  have k0:(0:Int)<=(q:Int):=by omega
  have k1:(q:Int)<5:=by omega
  clear e0 e1 hpl hq;refine dI (by kernel_rfl) rfl ?_;refine dw 0 9 [] [[],[0],[],[],[3],[2,3,4],[2,3,4,5],[2,3,4,5,6],[2,3,4,5,6,7],[0,1,2,3,4,5,6,7,8],[0,1,2,3,4,5,6,7,8,9],[0,1,2,3,4,5,6,7,8,9,10]] [[],[],[],[],[],[],[],[],[]] (λ_ w'=>Below w4.heap.size w4 w') (λw w'=>Below w.heap.size w w') [23,24,25,26,27,28,29,30,31] rfl rfl (by rfl) (by kernel_rfl) (by kernel_rfl) (by kernel_rfl) (by kernel_rfl) (by kernel_rfl) (by rfl) (λ_=>ak _ _) (by rfl) (below_drewN (ak _ _) 1) ?_;simp only[iW,mU]
  iterate 2
   apply bS.step
   case bg=>intro c A w' hok hC hO hD;have e5:=hO 5 (by rfl);simp[Act.eval]at e5;simp[Act.eval]at hD;simp[go_sem,gd,Oper.wp,hD,e5,E0,hC];exact aR.mk (ak _ _) hC (bZ.mk _ _)
   try simp only[dR]
  refine bS.some (λv w'=> ∃b,v= .slice (some ⟨b,0,none⟩) 5 5∧w'.heap[b]? =some (.cells #[.int .i64 1,.int .i64 2,.int .i64 3,.int .i64 4,.int .i64 6] 3 (0,0))) ?_ ?_ ?_
  ·rintro v wx wy hle ⟨b,rfl,hb⟩;exact⟨b,rfl,(hle.block b (aO hb)).trans hb⟩
  ·intro c A w' hok hC hO hD;simp[Act.eval]at hD;simp[go_sem,gd,Oper.wp,hD];exact aR.mk (d:=_) (v:= .slice (some ⟨_,0,none⟩) 5 5) (au _ _) (hC.trans ((au _ _).mono hC.size)) ⟨_,rfl,heap_alloc_new _ _⟩
  try simp only[dR]
  iterate 2
   apply bS.step
   case bg=>intro c A w' hok hC hO hD;have e1:=hO 1 (by rfl);simp[Act.eval]at e1;simp[Act.eval]at hD;simp[go_sem,gd,Oper.wp,hD,e1,hn5];exact aR.mk (ak _ _) hC (bZ.mk _ _)
   try simp only[dR]
  refine bS.some (λv w'=> ∃b,v= .pointer (some ⟨b,q,none⟩)∧w'.heap[b]? =some (.cells #[.int .i64 1,.int .i64 2,.int .i64 3,.int .i64 4,.int .i64 6] 3 (0,0))) ?_ ?_ ?_
  ·rintro v wx wy hle ⟨b,rfl,hb⟩;exact⟨b,rfl,(hle.block b (aO hb)).trans hb⟩
  ·intro c A w' hok hC hO hD;simp[Act.eval]at hD;obtain⟨⟨b,h1,h2⟩,h3⟩:=hD;simp[go_sem,gd,Oper.wp,h1,h3,k0,k1];exact aR.mk (d:=_) (v:= .pointer (some ⟨b,q,none⟩)) (ak _ _) hC ⟨b,rfl,h2⟩
  refine bS.some (λv _=>v= .int .i64 (KW n)) (λ_ _ _ _ h=>h) ?_ ?_
  ·intro c A w' hok hC hO hD;simp[Act.eval]at hD;obtain⟨b,h1,h2⟩:=hD;have h4:=aQ h2 hki;simp[go_sem,gd,Oper.wp,h1,h4];exact aR.mk (ak _ _) hC rfl
  try simp only[dR]
  apply bS.step
  case bg=>intro c A w' hok hC hO hD;simp[Act.eval]at hD;simp[go_sem,gd,Oper.wp,hD];exact aR.mk (ak _ _) hC (bZ.mk _ _)
  refine bS.some (λv w'=> ∃b,v= .slice (some ⟨b,0,none⟩) 1 1∧w'.heap[b]? =some (.cells (oF (pY (KW n))).toArray 43 (0,0))) ?_ ?_ ?_
  ·rintro v wx wy hle ⟨b,rfl,hb⟩;exact⟨b,rfl,(hle.block b (aO hb)).trans hb⟩
  ·intro c A w' hok hC hO hD;simp[Act.eval]at hD;simp[go_sem,gd,Oper.wp,hD];exact aR.mk (d:=_) (v:= .slice (some ⟨_,0,none⟩) 1 1) (au _ _) (hC.trans ((au _ _).mono hC.size)) ⟨_,rfl,heap_alloc_new _ _⟩
  try simp only[dR]
  try simp only[dR]
  refine bS.done ?_;intro wz dF
  try simp only[iW]
  iterate 2 refine nX ?_
  intro v2 h2
  iterate 2 refine nX ?_
  intro v5 h5
  iterate 2 refine nX ?_
  intro v8 h8;clear h2 h5;obtain⟨bb,rfl,hbb⟩:=h8;refine zB ?_;go_simp;have jH:=ah dF;have jS:=ah (iM hbb);have Wd:=ah (iM (jl jH.o OL).o);have HXZ:=jl jH.o pV;clear E0 hn5 hki k0 k1 dF hbb;refine fD 9 [[],[0],[],[],[3],[2,3,4],[2,3,4,5],[2,3,4,5,6],[2,3,4,5,6,7],[0,1,2,3,4,5,6,7,8],[0,1,2,3,4,5,6,7,8,9],[0,1,2,3,4,5,6,7,8,9,10]] rfl rfl rfl rfl rfl (by kernel_rfl) (by kernel_rfl) (by kernel_rfl) ?_;obtain⟨i0,hi,hz0,hz1,hz2⟩:=rW (α:=Nat) (β:=Nat) aV0;refine MB wz _ _ _ (by rfl) 43 i0 _ 6 64 Tryz.underlying23 hi hz0 hz1 hz2 (by rfl) (by decide) ⟨gD,0,none⟩ 9 9 (jB.flatMap oF) (by rfl) (by rfl) Wd.o ⟨bb,0,none⟩ 1 1 (oF (pY (KW n))) (by rfl) (by rfl) jS.o (by decide) (by unfold maxLen;decide) (by decide) ?_;clear hi hz0 hz1 hz2;intro v' w7 hown hgr;obtain⟨g',cap',rfl,hg',-⟩:=hown.form (by decide);have Am:aj (Below w4.heap.size w4 w7):=ah (jH.o.trans ⟨hgr.os,hgr.tape,hgr.output,hgr.size,λk hk=>hgr.block k (by have:=jH.o.size;omega) (by simp)⟩);have qG:=jl Am.o pV;have HOW:=ah hown;have HG':aj (pb<g'):=ah (by have h1:=(aO HXZ.o);omega);obtain⟨z0,z1⟩:=pK qG.o;have f0:w7.frozen? ⟨pb,0,none⟩=false:=bH qG.o;clear hown hgr hg' jS Wd;go_simp;refine fD 10 [[],[0],[],[],[3],[2,3,4],[2,3,4,5],[2,3,4,5,6],[2,3,4,5,6,7],[0,1,2,3,4,5,6,7,8],[0,1,2,3,4,5,6,7,8,9],[0,1,2,3,4,5,6,7,8,9,10]] rfl rfl rfl rfl rfl (by kernel_rfl) (by kernel_rfl) (by kernel_rfl) ?_;simp[go_sem,Oper.wp];refine fD 11 [[],[0],[],[],[3],[2,3,4],[2,3,4,5],[2,3,4,5,6],[2,3,4,5,6,7],[0,1,2,3,4,5,6,7,8],[0,1,2,3,4,5,6,7,8,9],[0,1,2,3,4,5,6,7,8,9,10]] rfl rfl rfl rfl rfl (by kernel_rfl) (by kernel_rfl) (by kernel_rfl) ?_;simp[go_sem,Oper.wp,z0,f0];refine eO rfl ?_;go_simp;generalize uD:World.setCell w7 _ _=w8;obtain⟨k,hk,hku,hok⟩:=HK.o;rw[hk]at HOW;have CS:aj (pb<w7.heap.size):=ah (aO qG.o);have G8:aj (w8.heap[pb]? =some (.cells #[.slice (some ⟨g',0,none⟩) 10 cap',.slice (some ⟨gT,0,none⟩) dW.length aD] 26 (0,0))):=ah (by rw[<- uD,dh qG.o];rfl);have ax6:aj (Below pb w1 w7):=ah (ax5.o.trans (Am.o.mono (cB (aO pV.o))));have pF:aj (Below pb w1 w8∧Below w.heap.size w w8):=ah (by rw[<- uD];exact⟨ax6.o.setCell (aB pb) _,(Dw.o.trans (Am.o.mono Dw.o.size)).setCell HQ.o.2.2 _⟩);have HOF:aj (Ad pb w7):=ah (Ad.of qG.o rfl);have HOT:aj (zO pb w7 w8):=ah (by rw[<- uD];exact zO.set w7 _ _ _);have vo:aj (w7.heap.size=w8.heap.size):=ah (by rw[<- uD];simp[World.setCell]);have aD1:aj (iO w8 w8.heap.size _ s):=ah (by rw[<- vo.o];exact iO.off HOF.o HOT.o (aB _) (Ph.o.same Am.o));have aC4:aj (kM w8 w8.heap.size _ aoc 0):=ah (by rw[<- vo.o];exact Rb HOF.o HOT.o (aB _) (UA.o.same Am.o));have Zh:=jl Am.o Aw;have Ip:aj (pb<cb∧cb<w8.heap.size):=ah ⟨by rw[<- OG.o];exact oM.o,by rw[<- vo.o];exact(aO Zh.o)⟩;have Zi:=ah ((bf w7 ⟨pb,0,none⟩ (.slice (some ⟨g',0,none⟩) 10 cap') rfl (by have:=Ip.o;show pb≠cb;omega)).trans Zh.o);rw[uD]at Zi;have zJ:aj (w8.ownsRow 0 43 6 (.slice (some ⟨g',0,none⟩) 10 cap') 10 ((jB++[pY k]).flatMap oF)):=ah (by rw[<- uD,List.flatMap_append,List.flatMap_singleton];exact xB HOW.o (λq e=>bf _ _ _ rfl (by have e:g'=q:=(by injection e);have:=HG'.o;show pb≠q;omega)) (bT _));have UC:aj (dW.length<=maxLen):=ah (by have:=HF.o;unfold maxLen;omega);have vS:aj (Pr.At w8 ⟨jB++[pY k],dW.map (λx:dU=>x.t)⟩ (some ⟨g',0,none⟩) (some ⟨gT,0,none⟩)):=ah (by
   obtain⟨-,hg,hcs⟩:=A9 (xs:=jB++[pY k]) (n:=10) I7 zJ.o;refine⟨by show 10<=maxLen;unfold maxLen;decide,by show(dW.map (λx:dU=>x.t)).length<=maxLen;rw[N7.o];exact UC.o,?_,?_⟩
   ·refine UZ (jB++[pY k]) 0 (λd hd=> ?_) (λi d hd=>⟨g',rfl,hg,λj u hu=>by rw[aU];exact hcs i d hd j u hu⟩);rcases List.mem_append.1 hd with hd|hd
    ·exact(Ta d hd).1
    ·rw[List.mem_singleton.1 hd];exact hok
   ·exact(rT.o.below pF.o.1).mono (by have:=Ip.o;omega))
  have Ga:aj ((jD ⟨jB++[pY k],dW.map (λx:dU=>x.t)⟩).1=0):=ah (aW5 (p:=⟨jB,dW.map (λx:dU=>x.t)⟩) FZ.o HZR.o hku);have HCU:aj (sQ (jU ⟨jB++[pY k],dW.map (λx:dU=>x.t)⟩) (dW.map (λx:dU=>x.t)) 0=sQ (jU ⟨jB,dW.map (λx:dU=>x.t)⟩) (dW.map (λx:dU=>x.t)) 0):=ah (aG2 (p:=⟨jB,dW.map (λx:dU=>x.t)⟩) FZ.o HZR.o hku);have MH:=ah (λw2 h kw=>BI.o ⟨jB++[pY k],dW.map (λx:dU=>x.t)⟩ w2 (some ⟨g',0,none⟩) cap' 10 rfl N7.o h kw RY.o Ga.o);have OI:aj ((sQ (jU ⟨jB,dW.map (λx:dU=>x.t)⟩) (dW.map (λx:dU=>x.t)) 0).length=dW.length):=ah (by rw[SX,N7.o]);rw[HCU.o]at MH;generalize jU ⟨jB,dW.map (λx:dU=>x.t)⟩=W at *;generalize jU ⟨jB++[pY k],dW.map (λx:dU=>x.t)⟩=W' at *;generalize sQ W (dW.map (λx:dU=>x.t)) 0=l at *;clear uD zJ HOW qG Am z0 z1 f0 HXZ jH HG' BI HCU Ga RY HZR FZ rT OL HK hk hku hok pV Aw Zh ax5 ax6 Ph UA HOF HOT vo CS Dw;obtain⟨y0,y1⟩:=pK G8.o;go_wp2_with fail;refine(MH.o w8 vS.o (jK.o.same pF.o.2)).mono ?_;rintro e w9 ⟨s2,aod,aF6,rfl,hwd,htd,-,NA⟩;have HWD:=ah hwd;have HTD:=ah htd;have Ze:=ah (aD1.o.same NA);have aC5:=ah (aC4.o.same NA);have tC:=ah (pF.o.2.trans (NA.mono pF.o.2.size));have UD:=jl NA Zi;clear hwd htd NA aD1 aC4 Zi MH G8 pF vS y0 y1;go_upto_region 7 with fail;generalize hW:World.alloc w9 _=Rj;obtain⟨db,hdb,Jb,-,Kh,-⟩:=oO hW;have RU:=ah hdb;rw[hdb];clear hW hdb;have aj5:=jl Jb.o UD;have HXL:aj (cb<db):=ah (by rw[<- RU.o];exact(aO UD.o));obtain⟨c0,c1,c2,c3,c4,c5,c6⟩:=IV aj5.o;obtain⟨d0,d1,d2,d3,d4,d5,d6⟩:=IV Kh.o;obtain⟨f0,f1,f2,f3,f4,f5,-⟩:=fr7 Kh.o;go_upto_region 10 with fail;generalize hW:World.setCell _ _ _=FN;have HXe:aj (FN.heap[db]? =some (.cells #[.slice s.aC W.cs.length s.cC,.slice s.aL W.ls.length s.cL,.slice s.aN W.ns.length s.cN,.slice s.aF W.fs.length s.cF,.slice s.aT W.ts.length s.cT,.slice s.aS W.ss.length s.cS,.slice aod dW.length aF6] 37 (0,0))):=ah (by rw[<- hW,dh (dh (dh (dh (dh (dh Kh.o _) _) _) _) _) _];rfl);have yZ:aj (Below w9.heap.size w9 FN):=ah (by have h:=Jb.o;rw[RU.o]at h⊢;rw[<- hW];exact(((((h.setCell (aB db) _).setCell (aB db) _).setCell (aB db) _).setCell (aB db) _).setCell (aB db) _).setCell (aB db) _);have aT6:=jl yZ.o UD;have Sm:=QT W s s l aoc aod Zz aF6 FN (Ze.o.same yZ.o) (Ze.o.same yZ.o) (aC5.o.same yZ.o) (HTD.o.same yZ.o) (by have:=OI.o;have:=HF.o;omega);rw[OI.o]at Sm;have HS:=ah Sm;have HBe:=ah (tC.o.trans (yZ.o.mono tC.o.size));clear hW c0 c1 c2 c3 c4 c5 c6 d0 d1 d2 d3 d4 d5 d6 f0 f1 f2 f3 f4 f5 Sm Kh aj5 UD Jb Ze aC5 HTD HWD;obtain⟨c0,c1,c2,c3,c4,c5,c6⟩:=IV aT6.o;obtain⟨d0,d1,d2,d3,d4,d5,d6⟩:=IV HXe.o;go_wp2_with fail;refine HS.o.mono ?_;rintro e Lp ⟨rfl,aI7⟩;have HBf:=ah (HBe.o.trans (aI7.mono HBe.o.size));clear aI7 c0 c1 c2 c3 c4 c5 c6 d0 d1 d2 d3 d4 d5 d6;go_wp2_with fail;refine(WM Lp (jK.o.same HBf.o)).mono ?_;rintro e YH ⟨rfl,bt5⟩;go_wp2_with fail;go_ret;exact⟨rfl,HBf.o.trans (bt5.mono HBf.o.size)⟩
theorem FQ (ao:Option Addr) (len cap:Nat) (zs:List Int) (hlen:zs.length=len) (hcap:len<=maxLen) (c:Int) (wc:(Lit.int .u8 c).wf=true) (w:World) (hz:FP w w.heap.size zs ao) (eH:eG w):
 Calls Tryz.prog 3 #[.slice ao len cap,.int .u8 c] w λe w'=>e= .returned (.bool true)∧Below w.heap.size w w':=by
 subst hlen;have hc:0<=c∧c<=255:=by
  simp[Lit.wf]at wc;have e1:IntKind.u8.min=0:=by decide
  have e2:IntKind.u8.max=255:=by decide
  omega
 obtain⟨n,rfl⟩:=Int.eq_ofNat_of_zero_le hc.1;exact VN ao cap zs hcap n (by omega) w hz eH
end Go.Proofs.YtmildapbbcbbhaaGreatDoor
