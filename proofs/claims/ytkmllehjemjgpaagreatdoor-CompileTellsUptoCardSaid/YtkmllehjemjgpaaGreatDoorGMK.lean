/- Contract of the checker's list. And what hangs on it. -/
import Derived.Test.YtkmllehjemjgpaaGreatDoorGMX
import Derived.Test.YtkmllehjemjgpaaGreatDoorGMJ
import Derived.StillTailTactics
import Derived.IntWalk
set_option linter.unusedSimpArgs false
set_option linter.unusedVariables false
set_option maxHeartbeats 40000000
set_option maxRecDepth 1000000
namespace Go.Proofs.YtkmllehjemjgpaaGreatDoor
open Go.RowKit
open Md
theorem aH.At.ZH {w:World} {B:Nat} {h:cB} {b e r:aH} {ao:Option Addr} {k:Nat} (hat:(aH.cons h b e r).At w B ao k): ∃bl off s,ao=some ⟨bl,off,none⟩∧bl<B∧rT w B h b e s∧
 w.cell? ⟨bl,off+k*11,none⟩=some (.int .i64 h.op)∧w.cell? ⟨bl,off+k*11+1,none⟩=some (.int .i64 h.line)∧w.cell? ⟨bl,off+k*11+2,none⟩=some (.string h.nm)∧w.cell? ⟨bl,off+k*11+3,none⟩=some (.string h.arg)∧w.cell? ⟨bl,off+k*11+4,none⟩=some (.slice s.eu h.idx.len s.dI)∧
 w.cell? ⟨bl,off+k*11+5,none⟩=some (.int .i64 h.cu)∧w.cell? ⟨bl,off+k*11+6,none⟩=some (.int .i64 h.xn)∧w.cell? ⟨bl,off+k*11+7,none⟩=some (.string h.bZ)∧w.cell? ⟨bl,off+k*11+8,none⟩=some (.slice s.dR h.aK.len s.cO)∧
 w.cell? ⟨bl,off+k*11+9,none⟩=some (.slice s.bR b.len s.aY)∧w.cell? ⟨bl,off+k*11+10,none⟩=some (.slice s.fH e.len s.dX)∧r.At w B ao (k+1):=by
 obtain⟨⟨b,off,eu,dI,dR,cO,bR,aY,fH,dX,e,hB,c0,c1,c2,c3,c4,c5,c6,c7,c8,c9,c10,hok,h1,h2,h3,h4⟩,hr⟩:=hat;exact⟨b,off,⟨eu,dI,dR,cO,bR,aY,fH,dX⟩,e,hB,⟨hok,h1,h2,h3,h4⟩,c0,c1,c2,c3,c4,c5,c6,c7,c8,c9,c10,hr⟩
theorem Nz {w:World} {nb:Nat} {h:cB} {b e:aH} {s:Sl} {t:TypeId} {fr:Nat×Nat} (hb:w.heap[nb]? =some (.cells (nI h b e s).toArray t fr)):w.cell? ⟨nb,0,none⟩=some (.int .i64 h.op)∧w.cell? ⟨nb,1,none⟩=some (.int .i64 h.line)∧w.cell? ⟨nb,2,none⟩=some (.string h.nm)∧w.cell? ⟨nb,3,none⟩=some (.string h.arg)∧w.cell? ⟨nb,4,none⟩=some (.slice s.eu h.idx.len s.dI)∧w.cell? ⟨nb,5,none⟩=some (.int .i64 h.cu)∧w.cell? ⟨nb,6,none⟩=some (.int .i64 h.xn)∧w.cell? ⟨nb,7,none⟩=some (.string h.bZ)∧w.cell? ⟨nb,8,none⟩=some (.slice s.dR h.aK.len s.cO)∧w.cell? ⟨nb,9,none⟩=some (.slice s.bR b.len s.aY)∧w.cell? ⟨nb,10,none⟩=some (.slice s.fH e.len s.dX):=
 ⟨(dO hb (j:=0) rfl).2,(dO hb (j:=1) rfl).2,(dO hb (j:=2) rfl).2,(dO hb (j:=3) rfl).2,(dO hb (j:=4) rfl).2,(dO hb (j:=5) rfl).2,(dO hb (j:=6) rfl).2,(dO hb (j:=7) rfl).2,(dO hb (j:=8) rfl).2,(dO hb (j:=9) rfl).2,(dO hb (j:=10) rfl).2⟩
theorem oW {x y a b:Value} (h1:x=a) (h2:y=b):Ending.returned (.tuple #[x,y])= .returned (.tuple #[a,b]):=by rw[h1,h2]
theorem ad3:(Tryz.prog.info? 90).map (λi=>(i.zero,i.size,i.bytes))=some (some (.agg #[.int .i64 0,.int .i64 0,.string ⟨#[]⟩,.string ⟨#[]⟩,.slice none 0 0,.int .i64 0,.int .i64 0,.string ⟨#[]⟩,.slice none 0 0,.slice none 0 0,.slice none 0 0]),11,176):=by kernel_rfl
def Wz:Array Value:= #[.int .i64 0,.int .i64 0,.string ⟨#[]⟩,.string ⟨#[]⟩,.slice none 0 0,.int .i64 0,.int .i64 0,.string ⟨#[]⟩,.slice none 0 0,.slice none 0 0,.slice none 0 0]
theorem Rj: ∃i0,Tryz.prog.info? 90=some i0∧i0.zero=some (.agg Wz)∧i0.size=11∧i0.bytes=176:=info_parts ad3
theorem Rk:(Tryz.prog.info? 90).map (·.size)=some 11:=by kernel_rfl
theorem ix0 (a b:Option Addr) (l1 c1 l2 c2:Nat) (w:World):(Instr.index 131 (.agg #[.slice a l1 c1,.slice b l2 c2]) (.int .i64 0)).run Tryz.prog w= .ok (.slice a l1 c1) w:=by kernel_rfl
theorem ix1 (a b:Option Addr) (l1 c1 l2 c2:Nat) (w:World):(Instr.index 131 (.agg #[.slice a l1 c1,.slice b l2 c2]) (.int .i64 1)).run Tryz.prog w= .ok (.slice b l2 c2) w:=by kernel_rfl
def NK (p:Pr) (j:Nat) (tn gT:ByteArray) (e R ar Cv:aH) (f g:List (List UInt8)):KC:=if(fG p j tn gT e Cv f g).err != 0 then fG p j tn gT e Cv f g else fG p j tn gT R ar (fG p j tn gT e Cv f g).f (fG p j tn gT e Cv f g).g
def aq0 (p:Pr) (j:Nat) (tn gT:ByteArray) (b e R ar Cv:aH) (f g:List (List UInt8)):KC:=if(fG p j tn gT b Cv f g).err != 0 then fG p j tn gT b Cv f g else NK p j tn gT e R ar Cv (fG p j tn gT b Cv f g).f (fG p j tn gT b Cv f g).g
def Qy (p:Pr) (j:Nat) (tn gT:ByteArray) (b e R ar Cv:aH) (k:Nat) (f g:List (List UInt8)):KC:=if k=0 then aq0 p j tn gT b e R ar Cv f g else if k=1 then NK p j tn gT e R ar Cv f g else fG p j tn gT R ar f g
def ag4 (w:World) (L:Lay) (p:Pr) (aB aD:Option Addr) (aA ay:Nat) (i:Int) (A:List Fr) (v:Value) (r:KC) (e:Ending) (w':World):Prop:=
 e= .returned (.tuple #[.int .i64 r.err,.int .i64 r.line])∧Kp L v w w'∧(r.err=0->mg (jK p) r.f∧mg (jU p) r.g∧∃v',yV w v v'∧lG w' L p aB aD aA ay i A (mem r.f) (mem r.g) r.f.length r.g.length v')
def C8 (L:Lay) (p:Pr) (aB aD:Option Addr) (aA ay:Nat) (j:Nat) (t t0:Th) (l:aH):Prop:=
 ∀(w:World) (ao:Option Addr) (cap:Nat) (A:List Fr) (f g:List (List UInt8)) (v:Value),l.len<=maxLen->l.At w L.B0 ao 0->A.length<=6->mg (jK p) f->mg (jU p) g->lG w L p aB aD aA ay (j:Int) A (mem f) (mem g) f.length g.length v->
  Calls Tryz.prog 49 #[.pointer (some ⟨L.bc,0,none⟩),.slice ao l.len cap] w (ag4 w L p aB aD aA ay (j:Int) A v (fG p j t.nm t0.nm l (bS A) f g))
theorem EO (L:Lay) (p:Pr) (aB aD:Option Addr) (aA ay:Nat) (j:Nat) (t t0:Th) (r r0:List Th) (hd:p.ts.drop j=t::r) (hts:p.ts=t0::r0) (hj:fD (j:Int)) (hT:p.ts.length<maxLen) (hD:p.ds.length<maxLen) (l:aH) (hall:l.All λ_ b e=>C8 L p aB aD aA ay j t t0 b∧C8 L p aB aD aA ay j t t0 e):C8 L p aB aD aA ay j t t0 l:=by
 intro w ao cap A f g v hl hat hA hf hg hI;generalize hres:fG p j t.nm t0.nm l (bS A) f g=res;have HR:=ah hres;have HAT:=ah hat;have jd:=ah hall;have HF:=ah hf;have HG:=ah hg;have HI:=ah hI;unfold maxLen at hl;have HA:=ah hA;clear hres hat hall hf hg hI hA;go_enter Tryz.func49,Tryz.ntmps49;go_wp2_with fail;go_loopw [7,8,10,11,12,15,51,52] (λ_ _ _ _ _ s _ _ wr=> ∃(k:Nat) (R:aH) (f1 g1:List (List UInt8)) (v1:Value),s= .int .i64 k∧k+R.len=l.len∧res=fG p j t.nm t0.nm R (bS A) f1 g1∧(R.All λ_ b e=>C8 L p aB aD aA ay j t t0 b∧C8 L p aB aD aA ay j t t0 e)∧R.At wr L.B0 ao k∧mg (jK p) f1∧mg (jU p) g1∧Kp L v w wr∧yV w v v1∧lG wr L p aB aD aA ay (j:Int) A (mem f1) (mem g1) f1.length g1.length v1) (λ_ _ _ _ _ s _ _ _=>l.len -(intOf s).toNat)
 case atStart=>exact⟨0,l,f,g,v,rfl,by simp,HR.o.symm,jd.o,HAT.o,HF.o,HG.o,Kp.refl _ _ _,.inl rfl,HI.o⟩
 case round=>
  obtain⟨k,R,f1,g1,v1,rfl,hlen,heq,hall,hrow,hf1,hg1,hKp,UU,hI⟩:=hrel;have HE:=ah heq;have HK:=ah hKp;have HO:=ah UU;clear heq hKp UU;cases R with
  |nil=>
   obtain rfl:k=l.len:=by simpa[aH.len]using hlen
   have HX:aj (ag4 w L p aB aD aA ay (j:Int) A v res (.returned (.tuple #[.int .i64 0,.int .i64 0])) wr):=ah (by rw[HE.o];exact⟨rfl,HK.o,λ_=>⟨hf1,hg1,v1,HO.o,hI⟩⟩);clear hI hall hrow hf1 hg1 HE;go_wp2_with fail
   go_ret2
   exact HX.o
  |cons h b e R=>
   obtain⟨bl,off,s,rfl,hbl,hin,x0,x1,x2,x3,x4,x5,x6,x7,x8,x9,x10,hrest⟩:=aH.At.ZH hrow;have hkl:k<l.len:=by simp only[aH.len]at hlen;omega
   obtain⟨gP,pF⟩:=hall;obtain⟨bK,aU,rfl,-⟩:=hI.form;have N7:=ah gP;have WE:=ah pF;have yE:=ah hf1;have uG:=ah hg1;have dY:=ah hin;have jE:=ah hrest;have Ab:=ah hI;clear hrow hin gP pF hf1 hg1 hrest hI;go_upto_region 4 with fail;obtain⟨nb,hnb⟩: ∃n,wr.heap.size=n:=⟨_,rfl⟩;generalize hW2:World.alloc wr _=W2;have uF:aj (W2.heap[nb]? =some (.cells (nI h b e s).toArray 90 (0,0))):=ah (by rw[<- hW2,<- hnb];exact heap_alloc_new _ _);have xE:aj (Below wr.heap.size wr W2):=ah (by rw[<- hW2];exact ak _ _);have HI2:=ah (Ab.o.below xE.o);have rR:aj (Kp L v w W2):=ah (HK.o.trans (.inl HO.o) (Kp.of_below xE.o));have gB:aj (L.B1<=nb∧nb<W2.heap.size):=ah ⟨by rw[<- hnb];exact Ab.o.sz,(Array.getElem?_eq_some_iff.1 uF.o).1⟩;have MQ:aj (Value.ownBlock (.slice bK A.length aU)≠some nb):=ah (λe=>by have:=Ab.o.row.lt _ e;omega);have HOZ:aj (w.heap.size<=W2.heap.size):=ah rR.o.size;rw[hnb];clear hW2 hnb x0 x1 x2 x3 x4 x5 x6 x7 x8 x9 x10 hbl;have c3:W2.cell? ⟨L.bc,3,none⟩=some (.slice bK A.length aU):=(dO HI2.o.blk (j:=3) rfl).2;have hA6:=HA.o;obtain⟨y0,y1,y2,y3,y4,y5,y6,y7,y8,y9,uq⟩:=Nz uF.o;by_cases NW:A.length=6
   ·have HX:aj (res=⟨2,h.line,f1,g1⟩):=ah (HE.o.trans (by rw[fG,if_pos (by rw[qA,NW];rfl)]));rw[NW]at c3;clear hA6;go_wp2_with fail;go_quiet (fail);go_wp2_with fail
    go_ret2
    refine⟨oW (by rw[HX.o];rfl) (by rw[HX.o];rfl),rR.o.trans (.inr rfl) (v1:= .slice none 0 0) (Kp.of_below (below_drewN (Below.refl _ _) _)),λh0=> ?_⟩;rw[HX.o]at h0;cases h0
   ·have hA':A.length<6:=(by omega);have hdec:decide (6<(A.length:Int)+1)=false:=(by rw[decide_eq_false_iff_not];omega);go_wp2_with fail;refine(RY W2 L p aB aD aA ay j A (mem f1) (mem g1) f1.length g1.length _ t t0 r r0 hd hts hj (by unfold maxLen;omega) (Nat.lt_of_le_of_lt yE.o.le (by simpa[jK]using hT)) (Nat.lt_of_le_of_lt uG.o.le (by simpa[jU]using hD)) HI2.o h b e s (dY.o.below (xE.o.mono Ab.o.b0))).mono ?_;rintro e' w3 ⟨rfl,hK3,QI⟩;rw[aq7,ar2,Vq,Vq]at QI;have zZ:aj (w3.heap[nb]? =some (.cells (nI h b e s).toArray 90 (0,0))):=ah ((hK3.far gB.o.2 gB.o.1 (by simp[Value.ownBlock])).trans uF.o);have HI3:=ah QI;have uH:aj (Kp L v w w3):=ah (rR.o.trans (.inr rfl) hK3);have Ho:=ah hK3;have Dq:nb<w3.heap.size:=(Array.getElem?_eq_some_iff.1 zZ.o).1;clear hK3 QI y0 y1 y2 y3 y4 y5 y6 y7 y8 y9 uq c3 hdec NW;obtain⟨y0,y1,y2,y3,y4,y5,y6,y7,y8,y9,uq⟩:=Nz zZ.o;have c3:w3.cell? ⟨L.bc,3,none⟩=some (.slice bK A.length aU):=(dO HI3.o.blk (j:=3) rfl).2;have HE2:aj (res=fG p j t.nm t0.nm (aH.cons h b e R) (bS A) f1 g1):=HE;have Ch:aj (iP p j t.nm t0.nm (bS A) (mem f1) (mem g1) h=0->mg (jK p) (fL 12 h f1)∧mg (jU p) (fL 14 h g1)):=ah (λh0=>⟨Zz yE.o h0,ZA uG.o h0⟩);have HU:aj (fG p j t.nm t0.nm (aH.cons h b e R) (bS A) f1 g1=if iP p j t.nm t0.nm (bS A) (mem f1) (mem g1) h != 0 then⟨iP p j t.nm t0.nm (bS A) (mem f1) (mem g1) h,h.line,f1,g1⟩else Qy p j t.nm t0.nm b e R (bS A) ((bS A).app (.cons h b e .nil)) 0 (fL 12 h f1) (fL 14 h g1)):=ah (by rw[fG,if_neg (by rw[qA,decide_eq_true_iff];omega)];rfl);generalize iP p j t.nm t0.nm (bS A) (mem f1) (mem g1) h=x at *;cases hx:(x != 0)
    ·have HT:aj (res=Qy p j t.nm t0.nm b e R (bS A) ((bS A).app (.cons h b e .nil)) 0 (fL 12 h f1) (fL 14 h g1)):=ah (HE2.o.trans (HU.o.trans (by rw[hx];rfl)));have vH:=ah (Ch.o (by simpa using hx));clear HU Ch HE HE2;go_upto_region 9 with fail;obtain⟨Y0,Y1,Y2,Y3,Y4,Y5,Y6,Y7,Y8,Y9,nQ⟩:=yg Dq y0 y1 y2 y3 y4 y5 y6 y7 y8 y9 uq;have L3:=fM (by have:=HI3.o.sz;have:=L.c1;show L.bc<_;omega) c3;clear y0 y1 y2 y3 y4 y5 y6 y7 y8 y9 uq c3;refine bf (by kernel_rfl) rfl ?_;refine aX 0 7 [] [[],[0],[0,1],[0,1,2],[],[0,1,2,3],[],[0,1,2,3,4,5,6],[0,1,2,3,4,5,6,7],[0,1,2,3,4,5,6,7,8],[0,1,2,3,4,5,6,7],[0,1,2,3,4,5,6,7,10],[0,1,2,3,4,5,6,7,10,11]] [[],[],[],[],[],[],[]] (λ_ w'=>Below w3.heap.size w3 w') (λw w'=>Below w.heap.size w w') [36,37,38,39,40,41,42] rfl rfl (by rfl) (by kernel_rfl) (by kernel_rfl) (by kernel_rfl) (by kernel_rfl) (by kernel_rfl) (by rfl) (λ_=>Below.refl _ _) (by rfl) (below_drewN (Below.refl _ _) 1) ?_;simp only[eP,jq]
     iterate 6
      apply aR.step
      case aJ=>intro c A w' hok hC hO hD;have e0:=hO 0 (by rfl);have e7:=hO 7 (by rfl);simp[Act.eval]at e0 e7;simp[Act.eval]at hD;simp[go_sem,gd,Oper.wp,hD,e0,e7,L3,hC,Y0,Y1,Y2,Y3,Y4,Y5,Y6,Y7,Y8,Y9,nQ];exact aG.mk (Below.refl _ _) hC (aW.mk _ _)
     refine aR.some (λv w'=> ∃bb,v= .slice (some ⟨bb,0,none⟩) 1 1∧w'.heap[bb]? =some (.cells Wz 90 (0,0))) ?_ ?_ ?_
     ·rintro v w w' hle ⟨bb,rfl,hbb⟩;exact⟨bb,rfl,(hle.block bb (Array.getElem?_eq_some_iff.1 hbb).1).trans hbb⟩
     ·intro c A w' hok hC hO hD;simp[go_sem,gd,Oper.wp];exact aG.mk (d:=_) (v:= .slice (some ⟨_,0,none⟩) 1 1) (ak _ _) (hC.trans ((ak _ _).mono hC.size)) ⟨_,rfl,heap_alloc_new _ _⟩
     try simp only[bP]
     refine aR.done ?_;intro wz bH;simp only[List.drop_zero];intro v0 h0 v1 h1 v2 h2 v3 h3 v4 h4 v5 h5 v6 h6;have h0':v0=_:=h0;have h1':v1=_:=h1;have h2':v2=_:=h2;have h3':v3=_:=h3;have h4':v4=_:=h4;have h5':v5=_:=h5;subst h0' h1' h2' h3' h4' h5';obtain⟨bb,rfl,hbb⟩:=h6;clear h0 h1 h2 h3 h4 h5;refine dA.nil ?_;go_simp;refine cK 7 [[],[0],[0,1],[0,1,2],[],[0,1,2,3],[],[0,1,2,3,4,5,6],[0,1,2,3,4,5,6,7],[0,1,2,3,4,5,6,7,8],[0,1,2,3,4,5,6,7],[0,1,2,3,4,5,6,7,10],[0,1,2,3,4,5,6,7,10,11]] rfl rfl rfl rfl rfl (by kernel_rfl) (by kernel_rfl) (by kernel_rfl) ?_;obtain⟨i0,hi0,hz0,hz1,hz2⟩:=Rj;have Ce:=ah (HI3.o.below bH);refine wp_append_lies wz _ _ _ (by rfl) L.B1 90 i0 _ 11 176 Tryz.underlying50 hi0 hz0 hz1 hz2 (by rfl) (by omega) (.slice bK A.length aU) A.length (zy A) (by rfl) Ce.o.row ⟨bb,0,none⟩ 1 1 Wz.toList (by rfl) (by rfl) (World.news_of_block hbb) (by decide) (by omega) (by unfold maxLen;omega) (by omega) Ce.o.sz wz.heap.size rfl ?_;intro g' cap' w4 qP oL wT Dp;clear hi0 hz0 hz1 hz2 hbb Y0 Y1 Y2 Y3 Y4 Y5 Y6 Y7 Y8 Y9 nQ L3;have uK:=ah (HI3.o.push ⟨h,b,e,s⟩ (dY.o.below ((xE.o.mono Ab.o.b0).trans (Ho.o.below HI2.o.b0 (by simp[Value.ownBlock])))) bH qP oL wT);have hgb:=(qP.lt g' rfl).1;have dH:aj (w4.heap[L.bc]? =some (.cells (ckV p aB aD aA ay (j:Int) (.slice bK A.length aU) L.bs L.bt) 110 (0,0))):=ah (by
      rw[oL.block _ (by have:=Ce.o.sz;have:=L.c1;omega) (λe'=>by
       have:=Ce.o.own_ne L.c1;rcases this with h1|h1
       ·rw[h1]at e';cases e'
       ·exact h1 e'.symm)]
      exact Ce.o.blk)
     have wL:=ah (JI qP);have Dn:g'≠L.bc:=(by have:=L.c1;omega);clear qP oL wT Dp hgb;go_simp;refine aX 8 13 [9,12] [[],[0],[0,1],[0,1,2],[],[0,1,2,3],[],[0,1,2,3,4,5,6],[0,1,2,3,4,5,6,7],[0,1,2,3,4,5,6,7,8],[0,1,2,3,4,5,6,7],[0,1,2,3,4,5,6,7,10],[0,1,2,3,4,5,6,7,10,11]] [[some false,none],[some false,none],[none,some false],[none,some false],[none,some false]] (PC w4 g' (A.length*11) (nI h b e s) ⟨L.bc,3,none⟩ (.slice (some ⟨g',0,none⟩) (A.length+1) cap')) (λ_ _=>True) [44,45,46] rfl rfl (by rfl) (by kernel_rfl) (by kernel_rfl) (by kernel_rfl) (by kernel_rfl) (by kernel_rfl) (by rfl) (λ_=>trivial) (by rfl) rfl ?_;simp only[eP,jq];have QH:(0:Int)<=(A.length:Int):=(by omega);have hA1:(A.length:Int)<(A.length:Int)+1:=(by omega);apply aR.step
     case aJ=>intro c A w' hok hC hO hD;have e43:=hO 43 (by rfl);have e41:=hO 41 (by rfl);simp[Act.eval]at e43 e41;simp[Act.eval]at hD;simp[go_sem,gd,Oper.wp,hD,e43,e41,hA1];exact aG.mk trivial (PC.skip (by rfl) (by rfl) hC) (aW.mk _ _)
     refine aR.some (λ_ _=>True) (λ_ _ _ _ _=>trivial) ?_ ?_
     ·intro c A' w' hok hC hO hD;obtain⟨x,y,rfl⟩:=hC.bits;obtain⟨rfl,-⟩:=hok;have e40:=hO 40 (by rfl);simp[Act.eval]at hD;simp only[gd,if_true];refine wp_store_mid _ _ _ (by rfl) g' (A.length*11) (nI h b e s).toArray (by simp[Act.eval,hD]) (e40.trans (by rfl)) (CU wL.o (hC.QB Dn)) Rk (by simp[nI,Value.oneCell']) ?_;exact aG.yQ trivial (PC.elt Dn (by rfl) (by rfl) hC) trivial
     try simp only[bP]
     iterate 2
      apply aR.step
      case aJ=>intro c A w' hok hC hO hD;have e36:=hO 36 (by rfl);simp[Act.eval]at e36;simp[Act.eval]at hD;simp[go_sem,gd,Oper.wp,hD,e36];exact aG.mk trivial (PC.skip (by rfl) (by rfl) hC) (aW.mk _ _)
     refine aR.some (λ_ _=>True) (λ_ _ _ _ _=>trivial) ?_ ?_
     ·intro c A' w' hok hC hO hD;obtain⟨x,y,rfl⟩:=hC.bits;obtain⟨rfl,-⟩:=hok;have e43:=hO 43 (by rfl);simp[Act.eval]at e43;simp[Act.eval]at hD;have hbk0:w'.heap[L.bc]? =w4.heap[L.bc]?:=PC.QF (a:=⟨L.bc,3,none⟩) Dn hC (Array.getElem?_eq_some_iff.1 dH.o).1;have hbk:=hbk0.trans dH.o;have hcl:w'.cell? ⟨L.bc,3,none⟩=some (.slice bK A.length aU):=(dO hbk (j:=3) rfl).2;have hfr:w'.frozen? ⟨L.bc,3,none⟩=false:=bG hbk;simp[go_sem,gd,Oper.wp,hD,e43,hcl,hfr];exact aG.yQ (v:=undef) trivial (PC.fld (by rfl) (by rfl) hC) trivial
     simp only[List.nil_append,List.cons_append,List.drop_succ_cons,List.drop_zero];refine aR.done ?_;intro w5 UO;simp only[List.drop_succ_cons,List.drop_zero];intro v0 h0 v1 h1 v2 h2 v3 h3 v4 h4;clear h0 h1 h2 h3 h4;refine dA.nil ?_;refine bT rfl ?_;have ug:aj (w5=(w4.setCells g' (A.length*11) (nI h b e s)).setCell ⟨L.bc,3,none⟩ (.slice (some ⟨g',0,none⟩) (A.length+1) cap')):=ah UO;rw[<- ug.o]at uK;have Cc:=ah uK.o.1;have Qf:aj (Kp L v w w5):=ah (uH.o.trans (.inl (HO.o.trans (.inl rfl) (Nat.le_refl _))) uK.o.2.1);have Hq:=ah uK.o.2.1;have JW:=ah uK.o.2.2;clear UO ug uK wL dH QH hA1 Dn;go_simp;have Ee:aj (w5.heap[nb]? =some (.cells (nI h b e s).toArray 90 (0,0))):=ah ((Hq.o.far Dq gB.o.1 MQ.o).trans zZ.o);have JX:=ah (JW.o.ne Dq MQ.o);have Qj:aj (yV w v (.slice (some ⟨g',0,none⟩) (A.length+1) cap')):=ah (HO.o.trans JW.o uH.o.size);have MW:aj (aH.At w5 L.B0 R (some ⟨bl,off,none⟩) (k+1)):=ah (jE.o.below (((xE.o.mono Ab.o.b0).trans (Ho.o.below HI2.o.b0 (by simp[Value.ownBlock]))).trans (Hq.o.below HI3.o.b0 (λq hq=>(HI3.o.row.lt q hq).1))));have ji:aj (b.len<=maxLen∧e.len<=maxLen):=ah dY.o.1.2.2.2.2.2.2;obtain⟨-,-,-,-,-,-,-,-,-,y9,uq⟩:=Nz Ee.o;clear hx Dq Ce bH HI3 uH Ho zZ Hq JW MQ HI2 rR uF xE Ab dY jE HO HK yE uG HF HG HI HAT;go_wp2_with fail;go_loopw [10,11,12,52] (λ_ _ _ s52 wq=> ∃(kk:Nat) (f2 g2:List (List UInt8)) (v2:Value),s52= .int .i64 kk∧kk<=2∧res=Qy p j t.nm t0.nm b e R (bS A) ((bS A).app (.cons h b e .nil)) kk f2 g2∧mg (jK p) f2∧mg (jU p) g2∧Kp L v w wq∧yV w v v2∧v2.ownBlock≠some nb∧wq.heap[nb]? =some (.cells (nI h b e s).toArray 90 (0,0))∧R.At wq L.B0 (some ⟨bl,off,none⟩) (k+1)∧lG wq L p aB aD aA ay (j:Int) (A++[⟨h,b,e,s⟩]) (mem f2) (mem g2) f2.length g2.length v2) (λ_ _ _ s52 _=>2 -(intOf s52).toNat)
     case atStart=>exact⟨0,_,_,_,rfl,by omega,HT.o,vH.o.1,vH.o.2,Qf.o,Qj.o,JX.o,Ee.o,MW.o,Cc.o⟩
     case round=>
      obtain⟨kk,f2,g2,v2,rfl,hkk,heq2,hf2,hg2,NZ,QK,ar9,ar8,hR6,QJ⟩:=hrel;clear y9 uq;have IV:=ah heq2;have xI:=ah hf2;have HG2:=ah hg2;have El:=ah NZ;have En:=ah QK;have JY:=ah ar9;have BK:=ah ar8;have IQ:=ah hR6;have wJ:=ah QJ;have HIS:=ah (QJ.oJ ⟨h,b,e,s⟩ (by simp));clear heq2 hf2 hg2 NZ QK ar9 ar8 hR6 QJ HT vH Qf Qj JX Ee MW Cc;have hk3:kk=0∨kk=1∨kk=2:=(by omega);have ixa:=ix0 s.bR s.fH b.len s.aY e.len s.dX;have ixb:=ix1 s.bR s.fH b.len s.aY e.len s.dX;rcases hk3 with rfl|rfl|rfl
      ·have tX:aj (res=if(fG p j t.nm t0.nm b (bS (A++[⟨h,b,e,s⟩])) f2 g2).err != 0 then fG p j t.nm t0.nm b (bS (A++[⟨h,b,e,s⟩])) f2 g2 else NK p j t.nm t0.nm e R (bS A) (bS (A++[⟨h,b,e,s⟩])) (fG p j t.nm t0.nm b (bS (A++[⟨h,b,e,s⟩])) f2 g2).f (fG p j t.nm t0.nm b (bS (A++[⟨h,b,e,s⟩])) f2 g2).g):=ah (by rw[yt];exact IV.o);clear IV;go_wp2_with fail;refine(N7.o.1 _ s.bR s.aY (A++[⟨h,b,e,s⟩]) f2 g2 v2 ji.o.1 HIS.o.2.2.2.1 (by simp;omega) xI.o HG2.o wJ.o).mono ?_;rintro e' w7 ⟨rfl,zB,Fa⟩;generalize fG p j t.nm t0.nm b (bS (A++[⟨h,b,e,s⟩])) f2 g2=r1 at *;have Gs:aj (Kp L v w w7):=ah (El.o.trans (.inl En.o) zB);have Ae:=ah Fa;have Ed:aj (w7.heap[nb]? =some (.cells (nI h b e s).toArray 90 (0,0))):=ah ((zB.far (Array.getElem?_eq_some_iff.1 BK.o).1 gB.o.1 JY.o).trans BK.o);have KT:aj (R.At w7 L.B0 (some ⟨bl,off,none⟩) (k+1)):=ah (IQ.o.below (zB.below wJ.o.b0 (λq hq=>(wJ.o.row.lt q hq).1)));clear zB Fa;cases hr1:(r1.err != 0)
       ·have IW:aj (res=Qy p j t.nm t0.nm b e R (bS A) ((bS A).app (.cons h b e .nil)) 1 r1.f r1.g):=ah (tX.o.trans ((if_neg (by rw[hr1];decide)).trans (by first|rfl|(simp only[yt];rfl))));obtain⟨Lv,F9,v7,F5,Bw⟩:=Ae.o (by simpa using hr1);have Ak:=ah (And.intro Lv (And.intro F9 (And.intro F5 Bw)));clear Lv F9 F5 Bw Ae tX;go_wp2_with fail;go_roundw
        case rel=>exact⟨1,r1.f,r1.g,v7,rfl,by omega,IW.o,Ak.o.1,Ak.o.2.1,Gs.o,En.o.trans Ak.o.2.2.1 El.o.size,Ak.o.2.2.1.ne (Array.getElem?_eq_some_iff.1 BK.o).1 JY.o,Ed.o,KT.o,Ak.o.2.2.2⟩
        case measure=>simp[intOf]
       ·have zm:aj (res=r1):=ah (tX.o.trans (if_pos hr1));have HX0:aj (r1.err≠0):=ah (by simpa using hr1);clear tX Ae;go_wp2_with fail
        go_ret2
        refine⟨oW (by rw[zm.o];rfl) (by rw[zm.o];rfl),Gs.o,λh0=> ?_⟩;rw[zm.o]at h0;exact(HX0.o h0).elim
      ·have tX:aj (res=if(fG p j t.nm t0.nm e (bS (A++[⟨h,b,e,s⟩])) f2 g2).err != 0 then fG p j t.nm t0.nm e (bS (A++[⟨h,b,e,s⟩])) f2 g2 else fG p j t.nm t0.nm R (bS A) (fG p j t.nm t0.nm e (bS (A++[⟨h,b,e,s⟩])) f2 g2).f (fG p j t.nm t0.nm e (bS (A++[⟨h,b,e,s⟩])) f2 g2).g):=ah (by rw[yt];exact IV.o);clear IV;go_wp2_with fail;refine(N7.o.2 _ s.fH s.dX (A++[⟨h,b,e,s⟩]) f2 g2 v2 ji.o.2 HIS.o.2.2.2.2 (by simp;omega) xI.o HG2.o wJ.o).mono ?_;rintro e' w7 ⟨rfl,zB,Fa⟩;generalize fG p j t.nm t0.nm e (bS (A++[⟨h,b,e,s⟩])) f2 g2=r1 at *;have Gs:aj (Kp L v w w7):=ah (El.o.trans (.inl En.o) zB);have Ae:=ah Fa;have Ed:aj (w7.heap[nb]? =some (.cells (nI h b e s).toArray 90 (0,0))):=ah ((zB.far (Array.getElem?_eq_some_iff.1 BK.o).1 gB.o.1 JY.o).trans BK.o);have KT:aj (R.At w7 L.B0 (some ⟨bl,off,none⟩) (k+1)):=ah (IQ.o.below (zB.below wJ.o.b0 (λq hq=>(wJ.o.row.lt q hq).1)));clear zB Fa;cases hr1:(r1.err != 0)
       ·have IW:aj (res=Qy p j t.nm t0.nm b e R (bS A) ((bS A).app (.cons h b e .nil)) 2 r1.f r1.g):=ah (tX.o.trans ((if_neg (by rw[hr1];decide)).trans (by first|rfl|(simp only[yt];rfl))));obtain⟨Lv,F9,v7,F5,Bw⟩:=Ae.o (by simpa using hr1);have Ak:=ah (And.intro Lv (And.intro F9 (And.intro F5 Bw)));clear Lv F9 F5 Bw Ae tX;go_wp2_with fail;go_roundw
        case rel=>exact⟨2,r1.f,r1.g,v7,rfl,by omega,IW.o,Ak.o.1,Ak.o.2.1,Gs.o,En.o.trans Ak.o.2.2.1 El.o.size,Ak.o.2.2.1.ne (Array.getElem?_eq_some_iff.1 BK.o).1 JY.o,Ed.o,KT.o,Ak.o.2.2.2⟩
        case measure=>simp[intOf]
       ·have zm:aj (res=r1):=ah (tX.o.trans (if_pos hr1));have HX0:aj (r1.err≠0):=ah (by simpa using hr1);clear tX Ae;go_wp2_with fail
        go_ret2
        refine⟨oW (by rw[zm.o];rfl) (by rw[zm.o];rfl),Gs.o,λh0=> ?_⟩;rw[zm.o]at h0;exact(HX0.o h0).elim
      ·have IW:aj (res=fG p j t.nm t0.nm R (bS A) f2 g2):=IV;obtain⟨g7,BQ,rfl,hc7⟩: ∃g7 BQ,v2= .slice (some ⟨g7,0,none⟩) (A.length+1) BQ∧A.length+1<=BQ:=by
        rcases wJ.o.row.2 with⟨-,hn⟩|⟨g',cap,cur,e',-,-,hcc,-⟩
        ·simp at hn
        ·exact⟨g',cap,by rw[e'];simp,by simpa using hcc⟩
       have hcl: ∀w',Below (World.heap wr).size wr w'->w'.cell? ⟨L.bc,3,none⟩=some (.slice (some ⟨g7,0,none⟩) (A.length+1) BQ):=λw' hb=>(hb.cell (p:=⟨L.bc,3,none⟩) (by have:=wJ.o.sz;have:=L.c1;show L.bc<_;omega)).trans (dO wJ.o.blk (j:=3) rfl).2;have hz1:(0:Int)<=(A.length:Int):=(by omega);have hz2:(A.length:Int)<=(BQ:Int):=(by omega);have hwr:IntKind.i64.wrap (A.length:Int)=(A.length:Int):=IntWalk.i64_in _ (by omega);have Dr:(A.length:Int)+1 -1=(A.length:Int):=(by omega);clear IV ixa ixb;go_upto_region 17 with fail;refine bf (by kernel_rfl) rfl ?_;refine aX 0 14 [] [[],[],[1],[1,2],[1,2,3],[],[5],[5,6],[5,6,7],[5,6,7,8],[5,6,7,8,9],[1,2,3,4,5,6,7,8,9,10],[0,1,2,3,4,5,6,7,8,9,10,11],[0,1,2,3,4,5,6,7,8,9,10,11,12],[0,1,2,3,4,5,6,7,8,9,10,11,12,13]] [[],[],[],[],[],[],[],[],[],[],[],[],[],[]] (λ_ w'=>Below (World.heap wr).size wr w') (λw w'=>Below w.heap.size w w') [66,67,68,69,70,71,72,73,74,75,76,77,78,79] rfl rfl (by rfl) (by kernel_rfl) (by kernel_rfl) (by kernel_rfl) (by kernel_rfl) (by kernel_rfl) (by rfl) (λ_=>Below.refl _ _) (by rfl) (below_drewN (Below.refl _ _) 1) ?_;simp only[eP,jq]
       iterate 14
        apply aR.step
        case aJ=>intro c A w' hok hC hO hD;have e0:=hO 0 (by rfl);simp[Act.eval]at e0;simp[Act.eval]at hD;simp[go_sem,gd,Oper.wp,hD,e0,hcl,hC,Dr,hwr,hz1,hz2];exact aG.mk (Below.refl _ _) hC (aW.mk _ _)
        try simp only[bP]
       try simp only[bP]
       refine aR.done ?_;intro wz bH;simp only[List.drop_zero];intro v0 h0 v1 h1 v2 h2 v3 h3 v4 h4 v5 h5 v6 h6 v7 h7 v8 h8 v9 h9 v10 h10 v11 h11 v12 h12 v13 Az;have Ic:v11=_:=h11;have Kh:v13=_:=Az;subst Ic Kh;clear h0 h1 h2 h3 h4 h5 h6 h7 h8 h9 h10 h11 h12 Az;refine dA.nil ?_;go_simp;have KQ:=ah (lG.pop ⟨h,b,e,s⟩ wJ.o bH);have hclz:wz.cell? ⟨L.bc,3,none⟩=some (.slice (some ⟨g7,0,none⟩) (A.length+1) BQ):=hcl wz bH;have Oc:wz.frozen? ⟨L.bc,3,none⟩=false:=bG ((wJ.o.below bH).blk);clear hcl Dr hwr;refine cK 14 [[],[],[1],[1,2],[1,2,3],[],[5],[5,6],[5,6,7],[5,6,7,8],[5,6,7,8,9],[1,2,3,4,5,6,7,8,9,10],[0,1,2,3,4,5,6,7,8,9,10,11],[0,1,2,3,4,5,6,7,8,9,10,11,12],[0,1,2,3,4,5,6,7,8,9,10,11,12,13]] rfl rfl rfl rfl rfl (by kernel_rfl) (by kernel_rfl) (by kernel_rfl) ?_;simp[go_sem,Oper.wp,hclz,Oc];refine bT rfl ?_;clear hclz Oc bH;go_simp;go_wp2_with fail;go_roundw
       case rel=>exact⟨k+1,R,f2,g2,.slice (some ⟨g7,0,none⟩) A.length BQ,by go_num,by simp only[aH.len]at hlen;omega,IW.o,WE.o,IQ.o.below (KQ.o.2.below wJ.o.b0 (λq hq=>(wJ.o.row.lt q hq).1)),xI.o,HG2.o,El.o.trans (.inl En.o) KQ.o.2,En.o.trans (.inl rfl) El.o.size,KQ.o.1⟩
       case measure=>simp[intOf];omega
    ·have HX:aj (res=⟨x,h.line,f1,g1⟩):=ah (HE2.o.trans (HU.o.trans (by rw[hx];rfl)));have HX0:aj (x≠0):=ah (by simpa using hx);clear HU Ch HE HE2;go_wp2_with fail;go_quiet (fail);go_wp2_with fail
     go_ret2
     refine⟨oW (by rw[HX.o];rfl) (by rw[HX.o];rfl),uH.o.trans (.inr rfl) (v1:= .slice none 0 0) (Kp.of_below (below_drewN (Below.refl _ _) _)),λh0=> ?_⟩;rw[HX.o]at h0;exact(HX0.o h0).elim
theorem RX (L:Lay) (p:Pr) (aB aD:Option Addr) (aA ay:Nat) (j:Nat) (t t0:Th) (r r0:List Th) (hd:p.ts.drop j=t::r) (hts:p.ts=t0::r0) (hj:fD (j:Int)) (hT:p.ts.length<maxLen) (hD:p.ds.length<maxLen) (l:aH):C8 L p aB aD aA ay j t t0 l:=
 EO L p aB aD aA ay j t t0 r r0 hd hts hj hT hD l (aH.lM (λ_ b e hb he=>⟨EO L p aB aD aA ay j t t0 r r0 hd hts hj hT hD b hb,EO L p aB aD aA ay j t t0 r r0 hd hts hj hT hD e he⟩) l)
namespace Md
def iZ (p:Pr) (gT:ByteArray):List Th->Nat->List (List UInt8)->List (List UInt8)->KC
 | [],_,f,g=>⟨0,0,f,g⟩
 |t::r,j,f,g=>if(fG p j t.nm gT t.body .nil f g).err != 0 then fG p j t.nm gT t.body .nil f g else iZ p gT r (j+1) (fG p j t.nm gT t.body .nil f g).f (fG p j t.nm gT t.body .nil f g).g
end Md
def ZO (n:Nat) (h:0<n):Lay where
 B0:=n
 B1:=n+4
 bc:=n+1+1+1
 bs:=n+1
 bt:=n+1+1
 c0:=by omega
 s0:=by omega
 t0:=by omega
 c1:=by omega
 s1:=by omega
 t1:=by omega
 cs:=by omega
 ct:=by omega
 st:=by omega
 kw:=h
theorem ab7 {p:Pr} {w W:World} {aB aD:Option Addr} {aA ay:Nat} (hp:p.At w aB aD) (dG:dD w)
 (hW:((((w.alloc (.cells #[.slice aB p.ds.length aA,.slice aD p.ts.length ay] 25)).alloc (.map #[] 0)).alloc (.map #[] 0)).alloc (.cells #[.slice aB p.ds.length aA,.slice aD p.ts.length ay,.int .i64 0,.slice none 0 0,.map (some (w.heap.size+1)),.map (some (w.heap.size+1+1))] 110))=W):
 lG W (ZO w.heap.size dG.lt) p aB aD aA ay 0 [] (mem []) (mem []) 0 0 (.slice none 0 0)∧Below w.heap.size w W∧W.heap[w.heap.size]? =some (.cells #[.slice aB p.ds.length aA,.slice aD p.ts.length ay] 25 (0,0)):=by
 have hb:Below w.heap.size w W:=by rw[<- hW];exact((((Below.refl _ _).alloc (Nat.le_refl _) _).alloc (by simp) _).alloc (by simp;omega) _).alloc (by simp;omega) _
 have h0:W.heap[w.heap.size]? =some (.cells #[.slice aB p.ds.length aA,.slice aD p.ts.length ay] 25 (0,0)):=by rw[<- hW,heap_alloc_old _ _ (by simp;omega),heap_alloc_old _ _ (by simp;omega),heap_alloc_old _ _ (by simp)];exact heap_alloc_new _ _
 have h1:iN W (w.heap.size+1) 0 (mem []):=by
  have:=iN.made (w.alloc (.cells #[.slice aB p.ds.length aA,.slice aD p.ts.length ay] 25));have e:(w.alloc (.cells #[.slice aB p.ds.length aA,.slice aD p.ts.length ay] 25)).heap.size=w.heap.size+1:=by simp
  rw[e]at this;refine iN.same (f:=mem []) this ?_;rw[<- hW,heap_alloc_old _ _ (by simp),heap_alloc_old _ _ (by simp)]
 have h2:iN W (w.heap.size+1+1) 0 (mem []):=by
  have:=iN.made ((w.alloc (.cells #[.slice aB p.ds.length aA,.slice aD p.ts.length ay] 25)).alloc (.map #[] 0));have e:((w.alloc (.cells #[.slice aB p.ds.length aA,.slice aD p.ts.length ay] 25)).alloc (.map #[] 0)).heap.size=w.heap.size+1+1:=by simp
  rw[e]at this;refine iN.same (f:=mem []) this ?_;rw[<- hW,heap_alloc_old _ _ (by simp)]
 have h3:W.heap[w.heap.size+1+1+1]? =some (.cells (ckV p aB aD aA ay 0 (.slice none 0 0) (w.heap.size+1) (w.heap.size+1+1)) 110 (0,0)):=by
  rw[<- hW];have e:(((w.alloc (.cells #[.slice aB p.ds.length aA,.slice aD p.ts.length ay] 25)).alloc (.map #[] 0)).alloc (.map #[] 0)).heap.size=w.heap.size+1+1+1:=by simp
  rw[<- e];exact heap_alloc_new _ _
 refine⟨{blk:=h3,row:=World.ownsRow_nil _ _ _ _,ms:=h1,mt:=h2,sz:= ?_,dat:= ?_,oJ:=by intro x hx;simp at hx},hb,h0⟩
 ·show w.heap.size+4<=W.heap.size;rw[<- hW];simp
 ·exact⟨hp.1,hp.2.1,hp.2.2.1.below hb,hp.2.2.2.below hb,dG.same hb⟩
theorem lG.YB {w:World} {L:Lay} {p:Pr} {aB aD:Option Addr} {aA ay:Nat} {i i':Int} {A:List Fr} {f g:List UInt8->Bool} {n m:Nat} {v:Value}
 (h:lG w L p aB aD aA ay i A f g n m v):lG (w.setCell ⟨L.bc,2,none⟩ (.int .i64 i')) L p aB aD aA ay i' A f g n m v:=by
 have hg:=bQ w ⟨L.bc,2,none⟩ (.int .i64 i');have hbel:=bL hg L.c0 h.b0;exact {blk:=by rw[eZ h.blk];rfl,row:=h.row.kept hg (h.own_ne L.c1),ms:=h.ms.same (bY w _ _ rfl L.cs),mt:=h.mt.same (bY w _ _ rfl L.ct),sz:=Nat.le_trans h.sz hg.size,dat:=h.dat.below hbel,oJ:=λx hx=>(h.oJ x hx).below hbel}
theorem Pw (p:Pr) (w:World) (aB aD:Option Addr) (aA ay:Nat) (t0:Th) (r0:List Th) (hts:p.ts=t0::r0) (hT:p.ts.length<maxLen) (hD:p.ds.length<maxLen) (hp:p.At w aB aD) (dG:dD w):
 Calls Tryz.prog 30 #[.agg #[.slice aB p.ds.length aA,.slice aD p.ts.length ay]] w λe w'=>e= .returned (.tuple #[.int .i64 (iZ p t0.nm p.ts 0 [] []).err,.int .i64 (iZ p t0.nm p.ts 0 [] []).line])∧Below w.heap.size w w':=by
 generalize hres:iZ p t0.nm p.ts 0 [] []=res;have HR:=ah hres;have HP:=ah hp;have iF:=ah dG;have kF:=ah hts;have HT:=ah hT;unfold maxLen at hT;clear hres hp dG hts;have hmm:= @run_makeMap Tryz.prog;go_enter Tryz.func30,Tryz.ntmps30;go_upto_region 2 with fail;generalize hW:World.alloc (World.alloc (World.alloc (World.alloc w _) _) _) _=W;generalize Value.agg #[_,_]=a0;have HS:=ah (ab7 HP.o iF.o hW);obtain⟨L,hL⟩: ∃L,ZO w.heap.size iF.o.lt=L:=⟨_,rfl⟩;have UR:w.heap.size+1+1+1=L.bc:=by rw[<- hL];rfl
 have HL0:aj (w.heap.size=L.B0):=ah (by rw[<- hL];rfl);rw[hL]at HS;clear hW hL hmm;have c0:W.cell? ⟨w.heap.size,1,none⟩=some (.slice aD p.ts.length ay):=(dO HS.o.2.2 (j:=1) rfl).2;rw[UR];clear UR;go_wp2_with fail;go_loopw [5,6,7,8,17] (λ_ _ _ _ s wr=> ∃(k:Nat) (R:List Th) (f1 g1:List (List UInt8)) (v1:Value) (i1:Int),s= .int .i64 k∧k+R.length=p.ts.length∧p.ts.drop k=R∧res=iZ p t0.nm R k f1 g1∧mg (jK p) f1∧mg (jU p) g1∧Below L.B0 w wr∧lG wr L p aB aD aA ay i1 [] (mem f1) (mem g1) f1.length g1.length v1) (λ_ _ _ _ s _=>p.ts.length -(intOf s).toNat)
 case atStart=>exact⟨0,p.ts,[],[],_,0,rfl,by simp,rfl,HR.o.symm,⟨List.nodup_nil,by simp⟩,⟨List.nodup_nil,by simp⟩,by rw[<- HL0.o];exact HS.o.2.1,HS.o.1⟩
 case round=>
  obtain⟨k,R,f1,g1,v1,i1,rfl,hlen,hdr,heq,hf1,hg1,hB,hI⟩:=hrel;have HE:=ah heq;have yE:=ah hf1;have uG:=ah hg1;have HB:=ah hB;have HI:=ah hI;have HDR:=ah hdr;clear heq hf1 hg1 hB hI hdr c0 HS;cases R with
  |nil=>
   obtain rfl:k=p.ts.length:=by simpa using hlen
   have HX:aj (res.err=0∧res.line=0):=ah (by rw[HE.o];exact⟨rfl,rfl⟩);go_wp2_with fail
   go_ret2
   exact⟨oW (by rw[HX.o.1];rfl) (by rw[HX.o.2];rfl),by rw[HL0.o];exact HB.o⟩
  |cons t R=>
   have hrow:=HI.o.dat.2.2.2.1.drop k;rw[HDR.o,Nat.zero_add]at hrow;obtain⟨⟨bl,off,fC,dw,bR,aY,rfl,hbl,x0,x1,x2,x3,hok,htx,hst,-⟩,-⟩:=hrow;simp only[List.length_cons]at hlen;have hkl:k<p.ts.length:=by omega
   have mZ:=ah hok;have HST:=ah hst;clear hok hst htx hbl;go_upto_region 5 with fail;obtain⟨nb,hnb⟩: ∃n,wr.heap.size=n:=⟨_,rfl⟩;generalize hW2:World.alloc wr _=W2;have uF:aj (W2.heap[nb]? =some (.cells #[.string t.nm,.int .i64 t.line,.slice fC t.bg.length dw,.slice bR t.body.len aY] 52 (0,0))):=ah (by rw[<- hW2,<- hnb];exact heap_alloc_new _ _);have xE:aj (Below wr.heap.size wr W2):=ah (by rw[<- hW2];exact ak _ _);have HI2:=ah (HI.o.below xE.o);have gB:aj (L.B1<=nb):=ah (by rw[<- hnb];exact HI.o.sz);have HB2:aj (Below L.B0 w W2):=ah (HB.o.trans (xE.o.mono HI.o.b0));have al5:=ah (HST.o.below (xE.o.mono HI.o.b0));rw[hnb];clear hW2 hnb x0 x1 x2 x3 HST HB;have c2:W2.cell? ⟨L.bc,2,none⟩=some (.int .i64 i1):=(dO HI2.o.blk (j:=2) rfl).2;have f2:W2.frozen? ⟨L.bc,2,none⟩=false:=bG HI2.o.blk;go_upto_region 6 with fail;generalize hW3:World.setCell W2 _ _=W3;have mK:aj (W2.grownBy W3 (some L.bc)):=ah (by rw[<- hW3];exact bQ _ _ _);have HI3:aj (lG W3 L p aB _ aA ay (k:Int) [] (mem f1) (mem g1) f1.length g1.length v1):=ah (by rw[<- hW3];exact HI2.o.YB);have zZ:aj (W3.heap[nb]? =some (.cells #[.string t.nm,.int .i64 t.line,.slice fC t.bg.length dw,.slice bR t.body.len aY] 52 (0,0))):=ah ((mK.o.block _ (Array.getElem?_eq_some_iff.1 uF.o).1 (by have:=L.c1;have:=gB.o;simp;omega)).trans uF.o);have mQ:=ah (bL mK.o L.c0 HI2.o.b0);have HB3:=ah (HB2.o.trans mQ.o);have aP7:=ah (al5.o.below mQ.o);clear hW3 c2 f2 HI2 uF xE HB2 al5 mQ HI;have y3:W3.cell? ⟨nb,3,none⟩=some (.slice bR t.body.len aY):=(dO zZ.o (j:=3) rfl).2;have tX:aj (res=if(fG p k t.nm t0.nm t.body (bS []) f1 g1).err != 0 then fG p k t.nm t0.nm t.body (bS []) f1 g1 else iZ p t0.nm R (k+1) (fG p k t.nm t0.nm t.body (bS []) f1 g1).f (fG p k t.nm t0.nm t.body (bS []) f1 g1).g):=ah HE.o;clear HE;go_wp2_with fail;refine(RX L p _ _ aA ay k t t0 R r0 HDR.o kF.o (by unfold fD;omega) HT.o hD t.body W3 bR aY [] f1 g1 v1 mZ.o.2.2.2 aP7.o (by simp) yE.o uG.o HI3.o).mono ?_;rintro e' w4 ⟨rfl,hK4,hq4⟩;generalize fG p k t.nm t0.nm t.body (bS []) f1 g1=r1 at *;have dH:=ah (HB3.o.trans (hK4.below HI3.o.b0 (λq hq=>(HI3.o.row.lt q hq).1)));have yG:=ah hq4;clear hK4 hq4;cases hr1:(r1.err != 0)
   ·have IW:aj (res=iZ p t0.nm R (k+1) r1.f r1.g):=ah (tX.o.trans (if_neg (by rw[hr1];decide)));obtain⟨Lv,F9,v7,-,Bw⟩:=yG.o (by simpa using hr1);have Ak:=ah (And.intro Lv (And.intro F9 Bw));have HD7:aj (p.ts.drop (k+1)=R):=ah (by rw[<- List.drop_drop,HDR.o];rfl);clear Lv F9 Bw yG tX;go_wp2_with fail;go_roundw
    case rel=>exact⟨k+1,R,r1.f,r1.g,v7,_,by go_num,by omega,HD7.o,IW.o,Ak.o.1,Ak.o.2.1,dH.o,Ak.o.2.2⟩
    case measure=>simp[intOf];omega
   ·have zm:aj (res=r1):=ah (tX.o.trans (if_pos hr1));clear tX yG;go_wp2_with fail
    go_ret2
    exact⟨oW (by rw[zm.o];rfl) (by rw[zm.o];rfl),by rw[HL0.o];exact dH.o⟩
end Go.Proofs.YtkmllehjemjgpaaGreatDoor
