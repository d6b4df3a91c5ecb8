/- Data does not lie in a block that holds slices alone; a write there leaves it. No program in sight. And what hangs on it. -/
import Derived.Test.YtgjmahnblcajbaaGreatDoorGMA
import Derived.Test.YtgjmahnblcajbaaGreatDoorGMB
import Derived.Test.YtgjmahnblcajbaaGreatDoorGRF
import Derived.Test.YtgjmahnblcajbaaGreatDoorGVP
import Derived.Test.YtgjmahnblcajbaaGreatDoorGCE
import Derived.Test.YtgjmahnblcajbaaGreatDoorGVD
set_option linter.unusedSimpArgs false
set_option linter.unusedVariables false
set_option maxHeartbeats 40000000
set_option maxRecDepth 1000000
namespace Go.Proofs.YtgjmahnblcajbaaGreatDoor
open Go.RowKit
namespace Md
def CQ (g:Nat) (w:World):Prop:= ∀o,(∀k n,w.cell? ⟨g,o,none⟩≠some (.int k n))∧ ∀s,w.cell? ⟨g,o,none⟩≠some (.string s)
section
variable {w w':World} {g B:Nat}
def Ak (g:Nat) (w w':World):Prop:= ∀b,b≠g->b < w.heap.size-> ∀o,w'.cell? ⟨b,o,none⟩=w.cell? ⟨b,o,none⟩
theorem dU.off (hg:CQ g w) (ho:Ak g w w') (hB:B<=w.heap.size): ∀ {l:List ByteArray} {ao:Option Addr} {k:Nat},dU w B l ao k->dU w' B l ao k
 | [],_,_,_=>trivial
 | _ ::_,_,_,⟨⟨b,off,e,hb,c,hs⟩,hr⟩=>by
   have hne:b≠g:=fun q=>by subst q; exact (hg _).2 _ c
   exact ⟨⟨b,off,e,hb,(ho b hne (Nat.lt_of_lt_of_le hb hB) _).trans c,hs⟩,dU.off hg ho hB hr⟩
theorem gQ.off (hg:CQ g w) (ho:Ak g w w') (hB:B<=w.heap.size): ∀ {l:List De} {ao:Option Addr} {k:Nat},gQ w B l ao k->gQ w' B l ao k
 | [],_,_,_=>trivial
 | _ ::_,_,_,⟨⟨b,off,e,hb,c0,c1,c2,c3,c4,c5,hs⟩,hr⟩=>by
   have hne:b≠g:=fun q=>by subst q; exact (hg _).1 _ _ c0
   have h:=ho b hne (Nat.lt_of_lt_of_le hb hB);exact ⟨⟨b,off,e,hb,(h _).trans c0,(h _).trans c1,(h _).trans c2,(h _).trans c3,(h _).trans c4,(h _).trans c5,hs⟩,gQ.off hg ho hB hr⟩
theorem bf.At.off (hg:CQ g w) (ho:Ak g w w') (hB:B<=w.heap.size): ∀ {l:bf} {ao:Option Addr} {k:Nat},l.At w B ao k->l.At w' B ao k
 | .nil,_,_,_=>trivial
 | .cons _ _ _ _ _,_,_,h=>by
   obtain ⟨⟨b,off,mH,cap,e,hb,c0,c1,c2,c3,hok,hk⟩,hr⟩:=h;have hne:b≠g:=fun q=>by subst q; exact (hg _).1 _ _ c0
   have h:=ho b hne (Nat.lt_of_lt_of_le hb hB);exact ⟨⟨b,off,mH,cap,e,hb,(h _).trans c0,(h _).trans c1,(h _).trans c2,(h _).trans c3,hok,hk.off hg ho hB⟩,hr.off hg ho hB⟩
theorem aJ.At.off (hg:CQ g w) (ho:Ak g w w') (hB:B<=w.heap.size): ∀ {l:aJ} {ao:Option Addr} {k:Nat},l.At w B ao k->l.At w' B ao k
 | .nil,_,_,_=>trivial
 | .cons _ _ _ _,_,_,h=>by
   obtain ⟨⟨b,off,dw,bJ,dZ,dI,cK,aZ,fF,dX,e,hb,c0,c1,c2,c3,c4,c5,c6,c7,c8,c9,c10,hok,h1,h2,h3,h4⟩,hr⟩:=h;have hne:b≠g:=fun q=>by subst q; exact (hg _).1 _ _ c0
   have h:=ho b hne (Nat.lt_of_lt_of_le hb hB);exact ⟨⟨b,off,dw,bJ,dZ,dI,cK,aZ,fF,dX,e,hb,(h _).trans c0,(h _).trans c1,(h _).trans c2,(h _).trans c3,(h _).trans c4,(h _).trans c5,(h _).trans c6,(h _).trans c7,(h _).trans c8,(h _).trans c9,(h _).trans c10,hok,h1.off hg ho hB,h2.off hg ho hB,h3.off hg ho hB,h4.off hg ho hB⟩,hr.off hg ho hB⟩
theorem gF.off (hg:CQ g w) (ho:Ak g w w') (hB:B<=w.heap.size): ∀ {l:List Th} {ao:Option Addr} {k:Nat},gF w B l ao k->gF w' B l ao k
 | [],_,_,_=>trivial
 | _ ::_,_,_,⟨⟨b,off,eZ,dM,cK,aZ,e,hb,c0,c1,c2,c3,hs,ht,hst⟩,hr⟩=>by
   have hne:b≠g:=fun q=>by subst q; exact (hg _).2 _ c0
   have h:=ho b hne (Nat.lt_of_lt_of_le hb hB);exact ⟨⟨b,off,eZ,dM,cK,aZ,e,hb,(h _).trans c0,(h _).trans c1,(h _).trans c2,(h _).trans c3,hs,ht.off hg ho hB,hst.1.off hg ho hB,hst.2⟩,gF.off hg ho hB hr⟩
theorem Pr.At.off {p:Pr} {aG aH:Option Addr} (hg:CQ g w) (ho:Ak g w w') (hs:w.heap.size<=w'.heap.size) (h:p.At w aG aH):p.At w' aG aH:=
 ⟨h.1,h.2.1,(h.2.2.1.off hg ho (Nat.le_refl _)).mono hs,(h.2.2.2.off hg ho (Nat.le_refl _)).mono hs⟩
theorem Ak.trans {w1:World} (h:Ak g w w1) (hs:w.heap.size<=w1.heap.size) (h1:Ak g w1 w'):Ak g w w':=fun b hb hl o=>(h1 b hb (Nat.lt_of_lt_of_le hl hs) o).trans (h b hb hl o)
theorem Ak.set (w:World) (g j:Nat) (v:Value):Ak g w (w.setCell ⟨g,j,none⟩ v):=fun b hb _ o=>
 World.cell?_of_block (a:=⟨b,o,none⟩) (aY w ⟨g,j,none⟩ v rfl (by show g≠b; exact fun e=>hb e.symm))
theorem CQ.of {cs:Array Value} {t:TypeId} {fr:Nat × Nat} (h:w.heap[g]? =some (.cells cs t fr)) (hc:(cs.toList.all fun v=>match v with | .int _ _=>false | .string _=>false | _=>true)=true):CQ g w:=by
 have key: ∀o v,w.cell? ⟨g,o,none⟩=some v->(match v with | .int _ _=>false | .string _=>false | _=>true)=true:=fun o v e=>by rw [cell_of_row w g o cs t fr h] at e;rw [List.all_eq_true] at hc;exact hc v (by have:=Array.mem_of_getElem? e;simpa using this)
 intro o;refine ⟨fun k n e=> ?_,fun s e=> ?_⟩
 ·have:=key o _ e; cases this
 ·have:=key o _ e; cases this
end
end Md
open Md Pz
theorem lW:MZ:=M4 Ko
theorem Zt {p:Pr} {N:Nat} {w w':World} {e:Ending} (h:JD N w (p,0,0) e w'): ∃aG aB aH aD,e= .returned (.tuple #[.agg #[.slice aG p.ds.length aB,.slice aH p.ts.length aD],.int .i64 0,.int .i64 0])∧p.At w' aG aH∧Below w.heap.size w w':=by
 obtain ⟨aG,aB,aH,aD,he,hl,⟨hd,ht⟩,hb,-⟩:=h;dsimp only at hl ht he hd;exact ⟨aG,aB,aH,aD,he,⟨by unfold maxLen; omega,by unfold maxLen; omega,hd,ht⟩,hb⟩
theorem UR {p:Pr} (hp:parse ru=(p,0,0)) (w:World) (dH:cB w):Calls Tryz.prog 44 #[.string ⟨#[118,97,114,32,120,32,61,32,50,59,32,118,97,114,32,113,91,50,93,59,32,109,117,116,101,120,32,109,59,32,99,111,110,100,32,99,32,109,59,32,114,119,108,111,99,107,32,114,59,32,102,117,116,117,114,101,32,102,59,32,116,104,114,101,97,100,32,116,40,97,41,32,123,32,108,111,99,107,32,109,32,123,32,120,32,61,32,113,91,97,93,59,32,125,32,125,32,116,104,114,101,97,100,32,117,40,41,32,123,32,125]⟩] w (JD 111 w (p,0,0)):=by
 have h2:=Tz ⟨#[118,97,114,32,120,32,61,32,50,59,32,118,97,114,32,113,91,50,93,59,32,109,117,116,101,120,32,109,59,32,99,111,110,100,32,99,32,109,59,32,114,119,108,111,99,107,32,114,59,32,102,117,116,117,114,101,32,102,59,32,116,104,114,101,97,100,32,116,40,97,41,32,123,32,108,111,99,107,32,109,32,123,32,120,32,61,32,113,91,97,93,59,32,125,32,125,32,116,104,114,101,97,100,32,117,40,41,32,123,32,125]⟩ w dH (by decide);have e:parse (⟨#[118,97,114,32,120,32,61,32,50,59,32,118,97,114,32,113,91,50,93,59,32,109,117,116,101,120,32,109,59,32,99,111,110,100,32,99,32,109,59,32,114,119,108,111,99,107,32,114,59,32,102,117,116,117,114,101,32,102,59,32,116,104,114,101,97,100,32,116,40,97,41,32,123,32,108,111,99,107,32,109,32,123,32,120,32,61,32,113,91,97,93,59,32,125,32,125,32,116,104,114,101,97,100,32,117,40,41,32,123,32,125]⟩:ByteArray).data.toList=(p,0,0):=hp;rw [e] at h2;exact h2
theorem Sw {p:Pr} (hp:parse ru=(p,0,0)) (w:World) (dH:cB w):
 Calls Tryz.prog 24 #[] w fun e w'=> ∃aG aB aH aD,e= .returned (.agg #[.slice aG p.ds.length aB,.slice aH p.ts.length aD])∧p.At w' aG aH∧Below w.heap.size w w':=by
 have HPA:aj (∀w,cB w->Calls Tryz.prog 44 #[.string ⟨#[118,97,114,32,120,32,61,32,50,59,32,118,97,114,32,113,91,50,93,59,32,109,117,116,101,120,32,109,59,32,99,111,110,100,32,99,32,109,59,32,114,119,108,111,99,107,32,114,59,32,102,117,116,117,114,101,32,102,59,32,116,104,114,101,97,100,32,116,40,97,41,32,123,32,108,111,99,107,32,109,32,123,32,120,32,61,32,113,91,97,93,59,32,125,32,125,32,116,104,114,101,97,100,32,117,40,41,32,123,32,125]⟩] w (JD 111 w (p,0,0))):=ah (UR hp);have gV:=ah dH;clear dH hp;go_enter Tryz.func24,Tryz.ntmps24;go_upto_region 1 with fail;generalize hW:World.alloc w _=W1;obtain ⟨rb,hrb⟩: ∃n,w.heap.size=n:=⟨_,rfl⟩;have HB:aj (Below w.heap.size w W1):=ah (by rw [<- hW]; exact au _ _);have HX:aj (W1.heap[rb]? =some (.cells #[.slice none 0 0,.slice none 0 0] 38 (0,0))):=ah (by rw [<- hW,<- hrb]; exact heap_alloc_new _ _);have HRB:=ah hrb;rw [hrb];clear hW hrb;go_wp2_with fail;refine (HPA.o W1 (gV.o.same HB.o)).mono ?_;intro e w1 hpar;obtain ⟨aG,aB,aH,aD,rfl,hat,hb⟩:=Zt hpar;have HB1:=ah (HB.o.trans (hb.mono HB.o.size));have rT:=ah ((hb.block _ (Array.getElem?_eq_some_iff.1 HX.o).1).trans HX.o);have HAT:=ah hat;clear hat hb hpar HPA HX;go_upto_region 2 with fail;obtain ⟨pb,hpb⟩: ∃g,w1.heap.size=g:=⟨_,rfl⟩;generalize hW:World.alloc w1 _=w2;have HB2:aj (Below w1.heap.size w1 w2):=ah (by rw [<- hW]; exact au _ _);have Aj:aj (w2.heap[pb]? =some (.cells #[.slice aG p.ds.length aB,.slice aH p.ts.length aD] 38 (0,0))):=ah (by rw [<- hW,<- hpb]; exact heap_alloc_new _ _);rw [hpb];clear hW hpb;have jq:=ah ((HB2.o.block _ (Array.getElem?_eq_some_iff.1 rT.o).1).trans rT.o);have y0:=ak (j:=0) Aj.o rfl;have y1:=ak (j:=1) Aj.o rfl;have z0:=ak (j:=0) jq.o rfl;have z1:=ak (j:=1) jq.o rfl;have f0:=aU (o:=0) jq.o;have f1:=aU (o:=1) jq.o;have hlt:rb < w2.heap.size:=(Array.getElem?_eq_some_iff.1 jq.o).1;have FH:aj (∀W,(w2.setCell ⟨rb,0,none⟩ (.slice aG p.ds.length aB)).setCell ⟨rb,1,none⟩ (.slice aH p.ts.length aD)=W->p.At W aG aH∧Below w.heap.size w W):=ah (fun W hW=>by subst hW;have hA:=HAT.o.same HB2.o;have hr:=HRB.o;exact ⟨hA.off (CQ.of jq.o rfl) ((Ak.set w2 _ _ _).trans (by simp [World.setCell]) (Ak.set _ _ _ _)) (by simp [World.setCell]),iH (iH (HB1.o.trans (HB2.o.mono HB1.o.size)) _ _ (by simp; omega)) _ _ (by simp; omega)⟩);go_wp2_with fail;exact bodyPost_ret (v:= .agg #[.slice aG p.ds.length aB,.slice aH p.ts.length aD]) (by simp [results,Tryz.results24,go_sem,z0,z1,hlt]) rfl (by obtain ⟨e2,e3⟩:=FH.o _ rfl; exact ⟨aG,aB,aH,aD,rfl,e2,e3⟩)
def ar9:Bool:=(zM (jr (parse ru).1) (parse ru).1.ts 0).all (fun t=>t.is.all (fun i=>(dx i).all (fun r=>decide (0<=r) && decide (r < 100))))
theorem aw2:ar9=true:=by decide +kernel
theorem aw0 {p:Pr} {l:List qJ} (hp:parse ru=(p,0,0)) (hl:zM (jr p) p.ts 0=l): ∀t ∈ l,∀i ∈ t.is,∀r ∈ dx i,bV r:=fun t ht i hi r hr=>by
 have h:=aw2;unfold ar9 at h;rw [hp] at h;simp only [hl,List.all_eq_true,Bool.and_eq_true,decide_eq_true_eq] at h;have:=h t ht i hi r hr;unfold bV;omega
theorem Ap (w:World) (dH:cB w):
 Calls Tryz.prog 8 #[] w fun e w'=>e= .returned (.bool true)∧Below w.heap.size w w':=by
 obtain ⟨p,t,u,hp,h0,hfit,hco,h6,hts,hv,hvw⟩:=Xu;have HSA:=ah (fun w h=>Sw hp w h);have HI:aj (∀x ∈ [t,u],∀i ∈ x.is,∀r ∈ dx i,bV r):=ah (aw0 hp hco);rw [hco] at hv;have gV:=ah dH;have H0:=ah h0;have HF:=ah hfit;have XP:=ah hco;have tT:=ah hts;have HV:=ah hv;have HVW:=ah hvw;have H6:=ah h6;clear hp h0 hfit hco hts dH hv hvw h6;go_enter Tryz.func8,Tryz.ntmps8;go_wp2_with fail;refine (HSA.o w gV.o).mono ?_;rintro e w1 ⟨aG,aB,aH,aD,rfl,hat,hb⟩;have HAT:=ah hat;have HB:=ah hb;have HK:aj (Al (jr p)):=ah (aw4 (Qh hat.2.2.1));clear hat hb HSA;go_wp2_with fail;refine (OW p w1 aG aH aB aD HAT.o (gV.o.same HB.o) HF.o H0.o).mono ?_;rintro e w3 ⟨s,aoc,VW,rfl,hwo,htc,-,hb3⟩;rw [XP.o] at htc;rw [tT.o];have HTC:=ah htc;have MN:=ah hwo;obtain ⟨⟨b,off,dw,bJ,hao,hB,x0,x1,-,hfl⟩,-⟩:=htc;subst hao;have HB3:=ah (HB.o.trans (hb3.mono HB.o.size));have E5:=ah hB;rw [H6.o] at x1;clear hfl hwo hb3 hB;generalize jr p=W at *;clear XP HF H0 tT HAT;go_upto_region 2 with fail;obtain ⟨cb,hcb⟩: ∃g,w3.heap.size=g:=⟨_,rfl⟩;generalize hW:World.alloc w3 _=w4;have dG:aj (Below w3.heap.size w3 w4):=ah (by rw [<- hW]; exact au _ _);have HX:aj (w4.heap[cb]? =some (.cells #[.slice s.aC W.cs.length s.cC,.slice s.aL W.ls.length s.cL,.slice s.aN W.ns.length s.cN,.slice s.aF W.fs.length s.cF,.slice s.aT W.ts.length s.cT,.slice s.aS W.ss.length s.cS,.slice (some ⟨b,off,none⟩) 2 VW] 33 (0,0))):=ah (by rw [<- hW,<- hcb]; exact heap_alloc_new _ _);rw [hcb];clear hW hcb;have CF:=ah (HB3.o.trans (dG.o.mono HB3.o.size));have af3:=ah (MN.o.same dG.o);have aG9:aj (mg w4 w4.heap.size [t,u] (some ⟨b,off,none⟩) 0):=ah (F4 HTC.o dG.o);have g0:=ak (j:=0) HX.o rfl;have g1:=ak (j:=1) HX.o rfl;have g2:=ak (j:=2) HX.o rfl;have g3:=ak (j:=3) HX.o rfl;have g4:=ak (j:=4) HX.o rfl;have g5:=ak (j:=5) HX.o rfl;have g6:=ak (j:=6) HX.o rfl;have X1:w4.cell? ⟨b,off + 1,none⟩=some (.slice dw 6 bJ):=(dG.o.cell (p:=⟨b,_,none⟩) E5.o).trans x1;simp only [List.getElem_toArray,List.getElem_cons_zero,List.getElem_cons_succ] at g0 g1 g2 g3 g4 g5 g6;clear x0 x1;have HVA:aj (Calls Tryz.prog 9 #[.agg #[.slice s.aC W.cs.length s.cC,.slice s.aL W.ls.length s.cL,.slice s.aN W.ns.length s.cN,.slice s.aF W.fs.length s.cF,.slice s.aT W.ts.length s.cT,.slice s.aS W.ss.length s.cS,.slice (some ⟨b,off,none⟩) 2 VW]] w4 fun e w'=>e= .returned (.bool (A9 W [t,u]))∧Below w4.heap.size w4 w'):=ah (Hg lW W s [t,u] (some ⟨b,off,none⟩) VW w4 af3.o (gV.o.same CF.o) HK.o aG9.o (by simp [maxLen]) HI.o);go_wp2_with fail;refine HVA.o.mono ?_;rintro e w5 ⟨rfl,hb5⟩;rw [HV.o];have jh:=ah hb5;have sF:=ah ((hb5.block _ (Array.getElem?_eq_some_iff.1 HX.o).1).trans HX.o);clear hb5 g0 g1 g2 g3 g4 g5 g6 X1;have g0:=ak (j:=0) sF.o rfl;have g1:=ak (j:=1) sF.o rfl;have g2:=ak (j:=2) sF.o rfl;have g3:=ak (j:=3) sF.o rfl;have g4:=ak (j:=4) sF.o rfl;have g5:=ak (j:=5) sF.o rfl;simp only [List.getElem_toArray,List.getElem_cons_zero,List.getElem_cons_succ] at g0 g1 g2 g3 g4 g5;go_wp2_with fail;refine (lW W s w5 (af3.o.same jh.o) (gV.o.same (CF.o.trans (jh.o.mono CF.o.size))) HK.o).mono ?_;rintro e w6 ⟨rfl,hb6⟩;rw [HVW.o];have kZ:=ah ((CF.o.trans (jh.o.mono CF.o.size)).trans (hb6.mono (Nat.le_trans CF.o.size jh.o.size)));go_wp2_with fail;go_ret;exact ⟨rfl,kZ.o⟩
end Go.Proofs.YtgjmahnblcajbaaGreatDoor
