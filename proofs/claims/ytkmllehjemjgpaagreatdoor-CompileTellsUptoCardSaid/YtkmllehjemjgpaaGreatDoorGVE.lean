/- The tokens of the sanity check's program make it. And what hangs on it. -/
import Derived.Test.YtkmllehjemjgpaaGreatDoorGRE
import Derived.Test.YtkmllehjemjgpaaGreatDoorGCE
import Derived.Test.YtkmllehjemjgpaaGreatDoorGVA
import Derived.Test.YtkmllehjemjgpaaGreatDoorGMA
import Derived.Test.YtkmllehjemjgpaaGreatDoorGMB
import Derived.Test.YtkmllehjemjgpaaGreatDoorGVC
set_option linter.unusedSimpArgs false
set_option linter.unusedVariables false
set_option maxHeartbeats 40000000
set_option maxRecDepth 1000000
namespace Go.Proofs.YtkmllehjemjgpaaGreatDoor
open Go.RowKit
open Md Pz
def OW:List UInt8:=[118,97,114,32,120,32,61,32,50,59,32,118,97,114,32,113,91,50,93,59,32,109,117,116,101,120,32,109,59,32,99,111,110,100,32,99,32,109,59,32,114,119,108,111,99,107,32,114,59,32,102,117,116,117,114,101,32,102,59,32,116,104,114,101,97,100,32,116,40,97,41,32,123,32,108,111,99,107,32,109,32,123,32,120,32,61,32,113,91,97,93,59,32,125,32,125,32,116,104,114,101,97,100,32,117,40,41,32,123,32,125]
theorem src_ok: ∀t∈(Tk.scan OW).1,Ub t:=by
 unfold Ub;decide+kernel
theorem az9:(∀t∈(Tk.scan OW).1,TL 4097 t)∧(Tk.scan OW).1.length<=4096:=by
 unfold TL;decide+kernel
def K (k:Nat):aO:=(Tk.scan OW).1.drop k
theorem dZ (k:Nat):(K k).tail=K (k+1):=by unfold K;rw[List.tail_drop]
def nK (k:Nat):ByteArray:=tx (aQ (K k))
def dK (k:Nat) (size init:Int) (on:ByteArray):De:=⟨pX (aQ (K k)),((dV (K k):Nat):Int),nK (k+1),size,init,on⟩
theorem G5 (k j:Nat) {d:De} {m:List De} {r:aO} (h1:isDecl (K k)=true) (h2:isName (K (k+1))=true) (h3:KzR (dK k 0 0 ⟨#[]⟩) (K (k+2)) d (K j)) (h4:at' [59] (K j)=true) (h5:Dz (K (j+1)) m r):Dz (K k) (d::m) r:=
 Dz.cons h1 (by rw[dZ];exact h2) (by rw[dZ,dZ];exact h3) h4 (by rw[dZ];exact h5)
theorem az8:Dz (K 0) [dK 0 0 2 ⟨#[]⟩,dK 5 2 0 ⟨#[]⟩,dK 11 0 0 ⟨#[]⟩,dK 14 0 0 (nK 16),dK 18 0 0 ⟨#[]⟩,dK 21 0 0 ⟨#[]⟩] (K 24):=
 G5 0 4 (by kernel_rfl) (by kernel_rfl) (.inl ⟨by kernel_rfl,dK 0 0 0 ⟨#[]⟩,K 2,by kernel_rfl,by kernel_rfl,by kernel_rfl⟩) (by kernel_rfl) <|
 G5 5 10 (by kernel_rfl) (by kernel_rfl) (.inl ⟨by kernel_rfl,dK 5 2 0 ⟨#[]⟩,K 10,by kernel_rfl,by kernel_rfl,by kernel_rfl⟩) (by kernel_rfl) <|
 G5 11 13 (by kernel_rfl) (by kernel_rfl) (.inr (.inr ⟨⟨by kernel_rfl,by kernel_rfl,by kernel_rfl⟩,rfl,rfl⟩)) (by kernel_rfl) <|
 G5 14 17 (by kernel_rfl) (by kernel_rfl) (.inr (.inl ⟨⟨by kernel_rfl,by kernel_rfl,by kernel_rfl⟩,by kernel_rfl,rfl,(dZ 16).symm⟩)) (by kernel_rfl) <|
 G5 18 20 (by kernel_rfl) (by kernel_rfl) (.inr (.inr ⟨⟨by kernel_rfl,by kernel_rfl,by kernel_rfl⟩,rfl,rfl⟩)) (by kernel_rfl) <|
 G5 21 23 (by kernel_rfl) (by kernel_rfl) (.inr (.inr ⟨⟨by kernel_rfl,by kernel_rfl,by kernel_rfl⟩,rfl,rfl⟩)) (by kernel_rfl) <|
 Dz.nil (by kernel_rfl)
theorem noop {r:aO} (h:(nextK r==4&&(uU (aQ r)).1 != 0)=false):Nh r:=λlv=>by
 unfold opAt;split
 ·rename_i h2;simp only[Bool.and_eq_true]at h2;rw[h2.1,Bool.true_and]at h;simpa using h
 ·rfl
theorem aU7:Ez (K 37) ⟨2,0,nK 37,.nil⟩ (K 38):=by
 have h:=Ez.nm (ts:=K 37) (by kernel_rfl) (by rw[dZ];kernel_rfl) (by rw[dZ];exact noop (by kernel_rfl));rw[dZ]at h;exact h
theorem aU6:Ez (K 35) (QY (nK 35) ⟨2,0,nK 37,.nil⟩) (K 39):=by
 have h:=Ez.ix (ts:=K 35) (r:=K 38) (x:=⟨2,0,nK 37,.nil⟩) (by kernel_rfl) (by rw[dZ];kernel_rfl) (by rw[dZ,dZ];exact aU7) (by kernel_rfl) (by rw[dZ];exact noop (by kernel_rfl));rw[dZ]at h;exact h
def sA:Sx:=⟨cB.ex {hd 1 ((dV (K 33):Nat):Int)with nm:=nK 33} (QY (nK 35) ⟨2,0,nK 37,.nil⟩),.nil,.nil⟩
def sL:Sx:=⟨{hd 4 ((dV (K 30):Nat):Int)with nm:=nK 31},zD [sA],.nil⟩
theorem aX1 (R:Rp):Cq R (K 33) sA (K 40):=by
 have h:=af0 R (K 33) (K 39) (QY (nK 35) ⟨2,0,nK 37,.nil⟩) (by kernel_rfl) (by rw[dZ];kernel_rfl) (by rw[dZ];kernel_rfl) (by rw[dZ,dZ];exact aU6) (by kernel_rfl);rw[dZ]at h;exact h
theorem aS1 (R:Rp):tJ R (K 32) (zD [sA]) (K 41):=
 Hy R (λts y r=>ts=K 33∧y=sA∧r=K 40) (ah (λq y r ⟨e1,e2,e3⟩=>by subst e1 e2 e3;exact aX1 R)) (K 32) (K 41) [sA] (by kernel_rfl) (by rw[dZ];have h:=Lz.nil (S:=λts y r=>ts=K 33∧y=sA∧r=K 40) (ts:=K 40) (by kernel_rfl);rw[dZ]at h;exact Lz.cons (by kernel_rfl) ⟨rfl,rfl,rfl⟩ h) (by decide)
theorem aX2 (R:Rp):Cq R (K 30) sL (K 41):=by
 have h:=YK R (K 30) (K 41) (zD [sA]) (by kernel_rfl) (by kernel_rfl) (by rw[dZ];kernel_rfl) (ah (by rw[dZ,dZ];exact aS1 R));rw[dZ]at h;exact h
theorem aS2 (R:Rp):tJ R (K 29) (zD [sL]) (K 42):=
 Hy R (λts y r=>ts=K 30∧y=sL∧r=K 41) (ah (λq y r ⟨e1,e2,e3⟩=>by subst e1 e2 e3;exact aX2 R)) (K 29) (K 42) [sL] (by kernel_rfl) (by rw[dZ];have h:=Lz.nil (S:=λts y r=>ts=K 30∧y=sL∧r=K 41) (ts:=K 41) (by kernel_rfl);rw[dZ]at h;exact Lz.cons (by kernel_rfl) ⟨rfl,rfl,rfl⟩ h) (by decide)
theorem aS3 (R:Rp):tJ R (K 46) (zD []) (K 48):=
 Hy R (λ_ _ _=>False) (ah (λ_ _ _ h=>h.elim)) (K 46) (K 48) [] (by kernel_rfl) (by rw[dZ];have h:=Lz.nil (S:=λ_ _ _=>False) (ts:=K 47) (by kernel_rfl);rw[dZ]at h;exact h) (by decide)
def Tf (r:aO) (b:aH) (q:aO):Prop:=(r=K 29∧b=zD [sL]∧q=K 42)∨(r=K 46∧b=zD []∧q=K 48)
def lY:Pr:=⟨[dK 0 0 2 ⟨#[]⟩,dK 5 2 0 ⟨#[]⟩,dK 11 0 0 ⟨#[]⟩,dK 14 0 0 (nK 16),dK 18 0 0 ⟨#[]⟩,dK 21 0 0 ⟨#[]⟩],[⟨nK 25,dV (K 24),[nK 27],zD [sL]⟩,⟨nK 43,dV (K 42),[],zD []⟩]⟩
theorem aA0:Tz Tf (K 24) lY.ts (K 48):=by
 have h2:=Tz.cons (S:=Tf) (ts:=K 42) (r:=K 46) (q:=K 48) (r':=K 48) (l:=[]) (b:=zD []) (m:=[]) (by kernel_rfl) (by rw[dZ];kernel_rfl) (by rw[dZ,dZ];kernel_rfl) (by rw[dZ,dZ,dZ];exact .inl ⟨by kernel_rfl,rfl,(dZ 45).symm⟩) (.inr ⟨rfl,rfl,rfl⟩) (Tz.nil (by kernel_rfl));have h1:=Tz.cons (S:=Tf) (ts:=K 24) (r:=K 29) (q:=K 42) (r':=K 48) (l:=[nK 27]) (b:=zD [sL]) (by kernel_rfl) (by rw[dZ];kernel_rfl) (by rw[dZ,dZ];kernel_rfl) (by rw[dZ,dZ,dZ];exact .inr ⟨by kernel_rfl,by kernel_rfl,by rw[dZ];kernel_rfl,by rw[dZ];kernel_rfl,rfl,by rw[dZ,dZ]⟩) (.inl ⟨rfl,rfl,rfl⟩) h2;rw[dZ,dZ]at h1;exact h1
theorem Yx (R:Rp) (wr:World) (hI:dM wr R (Tk.scan OW).1):Calls Tryz.prog 73 #[.pointer (some ⟨R.br,0,none⟩)] wr (RJ R wr (.ok lY [])):=by
 have h:=T9 R Tf (ah (λr b q h=>by
  rcases h with⟨e1,e2,e3⟩|⟨e1,e2,e3⟩ <;> subst e1 e2 e3
  ·exact aS2 R
  ·exact aS3 R)) (K 0) (K 24) (K 48) lY.ds lY.ts az8 aA0 (by decide) wr hI
 have e:K 48=[]:=by kernel_rfl
 rw[e]at h;exact h
open Go.RowKit Md Pz
def QD:aH->Bool
 | .nil=>true
 | .cons h b e r=>decide (Md.dU h<=300000)&&(QD b&&(QD e&&QD r))
theorem Ji: ∀l:aH,QD l=true->l.Ev (λh=>Md.dU h<=300000)
 | .nil,_=>trivial
 | .cons h b e r,hs=>by unfold QD at hs;simp only[Bool.and_eq_true,decide_eq_true_eq]at hs;exact⟨hs.1,Ji b hs.2.1,Ji e hs.2.2.1,Ji r hs.2.2.2⟩
def XF (p:Pr):Bool:=decide (uT p.ts<=100000000000)&&p.ts.all (λt=>QD t.body)
theorem XG {p:Pr} (h:XF p=true):Fit p:=by
 unfold XF at h;simp only[Bool.and_eq_true,decide_eq_true_eq,List.all_eq_true]at h;exact⟨h.1,λt ht=>Ji _ (h.2 t ht)⟩
def az6:Bool:=(iT lY).1==0&&(XF lY&&((rF (iI lY) lY.ts 0).map (λt=>t.is.length)== [6,1]&&(lY.ts.length==2&&((iI lY).ts.length==2&&Kt (iI lY) 0 (rF (iI lY) lY.ts 0)))))
theorem aD0:az6=true:=by decide+kernel
theorem az7:(iI lY).cs=[⟨nK 1,0,0,false,2⟩,⟨nK 6,0,2,false,0⟩,⟨nK 6,1,2,false,0⟩]:=by kernel_rfl
theorem aA1:Ud (iI lY) [nK 1,nK 6] where
 sm:=by decide+kernel
 cs:=by rw[az7];exact .one rfl rfl (.two .nil)
 nm:=by kernel_rfl
 cn:=by decide+kernel
 si:=by kernel_rfl
 kl:=by decide+kernel
 kv:=by decide+kernel
theorem YI: ∃t u v,(iT lY).1=0∧Fit lY∧rF (iI lY) lY.ts 0=[t,u]∧t.is.length=6∧lY.ts.length=2∧(iI lY).ts.length=2∧Kt (iI lY) 0 (rF (iI lY) lY.ts 0)=true∧Ud (iI lY) v:=by
 have h:=aD0;have hv:=aA1;unfold az6 at h;generalize nK 1=n1,nK 6=n6 at hv;generalize lY=p at h hv⊢;simp only[Bool.and_eq_true,beq_iff_eq]at h;obtain⟨h1,h2,h3,h4,h5,h6⟩:=h;generalize hc:rF (iI p) p.ts 0=c at h3 h6;rcases c with _|⟨t,_|⟨u,_|⟨_,_⟩⟩⟩ <;> simp at h3;exact⟨t,u,_,h1,XG h2,rfl,h3.1,h4,h5,h6,hv⟩
namespace Md
def Db (g:Nat) (w:World):Prop:= ∀o,(∀k n,w.cell? ⟨g,o,none⟩≠some (.int k n))∧∀s,w.cell? ⟨g,o,none⟩≠some (.string s)
section
variable {w w':World} {g B:Nat}
def Bl (g:Nat) (w w':World):Prop:= ∀b,b≠g->b<w.heap.size->∀o,w'.cell? ⟨b,o,none⟩=w.cell? ⟨b,o,none⟩
theorem eD.off (hg:Db g w) (ho:Bl g w w') (hB:B<=w.heap.size): ∀ {l:List ByteArray} {ao:Option Addr} {k:Nat},eD w B l ao k->eD w' B l ao k
 | [],_,_,_=>trivial
 |_::_,_,_,⟨⟨b,off,e,hb,c,hs⟩,hr⟩=>by
  have hne:b≠g:=λq=>by subst q;exact(hg _).2 _ c
  exact⟨⟨b,off,e,hb,(ho b hne (Nat.lt_of_lt_of_le hb hB) _).trans c,hs⟩,eD.off hg ho hB hr⟩
theorem gM.off (hg:Db g w) (ho:Bl g w w') (hB:B<=w.heap.size): ∀ {l:List De} {ao:Option Addr} {k:Nat},gM w B l ao k->gM w' B l ao k
 | [],_,_,_=>trivial
 |_::_,_,_,⟨⟨b,off,e,hb,c0,c1,c2,c3,c4,c5,hs⟩,hr⟩=>by
  have hne:b≠g:=λq=>by subst q;exact(hg _).1 _ _ c0
  have h:=ho b hne (Nat.lt_of_lt_of_le hb hB);exact⟨⟨b,off,e,hb,(h _).trans c0,(h _).trans c1,(h _).trans c2,(h _).trans c3,(h _).trans c4,(h _).trans c5,hs⟩,gM.off hg ho hB hr⟩
theorem bC.At.off (hg:Db g w) (ho:Bl g w w') (hB:B<=w.heap.size): ∀ {l:bC} {ao:Option Addr} {k:Nat},l.At w B ao k->l.At w' B ao k
 | .nil,_,_,_=>trivial
 | .cons _ _ _ _ _,_,_,h=>by
   obtain⟨⟨b,off,nR,cap,e,hb,c0,c1,c2,c3,hok,hk⟩,hr⟩:=h;have hne:b≠g:=λq=>by subst q;exact(hg _).1 _ _ c0
   have h:=ho b hne (Nat.lt_of_lt_of_le hb hB);exact⟨⟨b,off,nR,cap,e,hb,(h _).trans c0,(h _).trans c1,(h _).trans c2,(h _).trans c3,hok,hk.off hg ho hB⟩,hr.off hg ho hB⟩
theorem aH.At.off (hg:Db g w) (ho:Bl g w w') (hB:B<=w.heap.size): ∀ {l:aH} {ao:Option Addr} {k:Nat},l.At w B ao k->l.At w' B ao k
 | .nil,_,_,_=>trivial
 | .cons _ _ _ _,_,_,h=>by
   obtain⟨⟨b,off,eu,dI,dR,cO,bR,aY,fH,dX,e,hb,c0,c1,c2,c3,c4,c5,c6,c7,c8,c9,c10,hok,h1,h2,h3,h4⟩,hr⟩:=h;have hne:b≠g:=λq=>by subst q;exact(hg _).1 _ _ c0
   have h:=ho b hne (Nat.lt_of_lt_of_le hb hB);exact⟨⟨b,off,eu,dI,dR,cO,bR,aY,fH,dX,e,hb,(h _).trans c0,(h _).trans c1,(h _).trans c2,(h _).trans c3,(h _).trans c4,(h _).trans c5,(h _).trans c6,(h _).trans c7,(h _).trans c8,(h _).trans c9,(h _).trans c10,hok,h1.off hg ho hB,h2.off hg ho hB,h3.off hg ho hB,h4.off hg ho hB⟩,hr.off hg ho hB⟩
theorem fQ.off (hg:Db g w) (ho:Bl g w w') (hB:B<=w.heap.size): ∀ {l:List Th} {ao:Option Addr} {k:Nat},fQ w B l ao k->fQ w' B l ao k
 | [],_,_,_=>trivial
 |_::_,_,_,⟨⟨b,off,fC,dw,bR,aY,e,hb,c0,c1,c2,c3,hs,ht,hst⟩,hr⟩=>by
  have hne:b≠g:=λq=>by subst q;exact(hg _).2 _ c0
  have h:=ho b hne (Nat.lt_of_lt_of_le hb hB);exact⟨⟨b,off,fC,dw,bR,aY,e,hb,(h _).trans c0,(h _).trans c1,(h _).trans c2,(h _).trans c3,hs,ht.off hg ho hB,hst.1.off hg ho hB,hst.2⟩,fQ.off hg ho hB hr⟩
theorem Pr.At.off {p:Pr} {aB aD:Option Addr} (hg:Db g w) (ho:Bl g w w') (hs:w.heap.size<=w'.heap.size) (h:p.At w aB aD):p.At w' aB aD:=
 ⟨h.1,h.2.1,(h.2.2.1.off hg ho (Nat.le_refl _)).mono hs,(h.2.2.2.off hg ho (Nat.le_refl _)).mono hs⟩
theorem Bl.trans {w1:World} (h:Bl g w w1) (hs:w.heap.size<=w1.heap.size) (h1:Bl g w1 w'):Bl g w w':=λb hb hl o=>(h1 b hb (Nat.lt_of_lt_of_le hl hs) o).trans (h b hb hl o)
theorem Bl.set (w:World) (g j:Nat) (v:Value):Bl g w (w.setCell ⟨g,j,none⟩ v):=λb hb _ o=>
 World.cell?_of_block (a:=⟨b,o,none⟩) (bY w ⟨g,j,none⟩ v rfl (by show g≠b;exact λe=>hb e.symm))
theorem Db.of {cs:Array Value} {t:TypeId} {fr:Nat×Nat} (h:w.heap[g]? =some (.cells cs t fr)) (hc:(cs.toList.all λv=>match v with| .int _ _=>false| .string _=>false|_=>true)=true):Db g w:=by
 have key: ∀o v,w.cell? ⟨g,o,none⟩=some v->(match v with| .int _ _=>false| .string _=>false|_=>true)=true:=λo v e=>by rw[cell_of_row w g o cs t fr h]at e;rw[List.all_eq_true]at hc;exact hc v (by have:=Array.mem_of_getElem? e;simpa using this)
 intro o;refine⟨λk n e=> ?_,λs e=> ?_⟩
 ·have:=key o _ e;cases this
 ·have:=key o _ e;cases this
end
end Md
def PaO (p:Pr) (w:World) (e:Ending) (w':World):Prop:= ∃aB aA aD ay,e= .returned (.tuple #[.agg #[.slice aB p.ds.length aA,.slice aD p.ts.length ay],.int .i64 0,.int .i64 0])∧p.At w' aB aD∧Below w.heap.size w w'
theorem VD (w:World) (dG:dD w):Calls Tryz.prog 39 #[.string ⟨#[118,97,114,32,120,32,61,32,50,59,32,118,97,114,32,113,91,50,93,59,32,109,117,116,101,120,32,109,59,32,99,111,110,100,32,99,32,109,59,32,114,119,108,111,99,107,32,114,59,32,102,117,116,117,114,101,32,102,59,32,116,104,114,101,97,100,32,116,40,97,41,32,123,32,108,111,99,107,32,109,32,123,32,120,32,61,32,113,91,97,93,59,32,125,32,125,32,116,104,114,101,97,100,32,117,40,41,32,123,32,125]⟩] w (PaO lY w):=
 Xj ⟨#[118,97,114,32,120,32,61,32,50,59,32,118,97,114,32,113,91,50,93,59,32,109,117,116,101,120,32,109,59,32,99,111,110,100,32,99,32,109,59,32,114,119,108,111,99,107,32,114,59,32,102,117,116,117,114,101,32,102,59,32,116,104,114,101,97,100,32,116,40,97,41,32,123,32,108,111,99,107,32,109,32,123,32,120,32,61,32,113,91,97,93,59,32,125,32,125,32,116,104,114,101,97,100,32,117,40,41,32,123,32,125]⟩ w dG (by decide) lY (by decide+kernel) src_ok az9 (λR wr h=>Yx R wr h) rfl
theorem Te {p:Pr} (HPA:aj (∀w,dD w->Calls Tryz.prog 39 #[.string ⟨#[118,97,114,32,120,32,61,32,50,59,32,118,97,114,32,113,91,50,93,59,32,109,117,116,101,120,32,109,59,32,99,111,110,100,32,99,32,109,59,32,114,119,108,111,99,107,32,114,59,32,102,117,116,117,114,101,32,102,59,32,116,104,114,101,97,100,32,116,40,97,41,32,123,32,108,111,99,107,32,109,32,123,32,120,32,61,32,113,91,97,93,59,32,125,32,125,32,116,104,114,101,97,100,32,117,40,41,32,123,32,125]⟩] w (PaO p w))) (w:World) (dG:dD w):
 Calls Tryz.prog 23 #[] w λe w'=> ∃aB aA aD ay,e= .returned (.agg #[.slice aB p.ds.length aA,.slice aD p.ts.length ay])∧p.At w' aB aD∧Below w.heap.size w w':=by
 have iF:=ah dG;clear dG;go_enter Tryz.func23,Tryz.ntmps23;go_upto_region 1 with fail;generalize hW:World.alloc w _=W1;obtain⟨rb,hrb⟩: ∃n,w.heap.size=n:=⟨_,rfl⟩;have HB:aj (Below w.heap.size w W1):=ah (by rw[<- hW];exact ak _ _);have HX:aj (W1.heap[rb]? =some (.cells #[.slice none 0 0,.slice none 0 0] 25 (0,0))):=ah (by rw[<- hW,<- hrb];exact heap_alloc_new _ _);have TI:=ah hrb;rw[hrb];clear hW hrb;go_wp2_with fail;refine(HPA.o W1 (iF.o.same HB.o)).mono ?_;rintro e w1 ⟨aB,aA,aD,ay,rfl,hat,hb⟩;have HB1:=ah (HB.o.trans (hb.mono HB.o.size));have DV:=ah ((hb.block _ (Array.getElem?_eq_some_iff.1 HX.o).1).trans HX.o);have HAT:=ah hat;clear hat hb HPA HX;go_upto_region 2 with fail;obtain⟨pb,hpb⟩: ∃g,w1.heap.size=g:=⟨_,rfl⟩;generalize hW:World.alloc w1 _=w2;have HB2:aj (Below w1.heap.size w1 w2):=ah (by rw[<- hW];exact ak _ _);have ou:aj (w2.heap[pb]? =some (.cells #[.slice aB p.ds.length aA,.slice aD p.ts.length ay] 25 (0,0))):=ah (by rw[<- hW,<- hpb];exact heap_alloc_new _ _);rw[hpb];clear hW hpb;have kP:=ah ((HB2.o.block _ (Array.getElem?_eq_some_iff.1 DV.o).1).trans DV.o);have y0:=au (j:=0) ou.o rfl;have y1:=au (j:=1) ou.o rfl;have z0:=au (j:=0) kP.o rfl;have z1:=au (j:=1) kP.o rfl;have f0:=bG (o:=0) kP.o;have f1:=bG (o:=1) kP.o;have hlt:rb<w2.heap.size:=(Array.getElem?_eq_some_iff.1 kP.o).1;have Z9:aj (∀W,(w2.setCell ⟨rb,0,none⟩ (.slice aB p.ds.length aA)).setCell ⟨rb,1,none⟩ (.slice aD p.ts.length ay)=W->p.At W aB aD∧Below w.heap.size w W):=ah (λW hW=>by subst hW;have hA:=HAT.o.same HB2.o;have hr:=TI.o;exact⟨hA.off (Db.of kP.o rfl) ((Bl.set w2 _ _ _).trans (by simp[World.setCell]) (Bl.set _ _ _ _)) (by simp[World.setCell]),oC (oC (HB1.o.trans (HB2.o.mono HB1.o.size)) _ _ (by simp;omega)) _ _ (by simp;omega)⟩);go_wp2_with fail;exact bodyPost_ret (v:= .agg #[.slice aB p.ds.length aA,.slice aD p.ts.length ay]) (by simp[results,Tryz.results23,go_sem,z0,z1,hlt]) rfl (by obtain⟨e2,e3⟩:=Z9.o _ rfl;exact⟨aB,aA,aD,ay,rfl,e2,e3⟩)
theorem Ui (w:World) (dG:dD w):
 Calls Tryz.prog 10 #[] w λe w'=>e= .returned (.bool true)∧Below w.heap.size w w':=by
 obtain⟨t,u,v,h0,hfit,hco,h6,hts,hwt,hv,hvw⟩:=YI;have HSA:=ah (λw h=>Te (ah VD) w h);generalize lY=p at *;rw[hco]at hv;have iF:=ah dG;have H0:=ah h0;have HF:=ah hfit;have Q9:=ah hco;have kF:=ah hts;have HV:=ah hv;have HVW:=ah hvw;have H6:=ah h6;have nP:=ah hwt;clear h0 hfit hco hts dG hv hvw h6 hwt;go_enter Tryz.func10,Tryz.ntmps10;go_wp2_with fail;refine(HSA.o w iF.o).mono ?_;rintro e w1 ⟨aB,aA,aD,ay,rfl,hat,hb⟩;have HAT:=ah hat;have HB:=ah hb;clear hat hb HSA;go_wp2_with fail;refine(GH p w1 aB aD aA ay HAT.o (iF.o.same HB.o) HF.o H0.o).mono ?_;rintro e w3 ⟨s,aoc,RS,rfl,hwo,htc,-,hb3⟩;rw[Q9.o]at htc;rw[kF.o];have Zk:=ah htc;have zk:=ah hwo;obtain⟨⟨b,off,eu,dI,hao,hB,x0,x1,-,hfl⟩,-⟩:=htc;subst hao;have HB3:=ah (HB.o.trans (hb3.mono HB.o.size));have uD:=ah hB;rw[H6.o]at x1;clear hfl hwo hb3 hB;generalize iI p=W at *;clear Q9 HF H0 kF HAT;go_upto_region 2 with fail;obtain⟨cb,hcb⟩: ∃g,w3.heap.size=g:=⟨_,rfl⟩;generalize hW:World.alloc w3 _=w4;have dH:aj (Below w3.heap.size w3 w4):=ah (by rw[<- hW];exact ak _ _);have HX:aj (w4.heap[cb]? =some (.cells #[.slice s.aC W.cs.length s.cC,.slice s.aL W.ls.length s.cL,.slice s.aN W.ns.length s.cN,.slice s.aF W.fs.length s.cF,.slice s.aT W.ts.length s.cT,.slice s.aS W.ss.length s.cS,.slice (some ⟨b,off,none⟩) 2 RS] 35 (0,0))):=ah (by rw[<- hW,<- hcb];exact heap_alloc_new _ _);rw[hcb];clear hW hcb;have A8:=ah (HB3.o.trans (dH.o.mono HB3.o.size));have am9:=ah (zk.o.same dH.o);have aP8:aj (jM w4 w4.heap.size [t,u] (some ⟨b,off,none⟩) 0):=ah (VZ Zk.o dH.o);have g0:=au (j:=0) HX.o rfl;have g1:=au (j:=1) HX.o rfl;have g2:=au (j:=2) HX.o rfl;have g3:=au (j:=3) HX.o rfl;have g4:=au (j:=4) HX.o rfl;have g5:=au (j:=5) HX.o rfl;have g6:=au (j:=6) HX.o rfl;have X1:w4.cell? ⟨b,off+1,none⟩=some (.slice eu 6 dI):=(dH.o.cell (p:=⟨b,_,none⟩) uD.o).trans x1;simp only[List.getElem_toArray,List.getElem_cons_zero,List.getElem_cons_succ]at g0 g1 g2 g3 g4 g5 g6;clear x0 x1;have HVA:aj (Calls Tryz.prog 24 #[.agg #[.slice s.aC W.cs.length s.cC,.slice s.aL W.ls.length s.cL,.slice s.aN W.ns.length s.cN,.slice s.aF W.fs.length s.cF,.slice s.aT W.ts.length s.cT,.slice s.aS W.ss.length s.cS,.slice (some ⟨b,off,none⟩) 2 RS]] w4 λe w'=>e= .returned (.bool true)∧Below w4.heap.size w4 w'):=ah (YS (W:=W) (s:=s) (l:=[t,u]) am9.o (iF.o.same A8.o) HVW.o aP8.o (by rw[nP.o];rfl) HV.o);go_wp2_with fail;refine HVA.o.mono ?_;rintro e w5 ⟨rfl,hb5⟩;have jS:=ah hb5;have wM:=ah ((hb5.block _ (Array.getElem?_eq_some_iff.1 HX.o).1).trans HX.o);clear hb5 g0 g1 g2 g3 g4 g5 g6 X1;have g0:=au (j:=0) wM.o rfl;have g1:=au (j:=1) wM.o rfl;have g2:=au (j:=2) wM.o rfl;have g3:=au (j:=3) wM.o rfl;have g4:=au (j:=4) wM.o rfl;have g5:=au (j:=5) wM.o rfl;simp only[List.getElem_toArray,List.getElem_cons_zero,List.getElem_cons_succ]at g0 g1 g2 g3 g4 g5;go_wp2_with fail;refine(Eb (am9.o.same jS.o) (iF.o.same (A8.o.trans (jS.o.mono A8.o.size))) HVW.o).mono ?_;rintro e w6 ⟨rfl,hb6⟩;have mQ:=ah ((A8.o.trans (jS.o.mono A8.o.size)).trans (hb6.mono (Nat.le_trans A8.o.size jS.o.size)));go_wp2_with fail;go_ret;exact⟨rfl,mQ.o⟩
end Go.Proofs.YtkmllehjemjgpaaGreatDoor
