/- Contracts of eval.Binary and of compile's validOperands. And what hangs on it. -/
import Derived.Test.YtcjgfgkllmldpaaGreatDoorGVD
import Derived.Test.YtcjgfgkllmldpaaGreatDoorGRC
set_option linter.unusedSimpArgs false
set_option linter.unusedVariables false
set_option maxHeartbeats 40000000
set_option maxRecDepth 1000000
namespace Go.Proofs.YtcjgfgkllmldpaaGreatDoor
open Go.RowKit
open Md
theorem Yq (op:Int) (w:World):Calls Tryz.prog 57 #[.int .i64 op,.int .i64 0,.int .i64 0] w λe w'=>(∃v,e= .returned (.tuple #[.int .i64 v,.bool (decide (6<=op)&&decide (op<=18))]))∧w=w':=by
 have hcs:op=6∨op=7∨op=8∨op=9∨op=10∨op=11∨op=12∨op=13∨op=14∨op=15∨op=16∨op=17∨op=18∨(op≠6∧op≠7∧op≠8∧op≠9∧op≠10∧op≠11∧op≠12∧op≠13∧op≠14∧op≠15∧op≠16∧op≠17∧op≠18):=ahf
 rcases hcs with rfl|rfl|rfl|rfl|rfl|rfl|rfl|rfl|rfl|rfl|rfl|rfl|rfl|⟨n6,n7,n8,n9,n10,n11,n12,n13,n14,n15,n16,n17,n18⟩
 case inr.inr.inr.inr.inr.inr.inr.inr.inr.inr.inr.inr.inr=>
  have hres:(decide (6<=op)&&decide (op<=18))=false:=ahi
  rw[hres];have k6:(op==6)=false:=ahY
  have k7:(op==7)=false:=ahX
  have k8:(op==8)=false:=ahW
  have k9:(op==9)=false:=ahV
  have k10:(op==10)=false:=agI
  have k11:(op==11)=false:=agc
  have k12:(op==12)=false:=ahc
  have k13:(op==13)=false:=ahb
  have k14:(op==14)=false:=aha
  have k15:(op==15)=false:=ag9
  have k16:(op==16)=false:=ag8
  have k17:(op==17)=false:=by simpa using n17
  have k18:(op==18)=false:=by simpa using n18
  clear n6 n7 n8 n9 n10 n11 n12 n13 n14 n15 n16 n17 n18 hres;go_enter Tryz.func57,Tryz.ntmps57;go_wp2_with fail
  go_ret2
  exact⟨⟨0,rfl⟩,rfl⟩
 all_goals
  go_enter Tryz.func57,Tryz.ntmps57;go_wp2_with fail
  all_goals first
   |(go_ret2;exact⟨⟨_,rfl⟩,rfl⟩)
   |(refine(Rz _ w).mono ?_;rintro e w2 ⟨rfl,rfl⟩;go_wp2_with fail;all_goals (go_ret2;exact⟨⟨_,rfl⟩,rfl⟩))
theorem CZ (W:Wo) (s:jr) (n:Int) (x:dw) (w:World) (hw:gq w w.heap.size W s):
 Calls Tryz.prog 32 #[mQ W s,.int .i64 n,GK x] w λe w'=>e= .returned (.bool (tX W n x))∧Below w.heap.size w w':=by
 obtain⟨op,a,b,c,m,st⟩:=x;have HW:=ah hw;clear hw;unfold mQ GK;go_enter Tryz.func32,Tryz.ntmps32;go_upto_region 1 with fail;generalize hW:World.alloc (World.alloc w _) _=W1;obtain⟨nb,hnb⟩: ∃n,w.heap.size=n:=⟨_,rfl⟩;have HB:aj (Below w.heap.size w W1):=ah aa3;have qE:aj (W1.heap[nb]? =some (.cells #[.slice s.aC W.cs.length s.cC,.slice s.aL W.ls.length s.cL,.slice s.aN W.ns.length s.cN,.slice s.aF W.fs.length s.cF,.slice s.aT W.ts.length s.cT,.slice s.aS W.ss.length s.cS] 29 (0,0))):=ah aap;have jY:aj (W1.heap[nb+1]? =some (.cells #[.int .i64 op,.int .i64 a,.int .i64 b,.int .i64 c,.int .i64 m,.int .i64 st] 40 (0,0))):=ah ξ;have AO:=ah (HW.o.same HB.o);rw[hnb];clear hW hnb HW;have c0:=aG (j:=0) qE.o rfl;have c1:=aG (j:=1) qE.o rfl;have c2:=aG (j:=2) qE.o rfl;have c3:=aG (j:=3) qE.o rfl;have c4:=aG (j:=4) qE.o rfl;have c5:=aG (j:=5) qE.o rfl;have x0:=aG (j:=0) jY.o rfl;have x1:=aG (j:=1) jY.o rfl;have x2:=aG (j:=2) jY.o rfl;have x3:=aG (j:=3) jY.o rfl;have x4:=aG (j:=4) jY.o rfl;simp only[List.getElem_toArray,List.getElem_cons_zero,List.getElem_cons_succ]at c0 c1 c2 c3 c4 c5 x0 x1 x2 x3 x4;clear qE jY;have hcs:op=3∨op=4∨op=5∨op=10∨op=6∨op=8∨op=7∨op=9∨op=11∨op=12∨op=13∨op=14∨op=15∨op=16∨op=21∨op=22∨op=23∨op=24∨op=25∨op=26∨op=27∨(op≠3∧op≠4∧op≠5∧op≠10∧op≠6∧op≠8∧op≠7∧op≠9∧op≠11∧op≠12∧op≠13∧op≠14∧op≠15∧op≠16∧op≠21∧op≠22∧op≠23∧op≠24∧op≠25∧op≠26∧op≠27):=ahf
 rcases hcs with rfl|rfl|rfl|rfl|rfl|rfl|rfl|rfl|rfl|rfl|rfl|rfl|rfl|rfl|rfl|rfl|rfl|rfl|rfl|rfl|rfl|⟨n3,n4,n5,n10,n6,n8,n7,n9,n11,n12,n13,n14,n15,n16,n21,n22,n23,n24,n25,n26,n27⟩
 case inr.inr.inr.inr.inr.inr.inr.inr.inr.inr.inr.inr.inr.inr.inr.inr.inr.inr.inr.inr.inr=>
  have k3:(op==3)=false:=aii
  have k4:(op==4)=false:=aif
  have k5:(op==5)=false:=by simpa using n5
  have k10:(op==10)=false:=agI
  have k6:(op==6)=false:=ahY
  have k8:(op==8)=false:=ahW
  have k7:(op==7)=false:=ahX
  have k9:(op==9)=false:=ahV
  have k11:(op==11)=false:=agc
  have k12:(op==12)=false:=ahc
  have k13:(op==13)=false:=ahb
  have k14:(op==14)=false:=aha
  have k15:(op==15)=false:=ag9
  have k16:(op==16)=false:=ag8
  have k21:(op==21)=false:=by simpa using n21
  have k22:(op==22)=false:=by simpa using n22
  have k23:(op==23)=false:=by simpa using n23
  have k24:(op==24)=false:=by simpa using n24
  have k25:(op==25)=false:=by simpa using n25
  have k26:(op==26)=false:=by simpa using n26
  have k27:(op==27)=false:=by simpa using n27
  have hres:tX W n ⟨op,a,b,c,m,st⟩=true:=by unfold tX;simp[n3,n4,n5,n10,n6,n8,n7,n9,n11,n12,n13,n14,n15,n16,n21,n22,n23,n24,n25,n26,n27]
  have HR:=ah hres;clear n3 n4 n5 n10 n6 n8 n7 n9 n11 n12 n13 n14 n15 n16 n21 n22 n23 n24 n25 n26 n27 hres;go_wp2_with fail;go_ret;exact⟨aio,HB.o⟩
 all_goals
  go_wp2_with fail
  first
   |(refine(OH W s _ _ W1 AO.o).mono ?_;rintro e w2 ⟨rfl,hb⟩;go_wp2_with fail;go_ret;exact⟨afI,HB.o.trans (hb.mono HB.o.size)⟩)
   |(refine(UU W s _ W1 AO.o).mono ?_;rintro e w2 ⟨rfl,hb⟩;go_wp2_with fail;go_ret;exact⟨afI,HB.o.trans (hb.mono HB.o.size)⟩)
   |(refine(Wm W s _ _ W1 AO.o).mono ?_;rintro e w2 ⟨rfl,hb⟩;go_wp2_with fail;go_ret;exact⟨afI,HB.o.trans (hb.mono HB.o.size)⟩)
   |(refine(Pj _ _ W1).mono ?_;rintro e w2 ⟨rfl,rfl⟩;go_wp2_with fail;go_ret;exact⟨afI,HB.o⟩)
   |(refine(ad3 _ _ W1).mono ?_;rintro e w2 ⟨⟨v,rfl⟩,rfl⟩;go_wp2_with fail;go_ret;exact⟨afI,HB.o⟩)
   |(refine(Yq _ W1).mono ?_;rintro e w2 ⟨⟨v,rfl⟩,rfl⟩;go_wp2_with fail;go_ret;exact⟨afI,HB.o⟩)
namespace Md
def nZ (l:List dw) (k:Nat):Bool:=match l[k]? with|some i=>og i.op|none=>false
def CV (l:List dw) (k:Nat):Nat:=match l[k]? with|some i=>if i.op==5 then i.a.toNat else k+1|none=>k
def OQ (l:List dw):Prop:= ∀k i,l[k]? =some i->og i.op=true->(i.op=5->0<=i.a)∧CV l k<l.length
def lN (l:List dw):Nat->Nat->Bool
 |0,_=>false
 |f+1,k=>if nZ l k then lN l f (CV l k)else decide (k<l.length)
theorem OQ.next {l:List dw} (h:OQ l) {k:Nat} (hs:nZ l k=true):CV l k<l.length:=by
 unfold nZ at hs;cases hk:l[k]? with
 |none=>rw[hk]at hs;cases hs
 |some i=>rw[hk]at hs;exact(h k i hk hs).2
theorem V7 {l:List dw} (h:OQ l): ∀(f k:Nat),k<l.length->vk l f (k:Nat)=lN l f k
 |0,_,_=>rfl
 |f+1,k,hk=>by
  have hw:eB (k:Nat) l.length=true:=by unfold eB;simp;omega
  rw[vk,lN,if_pos hw];obtain⟨i,hi⟩: ∃i,l[k]? =some i:=⟨l[k],aX hk⟩;have e:(k:Int).toNat=k:=ahf
  rw[e,hi];have Zh:nZ l k=og i.op:=by unfold nZ;rw[hi]
  rw[Zh];cases hs:og i.op
  ·simp[hs,hk]
  ·obtain⟨h1,h2⟩:=h k i hi hs;have hn:CV l k=if i.op==5 then i.a.toNat else k+1:=by unfold CV;rw[hi]
   have e2:(if(i.op==5)=true then i.a else(k:Int)+1)=((CV l k:Nat):Int):=by
    rw[hn];by_cases h5:i.op=5
    ·have:=h1 h5;simp[h5];omega
    ·simp[h5]
   simp only[hs,if_true];rw[e2];exact V7 h f _ h2
def nG (l:List dw) (s:Nat):Nat->Nat
 |0=>s
 |i+1=>CV l (nG l s i)
theorem Fp (l:List dw) (s:Nat): ∀t,nG l (CV l s) t=nG l s (t+1)
 |0=>rfl
 |t+1=>by rw[nG,Fp l s t];rfl
theorem aI4 {l:List dw} {s:Nat} (f:Nat): ∀(m:Nat),(∀t,t<m->nZ l (nG l s t)=true)->lN l (f+m) s=lN l f (nG l s m)
 |0,_=>rfl
 |m+1,h=>by have h1:=aI4 (f+1) m (λt ht=>h t ahf);rw[show f+(m+1)=f+1+m by omega,h1,lN,if_pos (h m ahf)];rfl
theorem PO {l:List dw} {s i j:Nat} (h: ∀t,t<j->nZ l (nG l s t)=true) (hij:i<j) (he:nG l s i=nG l s j): ∀(f t:Nat),t<j->lN l f (nG l s t)=false
 |0,_,_=>rfl
 |f+1,t,ht=>by
  rw[lN,if_pos (h t ht)];show lN l f (nG l s (t+1))=false;by_cases h1:t+1<j
  ·exact PO h hij he f (t+1) h1
  ·have:t+1=j:=by omega
   rw[this,<- he];exact PO h hij he f i hij
theorem V3 {l:List dw} : ∀(f s:Nat),lN l f s=true->∃m,m<f∧(∀t,t<m->nZ l (nG l s t)=true)∧nZ l (nG l s m)=false∧nG l s m<l.length
 |0,_,h=>ahG
 |f+1,s,h=>by
  rw[lN]at h;cases hs:nZ l s
  ·rw[hs]at h;exact⟨0,ahf,λt ht=>ahf,hs,by show s<l.length;simpa using h⟩
  ·rw[hs]at h;obtain⟨m,h1,h2,h3,h4⟩:=V3 f (CV l s) aiy;refine⟨m+1,ahf,λt ht=> ?_,by rw[<- Fp];exact h3,by rw[<- Fp];exact h4⟩;cases t with
   |zero=>exact hs
   |succ t=>rw[<- Fp];exact h2 t ahf
theorem RZ {l:List dw} (ho:OQ l) {s:Nat} (hs:s<l.length) {m:Nat} (h: ∀t,t<m->nZ l (nG l s t)=true): ∀t,t<=m->nG l s t<l.length
 |0,_=>hs
 |t+1,ht=>ho.next (h t ahf)
theorem bj8 {n m:Nat} {g:Nat->Nat} (hg: ∀t,t<=m->g t<n) (hm:n<=m): ∃i j,i<j∧j<=m∧g i=g j:=by
 apply Classical.byContradiction;intro hno;have hnd:((List.range (m+1)).map g).Nodup:=by unfold List.Nodup;rw[List.pairwise_map];refine List.Pairwise.imp_of_mem ?_ (List.pairwise_lt_range (n:=m+1));intro a b ha hb hab e;exact hno ⟨a,b,hab,by have:=List.mem_range.1 hb;omega,e⟩
 have hsub:((List.range (m+1)).map g) ⊆ List.range n:=λx hx=>by obtain⟨t,ht,rfl⟩:=List.mem_map.1 hx;exact List.mem_range.2 (hg t (by have:=List.mem_range.1 ht;omega))
 have:=hnd.length_le_of_subset hsub;simp at this;omega
theorem bh0 {l:List dw} (ho:OQ l) {s f:Nat} (hs:s<l.length) (h:lN l f s=true):lN l (l.length+1) s=true:=by
 obtain⟨m,hm,h1,h2,h3⟩:=V3 f s h;have hml:m<l.length+1:=by apply Classical.byContradiction;intro hge;obtain⟨i,j,hij,hjm,he⟩:=bj8 (n:=l.length) (m:=m) (g:=nG l s) (RZ ho hs h1) ahf;have:=PO (λt ht=>h1 t ahf) hij he f 0 ahf;rw[show nG l s 0=s from rfl,h]at this;cases this
 have:=aI4 (l:=l) (s:=s) (l.length+1 -m) m h1;rw[show l.length+1 -m+m=l.length+1 by omega]at this;rw[this,show l.length+1 -m=(l.length -m)+1 by omega,lN,if_neg ahz];simpa using h3
def um (l:List dw) (k:Nat):Prop:= ∃f,lN l f k=true
theorem um.back {l:List dw} {s m:Nat} (h:um l (nG l s m)) (hs: ∀t,t<m->nZ l (nG l s t)=true): ∀t,t<=m->um l (nG l s t):=λt ht=>by
 obtain⟨f,hf⟩:=h;have: ∀(q t:Nat),t+q=m->lN l (f+q) (nG l s t)=true:=by
  intro q
  induction q with
  |zero=>intro t e;rw[Nat.add_zero]at e;subst e;exact hf
  |succ q ih=>intro t e;rw[show f+(q+1)=(f+q)+1 by omega,lN,if_pos (hs t ahf)];exact ih (t+1) ahf
 exact⟨_,this (m -t) t ahf⟩
theorem um.event {l:List dw} {k:Nat} (hk:k<l.length) (h:nZ l k=false):um l k:=⟨1,by rw[lN,h];simpa using hk⟩
theorem Xh {l:List dw} (ho:OQ l):MP l=true↔ ∀k,k<l.length->um l k:=by
 unfold MP;rw[List.all_eq_true];constructor
 ·intro h k hk;have:=h k (List.mem_range.2 hk);rw[V7 ho _ _ hk]at this;exact⟨_,this⟩
 ·intro h k hk;have hk:=List.mem_range.1 hk;obtain⟨f,hf⟩:=h k hk;rw[V7 ho _ _ hk];exact bh0 ho hk hf
def Gu:List Bool->Nat
 | []=>0
 |true::r=>Gu r
 |false::r=>Gu r+1
theorem Lf: ∀(l:List Bool) (k:Nat),l[k]? =some false->Gu (l.set k true)+1=Gu l
 | [],_,h=>ahv
 |b::r,0,h=>by simp at h;subst h;rfl
 |b::r,k+1,h=>by
  have ih:=Lf r k aiy;cases b
  ·show Gu (r.set k true)+1+1=Gu r+1;omega
  ·show Gu (r.set k true)+1=Gu r;omega
end Md
theorem Sb {w:World} {B b off c:Nat} {l:List dw} {x:dw} (h:dS jd 6 w B l (some ⟨b,off,none⟩) 0) (hx:l[c]? =some x):b<B∧w.cell? ⟨b,off+c*6,none⟩=some (.int .i64 x.op)∧w.cell? ⟨b,off+c*6+1,none⟩=some (.int .i64 x.a):=by
 obtain⟨b',off',e,hb,hc⟩:=h.at c x hx;injection e with e;injection e with e1 e2;subst e1 e2;have h0:=hc 0 _ rfl;have h1:=hc 1 _ rfl;simp only[aU,Nat.add_zero]at h0 h1;exact⟨hb,h0,h1⟩
theorem aB3 {l:List dw} {k:Nat} (h:nZ l k=true): ∃x,l[k]? =some x∧og x.op=true:=by
 unfold nZ at h;cases hk:l[k]? with
 |none=>rw[hk]at h;cases h
 |some x=>rw[hk]at h;exact⟨x,rfl,h⟩
theorem Cb {l:List dw} (ho:OQ l) (k:Nat) (hs:nZ l k=true) (w:World) (b off cap:Nat) (hl:l.length<=3000000000000) (hw:dS jd 6 w w.heap.size l (some ⟨b,off,none⟩) 0):
 Calls Tryz.prog 61 #[.slice (some ⟨b,off,none⟩) l.length cap,.int .i64 k] w λe w'=>e= .returned (.int .i64 ((CV l k:Nat):Int))∧w=w':=by
 obtain⟨x,hx,hsx⟩:=aB3 hs;obtain⟨hb,c0,c1⟩:=Sb hw hx;obtain⟨h1,h2⟩:=ho k x hx hsx;have hk:k<l.length:=(List.getElem?_eq_some_iff.1 hx).1;have hn:CV l k=if x.op==5 then x.a.toNat else k+1:=by unfold CV;rw[hx]
 have k0:(0:Int)<=(k:Int):=ahf
 have k1:(k:Int)<(l.length:Int):=ahf
 cases h5:(x.op==5)
 ·have hr:((CV l k:Nat):Int)=(k:Int)+1:=by rw[hn,h5];simp
  have hwr:IntKind.i64.wrap ((k:Int)+1)=(k:Int)+1:=IntWalk.i64_in _ ahf;rw[hr];clear hw hx hn hr h1 h2 hs hsx;go_enter Tryz.func61,Tryz.ntmps61;go_wp2_with fail;go_ret;exact⟨by first|rfl|simp[hwr],rfl⟩
 ·have h5':x.op=5:=by simpa using h5
  have ha:=h1 h5';have hr:((CV l k:Nat):Int)=x.a:=by rw[hn,h5];simp;omega
  rw[hr];clear hw hx hn hr h1 h2 hs hsx;go_enter Tryz.func61,Tryz.ntmps61;go_wp2_with fail;go_ret;exact⟨rfl,rfl⟩
def ou (w:World) (g:Nat) (G:List Bool):Prop:=w.heap[g]? =some (.cells (G.map Value.bool).toArray 4 (0,0))
theorem ou.cell {w:World} {g c:Nat} {G:List Bool} {q:Bool} (h:ou w g G) (hc:G[c]? =some q):w.cell? ⟨g,c,none⟩=some (.bool q):=aG h (by simp[hc])
theorem ou.set {w:World} {g:Nat} {G:List Bool} (h:ou w g G) (c:Nat) (q:Bool):ou (w.setCell ⟨g,c,none⟩ (.bool q)) g (G.set c q):=oW h _ (by simp[List.map_set])
theorem ou.far {w:World} {g g':Nat} {G:List Bool} (h:ou w g G) (hne:g'≠g) (c:Nat) (v:Value):ou (w.setCell ⟨g',c,none⟩ v) g G:=(bF _ _ _ rfl hne).trans h
def JY (w:World) (g:Nat):Nat:=match w.heap[g]? with|some (.cells cs _ _)=>(cs.toList.filter (λv=>match v with| .bool false=>true|_=>false)).length|_=>0
theorem Gv {w:World} {g:Nat} {G:List Bool} (h:ou w g G):JY w g=Gu G:=by
 have hh:w.heap[g]? =_:=h;unfold JY;rw[hh];show((G.map Value.bool).filter _).length=Gu G
 induction G with
 |nil=>rfl
 |cons b r ih=>
  have ih':((r.map Value.bool).filter (λv=>match v with| .bool false=>true|_=>false)).length=Gu r:=by
   clear ih hh h
   induction r with
   |nil=>rfl
   |cons b r ih=>cases b <;> simp[Gu,ih]
  cases b <;> simp[Gu,ih']
theorem bo2:(Tryz.prog.info? 4).map (λi=>(i.zero,i.size,i.bytes))=some (some (.bool false),1,1):=ahe
theorem Zo (n:Nat):madeCells (Value.bool false).cells (n*1)=((List.replicate n false).map Value.bool).toArray:=by
 rw[Nat.mul_one];apply Array.ext
 ·simp[madeCells]
 ·intro i h1 h2;simp[madeCells,Value.cells,Nat.mod_one]
theorem ay8 (n:Nat) (hn:n<=3000000000000) (w:World):
 (Instr.makeSlice 130 (.int .i64 (n:Int)) (.int .i64 (n:Int))).run Tryz.prog w= .ok (.slice (some ⟨w.heap.size,0,none⟩) n n) (w.alloc (.cells ((List.replicate n false).map Value.bool).toArray 4)):=by
 obtain⟨i0,hi0,hz0,hz1,hz2⟩:=Ai bo2;have hr:=run_make (P:=Tryz.prog) w 130 4 i0 (.bool false) Tryz.underlying130 hi0 hz0 .i64 .i64 n n ahf ahf (by rw[hz2];omega) ahf;simp only[Int.toNat_natCast]at hr;rw[hz1,Zo]at hr;exact hr
structure AdI (l:List dw) (w:World) (gb sb:Nat) (G S:List Bool):Prop where
 g:ou w gb G
 s:ou w sb S
 gl:G.length=l.length
 sl:S.length=l.length
 lands: ∀k:Nat,G[k]? =some true->um l k
 sub: ∀k:Nat,S[k]? =some true->G[k]? =some true
theorem YQ {G:List Bool} {k n:Nat} (h:G.length=n) (hk:k<n): ∃q,G[k]? =some q:=⟨G[k],aX ahf⟩
theorem I5 {G:List Bool} {k q:Nat} (hk:k<G.length):(G.set k true)[q]? =some true↔q=k∨G[q]? =some true:=by
 by_cases h:q=k
 ·subst h;simp[hk]
 ·rw[List.getElem?_set_ne (λe=>h e.symm)];simp[h]
theorem U4 {l:List dw} (ho:OQ l) (w:World) (ao:Option Addr) (cap:Nat) (hl:l.length<=3000000000000) (hw:dS jd 6 w w.heap.size l ao 0):
 Calls Tryz.prog 33 #[.slice ao l.length cap] w λe w'=>e= .returned (.bool (MP l))∧Below w.heap.size w w':=by
 have HO:=ah ho;have HW:=ah hw;obtain⟨res,hres⟩: ∃r,MP l=r:=⟨_,rfl⟩;have HR:=ah hres;have hmk:=ay8 l.length hl;rw[hres];clear ho hw hres;go_enter Tryz.func33,Tryz.ntmps33;go_wp2_with fail;generalize hW:World.alloc (World.alloc w _) _=w2;obtain⟨gb,hgb⟩: ∃n,w.heap.size=n:=⟨_,rfl⟩;have HB:aj (Below gb w w2):=ah (by rw[<- hW,<- hgb];exact(aA _ _).alloc ahh _);have HRP:aj (((List.replicate l.length false).map Value.bool).toArray=Array.replicate l.length (Value.bool false)):=ah ahh;have HG:aj (ou w2 gb (List.replicate l.length false)):=ah (by unfold ou;rw[HRP.o,<- hW,<- hgb,heap_alloc_old _ _ ahh];exact heap_alloc_new _ _);have HS:aj (ou w2 (gb+1) (List.replicate l.length false)):=ah (by have:=heap_alloc_new (w.alloc (.cells (Array.replicate l.length (Value.bool false)) 4)) (.cells (Array.replicate l.length (Value.bool false)) 4);unfold ou;rw[HRP.o,<- hW,<- hgb];simpa using this);have HF:aj (dS jd 6 w2 gb l ao 0):=ah (by have:=HW.o;rw[hgb]at this;exact this.below HB.o);have zT:=ah hgb;rw[hgb];clear hW hmk HW hgb;go_loopw [5,6,15] (λ_ _ v15 wr=> ∃(k:Nat) (G S:List Bool),v15= .int .i64 k∧k<=l.length∧AdI l wr gb (gb+1) G S∧dS jd 6 wr gb l ao 0∧Below gb w wr∧(∀j,j<k->um l j)) (λ_ _ i _=>l.length -(intOf i).toNat)
 case atStart=>exact⟨0,_,_,rfl,bC _,⟨HG.o,HS.o,ahh,ahh,λk h=>aeD,λk h=>aeD⟩,HF.o,HB.o,λj h=>ahf⟩
 case round=>
  obtain⟨k,G,S,rfl,hk,hA,hf,hb,hj⟩:=hrel;have HA:=ah hA;have Av:=ah hf;have HB1:=ah hb;have HJ:=ah hj;clear hA hf hb hj HG HS HF HB;by_cases hkn:k<l.length
  ·obtain⟨x0,hx0⟩: ∃x,l[k]? =some x:=⟨l[k],aX hkn⟩;obtain⟨b,off,hao,-,-⟩:=Av.o.at k x0 hx0;subst hao;clear hx0 x0;go_upto_region 7 with fail;obtain⟨wI,Ku⟩: ∃W:World,W=wr:=⟨_,rfl⟩;subst Ku;go_loopw [6] (λv6 wq=> ∃(m:Nat) (S':List Bool),v6= .int .i64 ((nG l k m:Nat):Int)∧(∀t,t<m->nZ l (nG l k t)=true)∧(∀t,t<m->G[nG l k t]? =some false)∧ou wq gb G∧ou wq (gb+1) S'∧S'.length=l.length∧(∀q:Nat,S'[q]? =some true->G[q]? =some true∨∃t,t<m∧nG l k t=q)∧dS jd 6 wq gb l (some ⟨b,off,none⟩) 0∧Below gb w wq) (λ_ wq=>JY wq (gb+1))
   case atStart=>exact⟨0,S,rfl,λt h=>ahf,λt h=>ahf,HA.o.g,HA.o.s,HA.o.sl,λq h=> .inl (HA.o.sub q h),Av.o,HB1.o⟩
   case round=>
    obtain⟨m,S',rfl,hs1,hs2,hg,hs,hsl,hsub,hf,hb⟩:=hrel;have hcl:=RZ HO.o hkn hs1 m (aD _);obtain⟨c,hc⟩: ∃c,nG l k m=c:=⟨_,rfl⟩;have HC:=ah hc;rw[hc]at hcl;rw[hc];have HP:=ah (ay hs1 (ay hs2 hsub));have oG:=ah hg;have X5:=ah hs;have HSL:=ah hsl;have yj:=ah hf;have HB2:=ah hb;clear hc hs1 hs2 hsub hg hs hsl hf hb;obtain⟨x,hx⟩: ∃x,l[c]? =some x:=⟨l[c],aX hcl⟩;obtain⟨hbg,z0,z1⟩:=Sb yj.o hx;have Zh:nZ l c=og x.op:=(by unfold nZ;rw[hx]);obtain⟨q,hq⟩:=YQ HA.o.gl hcl;have y0:=oG.o.cell hq;have c0:(0:Int)<=(c:Int):=ahf;have c1:(c:Int)<(l.length:Int):=ahf;have kX:=ah Zh;have HQ:=ah hq;clear hx z1 Zh hq;have hcase:(og x.op=false)∨(og x.op=true∧q=true)∨(og x.op=true∧q=false):=(by cases og x.op <;> cases q <;> simp);rcases hcase with hs0|⟨hs0,rfl⟩|⟨hs0,rfl⟩
    ·have LY:aj (um l (nG l k m)):=ah (by rw[HC.o];exact um.event hcl aiu);have WK:aj (nZ l c=false∨G[c]? =some true):=ah (.inl aiu);clear y0;exact Aab
    ·have LY:aj (um l (nG l k m)):=ah (by rw[HC.o];exact HA.o.lands c HQ.o);have WK:aj (nZ l c=false∨G[c]? =some true):=ah (.inr HQ.o);exact Aab
    ·obtain⟨p,hp⟩:=YQ HSL.o hcl;have y1:=X5.o.cell hp;have f1:wr.frozen? ⟨gb+1,c,none⟩=false:=bG X5.o;have HPP:=ah hp;clear hp;cases p
     ·go_wp2_with fail;refine(mO x.op wr).mono ?_;rintro e w3 ⟨rfl,rfl⟩;rw[hs0];go_upto_region 11 with fail;generalize hW:World.setCell wr _ _=w4;have Jq:aj (Below gb wr w4):=ah (by rw[<- hW];exact cB (bQ _ _ _) (jv _) (bg (aI oG.o)));have EL:aj (ou w4 gb G):=ah (by rw[<- hW];exact oG.o.far (Nat.succ_ne_self _) _ _);have qj:aj (ou w4 (gb+1) (S'.set c true)):=ah (by rw[<- hW];exact X5.o.set c true);have Ck:=ah (yj.o.below Jq.o);have dL:=ah (HB2.o.trans Jq.o);have NR:aj (nZ l c=true):=ah aiu;clear hW y0 y1 f1 z0;go_wp2_with fail;refine(Cb HO.o c NR.o w4 b off cap hl (Ck.o.mono (bg (aI EL.o)))).mono ?_;rintro e w5 ⟨rfl,rfl⟩;go_wp2_with fail;go_roundw
      case rel=>
       refine⟨m+1,S'.set c true,by rw[<- HC.o];rfl,λt ht=> ?_,λt ht=> ?_,EL.o,qj.o,by rw[List.length_set];exact HSL.o,λq hq=> ?_,Ck.o,dL.o⟩
       ·rcases Nat.lt_succ_iff_lt_or_eq.1 ht with h|rfl
        ·exact HP.o.1 t h
        ·rw[HC.o];exact NR.o
       ·rcases Nat.lt_succ_iff_lt_or_eq.1 ht with h|rfl
        ·exact HP.o.2.1 t h
        ·rw[HC.o];exact HQ.o
       ·rcases(I5 (by rw[HSL.o];exact hcl)).1 hq with h|h
        ·exact .inr ⟨m,Nat.lt_succ_self _,by rw[HC.o,h]⟩
        ·rcases HP.o.2.2 q h with h|⟨t,h1,h2⟩
         ·exact .inl h
         ·exact .inr ⟨t,ahf,h2⟩
      case measure=>show JY w4 (gb+1)<JY wr (gb+1);rw[Gv qj.o,Gv X5.o];have:=Lf S' c HPP.o;omega
     ·have HT:aj (res=false):=ah (by
       cases hres:res
       ·rfl
       ·exfalso;obtain⟨f,hf⟩:=(Xh HO.o).1 (by rw[HR.o,hres]) k hkn;rcases HP.o.2.2 c HPP.o with h|⟨t,h1,h2⟩
        ·rw[HQ.o]at h;cases h
        ·have:=PO (l:=l) (s:=k) (j:=m) HP.o.1 h1 (by rw[h2,HC.o]) f 0 ahf;rw[show nG l k 0=k from rfl,hf]at this;cases this)
      go_wp2_with fail;refine(mO x.op wr).mono ?_;rintro e w3 ⟨rfl,rfl⟩;rw[hs0];go_wp2_with fail;go_ret;exact⟨ahk,by rw[zT.o];exact HB2.o⟩
  ·obtain rfl:k=l.length:=by omega
   have HT:aj (res=true):=ah (by rw[<- HR.o];exact(Xh HO.o).2 HJ.o);go_wp2_with fail;go_ret;exact⟨ahk,by rw[zT.o];exact HB1.o⟩
theorem XG {W:Wo} {th n regs:Int} : ∀ {l:List dw} {k:Int},wC W th n regs k l=true->∀(j:Nat) (i:dw),l[j]? =some i->Ah W th n regs (k+j) i=true
 | [],_,_,j,i,h=>ahv
 |x::r,k,h,j,i,hj=>by
  rw[wC,aM]at h;cases j with
  |zero=>simp at hj;subst hj;rw[show k+((0:Nat):Int)=k by omega];exact h.1
  |succ j=>have:=XG h.2 j i (by simpa using hj);rw[show k+((j+1:Nat):Int)=k+1+(j:Nat) by omega];exact this
theorem aN4 {W:Wo} {th regs:Int} {l:List dw} (h:wC W th l.length regs 0 l=true):OQ l:=λk i hk hs=>by
 have hi:=XG h k i hk;have hlt:=(List.getElem?_eq_some_iff.1 hk).1;unfold Ah at hi;simp only[aM]at hi;obtain⟨⟨-,he⟩,-,-,ho⟩:=hi;unfold og at hs;simp only[aM,decide_eq_true_eq]at hs;have h28:(i.op==28)=false:=acA
 rw[h28]at he;have hne: ¬((0:Int)+(k:Nat)=(l.length:Int) -1):=by intro e;rw[e]at he;simp at he
 have hn:CV l k=if i.op==5 then i.a.toNat else k+1:=by unfold CV;rw[hk]
 rw[hn];by_cases h5:i.op=5
 ·have hw:eB i.a l.length=true:=by unfold tX at ho;simpa[h5]using ho
  unfold eB at hw;simp only[aM,decide_eq_true_eq]at hw;exact⟨λ_=>hw.1,by simp[h5];omega⟩
 ·exact⟨λe=>absurd e h5,by simp[h5];omega⟩
theorem Pf (W:Wo) (s:jr) (th:Int) (t:xJ) (gu:Option Addr) (eG:Nat) (w:World) (hw:gq w w.heap.size W s) (hf:dS jd 6 w w.heap.size t.is gu 0) (hl:t.is.length<=3000000000000):
 Calls Tryz.prog 11 #[mQ W s,.int .i64 th,.agg #[.int .i64 t.regs,.slice gu t.is.length eG]] w λe w'=>e= .returned (.bool (GY W th t))∧Below w.heap.size w w':=by
 obtain⟨regs,l⟩:=t;have HW:=ah hw;have HF0:aj (dS jd 6 w w.heap.size l gu 0):=ah hf;have hls:=hw.lS;unfold maxLen at hls;have hl:l.length<=3000000000000:=hl;obtain⟨res,hres⟩: ∃r,GY W th ⟨regs,l⟩=r:=⟨_,rfl⟩;have HR:=ah hres;rw[hres];clear hw hf hres;dsimp only;unfold mQ;go_enter Tryz.func11,Tryz.ntmps11;go_upto_region 1 with fail;generalize hW:World.alloc (World.alloc w _) _=W1;obtain⟨nb,hnb⟩: ∃n,w.heap.size=n:=⟨_,rfl⟩;have HB:aj (Below w.heap.size w W1):=ah aa3;have qE:aj (W1.heap[nb]? =some (.cells #[.slice s.aC W.cs.length s.cC,.slice s.aL W.ls.length s.cL,.slice s.aN W.ns.length s.cN,.slice s.aF W.fs.length s.cF,.slice s.aT W.ts.length s.cT,.slice s.aS W.ss.length s.cS] 29 (0,0))):=ah aap;have jY:aj (W1.heap[nb+1]? =some (.cells #[.int .i64 regs,.slice gu l.length eG] 37 (0,0))):=ah υ;have dG:aj (w.heap.size=nb):=ah hnb;have jX:aj (W1.heap.size=nb+2):=ah aft;have AO:aj (gq W1 nb W s):=ah ab3;have SC:aj (dS jd 6 W1 nb l gu 0):=ah ab0;have HB0:aj (Below nb w W1):=ah adV;rw[hnb];clear hW hnb HW HF0 HB;have t0:=aG (j:=0) jY.o rfl;have t1:=aG (j:=1) jY.o rfl;simp only[List.getElem_toArray,List.getElem_cons_zero,List.getElem_cons_succ]at t0 t1;by_cases hA:regs<0∨32<regs∨l.length=0
 ·have HT:aj (res=false):=ah (by rw[<- HR.o];unfold GY;rw[if_pos];rcases hA with h|h|h <;> simp[h]);rcases hA with h|h|h
  ·exact AbG
  ·have h': ¬regs<0:=by omega
   exact AbG
  ·by_cases h1:regs<0
   ·exact AbG
   ·by_cases h2:32<regs
    ·exact AbG
    ·exact AbG
 ·have hA1: ¬regs<0:=by omega
  have hA2: ¬32<regs:=ahf
  have hA3:l.length≠0:=ahf
  have hA4:((l.length:Int)==0)=false:=acA
  have HR2:aj (res=(wC W th l.length regs 0 l&&MP l)):=ah (by rw[<- HR.o];unfold GY;rw[if_neg];simp[hA1,hA2,hA3]);clear hA HR;go_wp2_with fail;go_loopw [7,8,10,28,78,79,80] (λ_ _ _ v28 _ _ _ wr=> ∃(k:Nat) (R:List dw),v28= .int .i64 k∧k+R.length=l.length∧wC W th l.length regs 0 l=wC W th l.length regs k R∧dS jd 6 wr nb R gu k∧Below (nb+2) W1 wr) (λ_ _ _ v _ _ _ _=>l.length -(intOf v).toNat)
  case atStart=>exact⟨0,l,rfl,ahh,rfl,SC.o,ak _ _⟩
  case round=>
   obtain⟨k,R,rfl,hlen,heq,hrow,hbel⟩:=hrel;have HE:=ah heq;have iZ:=ah hbel;have DW:=ah ((iZ.o.block nb ahf).trans qE.o);have Ht:=ah ((iZ.o.block (nb+1) ahf).trans jY.o);have pY:aj (Below nb w wr):=ah (HB0.o.trans (iZ.o.mono ahf));have DV:aj (gq wr nb W s):=ah (AO.o.below (iZ.o.mono ahf));have iw:aj (nb+2<=wr.heap.size):=ah ac9;clear heq hbel t0 t1;have t0:=aG (j:=0) Ht.o rfl;have t1:=aG (j:=1) Ht.o rfl;have g0:=aG (j:=0) DW.o rfl;have g1:=aG (j:=1) DW.o rfl;have g2:=aG (j:=2) DW.o rfl;have g3:=aG (j:=3) DW.o rfl;have g4:=aG (j:=4) DW.o rfl;have g5:=aG (j:=5) DW.o rfl;simp only[List.getElem_toArray,List.getElem_cons_zero,List.getElem_cons_succ]at t0 t1 g0 g1 g2 g3 g4 g5;cases R with
   |nil=>obtain rfl:k=l.length:=afb;have HT:aj (wC W th l.length regs 0 l=true):=ah HE.o;have HT2:aj (res=MP l):=ah (by rw[HR2.o,HT.o];rfl);go_wp2_with fail;refine(U4 (aN4 HT.o) wr gu eG hl ((SC.o.below (iZ.o.mono ahf)).mono afi)).mono ?_;rintro e w3 ⟨rfl,hb3⟩;go_wp2_with fail;go_ret;exact⟨ahA,by rw[dG.o];exact pY.o.trans (hb3.mono afi)⟩
   |cons x R=>
    obtain⟨⟨b1,off,rfl,hb1,hcs⟩,hrest⟩:=hrow;simp only[aB]at hlen;have hkl:k<l.length:=ahf;have x0:=hcs 0 _ rfl;have x1:=hcs 1 _ rfl;have x2:=hcs 2 _ rfl;have x3:=hcs 3 _ rfl;have x4:=hcs 4 _ rfl;have x5:=hcs 5 _ rfl;simp only[Nat.add_zero]at x0;have kg:=ah hrest;have rC:aj (wC W th l.length regs 0 l=(Ah W th l.length regs k x&&wC W th l.length regs ((k:Int)+1) R)):=ah HE.o;clear hcs hrest HE;go_upto_region 6 with fail;generalize hW2:World.alloc wr _=w2;obtain⟨ib,hib⟩: ∃n,wr.heap.size=n:=⟨_,rfl⟩;have HB2:aj (Below wr.heap.size wr w2):=ah afl;have zk:aj (w2.heap[ib]? =some (.cells (jd x).toArray 40 (0,0))):=ah aco;have WO:=ah hib;rw[hib];clear hW2 hib x0 x1 x2 x3 x4 x5 t0 t1 g0 g1 g2 g3 g4 g5;have uh:=ah ((HB2.o.block nb (aI DW.o)).trans DW.o);have DX:=ah ((HB2.o.block (nb+1) (aI Ht.o)).trans Ht.o);have yJ:aj (Below nb w w2):=ah (pY.o.trans (HB2.o.mono afi));have X8:aj (gq w2 nb W s):=ah (DV.o.below (HB2.o.mono afi));have MF:aj (Below (nb+2) W1 w2):=ah (iZ.o.trans (HB2.o.mono iw.o));have Pw:aj (dS jd 6 w2 nb R (some ⟨b1,off,none⟩) (k+1)):=ah (kg.o.below (HB2.o.mono afi));have t0:=aG (j:=0) DX.o rfl;have t1:=aG (j:=1) DX.o rfl;have g0:=aG (j:=0) uh.o rfl;have g1:=aG (j:=1) uh.o rfl;have g2:=aG (j:=2) uh.o rfl;have g3:=aG (j:=3) uh.o rfl;have g4:=aG (j:=4) uh.o rfl;have g5:=aG (j:=5) uh.o rfl;have x0:w2.cell? ⟨ib,0,none⟩=some (.int .i64 x.op):=aG zk.o rfl;have x1:w2.cell? ⟨ib,1,none⟩=some (.int .i64 x.a):=aG zk.o rfl;have x2:w2.cell? ⟨ib,2,none⟩=some (.int .i64 x.b):=aG zk.o rfl;have x3:w2.cell? ⟨ib,3,none⟩=some (.int .i64 x.c):=aG zk.o rfl;have x4:w2.cell? ⟨ib,4,none⟩=some (.int .i64 x.n):=aG zk.o rfl;have x5:w2.cell? ⟨ib,5,none⟩=some (.int .i64 x.st):=aG zk.o rfl;simp only[List.getElem_toArray,List.getElem_cons_zero,List.getElem_cons_succ]at t0 t1 g0 g1 g2 g3 g4 g5;have hwn:IntKind.i64.wrap ((l.length:Int) -1)=(l.length:Int) -1:=IntWalk.i64_in _ ahf;have sj:aj (Ah W th l.length regs k x=false->res=false):=ah (λh=>by rw[HR2.o,rC.o,h];rfl);by_cases h1:x.op<1
    ·have HT:aj (res=false):=ah (sj.o (by unfold Ah;simp[show ¬(1<=x.op) by omega]));exact AbH
    ·by_cases h2:28<x.op
     ·have HT:aj (res=false):=ah (sj.o (by unfold Ah;simp[show ¬(x.op<=28) by omega]));exact AbH
     ·obtain⟨e28,Cc⟩: ∃q,(x.op==28)=q:=⟨_,rfl⟩;obtain⟨ek,hek⟩: ∃q,((k:Int)==(l.length:Int) -1)=q:=⟨_,rfl⟩;by_cases hq:e28=ek
      ·subst hq;have fF:aj (Ah W th l.length regs k x=(zB W th x&&((je x).all (λr=>eB r regs)&&tX W l.length x))):=ah (by unfold Ah;rw[Cc,hek];simp[show 1<=x.op by omega,show x.op<=28 by omega]);have Dw:=ah Cc;cases e28
       ·cases hwi:eB x.st W.ss.length
        ·have NP:aj (Ah W th l.length regs k x=false):=ah (by rw[fF.o];unfold zB;rw[Dw.o,hwi];simp);have HT:aj (res=false):=ah (sj.o NP.o);go_wp2_with fail;refine(lF hwi w2).mono ?_;rintro e w3 ⟨rfl,rfl⟩;exact AbH
        ·obtain⟨js,sx,hjs,hjl,hsx⟩:=oF hwi;obtain⟨b5,IB,Ux,hb5,nP⟩:=X8.o.ss.at js sx hsx;have z0:=nP 0 _ rfl;simp only[aU,Nat.add_zero]at z0;rw[Ux]at g5;have j0:(0:Int)<=(js:Int):=ahf;have j1:(js:Int)<(W.ss.length:Int):=ahf;have eX:aj (zB W th x=(sx.th==th)):=ah adS;rw[hjs]at x5 hwi;clear nP hjs hsx Ux;cases hth:(sx.th==th)
         ·have HT:aj (res=false):=ah (sj.o (by rw[fF.o,eX.o,hth];rfl));go_wp2_with fail;refine(lF hwi w2).mono ?_;rintro e w3 ⟨rfl,rfl⟩;exact AbH
         ·have kX:aj (zB W th x=true):=ah (by rw[eX.o,hth]);go_wp2_with fail;refine(lF hwi w2).mono ?_;rintro e w3 ⟨rfl,rfl⟩;clear hwi;go_upto_region 13 with fail;clear hth z0 j0 j1 hb5 hjl x5;have x5:w2.cell? ⟨ib,5,none⟩=some (.int .i64 x.st):=aG zk.o rfl;exact Aac
       ·cases hst:(x.st== -1)
        ·have HT:aj (res=false):=ah (sj.o (by rw[fF.o];unfold zB;rw[Dw.o,hst];rfl));exact AbH
        ·have kX:aj (zB W th x=true):=ah aeV;go_upto_region 13 with fail;clear hst;exact Aac
      ·have NP:aj (Ah W th l.length regs k x=false):=ah (by unfold Ah;rw[Cc,hek];cases e28 <;> cases ek <;> simp_all);exact Abd
theorem rR {w w':World} {B:Nat} (hb:Below B w w'): ∀ {l:List xJ} {ao:Option Addr} {k:Nat},qU w B l ao k->qU w' B l ao k
 | [],_,_,_=>trivial
 |_::_,_,_,⟨⟨b,off,gu,eG,e,hB,x0,x1,hl,hf⟩,hr⟩=>⟨⟨b,off,gu,eG,e,hB,(hb.cell (p:=⟨b,_,none⟩) hB).trans x0,(hb.cell (p:=⟨b,_,none⟩) hB).trans x1,hl,hf.below hb⟩,rR hb hr⟩
theorem Rt {w:World} {B B':Nat} (hB:B<=B'): ∀ {l:List xJ} {ao:Option Addr} {k:Nat},qU w B l ao k->qU w B' l ao k
 | [],_,_,_=>trivial
 |_::_,_,_,⟨⟨b,off,gu,eG,e,hb,x0,x1,hl,hf⟩,hr⟩=>⟨⟨b,off,gu,eG,e,aV hb hB,x0,x1,hl,hf.mono hB⟩,Rt hB hr⟩
theorem Ru {w w':World} {l:List xJ} {ao:Option Addr} {k:Nat} (h:qU w w.heap.size l ao k) (hb:Below w.heap.size w w'):qU w' w'.heap.size l ao k:=Rt hb.size (rR hb h)
theorem VI (hvw:U2) (W:Wo) (s:jr) (l:List xJ) (BK:Option Addr) (cap:Nat) (w:World) (hw:gq w w.heap.size W s) (fG:eD w) (hk:Ma W) (hc:qU w w.heap.size l BK 0) (hl:l.length<=maxLen):
 Calls Tryz.prog 5 #[.agg #[.slice s.aC W.cs.length s.cC,.slice s.aL W.ls.length s.cL,.slice s.aN W.ns.length s.cN,.slice s.aF W.fs.length s.cF,.slice s.aT W.ts.length s.cT,.slice s.aS W.ss.length s.cS,.slice BK l.length cap]] w λe w'=>e= .returned (.bool (CY W l))∧Below w.heap.size w w':=by
 have HW:=ah hw;have kG:=ah fG;have HK:=ah hk;have HC:=ah hc;have HV:=ah hvw;have hlt:=hw.lt;unfold maxLen at hlt hl;obtain⟨res,hres⟩: ∃r,CY W l=r:=⟨_,rfl⟩;have HR:=ah hres;rw[hres];clear hw fG hk hc hvw hres;go_enter Tryz.func5,Tryz.ntmps5;go_upto_region 1 with fail;generalize hW:World.alloc w _=W1;obtain⟨nb,hnb⟩: ∃n,w.heap.size=n:=⟨_,rfl⟩;have HB:aj (Below nb w W1):=ah acM;have HX:aj (W1.heap[nb]? =some (.cells #[.slice s.aC W.cs.length s.cC,.slice s.aL W.ls.length s.cL,.slice s.aN W.ns.length s.cN,.slice s.aF W.fs.length s.cF,.slice s.aT W.ts.length s.cT,.slice s.aS W.ss.length s.cS,.slice BK l.length cap] 32 (0,0))):=ah aaX;have jX:aj (W1.heap.size=nb+1):=ah aft;have HW1:aj (gq W1 nb W s):=ah aa1;have FZ:aj (qU W1 nb l BK 0):=ah ace;have oI:aj (eD W1):=ah abW;have dG:=ah hnb;rw[hnb];clear hW hnb HW HC;have g0:=aG (j:=0) HX.o rfl;have g1:=aG (j:=1) HX.o rfl;have g2:=aG (j:=2) HX.o rfl;have g3:=aG (j:=3) HX.o rfl;have g4:=aG (j:=4) HX.o rfl;have g5:=aG (j:=5) HX.o rfl;have g6:=aG (j:=6) HX.o rfl;simp only[List.getElem_toArray,List.getElem_cons_zero,List.getElem_cons_succ]at g0 g1 g2 g3 g4 g5 g6;go_wp2_with fail;refine(HV.o W s W1 (HW1.o.mono afj) oI.o HK.o).mono ?_;rintro e w2 ⟨rfl,hb2⟩;have HB2:=ah hb2;have AQ:aj (Below nb w w2):=ah (HB.o.trans (hb2.mono afj));have jY:=ah ((hb2.block nb afj).trans HX.o);clear hb2 g0 g1 g2 g3 g4 g5 g6;have g4:=aG (j:=4) jY.o rfl;have g6:=aG (j:=6) jY.o rfl;simp only[List.getElem_toArray,List.getElem_cons_zero,List.getElem_cons_succ]at g4 g6;cases hv:vW W
 ·have HT:aj (res=false):=ah aef;exact AbI
 ·cases hne:((l.length:Int)==(W.ts.length:Int))
  ·have HT:aj (res=false):=ah aa8;exact AbI
  ·have HR2:aj (res=FV W 0 l):=ah aa8;have IW:aj (qU w2 nb l BK 0):=ah (rR (HB2.o.mono afj) FZ.o);have Hq:aj (nb+1<=w2.heap.size):=ah ac3;have HW2:aj (gq w2 nb W s):=ah (HW1.o.below (HB2.o.mono afj));clear HR HV HK;go_wp2_with fail;rw[show((l.length:Int) != (W.ts.length:Int))=false by simp[bne,hne]];clear hne;go_loopw [3,4,22] (λ_ _ v wr=> ∃(k:Nat) (R:List xJ),v= .int .i64 k∧k+R.length=l.length∧res=FV W k R∧qU wr nb R BK k∧Below (nb+1) w2 wr) (λ_ _ v _=>l.length -(intOf v).toNat)
   case atStart=>exact⟨0,l,rfl,ahh,HR2.o,IW.o,ak _ _⟩
   case round=>
    obtain⟨k,R,rfl,hlen,heq,hrow,hbel⟩:=hrel;have HE:=ah heq;have iZ:=ah hbel;have lU:=ah ((iZ.o.block nb (Nat.lt_succ_self _)).trans jY.o);have pY:aj (Below nb w wr):=ah (AQ.o.trans (iZ.o.mono (jv _)));have iw:aj (nb+1<=wr.heap.size):=ah adN;have DV:aj (gq wr nb W s):=ah (HW2.o.below (iZ.o.mono (jv _)));clear heq hbel g4 g6;cases R with
    |nil=>obtain rfl:k=l.length:=afb;have HT:aj (res=true):=ah HE.o;go_wp2_with fail;go_ret;exact⟨ahk,agf⟩
    |cons t R=>
     obtain⟨⟨b,off,gu,eG,rfl,hb1,x0,x1,htl,hfl⟩,hrest⟩:=hrow;simp only[aB]at hlen;have hkl:k<l.length:=ahf;have kg:=ah hrest;have HFL:=ah hfl;have X7:=ah htl;have rC:aj (res=(GY W k t&&FV W ((k:Int)+1) R)):=ah HE.o;clear hrest hfl htl HE;go_upto_region 6 with fail;generalize hW3:World.alloc wr _=w3;obtain⟨tb,htb⟩: ∃n,wr.heap.size=n:=⟨_,rfl⟩;have HB3:aj (Below wr.heap.size wr w3):=ah (by rw[<- hW3];exact aA _ _);have JE:aj (w3.heap[tb]? =some (.cells #[.int .i64 t.regs,.slice gu t.is.length eG] 37 (0,0))):=ah (by rw[<- hW3,<- htb];exact heap_alloc_new _ _);rw[htb];clear hW3 htb x0 x1;have uV:=ah ((HB3.o.block nb afi).trans lU.o);have vI:aj (Below nb w w3):=ah (pY.o.trans (HB3.o.mono afi));have HW3:aj (gq w3 w3.heap.size W s):=ah ((DV.o.below (HB3.o.mono afi)).mono ac2);have tu:aj (dS jd 6 w3 w3.heap.size t.is gu 0):=ah ((HFL.o.below (HB3.o.mono afi)).mono ac2);have g0:=aG (j:=0) uV.o rfl;have g1:=aG (j:=1) uV.o rfl;have g2:=aG (j:=2) uV.o rfl;have g3:=aG (j:=3) uV.o rfl;have g4:=aG (j:=4) uV.o rfl;have g5:=aG (j:=5) uV.o rfl;have t0:=aG (j:=0) JE.o rfl;have t1:=aG (j:=1) JE.o rfl;simp only[List.getElem_toArray,List.getElem_cons_zero,List.getElem_cons_succ]at g0 g1 g2 g3 g4 g5 t0 t1;go_wp2_with fail;refine(Pf W s k t gu eG w3 HW3.o tu.o X7.o).mono ?_;rintro e w4 ⟨rfl,hb4⟩;have dL:=ah (HB3.o.trans (hb4.mono HB3.o.size));have Dr:aj (Below nb w w4):=ah (vI.o.trans (hb4.mono ac2));clear hb4 g0 g1 g2 g3 g4 g5 t0 t1;cases OB:GY W k t
     ·have HT:aj (res=false):=ah agv;go_wp2_with fail;go_ret;exact⟨ahk,by rw[dG.o];exact Dr.o⟩
     ·have HE2:aj (res=FV W ((k:Int)+1) R):=ah agv;go_wp2_with fail;go_roundw
      case rel=>exact⟨k+1,R,ahj,ahf,HE2.o,rR (dL.o.mono afi) kg.o,iZ.o.trans (dL.o.mono iw.o)⟩
      case measure=>simp[intOf];omega
structure VwE (W:Wo):Prop where
 ts:W.ts.length<=4
 wk:Ma W
 vw:vW W=true
def bm7 (W:Wo) (l:List xJ):Prop:=CY W l=true
theorem Bu:U2:=RS Qj
theorem RQ {W:Wo} {s:jr} {w:World} (hw:gq w w.heap.size W s) (fG:eD w) (h:VwE W):
 Calls Tryz.prog 10 #[mQ W s] w λe w'=>e= .returned (.bool true)∧Below w.heap.size w w':=by
 have hv:=Bu W s w hw fG h.wk
 rwa [h.vw]at hv
theorem aC5 {W:Wo} {s:jr} {l:List xJ} {BK:Option Addr} {cap:Nat} {w:World} (hw:gq w w.heap.size W s) (fG:eD w) (h:VwE W) (hc:qU w w.heap.size l BK 0) (hl:l.length=W.ts.length) (ht:bm7 W l):
 Calls Tryz.prog 5 #[.agg #[.slice s.aC W.cs.length s.cC,.slice s.aL W.ls.length s.cL,.slice s.aN W.ns.length s.cN,.slice s.aF W.fs.length s.cF,.slice s.aT W.ts.length s.cT,.slice s.aS W.ss.length s.cS,.slice BK l.length cap]] w λe w'=>e= .returned (.bool true)∧Below w.heap.size w w':=by
 have hv:=VI Bu W s l BK cap w hw fG h.wk hc (by have:=h.ts;rw[hl];unfold maxLen;omega)
 rwa [show CY W l=true from ht]at hv
open Go.RowKit Md Pz
def Xq:bf->Bool
 | .nil=>true
 | .cons h b e r=>decide (Md.iT h<=300000)&&(Xq b&&(Xq e&&Xq r))
theorem Oe: ∀l:bf,Xq l=true->l.Ev (λh=>Md.iT h<=300000)
 | .nil,_=>trivial
 | .cons h b e r,hs=>by unfold Xq at hs;simp only[aM,decide_eq_true_eq]at hs;exact⟨hs.1,Oe b hs.2.1,Oe e hs.2.2.1,Oe r hs.2.2.2⟩
def Xp:bf->Bool
 | .nil=>true
 | .cons h b e r=>(h.op==1||h.op==4)&&(Xp b&&(Xp e&&Xp r))
theorem Od: ∀l:bf,Xp l=true->l.Ev BH
 | .nil,_=>trivial
 | .cons h b e r,hs=>by unfold Xp at hs;simp only[aM,Bool.or_eq_true,beq_iff_eq]at hs;exact⟨hs.1,Od b hs.2.1,Od e hs.2.2.1,Od r hs.2.2.2⟩
def av1 (p:Pr):Bool:=decide (Ap p.ts<=100000000000)&&p.ts.all (λt=>Xq t.body)
theorem av2 {p:Pr} (h:av1 p=true):Fit p:=by
 unfold av1 at h;simp only[aM,decide_eq_true_eq,List.all_eq_true]at h;exact⟨h.1,λt ht=>Oe _ (h.2 t ht)⟩
def bl8:Bool:=(jL nE).1==0&&(av1 nE&&((Gx (jJ nE) nE.ts 0).map (λt=>t.is.length)== [6,1]&&(nE.ts.length==2&&((jJ nE).ts.length==2&&CY (jJ nE) (Gx (jJ nE) nE.ts 0)))))
def bp9:Bool:=nE.ts.all (λt=>Xp t.body)
theorem bq1:bp9=true:=ahs
theorem bm0: ∀t∈nE.ts,t.body.Ev BH:=λt ht=>Od _ (List.all_eq_true.1 bq1 t ht)
theorem bq0:bl8=true:=ahs
theorem bm3:VwE (jJ nE) where
 ts:=ahs
 wk:=⟨ahs,ahs,ahs⟩
 vw:=ahs
theorem aB7: ∃t u,(jL nE).1=0∧Fit nE∧Gx (jJ nE) nE.ts 0=[t,u]∧t.is.length=6∧nE.ts.length=2∧(jJ nE).ts.length=2∧bm7 (jJ nE) (Gx (jJ nE) nE.ts 0)∧VwE (jJ nE):=by
 have h:=bq0;have hv:=bm3;unfold bl8 at h;generalize nE=p at h hv⊢;simp only[aM,beq_iff_eq]at h;obtain⟨h1,h2,h3,h4,h5,h6⟩:=h;generalize hc:Gx (jJ p) p.ts 0=c at h3 h6;rcases c with _|⟨t,_|⟨u,_|⟨_,_⟩⟩⟩ <;> simp at h3;exact⟨t,u,h1,av2 h2,rfl,h3.1,h4,h5,h6,hv⟩
namespace Md
def Hw (g:Nat) (w:World):Prop:= ∀o,(∀k n,w.cell? ⟨g,o,none⟩≠some (.int k n))∧∀s,w.cell? ⟨g,o,none⟩≠some (.string s)
section
variable {w w':World} {g B:Nat}
def EW (g:Nat) (w w':World):Prop:= ∀b,b≠g->b<w.heap.size->∀o,w'.cell? ⟨b,o,none⟩=w.cell? ⟨b,o,none⟩
theorem fT.off (hg:Hw g w) (ho:EW g w w') (hB:B<=w.heap.size): ∀ {l:List ByteArray} {ao:Option Addr} {k:Nat},fT w B l ao k->fT w' B l ao k
 | [],_,_,_=>trivial
 |_::_,_,_,⟨⟨b,off,e,hb,c,hs⟩,hr⟩=>by
  have hne:b≠g:=λq=>by subst q;exact(hg _).2 _ c
  exact⟨⟨b,off,e,hb,(ho b hne (aV hb hB) _).trans c,hs⟩,fT.off hg ho hB hr⟩
theorem jG.off (hg:Hw g w) (ho:EW g w w') (hB:B<=w.heap.size): ∀ {l:List De} {ao:Option Addr} {k:Nat},jG w B l ao k->jG w' B l ao k
 | [],_,_,_=>trivial
 |_::_,_,_,⟨⟨b,off,e,hb,c0,c1,c2,c3,c4,c5,hs⟩,hr⟩=>by
  have hne:b≠g:=λq=>adE
  have h:=ho b hne (aV hb hB);exact⟨⟨b,off,e,hb,(h _).trans c0,(h _).trans c1,(h _).trans c2,(h _).trans c3,(h _).trans c4,(h _).trans c5,hs⟩,jG.off hg ho hB hr⟩
theorem bV.At.off (hg:Hw g w) (ho:EW g w w') (hB:B<=w.heap.size): ∀ {l:bV} {ao:Option Addr} {k:Nat},l.At w B ao k->l.At w' B ao k
 | .nil,_,_,_=>trivial
 | .cons _ _ _ _ _,_,_,h=>by
   obtain⟨⟨b,off,mK,cap,e,hb,c0,c1,c2,c3,hok,hk⟩,hr⟩:=h;have hne:b≠g:=λq=>adE
   have h:=ho b hne (aV hb hB);exact⟨⟨b,off,mK,cap,e,hb,(h _).trans c0,(h _).trans c1,(h _).trans c2,(h _).trans c3,hok,hk.off hg ho hB⟩,hr.off hg ho hB⟩
theorem bf.At.off (hg:Hw g w) (ho:EW g w w') (hB:B<=w.heap.size): ∀ {l:bf} {ao:Option Addr} {k:Nat},l.At w B ao k->l.At w' B ao k
 | .nil,_,_,_=>trivial
 | .cons _ _ _ _,_,_,h=>by
   obtain⟨⟨b,off,gu,eG,gY,fD,dR,dA,jc,gZ,e,hb,c0,c1,c2,c3,c4,c5,c6,c7,c8,c9,c10,hok,h1,h2,h3,h4⟩,hr⟩:=h;have hne:b≠g:=λq=>adE
   have h:=ho b hne (aV hb hB);exact⟨⟨b,off,gu,eG,gY,fD,dR,dA,jc,gZ,e,hb,(h _).trans c0,(h _).trans c1,(h _).trans c2,(h _).trans c3,(h _).trans c4,(h _).trans c5,(h _).trans c6,(h _).trans c7,(h _).trans c8,(h _).trans c9,(h _).trans c10,hok,h1.off hg ho hB,h2.off hg ho hB,h3.off hg ho hB,h4.off hg ho hB⟩,hr.off hg ho hB⟩
theorem iP.off (hg:Hw g w) (ho:EW g w w') (hB:B<=w.heap.size): ∀ {l:List Th} {ao:Option Addr} {k:Nat},iP w B l ao k->iP w' B l ao k
 | [],_,_,_=>trivial
 |_::_,_,_,⟨⟨b,off,iO,eF,dR,dA,e,hb,c0,c1,c2,c3,hs,ht,hst⟩,hr⟩=>by
  have hne:b≠g:=λq=>by subst q;exact(hg _).2 _ c0
  have h:=ho b hne (aV hb hB);exact⟨⟨b,off,iO,eF,dR,dA,e,hb,(h _).trans c0,(h _).trans c1,(h _).trans c2,(h _).trans c3,hs,ht.off hg ho hB,hst.1.off hg ho hB,hst.2⟩,iP.off hg ho hB hr⟩
theorem Pr.At.off {p:Pr} {aQ aR:Option Addr} (hg:Hw g w) (ho:EW g w w') (hs:w.heap.size<=w'.heap.size) (h:p.At w aQ aR):p.At w' aQ aR:=
 ⟨h.1,h.2.1,(h.2.2.1.off hg ho (aD _)).mono hs,(h.2.2.2.off hg ho (aD _)).mono hs⟩
theorem EW.trans {w1:World} (h:EW g w w1) (hs:w.heap.size<=w1.heap.size) (h1:EW g w1 w'):EW g w w':=λb hb hl o=>(h1 b hb (aV hl hs) o).trans (h b hb hl o)
theorem EW.set (w:World) (g j:Nat) (v:Value):EW g w (w.setCell ⟨g,j,none⟩ v):=λb hb _ o=>
 World.cell?_of_block (a:=⟨b,o,none⟩) (bF w ⟨g,j,none⟩ v rfl (by show g≠b;exact λe=>hb e.symm))
theorem Hw.of {cs:Array Value} {t:TypeId} {fr:Nat×Nat} (h:w.heap[g]? =some (.cells cs t fr)) (hc:(cs.toList.all λv=>match v with| .int _ _=>false| .string _=>false|_=>true)=true):Hw g w:=by
 have key: ∀o v,w.cell? ⟨g,o,none⟩=some v->(match v with| .int _ _=>false| .string _=>false|_=>true)=true:=λo v e=>by rw[cell_of_row w g o cs t fr h]at e;rw[List.all_eq_true]at hc;exact hc v (by have:=Array.mem_of_getElem? e;simpa using this)
 intro o;refine⟨λk n e=> ?_,λs e=> ?_⟩
 ·have:=key o _ e;cases this
 ·have:=key o _ e;cases this
end
end Md
open Md Pz
def PaO (p:Pr) (w:World) (e:Ending) (w':World):Prop:= ∃aQ aJ aR aH,e= .returned (.tuple #[.agg #[.slice aQ p.ds.length aJ,.slice aR p.ts.length aH],.int .i64 0,.int .i64 0])∧p.At w' aQ aR∧Below w.heap.size w w'
theorem ak8 (w:World) (fG:eD w):Calls Tryz.prog 45 #[.string ⟨#[118,97,114,32,120,32,61,32,50,59,32,118,97,114,32,113,91,50,93,59,32,109,117,116,101,120,32,109,59,32,99,111,110,100,32,99,32,109,59,32,114,119,108,111,99,107,32,114,59,32,102,117,116,117,114,101,32,102,59,32,116,104,114,101,97,100,32,116,40,97,41,32,123,32,108,111,99,107,32,109,32,123,32,120,32,61,32,113,91,97,93,59,32,125,32,125,32,116,104,114,101,97,100,32,117,40,41,32,123,32,125]⟩] w (PaO nE w):=
 au0 ⟨#[118,97,114,32,120,32,61,32,50,59,32,118,97,114,32,113,91,50,93,59,32,109,117,116,101,120,32,109,59,32,99,111,110,100,32,99,32,109,59,32,114,119,108,111,99,107,32,114,59,32,102,117,116,117,114,101,32,102,59,32,116,104,114,101,97,100,32,116,40,97,41,32,123,32,108,111,99,107,32,109,32,123,32,120,32,61,32,113,91,97,93,59,32,125,32,125,32,116,104,114,101,97,100,32,117,40,41,32,123,32,125]⟩ w fG ahg nE ahs src_ok bm1 (λR wr h=>aA2 R wr h) rfl
theorem ZL {p:Pr} (WX:aj (∀w,eD w->Calls Tryz.prog 45 #[.string ⟨#[118,97,114,32,120,32,61,32,50,59,32,118,97,114,32,113,91,50,93,59,32,109,117,116,101,120,32,109,59,32,99,111,110,100,32,99,32,109,59,32,114,119,108,111,99,107,32,114,59,32,102,117,116,117,114,101,32,102,59,32,116,104,114,101,97,100,32,116,40,97,41,32,123,32,108,111,99,107,32,109,32,123,32,120,32,61,32,113,91,97,93,59,32,125,32,125,32,116,104,114,101,97,100,32,117,40,41,32,123,32,125]⟩] w (PaO p w))) (w:World) (fG:eD w):
 Calls Tryz.prog 15 #[] w λe w'=> ∃aQ aJ aR aH,e= .returned (.agg #[.slice aQ p.ds.length aJ,.slice aR p.ts.length aH])∧p.At w' aQ aR∧Below w.heap.size w w':=by
 have kG:=ah fG;clear fG;go_enter Tryz.func15,Tryz.ntmps15;go_upto_region 1 with fail;generalize hW:World.alloc w _=W1;obtain⟨rb,hrb,HB,-,HX,-⟩:=oJ hW;have Ti:=ah hrb;rw[hrb];clear hW hrb;go_wp2_with fail;refine(WX.o W1 (kG.o.same HB.o)).mono ?_;rintro e w1 ⟨aQ,aJ,aR,aH,rfl,hat,hb⟩;have HB1:=ah (HB.o.trans (hb.mono HB.o.size));have qE:=jq hb HX;have HAT:=ah hat;clear hat hb WX HX;go_upto_region 2 with fail;generalize hW:World.alloc w1 _=w2;obtain⟨pb,hpb,HB2,-,BG,-⟩:=oJ hW;rw[hpb];clear hW hpb;have lU:=jq HB2.o qE;obtain⟨y0,y1⟩:=uK BG.o;obtain⟨z0,z1⟩:=uK lU.o;have f0:=bG (o:=0) lU.o;have f1:=bG (o:=1) lU.o;have hlt:rb<w2.heap.size:=(aI lU.o);have HFN:aj (∀W,(w2.setCell ⟨rb,0,none⟩ (.slice aQ p.ds.length aJ)).setCell ⟨rb,1,none⟩ (.slice aR p.ts.length aH)=W->p.At W aQ aR∧Below w.heap.size w W):=ah (λW hW=>by subst hW;have hA:=HAT.o.same HB2.o;have hr:=Ti.o;exact⟨hA.off (Hw.of lU.o rfl) ((EW.set w2 _ _ _).trans afp (EW.set _ _ _ _)) afp,qo (qo (HB1.o.trans (HB2.o.mono HB1.o.size)) _ _ ahi) _ _ ahi⟩);go_wp2_with fail;exact bodyPost_ret (v:= .agg #[.slice aQ p.ds.length aJ,.slice aR p.ts.length aH]) (by simp[results,Tryz.results15,go_sem,z0,z1,hlt]) rfl (by obtain⟨e2,e3⟩:=HFN.o _ rfl;exact⟨aQ,aJ,aR,aH,rfl,e2,e3⟩)
theorem ad7 (w:World) (fG:eD w):
 Calls Tryz.prog 7 #[] w λe w'=>e= .returned (.bool true)∧Below w.heap.size w w':=by
 have JA:=ah bm0;obtain⟨t,u,h0,hfit,hco,h6,hts,hwt,hv,hvw⟩:=aB7;have HSA:=ah (λw h=>ZL (ah ak8) w h);generalize nE=p at *;rw[hco]at hv;have kG:=ah fG;have H0:=ah h0;have HF:=ah hfit;have HCO:=ah hco;have lH:=ah hts;have HV:=ah hv;have HVW:=ah hvw;have H6:=ah h6;have sw:=ah hwt;clear h0 hfit hco hts fG hv hvw h6 hwt;go_enter Tryz.func7,Tryz.ntmps7;go_wp2_with fail;refine(HSA.o w kG.o).mono ?_;rintro e w1 ⟨aQ,aJ,aR,aH,rfl,hat,hb⟩;have HAT:=ah hat;have HB:=ah hb;clear hat hb HSA;go_wp2_with fail;refine(VX p w1 aQ aR aJ aH HAT.o (kG.o.same HB.o) HF.o H0.o JA.o).mono ?_;rintro e w3 ⟨s,aoc,bI0,rfl,hwo,htc,-,hb3⟩;rw[HCO.o]at htc;rw[lH.o];have HTC:=ah htc;have Gf:=ah hwo;obtain⟨⟨b,off,gu,eG,hao,hB,x0,x1,-,hfl⟩,-⟩:=htc;subst hao;have HB3:=ah (HB.o.trans (hb3.mono HB.o.size));have yg:=ah hB;rw[H6.o]at x1;clear hfl hwo hb3 hB;generalize jJ p=W at *;clear HCO HF H0 lH HAT;go_upto_region 2 with fail;generalize hW:World.alloc w3 _=w4;obtain⟨cb,hcb,dL,-,HX,-⟩:=oJ hW;rw[hcb];clear hW hcb;have Hf:=ah (HB3.o.trans (dL.o.mono HB3.o.size));have aX4:=ah (Gf.o.same dL.o);have bG5:aj (qU w4 w4.heap.size [t,u] (some ⟨b,off,none⟩) 0):=ah (Ru HTC.o dL.o);obtain⟨g0,g1,g2,g3,g4,g5,g6⟩:=Mg HX.o;have X1:w4.cell? ⟨b,off+1,none⟩=some (.slice gu 6 eG):=(dL.o.cell (p:=⟨b,_,none⟩) yg.o).trans x1;clear x0 x1;have HVA:aj (Calls Tryz.prog 5 #[.agg #[.slice s.aC W.cs.length s.cC,.slice s.aL W.ls.length s.cL,.slice s.aN W.ns.length s.cN,.slice s.aF W.fs.length s.cF,.slice s.aT W.ts.length s.cT,.slice s.aS W.ss.length s.cS,.slice (some ⟨b,off,none⟩) 2 bI0]] w4 λe w'=>e= .returned (.bool true)∧Below w4.heap.size w4 w'):=ah (aC5 (W:=W) (s:=s) (l:=[t,u]) aX4.o (kG.o.same Hf.o) HVW.o bG5.o (by rw[sw.o];rfl) HV.o);go_wp2_with fail;refine HVA.o.mono ?_;rintro e w5 ⟨rfl,hb5⟩;have iU:=ah hb5;have tJ:=jq hb5 HX;clear hb5 g0 g1 g2 g3 g4 g5 g6 X1;obtain⟨g0,g1,g2,g3,g4,g5⟩:=zn tJ.o;go_wp2_with fail;refine(RQ (aX4.o.same iU.o) (kG.o.same (Hf.o.trans (iU.o.mono Hf.o.size))) HVW.o).mono ?_;rintro e w6 ⟨rfl,hb6⟩;have qM:=ah ((Hf.o.trans (iU.o.mono Hf.o.size)).trans (hb6.mono (aO Hf.o.size iU.o.size)));go_wp2_with fail;go_ret;exact⟨rfl,qM.o⟩
end Go.Proofs.YtcjgfgkllmldpaaGreatDoor
