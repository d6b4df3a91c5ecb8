/- Contract of the maker's decls: nine shaped declarations in a new block. And what hangs on it. -/
import Derived.Test.YtmildapbbcbbhaaGreatDoorGR0
import Derived.Test.YtmildapbbcbbhaaGreatDoorGPI
set_option linter.unusedSimpArgs false
set_option linter.unusedVariables false
set_option maxHeartbeats 40000000
set_option maxRecDepth 1000000
namespace Go.Proofs.YtmildapbbcbbhaaGreatDoor
open Go.RowKit
open Md
def jB:List De:=[⟨1,0,⟨#[120]⟩,0,0,⟨#[]⟩⟩,⟨1,0,⟨#[121]⟩,0,1,⟨#[]⟩⟩,⟨2,0,⟨#[118]⟩,0,0,⟨#[]⟩⟩,⟨1,0,⟨#[113]⟩,2,0,⟨#[]⟩⟩,⟨3,0,⟨#[109]⟩,0,0,⟨#[]⟩⟩,⟨3,0,⟨#[110]⟩,0,0,⟨#[]⟩⟩,⟨4,0,⟨#[114]⟩,0,0,⟨#[]⟩⟩,⟨5,0,⟨#[99]⟩,0,0,⟨#[109]⟩⟩,⟨6,0,⟨#[102]⟩,0,0,⟨#[]⟩⟩]
theorem aV0:(Tryz.prog.info? 43).map (λi=>(i.zero,i.size,i.bytes))=some (some (.agg #[.int .i64 0,.int .i64 0,.string ⟨#[]⟩,.int .i64 0,.int .i64 0,.string ⟨#[]⟩]),6,64):=by kernel_rfl
theorem Ta: ∀d∈jB,d.Ok∧jG d=true:=by
 intro d hd;simp only[jB,List.mem_cons,List.not_mem_nil,or_false]at hd;rcases hd with rfl|rfl|rfl|rfl|rfl|rfl|rfl|rfl|rfl <;> exact⟨⟨by unfold bW;decide,by unfold bW;decide,by unfold maxLen;decide,by unfold bW;decide,by unfold bW;decide,by unfold maxLen;decide⟩,by rfl⟩
def aT5 (w:World) (e:Ending) (w':World):Prop:= ∃g,e= .returned (.slice (some ⟨g,0,none⟩) 9 9)∧w.heap.size<=g∧w'.heap[g]? =some (.cells (jB.flatMap oF).toArray 43 (0,0))∧Below w.heap.size w w'
theorem Nr (w:World):Calls Tryz.prog 8 #[] w (aT5 w):=by
 go_enter Tryz.func8,Tryz.ntmps8;go_wp2;go_ret;refine⟨_,rfl,?_,?_,?_⟩
 ·exact aB _
 ·exact heap_alloc_new _ _
 ·exact au _ _
theorem Grow.made {α:Type} {f:α->List Value} {m:Nat} {ty:TypeId} {B:Nat} {W:World} {g n:Nat} {xs:List α} (hf: ∀x,(f x).length=m) (h:W.heap[g]? =some (.cells (xs.flatMap f).toArray ty (0,0))) (hB:B<=g) (hn:xs.length=n) (hm:n<=maxLen):Grow f m (λ_ _=>True) ty B W (.slice (some ⟨g,0,none⟩) n n) xs:=by
 subst hn;have hl:=sw hf xs;refine⟨⟨hl,.inr ⟨g,xs.length,_,rfl,hB,h,aB _,hm,by simpa using hl,?_⟩⟩,λx hx _ _=>trivial⟩;exact List.take_of_length_le (by simpa using Nat.le_of_eq hl)
section
variable {p p':Pr} (hm:mean p'=mean p)
include hm
end
def uV:ByteArray:=⟨#[109,97,105,110]⟩
def bT1:ByteArray:=⟨#[116,49]⟩
def bT2:ByteArray:=⟨#[116,50]⟩
def bT3:ByteArray:=⟨#[116,51]⟩
def rO:List ByteArray:=[⟨#[97]⟩,⟨#[98]⟩]
structure CZ (p:Pr):Prop where
 ds:p.ds=jB
 ts: ∃n,n<=4∧1<=n∧p.ts.map (·.nm)=[uV,bT1,bT2,bT3].take n
 lc: ∀t∈p.ts,t.cO=rO
theorem I4: ∀(a b:aY),(a.app b).len=a.len+b.len
 | .nil,b=>by simp[aY.app,aY.len]
 | .cons _ _ _ r,b=>by rw[aY.app,aY.len,aY.len,I4 r b];omega
def bU:ByteArray:=⟨#[117,110,117,115,101,100]⟩
def uN:List UInt8:=bU.toList
def EG:bJ->Prop
 | .nil=>True
 | .cons _ _ nm k r=>nm.toList≠uN∧EG k∧EG r
def J2 (h:dD):Prop:=h.nm.toList≠uN∧h.arg.toList≠uN∧EG h.idx∧h.dJ.toList≠uN∧EG h.bG
theorem M6 {nm:ByteArray} (h:nm.data.toList.isEmpty=true):nm.toList≠uN:=λe=>by
 rw[Lib.toList_data]at e;rw[e]at h;exact absurd h (by decide+kernel)
section
variable {p:Pr} {i:Int} (hu: ∀nm:ByteArray,nm.toList=uN->mean p i nm=0)
include hu
theorem uH {nm:ByteArray} {l:List Int} (h:dQ (mean p i nm) l=0):nm.toList≠uN:=λe=>by
 rw[hu nm e]at h;exact absurd h (by simp[dQ])
theorem XW {op n:Int} {nm:ByteArray} {len:Nat} (h1:DN op n nm len=true) (h2:oI p i op nm=0):nm.toList≠uN:=by
 unfold DN at h1;simp only[aJ]at h1;have hn:=h1.2.2;unfold kE named at hn;unfold oI at h2;by_cases e2:op=2
 ·subst e2;exact uH hu h2
 ·by_cases e3:op=3
  ·subst e3;exact uH hu h2
  ·have k2:(op==2)=false:=by simpa using e2
   have k3:(op==3)=false:=by simpa using e3
   rw[k2,k3]at hn;exact M6 hn
theorem Mg: ∀l:bJ,mh l=true->qj p i l=0->EG l
 | .nil,_,_=>trivial
 | .cons op n nm k r,h,h0=>by
   rw[mh,aJ,aJ]at h;rw[qj]at h0;split at h0
   ·rename_i h1;split at h0
    ·rename_i h2;exact⟨XW hu h.1.1 (by simpa using h1),Mg k h.1.2 (by simpa using h2),Mg r h.2 h0⟩
    ·rename_i h2;rw[h0]at h2;exact absurd h2 (by decide)
   ·rename_i h1;rw[h0]at h1;exact absurd h1 (by decide)
theorem Er {op n:Int} {nm:ByteArray} {k:bJ} (h:jW p i op n nm k=0):nm.toList≠uN∧EG k:=by
 unfold jW at h;split at h
 ·rename_i h1;unfold jQ at h1;rw[aJ]at h1;split at h
  ·exact absurd h (by decide)
  ·unfold uK at h;split at h
   ·rename_i h2;exact⟨XW hu h1.1 (by simpa using h2),Mg hu k h1.2 h⟩
   ·rename_i h2;rw[h]at h2;exact absurd h2 (by decide)
 ·exact absurd h (by decide)
end
theorem as1 {p:Pr} {i:Int} (hu: ∀nm:ByteArray,nm.toList=uN->mean p i nm=0) {l:bJ} (hl:l.len<=1) (h:Te p i l=0):EG l:=by
 cases l with
 |nil=>trivial
 |cons op n nm k r=>
  cases r with
  |nil=>have:=Er hu (show jW p i op n nm k=0 from h);exact⟨this.1,this.2,trivial⟩
  |cons a b c d e=>simp[bJ.len]at hl
theorem aS7 {p:Pr} {j:Nat} (hu: ∀nm:ByteArray,nm.toList=uN->mean p j nm=0) {tn fU:ByteArray} {ar:aY} {f g:List UInt8->Bool} {h:dD} {bl el:Nat} (hs:ni h bl el=true) (h0:jk p j tn fU ar f g h=0):J2 h:=by
 obtain⟨op,line,nm,arg,idx,dN,xn,dJ,xk⟩:=h;unfold ni at hs;simp only[aJ,decide_eq_true_eq]at hs;obtain⟨⟨⟨ho,hn,ha⟩,⟨hl,hi⟩,-⟩,hx,-,-⟩:=hs;have ho':op=1∨op=2∨op=3∨op=4∨op=5∨op=6∨op=7∨op=8∨op=9∨op=10∨op=11∨op=12∨op=13∨op=14∨op=15:=by unfold fO at ho;simp only[aJ,decide_eq_true_eq]at ho;omega
 have hnil:fI op=false->EG idx:=λe=>by
  rw[e]at hi;cases idx with
  |nil=>trivial
  |cons a b c d e'=>simp[bJ.len]at hi hl;omega
 have hz:fX op=false->dJ.toList≠uN∧EG xk:=λe=>by
  rw[e]at hx;unfold qo at hx;simp only[Bool.false_eq_true,if_false,aJ]at hx;refine⟨M6 (by rw[<- Lib.toList_data];exact hx.1.2),?_⟩;cases xk with
  |nil=>trivial
  |cons a b c d e'=>simp[bJ.len]at hx
 have he: ∀ {x:ByteArray},kE x false=true->x.toList≠uN:=λh=>M6 h;rcases ho' with rfl|rfl|rfl|rfl|rfl|rfl|rfl|rfl|rfl|rfl|rfl|rfl|rfl|rfl|rfl
 ·have h1:Cg p j ⟨1,line,nm,arg,idx,dN,xn,dJ,xk⟩=0:=h0;unfold Cg at h1;split at h1
  ·rename_i hd;have h2:=kg h1;have Dh:=Er hu (h2 _ (aX _ aV));refine⟨uH hu (h2 _ aV),he ha,?_,Dh.1,Dh.2⟩;cases idx with
   |nil=>trivial
   |cons a b c d e'=>have h3:=of_decide_eq_true hd;simp only[bJ.len]at h3;omega
  ·have h2:=kg h1;have Dh:=Er hu (h2 _ (aX _ (aX _ aV)));exact⟨uH hu (h2 _ aV),he ha,as1 hu hl (h2 _ (aX _ aV)),Dh.1,Dh.2⟩
 ·have Dh:=Er hu (show jW p j dN xn dJ xk=0 from h0);exact⟨he hn,he ha,hnil rfl,Dh.1,Dh.2⟩
 ·have Dh:=Er hu (show jW p j dN xn dJ xk=0 from h0);exact⟨he hn,he ha,hnil rfl,Dh.1,Dh.2⟩
 all_goals first
  |exact⟨he hn,he ha,hnil rfl,(hz rfl).1,(hz rfl).2⟩
  |(have h2:=kg h0
    first
    |exact⟨uH hu (h2 _ aV),he ha,hnil rfl,(hz rfl).1,(hz rfl).2⟩
    |exact⟨uH hu (h2 _ aV),uH hu (h2 _ (aX _ aV)),hnil rfl,(hz rfl).1,(hz rfl).2⟩
    |(have Dh:=Er hu (h2 _ (aX _ (aX _ (aX _ aV))))
      exact⟨uH hu (h2 _ aV),he ha,hnil rfl,Dh.1,Dh.2⟩))
section
variable {p p':Pr} (hm: ∀(i:Int) (nm:ByteArray),nm.toList≠uN->mean p' i nm=mean p i nm)
include hm
theorem an8 (i op:Int) {nm:ByteArray} (h:nm.toList≠uN):oI p' i op nm=oI p i op nm:=by unfold oI;rw[hm i nm h]
theorem Vw (i:Int): ∀l:bJ,EG l->qj p' i l=qj p i l
 | .nil,_=>rfl
 | .cons op n nm k r,h=>by rw[qj,qj,an8 hm i op h.1,Vw i k h.2.1,Vw i r h.2.2]
theorem aG5 (i op n:Int) {nm:ByteArray} {k:bJ} (h:nm.toList≠uN) (hk:EG k):jW p' i op n nm k=jW p i op n nm k:=by
 unfold jW uK;rw[an8 hm i op h,Vw hm i k hk]
theorem bw5 (hx: ∀nm,jY p'.ds nm=jY p.ds nm) (j:Nat) (tn fU:ByteArray) (ar:aY) (f g:List UInt8->Bool) {h:dD} (hh:J2 h):jk p' j tn fU ar f g h=jk p j tn fU ar f g h:=by
 have h1:Te p' j h.idx=Te p j h.idx:=by
  have:=hh.2.2.1;cases hi:h.idx with
  |nil=>rfl
  |cons op n nm k r=>rw[hi]at this;exact aG5 hm _ _ _ this.1 this.2.1
 unfold jk Cg;rw[h1,aG5 hm j h.dN h.xn hh.2.2.2.1 hh.2.2.2.2,hm j h.nm hh.1,hm j h.arg hh.2.1,hx]
theorem UR (hx: ∀nm,jY p'.ds nm=jY p.ds nm) (j:Nat) (tn fU:ByteArray): ∀(l ar:aY) (f g:List (List UInt8)),l.Ev J2->gK p' j tn fU l ar f g=gK p j tn fU l ar f g
 | .nil,_,_,_,_=>rfl
 | .cons h b e r,ar,f,g,hn=>by rw[gK,gK,bw5 hm hx _ _ _ _ _ _ hn.1];simp only[UR hx j tn fU b _ _ _ hn.2.1,UR hx j tn fU e _ _ _ hn.2.2.1,UR hx j tn fU r _ _ _ hn.2.2.2]
theorem ap0 (hx: ∀nm,jY p'.ds nm=jY p.ds nm) (fU:ByteArray): ∀(l:List Th) (j:Nat) (f g:List (List UInt8)),(∀t∈l,t.body.Ev J2)->iP p' fU l j f g=iP p fU l j f g
 | [],_,_,_,_=>rfl
 |t::r,j,f,g,hn=>by rw[iP,iP,UR hm hx _ _ _ _ _ _ _ (hn t aV)];simp only[ap0 hx fU r _ _ _ (λx hx=>hn x (aX _ hx))]
end
theorem Uj (ds:List De) (u:De) {l:List UInt8} (hu:u.nm=bU) (h:l≠uN):nu (ds++[u]) l=nu ds l:=by
 rw[<- Lm,if_neg (by rw[hu];exact h)]
theorem Yw {ds:List De} {u:De} (hu:u.nm=bU): ∀(l pre:List Th),(∀t∈l,t.nm.toList≠uN)->qZ (ds++[u]) l pre=qZ ds l pre
 | [],_,_=>rfl
 |t::r,pre,h=>by rw[qZ,qZ,Uj ds u hu (h t aV),Yw hu r _ (λx hx=>h x (aX _ hx))]
theorem XO {ds:List De} {u:De} (hu:u.nm=bU) (ts:List Th): ∀l pre:List ByteArray,(∀s∈l,s.toList≠uN)->qB (ds++[u]) ts l pre=qB ds ts l pre
 | [],_,_=>rfl
 |s::r,pre,h=>by rw[qB,qB,Uj ds u hu (h s aV),XO hu ts r _ (λx hx=>h x (aX _ hx))]
theorem Yx {ds:List De} {u:De} (hu:u.nm=bU) (ts:List Th): ∀l:List Th,(∀t∈l,∀s∈t.cO,s.toList≠uN)->vN (ds++[u]) ts l=vN ds ts l
 | [],_=>rfl
 |t::r,h=>by rw[vN,vN,XO hu ts _ _ (h t aV),Yx hu ts r (λx hx=>h x (aX _ hx))]
def pY (k:Int):De:=⟨k,0,bU,0,0,⟨#[]⟩⟩
def KU (k:Int):Prop:=k=1∨k=2∨k=3∨k=4∨k=6
theorem aO4 {ts:List Th} {ds:List De} (k:Int) (i:Int) (nm:ByteArray) (h:nm.toList≠uN):mean ⟨ds++[pY k],ts⟩ i nm=mean ⟨ds,ts⟩ i nm:=by
 unfold mean nT;have:(List.find? (λd:De=>d.nm.toList==nm.toList) (ds++[pY k]))=ds.find? (λd=>d.nm.toList==nm.toList):=by
  rw[List.find?_append];have:((pY k).nm.toList==nm.toList)=false:=by rw[beq_eq_false_iff_ne];exact λe=>h e.symm
  simp[this]
 rw[this]
theorem at7 {ds:List De} {k:Int} (hk:KU k) (nm:ByteArray):jY (ds++[pY k]) nm=jY ds nm:=by
 unfold jY;rw[List.find?_append];have:((pY k).kind==5)=false:=by rcases hk with rfl|rfl|rfl|rfl|rfl <;> rfl
 simp[this]
theorem Ie {p:Pr} (h:CZ p): ∀t∈p.ts,t.nm.toList≠uN∧∀s∈t.cO,s.toList≠uN:=λt ht=>by
 obtain⟨n,-,-,hn⟩:=h.ts;have h1:t.nm∈ [uV,bT1,bT2,bT3]:=List.mem_of_mem_take (by rw[<- hn];exact List.mem_map_of_mem ht);constructor
 ·simp only[List.mem_cons,List.not_mem_nil,or_false]at h1;rcases h1 with h1|h1|h1|h1 <;> rw[h1] <;> decide+kernel
 ·rw[h.lc t ht];decide+kernel
theorem at5 {p:Pr} (h:CZ p) (i:Int) (nm:ByteArray) (hn:nm.toList=uN):mean p i nm=0:=by
 have hl:qm (oU p.ts i) nm=false:=by
  unfold qm oU;split
  ·cases ht:p.ts[i.toNat]? with
   |none=>rfl
   |some t=>rw[List.any_eq_false];intro s hs;rw[hn,beq_iff_eq];exact(Ie h t (List.mem_of_getElem? ht)).2 s hs
  ·rfl
 unfold mean;rw[hl,h.ds];have hd:nT jB nm=none:=by unfold nT;rw[hn];decide+kernel
 have ht:qL p.ts nm=0:=by unfold qL;rw[if_neg];simp only[List.any_eq_true,not_exists,not_and];intro t ht;rw[hn,beq_iff_eq];exact(Ie h t ht).1
 rw[hd,ht];rfl
theorem TY {p:Pr} (h:CZ p) (h0:(jD p).1=0): ∀t∈p.ts,t.body.Ev J2:=λt ht=>by
 have hz:=uM h0;obtain⟨j,hj⟩:=JM p _ p.ts 0 [] [] hz.2.2.2.2.2 t ht;have hs:=hz.1;unfold pE at hs;simp only[aJ,List.all_eq_true]at hs;have hb:=hs.1.2 t ht;unfold oL at hb;simp only[aJ]at hb;exact(hj.and (CJ hb.2)).imp (λh' ⟨⟨ar,f,g,e⟩,bl,el,hq⟩=>aS7 (λnm e=>at5 h _ nm e) hq e)
theorem aW5 {p:Pr} (h:CZ p) (h0:(jD p).1=0) {k:Int} (hk:KU k):(jD ⟨p.ds++[pY k],p.ts⟩).1=0:=by
 have hno:=TY h h0;have hz:=uM h0;have hs:=hz.1;unfold pE at hs;simp only[aJ]at hs;have s1:pE ⟨p.ds++[pY k],p.ts⟩=true:=by unfold pE;simp only[aJ];refine⟨⟨?_,hs.1.2⟩,hs.2⟩;rw[h.ds];rcases hk with rfl|rfl|rfl|rfl|rfl <;> decide+kernel
 have s2:(mg (p.ds++[pY k]) [] 0 0 0 0).1=0:=by rw[h.ds];rcases hk with rfl|rfl|rfl|rfl|rfl <;> decide+kernel
 have s3:kF ⟨p.ds++[pY k],p.ts⟩=kF p:=by unfold kF;dsimp only;rw[Yw rfl _ _ (λt ht=>(Ie h t ht).1),Yx rfl _ _ (λt ht=>(Ie h t ht).2)]
 have s4:iP ⟨p.ds++[pY k],p.ts⟩ (jV p) p.ts 0 [] []=iP p (jV p) p.ts 0 [] []:=ap0 (λi nm hn=>aO4 k i nm hn) (at7 hk) _ _ _ _ _ hno;have e3: ¬((4:Int)<p.ts.length):=by have:=hz.2.2.1;omega
 have e5: ¬(60<rF p.ts 0):=by have:=hz.2.2.2.2.1;omega
 unfold jD;rw[s1,s3];simp only[Bool.not_true,Bool.false_eq_true,if_false,s2,hz.2.2.2.1,e3,e5,bne_self_eq_false,decide_false];show(iP ⟨p.ds++[pY k],p.ts⟩ (jV p) p.ts 0 [] []).err=0;rw[s4];exact hz.2.2.2.2.2
structure WU (W W':Wo):Prop where
 cell: ∀nm:ByteArray,nm.toList≠uN->W'.cell nm=W.cell nm
 size: ∀nm:ByteArray,nm.toList≠uN->W'.size nm=W.size nm
 lock: ∀nm:ByteArray,nm.toList≠uN->W'.lock nm=W.lock nm
 cond: ∀nm:ByteArray,nm.toList≠uN->W'.cond nm=W.cond nm
 aH2: ∀nm:ByteArray,nm.toList≠uN->iT W'.fs nm=iT W.fs nm
 ts:W'.ts=W.ts
theorem KV {nm:ByteArray} (h:nm.toList≠uN): ∀(l:List ByteArray) (k:Int),qy (l++[bU]) nm k=qy l nm k
 | [],k=>by
   have:(bU.toList==nm.toList)=false:=by rw[beq_eq_false_iff_ne];exact λe=>h e.symm
   simp[qy,this]
 |s::r,k=>by rw[List.cons_append,qy,qy,KV h r]
theorem NI (nm:ByteArray): ∀(l:List ByteArray) (k:Int),qy l nm k= -1∨(k<=qy l nm k∧qy l nm k<k+l.length)
 | [],k=> .inl rfl
 |s::r,k=>by
  rw[qy];split
  ·exact .inr ⟨Int.le_refl _,by simp;omega⟩
  ·rcases NI nm r (k+1)with h|h
   ·exact .inl h
   ·exact .inr ⟨by omega,by simp;omega⟩
section
variable {W W':Wo} (hw:WU W W')
include hw
theorem XL (lc:List ByteArray) (op n:Int) {nm:ByteArray} (h:nm.toList≠uN) (d st:Int):Bn W' lc op n nm d st=Bn W lc op n nm d st:=by unfold Bn;rw[hw.cell nm h]
theorem ao4 (op:Int) {nm:ByteArray} (h:nm.toList≠uN) (d st:Int):J8 W' op nm d st=J8 W op nm d st:=by unfold J8;rw[hw.cell nm h,hw.size nm h]
theorem VP (lc:List ByteArray) (st:Int): ∀(l:bJ) (d:Int),EG l->Bb W' lc st l d=Bb W lc st l d
 | .nil,_,_=>rfl
 | .cons op n nm k r,d,h=>by rw[Bb,Bb,XL hw lc op n h.1,ao4 hw op h.1,VP lc st k d h.2.1,VP lc st r _ h.2.2]
theorem ap5 (lc:List ByteArray) (st op n:Int) {nm:ByteArray} {k:bJ} (h:nm.toList≠uN) (hk:EG k) (d:Int):nI W' lc st op n nm k d=nI W lc st op n nm k d:=by
 unfold nI;rw[XL hw lc op n h,ao4 hw op h,VP hw lc st k d hk]
theorem Ov (lc:List ByteArray) (st:Int) {h:dD} (hh:J2 h) (d:Int):jd W' lc st h d=jd W lc st h d:=ap5 hw lc st _ _ hh.2.2.2.1 hh.2.2.2.2 d
theorem aT7 (lc:List ByteArray) (st:Int) {h:dD} (hh:J2 h):D5 W' lc st h=D5 W lc st h:=by
 have hi:=hh.2.2.1;unfold D5;cases hx:h.idx with
 |nil=>simp only[Ov hw lc st hh,hw.cell h.nm hh.1]
 |cons op n nm k r=>rw[hx]at hi;simp only[Ov hw lc st hh,hw.cell h.nm hh.1,hw.size h.nm hh.1,ap5 hw lc st op n hi.1 hi.2.1]
theorem aW9 (lc:List ByteArray) (st:Int) {h:dD} (hh:J2 h) (X B E:List dV) (ne:Bool) (pos:Nat):AZ W' lc st h X B E ne pos=AZ W lc st h X B E ne pos:=by
 unfold AZ IU wK;rw[aT7 hw lc st hh,hw.lock h.nm hh.1,hw.cond h.nm hh.1,hw.aH2 h.nm hh.1,hw.aH2 h.arg hh.2.1,Ov hw lc st hh,hw.ts]
theorem Oi (lc:List ByteArray): ∀(l:aY) (nx pos:Nat),l.Ev J2->kr W' lc l nx pos=kr W lc l nx pos
 | .nil,_,_,_=>rfl
 | .cons h b e r,nx,pos,hn=>by rw[kr,kr,Ov hw lc nx hn.1];simp only[Oi lc b _ _ hn.2.1,Oi lc e _ _ hn.2.2.1,Oi lc r _ _ hn.2.2.2,aW9 hw lc nx hn.1]
theorem al5: ∀(l:List Th) (nx:Nat),(∀t∈l,t.body.Ev J2)->sQ W' l nx=sQ W l nx
 | [],_,_=>rfl
 |t::r,nx,hn=>by rw[sQ,sQ,al5 r _ (λx hx=>hn x (aX _ hx))];unfold coT;rw[Oi hw _ _ _ _ (hn t aV)]
end
theorem YO: ∀(l:List Th) (W W':Wo) (i:Nat),W'.ts=W.ts->(yJ W' i l).ts=(yJ W i l).ts
 | [],_,_,_,h=>h
 |t::r,W,W',i,h=>by rw[yJ,yJ];exact YO r _ _ _ (by show W'.ts++[t.nm]=W.ts++[t.nm];rw[h])
theorem aX8 {p:Pr} (h:CZ p) {k:Int} (hk:KU k):WU (jU p) (jU ⟨p.ds++[pY k],p.ts⟩):=by
 obtain⟨W,hW⟩: ∃W,W=p.ds.foldl Dq xG:=⟨_,rfl⟩;have e:jU ⟨p.ds++[pY k],p.ts⟩=yJ (Dq W (pY k)) 0 p.ts:=by unfold jU;dsimp only;rw[List.foldl_append,<- hW];rfl
 have e':jU p=yJ W 0 p.ts:=by unfold jU;rw[<- hW]
 have hc:0<W.cs.length:=by rw[hW,h.ds];decide+kernel
 rw[e,e'];obtain⟨c1,c2,c3,c4⟩:=Lr p.ts W 0;obtain⟨d1,d2,d3,d4⟩:=Lr p.ts (Dq W (pY k)) 0;have hcs: ∃l:List Ak,(Dq W (pY k)).cs=W.cs++l∧(l=[]∨∃c,l=[c]∧c.nm=bU):=by
  rcases hk with rfl|rfl|rfl|rfl|rfl
  ·exact⟨_,rfl,.inr ⟨_,rfl,rfl⟩⟩
  ·exact⟨_,rfl,.inr ⟨_,rfl,rfl⟩⟩
  all_goals exact⟨[],(List.append_nil _).symm,.inl rfl⟩
 have hcell: ∀nm:ByteArray,nm.toList≠uN->iT ((Dq W (pY k)).cs.map (·.nm)) nm=iT (W.cs.map (·.nm)) nm:=λnm hn=>by
  obtain⟨l,hl,hq⟩:=hcs;rw[hl,List.map_append];rcases hq with rfl|⟨c,rfl,hb⟩
  ·rw[List.map_nil,List.append_nil]
  ·rw[List.map_cons,List.map_nil,hb];exact KV hn _ _
 refine⟨λnm hn=> ?_,λnm hn=> ?_,λnm hn=> ?_,λnm hn=> ?_,λnm hn=> ?_,YO _ _ _ _ ?_⟩
 ·unfold Wo.cell;rw[c1,d1];exact hcell nm hn
 ·unfold Wo.size Wo.cell;rw[c1,d1,hcell nm hn];obtain⟨l,hl,-⟩:=hcs;have hr:(iT (W.cs.map (·.nm)) nm).toNat<W.cs.length:=by
   rcases NI nm (W.cs.map (·.nm)) 0 with hq|hq
   ·unfold iT;rw[hq];exact hc
   ·unfold iT;rw[gX]at hq;omega
  rw[hl,List.getElem?_append_left hr]
 ·unfold Wo.lock;rw[c2,d2];rcases hk with rfl|rfl|rfl|rfl|rfl
  ·rfl
  ·rfl
  ·show iT ((W.ls++[_]).map (λl:zN=>l.nm)) nm=_;rw[List.map_append];exact KV hn _ _
  ·show iT ((W.ls++[_]).map (λl:zN=>l.nm)) nm=_;rw[List.map_append];exact KV hn _ _
  ·rfl
 ·unfold Wo.cond;rw[c3,d3];rcases hk with rfl|rfl|rfl|rfl|rfl <;> rfl
 ·rw[c4,d4];rcases hk with rfl|rfl|rfl|rfl|rfl
  ·rfl
  ·rfl
  ·rfl
  ·rfl
  ·exact KV hn _ _
 ·rcases hk with rfl|rfl|rfl|rfl|rfl <;> rfl
theorem aG2 {p:Pr} (h:CZ p) (h0:(jD p).1=0) {k:Int} (hk:KU k):sQ (jU ⟨p.ds++[pY k],p.ts⟩) p.ts 0=sQ (jU p) p.ts 0:=al5 (aX8 h hk) _ _ (TY h h0)
end Go.Proofs.YtmildapbbcbbhaaGreatDoor
