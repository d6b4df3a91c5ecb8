/- A program as an argument: from what the row reads to the data of this proof, which is no heavier than what is read. -/
import Derived.Test.YtkmllehjemjgpaaGreatDoorGCE
import Derived.Test.YtkmllehjemjgpaaGreatDoorRows
import Derived.ProofKit
import Derived.OpenShut
import Derived.ChangeArms
import Derived.Deep.Slices
set_option linter.unusedSimpArgs false
set_option linter.unusedVariables false
set_option maxHeartbeats 40000000
set_option maxRecDepth 1000000
namespace Go.Proofs.YtkmllehjemjgpaaGreatDoor
open Go.ChangeShapes Go.WideShapes Go.ChangeAt Go.RowKit
open Md
theorem EN:Tryz.prog.cellsOf 88=4:=by kernel_rfl
theorem Ur:Tryz.prog.cellsOf 90=11:=by kernel_rfl
theorem Uq:Tryz.prog.cellsOf 75=6:=by kernel_rfl
theorem Pv:Tryz.prog.cellsOf 52=4:=by kernel_rfl
theorem NC:Tryz.prog.cellsOf 25=2:=by kernel_rfl
theorem Dg:Tryz.prog.cellsOf 3=1:=by kernel_rfl
theorem I4:Tryz.prog.cellsOf 2=1:=by kernel_rfl
theorem uN:Tryz.prog.cellsOf 9=1:=by kernel_rfl
theorem Ja:Tryz.prog.cellsOf 86=1:=by kernel_rfl
theorem Jb:Tryz.prog.cellsOf 50=1:=by kernel_rfl
theorem RV:Tryz.prog.cellsOf 22=1:=by kernel_rfl
theorem NG:Tryz.prog.cellsOf 23=1:=by kernel_rfl
theorem ND:Tryz.prog.cellsOf 29=1:=by kernel_rfl
section
variable {H:Type} {enc:TypeId×Value->H} {W:World} {base:Nat} {sp:Nat->Bool} {held:Bool} {M:Nat}
theorem G6 {P Q:cB->Prop} (hpq: ∀h,P h->Q h): ∀l:aH,l.Ev P->l.Ev Q
 | .nil,_=>trivial
 | .cons _ b e r,h=>⟨hpq _ h.1,G6 hpq b h.2.1,G6 hpq e h.2.2.1,G6 hpq r h.2.2.2⟩
theorem Oz: ∀ {B:List Nat} {i n:Nat},B[i]? =some n->n<=B.sum
 |x::r,0,n,h=>by simp at h;subst h;simp
 |x::r,i+1,n,h=>by have:=Oz (B:=r) (by simpa using h);rw[List.sum_cons];omega
theorem yK (d:DataW H):1<=Rows.uptoBulk d:=by
 cases d with
 |lit l=>cases l <;> simp[Rows.uptoBulk]
 |_=>simp[Rows.uptoBulk]
theorem Uj: ∀l:List (DataW H×List MemPlace),Rows.uptoBulkAll (l.map (·.1))=(l.map (λy=>Rows.uptoBulk y.1)).sum
 | []=>rfl
 |y::r=>by rw[List.map_cons,List.map_cons,List.sum_cons,Rows.uptoBulkAll,Uj r]
theorem build {α:Type} {F:List α->Nat->Nat->Prop} {Q:Nat->Nat->α->Prop} (h0: ∀k,F [] k 0) (hc: ∀a l k n s,Q k n a->F l (k+1) s->F (a::l) k (n+s)): ∀(B:List Nat) (k:Nat),(∀i n,B[i]? =some n->∃a,Q (k+i) n a)->∃l,List.length l=B.length∧F l k B.sum
 | [],k,_=>⟨[],rfl,h0 k⟩
 |n::B,k,h=>by obtain⟨a,ha⟩:=h 0 n rfl;obtain⟨l,hl,hf⟩:=build h0 hc B (k+1) (λi m hm=>by obtain⟨a,ha⟩:=h (i+1) m (by simpa using hm);exact⟨a,by rw[show k+1+i=k+(i+1) by omega];exact ha⟩);exact⟨a::l,by simp[hl],by rw[List.sum_cons];exact hc _ _ _ _ _ ha hf⟩
theorem qQ {n:Nat} {t:TypeId} {v:Value} {y:DataW H×List MemPlace} (ht:Tryz.prog.underlying t=some (.int .i64)) (h:DataW.trod enc Tryz.prog W base sp held n t [v]=some y): ∃z:Int,v= .int .i64 z∧fD z:=by
 obtain⟨z,hc,_,hw⟩:=DataW.trod_int ht h;exact⟨z,by simpa using hc,bounds_i64 hw⟩
theorem vC {n:Nat} {v:Value} {y:DataW H×List MemPlace} (h:DataW.trod enc Tryz.prog W base sp held n 9 [v]=some y): ∃s:ByteArray,v= .string s∧s.size<=maxLen:=by
 obtain⟨s,hc,_,hs⟩:=DataW.trod_string Tryz.underlying9 h;exact⟨s,by simpa using hc,hs⟩
theorem yR {t e:TypeId} {fuel sz:Nat} {v:Value} {x:DataW H×List MemPlace} (ht:Tryz.prog.underlying t=some (.slice e)) (hsz:Tryz.prog.cellsOf e=sz) (h0:0<sz) (h:DataW.trod enc Tryz.prog W base sp held fuel t [v]=some x):
 v= .slice none 0 0∨∃(a:Addr) (cap n:Nat) (B:List Nat),fuel=n+1∧v= .slice (some a) B.length cap∧B.length<=cap∧cap<=maxLen∧B.sum+1<=Rows.uptoBulk x.1∧
  ∀i m,B[i]? =some m->∃(b off:Nat) (cs:List Value) (y:DataW H×List MemPlace),a=⟨b,off,none⟩∧b<W.heap.size∧cs.length=sz∧(∀j u,cs[j]? =some u->W.cell? ⟨b,off+i*sz+j,none⟩=some u)∧DataW.trod enc Tryz.prog W base sp held n e cs=some y∧Rows.uptoBulk y.1=m:=by
 rcases DataW.trod_slice ht h with⟨hcs,-⟩|⟨a,len,cap,elems,rest,n,hf,hcs,hx,hb,hl,hm,hlen,hel,-,-⟩
 ·exact .inl (by simpa using hcs)
 ·refine .inr ⟨a,cap,n,elems.map (λy=>Rows.uptoBulk y.1),hf,by rw[List.length_map,hlen];simpa using hcs,by rw[List.length_map,hlen];exact hl,hm,by rw[hx,<- Uj];simp only[Rows.uptoBulk];omega,λi m hi=> ?_⟩;obtain⟨y,hy,hym⟩:=Option.map_eq_some_iff.1 (by rw[List.getElem?_map]at hi;exact hi);have hi:i<len:=by have:=(List.getElem?_eq_some_iff.1 hy).1;omega
  have hspot:a.spot=none:=by have:=hel 0 (by omega);rw[List.getElem?_eq_getElem (by omega),hsz]at this;obtain⟨cs,h1,h2⟩:=Option.bind_eq_some_iff.1 this;obtain⟨-,hcl,hcell⟩:=World.cells?_some h1;have h3:=hcell 0 (by omega);rw[List.getElem?_eq_getElem (by omega)]at h3;simpa[Addr.add]using World.cell?_spot h3
  have:=hel i hi;rw[hy,hsz]at this;obtain⟨cs,h1,h2⟩:=Option.bind_eq_some_iff.1 this;obtain⟨-,hcl,hcell⟩:=World.cells?_some h1;obtain⟨b,off,spot⟩:=a;subst hspot;have hc2: ∀j u,cs[j]? =some u->W.cell? ⟨b,off+i*sz+j,none⟩=some u:=λj u hu=>by have hj:j<cs.length:=(List.getElem?_eq_some_iff.1 hu).1;have h3:=hcell j (by omega);rw[hu,add_plain,add_plain]at h3;exact h3
  exact⟨b,off,cs,y,rfl,World.block_lt_of_cell? _ _ (hc2 0 _ (List.getElem?_eq_getElem (by omega))),hcl,hc2,h2,hym⟩
def Mj (enc:TypeId×Value->H) (W:World) (base:Nat) (sp:Nat->Bool) (held:Bool) (n:Nat):Prop:= ∀(v:Value) (x:DataW H×List MemPlace),DataW.trod enc Tryz.prog W base sp held n 86 [v]=some x->∃ao l cap,v= .slice ao (bC.len l) cap∧l.At W W.heap.size ao 0∧l.len<=maxLen∧5*cZ l+1<=Rows.uptoBulk x.1
theorem Jk {n:Nat} {cs:List Value} {x:DataW H×List MemPlace} (hl:cs.length=4) (h:DataW.trod enc Tryz.prog W base sp held n 88 cs=some x) (ih: ∀m,m<n->Mj enc W base sp held m):
 ∃(op k:Int) (nm:ByteArray) (kids:bC) (ao:Option Addr) (cap:Nat),cs=[.int .i64 op,.int .i64 k,.string nm,.slice ao kids.len cap]∧sD op k nm kids∧kids.At W W.heap.size ao 0∧5*(1+cZ kids)<=Rows.uptoBulk x.1:=by
 obtain⟨xs,m,rfl,hx,-,hlen,hg⟩:=DataW.trod_struct Tryz.underlying88 h
 match cs,hl with
 | [v0,v1,v2,v3],_=>
   match xs,hlen with
   | [y0,y1,y2,y3],_=>have g0:=hg 0 _ rfl;have g1:=hg 1 _ rfl;have g2:=hg 2 _ rfl;have g3:=hg 3 _ rfl;simp only[Dg,I4,uN,Ja,List.drop_zero,List.drop_succ_cons,List.take_succ_cons,List.take_zero,List.getElem?_cons_zero,List.getElem?_cons_succ]at g0 g1 g2 g3;obtain⟨z0,rfl,h0⟩:=qQ Tryz.underlying3 g0;obtain⟨z1,rfl,h1⟩:=qQ Tryz.underlying2 g1;obtain⟨s,rfl,h2⟩:=vC g2;obtain⟨ao,l,cap,rfl,h3,h4,h5⟩:=ih m (by omega) _ _ g3;have q0:=yK y0.1;have q1:=yK y1.1;have q2:=yK y2.1;exact⟨z0,z1,s,l,ao,cap,rfl,⟨h0,h1,h2,h4⟩,h3,by rw[hx];simp only[List.map_cons,List.map_nil,Rows.uptoBulk,Rows.uptoBulkAll];omega⟩
theorem Lj {ao:Option Addr} : ∀(B:List Nat) (k:Nat),(∀i m,B[i]? =some m->∃(op n:Int) (nm:ByteArray) (kids:bC),(∃(b off:Nat) (nR:Option Addr) (cap:Nat),ao=some ⟨b,off,none⟩∧b<W.heap.size∧W.cell? ⟨b,off+(k+i)*4,none⟩=some (.int .i64 op)∧W.cell? ⟨b,off+(k+i)*4+1,none⟩=some (.int .i64 n)∧
 W.cell? ⟨b,off+(k+i)*4+2,none⟩=some (.string nm)∧W.cell? ⟨b,off+(k+i)*4+3,none⟩=some (.slice nR kids.len cap)∧sD op n nm kids∧kids.At W W.heap.size nR 0)∧5*(1+cZ kids)<=m)->∃l:bC,l.len=B.length∧l.At W W.heap.size ao k∧5*cZ l<=B.sum
 | [],_,_=>⟨.nil,rfl,trivial,Nat.zero_le _⟩
 |m::B,k,h=>by obtain⟨op,n,nm,kids,hx,hm⟩:=h 0 m rfl;obtain⟨l,hl,hat,hs⟩:=Lj B (k+1) (λi q hq=>by have:=h (i+1) q (by simpa using hq);rw[show k+1+i=k+(i+1) by omega];exact this);exact⟨.cons op n nm kids l,by simp[bC.len,hl],⟨hx,hat⟩,by rw[cZ,List.sum_cons];omega⟩
theorem Ll: ∀n,Mj enc W base sp held n:=λn=>by
 induction n using Nat.strongRecOn with
 |_ n ih=>
  intro v x h;rcases yR Tryz.underlying86 EN (by omega) h with rfl|⟨a,cap,m,B,rfl,rfl,hl,hm,hs,hel⟩
  ·exact⟨none,.nil,0,rfl,trivial,Nat.zero_le _,yK _⟩
  ·obtain⟨l,h1,h2,h3⟩:=Lj (W:=W) (ao:=some a) B 0 (λi q hi=>by obtain⟨b,off,cs,y,rfl,hb,hcl,hc,ht,hq⟩:=hel i q hi;obtain⟨op,k,nm,kids,ao,c,rfl,hok,hk,hn⟩:=Jk hcl ht (λj hj=>ih j (by omega));rw[Nat.zero_add];exact⟨op,k,nm,kids,⟨b,off,ao,c,rfl,hb,hc 0 _ rfl,hc 1 _ rfl,hc 2 _ rfl,hc 3 _ rfl,hok,hk⟩,by rw[<- hq];exact hn⟩);exact⟨some a,l,cap,by rw[h1],h2,by omega,by omega⟩
def Xm (enc:TypeId×Value->H) (W:World) (base:Nat) (sp:Nat->Bool) (held:Bool) (M n:Nat):Prop:= ∀(v:Value) (x:DataW H×List MemPlace),DataW.trod enc Tryz.prog W base sp held n 50 [v]=some x->Rows.uptoBulk x.1<=M->∃ao l cap,v= .slice ao (aH.len l) cap∧l.At W W.heap.size ao 0∧l.len<=maxLen∧iV l<=Rows.uptoBulk x.1∧l.Ev (λh=>5*dU h<=M+15)
theorem LK {ao:Option Addr} : ∀(B:List Nat) (k:Nat),(∀i m,B[i]? =some m->∃(h:cB) (body els:aH),(∃(b off:Nat) (eu:Option Addr) (dI:Nat) (dR:Option Addr) (cO:Nat) (bR:Option Addr) (aY:Nat) (fH:Option Addr) (dX:Nat),ao=some ⟨b,off,none⟩∧b<W.heap.size∧W.cell? ⟨b,off+(k+i)*11,none⟩=some (.int .i64 h.op)∧W.cell? ⟨b,off+(k+i)*11+1,none⟩=some (.int .i64 h.line)∧
 W.cell? ⟨b,off+(k+i)*11+2,none⟩=some (.string h.nm)∧W.cell? ⟨b,off+(k+i)*11+3,none⟩=some (.string h.arg)∧W.cell? ⟨b,off+(k+i)*11+4,none⟩=some (.slice eu h.idx.len dI)∧
 W.cell? ⟨b,off+(k+i)*11+5,none⟩=some (.int .i64 h.cu)∧W.cell? ⟨b,off+(k+i)*11+6,none⟩=some (.int .i64 h.xn)∧W.cell? ⟨b,off+(k+i)*11+7,none⟩=some (.string h.bZ)∧W.cell? ⟨b,off+(k+i)*11+8,none⟩=some (.slice dR h.aK.len cO)∧
 W.cell? ⟨b,off+(k+i)*11+9,none⟩=some (.slice bR body.len aY)∧W.cell? ⟨b,off+(k+i)*11+10,none⟩=some (.slice fH els.len dX)∧uY h body els∧
 h.idx.At W W.heap.size eu 0∧h.aK.At W W.heap.size dR 0∧body.At W W.heap.size bR 0∧els.At W W.heap.size fH 0)∧dU h+iV body+iV els<=m∧5*dU h<=M+15∧body.Ev (λh=>5*dU h<=M+15)∧els.Ev (λh=>5*dU h<=M+15))->∃l:aH,l.len=B.length∧l.At W W.heap.size ao k∧iV l<=B.sum∧l.Ev (λh=>5*dU h<=M+15)
 | [],_,_=>⟨.nil,rfl,trivial,Nat.zero_le _,trivial⟩
 |m::B,k,h=>by obtain⟨hh,body,els,hx,hm,h1,h2,h3⟩:=h 0 m rfl;obtain⟨l,hl,hat,hs,hv⟩:=LK B (k+1) (λi q hq=>by have:=h (i+1) q (by simpa using hq);rw[show k+1+i=k+(i+1) by omega];exact this);exact⟨.cons hh body els l,by simp[aH.len,hl],⟨hx,hat⟩,by rw[iV,List.sum_cons];omega,h1,h2,h3,hv⟩
theorem VX: ∀n,Xm enc W base sp held M n:=λn=>by
 induction n using Nat.strongRecOn with
 |_ n ih=>
  intro v x h hM;rcases yR Tryz.underlying50 Ur (by omega) h with rfl|⟨a,cap,m,B,rfl,rfl,hl,hm,hs,hel⟩
  ·exact⟨none,.nil,0,rfl,trivial,Nat.zero_le _,Nat.zero_le _,trivial⟩
  ·obtain⟨l,h1,h2,h3,h4⟩:=LK (M:=M) (W:=W) (ao:=some a) B 0 (λi r hi=>by
    have hr:r<=B.sum:=Oz hi;obtain⟨b,off,cs,y,rfl,hb,hcl,hc,ht,hq⟩:=hel i r hi;obtain⟨xs,q,rfl,hy,-,hlen,hg⟩:=DataW.trod_struct Tryz.underlying90 ht
    match cs,hcl with
    | [v0,v1,v2,v3,v4,v5,v6,v7,v8,v9,v10],_=>
      match xs,hlen with
      | [y0,y1,y2,y3,y4,y5,y6,y7],_=>have g0:=hg 0 _ rfl;have g1:=hg 1 _ rfl;have g2:=hg 2 _ rfl;have g3:=hg 3 _ rfl;have g4:=hg 4 _ rfl;have g5:=hg 5 _ rfl;have g6:=hg 6 _ rfl;have g7:=hg 7 _ rfl;simp only[Dg,I4,uN,Ja,EN,Jb,List.drop_zero,List.drop_succ_cons,List.take_succ_cons,List.take_zero,List.getElem?_cons_zero,List.getElem?_cons_succ]at g0 g1 g2 g3 g4 g5 g6 g7;obtain⟨z0,rfl,k0⟩:=qQ Tryz.underlying3 g0;obtain⟨z1,rfl,k1⟩:=qQ Tryz.underlying3 g1;obtain⟨s2,rfl,k2⟩:=vC g2;obtain⟨s3,rfl,k3⟩:=vC g3;obtain⟨eu,li,dI,rfl,k4,k4',n4⟩:=Ll q _ _ g4;obtain⟨cu,xn,bZ,xk,dR,cO,hx,k5,k5',n5⟩:=Jk rfl g5 (λj _=>Ll j);simp[EN]at hx;obtain⟨rfl,rfl,rfl,rfl⟩:=hx;rw[hy]at hq;simp only[List.map_cons,List.map_nil,Rows.uptoBulk,Rows.uptoBulkAll]at hq;obtain⟨bR,lb,aY,rfl,k6,k6',n6,e6⟩:=ih q (by omega) _ _ g6 (by omega);obtain⟨fH,le,dX,rfl,k7,k7',n7,e7⟩:=ih q (by omega) _ _ g7 (by omega);have p0:=yK y0.1;have p1:=yK y1.1;have p2:=yK y2.1;have p3:=yK y3.1;rw[Nat.zero_add];exact⟨⟨z0,z1,s2,s3,li,cu,xn,bZ,xk⟩,lb,le,⟨b,off,eu,dI,dR,cO,bR,aY,fH,dX,rfl,hb,hc 0 _ rfl,hc 1 _ rfl,hc 2 _ rfl,hc 3 _ rfl,hc 4 _ rfl,hc 5 _ rfl,hc 6 _ rfl,hc 7 _ rfl,hc 8 _ rfl,hc 9 _ rfl,hc 10 _ rfl,⟨k0,k1,k2,k3,k4',k5,k6',k7'⟩,k4,k5',k6,k7⟩,by show 3+cZ xk+cZ li+iV lb+iV le<=r;omega,by show 5*(3+cZ xk+cZ li)<=M+15;omega,e6,e7⟩)
   exact⟨some a,l,cap,by rw[h1],h2,by omega,by omega,h4⟩
theorem YR {n:Nat} {v:Value} {x:DataW H×List MemPlace} (h:DataW.trod enc Tryz.prog W base sp held n 29 [v]=some x): ∃ao l cap,v= .slice ao (List.length l) cap∧eD W W.heap.size l ao 0∧l.length<=maxLen∧l.length<=cap:=by
 rcases yR Tryz.underlying29 uN (by omega) h with rfl|⟨a,cap,m,B,rfl,rfl,hl,hm,hs,hel⟩
 ·exact⟨none,[],0,rfl,trivial,Nat.zero_le _,Nat.zero_le _⟩
 ·obtain⟨l,h1,h2⟩:=build (F:=λl k _=>eD W W.heap.size l (some a) k) (Q:=λk _ s=> ∃b off,some a=some ⟨b,off,none⟩∧b<W.heap.size∧W.cell? ⟨b,off+k,none⟩=some (.string s)∧s.size<=maxLen) (λ_=>trivial) (λ_ _ _ _ _ h hr=>⟨h,hr⟩) B 0 (λi q hi=>by
   obtain⟨b,off,cs,y,rfl,hb,hcl,hc,ht,-⟩:=hel i q hi
   match cs,hcl with
   | [v0],_=>obtain⟨s,rfl,hs⟩:=vC ht;exact⟨s,b,off,rfl,hb,by have:=hc 0 _ rfl;simpa using this,hs⟩)
  exact⟨some a,l,cap,by rw[h1],h2,by omega,by omega⟩
theorem XD {n:Nat} {v:Value} {x:DataW H×List MemPlace} (h:DataW.trod enc Tryz.prog W base sp held n 22 [v]=some x): ∃ao l cap,v= .slice ao (List.length l) cap∧gM W W.heap.size l ao 0∧l.length<=maxLen∧l.length<=cap:=by
 rcases yR Tryz.underlying22 Uq (by omega) h with rfl|⟨a,cap,m,B,rfl,rfl,hl,hm,hs,hel⟩
 ·exact⟨none,[],0,rfl,trivial,Nat.zero_le _,Nat.zero_le _⟩
 ·obtain⟨l,h1,h2⟩:=build (F:=λl k _=>gM W W.heap.size l (some a) k) (Q:=λk _ d=> ∃b off,some a=some ⟨b,off,none⟩∧b<W.heap.size∧W.cell? ⟨b,off+k*6,none⟩=some (.int .i64 d.kind)∧W.cell? ⟨b,off+k*6+1,none⟩=some (.int .i64 d.line)∧W.cell? ⟨b,off+k*6+2,none⟩=some (.string d.nm)∧W.cell? ⟨b,off+k*6+3,none⟩=some (.int .i64 d.size)∧W.cell? ⟨b,off+k*6+4,none⟩=some (.int .i64 d.init)∧W.cell? ⟨b,off+k*6+5,none⟩=some (.string d.on)∧d.Ok) (λ_=>trivial) (λ_ _ _ _ _ h hr=>⟨h,hr⟩) B 0 (λi q0 hi=>by
   rw[Nat.zero_add];obtain⟨b,off,cs,y,rfl,hb,hcl,hc,ht,-⟩:=hel i q0 hi;obtain⟨xs,q,rfl,-,-,hlen,hg⟩:=DataW.trod_struct Tryz.underlying75 ht
   match cs,hcl with
   | [v0,v1,v2,v3,v4,v5],_=>
     match xs,hlen with
     | [y0,y1,y2,y3,y4,y5],_=>have g0:=hg 0 _ rfl;have g1:=hg 1 _ rfl;have g2:=hg 2 _ rfl;have g3:=hg 3 _ rfl;have g4:=hg 4 _ rfl;have g5:=hg 5 _ rfl;simp only[Dg,I4,uN,List.drop_zero,List.drop_succ_cons,List.take_succ_cons,List.take_zero,List.getElem?_cons_zero,List.getElem?_cons_succ]at g0 g1 g2 g3 g4 g5;obtain⟨z0,rfl,k0⟩:=qQ Tryz.underlying3 g0;obtain⟨z1,rfl,k1⟩:=qQ Tryz.underlying3 g1;obtain⟨s2,rfl,k2⟩:=vC g2;obtain⟨z3,rfl,k3⟩:=qQ Tryz.underlying3 g3;obtain⟨z4,rfl,k4⟩:=qQ Tryz.underlying2 g4;obtain⟨s5,rfl,k5⟩:=vC g5;exact⟨⟨z0,z1,s2,z3,z4,s5⟩,b,off,rfl,hb,hc 0 _ rfl,hc 1 _ rfl,hc 2 _ rfl,hc 3 _ rfl,hc 4 _ rfl,hc 5 _ rfl,k0,k1,k2,k3,k4,k5⟩)
  exact⟨some a,l,cap,by rw[h1],h2,by omega,by omega⟩
theorem YP {n:Nat} {v:Value} {x:DataW H×List MemPlace} (h:DataW.trod enc Tryz.prog W base sp held n 23 [v]=some x) (hM:Rows.uptoBulk x.1<=M): ∃ao l cap,v= .slice ao (List.length l) cap∧fQ W W.heap.size l ao 0∧l.length<=maxLen∧l.length<=cap∧uT l<=M∧∀t∈l,t.body.Ev (λh=>5*dU h<=M+15):=by
 rcases yR Tryz.underlying23 Pv (by omega) h with rfl|⟨a,cap,m,B,rfl,rfl,hl,hm,hs,hel⟩
 ·exact⟨none,[],0,rfl,trivial,Nat.zero_le _,Nat.zero_le _,Nat.zero_le _,λ_ h=>by cases h⟩
 ·obtain⟨l,h1,h2,h3,h4⟩:=build (F:=λl k s=>fQ W W.heap.size l (some a) k∧uT l<=s∧∀t∈l,t.body.Ev (λh=>5*dU h<=M+15)) (Q:=λk n t=>(∃(b off:Nat) (fC:Option Addr) (dw:Nat) (bR:Option Addr) (aY:Nat),some a=some ⟨b,off,none⟩∧b<W.heap.size∧W.cell? ⟨b,off+k*4,none⟩=some (.string t.nm)∧W.cell? ⟨b,off+k*4+1,none⟩=some (.int .i64 t.line)∧
   W.cell? ⟨b,off+k*4+2,none⟩=some (.slice fC t.bg.length dw)∧W.cell? ⟨b,off+k*4+3,none⟩=some (.slice bR t.body.len aY)∧t.Ok∧eD W W.heap.size t.bg fC 0∧t.body.At W W.heap.size bR 0∧t.bg.length<=dw)∧iV t.body<=n∧t.body.Ev (λh=>5*dU h<=M+15)) (λ_=>⟨trivial,Nat.zero_le _,λ_ h=>by cases h⟩) (λa l k n s h hr=>⟨⟨h.1,hr.1⟩,by rw[uT];have:=h.2.1;have:=hr.2.1;omega,λt ht=>by
   rcases List.mem_cons.1 ht with rfl|ht
   ·exact h.2.2
   ·exact hr.2.2 t ht⟩) B 0 (λi q0 hi=>by
   rw[Nat.zero_add];have hr:q0<=B.sum:=Oz hi;obtain⟨b,off,cs,y,rfl,hb,hcl,hc,ht,hq⟩:=hel i q0 hi;obtain⟨xs,q,rfl,hy,-,hlen,hg⟩:=DataW.trod_struct Tryz.underlying52 ht
   match cs,hcl with
   | [v0,v1,v2,v3],_=>
     match xs,hlen with
     | [y0,y1,y2,y3],_=>have g0:=hg 0 _ rfl;have g1:=hg 1 _ rfl;have g2:=hg 2 _ rfl;have g3:=hg 3 _ rfl;simp only[Dg,uN,ND,Jb,List.drop_zero,List.drop_succ_cons,List.take_succ_cons,List.take_zero,List.getElem?_cons_zero,List.getElem?_cons_succ]at g0 g1 g2 g3;obtain⟨s0,rfl,k0⟩:=vC g0;obtain⟨z1,rfl,k1⟩:=qQ Tryz.underlying3 g1;obtain⟨fC,ll,dw,rfl,k2,k2',aW7⟩:=YR g2;rw[hy]at hq;simp only[List.map_cons,List.map_nil,Rows.uptoBulk,Rows.uptoBulkAll]at hq;obtain⟨bR,lb,aY,rfl,k3,k3',n3,e3⟩:=VX (M:=M) _ _ _ g3 (by omega);exact⟨⟨s0,z1,ll,lb⟩,⟨b,off,fC,dw,bR,aY,rfl,hb,hc 0 _ rfl,hc 1 _ rfl,hc 2 _ rfl,hc 3 _ rfl,⟨k0,k1,k2',k3'⟩,k2,k3,aW7⟩,by show iV lb<=q0;omega,e3⟩)
  exact⟨some a,l,cap,by rw[h1],h2,by omega,by omega,by omega,h4⟩
theorem Vy {v:Value} {d:DataW H} {p:List MemPlace} (hv:Value.okWide Tryz.prog W .any base 25 v)
 (h:DataW.Trod enc Tryz.prog W 0 (λ_=>true) true 25 v d p) (hM:Rows.uptoBulk d<=1048576):
 ∃(q:Pr) (aB aD:Option Addr) (aA ay:Nat),v= .agg #[.slice aB q.ds.length aA,.slice aD q.ts.length ay]∧q.At W aB aD∧q.ds.length<=aA∧q.ts.length<=ay∧Fit q:=by
 obtain⟨cs,rfl,hsz⟩:=okWide_struct Tryz.underlying25 hv;rw[NC]at hsz;obtain⟨l⟩:=cs
 match l,hsz with
 | [v0,v1],_=>
   obtain⟨fuel,hf⟩:=h;obtain⟨xs,n,_,hx,_,hlen,hg⟩:=DataW.trod_struct Tryz.underlying25 hf
   match xs,hlen with
   | [y0,y1],_=>have g0:=hg 0 _ rfl;have g1:=hg 1 _ rfl;simp only[Value.cells,RV,NG,List.drop_zero,List.drop_succ_cons,List.take_succ_cons,List.take_zero,List.getElem?_cons_zero,List.getElem?_cons_succ]at g0 g1;obtain⟨aB,ds,aA,rfl,h0,h0',aV1⟩:=XD g0;obtain⟨aD,ts,ay,rfl,h1,h1',ar3,h2,h3⟩:=YP (M:=1048576) g1 (by injection hx with hx _;rw[hx]at hM;simp only[List.map_cons,List.map_nil,Rows.uptoBulk,Rows.uptoBulkAll]at hM;omega);exact⟨⟨ds,ts⟩,aB,aD,aA,ay,rfl,⟨h0',h1',h0,h1⟩,aV1,ar3,by show uT ts<=_;omega,λt ht=>G6 (λh hh=>by omega) _ (h3 t ht)⟩
end
end Go.Proofs.YtkmllehjemjgpaaGreatDoor
