/- append, and all that it writes. No program in sight. And what hangs on it. -/
import Derived.Test.YtkajcclnlehkmaaGreatDoorGMT
import Derived.Deep.AppendLies
import Derived.ArgAppend
set_option linter.unusedSimpArgs false
set_option linter.unusedVariables false
set_option maxHeartbeats 40000000
set_option maxRecDepth 1000000
namespace Go.Proofs.YtkajcclnlehkmaaGreatDoor
open Go.RowKit
open Md
theorem Md.Wr.wk {w w2:World} {W W':Nat->Nat->Value->Prop} (h:Wr w w2 W) (hw: ∀g o u,g < w.heap.size->W g o u->W' g o u):Wr w w2 W':=fun g cs T hb=>by
 obtain ⟨cs2,h1,h2,h3⟩:=h g cs T hb;refine ⟨cs2,h1,h2,fun o u hu=> ?_⟩;obtain ⟨u2,k1,k2⟩:=h3 o u hu;exact ⟨u2,k1,k2.imp id (hw _ _ _ (Array.getElem?_eq_some_iff.1 hb).1)⟩
theorem Md.Wr.weak {w w2:World} {W W':Nat->Nat->Value->Prop} (h:Wr w w2 W) (hw: ∀g o u,W g o u->W' g o u):Wr w w2 W':=h.wk (fun g o u _=>hw g o u)
def FZ (v:Value) (o0:Nat) (news:List Value) (g o:Nat) (u:Value):Prop:=v.ownBlock=some g∧ ∃j,news[j]? =some u∧o=o0 + j
section
variable {P:Program} (w:World)
theorem Bt (t ty:TypeId) (base:Nat) (e:TypeId) (i:TypeInfo) (z:Value) (size bytes:Nat) (ht:P.underlying t=some (.slice e)) (hi:P.info? e=some i) (hz:i.zero=some z)
 (hsize:i.size=size) (hby:i.bytes=bytes) (hzs:z.cells.size=size) (hsz:0 < size)
 (v:Value) (n:Nat) (xs:List Value) (hown:w.ownsRow base e size v n xs)
 (ad:Addr) (m c:Nat) (news:List Value) (hl:news.length=m * size) (hnews: ∀j u,news[j]? =some u->w.cell? (ad.add j)=some u) (h1: ∀u ∈ news,u.oneCell'=true)
 (hm:0 < m) (h63:n + m<=maxLen) (hbytes:(n + m) * bytes<=140737488355328) (hbase:base<=w.heap.size) (H:Nat) (hH:w.heap.size=H):
 ∃g cap w',(Builtin.append_ #[t,t] ty #[v,.slice (some ad) m c]).run P w= .ok (.slice (some ⟨g,0,none⟩) (n + m) cap) w'∧
  w'.ownsRow base e size (.slice (some ⟨g,0,none⟩) (n + m) cap) (n + m) (xs++news)∧w.grownBy w' v.ownBlock∧(v.ownBlock=some g∨g=H)∧Wr w w' (FZ v (n * size) news):=by
 obtain ⟨g,cap,w',hr,h2,h3,h4,h5⟩:=run_append_lies (P:=P) w t ty base e i z size bytes ht hi hz hsize hby hzs hsz v n xs hown ad m c news hl hnews h1 hm h63 hbytes hbase H hH;refine ⟨g,cap,w',hr,h2,h3,h4,?_⟩;rcases hown.2 with ⟨rfl,-⟩ | ⟨g0,cap0,cur,rfl,hbg,hg,hnc,hcm,hcs,htake⟩
 ·exact (Wr.kept (fun k hk=>h3.block k hk (by simp [Value.ownBlock]))).weak (fun _ _ _ h=>h.elim)
 ·subst hsize hby;by_cases hroom:n + m<=cap0
  ·have hfit:n * i.size + news.length<=cur.size:=by rw [hl,hcs,<- Nat.add_mul]; exact Nat.mul_le_mul_right _ hroom
   have hr2:=run_append_room_cells (P:=P) w t ty e i ht hi g0 0 n cap0 ad m c news hl hnews h1 hroom (fun j hj=>by rw [cell_of_row w g0 _ cur e (0,0) hg]; simp; omega) (fun j hj=>aB hg);rw [hr] at hr2;injection hr2 with e1 e2;rw [e2];refine (Wr.sets g0 news _ w).weak (fun g' o u h=>⟨by rw [h.1]; rfl,?_⟩);obtain ⟨-,j,h6,h7⟩:=h;exact ⟨j,h6,by omega⟩
  ·have holds: ∀j u,xs[j]? =some u->w.cell? ((⟨g0,0,none⟩:Addr).add j)=some u:=hown.cells (g:=g0) rfl;have hr2:=run_append_grow (P:=P) w t ty e i z ht hi hz ⟨g0,0,none⟩ n cap0 xs hown.1 holds ad m c news hl hnews (by omega) (by unfold maxLen at h63; omega) (growslice_fits (by omega) hbytes);rw [hr] at hr2;injection hr2 with e1 e2;rw [e2];exact (Wr.kept (fun k hk=>heap_alloc_old w.drew _ hk)).weak (fun _ _ _ h=>h.elim)
theorem ny {o:Oper} {a:Act} {K:Act->World->Prop} {Q:Exit->Act->World->Prop} (s x:Operand) (t:TypeId)
 (ho:o.op= .call {callee:= .builtin .append,args:= #[s,x],argTypes:= #[t,t]})
 (base:Nat) (e:TypeId) (i:TypeInfo) (z:Value) (size bytes:Nat) (ht:P.underlying t=some (.slice e)) (hi:P.info? e=some i) (hz:i.zero=some z)
 (hsize:i.size=size) (hby:i.bytes=bytes) (hzs:z.cells.size=size) (hsz:0 < size)
 (v:Value) (n:Nat) (xs:List Value) (hs:a.eval s=v) (hown:w.ownsRow base e size v n xs)
 (ad:Addr) (m c:Nat) (news:List Value) (hx:a.eval x= .slice (some ad) m c) (hl:news.length=m * size) (hnews: ∀j u,news[j]? =some u->w.cell? (ad.add j)=some u) (h1: ∀u ∈ news,u.oneCell'=true)
 (hm:0 < m) (h63:n + m<=maxLen) (hbytes:(n + m) * bytes<=140737488355328) (hbase:base<=w.heap.size) (H:Nat) (hH:w.heap.size=H)
 (h: ∀g cap w',w'.ownsRow base e size (.slice (some ⟨g,0,none⟩) (n + m) cap) (n + m) (xs++news)->w.grownBy w' v.ownBlock->(v.ownBlock=some g∨g=H)->Wr w w' (FZ v (n * size) news)->K (a.put o.dst (.slice (some ⟨g,0,none⟩) (n + m) cap)) w'):o.wp P a w K Q:=by
 obtain ⟨g,cap,w',hr,h2,h3,h4,h5⟩:=Bt (P:=P) w t o.type base e i z size bytes ht hi hz hsize hby hzs hsz v n xs hown ad m c news hl hnews h1 hm h63 hbytes hbase H hH;unfold Oper.wp execOp;simp only [ho,resolve,invoke,builtin,Sem.run_bind,Sem.run_pure,Result.andThen_ok,List.map_toArray,List.map_cons,List.map_nil,hs,hx,hr];exact h g cap w' h2 h3 h4 h5
theorem xZ {ops:Array Oper} {rest:List Oper} {o:Oper} {a:Act} {Q:Exit->Act->World->Prop} (hgd:o.guard=none) (s x:Operand) (t:TypeId)
 (ho:o.op= .call {callee:= .builtin .append,args:= #[s,x],argTypes:= #[t,t]})
 (base:Nat) (e:TypeId) (i:TypeInfo) (z:Value) (size bytes:Nat) (ht:P.underlying t=some (.slice e)) (hi:P.info? e=some i) (hz:i.zero=some z)
 (hsize:i.size=size) (hby:i.bytes=bytes) (hzs:z.cells.size=size) (hsz:0 < size)
 (v:Value) (n:Nat) (xs:List Value) (hs:a.eval s=v) (hown:w.ownsRow base e size v n xs)
 (ad:Addr) (m c:Nat) (news:List Value) (hx:a.eval x= .slice (some ad) m c) (hl:news.length=m * size) (hnews: ∀j u,news[j]? =some u->w.cell? (ad.add j)=some u) (h1: ∀u ∈ news,u.oneCell'=true)
 (hm:0 < m) (h63:n + m<=maxLen) (hbytes:(n + m) * bytes<=140737488355328) (hbase:base<=w.heap.size) (H:Nat) (hH:w.heap.size=H)
 (h: ∀g cap w',w'.ownsRow base e size (.slice (some ⟨g,0,none⟩) (n + m) cap) (n + m) (xs++news)->w.grownBy w' v.ownBlock->(v.ownBlock=some g∨g=H)->Wr w w' (FZ v (n * size) news)->wpList P ops Q rest (a.put o.dst (.slice (some ⟨g,0,none⟩) (n + m) cap)) w'):wpList P ops Q (o ::rest) a w:=
 wpList_plain hgd fun _ hK=>ny w s x t ho base e i z size bytes ht hi hz hsize hby hzs hsz v n xs hs hown ad m c news hx hl hnews h1 hm h63 hbytes hbase H hH fun g cap w' h2 h3 h4 h5=>hK _ _ (h g cap w' h2 h3 h4 h5)
end
namespace Md
def RR (pE pS pT:Value->Value->Prop) (T:TypeId) (o:Nat) (u u2:Value):Prop:=
 (T=57∧Rel (fun _ _=>False) (ru o) u u2)∨(T=59∧RS pE pS o u u2)∨(T=42∧Rel (fun _ _=>False) (CP o) u u2)∨(T=47∧Rel (fun u u2=>o % 4=2∧pT u u2) (AX o) u u2)∨(T=9∧Rel (fun _ _=>False) 1 u u2)
section
variable {w w2 w4 w5 wz:World} {lo:Nat} {pE pS pT:Value->Value->Prop} {W:Nat->Nat->Value->Prop}
theorem pW (key: ∀g cs T o u u2,w.heap[g]? =some (.cells cs T (0,0))->cs[o]? =some u->W g o u2->RR pE pS pT T o u u2):NJ w lo pE pS pT W where
 e:=fun g cs o u u2 _ hb hu hw=>by
  rcases key g cs _ o u u2 hb hu hw with ⟨-,h⟩ | ⟨h,-⟩ | ⟨h,-⟩ | ⟨h,-⟩ | ⟨h,-⟩
  ·exact h
  all_goals exact absurd h (by decide)
 s:=fun g cs o u u2 _ hb hu hw=>by
  rcases key g cs _ o u u2 hb hu hw with ⟨h,-⟩ | ⟨-,h⟩ | ⟨h,-⟩ | ⟨h,-⟩ | ⟨h,-⟩
  ·exact absurd h (by decide)
  ·exact h
  all_goals exact absurd h (by decide)
 d:=fun g cs o u u2 _ hb hu hw=>by
  rcases key g cs _ o u u2 hb hu hw with ⟨h,-⟩ | ⟨h,-⟩ | ⟨-,h⟩ | ⟨h,-⟩ | ⟨h,-⟩
  ·exact absurd h (by decide)
  ·exact absurd h (by decide)
  ·exact h
  all_goals exact absurd h (by decide)
 t:=fun g cs o u u2 _ hb hu hw=>by
  rcases key g cs _ o u u2 hb hu hw with ⟨h,-⟩ | ⟨h,-⟩ | ⟨h,-⟩ | ⟨-,h⟩ | ⟨h,-⟩
  ·exact absurd h (by decide)
  ·exact absurd h (by decide)
  ·exact absurd h (by decide)
  ·exact h
  ·exact absurd h (by decide)
 x:=fun g cs o u u2 _ hb hu hw=>by
  rcases key g cs _ o u u2 hb hu hw with ⟨h,-⟩ | ⟨h,-⟩ | ⟨h,-⟩ | ⟨h,-⟩ | ⟨-,h⟩
  ·exact absurd h (by decide)
  ·exact absurd h (by decide)
  ·exact absurd h (by decide)
  ·exact absurd h (by decide)
  ·exact h
theorem jJ {g:Nat} {cs cs':Array Value} {T T':TypeId} (h:w.heap[g]? =some (.cells cs T (0,0))) (h':w.heap[g]? =some (.cells cs' T' (0,0))):cs=cs'∧T=T':=by
 rw [h] at h';injection h' with h'; injection h' with h1 h2;exact ⟨h1,h2⟩
theorem Io:Gy lo w w2 (fun _ _=>False):=fun _ _ _ _ h=>h.elim
theorem Ip {pE:Value->Value->Prop} :Gz lo w w2 pE (fun _ _=>False):=fun _ _ _ _ h=>h.elim
theorem noT:KM lo w w2 (fun _ _=>False):=fun _ _ _ _ h=>h.elim
theorem JI {p:Pr} {aT aZ:Option Addr} {aM aN:Nat} (hp:p.T w lo aT aM aZ aN) {b o:Nat} {cs:Array Value} {T:TypeId} {v:Value} (hb:w.heap[b]? =some (.cells cs T (0,0)))
 (hv: ∀u,RR (fun _ _=>False) (fun _ _=>False) (fun _ _=>False) T o u v): ∃p':Pr,p'.ds.length=p.ds.length∧p'.ts.length=p.ts.length∧p'.T (w.setCell ⟨b,o,none⟩ v) lo aT aM aZ aN:=
 wC ((Wr.set w b o v).up (pW (fun g cs' T' o' u u2 hg hu ⟨e1,e2,e3⟩=>by subst e1 e2 e3;obtain ⟨rfl,rfl⟩:=jJ hg hb;exact hv u))) Io Ip noT hp
theorem aL.T.snoc {h:bD} {s:Sl} {g:Nat} : ∀ {l:aL} {k:Nat},l.T w lo (some ⟨g,0,none⟩) k->dA w g ((k + l.len) * 11) (bF.f ⟨h,.nil,.nil,s⟩)->kS h .nil .nil->
 (aX w lo 57 4 s.eT h.idx.len s.dO∧aX w lo 57 4 s.eZ h.dn.len s.dS∧aX w lo 59 11 s.bg 0 s.aU∧aX w lo 59 11 s.fG 0 s.dZ)->h.idx.T w lo s.eT 0->h.dn.T w lo s.eZ 0->
 ∃l':aL,l'.len=l.len + 1∧l'.T w lo (some ⟨g,0,none⟩) k
 | .nil,k,_,hc,hok,hr,h1,h2=>⟨.cons h .nil .nil .nil,rfl,⟨g,s,rfl,by simpa [aL.len] using hc,hok,hr,h1,h2,trivial,trivial⟩,trivial⟩
 | .cons hh b e r,k,⟨hx,ht⟩,hc,hok,hr,h1,h2=>by obtain ⟨l',q1,q2⟩:=aL.T.snoc (l:=r) (k:=k + 1) ht (by rw [show k + 1 + r.len=k + (aL.cons hh b e r).len by show k + 1 + r.len=k + (r.len + 1); omega]; exact hc) hok hr h1 h2;exact ⟨.cons hh b e l',by show l'.len + 1=r.len + 1 + 1; rw [q1],hx,q2⟩
theorem aG.T.snoc {op n:Int} {nm:ByteArray} {g:Nat} : ∀ {l:aG} {k:Nat},l.T w lo (some ⟨g,0,none⟩) k->dA w g ((k + l.len) * 4) (jf op n nm .nil none 0)->lZ op n nm .nil->
 ∃l':aG,l'.len=l.len + 1∧l'.T w lo (some ⟨g,0,none⟩) k
 | .nil,k,_,hc,hok=>⟨.cons op n nm .nil .nil,rfl,⟨g,none,0,rfl,by simpa [aG.len] using hc,hok,.inl ⟨rfl,rfl,rfl⟩,trivial⟩,trivial⟩
 | .cons o1 n1 m1 k1 r,k,⟨hx,ht⟩,hc,hok=>by obtain ⟨l',q1,q2⟩:=aG.T.snoc (l:=r) (k:=k + 1) ht (by rw [show k + 1 + r.len=k + (aG.cons o1 n1 m1 k1 r).len by show k + 1 + r.len=k + (r.len + 1); omega]; exact hc) hok;exact ⟨.cons o1 n1 m1 k1 l',by show l'.len + 1=r.len + 1 + 1; rw [q1],hx,q2⟩
theorem EU {s:ByteArray} {g:Nat} (hs:s.size<=maxLen): ∀ {l:List ByteArray} {k:Nat},kT w l (some ⟨g,0,none⟩) k->w.cell? ⟨g,k + l.length,none⟩=some (.string s)->kT w (l++[s]) (some ⟨g,0,none⟩) k
 | [],k,_,hc=>⟨⟨g,rfl,hc,hs⟩,trivial⟩
 | x ::r,k,⟨hx,ht⟩,hc=>⟨hx,EU hs ht (by rw [show k + 1 + r.length=k + (x ::r).length by rw [List.length_cons]; omega]; exact hc)⟩
structure DV (w w5:World) (lo:Nat) (T:TypeId) (m:Nat) (ao:Option Addr) (n cap g' cap' b o:Nat) (zs leaf:List Value):Prop where
 wr:Wr w w5 (fun g o' u=>(∃k,(zs[k]? =some u∨leaf[k]? =some u)∧o'=n * m + k∧ao=some ⟨g,0,none⟩)∨(g=b∧o'=o∧u= .slice (some ⟨g',0,none⟩) (n + 1) cap'))
 row:aX w5 lo T m (some ⟨g',0,none⟩) (n + 1) cap'
 leaf:dA w5 g' (n * m) leaf
 copy: ∀gold,ao=some ⟨gold,0,none⟩-> ∀o u,w.cell? ⟨gold,o,none⟩=some u->o < n * m->w5.cell? ⟨g',o,none⟩=some u
theorem rA {B m n cap g:Nat} {T:TypeId} {xs:List Value} (h:w.ownsRow B T m (.slice (some ⟨g,0,none⟩) n cap) n xs) {j:Nat} {u:Value} (hu:xs[j]? =some u):w.cell? ⟨g,j,none⟩=some u:=by
 have:=h.cells (g:=g) rfl j u hu;rcases Nat.eq_zero_or_pos j with rfl | hj
 ·simpa [Addr.add] using this
 ·simpa [Addr.add,Nat.ne_of_gt hj] using this
theorem sP {B m n cap g:Nat} {T:TypeId} {xs:List Value} (h:w.ownsRow B T m (.slice (some ⟨g,0,none⟩) n cap) n xs) (hn:0 < n):B<=g∧ ∃cs,w.heap[g]? =some (.cells cs T (0,0))∧n<=cap∧cap<=maxLen∧cs.size=cap * m:=by
 rcases h.2 with ⟨h1,-⟩ | ⟨g2,cap2,cur,h1,h2,h3,h4,h5,h6,-⟩
 ·cases h1
 ·injection h1 with e1 e2 e3;injection e1 with e1; injection e1 with e1;subst e1 e3;exact ⟨h2,cur,h3,h4,h5,h6⟩
theorem zA {T:TypeId} {m n cap g' cap' b o:Nat} {ao:Option Addr} {xs zs leaf:List Value} (hao: ∀a,ao=some a->a=⟨a.block,0,none⟩) (hbz:Below w.heap.size w wz) (hown:w.ownsRow lo T m (.slice ao n cap) n xs) (h4:w4.ownsRow lo T m (.slice (some ⟨g',0,none⟩) (n + 1) cap') (n + 1) (xs++zs)) (hw4:Wr wz w4 (FZ (.slice ao n cap) (n * m) zs))
 (hat:(Value.slice ao n cap).ownBlock=some g'∨g'=wz.heap.size) (hll:leaf.length=m) (hne:g'≠b):
 DV w ((w4.setCells g' (n * m) leaf).setCell ⟨b,o,none⟩ (.slice (some ⟨g',0,none⟩) (n + 1) cap')) lo T m ao n cap g' cap' b o zs leaf:=by
 obtain ⟨hB,yH,hb4,q1,q2,q3⟩:=sP h4 (Nat.succ_pos n);have hsz:n * m + leaf.length<=yH.size:=by rw [q3,hll,<- Nat.succ_mul]; exact Nat.mul_le_mul_right _ q1
 obtain ⟨cur,r1,r2,r3⟩:=qF leaf (n * m) w4 yH hb4 hsz;have hb5:((w4.setCells g' (n * m) leaf).setCell ⟨b,o,none⟩ (.slice (some ⟨g',0,none⟩) (n + 1) cap')).heap[g']? =some (.cells cur T (0,0)):=(aW _ _ _ rfl (fun e=>hne e.symm)).trans r1;have hcell: ∀j u,(yH.toList.take (n * m)++leaf)[j]? =some u->((w4.setCells g' (n * m) leaf).setCell ⟨b,o,none⟩ (.slice (some ⟨g',0,none⟩) (n + 1) cap')).cell? ⟨g',j,none⟩=some u:=fun j u hu=>by rw [<- r3] at hu;have hj:=(List.getElem?_eq_some_iff.1 hu).1;rw [List.length_take] at hj;rw [List.getElem?_take_of_lt (by omega)] at hu;exact au hb5 (by simpa using hu)
 have htl:(yH.toList.take (n * m)).length=n * m:=by rw [List.length_take]; simp; omega
 refine ⟨?_,.inr ⟨g',cur,rfl,hB,hb5,q1,q2,r2.trans q3⟩,fun j u hu=>hcell _ u (by rw [List.getElem?_append_right (by omega),htl]; simpa using hu),fun gold hg o' u hu ho=> ?_⟩
 ·refine ((((Wr.kept hbz.block).trans hw4).trans (Wr.sets g' leaf (n * m) w4)).trans (Wr.set _ b o _)).wk (fun g o' u hlt h=> ?_);rcases h with ((h | ⟨h1,j,h2,h3⟩) | ⟨rfl,j,h1,h2⟩) | ⟨h1,h2,h3⟩
  ·exact h.elim
  ·refine .inl ⟨j,.inl h2,h3,?_⟩;cases ao with
   | none=>cases h1
   | some a=>have h1:a.block=g:=(by injection h1);rw [<- h1,<- hao a rfl]
  ·refine .inl ⟨j,.inr h1,h2,?_⟩;rcases hat with hat | hat
   ·cases ao with
    | none=>cases hat
    | some a=>have h1:a.block=g:=(by injection hat);rw [<- h1,<- hao a rfl]
   ·have:=hbz.size; omega
  ·exact .inr ⟨h1,h2,h3⟩
 ·subst hg;have hxl:xs.length=n * m:=hown.1;obtain ⟨u',hu'⟩: ∃u',xs[o']? =some u':=⟨_,List.getElem?_eq_getElem (by omega)⟩;have e:=rA hown hu';rw [hu] at e;injection e with e;subst e;have hc4:=rA h4 (j:=o') (u:=u) (by rw [List.getElem?_append_left (by omega)]; exact hu');rw [cell_of_row w4 g' o' yH T _ hb4] at hc4;exact hcell o' u (by rw [List.getElem?_append_left (by omega),List.getElem?_take_of_lt ho]; simpa using hc4)
def bD.Bare (h:bD):Prop:=aD h.op∧aD h.line∧h.nm.size<=maxLen∧h.arg.size<=maxLen∧h.idx= .nil∧aD h.iJ∧aD h.xn∧h.iP.size<=maxLen∧h.dn= .nil
def sN:Sl:=⟨none,0,none,0,none,0,none,0⟩
theorem Cj {h:bD} (hh:h.Bare) {k:Nat} {u:Value} (hk:(bF.f ⟨h,.nil,.nil,sN⟩)[k]? =some u) (sp:Value->Value->Prop) (x:Value):Rel sp (yU k) x u:=by
 obtain ⟨h0,h1,h2,h3,h4,h5,h6,h7,h8⟩:=hh;have hlt:k < 11:=(List.getElem?_eq_some_iff.1 hk).1;have hc:k=0∨k=1∨k=2∨k=3∨k=4∨k=5∨k=6∨k=7∨k=8∨k=9∨k=10:=by omega
 rcases hc with rfl | rfl | rfl | rfl | rfl | rfl | rfl | rfl | rfl | rfl | rfl
 all_goals injection hk with hk;subst hk
 ·exact jr rfl h0
 ·exact jr rfl h1
 ·exact jO rfl h2
 ·exact jO rfl h3
 ·show Rel sp 2 x (.slice none h.idx.len 0); rw [h4]; exact pU rfl
 ·exact jr rfl h5
 ·exact jr rfl h6
 ·exact jO rfl h7
 ·show Rel sp 2 x (.slice none h.dn.len 0); rw [h8]; exact pU rfl
 ·exact pU rfl
 ·exact pU rfl
theorem Eo {op n:Int} {nm:ByteArray} (h0:aD op) (h1:aD n) (h2:nm.size<=maxLen) {k:Nat} {u:Value} (hk:(jf op n nm .nil none 0)[k]? =some u) (sp:Value->Value->Prop) (x:Value):Rel sp (ru k) x u:=by
 have hlt:k < 4:=(List.getElem?_eq_some_iff.1 hk).1;have hc:k=0∨k=1∨k=2∨k=3:=by omega
 rcases hc with rfl | rfl | rfl | rfl
 all_goals injection hk with hk;subst hk
 ·exact jr rfl h0
 ·exact jr rfl h1
 ·exact jO rfl h2
 ·exact pU rfl
theorem OQ (k j:Nat) (hj:j < 4):ru (k * 4 + j)=ru j:=by
 have:(k * 4 + j) % 4=j:=by omega
 have h2:j % 4=j:=by omega
 unfold ru; rw [this,h2]
theorem Il {p:Pr} {aT aZ:Option Addr} {aM aN:Nat} (hp:p.T w lo aT aM aZ aN) {n cap g' cap' b o:Nat} {ao:Option Addr} {h0 h:bD} {cs:Array Value} (hA:DV w w5 lo 59 11 ao n cap g' cap' b o (bF.f ⟨h0,.nil,.nil,sN⟩) (bF.f ⟨h,.nil,.nil,sN⟩)) (hz:h0.Bare) (hh:h.Bare)
 (hb:w.heap[b]? =some (.cells cs 59 (0,0))) (hv:cs[o]? =some (.slice ao n cap)) (ho:o % 11=9∨o % 11=10) (hrow:aX w lo 59 11 ao n cap):
 ∃p':Pr,p'.ds.length=p.ds.length∧p'.ts.length=p.ts.length∧p'.T w5 lo aT aM aZ aN:=by
 have U:Up lo w w5 (fun _ _=>False) (fun u u2=>u= .slice ao n cap∧u2= .slice (some ⟨g',0,none⟩) (n + 1) cap') (fun _ _=>False):=hA.wr.up (pW (fun g cs' T o' u u2 hg hu hw=>by
  rcases hw with ⟨k,h1,rfl,h3⟩ | ⟨rfl,rfl,rfl⟩
  ·rcases hrow with ⟨e,-⟩ | ⟨g2,cs2,e,-,e2,-⟩
   ·rw [e] at h3; cases h3
   ·rw [e] at h3;injection h3 with h3; injection h3 with h3;subst h3;obtain ⟨-,rfl⟩:=jJ hg e2;refine .inr (.inl ⟨rfl,?_⟩);have hk:k < 11:=(by rcases h1 with h1 | h1 <;> exact (List.getElem?_eq_some_iff.1 h1).1);unfold RS;rw [(mY n k hk).1];rcases h1 with h1 | h1
    ·exact Cj hz h1 _ _
    ·exact Cj hh h1 _ _
  ·obtain ⟨rfl,rfl⟩:=jJ hg hb;rw [hv] at hu;injection hu with hu;exact .inr (.inl ⟨rfl,Da (by unfold yU; rcases ho with ho | ho <;> simp [ho]) (.inr ⟨ho,hu.symm,rfl⟩)⟩)))
 refine wC U Io (fun l eF cap2 u2 hs hr hl ih=> ?_) noT hp;obtain ⟨e1,e2⟩:=hs;injection e1 with e1 e3 e4;subst e1 e4;obtain ⟨s0,s1,s2,s3,s4,s5,s6,s7,s8⟩:=hh;have fin: ∀l':aL,l'.len=n->l'.T w5 lo (some ⟨g',0,none⟩) 0-> ∃(l2:aL) (eF:Option Addr) (cap2:Nat),u2= .slice eF l2.len cap2∧aX w5 lo 59 11 eF l2.len cap2∧l2.T w5 lo eF 0:=fun l' h1 h2=>by obtain ⟨l2,k1,k2⟩:=aL.T.snoc (h:=h) (s:=sN) h2 (by rw [h1,Nat.zero_add]; exact hA.leaf) ⟨s0,s1,s2,s3,by rw [s4]; exact Nat.zero_le _,⟨s5,s6,s7,by rw [s8]; exact Nat.zero_le _⟩,Nat.zero_le _,Nat.zero_le _⟩ ⟨by rw [s4]; exact .inl ⟨rfl,rfl,rfl⟩,by rw [s8]; exact .inl ⟨rfl,rfl,rfl⟩,.inl ⟨rfl,rfl,rfl⟩,.inl ⟨rfl,rfl,rfl⟩⟩ (by rw [s4]; trivial) (by rw [s8]; trivial);rw [h1] at k1;exact ⟨l2,_,cap',by rw [k1]; exact e2,by rw [k1]; exact hA.row,k2⟩
 rcases hr with ⟨rfl,h1,-⟩ | ⟨gold,Rb,rfl,hlo,h3,-⟩
 ·exact fin .nil (by rw [<- e3,h1]; rfl) trivial
 ·obtain ⟨l',k1,k2⟩:=ih gold g' 0 hl (fun o u hu _ h2=>⟨u,hA.copy gold rfl o u hu (by rw [e3,Nat.zero_add] at h2; exact h2),Rel.refl _ _ _⟩);exact fin l' (k1.trans e3) k2
theorem OU {p:Pr} {aT aZ:Option Addr} {aM aN:Nat} (hp:p.T w lo aT aM aZ aN) {n cap g' cap' b o:Nat} {ao:Option Addr} {RN z0 op z:Int} {RL nm:ByteArray} {cs:Array Value} (hA:DV w w5 lo 57 4 ao n cap g' cap' b o (jf RN z0 RL .nil none 0) (jf op z nm .nil none 0)) (hz:aD RN∧aD z0∧RL.size<=maxLen) (hh:aD op∧aD z∧nm.size<=maxLen)
 (hb:w.heap[b]? =some (.cells cs 59 (0,0))) (hv:cs[o]? =some (.slice ao n cap)) (ho:o % 11=4) (hrow:aX w lo 57 4 ao n cap):
 ∃p':Pr,p'.ds.length=p.ds.length∧p'.ts.length=p.ts.length∧p'.T w5 lo aT aM aZ aN:=by
 have U:Up lo w w5 (fun u u2=>u= .slice ao n cap∧u2= .slice (some ⟨g',0,none⟩) (n + 1) cap') (fun _ _=>False) (fun _ _=>False):=hA.wr.up (pW (fun g cs' T o' u u2 hg hu hw=>by
  rcases hw with ⟨k,h1,rfl,h3⟩ | ⟨rfl,rfl,rfl⟩
  ·rcases hrow with ⟨e,-⟩ | ⟨g2,cs2,e,-,e2,-⟩
   ·rw [e] at h3; cases h3
   ·rw [e] at h3;injection h3 with h3; injection h3 with h3;subst h3;obtain ⟨-,rfl⟩:=jJ hg e2;refine .inl ⟨rfl,?_⟩;have hk:k < 4:=(by rcases h1 with h1 | h1 <;> exact (List.getElem?_eq_some_iff.1 h1).1);rw [OQ n k hk];rcases h1 with h1 | h1
    ·exact Eo hz.1 hz.2.1 hz.2.2 h1 _ _
    ·exact Eo hh.1 hh.2.1 hh.2.2 h1 _ _
  ·obtain ⟨rfl,rfl⟩:=jJ hg hb;rw [hv] at hu;injection hu with hu;exact .inr (.inl ⟨rfl,Da (by unfold yU; simp [ho]) (.inl ⟨ho,hu.symm,rfl⟩)⟩)))
 refine wC U (fun l eF cap2 u2 hs hr hl=> ?_) Ip noT hp;obtain ⟨e1,e2⟩:=hs;injection e1 with e1 e3 e4;subst e1 e4;have fin: ∀l':aG,l'.len=n->l'.T w5 lo (some ⟨g',0,none⟩) 0-> ∃(l2:aG) (eF:Option Addr) (cap2:Nat),u2= .slice eF l2.len cap2∧aX w5 lo 57 4 eF l2.len cap2∧l2.T w5 lo eF 0:=fun l' h1 h2=>by obtain ⟨l2,k1,k2⟩:=aG.T.snoc h2 (by rw [h1,Nat.zero_add]; exact hA.leaf) ⟨hh.1,hh.2.1,hh.2.2,Nat.zero_le _⟩;rw [h1] at k1;exact ⟨l2,_,cap',by rw [k1]; exact e2,by rw [k1]; exact hA.row,k2⟩
 rcases hr with ⟨rfl,h1,-⟩ | ⟨gold,Rb,rfl,hlo,h3,-⟩
 ·exact fin .nil (by rw [<- e3,h1]; rfl) trivial
 ·obtain ⟨l',k1,k2⟩:=Bv U.e l gold g' 0 hl (fun o u hu _ h2=>⟨u,hA.copy gold rfl o u hu (by rw [e3,Nat.zero_add] at h2; exact h2),Rel.refl _ _ _⟩);exact fin l' (k1.trans e3) k2
theorem OV {p:Pr} {aT aZ:Option Addr} {aM aN:Nat} (hp:p.T w lo aT aM aZ aN) {n cap g' cap' b o:Nat} {ao:Option Addr} {s:ByteArray} {cs:Array Value} (hA:DV w w5 lo 9 1 ao n cap g' cap' b o [.string s] [.string s]) (hs:s.size<=maxLen)
 (hb:w.heap[b]? =some (.cells cs 47 (0,0))) (hv:cs[o]? =some (.slice ao n cap)) (ho:o % 4=2) (hrow:aX w lo 9 1 ao n cap):
 ∃p':Pr,p'.ds.length=p.ds.length∧p'.ts.length=p.ts.length∧p'.T w5 lo aT aM aZ aN:=by
 have U:Up lo w w5 (fun _ _=>False) (fun _ _=>False) (fun u u2=>u= .slice ao n cap∧u2= .slice (some ⟨g',0,none⟩) (n + 1) cap'):=hA.wr.up (pW (fun g cs' T o' u u2 hg hu hw=>by
  rcases hw with ⟨k,h1,rfl,h3⟩ | ⟨rfl,rfl,rfl⟩
  ·rcases hrow with ⟨e,-⟩ | ⟨g2,cs2,e,-,e2,-⟩
   ·rw [e] at h3; cases h3
   ·rw [e] at h3;injection h3 with h3; injection h3 with h3;subst h3;obtain ⟨-,rfl⟩:=jJ hg e2;refine .inr (.inr (.inr (.inr ⟨rfl,?_⟩)));have hk:k < 1:=(by rcases h1 with h1 | h1 <;> exact (List.getElem?_eq_some_iff.1 h1).1);obtain rfl:k=0:=(by omega);have:u2= .string s:=(by rcases h1 with h1 | h1 <;> (injection h1 with h1; exact h1.symm));rw [this];exact jO rfl hs
  ·obtain ⟨rfl,rfl⟩:=jJ hg hb;rw [hv] at hu;injection hu with hu;exact .inr (.inr (.inr (.inl ⟨rfl,Da (by unfold AX; simp [ho]) ⟨ho,hu.symm,rfl⟩⟩)))))
 refine wC U Io Ip (fun l eF cap2 u2 hs2 hr hl=> ?_) hp;obtain ⟨e1,e2⟩:=hs2;injection e1 with e1 e3 e4;subst e1 e4;have fin: ∀l':List ByteArray,l'.length=n->kT w5 l' (some ⟨g',0,none⟩) 0-> ∃(l2:List ByteArray) (eF:Option Addr) (cap2:Nat),u2= .slice eF l2.length cap2∧aX w5 lo 9 1 eF l2.length cap2∧kT w5 l2 eF 0:=fun l' h1 h2=>by
  have k1:(l'++[s]).length=n + 1:=by rw [List.length_append,h1]; rfl
  exact ⟨l'++[s],_,cap',by rw [k1]; exact e2,by rw [k1]; exact hA.row,EU hs h2 (by have:=hA.leaf 0 _ rfl; rw [Nat.mul_one] at this; rw [h1,Nat.zero_add]; simpa using this)⟩
 rcases hr with ⟨rfl,h1,-⟩ | ⟨gold,Rb,rfl,hlo,h3,-⟩
 ·exact fin [] (by rw [<- e3,h1]; rfl) trivial
 ·obtain ⟨l',k1,k2⟩:=FW l gold g' 0 hl (fun o u hu _ h2=>⟨u,hA.copy gold rfl o u hu (by rw [e3,Nat.zero_add] at h2; omega),Rel.refl _ _ _⟩);exact fin l' (k1.trans e3) k2
theorem Lv {T:TypeId} {m n cap g' cap' b o:Nat} {ao:Option Addr} {xs zs:List Value} (hao: ∀a,ao=some a->a=⟨a.block,0,none⟩) (hbz:Below w.heap.size w wz) (hown:w.ownsRow lo T m (.slice ao n cap) n xs) (h4:w4.ownsRow lo T m (.slice (some ⟨g',0,none⟩) (n + 1) cap') (n + 1) (xs++zs)) (hw4:Wr wz w4 (FZ (.slice ao n cap) (n * m) zs)) (hne:g'≠b):
 DV w (w4.setCell ⟨b,o,none⟩ (.slice (some ⟨g',0,none⟩) (n + 1) cap')) lo T m ao n cap g' cap' b o zs zs:=by
 obtain ⟨hB,yH,hb4,q1,q2,q3⟩:=sP h4 (Nat.succ_pos n);have hb5:(w4.setCell ⟨b,o,none⟩ (.slice (some ⟨g',0,none⟩) (n + 1) cap')).heap[g']? =some (.cells yH T (0,0)):=(aW _ _ _ rfl (fun e=>hne e.symm)).trans hb4;have hcell: ∀j u,(xs++zs)[j]? =some u->(w4.setCell ⟨b,o,none⟩ (.slice (some ⟨g',0,none⟩) (n + 1) cap')).cell? ⟨g',j,none⟩=some u:=fun j u hu=>by have:=rA h4 hu;rw [cell_of_row w4 g' j yH T _ hb4] at this;exact au hb5 this
 have hxl:xs.length=n * m:=hown.1;refine ⟨?_,.inr ⟨g',yH,rfl,hB,hb5,q1,q2,q3⟩,fun j u hu=>hcell _ u (by rw [List.getElem?_append_right (by omega),hxl]; simpa using hu),fun gold hg o' u hu ho=> ?_⟩
 ·refine (((Wr.kept hbz.block).trans hw4).trans (Wr.set _ b o _)).wk (fun g o' u hlt h=> ?_);rcases h with (h | ⟨h1,j,h2,h3⟩) | ⟨h1,h2,h3⟩
  ·exact h.elim
  ·refine .inl ⟨j,.inl h2,h3,?_⟩;cases ao with
   | none=>cases h1
   | some a=>have h1:a.block=g:=(by injection h1);rw [<- h1,<- hao a rfl]
  ·exact .inr ⟨h1,h2,h3⟩
 ·subst hg;obtain ⟨u',hu'⟩: ∃u',xs[o']? =some u':=⟨_,List.getElem?_eq_getElem (by omega)⟩;have e:=rA hown hu';rw [hu] at e;injection e with e;subst e;exact hcell o' u (by rw [List.getElem?_append_left (by omega)]; exact hu')
theorem aX.owns {T:TypeId} {m n cap:Nat} {ao:Option Addr} (h:aX w lo T m ao n cap):(∃xs,w.ownsRow lo T m (.slice ao n cap) n xs)∧ ∀a,ao=some a->a=⟨a.block,0,none⟩:=by
 rcases h with ⟨rfl,rfl,rfl⟩ | ⟨g,cs,rfl,h1,h2,h3,h4,h5⟩
 ·exact ⟨⟨[],by simp,.inl ⟨rfl,rfl⟩⟩,fun a e=>by cases e⟩
 ·have hl:n * m<=cs.size:=by rw [h5]; exact Nat.mul_le_mul_right _ h3
  exact ⟨⟨cs.toList.take (n * m),by rw [List.length_take]; simp; omega,.inr ⟨g,cap,cs,rfl,h1,h2,h3,h4,h5,rfl⟩⟩,fun a e=>by injection e with e; subst e; rfl⟩
theorem Ba {p:Pr} {aT aZ:Option Addr} {aM aN:Nat} (hp:p.T w lo aT aM aZ aN) (hb:Below w.heap.size w w2): ∃p':Pr,p'.ds.length=p.ds.length∧p'.ts.length=p.ts.length∧p'.T w2 lo aT aM aZ aN:=
 wC (pE:=fun _ _=>False) (pS:=fun _ _=>False) (pT:=fun _ _=>False) ((Wr.kept hb.block).up (pW (fun g cs' T' o' u u2 hg hu h=>h.elim))) Io Ip noT hp
theorem GR {g:Nat} : ∀ {l:List De} {k:Nat},oL w l (some ⟨g,0,none⟩) k-> ∀i,i < l.length-> ∃d,dA w g ((k + i) * 6) (eX d)
 | d ::r,k,⟨⟨g',e,hc,_⟩,_⟩,0,_=>by injection e with e; injection e with e;subst e;exact ⟨d,hc⟩
 | d ::r,k,⟨_,ht⟩,i + 1,hi=>by obtain ⟨d',h⟩:=GR ht i (by rw [List.length_cons] at hi; omega);exact ⟨d',by rw [show k + (i + 1)=k + 1 + i by omega]; exact h⟩
theorem IV {g:Nat} : ∀ {l:List Th} {k:Nat},lQ w lo l (some ⟨g,0,none⟩) k-> ∀i,i < l.length-> ∃t dw bG bg aU,t ∈ l∧dA w g ((k + i) * 4) (dR.f ⟨t,dw,bG,bg,aU⟩)∧aX w lo 9 1 dw t.cu.length bG∧aX w lo 59 11 bg t.body.len aU∧t.body.T w lo bg 0
 | t ::r,k,⟨⟨g',dw,bG,bg,aU,e,hc,_,h1,h2,_,h3⟩,_⟩,0,_=>by injection e with e; injection e with e;subst e;exact ⟨t,dw,bG,bg,aU,List.mem_cons_self,hc,h1,h2,h3⟩
 | t ::r,k,⟨_,ht⟩,i + 1,hi=>by obtain ⟨t',dw,bG,bg,aU,h0,h⟩:=IV ht i (by rw [List.length_cons] at hi; omega);exact ⟨t',dw,bG,bg,aU,List.mem_cons_of_mem _ h0,by rw [show k + (i + 1)=k + 1 + i by omega]; exact h⟩
theorem IK {g:Nat} : ∀ {l:aL} {k:Nat},l.T w lo (some ⟨g,0,none⟩) k-> ∀i,i < l.len-> ∃x:bF,dA w g ((k + i) * 11) x.f∧aX w lo 57 4 x.s.eT x.h.idx.len x.s.dO∧aX w lo 59 11 x.s.bg x.b.len x.s.aU∧aX w lo 59 11 x.s.fG x.e.len x.s.dZ∧zm x.h + 2 * lX x.b + 2 * lX x.e<=lX l
 | .nil,_,_,i,hi=>by cases hi
 | .cons h b e r,k,⟨⟨g',s,eg,hc,_,⟨r1,_,r3,r4⟩,_⟩,_⟩,0,_=>by injection eg with eg; injection eg with eg;subst eg;exact ⟨⟨h,b,e,s⟩,hc,r1,r3,r4,Nat.le_add_right _ _⟩
 | .cons h b e r,k,⟨_,ht⟩,i + 1,hi=>by obtain ⟨x,h,h1,h2,h3,h4⟩:=IK ht i (by have:i + 1 < r.len + 1:=hi; omega);exact ⟨x,by rw [show k + (i + 1)=k + 1 + i by omega]; exact h,h1,h2,h3,Nat.le_trans h4 (Nat.le_add_left _ _)⟩
theorem ES {g:Nat} : ∀ {l:List Th} {k:Nat},uo w l (some ⟨g,0,none⟩) k-> ∀i,i < l.length-> ∃bg n aU,w.cell? ⟨g,(k + i) * 4 + 3,none⟩=some (.slice bg n aU)∧Ns w bg n
 | t ::r,k,⟨⟨g',bg,aU,e,hc,h⟩,_⟩,0,_=>by injection e with e; injection e with e;subst e;exact ⟨bg,_,aU,hc,h⟩
 | t ::r,k,⟨_,ht⟩,i + 1,hi=>by obtain ⟨bg,n,aU,h⟩:=ES ht i (by rw [List.length_cons] at hi; omega);exact ⟨bg,n,aU,by rw [show k + (i + 1)=k + 1 + i by omega]; exact h⟩
theorem Wr.same {T:TypeId} {g:Nat} {cs:Array Value} (h:Wr w w2 W) (hb:w.heap[g]? =some (.cells cs T (0,0))) (hn: ∀o u,¬ W g o u):w2.heap[g]? =some (.cells cs T (0,0)):=by
 obtain ⟨cs2,h1,h2,h3⟩:=h g cs T hb;have:cs2=cs:=by
  apply Array.ext h2;intro j hj1 hj2;obtain ⟨u2,k1,k2⟩:=h3 j cs[j] (Array.getElem?_eq_getElem hj2);rcases k2 with k2 | k2
  ·rw [Array.getElem?_eq_getElem hj1] at k1;injection k1 with k1;rw [k1,k2]
  ·exact absurd k2 (hn _ _)
 rw [<- this]; exact h1
theorem aX.below {T:TypeId} {m n cap:Nat} {ao:Option Addr} (h:aX w lo T m ao n cap) (hb:Below w.heap.size w w2):aX w2 lo T m ao n cap:=by
 rcases h with h | ⟨g,cs,h1,h2,h3,h4⟩
 ·exact .inl h
 ·exact .inr ⟨g,cs,h1,h2,(hb.block g (Array.getElem?_eq_some_iff.1 h3).1).trans h3,h4⟩
end
end Md
theorem Dg (w:World) {a a':Addr} (v v':Value) (h:a.block≠a'.block):(w.setCell a v).setCell a' v'=(w.setCell a' v').setCell a v:=by
 unfold World.setCell;congr 1;refine Array.ext_getElem? (fun k=> ?_);simp only [Array.getElem?_modify];by_cases h1:a'.block=k
 ·by_cases h2:a.block=k
  ·exact (h (h2.trans h1.symm)).elim
  ·simp [h1,h2]
 ·by_cases h2:a.block=k <;> simp [h1,h2]
theorem uy {b:Nat} {a':Addr} (v':Value) (h:b≠a'.block): ∀(vs:List Value) (o:Nat) (w:World),(w.setCell a' v').setCells b o vs=(w.setCells b o vs).setCell a' v'
 | [],_,_=>rfl
 | v ::vs,o,w=>by simp only [World.setCells];rw [<- Dg w (a:=⟨b,o,none⟩) (a':=a') v v' h];exact uy v' h vs (o + 1) _
def PC (w4:World) (g o:Nat) (vs:List Value) (a:Addr) (v:Value):List Bool->World->Prop
 | [x,y],w'=>w'=(if y then (if x then w4.setCells g o vs else w4).setCell a v else (if x then w4.setCells g o vs else w4))
 | _,_=>False
theorem PC.bits {w4:World} {g o:Nat} {vs:List Value} {a:Addr} {v:Value} : ∀ {c:List Bool} {w':World},PC w4 g o vs a v c w'-> ∃x y,c=[x,y]
 | [x,y],_,_=>⟨x,y,rfl⟩
 | [],_,h=>h.elim
 | [_],_,h=>h.elim
 | _ ::_ ::_ ::_,_,h=>h.elim
theorem PC.skip {w4:World} {g o:Nat} {vs:List Value} {a:Addr} {v:Value} {a1 a2 i:Nat} {c:List Bool} {w':World} (h1:(a1 == i)=false) (h2:(a2 == i)=false) (h:PC w4 g o vs a v c w'):PC w4 g o vs a v (jo [a1,a2] c i) w':=by
 obtain ⟨x,y,rfl⟩:=h.bits;simp only [jo,h1,h2,Bool.or_false]; exact h
theorem PC.elt {w4:World} {g o:Nat} {vs:List Value} {a:Addr} {v:Value} {a1 a2 i:Nat} {y:Bool} {w':World} (hg:g≠a.block) (h1:(a1 == i)=true) (h2:(a2 == i)=false) (h:PC w4 g o vs a v [false,y] w'):PC w4 g o vs a v (jo [a1,a2] [false,y] i) (w'.setCells g o vs):=by
 simp only [jo,h1,h2,Bool.or_false,Bool.or_true];cases y
 ·have h:w'=w4:=h;subst h; rfl
 ·have h:w'=w4.setCell a v:=h;subst h; exact uy v hg vs o w4
theorem PC.Od {w4:World} {g o:Nat} {vs:List Value} {a:Addr} {v:Value} {a1 a2 i:Nat} {x:Bool} {w':World} (h1:(a1 == i)=false) (h2:(a2 == i)=true) (h:PC w4 g o vs a v [x,false] w'):PC w4 g o vs a v (jo [a1,a2] [x,false] i) (w'.setCell a v):=by
 simp only [jo,h1,h2,Bool.or_false,Bool.or_true];cases x
 ·have h:w'=w4:=h;subst h; rfl
 ·have h:w'=w4.setCells g o vs:=h;subst h; rfl
theorem PC.zD {w4:World} {g o:Nat} {vs:List Value} {a:Addr} {v:Value} {y:Bool} {w':World} (hg:g≠a.block) (h:PC w4 g o vs a v [false,y] w'):w'.heap[g]? =w4.heap[g]?:=by
 cases y
 ·have h:w'=w4:=h;rw [h]
 ·have h:w'=w4.setCell a v:=h;rw [h]; exact aW w4 a v rfl (fun e=>hg e.symm)
theorem PC.zI {w4:World} {g o:Nat} {vs:List Value} {a:Addr} {v:Value} {x:Bool} {w':World} (hg:g≠a.block) (h:PC w4 g o vs a v [x,false] w') (hl:a.block < w4.heap.size):w'.heap[a.block]? =w4.heap[a.block]?:=by
 cases x
 ·have h:w'=w4:=h;rw [h]
 ·have h:w'=w4.setCells g o vs:=h;rw [h]; exact (aQ g vs o w4).block _ hl (by simp; exact fun e=>hg e.symm)
def hZ:bD:=⟨0,0,⟨#[]⟩,⟨#[]⟩,.nil,0,0,⟨#[]⟩,.nil⟩
def hs7:bD:=⟨7,0,⟨#[]⟩,⟨#[]⟩,.nil,0,0,⟨#[]⟩,.nil⟩
def hs1:bD:=⟨1,0,⟨#[120]⟩,⟨#[]⟩,.nil,0,0,⟨#[]⟩,.nil⟩
theorem GH:hZ.Bare:=⟨(by unfold aD; omega:aD 0),(by unfold aD; omega:aD 0),by decide,by decide,rfl,(by unfold aD; omega:aD 0),(by unfold aD; omega:aD 0),by decide,rfl⟩
theorem NP:hs7.Bare:=⟨(by unfold aD; omega:aD 7),(by unfold aD; omega:aD 0),by decide,by decide,rfl,(by unfold aD; omega:aD 0),(by unfold aD; omega:aD 0),by decide,rfl⟩
theorem NM:hs1.Bare:=⟨(by unfold aD; omega:aD 1),(by unfold aD; omega:aD 0),by decide,by decide,rfl,(by unfold aD; omega:aD 0),(by unfold aD; omega:aD 0),by decide,rfl⟩
theorem vS {lo g' b o o2:Nat} {w w4:World} {vs:List Value} {v:Value} (h:Below lo w w4) (k1:lo<=g') (k2:lo<=b) (k3:lo<=w.heap.size):Below lo w ((w4.setCells g' o vs).setCell ⟨b,o2,none⟩ v):=
 h.trans ((dL (aQ _ _ _ _) k1 (Nat.le_trans k3 h.size)).trans (dL (dD _ _ _) k2 (Nat.le_trans (Nat.le_trans k3 h.size) (aQ _ _ _ _).size)))
theorem zh: ∀l:aL,l.len<=lX l
 | .nil=>Nat.le_refl _
 | .cons h b e r=>by have:=zh r; show r.len + 1<=zm h + 2 * lX b + 2 * lX e + lX r; unfold zm; omega
theorem H9: ∀l:aG,l.len<=uD l
 | .nil=>Nat.le_refl _
 | .cons op n nm k r=>by have:=H9 r; show r.len + 1<=40 + nm.size + uD k + uD r; omega
namespace Md
section
variable {w w':World} {lo:Nat}
theorem dA.below {g o:Nat} {cs:List Value} (h:dA w g o cs) (hb:Below w.heap.size w w'):dA w' g o cs:=fun j u hu=>(hb.cell (World.block_lt_of_cell? _ _ (h j u hu))).trans (h j u hu)
theorem aG.T.below (hb:Below w.heap.size w w'): ∀ {l:aG} {ao:Option Addr} {k:Nat},l.T w lo ao k->l.T w' lo ao k
 | .nil,_,_,_=>trivial
 | .cons _ _ _ _ _,_,_,⟨⟨g,dY,cap,e,hc,hok,hr,hk⟩,ht⟩=>⟨⟨g,dY,cap,e,hc.below hb,hok,hr.below hb,hk.below hb⟩,ht.below hb⟩
theorem aL.T.below (hb:Below w.heap.size w w'): ∀ {l:aL} {ao:Option Addr} {k:Nat},l.T w lo ao k->l.T w' lo ao k
 | .nil,_,_,_=>trivial
 | .cons _ _ _ _,_,_,⟨⟨g,s,e,hc,hok,⟨r1,r2,r3,r4⟩,h1,h2,h3,h4⟩,ht⟩=>⟨⟨g,s,e,hc.below hb,hok,⟨r1.below hb,r2.below hb,r3.below hb,r4.below hb⟩,h1.below hb,h2.below hb,h3.below hb,h4.below hb⟩,ht.below hb⟩
theorem kT.below (hb:Below w.heap.size w w'): ∀ {l:List ByteArray} {ao:Option Addr} {k:Nat},kT w l ao k->kT w' l ao k
 | [],_,_,_=>trivial
 | _ ::_,_,_,⟨⟨g,e,hc,hs⟩,ht⟩=>⟨⟨g,e,(hb.cell (World.block_lt_of_cell? _ _ hc)).trans hc,hs⟩,kT.below hb ht⟩
theorem oL.below (hb:Below w.heap.size w w'): ∀ {l:List De} {ao:Option Addr} {k:Nat},oL w l ao k->oL w' l ao k
 | [],_,_,_=>trivial
 | _ ::_,_,_,⟨⟨g,e,hc,hs⟩,ht⟩=>⟨⟨g,e,hc.below hb,hs⟩,oL.below hb ht⟩
theorem lQ.below (hb:Below w.heap.size w w'): ∀ {l:List Th} {ao:Option Addr} {k:Nat},lQ w lo l ao k->lQ w' lo l ao k
 | [],_,_,_=>trivial
 | _ ::_,_,_,⟨⟨g,dw,bG,bg,aU,e,hc,hok,r1,r2,h1,h2⟩,ht⟩=>⟨⟨g,dw,bG,bg,aU,e,hc.below hb,hok,r1.below hb,r2.below hb,kT.below hb h1,h2.below hb⟩,lQ.below hb ht⟩
theorem Pr.T.below (hb:Below w.heap.size w w') {p:Pr} {aT aZ:Option Addr} {aM aN:Nat} (h:p.T w lo aT aM aZ aN):p.T w' lo aT aM aZ aN:=
 ⟨h.1.below hb,h.2.1.below hb,oL.below hb h.2.2.1,lQ.below hb h.2.2.2⟩
theorem Ns.below (hb:Below w.heap.size w w') {T:TypeId} {m n cap:Nat} {ao:Option Addr} (hr:aX w lo T m ao n cap) (h:Ns w ao n):Ns w' ao n:=fun g i j a m' c hg hi hj hcell=>by
 rcases hr with ⟨e,-⟩ | ⟨g2,cs,e,-,h2,-⟩
 ·rw [e] at hg; cases hg
 ·rw [e] at hg;injection hg with hg; injection hg with hg;subst hg;exact h g2 i j a m' c e hi hj ((hb.cell (p:=⟨g2,_,none⟩) (Array.getElem?_eq_some_iff.1 h2).1).symm.trans hcell)
theorem uo.below (hb:Below w.heap.size w w'): ∀ {l:List Th} {ao:Option Addr} {k:Nat},lQ w lo l ao k->uo w l ao k->uo w' l ao k
 | [],_,_,_,_=>trivial
 | t ::r,ao,k,⟨⟨g,dw,bG,bg,aU,e,hc,_,_,hr,_,_⟩,ht⟩,⟨⟨g',Sz,Qc,e',hc',hn⟩,hn2⟩=>by rw [e] at e';injection e' with e'; injection e' with e';subst e';have h3:w.cell? ⟨g,k * 4 + 3,none⟩=some (.slice bg t.body.len aU):=hc 3 _ rfl;rw [h3] at hc';injection hc' with hc'; injection hc' with k1 k2 k3;subst k1;exact ⟨⟨g,bg,aU,e,(hb.cell (p:=⟨g,_,none⟩) (World.block_lt_of_cell? _ _ h3)).trans h3,hn.below hb hr⟩,uo.below hb ht hn2⟩
end
end Md
end Go.Proofs.YtkajcclnlehkmaaGreatDoor
