/- Objects whose rows are owned, in a box of their own: one cell changed, one row put anew. No walk in sight. And what hangs on it. -/
import Derived.Test.YtcjgfgkllmldpaaGreatDoorGCC
import Derived.Test.YtcjgfgkllmldpaaGreatDoorGR6
set_option linter.unusedSimpArgs false
set_option linter.unusedVariables false
set_option maxHeartbeats 40000000
set_option maxRecDepth 1000000
namespace Go.Proofs.YtcjgfgkllmldpaaGreatDoor
open Go.RowKit
open Md
structure WsJ (w:World) (B bw:Nat) (s:Vs) (W:Wo):Prop where
 blk:w.heap[bw]? =some (.cells #[s.v0,s.v1,s.v2,s.v3,s.v4,s.v5] 29 (0,0))
 row:Rows w B (iB s W)
 far: ∀r∈iB s W,r.v.ownBlock≠some bw
section
variable {w w' w4:World} {B bw:Nat} {s s':Vs} {W W':Wo} {pre post:List Rw} {r r':Rw}
theorem aM6 (vX: ∀q∈pre++r::post,q.v.ownBlock≠some bw) (hr:r'.v.ownBlock≠some bw): ∀q∈pre++r'::post,q.v.ownBlock≠some bw:=λq hq=>by
 rcases List.mem_append.1 hq with hq|hq
 ·exact vX q (List.mem_append_left _ hq)
 ·rcases List.mem_cons.1 hq with rfl|hq
  ·exact hr
  ·exact vX q (List.mem_append_right _ (aY _ hq))
theorem WsJ.put {j:Nat} (h:WsJ w B bw s W) (hg:w.grownBy w4 r.v.ownBlock) (e1:iB s W=pre++r::post) (e2:iB s' W'=pre++r'::post) (hr:r'.Ok w4 B) (ho:pI w r.v r'.v)
 (hc:(#[s.v0,s.v1,s.v2,s.v3,s.v4,s.v5]:Array Value).setIfInBounds j r'.v= #[s'.v0,s'.v1,s'.v2,s'.v3,s'.v4,s'.v5]):WsJ (w4.setCell ⟨bw,j,none⟩ r'.v) B bw s' W':=by
 have hrow:=h.row;have vX:=h.far;rw[e1]at hrow vX;have h4:=hrow.put hg hr ho;have hlt:=(aI h.blk);have hrf:=vX r ahh;have hb:w4.heap[bw]? =some (.cells #[s.v0,s.v1,s.v2,s.v3,s.v4,s.v5] 29 (0,0)):=(hg.block _ hlt (λe=>hrf e.symm)).trans h.blk;have hf:=aM6 vX (r':=r') (by
  rcases ho with e|⟨g,e,hge⟩
  ·rw[e];exact hrf
  ·rw[e];intro k;injection k with k;omega)
 rw[<- e2]at h4 hf;exact⟨oW hb _ hc,⟨λq hq=>(h4.own q hq).kept (bQ w4 ⟨bw,j,none⟩ r'.v) (.inr (hf q hq)),h4.ap⟩,hf⟩
end
structure QI (W:Wo):Prop where
 cs: ∀c∈W.cs,c.nm.size<=maxLen∧cO c.sz
 ls: ∀c∈W.ls,c.nm.size<=maxLen
 ns: ∀c∈W.ns,c.nm.size<=maxLen
 fs: ∀x∈W.fs,x.size<=maxLen
 ts: ∀x∈W.ts,x.size<=maxLen
theorem PG {α:Type} {P:α->Prop} {l:List α} {k:Nat} {y:α} (h: ∀x∈l,P x) (hy:P y): ∀x∈l.set k y,P x:=λx hx=>by
 rcases List.mem_or_eq_of_mem_set hx with hx|rfl
 ·exact h x hx
 ·exact hy
structure aZ2 (W:Wo):Prop where
 cs:0<W.cs.length∧W.cs.length<=20
 ls:0<W.ls.length
 ns:0<W.ns.length
 fs:0<W.fs.length
 ts:0<W.ts.length∧W.ts.length<=4
 ss:0<W.ss.length
theorem P7 {α:Type} {f:α->List Value} {m:Nat} {w:World} {B:Nat} {T:TypeId} {g n cap k:Nat} {xs:List α} {x:α} (hf: ∀x,(f x).length=m) (h:w.ownsRow B T m (.slice (some ⟨g,0,none⟩) n cap) n (xs.flatMap f)) (hk:xs[k]? =some x): ∀(j:Nat) (u:Value),(f x)[j]? =some u->w.cell? ⟨g,k*m+j,none⟩=some u∧w.frozen? ⟨g,k*m+j,none⟩=false:=λj u hu=>by
 have hF:=flat_get hf xs k x j u hk hu;have hlt:=(List.getElem?_eq_some_iff.1 hF).1;exact⟨(h.cellAt _ (by rw[<- h.1];exact hlt)).trans hF,h.frozenAt _⟩
theorem aP4 {i:Int} {n:Nat} : ∀ {l:bf},0<l.len->0<(tZ i l n).length
 | .nil,h=>absurd h ahg
 | .cons _ _ _ _,_=>by rw[tZ];simp
theorem RF: ∀(l:List Th) (W:Wo) (i:Nat),W.ss.length<=(zH W i l).ss.length
 | [],_,_=>aD _
 |t::r,W,i=>by rw[zH];exact aO ahh (RF r _ _)
def w9:Wo:=ow.foldl lZ pq
theorem bq8:(∀c∈w9.cs,c.nm.size<=12∧0<=c.sz∧c.sz<=4)∧(∀c∈w9.ls,c.nm.size<=12)∧(∀c∈w9.ns,c.nm.size<=12)∧(∀x∈w9.fs,x.size<=12)∧(0<w9.cs.length∧w9.cs.length<=20)∧0<w9.ls.length∧0<w9.ns.length∧0<w9.fs.length:=ahs
theorem aN9 {B gD gT aH:Nat} {W:World} {eO:List fZ} (h:Cu B W gD gT aH eO):QI (tq ⟨ow,eO.map (·.t)⟩)∧aZ2 (tq ⟨ow,eO.map (·.t)⟩):=by
 have e:tq ⟨ow,eO.map (·.t)⟩=zH w9 0 (eO.map (·.t)):=by unfold tq;rw[h.zero];rfl
 rw[e];obtain⟨c1,c2,c3,c4⟩:=VO (eO.map (·.t)) w9 0;have ht:=LG (eO.map (·.t)) w9 0;have e4:w9.ts=[]:=rfl;rw[e4,List.nil_append,List.map_map]at ht;obtain⟨k1,k2,k3,k4,n1,n2,n3,n4⟩:=bq8;have hm:12<=maxLen:=afa
 have hf:=h.few;have hok:=h.KF;refine⟨⟨λc hc=> ?_,λc hc=> ?_,λc hc=> ?_,λx hx=> ?_,λx hx=> ?_⟩,by rw[c1];exact n1,by rw[c2];exact n2,by rw[c3];exact n3,by rw[c4];exact n4,by rw[ht,fM];exact⟨ahf,hf.2⟩,?_⟩
 ·rw[c1]at hc;have:=k1 c hc;exact⟨aO this.1 hm,afM⟩
 ·rw[c2]at hc;exact aO (k2 c hc) hm
 ·rw[c3]at hc;exact aO (k3 c hc) hm
 ·rw[c4]at hx;exact aO (k4 x hx) hm
 ·rw[ht]at hx;obtain⟨t,ht',rfl⟩:=List.mem_map.1 hx;exact(hok t ht').1.1.1
 ·obtain⟨t,r,rfl⟩: ∃t r,eO=t::r:=by
   cases eO with
   |nil=>simp at hf
   |cons t r=>exact⟨t,r,rfl⟩
  rw[List.map_cons,zH];refine aV ?_ (RF _ _ _);have:=aP4 (i:=(0:Nat)) (n:=0) (hok t aW).2.2.1.2;simp only[au];omega
theorem bL3 (s:tK): ∀u∈sZ s,u.oneCell'=true:=abA
theorem bg4:(Tryz.prog.info? 94).map (λi=>(i.zero,i.size,i.bytes))=some (some (.agg #[.int .i64 0,.int .i64 0,.int .i64 0]),3,24):=ahe
structure Xg (B:Nat) (w:World) (v:Value) (xs:List tK) (w2:World) (v2:Value):Prop where
 r:w2.ownsRow B 94 3 v2 xs.length (xs.flatMap sZ)
 g:w.grownBy w2 v.ownBlock
 o:pI w v v2
 b:B<=w2.heap.size
theorem Xg.call {B:Nat} {w w2 w':World} {v v2 v':Value} {xs ys:List tK} (h:Xg B w v xs w2 v2) (hr:w'.ownsRow B 94 3 v' ys.length (ys.flatMap sZ)) (hg:w2.grownBy w' v2.ownBlock) (ho:pI w2 v2 v'):Xg B w v ys w' v':=
 ⟨hr,N7 h.g h.o hg,h.o.trans ho h.g.size,aO h.b hg.size⟩
def Gm (l:bf):Prop:= ∀(w:World) (B:Nat) (v:Value) (xs:List tK) (i:Int) (n:Nat) (ao:Option Addr) (cap:Nat),w.ownsRow B 94 3 v xs.length (xs.flatMap sZ)->B<=w.heap.size->l.len<=maxLen->l.At w B ao 0->xs.length+dB l<=1000000000000->n+dB l<=1000000000000->
 Calls Tryz.prog 52 #[v,.int .i64 i,.int .i64 n,.slice ao l.len cap] w λe w'=> ∃v',e= .returned (.tuple #[v',.int .i64 ((n+dB l:Nat):Int)])∧Xg B w v (xs++tZ i l n) w' v'
theorem Nq (l:bf) (hall:l.All λ_ b e=>Gm b∧Gm e):Gm l:=by
 intro w B v xs i n ao cap hrow hBw hl hat hlen hn;generalize hres:xs++tZ i l n=res;have HR:=ah hres;have HRW:=ah hrow;have HAT:=ah hat;have HL:=ah (ay hlen hn);have lG:=ah hall;have mZ:=ah hBw;obtain⟨i0,hi,hz0,hz1,hz2⟩:=infoP bg4;have fF:=ah (ay hi (ay hz0 (ay hz1 hz2)));unfold maxLen at hl;clear hres hrow hat hlen hn hall hBw hi hz0 hz1 hz2;go_enter Tryz.func52,Tryz.ntmps52;go_wp2_with fail;go_loopw [0,2,10] (λv0 nn ix wr=> ∃(k:Nat) (R:bf) (ys:List tK) (m:Nat),ix= .int .i64 k∧nn= .int .i64 m∧k+R.len=l.len∧res=ys++tZ i R m∧m+dB R=n+dB l∧ys.length+dB R=xs.length+dB l∧(R.All λ_ b e=>Gm b∧Gm e)∧R.At wr B ao k∧Xg B w v ys wr v0) (λ_ _ ix _=>l.len -(intOf ix).toNat)
 case atStart=>exact⟨0,l,xs,n,rfl,rfl,ahh,HR.o.symm,rfl,rfl,lG.o,HAT.o,HRW.o,Dm _,.inl rfl,mZ.o⟩
 case round=>
  obtain⟨k,R,ys,m,rfl,rfl,hlen,heq,hm,hys,hall,hat,hg⟩:=hrel;have HE:=ah heq;have Qt:=ah (ay hm hys);have HG:=ah hg;clear heq hm hys hg;cases R with
  |nil=>
   obtain rfl:k=l.len:=afk
   have HX:aj (res=ys∧m=n+dB l):=ah ⟨by rw[HE.o];simp[tZ],by have:=Qt.o.1;simpa[dB]using this⟩;clear hat hall;go_wp2_with fail
   go_ret2
   exact⟨u0,by rw[HX.o.2];rfl,by rw[HX.o.1];exact HG.o⟩
  |cons h e0 e1 R=>
   obtain⟨bl,off,sl,rfl,hbl,hin,hcs,hrest⟩:=Fv hat;have hkl:k<l.len:=acB
   obtain⟨⟨hs0,hs1⟩,rJ⟩:=hall;have rF:=ah (ay hs0 hs1);have pz:=ah rJ;have Hg:=ah hin;have kg:=ah hrest;have iZ:=ah hbl;have x1:=hcs 1 _ rfl;have x9:=hcs 9 _ rfl;have x10:=hcs 10 _ rfl;simp only[stA,List.getElem_toArray,List.getElem_cons_zero,List.getElem_cons_succ]at x1 x9 x10;have JD:=ah (ay x9 x10);have xu:aj (m+(1+dB e0+dB e1+dB R)=n+dB l∧ys.length+(1+dB e0+dB e1+dB R)=xs.length+dB l):=ah (by have:=Qt.o;simp only[dB]at this;exact this);have hwm:IntKind.i64.wrap ((m:Int)+1)=((m+1:Nat):Int):=by have h1:=xu.o;have h2:=HL.o;rw[IntWalk.i64_in _ ahf];omega
   clear hat hin hcs hrest hs0 hs1 rJ x9 x10;have iJ:aj (Below wr.heap.size wr (wr.alloc (.cells (sZ ⟨i,m,h.line⟩).toArray 94))):=ah (aA _ _);have iV:=ah (gG (heap_alloc_new wr (.cells (sZ ⟨i,m,h.line⟩).toArray 94)));have ng:=ah (nQ HG.o.r iJ.o);obtain⟨hi,hz0,hz1,hz2⟩:=fF.o;have hk1:ys.length+1<=maxLen:=by have h1:=xu.o;have h2:=HL.o;unfold maxLen;omega
   have nk:(ys.length+1)*24<=140737488355328:=adp
   have hbs:B<=wr.heap.size+1:=Nat.le_succ_of_le HG.o.b;go_wp2_with (at_builtin;refine wpList_append_lies _ rfl _ _ 27 rfl B 94 i0 _ 3 24 Tryz.underlying27 hi hz0 hz1 hz2 rfl ahg _ _ _ rfl ng.o ⟨wr.heap.size,0,none⟩ 1 1 (sZ ⟨i,m,h.line⟩) rfl rfl iV.o (bL3 _) ahg hk1 nk afe _ rfl ?_);intro g' cap' w3 hown hgr hmv hlt3;clear hi hz0 hz1 hz2 hk1 nk hbs x1;have S1:aj (Xg B w v (ys++[⟨i,m,h.line⟩]) w3 (.slice (some ⟨g',0,none⟩) (ys.length+1) cap')):=ah (HG.o.call aan (jD (yR iJ.o) hgr) (by
    rcases hmv with e|e
    ·exact .inl ahB
    ·exact .inr ⟨g',rfl,aeh⟩))
   have pO:aj (Below B wr w3):=ah (zw HG.o.r HG.o.b (jD (yR iJ.o) hgr));clear hown hgr hmv hlt3 ng iV iJ;have x9:=(pO.o.cell (p:=⟨bl,off+k*11+9,none⟩) iZ.o).trans JD.o.1;go_wp2_with fail;refine(rF.o.1 w3 B _ (ys++[⟨i,m,h.line⟩]) i (m+1) sl.dR sl.dA S1.o.r S1.o.b Hg.o.1.2.2.2.2.2.2.1 (Hg.o.2.2.2.1.below pO.o) abF adp).mono ?_;rintro e' w4 ⟨v4,rfl,hs4⟩;have S2:=ah (S1.o.call hs4.r hs4.g hs4.o);have Hl:aj (Below B wr w4):=ah (pO.o.trans (zw S1.o.r S1.o.b hs4.g));clear hs4 x9 hwm;have x10:=(Hl.o.cell (p:=⟨bl,off+k*11+10,none⟩) iZ.o).trans JD.o.2;go_wp2_with fail;have h5:(tZ i e0 (m+1)).length=dB e0:=aij
   refine(rF.o.2 w4 B _ (ys++[⟨i,m,h.line⟩]++tZ i e0 (m+1)) i (m+1+dB e0) sl.jc sl.gZ S2.o.r S2.o.b Hg.o.1.2.2.2.2.2.2.2 (Hg.o.2.2.2.2.below Hl.o) abF adp).mono ?_;rintro e' w5 ⟨v5,rfl,hs5⟩;have S3:=ah (S2.o.call hs5.r hs5.g hs5.o);have ar5:aj (Below B wr w5):=ah (Hl.o.trans (zw S2.o.r S2.o.b hs5.g));clear hs5 x10;go_wp2_with fail;go_roundw
   case rel=>
    refine⟨k+1,R,ys++[⟨i,m,h.line⟩]++tZ i e0 (m+1)++tZ i e1 (m+1+dB e0),m+1+dB e0+dB e1,ahj,rfl,acB,?_,?_,?_,pz.o,kg.o.below ar5.o,S3.o⟩
    ·rw[HE.o,tZ];simp
    ·have h1:=xu.o;omega
    ·have h1:=xu.o;have h5:(tZ i e0 (m+1)).length=dB e0:=aij;have h6:(tZ i e1 (m+1+dB e0)).length=dB e1:=aij;simp only[au,aB,aP];omega
   case measure=>simp[intOf];omega
theorem am6 (l:bf):Gm l:=Nq l (bf.qG (λ_ b e hb he=>⟨Nq b hb,Nq e he⟩) l)
namespace Md
theorem I8 (d:De): ∀(n k:Nat),(sQ d n k).length=n
 |0,_=>rfl
 |n+1,k=>by rw[sQ,aB,I8 d n]
theorem JW (d:De): ∀(n k:Nat),sQ d (n+1) k=sQ d n k++[⟨d.nm,((k+n:Nat):Int),d.size,d.kind==2,d.init⟩]
 |0,k=>rfl
 |n+1,k=>by rw[sQ,JW d n (k+1),sQ,show k+1+n=k+(n+1) by omega];rfl
theorem ae1 {d:De} (h0:0<=d.size) (h4:d.size<=4):(JX d).length<=4:=by
 unfold JX;rw[I8];omega
theorem aQ5 (W:Wo) (d:De) (h4:(JX d).length<=4):(lZ W d).cs.length<=W.cs.length+4∧(lZ W d).ls.length<=W.ls.length+1∧(lZ W d).ns.length<=W.ns.length+1∧(lZ W d).fs.length<=W.fs.length+1∧(lZ W d).ts=W.ts∧(lZ W d).ss=W.ss:=by
 unfold lZ
 repeat' split
 all_goals simp only[au,aB,aP]
 all_goals simp only[and_true,true_and]
 all_goals omega
end Md
structure JG (p:Pr) (w:World) (B bw:Nat) (aQ:Option Addr) (g0:Nat) (wr:World) (s:Vs) (W:Wo) (k:Nat) (R:List De):Prop where
 len:k+R.length=p.ds.length
 eq:p.ds.foldl lZ pq=R.foldl lZ W
 ws:nU wr B bw s W
 few:W.cs.length<=4*k∧W.ls.length<=k∧W.ns.length<=k∧W.fs.length<=k∧W.ts=[]∧W.ss=[]
 at':jG wr g0 R aQ k
 Aa:Below g0 w wr
 ok: ∀d∈R,jF d=true∧d.size<=4
 g0:g0<=B
theorem am3 {d:De} (h:jF d=true):0<=d.size:=by
 unfold jF at h;simp only[aM,decide_eq_true_eq]at h;exact h.1.2.1
theorem JG.next {p:Pr} {w wr w6:World} {B bw g0 k:Nat} {aQ:Option Addr} {s s':Vs} {W:Wo} {d:De} {R:List De} (h:JG p w B bw aQ g0 wr s W k (d::R)) (hw:nU w6 B bw s' (lZ W d)) (hb:Below g0 wr w6):JG p w B bw aQ g0 w6 s' (lZ W d) (k+1) R:=by
 obtain⟨f1,f2,f3,f4,f6,f7⟩:=h.few;obtain⟨o1,o2⟩:=h.ok d aW;obtain⟨e1,e2,e3,e4,e5,e6⟩:=aQ5 W d (ae1 (am3 o1) o2);exact {len:=aea,eq:=h.eq,ws:=hw,few:=⟨ahf,ahf,ahf,ahf,e5.trans f6,e6.trans f7⟩,at':=h.at'.2.below hb,Aa:=h.Aa.trans hb,ok:=λx hx=>h.ok x (aY _ hx),g0:=h.g0}
theorem nU.bH4 {w w5:World} {B bw j:Nat} {s s':Vs} {W W':Wo} {pre post:List Rw} {r:Rw} {v':Value} {n':Nat} {xs':List Value} (h:nU w B bw s W) (e1:iB s W=pre++r::post) (hg:w.grownBy w5 r.v.ownBlock) (ho:pI w r.v v')
 (hown:w5.ownsRow B r.T r.m v' n' xs') (e2:iB s' W'=pre++⟨r.T,r.m,v',n',xs'⟩::post)
 (hc:(#[s.v0,s.v1,s.v2,s.v3,s.v4,s.v5]:Array Value).setIfInBounds j v'= #[s'.v0,s'.v1,s'.v2,s'.v3,s'.v4,s'.v5]):
 nU (w5.setCell ⟨bw,j,none⟩ v') B bw s' W'∧(∀g0,g0<=bw->Below g0 w (w5.setCell ⟨bw,j,none⟩ v'))∧w5.heap[bw]? =w.heap[bw]?:=by
 have hrow:r.Ok w B:=h.row.own r ail;have hlt:=h.lt;have hsz:=h.sz;have hne:r.v.ownBlock≠some bw:=λe=>by have:=(hrow.lt _ e).1;omega
 have hbk:w5.heap[bw]? =w.heap[bw]?:=hg.block _ (aI h.blk) (λe=>hne e.symm);refine⟨h.grow (r':=⟨r.T,r.m,v',n',xs'⟩) hg e1 e2 hown ho hc,λg0 h0=> ?_,hbk⟩;have h5:Below g0 w w5:=⟨hg.os,hg.tape,hg.output,hg.size,λk hk=>hg.block k ahf (λe=>ads)⟩;exact h5.trans (cB (bQ _ _ _) h0 (aO ahf hg.size))
def P1 (w4:World) (a:Addr) (v:Value):List Bool->World->Prop
 | [x],w'=>w'=(if x then w4.setCell a v else w4)
 |_,_=>False
theorem P1.bits {w4:World} {a:Addr} {v:Value} : ∀ {c:List Bool} {w':World},P1 w4 a v c w'->∃x,c=[x]
 | [x],_,_=>⟨x,rfl⟩
 | [],_,h=>h.elim
 |_::_::_,_,h=>h.elim
theorem P1.skip {w4:World} {a:Addr} {v:Value} {a1 i:Nat} {c:List Bool} {w':World} (h1:(a1==i)=false) (h:P1 w4 a v c w'):P1 w4 a v (jA [a1] c i) w':=by
 obtain⟨x,rfl⟩:=h.bits;simp only[jA,h1,Bool.or_false];exact h
theorem P1.st {w4:World} {a:Addr} {v:Value} {a1 i:Nat} {w':World} (h1:(a1==i)=true) (h:P1 w4 a v [false] w'):P1 w4 a v (jA [a1] [false] i) (w'.setCell a v):=by
 simp only[jA,h1,Bool.or_true];have h:w'=w4:=h;subst h;rfl
def aG1 (w w':World) (W:Wo) (s:jr):Prop:= ∃B,w.heap.size<=B∧Rows w' B (iB (Jg W s) W)
theorem al5 (w w':World):aG1 w w' pq ⟨none,none,none,none,none,none,0,0,0,0,0,0⟩:=
 ⟨_,aD _,λr hr=>by simp only[iB,List.mem_cons,List.not_mem_nil,or_false]at hr;rcases hr with rfl|rfl|rfl|rfl|rfl|rfl <;> exact World.ownsRow_nil _ _ _ _,by simp[iB,Jg,Apart,Value.ownBlock]⟩
theorem ZH (p:Pr) (w:World) (aQ aR:Option Addr) (aJ aH:Nat) (hp:p.At w aQ aR) (Ep:p.ds.length<=aJ) (GJ:p.ts.length<=aH) (oz:Bg p.ts<=1000000000000):
 Calls Tryz.prog 17 #[.agg #[.slice aQ p.ds.length aJ,.slice aR p.ts.length aH]] w λe w'=> ∃s,e= .returned (mQ (tq p) s)∧gq w' w'.heap.size (tq p) s∧Below w.heap.size w w'∧RU w.heap.size s∧aG1 w w' (tq p) s:=by
 have HP:=ah hp;have NC:=ah oz;have Cj:=ah (ay Ep GJ);have HL:=ah (ay hp.1 hp.2.1);clear hp Ep GJ oz;go_enter Tryz.func17,Tryz.ntmps17;go_upto_region 2 with fail;generalize hW:World.alloc (World.alloc (World.alloc w _) _) _=w1;obtain⟨bp,hbp⟩: ∃n,w.heap.size=n:=⟨_,rfl⟩;have HB1:aj (Below w.heap.size w w1):=ah aaG;have jX:aj (w1.heap.size=bp+3):=ah (by rw[<- hW,<- hbp];simp);have BG:aj (w1.heap[bp]? =some (.cells #[.slice aQ p.ds.length aJ,.slice aR p.ts.length aH] 52 (0,0))):=ah aag;have lU:aj (w1.heap[bp+1]? =some (.cells #[.slice none 0 0,.slice none 0 0,.slice none 0 0,.slice none 0 0,.slice none 0 0,.slice none 0 0] 29 (0,0))):=ah χ;have NZ:aj (w1.heap[bp+2]? =some (.cells #[.slice none 0 0,.slice none 0 0,.slice none 0 0,.slice none 0 0,.slice none 0 0,.slice none 0 0] 29 (0,0))):=ah ν;have zN:=ah hbp;rw[hbp];rw[show bp+1+1=bp+2 from rfl];clear hW hbp;obtain⟨y0,y1⟩:=uK BG.o;go_wp2_with fail;refine(AZ p w1 aQ aR aJ aH (HP.o.same HB1.o) Cj.o.1 Cj.o.2).mono ?_;rintro e w3 ⟨rfl,hb2⟩;have HB2:=ah hb2;clear hb2 y0 y1;have yM:=jq HB2.o BG;have uj:=jq HB2.o lU;have YI:=jq HB2.o NZ;clear BG lU NZ;have EU:aj (tq p=if(jL p).1==0 then jJ p else pq):=ah rfl;have xD:=ah (wL (p:=p));have HWF:=ah (aK7 (p:=p));generalize (jL p).1=er at *;generalize (jL p).2=ln at *;obtain⟨y0,y1⟩:=uK yM.o;cases her:(er==0)
 ·have hne:(er != 0)=true:=by rw[bne,her];rfl
  have qD:aj (tq p=pq):=ah (EU.o.trans (by rw[her];rfl));obtain⟨c0,c1,c2,c3,c4,c5⟩:=zn YI.o;obtain⟨r0,r1,r2,r3,r4,r5⟩:=zn uj.o;have f0:=λj=>bG (o:=j) uj.o;go_wp2_with fail;show bodyPost _ _ _ _ _ (World.setCells w3 (bp+1) 0 [.slice none 0 0,.slice none 0 0,.slice none 0 0,.slice none 0 0,.slice none 0 0,.slice none 0 0]);have Gh:=ah (mP (vs:=[.slice none 0 0,.slice none 0 0,.slice none 0 0,.slice none 0 0,.slice none 0 0,.slice none 0 0]) uj.o rfl);have EO:aj (Below w.heap.size w (World.setCells w3 (bp+1) 0 [.slice none 0 0,.slice none 0 0,.slice none 0 0,.slice none 0 0,.slice none 0 0,.slice none 0 0])):=ah (HB1.o.trans ((HB2.o.mono HB1.o.size).trans (cB (dZ _ _ _ _) afo adJ)));generalize CK:World.setCells w3 _ _ _=wz at *;obtain⟨o0,o1,o2,o3,o4,o5⟩:=zn Gh.o;clear CK;exact bodyPost_ret (v:=mQ pq ⟨none,none,none,none,none,none,0,0,0,0,0,0⟩) (by simp[results,Tryz.results17,go_sem,mQ,pq,o0,o1,o2,o3,o4,o5]) rfl ⟨⟨none,none,none,none,none,none,0,0,0,0,0,0⟩,by rw[qD.o],aah,EO.o,⟨(λb e=>aht),(λb e=>aht),(λb e=>aht),(λb e=>aht),(λb e=>aht),(λb e=>aht)⟩,by rw[qD.o];exact al5 _ _⟩
 ·have hne:(er != 0)=false:=by rw[bne,her];rfl
  have h0:er=0:=by simpa using her
  have HWP:aj (tq p=zH (p.ds.foldl lZ pq) 0 p.ts):=ah (EU.o.trans (by rw[her,if_pos rfl];rfl));have bG6:aj (KU p.ds pq (λ_=>0)=p.ds.foldl lZ pq):=ah (HWF.o h0);have WH:=ah (xD.o h0);have Dv:aj (p.ds.length<=20∧p.ts.length<=4∧∀d∈p.ds,jF d=true∧d.size<=4):=ah Θ;clear EU xD HWF;have hdl:p.ds.length<=20:=Dv.o.1;have htl:p.ts.length<=4:=Dv.o.2.1;have kH:aj (bp+3<=w3.heap.size):=ah ac3;have AX:=ah yM.o;have yN:=ah uj.o;have FC:=ah HB2.o;clear y0 y1 yM uj HB2;have HST:aj (JG p w3 w3.heap.size (bp+2) aQ (bp+2) w3 ⟨.slice none 0 0,.slice none 0 0,.slice none 0 0,.slice none 0 0,.slice none 0 0,.slice none 0 0⟩ pq 0 p.ds):=ah
   {len:=ahh,eq:=rfl
    ws:=⟨YI.o,⟨λr hr=>by
     simp only[iB,List.mem_cons,List.not_mem_nil,or_false]at hr;rcases hr with rfl|rfl|rfl|rfl|rfl|rfl <;> exact World.ownsRow_nil _ _ _ _,by
     simp[iB,Apart,Value.ownBlock]⟩,afv,aD _⟩
    few:=⟨ahT,ahT,ahT,ahT,rfl,rfl⟩
    at':=(HP.o.2.2.1.below (HB1.o.trans (FC.o.mono HB1.o.size))).mono afo
    Aa:=ak _ _
    ok:=Dv.o.2.2
    g0:=afv}
  go_wp2_with fail;go_loopw [6,7,8] (λi _ _ wr=> ∃(k:Nat) (R:List De) (s:Vs) (W:Wo),i= .int .i64 k∧JG p w3 w3.heap.size (bp+2) aQ (bp+2) wr s W k R) (λi _ _ _=>p.ds.length -(intOf i).toNat)
  case atStart=>exact⟨0,p.ds,_,_,rfl,HST.o⟩
  case round=>
   obtain⟨k,R,s,W,rfl,hR⟩:=hrel;have HR:=ah hR;have hlen:=hR.len;have MN:=ah ((hR.Aa.block bp ahf).trans AX.o);clear hR HST;have y0:=aG (j:=0) MN.o rfl;cases R with
   |nil=>
    obtain rfl:k=p.ds.length:=afb;have Jr:aj (tq p=zH W 0 p.ts):=ah (by rw[HWP.o,HR.o.eq];rfl);have HW0:aj (W.ts=[]∧W.ss=[]):=ah ⟨HR.o.few.2.2.2.2.1,HR.o.few.2.2.2.2.2⟩;have IV:=ah HR.o.Aa;have tH:aj (iP wr (bp+2) p.ts aR 0):=ah (((HP.o.2.2.2.below (HB1.o.trans (FC.o.mono HB1.o.size))).mono afo).below IV.o);have HTO:=ah (GU HP.o.2.2.2);have Gf:aj ((∀c∈W.cs,cO c.sz)∧(∀x∈W.fs,x.size<=maxLen)):=ah (by have:=VN p.ds pq (λ_=>0) (PS HP.o.2.2.1) (λc hc=>by cases hc) (λx hx=>ahQ);rw[bG6.o,HR.o.eq]at this;exact this);have NU:aj (W.cs.length<=80∧W.ls.length<=20∧W.ns.length<=20∧W.fs.length<=20):=ah afm;have jQ:=ah HR.o.ws;have HG0:aj (bp+2<=w3.heap.size):=ah HR.o.g0;clear HR;go_wp2_with fail;clear y0;go_loopw [9] (λi wq=> ∃(k:Nat) (R:List Th) (s:Vs) (W':Wo),i= .int .i64 k∧k+R.length=p.ts.length∧tq p=zH W' k R∧nU wq w3.heap.size (bp+2) s W'∧iP wq (bp+2) R aR k∧Below (bp+2) w3 wq∧W'.ts.length=k∧W'.ss.length+Bg R<=Bg p.ts∧(W'.cs=W.cs∧W'.ls=W.ls∧W'.ns=W.ns∧W'.fs=W.fs)) (λi _=>p.ts.length -(intOf i).toNat)
    case atStart=>exact⟨0,p.ts,s,W,rfl,ahh,Jr.o,jQ.o,tH.o,IV.o,by rw[HW0.o.1];rfl,by rw[HW0.o.2];simp,rfl,rfl,rfl,rfl⟩
    case round=>
     obtain⟨k,R,s,W',rfl,oK,heq,hws,hth,hbel,hts,hss,hsame⟩:=hrel;have HE:=ah heq;have HS:=ah hws;have HB:=ah hbel;have lH:=ah (ay hts (ay hss hsame));clear heq hws hbel hts hss hsame tH jQ;have as9:=ah ((HB.o.block bp ahf).trans AX.o);have y1:=aG (j:=1) as9.o rfl;cases R with
     |nil=>have LU:aj (tq p=W'):=ah HE.o;have sD:=ah ((HB.o.block (bp+1) ahf).trans yN.o);obtain⟨a0,a1,a2,a3,a4,a5,p0,p1,p2,p3,p4,p5,rfl⟩:=HS.o.six;obtain⟨hbw,c0,c1,c2,c3,c4,c5,cf⟩:=HS.o.cells;dsimp only at c0 c1 c2 c3 c4 c5;clear cf hth;obtain⟨r0,r1,r2,r3,r4,r5⟩:=zn sD.o;have rf:=λj=>bG (o:=j) sD.o;have rf0:=rf 0;have rf1:=rf 1;have rf2:=rf 2;have rf3:=rf 3;have rf4:=rf 4;have rf5:=rf 5;clear rf;go_wp2_with fail;show bodyPost _ _ _ _ _ (World.setCells wr (bp+1) 0 [.slice a0 W'.cs.length p0,.slice a1 W'.ls.length p1,.slice a2 W'.ns.length p2,.slice a3 W'.fs.length p3,.slice a4 W'.ts.length p4,.slice a5 W'.ss.length p5]);have Gh:=ah (mP (vs:=[.slice a0 W'.cs.length p0,.slice a1 W'.ls.length p1,.slice a2 W'.ns.length p2,.slice a3 W'.fs.length p3,.slice a4 W'.ts.length p4,.slice a5 W'.ss.length p5]) sD.o rfl);have oG:aj (wr.grownBy (World.setCells wr (bp+1) 0 [.slice a0 W'.cs.length p0,.slice a1 W'.ls.length p1,.slice a2 W'.ns.length p2,.slice a3 W'.fs.length p3,.slice a4 W'.ts.length p4,.slice a5 W'.ss.length p5]) (some (bp+1))):=ah (dZ _ _ _ _);have EO:aj (Below w.heap.size w (World.setCells wr (bp+1) 0 [.slice a0 W'.cs.length p0,.slice a1 W'.ls.length p1,.slice a2 W'.ns.length p2,.slice a3 W'.fs.length p3,.slice a4 W'.ts.length p4,.slice a5 W'.ss.length p5])):=ah ((HB1.o.trans (FC.o.mono HB1.o.size)).trans ((HB.o.mono afo).trans (cB oG.o afo abE)));have ql:=ah (HS.o.keep oG.o (by have h3:=HS.o.lt;omega) ahf);generalize CK:World.setCells wr _ _ _=wz at *;obtain⟨o0,o1,o2,o3,o4,o5⟩:=zn Gh.o;clear CK;have YA:aj (w.heap.size<=w3.heap.size):=ah aeb;have as5:aj (∀x∈W'.ts,x.size<=maxLen):=ah aac;have ap9:aj (gq wz wz.heap.size W' ⟨a0,a1,a2,a3,a4,a5,p0,p1,p2,p3,p4,p5⟩):=ah (ql.o.bn1 ⟨⟨ach,ab2,abL⟩,abK,aeO,ab5⟩ ael as5.o aeR);exact bodyPost_ret (v:=mQ W' ⟨a0,a1,a2,a3,a4,a5,p0,p1,p2,p3,p4,p5⟩) (by simp[results,Tryz.results17,go_sem,mQ,o0,o1,o2,o3,o4,o5]) rfl ⟨⟨a0,a1,a2,a3,a4,a5,p0,p1,p2,p3,p4,p5⟩,by rw[LU.o],by rw[LU.o];exact ap9.o,EO.o,ql.o.aK8 YA.o,_,YA.o,by rw[LU.o];exact ql.o.row⟩
     |cons t R=>
      obtain⟨⟨b,off,iO,eF,dR,dA,hao,jT,x0,x1,x2,x3,hok,htx,hst,hcl⟩,hrest⟩:=hth;have zL:=ah hao;subst hao;simp only[aB]at oK;have hkl:k<p.ts.length:=ahf;have kg:=ah hrest;have rZ:=ah (ay hst hok.2.2.2);have zQ:aj (W'.ss.length+(dB t.body+Bg R)<=Bg p.ts):=ah lH.o.2.1;have uV:=ah x3;have yg:=ah jT;have mZ:aj (b<wr.heap.size):=ah adL;obtain⟨a4,p4,h4,-,-,-⟩:=gN zG (HS.o.own (r:=⟨9,1,s.v4,W'.ts.length,W'.ts.flatMap Md.kI⟩) aaT);have h4:s.v4= .slice a4 W'.ts.length p4:=h4;have HV4:=ah h4;have c4:=HS.o.cells.2.2.2.2.2.1;rw[h4]at c4;have HC4:=ah (ay HS.o.cells.1 c4);have HN3:aj (bp<wr.heap.size):=ah (aI as9.o);clear hrest hok htx hst hcl h4 x1 x2 x3 jT;go_wp2_with fail;have V4:=jN HC4.o.1 HC4.o.2;have Y1:=jN HN3.o y1;have X0:=jN mZ.o x0;have k0:(0:Int)<=(k:Int):=ahf;have k1:(k:Int)<(p.ts.length:Int):=ahf;clear y1 x0 c4;refine cK ahe rfl ?_;refine bW 0 9 [] [[],[0],[],[2],[],[2,3,4],[2,3,4,5],[2,3,4,5,6],[2,3,4,5,6,7],[0,1,2,3,4,5,6,7,8],[0,1,2,3,4,5,6,7,8,9],[0,1,2,3,4,5,6,7,8,9,10]] [[],[],[],[],[],[],[],[],[]] (λ_ w'=>Below wr.heap.size wr w') (λw w'=>Below w.heap.size w w') [101,102,103,104,105,106,107,108,109] rfl rfl aix ahe ahe ahe ahe ahe aix (λ_=>ak _ _) aix (below_drewN (ak _ _) 1) ?_;simp only[gJ,kE]
      iterate 8
       apply bH.step
       case cu=>intro c A w' hok hC hO hD;have e3:=hO 3 aix;have e1:=hO 1 aix;have e9:=hO 9 aix;simp[Act.eval]at e3 e1 e9;simp[Act.eval]at hD;simp[go_sem,gd,Oper.wp,hD,e3,e1,e9,V4,hC,Y1,k0,k1,X0];exact AbN
       try simp only[dI]
      refine bH.some (λv w'=> ∃g,v= .slice (some ⟨g,0,none⟩) 1 1∧∀j u,(Md.kI t.nm)[j]? =some u->w'.cell? ((⟨g,0,none⟩:Addr).add j)=some u) ?_ ?_ ?_
      ·rintro v wa wb hle ⟨g,h1,h2⟩;exact⟨g,h1,λj u hu=>(hle.cell (World.block_lt_of_cell? _ _ (h2 j u hu))).trans (h2 j u hu)⟩
      ·intro c A w' hok hC hO hD;simp[Act.eval]at hD;simp[go_sem,gd,Oper.wp,hD];exact aZ.mk (aA _ _) (hC.trans ((aA _ _).mono hC.size)) ⟨_,rfl,λj u hu=>aG (heap_alloc_new w' (.cells (List.toArray (Md.kI t.nm)) 9)) aiq⟩
      try simp only[dI]
      try simp only[dI]
      refine bH.done ?_;intro wz dx
      try simp only[gJ]
      iterate 8 refine kZ ?_
      intro v8 h8;obtain⟨gc,rfl,hnews⟩:=h8;refine mE ?_;go_simp;have qD:=ah (HS.o.below dx);have qN:aj (Below (bp+2) wr wz):=ah (dx.mono adL);clear V4 Y1 X0 dx;refine dD 9 [[],[0],[],[2],[],[2,3,4],[2,3,4,5],[2,3,4,5,6],[2,3,4,5,6,7],[0,1,2,3,4,5,6,7,8],[0,1,2,3,4,5,6,7,8,9],[0,1,2,3,4,5,6,7,8,9,10]] rfl rfl rfl rfl rfl ahe ahe ahe ?_;obtain⟨i0,hi0,hz0,hz1,hz2⟩:=infoP OE;have hkt:W'.ts.length<=1000:=(by have:=lH.o.1;omega);refine wp_append_lies wz _ _ _ aix w3.heap.size 9 i0 _ 1 16 Tryz.underlying26 hi0 hz0 hz1 hz2 aix ahf (.slice a4 W'.ts.length p4) W'.ts.length (W'.ts.flatMap Md.kI) aix (show wz.ownsRow _ _ _ _ _ _ by rw[<- HV4.o];exact qD.o.own (r:=⟨9,1,s.v4,W'.ts.length,W'.ts.flatMap Md.kI⟩) ahq) ⟨gc,0,none⟩ 1 1 (Md.kI t.nm) aix aix hnews (tx1 _) ahg afc ahf qD.o.sz _ rfl ?_;intro g' cap' w5 hown hgr hmv jP;have dW:=ah (qD.o.add (s':= {s with v4:= .slice (some ⟨g',0,none⟩) (W'.ts.length+1) cap'}) (W':= {W' with ts:=W'.ts++[t.nm]}) (pre:=[_,_,_,_]) (r:=⟨9,1,s.v4,W'.ts.length,W'.ts.flatMap Md.kI⟩) (post:=[_]) (j:=4) (ak _ _) rfl (by rw[HV4.o];exact hgr) (by rw[HV4.o];exact hmv) hown ahq rfl);have cj:=dW.o.2.2.1.trans qD.o.cells.2.2.2.2.2.1;have fj:=dW.o.2.2.2.1 4;clear hown hgr hmv jP hnews hi0 hz0 hz1 hz2 hkt;rw[HV4.o]at cj;go_simp;refine dD 10 [[],[0],[],[2],[],[2,3,4],[2,3,4,5],[2,3,4,5,6],[2,3,4,5,6,7],[0,1,2,3,4,5,6,7,8],[0,1,2,3,4,5,6,7,8,9],[0,1,2,3,4,5,6,7,8,9,10]] rfl rfl rfl rfl rfl ahe ahe ahe ?_;simp[go_sem,Oper.wp];refine dD 11 [[],[0],[],[2],[],[2,3,4],[2,3,4,5],[2,3,4,5,6],[2,3,4,5,6,7],[0,1,2,3,4,5,6,7,8],[0,1,2,3,4,5,6,7,8,9],[0,1,2,3,4,5,6,7,8,9,10]] rfl rfl rfl rfl rfl ahe ahe ahe ?_;simp[go_sem,Oper.wp,cj,fj];refine dH rfl ?_;go_simp;generalize tV:World.setCell w5 _ _=w6 at *;have uU:=ah dW.o.1;have dF:aj (Below (bp+2) wr w6):=ah (qN.o.trans (dW.o.2.1 _ (aD _)));clear cj fj tV dW HV4 HC4;generalize ({s with v4:= .slice (some ⟨g',0,none⟩) (W'.ts.length+1) cap'} :Vs)=s6 at *;have aY0:=ah ((dF.o.block bp ahf).trans as9.o);have y1:=aG (j:=1) aY0.o rfl;have x3:=(dF.o.cell (p:=⟨b,off+k*4+3,none⟩) yg.o).trans uV.o;have HAP:=ah hkl;obtain⟨a5,p5,h5,-,-,-⟩:=gN GQ (uU.o.own (r:=⟨94,3,s6.v5,W'.ss.length,W'.ss.flatMap sZ⟩) aaT);have h5:s6.v5= .slice a5 W'.ss.length p5:=h5;have HV5:=ah h5;have c5:=uU.o.cells.2.2.2.2.2.2.1;rw[h5]at c5;have Qp:=ah (ay uU.o.cells.1 c5);have HN6:aj (bp<w6.heap.size):=ah (aI aY0.o);have bD6:aj (b<w6.heap.size):=ah (aV mZ.o dF.o.size);clear h5;go_wp2_with fail;have V5:=jN Qp.o.1 Qp.o.2;have Y1:=jN HN6.o y1;have X3:=jN bD6.o x3;clear y1 x3 c5;refine cK ahe rfl ?_;refine bW 0 9 [] [[],[0],[],[],[3],[],[3,4,5],[3,4,5,6],[3,4,5,6,7],[0,1,2,3,4,5,6,7,8],[0,1,2,3,4,5,6,7,8,9],[0,1,2,3,4,5,6,7,8,9,10],[0,1,2,3,4,5,6,7,8,9,10],[0,1,2,3,4,5,6,7,8,9,10,11],[0,1,2,3,4,5,6,7,8,9,10,11,13]] [[],[],[],[],[],[],[],[],[]] (λ_ w'=>Below w6.heap.size w6 w') (λw w'=>Below w.heap.size w w') [113,114,115,116,117,118,119,120,121] rfl rfl aix ahe ahe ahe ahe ahe aix (λ_=>ak _ _) aix (below_drewN (ak _ _) 1) ?_;simp only[gJ,kE]
      iterate 9
       apply bH.step
       case cu=>intro c A w' hok hC hO hD;have e3:=hO 3 aix;have e9:=hO 9 aix;have e1:=hO 1 aix;simp[Act.eval]at e3 e9 e1;simp[Act.eval]at hD;simp[go_sem,gd,Oper.wp,hD,e3,e9,e1,V5,hC,Y1,k0,k1,X3];exact AbN
       try simp only[dI]
      try simp only[dI]
      refine bH.done ?_;intro wz dx
      try simp only[gJ]
      iterate 9 refine kZ ?_
      refine mE ?_;go_simp;have qD:=ah (uU.o.below dx);have aR7:aj (Below (bp+2) w6 wz):=ah (dx.mono (by have h1:=uU.o.lt;have h2:=uU.o.sz;omega));clear V5 Y1 X3 dx;refine dD 9 [[],[0],[],[],[3],[],[3,4,5],[3,4,5,6],[3,4,5,6,7],[0,1,2,3,4,5,6,7,8],[0,1,2,3,4,5,6,7,8,9],[0,1,2,3,4,5,6,7,8,9,10],[0,1,2,3,4,5,6,7,8,9,10],[0,1,2,3,4,5,6,7,8,9,10,11],[0,1,2,3,4,5,6,7,8,9,10,11,13]] rfl rfl rfl rfl rfl ahe ahe ahe ?_;simp[go_sem,Oper.wp];have hss:W'.ss.length+dB t.body<=1000000000000:=(by have h1:=zQ.o;have h2:=NC.o;omega);refine(am6 t.body wz w3.heap.size (.slice a5 W'.ss.length p5) W'.ss k 0 dR dA (by rw[<- HV5.o];exact qD.o.own (r:=⟨94,3,s6.v5,W'.ss.length,W'.ss.flatMap sZ⟩) ahq) qD.o.sz rZ.o.2 ((((rZ.o.1.below dF.o).below aR7.o)).mono (by have h6:=uU.o.lt;omega)) hss ahf).mono ?_;rintro e w7 ⟨v7,rfl,hsg⟩;obtain⟨a7,p7,Ml,-,-,-⟩:=gN GQ hsg.r;have hv7:v7= .slice a7 (W'.ss++tZ k t.body 0).length p7:=Ml;clear Ml;obtain⟨n7,hn7⟩: ∃n7,(W'.ss++tZ k t.body 0).length=n7:=⟨_,rfl⟩;rw[hn7]at hv7;subst hv7;clear hn7;have dW:=ah (qD.o.bH4 (s':= {s6 with v5:=(.slice a7 n7 p7)}) (W':= {W' with ts:=W'.ts++[t.nm],ss:=W'.ss++tZ k t.body 0}) (pre:=[_,_,_,_,_]) (r:=⟨94,3,s6.v5,W'.ss.length,W'.ss.flatMap sZ⟩) (post:=[]) (j:=5) (v':=(.slice a7 n7 p7)) rfl (by rw[HV5.o];exact hsg.g) (by rw[HV5.o];exact hsg.o) hsg.r ahq rfl);have Jm:aj (w7.heap[bp+2]? =some (.cells #[s6.v0,s6.v1,s6.v2,s6.v3,s6.v4,s6.v5] 29 (0,0))):=ah (dW.o.2.2.trans qD.o.blk);clear hsg hss;go_simp;refine dD 10 [[],[0],[],[],[3],[],[3,4,5],[3,4,5,6],[3,4,5,6,7],[0,1,2,3,4,5,6,7,8],[0,1,2,3,4,5,6,7,8,9],[0,1,2,3,4,5,6,7,8,9,10],[0,1,2,3,4,5,6,7,8,9,10],[0,1,2,3,4,5,6,7,8,9,10,11],[0,1,2,3,4,5,6,7,8,9,10,11,13]] rfl rfl rfl rfl rfl ahe ahe ahe ?_;simp[go_sem,Oper.wp];refine bW 11 15 [14] [[],[0],[],[],[3],[],[3,4,5],[3,4,5,6],[3,4,5,6,7],[0,1,2,3,4,5,6,7,8],[0,1,2,3,4,5,6,7,8,9],[0,1,2,3,4,5,6,7,8,9,10],[0,1,2,3,4,5,6,7,8,9,10],[0,1,2,3,4,5,6,7,8,9,10,11],[0,1,2,3,4,5,6,7,8,9,10,11,13]] [[some false],[none],[some false],[some false]] (P1 w7 ⟨bp+2,5,none⟩ (.slice a7 n7 p7)) (λ_ _=>True) [123,124,125] rfl rfl aix ahe ahe ahe ahe ahe aix (λ_=>trivial) aix rfl ?_;simp only[gJ,kE]
      iterate 3
       apply bH.step
       case cu=>intro c A w' hok hC hO hD;have ba7:=hO 112 aix;have e3:=hO 3 aix;simp[Act.eval]at ba7 e3;simp[Act.eval]at hD;simp[go_sem,gd,Oper.wp,hD,ba7,e3];exact aZ.mk trivial (P1.skip aix hC) (dO.mk _ _)
       try simp only[dI]
      refine bH.some (λ_ _=>True) (λ_ _ _ _ _=>trivial) ?_ ?_
      ·intro c A' w' hok hC hO hD;obtain⟨x,rfl⟩:=hC.bits;obtain rfl:x=false:=hok.1;simp[Act.eval]at hD;have hw':w'=w7:=hC;have hbk:w'.heap[bp+2]? =some (.cells #[s6.v0,s6.v1,s6.v2,s6.v3,s6.v4,s6.v5] 29 (0,0)):=(by rw[hw'];exact Jm.o);have hcl:w'.cell? ⟨bp+2,5,none⟩=some s6.v5:=aG hbk rfl;have hfr:w'.frozen? ⟨bp+2,5,none⟩=false:=bG hbk;rw[HV5.o]at hcl;simp[go_sem,gd,Oper.wp,hD,hcl,hfr];exact aZ.EA (v:=undef) trivial (P1.st aix hC) trivial
      try simp only[dI]
      try simp only[List.drop_succ_cons,List.drop_zero]
      refine bH.done ?_;intro w8 hC8;simp only[List.drop_succ_cons,List.drop_zero];intro v0 h0 v1 h1 v2 h2 v3 h3;clear h0 h1 h2 h3;refine eY.nil ?_;refine dH rfl ?_;have HW8:aj (w8=w7.setCell ⟨bp+2,5,none⟩ (.slice a7 n7 p7)):=ah hC8;clear hC8;go_simp;have HWN:aj (nU w8 w3.heap.size (bp+2) {s6 with v5:=(.slice a7 n7 p7)} {W' with ts:=W'.ts++[t.nm],ss:=W'.ss++tZ k t.body 0}):=ah (by rw[HW8.o];exact dW.o.1);have rA:aj (Below (bp+2) wr w8):=ah (dF.o.trans (aR7.o.trans (by rw[HW8.o];exact dW.o.2.1 _ (aD _))));have HSL:aj ((tZ k t.body 0).length=dB t.body):=ah aij;clear dW HW8 Jm;go_wp2_with fail;go_roundw
      case rel=>exact⟨k+1,R,_,_,ahj,ahf,HE.o,HWN.o,kg.o.below rA.o,HB.o.trans rA.o,ad2,acg,lH.o.2.2⟩
      case measure=>simp[intOf];omega
   |cons d R=>
    obtain⟨⟨b,off,rfl,jT,x0,x1,x2,x3,x4,x5,hok⟩,hrest⟩:=HR.o.at';simp only[aB]at hlen;have hkl:k<p.ds.length:=ahf;have hsd:=xg (HR.o.ok d aW).1;have hs4:=(HR.o.ok d aW).2;have kK:=ah hok;clear hrest hok;go_upto_region 9 with fail;generalize uM:World.alloc wr _=w4;obtain⟨nb,hnb,dL,-,pE,-⟩:=oJ uM;have dG:aj (w3.heap.size<=nb∧nb<w4.heap.size):=ah ⟨by rw[<- hnb];exact HR.o.ws.sz,(aI pE.o)⟩;have jQ:=ah (HR.o.ws.below dL.o);rw[hnb];have DJ:aj (s.v0.ownBlock≠some nb):=ah (λe=>by have:=((HR.o.ws.own (r:=⟨42,5,s.v0,W.cs.length,W.cs.flatMap kM⟩) ahq).lt nb e).2;omega);clear uM hnb x0 x1 x2 x3 x4 x5;obtain⟨z0,z1,z2,z3,z4,z5⟩:=zn pE.o;have hk:=(show d.kind=1∨d.kind=2∨d.kind=3∨d.kind=4∨d.kind=5∨d.kind=6 by omega);have HKD:=ah hk;have hcap:4*k<=80:=ahf;have Qq:=ah hcap;have hbp:bp+2<=bp+2:=aD _;rcases hk with hk|hk|hk|hk|hk|hk
    case inr.inr.inr.inr.inr=>
     have HK:=ah hk;obtain⟨sH,sI,qQ,sJ,sK,sM⟩:=kd6 hk;clear hk;have uH:aj (lZ W d= {W with fs:=W.fs++[d.nm]}):=ah afz;have qB:aj (Below (bp+2) wr w4):=ah (dL.o.mono aaV);obtain⟨oP,qp,iF,-,-,-⟩:=gN zG (jQ.o.own (r:=⟨9,1,s.v3,List.length W.fs,List.flatMap Md.kI W.fs⟩) aaT);have iF:s.v3= .slice oP (List.length W.fs) qp:=iF;have nN:=ah iF;obtain⟨hbw,c0,c1,c2,c3,c4,c5,cf⟩:=jQ.o.cells;have fj:=cf 3;rw[iF]at c3;have iJ:aj (Below w4.heap.size w4 (w4.alloc (.cells (List.toArray (Md.kI d.nm)) 9))):=ah (aA _ _);have iV:=ah (gG (heap_alloc_new w4 (.cells (List.toArray (Md.kI d.nm)) 9)));have ng:=ah (nQ (show w4.ownsRow w3.heap.size 9 1 (.slice oP (List.length W.fs) qp) (List.length W.fs) (List.flatMap Md.kI W.fs) by rw[<- iF];exact jQ.o.own (r:=⟨9,1,s.v3,List.length W.fs,List.flatMap Md.kI W.fs⟩) aaT) iJ.o);obtain⟨i0,hi,hz0,hz1,hz2⟩:=infoP OE;have hk0:List.length W.fs<=1000000000000:=afm;have hk1:List.length W.fs+1<=maxLen:=afc;have nk:(List.length W.fs+1)*16<=140737488355328:=ahf;have hbs:w3.heap.size<=w4.heap.size+1:=Nat.le_succ_of_le jQ.o.sz;clear iF cf;go_wp2_with (at_builtin;refine wpList_append_lies _ rfl _ _ 26 rfl w3.heap.size 9 i0 _ 1 16 Tryz.underlying26 hi hz0 hz1 hz2 rfl ahg _ _ _ rfl ng.o ⟨w4.heap.size,0,none⟩ 1 1 (Md.kI d.nm) rfl rfl iV.o (tx1 _) ahg hk1 nk afe _ rfl ?_);clear hi hz0 hz1 hz2 hk0 hk1 nk hbs;intro g' cap' w5 hown hgr hmv jP;have dW:=ah (jQ.o.add (s':= {s with v3:= .slice (some ⟨g',0,none⟩) (W.fs.length+1) cap'}) (W':=lZ W d) (pre:=[_,_,_]) (r:=⟨9,1,s.v3,W.fs.length,W.fs.flatMap Md.kI⟩) (post:=[_,_]) (j:=3) iJ.o rfl afq aak hown agM rfl);clear hown hgr hmv jP iV ng;have cj:=dW.o.2.2.1.trans c3;have fj:=dW.o.2.2.2.1 3;exact AaH
    case inr.inr.inr.inl=>
     have HK:=ah hk;obtain⟨sH,sI,qQ,sJ,sK,sM⟩:=kd4 hk;clear hk;have uH:aj (lZ W d= {W with ls:=W.ls++[⟨d.nm,true⟩]}):=ah afz;have qB:aj (Below (bp+2) wr w4):=ah (dL.o.mono aaV);obtain⟨oP,qp,iF,-,-,-⟩:=gN uQ (jQ.o.own (r:=⟨101,2,s.v1,List.length W.ls,List.flatMap mW W.ls⟩) aaT);have iF:s.v1= .slice oP (List.length W.ls) qp:=iF;have nN:=ah iF;obtain⟨hbw,c0,c1,c2,c3,c4,c5,cf⟩:=jQ.o.cells;have fj:=cf 1;rw[iF]at c1;have iJ:aj (Below w4.heap.size w4 (w4.alloc (.cells (List.toArray (mW (⟨d.nm,true⟩:xI))) 101))):=ah (aA _ _);have iV:=ah (gG (heap_alloc_new w4 (.cells (List.toArray (mW (⟨d.nm,true⟩:xI))) 101)));have ng:=ah (nQ (show w4.ownsRow w3.heap.size 101 2 (.slice oP (List.length W.ls) qp) (List.length W.ls) (List.flatMap mW W.ls) by rw[<- iF];exact jQ.o.own (r:=⟨101,2,s.v1,List.length W.ls,List.flatMap mW W.ls⟩) aaT) iJ.o);obtain⟨i0,hi,hz0,hz1,hz2⟩:=infoP OC;have hk0:List.length W.ls<=1000000000000:=afm;have hk1:List.length W.ls+1<=maxLen:=afc;have nk:(List.length W.ls+1)*24<=140737488355328:=ahf;have hbs:w3.heap.size<=w4.heap.size+1:=Nat.le_succ_of_le jQ.o.sz;clear iF cf;go_wp2_with (at_builtin;refine wpList_append_lies _ rfl _ _ 24 rfl w3.heap.size 101 i0 _ 2 24 Tryz.underlying24 hi hz0 hz1 hz2 rfl ahg _ _ _ rfl ng.o ⟨w4.heap.size,0,none⟩ 1 1 (mW (⟨d.nm,true⟩:xI)) rfl rfl iV.o (lk1 _) ahg hk1 nk afe _ rfl ?_);exact Aaf
    case inr.inr.inl=>
     have HK:=ah hk;obtain⟨sH,sI,qQ,sJ,sK,sM⟩:=kd3 hk;clear hk;have uH:aj (lZ W d= {W with ls:=W.ls++[⟨d.nm,false⟩]}):=ah afz;have qB:aj (Below (bp+2) wr w4):=ah (dL.o.mono aaV);obtain⟨oP,qp,iF,-,-,-⟩:=gN uQ (jQ.o.own (r:=⟨101,2,s.v1,List.length W.ls,List.flatMap mW W.ls⟩) aaT);have iF:s.v1= .slice oP (List.length W.ls) qp:=iF;have nN:=ah iF;obtain⟨hbw,c0,c1,c2,c3,c4,c5,cf⟩:=jQ.o.cells;have fj:=cf 1;rw[iF]at c1;have iJ:aj (Below w4.heap.size w4 (w4.alloc (.cells (List.toArray (mW (⟨d.nm,false⟩:xI))) 101))):=ah (aA _ _);have iV:=ah (gG (heap_alloc_new w4 (.cells (List.toArray (mW (⟨d.nm,false⟩:xI))) 101)));have ng:=ah (nQ (show w4.ownsRow w3.heap.size 101 2 (.slice oP (List.length W.ls) qp) (List.length W.ls) (List.flatMap mW W.ls) by rw[<- iF];exact jQ.o.own (r:=⟨101,2,s.v1,List.length W.ls,List.flatMap mW W.ls⟩) aaT) iJ.o);obtain⟨i0,hi,hz0,hz1,hz2⟩:=infoP OC;have hk0:List.length W.ls<=1000000000000:=afm;have hk1:List.length W.ls+1<=maxLen:=afc;have nk:(List.length W.ls+1)*24<=140737488355328:=ahf;have hbs:w3.heap.size<=w4.heap.size+1:=Nat.le_succ_of_le jQ.o.sz;clear iF cf;go_wp2_with (at_builtin;refine wpList_append_lies _ rfl _ _ 24 rfl w3.heap.size 101 i0 _ 2 24 Tryz.underlying24 hi hz0 hz1 hz2 rfl ahg _ _ _ rfl ng.o ⟨w4.heap.size,0,none⟩ 1 1 (mW (⟨d.nm,false⟩:xI)) rfl rfl iV.o (lk1 _) ahg hk1 nk afe _ rfl ?_);exact Aaf
    case inr.inr.inr.inr.inl=>
     have HK:=ah hk;obtain⟨sH,sI,qQ,sJ,sK,sM⟩:=kd5 hk;clear hk;have uH:aj (lZ W d= {W with ns:=W.ns++[⟨d.nm,gK (W.ls.map (·.nm)) d.on⟩]}):=ah afz;obtain⟨aoN,cpN,hvN,-,-,-⟩:=gN Lh (jQ.o.own (r:=⟨90,2,s.v2,W.ns.length,W.ns.flatMap yB⟩) ahq);have hvN:s.v2= .slice aoN W.ns.length cpN:=hvN;have Gd:=ah hvN;obtain⟨Mc,Mh,Es,-,-,-⟩:=gN uQ (jQ.o.own (r:=⟨101,2,s.v1,W.ls.length,W.ls.flatMap mW⟩) ahq);have Es:s.v1= .slice Mc W.ls.length Mh:=Es;have AL:=ah Es;have c2:=jQ.o.cells.2.2.2.1;have c1:=jQ.o.cells.2.2.1;rw[hvN]at c2;rw[Es]at c1;have HC:=ah (ay jQ.o.cells.1 (ay c1 c2));have zU:=ah dG.o.2;have vM:aj (W.ls.length<=maxLen):=ah adk;clear hvN Es;go_wp2_with fail;have V2:=jN HC.o.1 c2;have V1:=jN HC.o.1 c1;have Y2:=jN zU.o z2;have Y5:=jN zU.o z5;clear z0 z1 z2 z3 z4 z5 c1 c2;refine cK ahe rfl ?_;refine bW 0 11 [] [[],[0],[],[2],[],[4],[],[6],[4,5,6,7],[2,3,4,5,6,7,8],[2,3,4,5,6,7,8,9],[0,1,2,3,4,5,6,7,8,9,10],[0,1,2,3,4,5,6,7,8,9,10,11],[0,1,2,3,4,5,6,7,8,9,10,11,12]] [[],[],[],[],[],[],[],[],[],[],[]] (λ_ w'=>Below w4.heap.size w4 w') (λw w'=>Below w.heap.size w w') [81,82,83,84,85,86,87,88,89,90,91] rfl rfl aix ahe ahe ahe ahe ahe aix (λ_=>ak _ _) aix (below_drewN (ak _ _) 1) ?_;simp only[gJ,kE]
     iterate 8
      apply bH.step
      case cu=>intro c A w' hok hC hO hD;have e3:=hO 3 aix;have e7:=hO 7 aix;simp[Act.eval]at e3 e7;simp[Act.eval]at hD;simp[go_sem,gd,Oper.wp,hD,e3,e7,V2,hC,Y2,V1,Y5];exact AbN
      try simp only[dI]
     refine bH.some (dO (.int .i64 (gK (W.ls.map (·.nm)) d.on))) dO.mono ?_ ?_
     ·intro c A w' hok hC hO hD;simp[Act.eval]at hD;simp[go_sem,gd,Oper.wp,hD];refine(Dg W.ls d.on w' Mc Mh vM.o (wV uQ (by rw[<- AL.o];exact(jQ.o.below hC).own (r:=⟨101,2,s.v1,W.ls.length,W.ls.flatMap mW⟩) ahq))).mono ?_;rintro e w5 ⟨rfl,rfl⟩;exact AbN
     try simp only[dI]
     apply bH.step
     case cu=>exact Abx
     refine bH.some (λv w'=> ∃g,v= .slice (some ⟨g,0,none⟩) 1 1∧∀j u,(yB ⟨d.nm,gK (W.ls.map (·.nm)) d.on⟩)[j]? =some u->w'.cell? ((⟨g,0,none⟩:Addr).add j)=some u) ?_ ?_ ?_
     ·rintro v wa wb hle ⟨g,h1,h2⟩;exact⟨g,h1,λj u hu=>(hle.cell (World.block_lt_of_cell? _ _ (h2 j u hu))).trans (h2 j u hu)⟩
     ·intro c A w' hok hC hO hD;simp[Act.eval]at hD;simp[go_sem,gd,Oper.wp,hD];exact aZ.mk (aA _ _) (hC.trans ((aA _ _).mono hC.size)) ⟨_,rfl,λj u hu=>aG (heap_alloc_new w' _) adj⟩
     try simp only[dI]
     try simp only[dI]
     refine bH.done ?_;intro wz dx
     try simp only[gJ]
     iterate 10 refine kZ ?_
     intro v10 h10;obtain⟨gc,rfl,hnews⟩:=h10;refine mE ?_;go_simp;have qD:=ah (jQ.o.below dx);have qB:aj (Below (bp+2) wr wz):=ah ((dL.o.trans (dx.mono dL.o.size)).mono aaV);clear V1 V2 Y2 Y5 dx;refine dD 11 [[],[0],[],[2],[],[4],[],[6],[4,5,6,7],[2,3,4,5,6,7,8],[2,3,4,5,6,7,8,9],[0,1,2,3,4,5,6,7,8,9,10],[0,1,2,3,4,5,6,7,8,9,10,11],[0,1,2,3,4,5,6,7,8,9,10,11,12]] rfl rfl rfl rfl rfl ahe ahe ahe ?_;obtain⟨i0,hi0,hz0,hz1,hz2⟩:=infoP ai9;have hkt:W.ns.length<=1000:=afm;refine wp_append_lies wz _ _ _ aix w3.heap.size 90 i0 _ 2 24 Tryz.underlying25 hi0 hz0 hz1 hz2 aix ahf (.slice aoN W.ns.length cpN) W.ns.length (W.ns.flatMap yB) aix (show wz.ownsRow _ _ _ _ _ _ by rw[<- Gd.o];exact qD.o.own (r:=⟨90,2,s.v2,W.ns.length,W.ns.flatMap yB⟩) ahq) ⟨gc,0,none⟩ 1 1 (yB ⟨d.nm,gK (W.ls.map (·.nm)) d.on⟩) aix aix hnews (cn1 _) ahg afc ahf qD.o.sz _ rfl ?_;intro g' cap' w5 hown hgr hmv jP;have dW:=ah (qD.o.add (s':= {s with v2:= .slice (some ⟨g',0,none⟩) (W.ns.length+1) cap'}) (W':=lZ W d) (pre:=[_,_]) (r:=⟨90,2,s.v2,W.ns.length,W.ns.flatMap yB⟩) (post:=[_,_,_]) (j:=2) (ak _ _) rfl (by rw[Gd.o];exact hgr) (by rw[Gd.o];exact hmv) hown agM rfl);have cj:=dW.o.2.2.1.trans qD.o.cells.2.2.2.1;have fj:=dW.o.2.2.2.1 2;clear hown hgr hmv jP hnews hi0 hz0 hz1 hz2 hkt;rw[Gd.o]at cj;go_simp;refine dD 12 [[],[0],[],[2],[],[4],[],[6],[4,5,6,7],[2,3,4,5,6,7,8],[2,3,4,5,6,7,8,9],[0,1,2,3,4,5,6,7,8,9,10],[0,1,2,3,4,5,6,7,8,9,10,11],[0,1,2,3,4,5,6,7,8,9,10,11,12]] rfl rfl rfl rfl rfl ahe ahe ahe ?_;simp[go_sem,Oper.wp];refine dD 13 [[],[0],[],[2],[],[4],[],[6],[4,5,6,7],[2,3,4,5,6,7,8],[2,3,4,5,6,7,8,9],[0,1,2,3,4,5,6,7,8,9,10],[0,1,2,3,4,5,6,7,8,9,10,11],[0,1,2,3,4,5,6,7,8,9,10,11,12]] rfl rfl rfl rfl rfl ahe ahe ahe ?_;simp[go_sem,Oper.wp,cj,fj];refine dH rfl ?_;go_simp;exact Abf
    case inl=>
     have HK:=ah hk;obtain⟨sH,sI,qQ,sJ,sK,sM⟩:=kd1 hk;clear hk;have HCA:aj (lZ W d= {W with cs:=W.cs++sQ d (max d.size 1).toNat 0}):=ah afz;have HVO:aj ((d.kind==2)=false):=ah (by rw[HK.o];rfl);have qB:aj (Below (bp+2) wr w4):=ah (dL.o.mono aaV);have HMX:aj (1<=max d.size 1∧max d.size 1<=4):=ah ahf;go_wp2_with fail;go_loopw [8] (λj wq=> ∃(n:Nat) (s':Vs) (XS:List mU),j= .int .i64 n∧(n:Int)<=max d.size 1∧XS=W.cs++sQ d n 0∧nU wq w3.heap.size (bp+2) s' {W with cs:=XS} ∧Below (bp+2) w4 wq∧wq.heap[nb]? =some (.cells #[.int .i64 d.kind,.int .i64 d.line,.string d.nm,.int .i64 d.size,.int .i64 d.init,.string d.on] 118 (0,0))∧s'.v0.ownBlock≠some nb) (λj _=>(max d.size 1).toNat -(intOf j).toNat)
     case atStart=>exact⟨0,s,W.cs,rfl,ahf,by simp[sQ],jQ.o,ak _ _,pE.o,DJ.o⟩
     case round=>
      obtain⟨n,s,XS,rfl,hn,hXS,UM,hb5,hx5,hne5⟩:=hrel;have NW:=ah hXS;have su:=ah UM;have iU:=ah hb5;have tJ:=ah hx5;have T9:=ah hne5;clear hXS z0 z1 z2 z3 z4 z5 UM hb5 hne5;have z0:=aG (j:=0) hx5 rfl;have z2:=aG (j:=2) hx5 rfl;have z3:=aG (j:=3) hx5 rfl;have z4:=aG (j:=4) hx5 rfl;clear hx5;by_cases hlt:(n:Int)<max d.size 1
      ·obtain⟨oP,qp,iF,-,-,-⟩:=gN uO (su.o.own (r:=⟨42,5,s.v0,List.length XS,List.flatMap kM XS⟩) aaT);have iF:s.v0= .slice oP (List.length XS) qp:=iF;have nN:=ah iF;obtain⟨hbw,c0,c1,c2,c3,c4,c5,cf⟩:=su.o.cells;have fj:=cf 0;rw[iF]at c0;have iJ:aj (Below wr.heap.size wr (wr.alloc (.cells (List.toArray (kM (⟨d.nm,n,d.size,false,d.init⟩:mU))) 42))):=ah (aA _ _);have iV:=ah (gG (heap_alloc_new wr (.cells (List.toArray (kM (⟨d.nm,n,d.size,false,d.init⟩:mU))) 42)));have ng:=ah (nQ (show wr.ownsRow w3.heap.size 42 5 (.slice oP (List.length XS) qp) (List.length XS) (List.flatMap kM XS) by rw[<- iF];exact su.o.own (r:=⟨42,5,s.v0,List.length XS,List.flatMap kM XS⟩) aaT) iJ.o);obtain⟨i0,hi,hz0,hz1,hz2⟩:=infoP Kv;have hk0:List.length XS<=1000000000000:=abG;have hk1:List.length XS+1<=maxLen:=afc;have nk:(List.length XS+1)*48<=140737488355328:=ahf;have hbs:w3.heap.size<=wr.heap.size+1:=Nat.le_succ_of_le su.o.sz;clear iF cf;go_wp2_with (at_builtin;refine wpList_append_lies _ rfl _ _ 23 rfl w3.heap.size 42 i0 _ 5 48 Tryz.underlying23 hi hz0 hz1 hz2 rfl ahg _ _ _ rfl ng.o ⟨wr.heap.size,0,none⟩ 1 1 (kM (⟨d.nm,n,d.size,false,d.init⟩:mU)) rfl rfl iV.o (U9 _) ahg hk1 nk afe _ rfl ?_);clear hi hz0 hz1 hz2 hk0 hk1 nk hbs;intro g' cap' w5 hown hgr hmv jP;have dW:=ah (su.o.add (s':= {s with v0:= .slice (some ⟨g',0,none⟩) (XS.length+1) cap'}) (W':= {W with cs:=XS++[⟨d.nm,n,d.size,false,d.init⟩]}) (pre:=[]) (r:=⟨42,5,s.v0,XS.length,XS.flatMap kM⟩) (post:=[_,_,_,_,_]) (j:=0) iJ.o rfl afq aak hown ahq rfl);have SY:aj (nb<wr.heap.size):=ah (aI tJ.o);have JC:aj ((w5.setCell ⟨bp+2,0,none⟩ (.slice (some ⟨g',0,none⟩) (XS.length+1) cap')).heap[nb]? =some (.cells #[.int .i64 d.kind,.int .i64 d.line,.string d.nm,.int .i64 d.size,.int .i64 d.init,.string d.on] 118 (0,0))):=ah Ω;have ar8:aj (Value.ownBlock (.slice (some ⟨g',0,none⟩) (XS.length+1) cap')≠some nb):=ah (by
        intro e;have e:g'=nb:=aeF;rcases hmv with h|h
        ·exact T9.o (by rw[nN.o,<- e];exact h)
        ·have h5:=SY.o;omega)
       exact Aan
      ·exact AaI
    case inr.inl=>
     have HK:=ah hk;obtain⟨sH,sI,qQ,sJ,sK,sM⟩:=kd2 hk;clear hk;have HCA:aj (lZ W d= {W with cs:=W.cs++sQ d (max d.size 1).toNat 0}):=ah afz;have HVO:aj ((d.kind==2)=true):=ah (by rw[HK.o];rfl);have qB:aj (Below (bp+2) wr w4):=ah (dL.o.mono aaV);have HMX:aj (1<=max d.size 1∧max d.size 1<=4):=ah ahf;go_wp2_with fail;go_loopw [8] (λj wq=> ∃(n:Nat) (s':Vs) (XS:List mU),j= .int .i64 n∧(n:Int)<=max d.size 1∧XS=W.cs++sQ d n 0∧nU wq w3.heap.size (bp+2) s' {W with cs:=XS} ∧Below (bp+2) w4 wq∧wq.heap[nb]? =some (.cells #[.int .i64 d.kind,.int .i64 d.line,.string d.nm,.int .i64 d.size,.int .i64 d.init,.string d.on] 118 (0,0))∧s'.v0.ownBlock≠some nb) (λj _=>(max d.size 1).toNat -(intOf j).toNat)
     case atStart=>exact⟨0,s,W.cs,rfl,ahf,by simp[sQ],jQ.o,ak _ _,pE.o,DJ.o⟩
     case round=>
      obtain⟨n,s,XS,rfl,hn,hXS,UM,hb5,hx5,hne5⟩:=hrel;have NW:=ah hXS;have su:=ah UM;have iU:=ah hb5;have tJ:=ah hx5;have T9:=ah hne5;clear hXS z0 z1 z2 z3 z4 z5 UM hb5 hne5;have z0:=aG (j:=0) hx5 rfl;have z2:=aG (j:=2) hx5 rfl;have z3:=aG (j:=3) hx5 rfl;have z4:=aG (j:=4) hx5 rfl;clear hx5;by_cases hlt:(n:Int)<max d.size 1
      ·obtain⟨oP,qp,iF,-,-,-⟩:=gN uO (su.o.own (r:=⟨42,5,s.v0,List.length XS,List.flatMap kM XS⟩) aaT);have iF:s.v0= .slice oP (List.length XS) qp:=iF;have nN:=ah iF;obtain⟨hbw,c0,c1,c2,c3,c4,c5,cf⟩:=su.o.cells;have fj:=cf 0;rw[iF]at c0;have iJ:aj (Below wr.heap.size wr (wr.alloc (.cells (List.toArray (kM (⟨d.nm,n,d.size,true,d.init⟩:mU))) 42))):=ah (aA _ _);have iV:=ah (gG (heap_alloc_new wr (.cells (List.toArray (kM (⟨d.nm,n,d.size,true,d.init⟩:mU))) 42)));have ng:=ah (nQ (show wr.ownsRow w3.heap.size 42 5 (.slice oP (List.length XS) qp) (List.length XS) (List.flatMap kM XS) by rw[<- iF];exact su.o.own (r:=⟨42,5,s.v0,List.length XS,List.flatMap kM XS⟩) aaT) iJ.o);obtain⟨i0,hi,hz0,hz1,hz2⟩:=infoP Kv;have hk0:List.length XS<=1000000000000:=abG;have hk1:List.length XS+1<=maxLen:=afc;have nk:(List.length XS+1)*48<=140737488355328:=ahf;have hbs:w3.heap.size<=wr.heap.size+1:=Nat.le_succ_of_le su.o.sz;clear iF cf;go_wp2_with (at_builtin;refine wpList_append_lies _ rfl _ _ 23 rfl w3.heap.size 42 i0 _ 5 48 Tryz.underlying23 hi hz0 hz1 hz2 rfl ahg _ _ _ rfl ng.o ⟨wr.heap.size,0,none⟩ 1 1 (kM (⟨d.nm,n,d.size,true,d.init⟩:mU)) rfl rfl iV.o (U9 _) ahg hk1 nk afe _ rfl ?_);clear hi hz0 hz1 hz2 hk0 hk1 nk hbs;intro g' cap' w5 hown hgr hmv jP;have dW:=ah (su.o.add (s':= {s with v0:= .slice (some ⟨g',0,none⟩) (XS.length+1) cap'}) (W':= {W with cs:=XS++[⟨d.nm,n,d.size,true,d.init⟩]}) (pre:=[]) (r:=⟨42,5,s.v0,XS.length,XS.flatMap kM⟩) (post:=[_,_,_,_,_]) (j:=0) iJ.o rfl afq aak hown ahq rfl);have SY:aj (nb<wr.heap.size):=ah (aI tJ.o);have JC:aj ((w5.setCell ⟨bp+2,0,none⟩ (.slice (some ⟨g',0,none⟩) (XS.length+1) cap')).heap[nb]? =some (.cells #[.int .i64 d.kind,.int .i64 d.line,.string d.nm,.int .i64 d.size,.int .i64 d.init,.string d.on] 118 (0,0))):=ah Ω;have ar8:aj (Value.ownBlock (.slice (some ⟨g',0,none⟩) (XS.length+1) cap')≠some nb):=ah (by
        intro e;have e:g'=nb:=aeF;rcases hmv with h|h
        ·exact T9.o (by rw[nN.o,<- e];exact h)
        ·have h5:=SY.o;omega)
       exact Aan
      ·exact AaI
end Go.Proofs.YtcjgfgkllmldpaaGreatDoor
