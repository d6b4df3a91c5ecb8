/- Objects whose rows are owned, in a box of their own: one cell changed, one row put anew. No walk in sight. And what hangs on it. -/
import Derived.Test.YtdoplekppjkkpaaGreatDoorGR6
import Derived.Test.YtdoplekppjkkpaaGreatDoorGVD
set_option linter.unusedSimpArgs false
set_option linter.unusedVariables false
set_option maxHeartbeats 40000000
set_option maxRecDepth 1000000
namespace Go.Proofs.YtdoplekppjkkpaaGreatDoor
open Go.RowKit
open Md
structure uK (w:World) (B bw:Nat) (s:Vs) (W:Wo):Prop where
 blk:w.heap[bw]? =some (.cells #[s.v0,s.v1,s.v2,s.v3,s.v4,s.v5] 30 (0,0))
 row:Rows w B (gY s W)
 far: ∀r∈gY s W,r.v.ownBlock≠some bw
section
variable {w w' w4:World} {B bw:Nat} {s s':Vs} {W W':Wo} {pre post:List Rw} {r r':Rw}
theorem uK.below (h:uK w B bw s W) (hb:Below w.heap.size w w'):uK w' B bw s W:=
 ⟨(hb.block _ (aO h.blk)).trans h.blk,h.row.below hb,h.far⟩
theorem U2 (rX: ∀q∈pre++r::post,q.v.ownBlock≠some bw) (hr:r'.v.ownBlock≠some bw): ∀q∈pre++r'::post,q.v.ownBlock≠some bw:=λq hq=>by
 rcases List.mem_append.1 hq with hq|hq
 ·exact rX q (List.mem_append_left _ hq)
 ·rcases List.mem_cons.1 hq with rfl|hq
  ·exact hr
  ·exact rX q (List.mem_append_right _ (aY _ hq))
theorem uK.set {g n cap j:Nat} {u:Value} (h:uK w B bw s W) (e1:gY s W=pre++r::post) (e2:gY s W'=pre++r'::post) (hv:r.v= .slice (some ⟨g,0,none⟩) n cap) (hv':r'.v=r.v) (hr:r'.Ok (w.setCell ⟨g,j,none⟩ u) B):uK (w.setCell ⟨g,j,none⟩ u) B bw s W':=by
 have hrow:=h.row;have rX:=h.far;rw[e1]at hrow rX;have ho:r.v.ownBlock=some g:=by rw[hv];rfl
 have hrf:=rX r agJ;have h4:=hrow.put (by rw[ho];exact bU w ⟨g,j,none⟩ u) hr (.inl (by rw[hv']));have hg:g≠bw:=λe=>hrf (by rw[ho,e]);exact⟨(bg w _ _ rfl hg).trans h.blk,by rw[e2];exact h4,by rw[e2];exact U2 rX (by rw[hv'];exact hrf)⟩
theorem uK.put {j:Nat} (h:uK w B bw s W) (hg:w.grownBy w4 r.v.ownBlock) (e1:gY s W=pre++r::post) (e2:gY s' W'=pre++r'::post) (hr:r'.Ok w4 B) (ho:nM w r.v r'.v)
 (hc:(#[s.v0,s.v1,s.v2,s.v3,s.v4,s.v5]:Array Value).setIfInBounds j r'.v= #[s'.v0,s'.v1,s'.v2,s'.v3,s'.v4,s'.v5]):uK (w4.setCell ⟨bw,j,none⟩ r'.v) B bw s' W':=by
 have hrow:=h.row;have rX:=h.far;rw[e1]at hrow rX;have h4:=hrow.put hg hr ho;have hlt:=(aO h.blk);have hrf:=rX r agJ;have hb:w4.heap[bw]? =some (.cells #[s.v0,s.v1,s.v2,s.v3,s.v4,s.v5] 30 (0,0)):=(hg.block _ hlt (λe=>hrf e.symm)).trans h.blk;have hf:=U2 rX (r':=r') (by
  rcases ho with e|⟨g,e,hge⟩
  ·rw[e];exact hrf
  ·rw[e];intro k;injection k with k;omega)
 rw[<- e2]at h4 hf;exact⟨qy hb _ hc,⟨λq hq=>(h4.own q hq).kept (bU w4 ⟨bw,j,none⟩ r'.v) (.inr (hf q hq)),h4.ap⟩,hf⟩
theorem uK.rows (h:uK w B bw s W):w.ownsRow B 39 5 s.v0 W.cs.length (W.cs.flatMap kM)∧w.ownsRow B 42 2 s.v1 W.ls.length (W.ls.flatMap mH)∧w.ownsRow B 47 2 s.v2 W.ns.length (W.ns.flatMap vE)∧w.ownsRow B 9 1 s.v3 W.fs.length (W.fs.flatMap Md.jY)∧w.ownsRow B 9 1 s.v4 W.ts.length (W.ts.flatMap Md.jY)∧w.ownsRow B 45 3 s.v5 W.ss.length (W.ss.flatMap rJ):=by
 have k:=h.row.own;simp only[gY,List.mem_cons,List.not_mem_nil,or_false,forall_eq_or_imp,forall_eq,Rw.Ok]at k;exact k
theorem uK.cell {α:Type} {f:α->List Value} {m:Nat} {T:TypeId} {v:Value} {g n cap k j:Nat} {xs:List α} {x y:α} {u:Value} (hf: ∀x,(f x).length=m) (h:uK w B bw s W) (hv:v= .slice (some ⟨g,0,none⟩) n cap)
 (e1:gY s W=pre++⟨T,m,v,xs.length,xs.flatMap f⟩::post) (e2:gY s W'=pre++⟨T,m,v,(xs.set k y).length,(xs.set k y).flatMap f⟩::post) (hk:xs[k]? =some x) (hj:j<m) (hu:f y=(f x).set j u):uK (w.setCell ⟨g,k*m+j,none⟩ u) B bw s W':=by
 refine h.set e1 e2 hv rfl ?_;subst hv;have hr:w.ownsRow B T m (.slice (some ⟨g,0,none⟩) n cap) xs.length (xs.flatMap f):=h.row.own ⟨T,m,.slice (some ⟨g,0,none⟩) n cap,xs.length,xs.flatMap f⟩ (by rw[e1];exact List.mem_append_right _ aX);obtain⟨mh,cap',e,-⟩:=eY hf hr;injection e with q1 q2 q3;subst q2;have hk':k<xs.length:=(List.getElem?_eq_some_iff.1 hk).1;have:=Oy hr (k*m+j) u (by rw[ru hf];have:=Nat.mul_le_mul_right m hk';rw[Nat.succ_mul]at this;omega);rw[Ib hf xs k x y j u hk hj hu]at this;show World.ownsRow _ _ _ _ _ _ _;rw[List.length_set];exact this
end
structure TQ (W:Wo):Prop where
 cs: ∀c∈W.cs,c.nm.size<=maxLen∧bY c.sz
 ls: ∀c∈W.ls,c.nm.size<=maxLen
 ns: ∀c∈W.ns,c.nm.size<=maxLen
 fs: ∀x∈W.fs,x.size<=maxLen
 ts: ∀x∈W.ts,x.size<=maxLen
theorem au1 {α:Type} {P:α->Prop} {l:List α} {k:Nat} {y:α} (h: ∀x∈l,P x) (hy:P y): ∀x∈l.set k y,P x:=λx hx=>by
 rcases List.mem_or_eq_of_mem_set hx with hx|rfl
 ·exact h x hx
 ·exact hy
theorem au0 {α:Type} {P:α->Prop} {l m:List α} (h: ∀x∈l,P x) (hy: ∀x∈m,P x): ∀x∈l++m,P x:=λx hx=>(List.mem_append.1 hx).elim (h x) (hy x)
theorem uK.o {w:World} {B bw:Nat} {s:Vs} {W:Wo} (h:uK w B bw s W) (hg:TQ W): ∃t:jS,s=⟨.slice t.aC W.cs.length t.cC,.slice t.aL W.ls.length t.cL,.slice t.aN W.ns.length t.cN,.slice t.aF W.fs.length t.cF,.slice t.aT W.ts.length t.cT,.slice t.aS W.ss.length t.cS⟩∧iP w w.heap.size W t:=by
 obtain⟨k0,k1,k2,k3,k4,k5⟩:=h.rows;obtain⟨a0,p0,h0,l0,m0,f0⟩:=eY wJ k0;obtain⟨a1,p1,h1,l1,m1,f1⟩:=eY sw k1;obtain⟨a2,p2,h2,l2,m2,f2⟩:=eY ET k2;obtain⟨a3,p3,h3,l3,m3,f3⟩:=eY uy k3;obtain⟨a4,p4,h4,l4,m4,f4⟩:=eY uy k4;obtain⟨a5,p5,h5,l5,m5,f5⟩:=eY Cg k5;obtain⟨v0,v1,v2,v3,v4,v5⟩:=s;exact⟨⟨a0,a1,a2,a3,a4,a5,p0,p1,p2,p3,p4,p5⟩,abD,{cs:=f0,ls:=f1,ns:=f2,fs:=EZ f3 hg.fs,ts:=EZ f4 hg.ts,ss:=f5,lc:=aJ l0 m0,ll:=aJ l1 m1,ln:=aJ l2 m2,lf:=aJ l3 m3,lt:=aJ l4 m4,lS:=aJ l5 m5,ok:=λc hc=>(hg.cs c hc).2}⟩
structure ZU (W:Wo):Prop where
 cs:0<W.cs.length∧W.cs.length<=20
 ls:0<W.ls.length
 ns:0<W.ns.length
 fs:0<W.fs.length
 ts:0<W.ts.length∧W.ts.length<=4
 ss:0<W.ss.length
theorem uK.six {w:World} {B bw:Nat} {s:Vs} {W:Wo} (h:uK w B bw s W) (hs:ZU W): ∃g0 g1 g2 g3 g4 g5 p0 p1 p2 p3 p4 p5,s=⟨.slice (some ⟨g0,0,none⟩) W.cs.length p0,.slice (some ⟨g1,0,none⟩) W.ls.length p1,.slice (some ⟨g2,0,none⟩) W.ns.length p2,.slice (some ⟨g3,0,none⟩) W.fs.length p3,.slice (some ⟨g4,0,none⟩) W.ts.length p4,.slice (some ⟨g5,0,none⟩) W.ss.length p5⟩:=by
 obtain⟨k0,k1,k2,k3,k4,k5⟩:=h.rows;obtain⟨g0,p0,h0,-⟩:=k0.form hs.cs.1;obtain⟨g1,p1,h1,-⟩:=k1.form hs.ls;obtain⟨g2,p2,h2,-⟩:=k2.form hs.ns;obtain⟨g3,p3,h3,-⟩:=k3.form hs.fs;obtain⟨g4,p4,h4,-⟩:=k4.form hs.ts.1;obtain⟨g5,p5,h5,-⟩:=k5.form hs.ss;obtain⟨v0,v1,v2,v3,v4,v5⟩:=s;exact⟨g0,g1,g2,g3,g4,g5,p0,p1,p2,p3,p4,p5,abD⟩
theorem aU7 {α:Type} {f:α->List Value} {m:Nat} {w:World} {B:Nat} {T:TypeId} {g n cap k:Nat} {xs:List α} {x:α} (hf: ∀x,(f x).length=m) (h:w.ownsRow B T m (.slice (some ⟨g,0,none⟩) n cap) n (xs.flatMap f)) (hk:xs[k]? =some x): ∀(j:Nat) (u:Value),(f x)[j]? =some u->w.cell? ⟨g,k*m+j,none⟩=some u∧w.frozen? ⟨g,k*m+j,none⟩=false:=λj u hu=>by
 have hF:=flat_get hf xs k x j u hk hu;have hlt:=(List.getElem?_eq_some_iff.1 hF).1;exact⟨(h.cellAt _ (by rw[<- h.1];exact hlt)).trans hF,h.frozenAt _⟩
theorem ay7 {i:Int} {n:Nat} : ∀ {l:aZ},0<l.len->0<(tq i l n).length
 | .nil,h=>absurd h agI
 | .cons _ _ _ _,_=>by rw[tq];simp
theorem OJ: ∀(l:List Th) (W:Wo) (i:Nat),W.ss.length<=(yQ W i l).ss.length
 | [],_,_=>aB _
 |t::r,W,i=>by rw[yQ];exact aJ agJ (OJ r _ _)
def w9:Wo:=mM.foldl lJ oG
theorem ba4:(∀c∈w9.cs,c.nm.size<=12∧0<=c.sz∧c.sz<=4)∧(∀c∈w9.ls,c.nm.size<=12)∧(∀c∈w9.ns,c.nm.size<=12)∧(∀x∈w9.fs,x.size<=12)∧(0<w9.cs.length∧w9.cs.length<=20)∧0<w9.ls.length∧0<w9.ns.length∧0<w9.fs.length:=agX
theorem ax0 {B gD gT aG:Nat} {W:World} {eH:List fD} (h:AJ B W gD gT aG eH):TQ (wD ⟨mM,eH.map (·.t)⟩)∧ZU (wD ⟨mM,eH.map (·.t)⟩):=by
 have e:wD ⟨mM,eH.map (·.t)⟩=yQ w9 0 (eH.map (·.t)):=by unfold wD;rw[h.zero];rfl
 rw[e];obtain⟨c1,c2,c3,c4⟩:=Si (eH.map (·.t)) w9 0;have ht:=Jl (eH.map (·.t)) w9 0;have e4:w9.ts=[]:=rfl;rw[e4,List.nil_append,List.map_map]at ht;obtain⟨k1,k2,k3,k4,n1,n2,n3,n4⟩:=ba4;have hm:12<=maxLen:=aeP
 have hf:=h.few;have hok:=h.F5;refine⟨⟨λc hc=> ?_,λc hc=> ?_,λc hc=> ?_,λx hx=> ?_,λx hx=> ?_⟩,by rw[c1];exact n1,by rw[c2];exact n2,by rw[c3];exact n3,by rw[c4];exact n4,by rw[ht,gH];exact⟨agH,hf.2⟩,?_⟩
 ·rw[c1]at hc;have:=k1 c hc;exact⟨aJ this.1 hm,afB⟩
 ·rw[c2]at hc;exact aJ (k2 c hc) hm
 ·rw[c3]at hc;exact aJ (k3 c hc) hm
 ·rw[c4]at hx;exact aJ (k4 x hx) hm
 ·rw[ht]at hx;obtain⟨t,ht',rfl⟩:=List.mem_map.1 hx;exact(hok t ht').1.1.1
 ·obtain⟨t,r,rfl⟩: ∃t r,eH=t::r:=by
   cases eH with
   |nil=>simp at hf
   |cons t r=>exact⟨t,r,rfl⟩
  rw[List.map_cons,yQ];refine aR ?_ (OJ _ _ _);have:=ay7 (i:=(0:Nat)) (n:=0) (hok t aX).2.2.1.2;simp only[aA];omega
theorem bA7 (s:sK): ∀u∈rJ s,u.oneCell'=true:=abv
theorem aR1:(Tryz.prog.info? 45).map (λi=>(i.zero,i.size,i.bytes))=some (some (.agg #[.int .i64 0,.int .i64 0,.int .i64 0]),3,24):=agG
structure TP (B:Nat) (w:World) (v:Value) (xs:List sK) (w2:World) (v2:Value):Prop where
 r:w2.ownsRow B 45 3 v2 xs.length (xs.flatMap rJ)
 g:w.grownBy w2 v.ownBlock
 o:nM w v v2
 b:B<=w2.heap.size
theorem TP.call {B:Nat} {w w2 w':World} {v v2 v':Value} {xs ys:List sK} (h:TP B w v xs w2 v2) (hr:w'.ownsRow B 45 3 v' ys.length (ys.flatMap rJ)) (hg:w2.grownBy w' v2.ownBlock) (ho:nM w2 v2 v'):TP B w v ys w' v':=
 ⟨hr,Kk h.g h.o hg,h.o.trans ho h.g.size,aJ h.b hg.size⟩
def EM (l:aZ):Prop:= ∀(w:World) (B:Nat) (v:Value) (xs:List sK) (i:Int) (n:Nat) (ao:Option Addr) (cap:Nat),w.ownsRow B 45 3 v xs.length (xs.flatMap rJ)->B<=w.heap.size->l.len<=maxLen->l.At w B ao 0->xs.length+dH l<=1000000000000->n+dH l<=1000000000000->
 Calls Tryz.prog 11 #[v,.int .i64 i,.int .i64 n,.slice ao l.len cap] w λe w'=> ∃v',e= .returned (.tuple #[v',.int .i64 ((n+dH l:Nat):Int)])∧TP B w v (xs++tq i l n) w' v'
theorem KE (l:aZ) (hall:l.All λ_ b e=>EM b∧EM e):EM l:=by
 intro w B v xs i n ao cap hrow hBw hl hat hlen hn;generalize hres:xs++tq i l n=res;have HR:=ah hres;have HRW:=ah hrow;have HAT:=ah hat;have HL:=ah (aI hlen hn);have jZ:=ah hall;have yt:=ah hBw;obtain⟨i0,hi,hz0,hz1,hz2⟩:=infoP aR1;have iA:=ah (aI hi (aI hz0 (aI hz1 hz2)));unfold maxLen at hl;clear hres hrow hat hlen hn hall hBw hi hz0 hz1 hz2;go_enter Tryz.func11,Tryz.ntmps11;go_wp2_with fail;go_loopw [0,2,10] (λv0 nn ix wr=> ∃(k:Nat) (R:aZ) (ys:List sK) (m:Nat),ix= .int .i64 k∧nn= .int .i64 m∧k+R.len=l.len∧res=ys++tq i R m∧m+dH R=n+dH l∧ys.length+dH R=xs.length+dH l∧(R.All λ_ b e=>EM b∧EM e)∧R.At wr B ao k∧TP B w v ys wr v0) (λ_ _ ix _=>l.len -(intOf ix).toNat)
 case atStart=>exact⟨0,l,xs,n,rfl,rfl,agJ,HR.o.symm,rfl,rfl,jZ.o,HAT.o,HRW.o,Ca _,.inl rfl,yt.o⟩
 case round=>
  obtain⟨k,R,ys,m,rfl,rfl,hlen,heq,hm,hys,hall,hat,hg⟩:=hrel;have HE:=ah heq;have NI:=ah (aI hm hys);have HG:=ah hg;clear heq hm hys hg;cases R with
  |nil=>
   obtain rfl:k=l.len:=aeY
   have HX:aj (res=ys∧m=n+dH l):=ah ⟨by rw[HE.o];simp[tq],by have:=NI.o.1;simpa[dH]using this⟩;clear hat hall;go_wp2_with fail
   go_ret2
   exact⟨u0,by rw[HX.o.2];rfl,by rw[HX.o.1];exact HG.o⟩
  |cons h e0 e1 R=>
   obtain⟨bl,off,sl,rfl,hbl,hin,hcs,hrest⟩:=IJ hat;have hkl:k<l.len:=acz
   obtain⟨⟨hs0,hs1⟩,uO⟩:=hall;have wQ:=ah (aI hs0 hs1);have lq:=ah uO;have Fh:=ah hin;have kL:=ah hrest;have kI:=ah hbl;have x1:=hcs 1 _ rfl;have x9:=hcs 9 _ rfl;have x10:=hcs 10 _ rfl;simp only[stA,List.getElem_toArray,List.getElem_cons_zero,List.getElem_cons_succ]at x1 x9 x10;have GR:=ah (aI x9 x10);have Ay:aj (m+(1+dH e0+dH e1+dH R)=n+dH l∧ys.length+(1+dH e0+dH e1+dH R)=xs.length+dH l):=ah (by have:=NI.o;simp only[dH]at this;exact this);have hwm:IntKind.i64.wrap ((m:Int)+1)=((m+1:Nat):Int):=by have h1:=Ay.o;have h2:=HL.o;rw[IntWalk.i64_in _ agH];omega
   clear hat hin hcs hrest hs0 hs1 uO x9 x10;have iW:aj (Below wr.heap.size wr (wr.alloc (.cells (rJ ⟨i,m,h.line⟩).toArray 45))):=ah (ak _ _);have iX:=ah (gP (heap_alloc_new wr (.cells (rJ ⟨i,m,h.line⟩).toArray 45)));have mR:=ah (nE HG.o.r iW.o);obtain⟨hi,hz0,hz1,hz2⟩:=iA.o;have hk1:ys.length+1<=maxLen:=by have h1:=Ay.o;have h2:=HL.o;unfold maxLen;omega
   have mV:(ys.length+1)*24<=140737488355328:=adg
   have hbs:B<=wr.heap.size+1:=Nat.le_succ_of_le HG.o.b;go_wp2_with (at_builtin;refine wpList_append_lies _ rfl _ _ 28 rfl B 45 i0 _ 3 24 Tryz.underlying28 hi hz0 hz1 hz2 rfl agI _ _ _ rfl mR.o ⟨wr.heap.size,0,none⟩ 1 1 (rJ ⟨i,m,h.line⟩) rfl rfl iX.o (bA7 _) agI hk1 mV aeV _ rfl ?_);intro g' cap' w3 hown hgr hmv hlt3;clear hi hz0 hz1 hz2 hk1 mV hbs x1;have S1:aj (TP B w v (ys++[⟨i,m,h.line⟩]) w3 (.slice (some ⟨g',0,none⟩) (ys.length+1) cap')):=ah (HG.o.call aan (jC (xX iW.o) hgr) (by
    rcases hmv with e|e
    ·exact .inl ahf
    ·exact .inr ⟨g',rfl,aeb⟩))
   have rH:aj (Below B wr w3):=ah (yH HG.o.r HG.o.b (jC (xX iW.o) hgr));clear hown hgr hmv hlt3 mR iX iW;have x9:=(rH.o.cell (p:=⟨bl,off+k*11+9,none⟩) kI.o).trans GR.o.1;go_wp2_with fail;refine(wQ.o.1 w3 B _ (ys++[⟨i,m,h.line⟩]) i (m+1) sl.dB sl.cu S1.o.r S1.o.b Fh.o.1.2.2.2.2.2.2.1 (Fh.o.2.2.2.1.below rH.o) aby adg).mono ?_;rintro e' w4 ⟨v4,rfl,hs4⟩;have S2:=ah (S1.o.call hs4.r hs4.g hs4.o);have K3:aj (Below B wr w4):=ah (rH.o.trans (yH S1.o.r S1.o.b hs4.g));clear hs4 x9 hwm;have x10:=(K3.o.cell (p:=⟨bl,off+k*11+10,none⟩) kI.o).trans GR.o.2;go_wp2_with fail;have h5:(tq i e0 (m+1)).length=dH e0:=ahI
   refine(wQ.o.2 w4 B _ (ys++[⟨i,m,h.line⟩]++tq i e0 (m+1)) i (m+1+dH e0) sl.iD sl.gu S2.o.r S2.o.b Fh.o.1.2.2.2.2.2.2.2 (Fh.o.2.2.2.2.below K3.o) aby adg).mono ?_;rintro e' w5 ⟨v5,rfl,hs5⟩;have S3:=ah (S2.o.call hs5.r hs5.g hs5.o);have Zx:aj (Below B wr w5):=ah (K3.o.trans (yH S2.o.r S2.o.b hs5.g));clear hs5 x10;go_wp2_with fail;go_roundw
   case rel=>
    refine⟨k+1,R,ys++[⟨i,m,h.line⟩]++tq i e0 (m+1)++tq i e1 (m+1+dH e0),m+1+dH e0+dH e1,agL,rfl,acz,?_,?_,?_,lq.o,kL.o.below Zx.o,S3.o⟩
    ·rw[HE.o,tq];simp
    ·have h1:=Ay.o;omega
    ·have h1:=Ay.o;have h5:(tq i e0 (m+1)).length=dH e0:=ahI;have h6:(tq i e1 (m+1+dH e0)).length=dH e1:=ahI;simp only[aA,aD,aW];omega
   case measure=>simp[intOf];omega
theorem YO (l:aZ):EM l:=KE l (aZ.nQ (λ_ b e hb he=>⟨KE b hb,KE e he⟩) l)
namespace Md
theorem Fy (d:De): ∀(n k:Nat),(rT d n k).length=n
 |0,_=>rfl
 |n+1,k=>by rw[rT,aD,Fy d n]
theorem Hw (d:De): ∀(n k:Nat),rT d (n+1) k=rT d n k++[⟨d.nm,((k+n:Nat):Int),d.size,d.kind==2,d.init⟩]
 |0,k=>rfl
 |n+1,k=>by rw[rT,Hw d n (k+1),rT,show k+1+n=k+(n+1) by omega];rfl
theorem Xj {d:De} (h0:0<=d.size) (h4:d.size<=4):(Hy d).length<=4:=by
 unfold Hy;rw[Fy];omega
theorem aA1 (W:Wo) (d:De) (h4:(Hy d).length<=4):(lJ W d).cs.length<=W.cs.length+4∧(lJ W d).ls.length<=W.ls.length+1∧(lJ W d).ns.length<=W.ns.length+1∧(lJ W d).fs.length<=W.fs.length+1∧(lJ W d).ts=W.ts∧(lJ W d).ss=W.ss:=by
 unfold lJ
 repeat' split
 all_goals simp only[aA,aD,aW]
 all_goals simp only[and_true,true_and]
 all_goals omega
end Md
structure GV (p:Pr) (w:World) (B bw:Nat) (aK:Option Addr) (g0:Nat) (wr:World) (s:Vs) (W:Wo) (k:Nat) (R:List De):Prop where
 len:k+R.length=p.ds.length
 eq:p.ds.foldl lJ oG=R.foldl lJ W
 ws:nI wr B bw s W
 few:W.cs.length<=4*k∧W.ls.length<=k∧W.ns.length<=k∧W.fs.length<=k∧W.ts=[]∧W.ss=[]
 at':jv wr g0 R aK k
 JF:Below g0 w wr
 ok: ∀d∈R,jw d=true∧d.size<=4
 g0:g0<=B
theorem YL {d:De} (h:jw d=true):0<=d.size:=by
 unfold jw at h;simp only[aP,decide_eq_true_eq]at h;exact h.1.2.1
theorem GV.next {p:Pr} {w wr w6:World} {B bw g0 k:Nat} {aK:Option Addr} {s s':Vs} {W:Wo} {d:De} {R:List De} (h:GV p w B bw aK g0 wr s W k (d::R)) (hw:nI w6 B bw s' (lJ W d)) (hb:Below g0 wr w6):GV p w B bw aK g0 w6 s' (lJ W d) (k+1) R:=by
 obtain⟨f1,f2,f3,f4,f6,f7⟩:=h.few;obtain⟨o1,o2⟩:=h.ok d aX;obtain⟨e1,e2,e3,e4,e5,e6⟩:=aA1 W d (Xj (YL o1) o2);exact {len:=adV,eq:=h.eq,ws:=hw,few:=⟨agH,agH,agH,agH,e5.trans f6,e6.trans f7⟩,at':=h.at'.2.below hb,JF:=h.JF.trans hb,ok:=λx hx=>h.ok x (aY _ hx),g0:=h.g0}
theorem nI.bt5 {w w5:World} {B bw j:Nat} {s s':Vs} {W W':Wo} {pre post:List Rw} {r:Rw} {v':Value} {n':Nat} {xs':List Value} (h:nI w B bw s W) (e1:gY s W=pre++r::post) (hg:w.grownBy w5 r.v.ownBlock) (ho:nM w r.v v')
 (hown:w5.ownsRow B r.T r.m v' n' xs') (e2:gY s' W'=pre++⟨r.T,r.m,v',n',xs'⟩::post)
 (hc:(#[s.v0,s.v1,s.v2,s.v3,s.v4,s.v5]:Array Value).setIfInBounds j v'= #[s'.v0,s'.v1,s'.v2,s'.v3,s'.v4,s'.v5]):
 nI (w5.setCell ⟨bw,j,none⟩ v') B bw s' W'∧(∀g0,g0<=bw->Below g0 w (w5.setCell ⟨bw,j,none⟩ v'))∧w5.heap[bw]? =w.heap[bw]?:=by
 have hrow:r.Ok w B:=h.row.own r (by rw[e1];simp);have hlt:=h.lt;have hsz:=h.sz;have hne:r.v.ownBlock≠some bw:=λe=>by have:=(hrow.lt _ e).1;omega
 have hbk:w5.heap[bw]? =w.heap[bw]?:=hg.block _ (aO h.blk) (λe=>hne e.symm);refine⟨h.grow (r':=⟨r.T,r.m,v',n',xs'⟩) hg e1 e2 hown ho hc,λg0 h0=> ?_,hbk⟩;have h5:Below g0 w w5:=⟨hg.os,hg.tape,hg.output,hg.size,λk hk=>hg.block k agH (λe=>adk)⟩;exact h5.trans (cK (bU _ _ _) h0 (aJ agH hg.size))
def P1 (w4:World) (a:Addr) (v:Value):List Bool->World->Prop
 | [x],w'=>w'=(if x then w4.setCell a v else w4)
 |_,_=>False
theorem P1.bits {w4:World} {a:Addr} {v:Value} : ∀ {c:List Bool} {w':World},P1 w4 a v c w'->∃x,c=[x]
 | [x],_,_=>⟨x,rfl⟩
 | [],_,h=>h.elim
 |_::_::_,_,h=>h.elim
theorem P1.skip {w4:World} {a:Addr} {v:Value} {a1 i:Nat} {c:List Bool} {w':World} (h1:(a1==i)=false) (h:P1 w4 a v c w'):P1 w4 a v (jh [a1] c i) w':=by
 obtain⟨x,rfl⟩:=h.bits;simp only[jh,h1,Bool.or_false];exact h
theorem P1.st {w4:World} {a:Addr} {v:Value} {a1 i:Nat} {w':World} (h1:(a1==i)=true) (h:P1 w4 a v [false] w'):P1 w4 a v (jh [a1] [false] i) (w'.setCell a v):=by
 simp only[jh,h1,Bool.or_true];have h:w'=w4:=h;subst h;rfl
def vsO (W:Wo) (s:jS):Vs:=⟨.slice s.aC W.cs.length s.cC,.slice s.aL W.ls.length s.cL,.slice s.aN W.ns.length s.cN,.slice s.aF W.fs.length s.cF,.slice s.aT W.ts.length s.cT,.slice s.aS W.ss.length s.cS⟩
def an5 (w w':World) (W:Wo) (s:jS):Prop:= ∃B,w.heap.size<=B∧Rows w' B (gY (vsO W s) W)
theorem YF (w w':World):an5 w w' oG ⟨none,none,none,none,none,none,0,0,0,0,0,0⟩:=
 ⟨_,aB _,λr hr=>by simp only[gY,List.mem_cons,List.not_mem_nil,or_false]at hr;rcases hr with rfl|rfl|rfl|rfl|rfl|rfl <;> exact World.ownsRow_nil _ _ _ _,by simp[gY,vsO,Apart,Value.ownBlock]⟩
theorem Wj (p:Pr) (w:World) (aK aM:Option Addr) (aH aG:Nat) (hp:p.At w aK aM) (Gh:p.ds.length<=aH) (JM:p.ts.length<=aG) (jM:zm p.ts<=1000000000000):
 Calls Tryz.prog 4 #[.agg #[.slice aK p.ds.length aH,.slice aM p.ts.length aG]] w λe w'=> ∃s,e= .returned (nD (wD p) s)∧iP w' w'.heap.size (wD p) s∧Below w.heap.size w w'∧OV w.heap.size s∧an5 w w' (wD p) s:=by
 have HP:=ah hp;have Nz:=ah jM;have Gz:=ah (aI Gh JM);have HL:=ah (aI hp.1 hp.2.1);clear hp Gh JM jM;go_enter Tryz.func4,Tryz.ntmps4;go_upto_region 2 with fail;generalize hW:World.alloc (World.alloc (World.alloc w _) _) _=w1;obtain⟨bp,hbp⟩: ∃n,w.heap.size=n:=⟨_,rfl⟩;have HB1:aj (Below w.heap.size w w1):=ah aaC;have mU:aj (w1.heap.size=bp+3):=ah (by rw[<- hW,<- hbp];simp);have EH:aj (w1.heap[bp]? =some (.cells #[.slice aK p.ds.length aH,.slice aM p.ts.length aG] 35 (0,0))):=ah aad;have oI:aj (w1.heap[bp+1]? =some (.cells #[.slice none 0 0,.slice none 0 0,.slice none 0 0,.slice none 0 0,.slice none 0 0,.slice none 0 0] 30 (0,0))):=ah χ;have WY:aj (w1.heap[bp+2]? =some (.cells #[.slice none 0 0,.slice none 0 0,.slice none 0 0,.slice none 0 0,.slice none 0 0,.slice none 0 0] 30 (0,0))):=ah ο;have Aw:=ah hbp;rw[hbp];rw[show bp+1+1=bp+2 from rfl];clear hW hbp;obtain⟨y0,y1⟩:=rU EH.o;go_wp2_with fail;refine(EK p w1 aK aM aH aG (HP.o.same HB1.o) Gz.o.1 Gz.o.2).mono ?_;rintro e w3 ⟨rfl,hb2⟩;have HB2:=ah hb2;clear hb2 y0 y1;have CB:=jV HB2.o EH;have xS:=jV HB2.o oI;have V6:=jV HB2.o WY;clear EH oI WY;have JB:aj (wD p=if(ko p).1==0 then ng p else oG):=ah rfl;have yA:=ah (yK (p:=p));have WV:=ah (at0 (p:=p));generalize (ko p).1=er at *;generalize (ko p).2=ln at *;obtain⟨y0,y1⟩:=rU CB.o;cases her:(er==0)
 ·have hne:(er != 0)=true:=by rw[bne,her];rfl
  have qm:aj (wD p=oG):=ah (JB.o.trans (by rw[her];rfl));obtain⟨c0,c1,c2,c3,c4,c5⟩:=uj V6.o;obtain⟨r0,r1,r2,r3,r4,r5⟩:=uj xS.o;have f0:=λj=>bK (o:=j) xS.o;go_wp2_with fail;show bodyPost _ _ _ _ _ (World.setCells w3 (bp+1) 0 [.slice none 0 0,.slice none 0 0,.slice none 0 0,.slice none 0 0,.slice none 0 0,.slice none 0 0]);have Lg:=ah (nC (vs:=[.slice none 0 0,.slice none 0 0,.slice none 0 0,.slice none 0 0,.slice none 0 0,.slice none 0 0]) xS.o rfl);have KX:aj (Below w.heap.size w (World.setCells w3 (bp+1) 0 [.slice none 0 0,.slice none 0 0,.slice none 0 0,.slice none 0 0,.slice none 0 0,.slice none 0 0])):=ah (HB1.o.trans ((HB2.o.mono HB1.o.size).trans (cK (eD _ _ _ _) afd adB)));generalize JL:World.setCells w3 _ _ _=wz at *;obtain⟨o0,o1,o2,o3,o4,o5⟩:=uj Lg.o;clear JL;exact bodyPost_ret (v:=nD oG ⟨none,none,none,none,none,none,0,0,0,0,0,0⟩) (by simp[results,Tryz.results4,go_sem,nD,oG,o0,o1,o2,o3,o4,o5]) rfl ⟨⟨none,none,none,none,none,none,0,0,0,0,0,0⟩,by rw[qm.o],aae,KX.o,⟨(λb e=>agY),(λb e=>agY),(λb e=>agY),(λb e=>agY),(λb e=>agY),(λb e=>agY)⟩,by rw[qm.o];exact YF _ _⟩
 ·have hne:(er != 0)=false:=by rw[bne,her];rfl
  have h0:er=0:=by simpa using her
  have HWP:aj (wD p=yQ (p.ds.foldl lJ oG) 0 p.ts):=ah (JB.o.trans (by rw[her,if_pos rfl];rfl));have bs2:aj (IU p.ds oG (λ_=>0)=p.ds.foldl lJ oG):=ah (WV.o h0);have Tf:=ah (yA.o h0);have Cm:aj (p.ds.length<=20∧p.ts.length<=4∧∀d∈p.ds,jw d=true∧d.size<=4):=ah Θ;clear JB yA WV;have hdl:p.ds.length<=20:=Cm.o.1;have htl:p.ts.length<=4:=Cm.o.2.1;have lQ:aj (bp+3<=w3.heap.size):=ah (by have h1:=HB2.o.size;have h2:=mU.o;omega);have Fj:=ah CB.o;have Fp:=ah xS.o;have Ec:=ah HB2.o;clear y0 y1 CB xS HB2;have HST:aj (GV p w3 w3.heap.size (bp+2) aK (bp+2) w3 ⟨.slice none 0 0,.slice none 0 0,.slice none 0 0,.slice none 0 0,.slice none 0 0,.slice none 0 0⟩ oG 0 p.ds):=ah
   {len:=agJ,eq:=rfl
    ws:=⟨V6.o,⟨λr hr=>by
     simp only[gY,List.mem_cons,List.not_mem_nil,or_false]at hr;rcases hr with rfl|rfl|rfl|rfl|rfl|rfl <;> exact World.ownsRow_nil _ _ _ _,by
     simp[gY,Apart,Value.ownBlock]⟩,afi,aB _⟩
    few:=⟨ahu,ahu,ahu,ahu,rfl,rfl⟩
    at':=(HP.o.2.2.1.below (HB1.o.trans (Ec.o.mono HB1.o.size))).mono afd
    JF:=au _ _
    ok:=Cm.o.2.2
    g0:=afi}
  go_wp2_with fail;go_loopw [6,7,8] (λi _ _ wr=> ∃(k:Nat) (R:List De) (s:Vs) (W:Wo),i= .int .i64 k∧GV p w3 w3.heap.size (bp+2) aK (bp+2) wr s W k R) (λi _ _ _=>p.ds.length -(intOf i).toNat)
  case atStart=>exact⟨0,p.ds,_,_,rfl,HST.o⟩
  case round=>
   obtain⟨k,R,s,W,rfl,hR⟩:=hrel;have HR:=ah hR;have hlen:=hR.len;have ZJ:=ah ((hR.JF.block bp agH).trans Fj.o);clear hR HST;have y0:=aQ (j:=0) ZJ.o rfl;cases R with
   |nil=>
    obtain rfl:k=p.ds.length:=aeQ;have GA:aj (wD p=yQ W 0 p.ts):=ah (by rw[HWP.o,HR.o.eq];rfl);have HW0:aj (W.ts=[]∧W.ss=[]):=ah ⟨HR.o.few.2.2.2.2.1,HR.o.few.2.2.2.2.2⟩;have FZ:=ah HR.o.JF;have sJ:aj (iG wr (bp+2) p.ts aM 0):=ah (((HP.o.2.2.2.below (HB1.o.trans (Ec.o.mono HB1.o.size))).mono afd).below FZ.o);have HTO:=ah (Jj HP.o.2.2.2);have JA:aj ((∀c∈W.cs,bY c.sz)∧(∀x∈W.fs,x.size<=maxLen)):=ah (by have:=Sd p.ds oG (λ_=>0) (MR HP.o.2.2.1) (λc hc=>by cases hc) (λx hx=>ahB);rw[bs2.o,HR.o.eq]at this;exact this);have Lc:aj (W.cs.length<=80∧W.ls.length<=20∧W.ns.length<=20∧W.fs.length<=20):=ah aeZ;have jF:=ah HR.o.ws;have HG0:aj (bp+2<=w3.heap.size):=ah HR.o.g0;clear HR;go_wp2_with fail;clear y0;go_loopw [9] (λi wq=> ∃(k:Nat) (R:List Th) (s:Vs) (W':Wo),i= .int .i64 k∧k+R.length=p.ts.length∧wD p=yQ W' k R∧nI wq w3.heap.size (bp+2) s W'∧iG wq (bp+2) R aM k∧Below (bp+2) w3 wq∧W'.ts.length=k∧W'.ss.length+zm R<=zm p.ts∧(W'.cs=W.cs∧W'.ls=W.ls∧W'.ns=W.ns∧W'.fs=W.fs)) (λi _=>p.ts.length -(intOf i).toNat)
    case atStart=>exact⟨0,p.ts,s,W,rfl,agJ,GA.o,jF.o,sJ.o,FZ.o,by rw[HW0.o.1];rfl,by rw[HW0.o.2];simp,rfl,rfl,rfl,rfl⟩
    case round=>
     obtain⟨k,R,s,W',rfl,BP,heq,hws,hth,hbel,hts,hss,hsame⟩:=hrel;have HE:=ah heq;have HS:=ah hws;have HB:=ah hbel;have mg:=ah (aI hts (aI hss hsame));clear heq hws hbel hts hss hsame sJ jF;have ZI:=ah ((HB.o.block bp agH).trans Fj.o);have y1:=aQ (j:=1) ZI.o rfl;cases R with
     |nil=>have Ny:aj (wD p=W'):=ah HE.o;have uZ:=ah ((HB.o.block (bp+1) agH).trans Fp.o);obtain⟨a0,a1,a2,a3,a4,a5,p0,p1,p2,p3,p4,p5,rfl⟩:=HS.o.six;obtain⟨hbw,c0,c1,c2,c3,c4,c5,cf⟩:=HS.o.cells;dsimp only at c0 c1 c2 c3 c4 c5;clear cf hth;obtain⟨r0,r1,r2,r3,r4,r5⟩:=uj uZ.o;have rf:=λj=>bK (o:=j) uZ.o;have rf0:=rf 0;have rf1:=rf 1;have rf2:=rf 2;have rf3:=rf 3;have rf4:=rf 4;have rf5:=rf 5;clear rf;go_wp2_with fail;show bodyPost _ _ _ _ _ (World.setCells wr (bp+1) 0 [.slice a0 W'.cs.length p0,.slice a1 W'.ls.length p1,.slice a2 W'.ns.length p2,.slice a3 W'.fs.length p3,.slice a4 W'.ts.length p4,.slice a5 W'.ss.length p5]);have Lg:=ah (nC (vs:=[.slice a0 W'.cs.length p0,.slice a1 W'.ls.length p1,.slice a2 W'.ns.length p2,.slice a3 W'.fs.length p3,.slice a4 W'.ts.length p4,.slice a5 W'.ss.length p5]) uZ.o rfl);have rQ:aj (wr.grownBy (World.setCells wr (bp+1) 0 [.slice a0 W'.cs.length p0,.slice a1 W'.ls.length p1,.slice a2 W'.ns.length p2,.slice a3 W'.fs.length p3,.slice a4 W'.ts.length p4,.slice a5 W'.ss.length p5]) (some (bp+1))):=ah (eD _ _ _ _);have KX:aj (Below w.heap.size w (World.setCells wr (bp+1) 0 [.slice a0 W'.cs.length p0,.slice a1 W'.ls.length p1,.slice a2 W'.ns.length p2,.slice a3 W'.fs.length p3,.slice a4 W'.ts.length p4,.slice a5 W'.ss.length p5])):=ah ((HB1.o.trans (Ec.o.mono HB1.o.size)).trans ((HB.o.mono afd).trans (cK rQ.o afd abz)));have sI:=ah (HS.o.keep rQ.o (by have h3:=HS.o.lt;omega) agH);generalize JL:World.setCells wr _ _ _=wz at *;obtain⟨o0,o1,o2,o3,o4,o5⟩:=uj Lg.o;clear JL;have UR:aj (w.heap.size<=w3.heap.size):=ah adW;have ZG:aj (∀x∈W'.ts,x.size<=maxLen):=ah Ω;have Zk:aj (iP wz wz.heap.size W' ⟨a0,a1,a2,a3,a4,a5,p0,p1,p2,p3,p4,p5⟩):=ah (sI.o.aW4 ⟨⟨ace,abQ,abF⟩,abE,aeB,abS⟩ aed ZG.o aeF);exact bodyPost_ret (v:=nD W' ⟨a0,a1,a2,a3,a4,a5,p0,p1,p2,p3,p4,p5⟩) (by simp[results,Tryz.results4,go_sem,nD,o0,o1,o2,o3,o4,o5]) rfl ⟨⟨a0,a1,a2,a3,a4,a5,p0,p1,p2,p3,p4,p5⟩,by rw[Ny.o],by rw[Ny.o];exact Zk.o,KX.o,sI.o.at1 UR.o,_,UR.o,by rw[Ny.o];exact sI.o.row⟩
     |cons t R=>
      obtain⟨⟨b,off,iU,eU,dB,cu,hao,lV,x0,x1,x2,x3,hok,htx,hst,hcl⟩,hrest⟩:=hth;have Av:=ah hao;subst hao;simp only[aD]at BP;have hkl:k<p.ts.length:=agH;have kL:=ah hrest;have uE:=ah (aI hst hok.2.2.2);have Ck:aj (W'.ss.length+(dH t.body+zm R)<=zm p.ts):=ah mg.o.2.1;have Cz:=ah x3;have Dl:=ah lV;have yt:aj (b<wr.heap.size):=ah adD;obtain⟨a4,p4,h4,-,-,-⟩:=eY uy (HS.o.own (r:=⟨9,1,s.v4,W'.ts.length,W'.ts.flatMap Md.jY⟩) aaG);have h4:s.v4= .slice a4 W'.ts.length p4:=h4;have WS:=ah h4;have c4:=HS.o.cells.2.2.2.2.2.1;rw[h4]at c4;have HC4:=ah (aI HS.o.cells.1 c4);have HN3:aj (bp<wr.heap.size):=ah (aO ZI.o);clear hrest hok htx hst hcl h4 x1 x2 x3 lV;go_wp2_with fail;have V4:=lG HC4.o.1 HC4.o.2;have Y1:=lG HN3.o y1;have X0:=lG yt.o x0;have k0:(0:Int)<=(k:Int):=agH;have k1:(k:Int)<(p.ts.length:Int):=agH;clear y1 x0 c4;refine eu agG rfl ?_;refine dD 0 9 [] [[],[0],[],[2],[],[2,3,4],[2,3,4,5],[2,3,4,5,6],[2,3,4,5,6,7],[0,1,2,3,4,5,6,7,8],[0,1,2,3,4,5,6,7,8,9],[0,1,2,3,4,5,6,7,8,9,10]] [[],[],[],[],[],[],[],[],[]] (λ_ w'=>Below wr.heap.size wr w') (λw w'=>Below w.heap.size w w') [101,102,103,104,105,106,107,108,109] rfl rfl ahS agG agG agG agG agG ahS (λ_=>au _ _) ahS (below_drewN (au _ _) 1) ?_;simp only[jH,nY]
      iterate 8
       apply bZ.step
       case bL=>intro c A w' hok hC hO hD;have e3:=hO 3 ahS;have e1:=hO 1 ahS;have e9:=hO 9 ahS;simp[Act.eval]at e3 e1 e9;simp[Act.eval]at hD;simp[go_sem,gd,Oper.wp,hD,e3,e1,e9,V4,hC,Y1,k0,k1,X0];exact AaH
       try simp only[dY]
      refine bZ.some (λv w'=> ∃g,v= .slice (some ⟨g,0,none⟩) 1 1∧∀j u,(Md.jY t.nm)[j]? =some u->w'.cell? ((⟨g,0,none⟩:Addr).add j)=some u) ?_ ?_ ?_
      ·rintro v wa wb hle ⟨g,h1,h2⟩;exact⟨g,h1,λj u hu=>(hle.cell (World.block_lt_of_cell? _ _ (h2 j u hu))).trans (h2 j u hu)⟩
      ·intro c A w' hok hC hO hD;simp[Act.eval]at hD;simp[go_sem,gd,Oper.wp,hD];exact aV.mk (ak _ _) (hC.trans ((ak _ _).mono hC.size)) ⟨_,rfl,λj u hu=>aQ (heap_alloc_new w' (.cells (List.toArray (Md.jY t.nm)) 9)) ahN⟩
      try simp only[dY]
      try simp only[dY]
      refine bZ.done ?_;intro wz dL
      try simp only[jH]
      iterate 8 refine tH ?_
      intro v8 h8;obtain⟨gc,rfl,hnews⟩:=h8;refine xO ?_;go_simp;have qm:=ah (HS.o.below dL);have uF:aj (Below (bp+2) wr wz):=ah (dL.mono adD);clear V4 Y1 X0 dL;refine dZ 9 [[],[0],[],[2],[],[2,3,4],[2,3,4,5],[2,3,4,5,6],[2,3,4,5,6,7],[0,1,2,3,4,5,6,7,8],[0,1,2,3,4,5,6,7,8,9],[0,1,2,3,4,5,6,7,8,9,10]] rfl rfl rfl rfl rfl agG agG agG ?_;obtain⟨i0,hi0,hz0,hz1,hz2⟩:=infoP LW;have hkt:W'.ts.length<=1000:=(by have:=mg.o.1;omega);refine wp_append_lies wz _ _ _ ahS w3.heap.size 9 i0 _ 1 16 Tryz.underlying27 hi0 hz0 hz1 hz2 ahS agH (.slice a4 W'.ts.length p4) W'.ts.length (W'.ts.flatMap Md.jY) ahS (show wz.ownsRow _ _ _ _ _ _ by rw[<- WS.o];exact qm.o.own (r:=⟨9,1,s.v4,W'.ts.length,W'.ts.flatMap Md.jY⟩) agT) ⟨gc,0,none⟩ 1 1 (Md.jY t.nm) ahS ahS hnews (tx1 _) agI aeS agH qm.o.sz _ rfl ?_;intro g' cap' w5 hown hgr hmv jQ;have dU:=ah (qm.o.add (s':= {s with v4:= .slice (some ⟨g',0,none⟩) (W'.ts.length+1) cap'}) (W':= {W' with ts:=W'.ts++[t.nm]}) (pre:=[_,_,_,_]) (r:=⟨9,1,s.v4,W'.ts.length,W'.ts.flatMap Md.jY⟩) (post:=[_]) (j:=4) (au _ _) rfl (by rw[WS.o];exact hgr) (by rw[WS.o];exact hmv) hown agT rfl);have cj:=dU.o.2.2.1.trans qm.o.cells.2.2.2.2.2.1;have fj:=dU.o.2.2.2.1 4;clear hown hgr hmv jQ hnews hi0 hz0 hz1 hz2 hkt;rw[WS.o]at cj;go_simp;refine dZ 10 [[],[0],[],[2],[],[2,3,4],[2,3,4,5],[2,3,4,5,6],[2,3,4,5,6,7],[0,1,2,3,4,5,6,7,8],[0,1,2,3,4,5,6,7,8,9],[0,1,2,3,4,5,6,7,8,9,10]] rfl rfl rfl rfl rfl agG agG agG ?_;simp[go_sem,Oper.wp];refine dZ 11 [[],[0],[],[2],[],[2,3,4],[2,3,4,5],[2,3,4,5,6],[2,3,4,5,6,7],[0,1,2,3,4,5,6,7,8],[0,1,2,3,4,5,6,7,8,9],[0,1,2,3,4,5,6,7,8,9,10]] rfl rfl rfl rfl rfl agG agG agG ?_;simp[go_sem,Oper.wp,cj,fj];refine fU rfl ?_;go_simp;generalize sO:World.setCell w5 _ _=w6 at *;have sH:=ah dU.o.1;have dw:aj (Below (bp+2) wr w6):=ah (uF.o.trans (dU.o.2.1 _ (aB _)));clear cj fj sO dU WS HC4;generalize ({s with v4:= .slice (some ⟨g',0,none⟩) (W'.ts.length+1) cap'} :Vs)=s6 at *;have aH9:=ah ((dw.o.block bp agH).trans ZI.o);have y1:=aQ (j:=1) aH9.o rfl;have x3:=(dw.o.cell (p:=⟨b,off+k*4+3,none⟩) Dl.o).trans Cz.o;have HAP:=ah hkl;obtain⟨a5,p5,h5,-,-,-⟩:=eY Cg (sH.o.own (r:=⟨45,3,s6.v5,W'.ss.length,W'.ss.flatMap rJ⟩) aaG);have h5:s6.v5= .slice a5 W'.ss.length p5:=h5;have HV5:=ah h5;have c5:=sH.o.cells.2.2.2.2.2.2.1;rw[h5]at c5;have Nv:=ah (aI sH.o.cells.1 c5);have HN6:aj (bp<w6.heap.size):=ah (aO aH9.o);have bp1:aj (b<w6.heap.size):=ah (aR yt.o dw.o.size);clear h5;go_wp2_with fail;have V5:=lG Nv.o.1 Nv.o.2;have Y1:=lG HN6.o y1;have X3:=lG bp1.o x3;clear y1 x3 c5;refine eu agG rfl ?_;refine dD 0 9 [] [[],[0],[],[],[3],[],[3,4,5],[3,4,5,6],[3,4,5,6,7],[0,1,2,3,4,5,6,7,8],[0,1,2,3,4,5,6,7,8,9],[0,1,2,3,4,5,6,7,8,9,10],[0,1,2,3,4,5,6,7,8,9,10],[0,1,2,3,4,5,6,7,8,9,10,11],[0,1,2,3,4,5,6,7,8,9,10,11,13]] [[],[],[],[],[],[],[],[],[]] (λ_ w'=>Below w6.heap.size w6 w') (λw w'=>Below w.heap.size w w') [113,114,115,116,117,118,119,120,121] rfl rfl ahS agG agG agG agG agG ahS (λ_=>au _ _) ahS (below_drewN (au _ _) 1) ?_;simp only[jH,nY]
      iterate 9
       apply bZ.step
       case bL=>intro c A w' hok hC hO hD;have e3:=hO 3 ahS;have e9:=hO 9 ahS;have e1:=hO 1 ahS;simp[Act.eval]at e3 e9 e1;simp[Act.eval]at hD;simp[go_sem,gd,Oper.wp,hD,e3,e9,e1,V5,hC,Y1,k0,k1,X3];exact AaH
       try simp only[dY]
      try simp only[dY]
      refine bZ.done ?_;intro wz dL
      try simp only[jH]
      iterate 9 refine tH ?_
      refine xO ?_;go_simp;have qm:=ah (sH.o.below dL);have aB4:aj (Below (bp+2) w6 wz):=ah (dL.mono (by have h1:=sH.o.lt;have h2:=sH.o.sz;omega));clear V5 Y1 X3 dL;refine dZ 9 [[],[0],[],[],[3],[],[3,4,5],[3,4,5,6],[3,4,5,6,7],[0,1,2,3,4,5,6,7,8],[0,1,2,3,4,5,6,7,8,9],[0,1,2,3,4,5,6,7,8,9,10],[0,1,2,3,4,5,6,7,8,9,10],[0,1,2,3,4,5,6,7,8,9,10,11],[0,1,2,3,4,5,6,7,8,9,10,11,13]] rfl rfl rfl rfl rfl agG agG agG ?_;simp[go_sem,Oper.wp];have hss:W'.ss.length+dH t.body<=1000000000000:=(by have h1:=Ck.o;have h2:=Nz.o;omega);refine(YO t.body wz w3.heap.size (.slice a5 W'.ss.length p5) W'.ss k 0 dB cu (by rw[<- HV5.o];exact qm.o.own (r:=⟨45,3,s6.v5,W'.ss.length,W'.ss.flatMap rJ⟩) agT) qm.o.sz uE.o.2 ((((uE.o.1.below dw.o).below aB4.o)).mono (by have h6:=sH.o.lt;omega)) hss agH).mono ?_;rintro e w7 ⟨v7,rfl,hsg⟩;obtain⟨a7,p7,JN,-,-,-⟩:=eY Cg hsg.r;have hv7:v7= .slice a7 (W'.ss++tq k t.body 0).length p7:=JN;clear JN;obtain⟨n7,hn7⟩: ∃n7,(W'.ss++tq k t.body 0).length=n7:=⟨_,rfl⟩;rw[hn7]at hv7;subst hv7;clear hn7;have dU:=ah (qm.o.bt5 (s':= {s6 with v5:=(.slice a7 n7 p7)}) (W':= {W' with ts:=W'.ts++[t.nm],ss:=W'.ss++tq k t.body 0}) (pre:=[_,_,_,_,_]) (r:=⟨45,3,s6.v5,W'.ss.length,W'.ss.flatMap rJ⟩) (post:=[]) (j:=5) (v':=(.slice a7 n7 p7)) rfl (by rw[HV5.o];exact hsg.g) (by rw[HV5.o];exact hsg.o) hsg.r agT rfl);have Gv:aj (w7.heap[bp+2]? =some (.cells #[s6.v0,s6.v1,s6.v2,s6.v3,s6.v4,s6.v5] 30 (0,0))):=ah (dU.o.2.2.trans qm.o.blk);clear hsg hss;go_simp;refine dZ 10 [[],[0],[],[],[3],[],[3,4,5],[3,4,5,6],[3,4,5,6,7],[0,1,2,3,4,5,6,7,8],[0,1,2,3,4,5,6,7,8,9],[0,1,2,3,4,5,6,7,8,9,10],[0,1,2,3,4,5,6,7,8,9,10],[0,1,2,3,4,5,6,7,8,9,10,11],[0,1,2,3,4,5,6,7,8,9,10,11,13]] rfl rfl rfl rfl rfl agG agG agG ?_;simp[go_sem,Oper.wp];refine dD 11 15 [14] [[],[0],[],[],[3],[],[3,4,5],[3,4,5,6],[3,4,5,6,7],[0,1,2,3,4,5,6,7,8],[0,1,2,3,4,5,6,7,8,9],[0,1,2,3,4,5,6,7,8,9,10],[0,1,2,3,4,5,6,7,8,9,10],[0,1,2,3,4,5,6,7,8,9,10,11],[0,1,2,3,4,5,6,7,8,9,10,11,13]] [[some false],[none],[some false],[some false]] (P1 w7 ⟨bp+2,5,none⟩ (.slice a7 n7 p7)) (λ_ _=>True) [123,124,125] rfl rfl ahS agG agG agG agG agG ahS (λ_=>trivial) ahS rfl ?_;simp only[jH,nY]
      iterate 3
       apply bZ.step
       case bL=>intro c A w' hok hC hO hD;have aK7:=hO 112 ahS;have e3:=hO 3 ahS;simp[Act.eval]at aK7 e3;simp[Act.eval]at hD;simp[go_sem,gd,Oper.wp,hD,aK7,e3];exact aV.mk trivial (P1.skip ahS hC) (cB.mk _ _)
       try simp only[dY]
      refine bZ.some (λ_ _=>True) (λ_ _ _ _ _=>trivial) ?_ ?_
      ·intro c A' w' hok hC hO hD;obtain⟨x,rfl⟩:=hC.bits;obtain rfl:x=false:=hok.1;simp[Act.eval]at hD;have hw':w'=w7:=hC;have hbk:w'.heap[bp+2]? =some (.cells #[s6.v0,s6.v1,s6.v2,s6.v3,s6.v4,s6.v5] 30 (0,0)):=(by rw[hw'];exact Gv.o);have hcl:w'.cell? ⟨bp+2,5,none⟩=some s6.v5:=aQ hbk rfl;have hfr:w'.frozen? ⟨bp+2,5,none⟩=false:=bK hbk;rw[HV5.o]at hcl;simp[go_sem,gd,Oper.wp,hD,hcl,hfr];exact aV.DY (v:=undef) trivial (P1.st ahS hC) trivial
      try simp only[dY]
      try simp only[List.drop_succ_cons,List.drop_zero]
      refine bZ.done ?_;intro w8 hC8;simp only[List.drop_succ_cons,List.drop_zero];intro v0 h0 v1 h1 v2 h2 v3 h3;clear h0 h1 h2 h3;refine eO.nil ?_;refine fU rfl ?_;have HW8:aj (w8=w7.setCell ⟨bp+2,5,none⟩ (.slice a7 n7 p7)):=ah hC8;clear hC8;go_simp;have HWN:aj (nI w8 w3.heap.size (bp+2) {s6 with v5:=(.slice a7 n7 p7)} {W' with ts:=W'.ts++[t.nm],ss:=W'.ss++tq k t.body 0}):=ah (by rw[HW8.o];exact dU.o.1);have qH:aj (Below (bp+2) wr w8):=ah (dw.o.trans (aB4.o.trans (by rw[HW8.o];exact dU.o.2.1 _ (aB _))));have HSL:aj ((tq k t.body 0).length=dH t.body):=ah ahI;clear dU HW8 Gv;go_wp2_with fail;go_roundw
      case rel=>exact⟨k+1,R,_,_,agL,agH,HE.o,HWN.o,kL.o.below qH.o,HB.o.trans qH.o,adT,abZ,mg.o.2.2⟩
      case measure=>simp[intOf];omega
   |cons d R=>
    obtain⟨⟨b,off,rfl,lV,x0,x1,x2,x3,x4,x5,hok⟩,hrest⟩:=HR.o.at';simp only[aD]at hlen;have hkl:k<p.ds.length:=agH;have hsd:=wO (HR.o.ok d aX).1;have hs4:=(HR.o.ok d aX).2;have kK:=ah hok;clear hrest hok;go_upto_region 9 with fail;generalize um:World.alloc wr _=w4;obtain⟨nb,hnb,dR,-,oH,-⟩:=qD um;have fC:aj (w3.heap.size<=nb∧nb<w4.heap.size):=ah ⟨by rw[<- hnb];exact HR.o.ws.sz,(aO oH.o)⟩;have jF:=ah (HR.o.ws.below dR.o);rw[hnb];have Ey:aj (s.v0.ownBlock≠some nb):=ah (λe=>by have:=((HR.o.ws.own (r:=⟨39,5,s.v0,W.cs.length,W.cs.flatMap kM⟩) agT).lt nb e).2;omega);clear um hnb x0 x1 x2 x3 x4 x5;obtain⟨z0,z1,z2,z3,z4,z5⟩:=uj oH.o;have hk:=(show d.kind=1∨d.kind=2∨d.kind=3∨d.kind=4∨d.kind=5∨d.kind=6 by omega);have WG:=ah hk;have hcap:4*k<=80:=agH;have Nw:=ah hcap;have hbp:bp+2<=bp+2:=aB _;rcases hk with hk|hk|hk|hk|hk|hk
    case inr.inr.inr.inr.inr=>
     have HK:=ah hk;obtain⟨sP,sQ,sS,sU,sV,sW⟩:=kd6 hk;clear hk;have uf:aj (lJ W d= {W with fs:=W.fs++[d.nm]}):=ah afo;have qj:aj (Below (bp+2) wr w4):=ah (dR.o.mono aaJ);obtain⟨pR,pV,iC,-,-,-⟩:=eY uy (jF.o.own (r:=⟨9,1,s.v3,List.length W.fs,List.flatMap Md.jY W.fs⟩) aaG);have iC:s.v3= .slice pR (List.length W.fs) pV:=iC;have nA:=ah iC;obtain⟨hbw,c0,c1,c2,c3,c4,c5,cf⟩:=jF.o.cells;have fj:=cf 3;rw[iC]at c3;have iW:aj (Below w4.heap.size w4 (w4.alloc (.cells (List.toArray (Md.jY d.nm)) 9))):=ah (ak _ _);have iX:=ah (gP (heap_alloc_new w4 (.cells (List.toArray (Md.jY d.nm)) 9)));have mR:=ah (nE (show w4.ownsRow w3.heap.size 9 1 (.slice pR (List.length W.fs) pV) (List.length W.fs) (List.flatMap Md.jY W.fs) by rw[<- iC];exact jF.o.own (r:=⟨9,1,s.v3,List.length W.fs,List.flatMap Md.jY W.fs⟩) aaG) iW.o);obtain⟨i0,hi,hz0,hz1,hz2⟩:=infoP LW;have hk0:List.length W.fs<=1000000000000:=aeZ;have hk1:List.length W.fs+1<=maxLen:=aeS;have mV:(List.length W.fs+1)*16<=140737488355328:=agH;have hbs:w3.heap.size<=w4.heap.size+1:=Nat.le_succ_of_le jF.o.sz;clear iC cf;go_wp2_with (at_builtin;refine wpList_append_lies _ rfl _ _ 27 rfl w3.heap.size 9 i0 _ 1 16 Tryz.underlying27 hi hz0 hz1 hz2 rfl agI _ _ _ rfl mR.o ⟨w4.heap.size,0,none⟩ 1 1 (Md.jY d.nm) rfl rfl iX.o (tx1 _) agI hk1 mV aeV _ rfl ?_);clear hi hz0 hz1 hz2 hk0 hk1 mV hbs;intro g' cap' w5 hown hgr hmv jQ;have dU:=ah (jF.o.add (s':= {s with v3:= .slice (some ⟨g',0,none⟩) (W.fs.length+1) cap'}) (W':=lJ W d) (pre:=[_,_,_]) (r:=⟨9,1,s.v3,W.fs.length,W.fs.flatMap Md.jY⟩) (post:=[_,_]) (j:=3) iW.o rfl afg aai hown agr rfl);clear hown hgr hmv jQ iX mR;have cj:=dU.o.2.2.1.trans c3;have fj:=dU.o.2.2.2.1 3;clear c0 c1 c2 c3 c4 c5;go_upto_region 7 with fail;exact Aar
    case inr.inr.inr.inl=>
     have HK:=ah hk;obtain⟨sP,sQ,sS,sU,sV,sW⟩:=kd4 hk;clear hk;have uf:aj (lJ W d= {W with ls:=W.ls++[⟨d.nm,true⟩]}):=ah afo;have qj:aj (Below (bp+2) wr w4):=ah (dR.o.mono aaJ);obtain⟨pR,pV,iC,-,-,-⟩:=eY sw (jF.o.own (r:=⟨42,2,s.v1,List.length W.ls,List.flatMap mH W.ls⟩) aaG);have iC:s.v1= .slice pR (List.length W.ls) pV:=iC;have nA:=ah iC;obtain⟨hbw,c0,c1,c2,c3,c4,c5,cf⟩:=jF.o.cells;have fj:=cf 1;rw[iC]at c1;have iW:aj (Below w4.heap.size w4 (w4.alloc (.cells (List.toArray (mH (⟨d.nm,true⟩:wS))) 42))):=ah (ak _ _);have iX:=ah (gP (heap_alloc_new w4 (.cells (List.toArray (mH (⟨d.nm,true⟩:wS))) 42)));have mR:=ah (nE (show w4.ownsRow w3.heap.size 42 2 (.slice pR (List.length W.ls) pV) (List.length W.ls) (List.flatMap mH W.ls) by rw[<- iC];exact jF.o.own (r:=⟨42,2,s.v1,List.length W.ls,List.flatMap mH W.ls⟩) aaG) iW.o);obtain⟨i0,hi,hz0,hz1,hz2⟩:=infoP LU;have hk0:List.length W.ls<=1000000000000:=aeZ;have hk1:List.length W.ls+1<=maxLen:=aeS;have mV:(List.length W.ls+1)*24<=140737488355328:=agH;have hbs:w3.heap.size<=w4.heap.size+1:=Nat.le_succ_of_le jF.o.sz;clear iC cf;go_wp2_with (at_builtin;refine wpList_append_lies _ rfl _ _ 25 rfl w3.heap.size 42 i0 _ 2 24 Tryz.underlying25 hi hz0 hz1 hz2 rfl agI _ _ _ rfl mR.o ⟨w4.heap.size,0,none⟩ 1 1 (mH (⟨d.nm,true⟩:wS)) rfl rfl iX.o (lk1 _) agI hk1 mV aeV _ rfl ?_);exact Aac
    case inr.inr.inl=>
     have HK:=ah hk;obtain⟨sP,sQ,sS,sU,sV,sW⟩:=kd3 hk;clear hk;have uf:aj (lJ W d= {W with ls:=W.ls++[⟨d.nm,false⟩]}):=ah afo;have qj:aj (Below (bp+2) wr w4):=ah (dR.o.mono aaJ);obtain⟨pR,pV,iC,-,-,-⟩:=eY sw (jF.o.own (r:=⟨42,2,s.v1,List.length W.ls,List.flatMap mH W.ls⟩) aaG);have iC:s.v1= .slice pR (List.length W.ls) pV:=iC;have nA:=ah iC;obtain⟨hbw,c0,c1,c2,c3,c4,c5,cf⟩:=jF.o.cells;have fj:=cf 1;rw[iC]at c1;have iW:aj (Below w4.heap.size w4 (w4.alloc (.cells (List.toArray (mH (⟨d.nm,false⟩:wS))) 42))):=ah (ak _ _);have iX:=ah (gP (heap_alloc_new w4 (.cells (List.toArray (mH (⟨d.nm,false⟩:wS))) 42)));have mR:=ah (nE (show w4.ownsRow w3.heap.size 42 2 (.slice pR (List.length W.ls) pV) (List.length W.ls) (List.flatMap mH W.ls) by rw[<- iC];exact jF.o.own (r:=⟨42,2,s.v1,List.length W.ls,List.flatMap mH W.ls⟩) aaG) iW.o);obtain⟨i0,hi,hz0,hz1,hz2⟩:=infoP LU;have hk0:List.length W.ls<=1000000000000:=aeZ;have hk1:List.length W.ls+1<=maxLen:=aeS;have mV:(List.length W.ls+1)*24<=140737488355328:=agH;have hbs:w3.heap.size<=w4.heap.size+1:=Nat.le_succ_of_le jF.o.sz;clear iC cf;go_wp2_with (at_builtin;refine wpList_append_lies _ rfl _ _ 25 rfl w3.heap.size 42 i0 _ 2 24 Tryz.underlying25 hi hz0 hz1 hz2 rfl agI _ _ _ rfl mR.o ⟨w4.heap.size,0,none⟩ 1 1 (mH (⟨d.nm,false⟩:wS)) rfl rfl iX.o (lk1 _) agI hk1 mV aeV _ rfl ?_);exact Aac
    case inr.inr.inr.inr.inl=>
     have HK:=ah hk;obtain⟨sP,sQ,sS,sU,sV,sW⟩:=kd5 hk;clear hk;have uf:aj (lJ W d= {W with ns:=W.ns++[⟨d.nm,iK (W.ls.map (·.nm)) d.on⟩]}):=ah afo;obtain⟨aoN,cpN,Yc,-,-,-⟩:=eY ET (jF.o.own (r:=⟨47,2,s.v2,W.ns.length,W.ns.flatMap vE⟩) agT);have Yc:s.v2= .slice aoN W.ns.length cpN:=Yc;have ED:=ah Yc;obtain⟨JE,JG,D8,-,-,-⟩:=eY sw (jF.o.own (r:=⟨42,2,s.v1,W.ls.length,W.ls.flatMap mH⟩) agT);have D8:s.v1= .slice JE W.ls.length JG:=D8;have GQ:=ah D8;have c2:=jF.o.cells.2.2.2.1;have c1:=jF.o.cells.2.2.1;rw[Yc]at c2;rw[D8]at c1;have HC:=ah (aI jF.o.cells.1 (aI c1 c2));have yX:=ah fC.o.2;have uV:aj (W.ls.length<=maxLen):=ah ac3;clear Yc D8;go_wp2_with fail;have V2:=lG HC.o.1 c2;have V1:=lG HC.o.1 c1;have Y2:=lG yX.o z2;have Y5:=lG yX.o z5;clear z0 z1 z2 z3 z4 z5 c1 c2;refine eu agG rfl ?_;refine dD 0 11 [] [[],[0],[],[2],[],[4],[],[6],[4,5,6,7],[2,3,4,5,6,7,8],[2,3,4,5,6,7,8,9],[0,1,2,3,4,5,6,7,8,9,10],[0,1,2,3,4,5,6,7,8,9,10,11],[0,1,2,3,4,5,6,7,8,9,10,11,12]] [[],[],[],[],[],[],[],[],[],[],[]] (λ_ w'=>Below w4.heap.size w4 w') (λw w'=>Below w.heap.size w w') [81,82,83,84,85,86,87,88,89,90,91] rfl rfl ahS agG agG agG agG agG ahS (λ_=>au _ _) ahS (below_drewN (au _ _) 1) ?_;simp only[jH,nY]
     iterate 8
      apply bZ.step
      case bL=>intro c A w' hok hC hO hD;have e3:=hO 3 ahS;have e7:=hO 7 ahS;simp[Act.eval]at e3 e7;simp[Act.eval]at hD;simp[go_sem,gd,Oper.wp,hD,e3,e7,V2,hC,Y2,V1,Y5];exact AaH
      try simp only[dY]
     refine bZ.some (cB (.int .i64 (iK (W.ls.map (·.nm)) d.on))) cB.mono ?_ ?_
     ·intro c A w' hok hC hO hD;simp[Act.eval]at hD;simp[go_sem,gd,Oper.wp,hD];refine(VI W.ls d.on w' JE JG uV.o (yD sw (by rw[<- GQ.o];exact(jF.o.below hC).own (r:=⟨42,2,s.v1,W.ls.length,W.ls.flatMap mH⟩) agT))).mono ?_;rintro e w5 ⟨rfl,rfl⟩;exact AaH
     try simp only[dY]
     apply bZ.step
     case bL=>intro c A w' hok hC hO hD;simp[Act.eval]at hD;simp[go_sem,gd,Oper.wp,hD];exact AaH
     refine bZ.some (λv w'=> ∃g,v= .slice (some ⟨g,0,none⟩) 1 1∧∀j u,(vE ⟨d.nm,iK (W.ls.map (·.nm)) d.on⟩)[j]? =some u->w'.cell? ((⟨g,0,none⟩:Addr).add j)=some u) ?_ ?_ ?_
     ·rintro v wa wb hle ⟨g,h1,h2⟩;exact⟨g,h1,λj u hu=>(hle.cell (World.block_lt_of_cell? _ _ (h2 j u hu))).trans (h2 j u hu)⟩
     ·intro c A w' hok hC hO hD;simp[Act.eval]at hD;simp[go_sem,gd,Oper.wp,hD];exact aV.mk (ak _ _) (hC.trans ((ak _ _).mono hC.size)) ⟨_,rfl,λj u hu=>aQ (heap_alloc_new w' _) adQ⟩
     try simp only[dY]
     try simp only[dY]
     refine bZ.done ?_;intro wz dL
     try simp only[jH]
     iterate 10 refine tH ?_
     intro v10 h10;obtain⟨gc,rfl,hnews⟩:=h10;refine xO ?_;go_simp;have qm:=ah (jF.o.below dL);have qj:aj (Below (bp+2) wr wz):=ah ((dR.o.trans (dL.mono dR.o.size)).mono aaJ);clear V1 V2 Y2 Y5 dL;refine dZ 11 [[],[0],[],[2],[],[4],[],[6],[4,5,6,7],[2,3,4,5,6,7,8],[2,3,4,5,6,7,8,9],[0,1,2,3,4,5,6,7,8,9,10],[0,1,2,3,4,5,6,7,8,9,10,11],[0,1,2,3,4,5,6,7,8,9,10,11,12]] rfl rfl rfl rfl rfl agG agG agG ?_;obtain⟨i0,hi0,hz0,hz1,hz2⟩:=infoP Yj;have hkt:W.ns.length<=1000:=aeZ;refine wp_append_lies wz _ _ _ ahS w3.heap.size 47 i0 _ 2 24 Tryz.underlying26 hi0 hz0 hz1 hz2 ahS agH (.slice aoN W.ns.length cpN) W.ns.length (W.ns.flatMap vE) ahS (show wz.ownsRow _ _ _ _ _ _ by rw[<- ED.o];exact qm.o.own (r:=⟨47,2,s.v2,W.ns.length,W.ns.flatMap vE⟩) agT) ⟨gc,0,none⟩ 1 1 (vE ⟨d.nm,iK (W.ls.map (·.nm)) d.on⟩) ahS ahS hnews (cn1 _) agI aeS agH qm.o.sz _ rfl ?_;intro g' cap' w5 hown hgr hmv jQ;have dU:=ah (qm.o.add (s':= {s with v2:= .slice (some ⟨g',0,none⟩) (W.ns.length+1) cap'}) (W':=lJ W d) (pre:=[_,_]) (r:=⟨47,2,s.v2,W.ns.length,W.ns.flatMap vE⟩) (post:=[_,_,_]) (j:=2) (au _ _) rfl (by rw[ED.o];exact hgr) (by rw[ED.o];exact hmv) hown agr rfl);have cj:=dU.o.2.2.1.trans qm.o.cells.2.2.2.1;have fj:=dU.o.2.2.2.1 2;clear hown hgr hmv jQ hnews hi0 hz0 hz1 hz2 hkt;rw[ED.o]at cj;go_simp;refine dZ 12 [[],[0],[],[2],[],[4],[],[6],[4,5,6,7],[2,3,4,5,6,7,8],[2,3,4,5,6,7,8,9],[0,1,2,3,4,5,6,7,8,9,10],[0,1,2,3,4,5,6,7,8,9,10,11],[0,1,2,3,4,5,6,7,8,9,10,11,12]] rfl rfl rfl rfl rfl agG agG agG ?_;simp[go_sem,Oper.wp];refine dZ 13 [[],[0],[],[2],[],[4],[],[6],[4,5,6,7],[2,3,4,5,6,7,8],[2,3,4,5,6,7,8,9],[0,1,2,3,4,5,6,7,8,9,10],[0,1,2,3,4,5,6,7,8,9,10,11],[0,1,2,3,4,5,6,7,8,9,10,11,12]] rfl rfl rfl rfl rfl agG agG agG ?_;simp[go_sem,Oper.wp,cj,fj];refine fU rfl ?_;go_simp;exact Aar
    case inl=>
     have HK:=ah hk;obtain⟨sP,sQ,sS,sU,sV,sW⟩:=kd1 hk;clear hk;have HCA:aj (lJ W d= {W with cs:=W.cs++rT d (max d.size 1).toNat 0}):=ah afo;have WT:aj ((d.kind==2)=false):=ah (by rw[HK.o];rfl);have qj:aj (Below (bp+2) wr w4):=ah (dR.o.mono aaJ);have HMX:aj (1<=max d.size 1∧max d.size 1<=4):=ah agH;go_wp2_with fail;go_loopw [8] (λj wq=> ∃(n:Nat) (s':Vs) (XS:List mP),j= .int .i64 n∧(n:Int)<=max d.size 1∧XS=W.cs++rT d n 0∧nI wq w3.heap.size (bp+2) s' {W with cs:=XS} ∧Below (bp+2) w4 wq∧wq.heap[nb]? =some (.cells #[.int .i64 d.kind,.int .i64 d.line,.string d.nm,.int .i64 d.size,.int .i64 d.init,.string d.on] 55 (0,0))∧s'.v0.ownBlock≠some nb) (λj _=>(max d.size 1).toNat -(intOf j).toNat)
     case atStart=>exact⟨0,s,W.cs,rfl,agH,by simp[rT],jF.o,au _ _,oH.o,Ey.o⟩
     case round=>
      obtain⟨n,s,XS,rfl,hn,XP,R4,hb5,hx5,hne5⟩:=hrel;have Q7:=ah XP;have tZ:=ah R4;have kg:=ah hb5;have uI:=ah hx5;have PL:=ah hne5;clear XP z0 z1 z2 z3 z4 z5 R4 hb5 hne5;have z0:=aQ (j:=0) hx5 rfl;have z2:=aQ (j:=2) hx5 rfl;have z3:=aQ (j:=3) hx5 rfl;have z4:=aQ (j:=4) hx5 rfl;clear hx5;by_cases hlt:(n:Int)<max d.size 1
      ·obtain⟨pR,pV,iC,-,-,-⟩:=eY wJ (tZ.o.own (r:=⟨39,5,s.v0,List.length XS,List.flatMap kM XS⟩) aaG);have iC:s.v0= .slice pR (List.length XS) pV:=iC;have nA:=ah iC;obtain⟨hbw,c0,c1,c2,c3,c4,c5,cf⟩:=tZ.o.cells;have fj:=cf 0;rw[iC]at c0;have iW:aj (Below wr.heap.size wr (wr.alloc (.cells (List.toArray (kM (⟨d.nm,n,d.size,false,d.init⟩:mP))) 39))):=ah (ak _ _);have iX:=ah (gP (heap_alloc_new wr (.cells (List.toArray (kM (⟨d.nm,n,d.size,false,d.init⟩:mP))) 39)));have mR:=ah (nE (show wr.ownsRow w3.heap.size 39 5 (.slice pR (List.length XS) pV) (List.length XS) (List.flatMap kM XS) by rw[<- iC];exact tZ.o.own (r:=⟨39,5,s.v0,List.length XS,List.flatMap kM XS⟩) aaG) iW.o);obtain⟨i0,hi,hz0,hz1,hz2⟩:=infoP Ir;have hk0:List.length XS<=1000000000000:=abx;have hk1:List.length XS+1<=maxLen:=aeS;have mV:(List.length XS+1)*48<=140737488355328:=agH;have hbs:w3.heap.size<=wr.heap.size+1:=Nat.le_succ_of_le tZ.o.sz;clear iC cf;go_wp2_with (at_builtin;refine wpList_append_lies _ rfl _ _ 24 rfl w3.heap.size 39 i0 _ 5 48 Tryz.underlying24 hi hz0 hz1 hz2 rfl agI _ _ _ rfl mR.o ⟨wr.heap.size,0,none⟩ 1 1 (kM (⟨d.nm,n,d.size,false,d.init⟩:mP)) rfl rfl iX.o (Qv _) agI hk1 mV aeV _ rfl ?_);clear hi hz0 hz1 hz2 hk0 hk1 mV hbs;intro g' cap' w5 hown hgr hmv jQ;have dU:=ah (tZ.o.add (s':= {s with v0:= .slice (some ⟨g',0,none⟩) (XS.length+1) cap'}) (W':= {W with cs:=XS++[⟨d.nm,n,d.size,false,d.init⟩]}) (pre:=[]) (r:=⟨39,5,s.v0,XS.length,XS.flatMap kM⟩) (post:=[_,_,_,_,_]) (j:=0) iW.o rfl afg aai hown agT rfl);have PK:aj (nb<wr.heap.size):=ah (aO uI.o);have Q6:aj ((w5.setCell ⟨bp+2,0,none⟩ (.slice (some ⟨g',0,none⟩) (XS.length+1) cap')).heap[nb]? =some (.cells #[.int .i64 d.kind,.int .i64 d.line,.string d.nm,.int .i64 d.size,.int .i64 d.init,.string d.on] 55 (0,0))):=ah Ξ;have Zz:aj (Value.ownBlock (.slice (some ⟨g',0,none⟩) (XS.length+1) cap')≠some nb):=ah (by
        intro e;have e:g'=nb:=aer;rcases hmv with h|h
        ·exact PL.o (by rw[nA.o,<- e];exact h)
        ·have h5:=PK.o;omega)
       clear hown hgr hmv jQ iX mR;have cj:=dU.o.2.2.1.trans c0;have fj:=dU.o.2.2.2.1 0;clear c0 c1 c2 c3 c4 c5;go_upto_region 15 with fail;generalize sO:World.setCell w5 _ _=w6 at *;have dw:aj (Below (bp+2) w4 w6):=ah (kg.o.trans (dU.o.2.1 _ (aB _)));clear cj fj;go_wp2_with fail;go_roundw
       case rel=>exact⟨n+1,_,_,agL,agH,adY,dU.o.1,dw.o,Q6.o,Zz.o⟩
       case measure=>simp[intOf];omega
      ·have HN9:aj ((max d.size 1).toNat=n):=ah agH;have dh:aj (GV p w3 w3.heap.size (bp+2) _ (bp+2) wr s (lJ W d) (k+1) R):=ah (HR.o.next adR (qj.o.trans kg.o));go_wp2_with fail;go_roundw
       case rel=>exact⟨k+1,R,_,_,agL,dh.o⟩
       case measure=>simp[intOf];omega
    case inr.inl=>
     have HK:=ah hk;obtain⟨sP,sQ,sS,sU,sV,sW⟩:=kd2 hk;clear hk;have HCA:aj (lJ W d= {W with cs:=W.cs++rT d (max d.size 1).toNat 0}):=ah afo;have WT:aj ((d.kind==2)=true):=ah (by rw[HK.o];rfl);have qj:aj (Below (bp+2) wr w4):=ah (dR.o.mono aaJ);have HMX:aj (1<=max d.size 1∧max d.size 1<=4):=ah agH;go_wp2_with fail;go_loopw [8] (λj wq=> ∃(n:Nat) (s':Vs) (XS:List mP),j= .int .i64 n∧(n:Int)<=max d.size 1∧XS=W.cs++rT d n 0∧nI wq w3.heap.size (bp+2) s' {W with cs:=XS} ∧Below (bp+2) w4 wq∧wq.heap[nb]? =some (.cells #[.int .i64 d.kind,.int .i64 d.line,.string d.nm,.int .i64 d.size,.int .i64 d.init,.string d.on] 55 (0,0))∧s'.v0.ownBlock≠some nb) (λj _=>(max d.size 1).toNat -(intOf j).toNat)
     case atStart=>exact⟨0,s,W.cs,rfl,agH,by simp[rT],jF.o,au _ _,oH.o,Ey.o⟩
     case round=>
      obtain⟨n,s,XS,rfl,hn,XP,R4,hb5,hx5,hne5⟩:=hrel;have Q7:=ah XP;have tZ:=ah R4;have kg:=ah hb5;have uI:=ah hx5;have PL:=ah hne5;clear XP z0 z1 z2 z3 z4 z5 R4 hb5 hne5;have z0:=aQ (j:=0) hx5 rfl;have z2:=aQ (j:=2) hx5 rfl;have z3:=aQ (j:=3) hx5 rfl;have z4:=aQ (j:=4) hx5 rfl;clear hx5;by_cases hlt:(n:Int)<max d.size 1
      ·obtain⟨pR,pV,iC,-,-,-⟩:=eY wJ (tZ.o.own (r:=⟨39,5,s.v0,List.length XS,List.flatMap kM XS⟩) aaG);have iC:s.v0= .slice pR (List.length XS) pV:=iC;have nA:=ah iC;obtain⟨hbw,c0,c1,c2,c3,c4,c5,cf⟩:=tZ.o.cells;have fj:=cf 0;rw[iC]at c0;have iW:aj (Below wr.heap.size wr (wr.alloc (.cells (List.toArray (kM (⟨d.nm,n,d.size,true,d.init⟩:mP))) 39))):=ah (ak _ _);have iX:=ah (gP (heap_alloc_new wr (.cells (List.toArray (kM (⟨d.nm,n,d.size,true,d.init⟩:mP))) 39)));have mR:=ah (nE (show wr.ownsRow w3.heap.size 39 5 (.slice pR (List.length XS) pV) (List.length XS) (List.flatMap kM XS) by rw[<- iC];exact tZ.o.own (r:=⟨39,5,s.v0,List.length XS,List.flatMap kM XS⟩) aaG) iW.o);obtain⟨i0,hi,hz0,hz1,hz2⟩:=infoP Ir;have hk0:List.length XS<=1000000000000:=abx;have hk1:List.length XS+1<=maxLen:=aeS;have mV:(List.length XS+1)*48<=140737488355328:=agH;have hbs:w3.heap.size<=wr.heap.size+1:=Nat.le_succ_of_le tZ.o.sz;clear iC cf;go_wp2_with (at_builtin;refine wpList_append_lies _ rfl _ _ 24 rfl w3.heap.size 39 i0 _ 5 48 Tryz.underlying24 hi hz0 hz1 hz2 rfl agI _ _ _ rfl mR.o ⟨wr.heap.size,0,none⟩ 1 1 (kM (⟨d.nm,n,d.size,true,d.init⟩:mP)) rfl rfl iX.o (Qv _) agI hk1 mV aeV _ rfl ?_);clear hi hz0 hz1 hz2 hk0 hk1 mV hbs;intro g' cap' w5 hown hgr hmv jQ;have dU:=ah (tZ.o.add (s':= {s with v0:= .slice (some ⟨g',0,none⟩) (XS.length+1) cap'}) (W':= {W with cs:=XS++[⟨d.nm,n,d.size,true,d.init⟩]}) (pre:=[]) (r:=⟨39,5,s.v0,XS.length,XS.flatMap kM⟩) (post:=[_,_,_,_,_]) (j:=0) iW.o rfl afg aai hown agT rfl);have PK:aj (nb<wr.heap.size):=ah (aO uI.o);have Q6:aj ((w5.setCell ⟨bp+2,0,none⟩ (.slice (some ⟨g',0,none⟩) (XS.length+1) cap')).heap[nb]? =some (.cells #[.int .i64 d.kind,.int .i64 d.line,.string d.nm,.int .i64 d.size,.int .i64 d.init,.string d.on] 55 (0,0))):=ah Ξ;have Zz:aj (Value.ownBlock (.slice (some ⟨g',0,none⟩) (XS.length+1) cap')≠some nb):=ah (by
        intro e;have e:g'=nb:=aer;rcases hmv with h|h
        ·exact PL.o (by rw[nA.o,<- e];exact h)
        ·have h5:=PK.o;omega)
       clear hown hgr hmv jQ iX mR;have cj:=dU.o.2.2.1.trans c0;have fj:=dU.o.2.2.2.1 0;clear c0 c1 c2 c3 c4 c5;go_upto_region 15 with fail;generalize sO:World.setCell w5 _ _=w6 at *;have dw:aj (Below (bp+2) w4 w6):=ah (kg.o.trans (dU.o.2.1 _ (aB _)));clear cj fj;go_wp2_with fail;go_roundw
       case rel=>exact⟨n+1,_,_,agL,agH,adY,dU.o.1,dw.o,Q6.o,Zz.o⟩
       case measure=>simp[intOf];omega
      ·have HN9:aj ((max d.size 1).toNat=n):=ah agH;have dh:aj (GV p w3 w3.heap.size (bp+2) _ (bp+2) wr s (lJ W d) (k+1) R):=ah (HR.o.next adR (qj.o.trans kg.o));go_wp2_with fail;go_roundw
       case rel=>exact⟨k+1,R,_,_,agL,dh.o⟩
       case measure=>simp[intOf];omega
structure WsC:Prop where
 made: ∀(w:World) (zs:List Int) (ao:Option Addr) (cap:Nat),FX w w.heap.size zs ao->zs.length<=maxLen->Calls Tryz.prog 5 #[.slice ao zs.length cap] w λe w'=> ∃v,e= .returned v∧Below w.heap.size w w'∧
  Calls Tryz.prog 4 #[v] w' λe w2=> ∃(W:Wo) (t:jS) (B:Nat),e= .returned (nD W t)∧TQ W∧ZU W∧w'.heap.size<=B∧Rows w2 B (gY ⟨.slice t.aC W.cs.length t.cC,.slice t.aL W.ls.length t.cL,.slice t.aN W.ns.length t.cN,.slice t.aF W.fs.length t.cF,.slice t.aT W.ts.length t.cT,.slice t.aS W.ss.length t.cS⟩ W)∧Below w'.heap.size w' w2
 vw: ∀(W:Wo) (t:jS) (w:World),iP w w.heap.size W t->dW w->NY W->Calls Tryz.prog 6 #[nD W t] w λe w'=>e= .returned (.bool (vW W))∧Below w.heap.size w w'
 rw: ∀(W:Wo) (t:jS) (w:World),iP w w.heap.size W t->NY W->Calls Tryz.prog 7 #[nD W t] w λe w'=>e= .returned (.bool (vW W))∧Below w.heap.size w w'
 aw: ∀w:World,dW w->Calls Tryz.prog 8 #[] w λe w'=>e= .returned (.bool true)∧Below w.heap.size w w'
theorem TQ.wk {W:Wo} (h:TQ W):NY W:=⟨λc hc=>(h.cs c hc).1,h.ls,h.ns⟩
theorem aj7 {a n:Nat} (hn:0<n): ∃j:Nat,((a:Nat):Int).tmod (n:Int)=(j:Int)∧j<n:=⟨a%n,by rw[Int.tmod_eq_emod_of_nonneg agH];omega,Nat.mod_lt _ hn⟩
def WsR (w0:World) (B bw:Nat) (w:World):Prop:= ∃s W,uK w B bw s W∧TQ W∧Below w0.heap.size w0 w
theorem aj6 {α:Type} {f:α->List Value} {m:Nat} {T:TypeId} {v:Value} {g n cap k j:Nat} {xs:List α} {x y:α} {u:Value} {w0 w:World} {B bw:Nat} {s:Vs} {W W':Wo} {pre post:List Rw} (hf: ∀x,(f x).length=m) (h:uK w B bw s W) (hb:Below w0.heap.size w0 w) (hB:w0.heap.size<=B) (hg:TQ W') (hv:v= .slice (some ⟨g,0,none⟩) n cap)
 (e1:gY s W=pre++⟨T,m,v,xs.length,xs.flatMap f⟩::post) (e2:gY s W'=pre++⟨T,m,v,(xs.set k y).length,(xs.set k y).flatMap f⟩::post) (hk:xs[k]? =some x) (hj:j<m) (hu:f y=(f x).set j u):WsR w0 B bw (w.setCell ⟨g,k*m+j,none⟩ u):=
 ⟨s,W',h.cell hf hv e1 e2 hk hj hu,hg,hb.trans (cK (bU w ⟨g,k*m+j,none⟩ u) (aJ hB ((h.row.own ⟨T,m,v,xs.length,xs.flatMap f⟩ (by rw[e1];simp)).lt g (by subst hv;rfl)).1) hb.size)⟩
theorem bc9:bY 0:=aeO
theorem ak1 {α:Type} {f:α->List Value} {m:Nat} (hf: ∀x,(f x).length=m): ∀(xs:List α) (k:Nat),k<=xs.length->(xs.flatMap f).take (k*m)=(xs.take k).flatMap f
 |xs,0,_=>agJ
 | [],k+1,h=>ahe
 |x::xs,k+1,h=>by have ih:=ak1 hf xs k ahT;rw[List.flatMap_cons,List.take_succ_cons,List.flatMap_cons,<- ih,show(k+1)*m=(f x).length+k*m by rw[hf,Nat.succ_mul];omega,List.take_length_add_append]
theorem ak8 {α:Type} {f:α->List Value} {m:Nat} {w:World} {B:Nat} {T:TypeId} {g cap k:Nat} {xs:List α} (hf: ∀x,(f x).length=m) (h:w.ownsRow B T m (.slice (some ⟨g,0,none⟩) xs.length cap) xs.length (xs.flatMap f)) (hk:k<=xs.length):w.ownsRow B T m (.slice (some ⟨g,0,none⟩) k cap) k ((xs.take k).flatMap f):=by
 rcases h.2 with⟨h1,-⟩|⟨g',cap',cur,e,hb,hg,hc,hm,hs,ht⟩
 ·cases h1
 ·injection e with e1 e2 e3;injection e1 with e1;injection e1 with e1;subst e1;subst e3;refine⟨by rw[ru hf,List.length_take,Nat.min_eq_left hk],.inr ⟨g,cap,cur,rfl,hb,hg,aJ hk hc,hm,hs,?_⟩⟩;rw[<- ak1 hf xs k hk,<- ht,List.take_take,Nat.min_eq_left (Nat.mul_le_mul_right m hk)]
theorem aD0 {α:Type} {f:α->List Value} {m:Nat} {w:World} {B:Nat} {T:TypeId} {g cap k:Nat} {xs:List α} (hf: ∀x,(f x).length=m) (h:w.ownsRow B T m (.slice (some ⟨g,0,none⟩) xs.length cap) xs.length (xs.flatMap f)) (hk:k<=xs.length): ∀(j:Nat) (u:Value),((xs.drop k).flatMap f)[j]? =some u->w.cell? ((⟨g,k*m,none⟩:Addr).add j)=some u:=λj u hu=>by
 have e:xs.flatMap f=(xs.take k).flatMap f++(xs.drop k).flatMap f:=by rw[<- List.flatMap_append,List.take_append_drop]
 have hl:((xs.take k).flatMap f).length=k*m:=by rw[ru hf,List.length_take,Nat.min_eq_left hk]
 have hF:(xs.flatMap f)[k*m+j]? =some u:=by rw[e,List.getElem?_append_right agH,hl,Nat.add_sub_cancel_left];exact hu
 have hc:=(h.cellAt (k*m+j) (by rw[<- h.1];exact(List.getElem?_eq_some_iff.1 hF).1)).trans hF;unfold Addr.add;split
 ·rename_i h0;subst h0;exact hc
 ·exact hc
theorem aj9 {P:Program} {w:World} {o:Oper} {a:Act} {K:Act->World->Prop} {Q:Exit->Act->World->Prop} (s x:Operand) (t:TypeId)
 (ho:o.op= .call {callee:= .builtin .append,args:= #[s,x],argTypes:= #[t,t]})
 (base:Nat) (e:TypeId) (i:TypeInfo) (z:Value) (size bytes:Nat) (ht:P.underlying t=some (.slice e)) (hi:P.info? e=some i) (hz:i.zero=some z)
 (hsize:i.size=size) (hby:i.bytes=bytes) (hzs:z.cells.size=size) (hsz:0<size)
 (g n cap:Nat) (xs:List Value) (hs:a.eval s= .slice (some ⟨g,0,none⟩) n cap) (hown:w.ownsRow base e size (.slice (some ⟨g,0,none⟩) n cap) n xs)
 (ad:Addr) (m c:Nat) (news:List Value) (hx:a.eval x= .slice (some ad) m c) (hl:news.length=m*size) (hnews: ∀j u,news[j]? =some u->w.cell? (ad.add j)=some u) (h1: ∀u∈news,u.oneCell'=true)
 (h63:n+m<=maxLen) (hbytes:(n+m)*bytes<=140737488355328) (hbase:base<=w.heap.size)
 (h: ∀g' cap' w',w'.ownsRow base e size (.slice (some ⟨g',0,none⟩) (n+m) cap') (n+m) (xs++news)->w.grownBy w' (some g)->(some g=some g'∨g'=w.heap.size)->K (a.put o.dst (.slice (some ⟨g',0,none⟩) (n+m) cap')) w'):o.wp P a w K Q:=by
 rcases Nat.eq_zero_or_pos m with rfl|hm
 ·have:news=[]:=List.eq_nil_of_length_eq_zero (by rw[hl,Nat.zero_mul]);subst this;have hnc:n<=cap:=by
   rcases hown.2 with⟨h1,-⟩|⟨g',cap',cur,e,-,-,hc,-⟩
   ·cases h1
   ·injection e with e1 e2 e3;omega
  have hr:(Builtin.append_ #[t,t] o.type #[.slice (some ⟨g,0,none⟩) n cap,.slice (some ad) 0 c]).run P w= .ok (.slice (some ⟨g,0,none⟩) n cap) w:=by simp[Builtin.append_,run_underlying ht,sizeOf,typeInfo,hi,Builtin.lenOf,Builtin.firstCells,hnc,storeCells,loadCells,loadCellsFrom]
  have hh:=h g cap w (by rw[Nat.add_zero,List.append_nil];exact hown) ⟨rfl,rfl,rfl,aB _,λ_ _ _=>rfl⟩ (.inl rfl);unfold Oper.wp execOp;simp only[ho,resolve,invoke,builtin,Sem.run_bind,Sem.run_pure,Result.andThen_ok,List.map_toArray,List.map_cons,List.map_nil,hs,hx,hr];exact hh
 ·exact wp_append_lies w s x t ho base e i z size bytes ht hi hz hsize hby hzs hsz _ n xs hs hown ad m c news hx hl hnews h1 hm h63 hbytes hbase _ rfl (λg' cap' w' a1 a2 a3 _=>h g' cap' w' a1 a2 a3)
theorem ba7:(Tryz.prog.info? 9).map (λi=>(i.zero,i.size,i.bytes))=some (some (.string ⟨#[]⟩),1,16):=agG
theorem ak7 {w0 w w4:World} {g:Option Nat} (h:Below w0.heap.size w0 w) (hg:w.grownBy w4 g) (hv: ∀k,g=some k->w0.heap.size<=k):Below w0.heap.size w0 w4:=
 h.trans ⟨hg.os,hg.tape,hg.output,hg.size,λk hk=>hg.block k (aR hk h.size) (λe=>by have:=hv k e.symm;omega)⟩
theorem ak5 {w:World} {v v':Value} {g:Nat} (hv:v'.ownBlock=some g) (h:v.ownBlock=some g∨g=w.heap.size):nM w v v':=by
 rcases h with e|e
 ·exact .inl (hv.trans e.symm)
 ·exact .inr ⟨g,hv,Nat.le_of_eq e.symm⟩
theorem ak0 {w0 w w4:World} {B bw j:Nat} {s s':Vs} {W W':Wo} {pre post:List Rw} {r r':Rw} (h:uK w B bw s W) (hb:Below w0.heap.size w0 w) (hB:w0.heap.size<=B) (hw:w0.heap.size<=bw) (hG:TQ W') (hg:w.grownBy w4 r.v.ownBlock) (e1:gY s W=pre++r::post) (e2:gY s' W'=pre++r'::post) (hr:r'.Ok w4 B) (ho:nM w r.v r'.v)
 (hc:(#[s.v0,s.v1,s.v2,s.v3,s.v4,s.v5]:Array Value).setIfInBounds j r'.v= #[s'.v0,s'.v1,s'.v2,s'.v3,s'.v4,s'.v5]):WsR w0 B bw (w4.setCell ⟨bw,j,none⟩ r'.v):=
 have h1:=ak7 hb hg (λk e=>aJ hB ((h.row.own r (by rw[e1];simp)).lt k e).1)
 ⟨s',W',h.put hg e1 e2 hr ho hc,hG,h1.trans (cK (bU w4 ⟨bw,j,none⟩ r'.v) hw h1.size)⟩
theorem uK.beside {w w4:World} {B bw:Nat} {s:Vs} {W:Wo} {r:Rw} (h:uK w B bw s W) (hr:r∈gY s W) (hg:w.grownBy w4 r.v.ownBlock):w4.heap[bw]? =some (.cells #[s.v0,s.v1,s.v2,s.v3,s.v4,s.v5] 30 (0,0)):=
 (hg.block _ (aO h.blk) (λe=>h.far r hr e.symm)).trans h.blk
theorem Tc (HC:aj WsC) (ao:Option Addr) (cap:Nat) (zs:List Int) (hcap:zs.length<=maxLen) (a f:Nat) (ha:a<=255) (hf:f<=255) (n:Int) (hn: -128<=n∧n<=127) (s:ByteArray) (w:World) (hz:FX w w.heap.size zs ao) (eG:dW w):
 Calls Tryz.prog 3 #[.slice ao zs.length cap,.int .u8 a,.int .u8 f,.int .i8 n,.string s] w λe w'=>e= .returned (.bool true)∧Below w.heap.size w w':=by
 have HZ:=ah hz;have jX:=ah eG;have HN:=ah hn;clear hz eG hn;by_cases bO0:200<zs.length
 ·go_enter Tryz.func3,Tryz.ntmps3;go_wp2_with fail;go_ret;exact⟨rfl,au _ _⟩
 by_cases bN9:100<s.size
 ·go_enter Tryz.func3,Tryz.ntmps3;go_wp2_with fail;go_ret;exact⟨rfl,au _ _⟩
 go_enter Tryz.func3,Tryz.ntmps3;go_wp2_with fail;refine(HC.o.made w zs ao cap HZ.o hcap).mono ?_;rintro e w1 ⟨v,rfl,hb1,hc⟩;have HB1:=ah hb1;go_wp2_with fail;refine hc.mono ?_;rintro e w2 ⟨W,t,B,rfl,hg,h1,hB,hrow,hb2⟩;have HG:=ah hg;have HR:=ah hrow;have HS:=ah h1;have HB2:=ah (HB1.o.trans (hb2.mono HB1.o.size));have Dl:=ah (aJ HB1.o.size hB);clear hc hb1 hb2 hg hrow h1 hB HZ;unfold nD;go_upto_region 4 with fail;generalize hW:World.alloc w2 _=w3;obtain⟨wb,hwb,HB3,-,HX,sI⟩:=qD hW;have HJ0:=ah (show uK w3 B wb ⟨.slice t.aC W.cs.length t.cC,.slice t.aL W.ls.length t.cL,.slice t.aN W.ns.length t.cN,.slice t.aF W.fs.length t.cF,.slice t.aT W.ts.length t.cT,.slice t.aS W.ss.length t.cS⟩ W from⟨HX.o,HR.o.below HB3.o,λr hr e=>by have:=((HR.o.own r hr).lt _ e).2;omega⟩);rw[hwb];have xC:aj (Below w.heap.size w w3):=ah (HB2.o.trans (HB3.o.mono HB2.o.size));have HWB:aj (w.heap.size<=wb):=ah (by rw[<- hwb];exact HB2.o.size);clear hW hwb HR HX sI HB2 HB3;obtain⟨aC,aL,aN,aF,aT,aS,cC,cL,cN,cF,cT,cS⟩:=t;obtain⟨g0,g1,g2,g3,g4,g5,p0,p1,p2,p3,p4,p5,hs⟩:=HJ0.o.six HS.o;dsimp only at hs HJ0⊢;injection hs with q0 q1 q2 q3 q4 q5;injection q0 with q0 _ r0;injection q1 with q1 _ r1;injection q2 with q2 _ r2;injection q3 with q3 _ r3;injection q4 with q4 _ r4;injection q5 with q5 _ r5;subst q0 q1 q2 q3 q4 q5 r0 r1 r2 r3 r4 r5;obtain⟨j0,m0,l0⟩:=aj7 (a:=a) HS.o.cs.1;obtain⟨j1,m1,l1⟩:=aj7 (a:=a) HS.o.ls;obtain⟨j4,m4,l4⟩:=aj7 (a:=a) HS.o.ts.1;obtain⟨j5,m5,l5⟩:=aj7 (a:=a) HS.o.ss;obtain⟨c0,c1,c2,c3,c4,c5⟩:=uj HJ0.o.blk;go_upto_region 5 with fail;have n0: ¬W.cs=[]:=λe=>by have:=HS.o.cs.1;rw[e]at this;exact absurd this agI
 have b0:(0:Int)<=(j0:Int):=Int.natCast_nonneg _;have d0:(j0:Int)<(W.cs.length:Int):=Int.ofNat_lt.2 l0;have n1: ¬W.ls=[]:=λe=>by have:=HS.o.ls;rw[e]at this;exact absurd this agI
 have b1:(0:Int)<=(j1:Int):=Int.natCast_nonneg _;have d1:(j1:Int)<(W.ls.length:Int):=Int.ofNat_lt.2 l1;have n5: ¬W.ss=[]:=λe=>by have:=HS.o.ss;rw[e]at this;exact absurd this agI
 have b5:(0:Int)<=(j5:Int):=Int.natCast_nonneg _;have d5:(j5:Int)<(W.ss.length:Int):=Int.ofNat_lt.2 l5;refine eu agG rfl ?_;refine dD 0 27 [] [[],[0],[],[],[3],[3,4],[2,3,4,5],[0,1,2,3,4,5,6],[],[8],[],[],[11],[11,12],[10,11,12,13],[8,9,10,11,12,13,14],[],[16],[],[],[19],[19,20],[18,19,20,21],[16,17,18,19,20,21,22],[0,1,2,3,4,5,6,7],[0,1,2,3,4,5,6,7,8,9,10,11,12,13,14,15,24],[0,1,2,3,4,5,6,7,8,9,10,11,12,13,14,15,16,17,18,19,20,21,22,23,24,25]] [[],[],[],[],[],[],[],[],[],[],[],[],[],[],[],[],[],[],[],[],[],[],[],[],[],[],[]] (λ_ w'=>w'=w3.drewN 1) (λw w'=>w=w') [33,34,35,36,37,38,39,40,41,42,43,44,45,46,47,48,49,50,51,52,53,54,55,56,14,15,16] rfl rfl ahS agG agG agG agG agG ahS (λ_=>rfl) ahS rfl ?_;simp only[jH,nY]
 iterate 27
  apply bZ.step
  case bL=>intro c A w' hok hC hO hD;have e11:=hO 11 ahS;have e12:=hO 12 ahS;simp[Act.eval]at e11 e12;simp[Act.eval]at hD;simp[go_sem,gd,Oper.wp,hD,e11,e12,hC,c0,m0,n0,b0,d0,c1,m1,n1,b1,d1,c5,m5,n5,b5,d5];exact aV.mk rfl rfl (cB.mk _ _)
  try simp only[dY]
 try simp only[dY]
 refine bZ.done ?_;intro wz dL
 try simp only[jH]
 iterate 27 refine tH ?_
 refine eO.nil ?_;go_simp;refine fU rfl ?_;go_simp;have dR:aj (Below w.heap.size w (w3.drewN 1)):=ah (below_drewN xC.o 1);have HJ:aj (uK (w3.drewN 1) B wb _ W):=ah (HJ0.o.below (below_drewN (au _ _) 1));have HK4:aj (dW (w3.drewN 1)):=ah (jX.o.same dR.o);clear HJ0 xC dL c0 c1 c2 c3 c4 c5 m1 m5 n0 n1 n5 b0 b1 b5 d0 d1 d5;generalize w3.drewN 1=w4 at *;obtain⟨c0,c1,c2,c3,c4,c5⟩:=uj HJ.o.blk;obtain⟨r0,r1,r2,r3,r4,r5⟩:=HJ.o.rows;obtain⟨x0,hx0⟩: ∃x,W.cs[j0]? =some x:=⟨_,bC l0⟩;obtain⟨x1,hx1⟩: ∃x,W.ls[j1]? =some x:=⟨_,bC l1⟩;obtain⟨x2,hx2⟩: ∃x,W.ns[0]? =some x:=⟨_,bC HS.o.ns⟩;obtain⟨x3,hx3⟩: ∃x,W.fs[0]? =some x:=⟨_,bC HS.o.fs⟩;obtain⟨x4,hx4⟩: ∃x,W.ts[j4]? =some x:=⟨_,bC l4⟩;obtain⟨x5,hx5⟩: ∃x,W.ss[j5]? =some x:=⟨_,bC l5⟩;have Y0:=aU7 wJ r0 hx0;have Y1:=aU7 sw r1 hx1;have Y2:=aU7 ET r2 hx2;have Y3:=aU7 uy r3 hx3;have Y4:=aU7 uy r4 hx4;have Y5:=aU7 Cg r5 hx5;have NS:aj (s.size<=maxLen):=ah aeS;have Po:aj (∀(j:Nat) (u:Value) (y:mP),j<5->kM y=(kM x0).set j u->(y.nm.size<=maxLen∧bY y.sz)->WsR w B wb (w4.setCell ⟨g0,j0*5+j,none⟩ u)):=ah (λj u y hj hu hy=>aj6 (W':= {W with cs:=W.cs.set j0 y}) (pre:=[]) (post:=[_,_,_,_,_]) wJ HJ.o dR.o Dl.o ⟨au1 HG.o.cs hy,HG.o.ls,HG.o.ns,HG.o.fs,HG.o.ts⟩ rfl rfl rfl hx0 hj hu);have KW:aj (∀(j:Nat) (u:Value) (y:wS),j<2->mH y=(mH x1).set j u->y.nm.size<=maxLen->WsR w B wb (w4.setCell ⟨g1,j1*2+j,none⟩ u)):=ah (λj u y hj hu hy=>aj6 (W':= {W with ls:=W.ls.set j1 y}) (pre:=[_]) (post:=[_,_,_,_]) sw HJ.o dR.o Dl.o ⟨HG.o.cs,au1 HG.o.ls hy,HG.o.ns,HG.o.fs,HG.o.ts⟩ rfl rfl rfl hx1 hj hu);have HNS:aj (∀(j:Nat) (u:Value) (y:Er),j<2->vE y=(vE x2).set j u->y.nm.size<=maxLen->WsR w B wb (w4.setCell ⟨g2,0*2+j,none⟩ u)):=ah (λj u y hj hu hy=>aj6 (W':= {W with ns:=W.ns.set 0 y}) (pre:=[_,_]) (post:=[_,_,_]) ET HJ.o dR.o Dl.o ⟨HG.o.cs,HG.o.ls,au1 HG.o.ns hy,HG.o.fs,HG.o.ts⟩ rfl rfl rfl hx2 hj hu);have Ti:aj (WsR w B wb (w4.setCell ⟨g3,0*1+0,none⟩ (.string s))):=ah (aj6 (W':= {W with fs:=W.fs.set 0 s}) (pre:=[_,_,_]) (post:=[_,_]) uy HJ.o dR.o Dl.o ⟨HG.o.cs,HG.o.ls,HG.o.ns,au1 HG.o.fs NS.o,HG.o.ts⟩ rfl rfl rfl hx3 agI rfl);have mg:aj (∀w',Below w4.heap.size w4 w'->WsR w B wb (w'.setCell ⟨g4,j4*1+0,none⟩ (.string s))):=ah (λw' hb=>aj6 (W':= {W with ts:=W.ts.set j4 s}) (pre:=[_,_,_,_]) (post:=[_]) uy (HJ.o.below hb) (dR.o.trans (hb.mono dR.o.size)) Dl.o ⟨HG.o.cs,HG.o.ls,HG.o.ns,HG.o.fs,au1 HG.o.ts NS.o⟩ rfl rfl rfl hx4 agI rfl);have PW:aj (∀(j:Nat) (u:Value) (y:sK),j<3->rJ y=(rJ x5).set j u->WsR w B wb (w4.setCell ⟨g5,j5*3+j,none⟩ u)):=ah (λj u y hj hu=>aj6 (W':= {W with ss:=W.ss.set j5 y}) (pre:=[_,_,_,_,_]) (post:=[]) Cg HJ.o dR.o Dl.o ⟨HG.o.cs,HG.o.ls,HG.o.ns,HG.o.fs,HG.o.ts⟩ rfl rfl rfl hx5 hj hu);obtain⟨kk,hkk⟩: ∃k:Int,(wrap64 n).tmod 6=k:=⟨_,rfl⟩;have HKK:aj (bY kk):=ah (by have h1:=Int.tmod_lt_of_pos (wrap64 n) (show(0:Int)<6 by decide);have h2:=Int.lt_tmod_of_pos (wrap64 n) (show(0:Int)<6 by decide);rw[hkk]at h1 h2;unfold bY;omega);rw[hkk];clear hkk;obtain⟨qq,hqq⟩: ∃q:Int,((f:Nat):Int).tmod 16=q:=⟨_,rfl⟩;have hg0:=HG.o.cs x0 (List.mem_of_getElem? hx0);have hg1:=HG.o.ls x1 (List.mem_of_getElem? hx1);have hg2:=HG.o.ns x2 (List.mem_of_getElem? hx2);have hl2:=HS.o.ns;have hl3:=HS.o.fs;go_upto_block 0 with fail;go_cut [10] (λs10 W'=>s10= .bool false∧WsR w B wb W')
 case first=>
  have h16:qq=0∨qq=1∨qq=2∨qq=3∨qq=4∨qq=5∨qq=6∨qq=7∨qq=8∨qq=9∨qq=10∨qq=11∨qq=12∨qq=13∨qq=14∨qq=15:=by rw[<- hqq,Int.tmod_eq_emod_of_nonneg agH];omega
  rcases h16 with rfl|rfl|rfl|rfl|rfl|rfl|rfl|rfl|rfl|rfl|rfl|rfl|rfl|rfl|rfl|rfl
  ·obtain⟨y,fy⟩:=Y0 0 _ rfl
   try simp only[Nat.add_zero,Nat.zero_mul,aU,Nat.mul_one]at y fy
   go_wp2_with fail;go_meet;exact⟨rfl,Po.o 0 _ {x0 with nm:=s} agI rfl ⟨NS.o,hg0.2⟩⟩
  ·obtain⟨y,fy⟩:=Y0 1 _ rfl
   try simp only[Nat.add_zero,Nat.zero_mul,aU,Nat.mul_one]at y fy
   go_wp2_with fail;go_meet;exact⟨rfl,Po.o 1 _ {x0 with ix:=kk} agI rfl hg0⟩
  ·obtain⟨y,fy⟩:=Y0 2 _ rfl
   try simp only[Nat.add_zero,Nat.zero_mul,aU,Nat.mul_one]at y fy
   go_wp2_with fail;go_meet;exact⟨rfl,Po.o 2 _ {x0 with sz:=kk} agI rfl ⟨hg0.1,HKK.o⟩⟩
  ·obtain⟨y,fy⟩:=Y0 3 _ rfl
   try simp only[Nat.add_zero,Nat.zero_mul,aU,Nat.mul_one]at y fy
   go_wp2_with fail;go_meet;exact⟨rfl,Po.o 3 _ {x0 with wW:= !x0.wW} agI rfl hg0⟩
  ·obtain⟨y,fy⟩:=Y0 4 _ rfl
   try simp only[Nat.add_zero,Nat.zero_mul,aU,Nat.mul_one]at y fy
   go_wp2_with fail;go_meet;exact⟨rfl,Po.o 4 _ {x0 with init:=wrap64 n} agI rfl hg0⟩
  ·obtain⟨y,fy⟩:=Y1 0 _ rfl
   try simp only[Nat.add_zero,Nat.zero_mul,aU,Nat.mul_one]at y fy
   go_wp2_with fail;go_meet;exact⟨rfl,KW.o 0 _ {x1 with nm:=s} agI rfl NS.o⟩
  ·obtain⟨y,fy⟩:=Y1 1 _ rfl
   try simp only[Nat.add_zero,Nat.zero_mul,aU,Nat.mul_one]at y fy
   go_wp2_with fail;go_meet;exact⟨rfl,KW.o 1 _ {x1 with rw:= !x1.rw} agI rfl hg1⟩
  ·obtain⟨y,fy⟩:=Y2 1 _ rfl
   try simp only[Nat.add_zero,Nat.zero_mul,aU,Nat.mul_one]at y fy
   go_wp2_with fail;go_meet;exact⟨rfl,HNS.o 1 _ {x2 with mx:=kk} agI rfl hg2⟩
  ·obtain⟨y,fy⟩:=Y3 0 _ rfl
   try simp only[Nat.add_zero,Nat.zero_mul,aU,Nat.mul_one]at y fy
   go_wp2_with fail;go_meet;exact⟨rfl,Ti.o⟩
  ·obtain⟨y,fy⟩:=Y4 0 _ rfl;simp only[Nat.add_zero,Nat.mul_one]at y fy;have n4: ¬W.ts=[]:=λe=>by have:=HS.o.ts.1;rw[e]at this;exact absurd this agI
   have b4:(0:Int)<=(j4:Int):=Int.natCast_nonneg _;have d4:(j4:Int)<(W.ts.length:Int):=Int.ofNat_lt.2 l4;go_upto_region 27 with fail;refine eu agG rfl ?_;refine dD 0 9 [] [[],[0],[],[],[3],[3,4],[2,3,4,5],[],[0,1,2,3,4,5,6,7],[0,1,2,3,4,5,6,7,8]] [[],[],[],[],[],[],[],[],[]] (λ_ w'=>w'=w4.drewN 1) (λw w'=>w=w') [131,132,133,134,135,136,137,138,139] rfl rfl ahS agG agG agG agG agG ahS (λ_=>rfl) ahS rfl ?_;simp only[jH,nY]
   iterate 9
    apply bZ.step
    case bL=>intro c A w' hok hC hO hD;have e11:=hO 11 ahS;have e12:=hO 12 ahS;have e4:=hO 4 ahS;simp[Act.eval]at e11 e12 e4;simp[Act.eval]at hD;simp[go_sem,gd,Oper.wp,hD,e11,e12,e4,hC,c4,m4,n4,b4,d4];exact aV.mk rfl rfl (cB.mk _ _)
    try simp only[dY]
   try simp only[dY]
   refine bZ.done ?_;intro wz dL
   try simp only[jH]
   iterate 9 refine tH ?_
   refine eO.nil ?_;go_simp;refine dZ 9 [[],[0],[],[],[3],[3,4],[2,3,4,5],[],[0,1,2,3,4,5,6,7],[0,1,2,3,4,5,6,7,8]] rfl rfl rfl rfl rfl agG agG agG ?_;subst dL;simp[go_sem,Oper.wp,y,fy];refine fU rfl ?_;go_simp;go_wp2_with fail;go_meet;have hts:=mg.o _ (below_drewN (au _ _) 1);simp only[Nat.mul_one,Nat.add_zero]at hts;exact⟨rfl,hts⟩
  ·obtain⟨y,fy⟩:=Y5 0 _ rfl
   try simp only[Nat.add_zero,Nat.zero_mul,aU,Nat.mul_one]at y fy
   go_wp2_with fail;go_meet;exact⟨rfl,PW.o 0 _ {x5 with th:=kk} agI rfl⟩
  ·obtain⟨y,fy⟩:=Y5 1 _ rfl
   try simp only[Nat.add_zero,Nat.zero_mul,aU,Nat.mul_one]at y fy
   go_wp2_with fail;go_meet;exact⟨rfl,PW.o 1 _ {x5 with st:=kk} agI rfl⟩
  ·obtain⟨y,fy⟩:=Y5 2 _ rfl
   try simp only[Nat.add_zero,Nat.zero_mul,aU,Nat.mul_one]at y fy
   go_wp2_with fail;go_meet;exact⟨rfl,PW.o 2 _ {x5 with ln:=wrap64 n} agI rfl⟩
  ·obtain⟨i0,hi,hz0,hz1,hz2⟩:=infoP Ir;have hk1:W.cs.length+1<=maxLen:=by have:=HS.o.cs.2;unfold maxLen;omega
   have hk2:(W.cs.length+1)*48<=140737488355328:=by have:=HS.o.cs.2;omega
   have HA:=ah (HJ.o.below (ak w4 (.cells (kM ⟨s,0,0,false,0⟩).toArray 39)));have iW:aj (B<=(w4.alloc (.cells (kM ⟨s,0,0,false,0⟩).toArray 39)).heap.size):=ah (aJ (bH (Nat.lt_of_le_of_lt (r0.lt g0 rfl).1 (r0.lt g0 rfl).2)) (ak _ _).size);go_wp2_with (at_builtin;refine wpList_append_lies _ rfl _ _ 24 rfl B 39 i0 _ 5 48 Tryz.underlying24 hi hz0 hz1 hz2 rfl agI _ _ _ rfl HA.o.rows.1 ⟨w4.heap.size,0,none⟩ 1 1 (kM ⟨s,0,0,false,0⟩) rfl rfl (gP (heap_alloc_new _ _)) (by simp[kM,Value.oneCell']) agI hk1 hk2 iW.o _ rfl ?_);intro g' cap' w9 hown hgr hmv hlt;have HR:aj (⟨39,5,.slice (some ⟨g0,0,none⟩) W.cs.length cC,W.cs.length,W.cs.flatMap kM⟩∈gY ⟨.slice (some ⟨g0,0,none⟩) W.cs.length cC,.slice (some ⟨g1,0,none⟩) W.ls.length cL,.slice (some ⟨g2,0,none⟩) W.ns.length cN,.slice (some ⟨g3,0,none⟩) W.fs.length cF,.slice (some ⟨g4,0,none⟩) W.ts.length cT,.slice (some ⟨g5,0,none⟩) W.ss.length cS⟩ W):=ah agT;have xB:=ah (HA.o.beside HR.o hgr);have y:=aQ (j:=0) xB.o rfl;have fy:=bK (o:=0) xB.o;simp only[List.getElem_toArray,List.getElem_cons_zero,List.getElem_cons_succ]at y;go_wp2_with fail;go_meet;exact⟨rfl,ak0 (j:=0) (r:=⟨39,5,.slice (some ⟨g0,0,none⟩) W.cs.length cC,W.cs.length,W.cs.flatMap kM⟩) (r':=⟨39,5,.slice (some ⟨g',0,none⟩) (W.cs.length+1) cap',(W.cs++[mP.mk s 0 0 false 0]).length,(W.cs++[mP.mk s 0 0 false 0]).flatMap kM⟩) (s':=⟨.slice (some ⟨g',0,none⟩) (W.cs.length+1) cap',.slice (some ⟨g1,0,none⟩) W.ls.length cL,.slice (some ⟨g2,0,none⟩) W.ns.length cN,.slice (some ⟨g3,0,none⟩) W.fs.length cF,.slice (some ⟨g4,0,none⟩) W.ts.length cT,.slice (some ⟨g5,0,none⟩) W.ss.length cS⟩) (W':= {W with cs:=W.cs++[mP.mk s 0 0 false 0]}) (pre:=[]) (post:=[_,_,_,_,_]) HA.o (dR.o.trans ((ak _ _).mono dR.o.size)) Dl.o HWB.o ⟨au0 HG.o.cs (λc hc=>by rw[List.mem_singleton.1 hc];exact⟨NS.o,bc9⟩),HG.o.ls,HG.o.ns,HG.o.fs,HG.o.ts⟩ hgr rfl rfl (by show World.ownsRow _ _ _ _ _ _ _;rw[aA,List.flatMap_append];simpa using hown) (ak5 rfl (by rcases hmv with e|e;exact .inl e;exact .inr (by rw[e];simp))) rfl⟩
  ·have n0: ¬W.cs=[]:=λe=>by have:=HS.o.cs.1;rw[e]at this;exact absurd this agI
   have b0:(0:Int)<=(j0:Int):=Int.natCast_nonneg _;have hcp:W.cs.length<=cC:=by obtain⟨mh,cp,e,h1,-⟩:=eY wJ r0;injection e with e1 e2 e3;omega
   have b1:(j0:Int)<=(cC:Int):=agH
   have b2:(0:Int)<=(j0:Int)+1:=agH
   have b3:(j0:Int)+1<=(W.cs.length:Int):=agH
   have b4:(W.cs.length:Int)<=(cC:Int):=agH
   have hwr:IntKind.i64.wrap ((j0:Int)+1)=(j0:Int)+1:=IntWalk.i64_in _ (by have:=HS.o.cs.2;omega);go_upto_region 37 with fail;refine eu agG rfl ?_;refine dD 0 17 [] [[],[0],[],[],[3],[3,4],[2,3,4,5],[0,1,2,3,4,5,6],[],[8],[],[],[11],[11,12],[10,11,12,13],[10,11,12,13,14],[8,9,10,11,12,13,14,15],[0,1,2,3,4,5,6,7,8,9,10,11,12,13,14,15,16],[0,1,2,3,4,5,6,7,8,9,10,11,12,13,14,15,16,17],[0,1,2,3,4,5,6,7,8,9,10,11,12,13,14,15,16,17,18]] [[],[],[],[],[],[],[],[],[],[],[],[],[],[],[],[],[]] (λ_ w'=>w'=w4.drewN 1) (λw w'=>w=w') [170,171,172,173,174,175,176,177,178,179,180,181,182,183,184,185,186] rfl rfl ahS agG agG agG agG agG ahS (λ_=>rfl) ahS rfl ?_;simp only[jH,nY]
   iterate 17
    apply bZ.step
    case bL=>intro c A w' hok hC hO hD;have e11:=hO 11 ahS;have e12:=hO 12 ahS;simp[Act.eval]at e11 e12;simp[Act.eval]at hD;simp[go_sem,gd,Oper.wp,hD,e11,e12,hC,c0,m0,n0,b0,b1,b4,hwr,b2,b3];exact aV.mk rfl rfl (cB.mk _ _)
    try simp only[dY]
   try simp only[dY]
   refine bZ.done ?_;intro wz dL
   try simp only[jH]
   iterate 17 refine tH ?_
   refine eO.nil ?_;go_simp;refine dZ 17 [[],[0],[],[],[3],[3,4],[2,3,4,5],[0,1,2,3,4,5,6],[],[8],[],[],[11],[11,12],[10,11,12,13],[10,11,12,13,14],[8,9,10,11,12,13,14,15],[0,1,2,3,4,5,6,7,8,9,10,11,12,13,14,15,16],[0,1,2,3,4,5,6,7,8,9,10,11,12,13,14,15,16,17],[0,1,2,3,4,5,6,7,8,9,10,11,12,13,14,15,16,17,18]] rfl rfl rfl rfl rfl agG agG agG ?_;subst dL;have HD:=ah (HJ.o.below (below_drewN (au _ _) 1));have uE:=ah (below_drewN dR.o 1);have iW:aj (B<=(w4.drewN 1).heap.size):=ah (aJ (bH (Nat.lt_of_le_of_lt (r0.lt g0 rfl).1 (r0.lt g0 rfl).2)) (below_drewN (au w4.heap.size w4) 1).size);obtain⟨i0,hi,hz0,hz1,hz2⟩:=infoP Ir;obtain⟨ad,had,hsrc⟩: ∃ad:Addr,(if cC=j0+1 then some (⟨g0,0,none⟩:Addr)else some ⟨g0,(j0+1)*5,none⟩)=some ad∧∀(j:Nat) (u:Value),((W.cs.drop (j0+1)).flatMap kM)[j]? =some u->(w4.drewN 1).cell? (ad.add j)=some u:=by
    by_cases hc:cC=j0+1
    ·exact⟨_,if_pos hc,λj u hu=>by rw[List.drop_eq_nil_of_le agH]at hu;simp at hu⟩
    ·exact⟨_,if_neg hc,aD0 wJ HD.o.rows.1 l0⟩
   refine aj9 _ _ _ ahS B 39 i0 _ 5 48 Tryz.underlying24 hi hz0 hz1 hz2 ahS agI g0 j0 cC ((W.cs.take j0).flatMap kM) ahS (ak8 wJ HD.o.rows.1 (bH l0)) ad (W.cs.length -(j0+1)) (cC -(j0+1)) ((W.cs.drop (j0+1)).flatMap kM) (by rw[<- had];rfl) (by rw[ru wJ,List.length_drop]) hsrc (λu hu=>by obtain⟨x,-,hx⟩:=List.mem_flatMap.1 hu;simp[kM]at hx;rcases hx with rfl|rfl|rfl|rfl|rfl <;> rfl) (by have:=HS.o.cs.2;unfold maxLen;omega) (by have:=HS.o.cs.2;omega) iW.o ?_;intro g' cap' w9 hown hgr hmv;have HR:aj (⟨39,5,.slice (some ⟨g0,0,none⟩) W.cs.length cC,W.cs.length,W.cs.flatMap kM⟩∈gY ⟨.slice (some ⟨g0,0,none⟩) W.cs.length cC,.slice (some ⟨g1,0,none⟩) W.ls.length cL,.slice (some ⟨g2,0,none⟩) W.ns.length cN,.slice (some ⟨g3,0,none⟩) W.fs.length cF,.slice (some ⟨g4,0,none⟩) W.ts.length cT,.slice (some ⟨g5,0,none⟩) W.ss.length cS⟩ W):=ah agT;have xB:=ah (HD.o.beside HR.o hgr);have y:=aQ (j:=0) xB.o rfl;have fy:=bK (o:=0) xB.o;simp only[List.getElem_toArray,List.getElem_cons_zero,List.getElem_cons_succ]at y;have hlen:(W.cs.take j0++W.cs.drop (j0+1)).length=j0+(W.cs.length -(j0+1)):=by rw[aA,List.length_take,List.length_drop];omega
   have HF:=ah (ak0 (j:=0) (r:=⟨39,5,.slice (some ⟨g0,0,none⟩) W.cs.length cC,W.cs.length,W.cs.flatMap kM⟩) (r':=⟨39,5,.slice (some ⟨g',0,none⟩) (j0+(W.cs.length -(j0+1))) cap',(W.cs.take j0++W.cs.drop (j0+1)).length,(W.cs.take j0++W.cs.drop (j0+1)).flatMap kM⟩) (s':=⟨.slice (some ⟨g',0,none⟩) (j0+(W.cs.length -(j0+1))) cap',.slice (some ⟨g1,0,none⟩) W.ls.length cL,.slice (some ⟨g2,0,none⟩) W.ns.length cN,.slice (some ⟨g3,0,none⟩) W.fs.length cF,.slice (some ⟨g4,0,none⟩) W.ts.length cT,.slice (some ⟨g5,0,none⟩) W.ss.length cS⟩) (W':= {W with cs:=W.cs.take j0++W.cs.drop (j0+1)}) (pre:=[]) (post:=[_,_,_,_,_]) HD.o uE.o Dl.o HWB.o ⟨au0 (λc hc=>HG.o.cs c (List.mem_of_mem_take hc)) (λc hc=>HG.o.cs c (List.mem_of_mem_drop hc)),HG.o.ls,HG.o.ns,HG.o.fs,HG.o.ts⟩ hgr rfl rfl (by show World.ownsRow _ _ _ _ _ _ _;rw[hlen,List.flatMap_append];exact hown) (ak5 rfl hmv) rfl);clear hown hgr hmv HR xB HD uE iW hi hz0 hz1 hz2;go_simp;refine dD 18 19 [] [[],[0],[],[],[3],[3,4],[2,3,4,5],[0,1,2,3,4,5,6],[],[8],[],[],[11],[11,12],[10,11,12,13],[10,11,12,13,14],[8,9,10,11,12,13,14,15],[0,1,2,3,4,5,6,7,8,9,10,11,12,13,14,15,16],[0,1,2,3,4,5,6,7,8,9,10,11,12,13,14,15,16,17],[0,1,2,3,4,5,6,7,8,9,10,11,12,13,14,15,16,17,18]] [[]] (λ_ w'=>w'=w9) (λw w'=>w=w') [188] rfl rfl ahS agG agG agG agG agG ahS (λ_=>rfl) ahS rfl ?_;simp only[jH,nY];apply bZ.step
   case bL=>intro c A w' hok hC hO hD;have e11:=hO 11 ahS;simp[Act.eval]at e11;simp[Act.eval]at hD;simp[go_sem,gd,Oper.wp,hD,e11,hC];exact aV.mk rfl rfl (cB.mk _ _)
   try simp only[dY]
   refine bZ.done ?_;intro wz dL
   try simp only[jH]
   refine tH ?_;refine eO.nil ?_;go_simp;refine dZ 19 [[],[0],[],[],[3],[3,4],[2,3,4,5],[0,1,2,3,4,5,6],[],[8],[],[],[11],[11,12],[10,11,12,13],[10,11,12,13,14],[8,9,10,11,12,13,14,15],[0,1,2,3,4,5,6,7,8,9,10,11,12,13,14,15,16],[0,1,2,3,4,5,6,7,8,9,10,11,12,13,14,15,16,17],[0,1,2,3,4,5,6,7,8,9,10,11,12,13,14,15,16,17,18]] rfl rfl rfl rfl rfl agG agG agG ?_;subst dL;simp[go_sem,Oper.wp,y,fy];refine fU rfl ?_;go_simp;go_wp2_with fail;go_meet;exact⟨rfl,HF.o⟩
  ·obtain⟨i0,hi,hz0,hz1,hz2⟩:=infoP ba7;have hk1:W.ts.length+1<=maxLen:=by have:=HS.o.ts.2;unfold maxLen;omega
   have hk2:(W.ts.length+1)*16<=140737488355328:=by have:=HS.o.ts.2;omega
   have HA:=ah (HJ.o.below (ak w4 (.cells (Md.jY s).toArray 9)));have iW:aj (B<=(w4.alloc (.cells (Md.jY s).toArray 9)).heap.size):=ah (aJ (bH (Nat.lt_of_le_of_lt (r0.lt g0 rfl).1 (r0.lt g0 rfl).2)) (ak _ _).size);go_wp2_with (at_builtin;refine wpList_append_lies _ rfl _ _ 27 rfl B 9 i0 _ 1 16 Tryz.underlying27 hi hz0 hz1 hz2 rfl agI _ _ _ rfl HA.o.rows.2.2.2.2.1 ⟨w4.heap.size,0,none⟩ 1 1 (Md.jY s) rfl rfl (gP (heap_alloc_new _ _)) (by simp[Md.jY,Value.oneCell']) agI hk1 hk2 iW.o _ rfl ?_);intro g' cap' w9 hown hgr hmv hlt;have HR:aj (⟨9,1,.slice (some ⟨g4,0,none⟩) W.ts.length cT,W.ts.length,W.ts.flatMap Md.jY⟩∈gY ⟨.slice (some ⟨g0,0,none⟩) W.cs.length cC,.slice (some ⟨g1,0,none⟩) W.ls.length cL,.slice (some ⟨g2,0,none⟩) W.ns.length cN,.slice (some ⟨g3,0,none⟩) W.fs.length cF,.slice (some ⟨g4,0,none⟩) W.ts.length cT,.slice (some ⟨g5,0,none⟩) W.ss.length cS⟩ W):=ah agT;have xB:=ah (HA.o.beside HR.o hgr);have y:=aQ (j:=4) xB.o rfl;have fy:=bK (o:=4) xB.o;simp only[List.getElem_toArray,List.getElem_cons_zero,List.getElem_cons_succ]at y;go_wp2_with fail;go_meet;exact⟨rfl,ak0 (j:=4) (r:=⟨9,1,.slice (some ⟨g4,0,none⟩) W.ts.length cT,W.ts.length,W.ts.flatMap Md.jY⟩) (r':=⟨9,1,.slice (some ⟨g',0,none⟩) (W.ts.length+1) cap',(W.ts++[s]).length,(W.ts++[s]).flatMap Md.jY⟩) (s':=⟨.slice (some ⟨g0,0,none⟩) W.cs.length cC,.slice (some ⟨g1,0,none⟩) W.ls.length cL,.slice (some ⟨g2,0,none⟩) W.ns.length cN,.slice (some ⟨g3,0,none⟩) W.fs.length cF,.slice (some ⟨g',0,none⟩) (W.ts.length+1) cap',.slice (some ⟨g5,0,none⟩) W.ss.length cS⟩) (W':= {W with ts:=W.ts++[s]}) (pre:=[_,_,_,_]) (post:=[_]) HA.o (dR.o.trans ((ak _ _).mono dR.o.size)) Dl.o HWB.o ⟨HG.o.cs,HG.o.ls,HG.o.ns,HG.o.fs,au0 HG.o.ts (λc hc=>by rw[List.mem_singleton.1 hc];exact NS.o)⟩ hgr rfl rfl (by show World.ownsRow _ _ _ _ _ _ _;rw[aA,List.flatMap_append];simpa using hown) (ak5 rfl (by rcases hmv with e|e;exact .inl e;exact .inr (by rw[e];simp))) rfl⟩
 obtain⟨rfl,s',W',hj,hg,hb⟩:=hcut;obtain⟨w5,rfl⟩: ∃X:World,X=wc:=⟨_,rfl⟩;obtain⟨t,rfl,hat⟩:=hj.o hg;have HX:=ah hj.blk;have kg:=ah hb;have HK:=ah hg.wk;have HAT:=ah hat;have bC7:=ah (jX.o.same hb);obtain⟨b,HV⟩: ∃b,aj (vW W'=b):=⟨_,ah rfl⟩;clear hj hg hb hat jX HG HS HJ HK4 dR Dl HWB NS Po KW HNS Ti mg PW HKK c0 c1 c2 c3 c4 c5 r0 r1 r2 r3 r4 r5 Y0 Y1 Y2 Y3 Y4 Y5 hx0 hx1 hx2 hx3 hx4 hx5 hqq hg0 hg1 hg2 hl2 hl3 l0 l1 l4 l5 m4;cases b
 all_goals
  obtain⟨T,F,Ah,hst,hF,hnext⟩:=calm w5;have hlt:=(aO HX.o);have HF:=ah hF;have dh:=ah hnext;have UL:=ah (λx=>HAT.o.same (HF.o x));have ak4:=ah (λx=>bC7.o.same (HF.o x));have Gx0:=λx=>((HF.o x).cell (p:=⟨wb,0,none⟩) hlt).trans (aQ (j:=0) HX.o rfl);have Gx1:=λx=>((HF.o x).cell (p:=⟨wb,1,none⟩) hlt).trans (aQ (j:=1) HX.o rfl);have Gx2:=λx=>((HF.o x).cell (p:=⟨wb,2,none⟩) hlt).trans (aQ (j:=2) HX.o rfl);have Gx3:=λx=>((HF.o x).cell (p:=⟨wb,3,none⟩) hlt).trans (aQ (j:=3) HX.o rfl);have Gx4:=λx=>((HF.o x).cell (p:=⟨wb,4,none⟩) hlt).trans (aQ (j:=4) HX.o rfl);have Gx5:=λx=>((HF.o x).cell (p:=⟨wb,5,none⟩) hlt).trans (aQ (j:=5) HX.o rfl);simp only[List.getElem_toArray,List.getElem_cons_zero,List.getElem_cons_succ]at Gx0 Gx1 Gx2 Gx3 Gx4 Gx5;clear hF hnext hlt;go_upto_region 38 with fail;refine iI F agG agG hst ?_
  repeat (any_goals (first|go_big_quiet_step ((first|(go_at_call 6;refine(HC.o.vw W' t _ (UL.o _) (ak4.o _) HK.o).mono ?_;rw[HV.o];rintro e w' ⟨rfl,hb⟩;exact⟨rfl,dh.o _ _ hb⟩)|(go_at_call 7;refine(HC.o.rw W' t _ (UL.o _) HK.o).mono ?_;rw[HV.o];rintro e w' ⟨rfl,hb⟩;exact⟨rfl,dh.o _ _ hb⟩)|(go_at_call 8;refine(HC.o.aw _ (ak4.o _)).mono ?_;rintro e w' ⟨rfl,hb⟩;exact⟨rfl,dh.o _ _ hb⟩)))|(refine wpQuiet_step (λK hK=> ?_);go_simp;first|(refine hK _ ?_;clear hK K)|(split <;> first|(refine hK _ ?_;clear hK K)|(apply Exists.intro;refine⟨λ_=> ?_,hK _ ?_⟩;((first|(go_at_call 6;refine(HC.o.vw W' t _ (UL.o _) (ak4.o _) HK.o).mono ?_;rw[HV.o];rintro e w' ⟨rfl,hb⟩;exact⟨rfl,dh.o _ _ hb⟩)|(go_at_call 7;refine(HC.o.rw W' t _ (UL.o _) HK.o).mono ?_;rw[HV.o];rintro e w' ⟨rfl,hb⟩;exact⟨rfl,dh.o _ _ hb⟩)|(go_at_call 8;refine(HC.o.aw _ (ak4.o _)).mono ?_;rintro e w' ⟨rfl,hb⟩;exact⟨rfl,dh.o _ _ hb⟩)));clear hK K)))))
  all_goals (refine wpQuiet_nil ?_;rintro _ ⟨x,rfl⟩)
  go_wp2_with fail;go_ret;exact⟨rfl,kg.o.trans ((HF.o x).mono kg.o.size)⟩
end Go.Proofs.YtdoplekppjkkpaaGreatDoor
