/- The law CompileSpoils, walked, out of what the functions that it calls do. -/
import Derived.Test.YtcjgfgkllmldpaaGreatDoorGCH
import Derived.Test.YtcjgfgkllmldpaaGreatDoorGVA
set_option linter.unusedSimpArgs false
set_option linter.unusedVariables false
set_option maxHeartbeats 40000000
set_option maxRecDepth 1000000
namespace Go.Proofs.YtcjgfgkllmldpaaGreatDoor
open Go.RowKit
open Md
def coV (s:Vs) (v:Value):Value:= .agg #[s.v0,s.v1,s.v2,s.v3,s.v4,s.v5,v]
structure Jk (w:World) (B bw:Nat) (s:Vs) (W:Wo) (v:Value) (l:List mJ):Prop where
 blk:w.heap[bw]? =some (.cells #[s.v0,s.v1,s.v2,s.v3,s.v4,s.v5,v] 32 (0,0))
 row:Rows w B (zo s W v l)
 far: ∀r∈zo s W v l,r.v.ownBlock≠some bw
structure CsC:Prop where
 made: ∀(w:World) (zs:List Int) (ao:Option Addr) (cap:Nat),FW w w.heap.size zs ao->zs.length<=maxLen->Calls Tryz.prog 4 #[.slice ao zs.length cap] w λe w'=> ∃(W:Wo) (s:jr) (l:List mJ) (v:Value),e= .returned (coV (Jg W s) v)∧QI W∧0<W.cs.length∧0<l.length∧U1 l∧Rows w' w.heap.size (zo (Jg W s) W v l)∧Below w.heap.size w w'
 va: ∀(W:Wo) (s:jr) (l:List xJ) (ao:Option Addr) (cap:Nat) (w:World),gq w w.heap.size W s->eD w->Ma W->qU w w.heap.size l ao 0->l.length<=maxLen->Calls Tryz.prog 5 #[.agg #[.slice s.aC W.cs.length s.cC,.slice s.aL W.ls.length s.cL,.slice s.aN W.ns.length s.cN,.slice s.aF W.fs.length s.cF,.slice s.aT W.ts.length s.cT,.slice s.aS W.ss.length s.cS,.slice ao l.length cap]] w λe w'=>e= .returned (.bool (CY W l))∧Below w.heap.size w w'
 rv: ∀(W:Wo) (s:jr) (l:List xJ) (ao:Option Addr) (cap:Nat) (w:World),gq w w.heap.size W s->Ma W->qU w w.heap.size l ao 0->l.length<=maxLen->Calls Tryz.prog 6 #[.agg #[.slice s.aC W.cs.length s.cC,.slice s.aL W.ls.length s.cL,.slice s.aN W.ns.length s.cN,.slice s.aF W.fs.length s.cF,.slice s.aT W.ts.length s.cT,.slice s.aS W.ss.length s.cS,.slice ao l.length cap]] w λe w'=>e= .returned (.bool (CY W l))∧Below w.heap.size w w'
 aw: ∀w:World,eD w->Calls Tryz.prog 7 #[] w λe w'=>e= .returned (.bool true)∧Below w.heap.size w w'
theorem QI.wk {W:Wo} (h:QI W):Ma W:=⟨λc hc=>(h.cs c hc).1,h.ls,h.ns⟩
theorem Qf {a n:Nat} (hn:0<n): ∃j:Nat,((a:Nat):Int).tmod (n:Int)=(j:Int)∧j<n:=⟨a%n,by rw[Int.tmod_eq_emod_of_nonneg ahf];omega,Nat.mod_lt _ hn⟩
section
variable {w w':World} {B bw:Nat} {s:Vs} {W:Wo} {v:Value} {l:List mJ}
theorem Jk.below (h:Jk w B bw s W v l) (hb:Below w.heap.size w w'):Jk w' B bw s W v l:=
 ⟨(hb.block _ (aI h.blk)).trans h.blk,h.row.below hb,h.far⟩
theorem Jk.cell {α:Type} {f:α->List Value} {m:Nat} {T:TypeId} {g n cap k j:Nat} {xs:List α} {x y:α} {u:Value} {W':Wo} {l':List mJ} {pre post:List Rw} (hf: ∀x,(f x).length=m) (h:Jk w B bw s W v l)
 (e1:zo s W v l=pre++⟨T,m,.slice (some ⟨g,0,none⟩) n cap,xs.length,xs.flatMap f⟩::post) (e2:zo s W' v l'=pre++⟨T,m,.slice (some ⟨g,0,none⟩) n cap,(xs.set k y).length,(xs.set k y).flatMap f⟩::post) (hk:xs[k]? =some x) (hj:j<m) (hu:f y=(f x).set j u):Jk (w.setCell ⟨g,k*m+j,none⟩ u) B bw s W' v l':=by
 have hrow:=h.row;have vX:=h.far;rw[e1]at hrow vX;have hr:w.ownsRow B T m (.slice (some ⟨g,0,none⟩) n cap) xs.length (xs.flatMap f):=hrow.own _ (List.mem_append_right _ aW);have hgb:g≠bw:=λe=>vX _ (List.mem_append_right _ aW) (by rw[<- e];rfl);obtain⟨mK,cap',e,-⟩:=gN hf hr;injection e with q1 q2 q3;subst q2;have hk':k<xs.length:=(List.getElem?_eq_some_iff.1 hk).1;have h5:=Rm hr (k*m+j) u (by rw[rW hf];have:=Nat.mul_le_mul_right m hk';rw[Nat.succ_mul]at this;omega);rw[Kh hf xs k x y j u hk hj hu]at h5;have h6:(⟨T,m,.slice (some ⟨g,0,none⟩) xs.length cap,(xs.set k y).length,(xs.set k y).flatMap f⟩:Rw).Ok (w.setCell ⟨g,k*m+j,none⟩ u) B:=by show World.ownsRow _ _ _ _ _ _ _;rw[List.length_set];exact h5
 have h4:=hrow.put (r':=⟨T,m,.slice (some ⟨g,0,none⟩) xs.length cap,(xs.set k y).length,(xs.set k y).flatMap f⟩) (bQ w ⟨g,k*m+j,none⟩ u) h6 (.inl rfl);refine⟨(bF w _ _ rfl hgb).trans h.blk,by rw[e2];exact h4,by rw[e2];exact aM6 vX (show(Value.slice (some ⟨g,0,none⟩) xs.length cap).ownBlock≠some bw from vX ⟨T,m,.slice (some ⟨g,0,none⟩) xs.length cap,xs.length,xs.flatMap f⟩ (List.mem_append_right _ aW))⟩
theorem Jk.o (h:Jk w B bw s W v l) (hg:QI W) (hl:U1 l): ∃(t:jr) (ao:Option Addr) (cap:Nat),s=Jg W t∧v= .slice ao l.length cap∧gq w w.heap.size W t∧qU w w.heap.size (l.map mJ.t) ao 0∧l.length<=maxLen:=by
 have k:=h.row.own;simp only[zo,iB,List.cons_append,List.nil_append,List.mem_cons,forall_eq_or_imp,Rw.Ok,KM]at k;obtain⟨k0,k1,k2,k3,k4,k5,k6,k7⟩:=k;obtain⟨a0,p0,h0,l0,m0,f0⟩:=gN uO k0;obtain⟨a1,p1,h1,l1,m1,f1⟩:=gN uQ k1;obtain⟨a2,p2,h2,l2,m2,f2⟩:=gN Lh k2;obtain⟨a3,p3,h3,l3,m3,f3⟩:=gN zG k3;obtain⟨a4,p4,h4,l4,m4,f4⟩:=gN zG k4;obtain⟨a5,p5,h5,l5,m5,f5⟩:=gN GQ k5;obtain⟨a6,p6,h6,l6,m6,f6⟩:=gN LB k6;obtain⟨v0,v1,v2,v3,v4,v5⟩:=s;refine⟨⟨a0,a1,a2,a3,a4,a5,p0,p1,p2,p3,p4,p5⟩,a6,p6,by dsimp only[Jg]at h0 h1 h2 h3 h4 h5⊢;rw[h0,h1,h2,h3,h4,h5],h6,{cs:=f0,ls:=f1,ns:=f2,fs:=PX f3 hg.fs,ts:=PX f4 hg.ts,ss:=f5,lc:=aO l0 m0,ll:=aO l1 m1,ln:=aO l2 m2,lf:=aO l3 m3,lt:=aO l4 m4,lS:=aO l5 m5,ok:=λc hc=>(hg.cs c hc).2},?_,aO l6 m6⟩;have: ∀(r:List mJ) (i:Nat),(∀x∈r,x∈l)->dS Fy 2 w w.heap.size r a6 i->qU w w.heap.size (r.map mJ.t) a6 i:=by
  intro r
  induction r with
  |nil=>exact λ_ _ _=>trivial
  |cons x r ih=>intro i hm hx;obtain⟨⟨b,off,e,hb,hc⟩,hr⟩:=hx;have hx:=hm x aW;obtain⟨a7,p7,h7,-,-,f7⟩:=gN wW (k7 (xK x) (List.mem_map_of_mem hx));injection h7 with h7;refine⟨⟨b,off,x.ao,x.cap,e,hb,hc 0 _ rfl,hc 1 _ rfl,aO (hl x hx).2 ahg,by rw[h7];exact f7⟩,ih (i+1) (λy hy=>hm y (aY _ hy)) hr⟩
 exact this l 0 (λx hx=>hx) f6
end
def ZV (w0:World) (bw:Nat) (w:World):Prop:= ∃s W v l,Jk w w0.heap.size bw s W v l∧QI W∧U1 l∧Below w0.heap.size w0 w
theorem MV {α:Type} {f:α->List Value} {m:Nat} {T:TypeId} {g n cap k j:Nat} {xs:List α} {x y:α} {u:Value} {w0 w:World} {bw:Nat} {s:Vs} {W W':Wo} {v:Value} {l l':List mJ} {pre post:List Rw} (hf: ∀x,(f x).length=m) (h:Jk w w0.heap.size bw s W v l) (hb:Below w0.heap.size w0 w) (hg:QI W') (hl:U1 l')
 (e1:zo s W v l=pre++⟨T,m,.slice (some ⟨g,0,none⟩) n cap,xs.length,xs.flatMap f⟩::post) (e2:zo s W' v l'=pre++⟨T,m,.slice (some ⟨g,0,none⟩) n cap,(xs.set k y).length,(xs.set k y).flatMap f⟩::post) (hk:xs[k]? =some x) (hj:j<m) (hu:f y=(f x).set j u):ZV w0 bw (w.setCell ⟨g,k*m+j,none⟩ u):=
 ⟨s,W',v,l',h.cell hf e1 e2 hk hj hu,hg,hl,hb.trans (cB (bQ w ⟨g,k*m+j,none⟩ u) (((h.row.own ⟨T,m,.slice (some ⟨g,0,none⟩) n cap,xs.length,xs.flatMap f⟩ ail).lt g rfl).1) hb.size)⟩
theorem V9 {α β:Type} {f:α->β} {l:List α} {k:Nat} {x y:α} (hk:l[k]? =some x) (h:f y=f x):(l.set k y).map f=l.map f:=by
 rw[List.map_set,h];refine List.ext_getElem? λi=> ?_;rw[List.getElem?_set];split
 ·rename_i e;subst e;split
  ·rw[List.getElem?_map,hk];rfl
  ·rename_i hn;rw[List.getElem?_eq_none (Nat.le_of_not_lt hn)]
 ·rfl
theorem ae9 {s:Vs} {W:Wo} {v:Value} {l:List mJ} {j:Nat} {x:mJ} (hx:l[j]? =some x):zo s W v l=(iB s W++KM v l::(l.take j).map xK)++xK x::(l.drop (j+1)).map xK:=by
 obtain⟨hj,e⟩:=List.getElem?_eq_some_iff.1 hx;unfold zo;rw[List.append_assoc,List.cons_append,<- List.map_cons,<- List.map_append,<- e,<- List.drop_eq_getElem_cons hj,List.take_append_drop]
theorem ba5 {s:Vs} {W:Wo} {v:Value} {l:List mJ} {j:Nat} {x y:mJ} (hx:l[j]? =some x) (hy:Fy y=Fy x):zo s W v (l.set j y)=(iB s W++KM v l::(l.take j).map xK)++xK y::(l.drop (j+1)).map xK:=by
 have hj:=(List.getElem?_eq_some_iff.1 hx).1;rw[ae9 (l:=l.set j y) (j:=j) (x:=y) (by rw[List.getElem?_set];simp[hj]),List.take_set_of_le (aD j),List.drop_set_of_lt (Nat.lt_succ_self j)];have:KM v (l.set j y)=KM v l:=by unfold KM;rw[List.length_set,List.flatMap_def,V9 hx hy,<- List.flatMap_def]
 rw[this]
theorem VY (HC:aj CsC) (ao:Option Addr) (cap:Nat) (zs:List Int) (hcap:zs.length<=maxLen) (th a f:Nat) (ht:th<=255) (ha:a<=255) (hf:f<=255) (n:Int) (w:World) (hz:FW w w.heap.size zs ao) (fG:eD w):
 Calls Tryz.prog 3 #[.slice ao zs.length cap,.int .u8 th,.int .u8 a,.int .u8 f,.int .i64 n] w λe w'=>e= .returned (.bool true)∧Below w.heap.size w w':=by
 have HZ:=ah hz;have aT9:=ah fG;clear hz fG;by_cases bV7:200<zs.length
 ·go_enter Tryz.func3,Tryz.ntmps3;go_wp2_with fail;go_ret;exact⟨rfl,ak _ _⟩
 go_enter Tryz.func3,Tryz.ntmps3;go_wp2_with fail;refine(HC.o.made w zs ao cap HZ.o hcap).mono ?_;rintro e w1 ⟨W,s,l,v,rfl,hg,hc0,hl0,hts,hrow,hb1⟩;have HG:=ah hg;have HS:=ah (ay hc0 (ay hl0 hts));have HB1:=ah hb1;have HR:=ah hrow;obtain⟨aC,aL,aN,aF,aT,aS,cC,cL,cN,cF,cT,cS⟩:=s;obtain⟨g0,p0,e0,-⟩:=(hrow.own ⟨42,5,.slice aC W.cs.length cC,W.cs.length,W.cs.flatMap kM⟩ (by simp[zo,iB,Jg])).form hc0;obtain⟨gT,cV,e6,-⟩:=(hrow.own (KM v l) (by simp[zo])).form hl0;have e6:v= .slice (some ⟨gT,0,none⟩) l.length cV:=e6;have e0:Value.slice aC W.cs.length cC= .slice (some ⟨g0,0,none⟩) W.cs.length p0:=e0;injection e0 with e0 _ e1;subst e6 e0 e1;unfold coV;dsimp only[Jg]at hrow⊢;clear hrow hg hl0 hts hc0 hb1;dsimp only[Jg]at HR;go_upto_region 4 with fail;generalize hW:World.alloc w1 _=w3;obtain⟨wb,hwb,HB3,-,HX,ql⟩:=oJ hW;have HJ0:aj (Jk w3 w.heap.size wb ⟨.slice (some ⟨g0,0,none⟩) W.cs.length cC,.slice aL W.ls.length cL,.slice aN W.ns.length cN,.slice aF W.fs.length cF,.slice aT W.ts.length cT,.slice aS W.ss.length cS⟩ W (.slice (some ⟨gT,0,none⟩) l.length cV) l):=ah ⟨HX.o,HR.o.below HB3.o,λr hr e=>by have:=((HR.o.own r hr).lt _ e).2;omega⟩;rw[hwb];have pY:aj (Below w.heap.size w w3):=ah (HB1.o.trans (HB3.o.mono HB1.o.size));clear hW hwb HR HX ql HB1 HB3 e0 e6;have w0:IntKind.i64.wrap (th:Int)=th:=IntWalk.i64_in _ ahf;have w1:IntKind.i64.wrap (a:Int)=a:=IntWalk.i64_in _ ahf;obtain⟨j,m0,l0⟩:=Qf (a:=th) HS.o.2.1;obtain⟨⟨rg,is,oP,cI⟩,hx⟩: ∃x,l[j]? =some x:=⟨_,aX l0⟩;have hxs:0<is.length∧is.length<=1000000000000:=HS.o.2.2 _ (List.mem_of_getElem? hx);obtain⟨i,m1,l1⟩:=Qf (a:=a) hxs.1;obtain⟨y,hy⟩: ∃y,is[i]? =some y:=⟨_,aX l1⟩;obtain⟨gI,cI',e7,-⟩:=(HJ0.o.row.own (xK ⟨rg,is,oP,cI⟩) (List.mem_append_right _ (aY _ (List.mem_map_of_mem (List.mem_of_getElem? hx))))).form hxs.1;have e7:Value.slice oP is.length cI= .slice (some ⟨gI,0,none⟩) is.length cI':=e7;injection e7 with e7 _ e8;subst e7 e8;have HT:=ah (P7 LB (HJ0.o.row.own (KM (.slice (some ⟨gT,0,none⟩) l.length cV) l) (by simp[zo])) hx);have HX:=ah (ay hx (ay hy hxs));have c6:w3.cell? ⟨wb,6,none⟩=some (.slice (some ⟨gT,0,none⟩) l.length cV):=aG (j:=6) HJ0.o.blk rfl;have z1:=(HT.o 1 _ rfl).1;clear hx hy hxs;have n0: ¬l=[]:=λe=>by rw[e]at l0;exact absurd l0 (Nat.not_lt_zero _)
 have b0:(0:Int)<=(j:Int):=Int.natCast_nonneg _;have d0:(j:Int)<(l.length:Int):=Int.ofNat_lt.2 l0;have n1: ¬is=[]:=λe=>by rw[e]at l1;exact absurd l1 (Nat.not_lt_zero _)
 have b1:(0:Int)<=(i:Int):=Int.natCast_nonneg _;have d1:(i:Int)<(is.length:Int):=Int.ofNat_lt.2 l1;refine cK ahe rfl ?_;refine bW 0 10 [] [[],[0],[],[2],[],[4],[4,5],[2,3,4,5,6],[0,1,2,3,4,5,6,7],[0,1,2,3,4,5,6,7,8]] [[],[],[],[],[],[],[],[],[],[]] (λ_ w'=>w'=w3.drewN 1) (λw w'=>w=w') [20,21,22,23,24,25,26,27,28,12] rfl rfl aix ahe ahe ahe ahe ahe aix (λ_=>rfl) aix rfl ?_;simp only[gJ,kE]
 iterate 10
  apply bH.step
  case cu=>intro c A w' hok hC hO hD;have e11:=hO 11 aix;have e1:=hO 1 aix;simp[Act.eval]at e11 e1;simp[Act.eval]at hD;simp[go_sem,gd,Oper.wp,hD,e11,e1,hC,c6,w0,m0,n0,b0,d0];exact aZ.mk rfl rfl (dO.mk _ _)
  try simp only[dI]
 try simp only[dI]
 refine bH.done ?_;intro wz dx
 try simp only[gJ]
 iterate 10 refine kZ ?_
 refine eY.nil ?_;go_simp;refine dH rfl ?_;go_simp;subst dx;have z1:(w3.drewN 1).cell? _=_:=z1;have dL:aj (Below w.heap.size w (w3.drewN 1)):=ah (below_drewN pY.o 1);have HJ4:aj (Jk (w3.drewN 1) w.heap.size wb _ W _ l):=ah (HJ0.o.below (below_drewN (ak _ _) 1));clear HJ0 pY c6 m0 n0 b0 d0;generalize w3.drewN 1=w4 at *;go_upto_region 5 with fail;refine cK ahe rfl ?_;refine bW 0 14 [] [[],[0],[0,1],[0,1,2],[],[4],[],[6],[6,7],[6,7,8],[6,7,8,9],[4,5,6,7,8,9,10],[0,1,2,3,4,5,6,7,8,9,10,11],[0,1,2,3,4,5,6,7,8,9,10,11,12]] [[],[],[],[],[],[],[],[],[],[],[],[],[],[]] (λ_ w'=>w'=w4.drewN 1) (λw w'=>w=w') [29,30,31,32,33,34,35,36,37,38,39,40,41,13] rfl rfl aix ahe ahe ahe ahe ahe aix (λ_=>rfl) aix rfl ?_;simp only[gJ,kE]
 iterate 14
  apply bH.step
  case cu=>intro c A w' hok hC hO hD;have e12:=hO 12 aix;have e2:=hO 2 aix;simp[Act.eval]at e12 e2;simp[Act.eval]at hD;simp[go_sem,gd,Oper.wp,hD,e12,e2,hC,z1,w1,m1,n1,b1,d1];exact aZ.mk rfl rfl (dO.mk _ _)
  try simp only[dI]
 try simp only[dI]
 refine bH.done ?_;intro wz dx
 try simp only[gJ]
 iterate 14 refine kZ ?_
 refine eY.nil ?_;go_simp;refine dH rfl ?_;go_simp;subst dx;have iU:aj (Below w.heap.size w (w4.drewN 1)):=ah (below_drewN dL.o 1);have HJ:aj (Jk (w4.drewN 1) w.heap.size wb _ W _ l):=ah (HJ4.o.below (below_drewN (ak _ _) 1));clear dL HJ4 z1 m1 n1 b1 d1 HT;generalize w4.drewN 1=w5 at *;have HA:=ah (P7 LB (HJ.o.row.own (KM (.slice (some ⟨gT,0,none⟩) l.length cV) l) (by simp[zo])) HX.o.1);have HI:=ah (P7 wW (HJ.o.row.own (xK ⟨rg,is,some ⟨gI,0,none⟩,cI⟩) (List.mem_append_right _ (aY _ (List.mem_map_of_mem (List.mem_of_getElem? HX.o.1))))) HX.o.2.1);have HIS:aj (∀(k:Nat) (u:Value) (z:dw),k<6->jd z=(jd y).set k u->ZV w wb (w5.setCell ⟨gI,i*6+k,none⟩ u)):=ah (λk u z hk hu=>MV (W':=W) (l':=l.set j ⟨rg,is.set i z,some ⟨gI,0,none⟩,cI⟩) wW HJ.o iU.o HG.o (PG HS.o.2.2 (by have:=HX.o.2.2;simpa using this)) (ae9 HX.o.1) (by rw[ba5 HX.o.1 (by simp[Fy])];simp[xK]) HX.o.2.1 hk hu);have lH:aj (∀kk:Int,ZV w wb (w5.setCell ⟨gT,j*2+0,none⟩ (.int .i64 kk))):=ah (λkk=>MV (W':=W) (l':=l.set j ⟨kk,is,some ⟨gI,0,none⟩,cI⟩) (x:=⟨rg,is,some ⟨gI,0,none⟩,cI⟩) (y:=⟨kk,is,some ⟨gI,0,none⟩,cI⟩) (pre:=iB _ W) (post:=l.map xK) LB HJ.o iU.o HG.o (PG HS.o.2.2 HX.o.2.2) rfl (by unfold zo;rw[V9 (f:=xK) (y:=⟨kk,is,some ⟨gI,0,none⟩,cI⟩) HX.o.1 rfl];rfl) HX.o.1 ahg rfl);obtain⟨kk,hkk⟩: ∃k:Int,n.tmod 40=k:=⟨_,rfl⟩;have HKK:aj (cO kk):=ah (by have h1:=Int.tmod_lt_of_pos n (show(0:Int)<40 by decide);have h2:=Int.lt_tmod_of_pos n (show(0:Int)<40 by decide);rw[hkk]at h1 h2;unfold cO;omega);obtain⟨qq,hqq⟩: ∃q:Int,((f:Nat):Int).tmod 8=q:=⟨_,rfl⟩;go_upto_block 0 with fail;clear hkk z1 e7;obtain⟨j0,m0,l2⟩:=Qf (a:=a) HS.o.1;obtain⟨c,hc⟩: ∃c,W.cs[j0]? =some c:=⟨_,aX l2⟩;have hgc:=HG.o.cs c (List.mem_of_getElem? hc);have LQ:aj (∀w',Below w5.heap.size w5 w'->ZV w wb (w'.setCell ⟨g0,j0*5+2,none⟩ (.int .i64 kk))):=ah (λw' hb=>MV (W':= {W with cs:=W.cs.set j0 {c with sz:=kk}}) (l':=l) (x:=c) (y:= {c with sz:=kk}) (pre:=[]) (post:=[_,_,_,_,_]++KM _ l::l.map xK) uO (HJ.o.below hb) (iU.o.trans (hb.mono iU.o.size)) ⟨PG HG.o.cs ⟨hgc.1,HKK.o⟩,HG.o.ls,HG.o.ns,HG.o.fs,HG.o.ts⟩ HS.o.2.2 rfl rfl hc ahg rfl);have xu:=ah (P7 uO (HJ.o.row.own ⟨42,5,.slice (some ⟨g0,0,none⟩) W.cs.length cC,W.cs.length,W.cs.flatMap kM⟩ (by simp[zo,iB])) hc);have c0:w5.cell? ⟨wb,0,none⟩=some (.slice (some ⟨g0,0,none⟩) W.cs.length cC):=aG (j:=0) HJ.o.blk rfl;have hcl:=HS.o.1;clear hc hgc;go_cut [10] (λs10 W'=>s10= .bool false∧ZV w wb W')
 case first=>
  have h8:qq=0∨qq=1∨qq=2∨qq=3∨qq=4∨qq=5∨qq=6∨qq=7:=by rw[<- hqq,Int.tmod_eq_emod_of_nonneg ahf];omega
  rcases h8 with rfl|rfl|rfl|rfl|rfl|rfl|rfl|rfl
  ·obtain⟨q,fq⟩:=HI.o 0 _ rfl
   try simp only[Nat.add_zero]at q fq
   go_wp2_with fail;go_meet;exact⟨rfl,HIS.o 0 _ {y with op:=kk} ahg rfl⟩
  ·obtain⟨q,fq⟩:=HI.o 1 _ rfl
   try simp only[Nat.add_zero]at q fq
   go_wp2_with fail;go_meet;exact⟨rfl,HIS.o 1 _ {y with a:=kk} ahg rfl⟩
  ·obtain⟨q,fq⟩:=HI.o 2 _ rfl
   try simp only[Nat.add_zero]at q fq
   go_wp2_with fail;go_meet;exact⟨rfl,HIS.o 2 _ {y with b:=kk} ahg rfl⟩
  ·obtain⟨q,fq⟩:=HI.o 3 _ rfl
   try simp only[Nat.add_zero]at q fq
   go_wp2_with fail;go_meet;exact⟨rfl,HIS.o 3 _ {y with c:=kk} ahg rfl⟩
  ·obtain⟨q,fq⟩:=HI.o 4 _ rfl
   try simp only[Nat.add_zero]at q fq
   go_wp2_with fail;go_meet;exact⟨rfl,HIS.o 4 _ {y with n:=n} ahg rfl⟩
  ·obtain⟨q,fq⟩:=HI.o 5 _ rfl
   try simp only[Nat.add_zero]at q fq
   go_wp2_with fail;go_meet;exact⟨rfl,HIS.o 5 _ {y with st:=kk} ahg rfl⟩
  ·obtain⟨q,fq⟩:=HA.o 0 _ rfl
   try simp only[Nat.add_zero]at q fq
   go_wp2_with fail;go_meet;exact⟨rfl,lH.o kk⟩
  ·obtain⟨q,fq⟩:=xu.o 2 _ rfl;have n0: ¬W.cs=[]:=λe=>by rw[e]at hcl;exact absurd hcl ahg
   have b0:(0:Int)<=(j0:Int):=Int.natCast_nonneg _;have d0:(j0:Int)<(W.cs.length:Int):=Int.ofNat_lt.2 l2;have h0:(0:Int)<(W.cs.length:Int):=Int.ofNat_lt.2 hcl;go_upto_region 9 with fail;refine cK ahe rfl ?_;refine bW 0 13 [] [[],[0],[0,1],[],[3],[],[5],[5,6],[5,6,7],[3,4,5,6,7,8],[],[0,1,2,3,4,5,6,7,8,9,10],[0,1,2,3,4,5,6,7,8,9,10,11],[0,1,2,3,4,5,6,7,8,9,10,11,12]] [[],[],[],[],[],[],[],[],[],[],[],[],[]] (λ_ w'=>w'=w5.drewN 1) (λw w'=>w=w') [51,52,53,54,55,56,57,58,59,60,61,62,63] rfl rfl aix ahe ahe ahe ahe ahe aix (λ_=>rfl) aix rfl ?_;simp only[gJ,kE]
   iterate 13
    apply bH.step
    case cu=>intro c A w' hok hC hO hD;have e11:=hO 11 aix;have e2:=hO 2 aix;have e14:=hO 14 aix;simp[Act.eval]at e11 e2 e14;simp[Act.eval]at hD;simp[go_sem,gd,Oper.wp,hD,e11,e2,e14,hC,c0,w1,m0,n0,b0,d0];exact aZ.mk rfl rfl (dO.mk _ _)
    try simp only[dI]
   try simp only[dI]
   refine bH.done ?_;intro wz dx
   try simp only[gJ]
   iterate 13 refine kZ ?_
   refine eY.nil ?_;go_simp;refine dD 13 [[],[0],[0,1],[],[3],[],[5],[5,6],[5,6,7],[3,4,5,6,7,8],[],[0,1,2,3,4,5,6,7,8,9,10],[0,1,2,3,4,5,6,7,8,9,10,11],[0,1,2,3,4,5,6,7,8,9,10,11,12]] rfl rfl rfl rfl rfl ahe ahe ahe ?_;subst dx;simp[go_sem,Oper.wp,q,fq];refine dH rfl ?_;go_simp;go_wp2_with fail;go_meet;exact⟨rfl,LQ.o _ (below_drewN (ak _ _) 1)⟩
 obtain⟨rfl,s',W',v',l',hj,hg,ht,hb⟩:=hcut;obtain⟨w6,rfl⟩: ∃X:World,X=wc:=⟨_,rfl⟩;obtain⟨t,Me,Mi,rfl,rfl,hat,htc,hlm⟩:=hj.o hg ht;have HXB:=ah hj.blk;have dF:=ah hb;have HK:=ah hg.wk;have HAT:=ah hat;have HTC:=ah htc;have HL:aj ((l'.map mJ.t).length<=maxLen):=ah (by rw[fM];exact hlm);have bE6:=ah (aT9.o.same hb);obtain⟨b,HV⟩: ∃b,aj (CY W' (l'.map mJ.t)=b):=⟨_,ah rfl⟩;clear hj hg ht hb hat htc hlm aT9 HG HS HJ iU HX HA HI HIS lH HKK LQ xu c0 hcl hqq l0 l1 l2 m0 w0 w1 HZ;rw[show l'.length=(l'.map mJ.t).length from(fM _).symm]at HXB;generalize l'.map mJ.t=lt at *;dsimp only[Jg]at HXB;cases b
 all_goals
  obtain⟨T,F,yU,hst,hF,hnext⟩:=calm w6;have hlt:=(aI HXB.o);have HF:=ah hF;have dN:=ah hnext;have zM:=ah (λx=>HAT.o.same (HF.o x));have YG:=ah (λx=>Ru HTC.o (HF.o x));have Yz:=ah (λx=>bE6.o.same (HF.o x));have G0:=λx=>((HF.o x).cell (p:=⟨wb,0,none⟩) hlt).trans (aG (j:=0) HXB.o rfl);have G1:=λx=>((HF.o x).cell (p:=⟨wb,1,none⟩) hlt).trans (aG (j:=1) HXB.o rfl);have G2:=λx=>((HF.o x).cell (p:=⟨wb,2,none⟩) hlt).trans (aG (j:=2) HXB.o rfl);have G3:=λx=>((HF.o x).cell (p:=⟨wb,3,none⟩) hlt).trans (aG (j:=3) HXB.o rfl);have G4:=λx=>((HF.o x).cell (p:=⟨wb,4,none⟩) hlt).trans (aG (j:=4) HXB.o rfl);have G5:=λx=>((HF.o x).cell (p:=⟨wb,5,none⟩) hlt).trans (aG (j:=5) HXB.o rfl);have G6:=λx=>((HF.o x).cell (p:=⟨wb,6,none⟩) hlt).trans (aG (j:=6) HXB.o rfl);simp only[List.getElem_toArray,List.getElem_cons_zero,List.getElem_cons_succ]at G0 G1 G2 G3 G4 G5 G6;clear hF hnext hlt;go_upto_region 24 with fail;refine gX F ahe ahe hst ?_
  repeat (any_goals (first|go_big_quiet_step ((first|(go_at_call 5;refine(HC.o.va W' t lt Me Mi _ (zM.o _) (Yz.o _) HK.o (YG.o _) HL.o).mono ?_;rw[HV.o];rintro e w' ⟨rfl,hb⟩;exact⟨rfl,dN.o _ _ hb⟩)|(go_at_call 6;refine(HC.o.rv W' t lt Me Mi _ (zM.o _) HK.o (YG.o _) HL.o).mono ?_;rw[HV.o];rintro e w' ⟨rfl,hb⟩;exact⟨rfl,dN.o _ _ hb⟩)|(go_at_call 7;refine(HC.o.aw _ (Yz.o _)).mono ?_;rintro e w' ⟨rfl,hb⟩;exact⟨rfl,dN.o _ _ hb⟩)))|(refine wpQuiet_step (λK hK=> ?_);go_simp;first|(refine hK _ ?_;clear hK K)|(split <;> first|(refine hK _ ?_;clear hK K)|(apply Exists.intro;refine⟨λ_=> ?_,hK _ ?_⟩;((first|(go_at_call 5;refine(HC.o.va W' t lt Me Mi _ (zM.o _) (Yz.o _) HK.o (YG.o _) HL.o).mono ?_;rw[HV.o];rintro e w' ⟨rfl,hb⟩;exact⟨rfl,dN.o _ _ hb⟩)|(go_at_call 6;refine(HC.o.rv W' t lt Me Mi _ (zM.o _) HK.o (YG.o _) HL.o).mono ?_;rw[HV.o];rintro e w' ⟨rfl,hb⟩;exact⟨rfl,dN.o _ _ hb⟩)|(go_at_call 7;refine(HC.o.aw _ (Yz.o _)).mono ?_;rintro e w' ⟨rfl,hb⟩;exact⟨rfl,dN.o _ _ hb⟩)));clear hK K)))))
  all_goals (refine wpQuiet_nil ?_;rintro _ ⟨x,rfl⟩)
  go_wp2_with fail;go_ret;exact⟨rfl,dF.o.trans ((HF.o x).mono dF.o.size)⟩
end Go.Proofs.YtcjgfgkllmldpaaGreatDoor
