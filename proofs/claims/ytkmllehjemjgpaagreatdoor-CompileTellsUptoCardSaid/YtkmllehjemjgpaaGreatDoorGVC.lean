/- Contract of compile's validCells for scalars and arrays of two. And what hangs on it. -/
import Derived.Test.YtkmllehjemjgpaaGreatDoorGVA
import Derived.Test.YtkmllehjemjgpaaGreatDoorGMB
import Derived.Test.YtkmllehjemjgpaaGreatDoorGMX
import Derived.Test.YtkmllehjemjgpaaGreatDoorGCA
import Derived.Deep.AppendLies
import Derived.Laws.Append
import Derived.Maps.AppendAt
import Derived.Test.YtkmllehjemjgpaaGreatDoorGME
import Derived.Test.YtkmllehjemjgpaaGreatDoorGCE
set_option linter.unusedSimpArgs false
set_option linter.unusedVariables false
set_option maxHeartbeats 40000000
set_option maxRecDepth 1000000
namespace Go.Proofs.YtkmllehjemjgpaaGreatDoor
open Go.RowKit
open Md
theorem mU.far {B b:Nat} {w w':World} {v:Value} {l:List ByteArray} (h:mU B w v l) (hg:w.grownBy w' (some b)) (hne:v.ownBlock≠some b):mU B w' v l:=
 ⟨h.own.kept hg (.inr hne),λ_ _ _ _=>trivial⟩
theorem QO:(Tryz.prog.info? 9).map (λi=>(i.zero,i.size,i.bytes))=some (some (.string ⟨#[]⟩),1,16):=by kernel_rfl
theorem ac0 (a:ByteArray) (i z n:Int) (v:Bool) (w:World):
 (binOp .neq 66 (.agg #[.string a,.int .i64 i,.int .i64 z,.bool v,.int .i64 n]) (.agg #[.string a,.int .i64 i,.int .i64 z,.bool v,.int .i64 n])).run Tryz.prog w= .ok (.bool false) w:=by
 simp[go_sem]
theorem aB0 {P:Program} {o:Oper} {a:Act} {w:World} {K:Act->World->Prop} {Q:Exit->Act->World->Prop} (s x:Operand) (T ty:TypeId) (ho:o.op= .binOp .neq T s x ty)
 (A B:Value) (r:Bool) (hs:a.eval s=A) (hx:a.eval x=B) (hg:(eqGuard .neq T s x A B).run P w= .ok () w) (hr:(binOp .neq T A B).run P w= .ok (.bool r) w) (h:K (a.put o.dst (.bool r)) w):o.wp P a w K Q:=by
 unfold Oper.wp execOp;simp only[ho,Sem.run_bind,Sem.run_pure,Result.andThen_ok,hs,hx,hg,hr];exact h
theorem Sm (s x:Operand) (xs ys:Array Value) (w:World):(eqGuard .neq 66 s x (.agg xs) (.agg ys)).run Tryz.prog w= .ok () w:=run_eqGuard_agg (w:=w) .neq 66 s x xs ys Tryz.eqGuardType66
def VcP (v:List ByteArray) (w:World) (e:Ending) (w':World):Prop:=(∃ao cap,e= .returned (.tuple #[.slice ao v.length cap,.bool true])∧eD w' w'.heap.size v ao 0∧v.length<=cap)∧Below w.heap.size w w'
theorem M8 (l:List rQ) (v:List ByteArray) (hv:Vz l v) (w:World) (ao:Option Addr) (cap:Nat) (hl:l.length<=12) (hw:dF jo 5 w w.heap.size l ao 0) (hn: ∀x∈v,x.size<=maxLen):
 Calls Tryz.prog 41 #[.slice ao l.length cap] w (VcP v w):=by
 have HW:=ah hw;have HN:=ah hn;have HV:=ah hv;obtain⟨B,hB⟩: ∃n,w.heap.size=n:=⟨_,rfl⟩;have fP:=ah hB;rw[hB]at HW;clear hw hn hv hB;go_enter Tryz.func41,Tryz.ntmps41;go_wp2_with fail;go_loopw [4,5,6,7,51,52] (λv4 v5 _ _ _ _ wr=> ∃(k:Nat) (R:List rQ) (acc u:List ByteArray),v5= .int .i64 k∧k+R.length=l.length∧Vz R u∧acc++u=v∧mU B wr v4 acc∧dF jo 5 wr B R ao k∧Below B w wr∧acc.length<=k) (λ_ v _ _ _ _ _=>l.length -(intOf v).toNat)
 case atStart=>exact⟨0,l,[],v,rfl,by simp,HV.o,rfl,Grow.nil _ _ _ _ _ _,HW.o,Below.refl _ _,Nat.le_refl _⟩
 case round=>
  obtain⟨k,R,acc,u,rfl,hlen,Vg,yM,hg,hrow,hbel,hac⟩:=hrel;have HG:=ah hg;have HB:=ah hbel;have uf:aj (B<=wr.heap.size):=ah (by have h1:=hbel.size;have h2:=fP.o;omega);have Bb:=ah yM;clear hg hbel yM HV;by_cases hR:R=[]
  ·subst hR;obtain rfl:k=l.length:=by simpa using hlen
   cases Vg;have yM:=Bb.o;rw[List.append_nil]at yM;subst yM;obtain⟨DX,cap2,rfl,hc2,hst⟩:=mU.says HG.o HN.o;have HST:=ah hst.now;have Mt:=ah hc2;clear hst hc2;go_wp2_with fail
   go_ret2
   exact⟨⟨DX,cap2,rfl,HST.o,Mt.o⟩,by rw[fP.o];exact HB.o⟩
  ·obtain⟨c,R1,rfl⟩: ∃c R1,R=c::R1:=by
    cases R with
    |nil=>exact absurd rfl hR
    |cons c R1=>exact⟨c,R1,rfl⟩
   obtain⟨y,u,rfl⟩: ∃y u1,u=y::u1:=by cases Vg <;> exact⟨_,_,rfl⟩
   have hy:c.nm=y:=by cases Vg <;> rfl
   have HY:=ah hy;have HVZ:=ah Vg;have aP5:=ah hrow;obtain⟨⟨b,off,rfl,hb1,hcs⟩,hrest⟩:=hrow;simp only[List.length_cons]at hlen;have hkl:k<l.length:=by omega
   have x0:=hcs 0 _ rfl;have x1:=hcs 1 _ rfl;have x2:=hcs 2 _ rfl;have x3:=hcs 3 _ rfl;have x4:=hcs 4 _ rfl;simp only[Nat.add_zero]at x0;clear hcs hrest hy Vg hR;go_upto_region 5 with fail;generalize hW2:World.alloc wr _=w2;obtain⟨cb,hcb,Mv,HB2,vN,-⟩:=Ct hW2;have HG2:=ah (HG.o.next (dN (by rw[hcb];exact HB2.o)));rw[hcb];clear hW2 hcb x0 x1 x2 x3 x4;have y0:=au (j:=0) vN.o rfl;simp only[List.getElem_toArray,List.getElem_cons_zero,List.getElem_cons_succ]at y0;obtain⟨av,cv,hv⟩:=HG2.o.len;subst hv;have oo:=ah (HG2.o.next (dN (ak w2 (.cells (tH c.nm).toArray 9))));have iG:=ah (gq (heap_alloc_new w2 (.cells (tH c.nm).toArray 9)));obtain⟨i0,hi,hz0,hz1,hz2⟩:=wW QO;have HW2:aj (cb<w2.heap.size):=ah (Array.getElem?_eq_some_iff.1 vN.o).1;have uE:aj (B<=cb):=ah (by have:=uf.o;have:=Mv.o;omega);have hbs:B<=w2.heap.size+1:=by have h1:=HW2.o;have h2:=uE.o;omega
   have av1:acc.length+1<=maxLen:=by unfold maxLen;omega
   have Oi:(acc.length+1)*16<=140737488355328:=by omega
   go_wp2_with (at_builtin;refine wpList_append_lies _ rfl _ _ 29 rfl B 9 i0 _ 1 16 Tryz.underlying29 hi hz0 hz1 hz2 rfl (by decide) _ _ _ rfl oo.o.own ⟨w2.heap.size,0,none⟩ 1 1 (tH c.nm) rfl rfl iG.o (by simp[tH,Value.oneCell']) (by decide) av1 Oi (by simpa using hbs) _ rfl ?_);clear hi hz0 hz1 hz2 y0;intro g Hz w3 hown hgr hmv hlt3;have Cb:aj (mU B w3 (.slice (some ⟨g,0,none⟩) (acc.length+1) Hz) (acc++[y])):=ah (by rw[<- HY.o];exact oo.o.push (x:=c.nm) (λ_ _=>trivial) rfl hown hgr (by simpa using hmv));have Ml:aj (∀q,(Value.slice av acc.length cv).ownBlock=some q->B<=q∧q<cb):=ah (λq hq=>by have:=HG.o.lt q hq;rw[Mv.o]at this;exact this);have ah3:aj (Below B wr w3):=ah (((HB2.o.mono uE.o).trans ((ak w2 _).mono (by have h1:=HW2.o;have h2:=uE.o;omega))).trans ⟨hgr.os,hgr.tape,hgr.output,hgr.size,λq hq=>hgr.block q (by simp;have h1:=HW2.o;have h2:=uE.o;omega) (λe=>by have:=(Ml.o q e.symm).1;omega)⟩);have HB3:=ah (HB.o.trans ah3.o);have Xe:=ah ((hgr.block cb (by simp;have:=HW2.o;omega) (λe=>by have:=(Ml.o cb e.symm).2;omega)).trans ((heap_alloc_old _ _ HW2.o).trans vN.o));have HGN:aj (g≠cb):=ah (by
    rcases hmv with h|h
    ·have:=(Ml.o g h).2;omega
    ·have:=HW2.o;omega)
   have hw1:IntKind.i64.wrap ((k:Int)+1)=(k:Int)+1:=IntWalk.i64_in _ (by omega);have HAY:aj ((acc++[y])++u=v):=ah (by rw[List.append_assoc];exact Bb.o);clear hown hgr hmv hlt3 hbs av1 Oi iG oo HG2 vN HG Ml;have HR3:=ah (aP5.o.below ah3.o);cases HVZ.o with
   |one hsz hix hvr=>
    obtain⟨z0,z1,z2,z3,z4⟩:=Zx Xe.o;rw[hsz]at z2;rw[hix]at z1;go_wp2_with fail;go_roundw
    case rel=>exact⟨k+1,R1,acc++[c.nm],u,by go_num,by omega,hvr,HAY.o,Cb.o,HR3.o.2,HB3.o,by simp;omega⟩
    case measure=>simp[intOf];omega
   | @two _ i r _ hvr=>
     obtain⟨z0,z1,z2,z3,z4⟩:=Zx Xe.o;dsimp only at *;simp only[List.length_cons]at hlen;have hwl:IntKind.i64.wrap ((l.length:Int) -(k:Int))=(l.length:Int) -(k:Int):=IntWalk.i64_in _ (by omega);have hle: ¬(l.length:Int) -(k:Int)<2:=(by omega);go_upto_region 13 with fail;clear z0 z1 z2 z3 z4 hwl hle;obtain⟨wI,Vh⟩: ∃W:World,W=wr:=⟨_,rfl⟩;subst Vh;go_loopw [7,52] (λ_ v52 wq=> ∃(j:Nat) (ix:Int),v52= .int .i64 j∧j<=2∧wq.heap[cb]? =some (.cells #[.string y,.int .i64 ix,.int .i64 2,.bool false,.int .i64 i] 66 (0,0))∧mU B wq (.slice (some ⟨g,0,none⟩) (acc.length+1) Hz) (acc++[y])∧dF jo 5 wq B (⟨y,0,2,false,i⟩::⟨y,1,2,false,i⟩::r) (some ⟨b,off,none⟩) k∧Below B w wq) (λ_ v _=>2 -(intOf v).toNat)
     case atStart=>exact⟨0,0,rfl,by decide,Xe.o,Cb.o,HR3.o,HB3.o⟩
     case round=>
      obtain⟨j,ix,rfl,hjn,hbx,hg,hrow,hbel⟩:=hrel;have qj:=ah hbx;have HGq:=ah hg;have HRq:=ah hrow;have KE:=ah hbel;clear hbx hg hrow hbel;by_cases hjl:j<2
      ·obtain⟨b',off',e,hb',hcs⟩:=HRq.o.at j ⟨y,j,2,false,i⟩ (by have:j=0∨j=1:=(by omega);rcases this with rfl|rfl <;> rfl);injection e with e;injection e with e1 e2;subst e1 e2;have hjs:(j:Int)<2:=(by omega);have f1:wr.frozen? ⟨cb,1,none⟩=false:=bG qj.o;have hkj:k+j<l.length:=(by omega);have hwk:IntKind.i64.wrap ((k:Int)+(j:Int))=((k+j:Nat):Int):=(by rw[IntWalk.i64_in _ (by omega)];omega);obtain⟨-,y1,y2,-,-⟩:=Zx qj.o;go_upto_region 16 with fail;generalize hW:World.setCell wr _ _=w4;have ah4:aj (Below B wr w4):=ah (by rw[<- hW];exact bL (bQ _ _ _) uE.o (Nat.le_trans uE.o (Nat.le_of_lt (Array.getElem?_eq_some_iff.1 qj.o).1)));have lJ:aj (w4.heap[cb]? =some (.cells #[.string y,.int .i64 j,.int .i64 2,.bool false,.int .i64 i] 66 (0,0))):=ah (by rw[<- hW];exact nA qj.o _ rfl);have KI:aj (mU B w4 (.slice (some ⟨g,0,none⟩) (acc.length+1) Hz) (acc++[y])):=ah (by rw[<- hW];exact mU.far HGq.o (bQ _ _ _) (λe=>by injection e with e;exact HGN.o e));have ah1:aj (B<=w4.heap.size):=ah (Nat.le_trans uE.o (Nat.le_of_lt (Array.getElem?_eq_some_iff.1 lJ.o).1));have Z: ∀(q:Nat) (u:Value),(jo ⟨y,j,2,false,i⟩)[q]? =some u->∀w',Below w4.heap.size w4 w'->w'.cell? ⟨b,off+(k+j)*5+q,none⟩=some u:=λq u hu w' hb=>(hb.cell (p:=⟨b,_,none⟩) (Nat.lt_of_lt_of_le hb' ah1.o)).trans ((ah4.o.cell (p:=⟨b,_,none⟩) hb').trans (hcs q u hu));have C: ∀(q:Nat) (u:Value),(#[.string y,.int .i64 j,.int .i64 2,.bool false,.int .i64 i]:Array Value)[q]? =some u->∀w',Below w4.heap.size w4 w'->w'.cell? ⟨cb,q,none⟩=some u:=λq u hu w' hb=>au ((hb.block cb (Array.getElem?_eq_some_iff.1 lJ.o).1).trans lJ.o) hu;have Z0:=Z 0 _ rfl;have Z1:=Z 1 _ rfl;have Z2:=Z 2 _ rfl;have Z3:=Z 3 _ rfl;have Z4:=Z 4 _ rfl;have C0:=C 0 _ rfl;have C1:=C 1 _ rfl;have C2:=C 2 _ rfl;have C3:=C 3 _ rfl;have C4:=C 4 _ rfl;simp only[Nat.add_zero]at Z0;clear hW hcs y1 y2 f1 C Z;have k0:(0:Int)<=(k:Int)+(j:Int):=(by omega);have k1:(k:Int)+(j:Int)<(l.length:Int):=(by omega);have kt:((k:Int)+(j:Int)).toNat=k+j:=(by omega);go_wp2_with fail;refine bf (by kernel_rfl) rfl ?_;refine aX 0 7 [] [[],[],[],[1,2],[0,1,2,3],[0,1,2,3,4],[],[0,1,2,3,4,5,6]] [[],[],[],[],[],[],[]] (λ_ w'=>Below w4.heap.size w4 w') (λw w'=>Below w.heap.size w w') [57,58,59,60,61,62,63] rfl rfl (by rfl) (by kernel_rfl) (by kernel_rfl) (by kernel_rfl) (by kernel_rfl) (by kernel_rfl) (by rfl) (λ_=>Below.refl _ _) (by rfl) (below_drewN (Below.refl _ _) 1) ?_;simp only[eP,jq]
       iterate 7
        apply aR.step
        case aJ=>intro c A w' hok hC hO hD;have e0:=hO 0 (by rfl);have e5:=hO 5 (by rfl);have e7:=hO 7 (by rfl);have e6:=hO 6 (by rfl);simp[Act.eval]at e0 e5 e7 e6;simp[Act.eval]at hD;simp[go_sem,gd,Oper.wp,hD,e0,e5,e7,e6,hwk,k0,k1,kt,Z0,Z1,Z2,Z3,Z4,hC,C0,C1,C2,C3,C4];exact aG.mk (Below.refl _ _) hC (aW.mk _ _)
        try simp only[bP]
       try simp only[bP]
       refine aR.done ?_;intro wz bH
       try simp only[eP]
       iterate 7 refine jv ?_
       refine jB ?_;go_simp;have HXz:aj (wz.heap[cb]? =some (.cells #[.string y,.int .i64 j,.int .i64 2,.bool false,.int .i64 i] 66 (0,0))):=ah ((bH.block cb (Array.getElem?_eq_some_iff.1 lJ.o).1).trans lJ.o);have HGz:aj (mU B wz (.slice (some ⟨g,0,none⟩) (acc.length+1) Hz) (acc++[y])):=ah (KI.o.next ⟨bH.size,λq _ h2=>bH.block q h2⟩);have Z6:=ah (ah4.o.trans (bH.mono ah1.o));clear Z0 Z1 Z2 Z3 Z4 C0 C1 C2 C3 C4 bH;refine cK 7 [[],[],[],[1,2],[0,1,2,3],[0,1,2,3,4],[],[0,1,2,3,4,5,6]] rfl rfl rfl rfl rfl (by kernel_rfl) (by kernel_rfl) (by kernel_rfl) ?_;refine aB0 _ _ _ _ rfl _ _ _ rfl rfl (Sm _ _ _ _ wz) (ac0 _ _ _ _ _ wz) ?_;refine bT rfl ?_;go_simp;go_wp2_with fail;go_roundw
       case rel=>exact⟨j+1,j,by go_num,by omega,HXz.o,HGz.o,HRq.o.below Z6.o,KE.o.trans Z6.o⟩
       case measure=>simp[intOf];omega
      ·obtain rfl:j=2:=(by omega);have hw2:IntKind.i64.wrap ((k:Int)+2)=((k+2:Nat):Int):=(by rw[IntWalk.i64_in _ (by omega)];omega);obtain⟨-,-,z2,-,-⟩:=Zx qj.o;go_wp2_with fail;go_roundw
       case rel=>exact⟨k+2,r,acc++[y],u,by first|rfl|simp[hw2],by omega,hvr,HAY.o,HGq.o,HRq.o.2.2,KE.o,by simp;omega⟩
       case measure=>simp[intOf];omega
theorem Ph {w:World} {B b off:Nat} : ∀ {r:List ByteArray} {k:Nat},eD w B r (some ⟨b,off,none⟩) k->∀j u,(r.flatMap tH)[j]? =some u->w.cell? ⟨b,off+k+j,none⟩=some u
 | [],_,_,j,u,hu=>by simp at hu
 |s::r,k,h,0,u,hu=>by
  obtain⟨⟨b',off',e,-,hc,-⟩,-⟩:=h;injection e with e;injection e with e1 e2;subst e1 e2;have:u= .string s:=by simpa[tH]using hu.symm
  rw[this];exact hc
 |s::r,k,h,j+1,u,hu=>by have:=Ph h.2 j u (by simpa[tH]using hu);rw[show off+k+(j+1)=off+(k+1)+j by omega];exact this
theorem af4 (l:List ByteArray):(l.flatMap tH).length=l.length*1:=by induction l <;> simp_all[tH]
theorem XH {l:List ByteArray} {u:Value} (h:u∈l.flatMap tH):u.oneCell'=true:=by
 obtain⟨x,-,hx⟩:=List.mem_flatMap.1 h;simp[tH]at hx;rw[hx];rfl
theorem Cu {ops:Array Oper} {rest:List Oper} {o:Oper} {a:Act} {Q:Exit->Act->World->Prop} (w:World) (hgd:o.guard=none) (s x:Operand)
 (ho:o.op= .call {callee:= .builtin .append,args:= #[s,x],argTypes:= #[29,29]}) {v:Value} {l r:List ByteArray} {B:Nat} {ao:Option Addr} {c:Nat}
 (hs:a.eval s=v) (hg:mU B w v l) (hx:a.eval x= .slice ao r.length c) (hr:eD w w.heap.size r ao 0) (hne:r≠[]) (hlen:l.length+r.length<=1000000) (hB:B<=w.heap.size)
 (h: ∀v' w',mU B w' v' (l++r)->w.grownBy w' v.ownBlock->(v'.ownBlock=v.ownBlock∨v'.ownBlock=some w.heap.size)->wpList Tryz.prog ops Q rest (a.put o.dst v') w'):wpList Tryz.prog ops Q (o::rest) a w:=by
 obtain⟨i0,hi,hz0,hz1,hz2⟩:=wW QO;obtain⟨b,off,rfl⟩: ∃b off,ao=some ⟨b,off,none⟩:=by
  cases r with
  |nil=>exact absurd rfl hne
  |cons y r=>obtain⟨⟨b,off,e,-⟩,-⟩:=hr;exact⟨b,off,e⟩
 refine wpList_append_own_at w hgd s x 29 ho B 9 i0 _ 1 16 Tryz.underlying29 hi hz0 hz1 hz2 rfl (by decide) v l.length (l.flatMap tH) hs hg.own ⟨b,off,none⟩ r.length c (r.flatMap tH) hx (af4 r) ?_ (λu hu=>XH hu) (by unfold maxLen;omega) (by omega) hB ?_
 ·intro j u hu;have:=Ph hr j u hu;simpa[Addr.add_lit]using this
 ·intro v' w' hown hgr hnil hat;exact h v' w' ⟨by rw[List.length_append,List.flatMap_append];exact hown,λ_ _ _ _=>trivial⟩ hgr hat
theorem aA8 {B:Nat} {w w':World} {v:Value} {l:List ByteArray} (hg:mU B w v l) (h:w.grownBy w' v.ownBlock) (hB:B<=w.heap.size):Below B w w':=
 ⟨h.os,h.tape,h.output,h.size,λq hq=>h.block q (by omega) (λe=>by have:=(hg.lt q e.symm).1;omega)⟩
theorem Wp {w:World} {nm:ByteArray} {t:TypeId} (h:nm.size<=maxLen):eD (w.alloc (.cells #[.string nm] t)) (w.alloc (.cells #[.string nm] t)).heap.size [nm] (some ⟨w.heap.size,0,none⟩) 0:=
 ⟨⟨_,0,rfl,by simp,au (j:=0) (heap_alloc_new _ _) rfl,h⟩,trivial⟩
structure zq (w0:World) (nb:Nat) (W:Wo) (s:jf) (w:World) (v:Value) (l:List ByteArray):Prop where
 g:mU nb w v l
 ne: ∀q,v.ownBlock=some q->nb<q
 x:w.heap[nb]? =some (.cells #[.slice s.aC W.cs.length s.cC,.slice s.aL W.ls.length s.cL,.slice s.aN W.ns.length s.cN,.slice s.aF W.fs.length s.cF,.slice s.aT W.ts.length s.cT,.slice s.aS W.ss.length s.cS] 32 (0,0))
 wo:fJ w nb W s
 b:Below nb w0 w
section
variable {w0:World} {nb:Nat} {W:Wo} {s:jf} {w w':World} {v v':Value} {l l':List ByteArray}
theorem zq.lt (h:zq w0 nb W s w v l):nb<w.heap.size:=(Array.getElem?_eq_some_iff.1 h.x).1
theorem zq.step (h:zq w0 nb W s w v l) (hg:mU nb w' v' l') (hgr:w.grownBy w' v.ownBlock) (hat:v'.ownBlock=v.ownBlock∨v'.ownBlock=some w.heap.size):zq w0 nb W s w' v' l':=by
 have hB:=aA8 h.g hgr (Nat.le_of_lt h.lt);refine⟨hg,λq hq=> ?_,(hgr.block nb h.lt (λe=>by have:=h.ne nb e.symm;omega)).trans h.x,h.wo.below hB,h.b.trans hB⟩;rcases hat with e|e
 ·rw[e]at hq;exact h.ne q hq
 ·rw[e]at hq;injection hq with hq;have:=h.lt;omega
theorem zq.next (h:zq w0 nb W s w v l) (hb:Below w.heap.size w w'):zq w0 nb W s w' v l:=
 ⟨h.g.next (dN hb),h.ne,(hb.block nb h.lt).trans h.x,h.wo.below (hb.mono (Nat.le_of_lt h.lt)),h.b.trans (hb.mono (Nat.le_of_lt h.lt))⟩
theorem zq.cells (h:zq w0 nb W s w v l):w.cell? ⟨nb,1,none⟩=some (.slice s.aL W.ls.length s.cL)∧w.cell? ⟨nb,2,none⟩=some (.slice s.aN W.ns.length s.cN)∧w.cell? ⟨nb,3,none⟩=some (.slice s.aF W.fs.length s.cF)∧w.cell? ⟨nb,4,none⟩=some (.slice s.aT W.ts.length s.cT):=
 ⟨au (j:=1) h.x rfl,au (j:=2) h.x rfl,au (j:=3) h.x rfl,au (j:=4) h.x rfl⟩
theorem zq.val (h:zq w0 nb W s w v l): ∃ao cap,v= .slice ao l.length cap:=h.g.len
end
theorem LP {α β:Type} {f:α->β} {l:List α} {k:Nat} {x:α} (h:l[k]? =some x):(l.take (k+1)).map f=(l.take k).map f++[f x]:=by
 rw[List.take_add_one,h];simp
theorem DI {w:World} {B:Nat} {ao:Option Addr} : ∀ {l:List ByteArray} {k:Nat},eD w B l ao k->∀x∈l,x.size<=maxLen
 | [],_,_,x,hx=>by cases hx
 |s::r,_,h,x,hx=>by
  rcases List.mem_cons.1 hx with rfl|hx
  ·obtain⟨⟨b,off,-,-,-,hs⟩,-⟩:=h;exact hs
  ·exact DI h.2 x hx
theorem M9 {W:Wo} {s:jf} {v:List ByteArray} {av:Option Addr} {cv:Nat} {w:World} (hw:fJ w w.heap.size W s) (dG:dD w) (h:Ud W v) (hav:eD w w.heap.size v av 0) (hcv:v.length<=cv):
 Calls Tryz.prog 42 #[nD W s,.slice av v.length cv] w λe w'=>e= .returned (.bool true)∧Below w.heap.size w w':=by
 have HW:=ah hw;have iF:=ah dG;have HK:=ah h.kl;have Ml:=ah hav;have HVS:aj (∀x∈v,x.size<=maxLen):=ah (DI hav);have HR:aj (Wq [] (AQ W v)=true):=ah h.nm;obtain⟨⟨hs0,hs1,hs2,hs3,hs4,hs5,hs6⟩,hv,hv0,hf0⟩:=h.sm;have Em:=ah (And.intro hv0 (And.intro hf0 (show W.ts≠[]from λe=>by rw[e]at hs5;simp at hs5)));have hmm:= @run_makeMap Tryz.prog;clear hw dG hav h hv0 hf0;unfold nD;go_enter Tryz.func42,Tryz.ntmps42;go_upto_region 1 with fail;generalize hW:World.alloc w _=W1;obtain⟨nb,hnb⟩: ∃n,w.heap.size=n:=⟨_,rfl⟩;have HB:aj (Below nb w W1):=ah (by rw[<- hW,<- hnb];exact ak _ _);have HI:aj (zq w nb W s W1 (.slice none 0 0) []):=ah ⟨Grow.nil _ _ _ _ _ _,λq hq=>(by cases hq),(by rw[<- hW,<- hnb];exact heap_alloc_new _ _),(by have:=HW.o;rw[hnb]at this;exact this.below HB.o),HB.o⟩;have HA1:aj (eD W1 W1.heap.size v av 0):=ah (by have h1:=Ml.o;have h2:=HB.o;rw[<- hnb]at h2;exact h1.same h2);have gB:=ah hnb;rw[hnb];clear hW hnb HW Ml HB;go_wp2_with (at_builtin;refine Cu W1 rfl _ _ rfl rfl HI.o.g rfl HA1.o Em.o.1 (by simp;omega) (Nat.le_of_lt HI.o.lt) ?_);intro v1 w1 hg1 at5 as2;have HI1:=ah (HI.o.step hg1 at5 as2);clear hg1 at5 as2 HI HA1;obtain⟨g1,g2,g3,g4⟩:=HI1.o.cells;go_wp2_with fail;clear g1 g2 g3 g4;go_loopw [5,7,19] (λv5 _ v19 wr=> ∃k:Nat,v19= .int .i64 k∧k<=W.ls.length∧zq w nb W s wr v5 (v++(W.ls.take k).map (·.nm))) (λ_ _ v _=>W.ls.length -(intOf v).toNat)
 case atStart=>exact⟨0,rfl,Nat.zero_le _,by simpa using HI1.o⟩
 case round=>
  obtain⟨k,rfl,hk,hi⟩:=hrel;obtain⟨acc,hacc⟩: ∃acc,v++(W.ls.take k).map (·.nm)=acc:=⟨_,rfl⟩;rw[hacc]at hi;have HI:=ah hi;have Gp:=ah hacc;have bj5:acc.length<=100:=by rw[<- hacc];simp;omega
  clear hi hacc;by_cases hkl:k<W.ls.length
  ·obtain⟨x,hx⟩: ∃x,W.ls[k]? =some x:=⟨_,List.getElem?_eq_getElem hkl⟩;have HX:=ah hx;obtain⟨b,off,hao,hb1,hcs⟩:=HI.o.wo.ls.at k x hx;have xG:=ah hao;have x0:=hcs 0 _ rfl;have x1:=hcs 1 _ rfl;simp only[Nat.zero_add,Nat.add_zero]at x0 x1;have HL:aj (∀q,q=s.aL->q=some ⟨b,off,none⟩):=ah (λq e=>by rw[e];exact xG.o);clear hcs hx;rw[hao];go_upto_region 6 with fail;obtain⟨cb,hcb⟩: ∃n,wr.heap.size=n:=⟨_,rfl⟩;generalize hW2:World.alloc wr _=w2;have HB2:aj (Below wr.heap.size wr w2):=ah (by rw[<- hW2];exact ak _ _);have vN:aj (w2.heap[cb]? =some (.cells #[.string x.nm,.bool x.rw] 68 (0,0))):=ah (by rw[<- hW2,<- hcb];exact heap_alloc_new _ _);have HI2:=ah (HI.o.next HB2.o);rw[hcb];clear hW2 hcb x0 x1 HI HB2;have y0:w2.cell? ⟨cb,0,none⟩=some (.string x.nm):=au vN.o rfl;have HI3:=ah (HI2.o.next (ak w2 (.cells #[.string x.nm] 9)));have hlen:acc.length+1<=1000000:=by omega
   have hnm:x.nm.size<=maxLen:=HK.o.1 x (List.mem_of_getElem? HX.o);go_wp2_with (at_builtin;refine Cu _ rfl _ _ rfl rfl HI3.o.g rfl (Wp hnm) (by simp) hlen (Nat.le_of_lt HI3.o.lt) ?_);intro v3 w3 hg3 Od O5;have HI4:=ah (HI3.o.step hg3 Od (by simpa using O5));have HE:aj (acc++[x.nm]=v++(W.ls.take (k+1)).map (·.nm)):=ah (by rw[<- Gp.o,LP (f:=λy:sJ=>y.nm) HX.o,List.append_assoc]);clear hg3 Od O5 HI3 HI2 vN y0 hlen hnm;go_wp2_with fail;go_roundw
   case rel=>exact⟨k+1,by go_num,by omega,by rw[<- HE.o];exact HI4.o⟩
   case measure=>simp[intOf];omega
  ·obtain rfl:k=W.ls.length:=by omega
   rw[List.take_length]at Gp;have HA0:=Gp;obtain⟨g1,g2,g3,g4⟩:=HI.o.cells;obtain⟨wA,hwA⟩: ∃X:World,X=wr:=⟨_,rfl⟩;subst hwA;go_wp2_with fail;clear g1 g2 g3 g4;go_loopw [5,9,32] (λv5 _ v32 wr=> ∃k:Nat,v32= .int .i64 k∧k<=W.ns.length∧zq w nb W s wr v5 (acc++(W.ns.take k).map (·.nm))) (λ_ _ v _=>W.ns.length -(intOf v).toNat)
   case atStart=>exact⟨0,rfl,Nat.zero_le _,by simpa using HI.o⟩
   case round=>
    obtain⟨k,rfl,hk,hi⟩:=hrel;obtain⟨Nu,hacc⟩: ∃Nu,acc++(W.ns.take k).map (·.nm)=Nu:=⟨_,rfl⟩;rw[hacc]at hi;have HI:=ah hi;have Gp:=ah hacc;have bh0:Nu.length<=200:=(by rw[<- hacc];simp;omega);clear hi hacc;by_cases hkl:k<W.ns.length
    ·obtain⟨x,hx⟩: ∃x,W.ns[k]? =some x:=⟨_,List.getElem?_eq_getElem hkl⟩;have HX:=ah hx;obtain⟨b,off,hao,hb1,hcs⟩:=HI.o.wo.ns.at k x hx;have x0:=hcs 0 _ rfl;have x1:=hcs 1 _ rfl;simp only[Nat.zero_add,Nat.add_zero]at x0 x1;clear hcs hx;rw[hao];go_upto_region 11 with fail;obtain⟨cb,hcb⟩: ∃n,wr.heap.size=n:=⟨_,rfl⟩;generalize hW2:World.alloc wr _=w2;have HB2:aj (Below wr.heap.size wr w2):=ah (by rw[<- hW2];exact ak _ _);have vN:aj (w2.heap[cb]? =some (.cells #[.string x.nm,.int .i64 x.mx] 70 (0,0))):=ah (by rw[<- hW2,<- hcb];exact heap_alloc_new _ _);have HI2:=ah (HI.o.next HB2.o);rw[hcb];clear hW2 hcb x0 x1 HI HB2;have y0:w2.cell? ⟨cb,0,none⟩=some (.string x.nm):=au vN.o rfl;have HI3:=ah (HI2.o.next (ak w2 (.cells #[.string x.nm] 9)));have hlen:Nu.length+1<=1000000:=(by omega);have hnm:x.nm.size<=maxLen:=HK.o.2 x (List.mem_of_getElem? HX.o);go_wp2_with (at_builtin;refine Cu _ rfl _ _ rfl rfl HI3.o.g rfl (Wp hnm) (by simp) hlen (Nat.le_of_lt HI3.o.lt) ?_);intro v3 w3 hg3 Od O5;have HI4:=ah (HI3.o.step hg3 Od (by simpa using O5));have HE:aj (Nu++[x.nm]=acc++(W.ns.take (k+1)).map (·.nm)):=ah (by rw[<- Gp.o,LP (f:=λy:AZ=>y.nm) HX.o,List.append_assoc]);clear hg3 Od O5 HI3 HI2 vN y0 hlen hnm;go_wp2_with fail;go_roundw
     case rel=>exact⟨k+1,by go_num,by omega,by rw[<- HE.o];exact HI4.o⟩
     case measure=>simp[intOf];omega
    ·obtain rfl:k=W.ns.length:=(by omega);rw[List.take_length]at Gp;obtain⟨g1,g2,g3,g4⟩:=HI.o.cells;obtain⟨wB,hwB⟩: ∃X:World,X=wr:=⟨_,rfl⟩;subst hwB;have hl5:Nu.length+W.fs.length<=1000000:=(by omega);go_wp2_with (at_builtin;refine Cu _ rfl _ _ rfl rfl HI.o.g rfl (HI.o.wo.fs.mono (Nat.le_of_lt HI.o.lt)) Em.o.2.1 hl5 (Nat.le_of_lt HI.o.lt) ?_);intro v4 w4 hg4 at6 wT;have hi4:=HI.o.step hg4 at6 wT;obtain⟨Ue,Sn⟩: ∃Ue,Nu++W.fs=Ue:=⟨_,rfl⟩;rw[Sn]at hi4;have HI4:=ah hi4;have aN9:=ah Sn;have bh2:Ue.length<=300:=(by rw[<- Sn];simp;omega);clear hg4 at6 wT HI g1 g2 g3 g4 hl5 hi4 Sn;obtain⟨g1,g2,g3,g4⟩:=HI4.o.cells;have hl6:Ue.length+W.ts.length<=1000000:=(by omega);go_wp2_with (at_builtin;refine Cu _ rfl _ _ rfl rfl HI4.o.g rfl (HI4.o.wo.ts.mono (Nat.le_of_lt HI4.o.lt)) Em.o.2.2 hl6 (Nat.le_of_lt HI4.o.lt) ?_);intro v5 w5 hg5 hgr5 as3;have HEN:aj (Ue++W.ts=AQ W v):=ah (by rw[<- aN9.o,<- Gp.o,<- HA0.o];rfl);have Cc:aj (zq w nb W s w5 v5 (AQ W v)):=ah (by rw[<- HEN.o];exact HI4.o.step hg5 hgr5 as3);have vJ:aj (∀x∈AQ W v,x.size<=maxLen):=ah (λx hx=>by
      have hw:=Cc.o.wo;unfold AQ at hx;simp only[List.mem_append,List.mem_map]at hx;rcases hx with(((h|⟨y,h,rfl⟩)|⟨y,h,rfl⟩)|h)|h
      ·exact HVS.o x h
      ·exact HK.o.1 y h
      ·exact HK.o.2 y h
      ·exact DI hw.fs x h
      ·exact DI hw.ts x h)
     clear hg5 hgr5 as3 HI4 g1 g2 g3 g4 hl6;obtain⟨Zt,bj4,rfl,hcN,hst⟩:=mU.says (show mU nb w5 v5 (AQ W v)from Cc.o.g) vJ.o;obtain⟨mb,hmb⟩: ∃n,w5.heap.size=n:=⟨_,rfl⟩;have HTN:aj (eD w5 mb (AQ W v) Zt 0):=ah (by rw[<- hmb];exact hst.now);have jS:aj (Below nb w w5):=ah Cc.o.b;have aP2:aj (nb<mb):=ah (by rw[<- hmb];exact Cc.o.lt);have HMB:=ah hmb;have sG:aj ((AQ W v).length<=1000000):=ah (by unfold AQ;simp;omega);clear hst hcN Cc vJ hmb;generalize AQ W v=l at *;have hl6:=sG.o;have HM0:aj (iN (w5.alloc (.map #[] 0)) mb 0 (λ_=>false)):=ah (by rw[<- HMB.o];exact iN.made w5);have nM:aj (Below mb w5 (w5.alloc (.map #[] 0))):=ah (by rw[<- HMB.o];exact ak _ _);go_wp2_with fail;rw[HMB.o];go_loopw [12,53] (λ_ v53 wr=> ∃(k:Nat) (pre R:List ByteArray),v53= .int .i64 k∧pre++R=l∧pre.length=k∧iN wr mb k (λq=>(pre.map (·.toList)).contains q)∧Wq (pre.map (·.toList)) R=true∧Below mb w5 wr) (λ_ v _=>l.length -(intOf v).toNat)
     case atStart=>exact⟨0,[],l,rfl,rfl,rfl,HM0.o.congr (λ_=>rfl),HR.o,nM.o⟩
     case round=>
      obtain⟨k,pre,R,rfl,hds,hk,hmap,av8,hbel⟩:=hrel;have HM:=ah hmap;have HE:=ah av8;have HB:=ah hbel;have tY:=ah hds;have HPK:=ah hk;have wF:aj (Below w.heap.size w wr):=ah (by rw[gB.o];exact jS.o.trans (HB.o.mono (Nat.le_of_lt aP2.o)));have hlen:k+R.length=l.length:=(by rw[<- hds,List.length_append,hk]);have hrow:=(HTN.o.below HB.o).drop k;rw[Nat.zero_add,<- hds,<- hk,List.drop_left]at hrow;rw[hk]at hrow;clear hmap av8 hbel hds hk;cases R with
      |nil=>obtain rfl:k=l.length:=(by simpa using hlen);go_wp2_with fail;go_ret;exact⟨rfl,wF.o⟩
      |cons x R=>
       obtain⟨⟨b,off,hao,hb1,x0,hsz⟩,-⟩:=hrow;simp only[List.length_cons]at hlen;have hkl:k<l.length:=(by omega);have Vf:=HE.o;rw[Wq,Bool.and_eq_true,Bool.and_eq_true,Bool.not_eq_true']at Vf;obtain⟨⟨hn,hc⟩,Vf⟩:=Vf;have HT:=ah Vf;have HC:=ah hc;clear Vf hc HE;rw[hao];go_wp2_with fail;refine(wP x wr (iF.o.same wF.o) hsz).mono ?_;rintro e w6 ⟨rfl,hb6⟩;have bi1:=ah (wF.o.trans (hb6.mono wF.o.size));have HM6:=ah (HM.o.next hb6);have Ed:aj (Below mb w5 w6):=ah (HB.o.trans (hb6.mono (Nat.le_of_lt HM.o.lt)));clear hb6 x0;rw[<- Lib.toList_data x];rw[hn];have hk1:=HM6.o.look x hsz;obtain⟨w7,hup,hm7,F9⟩:=HM6.o.put (by unfold maxLen;omega) x hsz true;have HM7:=ah hm7;have qY:aj (Below mb w5 w7):=ah (Ed.o.trans (bL F9 (Nat.le_refl _) (Nat.le_of_lt HM6.o.lt)));clear hm7 F9 hn;simp only[HC.o]at hk1;go_wp2_with fail;go_roundw
       case rel=>exact⟨k+1,pre++[x],R,by go_num,by rw[List.append_assoc];exact tY.o,by simp[HPK.o],HM7.o.congr (λq=>by simp[List.contains_iff_mem];grind),by rw[List.map_append];exact HT.o,qY.o⟩
       case measure=>simp[intOf];omega
theorem Ma {W:Wo} {s:jf} {w:World} (hw:fJ w w.heap.size W s) (h60:W.ss.length<=60) (ht:1<=W.ts.length) (h:VR 0 W.ss=true):
 Calls Tryz.prog 44 #[nD W s] w λe w'=>e= .returned (.bool true)∧Below w.heap.size w w':=by
 have HW:=ah hw;have HI:=ah h;have hlt:=hw.lt;unfold maxLen at hlt;have hnt: ¬W.ts=[]:=λe=>by rw[e]at ht;simp at ht
 clear hw h;unfold nD;go_enter Tryz.func44,Tryz.ntmps44;go_upto_region 1 with fail;generalize hW:World.alloc w _=W1;obtain⟨nb,hnb,gB,HB,HX,kE⟩:=Ct hW;have HF:aj (dF pR 3 W1 nb W.ss s.aS 0):=ah (by have:=HW.o.ss;rw[hnb]at this;exact this.below HB.o);rw[hnb];clear hW hnb HW;obtain⟨-,-,-,-,-,g5⟩:=vR HX.o;go_wp2_with fail;go_loopw [3,4,6,10] (λv3 v4 _ v10 wr=> ∃(k:Nat) (R:List xM),v10= .int .i64 k∧v3= .int .i64 0∧v4= .int .i64 k∧k+R.length=W.ss.length∧VR k R=true∧dF pR 3 wr nb R s.aS k∧Below (nb+1) W1 wr) (λ_ _ _ v _=>W.ss.length -(intOf v).toNat)
 case atStart=>exact⟨0,W.ss,rfl,rfl,rfl,by simp,HI.o,HF.o,Below.refl _ _⟩
 case round=>
  obtain⟨k,R,rfl,rfl,rfl,hlen,heq,hrow,hbel⟩:=hrel;have ji:=ah hbel;have kP:=ah ((ji.o.block nb (Nat.lt_succ_self _)).trans HX.o);have wF:aj (Below nb w wr):=ah (HB.o.trans (ji.o.mono (Nat.le_succ _)));have yI:aj (nb+1<=wr.heap.size):=ah (by have h1:=ji.o.size;have h2:=kE.o;omega);clear hbel g5;cases R with
  |nil=>
   obtain rfl:k=W.ss.length:=by simpa using hlen
   go_wp2_with fail;go_ret;exact⟨rfl,by rw[gB.o];exact wF.o⟩
  |cons x R=>
   obtain⟨⟨b,off,hao,hb1,hcs⟩,hrest⟩:=hrow;simp only[List.length_cons]at hlen;rw[VR,Bool.and_eq_true,decide_eq_true_eq]at heq;obtain⟨⟨e1,e2⟩,heq⟩:=heq;have hkl:k<W.ss.length:=by omega
   have x0:=hcs 0 _ rfl;have x1:=hcs 1 _ rfl;have x2:=hcs 2 _ rfl;rw[e1]at x0;rw[e2]at x1;simp only[Nat.add_zero]at x0;rw[hao]at hrest;have jE:=ah hrest;have HE:=ah heq;obtain⟨-,-,-,-,g4,-⟩:=vR kP.o;have hwn:IntKind.i64.wrap ((k:Int)+1)=(k:Int)+1:=IntWalk.i64_in _ (by omega);have hnl:nb<wr.heap.size:=by have:=yI.o;omega
   have hnb: ¬nb=wr.heap.size:=by omega
   rw[hao];clear hcs hrest hao heq;go_wp2_with fail;go_roundw
   case rel=>exact⟨k+1,R,by go_num,rfl,by go_num,by omega,HE.o,jE.o.below ((ak _ _).mono (by have:=yI.o;omega)),ji.o.trans ((ak _ _).mono yI.o)⟩
   case measure=>simp[intOf];omega
theorem Eb {W:Wo} {s:jf} {v:List ByteArray} {w:World} (hw:fJ w w.heap.size W s) (dG:dD w) (h:Ud W v):
 Calls Tryz.prog 25 #[nD W s] w λe w'=>e= .returned (.bool true)∧Below w.heap.size w w':=by
 have HW:=ah hw;have iF:=ah dG;have HV:=ah h;obtain⟨⟨p0,p1,p2,p3,p4,p5,p6⟩,-⟩:=h.sm;have q0: ¬(12:Int)<W.cs.length:=by omega
 have q1: ¬(4:Int)<W.ls.length:=by omega
 have q2: ¬(2:Int)<W.ns.length:=by omega
 have q3: ¬(2:Int)<W.fs.length:=by omega
 have q4: ¬(60:Int)<W.ss.length:=by omega
 have q5: ¬(W.ts.length:Int)<1:=by omega
 have q6: ¬(4:Int)<W.ts.length:=by omega
 clear hw dG h p0 p1 p3 p4 p5 p6;unfold nD;go_enter Tryz.func25,Tryz.ntmps25;go_upto_region 1 with fail;generalize hW:World.alloc w _=W1;obtain⟨nb,hnb,gB,HB,HX,kE⟩:=Ct hW;have HW1:aj (fJ W1 nb W s):=ah (by have:=HW.o;rw[hnb]at this;exact this.below HB.o);have mR:aj (dD W1):=ah (by have:=HB.o;rw[<- hnb]at this;exact iF.o.same this);rw[hnb];clear hW hnb HW;obtain⟨g0,g1,g2,g3,g4,g5⟩:=vR HX.o;go_wp2_with fail;refine(M8 W.cs v HV.o.cs W1 s.aC s.cC HV.o.sm.1.1 (HW1.o.cs.mono (by have:=kE.o;omega)) HV.o.kv).mono ?_;rintro e w2 ⟨⟨av,cv,rfl,hat,hcv⟩,hb2⟩;have HB2:aj (Below (nb+1) W1 w2):=ah (by rw[<- kE.o];exact hb2);have uL:=ah ((HB2.o.block nb (Nat.lt_succ_self _)).trans HX.o);have HS2:aj (nb+1<=w2.heap.size):=ah (by have h1:=hb2.size;have h2:=kE.o;omega);have HW2:aj (fJ w2 nb W s):=ah (HW1.o.below (HB2.o.mono (Nat.le_succ _)));have rR:=ah (mR.o.same hb2);have HAT:=ah hat;clear hb2 g0 g1 g2 g3 g4 g5 q0 q1 q2 q3 q4 q5 q6 hat;obtain⟨g0,g1,g2,g3,g4,g5⟩:=vR uL.o;go_wp2_with fail;refine(M9 (HW2.o.mono (by have:=HS2.o;omega)) rR.o HV.o HAT.o hcv).mono ?_;rintro e w3 ⟨rfl,hb3⟩;have HB3:aj (Below (nb+1) W1 w3):=ah (HB2.o.trans (hb3.mono HS2.o));have zl:=ah ((HB3.o.block nb (Nat.lt_succ_self _)).trans HX.o);have HW3:aj (fJ w3 nb W s):=ah (HW1.o.below (HB3.o.mono (Nat.le_succ _)));clear hb3 g0 g1 g2 g3 g4 g5;obtain⟨-,-,g2,-⟩:=vR zl.o;go_wp2_with fail;go_loopw [6,62] (λ_ i wr=> ∃(k:Nat) (R:List AZ),i= .int .i64 k∧k+R.length=W.ns.length∧(∀c∈R,Zp W c.mx)∧dF rE 2 wr nb R s.aN k∧Below (nb+1) W1 wr) (λ_ i _=>W.ns.length -(intOf i).toNat)
 case atStart=>exact⟨0,W.ns,rfl,by simp,HV.o.cn,HW3.o.ns,HB3.o⟩
 case round=>
  obtain⟨k,R,rfl,hlen,hcn,hrow,hbel⟩:=hrel;have ji:=ah hbel;have kP:=ah ((ji.o.block nb (Nat.lt_succ_self _)).trans HX.o);have wF:aj (Below nb w wr):=ah (HB.o.trans (ji.o.mono (Nat.le_succ _)));have yI:aj (nb+1<=wr.heap.size):=ah (by have h1:=ji.o.size;have h2:=kE.o;omega);have KV:aj (fJ wr nb W s):=ah (HW1.o.below (ji.o.mono (Nat.le_succ _)));clear hbel g2;cases R with
  |nil=>
   obtain rfl:k=W.ns.length:=by simpa using hlen
   obtain⟨g0,g1,g2,g3,g4,g5⟩:=vR kP.o;go_wp2_with fail;refine(Ma (KV.o.mono (by have:=yI.o;omega)) HV.o.sm.1.2.2.2.2.1 HV.o.sm.1.2.2.2.2.2.1 HV.o.si).mono ?_;rintro e w5 ⟨rfl,hb5⟩;go_wp2_with fail;go_ret;exact⟨rfl,by rw[gB.o];exact wF.o.trans (hb5.mono (by have:=yI.o;omega))⟩
  |cons x R=>
   obtain⟨⟨b,off,hao,hb1,hcs⟩,hrest⟩:=hrow;simp only[List.length_cons]at hlen;have hkl:k<W.ns.length:=by omega
   have x0:=hcs 0 _ rfl;have x1:=hcs 1 _ rfl;simp only[Nat.add_zero]at x0;rw[hao]at hrest;have jE:=ah hrest;have qo:=ah hcn;rw[hao];clear hcs hrest hcn hao;go_upto_region 11 with fail;generalize vS:World.alloc wr _=w4;obtain⟨tb,htb,Zj,dH,Gw,-⟩:=Ct vS;have zY:aj (Below (nb+1) W1 w4):=ah (ji.o.trans (dH.o.mono (by have:=yI.o;have:=Zj.o;omega)));rw[htb];clear vS htb x0 x1;have lJ:=ah ((zY.o.block nb (Nat.lt_succ_self _)).trans HX.o);obtain⟨g0,g1,g2,g3,g4,g5⟩:=vR lJ.o;obtain⟨-,t1⟩:=Cx Gw.o;have Bj:aj (nb+1<=w4.heap.size):=ah (by have h1:=zY.o.size;have h2:=kE.o;omega);go_wp2_with fail;refine(LB ((HW1.o.below (zY.o.mono (Nat.le_succ _))).mono (by have:=Bj.o;omega)) (qo.o x List.mem_cons_self)).mono ?_;rintro e w5 ⟨rfl,hb5⟩;have jS:aj (Below (nb+1) wr w5):=ah ((dH.o.mono (by have:=yI.o;have:=Zj.o;omega)).trans (hb5.mono Bj.o));clear hb5 g0 g1 g2 g3 g4 g5 t1;go_wp2_with fail;go_roundw
   case rel=>exact⟨k+1,R,by go_num,by omega,λc hc=>qo.o c (List.mem_cons_of_mem _ hc),jE.o.below (jS.o.mono (Nat.le_succ _)),ji.o.trans jS.o⟩
   case measure=>simp[intOf];omega
theorem xw {w w':World} {B:Nat} (hb:Below B w w'): ∀ {l:List xO} {ao:Option Addr} {k:Nat},jM w B l ao k->jM w' B l ao k
 | [],_,_,_=>trivial
 |_::_,_,_,⟨⟨b,off,eu,dI,e,hB,x0,x1,hl,hf⟩,hr⟩=>⟨⟨b,off,eu,dI,e,hB,(hb.cell (p:=⟨b,_,none⟩) hB).trans x0,(hb.cell (p:=⟨b,_,none⟩) hB).trans x1,hl,hf.below hb⟩,xw hb hr⟩
theorem LQ {w:World} {B B':Nat} (hB:B<=B'): ∀ {l:List xO} {ao:Option Addr} {k:Nat},jM w B l ao k->jM w B' l ao k
 | [],_,_,_=>trivial
 |_::_,_,_,⟨⟨b,off,eu,dI,e,hb,x0,x1,hl,hf⟩,hr⟩=>⟨⟨b,off,eu,dI,e,Nat.lt_of_lt_of_le hb hB,x0,x1,hl,hf.mono hB⟩,LQ hB hr⟩
theorem VZ {w w':World} {l:List xO} {ao:Option Addr} {k:Nat} (h:jM w w.heap.size l ao k) (hb:Below w.heap.size w w'):jM w' w'.heap.size l ao k:=LQ hb.size (xw hb h)
theorem YS {W:Wo} {s:jf} {v:List ByteArray} {l:List xO} {Zu:Option Addr} {cap:Nat} {w:World} (hw:fJ w w.heap.size W s) (dG:dD w) (h:Ud W v) (hc:jM w w.heap.size l Zu 0) (hl:l.length=W.ts.length) (ht:Kt W 0 l=true):
 Calls Tryz.prog 24 #[.agg #[.slice s.aC W.cs.length s.cC,.slice s.aL W.ls.length s.cL,.slice s.aN W.ns.length s.cN,.slice s.aF W.fs.length s.cF,.slice s.aT W.ts.length s.cT,.slice s.aS W.ss.length s.cS,.slice Zu l.length cap]] w λe w'=>e= .returned (.bool true)∧Below w.heap.size w w':=by
 have HW:=ah hw;have iF:=ah dG;have HC:=ah hc;have HT:=ah ht;have HV:=ah h;have h4:=h.sm.1.2.2.2.2.2.2;rw[<- hl]at h4⊢;clear hw dG hc ht h;go_enter Tryz.func24,Tryz.ntmps24;go_upto_region 1 with fail;generalize hW:World.alloc w _=W1;obtain⟨nb,hnb,gB,HB,HX,kE⟩:=Ct hW;have HW1:aj (fJ W1 nb W s):=ah (by have:=HW.o;rw[hnb]at this;exact this.below HB.o);have xH:aj (jM W1 nb l Zu 0):=ah (by have:=HC.o;rw[hnb]at this;exact xw HB.o this);have mR:aj (dD W1):=ah (by have:=HB.o;rw[<- hnb]at this;exact iF.o.same this);rw[hnb];clear hW hnb HW HC;obtain⟨g0,g1,g2,g3,g4,g5⟩:=vR HX.o;go_wp2_with fail;rw[hl];refine(Eb (HW1.o.mono (by have:=kE.o;omega)) mR.o HV.o).mono ?_;rintro e w2 ⟨rfl,hb2⟩;have HB2:aj (Below (nb+1) W1 w2):=ah (by rw[<- kE.o];exact hb2);have uL:=ah ((HB2.o.block nb (Nat.lt_succ_self _)).trans HX.o);clear hb2 g0 g1 g2 g3 g4 g5;obtain⟨-,-,-,-,g4,-⟩:=vR uL.o;have g6:=au (j:=6) uL.o rfl;simp only[List.getElem_toArray,List.getElem_cons_zero,List.getElem_cons_succ]at g6;go_wp2_with fail;go_loopw [3,4,22] (λ_ _ v wr=> ∃(k:Nat) (R:List xO),v= .int .i64 k∧k+R.length=l.length∧Kt W k R=true∧jM wr nb R Zu k∧Below (nb+1) W1 wr) (λ_ _ v _=>l.length -(intOf v).toNat)
 case atStart=>exact⟨0,l,rfl,by simp,HT.o,xw (HB2.o.mono (Nat.le_succ _)) xH.o,HB2.o⟩
 case round=>
  obtain⟨k,R,rfl,hlen,hth,hrow,hbel⟩:=hrel;have ji:=ah hbel;have kP:=ah ((ji.o.block nb (Nat.lt_succ_self _)).trans HX.o);have wF:aj (Below nb w wr):=ah (HB.o.trans (ji.o.mono (Nat.le_succ _)));have yI:aj (nb+1<=wr.heap.size):=ah (by have h1:=ji.o.size;have h2:=kE.o;omega);clear hbel g4 g6;cases R with
  |nil=>
   obtain rfl:k=l.length:=by simpa using hlen
   go_wp2_with fail;go_ret;exact⟨rfl,by rw[gB.o];exact wF.o⟩
  |cons t R=>
   obtain⟨⟨b,off,eu,dI,rfl,hb1,x0,x1,htl,hfl⟩,hrest⟩:=hrow;simp only[List.length_cons]at hlen;rw[Kt,Bool.and_eq_true]at hth;have hkl:k<l.length:=by omega
   have jE:=ah hrest;have Z8:=ah hfl;have wL:=ah hth;clear hrest hfl htl hth;go_upto_region 6 with fail;generalize hW3:World.alloc wr _=w3;obtain⟨tb,htb,Zj,HB3,Gw,-⟩:=Ct hW3;have CY:aj (Below (nb+1) wr w3):=ah (HB3.o.mono (by have:=yI.o;have:=Zj.o;omega));have jZ:aj (nb+1<=w3.heap.size):=ah (Nat.le_trans yI.o HB3.o.size);have HW3:aj (fJ w3 w3.heap.size W s):=ah ((HW1.o.below ((ji.o.trans CY.o).mono (Nat.le_succ _))).mono (by have:=jZ.o;omega));have zi:aj (dF jI 6 w3 w3.heap.size t.is eu 0):=ah ((Z8.o.below (CY.o.mono (Nat.le_succ _))).mono (by have:=jZ.o;omega));have zl:=ah ((CY.o.block nb (Nat.lt_succ_self _)).trans kP.o);rw[htb];clear hW3 htb x0 x1;obtain⟨g0,g1,g2,g3,g4,g5⟩:=vR zl.o;obtain⟨t0,t1⟩:=Cx Gw.o;go_wp2_with fail;refine(Ky HW3.o zi.o wL.o.1).mono ?_;rintro e w4 ⟨rfl,hb4⟩;have dH:aj (Below (nb+1) wr w4):=ah (CY.o.trans (hb4.mono jZ.o));clear hb4 g0 g1 g2 g3 g4 g5 t0 t1;go_wp2_with fail;go_roundw
   case rel=>exact⟨k+1,R,by go_num,by omega,wL.o.2,xw (dH.o.mono (Nat.le_succ _)) jE.o,ji.o.trans dH.o⟩
   case measure=>simp[intOf];omega
end Go.Proofs.YtkmllehjemjgpaaGreatDoor
