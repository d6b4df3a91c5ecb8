/- Contract of the maker's Loose: it returns a shaped program that lies in new memory. -/
import Derived.Test.YtkajcclnlehkmaaGreatDoorGMW
import Derived.Test.YtkajcclnlehkmaaGreatDoorGMC
import Derived.Deep.LoopGhost
set_option linter.unusedSimpArgs false
set_option linter.unusedVariables false
set_option maxHeartbeats 40000000
set_option maxRecDepth 1000000
namespace Go.Proofs.YtkajcclnlehkmaaGreatDoor
open Go.RowKit
open Md
def TV (p:Pr):Prop:=p.ds.length<=1000∧ ∀t ∈ p.ts,t.cu.length<=10∧lX t.body<=WB
theorem Ul {q:Nat} (h:q<=54):((q:Int)).toNat * GS ((2:Int)).toNat<=WB:=by
 have e:GS ((2:Int)).toNat=162000:=rfl;rw [e,Int.toNat_natCast]; unfold WB; omega
theorem Um {q:Nat} (h:q<=54):((q:Int)).toNat * GS ((7:Int)).toNat<=WB:=by
 have e:GS ((7:Int)).toNat=9565938000:=rfl;rw [e,Int.toNat_natCast]; unfold WB; omega
def TT (w:World) (e':Ending) (w':World):Prop:= ∃(p:Pr) (aT aZ:Option Addr) (aM aN:Nat),e'= .returned (.agg #[.slice aT p.ds.length aM,.slice aZ p.ts.length aN])∧(p.T w' w.heap.size aT aM aZ aN∧uo w' p.ts aZ 0)∧(oK p=true∧p.ts.length<=5∧TV p)∧Below w.heap.size w w'
def Un:Array Value:= #[.string ⟨#[]⟩,.int .i64 0,.slice none 0 0,.slice none 0 0]
def wV:List ByteArray:=[⟨#[97]⟩,⟨#[98]⟩]
def OW:Array Value:= #[.string ⟨#[97]⟩,.string ⟨#[120]⟩,.string ⟨#[116]⟩,.string ⟨#[107]⟩]
theorem OX:uj 4 OW:=fun j hj=>by
 have:j=0∨j=1∨j=2∨j=3:=by omega
 rcases this with rfl | rfl | rfl | rfl <;> exact ⟨_,rfl,by unfold maxLen; decide,by rfl⟩
def Ld:List ByteArray:=[⟨#[97]⟩,⟨#[98]⟩,⟨#[107]⟩,⟨#[107,49]⟩,⟨#[107,50]⟩]
theorem OT: ∀s ∈ Ld,kH s:=by
 intro s hs;simp only [Ld,List.mem_cons,List.not_mem_nil,or_false] at hs;rcases hs with rfl | rfl | rfl | rfl | rfl <;> exact ⟨by unfold maxLen; decide,by rfl⟩
theorem Ii: ∀s ∈ wV,kH s:=by
 intro s hs;simp only [wV,List.mem_cons,List.not_mem_nil,or_false] at hs;rcases hs with rfl | rfl <;> exact ⟨by unfold maxLen; decide,by rfl⟩
theorem Gw (w:World) (zs:List Int) (ao:Option Addr) (cap:Nat) (hz:Aa w w.heap.size zs ao) (hl:zs.length<=9223372036854775807):
 Calls Tryz.prog 4 #[.slice ao zs.length cap] w (TT w):=by
 have HZ:=ah hz;clear hz;go_enter Tryz.func4,Tryz.ntmps4;go_upto_region 3 with fail;obtain ⟨w2,hw2⟩: ∃x,x=((w.alloc (.cells #[.slice none 0 0,.slice none 0 0] 26)).alloc (.cells #[.slice ao zs.length cap,.int .i64 0] 36)).alloc (.cells #[.pointer (some ⟨w.heap.size + 1,0,none⟩),.int .i64 0,.int .i64 (12 + 58 * ((zs.length:Int) % 5 / 4))] 38):=⟨_,rfl⟩;rw [<- hw2];obtain ⟨T,e0,e1,e2,e3,e4,e5⟩: ∃T:Tp,T.B0=w.heap.size∧w.heap.size + 1=T.bt∧w.heap.size + 1 + 1=T.bm∧T.ao=ao∧T.cap=cap∧T.zs=zs:=⟨⟨w.heap.size,w.heap.size + 1,w.heap.size + 1 + 1,ao,cap,zs,by omega,by omega,by omega⟩,rfl,rfl,rfl,rfl,rfl,rfl⟩;obtain ⟨pb,hpb⟩: ∃pb,w.heap.size + 1 + 1 + 1=pb:=⟨_,rfl⟩;rw [hpb,e2,e1];have hsz2:w2.heap.size=pb:=by rw [hw2,<- hpb]; simp
 have rX:aj (Below w.heap.size w w2):=ah (by rw [hw2]; exact ((ak _ _).alloc (by simp) _).alloc (by simp <;> omega) _);have HR2:aj (w2.heap[w.heap.size]? =some (.cells #[.slice none 0 0,.slice none 0 0] 26 (0,0))):=ah (by rw [hw2,heap_alloc_old _ _ (by simp <;> omega),heap_alloc_old _ _ (by simp <;> omega)]; exact heap_alloc_new _ _);have F8:aj (bP w2 T):=ah (by
  have k1:w2.heap[T.bt]? =some (.cells #[.slice ao zs.length cap,.int .i64 0] 36 (0,0)):=by rw [hw2,<- e1,heap_alloc_old _ _ (by simp)];have:=heap_alloc_new (w.alloc (.cells #[.slice none 0 0,.slice none 0 0] 26)) (.cells #[.slice ao zs.length cap,.int .i64 0] 36);simpa using this
  have k2:w2.heap[T.bm]? =some (.cells #[.pointer (some ⟨w.heap.size + 1,0,none⟩),.int .i64 0,.int .i64 (12 + 58 * ((zs.length:Int) % 5 / 4))] 38 (0,0)):=by rw [hw2,<- e2];have:=heap_alloc_new ((w.alloc (.cells #[.slice none 0 0,.slice none 0 0] 26)).alloc (.cells #[.slice ao zs.length cap,.int .i64 0] 36)) (.cells #[.pointer (some ⟨w.heap.size + 1,0,none⟩),.int .i64 0,.int .i64 (12 + 58 * ((zs.length:Int) % 5 / 4))] 38);simpa using this
  refine ⟨⟨⟨0,Nat.zero_le _,by rw [k1,e3,e4,e5]; rfl⟩,by rw [e0,e3,e5]; exact HZ.o.below rX.o,by rw [e5]; exact hl⟩,⟨0,12 + 58 * ((zs.length:Int) % 5 / 4),C8,by omega,by omega,by rw [k2,e1]⟩⟩)
 generalize hW:World.alloc w2 _=W;have qL:aj (PD T w2 pb W (.slice none 0 0) []):=ah (by rw [<- hW];exact ⟨by rw [<- hsz2]; exact heap_alloc_new _ _,Grow.nil _ _ _ _ _ _,by simp,F8.o.below (ak _ _),Mk.of_below (ak _ _),by omega,by omega,by omega,by omega⟩);have bR:aj (T.B0=w.heap.size∧T.bt=w.heap.size + 1∧T.bm=w.heap.size + 2∧pb=w.heap.size + 3∧w2.heap.size=pb):=ah ⟨e0,e1.symm,by omega,by omega,hsz2⟩;clear hW hw2 e0 e1 e2 e3 e4 e5 hpb hsz2 HZ F8;have c0:=qL.o.mi.ptr;go_wp2_with fail;refine (bW T 4 _ (by unfold aD; decide) qL.o.mi).mono ?_;rintro e w3 ⟨k,rfl,hk0,hk1,hk2,hM,hI⟩;have zx:=ah (qL.o.go hM hI);clear hM hI hk1 hk2 c0 qL
 go_upto_if 28 with fail
 go_cut [4] (fun s4 W'=>s4= .pointer (some ⟨pb,0,none⟩)∧ ∃vD ds,ds.length<=100∧PD T w2 pb W' vD ds)
 case first=>
  by_cases hk:0 < k
  ·go_wp2_with fail;refine (GY _).mono ?_;rintro e w4 ⟨g,rfl,hg,hgc,hb⟩;have hpg:pb + 1<=g:=Nat.le_trans zx.o.sz hg;have TH:=ah hpg;have F9:=ah (zx.o.go (Mk.of_below hb) (zx.o.mi.below hb));have QJ:=ah hgc;have y0:w4.cell? ⟨pb,0,none⟩=some (.slice none 0 0):=au F9.o.box rfl;have f0:w4.frozen? ⟨pb,0,none⟩=false:=aB F9.o.box;clear hb hgc hg hpg zx;go_upto_region 5 with fail;generalize qX:World.setCell w4 _ _=w5;have gQ:aj (PD T w2 pb w5 (.slice (some ⟨g,0,none⟩) 9 9) Cq):=ah (by rw [<- qX]; exact F9.o.put (Grow.made pQ QJ.o TH.o rfl (by unfold maxLen; decide)) LP);clear qX y0 f0 F9 QJ;go_wp2_with fail;go_loopw [5] (fun v5 wr=> ∃(k:Nat) (ds:List De),v5= .int .i64 k∧k<=9∧ds.length=9∧PD T w2 pb wr (.slice (some ⟨g,0,none⟩) 9 9) ds) (fun i _=>9 - (intOf i).toNat)
   case atStart=>exact ⟨0,Cq,rfl,by decide,rfl,gQ.o⟩
   case round=>
    obtain ⟨k,ds,rfl,U9,hds,hp⟩:=hrel;have HP:=ah hp;have MV:=ah hds;have y0:wr.cell? ⟨pb,0,none⟩=some (.slice (some ⟨g,0,none⟩) 9 9):=au hp.box rfl;obtain ⟨line,left,hl1,hl2,hl3,hblk⟩:=hp.mi.qp;have c1:wr.cell? ⟨T.bm,1,none⟩=some (.int .i64 line):=(bK hblk (j:=1) rfl).2;have f1:wr.frozen? ⟨T.bm,1,none⟩=false:=aB hblk;clear hp hds hblk hl1 hl2 hl3;by_cases hlt:k < 9
    ·go_upto_region 9 with fail;generalize Hy:World.setCell wr _ _=wl;have Ea:aj (PD T w2 pb wl (.slice (some ⟨g,0,none⟩) 9 9) ds):=ah (by rw [<- Hy]; exact HP.o.FJ (tX _));clear Hy c1 f1 y0 HP;have y0:wl.cell? ⟨pb,0,none⟩=some (.slice (some ⟨g,0,none⟩) 9 9):=au Ea.o.box rfl;obtain ⟨l,c1,sM⟩:=Ea.o.mi.ln;have Gg:=ah sM;obtain ⟨d,hd⟩: ∃d,ds[k]? =some d:=⟨_,List.getElem?_eq_getElem (by rw [MV.o]; exact hlt)⟩;have HD:=ah hd;have hcl:=(Ea.o.gd.cells pQ wl (dH.refl _ _)).2;have yl: ∃z,wl.cell? ⟨g,k * 6 + 1,none⟩=some z:=(by obtain ⟨dY,cap',e',-,hc⟩:=hcl;injection e' with q1 q2 q3; subst q1;obtain ⟨g',h1,-,-,h4⟩:=hc k d hd;injection h1 with h1; injection h1 with h1; subst h1;exact ⟨_,h4 1 _ rfl⟩);obtain ⟨z,yl⟩:=yl;have fl:wl.frozen? ⟨g,k * 6 + 1,none⟩=false:=by
      rcases Ea.o.gd.own.2 with ⟨h1,-⟩ | ⟨g',cap',cur,h1,-,h3,-⟩
      ·cases h1
      ·injection h1 with h1; injection h1 with h1; injection h1 with h1; subst h1; exact aB h3
     have hb0:(0:Int)<=(k:Int):=(by omega);have hb1:(k:Int) < 9:=(by omega);clear sM hd hcl;refine dB (by kernel_rfl) rfl ?_;refine bS 0 9 [] [[],[0],[],[],[3],[3,4],[3,4,5],[0,1,2,3,4,5,6],[0,1,2,3,4,5,6,7],[0,1,2,3,4,5,6,7,8]] [[],[],[],[],[],[],[],[],[]] (fun _ w'=>w'=wl.drewN 1) (fun w w'=>w=w') [45,46,47,48,49,50,51,52,53] rfl rfl (by rfl) (by kernel_rfl) (by kernel_rfl) (by kernel_rfl) (by kernel_rfl) (by kernel_rfl) (by rfl) (fun _=>rfl) (by rfl) rfl ?_;simp only [jm,kX];apply aJ.step
     case bU=>intro c A w' hok hC hO hD;have e4:=hO 4 (by rfl);simp [Act.eval] at e4;simp [Act.eval] at hD;simp [go_sem,gd,Oper.wp,hD,e4];exact aC.mk rfl hC (dh.mk _ _)
     apply aJ.step
     case bU=>intro c A w' hok hC hO hD;simp [Act.eval] at hD;simp [go_sem,gd,Oper.wp,hD,hC,y0];exact aC.mk rfl rfl (dh.mk _ _)
     iterate 4
      apply aJ.step
      case bU=>intro c A w' hok hC hO hD;have e5:=hO 5 (by rfl);have e3:=hO 3 (by rfl);simp [Act.eval] at e5 e3;simp [Act.eval] at hD;simp [go_sem,gd,Oper.wp,hD,e5,e3];exact aC.mk rfl hC (dh.mk _ _)
      try simp only [bV]
     apply aJ.step
     case bU=>intro c A w' hok hC hO hD;simp [Act.eval] at hD;simp [go_sem,gd,Oper.wp,hD,hC,c1];exact aC.mk rfl rfl (dh.mk _ _)
     iterate 2
      apply aJ.step
      case bU=>intro c A w' hok hC hO hD;simp [Act.eval] at hD;simp [go_sem,gd,Oper.wp,hD,hb0,hb1];exact aC.mk rfl hC (dh.mk _ _)
     try simp only [bV]
     refine aJ.done ?_;intro wz dK
     try simp only [jm]
     intro v0 h0 v1 h1 v2 h2 v3 h3 v4 h4 v5 h5;refine xA ?_;intro v7 h7;refine xA ?_;clear h0 h1 h2 h3 h4 h5 h7;refine cK.nil ?_;go_simp;refine fu 9 [[],[0],[],[],[3],[3,4],[3,4,5],[0,1,2,3,4,5,6],[0,1,2,3,4,5,6,7],[0,1,2,3,4,5,6,7,8]] rfl rfl rfl rfl rfl (by kernel_rfl) (by kernel_rfl) (by kernel_rfl) ?_;subst dK;simp [go_sem,Oper.wp,yl,fl];refine eB rfl ?_;have uM:=ah ((Ea.o.go (Mk.of_below (below_drewN (Below.refl _ _) 1)) (Ea.o.mi.below (below_drewN (Below.refl _ _) 1))).line HD.o Gg.o);clear yl fl c1 y0;go_simp;go_wp2_with fail;go_roundw
     case rel=>exact ⟨k + 1,_,by go_num,by omega,by simpa using MV.o,uM.o⟩
     case measure=>simp [intOf]; omega
    ·have hk:k=9:=(by omega);subst hk;go_wp2_with fail;go_meet;exact ⟨rfl,_,ds,by rw [MV.o]; decide,HP.o⟩
  ·have Ta:k=0:=by omega
   subst Ta;go_wp2_with fail;go_meet;exact ⟨rfl,_,[],by decide,zx.o⟩
 obtain ⟨rfl,vD,ds,hds,hp⟩:=hcut;obtain ⟨wa,rfl⟩: ∃W:World,W=wc:=⟨_,rfl⟩;have yt:=ah hp;have MW:=ah hds;clear hp hds zx hk0;have c0:=yt.o.mi.ptr;go_wp2_with fail;refine (bW T 8 _ (by unfold aD; decide) yt.o.mi).mono ?_;rintro e w4 ⟨k,rfl,hk0,hk1,hk2,hM,hI⟩;have Oq:k < 8:=hk1 (by decide);have Gm:=ah (yt.o.go hM hI);clear hM hI hk1 hk2 c0 yt;go_wp2_with fail;go_loopw [6] (fun v6 wr=> ∃(k:Int) (vD:Value) (ds:List De),v6= .int .i64 k∧ -4<=k∧k<=3∧(ds.length:Int) + k<=103∧ds.length<=107∧PD T w2 pb wr vD ds) (fun i _=>(intOf i).toNat)
 case atStart=>exact ⟨k - 4,vD,ds,rfl,by omega,by omega,by have:=MW.o; omega,by have:=MW.o; omega,Gm.o⟩
 case round=>
  clear Gm MW hk0 Oq ds vD;obtain ⟨k,vD,ds,rfl,hk4,hk3,hdk,hdl,hp⟩:=hrel;have HP:=ah hp;have HDK:=ah hdk;have MS:=ah hdl;clear hp hdk hdl;by_cases hk:0 < k
  ·go_upto_region 13 with fail;have hd1:Mk T wr (wr.drewN 1):=Mk.of_below (below_drewN (Below.refl _ _) 1);have hd2:bP (wr.drewN 1) T:=HP.o.mi.below (below_drewN (Below.refl _ _) 1);have Eb:aj (T.bt < pb∧T.bm < pb):=ah (by have:=HP.o.lt; omega);have QX:aj (pb + 1<=wr.heap.size):=ah HP.o.sz;have Y0: ∀w',Mk T wr w'->w'.cell? ⟨pb,0,none⟩=some vD:=fun w' h=>au ((h.block pb QX.o (by have:=Eb.o; omega) (by have:=Eb.o; omega)).trans HP.o.box) rfl;refine dB (by kernel_rfl) rfl ?_;refine bS 0 5 [] [[],[0],[],[2],[2,3],[0,1,2,3,4],[0,1,2,3,4,5],[0,1,2,3,4,5,6]] [[],[],[],[],[]] (fun _ w'=>Mk T wr w'∧bP w' T) (fun w w'=>Mk T w w') [64,65,66,67,68] rfl rfl (by rfl) (by kernel_rfl) (by kernel_rfl) (by kernel_rfl) (by kernel_rfl) (by kernel_rfl) (by rfl) (fun _=>Mk.refl _ _) (by rfl) ⟨hd1,hd2⟩ ?_;simp only [jm,kX]
   iterate 3
    apply aJ.step
    case bU=>intro c A w' hok hC hO hD;have e4:=hO 4 (by rfl);have e3:=hO 3 (by rfl);simp [Act.eval] at e4 e3;simp [Act.eval] at hD;simp [go_sem,gd,Oper.wp,hD,e4,e3,Y0,hC.1];exact aC.mk (Mk.refl _ _) hC (dh.mk _ _)
    try simp only [bV]
   refine aJ.some (fun v _=> ∃d,v=Et d∧(d.Ok∧gu d=true)) (fun _ _ _ _ h=>h) ?_ ?_
   ·intro c A w' hok hC hO hD;simp [Act.eval] at hD;simp [go_sem,gd,Oper.wp,hD];refine (Jl T w' hC.2).mono ?_;rintro e w3 ⟨d,rfl,h1,h2,h3⟩;exact aC.mk h2 ⟨hC.1.trans h2,h3⟩ ⟨d,rfl,h1⟩
   refine aJ.some (fun v w'=> ∃(bb:Nat) (d:De),v= .slice (some ⟨bb,0,none⟩) 1 1∧pb + 1<=bb∧w'.heap[bb]? =some (.cells (eX d).toArray 42 (0,0))∧(d.Ok∧gu d=true)) ?_ ?_ ?_
   ·rintro v w1 w' hle ⟨g,d,h1,h2,h3,h4⟩;exact ⟨g,d,h1,h2,(hle.block g (Array.getElem?_eq_some_iff.1 h3).1 (by have:=Eb.o; omega) (by have:=Eb.o; omega)).trans h3,h4⟩
   ·intro c A w' hok hC hO hD;simp [Act.eval] at hD;obtain ⟨d,hd,hok1,hok2⟩:=hD;unfold Et at hd;simp [go_sem,gd,Oper.wp,hd];exact aC.mk (d:=_) (v:= .slice (some ⟨_,0,none⟩) 1 1) (Mk.of_below (ak _ _)) ⟨hC.1.trans (Mk.of_below (ak _ _)),hC.2.below (ak _ _)⟩ ⟨_,rfl,Nat.le_trans QX.o hC.1.size,d,heap_alloc_new _ _,hok1,hok2⟩
   try simp only [bV]
   refine aJ.done ?_;intro wz dK
   try simp only [jm]
   iterate 3 refine xA ?_
   intro v3 h3 v4 h4;clear h3;obtain ⟨bb,d,rfl,hbb,hcell,vE⟩:=h4;clear hd1 hd2 Y0;refine cK.nil ?_;go_simp;refine fu 5 [[],[0],[],[2],[2,3],[0,1,2,3,4],[0,1,2,3,4,5],[0,1,2,3,4,5,6]] rfl rfl rfl rfl rfl (by kernel_rfl) (by kernel_rfl) (by kernel_rfl) ?_;obtain ⟨i0,hi0,hz0,hz1,hz2⟩:=LK;have uM:=ah (HP.o.go dK.1 dK.2);have MU:=ah vE;have hkl:ds.length + 1<=maxLen:=by have:=MS.o; unfold maxLen; omega
   have hkb:(ds.length + 1) * 64<=140737488355328:=by have:=MS.o; omega
   refine wp_append_lies wz _ _ _ (by rfl) (pb + 1) 42 i0 _ 6 64 Tryz.underlying23 hi0 hz0 hz1 hz2 (by rfl) (by omega) vD ds.length (ds.flatMap eX) (by rfl) uM.o.gd.own ⟨bb,0,none⟩ 1 1 (eX d) (by rfl) (by rfl) (iH hcell) (LU d) (by decide) hkl hkb uM.o.sz _ rfl ?_;intro g' cap' w5 hown hgr hmv hlt;clear hi0 hz0 hz1 hz2 hcell dK hbb vE hkl hkb;have uJ:=ah (uM.o.gd.push (x:=d) (fun _ _=>trivial) rfl hown hgr hmv);have iq:aj (Below (pb + 1) wz w5):=ah (jI hgr (fun k hk=>(uM.o.gd.lt k hk).1) uM.o.sz);have QS:aj (∀x ∈ ds++[d],x.Ok∧gu x=true):=ah (fun x hx=>by
    rcases List.mem_append.1 hx with hx | hx
    ·exact HP.o.ok x hx
    ·rw [List.mem_singleton.1 hx]; exact MU.o)
   clear hown hgr hmv hlt;have iM:aj (w5.heap[pb]? =some (.cells #[vD,.slice none 0 0] 26 (0,0))):=ah ((iq.o.block pb (Nat.lt_succ_self _)).trans uM.o.box);have iw:=ah (PD.put' (ds':=ds++[d]) iM.o (uM.o.mi.qo iq.o (by have:=Eb.o; omega) (by have:=Eb.o; omega) (by have:=HP.o.lt; omega)) (uM.o.km.zl (iq.o.mono (by have:=HP.o.lt; omega))) HP.o.lt uJ.o QS.o);have y0:w5.cell? ⟨pb,0,none⟩=some vD:=au iM.o rfl;have f0:w5.frozen? ⟨pb,0,none⟩=false:=aB iM.o;clear iM uJ iq QS uM;go_simp;refine bS 6 7 [] [[],[0],[],[2],[2,3],[0,1,2,3,4],[0,1,2,3,4,5],[0,1,2,3,4,5,6]] [[]] (fun _ w'=>w'=w5) (fun w w'=>w=w') [70] rfl rfl (by rfl) (by kernel_rfl) (by kernel_rfl) (by kernel_rfl) (by kernel_rfl) (by kernel_rfl) (by rfl) (fun _=>rfl) (by rfl) rfl ?_;simp only [jm,kX];apply aJ.step
   case bU=>intro c A w' hok hC hO hD;have e4:=hO 4 (by rfl);simp [Act.eval] at e4;simp [Act.eval] at hD;simp [go_sem,gd,Oper.wp,hD,e4];exact aC.mk rfl hC (dh.mk _ _)
   try simp only [bV]
   refine aJ.done ?_;intro wz dK
   try simp only [jm]
   refine xA ?_;refine cK.nil ?_;go_simp;refine fu 7 [[],[0],[],[2],[2,3],[0,1,2,3,4],[0,1,2,3,4,5],[0,1,2,3,4,5,6]] rfl rfl rfl rfl rfl (by kernel_rfl) (by kernel_rfl) (by kernel_rfl) ?_;subst dK;simp [go_sem,Oper.wp,y0,f0];refine eB rfl ?_;clear y0 f0;go_simp;go_wp2_with fail;go_roundw
   case rel=>exact ⟨k - 1,_,ds++[d],rfl,by omega,by omega,by have:=HDK.o; simp; omega,by have:=HDK.o; simp; omega,iw.o⟩
   case measure=>simp [intOf]; omega
  ·go_upto_region 15 with fail;obtain ⟨nb,hnb⟩: ∃nb,wr.heap.size=nb:=⟨_,rfl⟩;generalize Rs:World.alloc wr _=wn;have Ky:aj (PI T w2 pb nb wn vD ds (.slice none 0 0) []):=ah (by rw [<- Rs,<- hnb]; exact HP.o.pi);rw [hnb];clear Rs hnb hk4 hk3 hk HP HDK;have c0:=Ky.o.mi.ptr;go_wp2_with fail;refine (bW T 3 _ (by unfold aD; decide) Ky.o.mi).mono ?_;rintro e wa ⟨n,rfl,hk0,hk1,hk2,hM,hI⟩;have Lb:n < 3:=hk1 (by decide);have yt:=ah (Ky.o.go hM hI);clear hM hI hk1 hk2 c0 Ky;have c0:=yt.o.mi.ptr;go_wp2_with fail;refine (bW T 12 _ (by unfold aD; decide) yt.o.mi).mono ?_;rintro e wb ⟨m,rfl,hm0,hm1,hm2,hM,hI⟩;have Gm:=ah (yt.o.go hM hI);clear hM hI hm0 hm1 hm2 c0 yt
   go_upto_if 83 with fail
   go_cut [8] (fun s8 W'=>W'=wb∧ ∃n:Nat,s8= .int .i64 (n:Int)∧1<=n∧n<=5)
   case first=>
    cases hm:(m == 11)
    ·go_wp2_with fail;go_meet;exact ⟨rfl,(1 + n).toNat,by rw [Int.toNat_of_nonneg (by omega)],by omega,by omega⟩
    ·go_wp2_with fail;go_meet;exact ⟨rfl,5,rfl,by decide,by decide⟩
   obtain ⟨rfl,n',rfl,hn1,UM⟩:=hcut;clear hk0 Lb;go_wp2_with fail;go_loopw [9] (fun v9 wr=> ∃(k:Nat) (vT:Value) (jA:List dR),v9= .int .i64 k∧k<=n'∧jA.length=k∧PI T w2 pb nb wr vD ds vT jA) (fun i _=>n' - (intOf i).toNat)
   case atStart=>exact ⟨0,_,[],rfl,Nat.zero_le _,rfl,Gm.o⟩
   case round=>
    clear Gm;obtain ⟨k,vT,jA,rfl,hkn,hth,hp⟩:=hrel;have HP:=ah hp;have BU:=ah hth;clear hp hth;by_cases hlt:k < n'
    ·obtain ⟨line,left,hl1,hl2,hl3,hblk⟩:=HP.o.mi.qp;have c1:wr.cell? ⟨T.bm,1,none⟩=some (.int .i64 line):=(bK hblk (j:=1) rfl).2;have f1:wr.frozen? ⟨T.bm,1,none⟩=false:=aB hblk;clear hblk hl1 hl2 hl3;go_upto_region 22 with fail;generalize Hy:World.setCell wr _ _=W0;have wK:aj (PI T w2 pb nb W0 vD ds vT jA):=ah (by rw [<- Hy]; exact HP.o.FJ (tX _));clear Hy c1 f1 HP;have mK:aj (nb + 1<=W0.heap.size):=ah wK.o.sz;have aR:aj (T.bt < pb∧T.bm < pb∧T.B0<=pb∧pb < nb):=ah (by have:=wK.o.lt; omega);have hd1:Mk T W0 (W0.drewN 1):=Mk.of_below (below_drewN (Below.refl _ _) 1);have hd2:bP (W0.drewN 1) T:=wK.o.mi.below (below_drewN (Below.refl _ _) 1);have K0: ∀w',bP w' T->w'.cell? ⟨T.bm,0,none⟩=some (.pointer (some ⟨T.bt,0,none⟩)):=fun w' h=>h.ptr;have KN: ∀w',Mk T W0 w'-> ∃s,w'.cell? ⟨nb,k,none⟩=some (.string s)∧kH s:=fun w' h=>by have hb:=(h.block nb mK.o (by have:=aR.o; omega) (by have:=aR.o; omega)).trans wK.o.nms;obtain ⟨s,h1,h2⟩:=P6 k (by omega);exact ⟨s,au hb h1,h2⟩
     have hb0:(0:Int)<=(k:Int):=(by omega);have hb1:(k:Int) < 5:=(by omega);refine dB (by kernel_rfl) rfl ?_;refine bS 0 11 [] [[],[],[0,1],[0,1,2],[],[4],[4,5],[4,5,6],[],[0,1,2,3,4,5,6,7,8],[],[0,1,2,3,4,5,6,7,8,9,10]] [[],[],[],[],[],[],[],[],[],[],[]] (fun _ w'=>Mk T W0 w'∧bP w' T) (fun w w'=>Mk T w w') [96,97,98,99,100,101,102,103,104,105,10] rfl rfl (by rfl) (by kernel_rfl) (by kernel_rfl) (by kernel_rfl) (by kernel_rfl) (by kernel_rfl) (by rfl) (fun _=>Mk.refl _ _) (by rfl) ⟨hd1,hd2⟩ ?_;simp only [jm,kX]
     iterate 3
      apply aJ.step
      case bU=>intro c A w' hok hC hO hD;have e7:=hO 7 (by rfl);have e9:=hO 9 (by rfl);simp [Act.eval] at e7 e9;simp [Act.eval] at hD;simp [go_sem,gd,Oper.wp,hD,e7,e9,hb0,hb1];exact aC.mk (Mk.refl _ _) hC (dh.mk _ _)
      try simp only [bV]
     refine aJ.some (fun v w'=> ∃s:ByteArray,v= .string s∧kH s) (fun _ _ _ _ h=>h) ?_ ?_
     ·intro c A w' hok hC hO hD;simp [Act.eval] at hD;obtain ⟨s,hs,hsz⟩:=KN w' hC.1;simp [go_sem,gd,Oper.wp,hD,hs];exact aC.mk (Mk.refl _ _) hC (⟨s,rfl,hsz⟩)
     try simp only [bV]
     iterate 3
      apply aJ.step
      case bU=>intro c A w' hok hC hO hD;have e3:=hO 3 (by rfl);simp [Act.eval] at e3;simp [Act.eval] at hD;simp [go_sem,gd,Oper.wp,hD,e3];exact aC.mk (Mk.refl _ _) hC (dh.mk _ _)
      try simp only [bV]
     refine aJ.some (fun v w'=> ∃l:Int,v= .int .i64 l∧aD l) (fun _ _ _ _ h=>h) ?_ ?_
     ·intro c A w' hok hC hO hD;simp [Act.eval] at hD;obtain ⟨l,hc,hl⟩:=hC.2.ln;simp [go_sem,gd,Oper.wp,hD,hc];exact aC.mk (Mk.refl _ _) hC (⟨l,rfl,hl⟩)
     try simp only [bV]
     refine aJ.some (fun v w'=> ∃lb,v= .slice (some ⟨lb,0,none⟩) 2 2∧W0.heap.size<=lb∧w'.heap[lb]? =some (.cells (wV.flatMap nK).toArray 9 (0,0))) ?_ ?_ ?_
     ·rintro v w1 w' hle ⟨g,h1,h2,h3⟩;exact ⟨g,h1,h2,(hle.block g (Array.getElem?_eq_some_iff.1 h3).1 (by have:=aR.o; have:=mK.o; omega) (by have:=aR.o; have:=mK.o; omega)).trans h3⟩
     ·intro c A w' hok hC hO hD;simp [go_sem,gd,Oper.wp];exact aC.mk (d:=_) (v:= .slice (some ⟨_,0,none⟩) 2 2) (Mk.of_below (ak _ _)) ⟨hC.1.trans (Mk.of_below (ak _ _)),hC.2.below (ak _ _)⟩ ⟨_,rfl,hC.1.size,heap_alloc_new _ _⟩
     try simp only [bV]
     refine aJ.some (fun v w'=> ∃lb,W0.heap.size<=lb∧w'.heap[lb]? =some (.cells (wV.flatMap nK).toArray 9 (0,0))∧ ∃(s:ByteArray) (l:Int),v= .agg #[.string s,.int .i64 l,.slice (some ⟨lb,0,none⟩) 2 2,.slice none 0 0]∧kH s∧aD l) ?_ ?_ ?_
     ·rintro v w1 w' hle ⟨g,h2,h3,h4⟩;exact ⟨g,h2,(hle.block g (Array.getElem?_eq_some_iff.1 h3).1 (by have:=aR.o; have:=mK.o; omega) (by have:=aR.o; have:=mK.o; omega)).trans h3,h4⟩
     ·intro c A w' hok hC hO hD;simp [Act.eval] at hD;obtain ⟨⟨s,hs,hsn⟩,⟨l,hl,sM⟩,lb,hlb,h1,h2⟩:=hD;simp [go_sem,gd,Oper.wp,hs,hl,hlb];exact aC.mk (Mk.refl _ _) hC ⟨lb,h1,h2,s,l,rfl,hsn,sM⟩
     try simp only [bV]
     refine aJ.some (fun v w'=> ∃tb,v= .pointer (some ⟨tb,0,none⟩)∧W0.heap.size<=tb∧w'.heap[tb]? =some (.cells Un 47 (0,0))) ?_ ?_ ?_
     ·rintro v w1 w' hle ⟨g,h1,h2,h3⟩;exact ⟨g,h1,h2,(hle.block g (Array.getElem?_eq_some_iff.1 h3).1 (by have:=aR.o; have:=mK.o; omega) (by have:=aR.o; have:=mK.o; omega)).trans h3⟩
     ·intro c A w' hok hC hO hD;simp [go_sem,gd,Oper.wp];exact aC.mk (d:=_) (v:= .pointer (some ⟨_,0,none⟩)) (Mk.of_below (ak _ _)) ⟨hC.1.trans (Mk.of_below (ak _ _)),hC.2.below (ak _ _)⟩ ⟨_,rfl,hC.1.size,heap_alloc_new _ _⟩
     try simp only [bV]
     refine aJ.done ?_;intro wz dK
     try simp only [jm]
     intro v0 h0 v1 h1 v2 h2 v3 h3 v4 h4 v5 h5 v6 h6 v7 h7 v8 h8 v9 h9 v10 h10;clear h0 h1 h2 h3 h4 h5 h6 h7 h8;obtain ⟨lb,hlb,hlc,s,l,rfl,hsn,sM⟩:=h9;obtain ⟨tb,rfl,htb,htc⟩:=h10;clear hd1 hd2 K0 KN;refine cK.nil ?_;go_simp;have hne:lb≠tb:=fun e=>by subst e; rw [hlc] at htc; cases htc
     refine fu 11 [[],[],[0,1],[0,1,2],[],[4],[4,5],[4,5,6],[],[0,1,2,3,4,5,6,7,8],[],[0,1,2,3,4,5,6,7,8,9,10]] rfl rfl rfl rfl rfl (by kernel_rfl) (by kernel_rfl) (by kernel_rfl) ?_;refine wp_store_mid _ _ _ (by rfl) tb 0 #[.string s,.int .i64 l,.slice (some ⟨lb,0,none⟩) 2 2,.slice none 0 0] (by rfl) (by rfl) (oF htc (Nat.le_refl 4)) MJ (by simp [Value.oneCell']) ?_;refine eB rfl ?_;generalize mJ:World.setCells wz tb 0 _=W5;have KF:aj (TI T W0 tb W5 s l (.slice (some ⟨lb,0,none⟩) 2 2) wV (.slice none 0 0)):=ah (by
      rw [<- mJ];have hlt':T.bt < W0.heap.size∧T.bm < W0.heap.size∧T.B0<=W0.heap.size∧W0.heap.size<=tb:=(by have:=aR.o; have:=mK.o; omega);have hgr:=aQ tb [.string s,.int .i64 l,.slice (some ⟨lb,0,none⟩) 2 2,.slice none 0 0] 0 wz;refine ⟨iI htc rfl,?_,fun k hk=> ?_,⟨hsn,sM,Ii,by decide⟩,dK.2.sets _ _ _ (by omega) (by omega) (by omega),dK.1.sets _ _ _ htb,hlt'⟩
      ·exact (Grow.made pV hlc hlb rfl (by unfold maxLen; decide)).yX (lM.xP hgr) (fun k hk e=>by injection hk with hk; injection e with e; have hk:lb=k:=hk; omega)
      ·injection hk with hk; have hk:lb=k:=hk; omega)
     clear mJ dK hlb hlc htb htc hsn sM hne;go_simp;have c0:=KF.o.mi.ptr;go_wp2_with fail;refine (bW T 16 _ (by unfold aD; decide) KF.o.mi).mono ?_;rintro e W6 ⟨m,rfl,hm0,hm1,hm2,hM,hI⟩;have lJ:=ah (KF.o.go hM hI);clear hM hI hm0 hm1 hm2 c0 KF;go_upto_block 6 with fail;go_cut [10] (fun s10 W'=>s10= .pointer (some ⟨tb,0,none⟩)∧ ∃(s:ByteArray) (vL:Value) (lc:List ByteArray),TI T W0 tb W' s l vL lc (.slice none 0 0))
     case first=>
      cases AB:(m == 13)
      ·cases Ez:(m == 14)
       ·cases vv:(m == 15)
        ·go_wp2_with fail;go_meet;exact ⟨rfl,_,_,_,lJ.o⟩
        ·have y2:=au (j:=2) lJ.o.box rfl;have f2:W6.frozen? ⟨tb,2,none⟩=false:=aB lJ.o.box;have Te:tb < W6.heap.size:=lJ.o.sz;have Nk:=ah Te;go_wp2_with fail;go_meet;have wO:=ah (lJ.o.go (Mk.of_below (ak W6 (.cells (Ld.flatMap nK).toArray 9))) (lJ.o.mi.below (ak _ _)));have qc:=TI.pG (pG:=Ld) (J3:= .slice (some ⟨W6.heap.size,0,none⟩) 5 5) wO.o.box (Grow.made pV (heap_alloc_new _ _) (Nat.le_trans wO.o.lt.2.2.2 (Nat.le_of_lt Nk.o)) rfl (by unfold maxLen; decide)) (fun k hk=>by injection hk with hk; have hk:W6.heap.size=k:=hk; have:=Nk.o; omega) ⟨lJ.o.ok.1,lJ.o.ok.2.1,OT,by decide⟩ wO.o.mi wO.o.km wO.o.lt;rw [World.setCell_alloc_past _ _ _ _ Nk.o] at qc;have Nv:=ah qc;clear qc;refine ⟨rfl,?_⟩;exact ⟨_,_,_,Nv.o⟩
       ·go_upto_region 27 with fail;have cZ:aj (tb + 1<=W6.heap.size):=ah lJ.o.sz;have lH:aj (T.bt < W0.heap.size∧T.bm < W0.heap.size∧W0.heap.size<=tb):=ah (by have:=lJ.o.lt; omega);have hd1:Mk T W6 (W6.drewN 1):=Mk.of_below (below_drewN (Below.refl _ _) 1);have hd2:bP (W6.drewN 1) T:=lJ.o.mi.below (below_drewN (Below.refl _ _) 1);have K0: ∀w',bP w' T->w'.cell? ⟨T.bm,0,none⟩=some (.pointer (some ⟨T.bt,0,none⟩)):=fun w' h=>h.ptr;have Y2: ∀w',Mk T W6 w'->w'.cell? ⟨tb,2,none⟩=some (.slice (some ⟨lb,0,none⟩) 2 2):=fun w' h=>au ((h.block tb cZ.o (by have:=lH.o; omega) (by have:=lH.o; omega)).trans lJ.o.box) rfl;refine dB (by kernel_rfl) rfl ?_;refine bS 0 11 [] [[],[0],[],[],[3],[3,4],[3,4,5],[3,4,5,6],[2,3,4,5,6,7],[2,3,4,5,6,7,8],[2,3,4,5,6,7,8,9],[0,1,2,3,4,5,6,7,8,9,10],[0,1,2,3,4,5,6,7,8,9,10,11],[0,1,2,3,4,5,6,7,8,9,10,11,12]] [[],[],[],[],[],[],[],[],[],[],[]] (fun _ w'=>Mk T W6 w'∧bP w' T) (fun w w'=>Mk T w w') [116,117,118,119,120,121,122,123,124,125,126] rfl rfl (by rfl) (by kernel_rfl) (by kernel_rfl) (by kernel_rfl) (by kernel_rfl) (by kernel_rfl) (by rfl) (fun _=>Mk.refl _ _) (by rfl) ⟨hd1,hd2⟩ ?_;simp only [jm,kX]
        iterate 2
         apply aJ.step
         case bU=>intro c A w' hok hC hO hD;have e10:=hO 10 (by rfl);simp [Act.eval] at e10;simp [Act.eval] at hD;simp [go_sem,gd,Oper.wp,hD,e10,Y2,hC.1];exact aC.mk (Mk.refl _ _) hC (dh.mk _ _)
        refine aJ.some (fun v w'=> ∃g,v= .slice (some ⟨g,0,none⟩) 4 4∧W6.heap.size<=g∧w'.heap[g]? =some (.cells OW 9 (0,0))) ?_ ?_ ?_
        ·rintro v w1 w' hle ⟨g,h1,h2,h3⟩;exact ⟨g,h1,h2,(hle.block g (Array.getElem?_eq_some_iff.1 h3).1 (by have:=lH.o; have:=cZ.o; omega) (by have:=lH.o; have:=cZ.o; omega)).trans h3⟩
        ·intro c A w' hok hC hO hD;simp [go_sem,gd,Oper.wp];exact aC.mk (d:=_) (v:= .slice (some ⟨_,0,none⟩) 4 4) (Mk.of_below (ak _ _)) ⟨hC.1.trans (Mk.of_below (ak _ _)),hC.2.below (ak _ _)⟩ ⟨_,rfl,hC.1.size,heap_alloc_new _ _⟩
        try simp only [bV]
        iterate 4
         apply aJ.step
         case bU=>intro c A w' hok hC hO hD;have e3:=hO 3 (by rfl);simp [Act.eval] at e3;simp [Act.eval] at hD;simp [go_sem,gd,Oper.wp,hD,e3,K0,hC.2];exact aC.mk (Mk.refl _ _) hC (dh.mk _ _)
         try simp only [bV]
        refine aJ.some (fun v _=> ∃r:Nat,v= .int .i64 (r:Int)∧r < 4) (fun _ _ _ _ h=>h) ?_ ?_
        ·intro c A w' hok hC hO hD;simp [Act.eval] at hD;simp [go_sem,gd,Oper.wp,hD];refine (bW T 4 w' (by unfold aD; decide) hC.2).mono ?_;rintro e w2 ⟨r,rfl,h0,h1,-,hM,hI⟩;obtain ⟨r',rfl⟩:=Int.eq_ofNat_of_zero_le h0;exact aC.mk hM ⟨hC.1.trans hM,hI⟩ ⟨r',rfl,by have:=h1 (by decide); omega⟩
        try simp only [bV]
        refine aJ.some (fun v w'=> ∃(g r:Nat),v= .pointer (some ⟨g,r,none⟩)∧r < 4∧W6.heap.size<=g∧w'.heap[g]? =some (.cells OW 9 (0,0))) (fun v w1 w' hle ⟨g,r,h1,h1',h2,h3⟩=>⟨g,r,h1,h1',h2,(hle.block g (Array.getElem?_eq_some_iff.1 h3).1 (by have:=lH.o; have:=cZ.o; omega) (by have:=lH.o; have:=cZ.o; omega)).trans h3⟩) ?_ ?_
        ·intro c A w' hok hC hO hD;simp [Act.eval] at hD;obtain ⟨⟨g,hg,hg1,hg2⟩,r,hr,h1⟩:=hD;have hb0:(0:Int)<=(r:Int):=(by omega);have hb1:(r:Int) < 4:=(by omega);simp [go_sem,gd,Oper.wp,hg,hr,hb0,hb1];exact aC.mk (Mk.refl _ _) hC (⟨g,r,rfl,h1,hg1,hg2⟩)
        try simp only [bV]
        refine aJ.some (fun v w'=> ∃s:ByteArray,v= .string s∧kH s) (fun _ _ _ _ h=>h) ?_ ?_
        ·intro c A w' hok hC hO hD;simp [Act.eval] at hD;obtain ⟨g,r,hr,h1,hg1,hg2⟩:=hD;obtain ⟨s,hs,hsz⟩:=OX r h1;simp [go_sem,gd,Oper.wp,hr,(au hg2 hs)];exact aC.mk (Mk.refl _ _) hC (⟨s,rfl,hsz⟩)
        try simp only [bV]
        refine aJ.some (fun v w'=> ∃g,v= .slice (some ⟨g,0,none⟩) 1 1∧ ∃s:ByteArray,W6.heap.size<=g∧w'.heap[g]? =some (.cells (nK s).toArray 9 (0,0))∧kH s) ?_ ?_ ?_
        ·rintro v w1 w' hle ⟨g,h1,s,h2,h3,h4⟩;exact ⟨g,h1,s,h2,(hle.block g (Array.getElem?_eq_some_iff.1 h3).1 (by have:=lH.o; have:=cZ.o; omega) (by have:=lH.o; have:=cZ.o; omega)).trans h3,h4⟩
        ·intro c A w' hok hC hO hD;simp [Act.eval] at hD;obtain ⟨s,hs,hsn⟩:=hD;simp [go_sem,gd,Oper.wp,hs];refine aC.mk (d:=_) (v:= .slice (some ⟨_,0,none⟩) 1 1) (Mk.of_below (ak _ _)) ⟨hC.1.trans (Mk.of_below (ak _ _)),hC.2.below (ak _ _)⟩ ?_
         first | exact ⟨_,rfl,s,hC.1.size,heap_alloc_new _ _,hsn⟩ | exact ⟨_,rfl,hC.1.size,s,heap_alloc_new _ _,hsn⟩
        try simp only [bV]
        refine aJ.done ?_;intro wz dK
        try simp only [jm]
        iterate 2 refine xA ?_
        intro v2 h2 v3 h3 v4 h4 v5 h5 v6 h6 v7 h7 v8 h8 v9 h9 v10 h10;clear h2 h3 h4 h5 h6 h7 h8 h9;obtain ⟨bb,rfl,s',hbb,hcell,hsn⟩:=h10;clear hd1 hd2 K0 Y2;refine cK.nil ?_;go_simp;refine fu 11 [[],[0],[],[],[3],[3,4],[3,4,5],[3,4,5,6],[2,3,4,5,6,7],[2,3,4,5,6,7,8],[2,3,4,5,6,7,8,9],[0,1,2,3,4,5,6,7,8,9,10],[0,1,2,3,4,5,6,7,8,9,10,11],[0,1,2,3,4,5,6,7,8,9,10,11,12]] rfl rfl rfl rfl rfl (by kernel_rfl) (by kernel_rfl) (by kernel_rfl) ?_;obtain ⟨i0,hi0,hz0,hz1,hz2⟩:=MO;have kN:=ah (lJ.o.go dK.1 dK.2);have BR:=ah hsn;refine wp_append_lies wz _ _ _ (by rfl) W0.heap.size 9 i0 _ 1 16 Tryz.underlying44 hi0 hz0 hz1 hz2 (by rfl) (by omega) (.slice (some ⟨lb,0,none⟩) 2 2) wV.length (wV.flatMap nK) (by rfl) kN.o.gl.own ⟨bb,0,none⟩ 1 1 (nK s') (by rfl) (by rfl) (iH hcell) (by simp [nK,Value.oneCell']) (by decide) (by unfold maxLen; decide) (by decide) (Nat.le_trans kN.o.lt.2.2.2 (Nat.le_of_succ_le kN.o.sz)) _ rfl ?_;intro g' cap' w5 hown hgr hmv hlt';clear hi0 hz0 hz1 hz2 hcell dK hbb hsn;have uJ:=ah (kN.o.gl.push (x:=s') (fun _ _=>trivial) rfl hown hgr hmv);have lI:aj (g'≠tb):=ah (by
         rcases hmv with h | h
         ·exact kN.o.ne g' h
         ·have:=kN.o.sz; omega)
        have iq:aj (Below W0.heap.size wz w5):=ah (jI hgr (fun k hk=>(kN.o.gl.lt k hk).1) (Nat.le_trans kN.o.lt.2.2.2 (Nat.le_of_succ_le kN.o.sz)));have iM:aj (w5.heap[tb]? =some (.cells #[.string s,.int .i64 l,.slice (some ⟨lb,0,none⟩) 2 2,.slice none 0 0] 47 (0,0))):=ah ((hgr.block tb (Nat.lt_of_succ_le kN.o.sz) (fun e=>kN.o.ne tb e.symm rfl)).trans kN.o.box);clear hown hgr hmv hlt';have gI:aj (∀x ∈ wV++[s'],kH x):=ah (fun x hx=>by
         rcases List.mem_append.1 hx with hx | hx
         ·exact Ii x hx
         ·rw [List.mem_singleton.1 hx]; exact BR.o)
        have BS:=ah (TI.pG (pG:=wV++[s']) iM.o uJ.o (fun k hk=>by injection hk with hk; have hk:g'=k:=hk; have:=lI.o; omega) ⟨lJ.o.ok.1,lJ.o.ok.2.1,gI.o,by simp [wV]⟩ (kN.o.mi.qo iq.o kN.o.lt.1 kN.o.lt.2.1 kN.o.lt.2.2.1) (kN.o.km.zl iq.o) kN.o.lt);have y2:w5.cell? ⟨tb,2,none⟩=some (.slice (some ⟨lb,0,none⟩) 2 2):=au iM.o rfl;have f2:w5.frozen? ⟨tb,2,none⟩=false:=aB iM.o;clear iM uJ iq kN lI gI;go_simp;refine bS 12 13 [] [[],[0],[],[],[3],[3,4],[3,4,5],[3,4,5,6],[2,3,4,5,6,7],[2,3,4,5,6,7,8],[2,3,4,5,6,7,8,9],[0,1,2,3,4,5,6,7,8,9,10],[0,1,2,3,4,5,6,7,8,9,10,11],[0,1,2,3,4,5,6,7,8,9,10,11,12]] [[]] (fun _ w'=>w'=w5) (fun w w'=>w=w') [128] rfl rfl (by rfl) (by kernel_rfl) (by kernel_rfl) (by kernel_rfl) (by kernel_rfl) (by kernel_rfl) (by rfl) (fun _=>rfl) (by rfl) rfl ?_;simp only [jm,kX];apply aJ.step
        case bU=>intro c A w' hok hC hO hD;have e10:=hO 10 (by rfl);simp [Act.eval] at e10;simp [Act.eval] at hD;simp [go_sem,gd,Oper.wp,hD,e10];exact aC.mk rfl hC (dh.mk _ _)
        try simp only [bV]
        refine aJ.done ?_;intro wz dK
        try simp only [jm]
        refine xA ?_;refine cK.nil ?_;go_simp;refine fu 13 [[],[0],[],[],[3],[3,4],[3,4,5],[3,4,5,6],[2,3,4,5,6,7],[2,3,4,5,6,7,8],[2,3,4,5,6,7,8,9],[0,1,2,3,4,5,6,7,8,9,10],[0,1,2,3,4,5,6,7,8,9,10,11],[0,1,2,3,4,5,6,7,8,9,10,11,12]] rfl rfl rfl rfl rfl (by kernel_rfl) (by kernel_rfl) (by kernel_rfl) ?_;subst dK;simp [go_sem,Oper.wp,y2,f2];refine eB rfl ?_;clear y2 f2;go_simp;go_wp2_with fail;go_meet;refine ⟨rfl,?_⟩;exact ⟨_,_,_,BS.o⟩
      ·have y0:=au (j:=0) lJ.o.box rfl;have f0:W6.frozen? ⟨tb,0,none⟩=false:=aB lJ.o.box;have TR:=ah (lJ.o.name (s:=⟨#[116]⟩) ⟨by unfold maxLen; decide,by rfl⟩);go_wp2_with fail;go_meet;refine ⟨rfl,?_⟩;exact ⟨_,_,_,TR.o⟩
     obtain ⟨rfl,s',vL,lc,hT⟩:=hcut;obtain ⟨W7,rfl⟩: ∃W:World,W=wc:=⟨_,rfl⟩;have BS:=ah hT;clear hT lJ;have qg:aj (tb + 1<=W7.heap.size):=ah BS.o.sz;have lH:aj (T.bt < W0.heap.size∧T.bm < W0.heap.size∧W0.heap.size<=tb):=ah (by have:=BS.o.lt; omega);have hd1:Mk T W7 (W7.drewN 1):=Mk.of_below (below_drewN (Below.refl _ _) 1);have hd2:bP (W7.drewN 1) T:=BS.o.mi.below (below_drewN (Below.refl _ _) 1);have K0: ∀w',bP w' T->w'.cell? ⟨T.bm,0,none⟩=some (.pointer (some ⟨T.bt,0,none⟩)):=fun w' h=>h.ptr;have KL: ∀w',bP w' T-> ∃q:Int,w'.cell? ⟨T.bm,2,none⟩=some (.int .i64 q)∧0<=q∧q<=100:=fun w' h=>by obtain ⟨x,q,-,h1,h2,h3⟩:=h.qp;exact ⟨q,(bK h3 (j:=2) rfl).2,h1,h2⟩
     have HE2:aj (sD T 2):=ah (Bj T 2 (by decide));have QH:aj (sD T 7):=ah (Bj T 7 (by decide));go_upto_region 30 with fail;refine dB (by kernel_rfl) rfl ?_;refine bS 0 24 [] [[],[],[1],[1,2],[1,2,3],[1,2,3,4],[1,2,3,4,5],[1,2,3,4,5,6],[1,2,3,4,5,6,7],[],[9],[9,10],[9,10,11],[1,2,3,4,5,9,10,11,12],[1,2,3,4,5,9,10,11,12,13],[],[15],[15,16],[15,16,17],[15,16,17,18],[15,16,17,18,19],[1,2,3,4,5,9,10,11,12,13,14,15,16,17,18,19,20],[0,1,2,3,4,5,6,7,8,9,10,11,12,13,14,15,16,17,18,19,20,21],[0,1,2,3,4,5,6,7,8,9,10,11,12,13,14,15,16,17,18,19,20,21,22],[0,1,2,3,4,5,6,7,8,9,10,11,12,13,14,15,16,17,18,19,20,21,22,23]] [[],[],[],[],[],[],[],[],[],[],[],[],[],[],[],[],[],[],[],[],[],[],[],[]] (fun _ w'=>Mk T W7 w'∧bP w' T) (fun w w'=>Mk T w w') [133,134,135,136,137,138,139,140,141,142,143,144,145,146,147,148,149,150,151,152,153,154,155,156] rfl rfl (by rfl) (by kernel_rfl) (by kernel_rfl) (by kernel_rfl) (by kernel_rfl) (by kernel_rfl) (by rfl) (fun _=>Mk.refl _ _) (by rfl) ⟨hd1,hd2⟩ ?_;simp only [jm,kX]
     iterate 5
      apply aJ.step
      case bU=>intro c A w' hok hC hO hD;have e3:=hO 3 (by rfl);simp [Act.eval] at e3;simp [Act.eval] at hD;simp [go_sem,gd,Oper.wp,hD,e3,K0,hC.2];exact aC.mk (Mk.refl _ _) hC (dh.mk _ _)
      try simp only [bV]
     refine aJ.some (fun v _=> ∃r:Nat,v= .int .i64 (r:Int)∧r < 6) (fun _ _ _ _ h=>h) ?_ ?_
     ·intro c A w' hok hC hO hD;simp [Act.eval] at hD;simp [go_sem,gd,Oper.wp,hD];refine (bW T 6 w' (by unfold aD; decide) hC.2).mono ?_;rintro e w2 ⟨r,rfl,h0,h1,-,hM,hI⟩;obtain ⟨r',rfl⟩:=Int.eq_ofNat_of_zero_le h0;exact aC.mk hM ⟨hC.1.trans hM,hI⟩ ⟨r',rfl,by have:=h1 (by decide); omega⟩
     try simp only [bV]
     refine aJ.some (fun v _=>v= .int .i64 0∨v= .int .i64 1) (fun _ _ _ _ h=>h) ?_ ?_
     ·intro c A w' hok hC hO hD;simp [Act.eval] at hD;obtain ⟨r,hr,Rx⟩:=hD;have Rx:r=0∨r=1∨r=2∨r=3∨r=4∨r=5:=(by omega);rcases Rx with rfl | rfl | rfl | rfl | rfl | rfl
      all_goals simp [go_sem,gd,Oper.wp,hr];exact aC.mk (Mk.refl _ _) hC (by first | exact .inl rfl | exact .inr rfl)
     try simp only [bV]
     refine aJ.some (fun v _=>v= .int .i64 0∨v= .int .i64 5) (fun _ _ _ _ h=>h) ?_ ?_
     ·intro c A w' hok hC hO hD;simp [Act.eval] at hD;rcases hD with hr | hr
      all_goals simp [go_sem,gd,Oper.wp,hr];exact aC.mk (Mk.refl _ _) hC (by first | exact .inl rfl | exact .inr rfl)
     try simp only [bV]
     refine aJ.some (fun v _=>v= .int .i64 2∨v= .int .i64 7) (fun _ _ _ _ h=>h) ?_ ?_
     ·intro c A w' hok hC hO hD;simp [Act.eval] at hD;rcases hD with hr | hr
      all_goals simp [go_sem,gd,Oper.wp,hr];exact aC.mk (Mk.refl _ _) hC (by first | exact .inl rfl | exact .inr rfl)
     try simp only [bV]
     iterate 4
      apply aJ.step
      case bU=>intro c A w' hok hC hO hD;have e3:=hO 3 (by rfl);simp [Act.eval] at e3;simp [Act.eval] at hD;simp [go_sem,gd,Oper.wp,hD,e3,K0,hC.2];exact aC.mk (Mk.refl _ _) hC (dh.mk _ _)
      try simp only [bV]
     refine aJ.some (fun v _=> ∃r:Nat,v= .int .i64 (r:Int)∧r < 4) (fun _ _ _ _ h=>h) ?_ ?_
     ·intro c A w' hok hC hO hD;simp [Act.eval] at hD;simp [go_sem,gd,Oper.wp,hD];refine (bW T 4 w' (by unfold aD; decide) hC.2).mono ?_;rintro e w2 ⟨r,rfl,h0,h1,-,hM,hI⟩;obtain ⟨r',rfl⟩:=Int.eq_ofNat_of_zero_le h0;exact aC.mk hM ⟨hC.1.trans hM,hI⟩ ⟨r',rfl,by have:=h1 (by decide); omega⟩
     try simp only [bV]
     refine aJ.some (fun v w'=> ∃r:Nat,v= .int .i64 (r:Int)∧1<=r∧r<=4) (fun _ _ _ _ h=>h) ?_ ?_
     ·intro c A w' hok hC hO hD;simp [Act.eval] at hD;obtain ⟨r,hr,CK⟩:=hD;have hw:IntKind.i64.wrap (1 + (r:Int))=1 + r:=IntWalk.i64_in _ (by omega);simp [go_sem,gd,Oper.wp,hr,hw];exact aC.mk (Mk.refl _ _) hC (⟨1 + r,by simp,by omega,by omega⟩)
     try simp only [bV]
     iterate 3
      apply aJ.step
      case bU=>intro c A w' hok hC hO hD;have e3:=hO 3 (by rfl);simp [Act.eval] at e3;simp [Act.eval] at hD;simp [go_sem,gd,Oper.wp,hD,e3];exact aC.mk (Mk.refl _ _) hC (dh.mk _ _)
      try simp only [bV]
     refine aJ.some (fun v w'=> ∃q:Nat,v= .int .i64 (q:Int)∧q<=100) (fun _ _ _ _ h=>h) ?_ ?_
     ·intro c A w' hok hC hO hD;simp [Act.eval] at hD;obtain ⟨q',hq,hq0,hq1⟩:=KL w' hC.2;obtain ⟨q,rfl⟩:=Int.eq_ofNat_of_zero_le hq0;simp [go_sem,gd,Oper.wp,hD,hq];exact aC.mk (Mk.refl _ _) hC (⟨q,rfl,by omega⟩)
     try simp only [bV]
     refine aJ.some (fun v w'=> ∃q:Nat,v= .int .i64 (q:Int)∧q<=5) (fun _ _ _ _ h=>h) ?_ ?_
     ·intro c A w' hok hC hO hD;simp [Act.eval] at hD;obtain ⟨q,hr,CK⟩:=hD;have hw:IntKind.i64.wrap ((q:Int) / 20)=(q:Int) / 20:=IntWalk.i64_in _ (by omega);simp [go_sem,gd,Oper.wp,hr,hw];exact aC.mk (Mk.refl _ _) hC (⟨q / 20,by simp,by omega⟩)
     try simp only [bV]
     refine aJ.some (fun v w'=> ∃q:Nat,v= .int .i64 (q:Int)∧q<=50) (fun _ _ _ _ h=>h) ?_ ?_
     ·intro c A w' hok hC hO hD;simp [Act.eval] at hD;obtain ⟨q,hr,CK⟩:=hD;have hw:IntKind.i64.wrap ((q:Int) * 10)=((q * 10:Nat):Int):=(IntWalk.i64_in _ (by omega)).trans (by omega);simp [go_sem,gd,Oper.wp,hr,hw];exact aC.mk (Mk.refl _ _) hC (⟨q * 10,by simp,by omega⟩)
     try simp only [bV]
     refine aJ.some (fun v w'=> ∃q:Nat,v= .int .i64 (q:Int)∧q<=54) (fun _ _ _ _ h=>h) ?_ ?_
     ·intro c A w' hok hC hO hD;simp [Act.eval] at hD;obtain ⟨⟨r,hr,hr1,hr4⟩,q,hq,Ow⟩:=hD;have hw:IntKind.i64.wrap ((r:Int) + (q:Int))=((r + q:Nat):Int):=(IntWalk.i64_in _ (by omega)).trans (by omega);simp [go_sem,gd,Oper.wp,hr,hq,hw];exact aC.mk (Mk.refl _ _) hC (⟨r + q,by simp,by omega⟩)
     try simp only [bV]
     refine aJ.some (fun v w'=> ∃(l:aL) (ao:Option Addr) (cap:Nat),v= .slice ao (aL.len l) cap∧(aL.len l<=1000∧ql WB l)∧l.Sy W7.heap.size w' ao cap) ?_ ?_ ?_
     ·rintro v w1 w' hle ⟨l,ao,cap,h1,h2,h3⟩;exact ⟨l,ao,cap,h1,h2,h3.next (hle.sF (by have:=lH.o; have:=qg.o; omega) (by have:=lH.o; have:=qg.o; omega))⟩
     ·intro c A w' hok hC hO hD;simp [Act.eval] at hD;obtain ⟨Og,Cy,⟨q,hq,Ow⟩,-⟩:=hD;rcases Cy with Cy | Cy
      ·simp [go_sem,gd,Oper.wp,Og,Cy,hq];refine (HE2.o w' _ hC.2 (by unfold aD; omega) (by omega)).mono ?_;rintro e w3 ⟨l,ao,cap,rfl,h1,h2,h3,h4⟩;exact aC.mk h3 ⟨hC.1.trans h3,h4⟩ ⟨l,ao,cap,rfl,⟨h1.1,h1.2.mono (Ul Ow)⟩,h2.mono hC.1.size⟩
      ·simp [go_sem,gd,Oper.wp,Og,Cy,hq];refine (QH.o w' _ hC.2 (by unfold aD; omega) (by omega)).mono ?_;rintro e w3 ⟨l,ao,cap,rfl,h1,h2,h3,h4⟩;exact aC.mk h3 ⟨hC.1.trans h3,h4⟩ ⟨l,ao,cap,rfl,⟨h1.1,h1.2.mono (Um Ow)⟩,h2.mono hC.1.size⟩
     try simp only [bV]
     apply aJ.step
     case bU=>intro c A w' hok hC hO hD;have e10:=hO 10 (by rfl);simp [Act.eval] at e10;simp [Act.eval] at hD;simp [go_sem,gd,Oper.wp,hD,e10];exact aC.mk (Mk.refl _ _) hC (dh.mk _ _)
     try simp only [bV]
     refine aJ.done ?_;intro wz dK
     try simp only [jm]
     intro v0 h0 v1 h1 v2 h2 v3 h3 v4 h4 v5 h5 v6 h6 v7 h7 v8 h8 v9 h9 v10 h10 v11 h11 v12 h12 v13 AB v14 Ez v15 vv v16 h16 v17 Hf v18 h18 v19 h19 v20 h20 v21 h21 v22 h22;refine xA ?_;clear h0 h1 h2 h3 h4 h5 h6 h7 h8 h9 h10 h11 h12 AB Ez vv h16 Hf h18 h19 h20 h21;obtain ⟨lb',dY,cap',rfl,hlen,hst⟩:=h22;clear hd1 hd2 K0 KL HE2 QH;refine cK.nil ?_;go_simp;refine fu 24 [[],[],[1],[1,2],[1,2,3],[1,2,3,4],[1,2,3,4,5],[1,2,3,4,5,6],[1,2,3,4,5,6,7],[],[9],[9,10],[9,10,11],[1,2,3,4,5,9,10,11,12],[1,2,3,4,5,9,10,11,12,13],[],[15],[15,16],[15,16,17],[15,16,17,18],[15,16,17,18,19],[1,2,3,4,5,9,10,11,12,13,14,15,16,17,18,19,20],[0,1,2,3,4,5,6,7,8,9,10,11,12,13,14,15,16,17,18,19,20,21],[0,1,2,3,4,5,6,7,8,9,10,11,12,13,14,15,16,17,18,19,20,21,22],[0,1,2,3,4,5,6,7,8,9,10,11,12,13,14,15,16,17,18,19,20,21,22,23]] rfl rfl rfl rfl rfl (by kernel_rfl) (by kernel_rfl) (by kernel_rfl) ?_;have kN:=ah (BS.o.go dK.1 dK.2);have wJ:=ah hlen;have HST:=ah hst;have y3:wz.cell? ⟨tb,3,none⟩=some (.slice none 0 0):=au kN.o.box rfl;have f3:wz.frozen? ⟨tb,3,none⟩=false:=aB kN.o.box;clear dK hlen hst BS;simp [go_sem,Oper.wp,y3,f3];refine eB rfl ?_;generalize Oi:World.setCell wz _ _=W8;have qN:aj (TI T W0 tb W8 s' l vL lc (.slice dY lb'.len cap')):=ah (by rw [<- Oi]; exact kN.o.body);have Gn:aj (lb'.Sy W7.heap.size W8 dY cap'):=ah (by rw [<- Oi]; exact HST.o.next (bH _ _ _ qg.o));clear Oi y3 f3 kN HST;go_simp;have jE:=ah (wK.o.go qN.o.km qN.o.mi);obtain ⟨dw,bG,el,hcl,hsl⟩:=qN.o.gl.FR (fun x hx=>(qN.o.ok.2.2.1 x hx).1);subst el;have HSL:=ah (And.intro hcl hsl);clear hcl hsl;have y0:W8.cell? ⟨tb,0,none⟩=some (.string s'):=au qN.o.box rfl;have y1:W8.cell? ⟨tb,1,none⟩=some (.int .i64 l):=au qN.o.box rfl;have y2:W8.cell? ⟨tb,2,none⟩=some (.slice dw lc.length bG):=au qN.o.box rfl;have y3:W8.cell? ⟨tb,3,none⟩=some (.slice dY lb'.len cap'):=au qN.o.box rfl;have yT:W8.cell? ⟨pb,1,none⟩=some vT:=au jE.o.box rfl;have HX:aj (dN (nb + 1) vT.ownBlock W8 (dR.J (nb + 1) ⟨⟨s',l,lc,lb'⟩,dw,bG,dY,cap'⟩)):=ah (by refine qG (B1:=W0.heap.size) ?_ mK.o (fun k hk=>(wK.o.gt.lt k hk).2);have hb2:W0.heap.size<=W7.heap.size:=(by have:=lH.o; have:=qg.o; omega);exact fun w' h'=>have k:=(Gn.o.mono hb2) w' h'; have q:=HSL.o.2 w' h'; ⟨⟨q.1.mono mK.o,q.2⟩,⟨k.1.1.mono mK.o,k.1.2.mono mK.o⟩,k.2⟩);have eO:aj (((⟨s',l,lc,lb'⟩:Th).Ok∧lc.length<=bG)∧ShT ⟨s',l,lc,lb'⟩):=ah ⟨⟨⟨qN.o.ok.1.1,qN.o.ok.2.1,by have:=qN.o.ok.2.2.2; show lc.length<=maxLen; unfold maxLen; omega,by have:=wJ.o.1; show lb'.len<=maxLen; unfold maxLen; omega⟩,HSL.o.1⟩,qN.o.ok.1.2,fun x hx=>(qN.o.ok.2.2.1 x hx).2,wJ.o.2,qN.o.ok.2.2.2⟩;have E9:=ah (jE.o.go (Mk.of_below (ak W8 (.cells (dR.f ⟨⟨s',l,lc,lb'⟩,dw,bG,dY,cap'⟩).toArray 47))) (jE.o.mi.below (ak _ _)));have nZ:=ah (iH (heap_alloc_new W8 (.cells (dR.f ⟨⟨s',l,lc,lb'⟩,dw,bG,dY,cap'⟩).toArray 47)));obtain ⟨i0,hi,hz0,hz1,hz2⟩:=MI;have hbs:nb + 1<=W8.heap.size + 1:=Nat.le_succ_of_le jE.o.sz;have hkl:jA.length + 1<=maxLen:=(by rw [BU.o]; unfold maxLen; omega);have hkb:(jA.length + 1) * 72<=140737488355328:=(by rw [BU.o]; omega);go_wp2_with (at_builtin; refine wpList_append_lies _ rfl _ _ 24 rfl (nb + 1) 47 i0 _ 4 72 Tryz.underlying24 hi hz0 hz1 hz2 rfl (by decide) _ _ _ rfl E9.o.gt.own ⟨W8.heap.size,0,none⟩ 1 1 (dR.f ⟨⟨s',l,lc,lb'⟩,dw,bG,dY,cap'⟩) rfl rfl nZ.o (MK _) (by decide) hkl hkb (by simpa using hbs) _ rfl ?_);clear hi hz0 hz1 hz2 hbs hkl hkb;intro g' cap2 w9 hown hgr hmv hlt';have yj:=ah (E9.o.push (HX.o.next (aO (ak _ _)).x) eO.o rfl hown hgr (by simpa using hmv));have gG:aj (Below (nb + 1) (W8.alloc (.cells (dR.f ⟨⟨s',l,lc,lb'⟩,dw,bG,dY,cap'⟩).toArray 47)) w9):=ah (jI hgr (fun k hk=>(E9.o.gt.lt k hk).1) E9.o.sz);have iM:aj (w9.heap[pb]? =some (.cells #[vD,vT] 26 (0,0))):=ah ((gG.o.block pb (by have:=aR.o; omega)).trans E9.o.box);have z1:w9.cell? ⟨pb,1,none⟩=some vT:=au iM.o rfl;have f1:w9.frozen? ⟨pb,1,none⟩=false:=aB iM.o;clear hown hgr hmv hlt' y0 y1 y2 y3 yT nZ E9 HX iM gG;go_wp2_with fail;go_roundw
     case rel=>exact ⟨k + 1,_,_,by go_num,by omega,by simp [BU.o],yj.o⟩
     case measure=>simp [intOf]; omega
    ·have hk:k=n':=(by omega);subst hk;obtain ⟨aT,aM,e1,RA⟩:=HP.o.gd.FR (fun x hx=>(HP.o.EK x hx).1);obtain ⟨aZ,aN,e2,RB⟩:=HP.o.gt.says (fun x hx=>(HP.o.D7 x hx).1.1);rw [List.length_map] at e2;subst e1 e2;have Gq:=ah (And.intro RA RB);clear RA RB;have y0:=au (j:=0) HP.o.box rfl;have y1:=au (j:=1) HP.o.box rfl;have HRW:aj (wr.heap[w.heap.size]? =some (.cells #[.slice none 0 0,.slice none 0 0] 26 (0,0))):=ah ((HP.o.km.block _ (Array.getElem?_eq_some_iff.1 HR2.o).1 (by have:=bR.o; omega) (by have:=bR.o; omega)).trans HR2.o);have z0:wr.cell? ⟨w.heap.size,0,none⟩=some (.slice none 0 0):=au HRW.o rfl;have z1:wr.cell? ⟨w.heap.size,1,none⟩=some (.slice none 0 0):=au HRW.o rfl;have f0: ∀j,wr.frozen? ⟨w.heap.size,j,none⟩=false:=fun j=>aB HRW.o;go_wp2_with fail;have QC:aj (dH (w.heap.size + 1) wr ((wr.setCell ⟨w.heap.size,0,none⟩ (.slice aT ds.length aM)).setCell ⟨w.heap.size,1,none⟩ (.slice aZ jA.length aN))):=ah (dH.trans (bH wr ⟨w.heap.size,0,none⟩ (.slice aT ds.length aM) (Nat.lt_succ_self w.heap.size)) (bH (wr.setCell ⟨w.heap.size,0,none⟩ (.slice aT ds.length aM)) ⟨w.heap.size,1,none⟩ (.slice aZ jA.length aN) (Nat.lt_succ_self w.heap.size)));have Tv:aj (Below w.heap.size w ((wr.setCell ⟨w.heap.size,0,none⟩ (.slice aT ds.length aM)).setCell ⟨w.heap.size,1,none⟩ (.slice aZ jA.length aN))):=ah (((Jf rX.o HP.o.km (by have:=bR.o; omega) (by have:=bR.o; omega)).setCell (by simp) _).setCell (by simp) _);refine bodyPost_ret (v:= .agg #[.slice aT ds.length aM,.slice aZ jA.length aN]) (by simp [results,Tryz.results4,go_sem,z0,z1]) rfl ⟨⟨ds,jA.map (·.t)⟩,aT,aZ,aM,aN,by simp,?_,?_,Tv.o⟩
     ·have hD:=Gq.o.1 _ (QC.o.mono (by have:=bR.o; omega));have hT:=Gq.o.2 _ (QC.o.mono (by have:=bR.o; have:=HP.o.lt; omega));exact ⟨⟨hD.1.mono (by have:=bR.o; omega),hT.1.mono (by have:=bR.o; have:=HP.o.lt; omega),hD.2,hT.2.1.mono (by have:=bR.o; have:=HP.o.lt; omega)⟩,hT.2.2⟩
     ·refine ⟨?_,by show (jA.map (·.t)).length<=5; rw [List.length_map,BU.o]; omega,by show ds.length<=1000; have:=MS.o; omega,fun t ht=>by obtain ⟨y,hy,rfl⟩:=List.mem_map.1 ht;have hq:=(HP.o.D7 y hy).2;exact ⟨hq.2.2.2,hq.2.2.1.2⟩⟩;unfold oK;have e1:ds.all gu=true:=List.all_eq_true.2 (fun x hx=>(HP.o.EK x hx).2);have e2:(jA.map (·.t)).all iX=true:=List.all_eq_true.2 (fun x hx=>by obtain ⟨y,hy,rfl⟩:=List.mem_map.1 hx;obtain ⟨q1,q2,⟨q3,-⟩,-⟩:=(HP.o.D7 y hy).2;unfold iX;rw [q1,q3,List.all_eq_true.2 (fun s hs=>q2 s hs)]; rfl);have e3:decide ((0:Int) < ((jA.map (·.t)).length:Nat))=true:=(by rw [List.length_map,BU.o]; exact decide_eq_true (by omega));show ((ds.all gu && (jA.map (·.t)).all iX) && decide ((0:Int) < ((jA.map (·.t)).length:Nat)))=true;rw [e1,e2,e3]; rfl
end Go.Proofs.YtkajcclnlehkmaaGreatDoor
