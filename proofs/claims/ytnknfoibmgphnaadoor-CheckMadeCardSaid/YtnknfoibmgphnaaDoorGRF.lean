/-
  Contracts of the reference's Operands and ShapedExpr.
  Contract of the reference's Count.
  Contract of the reference's threads.
  Contract of the reference's decls.
-/
import Derived.Test.YtnknfoibmgphnaaDoorGMC
import Derived.Test.YtnknfoibmgphnaaDoorGNA
import Derived.BigQuiet
import Derived.Deep.DeepCutAuto
import Derived.Test.YtnknfoibmgphnaaDoorGML
import Derived.Test.YtnknfoibmgphnaaDoorGME
import Derived.Test.YtnknfoibmgphnaaDoorGRA
section
namespace Go.Proofs.YtnknfoibmgphnaaDoor
open Go.RowKit
open Md
theorem xZ (op:Int) (w:World):
 Calls Tryd.prog 76 #[.int .i64 op] w fun e w'=>e= .returned (.int .i64 (opsOf op))∧w=w':=by
 unfold opsOf
 go_enter Tryd.func76,Tryd.ntmps76
 go_wp2
 all_goals go_ret
 all_goals refine ⟨aS ?_,rfl⟩
 all_goals first | (simp [*]; done) | ((repeat' split) <;> simp_all <;> omega)
def yE (op n:Int) (nm:ByteArray) (kids:bJ):Prop:=
 ∀(w:World) (ao:Option Addr) (cap:Nat),lI op n nm kids→kids.At w w.heap.size ao 0→
  Calls Tryd.prog 68 #[.agg #[.int .i64 op,.int .i64 n,.string nm,.slice ao kids.len cap]] w fun e w'=>e= .returned (.bool (jN op n nm kids))∧Below w.heap.size w w'
theorem Ml (op n:Int) (nm:ByteArray) (kids:bJ):jN op n nm kids=(((decide (opsOf op=(kids.len:Int)) && (decide (0≤n) && (decide (op=1) || decide (n=0)))) && (if ((op == 2) || (op == 3)) then Tk.iM nm.data.toList else decide (nm.toList=[]))) && kD kids):=by
 have h1:((kids.len:Int) == opsOf op)=decide (opsOf op=(kids.len:Int)):=by
  rw [Bool.eq_iff_iff]; simp; exact eq_comm
 have h2:ji nm (named op)=if ((op == 2) || (op == 3)) then Tk.iM nm.data.toList else decide (nm.toList=[]):=by
  unfold ji named; split
  ·rfl
  ·rw [Lib.toList_data,Bool.eq_iff_iff]; simp
 have h3:(!(decide (n < 0) || (!(n == 0) && !(op == 1))))=(decide (0≤n) && (decide (op=1) || decide (n=0))):=by
  rw [Bool.eq_iff_iff]; simp; omega
 unfold jN zq
 rw [h1,h2,h3]
 simp only [Bool.and_assoc]
theorem K8 {nm:ByteArray} (h:nm.toList=[]):Tk.iM nm.data.toList=false:=by rw [← Lib.toList_data,h]; rfl
set_option maxHeartbeats 4000000 in
theorem yh (op n:Int) (nm:ByteArray) (kids:bJ) (ih:kids.All yE):yE op n nm kids:=by
 intro w ao cap hok hat
 obtain ⟨⟨o1,o2⟩,⟨n1,n2⟩,hm,hl⟩:=hok
 unfold maxLen at hl
 have hl':kids.len≤9223372036854775807:=hl
 have HS:=Lib.hid (Ml op n nm kids)
 have qJ:=Lib.hid ih
 have HAT:=Lib.hid hat
 clear ih hat
 go_enter Tryd.func68,Tryd.ntmps68
 go_upto_region 1 with fail
 generalize hW:World.alloc w _=W
 generalize Value.agg #[_,_,_,_]=a0
 have HX:=Lib.hid (oP.mk hW)
 clear hW
 obtain ⟨-,hs,c0,c1,c2,c3⟩:=HX.out
 go_cut [3] (fun s W2=>W=W2∧ ∃b,s= .bool b∧((op == 2) || (op == 3))=b)
 case first=>
  go_wp2_with fail
  all_goals go_meet
  all_goals exact ⟨rfl,_,rfl,by grind⟩
 obtain ⟨rfl,bn,rfl,hbn⟩:=hcut
 rw [hbn] at HS
 clear hbn
 go_upto_region 2 with fail
 go_cut [3,50] (fun _ s W2=> ∃b,s= .bool b∧jN op n nm kids=(!b && kD kids)∧oP w W2 (.int .i64 op) (.int .i64 n) (.string nm) (.slice ao kids.len cap))
 case first=>
  cases bn
  all_goals
   obtain ⟨T,F,qz,hst,hF,hnext⟩:=calm W
   have HF:=Lib.hid hF
   have bS:=Lib.hid hnext
   clear hnext
   have d0:=fun x=>((HF.out x).cell (p:=⟨w.heap.size,0,none⟩) hs).trans c0
   have d1:=fun x=>((HF.out x).cell (p:=⟨w.heap.size,1,none⟩) hs).trans c1
   have d2:=fun x=>((HF.out x).cell (p:=⟨w.heap.size,2,none⟩) hs).trans c2
   have d3:=fun x=>((HF.out x).cell (p:=⟨w.heap.size,3,none⟩) hs).trans c3
   clear hF c0 c1 c2 c3
   refine gF F (by kernel_rfl) (by kernel_rfl) hst ?_
   repeat (any_goals (first | go_big_quiet_step (first | (go_at_call 76; refine (xZ _ _).mono ?_; rintro e w' ⟨rfl,rfl⟩; exact ⟨rfl,_,rfl⟩) | (go_at_call 34; refine (jZ _ _ hm).mono ?_; rintro e w' ⟨rfl,hb⟩; exact ⟨rfl,bS.out _ _ hb⟩)) | (refine wpQuiet_step (fun K hK=> ?_); go_simp; first | (refine hK _ ?_; clear hK K) | (split <;> first | (refine hK _ ?_; clear hK K) | (apply Exists.intro; refine ⟨fun _=> ?_,hK _ ?_⟩; (first | (go_at_call 76; refine (xZ _ _).mono ?_; rintro e w' ⟨rfl,rfl⟩; exact ⟨rfl,_,rfl⟩) | (go_at_call 34; refine (jZ _ _ hm).mono ?_; rintro e w' ⟨rfl,hb⟩; exact ⟨rfl,bS.out _ _ hb⟩)); clear hK K)))))
   all_goals (refine wpQuiet_nil ?_; rintro _ ⟨x,rfl⟩; go_wp2_with fail; go_meet)
   all_goals exact ⟨_,rfl,HS.out.trans (by go_light; grind [K8]),HX.out.next (HF.out _)⟩
 case rest=>
  obtain ⟨b,rfl,hR,E9⟩:=hcut
  have HZ:=Lib.hid E9
  have HR:=Lib.hid hR
  clear HX E9 hR HS c0 c1 c2 c3 hs
  cases b
  ·go_wp2_with fail
   go_loopw [4] (fun i wr=> ∃k R,i= .int .i64 (k:Nat)∧FN kids R k∧R.All yE∧R.At wr wr.heap.size ao k∧oP w wr (Value.int IntKind.i64 op) (Value.int IntKind.i64 n) (Value.string nm) (Value.slice ao kids.len cap)) (fun i _=>kids.len - (intOf i).toNat)
   case atStart=>exact ⟨0,kids,rfl,⟨Nat.zero_add _,rfl⟩,qJ.out,HAT.out.same HZ.out.1,HZ.out⟩
   case round=>
    obtain ⟨k,R,rfl,⟨hlen,heq⟩,hall,hrow,rR⟩:=hrel
    have HT:=Lib.hid (HR.out.trans (show (!false && kD kids)=kD R by rw [heq]; rfl))
    have lY:=Lib.hid rR
    clear rR
    obtain ⟨-,-,c0,c1,c2,c3⟩:=lY.out
    cases R with
    | nil=>
      obtain rfl:k=kids.len:=by simpa [bJ.len] using hlen
      go_wp2_with fail
      go_ret
      exact ⟨aW HT.out.symm,lY.out.1⟩
    | cons op' n' nm' fq rest=>
      obtain ⟨⟨b,off,jO,cap',rfl,ni,x0,x1,x2,x3,hok',jy⟩,hrest⟩:=hrow
      obtain ⟨lT,kZ⟩:=hall
      have hlt:k < kids.len:=by simp only [bJ.len] at hlen; omega
      go_wp2_with fail
      refine (lT _ _ _ hok' jy).mono ?_
      rintro e w2 ⟨rfl,hb2⟩
      have Bu:=Lib.hid (lY.out.next hb2)
      have hrest':=hrest.same hb2
      clear hb2 lY hrest x0 x1 x2 x3 c0 c1 c2 c3 jy
      cases hS:jN op' n' nm' fq
      ·have HF:=Lib.hid (HT.out.trans (by rw [om,hS]; rfl:kD (.cons op' n' nm' fq rest)=false))
       go_wp2_with fail
       go_ret
       exact ⟨aW HF.out.symm,Bu.out.1⟩
      ·have HF:=Lib.hid (heq.trans (by rw [om,hS]; rfl:kD (.cons op' n' nm' fq rest)=kD rest))
       go_wp2_with fail
       go_roundw
       case rel=>exact ⟨k + 1,rest,by go_num,⟨by simp only [bJ.len] at hlen; omega,HF.out⟩,kZ,hrest',Bu.out⟩
       case measure=>simp [intOf]; omega
  ·go_wp2_with fail
   go_ret
   exact ⟨aW HR.out.symm,HZ.out.1⟩
theorem oQ (op n:Int) (nm:ByteArray) (kids:bJ):yE op n nm kids:=bJ.uy yh op n nm kids
end Go.Proofs.YtnknfoibmgphnaaDoor
end
section
namespace Go.Proofs.YtnknfoibmgphnaaDoor
open Go.RowKit
open Md
def qY (l:aR):Prop:= ∀(w:World) (ao:Option Addr) (cap:Nat),l.len≤maxLen→l.At w w.heap.size ao 0→
 Calls Tryd.prog 6 #[.slice ao l.len cap] w fun e w'=>e= .returned (.int .i64 (nO l))∧Below w.heap.size w w'
set_option maxHeartbeats 2000000 in
set_option maxRecDepth 100000 in
theorem uY (l:aR) (hall:l.All fun _ b e=>qY b∧qY e):qY l:=by
 intro w ao cap hl hat
 generalize hres:nO l=res
 have HR:=Lib.hid hres
 have HAT:=Lib.hid hat
 have dw:=Lib.hid hall
 unfold maxLen at hl
 clear hres hat hall
 go_enter Tryd.func6,Tryd.ntmps6
 go_wp2_with fail
 go_loopw [3,4] (fun s3 s wr=> ∃(k:Nat) (R:aR) (n:Int),s= .int .i64 k∧s3= .int .i64 n∧k + R.len=l.len∧res=lq R n∧(R.All fun _ b e=>qY b∧qY e)∧R.At wr wr.heap.size ao k∧Below w.heap.size w wr) (fun _ s _=>l.len - (intOf s).toNat)
 case atStart=>exact ⟨0,l,l.len,rfl,rfl,by simp,HR.out.symm,dw.out,HAT.out,Below.refl _ _⟩
 case round=>
  obtain ⟨k,R,n,rfl,rfl,hlen,heq,kZ,hrow,hB⟩:=hrel
  have HE:=Lib.hid heq
  have HB:=Lib.hid hB
  clear heq hB
  cases R with
  | nil=>
    obtain rfl:k=l.len:=by simpa [aR.len] using hlen
    go_wp2_with fail
    go_ret
    exact ⟨aS HE.out.symm,HB.out⟩
  | cons h b e R=>
    obtain ⟨bl,off,s,rfl,hbl,hin,-,-,-,-,-,-,-,-,-,x9,x10,hrest⟩:=aR.At.head hrow
    obtain ⟨⟨hsb,hse⟩,tK⟩:=kZ
    have bP:=Lib.hid hsb
    have vM:=Lib.hid hse
    have jV:=Lib.hid hin
    have hkl:k < l.len:=by simp only [aR.len] at hlen; omega
    have hk0:(0:Int)≤k:=by omega
    have hk1:(k:Int) < l.len:=by omega
    clear hrow hin hsb hse
    go_wp2_with fail
    obtain ⟨T,F,qz,hst,hF,hnext⟩:=calm wr
    have HF:=Lib.hid hF
    have bS:=Lib.hid hnext
    clear hF hnext
    have y9:=fun x=>((HF.out x).cell (p:=⟨bl,off + k * 11 + 9,none⟩) hbl).trans x9
    have iF:=fun x=>((HF.out x).cell (p:=⟨bl,off + k * 11 + 10,none⟩) hbl).trans x10
    clear x9 x10
    refine gF F (by kernel_rfl) (by kernel_rfl) hst ?_
    repeat (any_goals (first | go_big_quiet_step ((first | (go_at_call_of 6 (Value.slice s.bg b.len s.aT); refine (bP.out _ s.bg s.aT jV.out.1.2.2.2.2.2.2.1 (jV.out.same (HF.out _)).2.2.2.1).mono ?_; rintro e w' ⟨rfl,hb⟩; exact ⟨rfl,bS.out _ _ hb⟩) | (go_at_call_of 6 (Value.slice s.eY e.len s.dP); refine (vM.out _ s.eY s.dP jV.out.1.2.2.2.2.2.2.2 (jV.out.same (HF.out _)).2.2.2.2).mono ?_; rintro e w' ⟨rfl,hb⟩; exact ⟨rfl,bS.out _ _ hb⟩))) | (refine wpQuiet_step (fun K hK=> ?_); go_simp; first | (refine hK _ ?_; clear hK K) | (split <;> first | (refine hK _ ?_; clear hK K) | (apply Exists.intro; refine ⟨fun _=> ?_,hK _ ?_⟩; ((first | (go_at_call_of 6 (Value.slice s.bg b.len s.aT); refine (bP.out _ s.bg s.aT jV.out.1.2.2.2.2.2.2.1 (jV.out.same (HF.out _)).2.2.2.1).mono ?_; rintro e w' ⟨rfl,hb⟩; exact ⟨rfl,bS.out _ _ hb⟩) | (go_at_call_of 6 (Value.slice s.eY e.len s.dP); refine (vM.out _ s.eY s.dP jV.out.1.2.2.2.2.2.2.2 (jV.out.same (HF.out _)).2.2.2.2).mono ?_; rintro e w' ⟨rfl,hb⟩; exact ⟨rfl,bS.out _ _ hb⟩))); clear hK K)))))
    all_goals (refine wpQuiet_nil ?_; rintro _ ⟨x,rfl⟩)
    have HB2:=Lib.hid (HF.out x)
    clear y9 iF HF bS hst
    generalize F x=W3 at *
    go_wp2_with fail
    go_roundw
    case rel=>exact ⟨k + 1,R,_,by go_num,rfl,by simp only [aR.len] at hlen; omega,HE.out.trans (show lq R (wrap64 (n + (nO b + nO e)))=_ by rw [← wrap_in']),tK,hrest.same HB2.out,HB.out.trans (HB2.out.mono HB.out.size)⟩
    case measure=>simp [intOf]; omega
theorem xw (l:aR):qY l:=uY l (aR.lM (fun _ b e hb he=>⟨uY b hb,uY e he⟩) l)
end Go.Proofs.YtnknfoibmgphnaaDoor
end
section
namespace Go.Proofs.YtnknfoibmgphnaaDoor
open Go.RowKit
open Md
theorem Ce (ds:List De) (nm:ByteArray):(pF ds nm= -1∧kK ds nm.toList=false)∨ ∃j:Nat,pF ds nm=(j:Int)∧kK ds nm.toList=true:=by
 rcases lH (fun d:De=>d.nm.toList == nm.toList) ds 0 with ⟨h1,h2,h3⟩ | ⟨j,d,r,h0,h1,h2,h3,h4⟩
 ·exact Or.inl ⟨h1,h3⟩
 ·exact Or.inr ⟨j,by rw [← Nat.zero_add j]; exact h1,h4⟩
theorem BA (ts:List Th) (nm:ByteArray):(kY ts nm= -1∧iO ts nm.toList=false)∨ ∃j:Nat,kY ts nm=(j:Int)∧iO ts nm.toList=true:=by
 rcases lH (fun d:Th=>d.nm.toList == nm.toList) ts 0 with ⟨h1,h2,h3⟩ | ⟨j,d,r,h0,h1,h2,h3,h4⟩
 ·exact Or.inl ⟨h1,h3⟩
 ·exact Or.inr ⟨j,by rw [← Nat.zero_add j]; exact h1,h4⟩
theorem xE (ts:List ByteArray) (nm:ByteArray):(AP ts nm= -1∧kr ts nm.toList=false)∨ ∃j:Nat,AP ts nm=(j:Int)∧kr ts nm.toList=true:=by
 rcases lH (fun d:ByteArray=>d.toList == nm.toList) ts 0 with ⟨h1,h2,h3⟩ | ⟨j,d,r,h0,h1,h2,h3,h4⟩
 ·exact Or.inl ⟨h1,h3⟩
 ·exact Or.inr ⟨j,by rw [← Nat.zero_add j]; exact h1,h4⟩
set_option maxHeartbeats 4000000 in
set_option maxRecDepth 100000 in
theorem Bh (p:Pr) (w:World) (aC aF:Option Addr) (aA av:Nat) (hp:p.At w aC aF) (P7:p.ts.length≤av):
 Calls Tryd.prog 21 #[.agg #[.slice aC p.ds.length aA,.slice aF p.ts.length av]] w fun e w'=>e= .returned (.tuple #[.int .i64 (iJ p).1,.int .i64 (iJ p).2])∧Below w.heap.size w w':=by
 have HR:Hid (iJ p=match jP p.ds p.ts [] with | some l=>(4,l) | none=>lQ p.ds p.ts p.ts):=Lib.hid rfl
 generalize iJ p=res at *
 have hld:=hp.1
 have hlt:=hp.2.1
 have Gl:=hp.1
 have hlt':=hp.2.1
 unfold maxLen at hld hlt
 have HP:=Lib.hid hp
 clear hp
 go_enter Tryd.func21,Tryd.ntmps21
 go_upto_region 1 with fail
 generalize hW:World.alloc w _=W
 generalize Value.agg #[_,_]=a0
 have HX:=Lib.hid ((Sit.start w).kC rfl (.slice aC p.ds.length aA) (.slice aF p.ts.length av) 26)
 rw [hW] at HX
 clear hW
 go_wp2_with fail
 go_loopg [4,5] p.ts.length (fun g s _ wr=> ∃(k:Nat) (pre R:List Th),g=R.length∧s= .int .i64 k∧pre++R=p.ts∧pre.length=k∧jP p.ds p.ts []=jP p.ds R pre∧Sit w wr [(w.heap.size,0,(.slice aC p.ds.length aA)),(w.heap.size,1,(.slice aF p.ts.length av))])
 case atStart=>exact ⟨0,[],p.ts,rfl,rfl,rfl,rfl,rfl,HX.out⟩
 case round=>
  obtain ⟨k,pre,R,rfl,rfl,hds,hk,heq,hsit⟩:=hrel
  have HU:=Lib.hid hsit
  have HE:=Lib.hid heq
  clear hsit heq HX
  have hlen:k + R.length=p.ts.length:=by rw [← hds,List.length_append,hk]
  have hrow:=(HP.out.2.2.2.below HU.out.1).drop k
  rw [Nat.zero_add,← hds,← hk,List.drop_left] at hrow
  rw [hk] at hrow
  have qG:=Lib.hid ((hds ▸ HP.out.2.2.2:iy w w.heap.size (pre++R) aF 0).take)
  have pV:=Lib.hid hds
  have HK:=Lib.hid hk
  clear hds hk
  cases R with
  | cons t R=>
    obtain ⟨⟨b,off,iQ,gy,bg,aT,rfl,hB,x0,x1,x2,x3,hok,htx,hst⟩,-⟩:=hrow
    simp only [List.length_cons] at hlen
    have hkl:k < p.ts.length:=by omega
    clear htx hst
    obtain ⟨-,⟨-,c0⟩,⟨-,c1⟩,-⟩:=HU.out
    go_upto_region 5 with fail
    clear c0 c1
    obtain ⟨nb,hnb⟩: ∃n,wr.heap.size=n:=⟨_,rfl⟩
    generalize hW2:World.alloc wr _=W2
    have HY:Hid (Sit w W2 ((nb,0,.string t.nm) ::(nb,1,.int .i64 t.line) ::(nb,2,.slice iQ t.bH.length gy) ::(nb,3,.slice bg t.body.len aT) ::[(w.heap.size,0,(.slice aC p.ds.length aA)),(w.heap.size,1,(.slice (some ⟨b,off,none⟩) p.ts.length av))])):=Lib.hid (by rw [← hW2]; exact HU.out.qX hnb _ _ _ _ _)
    rw [hnb]
    clear hW2 hnb x0 x1 x2 x3 HU
    obtain ⟨-,⟨-,c0⟩,⟨-,c1⟩,⟨-,c2⟩,⟨-,c3⟩,⟨-,c4⟩,⟨-,c5⟩,-⟩:=HY.out
    have hpl:pre.length≤maxLen:=by rw [HK.out]; omega
    have qD:Hid (∀nq:Nat,Calls Tryd.prog 36 #[.slice aC p.ds.length aA,.string t.nm] (W2.drewN nq) fun e w'=>e= .returned (.int .i64 (pF p.ds t.nm))∧W2.drewN nq=w'):=Lib.hid (fun nq=>by
     have hb':=below_drewN (n:=nq) HY.out.1
     exact iP p.ds t.nm (W2.drewN nq) aC aA Gl ((HP.out.2.2.1.below hb').mono hb'.size))
    have vR:Hid (∀nq:Nat,Calls Tryd.prog 37 #[.slice (some ⟨b,off,none⟩) k av,.string t.nm] (W2.drewN nq) fun e w'=>e= .returned (.int .i64 (kY pre t.nm))∧W2.drewN nq=w'):=Lib.hid (fun nq=>by
     have hb':=below_drewN (n:=nq) HY.out.1
     have:=kR pre t.nm (W2.drewN nq) (some ⟨b,off,none⟩) av hpl ((qG.out.below hb').mono hb'.size)
     rw [HK.out] at this
     exact this)
    have hk0:(0:Int)≤k:=by omega
    have hk1:(k:Int)≤av:=by omega
    have hk2:k≤av:=by omega
    go_cut [37] (fun s' W3=>s'= .bool (kK p.ds t.nm.toList || iO pre t.nm.toList)∧Sit w W3 ((nb,0,.string t.nm) ::(nb,1,.int .i64 t.line) ::(nb,2,.slice iQ t.bH.length gy) ::(nb,3,.slice bg t.body.len aT) ::[(w.heap.size,0,(.slice aC p.ds.length aA)),(w.heap.size,1,(.slice (some ⟨b,off,none⟩) p.ts.length av))]))
    case first=>
     as_aux_lemma=>
      rcases Ce p.ds t.nm with ⟨e1,e2⟩ | ⟨j,e1,e2⟩
      ·rw [e1] at qD
       rcases BA pre t.nm with ⟨e3,e4⟩ | ⟨j',e3,e4⟩
       all_goals
        rw [e3] at vR
        have HF:=Lib.hid e2
        have HG:=Lib.hid e4
        clear e1 e2 e3 e4
        go_quiet (first | (go_at_call 36; exact mK (qD.out _)) | (go_at_call 37; exact mK (vR.out _)))
        go_wp2_with fail
        go_meet
        exact ⟨by rw [HF.out,HG.out]; rfl,HY.out.draws _⟩
      ·rw [e1] at qD
       have HF:=Lib.hid e2
       have hj:decide ((j:Int) ≥ 0)=true:=by simp
       clear e1 e2
       go_quiet (first | (go_at_call 36; exact mK (qD.out _)) | (go_at_call 37; exact mK (vR.out _)))
       go_wp2_with fail
       go_meet
       exact ⟨by rw [HF.out]; rfl,HY.out.draws _⟩
    obtain ⟨rfl,hX⟩:=hcut
    have HZ:=Lib.hid hX
    have HB3:=Lib.hid hX.1
    clear hX HY qD vR c0 c1 c2 c3 c4 c5
    cases nJ:(kK p.ds t.nm.toList || iO pre t.nm.toList)
    ·have dA:=Lib.hid (HE.out.trans (if_neg (by rw [nJ]; decide)))
     go_wp2_with fail
     go_roundg R.length
     case measure=>simp
     case rel=>exact ⟨k + 1,pre++[t],R,rfl,by go_num,by rw [List.append_assoc]; exact pV.out,by rw [List.length_append,HK.out]; rfl,dA.out,⟨HZ.out.1,HZ.out.2.2.2.2.2⟩⟩
    ·have HF:Hid (res=(4,t.line)):=Lib.hid (HR.out.trans (by rw [HE.out.trans (if_pos nJ)]))
     obtain ⟨-,⟨-,c0⟩,⟨-,c1⟩,⟨-,c2⟩,⟨-,c3⟩,⟨-,c4⟩,⟨-,c5⟩,-⟩:=HZ.out
     go_wp2_with fail
     go_quiet (fail)
     go_wp2_with fail
     go_ret2
     exact ⟨iH (congrArg Prod.fst HF.out) (congrArg Prod.snd HF.out),below_drewN HB3.out _⟩
  | nil=>
    obtain rfl:k=p.ts.length:=by simpa using hlen
    have HR2:Hid (res=lQ p.ds p.ts p.ts):=Lib.hid (HR.out.trans (by rw [HE.out]; rfl))
    clear hrow hlen pV HK HE HR qG
    have hth:=HP.out.2.2.2.below HU.out.1
    obtain ⟨-,⟨-,c0⟩,⟨-,c1⟩,-⟩:=HU.out
    go_wp2_with fail
    go_loopg [6,7,8,9] p.ts.length (fun g s _ _ _ wr=> ∃(k:Nat) (R:List Th),g=R.length∧s= .int .i64 k∧k + R.length=p.ts.length∧lQ p.ds p.ts p.ts=lQ p.ds p.ts R∧iy wr w.heap.size R aF k∧Sit w wr [(w.heap.size,0,(.slice aC p.ds.length aA)),(w.heap.size,1,(.slice aF p.ts.length av))])
    case atStart=>exact ⟨0,p.ts,rfl,rfl,by simp,rfl,hth,HU.out⟩
    case round=>
     obtain ⟨k,R,rfl,rfl,hlen,heq,hrow,hsit⟩:=hrel
     have HV:=Lib.hid hsit
     have HE:=Lib.hid (HR2.out.trans heq)
     have Hl:=Lib.hid heq
     clear hsit HU c0 c1 heq hth
     obtain ⟨-,⟨-,c0⟩,⟨-,c1⟩,-⟩:=HV.out
     cases R with
     | nil=>
       obtain rfl:k=p.ts.length:=by simpa using hlen
       have HF:=Lib.hid (HE.out.trans (rfl:_=((0:Int),(0:Int))))
       go_wp2_with fail
       go_ret2
       exact ⟨iH (congrArg Prod.fst HF.out) (congrArg Prod.snd HF.out),HV.out.1⟩
     | cons t R=>
       obtain ⟨⟨b,off,iQ,gy,bg,aT,rfl,hB,x0,x1,x2,x3,hok,htx,hst⟩,hrest⟩:=hrow
       simp only [List.length_cons] at hlen
       have hkl:k < p.ts.length:=by omega
       have V7:=hok.2.2.1
       have hll:=hok.2.2.1
       have hcl:=hst.2
       unfold maxLen at hll
       clear hst hok
       go_upto_region 11 with fail
       clear c0 c1
       obtain ⟨nb,hnb⟩: ∃n,wr.heap.size=n:=⟨_,rfl⟩
       generalize hW2:World.alloc wr _=W2
       have HY:Hid (Sit w W2 ((nb,0,.string t.nm) ::(nb,1,.int .i64 t.line) ::(nb,2,.slice iQ t.bH.length gy) ::(nb,3,.slice bg t.body.len aT) ::[(w.heap.size,0,(.slice aC p.ds.length aA)),(w.heap.size,1,(.slice (some ⟨b,off,none⟩) p.ts.length av))])):=Lib.hid (by rw [← hW2]; exact HV.out.qX hnb _ _ _ _ _)
       have wS:Hid (Below wr.heap.size wr W2):=Lib.hid (by rw [← hW2]; exact ay _ _)
       have Ah:=Lib.hid (htx.below (wS.out.mono HV.out.1.size))
       have uj:=Lib.hid (hrest.below (wS.out.mono HV.out.1.size))
       have HB3:=Lib.hid HY.out.1
       rw [hnb]
       clear hW2 hnb x0 x1 x2 x3 HV htx hrest wS
       obtain ⟨-,⟨-,c0⟩,⟨-,c1⟩,⟨-,c2⟩,⟨-,c3⟩,⟨-,c4⟩,⟨-,c5⟩,-⟩:=HY.out
       cases h1:decide ((4:Int) < t.bH.length)
       case true=>
        as_aux_lemma=>
         have HF:=Lib.hid (HE.out.trans (if_pos h1))
         have h1':4 < t.bH.length:=by simp at h1; omega
         clear h1
         go_wp2_with fail
         go_quiet (fail)
         go_wp2_with fail
         go_ret2
         exact ⟨iH (congrArg Prod.fst HF.out) (congrArg Prod.snd HF.out),below_drewN HB3.out _⟩
       have HE2:=Lib.hid (HE.out.trans (if_neg (by rw [h1]; decide)))
       have oW:=Lib.hid (Hl.out.trans (if_neg (by rw [h1]; decide)))
       have h1':t.bH.length≤4:=by simp at h1; omega
       clear HE Hl h1
       go_wp2_with fail
       go_loopg [8,9] t.bH.length (fun g s _ wx=>W2=wx∧ ∃(k':Nat) (pre R':List ByteArray),g=R'.length∧s= .int .i64 k'∧pre++R'=t.bH∧pre.length=k'∧ku p.ds p.ts t.bH []=ku p.ds p.ts R' pre)
       case atStart=>exact ⟨rfl,0,[],t.bH,rfl,rfl,rfl,rfl,rfl⟩
       case round=>
        obtain ⟨rfl,k',pre,R',rfl,rfl,hds,hk',heq'⟩:=hrel
        have dA:=Lib.hid heq'
        have hlen':k' + R'.length=t.bH.length:=by rw [← hds,List.length_append,hk']
        have hrow:=Ah.out.drop k'
        rw [Nat.zero_add,← hds,← hk',List.drop_left] at hrow
        rw [hk'] at hrow
        have qG:=Lib.hid ((hds ▸ Ah.out:iD W2 w.heap.size (pre++R') iQ 0).take)
        have pV:=Lib.hid hds
        have HK:=Lib.hid hk'
        clear hds hk' heq'
        cases R' with
        | nil=>
          obtain rfl:k'=t.bH.length:=by simpa using hlen'
          have HF:=Lib.hid (oW.out.trans (if_neg (by rw [dA.out]; simp [ku])))
          go_wp2_with fail
          go_roundg R.length
          case measure=>simp
          case rel=>exact ⟨k + 1,R,rfl,by go_num,by omega,HF.out,uj.out,⟨HY.out.1,HY.out.2.2.2.2.2⟩⟩
        | cons s R'=>
          obtain ⟨⟨b',off',rfl,hB',y0,hs⟩,-⟩:=hrow
          simp only [List.length_cons] at hlen'
          have hkl':k' < t.bH.length:=by omega
          have HL:Hid (ku p.ds p.ts t.bH []=((kK p.ds s.toList || iO p.ts s.toList) || kr pre s.toList || ku p.ds p.ts R' (pre++[s]))):=Lib.hid (dA.out.trans (by rw [ku]))
          have hpl:pre.length≤maxLen:=by rw [HK.out]; omega
          have qD:=Lib.hid (iP p.ds s W2 aC aA Gl ((HP.out.2.2.1.below HY.out.1).mono HY.out.1.size))
          have vR:=Lib.hid (kR p.ts s W2 (some ⟨b,off,none⟩) av hlt' ((HP.out.2.2.2.below HY.out.1).mono HY.out.1.size))
          have vE:=Lib.hid (kN pre s W2 (some ⟨b',off',none⟩) gy hpl (qG.out.mono HY.out.1.size))
          rw [HK.out] at vE
          have hk0:(0:Int)≤k':=by omega
          have hk1:(k':Int)≤gy:=by omega
          have hk2:k'≤gy:=by omega
          clear dA
          go_upto_region 17 with fail
          go_cut [90] (fun s' W3=>W2=W3∧s'= .bool ((kK p.ds s.toList || iO p.ts s.toList) || kr pre s.toList))
          case first=>
           as_aux_lemma=>
            rcases Ce p.ds s with ⟨e1,e2⟩ | ⟨j,e1,e2⟩
            ·rcases BA p.ts s with ⟨e3,e4⟩ | ⟨j,e3,e4⟩
             ·rcases xE pre s with ⟨e5,e6⟩ | ⟨j,e5,e6⟩
              all_goals
               rw [e1] at qD
               rw [e3] at vR
               rw [e5] at vE
               have HF:Hid (kK p.ds s.toList=false∧iO p.ts s.toList=false∧kr pre s.toList=_):=Lib.hid ⟨e2,e4,e6⟩
               clear e1 e2 e3 e4 e5 e6
               go_wp2_with (first | (go_at_call 36; refine qD.out.mono ?_; rintro e w' ⟨rfl,rfl⟩) | (go_at_call 37; refine vR.out.mono ?_; rintro e w' ⟨rfl,rfl⟩) | (go_at_call 38; refine vE.out.mono ?_; rintro e w' ⟨rfl,rfl⟩))
               go_meet
               exact ⟨rfl,by rw [HF.out.1,HF.out.2.1,HF.out.2.2]; rfl⟩
             ·rw [e1] at qD
              rw [e3] at vR
              have HF:Hid (kK p.ds s.toList=false∧iO p.ts s.toList=true):=Lib.hid ⟨e2,e4⟩
              clear e1 e2 e3 e4
              go_wp2_with (first | (go_at_call 36; refine qD.out.mono ?_; rintro e w' ⟨rfl,rfl⟩) | (go_at_call 37; refine vR.out.mono ?_; rintro e w' ⟨rfl,rfl⟩))
              go_meet
              exact ⟨rfl,by rw [HF.out.1,HF.out.2]; rfl⟩
            ·rw [e1] at qD
             have HF:=Lib.hid e2
             clear e1 e2
             go_wp2_with (go_at_call 36; refine qD.out.mono ?_; rintro e w' ⟨rfl,rfl⟩)
             go_meet
             exact ⟨rfl,by rw [HF.out]; rfl⟩
          obtain ⟨rfl,rfl⟩:=hcut
          clear qD vR vE
          cases nJ:((kK p.ds s.toList || iO p.ts s.toList) || kr pre s.toList)
          ·have HF:Hid (ku p.ds p.ts t.bH []=ku p.ds p.ts R' (pre++[s])):=Lib.hid (HL.out.trans (by rw [nJ]; rfl))
           go_wp2_with fail
           go_roundg R'.length
           case measure=>simp
           case rel=>exact ⟨rfl,k' + 1,pre++[s],R',rfl,by go_num,by rw [List.append_assoc]; exact pV.out,by rw [List.length_append,HK.out]; rfl,HF.out⟩
          ·have HF:=Lib.hid (HE2.out.trans (if_pos (by rw [HL.out,nJ]; rfl)))
           go_wp2_with fail
           go_quiet (fail)
           go_wp2_with fail
           go_ret2
           exact ⟨iH (congrArg Prod.fst HF.out) (congrArg Prod.snd HF.out),below_drewN HB3.out _⟩
end Go.Proofs.YtnknfoibmgphnaaDoor
end
section
namespace Go.Proofs.YtnknfoibmgphnaaDoor
open Go.RowKit
open Md
theorem Fy (pre:List De) (nm:ByteArray):(pF pre nm= -1∧mD pre nm.toList=0)∨ ∃(j:Nat) (d:De) (r:List De),j < pre.length∧pF pre nm=(j:Int)∧pre.drop j=d ::r∧mD pre nm.toList=fu d:=by
 unfold pF mD
 rcases lH (fun d:De=>d.nm.toList == nm.toList) pre 0 with ⟨h1,h2,h3⟩ | ⟨j,d,r,h0,h1,h2,h3,h4⟩
 ·exact Or.inl ⟨h1,by rw [h2]; rfl⟩
 ·exact Or.inr ⟨j,d,r,h0,by rw [h1,Nat.zero_add],h2,by rw [h3]; rfl⟩
theorem EP {d:De} :(fu d != 4)=(d.kind != 3):=by unfold fu; grind
def MH (ds:List De) (w:World) (res:Int × Int) (g:Nat) (s4 s5 s6 s7 s8:Value) (wr:World):Prop:=
 ∃(k:Nat) (pre R:List De) (c l n f:Int),g=R.length∧s8= .int .i64 k∧pre++R=ds∧pre.length=k∧s4= .int .i64 c∧s5= .int .i64 l∧s6= .int .i64 n∧s7= .int .i64 f∧
  (0≤c∧c≤12∧0≤l∧l≤4∧0≤n∧n≤2∧0≤f∧f≤2)∧res=jH R pre c l n f∧Below w.heap.size w wr
set_option maxHeartbeats 4000000 in
set_option maxRecDepth 100000 in
theorem Dw (ds:List De) (w:World) (ao:Option Addr) (cap:Nat) (hl:ds.length≤maxLen) (hcap:ds.length≤cap) (hat:iZ w w.heap.size ds ao 0) (hsh: ∀d ∈ ds,jw d=true):
 Calls Tryd.prog 20 #[.slice ao ds.length cap] w fun e w'=>e= .returned (.tuple #[.int .i64 (jH ds [] 0 0 0 0).1,.int .i64 (jH ds [] 0 0 0 0).2])∧Below w.heap.size w w':=by
 generalize hres:jH ds [] 0 0 0 0=res
 have HR:=Lib.hid hres
 have HAT:=Lib.hid hat
 have vL:=Lib.hid hsh
 have hl':=hl
 unfold maxLen at hl
 clear hres hat hsh
 go_enter Tryd.func20,Tryd.ntmps20
 go_wp2_with fail
 go_loopg [4,5,6,7,8,9,10] ds.length (fun g s4 s5 s6 s7 s8 _ _ wr=>MH ds w res g s4 s5 s6 s7 s8 wr)
 case atStart=>exact ⟨0,[],ds,0,0,0,0,rfl,rfl,rfl,rfl,rfl,rfl,rfl,rfl,by decide,HR.out.symm,Below.refl _ _⟩
 case round=>
  obtain ⟨k,pre,R,c,l,n,f,rfl,rfl,hds,hk,rfl,rfl,rfl,rfl,⟨q1,q2,l1,l2,n1,n2,f1,f2⟩,hr,hB⟩:=hrel
  have HE:=Lib.hid hr
  have HB:=Lib.hid hB
  clear hr hB HR
  have hlen:k + R.length=ds.length:=by rw [← hds,List.length_append,hk]
  have hrow:=(HAT.out.below HB.out).drop k
  rw [Nat.zero_add,← hds,← hk,List.drop_left] at hrow
  rw [hk] at hrow
  cases R with
  | nil=>
    obtain rfl:k=ds.length:=by simpa using hlen
    have HF:=Lib.hid (HE.out.trans (rfl:_=((0:Int),(0:Int))))
    clear HE hds hk hrow
    go_wp2_with fail
    go_ret2
    exact ⟨iH (congrArg Prod.fst HF.out) (congrArg Prod.snd HF.out),HB.out⟩
  | cons d R=>
    have hsd:=wK (vL.out d (by rw [← hds]; simp))
    have pV:=Lib.hid hds
    have HK:=Lib.hid hk
    have qG:=Lib.hid ((hds ▸ HAT.out:iZ w w.heap.size (pre++d ::R) ao 0).take)
    clear hds hk
    obtain ⟨⟨b,off,rfl,ni,x0,x1,x2,x3,x4,x5,hok⟩,-⟩:=hrow
    simp only [List.length_cons] at hlen
    have hkl:k < ds.length:=by omega
    obtain ⟨g1,g2,g3,g4⟩:=hsd
    rw [xL] at HE
    go_upto_region 6 with fail
    obtain ⟨nb,hnb⟩: ∃n,wr.heap.size=n:=⟨_,rfl⟩
    generalize hW2:World.alloc wr _=W2
    have HB2:Hid (Below w.heap.size w W2):=Lib.hid (by rw [← hW2]; exact HB.out.alloc HB.out.size _)
    have HY:Hid (Sit wr W2 [(nb,0,.int .i64 d.kind),(nb,1,.int .i64 d.line),(nb,2,.string d.nm),(nb,3,.int .i64 d.size),(nb,4,.int .i64 d.init),(nb,5,.string d.on)]):=Lib.hid (by rw [← hW2]; exact (Sit.start wr).Et hnb _ _ _ _ _ _ _)
    rw [hnb]
    clear hW2 hnb x0 x1 x2 x3 x4 x5 HB
    obtain ⟨-,⟨-,c0⟩,⟨-,c1⟩,⟨-,c2⟩,⟨-,c3⟩,⟨-,c4⟩,⟨-,c5⟩,-⟩:=HY.out
    have hpl:pre.length≤maxLen:=by rw [HK.out]; omega
    have qD:Hid (∀(nm:ByteArray) (nq:Nat),Calls Tryd.prog 36 #[.slice (some ⟨b,off,none⟩) k cap,.string nm] (W2.drewN nq) fun e w'=>e= .returned (.int .i64 (pF pre nm))∧W2.drewN nq=w'):=Lib.hid (fun nm nq=>by
     have hb':=below_drewN (n:=nq) HB2.out
     have:=iP pre nm (W2.drewN nq) (some ⟨b,off,none⟩) cap hpl ((qG.out.below hb').mono hb'.size)
     rw [HK.out] at this
     exact this)
    have hk0:(0:Int)≤k:=by omega
    have hk1:(k:Int)≤cap:=by omega
    have hk2:k≤cap:=by omega
    go_quiet ((go_at_call 36; exact mK (qD.out _ _)))
    have HZ:=Lib.hid (HY.out.draws nq)
    have HB3:=Lib.hid (below_drewN (n:=nq) HB2.out)
    clear HY HB2 qD c0 c1 c2 c3 c4 c5
    generalize W2.drewN nq=w3 at *
    obtain ⟨-,⟨-,c0⟩,⟨-,c1⟩,⟨-,c2⟩,⟨-,c3⟩,⟨-,c4⟩,⟨-,c5⟩,-⟩:=HZ.out
    rcases Fy pre d.nm with ⟨e1,e2⟩ | ⟨j,d',r,e0,e1,-,e2⟩
    case inr=>
     as_aux_lemma=>
      rw [e1]
      have HF:=Lib.hid (HE.out.trans (if_pos (by rw [e2,bne_iff_ne]; have:=nM d'; omega)))
      clear e1 e2
      go_wp2_with fail
      go_quiet (fail)
      go_wp2_with fail
      go_ret2
      exact ⟨iH (congrArg Prod.fst HF.out) (congrArg Prod.snd HF.out),below_drewN HB3.out _⟩
    rw [e1]
    have h0:(mD pre d.nm.toList != 0)=false:=by rw [e2]; rfl
    have HE2:=Lib.hid (HE.out.trans (if_neg (by rw [h0]; decide)))
    clear HE e1 e2
    go_upto_region 8 with fail
    cases h1:decide (4 < d.size)
    case true=>
     as_aux_lemma=>
      have HF:=Lib.hid (HE2.out.trans (if_pos h1))
      have h1':4 < d.size:=by simpa using h1
      go_wp2_with fail
      go_quiet (fail)
      go_wp2_with fail
      go_ret2
      exact ⟨iH (congrArg Prod.fst HF.out) (congrArg Prod.snd HF.out),below_drewN HB3.out _⟩
    have oW:=Lib.hid (HE2.out.trans (if_neg (by rw [h1]; decide)))
    have h1':d.size≤4:=by simpa using h1
    clear HE2 h1
    go_upto_region 10 with fail
    go_upto_block 2 with (fail)
    go_cut [4,5,6,7,36] (fun s4 s5 s6 s7 _ W3=>w3=W3∧s4= .int .i64 (dc d c)∧s5= .int .i64 (dl d l)∧s6= .int .i64 (dn d n)∧s7= .int .i64 (df d f))
    case first=>
     as_aux_lemma=>
      have hkd:d.kind=1∨d.kind=2∨d.kind=3∨d.kind=4∨d.kind=5∨d.kind=6:=by omega
      have hmx:0≤max d.size 1∧max d.size 1≤4:=by omega
      rcases hkd with hkd | hkd | hkd | hkd | hkd | hkd
      ·have HA:Hid (dc d c=c + max d.size 1∧dl d l=l∧dn d n=n∧df d f=f):=Lib.hid (by simp [dc,dl,dn,df,hkd] <;> first | rfl | omega)
       have hk3:(d.kind == 1)=true:=by rw [hkd]; rfl
       have hk4:(d.kind == 2)=false:=by rw [hkd]; rfl
       have hk5:(d.kind == 3)=false:=by rw [hkd]; rfl
       have GD:(d.kind == 4)=false:=by rw [hkd]; rfl
       have IK:(d.kind == 5)=false:=by rw [hkd]; rfl
       clear hkd
       go_wp2_with fail
       go_meet
       exact ⟨rfl,by rw [HA.out.1],by rw [HA.out.2.1],by rw [HA.out.2.2.1],by rw [HA.out.2.2.2]⟩
      ·have HA:Hid (dc d c=c + max d.size 1∧dl d l=l∧dn d n=n∧df d f=f):=Lib.hid (by simp [dc,dl,dn,df,hkd] <;> first | rfl | omega)
       have hk3:(d.kind == 1)=false:=by rw [hkd]; rfl
       have hk4:(d.kind == 2)=true:=by rw [hkd]; rfl
       have hk5:(d.kind == 3)=false:=by rw [hkd]; rfl
       have GD:(d.kind == 4)=false:=by rw [hkd]; rfl
       have IK:(d.kind == 5)=false:=by rw [hkd]; rfl
       clear hkd
       go_wp2_with fail
       go_meet
       exact ⟨rfl,by rw [HA.out.1],by rw [HA.out.2.1],by rw [HA.out.2.2.1],by rw [HA.out.2.2.2]⟩
      ·have HA:Hid (dc d c=c∧dl d l=l + 1∧dn d n=n∧df d f=f):=Lib.hid (by simp [dc,dl,dn,df,hkd] <;> first | rfl | omega)
       have hk3:(d.kind == 1)=false:=by rw [hkd]; rfl
       have hk4:(d.kind == 2)=false:=by rw [hkd]; rfl
       have hk5:(d.kind == 3)=true:=by rw [hkd]; rfl
       have GD:(d.kind == 4)=false:=by rw [hkd]; rfl
       have IK:(d.kind == 5)=false:=by rw [hkd]; rfl
       clear hkd
       go_wp2_with fail
       go_meet
       exact ⟨rfl,by rw [HA.out.1],by rw [HA.out.2.1],by rw [HA.out.2.2.1],by rw [HA.out.2.2.2]⟩
      ·have HA:Hid (dc d c=c∧dl d l=l + 1∧dn d n=n∧df d f=f):=Lib.hid (by simp [dc,dl,dn,df,hkd] <;> first | rfl | omega)
       have hk3:(d.kind == 1)=false:=by rw [hkd]; rfl
       have hk4:(d.kind == 2)=false:=by rw [hkd]; rfl
       have hk5:(d.kind == 3)=false:=by rw [hkd]; rfl
       have GD:(d.kind == 4)=true:=by rw [hkd]; rfl
       have IK:(d.kind == 5)=false:=by rw [hkd]; rfl
       clear hkd
       go_wp2_with fail
       go_meet
       exact ⟨rfl,by rw [HA.out.1],by rw [HA.out.2.1],by rw [HA.out.2.2.1],by rw [HA.out.2.2.2]⟩
      ·have HA:Hid (dc d c=c∧dl d l=l∧dn d n=n + 1∧df d f=f):=Lib.hid (by simp [dc,dl,dn,df,hkd] <;> first | rfl | omega)
       have hk3:(d.kind == 1)=false:=by rw [hkd]; rfl
       have hk4:(d.kind == 2)=false:=by rw [hkd]; rfl
       have hk5:(d.kind == 3)=false:=by rw [hkd]; rfl
       have GD:(d.kind == 4)=false:=by rw [hkd]; rfl
       have IK:(d.kind == 5)=true:=by rw [hkd]; rfl
       clear hkd
       go_wp2_with fail
       go_meet
       exact ⟨rfl,by rw [HA.out.1],by rw [HA.out.2.1],by rw [HA.out.2.2.1],by rw [HA.out.2.2.2]⟩
      ·have HA:Hid (dc d c=c∧dl d l=l∧dn d n=n∧df d f=f + 1):=Lib.hid (by simp [dc,dl,dn,df,hkd] <;> first | rfl | omega)
       have hk3:(d.kind == 1)=false:=by rw [hkd]; rfl
       have hk4:(d.kind == 2)=false:=by rw [hkd]; rfl
       have hk5:(d.kind == 3)=false:=by rw [hkd]; rfl
       have GD:(d.kind == 4)=false:=by rw [hkd]; rfl
       have IK:(d.kind == 5)=false:=by rw [hkd]; rfl
       clear hkd
       go_wp2_with fail
       go_meet
       exact ⟨rfl,by rw [HA.out.1],by rw [HA.out.2.1],by rw [HA.out.2.2.1],by rw [HA.out.2.2.2]⟩
    obtain ⟨rfl,rfl,rfl,rfl,rfl⟩:=hcut
    have hc':0≤dc d c∧dc d c≤16:=by unfold dc; split <;> omega
    have hl'':0≤dl d l∧dl d l≤5:=by unfold dl; split <;> omega
    have hn':0≤dn d n∧dn d n≤3:=by unfold dn; split <;> omega
    have hf':0≤df d f∧df d f≤3:=by unfold df; split <;> omega
    generalize hcc:dc d c=c' at *
    generalize hll:dl d l=l' at *
    generalize hnn:dn d n=n' at *
    generalize EX:df d f=f' at *
    clear hcc hll hnn EX
    go_upto_region 20 with fail
    go_cut [69] (fun s' W3=>w3=W3∧s'= .bool (lim c' l' n' f'))
    case first=>
     as_aux_lemma=>
      have HF:Hid (lim c' l' n' f'=(((decide (12 < c') || decide (4 < l')) || decide (2 < n')) || decide (2 < f'))):=Lib.hid rfl
      go_wp2_with fail
      all_goals go_meet
      all_goals exact ⟨rfl,by first | (rw [HF.out]; done) | (rw [HF.out]; congr 1; go_light; grind)⟩
    obtain ⟨rfl,rfl⟩:=hcut
    cases h2:lim c' l' n' f'
    case true=>
     as_aux_lemma=>
      have HF:=Lib.hid (oW.out.trans (if_pos h2))
      go_wp2_with fail
      go_quiet (fail)
      go_wp2_with fail
      go_ret2
      exact ⟨iH (congrArg Prod.fst HF.out) (congrArg Prod.snd HF.out),below_drewN HB3.out _⟩
    have uM:=Lib.hid (oW.out.trans (if_neg (by rw [h2]; decide)))
    have hlim:c'≤12∧l'≤4∧n'≤2∧f'≤2:=by unfold lim at h2; simp at h2; omega
    clear oW h2
    go_upto_region 22 with fail
    cases h5:(d.kind == 5)
    ·have HF:=Lib.hid (uM.out.trans ((if_neg (by rw [h5]; simp)).trans (if_neg (by rw [h5]; simp))))
     clear uM
     go_wp2_with fail
     go_roundg R.length
     case measure=>simp
     case rel=>exact ⟨k + 1,pre++[d],R,c',l',n',f',rfl,by go_num,by rw [List.append_assoc]; exact pV.out,by rw [List.length_append,HK.out]; rfl,rfl,rfl,rfl,rfl,by omega,HF.out,HB3.out⟩
    ·go_wp2_with fail
     have qD:Hid (∀(nm:ByteArray) (nq:Nat),Calls Tryd.prog 36 #[.slice (some ⟨b,off,none⟩) k cap,.string nm] (w3.drewN nq) fun e w'=>e= .returned (.int .i64 (pF pre nm))∧w3.drewN nq=w'):=Lib.hid (fun nm nq=>by
      have hb':=below_drewN (n:=nq) HB3.out
      have:=iP pre nm (w3.drewN nq) (some ⟨b,off,none⟩) cap hpl ((qG.out.below hb').mono hb'.size)
      rw [HK.out] at this
      exact this)
     go_quiet ((go_at_call 36; exact mK (qD.out _ _)))
     have HZ2:=Lib.hid (HZ.out.draws nq)
     have gV:=Lib.hid (below_drewN (n:=nq) HB3.out)
     clear HZ qD c0 c1 c2 c3 c4 c5 HB3
     generalize w3.drewN nq=w5 at *
     have HB3:=gV
     clear gV
     obtain ⟨-,⟨-,c0⟩,⟨-,c1⟩,⟨-,c2⟩,⟨-,c3⟩,⟨-,c4⟩,⟨-,c5⟩,-⟩:=HZ2.out
     rcases Fy pre d.on with ⟨e1,e2⟩ | ⟨j,d',r,e0,e1,e3,e2⟩
     ·have HF:=Lib.hid (uM.out.trans (if_pos (by rw [h5,e2]; rfl)))
      rw [e1]
      clear e1 e2
      go_wp2_with fail
      go_quiet (fail)
      go_wp2_with fail
      go_ret2
      exact ⟨iH (congrArg Prod.fst HF.out) (congrArg Prod.snd HF.out),below_drewN HB3.out _⟩
     ·have BO:=Lib.hid (uM.out.trans (if_neg (by rw [h5,e2]; have:=nM d'; simp; omega)))
      rw [e2,EP] at BO
      have hrow:=(qG.out.below HB3.out).drop j
      rw [e3,Nat.zero_add] at hrow
      obtain ⟨⟨b2,off2,hbe,V3,z0,-⟩,-⟩:=hrow
      obtain ⟨rfl,rfl⟩:b=b2∧off=off2:=by injection hbe with h; injection h with h1 h2; exact ⟨h1,h2⟩
      have hjl:j < ds.length:=by have:=HK.out; omega
      rw [e1]
      clear e1 e2 e3 hbe uM
      cases h8:(d'.kind != 3)
      case true=>
       as_aux_lemma=>
        have HF:=Lib.hid (BO.out.trans (if_pos (by rw [h5,h8]; rfl)))
        go_wp2_with fail
        go_quiet (fail)
        go_wp2_with fail
        go_ret2
        exact ⟨iH (congrArg Prod.fst HF.out) (congrArg Prod.snd HF.out),below_drewN HB3.out _⟩
      have HF:=Lib.hid (BO.out.trans (if_neg (by rw [h5,h8]; decide)))
      clear BO
      go_wp2_with fail
      go_roundg R.length
      case measure=>simp
      case rel=>exact ⟨k + 1,pre++[d],R,c',l',n',f',rfl,by go_num,by rw [List.append_assoc]; exact pV.out,by rw [List.length_append,HK.out]; rfl,rfl,rfl,rfl,rfl,by omega,HF.out,HB3.out⟩
end Go.Proofs.YtnknfoibmgphnaaDoor
end
