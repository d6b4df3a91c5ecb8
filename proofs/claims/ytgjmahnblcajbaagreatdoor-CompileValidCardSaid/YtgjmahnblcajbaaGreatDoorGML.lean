/- Contract of check.count. And what hangs on it. -/
import Derived.Test.YtgjmahnblcajbaaGreatDoorGMC
import Derived.IntWalk
import Derived.Deep.RegionWith
import Derived.Test.YtgjmahnblcajbaaGreatDoorGMK
import Derived.Test.YtgjmahnblcajbaaGreatDoorGME
set_option linter.unusedSimpArgs false
set_option linter.unusedVariables false
set_option maxHeartbeats 40000000
set_option maxRecDepth 1000000
namespace Go.Proofs.YtgjmahnblcajbaaGreatDoor
open Go.RowKit
namespace Md
def JK:aJ->Int->Int
 | .nil,n=>n
 | .cons _ b e r,n=>JK r (wrap64 (n + (JK b b.len + JK e e.len)))
def Ns (l:aJ):Int:=JK l l.len
end Md
open Md
theorem aa0 (n x:Int):wrap64 (n + wrap64 x)=wrap64 (n + x):=by
 unfold wrap64; omega
def yT (l:aJ):Prop:= ∀(w:World) (ao:Option Addr) (cap:Nat),l.len<=maxLen->l.At w w.heap.size ao 0->
 Calls Tryz.prog 54 #[.slice ao l.len cap] w fun e w'=>e= .returned (.int .i64 (Ns l))∧Below w.heap.size w w'
theorem Gn (l:aJ) (hall:l.All fun _ b e=>yT b∧yT e):yT l:=by
 intro w ao cap hl hat;generalize hres:Ns l=res;have HR:=ah hres;have HAT:=ah hat;have kX:=ah hall;unfold maxLen at hl;clear hres hat hall;go_enter Tryz.func54,Tryz.ntmps54;go_wp2_with fail;go_loopw [3,5,10] (fun s3 _ s wr=> ∃(k:Nat) (R:aJ) (n:Int),s= .int .i64 k∧s3= .int .i64 n∧k + R.len=l.len∧res=JK R n∧(R.All fun _ b e=>yT b∧yT e)∧R.At wr wr.heap.size ao k∧Below w.heap.size w wr) (fun _ _ s _=>l.len - (intOf s).toNat)
 case atStart=>exact ⟨0,l,l.len,rfl,rfl,by simp,HR.o.symm,kX.o,HAT.o,Below.refl _ _⟩
 case round=>
  obtain ⟨k,R,n,rfl,rfl,hlen,heq,yN,hrow,hB⟩:=hrel;have HE:=ah heq;have HB:=ah hB;clear heq hB;cases R with
  | nil=>
    obtain rfl:k=l.len:=by simpa [aJ.len] using hlen
    go_wp2_with fail;go_ret;exact ⟨dB HE.o.symm,HB.o⟩
  | cons h b e R=>
    obtain ⟨bl,off,s,rfl,hbl,hin,x0,x1,x2,x3,x4,x5,x6,x7,x8,x9,x10,hrest⟩:=aJ.At.head hrow;obtain ⟨⟨hsb,hse⟩,NJ⟩:=yN;have KG:=ah hsb;have PL:=ah hse;have eX:=ah hin;have hkl:k < l.len:=by simp only [aJ.len] at hlen; omega
    clear hrow hin hsb hse;go_upto_region 5 with fail;obtain ⟨nb,hnb⟩: ∃n,wr.heap.size=n:=⟨_,rfl⟩;generalize hW2:World.alloc wr _=W2;have HY:aj (Sit wr W2 (yH nb h b e s [])):=ah (by rw [<- hW2]; exact (Sit.start wr).Aq hnb _ _ _ _ _ _ _ _ _ _ _ _);rw [hnb];clear hW2 hnb x0 x1 x2 x3 x4 x5 x6 x7 x8 x9 x10;obtain ⟨T,F,GA,hst,hF,hnext⟩:=calm W2;have HF:=ah hF;have eY:=ah hnext;clear hnext hF;have d0:=fun x=>(HY.o.next (HF.o x)).2.1.2;have d1:=fun x=>(HY.o.next (HF.o x)).2.2.1.2;have d2:=fun x=>(HY.o.next (HF.o x)).2.2.2.1.2;have d3:=fun x=>(HY.o.next (HF.o x)).2.2.2.2.1.2;have d4:=fun x=>(HY.o.next (HF.o x)).2.2.2.2.2.1.2;have d5:=fun x=>(HY.o.next (HF.o x)).2.2.2.2.2.2.1.2;have d6:=fun x=>(HY.o.next (HF.o x)).2.2.2.2.2.2.2.1.2;have d7:=fun x=>(HY.o.next (HF.o x)).2.2.2.2.2.2.2.2.1.2;have d8:=fun x=>(HY.o.next (HF.o x)).2.2.2.2.2.2.2.2.2.1.2;have d9:=fun x=>(HY.o.next (HF.o x)).2.2.2.2.2.2.2.2.2.2.1.2;have nV:=fun x=>(HY.o.next (HF.o x)).2.2.2.2.2.2.2.2.2.2.2.1.2;clear d0 d1 d2 d3 d4 d5 d6 d7 d8;refine jo F (by kernel_rfl) (by kernel_rfl) hst ?_
    repeat (any_goals (first | go_big_quiet_step ((first | (go_at_call_of 54 (Value.slice s.cK b.len s.aZ); refine (KG.o _ s.cK s.aZ eX.o.1.2.2.2.2.2.2.1 ((eX.o.same HY.o.1).same (HF.o _)).2.2.2.1).mono ?_; rintro e w' ⟨rfl,hb⟩; exact ⟨rfl,eY.o _ _ hb⟩) | (go_at_call_of 54 (Value.slice s.fF e.len s.dX); refine (PL.o _ s.fF s.dX eX.o.1.2.2.2.2.2.2.2 ((eX.o.same HY.o.1).same (HF.o _)).2.2.2.2).mono ?_; rintro e w' ⟨rfl,hb⟩; exact ⟨rfl,eY.o _ _ hb⟩))) | (refine wpQuiet_step (fun K hK=> ?_); go_simp; first | (refine hK _ ?_; clear hK K) | (split <;> first | (refine hK _ ?_; clear hK K) | (apply Exists.intro; refine ⟨fun _=> ?_,hK _ ?_⟩; ((first | (go_at_call_of 54 (Value.slice s.cK b.len s.aZ); refine (KG.o _ s.cK s.aZ eX.o.1.2.2.2.2.2.2.1 ((eX.o.same HY.o.1).same (HF.o _)).2.2.2.1).mono ?_; rintro e w' ⟨rfl,hb⟩; exact ⟨rfl,eY.o _ _ hb⟩) | (go_at_call_of 54 (Value.slice s.fF e.len s.dX); refine (PL.o _ s.fF s.dX eX.o.1.2.2.2.2.2.2.2 ((eX.o.same HY.o.1).same (HF.o _)).2.2.2.2).mono ?_; rintro e w' ⟨rfl,hb⟩; exact ⟨rfl,eY.o _ _ hb⟩))); clear hK K)))))
    all_goals (refine wpQuiet_nil ?_; rintro _ ⟨x,rfl⟩)
    have HB2:=ah (HY.o.1.trans ((HF.o x).mono HY.o.1.size));clear d9 nV HF eY hst;generalize F x=W3 at *;go_wp2_with fail;go_roundw
    case rel=>exact ⟨k + 1,R,_,by go_num,rfl,by simp only [aJ.len] at hlen; omega,HE.o.trans (show JK R (wrap64 (n + (Ns b + Ns e)))=_ by rw [<- aa0]),NJ,hrest.same HB2.o,HB.o.trans (HB2.o.mono HB.o.size)⟩
    case measure=>simp [intOf]; omega
theorem U0 (l:aJ):yT l:=Gn l (aJ.mU (fun _ b e hb he=>⟨Gn b hb,Gn e he⟩) l)
namespace Md
def zL:List Th->Int->Int
 | [],n=>n
 | t ::r,n=>zL r (wrap64 (n + Ns t.body))
theorem Gp: ∀(ds pre:List De) (c l n f:Int),(∀d ∈ ds,lM d=true)->(nH ds pre c l n f).1=0->c + l + n + f<=20->(ds.length:Int) + (c + l + n + f)<=20
 | [],_,_,_,_,_,_,_,h=>by simpa using h
 | d ::r,pre,c,l,n,f,hs,h0,h=>by
   have hd:=yR (hs d (by simp));rw [Lc] at h0;split at h0
   ·simp at h0
   split at h0
   ·simp at h0
   split at h0
   ·simp at h0
   rename_i hlim;split at h0
   ·simp at h0
   split at h0
   ·simp at h0
   have hl:dc d c<=12∧dl d l<=4∧dn d n<=2∧df d f<=2:=by unfold lim at hlim;simp only [Bool.or_eq_true,decide_eq_true_eq,not_or] at hlim;omega
   have ih:=Gp r (pre++[d]) _ _ _ _ (fun x hx=>hs x (by simp [hx])) h0 (by omega);have hsum:c + l + n + f + 1<=dc d c + dl d l + dn d n + df d f:=by
    unfold dc dl dn df;have hk:d.kind=1∨d.kind=2∨d.kind=3∨d.kind=4∨d.kind=5∨d.kind=6:=by omega
    rcases hk with hk | hk | hk | hk | hk | hk <;> simp [hk] <;> omega
   simp only [List.length_cons];omega
def oQ (p:Pr):ByteArray:=(p.ts.head?.map (·.nm)).getD ⟨#[]⟩
def pq (p:Pr):Int × Int:=
 if !wU p then (3,0) else if (nH p.ds [] 0 0 0 0).1 != 0 then nH p.ds [] 0 0 0 0 else
 if decide ((4:Int) < p.ts.length) then (2,0) else if (qh p).1 != 0 then qh p else
 if decide (60 < zL p.ts 0) then (2,0) else ((lQ p (oQ p) p.ts 0 [] []).err,(lQ p (oQ p) p.ts 0 [] []).line)
end Md
theorem FN (p:Pr) (w:World) (aG aH:Option Addr) (aB aD:Nat) (hp:p.At w aG aH) (dH:cB w):
 Calls Tryz.prog 27 #[.agg #[.slice aG p.ds.length aB,.slice aH p.ts.length aD]] w fun e w'=>e= .returned (.tuple #[.int .i64 (pq p).1,.int .i64 (pq p).2])∧Below w.heap.size w w':=by
 have HS:aj (pq p=if !wU p then (3,0) else if (nH p.ds [] 0 0 0 0).1 != 0 then nH p.ds [] 0 0 0 0 else
  if decide ((4:Int) < p.ts.length) then (2,0) else if (qh p).1 != 0 then qh p else
  if decide (60 < zL p.ts 0) then (2,0) else ((lQ p (oQ p) p.ts 0 [] []).err,(lQ p (oQ p) p.ts 0 [] []).line)):=ah rfl
 generalize pq p=res at *;have hld:=hp.1;have hlt:=hp.2.1;unfold maxLen at hld hlt;have HP:=ah hp;have gV:=ah dH;clear hp dH;go_enter Tryz.func27,Tryz.ntmps27;go_upto_region 1 with fail;generalize hW:World.alloc w _=W;generalize Value.agg #[_,_]=a0;have HX:=ah ((Sit.start w).JI rfl (.slice aG p.ds.length aB) (.slice aH p.ts.length aD) 38);rw [hW] at HX;clear hW;obtain ⟨-,⟨-,c0⟩,⟨-,c1⟩,-⟩:=HX.o;go_wp2_with fail;refine (R4 p _ aG aH aB aD (HP.o.same HX.o.1) (gV.o.same HX.o.1)).mono ?_;rintro e w1 ⟨rfl,hb1⟩;have HY:=ah (HX.o.next hb1);clear HX hb1 c0 c1;obtain ⟨-,⟨-,c0⟩,⟨-,c1⟩,-⟩:=HY.o;have MJ:aj (wU p=true->(∀d ∈ p.ds,lM d=true)∧ ∃t0 r0,p.ts=t0 ::r0):=ah (fun h=>by
  unfold wU at h;simp only [Bool.and_eq_true,List.all_eq_true,decide_eq_true_eq] at h;refine ⟨h.1.1,?_⟩;cases hts:p.ts with
  | nil=>rw [hts] at h; simp at h
  | cons a b=>exact ⟨a,b,rfl⟩)
 cases hS:wU p
 ·have HE:aj (res=(3,0)):=ah (HS.o.trans (by rw [hS]; rfl));clear MJ;go_wp2_with fail
  go_ret2
  exact ⟨yh (by rw [HE.o]; rfl) (by rw [HE.o]; rfl),HY.o.1⟩
 ·have HE:aj (res=if (nH p.ds [] 0 0 0 0).1 != 0 then nH p.ds [] 0 0 0 0 else
   if decide ((4:Int) < p.ts.length) then (2,0) else if (qh p).1 != 0 then qh p else
   if decide (60 < zL p.ts 0) then (2,0) else ((lQ p (oQ p) p.ts 0 [] []).err,(lQ p (oQ p) p.ts 0 [] []).line)):=ah (HS.o.trans (by rw [hS]; rfl))
  have KH:=ah (MJ.o hS);have Mi:aj ((nH p.ds [] 0 0 0 0).1=0->p.ds.length<=20):=ah (fun h0=>by have:=Gp p.ds [] 0 0 0 0 KH.o.1 h0 (by omega); omega);clear HS MJ;go_wp2_with fail;refine (Gq p.ds _ aG aB HP.o.1 ((HP.o.same HY.o.1).2.2.1) KH.o.1).mono ?_;rintro e w2 ⟨rfl,hb2⟩;have HZ:=ah (HY.o.next hb2);clear HY hb2 c0 c1;obtain ⟨-,⟨-,c0⟩,⟨-,c1⟩,-⟩:=HZ.o;generalize nH p.ds [] 0 0 0 0=dd at *;cases h1:(dd.1 != 0)
  case true=>
   have dV:aj (res=dd):=ah (HE.o.trans (if_pos h1));clear HE KH Mi;go_wp2_with fail
   go_ret2
   exact ⟨yh (by rw [dV.o]; rfl) (by rw [dV.o]; rfl),HZ.o.1⟩
  have HSU:=ah (Mi.o (by simpa using h1));clear Mi;have kG:aj (res=if decide ((4:Int) < p.ts.length) then (2,0) else if (qh p).1 != 0 then qh p else
   if decide (60 < zL p.ts 0) then (2,0) else ((lQ p (oQ p) p.ts 0 [] []).err,(lQ p (oQ p) p.ts 0 [] []).line)):=ah (HE.o.trans (if_neg (by rw [h1]; decide)))
  clear HE;by_cases h4:(4:Int) < (p.ts.length:Int)
  ·have dV:aj (res=(2,0)):=ah (kG.o.trans (if_pos (by simpa using h4)));clear kG KH;go_wp2_with fail
   go_ret2
   exact ⟨yh (by rw [dV.o]; rfl) (by rw [dV.o]; rfl),HZ.o.1⟩
  have HE2:aj (res=if (qh p).1 != 0 then qh p else
   if decide (60 < zL p.ts 0) then (2,0) else ((lQ p (oQ p) p.ts 0 [] []).err,(lQ p (oQ p) p.ts 0 [] []).line)):=ah (kG.o.trans (if_neg (by simpa using h4)))
  have h4':(p.ts.length:Int)<=4:=by omega
  have Tj:aj (p.ts.length<=4):=ah (by omega);clear kG;go_wp2_with fail;refine (Pt p _ aG aH aB aD (HP.o.same HZ.o.1) (by have:=HSU.o; have:=Tj.o; unfold maxLen; omega)).mono ?_;rintro e w3 ⟨rfl,hb3⟩;have HV:=ah (HZ.o.next hb3);clear HZ hb3 c0 c1 h1;obtain ⟨-,⟨-,c0⟩,⟨-,c1⟩,-⟩:=HV.o;generalize qh p=tt at *;cases h2:(tt.1 != 0)
  case true=>
   have dV:aj (res=tt):=ah (HE2.o.trans (if_pos h2));clear HE2 KH;go_wp2_with fail
   go_ret2
   exact ⟨yh (by rw [dV.o]; rfl) (by rw [dV.o]; rfl),HV.o.1⟩
  have iy:aj (res=if decide (60 < zL p.ts 0) then (2,0) else ((lQ p (oQ p) p.ts 0 [] []).err,(lQ p (oQ p) p.ts 0 [] []).line)):=ah (HE2.o.trans (if_neg (by rw [h2]; decide)));clear HE2;have al3:=(HP.o.same HV.o.1).2.2.2;go_wp2_with fail;go_loopw [8,10,40] (fun s8 _ s wr=> ∃(k:Nat) (R:List Th) (n:Int),s= .int .i64 k∧s8= .int .i64 n∧k + R.length=p.ts.length∧zL p.ts 0=zL R n∧gF wr wr.heap.size R aH k∧Sit w wr [(w.heap.size,0,(.slice aG p.ds.length aB)),(w.heap.size,1,(.slice aH p.ts.length aD))]) (fun _ _ s _=>p.ts.length - (intOf s).toNat)
  case atStart=>exact ⟨0,p.ts,0,rfl,rfl,by simp,rfl,al3,HV.o⟩
  case round=>
   obtain ⟨k,R,n,rfl,rfl,hlen,heq,hrow,hsit⟩:=hrel;have HU:=ah hsit;have HQ:=ah heq;clear hsit HV c0 c1 al3 heq h2;obtain ⟨-,⟨-,c0⟩,⟨-,c1⟩,-⟩:=HU.o;cases R with
   | nil=>
     obtain rfl:k=p.ts.length:=(by simpa using hlen);have HN:aj (zL p.ts 0=n):=HQ;by_cases h6:60 < n
     ·have dV:aj (res=(2,0)):=ah (iy.o.trans (if_pos (by rw [HN.o]; simpa using h6)));clear iy KH;go_wp2_with fail
      go_ret2
      exact ⟨yh (by rw [dV.o]; rfl) (by rw [dV.o]; rfl),HU.o.1⟩
     ·have h6':n<=60:=(by omega);obtain ⟨-,t0,r0,hts⟩:=KH.o;have tT:=ah hts;have HHN:aj (oQ p=t0.nm):=ah (by unfold oQ; rw [hts]; rfl);have dV:aj (res=((lQ p t0.nm p.ts 0 [] []).err,(lQ p t0.nm p.ts 0 [] []).line)):=ah (iy.o.trans ((if_neg (by rw [HN.o]; simpa using h6)).trans (by rw [HHN.o])));clear iy KH hts;go_wp2_with fail;refine (OU p _ aG aH aB aD t0 r0 tT.o (by have:=Tj.o; unfold maxLen; omega) (by have:=HSU.o; unfold maxLen; omega) (HP.o.same HU.o.1) (gV.o.same HU.o.1)).mono ?_;rintro e w4 ⟨rfl,hb4⟩;go_wp2_with fail
      go_ret2
      exact ⟨yh (by rw [dV.o]; rfl) (by rw [dV.o]; rfl),(HU.o.next hb4).1⟩
   | cons t R=>
     obtain ⟨⟨b,off,eZ,dM,cK,aZ,rfl,hB,x0,x1,x2,x3,hok,htx,hst,hcl⟩,hrest⟩:=hrow;simp only [List.length_cons] at hlen;have hkl:k < p.ts.length:=(by omega);have qG:=ah hok;have HST:=ah hst;clear hok htx hst hcl;go_upto_region 15 with fail;clear c0 c1;obtain ⟨n2,hn2⟩: ∃n,wr.heap.size=n:=⟨_,rfl⟩;generalize hW2:World.alloc wr _=W2;have HB2:aj (Below wr.heap.size wr W2):=ah (by rw [<- hW2]; exact au _ _);have HV:aj (Sit w W2 ((n2,0,.string t.nm) ::(n2,1,.int .i64 t.line) ::(n2,2,.slice eZ t.cu.length dM) ::(n2,3,.slice cK t.body.len aZ) ::[(w.heap.size,0,(.slice aG p.ds.length aB)),(w.heap.size,1,(.slice (some ⟨b,off,none⟩) p.ts.length aD))])):=ah (by rw [<- hW2]; exact HU.o.Gj hn2 _ _ _ _ _);rw [hn2];clear hW2 hn2 x0 x1 x2 x3;obtain ⟨-,⟨-,c0⟩,⟨-,c1⟩,⟨-,c2⟩,⟨-,c3⟩,⟨-,c4⟩,⟨-,c5⟩,-⟩:=HV.o;go_wp2_with fail;refine (U0 t.body _ cK aZ qG.o.2.2.2 (HST.o.same HB2.o)).mono ?_;rintro e' w4 ⟨rfl,hb4⟩;have jh:=ah (HB2.o.trans (hb4.mono HB2.o.size));clear hb4 c0 c1 c2 c3 c4 c5;go_wp2_with fail;go_roundw
     case rel=>exact ⟨k + 1,R,_,by go_num,rfl,by omega,HQ.o.trans rfl,hrest.same jh.o,HU.o.next jh.o⟩
     case measure=>simp [intOf]; omega
end Go.Proofs.YtgjmahnblcajbaaGreatDoor
