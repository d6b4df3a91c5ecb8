/- Contract of check.count. And what hangs on it. -/
import Derived.Test.YtkmllehjemjgpaaGreatDoorGMC
import Derived.IntWalk
import Derived.Deep.RegionWith
import Derived.Test.YtkmllehjemjgpaaGreatDoorGMK
import Derived.Test.YtkmllehjemjgpaaGreatDoorGME
set_option linter.unusedSimpArgs false
set_option linter.unusedVariables false
set_option maxHeartbeats 40000000
set_option maxRecDepth 1000000
namespace Go.Proofs.YtkmllehjemjgpaaGreatDoor
open Go.RowKit
namespace Md
def EP:aH->Int->Int
 | .nil,n=>n
 | .cons _ b e r,n=>EP r (wrap64 (n+(EP b b.len+EP e e.len)))
def Dh (l:aH):Int:=EP l l.len
end Md
open Md
theorem ag2 (n x:Int):wrap64 (n+wrap64 x)=wrap64 (n+x):=by
 unfold wrap64;omega
theorem wrap_in' (n x y:Int):wrap64 (wrap64 (n+x)+y)=wrap64 (n+(x+y)):=by
 unfold wrap64;omega
def zU (l:aH):Prop:= ∀(w:World) (ao:Option Addr) (cap:Nat),l.len<=maxLen->l.At w w.heap.size ao 0->
 Calls Tryz.prog 29 #[.slice ao l.len cap] w λe w'=>e= .returned (.int .i64 (Dh l))∧Below w.heap.size w w'
theorem I6 (l:aH) (hall:l.All λ_ b e=>zU b∧zU e):zU l:=by
 intro w ao cap hl hat;generalize hres:Dh l=res;have HR:=ah hres;have HAT:=ah hat;have jd:=ah hall;unfold maxLen at hl;clear hres hat hall;go_enter Tryz.func29,Tryz.ntmps29;go_wp2_with fail;go_loopw [3,5,10] (λs3 _ s wr=> ∃(k:Nat) (R:aH) (n:Int),s= .int .i64 k∧s3= .int .i64 n∧k+R.len=l.len∧res=EP R n∧(R.All λ_ b e=>zU b∧zU e)∧R.At wr wr.heap.size ao k∧Below w.heap.size w wr) (λ_ _ s _=>l.len -(intOf s).toNat)
 case atStart=>exact⟨0,l,l.len,rfl,rfl,by simp,HR.o.symm,jd.o,HAT.o,Below.refl _ _⟩
 case round=>
  obtain⟨k,R,n,rfl,rfl,hlen,heq,nX,hrow,hB⟩:=hrel;have HE:=ah heq;have HB:=ah hB;clear heq hB;cases R with
  |nil=>
   obtain rfl:k=l.len:=by simpa[aH.len]using hlen
   go_wp2_with fail;go_ret;exact⟨aV HE.o.symm,HB.o⟩
  |cons h b e R=>
   obtain⟨bl,off,s,rfl,hbl,hin,x0,x1,x2,x3,x4,x5,x6,x7,x8,x9,x10,hrest⟩:=aH.At.head hrow;obtain⟨⟨hsb,hse⟩,AB⟩:=nX;have N8:=ah hsb;have Ch:=ah hse;have dY:=ah hin;have hkl:k<l.len:=by simp only[aH.len]at hlen;omega
   clear hrow hin hsb hse;go_upto_region 5 with fail;obtain⟨nb,hnb⟩: ∃n,wr.heap.size=n:=⟨_,rfl⟩;generalize hW2:World.alloc wr _=W2;have HY:aj (Sit wr W2 (ql nb h b e s [])):=ah (by rw[<- hW2];exact(Sit.start wr).tK hnb _ _ _ _ _ _ _ _ _ _ _ _);rw[hnb];clear hW2 hnb x0 x1 x2 x3 x4 x5 x6 x7 x8 x9 x10;obtain⟨T,F,yX,hst,hF,hnext⟩:=calm W2;have HF:=ah hF;have dJ:=ah hnext;clear hnext hF;have d0:=λx=>(HY.o.next (HF.o x)).2.1.2;have d1:=λx=>(HY.o.next (HF.o x)).2.2.1.2;have d2:=λx=>(HY.o.next (HF.o x)).2.2.2.1.2;have d3:=λx=>(HY.o.next (HF.o x)).2.2.2.2.1.2;have d4:=λx=>(HY.o.next (HF.o x)).2.2.2.2.2.1.2;have d5:=λx=>(HY.o.next (HF.o x)).2.2.2.2.2.2.1.2;have d6:=λx=>(HY.o.next (HF.o x)).2.2.2.2.2.2.2.1.2;have d7:=λx=>(HY.o.next (HF.o x)).2.2.2.2.2.2.2.2.1.2;have d8:=λx=>(HY.o.next (HF.o x)).2.2.2.2.2.2.2.2.2.1.2;have d9:=λx=>(HY.o.next (HF.o x)).2.2.2.2.2.2.2.2.2.2.1.2;have qH:=λx=>(HY.o.next (HF.o x)).2.2.2.2.2.2.2.2.2.2.2.1.2;clear d0 d1 d2 d3 d4 d5 d6 d7 d8;refine gZ F (by kernel_rfl) (by kernel_rfl) hst ?_
   repeat (any_goals (first|go_big_quiet_step ((first|(go_at_call_of 29 (Value.slice s.bR b.len s.aY);refine(N8.o _ s.bR s.aY dY.o.1.2.2.2.2.2.2.1 ((dY.o.same HY.o.1).same (HF.o _)).2.2.2.1).mono ?_;rintro e w' ⟨rfl,hb⟩;exact⟨rfl,dJ.o _ _ hb⟩)|(go_at_call_of 29 (Value.slice s.fH e.len s.dX);refine(Ch.o _ s.fH s.dX dY.o.1.2.2.2.2.2.2.2 ((dY.o.same HY.o.1).same (HF.o _)).2.2.2.2).mono ?_;rintro e w' ⟨rfl,hb⟩;exact⟨rfl,dJ.o _ _ hb⟩)))|(refine wpQuiet_step (λK hK=> ?_);go_simp;first|(refine hK _ ?_;clear hK K)|(split <;> first|(refine hK _ ?_;clear hK K)|(apply Exists.intro;refine⟨λ_=> ?_,hK _ ?_⟩;((first|(go_at_call_of 29 (Value.slice s.bR b.len s.aY);refine(N8.o _ s.bR s.aY dY.o.1.2.2.2.2.2.2.1 ((dY.o.same HY.o.1).same (HF.o _)).2.2.2.1).mono ?_;rintro e w' ⟨rfl,hb⟩;exact⟨rfl,dJ.o _ _ hb⟩)|(go_at_call_of 29 (Value.slice s.fH e.len s.dX);refine(Ch.o _ s.fH s.dX dY.o.1.2.2.2.2.2.2.2 ((dY.o.same HY.o.1).same (HF.o _)).2.2.2.2).mono ?_;rintro e w' ⟨rfl,hb⟩;exact⟨rfl,dJ.o _ _ hb⟩)));clear hK K)))))
   all_goals (refine wpQuiet_nil ?_;rintro _ ⟨x,rfl⟩)
   have HB2:=ah (HY.o.1.trans ((HF.o x).mono HY.o.1.size));clear d9 qH HF dJ hst;generalize F x=W3 at *;go_wp2_with fail;go_roundw
   case rel=>exact⟨k+1,R,_,by go_num,rfl,by simp only[aH.len]at hlen;omega,HE.o.trans (show EP R (wrap64 (n+(Dh b+Dh e)))=_ by rw[<- ag2]),AB,hrest.same HB2.o,HB.o.trans (HB2.o.mono HB.o.size)⟩
   case measure=>simp[intOf];omega
theorem Uw (l:aH):zU l:=I6 l (aH.lM (λ_ b e hb he=>⟨I6 b hb,I6 e he⟩) l)
namespace Md
def qO:List Th->Int->Int
 | [],n=>n
 |t::r,n=>qO r (wrap64 (n+Dh t.body))
theorem Au: ∀(ds pre:List De) (c l n f:Int),(∀d∈ds,iw d=true)->(kL ds pre c l n f).1=0->c+l+n+f<=20->(ds.length:Int)+(c+l+n+f)<=20
 | [],_,_,_,_,_,_,_,h=>by simpa using h
 |d::r,pre,c,l,n,f,hs,h0,h=>by
  have hd:=tT (hs d (by simp));rw[ER]at h0;split at h0
  ·simp at h0
  split at h0
  ·simp at h0
  split at h0
  ·simp at h0
  rename_i hlim;split at h0
  ·simp at h0
  split at h0
  ·simp at h0
  have hl:dc d c<=12∧dl d l<=4∧dn d n<=2∧df d f<=2:=by unfold lim at hlim;simp only[Bool.or_eq_true,decide_eq_true_eq,not_or]at hlim;omega
  have ih:=Au r (pre++[d]) _ _ _ _ (λx hx=>hs x (by simp[hx])) h0 (by omega);have hsum:c+l+n+f+1<=dc d c+dl d l+dn d n+df d f:=by
   unfold dc dl dn df;have hk:d.kind=1∨d.kind=2∨d.kind=3∨d.kind=4∨d.kind=5∨d.kind=6:=by omega
   rcases hk with hk|hk|hk|hk|hk|hk <;> simp[hk] <;> omega
  simp only[List.length_cons];omega
def jP (p:Pr):ByteArray:=(p.ts.head?.map (·.nm)).getD ⟨#[]⟩
def iT (p:Pr):Int×Int:=
 if !oZ p then(3,0)else if(kL p.ds [] 0 0 0 0).1 != 0 then kL p.ds [] 0 0 0 0 else
 if decide ((4:Int)<p.ts.length)then(2,0)else if(jY p).1 != 0 then jY p else
 if decide (60<qO p.ts 0)then(2,0)else((iZ p (jP p) p.ts 0 [] []).err,(iZ p (jP p) p.ts 0 [] []).line)
end Md
theorem BM (p:Pr) (w:World) (aB aD:Option Addr) (aA ay:Nat) (hp:p.At w aB aD) (dG:dD w):
 Calls Tryz.prog 11 #[.agg #[.slice aB p.ds.length aA,.slice aD p.ts.length ay]] w λe w'=>e= .returned (.tuple #[.int .i64 (iT p).1,.int .i64 (iT p).2])∧Below w.heap.size w w':=by
 have HS:aj (iT p=if !oZ p then(3,0)else if(kL p.ds [] 0 0 0 0).1 != 0 then kL p.ds [] 0 0 0 0 else
  if decide ((4:Int)<p.ts.length)then(2,0)else if(jY p).1 != 0 then jY p else
  if decide (60<qO p.ts 0)then(2,0)else((iZ p (jP p) p.ts 0 [] []).err,(iZ p (jP p) p.ts 0 [] []).line)):=ah rfl
 generalize iT p=res at *;have hld:=hp.1;have hlt:=hp.2.1;unfold maxLen at hld hlt;have HP:=ah hp;have iF:=ah dG;clear hp dG;go_enter Tryz.func11,Tryz.ntmps11;go_upto_region 1 with fail;generalize hW:World.alloc w _=W;generalize Value.agg #[_,_]=a0;have HX:=ah ((Sit.start w).vg rfl (.slice aB p.ds.length aA) (.slice aD p.ts.length ay) 25);rw[hW]at HX;clear hW;obtain⟨-,⟨-,c0⟩,⟨-,c1⟩,-⟩:=HX.o;go_wp2_with fail;refine(RL p _ aB aD aA ay (HP.o.same HX.o.1) (iF.o.same HX.o.1)).mono ?_;rintro e w1 ⟨rfl,hb1⟩;have HY:=ah (HX.o.next hb1);clear HX hb1 c0 c1;obtain⟨-,⟨-,c0⟩,⟨-,c1⟩,-⟩:=HY.o;have yH:aj (oZ p=true->(∀d∈p.ds,iw d=true)∧∃t0 r0,p.ts=t0::r0):=ah (λh=>by
  unfold oZ at h;simp only[Bool.and_eq_true,List.all_eq_true,decide_eq_true_eq]at h;refine⟨h.1.1,?_⟩;cases hts:p.ts with
  |nil=>rw[hts]at h;simp at h
  |cons a b=>exact⟨a,b,rfl⟩)
 cases hS:oZ p
 ·have HE:aj (res=(3,0)):=ah (HS.o.trans (by rw[hS];rfl));clear yH;go_wp2_with fail
  go_ret2
  exact⟨oW (by rw[HE.o];rfl) (by rw[HE.o];rfl),HY.o.1⟩
 ·have HE:aj (res=if(kL p.ds [] 0 0 0 0).1 != 0 then kL p.ds [] 0 0 0 0 else
   if decide ((4:Int)<p.ts.length)then(2,0)else if(jY p).1 != 0 then jY p else
   if decide (60<qO p.ts 0)then(2,0)else((iZ p (jP p) p.ts 0 [] []).err,(iZ p (jP p) p.ts 0 [] []).line)):=ah (HS.o.trans (by rw[hS];rfl))
  have vM:=ah (yH.o hS);have Aa:aj ((kL p.ds [] 0 0 0 0).1=0->p.ds.length<=20):=ah (λh0=>by have:=Au p.ds [] 0 0 0 0 vM.o.1 h0 (by omega);omega);clear HS yH;go_wp2_with fail;refine(I7 p.ds _ aB aA HP.o.1 ((HP.o.same HY.o.1).2.2.1) vM.o.1).mono ?_;rintro e w2 ⟨rfl,hb2⟩;have HZ:=ah (HY.o.next hb2);clear HY hb2 c0 c1;obtain⟨-,⟨-,c0⟩,⟨-,c1⟩,-⟩:=HZ.o;generalize kL p.ds [] 0 0 0 0=dd at *;cases h1:(dd.1 != 0)
  case true=>
   have bV:aj (res=dd):=ah (HE.o.trans (if_pos h1));clear HE vM Aa;go_wp2_with fail
   go_ret2
   exact⟨oW (by rw[bV.o];rfl) (by rw[bV.o];rfl),HZ.o.1⟩
  have HSU:=ah (Aa.o (by simpa using h1));clear Aa;have IG:aj (res=if decide ((4:Int)<p.ts.length)then(2,0)else if(jY p).1 != 0 then jY p else
   if decide (60<qO p.ts 0)then(2,0)else((iZ p (jP p) p.ts 0 [] []).err,(iZ p (jP p) p.ts 0 [] []).line)):=ah (HE.o.trans (if_neg (by rw[h1];decide)))
  clear HE;by_cases h4:(4:Int)<(p.ts.length:Int)
  ·have bV:aj (res=(2,0)):=ah (IG.o.trans (if_pos (by simpa using h4)));clear IG vM;go_wp2_with fail
   go_ret2
   exact⟨oW (by rw[bV.o];rfl) (by rw[bV.o];rfl),HZ.o.1⟩
  have HE2:aj (res=if(jY p).1 != 0 then jY p else
   if decide (60<qO p.ts 0)then(2,0)else((iZ p (jP p) p.ts 0 [] []).err,(iZ p (jP p) p.ts 0 [] []).line)):=ah (IG.o.trans (if_neg (by simpa using h4)))
  have h4':(p.ts.length:Int)<=4:=by omega
  have Gu:aj (p.ts.length<=4):=ah (by omega);clear IG;go_wp2_with fail;refine(PZ p _ aB aD aA ay (HP.o.same HZ.o.1) (by have:=HSU.o;have:=Gu.o;unfold maxLen;omega)).mono ?_;rintro e w3 ⟨rfl,hb3⟩;have HV:=ah (HZ.o.next hb3);clear HZ hb3 c0 c1 h1;obtain⟨-,⟨-,c0⟩,⟨-,c1⟩,-⟩:=HV.o;generalize jY p=tt at *;cases h2:(tt.1 != 0)
  case true=>
   have bV:aj (res=tt):=ah (HE2.o.trans (if_pos h2));clear HE2 vM;go_wp2_with fail
   go_ret2
   exact⟨oW (by rw[bV.o];rfl) (by rw[bV.o];rfl),HV.o.1⟩
  have om:aj (res=if decide (60<qO p.ts 0)then(2,0)else((iZ p (jP p) p.ts 0 [] []).err,(iZ p (jP p) p.ts 0 [] []).line)):=ah (HE2.o.trans (if_neg (by rw[h2];decide)));clear HE2;have oU:=(HP.o.same HV.o.1).2.2.2;go_wp2_with fail;go_loopw [8,10,40] (λs8 _ s wr=> ∃(k:Nat) (R:List Th) (n:Int),s= .int .i64 k∧s8= .int .i64 n∧k+R.length=p.ts.length∧qO p.ts 0=qO R n∧fQ wr wr.heap.size R aD k∧Sit w wr [(w.heap.size,0,(.slice aB p.ds.length aA)),(w.heap.size,1,(.slice aD p.ts.length ay))]) (λ_ _ s _=>p.ts.length -(intOf s).toNat)
  case atStart=>exact⟨0,p.ts,0,rfl,rfl,by simp,rfl,oU,HV.o⟩
  case round=>
   obtain⟨k,R,n,rfl,rfl,hlen,heq,hrow,hsit⟩:=hrel;have HU:=ah hsit;have HQ:=ah heq;clear hsit HV c0 c1 oU heq h2;obtain⟨-,⟨-,c0⟩,⟨-,c1⟩,-⟩:=HU.o;cases R with
   |nil=>
    obtain rfl:k=p.ts.length:=(by simpa using hlen);have HN:aj (qO p.ts 0=n):=HQ;by_cases h6:60<n
    ·have bV:aj (res=(2,0)):=ah (om.o.trans (if_pos (by rw[HN.o];simpa using h6)));clear om vM;go_wp2_with fail
     go_ret2
     exact⟨oW (by rw[bV.o];rfl) (by rw[bV.o];rfl),HU.o.1⟩
    ·have h6':n<=60:=(by omega);obtain⟨-,t0,r0,hts⟩:=vM.o;have kF:=ah hts;have HHN:aj (jP p=t0.nm):=ah (by unfold jP;rw[hts];rfl);have bV:aj (res=((iZ p t0.nm p.ts 0 [] []).err,(iZ p t0.nm p.ts 0 [] []).line)):=ah (om.o.trans ((if_neg (by rw[HN.o];simpa using h6)).trans (by rw[HHN.o])));clear om vM hts;go_wp2_with fail;refine(Pw p _ aB aD aA ay t0 r0 kF.o (by have:=Gu.o;unfold maxLen;omega) (by have:=HSU.o;unfold maxLen;omega) (HP.o.same HU.o.1) (iF.o.same HU.o.1)).mono ?_;rintro e w4 ⟨rfl,hb4⟩;go_wp2_with fail
     go_ret2
     exact⟨oW (by rw[bV.o];rfl) (by rw[bV.o];rfl),(HU.o.next hb4).1⟩
   |cons t R=>
    obtain⟨⟨b,off,fC,dw,bR,aY,rfl,hB,x0,x1,x2,x3,hok,htx,hst,hcl⟩,hrest⟩:=hrow;simp only[List.length_cons]at hlen;have hkl:k<p.ts.length:=(by omega);have mZ:=ah hok;have HST:=ah hst;clear hok htx hst hcl;go_upto_region 15 with fail;clear c0 c1;obtain⟨n2,hn2⟩: ∃n,wr.heap.size=n:=⟨_,rfl⟩;generalize hW2:World.alloc wr _=W2;have HB2:aj (Below wr.heap.size wr W2):=ah (by rw[<- hW2];exact ak _ _);have HV:aj (Sit w W2 ((n2,0,.string t.nm)::(n2,1,.int .i64 t.line)::(n2,2,.slice fC t.bg.length dw)::(n2,3,.slice bR t.body.len aY)::[(w.heap.size,0,(.slice aB p.ds.length aA)),(w.heap.size,1,(.slice (some ⟨b,off,none⟩) p.ts.length ay))])):=ah (by rw[<- hW2];exact HU.o.yh hn2 _ _ _ _ _);rw[hn2];clear hW2 hn2 x0 x1 x2 x3;obtain⟨-,⟨-,c0⟩,⟨-,c1⟩,⟨-,c2⟩,⟨-,c3⟩,⟨-,c4⟩,⟨-,c5⟩,-⟩:=HV.o;go_wp2_with fail;refine(Uw t.body _ bR aY mZ.o.2.2.2 (HST.o.same HB2.o)).mono ?_;rintro e' w4 ⟨rfl,hb4⟩;have jS:=ah (HB2.o.trans (hb4.mono HB2.o.size));clear hb4 c0 c1 c2 c3 c4 c5;go_wp2_with fail;go_roundw
    case rel=>exact⟨k+1,R,_,by go_num,rfl,by omega,HQ.o.trans rfl,hrest.same jS.o,HU.o.next jS.o⟩
    case measure=>simp[intOf];omega
end Go.Proofs.YtkmllehjemjgpaaGreatDoor
