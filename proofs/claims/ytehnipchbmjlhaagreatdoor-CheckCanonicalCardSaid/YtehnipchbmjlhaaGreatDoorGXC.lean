/-
  Plain laws of printed statements: their tokens, line for line, and what is parsed of them. No program in sight.
  Plain laws of printed statements: their tokens are parsed as them, lines apart. No program in sight.
  Plain laws of printed programs: they are parsed as themselves, lines apart. No program in sight.
-/
import Derived.Test.YtehnipchbmjlhaaGreatDoorGXB
import Derived.Test.YtehnipchbmjlhaaGreatDoorGMA
import Derived.Test.YtehnipchbmjlhaaGreatDoorGZA
set_option linter.unusedSimpArgs false
set_option linter.unusedVariables false
set_option maxHeartbeats 40000000
set_option maxRecDepth 1000000
section
namespace Go.Proofs.YtehnipchbmjlhaaGreatDoor.Pz
open Go.RowKit Md Tk Fm
inductive SK:aV→Nat→Nat→Prop
 | xE (l:Int) (nm:ByteArray) (o n:Int) (m:ByteArray) (k:aP):dZ (tl nm)=true→dS o n m k=true→SK ⟨1,l,nm,⟨#[]⟩,.nil,o,n,m,k⟩ 0 0
 | Lm (l:Int) (nm:ByteArray) (o' n':Int) (m':ByteArray) (k':aP) (o n:Int) (m:ByteArray) (k:aP):dZ (tl nm)=true→dS o' n' m' k'=true→dS o n m k=true→SK ⟨1,l,nm,⟨#[]⟩,.cons o' n' m' k' .nil,o,n,m,k⟩ 0 0
 | cond (l:Int) (o n:Int) (m:ByteArray) (k:aP) (bl el:Nat):dS o n m k=true→SK ⟨2,l,⟨#[]⟩,⟨#[]⟩,.nil,o,n,m,k⟩ bl el
 | loop (l:Int) (o n:Int) (m:ByteArray) (k:aP) (bl:Nat):dS o n m k=true→SK ⟨3,l,⟨#[]⟩,⟨#[]⟩,.nil,o,n,m,k⟩ bl 0
 | held (w l:Int) (nm:ByteArray) (bl:Nat):w=4∨w=5∨w=6→dZ (tl nm)=true→SK ⟨w,l,nm,⟨#[]⟩,.nil,0,0,⟨#[]⟩,.nil⟩ bl 0
 | block (w l:Int) (bl:Nat):w=7∨w=8→SK ⟨w,l,⟨#[]⟩,⟨#[]⟩,.nil,0,0,⟨#[]⟩,.nil⟩ bl 0
 | word (w l:Int) (nm:ByteArray):w=9∨w=10∨w=11∨w=12∨w=13→dZ (tl nm)=true→SK ⟨w,l,nm,⟨#[]⟩,.nil,0,0,⟨#[]⟩,.nil⟩ 0 0
 | set (l:Int) (nm:ByteArray) (o n:Int) (m:ByteArray) (k:aP):dZ (tl nm)=true→dS o n m k=true→SK ⟨14,l,nm,⟨#[]⟩,.nil,o,n,m,k⟩ 0 0
 | get (l:Int) (nm arg:ByteArray):dZ (tl nm)=true→dZ (tl arg)=true→SK ⟨15,l,nm,arg,.nil,0,0,⟨#[]⟩,.nil⟩ 0 0
theorem Bj {o n:Int} {m:ByteArray} {k:aP} (h:pR o n m k.len=true):o=0∧n=0∧m=⟨#[]⟩∧k= .nil:=by
 unfold pR at h
 simp only [Bool.and_eq_true,beq_iff_eq] at h
 obtain ⟨⟨⟨h1,h2⟩,h3⟩,h4⟩:=h
 rw [Lib.toList_data] at h3
 refine ⟨h1,h2,iT h3,?_⟩
 cases k with
 | nil=>rfl
 | cons=>simp [aP.len] at h4
theorem OD {k:aP} (h:k.len≤1) (hs:iy k=true):k= .nil∨ ∃o n m k',k= .cons o n m k' .nil∧dS o n m k'=true:=by
 match k,h,hs with
 | .nil,_,_=>exact Or.inl rfl
 | .cons o n m k' .nil,_,hs=>
   refine Or.inr ⟨o,n,m,k',rfl,?_⟩
   simp only [iy,Bool.and_eq_true] at hs
   unfold dS; simp only [Bool.and_eq_true]; exact hs.1
 | .cons _ _ _ _ (.cons _ _ _ _ _),h,_=>simp [aP.len] at h
theorem Gh {h:aV} {bl el:Nat} (hs:iq h bl el=true):SK h bl el:=by
 obtain ⟨op,line,nm,arg,idx,o,n,m,k⟩:=h
 unfold iq at hs
 simp only [Bool.and_eq_true] at hs
 obtain ⟨⟨⟨hO,hnm,zJ⟩,⟨hil,hi1⟩,XA⟩,hx,hb,he⟩:=hs
 have hop:1≤op∧op≤15:=by unfold fO at hO; simpa using hO
 have Qp:=of_decide_eq_true hil
 have hix:op≠1→idx= .nil:=by
  intro hne
  rcases OD Qp XA with rfl | ⟨a,b,c,d,rfl,-⟩
  ·rfl
  ·exfalso; simp [aP.len,fI,hne] at hi1
 have hen:op≠2→el=0:=by intro hne; simpa [fE,hne] using he
 have cs:op=1∨op=2∨op=3∨(op=4∨op=5∨op=6)∨(op=7∨op=8)∨(op=9∨op=10∨op=11∨op=12∨op=13)∨op=14∨op=15:=by omega
 rcases cs with rfl | rfl | rfl | h | h | h | rfl | rfl
 ·obtain rfl:bl=0:=by simpa [fB] using hb
  obtain rfl:=hen (by decide)
  have e1:arg=⟨#[]⟩:=iT zJ
  subst e1
  rcases OD Qp XA with rfl | ⟨a,b,c,d,rfl,hd⟩
  ·exact .xE _ _ _ _ _ _ hnm hx
  ·exact .Lm _ _ _ _ _ _ _ _ _ _ hnm hd hx
 ·obtain rfl:=hix (by decide)
  have e1:arg=⟨#[]⟩:=iT zJ
  have e2:nm=⟨#[]⟩:=iT hnm
  subst e1 e2
  exact .cond _ _ _ _ _ _ _ hx
 ·obtain rfl:=hix (by decide)
  obtain rfl:=hen (by decide)
  have e1:arg=⟨#[]⟩:=iT zJ
  have e2:nm=⟨#[]⟩:=iT hnm
  subst e1 e2
  exact .loop _ _ _ _ _ _ hx
 ·obtain rfl:=hix (by omega)
  obtain rfl:=hen (by omega)
  have e1:arg=⟨#[]⟩:=iT (by rcases h with rfl | rfl | rfl <;> exact zJ)
  obtain ⟨rfl,rfl,rfl,rfl⟩:=Bj (o:=o) (n:=n) (m:=m) (k:=k) (by rcases h with rfl | rfl | rfl <;> exact hx)
  subst e1
  exact .held _ _ _ _ h (by rcases h with rfl | rfl | rfl <;> exact hnm)
 ·obtain rfl:=hix (by omega)
  obtain rfl:=hen (by omega)
  have e1:arg=⟨#[]⟩:=iT (by rcases h with rfl | rfl <;> exact zJ)
  have e2:nm=⟨#[]⟩:=iT (by rcases h with rfl | rfl <;> exact hnm)
  obtain ⟨rfl,rfl,rfl,rfl⟩:=Bj (o:=o) (n:=n) (m:=m) (k:=k) (by rcases h with rfl | rfl <;> exact hx)
  subst e1 e2
  exact .block _ _ _ h
 ·obtain rfl:=hix (by omega)
  obtain rfl:=hen (by omega)
  obtain rfl:bl=0:=by rcases h with rfl | rfl | rfl | rfl | rfl <;> simpa [fB] using hb
  have e1:arg=⟨#[]⟩:=iT (by rcases h with rfl | rfl | rfl | rfl | rfl <;> exact zJ)
  obtain ⟨rfl,rfl,rfl,rfl⟩:=Bj (o:=o) (n:=n) (m:=m) (k:=k) (by rcases h with rfl | rfl | rfl | rfl | rfl <;> exact hx)
  subst e1
  exact .word _ _ _ h (by rcases h with rfl | rfl | rfl | rfl | rfl <;> exact hnm)
 ·obtain rfl:=hix (by decide)
  obtain rfl:=hen (by decide)
  obtain rfl:bl=0:=by simpa [fB] using hb
  have e1:arg=⟨#[]⟩:=iT zJ
  subst e1
  exact .set _ _ _ _ _ _ hnm hx
 ·obtain rfl:=hix (by decide)
  obtain rfl:=hen (by decide)
  obtain rfl:bl=0:=by simpa [fB] using hb
  obtain ⟨rfl,rfl,rfl,rfl⟩:=Bj (o:=o) (n:=n) (m:=m) (k:=k) hx
  exact .get _ _ _ hnm zJ
def FL (op:Int) (nb ne:Nat) (none:Bool):Nat:=if op < 2 || 8 < op then 1 else if none then 2 + nb else 3 + nb + ne
def bY:aN→Nat
 | .nil=>0
 | .cons h b e r=>FL h.op (bY b) (bY e) (iB e) + bY r
def jy (ln:Nat) (op:Int):Tok:=⟨3,tl (iK op),ln⟩
def gJ (ln:Nat) (nm:ByteArray):Tok:=⟨1,tl nm,ln⟩
def Yv (ln:Nat):aP→aA
 | .nil=>[]
 | .cons o n m k _=>sg ln [91] ::(xT ln o n m k++[sg ln [93]])
def wJ (ln:Nat) (h:aV):aA:=
 if h.op == 1 then gJ ln h.nm ::(Yv ln h.idx++(sg ln [61] ::(xT ln h.bD h.xn h.bC h.aL++[sg ln [59]])))
 else if h.op == 2 || h.op == 3 then jy ln h.op ::(xT ln h.bD h.xn h.bC h.aL++[sg ln [123]])
 else if h.op == 4 || h.op == 5 || h.op == 6 then [jy ln h.op,gJ ln h.nm,sg ln [123]]
 else if h.op == 7 || h.op == 8 then [jy ln h.op,sg ln [123]]
 else if h.op == 14 then jy ln h.op ::gJ ln h.nm ::(xT ln h.bD h.xn h.bC h.aL++[sg ln [59]])
 else if h.op == 15 then [jy ln h.op,gJ ln h.nm,gJ ln h.arg,sg ln [59]]
 else [jy ln h.op,gJ ln h.nm,sg ln [59]]
def Sk (ln:Nat):Tok:=⟨3,[101,108,115,101],ln⟩
def qL (ln:Nat) (h:aV) (B:aA) (nb:Nat) (E:aA) (ne:Nat) (none:Bool):aA:=
 if h.op < 2 || 8 < h.op then wJ ln h
 else if none then wJ ln h++(B++[sg (ln + 1 + nb) [125]])
 else wJ ln h++(B++(sg (ln + 1 + nb) [125] ::Sk (ln + 1 + nb) ::sg (ln + 1 + nb) [123] ::(E++[sg (ln + 2 + nb + ne) [125]])))
def gU:aN→Nat→aA
 | .nil,_=>[]
 | .cons h b e r,ln=>qL ln h (gU b (ln + 1)) (bY b) (gU e (ln + 2 + bY b)) (bY e) (iB e)++gU r (ln + FL h.op (bY b) (bY e) (iB e))
def D9:aN→Nat→aN
 | .nil,_=> .nil
 | .cons h b e r,ln=> .cons {h with line:=(ln:Int)} (D9 b (ln + 1)) (D9 e (ln + 2 + bY b)) (D9 r (ln + FL h.op (bY b) (bY e) (iB e)))
def yP:aN→Prop
 | .nil=>True
 | .cons h b e r=>((h.xn≤9223372036854775807∧Ab h.aL)∧Ab h.idx)∧yP b∧yP e∧yP r
theorem Bc {w:World} {B:Nat} : ∀ {l:aN} {ao:Option Addr} {k:Nat},l.At w B ao k→yP l
 | .nil,_,_,_=>trivial
 | .cons h b e r,ao,k,hat=>by
   obtain ⟨⟨bl,off,dF,bT,bS,bf,bG,aS,dw,bR,eq,hB,c0,c1,c2,c3,c4,c5,c6,c7,c8,c9,c10,hok,h1,h2,h3,h4⟩,hr⟩:=hat
   exact ⟨⟨⟨hok.2.2.2.2.2.1.2.1.2,DJ h2⟩,DJ h1⟩,Bc h3,Bc h4,Bc hr⟩
theorem yF (ln:Nat): ∀(d:Nat) (rest:List UInt8),Sc (tl (mU d)) ln [] ln rest
 | 0,rest=>Sc.nil ln rest
 | d + 1,rest=>by
   rw [show mU (d + 1)=mU d++⟨#[32,32]⟩ from rfl,bq]
   exact (yF ln d _).app ((Sc.sp ln _).app (Sc.sp ln rest))
theorem OV (op:Int) (h:2≤op∧op≤15):tl (iK op) ∈ xY:=by
 have:op=2∨op=3∨op=4∨op=5∨op=6∨op=7∨op=8∨op=9∨op=10∨op=11∨op=12∨op=13∨op=14∨op=15:=by omega
 rcases this with rfl | rfl | rfl | rfl | rfl | rfl | rfl | rfl | rfl | rfl | rfl | rfl | rfl | rfl <;> decide
theorem Sc.cast {l:List UInt8} {n n':Nat} {ts us:aA} {rest:List UInt8} (h:Sc l n ts n' rest) (e:ts=us):Sc l n us n' rest:=e ▸ h
theorem qV (r:List UInt8):ru (32 ::r):=kS (by decide)
theorem Ey (r:List UInt8):ru (59 ::r):=kS (by decide)
theorem VE (r:List UInt8):ru (91 ::r):=kS (by decide)
theorem VZ (r:List UInt8):ru (93 ::r):=kS (by decide)
theorem Ub {h:aV} {bl el:Nat} (hs:iq h bl el=true) (hf:(h.xn≤9223372036854775807∧Ab h.aL)∧Ab h.idx) (ln:Nat) (rest:List UInt8):Sc (tl (eH h)) ln (wJ ln h) ln rest:=by
 have kw: ∀(op:Int) (rest:List UInt8),2≤op∧op≤15→Sc (tl (iK op)++[32]) ln [jy ln op] ln rest:=fun op rest h=>((Sc.kw (OV op h) (qV _)).app (Sc.sp ln rest)).cast rfl
 have br: ∀rest,Sc [32,123] ln [sg ln [123]] ln rest:=fun rest=>(Sc.sp ln _).app (Sc.lone ln (c:=123) (by decide) rest)
 have sm: ∀rest,Sc [59] ln [sg ln [59]] ln rest:=fun rest=>Sc.lone ln (c:=59) (by decide) rest
 have eqs: ∀rest,Sc [32,61,32] ln [sg ln [61]] ln rest:=fun rest=>(Sc.sp ln _).app (((Sc.sign ln (x:=[61]) (by decide) _)).app (Sc.sp ln rest))
 cases Gh hs with
 | xE l nm o n m k h1 h2=>
   have hx:=(uG (op:=o) (n:=n) (nm:=m) (kids:=k) h2 hf.1.1 hf.1.2 ln).1
   rw [show eH ⟨1,l,nm,⟨#[]⟩,.nil,o,n,m,k⟩=(((nm++⟨#[]⟩)++⟨#[32,61,32]⟩)++bM o n m k)++⟨#[59]⟩ from rfl,bq,bq,bq,bq]
   refine (((((Sc.name h1 (qV _)).app (Sc.nil ln _)).app (eqs _)).app (hx _ (Ey _))).app (sm rest)).cast ?_
   simp [wJ,gJ,Yv]
 | Lm l nm o' n' m' k' o n m k h1 h3 h2=>
   have hx:=(uG (op:=o) (n:=n) (nm:=m) (kids:=k) h2 hf.1.1 hf.1.2 ln).1
   have hi:=(uG (op:=o') (n:=n') (nm:=m') (kids:=k') h3 hf.2.1.1 hf.2.1.2 ln).1
   rw [show eH ⟨1,l,nm,⟨#[]⟩,.cons o' n' m' k' .nil,o,n,m,k⟩=(((nm++((⟨#[91]⟩++bM o' n' m' k')++⟨#[93]⟩))++⟨#[32,61,32]⟩)++bM o n m k)++⟨#[59]⟩ from rfl,bq,bq,bq,bq,bq,bq]
   refine (((((Sc.name h1 (VE _)).app (((Sc.lone ln (c:=91) (by decide) _).app (hi _ (VZ _))).app (Sc.lone ln (c:=93) (by decide) _))).app (eqs _)).app (hx _ (Ey _))).app (sm rest)).cast ?_
   simp [wJ,gJ,Yv,sg]
 | cond l o n m k bl el h2=>
   have hx:=(uG (op:=o) (n:=n) (nm:=m) (kids:=k) h2 hf.1.1 hf.1.2 ln).1
   rw [show eH ⟨2,l,⟨#[]⟩,⟨#[]⟩,.nil,o,n,m,k⟩=((iK 2++⟨#[32]⟩)++bM o n m k)++⟨#[32,123]⟩ from rfl,bq,bq,bq]
   exact (((kw 2 _ (by decide)).app (hx _ (qV _))).app (br rest)).cast (by simp [wJ])
 | loop l o n m k bl h2=>
   have hx:=(uG (op:=o) (n:=n) (nm:=m) (kids:=k) h2 hf.1.1 hf.1.2 ln).1
   rw [show eH ⟨3,l,⟨#[]⟩,⟨#[]⟩,.nil,o,n,m,k⟩=((iK 3++⟨#[32]⟩)++bM o n m k)++⟨#[32,123]⟩ from rfl,bq,bq,bq]
   exact (((kw 3 _ (by decide)).app (hx _ (qV _))).app (br rest)).cast (by simp [wJ])
 | held w l nm bl hw h1=>
   rw [show eH ⟨w,l,nm,⟨#[]⟩,.nil,0,0,⟨#[]⟩,.nil⟩=((iK w++⟨#[32]⟩)++nm)++⟨#[32,123]⟩ from by rcases hw with rfl | rfl | rfl <;> rfl,bq,bq,bq]
   exact (((kw w _ (by omega)).app (Sc.name h1 (qV _))).app (br rest)).cast (by rcases hw with rfl | rfl | rfl <;> simp [wJ,gJ])
 | block w l bl hw=>
   rw [show eH ⟨w,l,⟨#[]⟩,⟨#[]⟩,.nil,0,0,⟨#[]⟩,.nil⟩=iK w++⟨#[32,123]⟩ from by rcases hw with rfl | rfl <;> rfl,bq]
   exact ((Sc.kw (OV w (by omega)) (qV _)).app (br rest)).cast (by rcases hw with rfl | rfl <;> simp [wJ,jy])
 | word w l nm hw h1=>
   rw [show eH ⟨w,l,nm,⟨#[]⟩,.nil,0,0,⟨#[]⟩,.nil⟩=((iK w++⟨#[32]⟩)++nm)++⟨#[59]⟩ from by rcases hw with rfl | rfl | rfl | rfl | rfl <;> rfl,bq,bq,bq]
   exact (((kw w _ (by omega)).app (Sc.name h1 (Ey _))).app (sm rest)).cast (by rcases hw with rfl | rfl | rfl | rfl | rfl <;> simp [wJ,gJ])
 | set l nm o n m k h1 h2=>
   have hx:=(uG (op:=o) (n:=n) (nm:=m) (kids:=k) h2 hf.1.1 hf.1.2 ln).1
   rw [show eH ⟨14,l,nm,⟨#[]⟩,.nil,o,n,m,k⟩=((((iK 14++⟨#[32]⟩)++nm)++⟨#[32]⟩)++bM o n m k)++⟨#[59]⟩ from rfl,bq,bq,bq,bq,bq]
   exact (((((kw 14 _ (by decide)).app (Sc.name h1 (qV _))).app (Sc.sp ln _)).app (hx _ (Ey _))).app (sm rest)).cast (by simp [wJ,gJ])
 | get l nm arg h1 h2=>
   rw [show eH ⟨15,l,nm,arg,.nil,0,0,⟨#[]⟩,.nil⟩=((((iK 15++⟨#[32]⟩)++nm)++⟨#[32]⟩)++arg)++⟨#[59]⟩ from rfl,bq,bq,bq,bq,bq]
   exact (((((kw 15 _ (by decide)).app (Sc.name h1 (qV _))).app (Sc.sp ln _)).app (Sc.name h2 (Ey _))).app (sm rest)).cast (by simp [wJ,gJ])
theorem YW {h:aV} {bl el:Nat} (hs:iq h bl el=true):1≤h.op∧h.op≤15:=by
 cases Gh hs <;> (dsimp only; omega)
theorem CO: ∀(l:aN) (d ln:Nat) (rest:List UInt8),fK l=true→yP l→Sc (tl (jT l d)) ln (gU l ln) (ln + bY l) rest
 | .nil,_,ln,rest,_,_=>Sc.nil ln rest
 | .cons h b e r,d,ln,rest,hs,hf=>by
   simp only [fK,Bool.and_eq_true] at hs
   obtain ⟨⟨hs1,hsb,hse⟩,hsr⟩:=hs
   obtain ⟨hfh,hfb,hfe,hfr⟩:=hf
   have hop:=YW hs1
   have hh:=fun rest=>Ub hs1 hfh ln rest
   have ir:=fun n=>CO r d n rest hsr hfr
   rw [show jT (.cons h b e r) d=FH d h (jT b (d + 1)) (jT e (d + 1)) (iB e)++jT r d from rfl,bq]
   rw [show gU (.cons h b e r) ln=qL ln h (gU b (ln + 1)) (bY b) (gU e (ln + 2 + bY b)) (bY e) (iB e)++gU r (ln + FL h.op (bY b) (bY e) (iB e)) from rfl]
   rw [show bY (.cons h b e r)=FL h.op (bY b) (bY e) (iB e) + bY r from rfl,← Nat.add_assoc]
   refine Sc.app ?_ (ir _)
   have h10: ∀rest n,Sc [10] n [] (n + 1) rest:=fun rest n=>Sc.nl n rest
   have hcl: ∀rest n,Sc [125,10] n [sg n [125]] (n + 1) rest:=fun rest n=>(Sc.lone n (c:=125) (by decide) _).app (Sc.nl n rest)
   have hel: ∀rest n,Sc (tl NM) n [sg n [125],Sk n,sg n [123]] (n + 1) rest:=fun rest n=>
    (((((Sc.lone n (c:=125) (by decide) _).app (Sc.sp n _)).app (Sc.kw (x:=[101,108,115,101]) (by decide) (qV _))).app (Sc.sp n _)).app (Sc.lone n (c:=123) (by decide) _)).app (Sc.nl n rest)
   unfold FH qL FL
   rw [if_neg (by simp; omega)]
   by_cases hlf:(decide (h.op < 2) || decide (8 < h.op))=true
   ·rw [if_pos hlf,if_pos hlf,if_pos hlf,bq,bq]
    exact (((yF ln d _).app (hh _)).app (h10 _ ln)).cast (by simp)
   ·rw [if_neg hlf,if_neg hlf,if_neg hlf]
    cases hne:iB e
    ·simp only [Bool.false_eq_true,if_false,bq]
     have ib:=fun rest=>CO b (d + 1) (ln + 1) rest hsb hfb
     have ie: ∀rest,Sc (tl (jT e (d + 1))) (ln + 1 + bY b + 1) (gU e (ln + 2 + bY b)) (ln + 2 + bY b + bY e) rest:=fun rest=>by
      rw [show ln + 1 + bY b + 1=ln + 2 + bY b by omega]
      exact CO e (d + 1) (ln + 2 + bY b) rest hse hfe
     have q:=((((((((yF ln d _).app (hh _)).app (h10 _ ln)).app (ib _)).app (yF (ln + 1 + bY b) d _)).app (hel _ (ln + 1 + bY b))).app (ie _)).app (yF (ln + 2 + bY b + bY e) d _)).app (hcl (tl (jT r d)++rest) (ln + 2 + bY b + bY e))
     rw [show ln + (3 + bY b + bY e)=ln + 2 + bY b + bY e + 1 by omega]
     exact q.cast (by simp)
    ·simp only [if_true,bq]
     have ib:=fun rest=>CO b (d + 1) (ln + 1) rest hsb hfb
     have q:=(((((yF ln d _).app (hh _)).app (h10 _ ln)).app (ib _)).app (yF (ln + 1 + bY b) d _)).app (hcl (tl (jT r d)++rest) (ln + 1 + bY b))
     rw [show ln + (2 + bY b)=ln + 1 + bY b + 1 by omega]
     exact q.cast (by simp)
end Go.Proofs.YtehnipchbmjlhaaGreatDoor.Pz
end
section
namespace Go.Proofs.YtehnipchbmjlhaaGreatDoor.Pz
open Go.RowKit Md Tk Fm
def RZ (b:Bool) (ts:aA) (f:Nat):Prop:=3 * ts.length + (if b then 0 else 1) < f
def PS (b:Bool) (ts:aA) (l:aN) (r:aA):Prop:= ∀f,RZ b ts f→ps f b ts= .ok l r
theorem PS.len {b:Bool} {ts r:aA} {l:aN} (h:PS b ts l r):r.length < ts.length:=yw _ b ts l r (h (3 * ts.length + 2) (by unfold RZ; split <;> omega))
theorem wK {b:Bool} {ts:aA} {f:Nat} (h:RZ b ts f): ∃g,f=g + 1:=by unfold RZ at h; exact ⟨f - 1,by omega⟩
theorem PS.nil {ln:Nat} {r:aA} :PS false (sg ln [125] ::r) .nil r:=by
 intro f hf
 obtain ⟨g,rfl⟩:=wK hf
 unfold ps
 rw [if_pos (by rfl)]; rfl
theorem PS.cons {ts r1 r:aA} {h:aV} {b e l:aN} (h0:at' [125] ts=false) (h1:PS true ts (one h b e) r1) (h2:PS false r1 l r):PS false ts (.cons h b e l) r:=by
 intro f hf
 obtain ⟨g,rfl⟩:=wK hf
 have hl:=h1.len
 have hf':3 * ts.length + 1 < g + 1:=hf
 unfold ps
 rw [if_neg (by rw [h0]; decide),h1 g (by show 3 * ts.length + 0 < g; omega)]
 dsimp only
 rw [h2 g (by show 3 * r1.length + 1 < g; omega)]
 rfl
theorem vo (f ln:Nat) (ts:aA):blk f (sg ln [123] ::ts)=ps f false ts:=rfl
theorem Gz (ln:Nat) (r:aA):Stop 1 (sg ln [59] ::r):=xR ln 1 [59] r (by decide) (by decide) (Nat.le_refl _)
theorem X5 (ln:Nat) (r:aA):Stop 1 (sg ln [93] ::r):=xR ln 1 [93] r (by decide) (by decide) (Nat.le_refl _)
theorem Ej (ln:Nat) (r:aA):Stop 1 (sg ln [123] ::r):=xR ln 1 [123] r (by decide) (by decide) (Nat.le_refl _)
theorem Oc (f n:Nat) (nm:ByteArray) (ts:aA):ps (f + 1) true (gJ n nm ::ts)=xE {hd 1 n with nm:=tx (tl nm)} ts:=rfl
theorem Ns (h:aV) (n:Nat) (ts:aA):xE h (sg n [61] ::ts)=((expr ts).map fun x=>one (aV.ex h x) .nil .nil).close [59]:=rfl
theorem Vp (h:aV) (n:Nat) (ts:aA):xE h (sg n [91] ::ts)=(((expr ts).close [93]).map (fun x=> {h with idx:= .cons x.op x.n x.nm x.kids .nil})).bind fun h ts=>(need [61] ts).bind fun _ ts=>(((expr ts).map fun x=>one (aV.ex h x) .nil .nil).close [59]):=rfl
theorem SA (f n:Nat) (ts:aA):ps (f + 1) true (jy n 2 ::ts)=(expr ts).bind fun x r=>(blk f r).bind fun b r=>if at' [101,108,115,101] r then (blk f r.tail).map (one (aV.ex (hd 2 n) x) b) else .ok (one (aV.ex (hd 2 n) x) b .nil) r:=rfl
theorem QZ (f n:Nat) (ts:aA):ps (f + 1) true (jy n 3 ::ts)=(expr ts).bind fun x r=>(blk f r).map fun b=>one (aV.ex (hd 3 n) x) b .nil:=rfl
theorem Uh {w:Int} (hw:w=4∨w=5∨w=6) (f n:Nat) (nm:ByteArray) (ts:aA):ps (f + 1) true (jy n w ::gJ n nm ::ts)=(blk f ts).map fun b=>one {hd w n with nm:=tx (tl nm)} b .nil:=by rcases hw with rfl | rfl | rfl <;> rfl
theorem Rv {w:Int} (hw:w=7∨w=8) (f n:Nat) (ts:aA):ps (f + 1) true (jy n w ::ts)=(blk f ts).map fun b=>one (hd w n) b .nil:=by rcases hw with rfl | rfl <;> rfl
theorem V8 {w:Int} (hw:w=9∨w=10∨w=11∨w=12∨w=13) (f n m:Nat) (nm:ByteArray) (ts:aA):ps (f + 1) true (jy n w ::gJ n nm ::sg m [59] ::ts)= .ok (one {hd w n with nm:=tx (tl nm)} .nil .nil) ts:=by rcases hw with rfl | rfl | rfl | rfl | rfl <;> rfl
theorem Xq (f n:Nat) (nm:ByteArray) (ts:aA):ps (f + 1) true (jy n 14 ::gJ n nm ::ts)=((expr ts).map fun x=>one (aV.ex {hd 14 n with nm:=tx (tl nm)} x) .nil .nil).close [59]:=rfl
theorem Wh (f n m:Nat) (nm arg:ByteArray) (ts:aA):ps (f + 1) true (jy n 15 ::gJ n nm ::gJ n arg ::sg m [59] ::ts)= .ok (one {hd 15 n with nm:=tx (tl nm),arg:=tx (tl arg)} .nil .nil) ts:=rfl
theorem PS.loop {n m:Nat} {X ts r:aA} {x:E} {b:aN} (hx:expr X= .ok x (sg m [123] ::ts)) (h:PS false ts b r):PS true (jy n 3 ::X) (one (aV.ex (hd 3 n) x) b .nil) r:=by
 intro f hf
 obtain ⟨g,rfl⟩:=wK hf
 have hl:=lV hx
 have hf':3 * (X.length + 1) + 0 < g + 1:=hf
 rw [List.length_cons] at hl
 rw [QZ,hx]
 show (blk g (sg m [123] ::ts)).map _=_
 rw [vo,h g (by show 3 * ts.length + 1 < g; omega)]; rfl
theorem PS.cond {n m:Nat} {X ts r:aA} {x:E} {b:aN} (hx:expr X= .ok x (sg m [123] ::ts)) (h:PS false ts b r) (hr:at' [101,108,115,101] r=false):PS true (jy n 2 ::X) (one (aV.ex (hd 2 n) x) b .nil) r:=by
 intro f hf
 obtain ⟨g,rfl⟩:=wK hf
 have hl:=lV hx
 have hf':3 * (X.length + 1) + 0 < g + 1:=hf
 rw [List.length_cons] at hl
 rw [SA,hx]
 show (blk g (sg m [123] ::ts)).bind _=_
 rw [vo,h g (by show 3 * ts.length + 1 < g; omega)]
 show (if at' [101,108,115,101] r then _ else _)=_
 rw [hr]; rfl
theorem PS.Ze {n m m':Nat} {X ts RJ r:aA} {x:E} {b e:aN} (hx:expr X= .ok x (sg m [123] ::ts)) (h:PS false ts b (Sk m' ::sg m' [123] ::RJ)) (h2:PS false RJ e r):PS true (jy n 2 ::X) (one (aV.ex (hd 2 n) x) b e) r:=by
 intro f hf
 obtain ⟨g,rfl⟩:=wK hf
 have hl:=lV hx
 have hl2:=h.len
 have hf':3 * (X.length + 1) + 0 < g + 1:=hf
 rw [List.length_cons] at hl
 simp only [List.length_cons] at hl2
 rw [SA,hx]
 show (blk g (sg m [123] ::ts)).bind _=_
 rw [vo,h g (by show 3 * ts.length + 1 < g; omega)]
 show (blk g (sg m' [123] ::RJ)).map _=_
 rw [vo,h2 g (by show 3 * RJ.length + 1 < g; omega)]; rfl
theorem PS.held {w:Int} (hw:w=4∨w=5∨w=6) {n m:Nat} {nm:ByteArray} {ts r:aA} {b:aN} (h:PS false ts b r):PS true (jy n w ::gJ n nm ::sg m [123] ::ts) (one {hd w n with nm:=nm} b .nil) r:=by
 intro f hf
 obtain ⟨g,rfl⟩:=wK hf
 have hf':3 * (ts.length + 1 + 1 + 1) + 0 < g + 1:=hf
 rw [Uh hw,vo,h g (by show 3 * ts.length + 1 < g; omega),kW]; rfl
theorem PS.block {w:Int} (hw:w=7∨w=8) {n m:Nat} {ts r:aA} {b:aN} (h:PS false ts b r):PS true (jy n w ::sg m [123] ::ts) (one (hd w n) b .nil) r:=by
 intro f hf
 obtain ⟨g,rfl⟩:=wK hf
 have hf':3 * (ts.length + 1 + 1) + 0 < g + 1:=hf
 rw [Rv hw,vo,h g (by show 3 * ts.length + 1 < g; omega)]; rfl
theorem len_nil {l:aN} (h:l.len=0):l= .nil:=by
 cases l with
 | nil=>rfl
 | cons=>simp [aN.len] at h
def YD (l:aN):Prop:= ∀(ln m:Nat) (r:aA),PS false (gU l ln++(sg m [125] ::r)) (D9 l ln) r
theorem Zv {h:aV} {b e:aN} (hs:iq h b.len e.len=true) (ihb:YD b) (H8:YD e) (ln:Nat) (r:aA) (hr:at' [101,108,115,101] r=false):
 PS true (qL ln h (gU b (ln + 1)) (bY b) (gU e (ln + 2 + bY b)) (bY e) (iB e)++r) (one {h with line:=(ln:Int)} (D9 b (ln + 1)) (D9 e (ln + 2 + bY b))) r:=by
 generalize hbl:b.len=bl at hs
 generalize hel:e.len=el at hs
 have leaf: ∀ {T:aA} {s:aN},(∀g,ps (g + 1) true (T++r)= .ok s r)→PS true (T++r) s r:=fun h f hf=>by
  obtain ⟨g,rfl⟩:=wK hf
  exact h g
 cases Gh hs with
 | xE l nm o n m k h1 h2=>
   obtain rfl:=len_nil hbl
   obtain rfl:=len_nil hel
   rw [show qL ln ⟨1,l,nm,⟨#[]⟩,.nil,o,n,m,k⟩ (gU .nil (ln + 1)) (bY .nil) (gU .nil (ln + 2 + bY .nil)) (bY .nil) (iB .nil)=gJ ln nm ::sg ln [61] ::(xT ln o n m k++[sg ln [59]]) from rfl]
   refine leaf fun g=> ?_
   rw [List.cons_append,List.cons_append,List.append_assoc,List.singleton_append,Oc,Ns,rP h2 ln _ (Gz ln _),kW]
   rfl
 | Lm l nm o' n' m' k' o n m k h1 h3 h2=>
   obtain rfl:=len_nil hbl
   obtain rfl:=len_nil hel
   rw [show qL ln ⟨1,l,nm,⟨#[]⟩,.cons o' n' m' k' .nil,o,n,m,k⟩ (gU .nil (ln + 1)) (bY .nil) (gU .nil (ln + 2 + bY .nil)) (bY .nil) (iB .nil)=gJ ln nm ::sg ln [91] ::((xT ln o' n' m' k'++[sg ln [93]])++(sg ln [61] ::(xT ln o n m k++[sg ln [59]]))) from rfl]
   refine leaf fun g=> ?_
   rw [List.cons_append,List.cons_append,List.append_assoc,List.append_assoc,Oc,Vp,List.singleton_append,rP h3 ln _ (X5 ln _)]
   show ((expr ((xT ln o n m k++[sg ln [59]])++r)).map _).close [59]=_
   rw [List.append_assoc,List.singleton_append,rP h2 ln _ (Gz ln _),kW]
   rfl
 | cond l o n m k bl el h2=>
   cases hne:iB e
   ·rw [show qL ln ⟨2,l,⟨#[]⟩,⟨#[]⟩,.nil,o,n,m,k⟩ (gU b (ln + 1)) (bY b) (gU e (ln + 2 + bY b)) (bY e) false=(jy ln 2 ::(xT ln o n m k++[sg ln [123]]))++(gU b (ln + 1)++(sg (ln + 1 + bY b) [125] ::Sk (ln + 1 + bY b) ::sg (ln + 1 + bY b) [123] ::(gU e (ln + 2 + bY b)++[sg (ln + 2 + bY b + bY e) [125]]))) from rfl]
    simp only [List.cons_append,List.append_assoc,List.nil_append,List.singleton_append]
    exact PS.Ze (rP h2 ln _ (Ej ln _)) (ihb _ _ _) (H8 _ _ r)
   ·have he:e= .nil:=by
     cases e with
     | nil=>rfl
     | cons=>cases hne
    subst he
    rw [show qL ln ⟨2,l,⟨#[]⟩,⟨#[]⟩,.nil,o,n,m,k⟩ (gU b (ln + 1)) (bY b) (gU .nil (ln + 2 + bY b)) (bY .nil) true=(jy ln 2 ::(xT ln o n m k++[sg ln [123]]))++(gU b (ln + 1)++[sg (ln + 1 + bY b) [125]]) from rfl]
    simp only [List.cons_append,List.append_assoc,List.nil_append,List.singleton_append]
    exact PS.cond (rP h2 ln _ (Ej ln _)) (ihb _ _ _) hr
 | loop l o n m k bl h2=>
   obtain rfl:=len_nil hel
   rw [show qL ln ⟨3,l,⟨#[]⟩,⟨#[]⟩,.nil,o,n,m,k⟩ (gU b (ln + 1)) (bY b) (gU .nil (ln + 2 + bY b)) (bY .nil) (iB .nil)=(jy ln 3 ::(xT ln o n m k++[sg ln [123]]))++(gU b (ln + 1)++[sg (ln + 1 + bY b) [125]]) from rfl]
   simp only [List.cons_append,List.append_assoc,List.nil_append,List.singleton_append]
   exact PS.loop (rP h2 ln _ (Ej ln _)) (ihb _ _ _)
 | held w l nm bl hw h1=>
   obtain rfl:=len_nil hel
   rw [show qL ln ⟨w,l,nm,⟨#[]⟩,.nil,0,0,⟨#[]⟩,.nil⟩ (gU b (ln + 1)) (bY b) (gU .nil (ln + 2 + bY b)) (bY .nil) (iB .nil)=jy ln w ::gJ ln nm ::sg ln [123] ::(gU b (ln + 1)++[sg (ln + 1 + bY b) [125]]) from by rcases hw with rfl | rfl | rfl <;> rfl]
   simp only [List.cons_append,List.append_assoc,List.nil_append,List.singleton_append]
   exact PS.held hw (ihb _ _ _)
 | block w l bl hw=>
   obtain rfl:=len_nil hel
   rw [show qL ln ⟨w,l,⟨#[]⟩,⟨#[]⟩,.nil,0,0,⟨#[]⟩,.nil⟩ (gU b (ln + 1)) (bY b) (gU .nil (ln + 2 + bY b)) (bY .nil) (iB .nil)=jy ln w ::sg ln [123] ::(gU b (ln + 1)++[sg (ln + 1 + bY b) [125]]) from by rcases hw with rfl | rfl <;> rfl]
   simp only [List.cons_append,List.append_assoc,List.nil_append,List.singleton_append]
   exact PS.block hw (ihb _ _ _)
 | word w l nm hw h1=>
   obtain rfl:=len_nil hbl
   obtain rfl:=len_nil hel
   rw [show qL ln ⟨w,l,nm,⟨#[]⟩,.nil,0,0,⟨#[]⟩,.nil⟩ (gU .nil (ln + 1)) (bY .nil) (gU .nil (ln + 2 + bY .nil)) (bY .nil) (iB .nil)=[jy ln w,gJ ln nm,sg ln [59]] from by rcases hw with rfl | rfl | rfl | rfl | rfl <;> rfl]
   refine leaf fun g=> ?_
   rw [List.cons_append,List.cons_append,List.cons_append,List.nil_append,V8 hw,kW]
   rfl
 | set l nm o n m k h1 h2=>
   obtain rfl:=len_nil hbl
   obtain rfl:=len_nil hel
   rw [show qL ln ⟨14,l,nm,⟨#[]⟩,.nil,o,n,m,k⟩ (gU .nil (ln + 1)) (bY .nil) (gU .nil (ln + 2 + bY .nil)) (bY .nil) (iB .nil)=jy ln 14 ::gJ ln nm ::(xT ln o n m k++[sg ln [59]]) from rfl]
   refine leaf fun g=> ?_
   rw [List.cons_append,List.cons_append,List.append_assoc,Xq,List.singleton_append,rP h2 ln _ (Gz ln _),kW]
   rfl
 | get l nm arg h1 h2=>
   obtain rfl:=len_nil hbl
   obtain rfl:=len_nil hel
   rw [show qL ln ⟨15,l,nm,arg,.nil,0,0,⟨#[]⟩,.nil⟩ (gU .nil (ln + 1)) (bY .nil) (gU .nil (ln + 2 + bY .nil)) (bY .nil) (iB .nil)=[jy ln 15,gJ ln nm,gJ ln arg,sg ln [59]] from rfl]
   refine leaf fun g=> ?_
   rw [List.cons_append,List.cons_append,List.cons_append,List.cons_append,List.nil_append,Wh,kW,kW]
   rfl
theorem PG {h:aV} {bl el:Nat} (hs:iq h bl el=true) (ln:Nat): ∃t T,wJ ln h=t ::T∧ ∀r,at' [125] (t ::r)=false∧at' [101,108,115,101] (t ::r)=false:=by
 have hk: ∀(w:Int) (r:aA),2≤w∧w≤15→at' [125] (jy ln w ::r)=false∧at' [101,108,115,101] (jy ln w ::r)=false:=by
  intro w r h
  have:w=2∨w=3∨w=4∨w=5∨w=6∨w=7∨w=8∨w=9∨w=10∨w=11∨w=12∨w=13∨w=14∨w=15:=by omega
  rcases this with rfl | rfl | rfl | rfl | rfl | rfl | rfl | rfl | rfl | rfl | rfl | rfl | rfl | rfl <;> exact ⟨rfl,rfl⟩
 cases Gh hs with
 | xE l nm o n m k h1 h2=>exact ⟨gJ ln nm,_,rfl,fun r=>⟨rfl,rfl⟩⟩
 | Lm l nm o' n' m' k' o n m k h1 h3 h2=>exact ⟨gJ ln nm,_,rfl,fun r=>⟨rfl,rfl⟩⟩
 | cond l o n m k bl el h2=>exact ⟨jy ln 2,_,rfl,fun r=>hk _ _ (by decide)⟩
 | loop l o n m k bl h2=>exact ⟨jy ln 3,_,rfl,fun r=>hk _ _ (by decide)⟩
 | held w l nm bl hw h1=>exact ⟨jy ln w,_,by rcases hw with rfl | rfl | rfl <;> rfl,fun r=>hk _ _ (by omega)⟩
 | block w l bl hw=>exact ⟨jy ln w,_,by rcases hw with rfl | rfl <;> rfl,fun r=>hk _ _ (by omega)⟩
 | word w l nm hw h1=>exact ⟨jy ln w,_,by rcases hw with rfl | rfl | rfl | rfl | rfl <;> rfl,fun r=>hk _ _ (by omega)⟩
 | set l nm o n m k h1 h2=>exact ⟨jy ln 14,_,rfl,fun r=>hk _ _ (by decide)⟩
 | get l nm arg h1 h2=>exact ⟨jy ln 15,_,rfl,fun r=>hk _ _ (by decide)⟩
theorem Jj {h:aV} {bl el:Nat} (hs:iq h bl el=true) (ln:Nat) (B:aA) (nb:Nat) (E:aA) (ne:Nat) (none:Bool) (r:aA):
 at' [125] (qL ln h B nb E ne none++r)=false∧at' [101,108,115,101] (qL ln h B nb E ne none++r)=false:=by
 obtain ⟨t,T,e,h⟩:=PG hs ln
 unfold qL
 rw [e]
 split
 ·exact h _
 ·split
  ·rw [List.append_assoc]; exact h _
  ·rw [List.append_assoc]; exact h _
theorem RA: ∀(l:aN) (ln m:Nat) (r:aA),fK l=true→at' [101,108,115,101] (gU l ln++(sg m [125] ::r))=false
 | .nil,_,_,_,_=>rfl
 | .cons h b e l,ln,m,r,hs=>by
   simp only [fK,Bool.and_eq_true] at hs
   rw [show gU (.cons h b e l) ln=qL ln h (gU b (ln + 1)) (bY b) (gU e (ln + 2 + bY b)) (bY e) (iB e)++gU l (ln + FL h.op (bY b) (bY e) (iB e)) from rfl,List.append_assoc]
   exact (Jj hs.1.1 _ _ _ _ _ _ _).2
theorem Gd: ∀(l:aN),fK l=true→YD l
 | .nil,_=>fun _ _ _=>PS.nil
 | .cons h b e l,hs=>by
   have hs':=hs
   simp only [fK,Bool.and_eq_true] at hs'
   obtain ⟨⟨hs1,hsb,hse⟩,hsl⟩:=hs'
   intro ln m r
   rw [show gU (.cons h b e l) ln=qL ln h (gU b (ln + 1)) (bY b) (gU e (ln + 2 + bY b)) (bY e) (iB e)++gU l (ln + FL h.op (bY b) (bY e) (iB e)) from rfl,List.append_assoc]
   exact PS.cons (Jj hs1 _ _ _ _ _ _ _).1 (Zv hs1 (Gd b hsb) (Gd e hse) ln _ (RA l _ m r hsl)) (Gd l hsl _ m r)
end Go.Proofs.YtehnipchbmjlhaaGreatDoor.Pz
end
section
namespace Go.Proofs.YtehnipchbmjlhaaGreatDoor.Pz
open Go.RowKit Md Tk Fm
def FJ (ln:Nat) (k:Int):Tok:=⟨3,tl (pI k),ln⟩
def Kt (ln u:Nat):Tok:=⟨2,Lib.decDigits u,ln⟩
def zk (ln:Nat) (s:Int):aA:=if 0 < s then [sg ln [91],Kt ln s.toNat,sg ln [93]] else []
def inT (ln:Nat) (i:Int):aA:=if i=0 then [] else sg ln [61] ::(if i < 0 then [sg ln [45],Kt ln i.natAbs] else [Kt ln i.toNat])
def FU (ln:Nat) (k:Int) (on:ByteArray):aA:=if k == 5 then [gJ ln on] else []
def BO (ln:Nat) (d:De):aA:=FJ ln d.kind ::gJ ln d.nm ::(zk ln d.size++(inT ln d.init++(FU ln d.kind d.on++[sg ln [59]])))
structure DK (d:De):Prop where
 kind:1≤d.kind∧d.kind≤6
 nm:dZ (tl d.nm)=true
 size:0≤d.size∧(d.size≠0→d.kind=1)
 init:d.init≠ -9223372036854775808∧(d.init≠0→d.kind=1∨d.kind=2)
 on:(d.kind=5→dZ (tl d.on)=true)∧(d.kind≠5→d.on=⟨#[]⟩)
theorem Ls {d:De} (h:fG d=true):DK d:=by
 unfold fG at h
 simp only [Bool.and_eq_true,decide_eq_true_eq,Bool.or_eq_true,beq_iff_eq,bne_iff_ne] at h
 obtain ⟨⟨⟨⟨h1,h2⟩,h3⟩,h4,h5⟩,⟨h6,h7⟩,h8⟩:=h
 refine ⟨⟨h1,h2⟩,h3,⟨h4,fun h=>h5.resolve_left h⟩,⟨h6,fun h=>h7.resolve_left h⟩,fun h=> ?_,fun h=> ?_⟩
 ·rw [h] at h8; exact h8
 ·have:(d.kind == 5)=false:=by simpa using h
  rw [this] at h8; exact iT h8
def TM (ln:Nat) (t:List UInt8) (T:aA):Prop:= ∀rest,ru rest→Sc t ln T ln rest
theorem Em (k:Int) (h:1≤k∧k≤6):tl (pI k) ∈ xY∧jc (tl (pI k))=k:=by
 have:k=1∨k=2∨k=3∨k=4∨k=5∨k=6:=by omega
 rcases this with rfl | rfl | rfl | rfl | rfl | rfl <;> decide
theorem Z4 {d:De} (hs:fG d=true) (hz:d.size≤9223372036854775807) (hi:aU d.init) (ln:Nat) (rest:List UInt8):Sc (tl (BG d)) ln (BO ln d) (ln + 1) rest:=by
 obtain ⟨hk,hn,⟨hs0,hs1⟩,⟨hi0,hi1⟩,ho1,ho2⟩:=Ls hs
 obtain ⟨kind,line,nm,size,init,on⟩:=d
 dsimp only at *
 have w1:TM ln (tl ((pI kind++⟨#[32]⟩)++nm)) [FJ ln kind,gJ ln nm]:=fun rest hr=>by
  rw [bq,bq]
  exact (((Sc.kw (Em kind hk).1 (qV _)).app (Sc.sp ln _)).app (Sc.name hn hr)).cast (by simp [FJ,gJ])
 have w2:TM ln (tl (if 0 < size then ((((pI kind++⟨#[32]⟩)++nm)++⟨#[91]⟩)++lT size)++⟨#[93]⟩ else (pI kind++⟨#[32]⟩)++nm)) ([FJ ln kind,gJ ln nm]++zk ln size):=by
  unfold zk
  split
  ·rename_i hc
   intro rest hr
   rw [bq _ ⟨#[93]⟩,bq _ (lT size),bq _ ⟨#[91]⟩,DL (Int.le_of_lt hc)]
   exact ((((w1 _ (VE _)).app (Sc.lone ln (c:=91) (by decide) _)).app (Sc.dec (by omega) ln (VZ _))).app (Sc.lone ln (c:=93) (by decide) rest)).cast (by simp [sg,Kt])
  ·rw [List.append_nil]; exact w1
 unfold BG
 rw [if_neg (by simp; omega)]
 dsimp only
 generalize (if 0 < size then ((((pI kind++⟨#[32]⟩)++nm)++⟨#[91]⟩)++lT size)++⟨#[93]⟩ else (pI kind++⟨#[32]⟩)++nm)=s2 at *
 have w3:TM ln (tl (if (init != 0)=true then (s2++⟨#[32,61,32]⟩)++lT init else s2)) (([FJ ln kind,gJ ln nm]++zk ln size)++inT ln init):=by
  unfold inT
  by_cases h0:init=0
  ·subst h0
   rw [if_pos rfl,if_neg (by decide),List.append_nil]; exact w2
  ·rw [if_neg h0,if_pos (by simpa using h0)]
   intro rest hr
   rw [bq,bq]
   have eqs: ∀rest,Sc [32,61,32] ln [sg ln [61]] ln rest:=fun rest=>(Sc.sp ln _).app (((Sc.sign ln (x:=[61]) (by decide) _)).app (Sc.sp ln rest))
   by_cases hneg:init < 0
   ·rw [if_pos hneg,show tl (lT init)=[45]++Lib.decDigits init.natAbs from by unfold lT tl; rw [U6 hneg]; rfl]
    exact (((w2 _ (qV _)).app (eqs _)).app ((Sc.lone ln (c:=45) (by decide) _).app (Sc.dec (by have:=hi.1; omega) ln hr))).cast (by simp [sg,Kt])
   ·rw [if_neg hneg,DL (by omega)]
    exact (((w2 _ (qV _)).app (eqs _)).app (Sc.dec (by have:=hi.2; omega) ln hr)).cast (by simp [sg,Kt])
 generalize (if (init != 0)=true then (s2++⟨#[32,61,32]⟩)++lT init else s2)=s3 at *
 have w4:TM ln (tl (if (kind == 5)=true then (s3++⟨#[32]⟩)++on else s3)) ((([FJ ln kind,gJ ln nm]++zk ln size)++inT ln init)++FU ln kind on):=by
  unfold FU
  split
  ·rename_i hc
   intro rest hr
   rw [bq,bq]
   exact (((w3 _ (qV _)).app (Sc.sp ln _)).app (Sc.name (ho1 (by simpa using hc)) hr)).cast (by simp [gJ])
  ·rw [List.append_nil]; exact w3
 generalize (if (kind == 5)=true then (s3++⟨#[32]⟩)++on else s3)=s4 at *
 rw [bq]
 exact ((w4 _ (Ey _)).app ((Sc.lone ln (c:=59) (by decide) _).app (Sc.nl ln rest))).cast (by simp [BO,sg])
theorem EI (u:Nat):val (Lib.decDigits u)=u:=(Bl u).2.1
theorem Vf (d:De) (ln:Nat) (s:Int) (r:aA) (h0:0≤s) (hd:d.size=0) (hr:at' [91] r=false):kU d (zk ln s++r)= .ok {d with size:=s} r:=by
 unfold zk
 by_cases h:0 < s
 ·rw [if_pos h]
  show (if val (Lib.decDigits s.toNat) == 0 then bn.no _ else (bn.ok {d with size:=((val (Lib.decDigits s.toNat):Nat):Int)} r:bn De))=_
  rw [EI,if_neg (by simp; omega),Int.toNat_of_nonneg h0]
 ·obtain rfl:s=0:=by omega
  rw [if_neg h,List.nil_append]
  unfold kU
  rw [if_neg (by rw [hr]; decide),← hd]
theorem K5 (d:De) (ln:Nat) (i:Int) (r:aA) (hd:d.init=0) (hr:at' [61] r=false):iQ d (inT ln i++r)= .ok {d with init:=i} r:=by
 unfold inT
 by_cases h:i=0
 ·subst h
  rw [if_pos rfl,List.nil_append]
  unfold iQ
  rw [if_neg (by rw [hr]; decide),← hd]
 ·rw [if_neg h]
  by_cases hn:i < 0
  ·rw [if_pos hn]
   show (bn.ok {d with init:= -((val (Lib.decDigits i.natAbs):Nat):Int)} r:bn De)=_
   rw [EI,show -((i.natAbs:Nat):Int)=i by omega]
  ·rw [if_neg hn]
   show (bn.ok {d with init:=((val (Lib.decDigits i.toNat):Nat):Int)} r:bn De)=_
   rw [EI,Int.toNat_of_nonneg (by omega)]
theorem ah8 (ln:Nat) (i:Int) (r:aA) (h:at' [91] r=false):at' [91] (inT ln i++r)=false:=by
 unfold inT
 split
 ·exact h
 ·rfl
theorem YX {d:De} (hs:fG d=true) (ln:Nat) (r:aA):pQ (BO ln d++r)= .ok {d with line:=(ln:Int)} r:=by
 obtain ⟨hk,hn,⟨hs0,hs1⟩,⟨hi0,hi1⟩,ho1,ho2⟩:=Ls hs
 obtain ⟨kind,line,nm,size,init,on⟩:=d
 dsimp only at *
 have ht:BO ln ⟨kind,line,nm,size,init,on⟩++r=FJ ln kind ::gJ ln nm ::(zk ln size++(inT ln init++(FU ln kind on++(sg ln [59] ::r)))):=by
  simp [BO]
 rw [ht]
 have hdc:=(Em kind hk).2
 have cs:kind=1∨kind=2∨(kind=3∨kind=4∨kind=6)∨kind=5:=by omega
 rcases cs with rfl | rfl | h | rfl
 ·have e:=ho2 (by decide)
  subst e
  rw [show FU ln 1 (⟨#[]⟩:ByteArray)=[] from rfl,List.nil_append]
  show ((((kU ⟨1,ln,tx (tl nm),0,0,⟨#[]⟩⟩ (zk ln size++(inT ln init++(sg ln [59] ::r)))).bind iQ)):bn De).close [59]=_
  rw [Vf _ ln size _ hs0 rfl (ah8 ln init _ rfl)]
  show ((iQ ⟨1,ln,tx (tl nm),size,0,⟨#[]⟩⟩ (inT ln init++(sg ln [59] ::r)))).close [59]=_
  rw [K5 _ ln init _ rfl rfl,kW]; rfl
 ·have e:=ho2 (by decide)
  subst e
  obtain rfl:size=0:=by
   by_cases h:size=0
   ·exact h
   ·exact absurd (hs1 h) (by decide)
  rw [show FU ln 2 (⟨#[]⟩:ByteArray)=[] from rfl,List.nil_append,show zk ln 0=[] from rfl,List.nil_append]
  show ((iQ ⟨2,ln,tx (tl nm),0,0,⟨#[]⟩⟩ (inT ln init++(sg ln [59] ::r)))).close [59]=_
  rw [K5 _ ln init _ rfl rfl,kW]; rfl
 ·have e:=ho2 (by omega)
  subst e
  obtain rfl:size=0:=by
   by_cases h':size=0
   ·exact h'
   ·exact absurd (hs1 h') (by omega)
  obtain rfl:init=0:=by
   by_cases h':init=0
   ·exact h'
   ·exact absurd (hi1 h') (by omega)
  rw [show zk ln 0=[] from rfl,show inT ln 0=[] from rfl,show FU ln kind (⟨#[]⟩:ByteArray)=[] from by rcases h with rfl | rfl | rfl <;> rfl,List.nil_append,List.nil_append,List.nil_append]
  have:pQ (FJ ln kind ::gJ ln nm ::sg ln [59] ::r)= .ok ⟨kind,ln,tx (tl nm),0,0,⟨#[]⟩⟩ r:=by rcases h with rfl | rfl | rfl <;> rfl
  rw [this,kW]
 ·obtain rfl:size=0:=by
   by_cases h':size=0
   ·exact h'
   ·exact absurd (hs1 h') (by decide)
  obtain rfl:init=0:=by
   by_cases h':init=0
   ·exact h'
   ·exact absurd (hi1 h') (by decide)
  rw [show zk ln 0=[] from rfl,show inT ln 0=[] from rfl,show FU ln 5 on=[gJ ln on] from rfl,List.nil_append,List.nil_append]
  show (bn.ok ⟨5,ln,tx (tl nm),0,0,tx (tl on)⟩ r:bn De)=_
  rw [kW,kW]
def Ag (ln:Nat):Bool→List ByteArray→aA
 | _,[]=>[]
 | c,s ::r=>(if c then [gJ ln s] else [sg ln [44],gJ ln s])++Ag ln false r
theorem Si (ln:Nat): ∀(l:List ByteArray) (c:Bool) (rest:List UInt8),(l.all fun s=>dZ s.data.toList)=true→ru rest→Sc (tl (qz c l)) ln (Ag ln c l) ln rest
 | [],_,rest,_,_=>Sc.nil ln rest
 | s ::r,c,rest,h,hr=>by
   rw [List.all_cons,Bool.and_eq_true] at h
   have ih:=Si ln r false rest h.2 hr
   have hn:ru (tl (qz false r)++rest):=by
    cases r with
    | nil=>exact hr
    | cons a b=>
      show ru (tl ((⟨#[44,32]⟩++a)++qz false b)++rest)
      rw [bq,bq]; exact kS (by decide)
   rw [show qz c (s ::r)=(if c then s else ⟨#[44,32]⟩++s)++qz false r from rfl,bq]
   refine Sc.app ?_ ih
   cases c
   ·simp only [Bool.false_eq_true,if_false,bq]
    exact (((Sc.lone ln (c:=44) (by decide) _).app (Sc.sp ln _)).app (Sc.name h.1 hn)).cast (by simp [sg,gJ]; rfl)
   ·exact Sc.name h.1 hn
theorem Tz (ln:Nat): ∀(r:List ByteArray) (s:ByteArray) (f:Nat) (R:aA),r.length < f→jI f (gJ ln s ::(Ag ln false r++(sg ln [41] ::R)))= .ok (s ::r) (sg ln [41] ::R)
 | [],s,0,R,h=>absurd h (by simp)
 | [],s,f + 1,R,_=>by
   show (bn.ok [tx (tl s)] (sg ln [41] ::R):bn (List ByteArray))=_
   rw [kW]
 | a ::b,s,0,R,h=>absurd h (by simp)
 | a ::b,s,f + 1,R,h=>by
   show ((jI f (gJ ln a ::(Ag ln false b++(sg ln [41] ::R)))).map (tx (tl s) :: ·))=_
   rw [Tz ln b a f R (by simpa using h),kW]; rfl
def PW:List UInt8:=[116,104,114,101,97,100]
def D6 (ln:Nat) (t:Th):aA:=⟨3,PW,ln⟩ ::gJ ln t.nm ::sg ln [40] ::(Ag ln true t.bH++(sg ln [41] ::sg ln [123] ::(gU t.body (ln + 1)++[sg (ln + 1 + bY t.body) [125]])))
def M9 (ln:Nat) (t:Th):Th:=⟨t.nm,ln,t.bH,D9 t.body (ln + 1)⟩
theorem YU {t:Th} (hs:jh t=true) (hf:yP t.body) (ln:Nat) (rest:List UInt8):Sc (tl (Fv t)) ln (D6 ln t) (ln + 2 + bY t.body) rest:=by
 unfold jh at hs
 simp only [Bool.and_eq_true] at hs
 obtain ⟨⟨h1,h2⟩,h3⟩:=hs
 unfold Fv
 simp only [bq]
 have q:=((((((((Sc.kw (x:=PW) (n:=ln) (by decide) (qV _)).app (Sc.sp ln _)).app (Sc.name h1 (kS (by decide)))).app (Sc.lone ln (c:=40) (by decide) _)).app (Si ln t.bH true _ h2 (kS (by decide)))).app ((((Sc.lone ln (c:=41) (by decide) _).app (Sc.sp ln _)).app (Sc.lone ln (c:=123) (by decide) _)).app (Sc.nl ln _))).app (CO t.body 1 (ln + 1) _ h3 hf)).app ((Sc.lone (ln + 1 + bY t.body) (c:=125) (by decide) _).app (Sc.nl _ rest)))
 rw [show ln + 2 + bY t.body=ln + 1 + bY t.body + 1 by omega]
 exact q.cast (by simp [D6,sg,gJ]; rfl)
theorem Zp {t:Th} (hs:jh t=true) (ln:Nat) (r:aA):vk (D6 ln t++r)= .ok (M9 ln t) r:=by
 unfold jh at hs
 simp only [Bool.and_eq_true] at hs
 obtain ⟨⟨h1,h2⟩,h3⟩:=hs
 have ht:D6 ln t++r=⟨3,PW,ln⟩ ::gJ ln t.nm ::sg ln [40] ::(Ag ln true t.bH++(sg ln [41] ::sg ln [123] ::(gU t.body (ln + 1)++(sg (ln + 1 + bY t.body) [125] ::r)))):=by simp [D6]
 rw [ht]
 generalize hX:gU t.body (ln + 1)++(sg (ln + 1 + bY t.body) [125] ::r)=X
 have hb:blk (3 * (sg ln [123] ::X).length + 3) (sg ln [123] ::X)= .ok (D9 t.body (ln + 1)) r:=by
  rw [vo]
  have:=Gd t.body h3 (ln + 1) (ln + 1 + bY t.body) r
  rw [hX] at this
  exact this _ (by show 3 * X.length + 1 < _; simp only [List.length_cons]; omega)
 cases hl:t.bH with
 | nil=>
   show ((blk (3 * (sg ln [123] ::X).length + 3) (sg ln [123] ::X)).map fun b=>(⟨tx (tl t.nm),ln,[],b⟩:Th))=_
   rw [hb,kW]
   unfold M9; rw [hl]; rfl
 | cons s q=>
   show (((jI ((gJ ln s ::(Ag ln false q++(sg ln [41] ::sg ln [123] ::X))).length + 1) (gJ ln s ::(Ag ln false q++(sg ln [41] ::sg ln [123] ::X)))).close [41]).bind fun l r=>(blk (3 * r.length + 3) r).map fun b=>(⟨tx (tl t.nm),ln,l,b⟩:Th))=_
   have hlen: ∀q:List ByteArray,q.length≤(Ag ln false q).length:=by
    intro q
    induction q with
    | nil=>exact Nat.zero_le _
    | cons a b ih=>
      rw [show Ag ln false (a ::b)=[sg ln [44],gJ ln a]++Ag ln false b from rfl,List.length_append]
      simp only [List.length_cons,List.length_nil]; omega
   rw [Tz ln q s _ _ (by have:=hlen q; simp only [List.length_cons,List.length_append]; omega)]
   show ((blk (3 * (sg ln [123] ::X).length + 3) (sg ln [123] ::X)).map fun b=>(⟨tx (tl t.nm),ln,s ::q,b⟩:Th))=_
   rw [hb,kW]
   unfold M9; rw [hl]; rfl
def dsT:Nat→List De→aA
 | _,[]=>[]
 | ln,d ::r=>BO ln d++dsT (ln + 1) r
def Tq:Nat→List De→List De
 | _,[]=>[]
 | ln,d ::r=> {d with line:=(ln:Int)} ::Tq (ln + 1) r
def vZ:Nat→List Th→aA
 | _,[]=>[]
 | ln,t ::r=>D6 ln t++vZ (ln + 2 + bY t.body) r
def TF:Nat→List Th→List Th
 | _,[]=>[]
 | ln,t ::r=>M9 ln t ::TF (ln + 2 + bY t.body) r
theorem TB: ∀(l:List De) (ln:Nat) (rest:List UInt8),l.all fG=true→(∀d ∈ l,d.size≤9223372036854775807∧aU d.init)→Sc (tl (Aa l)) ln (dsT ln l) (ln + l.length) rest
 | [],ln,rest,_,_=>Sc.nil ln rest
 | d ::r,ln,rest,hs,hf=>by
   rw [List.all_cons,Bool.and_eq_true] at hs
   rw [show Aa (d ::r)=BG d++Aa r from rfl,bq,show ln + (d ::r).length=ln + 1 + r.length by simp only [List.length_cons]; omega]
   exact (Z4 hs.1 (hf d (List.mem_cons_self ..)).1 (hf d (List.mem_cons_self ..)).2 ln _).app (TB r (ln + 1) rest hs.2 (fun d hd=>hf d (List.mem_cons_of_mem _ hd)))
theorem Ti: ∀(l:List Th) (ln:Nat) (rest:List UInt8),l.all jh=true→(∀t ∈ l,yP t.body)→ ∃n,Sc (tl (uf l)) ln (vZ ln l) n rest
 | [],ln,rest,_,_=>⟨ln,Sc.nil ln rest⟩
 | t ::r,ln,rest,hs,hf=>by
   rw [List.all_cons,Bool.and_eq_true] at hs
   obtain ⟨n,hn⟩:=Ti r (ln + 2 + bY t.body) rest hs.2 (fun t ht=>hf t (List.mem_cons_of_mem _ ht))
   refine ⟨n,?_⟩
   rw [show uf (t ::r)=Fv t++uf r from rfl,bq]
   exact (YU hs.1 (hf t (List.mem_cons_self ..)) ln _).app hn
theorem TJ: ∀(l:List De) (ln f:Nat) (R:aA),l.all fG=true→l.length≤f→isDecl R=false→kC f (dsT ln l++R)= .ok (Tq ln l) R
 | [],_,0,_,_,_,_=>rfl
 | [],_,f + 1,R,_,_,h=>by
   show (if isDecl R then _ else bn.ok [] R)=_
   rw [h]; rfl
 | d ::r,_,0,_,_,h,_=>absurd h (by simp)
 | d ::r,ln,f + 1,R,hs,hf,h=>by
   rw [List.all_cons,Bool.and_eq_true] at hs
   have hk:=(Ls hs.1).kind
   have hd:isDecl (BO ln d++(dsT (ln + 1) r++R))=true:=by
    show ((3 == 3) && !(jc (tl (pI d.kind)) == 0))=true
    rw [(Em _ hk).2]; simp; omega
   rw [show dsT ln (d ::r)=BO ln d++dsT (ln + 1) r from rfl,List.append_assoc]
   unfold kC
   rw [if_pos hd,YX hs.1]
   show (kC f (dsT (ln + 1) r++R)).map _=_
   rw [TJ r (ln + 1) f R hs.2 (by simpa using hf) h]; rfl
theorem SH: ∀(l:List Th) (ln f:Nat),l.all jh=true→l.length≤f→kX f (vZ ln l)= .ok (TF ln l) []
 | [],_,0,_,_=>rfl
 | [],_,f + 1,_,_=>rfl
 | t ::r,_,0,_,h=>absurd h (by simp)
 | t ::r,ln,f + 1,hs,hf=>by
   rw [List.all_cons,Bool.and_eq_true] at hs
   rw [show vZ ln (t ::r)=D6 ln t++vZ (ln + 2 + bY t.body) r from rfl]
   unfold kX
   rw [if_pos (by rfl),Zp hs.1]
   show (kX f (vZ (ln + 2 + bY t.body) r)).map _=_
   rw [SH r _ f hs.2 (by simpa using hf)]; rfl
theorem Ko: ∀(l:List De) (ln:Nat),l.length≤(dsT ln l).length
 | [],_=>Nat.zero_le _
 | d ::r,ln=>by
   have:=Ko r (ln + 1)
   rw [show dsT ln (d ::r)=BO ln d++dsT (ln + 1) r from rfl,List.length_append]
   unfold BO
   simp only [List.length_cons]; omega
theorem Ka: ∀(l:List Th) (ln:Nat),l.length≤(vZ ln l).length
 | [],_=>Nat.zero_le _
 | t ::r,ln=>by
   have:=Ka r (ln + 2 + bY t.body)
   rw [show vZ ln (t ::r)=D6 ln t++vZ (ln + 2 + bY t.body) r from rfl,List.length_append]
   unfold D6
   simp only [List.length_cons]; omega
def vP (p:Pr):Pr:=⟨Tq 1 p.ds,TF (1 + p.ds.length) p.ts⟩
def Vx (p:Pr):Prop:=(∀d ∈ p.ds,d.size≤9223372036854775807∧aU d.init)∧ ∀t ∈ p.ts,yP t.body
theorem round {p:Pr} (hs:nQ p=true) (hf:Vx p) (hl:(tl (sM p)).length≤4096):parse (tl (sM p))=(vP p,0,0):=by
 unfold nQ at hs
 simp only [Bool.and_eq_true,decide_eq_true_eq] at hs
 obtain ⟨⟨hD,hT⟩,hpos⟩:=hs
 have hsc:scan (tl (sM p))=(dsT 1 p.ds++vZ (1 + p.ds.length) p.ts,0,0):=by
  unfold scan
  rw [if_neg (by omega)]
  show sc (tl (sM p)) 1 []=_
  obtain ⟨n,hn⟩:=Ti p.ts (1 + p.ds.length) [] hT hf.2
  have:=((TB p.ds 1 (tl (uf p.ts)++[]) hD hf.1).app hn) []
  rw [List.append_nil,List.nil_append] at this
  unfold sM
  rw [bq,this]
  exact lQ _ _ _
 have hth:isDecl (vZ (1 + p.ds.length) p.ts)=false:=by
  cases p.ts with
  | nil=>rfl
  | cons t r=>rfl
 have hp:prog (dsT 1 p.ds++vZ (1 + p.ds.length) p.ts)= .ok (vP p) []:=by
  unfold prog
  rw [TJ p.ds 1 _ _ hD (by have:=Ko p.ds 1; rw [List.length_append]; omega) hth]
  show (kX (vZ (1 + p.ds.length) p.ts).length (vZ (1 + p.ds.length) p.ts)).map _=_
  rw [SH p.ts _ _ hT (Ka _ _)]; rfl
 have hne:(vP p).ts.isEmpty=false:=by
  unfold vP
  cases h:p.ts with
  | nil=>rw [h] at hpos; simp at hpos
  | cons t r=>rfl
 unfold parse
 rw [hsc]
 dsimp only
 rw [if_pos rfl,hp]
 dsimp only
 rw [if_neg (by rw [hne]; decide)]
end Go.Proofs.YtehnipchbmjlhaaGreatDoor.Pz
end
