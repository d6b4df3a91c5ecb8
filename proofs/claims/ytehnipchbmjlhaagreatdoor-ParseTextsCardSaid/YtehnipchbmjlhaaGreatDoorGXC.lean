/-
  Plain laws of printed statements: their tokens, line for line, and what is parsed of them. No program in sight.
  Plain laws of printed statements: their tokens are parsed as them, lines apart. No program in sight.
  Plain laws of printed programs: they are parsed as themselves, lines apart. No program in sight.
-/
import Derived.Test.YtehnipchbmjlhaaGreatDoorGXB
import Derived.Test.YtehnipchbmjlhaaGreatDoorGMA
import Derived.Test.YtehnipchbmjlhaaGreatDoorGZA
section
set_option linter.unusedSimpArgs false
set_option linter.unusedVariables false
namespace Go.Proofs.YtehnipchbmjlhaaGreatDoor.Pz
open Go.RowKit Md Tk Fm
inductive SK:aW→Nat→Nat→Prop
 | yt (l:Int) (nm:ByteArray) (o n:Int) (m:ByteArray) (k:aH):dQ (tl nm)=true→dG o n m k=true→SK ⟨1,l,nm,⟨#[]⟩,.nil,o,n,m,k⟩ 0 0
 | Cb (l:Int) (nm:ByteArray) (o' n':Int) (m':ByteArray) (k':aH) (o n:Int) (m:ByteArray) (k:aH):dQ (tl nm)=true→dG o' n' m' k'=true→dG o n m k=true→SK ⟨1,l,nm,⟨#[]⟩,.cons o' n' m' k' .nil,o,n,m,k⟩ 0 0
 | cond (l:Int) (o n:Int) (m:ByteArray) (k:aH) (bl el:Nat):dG o n m k=true→SK ⟨2,l,⟨#[]⟩,⟨#[]⟩,.nil,o,n,m,k⟩ bl el
 | loop (l:Int) (o n:Int) (m:ByteArray) (k:aH) (bl:Nat):dG o n m k=true→SK ⟨3,l,⟨#[]⟩,⟨#[]⟩,.nil,o,n,m,k⟩ bl 0
 | held (w l:Int) (nm:ByteArray) (bl:Nat):w=4∨w=5∨w=6→dQ (tl nm)=true→SK ⟨w,l,nm,⟨#[]⟩,.nil,0,0,⟨#[]⟩,.nil⟩ bl 0
 | block (w l:Int) (bl:Nat):w=7∨w=8→SK ⟨w,l,⟨#[]⟩,⟨#[]⟩,.nil,0,0,⟨#[]⟩,.nil⟩ bl 0
 | word (w l:Int) (nm:ByteArray):w=9∨w=10∨w=11∨w=12∨w=13→dQ (tl nm)=true→SK ⟨w,l,nm,⟨#[]⟩,.nil,0,0,⟨#[]⟩,.nil⟩ 0 0
 | set (l:Int) (nm:ByteArray) (o n:Int) (m:ByteArray) (k:aH):dQ (tl nm)=true→dG o n m k=true→SK ⟨14,l,nm,⟨#[]⟩,.nil,o,n,m,k⟩ 0 0
 | get (l:Int) (nm arg:ByteArray):dQ (tl nm)=true→dQ (tl arg)=true→SK ⟨15,l,nm,arg,.nil,0,0,⟨#[]⟩,.nil⟩ 0 0
theorem Bc {o n:Int} {m:ByteArray} {k:aH} (h:oD o n m k.len=true):o=0∧n=0∧m=⟨#[]⟩∧k= .nil:=by
 unfold oD at h
 simp only [Bool.and_eq_true,beq_iff_eq] at h
 obtain ⟨⟨⟨h1,h2⟩,h3⟩,h4⟩:=h
 rw [Lib.toList_data] at h3
 refine ⟨h1,h2,iR h3,?_⟩
 cases k with
 | nil=>rfl
 | cons=>simp [aH.len] at h4
theorem Oa {k:aH} (h:k.len≤1) (hs:gZ k=true):k= .nil∨ ∃o n m k',k= .cons o n m k' .nil∧dG o n m k'=true:=by
 match k,h,hs with
 | .nil,_,_=>exact Or.inl rfl
 | .cons o n m k' .nil,_,hs=>
   refine Or.inr ⟨o,n,m,k',rfl,?_⟩
   simp only [gZ,Bool.and_eq_true] at hs
   unfold dG; simp only [Bool.and_eq_true]; exact hs.1
 | .cons _ _ _ _ (.cons _ _ _ _ _),h,_=>simp [aH.len] at h
theorem GD {h:aW} {bl el:Nat} (hs:iw h bl el=true):SK h bl el:=by
 obtain ⟨op,line,nm,arg,idx,o,n,m,k⟩:=h
 unfold iw at hs
 simp only [Bool.and_eq_true] at hs
 obtain ⟨⟨⟨hO,hnm,zT⟩,⟨hil,hi1⟩,Xw⟩,hx,hb,he⟩:=hs
 have hop:1≤op∧op≤15:=by unfold fO at hO; simpa using hO
 have Rk:=of_decide_eq_true hil
 have hix:op≠1→idx= .nil:=by
  intro hne
  rcases Oa Rk Xw with rfl | ⟨a,b,c,d,rfl,-⟩
  ·rfl
  ·exfalso; simp [aH.len,fI,hne] at hi1
 have hen:op≠2→el=0:=by intro hne; simpa [fE,hne] using he
 have cs:op=1∨op=2∨op=3∨(op=4∨op=5∨op=6)∨(op=7∨op=8)∨(op=9∨op=10∨op=11∨op=12∨op=13)∨op=14∨op=15:=by omega
 rcases cs with rfl | rfl | rfl | h | h | h | rfl | rfl
 ·obtain rfl:bl=0:=by simpa [fB] using hb
  obtain rfl:=hen (by decide)
  have e1:arg=⟨#[]⟩:=iR zT
  subst e1
  rcases Oa Rk Xw with rfl | ⟨a,b,c,d,rfl,hd⟩
  ·exact .yt _ _ _ _ _ _ hnm hx
  ·exact .Cb _ _ _ _ _ _ _ _ _ _ hnm hd hx
 ·obtain rfl:=hix (by decide)
  have e1:arg=⟨#[]⟩:=iR zT
  have e2:nm=⟨#[]⟩:=iR hnm
  subst e1 e2
  exact .cond _ _ _ _ _ _ _ hx
 ·obtain rfl:=hix (by decide)
  obtain rfl:=hen (by decide)
  have e1:arg=⟨#[]⟩:=iR zT
  have e2:nm=⟨#[]⟩:=iR hnm
  subst e1 e2
  exact .loop _ _ _ _ _ _ hx
 ·obtain rfl:=hix (by omega)
  obtain rfl:=hen (by omega)
  have e1:arg=⟨#[]⟩:=iR (by rcases h with rfl | rfl | rfl <;> exact zT)
  obtain ⟨rfl,rfl,rfl,rfl⟩:=Bc (o:=o) (n:=n) (m:=m) (k:=k) (by rcases h with rfl | rfl | rfl <;> exact hx)
  subst e1
  exact .held _ _ _ _ h (by rcases h with rfl | rfl | rfl <;> exact hnm)
 ·obtain rfl:=hix (by omega)
  obtain rfl:=hen (by omega)
  have e1:arg=⟨#[]⟩:=iR (by rcases h with rfl | rfl <;> exact zT)
  have e2:nm=⟨#[]⟩:=iR (by rcases h with rfl | rfl <;> exact hnm)
  obtain ⟨rfl,rfl,rfl,rfl⟩:=Bc (o:=o) (n:=n) (m:=m) (k:=k) (by rcases h with rfl | rfl <;> exact hx)
  subst e1 e2
  exact .block _ _ _ h
 ·obtain rfl:=hix (by omega)
  obtain rfl:=hen (by omega)
  obtain rfl:bl=0:=by rcases h with rfl | rfl | rfl | rfl | rfl <;> simpa [fB] using hb
  have e1:arg=⟨#[]⟩:=iR (by rcases h with rfl | rfl | rfl | rfl | rfl <;> exact zT)
  obtain ⟨rfl,rfl,rfl,rfl⟩:=Bc (o:=o) (n:=n) (m:=m) (k:=k) (by rcases h with rfl | rfl | rfl | rfl | rfl <;> exact hx)
  subst e1
  exact .word _ _ _ h (by rcases h with rfl | rfl | rfl | rfl | rfl <;> exact hnm)
 ·obtain rfl:=hix (by decide)
  obtain rfl:=hen (by decide)
  obtain rfl:bl=0:=by simpa [fB] using hb
  have e1:arg=⟨#[]⟩:=iR zT
  subst e1
  exact .set _ _ _ _ _ _ hnm hx
 ·obtain rfl:=hix (by decide)
  obtain rfl:=hen (by decide)
  obtain rfl:bl=0:=by simpa [fB] using hb
  obtain ⟨rfl,rfl,rfl,rfl⟩:=Bc (o:=o) (n:=n) (m:=m) (k:=k) hx
  exact .get _ _ _ hnm zT
def FT (op:Int) (nb ne:Nat) (none:Bool):Nat:=if op < 2 || 8 < op then 1 else if none then 2 + nb else 3 + nb + ne
def bK:aI→Nat
 | .nil=>0
 | .cons h b e r=>FT h.op (bK b) (bK e) (iy e) + bK r
def jl (ln:Nat) (op:Int):Tok:=⟨3,tl (iD op),ln⟩
def gF (ln:Nat) (nm:ByteArray):Tok:=⟨1,tl nm,ln⟩
def XF (ln:Nat):aH→aj
 | .nil=>[]
 | .cons o n m k _=>sg ln [91] ::(xT ln o n m k++[sg ln [93]])
def vX (ln:Nat) (h:aW):aj:=
 if h.op == 1 then gF ln h.nm ::(XF ln h.idx++(sg ln [61] ::(xT ln h.bP h.xn h.bM h.aJ++[sg ln [59]])))
 else if h.op == 2 || h.op == 3 then jl ln h.op ::(xT ln h.bP h.xn h.bM h.aJ++[sg ln [123]])
 else if h.op == 4 || h.op == 5 || h.op == 6 then [jl ln h.op,gF ln h.nm,sg ln [123]]
 else if h.op == 7 || h.op == 8 then [jl ln h.op,sg ln [123]]
 else if h.op == 14 then jl ln h.op ::gF ln h.nm ::(xT ln h.bP h.xn h.bM h.aJ++[sg ln [59]])
 else if h.op == 15 then [jl ln h.op,gF ln h.nm,gF ln h.arg,sg ln [59]]
 else [jl ln h.op,gF ln h.nm,sg ln [59]]
def SY (ln:Nat):Tok:=⟨3,[101,108,115,101],ln⟩
def pJ (ln:Nat) (h:aW) (B:aj) (nb:Nat) (E:aj) (ne:Nat) (none:Bool):aj:=
 if h.op < 2 || 8 < h.op then vX ln h
 else if none then vX ln h++(B++[sg (ln + 1 + nb) [125]])
 else vX ln h++(B++(sg (ln + 1 + nb) [125] ::SY (ln + 1 + nb) ::sg (ln + 1 + nb) [123] ::(E++[sg (ln + 2 + nb + ne) [125]])))
def gM:aI→Nat→aj
 | .nil,_=>[]
 | .cons h b e r,ln=>pJ ln h (gM b (ln + 1)) (bK b) (gM e (ln + 2 + bK b)) (bK e) (iy e)++gM r (ln + FT h.op (bK b) (bK e) (iy e))
def Ec:aI→Nat→aI
 | .nil,_=> .nil
 | .cons h b e r,ln=> .cons {h with line:=(ln:Int)} (Ec b (ln + 1)) (Ec e (ln + 2 + bK b)) (Ec r (ln + FT h.op (bK b) (bK e) (iy e)))
def yK:aI→Prop
 | .nil=>True
 | .cons h b e r=>((h.xn≤9223372036854775807∧AU h.aJ)∧AU h.idx)∧yK b∧yK e∧yK r
theorem Bd {w:World} {B:Nat} : ∀ {l:aI} {ao:Option Addr} {k:Nat},l.At w B ao k→yK l
 | .nil,_,_,_=>trivial
 | .cons h b e r,ao,k,hat=>by
   obtain ⟨⟨bl,off,eP,dK,dJ,bS,bR,aZ,dY,dA,eq,hB,c0,c1,c2,c3,c4,c5,c6,c7,c8,c9,c10,hok,h1,h2,h3,h4⟩,hr⟩:=hat
   exact ⟨⟨⟨hok.2.2.2.2.2.1.2.1.2,DN h2⟩,DN h1⟩,Bd h3,Bd h4,Bd hr⟩
theorem yL (ln:Nat): ∀(d:Nat) (rest:List UInt8),Sc (tl (lV d)) ln [] ln rest
 | 0,rest=>Sc.nil ln rest
 | d + 1,rest=>by
   rw [show lV (d + 1)=lV d++⟨#[32,32]⟩ from rfl,aX]
   exact (yL ln d _).app ((Sc.sp ln _).app (Sc.sp ln rest))
theorem PU (op:Int) (h:2≤op∧op≤15):tl (iD op) ∈ uQ:=by
 have:op=2∨op=3∨op=4∨op=5∨op=6∨op=7∨op=8∨op=9∨op=10∨op=11∨op=12∨op=13∨op=14∨op=15:=by omega
 rcases this with rfl | rfl | rfl | rfl | rfl | rfl | rfl | rfl | rfl | rfl | rfl | rfl | rfl | rfl <;> decide
theorem Sc.cast {l:List UInt8} {n n':Nat} {ts us:aj} {rest:List UInt8} (h:Sc l n ts n' rest) (e:ts=us):Sc l n us n' rest:=e ▸ h
theorem pX (r:List UInt8):qA (32 ::r):=kK (by decide)
theorem En (r:List UInt8):qA (59 ::r):=kK (by decide)
theorem X6 (r:List UInt8):qA (91 ::r):=kK (by decide)
theorem Wq (r:List UInt8):qA (93 ::r):=kK (by decide)
theorem Vi {h:aW} {bl el:Nat} (hs:iw h bl el=true) (hf:(h.xn≤9223372036854775807∧AU h.aJ)∧AU h.idx) (ln:Nat) (rest:List UInt8):Sc (tl (eD h)) ln (vX ln h) ln rest:=by
 have kw: ∀(op:Int) (rest:List UInt8),2≤op∧op≤15→Sc (tl (iD op)++[32]) ln [jl ln op] ln rest:=fun op rest h=>((Sc.kw (PU op h) (pX _)).app (Sc.sp ln rest)).cast rfl
 have br: ∀rest,Sc [32,123] ln [sg ln [123]] ln rest:=fun rest=>(Sc.sp ln _).app (Sc.lone ln (c:=123) (by decide) rest)
 have sm: ∀rest,Sc [59] ln [sg ln [59]] ln rest:=fun rest=>Sc.lone ln (c:=59) (by decide) rest
 have eqs: ∀rest,Sc [32,61,32] ln [sg ln [61]] ln rest:=fun rest=>(Sc.sp ln _).app (((Sc.sign ln (x:=[61]) (by decide) _)).app (Sc.sp ln rest))
 cases GD hs with
 | yt l nm o n m k h1 h2=>
   have hx:=(tV (op:=o) (n:=n) (nm:=m) (kids:=k) h2 hf.1.1 hf.1.2 ln).1
   rw [show eD ⟨1,l,nm,⟨#[]⟩,.nil,o,n,m,k⟩=(((nm++⟨#[]⟩)++⟨#[32,61,32]⟩)++bf o n m k)++⟨#[59]⟩ from rfl,aX,aX,aX,aX]
   refine (((((Sc.name h1 (pX _)).app (Sc.nil ln _)).app (eqs _)).app (hx _ (En _))).app (sm rest)).cast ?_
   simp [vX,gF,XF]
 | Cb l nm o' n' m' k' o n m k h1 h3 h2=>
   have hx:=(tV (op:=o) (n:=n) (nm:=m) (kids:=k) h2 hf.1.1 hf.1.2 ln).1
   have hi:=(tV (op:=o') (n:=n') (nm:=m') (kids:=k') h3 hf.2.1.1 hf.2.1.2 ln).1
   rw [show eD ⟨1,l,nm,⟨#[]⟩,.cons o' n' m' k' .nil,o,n,m,k⟩=(((nm++((⟨#[91]⟩++bf o' n' m' k')++⟨#[93]⟩))++⟨#[32,61,32]⟩)++bf o n m k)++⟨#[59]⟩ from rfl,aX,aX,aX,aX,aX,aX]
   refine (((((Sc.name h1 (X6 _)).app (((Sc.lone ln (c:=91) (by decide) _).app (hi _ (Wq _))).app (Sc.lone ln (c:=93) (by decide) _))).app (eqs _)).app (hx _ (En _))).app (sm rest)).cast ?_
   simp [vX,gF,XF,sg]
 | cond l o n m k bl el h2=>
   have hx:=(tV (op:=o) (n:=n) (nm:=m) (kids:=k) h2 hf.1.1 hf.1.2 ln).1
   rw [show eD ⟨2,l,⟨#[]⟩,⟨#[]⟩,.nil,o,n,m,k⟩=((iD 2++⟨#[32]⟩)++bf o n m k)++⟨#[32,123]⟩ from rfl,aX,aX,aX]
   exact (((kw 2 _ (by decide)).app (hx _ (pX _))).app (br rest)).cast (by simp [vX])
 | loop l o n m k bl h2=>
   have hx:=(tV (op:=o) (n:=n) (nm:=m) (kids:=k) h2 hf.1.1 hf.1.2 ln).1
   rw [show eD ⟨3,l,⟨#[]⟩,⟨#[]⟩,.nil,o,n,m,k⟩=((iD 3++⟨#[32]⟩)++bf o n m k)++⟨#[32,123]⟩ from rfl,aX,aX,aX]
   exact (((kw 3 _ (by decide)).app (hx _ (pX _))).app (br rest)).cast (by simp [vX])
 | held w l nm bl hw h1=>
   rw [show eD ⟨w,l,nm,⟨#[]⟩,.nil,0,0,⟨#[]⟩,.nil⟩=((iD w++⟨#[32]⟩)++nm)++⟨#[32,123]⟩ from by rcases hw with rfl | rfl | rfl <;> rfl,aX,aX,aX]
   exact (((kw w _ (by omega)).app (Sc.name h1 (pX _))).app (br rest)).cast (by rcases hw with rfl | rfl | rfl <;> simp [vX,gF])
 | block w l bl hw=>
   rw [show eD ⟨w,l,⟨#[]⟩,⟨#[]⟩,.nil,0,0,⟨#[]⟩,.nil⟩=iD w++⟨#[32,123]⟩ from by rcases hw with rfl | rfl <;> rfl,aX]
   exact ((Sc.kw (PU w (by omega)) (pX _)).app (br rest)).cast (by rcases hw with rfl | rfl <;> simp [vX,jl])
 | word w l nm hw h1=>
   rw [show eD ⟨w,l,nm,⟨#[]⟩,.nil,0,0,⟨#[]⟩,.nil⟩=((iD w++⟨#[32]⟩)++nm)++⟨#[59]⟩ from by rcases hw with rfl | rfl | rfl | rfl | rfl <;> rfl,aX,aX,aX]
   exact (((kw w _ (by omega)).app (Sc.name h1 (En _))).app (sm rest)).cast (by rcases hw with rfl | rfl | rfl | rfl | rfl <;> simp [vX,gF])
 | set l nm o n m k h1 h2=>
   have hx:=(tV (op:=o) (n:=n) (nm:=m) (kids:=k) h2 hf.1.1 hf.1.2 ln).1
   rw [show eD ⟨14,l,nm,⟨#[]⟩,.nil,o,n,m,k⟩=((((iD 14++⟨#[32]⟩)++nm)++⟨#[32]⟩)++bf o n m k)++⟨#[59]⟩ from rfl,aX,aX,aX,aX,aX]
   exact (((((kw 14 _ (by decide)).app (Sc.name h1 (pX _))).app (Sc.sp ln _)).app (hx _ (En _))).app (sm rest)).cast (by simp [vX,gF])
 | get l nm arg h1 h2=>
   rw [show eD ⟨15,l,nm,arg,.nil,0,0,⟨#[]⟩,.nil⟩=((((iD 15++⟨#[32]⟩)++nm)++⟨#[32]⟩)++arg)++⟨#[59]⟩ from rfl,aX,aX,aX,aX,aX]
   exact (((((kw 15 _ (by decide)).app (Sc.name h1 (pX _))).app (Sc.sp ln _)).app (Sc.name h2 (En _))).app (sm rest)).cast (by simp [vX,gF])
theorem Zr {h:aW} {bl el:Nat} (hs:iw h bl el=true):1≤h.op∧h.op≤15:=by
 cases GD hs <;> (dsimp only; omega)
theorem DL: ∀(l:aI) (d ln:Nat) (rest:List UInt8),gu l=true→yK l→Sc (tl (jR l d)) ln (gM l ln) (ln + bK l) rest
 | .nil,_,ln,rest,_,_=>Sc.nil ln rest
 | .cons h b e r,d,ln,rest,hs,hf=>by
   simp only [gu,Bool.and_eq_true] at hs
   obtain ⟨⟨hs1,hsb,hse⟩,hsr⟩:=hs
   obtain ⟨hfh,hfb,hfe,hfr⟩:=hf
   have hop:=Zr hs1
   have hh:=fun rest=>Vi hs1 hfh ln rest
   have ir:=fun n=>DL r d n rest hsr hfr
   rw [show jR (.cons h b e r) d=Fb d h (jR b (d + 1)) (jR e (d + 1)) (iy e)++jR r d from rfl,aX]
   rw [show gM (.cons h b e r) ln=pJ ln h (gM b (ln + 1)) (bK b) (gM e (ln + 2 + bK b)) (bK e) (iy e)++gM r (ln + FT h.op (bK b) (bK e) (iy e)) from rfl]
   rw [show bK (.cons h b e r)=FT h.op (bK b) (bK e) (iy e) + bK r from rfl,← Nat.add_assoc]
   refine Sc.app ?_ (ir _)
   have h10: ∀rest n,Sc [10] n [] (n + 1) rest:=fun rest n=>Sc.nl n rest
   have hcl: ∀rest n,Sc [125,10] n [sg n [125]] (n + 1) rest:=fun rest n=>(Sc.lone n (c:=125) (by decide) _).app (Sc.nl n rest)
   have hel: ∀rest n,Sc (tl Pt) n [sg n [125],SY n,sg n [123]] (n + 1) rest:=fun rest n=>
    (((((Sc.lone n (c:=125) (by decide) _).app (Sc.sp n _)).app (Sc.kw (x:=[101,108,115,101]) (by decide) (pX _))).app (Sc.sp n _)).app (Sc.lone n (c:=123) (by decide) _)).app (Sc.nl n rest)
   unfold Fb pJ FT
   rw [if_neg (by simp; omega)]
   by_cases hlf:(decide (h.op < 2) || decide (8 < h.op))=true
   ·rw [if_pos hlf,if_pos hlf,if_pos hlf,aX,aX]
    exact (((yL ln d _).app (hh _)).app (h10 _ ln)).cast (by simp)
   ·rw [if_neg hlf,if_neg hlf,if_neg hlf]
    cases hne:iy e
    ·simp only [Bool.false_eq_true,if_false,aX]
     have ib:=fun rest=>DL b (d + 1) (ln + 1) rest hsb hfb
     have ie: ∀rest,Sc (tl (jR e (d + 1))) (ln + 1 + bK b + 1) (gM e (ln + 2 + bK b)) (ln + 2 + bK b + bK e) rest:=fun rest=>by
      rw [show ln + 1 + bK b + 1=ln + 2 + bK b by omega]
      exact DL e (d + 1) (ln + 2 + bK b) rest hse hfe
     have q:=((((((((yL ln d _).app (hh _)).app (h10 _ ln)).app (ib _)).app (yL (ln + 1 + bK b) d _)).app (hel _ (ln + 1 + bK b))).app (ie _)).app (yL (ln + 2 + bK b + bK e) d _)).app (hcl (tl (jR r d)++rest) (ln + 2 + bK b + bK e))
     rw [show ln + (3 + bK b + bK e)=ln + 2 + bK b + bK e + 1 by omega]
     exact q.cast (by simp)
    ·simp only [if_true,aX]
     have ib:=fun rest=>DL b (d + 1) (ln + 1) rest hsb hfb
     have q:=(((((yL ln d _).app (hh _)).app (h10 _ ln)).app (ib _)).app (yL (ln + 1 + bK b) d _)).app (hcl (tl (jR r d)++rest) (ln + 1 + bK b))
     rw [show ln + (2 + bK b)=ln + 1 + bK b + 1 by omega]
     exact q.cast (by simp)
end Go.Proofs.YtehnipchbmjlhaaGreatDoor.Pz
end
section
set_option linter.unusedSimpArgs false
set_option linter.unusedVariables false
namespace Go.Proofs.YtehnipchbmjlhaaGreatDoor.Pz
open Go.RowKit Md Tk Fm
def U7 (b:Bool) (ts:aj) (f:Nat):Prop:=3 * ts.length + (if b then 0 else 1) < f
def PS (b:Bool) (ts:aj) (l:aI) (r:aj):Prop:= ∀f,U7 b ts f→ps f b ts= .ok l r
theorem PS.len {b:Bool} {ts r:aj} {l:aI} (h:PS b ts l r):r.length < ts.length:=xU _ b ts l r (h (3 * ts.length + 2) (by unfold U7; split <;> omega))
theorem wC {b:Bool} {ts:aj} {f:Nat} (h:U7 b ts f): ∃g,f=g + 1:=by unfold U7 at h; exact ⟨f - 1,by omega⟩
theorem PS.nil {ln:Nat} {r:aj} :PS false (sg ln [125] ::r) .nil r:=by
 intro f hf
 obtain ⟨g,rfl⟩:=wC hf
 unfold ps
 rw [if_pos (by rfl)]; rfl
theorem PS.cons {ts r1 r:aj} {h:aW} {b e l:aI} (h0:at' [125] ts=false) (h1:PS true ts (one h b e) r1) (h2:PS false r1 l r):PS false ts (.cons h b e l) r:=by
 intro f hf
 obtain ⟨g,rfl⟩:=wC hf
 have hl:=h1.len
 have hf':3 * ts.length + 1 < g + 1:=hf
 unfold ps
 rw [if_neg (by rw [h0]; decide),h1 g (by show 3 * ts.length + 0 < g; omega)]
 dsimp only
 rw [h2 g (by show 3 * r1.length + 1 < g; omega)]
 rfl
theorem vk (f ln:Nat) (ts:aj):blk f (sg ln [123] ::ts)=ps f false ts:=rfl
theorem IG (ln:Nat) (r:aj):Stop 1 (sg ln [59] ::r):=xw ln 1 [59] r (by decide) (by decide) (Nat.le_refl _)
theorem X3 (ln:Nat) (r:aj):Stop 1 (sg ln [93] ::r):=xw ln 1 [93] r (by decide) (by decide) (Nat.le_refl _)
theorem ET (ln:Nat) (r:aj):Stop 1 (sg ln [123] ::r):=xw ln 1 [123] r (by decide) (by decide) (Nat.le_refl _)
theorem Oq (f n:Nat) (nm:ByteArray) (ts:aj):ps (f + 1) true (gF n nm ::ts)=yt {hd 1 n with nm:=tx (tl nm)} ts:=rfl
theorem O8 (h:aW) (n:Nat) (ts:aj):yt h (sg n [61] ::ts)=((expr ts).map fun x=>one (aW.ex h x) .nil .nil).close [59]:=rfl
theorem Wx (h:aW) (n:Nat) (ts:aj):yt h (sg n [91] ::ts)=(((expr ts).close [93]).map (fun x=> {h with idx:= .cons x.op x.n x.nm x.kids .nil})).bind fun h ts=>(need [61] ts).bind fun _ ts=>(((expr ts).map fun x=>one (aW.ex h x) .nil .nil).close [59]):=rfl
theorem TR (f n:Nat) (ts:aj):ps (f + 1) true (jl n 2 ::ts)=(expr ts).bind fun x r=>(blk f r).bind fun b r=>if at' [101,108,115,101] r then (blk f r.tail).map (one (aW.ex (hd 2 n) x) b) else .ok (one (aW.ex (hd 2 n) x) b .nil) r:=rfl
theorem QZ (f n:Nat) (ts:aj):ps (f + 1) true (jl n 3 ::ts)=(expr ts).bind fun x r=>(blk f r).map fun b=>one (aW.ex (hd 3 n) x) b .nil:=rfl
theorem Ui {w:Int} (hw:w=4∨w=5∨w=6) (f n:Nat) (nm:ByteArray) (ts:aj):ps (f + 1) true (jl n w ::gF n nm ::ts)=(blk f ts).map fun b=>one {hd w n with nm:=tx (tl nm)} b .nil:=by rcases hw with rfl | rfl | rfl <;> rfl
theorem RH {w:Int} (hw:w=7∨w=8) (f n:Nat) (ts:aj):ps (f + 1) true (jl n w ::ts)=(blk f ts).map fun b=>one (hd w n) b .nil:=by rcases hw with rfl | rfl <;> rfl
theorem UE {w:Int} (hw:w=9∨w=10∨w=11∨w=12∨w=13) (f n m:Nat) (nm:ByteArray) (ts:aj):ps (f + 1) true (jl n w ::gF n nm ::sg m [59] ::ts)= .ok (one {hd w n with nm:=tx (tl nm)} .nil .nil) ts:=by rcases hw with rfl | rfl | rfl | rfl | rfl <;> rfl
theorem YK (f n:Nat) (nm:ByteArray) (ts:aj):ps (f + 1) true (jl n 14 ::gF n nm ::ts)=((expr ts).map fun x=>one (aW.ex {hd 14 n with nm:=tx (tl nm)} x) .nil .nil).close [59]:=rfl
theorem Ye (f n m:Nat) (nm arg:ByteArray) (ts:aj):ps (f + 1) true (jl n 15 ::gF n nm ::gF n arg ::sg m [59] ::ts)= .ok (one {hd 15 n with nm:=tx (tl nm),arg:=tx (tl arg)} .nil .nil) ts:=rfl
theorem PS.loop {n m:Nat} {X ts r:aj} {x:E} {b:aI} (hx:expr X= .ok x (sg m [123] ::ts)) (h:PS false ts b r):PS true (jl n 3 ::X) (one (aW.ex (hd 3 n) x) b .nil) r:=by
 intro f hf
 obtain ⟨g,rfl⟩:=wC hf
 have hl:=lC hx
 have hf':3 * (X.length + 1) + 0 < g + 1:=hf
 rw [List.length_cons] at hl
 rw [QZ,hx]
 show (blk g (sg m [123] ::ts)).map _=_
 rw [vk,h g (by show 3 * ts.length + 1 < g; omega)]; rfl
theorem PS.cond {n m:Nat} {X ts r:aj} {x:E} {b:aI} (hx:expr X= .ok x (sg m [123] ::ts)) (h:PS false ts b r) (hr:at' [101,108,115,101] r=false):PS true (jl n 2 ::X) (one (aW.ex (hd 2 n) x) b .nil) r:=by
 intro f hf
 obtain ⟨g,rfl⟩:=wC hf
 have hl:=lC hx
 have hf':3 * (X.length + 1) + 0 < g + 1:=hf
 rw [List.length_cons] at hl
 rw [TR,hx]
 show (blk g (sg m [123] ::ts)).bind _=_
 rw [vk,h g (by show 3 * ts.length + 1 < g; omega)]
 show (if at' [101,108,115,101] r then _ else _)=_
 rw [hr]; rfl
theorem PS.Zj {n m m':Nat} {X ts TT r:aj} {x:E} {b e:aI} (hx:expr X= .ok x (sg m [123] ::ts)) (h:PS false ts b (SY m' ::sg m' [123] ::TT)) (h2:PS false TT e r):PS true (jl n 2 ::X) (one (aW.ex (hd 2 n) x) b e) r:=by
 intro f hf
 obtain ⟨g,rfl⟩:=wC hf
 have hl:=lC hx
 have hl2:=h.len
 have hf':3 * (X.length + 1) + 0 < g + 1:=hf
 rw [List.length_cons] at hl
 simp only [List.length_cons] at hl2
 rw [TR,hx]
 show (blk g (sg m [123] ::ts)).bind _=_
 rw [vk,h g (by show 3 * ts.length + 1 < g; omega)]
 show (blk g (sg m' [123] ::TT)).map _=_
 rw [vk,h2 g (by show 3 * TT.length + 1 < g; omega)]; rfl
theorem PS.held {w:Int} (hw:w=4∨w=5∨w=6) {n m:Nat} {nm:ByteArray} {ts r:aj} {b:aI} (h:PS false ts b r):PS true (jl n w ::gF n nm ::sg m [123] ::ts) (one {hd w n with nm:=nm} b .nil) r:=by
 intro f hf
 obtain ⟨g,rfl⟩:=wC hf
 have hf':3 * (ts.length + 1 + 1 + 1) + 0 < g + 1:=hf
 rw [Ui hw,vk,h g (by show 3 * ts.length + 1 < g; omega),kQ]; rfl
theorem PS.block {w:Int} (hw:w=7∨w=8) {n m:Nat} {ts r:aj} {b:aI} (h:PS false ts b r):PS true (jl n w ::sg m [123] ::ts) (one (hd w n) b .nil) r:=by
 intro f hf
 obtain ⟨g,rfl⟩:=wC hf
 have hf':3 * (ts.length + 1 + 1) + 0 < g + 1:=hf
 rw [RH hw,vk,h g (by show 3 * ts.length + 1 < g; omega)]; rfl
theorem len_nil {l:aI} (h:l.len=0):l= .nil:=by
 cases l with
 | nil=>rfl
 | cons=>simp [aI.len] at h
def Yn (l:aI):Prop:= ∀(ln m:Nat) (r:aj),PS false (gM l ln++(sg m [125] ::r)) (Ec l ln) r
set_option maxRecDepth 10000 in
theorem Zh {h:aW} {b e:aI} (hs:iw h b.len e.len=true) (ihb:Yn b) (GY:Yn e) (ln:Nat) (r:aj) (hr:at' [101,108,115,101] r=false):
 PS true (pJ ln h (gM b (ln + 1)) (bK b) (gM e (ln + 2 + bK b)) (bK e) (iy e)++r) (one {h with line:=(ln:Int)} (Ec b (ln + 1)) (Ec e (ln + 2 + bK b))) r:=by
 generalize hbl:b.len=bl at hs
 generalize hel:e.len=el at hs
 have leaf: ∀ {T:aj} {s:aI},(∀g,ps (g + 1) true (T++r)= .ok s r)→PS true (T++r) s r:=fun h f hf=>by
  obtain ⟨g,rfl⟩:=wC hf
  exact h g
 cases GD hs with
 | yt l nm o n m k h1 h2=>
   obtain rfl:=len_nil hbl
   obtain rfl:=len_nil hel
   rw [show pJ ln ⟨1,l,nm,⟨#[]⟩,.nil,o,n,m,k⟩ (gM .nil (ln + 1)) (bK .nil) (gM .nil (ln + 2 + bK .nil)) (bK .nil) (iy .nil)=gF ln nm ::sg ln [61] ::(xT ln o n m k++[sg ln [59]]) from rfl]
   refine leaf fun g=> ?_
   rw [List.cons_append,List.cons_append,List.append_assoc,List.singleton_append,Oq,O8,qY h2 ln _ (IG ln _),kQ]
   rfl
 | Cb l nm o' n' m' k' o n m k h1 h3 h2=>
   obtain rfl:=len_nil hbl
   obtain rfl:=len_nil hel
   rw [show pJ ln ⟨1,l,nm,⟨#[]⟩,.cons o' n' m' k' .nil,o,n,m,k⟩ (gM .nil (ln + 1)) (bK .nil) (gM .nil (ln + 2 + bK .nil)) (bK .nil) (iy .nil)=gF ln nm ::sg ln [91] ::((xT ln o' n' m' k'++[sg ln [93]])++(sg ln [61] ::(xT ln o n m k++[sg ln [59]]))) from rfl]
   refine leaf fun g=> ?_
   rw [List.cons_append,List.cons_append,List.append_assoc,List.append_assoc,Oq,Wx,List.singleton_append,qY h3 ln _ (X3 ln _)]
   show ((expr ((xT ln o n m k++[sg ln [59]])++r)).map _).close [59]=_
   rw [List.append_assoc,List.singleton_append,qY h2 ln _ (IG ln _),kQ]
   rfl
 | cond l o n m k bl el h2=>
   cases hne:iy e
   ·rw [show pJ ln ⟨2,l,⟨#[]⟩,⟨#[]⟩,.nil,o,n,m,k⟩ (gM b (ln + 1)) (bK b) (gM e (ln + 2 + bK b)) (bK e) false=(jl ln 2 ::(xT ln o n m k++[sg ln [123]]))++(gM b (ln + 1)++(sg (ln + 1 + bK b) [125] ::SY (ln + 1 + bK b) ::sg (ln + 1 + bK b) [123] ::(gM e (ln + 2 + bK b)++[sg (ln + 2 + bK b + bK e) [125]]))) from rfl]
    simp only [List.cons_append,List.append_assoc,List.nil_append,List.singleton_append]
    exact PS.Zj (qY h2 ln _ (ET ln _)) (ihb _ _ _) (GY _ _ r)
   ·have he:e= .nil:=by
     cases e with
     | nil=>rfl
     | cons=>cases hne
    subst he
    rw [show pJ ln ⟨2,l,⟨#[]⟩,⟨#[]⟩,.nil,o,n,m,k⟩ (gM b (ln + 1)) (bK b) (gM .nil (ln + 2 + bK b)) (bK .nil) true=(jl ln 2 ::(xT ln o n m k++[sg ln [123]]))++(gM b (ln + 1)++[sg (ln + 1 + bK b) [125]]) from rfl]
    simp only [List.cons_append,List.append_assoc,List.nil_append,List.singleton_append]
    exact PS.cond (qY h2 ln _ (ET ln _)) (ihb _ _ _) hr
 | loop l o n m k bl h2=>
   obtain rfl:=len_nil hel
   rw [show pJ ln ⟨3,l,⟨#[]⟩,⟨#[]⟩,.nil,o,n,m,k⟩ (gM b (ln + 1)) (bK b) (gM .nil (ln + 2 + bK b)) (bK .nil) (iy .nil)=(jl ln 3 ::(xT ln o n m k++[sg ln [123]]))++(gM b (ln + 1)++[sg (ln + 1 + bK b) [125]]) from rfl]
   simp only [List.cons_append,List.append_assoc,List.nil_append,List.singleton_append]
   exact PS.loop (qY h2 ln _ (ET ln _)) (ihb _ _ _)
 | held w l nm bl hw h1=>
   obtain rfl:=len_nil hel
   rw [show pJ ln ⟨w,l,nm,⟨#[]⟩,.nil,0,0,⟨#[]⟩,.nil⟩ (gM b (ln + 1)) (bK b) (gM .nil (ln + 2 + bK b)) (bK .nil) (iy .nil)=jl ln w ::gF ln nm ::sg ln [123] ::(gM b (ln + 1)++[sg (ln + 1 + bK b) [125]]) from by rcases hw with rfl | rfl | rfl <;> rfl]
   simp only [List.cons_append,List.append_assoc,List.nil_append,List.singleton_append]
   exact PS.held hw (ihb _ _ _)
 | block w l bl hw=>
   obtain rfl:=len_nil hel
   rw [show pJ ln ⟨w,l,⟨#[]⟩,⟨#[]⟩,.nil,0,0,⟨#[]⟩,.nil⟩ (gM b (ln + 1)) (bK b) (gM .nil (ln + 2 + bK b)) (bK .nil) (iy .nil)=jl ln w ::sg ln [123] ::(gM b (ln + 1)++[sg (ln + 1 + bK b) [125]]) from by rcases hw with rfl | rfl <;> rfl]
   simp only [List.cons_append,List.append_assoc,List.nil_append,List.singleton_append]
   exact PS.block hw (ihb _ _ _)
 | word w l nm hw h1=>
   obtain rfl:=len_nil hbl
   obtain rfl:=len_nil hel
   rw [show pJ ln ⟨w,l,nm,⟨#[]⟩,.nil,0,0,⟨#[]⟩,.nil⟩ (gM .nil (ln + 1)) (bK .nil) (gM .nil (ln + 2 + bK .nil)) (bK .nil) (iy .nil)=[jl ln w,gF ln nm,sg ln [59]] from by rcases hw with rfl | rfl | rfl | rfl | rfl <;> rfl]
   refine leaf fun g=> ?_
   rw [List.cons_append,List.cons_append,List.cons_append,List.nil_append,UE hw,kQ]
   rfl
 | set l nm o n m k h1 h2=>
   obtain rfl:=len_nil hbl
   obtain rfl:=len_nil hel
   rw [show pJ ln ⟨14,l,nm,⟨#[]⟩,.nil,o,n,m,k⟩ (gM .nil (ln + 1)) (bK .nil) (gM .nil (ln + 2 + bK .nil)) (bK .nil) (iy .nil)=jl ln 14 ::gF ln nm ::(xT ln o n m k++[sg ln [59]]) from rfl]
   refine leaf fun g=> ?_
   rw [List.cons_append,List.cons_append,List.append_assoc,YK,List.singleton_append,qY h2 ln _ (IG ln _),kQ]
   rfl
 | get l nm arg h1 h2=>
   obtain rfl:=len_nil hbl
   obtain rfl:=len_nil hel
   rw [show pJ ln ⟨15,l,nm,arg,.nil,0,0,⟨#[]⟩,.nil⟩ (gM .nil (ln + 1)) (bK .nil) (gM .nil (ln + 2 + bK .nil)) (bK .nil) (iy .nil)=[jl ln 15,gF ln nm,gF ln arg,sg ln [59]] from rfl]
   refine leaf fun g=> ?_
   rw [List.cons_append,List.cons_append,List.cons_append,List.cons_append,List.nil_append,Ye,kQ,kQ]
   rfl
theorem RD {h:aW} {bl el:Nat} (hs:iw h bl el=true) (ln:Nat): ∃t T,vX ln h=t ::T∧ ∀r,at' [125] (t ::r)=false∧at' [101,108,115,101] (t ::r)=false:=by
 have hk: ∀(w:Int) (r:aj),2≤w∧w≤15→at' [125] (jl ln w ::r)=false∧at' [101,108,115,101] (jl ln w ::r)=false:=by
  intro w r h
  have:w=2∨w=3∨w=4∨w=5∨w=6∨w=7∨w=8∨w=9∨w=10∨w=11∨w=12∨w=13∨w=14∨w=15:=by omega
  rcases this with rfl | rfl | rfl | rfl | rfl | rfl | rfl | rfl | rfl | rfl | rfl | rfl | rfl | rfl <;> exact ⟨rfl,rfl⟩
 cases GD hs with
 | yt l nm o n m k h1 h2=>exact ⟨gF ln nm,_,rfl,fun r=>⟨rfl,rfl⟩⟩
 | Cb l nm o' n' m' k' o n m k h1 h3 h2=>exact ⟨gF ln nm,_,rfl,fun r=>⟨rfl,rfl⟩⟩
 | cond l o n m k bl el h2=>exact ⟨jl ln 2,_,rfl,fun r=>hk _ _ (by decide)⟩
 | loop l o n m k bl h2=>exact ⟨jl ln 3,_,rfl,fun r=>hk _ _ (by decide)⟩
 | held w l nm bl hw h1=>exact ⟨jl ln w,_,by rcases hw with rfl | rfl | rfl <;> rfl,fun r=>hk _ _ (by omega)⟩
 | block w l bl hw=>exact ⟨jl ln w,_,by rcases hw with rfl | rfl <;> rfl,fun r=>hk _ _ (by omega)⟩
 | word w l nm hw h1=>exact ⟨jl ln w,_,by rcases hw with rfl | rfl | rfl | rfl | rfl <;> rfl,fun r=>hk _ _ (by omega)⟩
 | set l nm o n m k h1 h2=>exact ⟨jl ln 14,_,rfl,fun r=>hk _ _ (by decide)⟩
 | get l nm arg h1 h2=>exact ⟨jl ln 15,_,rfl,fun r=>hk _ _ (by decide)⟩
theorem Iz {h:aW} {bl el:Nat} (hs:iw h bl el=true) (ln:Nat) (B:aj) (nb:Nat) (E:aj) (ne:Nat) (none:Bool) (r:aj):
 at' [125] (pJ ln h B nb E ne none++r)=false∧at' [101,108,115,101] (pJ ln h B nb E ne none++r)=false:=by
 obtain ⟨t,T,e,h⟩:=RD hs ln
 unfold pJ
 rw [e]
 split
 ·exact h _
 ·split
  ·rw [List.append_assoc]; exact h _
  ·rw [List.append_assoc]; exact h _
theorem QC: ∀(l:aI) (ln m:Nat) (r:aj),gu l=true→at' [101,108,115,101] (gM l ln++(sg m [125] ::r))=false
 | .nil,_,_,_,_=>rfl
 | .cons h b e l,ln,m,r,hs=>by
   simp only [gu,Bool.and_eq_true] at hs
   rw [show gM (.cons h b e l) ln=pJ ln h (gM b (ln + 1)) (bK b) (gM e (ln + 2 + bK b)) (bK e) (iy e)++gM l (ln + FT h.op (bK b) (bK e) (iy e)) from rfl,List.append_assoc]
   exact (Iz hs.1.1 _ _ _ _ _ _ _).2
theorem GL: ∀(l:aI),gu l=true→Yn l
 | .nil,_=>fun _ _ _=>PS.nil
 | .cons h b e l,hs=>by
   have hs':=hs
   simp only [gu,Bool.and_eq_true] at hs'
   obtain ⟨⟨hs1,hsb,hse⟩,hsl⟩:=hs'
   intro ln m r
   rw [show gM (.cons h b e l) ln=pJ ln h (gM b (ln + 1)) (bK b) (gM e (ln + 2 + bK b)) (bK e) (iy e)++gM l (ln + FT h.op (bK b) (bK e) (iy e)) from rfl,List.append_assoc]
   exact PS.cons (Iz hs1 _ _ _ _ _ _ _).1 (Zh hs1 (GL b hsb) (GL e hse) ln _ (QC l _ m r hsl)) (GL l hsl _ m r)
end Go.Proofs.YtehnipchbmjlhaaGreatDoor.Pz
end
section
set_option linter.unusedSimpArgs false
set_option linter.unusedVariables false
namespace Go.Proofs.YtehnipchbmjlhaaGreatDoor.Pz
open Go.RowKit Md Tk Fm
def G8 (ln:Nat) (k:Int):Tok:=⟨3,tl (oo k),ln⟩
def LK (ln u:Nat):Tok:=⟨2,Lib.decDigits u,ln⟩
def zm (ln:Nat) (s:Int):aj:=if 0 < s then [sg ln [91],LK ln s.toNat,sg ln [93]] else []
def inT (ln:Nat) (i:Int):aj:=if i=0 then [] else sg ln [61] ::(if i < 0 then [sg ln [45],LK ln i.natAbs] else [LK ln i.toNat])
def Fa (ln:Nat) (k:Int) (on:ByteArray):aj:=if k == 5 then [gF ln on] else []
def BN (ln:Nat) (d:De):aj:=G8 ln d.kind ::gF ln d.nm ::(zm ln d.size++(inT ln d.init++(Fa ln d.kind d.on++[sg ln [59]])))
structure DK (d:De):Prop where
 kind:1≤d.kind∧d.kind≤6
 nm:dQ (tl d.nm)=true
 size:0≤d.size∧(d.size≠0→d.kind=1)
 init:d.init≠ -9223372036854775808∧(d.init≠0→d.kind=1∨d.kind=2)
 on:(d.kind=5→dQ (tl d.on)=true)∧(d.kind≠5→d.on=⟨#[]⟩)
theorem Mg {d:De} (h:gT d=true):DK d:=by
 unfold gT at h
 simp only [Bool.and_eq_true,decide_eq_true_eq,Bool.or_eq_true,beq_iff_eq,bne_iff_ne] at h
 obtain ⟨⟨⟨⟨h1,h2⟩,h3⟩,h4,h5⟩,⟨h6,h7⟩,h8⟩:=h
 refine ⟨⟨h1,h2⟩,h3,⟨h4,fun h=>h5.resolve_left h⟩,⟨h6,fun h=>h7.resolve_left h⟩,fun h=> ?_,fun h=> ?_⟩
 ·rw [h] at h8; exact h8
 ·have:(d.kind == 5)=false:=by simpa using h
  rw [this] at h8; exact iR h8
def Fj (ln:Nat) (t:List UInt8) (T:aj):Prop:= ∀rest,qA rest→Sc t ln T ln rest
theorem Fj.ite {ln:Nat} {t u:List UInt8} {T U:aj} {c:Prop} [Decidable c] (h:Fj ln t T) (h':c→Fj ln (t++u) (T++U)):Fj ln (if c then t++u else t) (T++if c then U else []):=by
 split
 ·rename_i hc; exact h' hc
 ·rw [List.append_nil]; exact h
theorem Ej (k:Int) (h:1≤k∧k≤6):tl (oo k) ∈ uQ∧j3 (tl (oo k))=k:=by
 have:k=1∨k=2∨k=3∨k=4∨k=5∨k=6:=by omega
 rcases this with rfl | rfl | rfl | rfl | rfl | rfl <;> decide
theorem Zi {d:De} (hs:gT d=true) (hz:d.size≤9223372036854775807) (hi:aV d.init) (ln:Nat) (rest:List UInt8):Sc (tl (BQ d)) ln (BN ln d) (ln + 1) rest:=by
 obtain ⟨hk,hn,⟨hs0,hs1⟩,⟨hi0,hi1⟩,ho1,ho2⟩:=Mg hs
 obtain ⟨kind,line,nm,size,init,on⟩:=d
 dsimp only at *
 have w1:Fj ln (tl ((oo kind++⟨#[32]⟩)++nm)) [G8 ln kind,gF ln nm]:=fun rest hr=>by
  rw [aX,aX]
  exact (((Sc.kw (Ej kind hk).1 (pX _)).app (Sc.sp ln _)).app (Sc.name hn hr)).cast (by simp [G8,gF])
 have w2:Fj ln (tl (if 0 < size then ((((oo kind++⟨#[32]⟩)++nm)++⟨#[91]⟩)++kW size)++⟨#[93]⟩ else (oo kind++⟨#[32]⟩)++nm)) ([G8 ln kind,gF ln nm]++zm ln size):=by
  unfold zm
  split
  ·rename_i hc
   intro rest hr
   rw [aX _ ⟨#[93]⟩,aX _ (kW size),aX _ ⟨#[91]⟩,Ed (Int.le_of_lt hc)]
   exact ((((w1 _ (X6 _)).app (Sc.lone ln (c:=91) (by decide) _)).app (Sc.dec (by omega) ln (Wq _))).app (Sc.lone ln (c:=93) (by decide) rest)).cast (by simp [sg,LK])
  ·rw [List.append_nil]; exact w1
 unfold BQ
 rw [if_neg (by simp; omega)]
 dsimp only
 generalize (if 0 < size then ((((oo kind++⟨#[32]⟩)++nm)++⟨#[91]⟩)++kW size)++⟨#[93]⟩ else (oo kind++⟨#[32]⟩)++nm)=s2 at *
 have w3:Fj ln (tl (if (init != 0)=true then (s2++⟨#[32,61,32]⟩)++kW init else s2)) (([G8 ln kind,gF ln nm]++zm ln size)++inT ln init):=by
  unfold inT
  by_cases h0:init=0
  ·subst h0
   rw [if_pos rfl,if_neg (by decide),List.append_nil]; exact w2
  ·rw [if_neg h0,if_pos (by simpa using h0)]
   intro rest hr
   rw [aX,aX]
   have eqs: ∀rest,Sc [32,61,32] ln [sg ln [61]] ln rest:=fun rest=>(Sc.sp ln _).app (((Sc.sign ln (x:=[61]) (by decide) _)).app (Sc.sp ln rest))
   by_cases hneg:init < 0
   ·rw [if_pos hneg,show tl (kW init)=[45]++Lib.decDigits init.natAbs from by unfold kW tl; rw [Vl hneg]; rfl]
    exact (((w2 _ (pX _)).app (eqs _)).app ((Sc.lone ln (c:=45) (by decide) _).app (Sc.dec (by have:=hi.1; omega) ln hr))).cast (by simp [sg,LK])
   ·rw [if_neg hneg,Ed (by omega)]
    exact (((w2 _ (pX _)).app (eqs _)).app (Sc.dec (by have:=hi.2; omega) ln hr)).cast (by simp [sg,LK])
 generalize (if (init != 0)=true then (s2++⟨#[32,61,32]⟩)++kW init else s2)=s3 at *
 have w4:Fj ln (tl (if (kind == 5)=true then (s3++⟨#[32]⟩)++on else s3)) ((([G8 ln kind,gF ln nm]++zm ln size)++inT ln init)++Fa ln kind on):=by
  unfold Fa
  split
  ·rename_i hc
   intro rest hr
   rw [aX,aX]
   exact (((w3 _ (pX _)).app (Sc.sp ln _)).app (Sc.name (ho1 (by simpa using hc)) hr)).cast (by simp [gF])
  ·rw [List.append_nil]; exact w3
 generalize (if (kind == 5)=true then (s3++⟨#[32]⟩)++on else s3)=s4 at *
 rw [aX]
 exact ((w4 _ (En _)).app ((Sc.lone ln (c:=59) (by decide) _).app (Sc.nl ln rest))).cast (by simp [BN,sg])
theorem F8 (u:Nat):val (Lib.decDigits u)=u:=(Bj u).2.1
theorem Vn (d:De) (ln:Nat) (s:Int) (r:aj) (h0:0≤s) (hd:d.size=0) (hr:at' [91] r=false):kT d (zm ln s++r)= .ok {d with size:=s} r:=by
 unfold zm
 by_cases h:0 < s
 ·rw [if_pos h]
  show (if val (Lib.decDigits s.toNat) == 0 then aT.no _ else (aT.ok {d with size:=((val (Lib.decDigits s.toNat):Nat):Int)} r:aT De))=_
  rw [F8,if_neg (by simp; omega),Int.toNat_of_nonneg h0]
 ·obtain rfl:s=0:=by omega
  rw [if_neg h,List.nil_append]
  unfold kT
  rw [if_neg (by rw [hr]; decide),← hd]
theorem KF (d:De) (ln:Nat) (i:Int) (r:aj) (hd:d.init=0) (hr:at' [61] r=false):iK d (inT ln i++r)= .ok {d with init:=i} r:=by
 unfold inT
 by_cases h:i=0
 ·subst h
  rw [if_pos rfl,List.nil_append]
  unfold iK
  rw [if_neg (by rw [hr]; decide),← hd]
 ·rw [if_neg h]
  by_cases hn:i < 0
  ·rw [if_pos hn]
   show (aT.ok {d with init:= -((val (Lib.decDigits i.natAbs):Nat):Int)} r:aT De)=_
   rw [F8,show -((i.natAbs:Nat):Int)=i by omega]
  ·rw [if_neg hn]
   show (aT.ok {d with init:=((val (Lib.decDigits i.toNat):Nat):Int)} r:aT De)=_
   rw [F8,Int.toNat_of_nonneg (by omega)]
theorem ak2 (ln:Nat) (i:Int) (r:aj) (h:at' [91] r=false):at' [91] (inT ln i++r)=false:=by
 unfold inT
 split
 ·exact h
 ·rfl
theorem Zw {d:De} (hs:gT d=true) (ln:Nat) (r:aj):oz (BN ln d++r)= .ok {d with line:=(ln:Int)} r:=by
 obtain ⟨hk,hn,⟨hs0,hs1⟩,⟨hi0,hi1⟩,ho1,ho2⟩:=Mg hs
 obtain ⟨kind,line,nm,size,init,on⟩:=d
 dsimp only at *
 have ht:BN ln ⟨kind,line,nm,size,init,on⟩++r=G8 ln kind ::gF ln nm ::(zm ln size++(inT ln init++(Fa ln kind on++(sg ln [59] ::r)))):=by
  simp [BN]
 rw [ht]
 have hdc:=(Ej kind hk).2
 have cs:kind=1∨kind=2∨(kind=3∨kind=4∨kind=6)∨kind=5:=by omega
 rcases cs with rfl | rfl | h | rfl
 ·have e:=ho2 (by decide)
  subst e
  rw [show Fa ln 1 (⟨#[]⟩:ByteArray)=[] from rfl,List.nil_append]
  show ((((kT ⟨1,ln,tx (tl nm),0,0,⟨#[]⟩⟩ (zm ln size++(inT ln init++(sg ln [59] ::r)))).bind iK)):aT De).close [59]=_
  rw [Vn _ ln size _ hs0 rfl (ak2 ln init _ rfl)]
  show ((iK ⟨1,ln,tx (tl nm),size,0,⟨#[]⟩⟩ (inT ln init++(sg ln [59] ::r)))).close [59]=_
  rw [KF _ ln init _ rfl rfl,kQ]; rfl
 ·have e:=ho2 (by decide)
  subst e
  obtain rfl:size=0:=by
   by_cases h:size=0
   ·exact h
   ·exact absurd (hs1 h) (by decide)
  rw [show Fa ln 2 (⟨#[]⟩:ByteArray)=[] from rfl,List.nil_append,show zm ln 0=[] from rfl,List.nil_append]
  show ((iK ⟨2,ln,tx (tl nm),0,0,⟨#[]⟩⟩ (inT ln init++(sg ln [59] ::r)))).close [59]=_
  rw [KF _ ln init _ rfl rfl,kQ]; rfl
 ·have e:=ho2 (by omega)
  subst e
  obtain rfl:size=0:=by
   by_cases h':size=0
   ·exact h'
   ·exact absurd (hs1 h') (by omega)
  obtain rfl:init=0:=by
   by_cases h':init=0
   ·exact h'
   ·exact absurd (hi1 h') (by omega)
  rw [show zm ln 0=[] from rfl,show inT ln 0=[] from rfl,show Fa ln kind (⟨#[]⟩:ByteArray)=[] from by rcases h with rfl | rfl | rfl <;> rfl,List.nil_append,List.nil_append,List.nil_append]
  have:oz (G8 ln kind ::gF ln nm ::sg ln [59] ::r)= .ok ⟨kind,ln,tx (tl nm),0,0,⟨#[]⟩⟩ r:=by rcases h with rfl | rfl | rfl <;> rfl
  rw [this,kQ]
 ·obtain rfl:size=0:=by
   by_cases h':size=0
   ·exact h'
   ·exact absurd (hs1 h') (by decide)
  obtain rfl:init=0:=by
   by_cases h':init=0
   ·exact h'
   ·exact absurd (hi1 h') (by decide)
  rw [show zm ln 0=[] from rfl,show inT ln 0=[] from rfl,show Fa ln 5 on=[gF ln on] from rfl,List.nil_append,List.nil_append]
  show (aT.ok ⟨5,ln,tx (tl nm),0,0,tx (tl on)⟩ r:aT De)=_
  rw [kQ,kQ]
def AO (ln:Nat):Bool→List ByteArray→aj
 | _,[]=>[]
 | c,s ::r=>(if c then [gF ln s] else [sg ln [44],gF ln s])++AO ln false r
theorem TA (ln:Nat): ∀(l:List ByteArray) (c:Bool) (rest:List UInt8),(l.all fun s=>dQ s.data.toList)=true→qA rest→Sc (tl (pz c l)) ln (AO ln c l) ln rest
 | [],_,rest,_,_=>Sc.nil ln rest
 | s ::r,c,rest,h,hr=>by
   rw [List.all_cons,Bool.and_eq_true] at h
   have ih:=TA ln r false rest h.2 hr
   have hn:qA (tl (pz false r)++rest):=by
    cases r with
    | nil=>exact hr
    | cons a b=>
      show qA (tl ((⟨#[44,32]⟩++a)++pz false b)++rest)
      rw [aX,aX]; exact kK (by decide)
   rw [show pz c (s ::r)=(if c then s else ⟨#[44,32]⟩++s)++pz false r from rfl,aX]
   refine Sc.app ?_ ih
   cases c
   ·simp only [Bool.false_eq_true,if_false,aX]
    exact (((Sc.lone ln (c:=44) (by decide) _).app (Sc.sp ln _)).app (Sc.name h.1 hn)).cast (by simp [sg,gF]; rfl)
   ·exact Sc.name h.1 hn
theorem Tw (ln:Nat): ∀(r:List ByteArray) (s:ByteArray) (f:Nat) (R:aj),r.length < f→jB f (gF ln s ::(AO ln false r++(sg ln [41] ::R)))= .ok (s ::r) (sg ln [41] ::R)
 | [],s,0,R,h=>absurd h (by simp)
 | [],s,f + 1,R,_=>by
   show (aT.ok [tx (tl s)] (sg ln [41] ::R):aT (List ByteArray))=_
   rw [kQ]
 | a ::b,s,0,R,h=>absurd h (by simp)
 | a ::b,s,f + 1,R,h=>by
   show ((jB f (gF ln a ::(AO ln false b++(sg ln [41] ::R)))).map (tx (tl s) :: ·))=_
   rw [Tw ln b a f R (by simpa using h),kQ]; rfl
def RY:List UInt8:=[116,104,114,101,97,100]
def CW (ln:Nat) (t:Th):aj:=⟨3,RY,ln⟩ ::gF ln t.nm ::sg ln [40] ::(AO ln true t.cB++(sg ln [41] ::sg ln [123] ::(gM t.body (ln + 1)++[sg (ln + 1 + bK t.body) [125]])))
def MB (ln:Nat) (t:Th):Th:=⟨t.nm,ln,t.cB,Ec t.body (ln + 1)⟩
theorem Zn {t:Th} (hs:jK t=true) (hf:yK t.body) (ln:Nat) (rest:List UInt8):Sc (tl (F9 t)) ln (CW ln t) (ln + 2 + bK t.body) rest:=by
 unfold jK at hs
 simp only [Bool.and_eq_true] at hs
 obtain ⟨⟨h1,h2⟩,h3⟩:=hs
 unfold F9
 simp only [aX]
 have q:=((((((((Sc.kw (x:=RY) (n:=ln) (by decide) (pX _)).app (Sc.sp ln _)).app (Sc.name h1 (kK (by decide)))).app (Sc.lone ln (c:=40) (by decide) _)).app (TA ln t.cB true _ h2 (kK (by decide)))).app ((((Sc.lone ln (c:=41) (by decide) _).app (Sc.sp ln _)).app (Sc.lone ln (c:=123) (by decide) _)).app (Sc.nl ln _))).app (DL t.body 1 (ln + 1) _ h3 hf)).app ((Sc.lone (ln + 1 + bK t.body) (c:=125) (by decide) _).app (Sc.nl _ rest)))
 rw [show ln + 2 + bK t.body=ln + 1 + bK t.body + 1 by omega]
 exact q.cast (by simp [CW,sg,gF]; rfl)
theorem ZR {t:Th} (hs:jK t=true) (ln:Nat) (r:aj):uy (CW ln t++r)= .ok (MB ln t) r:=by
 unfold jK at hs
 simp only [Bool.and_eq_true] at hs
 obtain ⟨⟨h1,h2⟩,h3⟩:=hs
 have ht:CW ln t++r=⟨3,RY,ln⟩ ::gF ln t.nm ::sg ln [40] ::(AO ln true t.cB++(sg ln [41] ::sg ln [123] ::(gM t.body (ln + 1)++(sg (ln + 1 + bK t.body) [125] ::r)))):=by simp [CW]
 rw [ht]
 generalize hX:gM t.body (ln + 1)++(sg (ln + 1 + bK t.body) [125] ::r)=X
 have hb:blk (3 * (sg ln [123] ::X).length + 3) (sg ln [123] ::X)= .ok (Ec t.body (ln + 1)) r:=by
  rw [vk]
  have:=GL t.body h3 (ln + 1) (ln + 1 + bK t.body) r
  rw [hX] at this
  exact this _ (by show 3 * X.length + 1 < _; simp only [List.length_cons]; omega)
 cases hl:t.cB with
 | nil=>
   show ((blk (3 * (sg ln [123] ::X).length + 3) (sg ln [123] ::X)).map fun b=>(⟨tx (tl t.nm),ln,[],b⟩:Th))=_
   rw [hb,kQ]
   unfold MB; rw [hl]; rfl
 | cons s q=>
   show (((jB ((gF ln s ::(AO ln false q++(sg ln [41] ::sg ln [123] ::X))).length + 1) (gF ln s ::(AO ln false q++(sg ln [41] ::sg ln [123] ::X)))).close [41]).bind fun l r=>(blk (3 * r.length + 3) r).map fun b=>(⟨tx (tl t.nm),ln,l,b⟩:Th))=_
   have hlen: ∀q:List ByteArray,q.length≤(AO ln false q).length:=by
    intro q
    induction q with
    | nil=>exact Nat.zero_le _
    | cons a b ih=>
      rw [show AO ln false (a ::b)=[sg ln [44],gF ln a]++AO ln false b from rfl,List.length_append]
      simp only [List.length_cons,List.length_nil]; omega
   rw [Tw ln q s _ _ (by have:=hlen q; simp only [List.length_cons,List.length_append]; omega)]
   show ((blk (3 * (sg ln [123] ::X).length + 3) (sg ln [123] ::X)).map fun b=>(⟨tx (tl t.nm),ln,s ::q,b⟩:Th))=_
   rw [hb,kQ]
   unfold MB; rw [hl]; rfl
def dsT:Nat→List De→aj
 | _,[]=>[]
 | ln,d ::r=>BN ln d++dsT (ln + 1) r
def Tg:Nat→List De→List De
 | _,[]=>[]
 | ln,d ::r=> {d with line:=(ln:Int)} ::Tg (ln + 1) r
def wH:Nat→List Th→aj
 | _,[]=>[]
 | ln,t ::r=>CW ln t++wH (ln + 2 + bK t.body) r
def TB:Nat→List Th→List Th
 | _,[]=>[]
 | ln,t ::r=>MB ln t ::TB (ln + 2 + bK t.body) r
theorem Tq: ∀(l:List De) (ln:Nat) (rest:List UInt8),l.all gT=true→(∀d ∈ l,d.size≤9223372036854775807∧aV d.init)→Sc (tl (Ag l)) ln (dsT ln l) (ln + l.length) rest
 | [],ln,rest,_,_=>Sc.nil ln rest
 | d ::r,ln,rest,hs,hf=>by
   rw [List.all_cons,Bool.and_eq_true] at hs
   rw [show Ag (d ::r)=BQ d++Ag r from rfl,aX,show ln + (d ::r).length=ln + 1 + r.length by simp only [List.length_cons]; omega]
   exact (Zi hs.1 (hf d (List.mem_cons_self ..)).1 (hf d (List.mem_cons_self ..)).2 ln _).app (Tq r (ln + 1) rest hs.2 (fun d hd=>hf d (List.mem_cons_of_mem _ hd)))
theorem Ug: ∀(l:List Th) (ln:Nat) (rest:List UInt8),l.all jK=true→(∀t ∈ l,yK t.body)→ ∃n,Sc (tl (tH l)) ln (wH ln l) n rest
 | [],ln,rest,_,_=>⟨ln,Sc.nil ln rest⟩
 | t ::r,ln,rest,hs,hf=>by
   rw [List.all_cons,Bool.and_eq_true] at hs
   obtain ⟨n,hn⟩:=Ug r (ln + 2 + bK t.body) rest hs.2 (fun t ht=>hf t (List.mem_cons_of_mem _ ht))
   refine ⟨n,?_⟩
   rw [show tH (t ::r)=F9 t++tH r from rfl,aX]
   exact (Zn hs.1 (hf t (List.mem_cons_self ..)) ln _).app hn
theorem Uc: ∀(l:List De) (ln f:Nat) (R:aj),l.all gT=true→l.length≤f→isDecl R=false→ko f (dsT ln l++R)= .ok (Tg ln l) R
 | [],_,0,_,_,_,_=>rfl
 | [],_,f + 1,R,_,_,h=>by
   show (if isDecl R then _ else aT.ok [] R)=_
   rw [h]; rfl
 | d ::r,_,0,_,_,h,_=>absurd h (by simp)
 | d ::r,ln,f + 1,R,hs,hf,h=>by
   rw [List.all_cons,Bool.and_eq_true] at hs
   have hk:=(Mg hs.1).kind
   have hd:isDecl (BN ln d++(dsT (ln + 1) r++R))=true:=by
    show ((3 == 3) && !(j3 (tl (oo d.kind)) == 0))=true
    rw [(Ej _ hk).2]; simp; omega
   rw [show dsT ln (d ::r)=BN ln d++dsT (ln + 1) r from rfl,List.append_assoc]
   unfold ko
   rw [if_pos hd,Zw hs.1]
   show (ko f (dsT (ln + 1) r++R)).map _=_
   rw [Uc r (ln + 1) f R hs.2 (by simpa using hf) h]; rfl
theorem Uf: ∀(l:List Th) (ln f:Nat),l.all jK=true→l.length≤f→kN f (wH ln l)= .ok (TB ln l) []
 | [],_,0,_,_=>rfl
 | [],_,f + 1,_,_=>rfl
 | t ::r,_,0,_,h=>absurd h (by simp)
 | t ::r,ln,f + 1,hs,hf=>by
   rw [List.all_cons,Bool.and_eq_true] at hs
   rw [show wH ln (t ::r)=CW ln t++wH (ln + 2 + bK t.body) r from rfl]
   unfold kN
   rw [if_pos (by rfl),ZR hs.1]
   show (kN f (wH (ln + 2 + bK t.body) r)).map _=_
   rw [Uf r _ f hs.2 (by simpa using hf)]; rfl
theorem LJ: ∀(l:List De) (ln:Nat),l.length≤(dsT ln l).length
 | [],_=>Nat.zero_le _
 | d ::r,ln=>by
   have:=LJ r (ln + 1)
   rw [show dsT ln (d ::r)=BN ln d++dsT (ln + 1) r from rfl,List.length_append]
   unfold BN
   simp only [List.length_cons]; omega
theorem KY: ∀(l:List Th) (ln:Nat),l.length≤(wH ln l).length
 | [],_=>Nat.zero_le _
 | t ::r,ln=>by
   have:=KY r (ln + 2 + bK t.body)
   rw [show wH ln (t ::r)=CW ln t++wH (ln + 2 + bK t.body) r from rfl,List.length_append]
   unfold CW
   simp only [List.length_cons]; omega
def zB (p:Pr):Pr:=⟨Tg 1 p.ds,TB (1 + p.ds.length) p.ts⟩
def Xx (p:Pr):Prop:=(∀d ∈ p.ds,d.size≤9223372036854775807∧aV d.init)∧ ∀t ∈ p.ts,yK t.body
theorem round {p:Pr} (hs:sJ p=true) (hf:Xx p) (hl:(tl (rQ p)).length≤4096):parse (tl (rQ p))=(zB p,0,0):=by
 unfold sJ at hs
 simp only [Bool.and_eq_true,decide_eq_true_eq] at hs
 obtain ⟨⟨hD,hT⟩,hpos⟩:=hs
 have hsc:scan (tl (rQ p))=(dsT 1 p.ds++wH (1 + p.ds.length) p.ts,0,0):=by
  unfold scan
  rw [if_neg (by omega)]
  show sc (tl (rQ p)) 1 []=_
  obtain ⟨n,hn⟩:=Ug p.ts (1 + p.ds.length) [] hT hf.2
  have:=((Tq p.ds 1 (tl (tH p.ts)++[]) hD hf.1).app hn) []
  rw [List.append_nil,List.nil_append] at this
  unfold rQ
  rw [aX,this]
  exact iW _ _ _
 have hth:isDecl (wH (1 + p.ds.length) p.ts)=false:=by
  cases p.ts with
  | nil=>rfl
  | cons t r=>rfl
 have hp:prog (dsT 1 p.ds++wH (1 + p.ds.length) p.ts)= .ok (zB p) []:=by
  unfold prog
  rw [Uc p.ds 1 _ _ hD (by have:=LJ p.ds 1; rw [List.length_append]; omega) hth]
  show (kN (wH (1 + p.ds.length) p.ts).length (wH (1 + p.ds.length) p.ts)).map _=_
  rw [Uf p.ts _ _ hT (KY _ _)]; rfl
 have hne:(zB p).ts.isEmpty=false:=by
  unfold zB
  cases h:p.ts with
  | nil=>rw [h] at hpos; simp at hpos
  | cons t r=>rfl
 unfold parse
 rw [hsc]
 dsimp only
 rw [if_pos rfl,hp]
 dsimp only
 rw [if_neg (by rw [hne]; decide)]
end Go.Proofs.YtehnipchbmjlhaaGreatDoor.Pz
end
