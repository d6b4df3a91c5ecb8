/-
  Plain laws of printed statements: their tokens, line for line, and what is parsed of them. No program in sight.
  Plain laws of printed statements: their tokens are parsed as them, lines apart. No program in sight.
  Plain laws of printed programs: they are parsed as themselves, lines apart. No program in sight.
-/
import Derived.Test.YtehnipchbmjlhaaGreatDoorGXB
import Derived.Test.YtehnipchbmjlhaaGreatDoorGMA
import Derived.Test.YtehnipchbmjlhaaGreatDoorGZA
section
set_option linter.unusedSimpArgs false
set_option linter.unusedVariables false
namespace Go.Proofs.YtehnipchbmjlhaaGreatDoor.Pz
open Go.RowKit Md Tk Fm
inductive SK:aW→Nat→Nat→Prop
 | xZ (l:Int) (nm:ByteArray) (o n:Int) (m:ByteArray) (k:aH):dQ (tl nm)=true→dI o n m k=true→SK ⟨1,l,nm,⟨#[]⟩,.nil,o,n,m,k⟩ 0 0
 | CF (l:Int) (nm:ByteArray) (o' n':Int) (m':ByteArray) (k':aH) (o n:Int) (m:ByteArray) (k:aH):dQ (tl nm)=true→dI o' n' m' k'=true→dI o n m k=true→SK ⟨1,l,nm,⟨#[]⟩,.cons o' n' m' k' .nil,o,n,m,k⟩ 0 0
 | cond (l:Int) (o n:Int) (m:ByteArray) (k:aH) (bl el:Nat):dI o n m k=true→SK ⟨2,l,⟨#[]⟩,⟨#[]⟩,.nil,o,n,m,k⟩ bl el
 | loop (l:Int) (o n:Int) (m:ByteArray) (k:aH) (bl:Nat):dI o n m k=true→SK ⟨3,l,⟨#[]⟩,⟨#[]⟩,.nil,o,n,m,k⟩ bl 0
 | held (w l:Int) (nm:ByteArray) (bl:Nat):w=4∨w=5∨w=6→dQ (tl nm)=true→SK ⟨w,l,nm,⟨#[]⟩,.nil,0,0,⟨#[]⟩,.nil⟩ bl 0
 | block (w l:Int) (bl:Nat):w=7∨w=8→SK ⟨w,l,⟨#[]⟩,⟨#[]⟩,.nil,0,0,⟨#[]⟩,.nil⟩ bl 0
 | word (w l:Int) (nm:ByteArray):w=9∨w=10∨w=11∨w=12∨w=13→dQ (tl nm)=true→SK ⟨w,l,nm,⟨#[]⟩,.nil,0,0,⟨#[]⟩,.nil⟩ 0 0
 | set (l:Int) (nm:ByteArray) (o n:Int) (m:ByteArray) (k:aH):dQ (tl nm)=true→dI o n m k=true→SK ⟨14,l,nm,⟨#[]⟩,.nil,o,n,m,k⟩ 0 0
 | get (l:Int) (nm arg:ByteArray):dQ (tl nm)=true→dQ (tl arg)=true→SK ⟨15,l,nm,arg,.nil,0,0,⟨#[]⟩,.nil⟩ 0 0
theorem BH {o n:Int} {m:ByteArray} {k:aH} (h:oL o n m k.len=true):o=0∧n=0∧m=⟨#[]⟩∧k= .nil:=by
 unfold oL at h
 simp only [Bool.and_eq_true,beq_iff_eq] at h
 obtain ⟨⟨⟨h1,h2⟩,h3⟩,h4⟩:=h
 rw [Lib.toList_data] at h3
 refine ⟨h1,h2,iQ h3,?_⟩
 cases k with
 | nil=>rfl
 | cons=>simp [aH.len] at h4
theorem OY {k:aH} (h:k.len≤1) (hs:gZ k=true):k= .nil∨ ∃o n m k',k= .cons o n m k' .nil∧dI o n m k'=true:=by
 match k,h,hs with
 | .nil,_,_=>exact Or.inl rfl
 | .cons o n m k' .nil,_,hs=>
   refine Or.inr ⟨o,n,m,k',rfl,?_⟩
   simp only [gZ,Bool.and_eq_true] at hs
   unfold dI; simp only [Bool.and_eq_true]; exact hs.1
 | .cons _ _ _ _ (.cons _ _ _ _ _),h,_=>simp [aH.len] at h
theorem GY {h:aW} {bl el:Nat} (hs:iy h bl el=true):SK h bl el:=by
 obtain ⟨op,line,nm,arg,idx,o,n,m,k⟩:=h
 unfold iy at hs
 simp only [Bool.and_eq_true] at hs
 obtain ⟨⟨⟨hO,hnm,Ay⟩,⟨hil,hi1⟩,Z0⟩,hx,hb,he⟩:=hs
 have hop:1≤op∧op≤15:=by unfold fO at hO; simpa using hO
 have RB:=of_decide_eq_true hil
 have hix:op≠1→idx= .nil:=by
  intro hne
  rcases OY RB Z0 with rfl | ⟨a,b,c,d,rfl,-⟩
  ·rfl
  ·exfalso; simp [aH.len,fI,hne] at hi1
 have hen:op≠2→el=0:=by intro hne; simpa [fE,hne] using he
 have cs:op=1∨op=2∨op=3∨(op=4∨op=5∨op=6)∨(op=7∨op=8)∨(op=9∨op=10∨op=11∨op=12∨op=13)∨op=14∨op=15:=by omega
 rcases cs with rfl | rfl | rfl | h | h | h | rfl | rfl
 ·obtain rfl:bl=0:=by simpa [fB] using hb
  obtain rfl:=hen (by decide)
  have e1:arg=⟨#[]⟩:=iQ Ay
  subst e1
  rcases OY RB Z0 with rfl | ⟨a,b,c,d,rfl,hd⟩
  ·exact .xZ _ _ _ _ _ _ hnm hx
  ·exact .CF _ _ _ _ _ _ _ _ _ _ hnm hd hx
 ·obtain rfl:=hix (by decide)
  have e1:arg=⟨#[]⟩:=iQ Ay
  have e2:nm=⟨#[]⟩:=iQ hnm
  subst e1 e2
  exact .cond _ _ _ _ _ _ _ hx
 ·obtain rfl:=hix (by decide)
  obtain rfl:=hen (by decide)
  have e1:arg=⟨#[]⟩:=iQ Ay
  have e2:nm=⟨#[]⟩:=iQ hnm
  subst e1 e2
  exact .loop _ _ _ _ _ _ hx
 ·obtain rfl:=hix (by omega)
  obtain rfl:=hen (by omega)
  have e1:arg=⟨#[]⟩:=iQ (by rcases h with rfl | rfl | rfl <;> exact Ay)
  obtain ⟨rfl,rfl,rfl,rfl⟩:=BH (o:=o) (n:=n) (m:=m) (k:=k) (by rcases h with rfl | rfl | rfl <;> exact hx)
  subst e1
  exact .held _ _ _ _ h (by rcases h with rfl | rfl | rfl <;> exact hnm)
 ·obtain rfl:=hix (by omega)
  obtain rfl:=hen (by omega)
  have e1:arg=⟨#[]⟩:=iQ (by rcases h with rfl | rfl <;> exact Ay)
  have e2:nm=⟨#[]⟩:=iQ (by rcases h with rfl | rfl <;> exact hnm)
  obtain ⟨rfl,rfl,rfl,rfl⟩:=BH (o:=o) (n:=n) (m:=m) (k:=k) (by rcases h with rfl | rfl <;> exact hx)
  subst e1 e2
  exact .block _ _ _ h
 ·obtain rfl:=hix (by omega)
  obtain rfl:=hen (by omega)
  obtain rfl:bl=0:=by rcases h with rfl | rfl | rfl | rfl | rfl <;> simpa [fB] using hb
  have e1:arg=⟨#[]⟩:=iQ (by rcases h with rfl | rfl | rfl | rfl | rfl <;> exact Ay)
  obtain ⟨rfl,rfl,rfl,rfl⟩:=BH (o:=o) (n:=n) (m:=m) (k:=k) (by rcases h with rfl | rfl | rfl | rfl | rfl <;> exact hx)
  subst e1
  exact .word _ _ _ h (by rcases h with rfl | rfl | rfl | rfl | rfl <;> exact hnm)
 ·obtain rfl:=hix (by decide)
  obtain rfl:=hen (by decide)
  obtain rfl:bl=0:=by simpa [fB] using hb
  have e1:arg=⟨#[]⟩:=iQ Ay
  subst e1
  exact .set _ _ _ _ _ _ hnm hx
 ·obtain rfl:=hix (by decide)
  obtain rfl:=hen (by decide)
  obtain rfl:bl=0:=by simpa [fB] using hb
  obtain ⟨rfl,rfl,rfl,rfl⟩:=BH (o:=o) (n:=n) (m:=m) (k:=k) hx
  exact .get _ _ _ hnm Ay
def FK (op:Int) (nb ne:Nat) (none:Bool):Nat:=if op < 2 || 8 < op then 1 else if none then 2 + nb else 3 + nb + ne
def bK:aI→Nat
 | .nil=>0
 | .cons h b e r=>FK h.op (bK b) (bK e) (iw e) + bK r
def jr (ln:Nat) (op:Int):Tok:=⟨3,tl (iE op),ln⟩
def gF (ln:Nat) (nm:ByteArray):Tok:=⟨1,tl nm,ln⟩
def Xo (ln:Nat):aH→aj
 | .nil=>[]
 | .cons o n m k _=>sg ln [91] ::(xT ln o n m k++[sg ln [93]])
def wu (ln:Nat) (h:aW):aj:=
 if h.op == 1 then gF ln h.nm ::(Xo ln h.idx++(sg ln [61] ::(xT ln h.bM h.xn h.bP h.aJ++[sg ln [59]])))
 else if h.op == 2 || h.op == 3 then jr ln h.op ::(xT ln h.bM h.xn h.bP h.aJ++[sg ln [123]])
 else if h.op == 4 || h.op == 5 || h.op == 6 then [jr ln h.op,gF ln h.nm,sg ln [123]]
 else if h.op == 7 || h.op == 8 then [jr ln h.op,sg ln [123]]
 else if h.op == 14 then jr ln h.op ::gF ln h.nm ::(xT ln h.bM h.xn h.bP h.aJ++[sg ln [59]])
 else if h.op == 15 then [jr ln h.op,gF ln h.nm,gF ln h.arg,sg ln [59]]
 else [jr ln h.op,gF ln h.nm,sg ln [59]]
def Uk (ln:Nat):Tok:=⟨3,[101,108,115,101],ln⟩
def qd (ln:Nat) (h:aW) (B:aj) (nb:Nat) (E:aj) (ne:Nat) (none:Bool):aj:=
 if h.op < 2 || 8 < h.op then wu ln h
 else if none then wu ln h++(B++[sg (ln + 1 + nb) [125]])
 else wu ln h++(B++(sg (ln + 1 + nb) [125] ::Uk (ln + 1 + nb) ::sg (ln + 1 + nb) [123] ::(E++[sg (ln + 2 + nb + ne) [125]])))
def gN:aI→Nat→aj
 | .nil,_=>[]
 | .cons h b e r,ln=>qd ln h (gN b (ln + 1)) (bK b) (gN e (ln + 2 + bK b)) (bK e) (iw e)++gN r (ln + FK h.op (bK b) (bK e) (iw e))
def Dh:aI→Nat→aI
 | .nil,_=> .nil
 | .cons h b e r,ln=> .cons {h with line:=(ln:Int)} (Dh b (ln + 1)) (Dh e (ln + 2 + bK b)) (Dh r (ln + FK h.op (bK b) (bK e) (iw e)))
def zk:aI→Prop
 | .nil=>True
 | .cons h b e r=>((h.xn≤9223372036854775807∧zX h.aJ)∧zX h.idx)∧zk b∧zk e∧zk r
theorem Br {w:World} {B:Nat} : ∀ {l:aI} {ao:Option Addr} {k:Nat},l.At w B ao k→zk l
 | .nil,_,_,_=>trivial
 | .cons h b e r,ao,k,hat=>by
   obtain ⟨⟨bl,off,eP,dK,dJ,bS,bR,aZ,dY,dA,eq,hB,c0,c1,c2,c3,c4,c5,c6,c7,c8,c9,c10,hok,h1,h2,h3,h4⟩,hr⟩:=hat
   exact ⟨⟨⟨hok.2.2.2.2.2.1.2.1.2,Er h2⟩,Er h1⟩,Br h3,Br h4,Br hr⟩
theorem zB (ln:Nat): ∀(d:Nat) (rest:List UInt8),Sc (tl (mE d)) ln [] ln rest
 | 0,rest=>Sc.nil ln rest
 | d + 1,rest=>by
   rw [show mE (d + 1)=mE d++⟨#[32,32]⟩ from rfl,aY]
   exact (zB ln d _).app ((Sc.sp ln _).app (Sc.sp ln rest))
theorem Q5 (op:Int) (h:2≤op∧op≤15):tl (iE op) ∈ vo:=by
 have:op=2∨op=3∨op=4∨op=5∨op=6∨op=7∨op=8∨op=9∨op=10∨op=11∨op=12∨op=13∨op=14∨op=15:=by omega
 rcases this with rfl | rfl | rfl | rfl | rfl | rfl | rfl | rfl | rfl | rfl | rfl | rfl | rfl | rfl <;> decide
theorem Sc.cast {l:List UInt8} {n n':Nat} {ts us:aj} {rest:List UInt8} (h:Sc l n ts n' rest) (e:ts=us):Sc l n us n' rest:=e ▸ h
theorem qh (r:List UInt8):qM (32 ::r):=kR (by decide)
theorem ET (r:List UInt8):qM (59 ::r):=kR (by decide)
theorem WG (r:List UInt8):qM (91 ::r):=kR (by decide)
theorem Yc (r:List UInt8):qM (93 ::r):=kR (by decide)
theorem V9 {h:aW} {bl el:Nat} (hs:iy h bl el=true) (hf:(h.xn≤9223372036854775807∧zX h.aJ)∧zX h.idx) (ln:Nat) (rest:List UInt8):Sc (tl (eD h)) ln (wu ln h) ln rest:=by
 have kw: ∀(op:Int) (rest:List UInt8),2≤op∧op≤15→Sc (tl (iE op)++[32]) ln [jr ln op] ln rest:=fun op rest h=>((Sc.kw (Q5 op h) (qh _)).app (Sc.sp ln rest)).cast rfl
 have br: ∀rest,Sc [32,123] ln [sg ln [123]] ln rest:=fun rest=>(Sc.sp ln _).app (Sc.lone ln (c:=123) (by decide) rest)
 have sm: ∀rest,Sc [59] ln [sg ln [59]] ln rest:=fun rest=>Sc.lone ln (c:=59) (by decide) rest
 have eqs: ∀rest,Sc [32,61,32] ln [sg ln [61]] ln rest:=fun rest=>(Sc.sp ln _).app (((Sc.sign ln (x:=[61]) (by decide) _)).app (Sc.sp ln rest))
 cases GY hs with
 | xZ l nm o n m k h1 h2=>
   have hx:=(uD (op:=o) (n:=n) (nm:=m) (kids:=k) h2 hf.1.1 hf.1.2 ln).1
   rw [show eD ⟨1,l,nm,⟨#[]⟩,.nil,o,n,m,k⟩=(((nm++⟨#[]⟩)++⟨#[32,61,32]⟩)++bf o n m k)++⟨#[59]⟩ from rfl,aY,aY,aY,aY]
   refine (((((Sc.name h1 (qh _)).app (Sc.nil ln _)).app (eqs _)).app (hx _ (ET _))).app (sm rest)).cast ?_
   simp [wu,gF,Xo]
 | CF l nm o' n' m' k' o n m k h1 h3 h2=>
   have hx:=(uD (op:=o) (n:=n) (nm:=m) (kids:=k) h2 hf.1.1 hf.1.2 ln).1
   have hi:=(uD (op:=o') (n:=n') (nm:=m') (kids:=k') h3 hf.2.1.1 hf.2.1.2 ln).1
   rw [show eD ⟨1,l,nm,⟨#[]⟩,.cons o' n' m' k' .nil,o,n,m,k⟩=(((nm++((⟨#[91]⟩++bf o' n' m' k')++⟨#[93]⟩))++⟨#[32,61,32]⟩)++bf o n m k)++⟨#[59]⟩ from rfl,aY,aY,aY,aY,aY,aY]
   refine (((((Sc.name h1 (WG _)).app (((Sc.lone ln (c:=91) (by decide) _).app (hi _ (Yc _))).app (Sc.lone ln (c:=93) (by decide) _))).app (eqs _)).app (hx _ (ET _))).app (sm rest)).cast ?_
   simp [wu,gF,Xo,sg]
 | cond l o n m k bl el h2=>
   have hx:=(uD (op:=o) (n:=n) (nm:=m) (kids:=k) h2 hf.1.1 hf.1.2 ln).1
   rw [show eD ⟨2,l,⟨#[]⟩,⟨#[]⟩,.nil,o,n,m,k⟩=((iE 2++⟨#[32]⟩)++bf o n m k)++⟨#[32,123]⟩ from rfl,aY,aY,aY]
   exact (((kw 2 _ (by decide)).app (hx _ (qh _))).app (br rest)).cast (by simp [wu])
 | loop l o n m k bl h2=>
   have hx:=(uD (op:=o) (n:=n) (nm:=m) (kids:=k) h2 hf.1.1 hf.1.2 ln).1
   rw [show eD ⟨3,l,⟨#[]⟩,⟨#[]⟩,.nil,o,n,m,k⟩=((iE 3++⟨#[32]⟩)++bf o n m k)++⟨#[32,123]⟩ from rfl,aY,aY,aY]
   exact (((kw 3 _ (by decide)).app (hx _ (qh _))).app (br rest)).cast (by simp [wu])
 | held w l nm bl hw h1=>
   rw [show eD ⟨w,l,nm,⟨#[]⟩,.nil,0,0,⟨#[]⟩,.nil⟩=((iE w++⟨#[32]⟩)++nm)++⟨#[32,123]⟩ from by rcases hw with rfl | rfl | rfl <;> rfl,aY,aY,aY]
   exact (((kw w _ (by omega)).app (Sc.name h1 (qh _))).app (br rest)).cast (by rcases hw with rfl | rfl | rfl <;> simp [wu,gF])
 | block w l bl hw=>
   rw [show eD ⟨w,l,⟨#[]⟩,⟨#[]⟩,.nil,0,0,⟨#[]⟩,.nil⟩=iE w++⟨#[32,123]⟩ from by rcases hw with rfl | rfl <;> rfl,aY]
   exact ((Sc.kw (Q5 w (by omega)) (qh _)).app (br rest)).cast (by rcases hw with rfl | rfl <;> simp [wu,jr])
 | word w l nm hw h1=>
   rw [show eD ⟨w,l,nm,⟨#[]⟩,.nil,0,0,⟨#[]⟩,.nil⟩=((iE w++⟨#[32]⟩)++nm)++⟨#[59]⟩ from by rcases hw with rfl | rfl | rfl | rfl | rfl <;> rfl,aY,aY,aY]
   exact (((kw w _ (by omega)).app (Sc.name h1 (ET _))).app (sm rest)).cast (by rcases hw with rfl | rfl | rfl | rfl | rfl <;> simp [wu,gF])
 | set l nm o n m k h1 h2=>
   have hx:=(uD (op:=o) (n:=n) (nm:=m) (kids:=k) h2 hf.1.1 hf.1.2 ln).1
   rw [show eD ⟨14,l,nm,⟨#[]⟩,.nil,o,n,m,k⟩=((((iE 14++⟨#[32]⟩)++nm)++⟨#[32]⟩)++bf o n m k)++⟨#[59]⟩ from rfl,aY,aY,aY,aY,aY]
   exact (((((kw 14 _ (by decide)).app (Sc.name h1 (qh _))).app (Sc.sp ln _)).app (hx _ (ET _))).app (sm rest)).cast (by simp [wu,gF])
 | get l nm arg h1 h2=>
   rw [show eD ⟨15,l,nm,arg,.nil,0,0,⟨#[]⟩,.nil⟩=((((iE 15++⟨#[32]⟩)++nm)++⟨#[32]⟩)++arg)++⟨#[59]⟩ from rfl,aY,aY,aY,aY,aY]
   exact (((((kw 15 _ (by decide)).app (Sc.name h1 (qh _))).app (Sc.sp ln _)).app (Sc.name h2 (ET _))).app (sm rest)).cast (by simp [wu,gF])
theorem ZY {h:aW} {bl el:Nat} (hs:iy h bl el=true):1≤h.op∧h.op≤15:=by
 cases GY hs <;> (dsimp only; omega)
theorem Dc: ∀(l:aI) (d ln:Nat) (rest:List UInt8),gy l=true→zk l→Sc (tl (jV l d)) ln (gN l ln) (ln + bK l) rest
 | .nil,_,ln,rest,_,_=>Sc.nil ln rest
 | .cons h b e r,d,ln,rest,hs,hf=>by
   simp only [gy,Bool.and_eq_true] at hs
   obtain ⟨⟨hs1,hsb,hse⟩,hsr⟩:=hs
   obtain ⟨hfh,hfb,hfe,hfr⟩:=hf
   have hop:=ZY hs1
   have hh:=fun rest=>V9 hs1 hfh ln rest
   have ir:=fun n=>Dc r d n rest hsr hfr
   rw [show jV (.cons h b e r) d=FC d h (jV b (d + 1)) (jV e (d + 1)) (iw e)++jV r d from rfl,aY]
   rw [show gN (.cons h b e r) ln=qd ln h (gN b (ln + 1)) (bK b) (gN e (ln + 2 + bK b)) (bK e) (iw e)++gN r (ln + FK h.op (bK b) (bK e) (iw e)) from rfl]
   rw [show bK (.cons h b e r)=FK h.op (bK b) (bK e) (iw e) + bK r from rfl,← Nat.add_assoc]
   refine Sc.app ?_ (ir _)
   have h10: ∀rest n,Sc [10] n [] (n + 1) rest:=fun rest n=>Sc.nl n rest
   have hcl: ∀rest n,Sc [125,10] n [sg n [125]] (n + 1) rest:=fun rest n=>(Sc.lone n (c:=125) (by decide) _).app (Sc.nl n rest)
   have hel: ∀rest n,Sc (tl Pe) n [sg n [125],Uk n,sg n [123]] (n + 1) rest:=fun rest n=>
    (((((Sc.lone n (c:=125) (by decide) _).app (Sc.sp n _)).app (Sc.kw (x:=[101,108,115,101]) (by decide) (qh _))).app (Sc.sp n _)).app (Sc.lone n (c:=123) (by decide) _)).app (Sc.nl n rest)
   unfold FC qd FK
   rw [if_neg (by simp; omega)]
   by_cases hlf:(decide (h.op < 2) || decide (8 < h.op))=true
   ·rw [if_pos hlf,if_pos hlf,if_pos hlf,aY,aY]
    exact (((zB ln d _).app (hh _)).app (h10 _ ln)).cast (by simp)
   ·rw [if_neg hlf,if_neg hlf,if_neg hlf]
    cases hne:iw e
    ·simp only [Bool.false_eq_true,if_false,aY]
     have ib:=fun rest=>Dc b (d + 1) (ln + 1) rest hsb hfb
     have ie: ∀rest,Sc (tl (jV e (d + 1))) (ln + 1 + bK b + 1) (gN e (ln + 2 + bK b)) (ln + 2 + bK b + bK e) rest:=fun rest=>by
      rw [show ln + 1 + bK b + 1=ln + 2 + bK b by omega]
      exact Dc e (d + 1) (ln + 2 + bK b) rest hse hfe
     have q:=((((((((zB ln d _).app (hh _)).app (h10 _ ln)).app (ib _)).app (zB (ln + 1 + bK b) d _)).app (hel _ (ln + 1 + bK b))).app (ie _)).app (zB (ln + 2 + bK b + bK e) d _)).app (hcl (tl (jV r d)++rest) (ln + 2 + bK b + bK e))
     rw [show ln + (3 + bK b + bK e)=ln + 2 + bK b + bK e + 1 by omega]
     exact q.cast (by simp)
    ·simp only [if_true,aY]
     have ib:=fun rest=>Dc b (d + 1) (ln + 1) rest hsb hfb
     have q:=(((((zB ln d _).app (hh _)).app (h10 _ ln)).app (ib _)).app (zB (ln + 1 + bK b) d _)).app (hcl (tl (jV r d)++rest) (ln + 1 + bK b))
     rw [show ln + (2 + bK b)=ln + 1 + bK b + 1 by omega]
     exact q.cast (by simp)
end Go.Proofs.YtehnipchbmjlhaaGreatDoor.Pz
end
section
set_option linter.unusedSimpArgs false
set_option linter.unusedVariables false
namespace Go.Proofs.YtehnipchbmjlhaaGreatDoor.Pz
open Go.RowKit Md Tk Fm
def Ud (b:Bool) (ts:aj) (f:Nat):Prop:=3 * ts.length + (if b then 0 else 1) < f
def PS (b:Bool) (ts:aj) (l:aI) (r:aj):Prop:= ∀f,Ud b ts f→ps f b ts= .ok l r
theorem PS.len {b:Bool} {ts r:aj} {l:aI} (h:PS b ts l r):r.length < ts.length:=yH _ b ts l r (h (3 * ts.length + 2) (by unfold Ud; split <;> omega))
theorem wP {b:Bool} {ts:aj} {f:Nat} (h:Ud b ts f): ∃g,f=g + 1:=by unfold Ud at h; exact ⟨f - 1,by omega⟩
theorem PS.nil {ln:Nat} {r:aj} :PS false (sg ln [125] ::r) .nil r:=by
 intro f hf
 obtain ⟨g,rfl⟩:=wP hf
 unfold ps
 rw [if_pos (by rfl)]; rfl
theorem PS.cons {ts r1 r:aj} {h:aW} {b e l:aI} (h0:at' [125] ts=false) (h1:PS true ts (one h b e) r1) (h2:PS false r1 l r):PS false ts (.cons h b e l) r:=by
 intro f hf
 obtain ⟨g,rfl⟩:=wP hf
 have hl:=h1.len
 have hf':3 * ts.length + 1 < g + 1:=hf
 unfold ps
 rw [if_neg (by rw [h0]; decide),h1 g (by show 3 * ts.length + 0 < g; omega)]
 dsimp only
 rw [h2 g (by show 3 * r1.length + 1 < g; omega)]
 rfl
theorem uN (f ln:Nat) (ts:aj):blk f (sg ln [123] ::ts)=ps f false ts:=rfl
theorem Jm (ln:Nat) (r:aj):Stop 1 (sg ln [59] ::r):=xV ln 1 [59] r (by decide) (by decide) (Nat.le_refl _)
theorem XM (ln:Nat) (r:aj):Stop 1 (sg ln [93] ::r):=xV ln 1 [93] r (by decide) (by decide) (Nat.le_refl _)
theorem ED (ln:Nat) (r:aj):Stop 1 (sg ln [123] ::r):=xV ln 1 [123] r (by decide) (by decide) (Nat.le_refl _)
theorem Qt (f n:Nat) (nm:ByteArray) (ts:aj):ps (f + 1) true (gF n nm ::ts)=xZ {hd 1 n with nm:=tx (tl nm)} ts:=rfl
theorem Qa (h:aW) (n:Nat) (ts:aj):xZ h (sg n [61] ::ts)=((expr ts).map fun x=>one (aW.ex h x) .nil .nil).close [59]:=rfl
theorem Xv (h:aW) (n:Nat) (ts:aj):xZ h (sg n [91] ::ts)=(((expr ts).close [93]).map (fun x=> {h with idx:= .cons x.op x.n x.nm x.kids .nil})).bind fun h ts=>(need [61] ts).bind fun _ ts=>(((expr ts).map fun x=>one (aW.ex h x) .nil .nil).close [59]):=rfl
theorem U0 (f n:Nat) (ts:aj):ps (f + 1) true (jr n 2 ::ts)=(expr ts).bind fun x r=>(blk f r).bind fun b r=>if at' [101,108,115,101] r then (blk f r.tail).map (one (aW.ex (hd 2 n) x) b) else .ok (one (aW.ex (hd 2 n) x) b .nil) r:=rfl
theorem QG (f n:Nat) (ts:aj):ps (f + 1) true (jr n 3 ::ts)=(expr ts).bind fun x r=>(blk f r).map fun b=>one (aW.ex (hd 3 n) x) b .nil:=rfl
theorem Vo {w:Int} (hw:w=4∨w=5∨w=6) (f n:Nat) (nm:ByteArray) (ts:aj):ps (f + 1) true (jr n w ::gF n nm ::ts)=(blk f ts).map fun b=>one {hd w n with nm:=tx (tl nm)} b .nil:=by rcases hw with rfl | rfl | rfl <;> rfl
theorem Rs {w:Int} (hw:w=7∨w=8) (f n:Nat) (ts:aj):ps (f + 1) true (jr n w ::ts)=(blk f ts).map fun b=>one (hd w n) b .nil:=by rcases hw with rfl | rfl <;> rfl
theorem VO {w:Int} (hw:w=9∨w=10∨w=11∨w=12∨w=13) (f n m:Nat) (nm:ByteArray) (ts:aj):ps (f + 1) true (jr n w ::gF n nm ::sg m [59] ::ts)= .ok (one {hd w n with nm:=tx (tl nm)} .nil .nil) ts:=by rcases hw with rfl | rfl | rfl | rfl | rfl <;> rfl
theorem Yy (f n:Nat) (nm:ByteArray) (ts:aj):ps (f + 1) true (jr n 14 ::gF n nm ::ts)=((expr ts).map fun x=>one (aW.ex {hd 14 n with nm:=tx (tl nm)} x) .nil .nil).close [59]:=rfl
theorem Wj (f n m:Nat) (nm arg:ByteArray) (ts:aj):ps (f + 1) true (jr n 15 ::gF n nm ::gF n arg ::sg m [59] ::ts)= .ok (one {hd 15 n with nm:=tx (tl nm),arg:=tx (tl arg)} .nil .nil) ts:=rfl
theorem PS.loop {n m:Nat} {X ts r:aj} {x:E} {b:aI} (hx:expr X= .ok x (sg m [123] ::ts)) (h:PS false ts b r):PS true (jr n 3 ::X) (one (aW.ex (hd 3 n) x) b .nil) r:=by
 intro f hf
 obtain ⟨g,rfl⟩:=wP hf
 have hl:=lT hx
 have hf':3 * (X.length + 1) + 0 < g + 1:=hf
 rw [List.length_cons] at hl
 rw [QG,hx]
 show (blk g (sg m [123] ::ts)).map _=_
 rw [uN,h g (by show 3 * ts.length + 1 < g; omega)]; rfl
theorem PS.cond {n m:Nat} {X ts r:aj} {x:E} {b:aI} (hx:expr X= .ok x (sg m [123] ::ts)) (h:PS false ts b r) (hr:at' [101,108,115,101] r=false):PS true (jr n 2 ::X) (one (aW.ex (hd 2 n) x) b .nil) r:=by
 intro f hf
 obtain ⟨g,rfl⟩:=wP hf
 have hl:=lT hx
 have hf':3 * (X.length + 1) + 0 < g + 1:=hf
 rw [List.length_cons] at hl
 rw [U0,hx]
 show (blk g (sg m [123] ::ts)).bind _=_
 rw [uN,h g (by show 3 * ts.length + 1 < g; omega)]
 show (if at' [101,108,115,101] r then _ else _)=_
 rw [hr]; rfl
theorem PS.ZC {n m m':Nat} {X ts U7 r:aj} {x:E} {b e:aI} (hx:expr X= .ok x (sg m [123] ::ts)) (h:PS false ts b (Uk m' ::sg m' [123] ::U7)) (h2:PS false U7 e r):PS true (jr n 2 ::X) (one (aW.ex (hd 2 n) x) b e) r:=by
 intro f hf
 obtain ⟨g,rfl⟩:=wP hf
 have hl:=lT hx
 have hl2:=h.len
 have hf':3 * (X.length + 1) + 0 < g + 1:=hf
 rw [List.length_cons] at hl
 simp only [List.length_cons] at hl2
 rw [U0,hx]
 show (blk g (sg m [123] ::ts)).bind _=_
 rw [uN,h g (by show 3 * ts.length + 1 < g; omega)]
 show (blk g (sg m' [123] ::U7)).map _=_
 rw [uN,h2 g (by show 3 * U7.length + 1 < g; omega)]; rfl
theorem PS.held {w:Int} (hw:w=4∨w=5∨w=6) {n m:Nat} {nm:ByteArray} {ts r:aj} {b:aI} (h:PS false ts b r):PS true (jr n w ::gF n nm ::sg m [123] ::ts) (one {hd w n with nm:=nm} b .nil) r:=by
 intro f hf
 obtain ⟨g,rfl⟩:=wP hf
 have hf':3 * (ts.length + 1 + 1 + 1) + 0 < g + 1:=hf
 rw [Vo hw,uN,h g (by show 3 * ts.length + 1 < g; omega),kW]; rfl
theorem PS.block {w:Int} (hw:w=7∨w=8) {n m:Nat} {ts r:aj} {b:aI} (h:PS false ts b r):PS true (jr n w ::sg m [123] ::ts) (one (hd w n) b .nil) r:=by
 intro f hf
 obtain ⟨g,rfl⟩:=wP hf
 have hf':3 * (ts.length + 1 + 1) + 0 < g + 1:=hf
 rw [Rs hw,uN,h g (by show 3 * ts.length + 1 < g; omega)]; rfl
theorem len_nil {l:aI} (h:l.len=0):l= .nil:=by
 cases l with
 | nil=>rfl
 | cons=>simp [aI.len] at h
def Ws (l:aI):Prop:= ∀(ln m:Nat) (r:aj),PS false (gN l ln++(sg m [125] ::r)) (Dh l ln) r
set_option maxRecDepth 10000 in
theorem aa6 {h:aW} {b e:aI} (hs:iy h b.len e.len=true) (ihb:Ws b) (JE:Ws e) (ln:Nat) (r:aj) (hr:at' [101,108,115,101] r=false):
 PS true (qd ln h (gN b (ln + 1)) (bK b) (gN e (ln + 2 + bK b)) (bK e) (iw e)++r) (one {h with line:=(ln:Int)} (Dh b (ln + 1)) (Dh e (ln + 2 + bK b))) r:=by
 generalize hbl:b.len=bl at hs
 generalize hel:e.len=el at hs
 have leaf: ∀ {T:aj} {s:aI},(∀g,ps (g + 1) true (T++r)= .ok s r)→PS true (T++r) s r:=fun h f hf=>by
  obtain ⟨g,rfl⟩:=wP hf
  exact h g
 cases GY hs with
 | xZ l nm o n m k h1 h2=>
   obtain rfl:=len_nil hbl
   obtain rfl:=len_nil hel
   rw [show qd ln ⟨1,l,nm,⟨#[]⟩,.nil,o,n,m,k⟩ (gN .nil (ln + 1)) (bK .nil) (gN .nil (ln + 2 + bK .nil)) (bK .nil) (iw .nil)=gF ln nm ::sg ln [61] ::(xT ln o n m k++[sg ln [59]]) from rfl]
   refine leaf fun g=> ?_
   rw [List.cons_append,List.cons_append,List.append_assoc,List.singleton_append,Qt,Qa,rH h2 ln _ (Jm ln _),kW]
   rfl
 | CF l nm o' n' m' k' o n m k h1 h3 h2=>
   obtain rfl:=len_nil hbl
   obtain rfl:=len_nil hel
   rw [show qd ln ⟨1,l,nm,⟨#[]⟩,.cons o' n' m' k' .nil,o,n,m,k⟩ (gN .nil (ln + 1)) (bK .nil) (gN .nil (ln + 2 + bK .nil)) (bK .nil) (iw .nil)=gF ln nm ::sg ln [91] ::((xT ln o' n' m' k'++[sg ln [93]])++(sg ln [61] ::(xT ln o n m k++[sg ln [59]]))) from rfl]
   refine leaf fun g=> ?_
   rw [List.cons_append,List.cons_append,List.append_assoc,List.append_assoc,Qt,Xv,List.singleton_append,rH h3 ln _ (XM ln _)]
   show ((expr ((xT ln o n m k++[sg ln [59]])++r)).map _).close [59]=_
   rw [List.append_assoc,List.singleton_append,rH h2 ln _ (Jm ln _),kW]
   rfl
 | cond l o n m k bl el h2=>
   cases hne:iw e
   ·rw [show qd ln ⟨2,l,⟨#[]⟩,⟨#[]⟩,.nil,o,n,m,k⟩ (gN b (ln + 1)) (bK b) (gN e (ln + 2 + bK b)) (bK e) false=(jr ln 2 ::(xT ln o n m k++[sg ln [123]]))++(gN b (ln + 1)++(sg (ln + 1 + bK b) [125] ::Uk (ln + 1 + bK b) ::sg (ln + 1 + bK b) [123] ::(gN e (ln + 2 + bK b)++[sg (ln + 2 + bK b + bK e) [125]]))) from rfl]
    simp only [List.cons_append,List.append_assoc,List.nil_append,List.singleton_append]
    exact PS.ZC (rH h2 ln _ (ED ln _)) (ihb _ _ _) (JE _ _ r)
   ·have he:e= .nil:=by
     cases e with
     | nil=>rfl
     | cons=>cases hne
    subst he
    rw [show qd ln ⟨2,l,⟨#[]⟩,⟨#[]⟩,.nil,o,n,m,k⟩ (gN b (ln + 1)) (bK b) (gN .nil (ln + 2 + bK b)) (bK .nil) true=(jr ln 2 ::(xT ln o n m k++[sg ln [123]]))++(gN b (ln + 1)++[sg (ln + 1 + bK b) [125]]) from rfl]
    simp only [List.cons_append,List.append_assoc,List.nil_append,List.singleton_append]
    exact PS.cond (rH h2 ln _ (ED ln _)) (ihb _ _ _) hr
 | loop l o n m k bl h2=>
   obtain rfl:=len_nil hel
   rw [show qd ln ⟨3,l,⟨#[]⟩,⟨#[]⟩,.nil,o,n,m,k⟩ (gN b (ln + 1)) (bK b) (gN .nil (ln + 2 + bK b)) (bK .nil) (iw .nil)=(jr ln 3 ::(xT ln o n m k++[sg ln [123]]))++(gN b (ln + 1)++[sg (ln + 1 + bK b) [125]]) from rfl]
   simp only [List.cons_append,List.append_assoc,List.nil_append,List.singleton_append]
   exact PS.loop (rH h2 ln _ (ED ln _)) (ihb _ _ _)
 | held w l nm bl hw h1=>
   obtain rfl:=len_nil hel
   rw [show qd ln ⟨w,l,nm,⟨#[]⟩,.nil,0,0,⟨#[]⟩,.nil⟩ (gN b (ln + 1)) (bK b) (gN .nil (ln + 2 + bK b)) (bK .nil) (iw .nil)=jr ln w ::gF ln nm ::sg ln [123] ::(gN b (ln + 1)++[sg (ln + 1 + bK b) [125]]) from by rcases hw with rfl | rfl | rfl <;> rfl]
   simp only [List.cons_append,List.append_assoc,List.nil_append,List.singleton_append]
   exact PS.held hw (ihb _ _ _)
 | block w l bl hw=>
   obtain rfl:=len_nil hel
   rw [show qd ln ⟨w,l,⟨#[]⟩,⟨#[]⟩,.nil,0,0,⟨#[]⟩,.nil⟩ (gN b (ln + 1)) (bK b) (gN .nil (ln + 2 + bK b)) (bK .nil) (iw .nil)=jr ln w ::sg ln [123] ::(gN b (ln + 1)++[sg (ln + 1 + bK b) [125]]) from by rcases hw with rfl | rfl <;> rfl]
   simp only [List.cons_append,List.append_assoc,List.nil_append,List.singleton_append]
   exact PS.block hw (ihb _ _ _)
 | word w l nm hw h1=>
   obtain rfl:=len_nil hbl
   obtain rfl:=len_nil hel
   rw [show qd ln ⟨w,l,nm,⟨#[]⟩,.nil,0,0,⟨#[]⟩,.nil⟩ (gN .nil (ln + 1)) (bK .nil) (gN .nil (ln + 2 + bK .nil)) (bK .nil) (iw .nil)=[jr ln w,gF ln nm,sg ln [59]] from by rcases hw with rfl | rfl | rfl | rfl | rfl <;> rfl]
   refine leaf fun g=> ?_
   rw [List.cons_append,List.cons_append,List.cons_append,List.nil_append,VO hw,kW]
   rfl
 | set l nm o n m k h1 h2=>
   obtain rfl:=len_nil hbl
   obtain rfl:=len_nil hel
   rw [show qd ln ⟨14,l,nm,⟨#[]⟩,.nil,o,n,m,k⟩ (gN .nil (ln + 1)) (bK .nil) (gN .nil (ln + 2 + bK .nil)) (bK .nil) (iw .nil)=jr ln 14 ::gF ln nm ::(xT ln o n m k++[sg ln [59]]) from rfl]
   refine leaf fun g=> ?_
   rw [List.cons_append,List.cons_append,List.append_assoc,Yy,List.singleton_append,rH h2 ln _ (Jm ln _),kW]
   rfl
 | get l nm arg h1 h2=>
   obtain rfl:=len_nil hbl
   obtain rfl:=len_nil hel
   rw [show qd ln ⟨15,l,nm,arg,.nil,0,0,⟨#[]⟩,.nil⟩ (gN .nil (ln + 1)) (bK .nil) (gN .nil (ln + 2 + bK .nil)) (bK .nil) (iw .nil)=[jr ln 15,gF ln nm,gF ln arg,sg ln [59]] from rfl]
   refine leaf fun g=> ?_
   rw [List.cons_append,List.cons_append,List.cons_append,List.cons_append,List.nil_append,Wj,kW,kW]
   rfl
theorem Sv {h:aW} {bl el:Nat} (hs:iy h bl el=true) (ln:Nat): ∃t T,wu ln h=t ::T∧ ∀r,at' [125] (t ::r)=false∧at' [101,108,115,101] (t ::r)=false:=by
 have hk: ∀(w:Int) (r:aj),2≤w∧w≤15→at' [125] (jr ln w ::r)=false∧at' [101,108,115,101] (jr ln w ::r)=false:=by
  intro w r h
  have:w=2∨w=3∨w=4∨w=5∨w=6∨w=7∨w=8∨w=9∨w=10∨w=11∨w=12∨w=13∨w=14∨w=15:=by omega
  rcases this with rfl | rfl | rfl | rfl | rfl | rfl | rfl | rfl | rfl | rfl | rfl | rfl | rfl | rfl <;> exact ⟨rfl,rfl⟩
 cases GY hs with
 | xZ l nm o n m k h1 h2=>exact ⟨gF ln nm,_,rfl,fun r=>⟨rfl,rfl⟩⟩
 | CF l nm o' n' m' k' o n m k h1 h3 h2=>exact ⟨gF ln nm,_,rfl,fun r=>⟨rfl,rfl⟩⟩
 | cond l o n m k bl el h2=>exact ⟨jr ln 2,_,rfl,fun r=>hk _ _ (by decide)⟩
 | loop l o n m k bl h2=>exact ⟨jr ln 3,_,rfl,fun r=>hk _ _ (by decide)⟩
 | held w l nm bl hw h1=>exact ⟨jr ln w,_,by rcases hw with rfl | rfl | rfl <;> rfl,fun r=>hk _ _ (by omega)⟩
 | block w l bl hw=>exact ⟨jr ln w,_,by rcases hw with rfl | rfl <;> rfl,fun r=>hk _ _ (by omega)⟩
 | word w l nm hw h1=>exact ⟨jr ln w,_,by rcases hw with rfl | rfl | rfl | rfl | rfl <;> rfl,fun r=>hk _ _ (by omega)⟩
 | set l nm o n m k h1 h2=>exact ⟨jr ln 14,_,rfl,fun r=>hk _ _ (by decide)⟩
 | get l nm arg h1 h2=>exact ⟨jr ln 15,_,rfl,fun r=>hk _ _ (by decide)⟩
theorem Jf {h:aW} {bl el:Nat} (hs:iy h bl el=true) (ln:Nat) (B:aj) (nb:Nat) (E:aj) (ne:Nat) (none:Bool) (r:aj):
 at' [125] (qd ln h B nb E ne none++r)=false∧at' [101,108,115,101] (qd ln h B nb E ne none++r)=false:=by
 obtain ⟨t,T,e,h⟩:=Sv hs ln
 unfold qd
 rw [e]
 split
 ·exact h _
 ·split
  ·rw [List.append_assoc]; exact h _
  ·rw [List.append_assoc]; exact h _
theorem Ra: ∀(l:aI) (ln m:Nat) (r:aj),gy l=true→at' [101,108,115,101] (gN l ln++(sg m [125] ::r))=false
 | .nil,_,_,_,_=>rfl
 | .cons h b e l,ln,m,r,hs=>by
   simp only [gy,Bool.and_eq_true] at hs
   rw [show gN (.cons h b e l) ln=qd ln h (gN b (ln + 1)) (bK b) (gN e (ln + 2 + bK b)) (bK e) (iw e)++gN l (ln + FK h.op (bK b) (bK e) (iw e)) from rfl,List.append_assoc]
   exact (Jf hs.1.1 _ _ _ _ _ _ _).2
theorem Ho: ∀(l:aI),gy l=true→Ws l
 | .nil,_=>fun _ _ _=>PS.nil
 | .cons h b e l,hs=>by
   have hs':=hs
   simp only [gy,Bool.and_eq_true] at hs'
   obtain ⟨⟨hs1,hsb,hse⟩,hsl⟩:=hs'
   intro ln m r
   rw [show gN (.cons h b e l) ln=qd ln h (gN b (ln + 1)) (bK b) (gN e (ln + 2 + bK b)) (bK e) (iw e)++gN l (ln + FK h.op (bK b) (bK e) (iw e)) from rfl,List.append_assoc]
   exact PS.cons (Jf hs1 _ _ _ _ _ _ _).1 (aa6 hs1 (Ho b hsb) (Ho e hse) ln _ (Ra l _ m r hsl)) (Ho l hsl _ m r)
end Go.Proofs.YtehnipchbmjlhaaGreatDoor.Pz
end
section
set_option linter.unusedSimpArgs false
set_option linter.unusedVariables false
namespace Go.Proofs.YtehnipchbmjlhaaGreatDoor.Pz
open Go.RowKit Md Tk Fm
def Gn (ln:Nat) (k:Int):Tok:=⟨3,tl (oJ k),ln⟩
def LJ (ln u:Nat):Tok:=⟨2,Lib.decDigits u,ln⟩
def zR (ln:Nat) (s:Int):aj:=if 0 < s then [sg ln [91],LJ ln s.toNat,sg ln [93]] else []
def inT (ln:Nat) (i:Int):aj:=if i=0 then [] else sg ln [61] ::(if i < 0 then [sg ln [45],LJ ln i.natAbs] else [LJ ln i.toNat])
def Fy (ln:Nat) (k:Int) (on:ByteArray):aj:=if k == 5 then [gF ln on] else []
def BM (ln:Nat) (d:De):aj:=Gn ln d.kind ::gF ln d.nm ::(zR ln d.size++(inT ln d.init++(Fy ln d.kind d.on++[sg ln [59]])))
structure DK (d:De):Prop where
 kind:1≤d.kind∧d.kind≤6
 nm:dQ (tl d.nm)=true
 size:0≤d.size∧(d.size≠0→d.kind=1)
 init:d.init≠ -9223372036854775808∧(d.init≠0→d.kind=1∨d.kind=2)
 on:(d.kind=5→dQ (tl d.on)=true)∧(d.kind≠5→d.on=⟨#[]⟩)
theorem Nc {d:De} (h:gT d=true):DK d:=by
 unfold gT at h
 simp only [Bool.and_eq_true,decide_eq_true_eq,Bool.or_eq_true,beq_iff_eq,bne_iff_ne] at h
 obtain ⟨⟨⟨⟨h1,h2⟩,h3⟩,h4,h5⟩,⟨h6,h7⟩,h8⟩:=h
 refine ⟨⟨h1,h2⟩,h3,⟨h4,fun h=>h5.resolve_left h⟩,⟨h6,fun h=>h7.resolve_left h⟩,fun h=> ?_,fun h=> ?_⟩
 ·rw [h] at h8; exact h8
 ·have:(d.kind == 5)=false:=by simpa using h
  rw [this] at h8; exact iQ h8
def FR (ln:Nat) (t:List UInt8) (T:aj):Prop:= ∀rest,qM rest→Sc t ln T ln rest
theorem FR.ite {ln:Nat} {t u:List UInt8} {T U:aj} {c:Prop} [Decidable c] (h:FR ln t T) (h':c→FR ln (t++u) (T++U)):FR ln (if c then t++u else t) (T++if c then U else []):=by
 split
 ·rename_i hc; exact h' hc
 ·rw [List.append_nil]; exact h
theorem Fq (k:Int) (h:1≤k∧k≤6):tl (oJ k) ∈ vo∧je (tl (oJ k))=k:=by
 have:k=1∨k=2∨k=3∨k=4∨k=5∨k=6:=by omega
 rcases this with rfl | rfl | rfl | rfl | rfl | rfl <;> decide
theorem ZJ {d:De} (hs:gT d=true) (hz:d.size≤9223372036854775807) (hi:aV d.init) (ln:Nat) (rest:List UInt8):Sc (tl (Ck d)) ln (BM ln d) (ln + 1) rest:=by
 obtain ⟨hk,hn,⟨hs0,hs1⟩,⟨hi0,hi1⟩,ho1,ho2⟩:=Nc hs
 obtain ⟨kind,line,nm,size,init,on⟩:=d
 dsimp only at *
 have w1:FR ln (tl ((oJ kind++⟨#[32]⟩)++nm)) [Gn ln kind,gF ln nm]:=fun rest hr=>by
  rw [aY,aY]
  exact (((Sc.kw (Fq kind hk).1 (qh _)).app (Sc.sp ln _)).app (Sc.name hn hr)).cast (by simp [Gn,gF])
 have w2:FR ln (tl (if 0 < size then ((((oJ kind++⟨#[32]⟩)++nm)++⟨#[91]⟩)++lu size)++⟨#[93]⟩ else (oJ kind++⟨#[32]⟩)++nm)) ([Gn ln kind,gF ln nm]++zR ln size):=by
  unfold zR
  split
  ·rename_i hc
   intro rest hr
   rw [aY _ ⟨#[93]⟩,aY _ (lu size),aY _ ⟨#[91]⟩,Dg (Int.le_of_lt hc)]
   exact ((((w1 _ (WG _)).app (Sc.lone ln (c:=91) (by decide) _)).app (Sc.dec (by omega) ln (Yc _))).app (Sc.lone ln (c:=93) (by decide) rest)).cast (by simp [sg,LJ])
  ·rw [List.append_nil]; exact w1
 unfold Ck
 rw [if_neg (by simp; omega)]
 dsimp only
 generalize (if 0 < size then ((((oJ kind++⟨#[32]⟩)++nm)++⟨#[91]⟩)++lu size)++⟨#[93]⟩ else (oJ kind++⟨#[32]⟩)++nm)=s2 at *
 have w3:FR ln (tl (if (init != 0)=true then (s2++⟨#[32,61,32]⟩)++lu init else s2)) (([Gn ln kind,gF ln nm]++zR ln size)++inT ln init):=by
  unfold inT
  by_cases h0:init=0
  ·subst h0
   rw [if_pos rfl,if_neg (by decide),List.append_nil]; exact w2
  ·rw [if_neg h0,if_pos (by simpa using h0)]
   intro rest hr
   rw [aY,aY]
   have eqs: ∀rest,Sc [32,61,32] ln [sg ln [61]] ln rest:=fun rest=>(Sc.sp ln _).app (((Sc.sign ln (x:=[61]) (by decide) _)).app (Sc.sp ln rest))
   by_cases hneg:init < 0
   ·rw [if_pos hneg,show tl (lu init)=[45]++Lib.decDigits init.natAbs from by unfold lu tl; rw [Uv hneg]; rfl]
    exact (((w2 _ (qh _)).app (eqs _)).app ((Sc.lone ln (c:=45) (by decide) _).app (Sc.dec (by have:=hi.1; omega) ln hr))).cast (by simp [sg,LJ])
   ·rw [if_neg hneg,Dg (by omega)]
    exact (((w2 _ (qh _)).app (eqs _)).app (Sc.dec (by have:=hi.2; omega) ln hr)).cast (by simp [sg,LJ])
 generalize (if (init != 0)=true then (s2++⟨#[32,61,32]⟩)++lu init else s2)=s3 at *
 have w4:FR ln (tl (if (kind == 5)=true then (s3++⟨#[32]⟩)++on else s3)) ((([Gn ln kind,gF ln nm]++zR ln size)++inT ln init)++Fy ln kind on):=by
  unfold Fy
  split
  ·rename_i hc
   intro rest hr
   rw [aY,aY]
   exact (((w3 _ (qh _)).app (Sc.sp ln _)).app (Sc.name (ho1 (by simpa using hc)) hr)).cast (by simp [gF])
  ·rw [List.append_nil]; exact w3
 generalize (if (kind == 5)=true then (s3++⟨#[32]⟩)++on else s3)=s4 at *
 rw [aY]
 exact ((w4 _ (ET _)).app ((Sc.lone ln (c:=59) (by decide) _).app (Sc.nl ln rest))).cast (by simp [BM,sg])
theorem EC (u:Nat):val (Lib.decDigits u)=u:=(Bz u).2.1
theorem VT (d:De) (ln:Nat) (s:Int) (r:aj) (h0:0≤s) (hd:d.size=0) (hr:at' [91] r=false):kX d (zR ln s++r)= .ok {d with size:=s} r:=by
 unfold zR
 by_cases h:0 < s
 ·rw [if_pos h]
  show (if val (Lib.decDigits s.toNat) == 0 then aT.no _ else (aT.ok {d with size:=((val (Lib.decDigits s.toNat):Nat):Int)} r:aT De))=_
  rw [EC,if_neg (by simp; omega),Int.toNat_of_nonneg h0]
 ·obtain rfl:s=0:=by omega
  rw [if_neg h,List.nil_append]
  unfold kX
  rw [if_neg (by rw [hr]; decide),← hd]
theorem LH (d:De) (ln:Nat) (i:Int) (r:aj) (hd:d.init=0) (hr:at' [61] r=false):iJ d (inT ln i++r)= .ok {d with init:=i} r:=by
 unfold inT
 by_cases h:i=0
 ·subst h
  rw [if_pos rfl,List.nil_append]
  unfold iJ
  rw [if_neg (by rw [hr]; decide),← hd]
 ·rw [if_neg h]
  by_cases hn:i < 0
  ·rw [if_pos hn]
   show (aT.ok {d with init:= -((val (Lib.decDigits i.natAbs):Nat):Int)} r:aT De)=_
   rw [EC,show -((i.natAbs:Nat):Int)=i by omega]
  ·rw [if_neg hn]
   show (aT.ok {d with init:=((val (Lib.decDigits i.toNat):Nat):Int)} r:aT De)=_
   rw [EC,Int.toNat_of_nonneg (by omega)]
theorem am9 (ln:Nat) (i:Int) (r:aj) (h:at' [91] r=false):at' [91] (inT ln i++r)=false:=by
 unfold inT
 split
 ·exact h
 ·rfl
theorem aa3 {d:De} (hs:gT d=true) (ln:Nat) (r:aj):oM (BM ln d++r)= .ok {d with line:=(ln:Int)} r:=by
 obtain ⟨hk,hn,⟨hs0,hs1⟩,⟨hi0,hi1⟩,ho1,ho2⟩:=Nc hs
 obtain ⟨kind,line,nm,size,init,on⟩:=d
 dsimp only at *
 have ht:BM ln ⟨kind,line,nm,size,init,on⟩++r=Gn ln kind ::gF ln nm ::(zR ln size++(inT ln init++(Fy ln kind on++(sg ln [59] ::r)))):=by
  simp [BM]
 rw [ht]
 have hdc:=(Fq kind hk).2
 have cs:kind=1∨kind=2∨(kind=3∨kind=4∨kind=6)∨kind=5:=by omega
 rcases cs with rfl | rfl | h | rfl
 ·have e:=ho2 (by decide)
  subst e
  rw [show Fy ln 1 (⟨#[]⟩:ByteArray)=[] from rfl,List.nil_append]
  show ((((kX ⟨1,ln,tx (tl nm),0,0,⟨#[]⟩⟩ (zR ln size++(inT ln init++(sg ln [59] ::r)))).bind iJ)):aT De).close [59]=_
  rw [VT _ ln size _ hs0 rfl (am9 ln init _ rfl)]
  show ((iJ ⟨1,ln,tx (tl nm),size,0,⟨#[]⟩⟩ (inT ln init++(sg ln [59] ::r)))).close [59]=_
  rw [LH _ ln init _ rfl rfl,kW]; rfl
 ·have e:=ho2 (by decide)
  subst e
  obtain rfl:size=0:=by
   by_cases h:size=0
   ·exact h
   ·exact absurd (hs1 h) (by decide)
  rw [show Fy ln 2 (⟨#[]⟩:ByteArray)=[] from rfl,List.nil_append,show zR ln 0=[] from rfl,List.nil_append]
  show ((iJ ⟨2,ln,tx (tl nm),0,0,⟨#[]⟩⟩ (inT ln init++(sg ln [59] ::r)))).close [59]=_
  rw [LH _ ln init _ rfl rfl,kW]; rfl
 ·have e:=ho2 (by omega)
  subst e
  obtain rfl:size=0:=by
   by_cases h':size=0
   ·exact h'
   ·exact absurd (hs1 h') (by omega)
  obtain rfl:init=0:=by
   by_cases h':init=0
   ·exact h'
   ·exact absurd (hi1 h') (by omega)
  rw [show zR ln 0=[] from rfl,show inT ln 0=[] from rfl,show Fy ln kind (⟨#[]⟩:ByteArray)=[] from by rcases h with rfl | rfl | rfl <;> rfl,List.nil_append,List.nil_append,List.nil_append]
  have:oM (Gn ln kind ::gF ln nm ::sg ln [59] ::r)= .ok ⟨kind,ln,tx (tl nm),0,0,⟨#[]⟩⟩ r:=by rcases h with rfl | rfl | rfl <;> rfl
  rw [this,kW]
 ·obtain rfl:size=0:=by
   by_cases h':size=0
   ·exact h'
   ·exact absurd (hs1 h') (by decide)
  obtain rfl:init=0:=by
   by_cases h':init=0
   ·exact h'
   ·exact absurd (hi1 h') (by decide)
  rw [show zR ln 0=[] from rfl,show inT ln 0=[] from rfl,show Fy ln 5 on=[gF ln on] from rfl,List.nil_append,List.nil_append]
  show (aT.ok ⟨5,ln,tx (tl nm),0,0,tx (tl on)⟩ r:aT De)=_
  rw [kW,kW]
def Az (ln:Nat):Bool→List ByteArray→aj
 | _,[]=>[]
 | c,s ::r=>(if c then [gF ln s] else [sg ln [44],gF ln s])++Az ln false r
theorem Uj (ln:Nat): ∀(l:List ByteArray) (c:Bool) (rest:List UInt8),(l.all fun s=>dQ s.data.toList)=true→qM rest→Sc (tl (pK c l)) ln (Az ln c l) ln rest
 | [],_,rest,_,_=>Sc.nil ln rest
 | s ::r,c,rest,h,hr=>by
   rw [List.all_cons,Bool.and_eq_true] at h
   have ih:=Uj ln r false rest h.2 hr
   have hn:qM (tl (pK false r)++rest):=by
    cases r with
    | nil=>exact hr
    | cons a b=>
      show qM (tl ((⟨#[44,32]⟩++a)++pK false b)++rest)
      rw [aY,aY]; exact kR (by decide)
   rw [show pK c (s ::r)=(if c then s else ⟨#[44,32]⟩++s)++pK false r from rfl,aY]
   refine Sc.app ?_ ih
   cases c
   ·simp only [Bool.false_eq_true,if_false,aY]
    exact (((Sc.lone ln (c:=44) (by decide) _).app (Sc.sp ln _)).app (Sc.name h.1 hn)).cast (by simp [sg,gF]; rfl)
   ·exact Sc.name h.1 hn
theorem TD (ln:Nat): ∀(r:List ByteArray) (s:ByteArray) (f:Nat) (R:aj),r.length < f→jJ f (gF ln s ::(Az ln false r++(sg ln [41] ::R)))= .ok (s ::r) (sg ln [41] ::R)
 | [],s,0,R,h=>absurd h (by simp)
 | [],s,f + 1,R,_=>by
   show (aT.ok [tx (tl s)] (sg ln [41] ::R):aT (List ByteArray))=_
   rw [kW]
 | a ::b,s,0,R,h=>absurd h (by simp)
 | a ::b,s,f + 1,R,h=>by
   show ((jJ f (gF ln a ::(Az ln false b++(sg ln [41] ::R)))).map (tx (tl s) :: ·))=_
   rw [TD ln b a f R (by simpa using h),kW]; rfl
def R7:List UInt8:=[116,104,114,101,97,100]
def Dz (ln:Nat) (t:Th):aj:=⟨3,R7,ln⟩ ::gF ln t.nm ::sg ln [40] ::(Az ln true t.cB++(sg ln [41] ::sg ln [123] ::(gN t.body (ln + 1)++[sg (ln + 1 + bK t.body) [125]])))
def MQ (ln:Nat) (t:Th):Th:=⟨t.nm,ln,t.cB,Dh t.body (ln + 1)⟩
theorem aa1 {t:Th} (hs:jM t=true) (hf:zk t.body) (ln:Nat) (rest:List UInt8):Sc (tl (Gp t)) ln (Dz ln t) (ln + 2 + bK t.body) rest:=by
 unfold jM at hs
 simp only [Bool.and_eq_true] at hs
 obtain ⟨⟨h1,h2⟩,h3⟩:=hs
 unfold Gp
 simp only [aY]
 have q:=((((((((Sc.kw (x:=R7) (n:=ln) (by decide) (qh _)).app (Sc.sp ln _)).app (Sc.name h1 (kR (by decide)))).app (Sc.lone ln (c:=40) (by decide) _)).app (Uj ln t.cB true _ h2 (kR (by decide)))).app ((((Sc.lone ln (c:=41) (by decide) _).app (Sc.sp ln _)).app (Sc.lone ln (c:=123) (by decide) _)).app (Sc.nl ln _))).app (Dc t.body 1 (ln + 1) _ h3 hf)).app ((Sc.lone (ln + 1 + bK t.body) (c:=125) (by decide) _).app (Sc.nl _ rest)))
 rw [show ln + 2 + bK t.body=ln + 1 + bK t.body + 1 by omega]
 exact q.cast (by simp [Dz,sg,gF]; rfl)
theorem ZU {t:Th} (hs:jM t=true) (ln:Nat) (r:aj):uQ (Dz ln t++r)= .ok (MQ ln t) r:=by
 unfold jM at hs
 simp only [Bool.and_eq_true] at hs
 obtain ⟨⟨h1,h2⟩,h3⟩:=hs
 have ht:Dz ln t++r=⟨3,R7,ln⟩ ::gF ln t.nm ::sg ln [40] ::(Az ln true t.cB++(sg ln [41] ::sg ln [123] ::(gN t.body (ln + 1)++(sg (ln + 1 + bK t.body) [125] ::r)))):=by simp [Dz]
 rw [ht]
 generalize hX:gN t.body (ln + 1)++(sg (ln + 1 + bK t.body) [125] ::r)=X
 have hb:blk (3 * (sg ln [123] ::X).length + 3) (sg ln [123] ::X)= .ok (Dh t.body (ln + 1)) r:=by
  rw [uN]
  have:=Ho t.body h3 (ln + 1) (ln + 1 + bK t.body) r
  rw [hX] at this
  exact this _ (by show 3 * X.length + 1 < _; simp only [List.length_cons]; omega)
 cases hl:t.cB with
 | nil=>
   show ((blk (3 * (sg ln [123] ::X).length + 3) (sg ln [123] ::X)).map fun b=>(⟨tx (tl t.nm),ln,[],b⟩:Th))=_
   rw [hb,kW]
   unfold MQ; rw [hl]; rfl
 | cons s q=>
   show (((jJ ((gF ln s ::(Az ln false q++(sg ln [41] ::sg ln [123] ::X))).length + 1) (gF ln s ::(Az ln false q++(sg ln [41] ::sg ln [123] ::X)))).close [41]).bind fun l r=>(blk (3 * r.length + 3) r).map fun b=>(⟨tx (tl t.nm),ln,l,b⟩:Th))=_
   have hlen: ∀q:List ByteArray,q.length≤(Az ln false q).length:=by
    intro q
    induction q with
    | nil=>exact Nat.zero_le _
    | cons a b ih=>
      rw [show Az ln false (a ::b)=[sg ln [44],gF ln a]++Az ln false b from rfl,List.length_append]
      simp only [List.length_cons,List.length_nil]; omega
   rw [TD ln q s _ _ (by have:=hlen q; simp only [List.length_cons,List.length_append]; omega)]
   show ((blk (3 * (sg ln [123] ::X).length + 3) (sg ln [123] ::X)).map fun b=>(⟨tx (tl t.nm),ln,s ::q,b⟩:Th))=_
   rw [hb,kW]
   unfold MQ; rw [hl]; rfl
def dsT:Nat→List De→aj
 | _,[]=>[]
 | ln,d ::r=>BM ln d++dsT (ln + 1) r
def Tj:Nat→List De→List De
 | _,[]=>[]
 | ln,d ::r=> {d with line:=(ln:Int)} ::Tj (ln + 1) r
def wX:Nat→List Th→aj
 | _,[]=>[]
 | ln,t ::r=>Dz ln t++wX (ln + 2 + bK t.body) r
def TP:Nat→List Th→List Th
 | _,[]=>[]
 | ln,t ::r=>MQ ln t ::TP (ln + 2 + bK t.body) r
theorem Uc: ∀(l:List De) (ln:Nat) (rest:List UInt8),l.all gT=true→(∀d ∈ l,d.size≤9223372036854775807∧aV d.init)→Sc (tl (Bf l)) ln (dsT ln l) (ln + l.length) rest
 | [],ln,rest,_,_=>Sc.nil ln rest
 | d ::r,ln,rest,hs,hf=>by
   rw [List.all_cons,Bool.and_eq_true] at hs
   rw [show Bf (d ::r)=Ck d++Bf r from rfl,aY,show ln + (d ::r).length=ln + 1 + r.length by simp only [List.length_cons]; omega]
   exact (ZJ hs.1 (hf d (List.mem_cons_self ..)).1 (hf d (List.mem_cons_self ..)).2 ln _).app (Uc r (ln + 1) rest hs.2 (fun d hd=>hf d (List.mem_cons_of_mem _ hd)))
theorem TF: ∀(l:List Th) (ln:Nat) (rest:List UInt8),l.all jM=true→(∀t ∈ l,zk t.body)→ ∃n,Sc (tl (tZ l)) ln (wX ln l) n rest
 | [],ln,rest,_,_=>⟨ln,Sc.nil ln rest⟩
 | t ::r,ln,rest,hs,hf=>by
   rw [List.all_cons,Bool.and_eq_true] at hs
   obtain ⟨n,hn⟩:=TF r (ln + 2 + bK t.body) rest hs.2 (fun t ht=>hf t (List.mem_cons_of_mem _ ht))
   refine ⟨n,?_⟩
   rw [show tZ (t ::r)=Gp t++tZ r from rfl,aY]
   exact (aa1 hs.1 (hf t (List.mem_cons_self ..)) ln _).app hn
theorem Ti: ∀(l:List De) (ln f:Nat) (R:aj),l.all gT=true→l.length≤f→isDecl R=false→ku f (dsT ln l++R)= .ok (Tj ln l) R
 | [],_,0,_,_,_,_=>rfl
 | [],_,f + 1,R,_,_,h=>by
   show (if isDecl R then _ else aT.ok [] R)=_
   rw [h]; rfl
 | d ::r,_,0,_,_,h,_=>absurd h (by simp)
 | d ::r,ln,f + 1,R,hs,hf,h=>by
   rw [List.all_cons,Bool.and_eq_true] at hs
   have hk:=(Nc hs.1).kind
   have hd:isDecl (BM ln d++(dsT (ln + 1) r++R))=true:=by
    show ((3 == 3) && !(je (tl (oJ d.kind)) == 0))=true
    rw [(Fq _ hk).2]; simp; omega
   rw [show dsT ln (d ::r)=BM ln d++dsT (ln + 1) r from rfl,List.append_assoc]
   unfold ku
   rw [if_pos hd,aa3 hs.1]
   show (ku f (dsT (ln + 1) r++R)).map _=_
   rw [Ti r (ln + 1) f R hs.2 (by simpa using hf) h]; rfl
theorem Ut: ∀(l:List Th) (ln f:Nat),l.all jM=true→l.length≤f→kU f (wX ln l)= .ok (TP ln l) []
 | [],_,0,_,_=>rfl
 | [],_,f + 1,_,_=>rfl
 | t ::r,_,0,_,h=>absurd h (by simp)
 | t ::r,ln,f + 1,hs,hf=>by
   rw [List.all_cons,Bool.and_eq_true] at hs
   rw [show wX ln (t ::r)=Dz ln t++wX (ln + 2 + bK t.body) r from rfl]
   unfold kU
   rw [if_pos (by rfl),ZU hs.1]
   show (kU f (wX (ln + 2 + bK t.body) r)).map _=_
   rw [Ut r _ f hs.2 (by simpa using hf)]; rfl
theorem KR: ∀(l:List De) (ln:Nat),l.length≤(dsT ln l).length
 | [],_=>Nat.zero_le _
 | d ::r,ln=>by
   have:=KR r (ln + 1)
   rw [show dsT ln (d ::r)=BM ln d++dsT (ln + 1) r from rfl,List.length_append]
   unfold BM
   simp only [List.length_cons]; omega
theorem M7: ∀(l:List Th) (ln:Nat),l.length≤(wX ln l).length
 | [],_=>Nat.zero_le _
 | t ::r,ln=>by
   have:=M7 r (ln + 2 + bK t.body)
   rw [show wX ln (t ::r)=Dz ln t++wX (ln + 2 + bK t.body) r from rfl,List.length_append]
   unfold Dz
   simp only [List.length_cons]; omega
def zL (p:Pr):Pr:=⟨Tj 1 p.ds,TP (1 + p.ds.length) p.ts⟩
def XB (p:Pr):Prop:=(∀d ∈ p.ds,d.size≤9223372036854775807∧aV d.init)∧ ∀t ∈ p.ts,zk t.body
theorem round {p:Pr} (hs:sZ p=true) (hf:XB p) (hl:(tl (sI p)).length≤4096):parse (tl (sI p))=(zL p,0,0):=by
 unfold sZ at hs
 simp only [Bool.and_eq_true,decide_eq_true_eq] at hs
 obtain ⟨⟨hD,hT⟩,hpos⟩:=hs
 have hsc:scan (tl (sI p))=(dsT 1 p.ds++wX (1 + p.ds.length) p.ts,0,0):=by
  unfold scan
  rw [if_neg (by omega)]
  show sc (tl (sI p)) 1 []=_
  obtain ⟨n,hn⟩:=TF p.ts (1 + p.ds.length) [] hT hf.2
  have:=((Uc p.ds 1 (tl (tZ p.ts)++[]) hD hf.1).app hn) []
  rw [List.append_nil,List.nil_append] at this
  unfold sI
  rw [aY,this]
  exact iV _ _ _
 have hth:isDecl (wX (1 + p.ds.length) p.ts)=false:=by
  cases p.ts with
  | nil=>rfl
  | cons t r=>rfl
 have hp:prog (dsT 1 p.ds++wX (1 + p.ds.length) p.ts)= .ok (zL p) []:=by
  unfold prog
  rw [Ti p.ds 1 _ _ hD (by have:=KR p.ds 1; rw [List.length_append]; omega) hth]
  show (kU (wX (1 + p.ds.length) p.ts).length (wX (1 + p.ds.length) p.ts)).map _=_
  rw [Ut p.ts _ _ hT (M7 _ _)]; rfl
 have hne:(zL p).ts.isEmpty=false:=by
  unfold zL
  cases h:p.ts with
  | nil=>rw [h] at hpos; simp at hpos
  | cons t r=>rfl
 unfold parse
 rw [hsc]
 dsimp only
 rw [if_pos rfl,hp]
 dsimp only
 rw [if_neg (by rw [hne]; decide)]
end Go.Proofs.YtehnipchbmjlhaaGreatDoor.Pz
end
