/-
  The texts of the law ParsePrecedence, and what is parsed from them. No program in sight.
  Plain laws of scans, piece after piece, for texts that a printer made. No program in sight.
  Plain laws of printed expressions: their tokens, and what is parsed of them. No program in sight.
  Plain laws of printed expressions: their tokens are parsed as them. No program in sight.
-/
import Derived.Test.YtehnipchbmjlhaaGreatDoorGZA
import Derived.Test.YtehnipchbmjlhaaGreatDoorGTA
import Derived.Test.YtehnipchbmjlhaaGreatDoorGFA
set_option linter.unusedSimpArgs false
set_option linter.unusedVariables false
set_option maxHeartbeats 40000000
set_option maxRecDepth 1000000
section
namespace Go.Proofs.YtehnipchbmjlhaaGreatDoor.Pz
open Go.RowKit Md Tk
theorem Qy {a b:ByteArray} (h:a.data.toList=b.data.toList):a=b:=by
 cases a; cases b; simp only [ByteArray.mk.injEq]; exact Array.toList_inj.1 h
def jQ:Nat→List UInt8
 | 0=>[124,124]
 | 1=>[38,38]
 | 2=>[43]
 | 3=>[45]
 | 4=>[42]
 | _=>[37]
theorem xw (k:Nat):(jQ k).length≤2:=by unfold jQ; split <;> decide
end Go.Proofs.YtehnipchbmjlhaaGreatDoor.Pz
end
section
namespace Go.Proofs.YtehnipchbmjlhaaGreatDoor.Pz
open Go.RowKit Md Tk Fm
def sc (l:List UInt8) (n:Nat) (acc:List Tok):List Tok × Nat × Nat:=fu l.length l n acc
def Sc (l:List UInt8) (n:Nat) (ts:aA) (n':Nat) (rest:List UInt8):Prop:= ∀acc,sc (l++rest) n acc=sc rest n' (acc++ts)
theorem Sc.nil (n:Nat) (rest:List UInt8):Sc [] n [] n rest:=fun acc=>by rw [List.nil_append,List.append_nil]
theorem Sc.app {l m:List UInt8} {n n1 n2:Nat} {ts us:aA} {rest:List UInt8} (h:Sc l n ts n1 (m++rest)) (h':Sc m n1 us n2 rest):Sc (l++m) n (ts++us) n2 rest:=fun acc=>by
 rw [List.append_assoc,h acc,h' (acc++ts),List.append_assoc]
theorem Sc.sp (n:Nat) (rest:List UInt8):Sc [32] n [] n rest:=fun acc=>by
 unfold sc
 rw [List.append_nil]
 exact rX rest.length 32 rest n acc (Or.inl rfl)
theorem Sc.nl (n:Nat) (rest:List UInt8):Sc [10] n [] (n + 1) rest:=fun acc=>by
 unfold sc
 rw [List.append_nil]
 exact zh rest.length rest n acc
theorem Sc.tok {k:Nat} {x rest:List UInt8} (n:Nat) (hg:Tk.Good k x) (hf:first (x++rest)=(0,k,x)) (hp:[47,47].isPrefixOf (x++rest)=false):Sc x n [⟨k,x,n⟩] n rest:=fun acc=>by
 obtain ⟨-,⟨c,r,rfl,h1,h2⟩,-⟩:=hg
 unfold sc
 rw [List.cons_append] at hf hp ⊢
 rw [List.length_cons,wL _ _ _ _ _ h1 h2 hp (by rw [hf]),hf]
 dsimp only
 rw [show (c ::(r++rest)).drop (c ::r).length=rest from by rw [← List.cons_append]; exact List.drop_left]
 exact Ld _ _ _ _ _ (by simp) (Nat.le_refl _)
def ru (rest:List UInt8):Prop:=rest.head?.any fF=false
theorem kS {c:UInt8} {r:List UInt8} (h:fF c=false):ru (c ::r):=h
theorem Kv {c:UInt8} (h:fD c=true):fF c=true:=by
 have e:fF c=((nX c || fD c) || ((c.toNat:Int) == 95)):=rfl
 rw [e,h]; simp
theorem Hq (p:UInt8→Bool): ∀(x rest:List UInt8),x.all p=true→rest.head?.any p=false→(x++rest).takeWhile p=x∧(x++rest).dropWhile p=rest
 | [],rest,_,h=>by
   cases rest with
   | nil=>exact ⟨rfl,rfl⟩
   | cons c r=>
     have:p c=false:=h
     rw [List.nil_append,List.takeWhile_cons,List.dropWhile_cons,this]; exact ⟨rfl,rfl⟩
 | c ::x,rest,ha,h=>by
   rw [List.all_cons,Bool.and_eq_true] at ha
   obtain ⟨h1,h2⟩:=Hq p x rest ha.2 h
   rw [List.cons_append,List.takeWhile_cons,List.dropWhile_cons,ha.1]
   exact ⟨by simp [h1],by simp [h2]⟩
theorem KQ {c:UInt8} {r rest:List UInt8} (h:fF c=true):[47,47].isPrefixOf (c ::r++rest)=false:=by rw [List.cons_append]; exact rW _ _ (Ar c h)
theorem Da {x rest:List UInt8} (hl:x.length≤12) (hh:x.head?.any nX=true) (ha:x.all fF=true) (hr:ru rest):first (x++rest)=(0,if lq x then 3 else 1,x):=by
 cases x with
 | nil=>cases hh
 | cons c r=>
   have hc:nX c=true:=hh
   have h1:=(Hq fF (c ::r) rest ha hr).1
   unfold first
   rw [show (c ::r++rest).headD 0=c from rfl,if_pos hc]
   unfold kT
   rw [h1,if_neg (by omega)]
theorem D7 {c:UInt8} (h:fF c=true):c≠10∧ ¬ (c=32∨c=9∨c=13):=by
 refine ⟨?_,?_⟩
 ·rintro rfl; revert h; decide
 ·rintro (rfl | rfl | rfl) <;> (revert h; decide)
theorem Sc.word {x rest:List UInt8} {n:Nat} (hl:x.length≤12) (hh:x.head?.any nX=true) (ha:x.all fF=true) (hr:ru rest):Sc x n [⟨if lq x then 3 else 1,x,n⟩] n rest:=by
 cases x with
 | nil=>cases hh
 | cons c r=>
   have hc:fF c=true:=Et c hh
   refine Sc.tok n ⟨?_,⟨c,r,rfl,(D7 hc).1,(D7 hc).2⟩,rW _ _ (Ar c hc)⟩ (Da hl hh ha hr) (KQ hc)
   have:=Da (rest:=[]) hl hh ha (by unfold ru; rfl)
   rwa [List.append_nil] at this
theorem Sc.name {x rest:List UInt8} {n:Nat} (h:dZ x=true) (hr:ru rest):Sc x n [⟨1,x,n⟩] n rest:=by
 unfold dZ at h
 simp only [Bool.and_eq_true,decide_eq_true_eq] at h
 have hk:lq x=false:=by have:=h.1.2; cases hq:lq x <;> simp_all
 have:=Sc.word (n:=n) h.1.1.2 h.2.1 h.2.2 hr
 rwa [hk] at this
theorem VO: ∀x ∈ xY,x.length≤12∧x.head?.any nX=true∧x.all fF=true∧lq x=true:=by decide
theorem Sc.kw {x rest:List UInt8} {n:Nat} (h:x ∈ xY) (hr:ru rest):Sc x n [⟨3,x,n⟩] n rest:=by
 obtain ⟨h1,h2,h3,h4⟩:=VO x h
 have:=Sc.word (n:=n) h1 h2 h3 hr
 rwa [h4] at this
theorem MN {c:UInt8} (h:fD c=true):nX c=false:=by
 unfold fD nE at h
 unfold nX oV
 simp only [Bool.and_eq_true,decide_eq_true_eq] at h
 simp; omega
theorem Sc.num {x rest:List UInt8} {n:Nat} (hx:x≠[]) (ha:x.all fD=true) (hv:ny x=true) (hr:ru rest):Sc x n [⟨2,x,n⟩] n rest:=by
 have hD:rest.head?.any fD=false:=by
  cases rest with
  | nil=>rfl
  | cons c r=>
    have h1:fF c=false:=hr
    show fD c=false
    cases hd:fD c
    ·rfl
    ·rw [Kv hd] at h1; cases h1
 have key: ∀rest:List UInt8,ru rest→rest.head?.any fD=false→first (x++rest)=(0,2,x):=by
  intro rest hr hD
  obtain ⟨h1,h2⟩:=Hq fD x rest ha hD
  cases x with
  | nil=>exact absurd rfl hx
  | cons c r=>
    rw [List.all_cons,Bool.and_eq_true] at ha
    unfold first
    rw [show (c ::r++rest).headD 0=c from rfl,if_neg (by rw [MN ha.1]; decide),if_pos ha.1]
    unfold qc
    rw [h1,h2,hv,show rest.head?.any fF=false from hr]; rfl
 cases x with
 | nil=>exact absurd rfl hx
 | cons c r=>
   have hc:fF c=true:=Kv (by rw [List.all_cons,Bool.and_eq_true] at ha; exact ha.1)
   refine Sc.tok n ⟨?_,⟨c,r,rfl,(D7 hc).1,(D7 hc).2⟩,rW _ _ (Ar c hc)⟩ (key rest hr hD) (KQ hc)
   have:=key [] rfl rfl
   rwa [List.append_nil] at this
def lone:List UInt8:=[40,41,91,93,123,125,44,59,43,45,42,37]
theorem KH: ∀c ∈ lone,(nX c=false∧fD c=false)∧[c] ∈ A8∧(47 == c)=false∧((c≠124∧c≠38)∧c≠61∧c≠33∧c≠60∧c≠62)∧(BS.map fun c=>[c]).contains [c]=true:=by decide
theorem O5 {c:UInt8} (h:c ∈ lone) (rest:List UInt8):iM (c ::rest)=[c]:=by
 obtain ⟨-,-,-,⟨⟨h1,h2⟩,h3,h4,h5,h6⟩,h7⟩:=KH c h
 rw [oI]
 have:nu.contains ((c ::rest).take 2)=false:=by
  cases rest with
  | nil=>simp [nu]
  | cons d r=>simp [nu,h1,h2,h3,h4,h5,h6]
 rw [this,show (c ::rest).take 1=[c] from rfl,h7]; rfl
theorem Sc.lone {c:UInt8} (n:Nat) (h:c ∈ lone) (rest:List UInt8):Sc [c] n [⟨4,[c],n⟩] n rest:=by
 obtain ⟨⟨h1,h2⟩,h3,h4,-⟩:=KH c h
 refine Sc.tok n (wu _ h3) ?_ (rW _ _ h4)
 rw [List.cons_append,List.nil_append]
 unfold first
 rw [List.headD_cons,h1,h2]
 simp only [Bool.false_eq_true,if_false]
 unfold uV
 rw [O5 h]; rfl
theorem Sc.sign {x:List UInt8} (n:Nat) (h:x ∈ A8) (rest:List UInt8):Sc x n [⟨4,x,n⟩] n (32 ::rest):=by
 have hg:=wu x h
 obtain ⟨h1,⟨c,r,rfl,h2,h3⟩,h4⟩:=hg
 refine Sc.tok n (wu _ h) ((OJ c r 32 rest Zm).trans h1) ?_
 cases r with
 | nil=>simp [List.isPrefixOf]
 | cons d r=>simpa [List.isPrefixOf] using h4
theorem Sc.not (n:Nat) (rest:List UInt8) (h:rest.head?≠some 61):Sc [33] n [⟨4,[33],n⟩] n rest:=by
 refine Sc.tok n (wu [33] (by decide)) ?_ (by simp [List.isPrefixOf])
 have h1:iM (33 ::rest)=[33]:=by
  rw [oI]
  have:nu.contains ((33 ::rest).take 2)=false:=by
   cases rest with
   | nil=>decide
   | cons d r=>
     have hd:d≠61:=fun e=>h (by rw [e]; rfl)
     simp [nu,hd]
  rw [this,show (33 ::rest).take 1=[33] from rfl,show (BS.map fun c=>[c]).contains [33]=true from by decide]; rfl
 rw [List.cons_append,List.nil_append]
 unfold first
 rw [List.headD_cons,if_neg (by decide),if_neg (by decide)]
 unfold uV
 rw [h1]; rfl
theorem digit (k:Nat) (h:k < 10):fD (UInt8.ofNat (48 + k))=true∧(UInt8.ofNat (48 + k)).toNat - 48=k:=by
 have:k=0∨k=1∨k=2∨k=3∨k=4∨k=5∨k=6∨k=7∨k=8∨k=9:=by omega
 rcases this with rfl | rfl | rfl | rfl | rfl | rfl | rfl | rfl | rfl | rfl <;> decide
theorem Bl (u:Nat):(Lib.decDigits u).all fD=true∧val (Lib.decDigits u)=u∧Lib.decDigits u≠[]:=by
 induction u using Nat.strongRecOn with
 | _ u ih=>
   by_cases h:u < 10
   ·rw [Lib.decDigits,dif_pos h]
    refine ⟨by rw [List.all_cons,(digit u h).1]; rfl,?_,by simp⟩
    unfold val
    rw [List.foldl_cons,List.foldl_nil,(digit u h).2]; omega
   ·obtain ⟨h1,h2,h3⟩:=ih (u / 10) (by omega)
    rw [Lib.decDigits,dif_neg h]
    refine ⟨by rw [List.all_append,h1,List.all_cons,(digit (u % 10) (by omega)).1]; rfl,?_,by simp⟩
    unfold val at h2 ⊢
    rw [List.foldl_append,h2]
    rw [List.foldl_cons,List.foldl_nil,(digit (u % 10) (by omega)).2]
    omega
theorem Q5 {n:Int} (h:0≤n):Lib.itoa n=Lib.decDigits n.toNat:=by unfold Lib.itoa; rw [if_neg (by omega)]
theorem U6 {n:Int} (h:n < 0):Lib.itoa n=45 ::Lib.decDigits n.natAbs:=by unfold Lib.itoa; rw [if_pos h]
theorem Sc.dec {u:Nat} (h:u≤9223372036854775807) (n:Nat) {rest:List UInt8} (hr:ru rest):Sc (Lib.decDigits u) n [⟨2,Lib.decDigits u,n⟩] n rest:=by
 obtain ⟨h1,h2,h3⟩:=Bl u
 exact Sc.num h3 h1 (by unfold ny; rw [h2]; exact decide_eq_true h) hr
end Go.Proofs.YtehnipchbmjlhaaGreatDoor.Pz
end
section
namespace Go.Proofs.YtehnipchbmjlhaaGreatDoor.Pz
open Go.RowKit Md Tk Fm
def tl (b:ByteArray):List UInt8:=b.data.toList
theorem bq (a b:ByteArray):tl (a++b)=tl a++tl b:=by simp [tl]
theorem kW (b:ByteArray):tx (tl b)=b:=by simp [tx,tl]
def sg (ln:Nat) (x:List UInt8):Tok:=⟨4,x,ln⟩
def mq (ln:Nat) (x:Int × aA) (lv:Int):aA:=if eO x.1 < lv then sg ln [40] ::(x.2++[sg ln [41]]) else x.2
def SV (ln:Nat) (op n:Int) (nm:ByteArray) (ks:List (Int × aA)):aA:=
 if op == 1 then [⟨2,tl (lT n),ln⟩] else if op == 2 then [⟨1,tl nm,ln⟩] else
 match ks with
 | [a]=>if op == 3 then ⟨1,tl nm,ln⟩ ::sg ln [91] ::(a.2++[sg ln [93]]) else if eO op == 6 then sg ln (tl (Fm.jQ op)) ::mq ln a 6 else []
 | [a,b]=>if eO op < 6 then mq ln a (if eO op == 3 then 4 else eO op)++(sg ln (tl (Fm.jQ op)) ::mq ln b (eO op + 1)) else []
 | _=>[]
def WK (ln:Nat):aP→List (Int × aA)
 | .nil=>[]
 | .cons op n nm kids rest=>(op,SV ln op n nm (WK ln kids)) ::WK ln rest
def xT (ln:Nat) (op n:Int) (nm:ByteArray) (kids:aP):aA:=SV ln op n nm (WK ln kids)
def Ab:aP→Prop
 | .nil=>True
 | .cons _ n _ kids rest=>(n≤9223372036854775807∧Ab kids)∧Ab rest
theorem DJ {w:World} {B:Nat} : ∀ {l:aP} {ao:Option Addr} {k:Nat},l.At w B ao k→Ab l
 | .nil,_,_,_=>trivial
 | .cons _ _ _ _ _,_,_,h=>by
   obtain ⟨⟨b,off,gQ,cap,e,hB,c0,c1,c2,c3,hok,hk⟩,hr⟩:=h
   exact ⟨⟨hok.2.1.2,DJ hk⟩,DJ hr⟩
theorem qw (op:Int) (h:6≤op∧op≤18):(1≤eO op∧eO op≤5)∧tl (Fm.jQ op) ∈ A8∧lK (tl (Fm.jQ op))=(op,eO op)∧opsOf op=2∧((op == 1)=false∧(op == 2)=false)∧eO op < 6∧((tl (Fm.jQ op) == [91])=false):=by
 obtain ⟨h0,h1⟩:=h
 have:op=6∨op=7∨op=8∨op=9∨op=10∨op=11∨op=12∨op=13∨op=14∨op=15∨op=16∨op=17∨op=18:=by omega
 rcases this with rfl | rfl | rfl | rfl | rfl | rfl | rfl | rfl | rfl | rfl | rfl | rfl | rfl <;> decide
inductive Kind:Int→Int→ByteArray→aP→Prop
 | num (n:Int):0≤n→Kind 1 n ⟨#[]⟩ .nil
 | name (nm:ByteArray):dZ (tl nm)=true→Kind 2 0 nm .nil
 | index (nm:ByteArray) (op n:Int) (m:ByteArray) (k:aP):dZ (tl nm)=true→dS op n m k=true→Kind 3 0 nm (.cons op n m k .nil)
 | one (o:Int) (op n:Int) (m:ByteArray) (k:aP):o=4∨o=5→dS op n m k=true→Kind o 0 ⟨#[]⟩ (.cons op n m k .nil)
 | two (o:Int) (op n:Int) (m:ByteArray) (k:aP) (op' n':Int) (m':ByteArray) (k':aP):6≤o∧o≤18→dS op n m k=true→dS op' n' m' k'=true→Kind o 0 ⟨#[]⟩ (.cons op n m k (.cons op' n' m' k' .nil))
theorem iT {nm:ByteArray} (h:nm.data.toList.isEmpty=true):nm=⟨#[]⟩:=Qy (by rw [List.isEmpty_iff.1 h])
theorem Kk {op n:Int} {nm:ByteArray} {kids:aP} (h:dS op n nm kids=true):Kind op n nm kids:=by
 unfold dS uO at h
 simp only [Bool.and_eq_true,beq_iff_eq,Bool.not_eq_true',Bool.or_eq_false_iff,decide_eq_false_iff_not,Int.not_lt] at h
 obtain ⟨⟨hl,⟨hn0,hn1⟩,hnm⟩,hk⟩:=h
 have hop:1≤op∧op≤18:=by unfold opsOf at hl; grind
 have h0:op≠1→n=0:=by
  intro hne
  by_cases h:n=0
  ·exact h
  ·exfalso; simp [h,hne] at hn1
 by_cases h1:op=1
 ·subst h1
  cases kids with
  | nil=>
    have:nm.data.toList.isEmpty=true:=hnm
    rw [iT this]; exact .num n hn0
  | cons=>simp [aP.len,opsOf] at hl; omega
 ·obtain rfl:=h0 h1
  by_cases h2:op=2
  ·subst h2
   cases kids with
   | nil=>exact .name nm hnm
   | cons=>simp [aP.len,opsOf] at hl; omega
  ·by_cases h3:op≤5
   ·have ho:opsOf op=1:=by have:op=3∨op=4∨op=5:=by omega
                           rcases this with rfl | rfl | rfl <;> decide
    match kids,hl,hk with
    | .nil,hl,_=>simp [aP.len,ho] at hl
    | .cons a b c d .nil,_,hk=>
      have hk':dS a b c d=true:=by simp only [iy,Bool.and_eq_true] at hk; unfold dS; simp only [Bool.and_eq_true]; exact hk.1
      by_cases h4:op=3
      ·subst h4; exact .index nm a b c d hnm hk'
      ·have h5:op=4∨op=5:=by omega
       have:nm.data.toList.isEmpty=true:=by rcases h5 with rfl | rfl <;> exact hnm
       rw [iT this]; exact .one op a b c d h5 hk'
    | .cons _ _ _ _ (.cons _ _ _ _ _),hl,_=>simp [aP.len,ho] at hl; omega
   ·have h6:6≤op∧op≤18:=by omega
    have ho:=(qw op h6).2.2.2.1
    match kids,hl,hk with
    | .nil,hl,_=>simp [aP.len,ho] at hl
    | .cons _ _ _ _ .nil,hl,_=>simp [aP.len,ho] at hl
    | .cons a b c d (.cons a' b' c' d' .nil),_,hk=>
      simp only [iy,Bool.and_eq_true] at hk
      have:nm.data.toList.isEmpty=true:=by
       have hnn:named op=false:=by
        have:op=6∨op=7∨op=8∨op=9∨op=10∨op=11∨op=12∨op=13∨op=14∨op=15∨op=16∨op=17∨op=18:=by omega
        rcases this with rfl | rfl | rfl | rfl | rfl | rfl | rfl | rfl | rfl | rfl | rfl | rfl | rfl <;> decide
       rw [hnn] at hnm; exact hnm
      rw [iT this]
      exact .two op a b c d a' b' c' d' h6 (by unfold dS; simp only [Bool.and_eq_true]; exact hk.1) (by unfold dS; simp only [Bool.and_eq_true]; exact hk.2.1)
    | .cons _ _ _ _ (.cons _ _ _ _ (.cons _ _ _ _ _)),hl,_=>simp [aP.len,ho] at hl; omega
def MG (t:List UInt8) (ln:Nat) (T:aA):Prop:=(∀rest,ru rest→Sc t ln T ln rest)∧t.head?.any (fun c=> !(c == 61))=true
theorem MG.head {t r:List UInt8} {ln:Nat} {T:aA} (h:MG t ln T):(t++r).head?≠some 61:=by
 have:=h.2
 cases t with
 | nil=>cases this
 | cons c s=>intro e; simp at e; subst e; simp at this
theorem I7 {op lv:Int} {b:ByteArray} {ln:Nat} {T:aA} (h:MG (tl b) ln T):MG (tl (jP (op,b) lv)) ln (mq ln (op,T) lv):=by
 unfold jP mq
 dsimp only
 split
 ·refine ⟨fun rest hr=> ?_,?_⟩
  ·unfold Ew
   rw [bq,bq]
   exact ((Sc.lone ln (c:=40) (by decide) _).app (h.1 _ (kS (by decide)))).app (Sc.lone ln (c:=41) (by decide) _)
  ·unfold Ew; rw [bq,bq]; rfl
 ·exact h
theorem Iz {t r:List UInt8} {q:UInt8→Bool} (h:t.head?.any q=true):(t++r).head?.any q=true:=by
 cases t with
 | nil=>cases h
 | cons c s=>exact h
theorem KF {x:List UInt8} (h:dZ x=true):x.head?.any (fun c=> !(c == 61))=true:=by
 unfold dZ at h
 simp only [Bool.and_eq_true] at h
 cases x with
 | nil=>simp at h
 | cons c r=>
   have h1:nX c=true:=h.2.1
   show (!(c == 61))=true
   cases hc:(c == 61)
   ·rfl
   ·rw [beq_iff_eq.1 hc] at h1; exact absurd h1 (by decide)
theorem Rk (u:Nat):(Lib.decDigits u).head?.any (fun c=> !(c == 61))=true:=by
 obtain ⟨h1,-,h3⟩:=Bl u
 cases hx:Lib.decDigits u with
 | nil=>exact absurd hx h3
 | cons c r=>
   rw [hx,List.all_cons,Bool.and_eq_true] at h1
   show (!(c == 61))=true
   cases hc:(c == 61)
   ·rfl
   ·rw [beq_iff_eq.1 hc] at h1; exact absurd h1.1 (by decide)
theorem DL {n:Int} (h:0≤n):tl (lT n)=Lib.decDigits n.toNat:=by unfold lT tl; rw [Q5 h]
theorem JF (nm:ByteArray) (a b:Int) (c:ByteArray) (d:aP):bM 3 0 nm (.cons a b c d .nil)=((nm++⟨#[91]⟩)++bM a b c d)++⟨#[93]⟩:=rfl
theorem Jp (ln:Nat) (nm:ByteArray) (a b:Int) (c:ByteArray) (d:aP):xT ln 3 0 nm (.cons a b c d .nil)=⟨1,tl nm,ln⟩ ::sg ln [91] ::(xT ln a b c d++[sg ln [93]]):=rfl
theorem Oj (a b:Int) (c:ByteArray) (d:aP):bM 4 0 ⟨#[]⟩ (.cons a b c d .nil)=⟨#[45]⟩++jP (a,bM a b c d) 6:=rfl
theorem O7 (ln:Nat) (a b:Int) (c:ByteArray) (d:aP):xT ln 4 0 ⟨#[]⟩ (.cons a b c d .nil)=sg ln [45] ::mq ln (a,xT ln a b c d) 6:=rfl
theorem OU (a b:Int) (c:ByteArray) (d:aP):bM 5 0 ⟨#[]⟩ (.cons a b c d .nil)=⟨#[33]⟩++jP (a,bM a b c d) 6:=rfl
theorem Oh (ln:Nat) (a b:Int) (c:ByteArray) (d:aP):xT ln 5 0 ⟨#[]⟩ (.cons a b c d .nil)=sg ln [33] ::mq ln (a,xT ln a b c d) 6:=rfl
theorem Ur {o:Int} (h:6≤o∧o≤18) (x y:Int × ByteArray):KT o 0 ⟨#[]⟩ [x,y]=(((jP x (if eO o == 3 then 4 else eO o)++⟨#[32]⟩)++Fm.jQ o)++⟨#[32]⟩)++jP y (eO o + 1):=by
 obtain ⟨-,hsg,-,-,⟨e1,e2⟩,hlv,-⟩:=qw o h
 unfold KT
 simp only [e1,e2,Bool.false_eq_true,if_false,if_pos hlv]
theorem Vl {o:Int} (h:6≤o∧o≤18) (ln:Nat) (x y:Int × aA):SV ln o 0 ⟨#[]⟩ [x,y]=mq ln x (if eO o == 3 then 4 else eO o)++(sg ln (tl (Fm.jQ o)) ::mq ln y (eO o + 1)):=by
 obtain ⟨-,hsg,-,-,⟨e1,e2⟩,hlv,-⟩:=qw o h
 unfold SV
 simp only [e1,e2,Bool.false_eq_true,if_false,if_pos hlv]
theorem P5 {o:Int} (h:6≤o∧o≤18) (a b:Int) (c:ByteArray) (d:aP) (a' b':Int) (c':ByteArray) (d':aP):bM o 0 ⟨#[]⟩ (.cons a b c d (.cons a' b' c' d' .nil))=(((jP (a,bM a b c d) (if eO o == 3 then 4 else eO o)++⟨#[32]⟩)++Fm.jQ o)++⟨#[32]⟩)++jP (a',bM a' b' c' d') (eO o + 1):=Ur h _ _
theorem NI {o:Int} (h:6≤o∧o≤18) (ln:Nat) (a b:Int) (c:ByteArray) (d:aP) (a' b':Int) (c':ByteArray) (d':aP):xT ln o 0 ⟨#[]⟩ (.cons a b c d (.cons a' b' c' d' .nil))=mq ln (a,xT ln a b c d) (if eO o == 3 then 4 else eO o)++(sg ln (tl (Fm.jQ o)) ::mq ln (a',xT ln a' b' c' d') (eO o + 1)):=Vl h ln _ _
def Xf (op n:Int) (nm:ByteArray) (kids:aP):Prop:=dS op n nm kids=true→n≤9223372036854775807→Ab kids→ ∀ln,MG (tl (bM op n nm kids)) ln (xT ln op n nm kids)
theorem TV (op n:Int) (nm:ByteArray) (kids:aP) (ih:kids.All Xf):Xf op n nm kids:=by
 intro hs hn hf ln
 cases Kk hs with
 | num _ h0=>
   rw [show bM 1 n ⟨#[]⟩ .nil=lT n from rfl,show xT ln 1 n ⟨#[]⟩ .nil=[⟨2,tl (lT n),ln⟩] from rfl,DL h0]
   exact ⟨fun rest hr=>Sc.dec (by omega) ln hr,Rk _⟩
 | name _ h0=>
   exact ⟨fun rest hr=>Sc.name h0 hr,KF h0⟩
 | index _ a b c d h0 hk=>
   have h:=ih.1 hk hf.1.1 hf.1.2 ln
   rw [JF,Jp,bq,bq,bq]
   refine ⟨fun rest hr=> ?_,?_⟩
   ·exact ((((Sc.name h0 (kS (by decide))).app (Sc.lone ln (c:=91) (by decide) _)).app (h.1 _ (kS (by decide)))).app (Sc.lone ln (c:=93) (by decide) rest))
   ·rw [List.append_assoc,List.append_assoc]; exact Iz (KF h0)
 | one _ a b c d h0 hk=>
   have h:=I7 (op:=a) (lv:=6) (ih.1 hk hf.1.1 hf.1.2 ln)
   rcases h0 with rfl | rfl
   ·rw [Oj,O7,bq]
    exact ⟨fun rest hr=>(Sc.lone ln (c:=45) (by decide) _).app (h.1 rest hr),rfl⟩
   ·rw [OU,Oh,bq]
    exact ⟨fun rest hr=>(Sc.not ln _ h.head).app (h.1 rest hr),rfl⟩
 | two _ a b c d a' b' c' d' h0 hk hk'=>
   have hA:=ih.1 hk hf.1.1 hf.1.2 ln
   have hB:=ih.2.1 hk' hf.2.1.1 hf.2.1.2 ln
   obtain ⟨-,hsg,-,-,⟨e1,e2⟩,hlv,-⟩:=qw op h0
   have hP:=I7 (op:=a) (lv:=if eO op == 3 then 4 else eO op) hA
   have hQ:=I7 (op:=a') (lv:=eO op + 1) hB
   rw [P5 h0,NI h0,bq,bq,bq,bq]
   generalize tl (jP (a,bM a b c d) (if eO op == 3 then 4 else eO op))=p at *
   generalize tl (jP (a',bM a' b' c' d') (eO op + 1))=q at *
   generalize mq ln (a,xT ln a b c d) (if eO op == 3 then 4 else eO op)=P at *
   generalize mq ln (a',xT ln a' b' c' d') (eO op + 1)=Q at *
   generalize tl (Fm.jQ op)=s at *
   refine ⟨fun rest hr=> ?_,?_⟩
   ·have:=((((hP.1 ([32]++(s++([32]++(q++rest)))) (kS (by decide))).app (Sc.sp ln _)).app (Sc.sign ln hsg _)).app (Sc.sp ln _)).app (hQ.1 rest hr)
    have e:P++(sg ln s ::Q)=(((P++[])++[⟨4,s,ln⟩])++[])++Q:=by simp [sg]
    rw [e]; exact this
   ·simp only [List.append_assoc]; exact Iz hP.2
theorem uG {op n:Int} {nm:ByteArray} {kids:aP} :Xf op n nm kids:=aP.xP TV op n nm kids
end Go.Proofs.YtehnipchbmjlhaaGreatDoor.Pz
end
section
namespace Go.Proofs.YtehnipchbmjlhaaGreatDoor.Pz
open Go.RowKit Md Tk Fm
def PE (m:M) (ts:aA) (e:E) (r:aA):Prop:= ∀f,enough m ts f→pe f m ts= .ok e r
theorem PE.len {m:M} {ts r:aA} {e:E} (h:PE m ts e r):Lt m r ts:=lG _ m ts e r (h (9 * ts.length + wt m + 1) (by unfold enough; omega))
theorem pO {m:M} {ts:aA} {f:Nat} (h:enough m ts f): ∃g,f=g + 1:=by unfold enough at h; exact ⟨f - 1,by omega⟩
theorem PE.up {lv:Nat} {ts r0 r:aA} {l x:E} (hl:lv≤5) (h1:PE (.bin (lv + 1)) ts l r0) (h2:PE (.lp lv l) r0 x r):PE (.bin lv) ts x r:=by
 intro f hf
 obtain ⟨g,rfl⟩:=pO hf
 have h3:r0.length < ts.length:=h1.len
 have hf':9 * ts.length + (8 - lv) < g + 1:=hf
 unfold pe
 rw [if_neg (by omega),h1 g (by show 9 * ts.length + (8 - (lv + 1)) < g; omega)]
 exact h2 g (by show 9 * r0.length + 0 < g; omega)
theorem PE.six {ts r:aA} {e:E} (h:PE .un ts e r):PE (.bin 6) ts e r:=by
 intro f hf
 obtain ⟨g,rfl⟩:=pO hf
 have hf':9 * ts.length + (8 - 6) < g + 1:=hf
 unfold pe
 rw [if_pos (by decide)]
 exact h g (by show 9 * ts.length + 1 < g; omega)
theorem PE.stop {lv:Nat} {ts:aA} (l:E) (h:opAt lv ts=0):PE (.lp lv l) ts l ts:=by
 intro f hf
 obtain ⟨g,rfl⟩:=pO hf
 unfold pe
 rw [if_pos (by rw [h]; rfl)]
theorem PE.go {lv:Nat} {ts r0 r:aA} {l x y:E} (h0:(opAt lv ts == 0)=false) (hl:lv≤5) (h3:lv≠3) (h1:PE (.bin (lv + 1)) ts.tail x r0) (h2:PE (.lp lv (mk2 (opAt lv ts) l x)) r0 y r):PE (.lp lv l) ts y r:=by
 intro f hf
 obtain ⟨g,rfl⟩:=pO hf
 have h4:r0.length < ts.tail.length:=h1.len
 have h5:=CW h0
 have hf':9 * ts.length + 0 < g + 1:=hf
 unfold pe
 rw [if_neg (by rw [h0]; decide),h1 g (by show 9 * ts.tail.length + (8 - (lv + 1)) < g; omega)]
 dsimp only
 rw [if_neg h3]
 exact h2 g (by show 9 * r0.length + 0 < g; omega)
theorem PE.three {ts r:aA} {l x:E} (h0:(opAt 3 ts == 0)=false) (h1:PE (.bin 4) ts.tail x r):PE (.lp 3 l) ts (mk2 (opAt 3 ts) l x) r:=by
 intro f hf
 obtain ⟨g,rfl⟩:=pO hf
 have h5:=CW h0
 have hf':9 * ts.length + 0 < g + 1:=hf
 unfold pe
 rw [if_neg (by intro h; rw [show ((3:Nat):Int)=3 from rfl,h0] at h; cases h),h1 g (by show 9 * ts.tail.length + (8 - (3 + 1)) < g; omega)]
 rfl
theorem PE.Sy {ts r:aA} {e:E} (ha:at' [45] ts=false) (hb:at' [33] ts=false) (h:PE .pr ts e r):PE .un ts e r:=by
 intro f hf
 obtain ⟨g,rfl⟩:=pO hf
 have hf':9 * ts.length + 1 < g + 1:=hf
 unfold pe
 rw [if_neg (by rw [ha]; decide),if_neg (by rw [hb]; decide)]
 exact h g (by show 9 * ts.length + 0 < g; omega)
theorem PE.neg {ln:Nat} {ts r:aA} {e:E} (h:PE .un ts e r):PE .un (sg ln [45] ::ts) (mk1 4 e) r:=by
 intro f hf
 obtain ⟨g,rfl⟩:=pO hf
 have hf':9 * (ts.length + 1) + 1 < g + 1:=hf
 unfold pe
 rw [if_pos (by rfl),List.tail_cons,h g (by show 9 * ts.length + 1 < g; omega)]
 rfl
theorem PE.not {ln:Nat} {ts r:aA} {e:E} (h:PE .un ts e r):PE .un (sg ln [33] ::ts) (mk1 5 e) r:=by
 intro f hf
 obtain ⟨g,rfl⟩:=pO hf
 have hf':9 * (ts.length + 1) + 1 < g + 1:=hf
 unfold pe
 rw [if_neg (by rw [show at' [45] (sg ln [33] ::ts)=false from rfl]; decide),if_pos (by rfl),List.tail_cons,h g (by show 9 * ts.length + 1 < g; omega)]
 rfl
theorem PE.num {ln:Nat} {x:List UInt8} {r:aA} :PE .pr (⟨2,x,ln⟩ ::r) ⟨1,(val x:Nat),⟨#[]⟩,.nil⟩ r:=by
 intro f hf
 obtain ⟨g,rfl⟩:=pO hf
 unfold pe
 rw [if_pos (by rfl)]; rfl
theorem PE.name {ln:Nat} {x:List UInt8} {r:aA} (h:at' [91] r=false):PE .pr (⟨1,x,ln⟩ ::r) ⟨2,0,tx x,.nil⟩ r:=by
 intro f hf
 obtain ⟨g,rfl⟩:=pO hf
 unfold pe
 rw [if_neg (by rw [show isNum (⟨1,x,ln⟩ ::r)=false from rfl]; decide),if_pos (by rfl),List.tail_cons,if_neg (by rw [h]; decide)]
 rfl
theorem PE.index {ln:Nat} {x:List UInt8} {ts r:aA} {e:E} (h:PE (.bin 1) ts e (sg ln [93] ::r)):PE .pr (⟨1,x,ln⟩ ::sg ln [91] ::ts) ⟨3,0,tx x,.cons e.op e.n e.nm e.kids .nil⟩ r:=by
 intro f hf
 obtain ⟨g,rfl⟩:=pO hf
 have hf':9 * (ts.length + 1 + 1) + 0 < g + 1:=hf
 unfold pe
 rw [if_neg (by rw [show isNum (⟨1,x,ln⟩ ::sg ln [91] ::ts)=false from rfl]; decide),if_pos (by rfl),List.tail_cons,if_pos (by rfl),List.tail_cons,h g (by show 9 * ts.length + (8 - 1) < g; omega)]
 rfl
theorem PE.paren {ln:Nat} {ts r:aA} {e:E} (h:PE (.bin 1) ts e (sg ln [41] ::r)):PE .pr (sg ln [40] ::ts) e r:=by
 intro f hf
 obtain ⟨g,rfl⟩:=pO hf
 have hf':9 * (ts.length + 1) + 0 < g + 1:=hf
 unfold pe
 rw [if_neg (by rw [show isNum (sg ln [40] ::ts)=false from rfl]; decide),if_neg (by rw [show isName (sg ln [40] ::ts)=false from rfl]; decide),if_pos (by rfl),List.tail_cons,h g (by show 9 * ts.length + (8 - 1) < g; omega)]
 rfl
def Stop (k:Nat) (r:aA):Prop:=at' [91] r=false∧ ∀j:Nat,k≤j→j≤5→opAt j r=0
theorem Stop.mono {k k':Nat} {r:aA} (h:Stop k r) (hk:k≤k'):Stop k' r:=⟨h.1,fun j hj=>h.2 j (Nat.le_trans hk hj)⟩
structure Aj (T:aA) (e:E) (l:Nat):Prop where
 un:6≤l→ ∀r,at' [91] r=false→PE .un (T++r) e r
 all: ∀lv:Nat,1≤lv→lv≤l→lv≤6→ ∀r,Stop lv r→PE (.bin lv) (T++r) e r
 lp: ∀lv:Nat,1≤lv→lv≤l→lv≤5→lv≠3→ ∀r x q,Stop (lv + 1) r→PE (.lp lv e) r x q→PE (.bin lv) (T++r) x q
theorem down {ts r:aA} {e:E} : ∀(j k:Nat),k + j≤6→PE (.bin (k + j)) ts e r→(∀i:Nat,k≤i→i≤5→opAt i r=0)→PE (.bin k) ts e r
 | 0,k,_,h,_=>h
 | j + 1,k,hk,h,hs=>(down j (k + 1) (by omega) (by rw [show k + 1 + j=k + (j + 1) by omega]; exact h) (fun i hi=>hs i (by omega))).up (by omega) (PE.stop e (hs k (Nat.le_refl _) (by omega)))
theorem Aj.Bh {T:aA} {e:E} (l:Nat) (h: ∀r,at' [91] r=false→PE .un (T++r) e r):Aj T e l where
 un _:=h
 all lv _ _ h6 r hs:=down (6 - lv) lv (by omega) (by rw [show lv + (6 - lv)=6 by omega]; exact (h r hs.1).six) hs.2
 lp lv h1 _ h5 h3 r x q hs hp:=(down (6 - (lv + 1)) (lv + 1) (by omega) (by rw [show lv + 1 + (6 - (lv + 1))=6 by omega]; exact (h r hs.1).six) hs.2).up h5 hp
theorem xR (ln k:Nat) (x:List UInt8) (r:aA) (h:lK x=(0,0)) (h9:(x == [91])=false) (hk:1≤k):Stop k (sg ln x ::r):=by
 refine ⟨by unfold at' aF nextK sg; simp only [h9]; rfl,fun j hj _=> ?_⟩
 unfold opAt aF nextK sg
 dsimp only
 rw [h]
 simp
theorem xQ {op:Int} {ln:Nat} {T:aA} {e:E} (k:Nat) (h:Aj T e (eO op).toNat): ∃L,k≤L∧Aj (mq ln (op,T) k) e L:=by
 by_cases hl:eO op < k
 ·refine ⟨k,Nat.le_refl _,?_⟩
  unfold mq
  rw [if_pos hl]
  refine Aj.Bh _ (fun r hr=> ?_)
  rw [List.cons_append,List.append_assoc]
  refine PE.Sy rfl rfl (PE.paren ?_)
  have hl1:1≤(eO op).toNat:=by
   unfold eO
   split
   ·decide
   ·split
    ·decide
    ·split
     ·decide
     ·split
      ·decide
      ·split
       ·decide
       ·split <;> decide
  exact h.all 1 (Nat.le_refl _) hl1 (by decide) _ (xR ln 1 [41] r (by decide) (by decide) (Nat.le_refl _))
 ·refine ⟨(eO op).toNat,by omega,?_⟩
  unfold mq
  rw [if_neg hl]; exact h
def Wi (op n:Int) (nm:ByteArray) (kids:aP):Prop:=dS op n nm kids=true→ ∀ln,Aj (xT ln op n nm kids) ⟨op,n,nm,kids⟩ (eO op).toNat
theorem Tt {lv:Nat} (ln:Nat) {o:Int} (h:6≤o∧o≤18) (r:aA):opAt lv (sg ln (tl (Fm.jQ o)) ::r)=if eO o=lv then o else 0:=by
 obtain ⟨-,-,hb,-⟩:=qw o h
 unfold opAt aF nextK sg
 dsimp only
 rw [hb]
 by_cases hl:eO o=lv
 ·rw [if_pos hl,if_pos (by simp [hl])]
 ·rw [if_neg hl,if_neg (by simp [hl])]
theorem QB {k:Nat} (ln:Nat) {o:Int} (h:6≤o∧o≤18) (r:aA) (hk:eO o < k):Stop k (sg ln (tl (Fm.jQ o)) ::r):=by
 refine ⟨?_,fun j hj _=>by rw [Tt ln h,if_neg (by omega)]⟩
 unfold at' aF nextK sg
 simp only [(qw o h).2.2.2.2.2.2]; rfl
theorem Ui (op n:Int) (nm:ByteArray) (kids:aP) (ih:kids.All Wi):Wi op n nm kids:=by
 intro hs ln
 cases Kk hs with
 | num _ h0=>
   rw [show xT ln 1 n ⟨#[]⟩ .nil=[⟨2,tl (lT n),ln⟩] from rfl]
   refine Aj.Bh _ (fun r _=>PE.Sy rfl rfl ?_)
   have h2:=(Bl n.toNat).2.1
   have:=PE.num (ln:=ln) (x:=tl (lT n)) (r:=r)
   rw [show val (tl (lT n))=n.toNat from by rw [DL h0,h2],Int.toNat_of_nonneg h0] at this
   exact this
 | name _ h0=>
   refine Aj.Bh _ (fun r hr=>PE.Sy rfl rfl ?_)
   have:=PE.name (ln:=ln) (x:=tl nm) hr
   rw [kW] at this
   exact this
 | index _ a b c d h0 hk=>
   have h:=ih.1 hk ln
   rw [Jp]
   refine Aj.Bh _ (fun r hr=>PE.Sy rfl rfl ?_)
   rw [List.cons_append,List.cons_append,List.append_assoc]
   have:=PE.index (ln:=ln) (x:=tl nm) (h.all 1 (Nat.le_refl _) (by have:=xQ (ln:=ln) 1 h; unfold eO; grind) (by decide) (sg ln [93] ::r) (xR ln 1 [93] r (by decide) (by decide) (Nat.le_refl _)))
   rw [kW] at this
   exact this
 | one _ a b c d h0 hk=>
   obtain ⟨L,hL,h⟩:=xQ (ln:=ln) 6 (ih.1 hk ln)
   rcases h0 with rfl | rfl
   ·rw [O7]
    exact Aj.Bh _ (fun r hr=>PE.neg (h.un hL r hr))
   ·rw [Oh]
    exact Aj.Bh _ (fun r hr=>PE.not (h.un hL r hr))
 | two _ a b c d a' b' c' d' h0 hk hk'=>
   obtain ⟨l,hl⟩: ∃l:Nat,eO op=l:=⟨(eO op).toNat,by have:=(qw op h0).1; omega⟩
   obtain ⟨LB,hLB,hB⟩:=xQ (ln:=ln) (l + 1) (ih.2.1 hk' ln)
   have hb:=(qw op h0).1
   have hne:(op == 0)=false:=by simp; omega
   have hop: ∀r:aA,opAt l (sg ln (tl (Fm.jQ op)) ::r)=op:=fun r=>by rw [Tt ln h0,if_pos hl]
   rw [NI h0,hl,Int.toNat_natCast]
   have e1:(if ((l:Int) == 3)=true then (4:Int) else (l:Int))=((if l=3 then 4 else l:Nat):Int):=by
    by_cases h3:l=3
    ·subst h3; rfl
    ·rw [if_neg (by simp; omega),if_neg h3]
   rw [e1,show ((l:Int) + 1)=((l + 1:Nat):Int) by omega]
   obtain ⟨LA,VD,hA⟩:=xQ (ln:=ln) (if l=3 then 4 else l) (ih.1 hk ln)
   generalize mq ln (a,xT ln a b c d) ((if l=3 then 4 else l:Nat):Int)=P at *
   generalize mq ln (a',xT ln a' b' c' d') ((l + 1:Nat):Int)=Q at *
   have hst: ∀(k:Nat) (r:aA),l < k→Stop k (sg ln (tl (Fm.jQ op)) ::r):=fun k r hk=>QB ln h0 r (by omega)
   have own: ∀r x q,Stop (l + 1) r→l≠3→PE (.lp l (⟨op,0,⟨#[]⟩,.cons a b c d (.cons a' b' c' d' .nil)⟩:E)) r x q→PE (.bin l) ((P++(sg ln (tl (Fm.jQ op)) ::Q))++r) x q:=by
    intro r x q hs h3 hp
    rw [List.append_assoc,List.cons_append]
    rw [if_neg h3] at VD
    refine hA.lp l (by omega) VD (by omega) h3 _ x q (hst _ _ (by omega)) ?_
    refine PE.go (by rw [hop]; exact hne) (by omega) h3 (hB.all (l + 1) (by omega) hLB (by omega) r hs) ?_
    rw [hop]; exact hp
   have mine: ∀r,Stop l r→PE (.bin l) ((P++(sg ln (tl (Fm.jQ op)) ::Q))++r) ⟨op,0,⟨#[]⟩,.cons a b c d (.cons a' b' c' d' .nil)⟩ r:=by
    intro r hs
    by_cases h3:l=3
    ·subst h3
     rw [List.append_assoc,List.cons_append]
     have h4:=hA.all 4 (by decide) VD (by decide) (sg ln (tl (Fm.jQ op)) ::(Q++r)) (hst _ _ (by decide))
     have h5:=PE.three (ts:=sg ln (tl (Fm.jQ op)) ::(Q++r)) (l:=⟨a,b,c,d⟩) (by have:=hop (Q++r); rw [show ((3:Nat):Int)=3 from rfl] at this; rw [this]; exact hne) (hB.all 4 (by decide) hLB (by decide) r (hs.mono (by decide)))
     have h6:opAt 3 (sg ln (tl (Fm.jQ op)) ::(Q++r))=op:=hop (Q++r)
     rw [h6] at h5
     exact h4.up (by decide) h5
    ·exact own r _ r (hs.mono (by omega)) h3 (PE.stop _ (hs.2 l (Nat.le_refl _) (by omega)))
   exact {
    un:=fun h=>absurd h (by omega)
    all:=fun lv h1 h2 h6 r hs=>down (l - lv) lv (by omega) (by rw [show lv + (l - lv)=l by omega]; exact mine r (hs.mono h2)) hs.2
    lp:=fun lv h1 h2 h5 h3 r x q hs hp=>by
     by_cases he:lv=l
     ·subst he; exact own r x q hs h3 hp
     ·exact (down (l - (lv + 1)) (lv + 1) (by omega) (by rw [show lv + 1 + (l - (lv + 1))=l by omega]; exact mine r (hs.mono (by omega))) hs.2).up h5 hp}
theorem JN {op n:Int} {nm:ByteArray} {kids:aP} :Wi op n nm kids:=aP.xP Ui op n nm kids
theorem rP {op n:Int} {nm:ByteArray} {kids:aP} (h:dS op n nm kids=true) (ln:Nat) (r:aA) (hs:Stop 1 r):expr (xT ln op n nm kids++r)= .ok ⟨op,n,nm,kids⟩ r:=by
 obtain ⟨L,hL,h1⟩:=xQ (ln:=ln) (op:=op) 1 (JN h ln)
 have h2:(1:Nat)≤(eO op).toNat:=by unfold eO; grind
 exact (JN h ln).all 1 (Nat.le_refl _) h2 (by decide) r hs _ (BL _)
end Go.Proofs.YtehnipchbmjlhaaGreatDoor.Pz
end
