/-
  The second parser as plain functions, and that it says what the first one says. No program in sight.
  The second parser's table of signs says what the first one's says; its words. No program in sight.
  The second parser's statements, method by method; equations of its expressions. No program in sight.
  The second parser never reads back; where its expressions go on. No program in sight.
  The second parser says what the first one says. No program in sight.
  The second parser says what the first one says: statements. No program in sight.
  The second parser's statements read on: what their fuel is. No program in sight.
  The second parser says what the first one says: declarations, threads, programs. No program in sight.
-/
import Derived.Test.YtehnipchbmjlhaaGreatDoorGZB
import Derived.Test.YtehnipchbmjlhaaGreatDoorGZA
section
set_option linter.unusedVariables false
namespace Go.Proofs.YtehnipchbmjlhaaGreatDoor.Pz
open Go.RowKit Md Tk
inductive St where
 | go (r:aj)
 | bad (n:Int)
def St.toks:St→aj
 | .go r=>r
 | .bad _=>[]
def St.good:St→Bool
 | .go _=>true
 | .bad _=>false
def St.bH:St→St
 | .go r=> .go r.tail
 | .bad n=> .bad n
def fail (ts:aj):St→St
 | .go r=> .bad (bV ts r)
 | .bad n=> .bad n
def gu (ts:aj) (x:List UInt8) (s:St):St:=if at' x s.toks then s.bH else fail ts s
def fu (ts:aj) (s:St):ByteArray × St:=if isName s.toks then (tx (ay s.toks),s.bH) else (⟨#[]⟩,fail ts s)
def Ht (ts:aj) (s:St):Int × St:=if isNum s.toks then ((val (ay s.toks):Nat),s.bH) else (0,fail ts s)
def aL (ts:aj):Nat→M→St→E × St
 | 0,_,s=>(⟨0,0,⟨#[]⟩,.nil⟩,fail ts s)
 | f + 1,.bin lv,s=>if 5 < lv then aL ts f .un s else aL ts f (.lp lv (aL ts f (.bin (lv + 1)) s).1) (aL ts f (.bin (lv + 1)) s).2
 | f + 1,.lp lv l,s=>if opAt lv s.toks == 0 then (l,s) else
   if lv=3 then (mk2 (opAt lv s.toks) l (aL ts f (.bin (lv + 1)) s.bH).1,(aL ts f (.bin (lv + 1)) s.bH).2)
   else aL ts f (.lp lv (mk2 (opAt lv s.toks) l (aL ts f (.bin (lv + 1)) s.bH).1)) (aL ts f (.bin (lv + 1)) s.bH).2
 | f + 1,.un,s=>if at' [45] s.toks then (mk1 4 (aL ts f .un s.bH).1,(aL ts f .un s.bH).2)
   else if at' [33] s.toks then (mk1 5 (aL ts f .un s.bH).1,(aL ts f .un s.bH).2) else aL ts f .pr s
 | f + 1,.pr,s=>if isNum s.toks then (⟨1,(val (ay s.toks):Nat),⟨#[]⟩,.nil⟩,s.bH)
   else if at' [40] s.toks then ((aL ts f (.bin 1) s.bH).1,gu ts [41] (aL ts f (.bin 1) s.bH).2)
   else if at' [91] (fu ts s).2.toks then (OU (fu ts s).1 (aL ts f (.bin 1) (fu ts s).2.bH).1,gu ts [93] (aL ts f (.bin 1) (fu ts s).2.bH).2)
   else (⟨2,0,(fu ts s).1,.nil⟩,(fu ts s).2)
def iO (ts:aj) (s:St):E × St:=aL ts (9 * s.toks.length + 9) (.bin 1) s
def CF (ts:aj) (h:aW) (s:St):aW × St:=
 if at' [91] s.toks then ({h with idx:= .cons (iO ts s.bH).1.op (iO ts s.bH).1.n (iO ts s.bH).1.nm (iO ts s.bH).1.kids .nil},gu ts [93] (iO ts s.bH).2) else (h,s)
def WO (ts:aj) (h:aW) (s:St):aI × St:=
 (one (aW.ex h (iO ts (gu ts [61] s)).1) .nil .nil,gu ts [59] (iO ts (gu ts [61] s)).2)
def ap0 (ts:aj) (h:aW) (s:St):aI × St:=
 WO ts (CF ts {h with op:=1,nm:=(fu ts s).1} (fu ts s).2).1 (CF ts {h with op:=1,nm:=(fu ts s).1} (fu ts s).2).2
def xw (r:aj):Int:=if nextK r == 3 then gQ (ay r) else 0
def Zn (ts:aj) (op:Int) (h:aW) (blk:St→aI × St) (s:St):aI × St:=
 if op == 4 || op == 5 || op == 6 then (one h (blk s).1 .nil,(blk s).2)
 else if op == 14 then (one (aW.ex h (iO ts s).1) .nil .nil,gu ts [59] (iO ts s).2)
 else if op == 15 then (one {h with arg:=(fu ts s).1} .nil .nil,gu ts [59] (fu ts s).2)
 else (one h .nil .nil,gu ts [59] s)
def ZR (h:aW) (blk:St→aI × St) (b:aI) (s:St):aI × St:=
 if at' [101,108,115,101] s.toks then (one h b (blk s.bH).1,(blk s.bH).2) else (one h b .nil,s)
def uR (ts:aj):Nat→Bool→St→aI × St
 | 0,_,s=>(.nil,fail ts s)
 | f + 1,false,s=>if s.good && !at' [125] s.toks then (app (uR ts f true s).1 (uR ts f false (uR ts f true s).2).1,(uR ts f false (uR ts f true s).2).2) else (.nil,gu ts [125] s)
 | f + 1,true,s=>
   if xw s.toks == 0 then ap0 ts (hd 0 (aU s.toks)) s
   else if xw s.toks == 2 then ZR (aW.ex (hd 2 (aU s.toks)) (iO ts s.bH).1) (fun s=>uR ts f false (gu ts [123] s)) (uR ts f false (gu ts [123] (iO ts s.bH).2)).1 (uR ts f false (gu ts [123] (iO ts s.bH).2)).2
   else if xw s.toks == 3 then (one (aW.ex (hd 3 (aU s.toks)) (iO ts s.bH).1) (uR ts f false (gu ts [123] (iO ts s.bH).2)).1 .nil,(uR ts f false (gu ts [123] (iO ts s.bH).2)).2)
   else if xw s.toks == 7 || xw s.toks == 8 then (one (hd (xw s.toks) (aU s.toks)) (uR ts f false (gu ts [123] s.bH)).1 .nil,(uR ts f false (gu ts [123] s.bH)).2)
   else Zn ts (xw s.toks) {hd (xw s.toks) (aU s.toks) with nm:=(fu ts s.bH).1} (fun s=>uR ts f false (gu ts [123] s)) (fu ts s.bH).2
def Av (ts:aj) (s:St):St:=if s.good && !s.toks.isEmpty then fail ts s else s
def Mq (x:E):St→E × Int × Int
 | .go _=>(x,0,0)
 | .bad n=>(⟨0,0,⟨#[]⟩,.nil⟩,3,n)
def qW (s:List UInt8):E × Int × Int:=
 if (scan s).2.1=0 then Mq (iO (scan s).1 (.go (scan s).1)).1 (Av (scan s).1 (iO (scan s).1 (.go (scan s).1)).2)
 else (⟨0,0,⟨#[]⟩,.nil⟩,(scan s).2.1,(scan s).2.2)
end Go.Proofs.YtehnipchbmjlhaaGreatDoor.Pz
end
section
set_option linter.unusedVariables false
set_option linter.unusedSimpArgs false
namespace Go.Proofs.YtehnipchbmjlhaaGreatDoor.Pz
open Go.RowKit Md Tk
def wF:List (List UInt8 × Int × Int):=[([124,124],18,1),([38,38],17,2),([61,61],11,3),([33,61],12,3),([60],13,3),([60,61],14,3),([62],15,3),([62,61],16,3),([43],6,4),([45],7,4),([42],8,5),([47],9,5),([37],10,5)]
def zK (lv:Int) (r:aj):List (List UInt8 × Int × Int)→Int
 | []=>0
 | x ::t=>if x.2.2 == lv && at' x.1 r then x.2.1 else zK lv r t
theorem vO {lv:Int} {r:aj} : ∀ {l:List (List UInt8 × Int × Int)},(∀x ∈ l,at' x.1 r=false)→zK lv r l=0
 | [],_=>rfl
 | x ::t,h=>by
   unfold zK
   rw [h x (by simp),Bool.and_false,if_neg (by decide)]
   exact vO (fun y hy=>h y (by simp [hy]))
theorem Zq {x:List UInt8} (hx:jB x=false) {t:Tok} {r:aj} (hk:t.kind=3) (h:jB t.text=true):at' x (t ::r)=false:=by
 unfold at'
 have:(ay (t ::r) == x)=false:=by
  rw [beq_eq_false_iff_ne]; rintro e
  have e:t.text=x:=e
  rw [e,hx] at h; cases h
 rw [this,Bool.and_false]
theorem Gg (lv:Int) (y:List UInt8): ∀l:List (List UInt8 × Int × Int),(l.map (·.1)).Nodup→ ∀x ∈ l,x.1=y→ ∀r:aj,(∀z:List UInt8,at' z r=(y == z))→zK lv r l=if x.2.2 == lv then x.2.1 else 0
 | [],_,x,hx,_,_,_=>by cases hx
 | z ::t,hn,x,hx,hy,r,hr=>by
   simp only [List.map_cons,List.nodup_cons] at hn
   unfold zK
   rw [hr z.1]
   by_cases hz:z.1=y
   ·have hxz:x=z:=by
     rcases List.mem_cons.1 hx with h | h
     ·exact h
     ·exfalso; apply hn.1; rw [hz,← hy]; exact List.mem_map.2 ⟨x,h,rfl⟩
    subst hxz
    have:(y == x.1)=true:=by rw [hz]; simp
    rw [this,Bool.and_true]
    split
    ·rfl
    ·exact vO (fun w hw=>by
      rw [hr w.1,beq_eq_false_iff_ne]; rintro rfl
      apply hn.1; rw [hz]; exact List.mem_map.2 ⟨w,hw,rfl⟩)
   ·have:(y == z.1)=false:=by rw [beq_eq_false_iff_ne]; exact fun e=>hz e.symm
    rw [this,Bool.and_false,if_neg (by decide)]
    rcases List.mem_cons.1 hx with h | h
    ·exact absurd (by rw [← h]; exact hy) hz
    ·exact Gg lv y t hn.2 x h hy r hr
theorem Jh: ∀x ∈ wF,jB x.1=false∧iY x.1=(x.2.1,x.2.2)∧(x.2.1 == 0)=false:=by decide
theorem RI:(wF.map (·.1)).Nodup:=by decide
theorem Ky {y:List UInt8} (h: ∀x ∈ wF,x.1≠y):iY y=(0,0):=by
 have h': ∀x ∈ wF,(y == x.1)=false:=fun x hx=>by rw [beq_eq_false_iff_ne]; exact fun e=>h x hx e.symm
 simp only [wF,List.mem_cons,List.not_mem_nil,or_false,forall_eq_or_imp,forall_eq] at h'
 unfold iY
 obtain ⟨h1,h2,h3,h4,h5,h6,h7,h8,h9,h10,h11,h12,BU⟩:=h'
 simp [h1,h2,h3,h4,h5,h6,h7,h8,h9,h10,h11,h12,BU]
theorem YJ (lv:Int) {r:aj} (h: ∀t ∈ r,FD t):zK lv r wF=opAt lv r:=by
 cases r with
 | nil=>rw [vO (fun x _=>by simp [at',nextK])]; simp [opAt,nextK]
 | cons t q=>
   have ht:=h t (by simp)
   by_cases h4:t.kind=4
   ·have hr: ∀z:List UInt8,at' z (t ::q)=(t.text == z):=fun z=>by simp [at',nextK,ay,h4]
    have ho:opAt lv (t ::q)=if (iY t.text).2 == lv then (iY t.text).1 else 0:=by simp [opAt,nextK,ay,h4]
    rw [ho]
    by_cases hm: ∃x ∈ wF,x.1=t.text
    ·obtain ⟨x,hx,e⟩:=hm
     rw [Gg lv t.text wF RI x hx e _ hr,← e,(Jh x hx).2.1]
    ·rw [vO (fun x hx=>by rw [hr,beq_eq_false_iff_ne]; exact fun e=>hm ⟨x,hx,e.symm⟩),Ky (fun x hx e=>hm ⟨x,hx,e⟩)]
     split <;> rfl
   ·have ho:opAt lv (t ::q)=0:=by simp [opAt,nextK,h4]
    rw [ho]
    refine vO (fun x hx=> ?_)
    by_cases h3:t.kind=3
    ·exact Zq (Jh x hx).1 h3 (ht.2.2.1 h3)
    ·simp [at',nextK,h3,h4]
end Go.Proofs.YtehnipchbmjlhaaGreatDoor.Pz
end
section
set_option linter.unusedVariables false
namespace Go.Proofs.YtehnipchbmjlhaaGreatDoor.Pz
open Go.RowKit Md Tk
theorem Qu (ts:aj) (f:Nat) (s:St) (h:(s.good && !at' [125] s.toks)=false):uR ts (f + 1) false s=(.nil,gu ts [125] s):=by
 conv=>lhs; unfold uR
 rw [if_neg (by rw [h]; decide)]
section
variable {ts:aj} {f lv:Nat} {s:St} {l:E}
theorem WW (h:5 < lv):aL ts (f + 1) (.bin lv) s=aL ts f .un s:=by
 conv=>lhs; unfold aL
 rw [if_pos h]
theorem XY (h: ¬ 5 < lv):aL ts (f + 1) (.bin lv) s=aL ts f (.lp lv (aL ts f (.bin (lv + 1)) s).1) (aL ts f (.bin (lv + 1)) s).2:=by
 conv=>lhs; unfold aL
 rw [if_neg h]
theorem Xb (h:(opAt lv s.toks == 0)=true):aL ts (f + 1) (.lp lv l) s=(l,s):=by
 conv=>lhs; unfold aL
 rw [if_pos h]
theorem ak0 (h:(opAt lv s.toks == 0)=false) (h3:lv=3):aL ts (f + 1) (.lp lv l) s=(mk2 (opAt lv s.toks) l (aL ts f (.bin (lv + 1)) s.bH).1,(aL ts f (.bin (lv + 1)) s.bH).2):=by
 conv=>lhs; unfold aL
 rw [if_neg (by rw [h]; decide),if_pos h3]
theorem ZM (h:(opAt lv s.toks == 0)=false) (h3: ¬ lv=3):aL ts (f + 1) (.lp lv l) s=aL ts f (.lp lv (mk2 (opAt lv s.toks) l (aL ts f (.bin (lv + 1)) s.bH).1)) (aL ts f (.bin (lv + 1)) s.bH).2:=by
 conv=>lhs; unfold aL
 rw [if_neg (by rw [h]; decide),if_neg h3]
theorem YI (h:at' [45] s.toks=true):aL ts (f + 1) .un s=(mk1 4 (aL ts f .un s.bH).1,(aL ts f .un s.bH).2):=by
 conv=>lhs; unfold aL
 rw [if_pos h]
theorem XE (h1:at' [45] s.toks=false) (h:at' [33] s.toks=true):aL ts (f + 1) .un s=(mk1 5 (aL ts f .un s.bH).1,(aL ts f .un s.bH).2):=by
 conv=>lhs; unfold aL
 rw [if_neg (by rw [h1]; decide),if_pos h]
theorem Yr (h1:at' [45] s.toks=false) (h:at' [33] s.toks=false):aL ts (f + 1) .un s=aL ts f .pr s:=by
 conv=>lhs; unfold aL
 rw [if_neg (by rw [h1]; decide),if_neg (by rw [h]; decide)]
theorem WH (h:isNum s.toks=true):aL ts (f + 1) .pr s=(⟨1,(val (ay s.toks):Nat),⟨#[]⟩,.nil⟩,s.bH):=by
 conv=>lhs; unfold aL
 rw [if_pos h]
theorem XK (h0:isNum s.toks=false) (h:at' [40] s.toks=true):aL ts (f + 1) .pr s=((aL ts f (.bin 1) s.bH).1,gu ts [41] (aL ts f (.bin 1) s.bH).2):=by
 conv=>lhs; unfold aL
 rw [if_neg (by rw [h0]; decide),if_pos h]
theorem XO (h0:isNum s.toks=false) (h1:at' [40] s.toks=false) (h:at' [91] (fu ts s).2.toks=true):aL ts (f + 1) .pr s=(OU (fu ts s).1 (aL ts f (.bin 1) (fu ts s).2.bH).1,gu ts [93] (aL ts f (.bin 1) (fu ts s).2.bH).2):=by
 conv=>lhs; unfold aL
 rw [if_neg (by rw [h0]; decide),if_neg (by rw [h1]; decide),if_pos h]
theorem WS (h0:isNum s.toks=false) (h1:at' [40] s.toks=false) (h:at' [91] (fu ts s).2.toks=false):aL ts (f + 1) .pr s=(⟨2,0,(fu ts s).1,.nil⟩,(fu ts s).2):=by
 conv=>lhs; unfold aL
 rw [if_neg (by rw [h0]; decide),if_neg (by rw [h1]; decide),if_neg (by rw [h]; decide)]
end
end Go.Proofs.YtehnipchbmjlhaaGreatDoor.Pz
end
section
set_option linter.unusedVariables false
namespace Go.Proofs.YtehnipchbmjlhaaGreatDoor.Pz
open Go.RowKit Md Tk
def St.len (s:St):Nat:=s.toks.length
section
variable {ts:aj}
theorem sN (s:St):s.bH.len≤s.len:=by
 cases s with
 | go r=>show r.tail.length≤r.length; rw [List.length_tail]; omega
 | bad n=>exact Nat.le_refl _
theorem Qr {s:St} (h:s.toks≠[]):s.bH.len < s.len:=by
 cases s with
 | go r=>
   have h:r≠[]:=h
   have:=List.length_pos_iff.2 h
   show r.tail.length < r.length; rw [List.length_tail]; omega
 | bad n=>exact absurd rfl h
theorem Hq {x:List UInt8} {s:St} (h:at' x s.toks=true):s.bH.len < s.len:=Qr (by
 obtain ⟨t,r,e⟩:=yG h
 rw [e]; exact List.cons_ne_nil _ _)
theorem EP (s:St):(fail ts s).len≤s.len:=by cases s <;> exact Nat.zero_le _
theorem Il (x:List UInt8) (s:St):(gu ts x s).len≤s.len:=by
 unfold gu; split
 ·exact sN s
 ·exact EP s
theorem D5 (s:St):(fu ts s).2.len≤s.len:=by
 unfold fu; split
 ·exact sN s
 ·exact EP s
theorem jX: ∀(f:Nat) (m:M) (s:St),(aL ts f m s).2.len≤s.len
 | 0,m,s=>by cases m <;> exact EP s
 | f + 1,.bin lv,s=>by
   unfold aL
   split
   ·exact jX f .un s
   ·exact Nat.le_trans (jX f (.lp lv (aL ts f (.bin (lv + 1)) s).1) (aL ts f (.bin (lv + 1)) s).2) (jX f (.bin (lv + 1)) s)
 | f + 1,.lp lv l,s=>by
   unfold aL
   split
   ·exact Nat.le_refl _
   ·have h1:=Nat.le_trans (jX f (.bin (lv + 1)) s.bH) (sN s)
    split
    ·exact h1
    ·exact Nat.le_trans (jX f _ _) h1
 | f + 1,.un,s=>by
   unfold aL
   split
   ·exact Nat.le_trans (jX f .un s.bH) (sN s)
   ·split
    ·exact Nat.le_trans (jX f .un s.bH) (sN s)
    ·exact jX f .pr s
 | f + 1,.pr,s=>by
   unfold aL
   split
   ·exact sN s
   ·split
    ·exact Nat.le_trans (Il _ _) (Nat.le_trans (jX f (.bin 1) s.bH) (sN s))
    ·split
     ·exact Nat.le_trans (Il _ _) (Nat.le_trans (jX f (.bin 1) _) (Nat.le_trans (sN _) (D5 s)))
     ·exact D5 s
theorem YL {x y:List UInt8} {r:aj} (hxy:(x == y)=false) (h:at' x r=true):at' y r=false:=by
 unfold at' at h ⊢
 rw [Bool.and_eq_true,beq_iff_eq] at h
 rw [h.2,hxy,Bool.and_false]
end
end Go.Proofs.YtehnipchbmjlhaaGreatDoor.Pz
end
section
set_option linter.unusedVariables false
set_option linter.unusedSimpArgs false
namespace Go.Proofs.YtehnipchbmjlhaaGreatDoor.Pz
open Go.RowKit Md Tk
def vg {α:Type} (ts:aj):aT α→α × St→Prop
 | .ok x r,q=>q=(x,.go r)
 | .no r,q=>q.2= .bad (bV ts r)
section
variable {ts:aj}
theorem at_nil (x:List UInt8):at' x []=false:=by simp [at',nextK]
theorem PN (x:List UInt8) (n:Int):gu ts x (.bad n)= .bad n:=by unfold gu; rw [show (St.bad n).toks=[] from rfl,at_nil]; rfl
theorem Qo (n:Int):(fu ts (.bad n))=(⟨#[]⟩,.bad n):=rfl
theorem Yi (lv:Int):opAt lv []=0:=by simp [opAt,nextK]
theorem pE: ∀(f:Nat) (m:M) (n:Int),(aL ts f m (.bad n)).2= .bad n
 | 0,m,n=>by cases m <;> rfl
 | f + 1,.bin lv,n=>by
   unfold aL
   split
   ·exact pE f _ n
   ·rw [pE f _ n]; exact pE f _ n
 | f + 1,.lp lv l,n=>by
   unfold aL; rw [show (St.bad n).toks=[] from rfl,Yi]; rfl
 | f + 1,.un,n=>by
   unfold aL; rw [show (St.bad n).toks=[] from rfl,at_nil,at_nil]; exact pE f _ n
 | f + 1,.pr,n=>by
   unfold aL; rw [Qo,show (St.bad n).toks=[] from rfl,at_nil,at_nil]; rfl
theorem vg.of {α:Type} {r:aT α} {q:α × St} (h:vg ts r q):(∃x r',r= .ok x r'∧q=(x,.go r'))∨(∃r',r= .no r'∧q.2= .bad (bV ts r')):=by
 cases r with
 | ok x r'=>exact .inl ⟨x,r',rfl,h⟩
 | no r'=>exact .inr ⟨r',rfl,h⟩
theorem vg.map {α β:Type} {r:aT α} {q:α × St} (h:vg ts r q) (f:α→β):vg ts (r.map f) (f q.1,q.2):=by
 cases r with
 | ok x r'=>have h:q=_:=h; subst h; rfl
 | no r'=>exact h
theorem vg.close {α:Type} {r:aT α} {q:α × St} (h:vg ts r q) (y:List UInt8):vg ts (r.close y) (q.1,gu ts y q.2):=by
 cases r with
 | ok x r'=>
   have h:q=_:=h
   subst h
   show vg ts (if at' y r' then _ else _) _
   unfold gu
   rw [show (St.go r').toks=r' from rfl]
   by_cases hc:at' y r'=true
   ·rw [if_pos hc,if_pos hc]; rfl
   ·rw [if_neg hc,if_neg hc]; rfl
 | no r'=>
   have h:q.2=_:=h
   show gu ts y q.2=_
   rw [h,PN]
theorem vg.bind {α β:Type} {r:aT α} {q:α × St} {f:α→aj→aT β} {g:α→St→β × St} (h:vg ts r q) (hf: ∀x r',r= .ok x r'→vg ts (f x r') (g x (.go r'))) (hg: ∀x n,(g x (.bad n)).2= .bad n):vg ts (r.bind f) (g q.1 q.2):=by
 cases r with
 | ok x r'=>have h:q=_:=h; subst h; exact hf x r' rfl
 | no r'=>
   have h:q.2=_:=h
   show (g q.1 q.2).2=_
   rw [h,hg]
theorem UU {r:aj} (h:isName r=true) (x:List UInt8):at' x r=false:=by
 have h:nextK r=1:=by simpa [isName] using h
 simp [at',h]
theorem jL: ∀(f:Nat) (m:M) (r:aj),vg ts (pe f m r) (aL ts f m (.go r))
 | 0,m,r=>by cases m <;> rfl
 | f + 1,.bin lv,r=>by
   unfold pe aL
   by_cases hl:5 < lv
   ·rw [if_pos hl,if_pos hl]; exact jL f .un r
   ·rw [if_neg hl,if_neg hl]
    rcases (jL f (.bin (lv + 1)) r).of with ⟨x,r',h1,h2⟩ | ⟨r',h1,h2⟩
    ·rw [h1,h2]; exact jL f _ r'
    ·rw [h1,h2]; exact pE f _ _
 | f + 1,.lp lv l,r=>by
   unfold pe aL
   rw [show (St.go r).toks=r from rfl,show (St.go r).bH= .go r.tail from rfl]
   by_cases hl:(opAt lv r == 0)=true
   ·rw [if_pos hl,if_pos hl]; rfl
   ·rw [if_neg hl,if_neg hl]
    rcases (jL f (.bin (lv + 1)) r.tail).of with ⟨x,r',h1,h2⟩ | ⟨r',h1,h2⟩
    ·rw [h1,h2]
     by_cases h3:lv=3
     ·rw [if_pos h3]; dsimp only; rw [if_pos h3]; rfl
     ·rw [if_neg h3]; dsimp only; rw [if_neg h3]; exact jL f _ r'
    ·rw [h1]
     show (ite _ _ _:E × St).2=_
     by_cases h3:lv=3
     ·rw [if_pos h3]; exact h2
     ·rw [if_neg h3,h2]; exact pE f _ _
 | f + 1,.un,r=>by
   unfold pe aL
   rw [show (St.go r).toks=r from rfl,show (St.go r).bH= .go r.tail from rfl]
   by_cases h1:at' [45] r=true
   ·rw [if_pos h1,if_pos h1]; exact (jL f .un r.tail).map _
   ·rw [if_neg h1,if_neg h1]
    by_cases h2:at' [33] r=true
    ·rw [if_pos h2,if_pos h2]; exact (jL f .un r.tail).map _
    ·rw [if_neg h2,if_neg h2]; exact jL f .pr r
 | f + 1,.pr,r=>by
   unfold pe aL
   rw [show (St.go r).toks=r from rfl,show (St.go r).bH= .go r.tail from rfl]
   by_cases h1:isNum r=true
   ·rw [if_pos h1,if_pos h1]; rfl
   ·rw [if_neg h1,if_neg h1]
    by_cases h2:isName r=true
    ·rw [if_pos h2,if_neg (c:=at' [40] r=true) (by rw [UU h2]; decide)]
     have hq:fu ts (.go r)=(tx (ay r),.go r.tail):=by
      unfold fu; rw [show (St.go r).toks=r from rfl,if_pos h2]; rfl
     rw [hq,show (St.go r.tail).toks=r.tail from rfl,show (St.go r.tail).bH= .go r.tail.tail from rfl]
     by_cases h3:at' [91] r.tail=true
     ·rw [if_pos h3,if_pos h3]
      exact ((jL f (.bin 1) r.tail.tail).close [93]).map _
     ·rw [if_neg h3,if_neg h3]; rfl
    ·rw [if_neg h2]
     by_cases h3:at' [40] r=true
     ·rw [if_pos h3,if_pos h3]; exact (jL f (.bin 1) r.tail).close [41]
     ·rw [if_neg h3,if_neg h3]
      have hq:fu ts (.go r)=(⟨#[]⟩,.bad (bV ts r)):=by
       unfold fu; rw [show (St.go r).toks=r from rfl,if_neg h2]; rfl
      rw [hq,show (St.bad (bV ts r)).toks=[] from rfl,at_nil]; rfl
theorem OQ (r:aj):vg ts (expr r) (iO ts (.go r)):=jL _ _ r
end
end Go.Proofs.YtehnipchbmjlhaaGreatDoor.Pz
end
section
set_option linter.unusedVariables false
set_option linter.unusedSimpArgs false
namespace Go.Proofs.YtehnipchbmjlhaaGreatDoor.Pz
open Go.RowKit Md Tk
section
variable {ts:aj}
end
end Go.Proofs.YtehnipchbmjlhaaGreatDoor.Pz
end
section
set_option linter.unusedVariables false
namespace Go.Proofs.YtehnipchbmjlhaaGreatDoor.Pz
open Go.RowKit Md Tk
section
variable {ts:aj}
end
end Go.Proofs.YtehnipchbmjlhaaGreatDoor.Pz
end
section
set_option linter.unusedVariables false
set_option linter.unusedSimpArgs false
namespace Go.Proofs.YtehnipchbmjlhaaGreatDoor.Pz
open Go.RowKit Md Tk
section
variable {ts:aj}
theorem N8 (s:List UInt8):qW s=dV s:=by
 unfold qW dV
 split
 ·generalize (scan s).1=ts
  rcases (OQ (ts:=ts) ts).of with ⟨x,r,h1,h2⟩ | ⟨r,h1,h2⟩
  ·rw [h1,h2]
   show Mq x (Av ts (.go r))=if !r.isEmpty then _ else _
   unfold Av
   rw [show (St.go r).toks=r from rfl,show (St.go r).good=true from rfl,Bool.true_and]
   by_cases hc:(!r.isEmpty)=true
   ·rw [if_pos hc,if_pos hc]; rfl
   ·rw [if_neg hc,if_neg hc]; rfl
  ·rw [h1,h2]; rfl
 ·rfl
end
end Go.Proofs.YtehnipchbmjlhaaGreatDoor.Pz
end
