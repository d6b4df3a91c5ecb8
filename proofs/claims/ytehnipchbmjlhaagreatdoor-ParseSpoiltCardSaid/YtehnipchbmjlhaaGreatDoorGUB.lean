/-
  The second parser as plain functions, and that it says what the first one says. No program in sight.
  The second parser's table of signs says what the first one's says; its words. No program in sight.
  The second parser's statements, method by method; equations of its expressions. No program in sight.
  The second parser never reads back; where its expressions go on. No program in sight.
  The second parser says what the first one says. No program in sight.
  The second parser says what the first one says: statements. No program in sight.
  The second parser's statements read on: what their fuel is. No program in sight.
  The second parser says what the first one says: declarations, threads, programs. No program in sight.
-/
import Derived.Test.YtehnipchbmjlhaaGreatDoorGZB
import Derived.Test.YtehnipchbmjlhaaGreatDoorGZA
set_option linter.unusedSimpArgs false
set_option linter.unusedVariables false
set_option maxHeartbeats 40000000
set_option maxRecDepth 1000000
section
namespace Go.Proofs.YtehnipchbmjlhaaGreatDoor.Pz
open Go.RowKit Md Tk
inductive St where
 | go (r:ak)
 | bad (n:Int)
def St.toks:St→ak
 | .go r=>r
 | .bad _=>[]
def St.good:St→Bool
 | .go _=>true
 | .bad _=>false
def St.aD:St→St
 | .go r=> .go r.tail
 | .bad n=> .bad n
def fail (ts:ak):St→St
 | .go r=> .bad (bR ts r)
 | .bad n=> .bad n
def aR (ts:ak) (x:List UInt8) (s:St):St:=if at' x s.toks then s.aD else fail ts s
def aJ (ts:ak) (s:St):ByteArray × St:=if isName s.toks then (tx (ay s.toks),s.aD) else (⟨#[]⟩,fail ts s)
def jH (ts:ak) (s:St):Int × St:=if isNum s.toks then ((val (ay s.toks):Nat),s.aD) else (0,fail ts s)
def aQ (ts:ak):Nat→M→St→E × St
 | 0,_,s=>(⟨0,0,⟨#[]⟩,.nil⟩,fail ts s)
 | f + 1,.bin lv,s=>if 5 < lv then aQ ts f .un s else aQ ts f (.lp lv (aQ ts f (.bin (lv + 1)) s).1) (aQ ts f (.bin (lv + 1)) s).2
 | f + 1,.lp lv l,s=>if opAt lv s.toks == 0 then (l,s) else
   if lv=3 then (mk2 (opAt lv s.toks) l (aQ ts f (.bin (lv + 1)) s.aD).1,(aQ ts f (.bin (lv + 1)) s.aD).2)
   else aQ ts f (.lp lv (mk2 (opAt lv s.toks) l (aQ ts f (.bin (lv + 1)) s.aD).1)) (aQ ts f (.bin (lv + 1)) s.aD).2
 | f + 1,.un,s=>if at' [45] s.toks then (mk1 4 (aQ ts f .un s.aD).1,(aQ ts f .un s.aD).2)
   else if at' [33] s.toks then (mk1 5 (aQ ts f .un s.aD).1,(aQ ts f .un s.aD).2) else aQ ts f .pr s
 | f + 1,.pr,s=>if isNum s.toks then (⟨1,(val (ay s.toks):Nat),⟨#[]⟩,.nil⟩,s.aD)
   else if at' [40] s.toks then ((aQ ts f (.bin 1) s.aD).1,aR ts [41] (aQ ts f (.bin 1) s.aD).2)
   else if at' [91] (aJ ts s).2.toks then (Qf (aJ ts s).1 (aQ ts f (.bin 1) (aJ ts s).2.aD).1,aR ts [93] (aQ ts f (.bin 1) (aJ ts s).2.aD).2)
   else (⟨2,0,(aJ ts s).1,.nil⟩,(aJ ts s).2)
def dQ (ts:ak) (s:St):E × St:=aQ ts (9 * s.toks.length + 9) (.bin 1) s
def pG (ts:ak) (h:bf) (s:St):bf × St:=
 if at' [91] s.toks then ({h with idx:= .cons (dQ ts s.aD).1.op (dQ ts s.aD).1.n (dQ ts s.aD).1.nm (dQ ts s.aD).1.kids .nil},aR ts [93] (dQ ts s.aD).2) else (h,s)
def uZ (ts:ak) (h:bf) (s:St):aS × St:=
 (one (bf.ex h (dQ ts (aR ts [61] s)).1) .nil .nil,aR ts [59] (dQ ts (aR ts [61] s)).2)
def vI (ts:ak) (h:bf) (s:St):aS × St:=
 uZ ts (pG ts {h with op:=1,nm:=(aJ ts s).1} (aJ ts s).2).1 (pG ts {h with op:=1,nm:=(aJ ts s).1} (aJ ts s).2).2
def dU (r:ak):Int:=if nextK r == 3 then eG (ay r) else 0
def uR (ts:ak) (op:Int) (h:bf) (blk:St→aS × St) (s:St):aS × St:=
 if op == 4 || op == 5 || op == 6 then (one h (blk s).1 .nil,(blk s).2)
 else if op == 14 then (one (bf.ex h (dQ ts s).1) .nil .nil,aR ts [59] (dQ ts s).2)
 else if op == 15 then (one {h with arg:=(aJ ts s).1} .nil .nil,aR ts [59] (aJ ts s).2)
 else (one h .nil .nil,aR ts [59] s)
def tu (h:bf) (blk:St→aS × St) (b:aS) (s:St):aS × St:=
 if at' [101,108,115,101] s.toks then (one h b (blk s.aD).1,(blk s.aD).2) else (one h b .nil,s)
def gu (ts:ak):Nat→Bool→St→aS × St
 | 0,_,s=>(.nil,fail ts s)
 | f + 1,false,s=>if s.good && !at' [125] s.toks then (app (gu ts f true s).1 (gu ts f false (gu ts f true s).2).1,(gu ts f false (gu ts f true s).2).2) else (.nil,aR ts [125] s)
 | f + 1,true,s=>
   if dU s.toks == 0 then vI ts (hd 0 (aK s.toks)) s
   else if dU s.toks == 2 then tu (bf.ex (hd 2 (aK s.toks)) (dQ ts s.aD).1) (fun s=>gu ts f false (aR ts [123] s)) (gu ts f false (aR ts [123] (dQ ts s.aD).2)).1 (gu ts f false (aR ts [123] (dQ ts s.aD).2)).2
   else if dU s.toks == 3 then (one (bf.ex (hd 3 (aK s.toks)) (dQ ts s.aD).1) (gu ts f false (aR ts [123] (dQ ts s.aD).2)).1 .nil,(gu ts f false (aR ts [123] (dQ ts s.aD).2)).2)
   else if dU s.toks == 7 || dU s.toks == 8 then (one (hd (dU s.toks) (aK s.toks)) (gu ts f false (aR ts [123] s.aD)).1 .nil,(gu ts f false (aR ts [123] s.aD)).2)
   else uR ts (dU s.toks) {hd (dU s.toks) (aK s.toks) with nm:=(aJ ts s.aD).1} (fun s=>gu ts f false (aR ts [123] s)) (aJ ts s.aD).2
def yA (ts:ak) (f:Nat) (s:St):aS × St:=gu ts f false (aR ts [123] s)
def DJ (r:ak):Int:=if nextK r == 3 then gY (ay r) else 0
def pq (ts:ak) (d:De) (s:St):De × St:=
 if d.kind == 1 && at' [91] s.toks then
  (if isNum s.aD.toks then ({d with size:=(val (ay s.aD.toks):Nat)},aR ts [93] (jH ts (if val (ay s.aD.toks) == 0 then fail ts s.aD else s.aD)).2)
   else (d,aR ts [93] (jH ts s.aD).2))
 else (d,s)
def oC (ts:ak) (d:De) (s:St):De × St:=
 if (d.kind == 1 || d.kind == 2) && at' [61] s.toks then
  (if at' [45] s.aD.toks then ({d with init:= -(jH ts s.aD.aD).1},(jH ts s.aD.aD).2) else ({d with init:=(jH ts s.aD).1},(jH ts s.aD).2))
 else (d,s)
def vZ (ts:ak) (d:De) (s:St):De × St:=if d.kind == 5 then ({d with on:=(aJ ts s).1},(aJ ts s).2) else (d,s)
def thenS {α:Type} (q:α × St) (f:α→St→α × St):α × St:=f q.1 q.2
def qd (ts:ak) (s:St):De × St:=
 let q:=thenS (thenS (pq ts ⟨DJ s.toks,aK s.toks,(aJ ts s.aD).1,0,0,⟨#[]⟩⟩ (aJ ts s.aD).2) (oC ts)) (vZ ts)
 (q.1,aR ts [59] q.2)
def lG (ts:ak):Nat→List ByteArray→St→List ByteArray × St
 | 0,l,s=>(l,s)
 | f + 1,l,s=>if at' [44] s.toks then lG ts f (l++[(aJ ts s.aD).1]) (aJ ts s.aD).2 else (l,s)
def lQ (ts:ak) (s:St):List ByteArray × St:=
 if at' [41] s.toks then ([],s) else lG ts (aJ ts s).2.toks.length [(aJ ts s).1] (aJ ts s).2
def pO (ts:ak) (s:St):Th × St:=
 let n:=aJ ts (aR ts [116,104,114,101,97,100] s)
 let l:=lQ ts (aR ts [40] n.2)
 let s4:=aR ts [41] l.2
 let b:=yA ts (3 * s4.toks.length + 3) s4
 (⟨n.1,aK s.toks,l.1,b.1⟩,b.2)
def kK (ts:ak):Nat→List De→St→List De × St
 | 0,l,s=>(l,s)
 | f + 1,l,s=>if isDecl s.toks then kK ts f (l++[(qd ts s).1]) (qd ts s).2 else (l,s)
def jS (ts:ak):Nat→List Th→St→List Th × St
 | 0,l,s=>(l,s)
 | f + 1,l,s=>if s.good && (l.isEmpty || !s.toks.isEmpty) then jS ts f (l++[(pO ts s).1]) (pO ts s).2 else (l,s)
def Uv (ts:ak) (ds:List De) (s:St):Pr × St:=(⟨ds,(jS ts (s.toks.length + 1) [] s).1⟩,(jS ts (s.toks.length + 1) [] s).2)
def MB (ts:ak):Pr × St:=Uv ts (kK ts ts.length [] (.go ts)).1 (kK ts ts.length [] (.go ts)).2
def Fj (p:Pr):St→Pr × Int × Int
 | .go _=>(p,0,0)
 | .bad n=>(⟨[],[]⟩,3,n)
def vG (s:List UInt8):Pr × Int × Int:=
 if (scan s).2.1=0 then Fj (MB (scan s).1).1 (MB (scan s).1).2 else (⟨[],[]⟩,(scan s).2.1,(scan s).2.2)
end Go.Proofs.YtehnipchbmjlhaaGreatDoor.Pz
end
section
namespace Go.Proofs.YtehnipchbmjlhaaGreatDoor.Pz
open Go.RowKit Md Tk
def xG:List (List UInt8 × Int × Int):=[([124,124],18,1),([38,38],17,2),([61,61],11,3),([33,61],12,3),([60],13,3),([60,61],14,3),([62],15,3),([62,61],16,3),([43],6,4),([45],7,4),([42],8,5),([47],9,5),([37],10,5)]
def Ab (lv:Int) (r:ak):List (List UInt8 × Int × Int)→Int
 | []=>0
 | x ::t=>if x.2.2 == lv && at' x.1 r then x.2.1 else Ab lv r t
theorem wm {lv:Int} {r:ak} : ∀ {l:List (List UInt8 × Int × Int)},(∀x ∈ l,at' x.1 r=false)→Ab lv r l=0
 | [],_=>rfl
 | x ::t,h=>by
   unfold Ab
   rw [h x (by simp),Bool.and_false,if_neg (by decide)]
   exact wm (fun y hy=>h y (by simp [hy]))
theorem aa1 {x:List UInt8} (hx:jQ x=false) {t:Tok} {r:ak} (hk:t.kind=3) (h:jQ t.text=true):at' x (t ::r)=false:=by
 unfold at'
 have:(ay (t ::r) == x)=false:=by
  rw [beq_eq_false_iff_ne]; rintro e
  have e:t.text=x:=e
  rw [e,hx] at h; cases h
 rw [this,Bool.and_false]
theorem FZ (lv:Int) (y:List UInt8): ∀l:List (List UInt8 × Int × Int),(l.map (·.1)).Nodup→ ∀x ∈ l,x.1=y→ ∀r:ak,(∀z:List UInt8,at' z r=(y == z))→Ab lv r l=if x.2.2 == lv then x.2.1 else 0
 | [],_,x,hx,_,_,_=>by cases hx
 | z ::t,hn,x,hx,hy,r,hr=>by
   simp only [List.map_cons,List.nodup_cons] at hn
   unfold Ab
   rw [hr z.1]
   by_cases hz:z.1=y
   ·have hxz:x=z:=by
     rcases List.mem_cons.1 hx with h | h
     ·exact h
     ·exfalso; apply hn.1; rw [hz,← hy]; exact List.mem_map.2 ⟨x,h,rfl⟩
    subst hxz
    have:(y == x.1)=true:=by rw [hz]; simp
    rw [this,Bool.and_true]
    split
    ·rfl
    ·exact wm (fun w hw=>by
      rw [hr w.1,beq_eq_false_iff_ne]; rintro rfl
      apply hn.1; rw [hz]; exact List.mem_map.2 ⟨w,hw,rfl⟩)
   ·have:(y == z.1)=false:=by rw [beq_eq_false_iff_ne]; exact fun e=>hz e.symm
    rw [this,Bool.and_false,if_neg (by decide)]
    rcases List.mem_cons.1 hx with h | h
    ·exact absurd (by rw [← h]; exact hy) hz
    ·exact FZ lv y t hn.2 x h hy r hr
theorem JL: ∀x ∈ xG,jQ x.1=false∧kV x.1=(x.2.1,x.2.2)∧(x.2.1 == 0)=false:=by decide
theorem SN:(xG.map (·.1)).Nodup:=by decide
theorem Ky {y:List UInt8} (h: ∀x ∈ xG,x.1≠y):kV y=(0,0):=by
 have h': ∀x ∈ xG,(y == x.1)=false:=fun x hx=>by rw [beq_eq_false_iff_ne]; exact fun e=>h x hx e.symm
 simp only [xG,List.mem_cons,List.not_mem_nil,or_false,forall_eq_or_imp,forall_eq] at h'
 unfold kV
 obtain ⟨h1,h2,h3,h4,h5,h6,h7,h8,h9,h10,h11,h12,Cv⟩:=h'
 simp [h1,h2,h3,h4,h5,h6,h7,h8,h9,h10,h11,h12,Cv]
theorem YD (lv:Int) {r:ak} (h: ∀t ∈ r,xK t):Ab lv r xG=opAt lv r:=by
 cases r with
 | nil=>rw [wm (fun x _=>by simp [at',nextK])]; simp [opAt,nextK]
 | cons t q=>
   have ht:=h t (by simp)
   by_cases h4:t.kind=4
   ·have hr: ∀z:List UInt8,at' z (t ::q)=(t.text == z):=fun z=>by simp [at',nextK,ay,h4]
    have ho:opAt lv (t ::q)=if (kV t.text).2 == lv then (kV t.text).1 else 0:=by simp [opAt,nextK,ay,h4]
    rw [ho]
    by_cases hm: ∃x ∈ xG,x.1=t.text
    ·obtain ⟨x,hx,e⟩:=hm
     rw [FZ lv t.text xG SN x hx e _ hr,← e,(JL x hx).2.1]
    ·rw [wm (fun x hx=>by rw [hr,beq_eq_false_iff_ne]; exact fun e=>hm ⟨x,hx,e.symm⟩),Ky (fun x hx e=>hm ⟨x,hx,e⟩)]
     split <;> rfl
   ·have ho:opAt lv (t ::q)=0:=by simp [opAt,nextK,h4]
    rw [ho]
    refine wm (fun x hx=> ?_)
    by_cases h3:t.kind=3
    ·exact aa1 (JL x hx).1 h3 (ht.2.2.1 h3)
    ·simp [at',nextK,h3,h4]
def Gw:List (List UInt8):=[[105,102],[119,104,105,108,101],[108,111,99,107],[114,101,97,100],[119,114,105,116,101],[116,114,97,110,115,97,99,116,105,111,110],[97,116,111,109,105,99],[119,97,105,116],[110,111,116,105,102,121],[110,111,116,105,102,121,97,108,108],[115,112,97,119,110],[106,111,105,110],[115,101,116],[103,101,116]]
def yF:List (List UInt8):=[[118,97,114],[118,111,108,97,116,105,108,101],[109,117,116,101,120],[114,119,108,111,99,107],[99,111,110,100],[102,117,116,117,114,101]]
def qV (r:ak):List (List UInt8)→Int→Int
 | [],_=>0
 | x ::t,n=>if at' x r then n else qV r t (n + 1)
theorem vQ {r:ak} : ∀ {l:List (List UInt8)} {n:Int},(∀x ∈ l,at' x r=false)→qV r l n=0
 | [],_,_=>rfl
 | x ::t,n,h=>by
   unfold qV; rw [h x (by simp),if_neg (by decide)]; exact vQ (fun y hy=>h y (by simp [hy]))
theorem RO: ∀x ∈ Gw,jQ x=true:=by decide
theorem Kn: ∀x ∈ yF,jQ x=true:=by decide
theorem Us {x:List UInt8} (hx:jQ x=true) {t:Tok} {r:ak} (hk:t.kind=4) (h:qX.contains t.text=true):at' x (t ::r)=false:=by
 unfold at'
 have:(ay (t ::r) == x)=false:=by
  rw [beq_eq_false_iff_ne]; rintro e
  have e:t.text=x:=e
  have:=(Vd _ h).2.2
  rw [e,hx] at this; cases this
 rw [this,Bool.and_false]
theorem Xe (r:ak) (y:List UInt8) (hr: ∀z:List UInt8,at' z r=(y == z)):qV r Gw 2=eG y:=by
 unfold Gw eG
 simp only [qV,hr]
 repeat' split
 all_goals first | rfl | omega
theorem Ze (r:ak) (y:List UInt8) (hr: ∀z:List UInt8,at' z r=(y == z)):qV r yF 1=gY y:=by
 unfold yF gY
 simp only [qV,hr]
 repeat' split
 all_goals first | rfl | omega
theorem QB {r:ak} (h: ∀t ∈ r,xK t) (hl:CB r) (l:List (List UInt8)) (hw: ∀x ∈ l,jQ x=true) (n:Int) (f:List UInt8→Int) (hk: ∀y:List UInt8,(∀z:List UInt8,at' z r=(y == z))→qV r l n=f y):qV r l n=if nextK r == 3 then f (ay r) else 0:=by
 cases r with
 | nil=>rw [vQ (fun x _=>by simp [at',nextK])]; rfl
 | cons t q=>
   by_cases h3:t.kind=3
   ·rw [hk t.text (fun z=>by simp [at',nextK,ay,h3])]; simp [nextK,ay,h3]
   ·have e:(nextK (t ::q) == 3)=false:=by simp [nextK,h3]
    rw [e]
    refine (vQ (fun x hx=> ?_)).trans (by rfl)
    by_cases h4:t.kind=4
    ·exact Us (hw x hx) h4 ((hl t (by simp)).2.2.1 h4)
    ·simp [at',nextK,h3,h4]
theorem V5 {r:ak} (h: ∀t ∈ r,xK t) (hl:CB r):qV r Gw 2=dU r:=QB h hl Gw RO 2 eG (Xe r)
theorem decl_eq {r:ak} (h: ∀t ∈ r,xK t) (hl:CB r):qV r yF 1=DJ r:=QB h hl yF Kn 1 gY (Ze r)
def FT (r:ak):List (List UInt8)→Int→Int→Int
 | [],_,a=>a
 | x ::t,n,a=>FT r t (n + 1) (if at' x r then n else a)
theorem zY {r:ak} : ∀ {l:List (List UInt8)} {n a:Int},(∀x ∈ l,at' x r=false)→FT r l n a=a
 | [],_,_,_=>rfl
 | x ::t,n,a,h=>by
   unfold FT; rw [h x (by simp),if_neg (by decide)]; exact zY (fun y hy=>h y (by simp [hy]))
theorem LU {r:ak} {y:List UInt8} (hr: ∀z:List UInt8,at' z r=(y == z)): ∀(l:List (List UInt8)) (n:Int),l.Nodup→FT r l n 0=qV r l n
 | [],_,_=>rfl
 | x ::t,n,hn=>by
   simp only [List.nodup_cons] at hn
   unfold FT qV
   rw [hr x]
   by_cases hx:y=x
   ·rw [hx,if_pos (by simp),if_pos (by simp)]
    exact zY (fun z hz=>by rw [hr z,beq_eq_false_iff_ne]; rintro rfl; rw [hx] at hz; exact hn.1 hz)
   ·have:(y == x)=false:=by rw [beq_eq_false_iff_ne]; exact hx
    rw [this,if_neg (by decide),if_neg (by decide)]
    exact LU hr t (n + 1) hn.2
theorem VF {r:ak} (h: ∀t ∈ r,xK t) (hl:CB r):FT r yF 1 0=DJ r:=by
 rw [← decl_eq h hl]
 cases r with
 | nil=>rw [vQ (fun x _=>by simp [at',nextK]),zY (fun x _=>by simp [at',nextK])]
 | cons t q=>
   by_cases h3:t.kind=3
   ·exact LU (y:=t.text) (fun z=>by simp [at',nextK,ay,h3]) yF 1 (by decide)
   ·have hx: ∀x ∈ yF,at' x (t ::q)=false:=fun x hx=>by
     by_cases h4:t.kind=4
     ·exact Us (Kn x hx) h4 ((hl t (by simp)).2.2.1 h4)
     ·simp [at',nextK,h3,h4]
    rw [vQ hx,zY hx]
end Go.Proofs.YtehnipchbmjlhaaGreatDoor.Pz
end
section
namespace Go.Proofs.YtehnipchbmjlhaaGreatDoor.Pz
open Go.RowKit Md Tk
def yw (q:Sx × St):aS × St:=(rW q.1,q.2)
def Dz (ts:ak) (h:bf) (s:St):Sx × St:=
 (⟨bf.ex h (dQ ts (aR ts [61] s)).1,.nil,.nil⟩,aR ts [59] (dQ ts (aR ts [61] s)).2)
theorem Yd (ts:ak) (h:bf) (s:St):uZ ts h s=yw (Dz ts h s):=by
 unfold uZ yw Dz rW; dsimp only
def zB (ts:ak) (h:bf) (s:St):Sx × St:=
 Dz ts (pG ts {h with op:=1,nm:=(aJ ts s).1} (aJ ts s).2).1 (pG ts {h with op:=1,nm:=(aJ ts s).1} (aJ ts s).2).2
theorem YM (ts:ak) (h:bf) (s:St):vI ts h s=yw (zB ts h s):=by
 unfold vI zB; exact Yd _ _ _
def oV (ts:ak) (op:Int) (h:bf) (blk:St→aS × St) (s:St):Sx × St:=
 if op == 4 || op == 5 || op == 6 then (⟨h,(blk s).1,.nil⟩,(blk s).2)
 else if op == 14 then (⟨bf.ex h (dQ ts s).1,.nil,.nil⟩,aR ts [59] (dQ ts s).2)
 else if op == 15 then (⟨{h with arg:=(aJ ts s).1},.nil,.nil⟩,aR ts [59] (aJ ts s).2)
 else (⟨h,.nil,.nil⟩,aR ts [59] s)
theorem Vf (ts:ak) (op:Int) (h:bf) (blk:St→aS × St) (s:St):uR ts op h blk s=yw (oV ts op h blk s):=by
 unfold uR oV
 repeat' split
 all_goals (unfold yw rW; dsimp only)
def Ht (h:bf) (blk:St→aS × St) (b:aS) (s:St):Sx × St:=
 if at' [101,108,115,101] s.toks then (⟨h,b,(blk s.aD).1⟩,(blk s.aD).2) else (⟨h,b,.nil⟩,s)
theorem VY (h:bf) (blk:St→aS × St) (b:aS) (s:St):tu h blk b s=yw (Ht h blk b s):=by
 unfold tu Ht
 split <;> (unfold yw rW; dsimp only)
def mh (ts:ak) (f:Nat) (s:St):aS × St:=gu ts f false (aR ts [123] s)
def BA (ts:ak) (f:Nat) (s:St):Sx × St:=
    if dU s.toks == 0 then zB ts (hd 0 (aK s.toks)) s
    else if dU s.toks == 2 then Ht (bf.ex (hd 2 (aK s.toks)) (dQ ts s.aD).1) (mh ts f) (mh ts f (dQ ts s.aD).2).1 (mh ts f (dQ ts s.aD).2).2
    else if dU s.toks == 3 then (⟨bf.ex (hd 3 (aK s.toks)) (dQ ts s.aD).1,(mh ts f (dQ ts s.aD).2).1,.nil⟩,(mh ts f (dQ ts s.aD).2).2)
    else if dU s.toks == 7 || dU s.toks == 8 then (⟨hd (dU s.toks) (aK s.toks),(mh ts f s.aD).1,.nil⟩,(mh ts f s.aD).2)
    else oV ts (dU s.toks) {hd (dU s.toks) (aK s.toks) with nm:=(aJ ts s.aD).1} (mh ts f) (aJ ts s.aD).2
theorem TJ (ts:ak) (f:Nat) (s:St):gu ts (f + 1) true s=yw (BA ts f s):=by
 conv=>lhs; unfold gu
 unfold BA
 split
 ·exact YM _ _ _
 ·split
  ·exact VY _ _ _ _
  ·split
   ·unfold yw rW mh; dsimp only
   ·split
    ·unfold yw rW mh; dsimp only
    ·exact Vf _ _ _ _ _
theorem Ej (ts:ak) (f:Nat) (s:St) (h:(s.good && !at' [125] s.toks)=false):gu ts (f + 1) false s=(.nil,aR ts [125] s):=by
 conv=>lhs; unfold gu
 rw [if_neg (by rw [h]; decide)]
theorem aa9 (ts:ak) (f:Nat) (s:St) (h:(s.good && !at' [125] s.toks)=true):gu ts (f + 1) false s=(app (gu ts f true s).1 (gu ts f false (gu ts f true s).2).1,(gu ts f false (gu ts f true s).2).2):=by
 conv=>lhs; unfold gu
 rw [if_pos h]
section
variable {ts:ak} {f lv:Nat} {s:St} {l:E}
theorem Zt (h:5 < lv):aQ ts (f + 1) (.bin lv) s=aQ ts f .un s:=by
 conv=>lhs; unfold aQ
 rw [if_pos h]
theorem Xh (h: ¬ 5 < lv):aQ ts (f + 1) (.bin lv) s=aQ ts f (.lp lv (aQ ts f (.bin (lv + 1)) s).1) (aQ ts f (.bin (lv + 1)) s).2:=by
 conv=>lhs; unfold aQ
 rw [if_neg h]
theorem Xl (h:(opAt lv s.toks == 0)=true):aQ ts (f + 1) (.lp lv l) s=(l,s):=by
 conv=>lhs; unfold aQ
 rw [if_pos h]
theorem am7 (h:(opAt lv s.toks == 0)=false) (h3:lv=3):aQ ts (f + 1) (.lp lv l) s=(mk2 (opAt lv s.toks) l (aQ ts f (.bin (lv + 1)) s.aD).1,(aQ ts f (.bin (lv + 1)) s.aD).2):=by
 conv=>lhs; unfold aQ
 rw [if_neg (by rw [h]; decide),if_pos h3]
theorem ZM (h:(opAt lv s.toks == 0)=false) (h3: ¬ lv=3):aQ ts (f + 1) (.lp lv l) s=aQ ts f (.lp lv (mk2 (opAt lv s.toks) l (aQ ts f (.bin (lv + 1)) s.aD).1)) (aQ ts f (.bin (lv + 1)) s.aD).2:=by
 conv=>lhs; unfold aQ
 rw [if_neg (by rw [h]; decide),if_neg h3]
theorem Zg (h:at' [45] s.toks=true):aQ ts (f + 1) .un s=(mk1 4 (aQ ts f .un s.aD).1,(aQ ts f .un s.aD).2):=by
 conv=>lhs; unfold aQ
 rw [if_pos h]
theorem Zn (h1:at' [45] s.toks=false) (h:at' [33] s.toks=true):aQ ts (f + 1) .un s=(mk1 5 (aQ ts f .un s.aD).1,(aQ ts f .un s.aD).2):=by
 conv=>lhs; unfold aQ
 rw [if_neg (by rw [h1]; decide),if_pos h]
theorem WJ (h1:at' [45] s.toks=false) (h:at' [33] s.toks=false):aQ ts (f + 1) .un s=aQ ts f .pr s:=by
 conv=>lhs; unfold aQ
 rw [if_neg (by rw [h1]; decide),if_neg (by rw [h]; decide)]
theorem Xi (h:isNum s.toks=true):aQ ts (f + 1) .pr s=(⟨1,(val (ay s.toks):Nat),⟨#[]⟩,.nil⟩,s.aD):=by
 conv=>lhs; unfold aQ
 rw [if_pos h]
theorem Zz (h0:isNum s.toks=false) (h:at' [40] s.toks=true):aQ ts (f + 1) .pr s=((aQ ts f (.bin 1) s.aD).1,aR ts [41] (aQ ts f (.bin 1) s.aD).2):=by
 conv=>lhs; unfold aQ
 rw [if_neg (by rw [h0]; decide),if_pos h]
theorem XR (h0:isNum s.toks=false) (h1:at' [40] s.toks=false) (h:at' [91] (aJ ts s).2.toks=true):aQ ts (f + 1) .pr s=(Qf (aJ ts s).1 (aQ ts f (.bin 1) (aJ ts s).2.aD).1,aR ts [93] (aQ ts f (.bin 1) (aJ ts s).2.aD).2):=by
 conv=>lhs; unfold aQ
 rw [if_neg (by rw [h0]; decide),if_neg (by rw [h1]; decide),if_pos h]
theorem Yn (h0:isNum s.toks=false) (h1:at' [40] s.toks=false) (h:at' [91] (aJ ts s).2.toks=false):aQ ts (f + 1) .pr s=(⟨2,0,(aJ ts s).1,.nil⟩,(aJ ts s).2):=by
 conv=>lhs; unfold aQ
 rw [if_neg (by rw [h0]; decide),if_neg (by rw [h1]; decide),if_neg (by rw [h]; decide)]
end
end Go.Proofs.YtehnipchbmjlhaaGreatDoor.Pz
end
section
namespace Go.Proofs.YtehnipchbmjlhaaGreatDoor.Pz
open Go.RowKit Md Tk
def St.len (s:St):Nat:=s.toks.length
section
variable {ts:ak}
theorem iP (s:St):s.aD.len≤s.len:=by
 cases s with
 | go r=>show r.tail.length≤r.length; rw [List.length_tail]; omega
 | bad n=>exact Nat.le_refl _
theorem uj {s:St} (h:s.toks≠[]):s.aD.len < s.len:=by
 cases s with
 | go r=>
   have h:r≠[]:=h
   have:=List.length_pos_iff.2 h
   show r.tail.length < r.length; rw [List.length_tail]; omega
 | bad n=>exact absurd rfl h
theorem Ef {x:List UInt8} {s:St} (h:at' x s.toks=true):s.aD.len < s.len:=uj (by
 obtain ⟨t,r,e⟩:=yM h
 rw [e]; exact List.cons_ne_nil _ _)
theorem uU (s:St):(fail ts s).len≤s.len:=by cases s <;> exact Nat.zero_le _
theorem gT (x:List UInt8) (s:St):(aR ts x s).len≤s.len:=by
 unfold aR; split
 ·exact iP s
 ·exact uU s
theorem fJ (s:St):(aJ ts s).2.len≤s.len:=by
 unfold aJ; split
 ·exact iP s
 ·exact uU s
theorem BX (s:St):(jH ts s).2.len≤s.len:=by
 unfold jH; split
 ·exact iP s
 ·exact uU s
theorem jX: ∀(f:Nat) (m:M) (s:St),(aQ ts f m s).2.len≤s.len
 | 0,m,s=>by cases m <;> exact uU s
 | f + 1,.bin lv,s=>by
   unfold aQ
   split
   ·exact jX f .un s
   ·exact Nat.le_trans (jX f (.lp lv (aQ ts f (.bin (lv + 1)) s).1) (aQ ts f (.bin (lv + 1)) s).2) (jX f (.bin (lv + 1)) s)
 | f + 1,.lp lv l,s=>by
   unfold aQ
   split
   ·exact Nat.le_refl _
   ·have h1:=Nat.le_trans (jX f (.bin (lv + 1)) s.aD) (iP s)
    split
    ·exact h1
    ·exact Nat.le_trans (jX f _ _) h1
 | f + 1,.un,s=>by
   unfold aQ
   split
   ·exact Nat.le_trans (jX f .un s.aD) (iP s)
   ·split
    ·exact Nat.le_trans (jX f .un s.aD) (iP s)
    ·exact jX f .pr s
 | f + 1,.pr,s=>by
   unfold aQ
   split
   ·exact iP s
   ·split
    ·exact Nat.le_trans (gT _ _) (Nat.le_trans (jX f (.bin 1) s.aD) (iP s))
    ·split
     ·exact Nat.le_trans (gT _ _) (Nat.le_trans (jX f (.bin 1) _) (Nat.le_trans (iP _) (fJ s)))
     ·exact fJ s
theorem nH (s:St):(dQ ts s).2.len≤s.len:=jX _ _ s
theorem Zk {x y:List UInt8} {r:ak} (hxy:(x == y)=false) (h:at' x r=true):at' y r=false:=by
 unfold at' at h ⊢
 rw [Bool.and_eq_true,beq_iff_eq] at h
 rw [h.2,hxy,Bool.and_false]
end
end Go.Proofs.YtehnipchbmjlhaaGreatDoor.Pz
end
section
namespace Go.Proofs.YtehnipchbmjlhaaGreatDoor.Pz
open Go.RowKit Md Tk
def iN {α:Type} (ts:ak):bg α→α × St→Prop
 | .ok x r,q=>q=(x,.go r)
 | .no r,q=>q.2= .bad (bR ts r)
section
variable {ts:ak}
theorem at_nil (x:List UInt8):at' x []=false:=by simp [at',nextK]
theorem iB (x:List UInt8) (n:Int):aR ts x (.bad n)= .bad n:=by unfold aR; rw [show (St.bad n).toks=[] from rfl,at_nil]; rfl
theorem wT (n:Int):(aJ ts (.bad n))=(⟨#[]⟩,.bad n):=rfl
theorem Xt (lv:Int):opAt lv []=0:=by simp [opAt,nextK]
theorem oH: ∀(f:Nat) (m:M) (n:Int),(aQ ts f m (.bad n)).2= .bad n
 | 0,m,n=>by cases m <;> rfl
 | f + 1,.bin lv,n=>by
   unfold aQ
   split
   ·exact oH f _ n
   ·rw [oH f _ n]; exact oH f _ n
 | f + 1,.lp lv l,n=>by
   unfold aQ; rw [show (St.bad n).toks=[] from rfl,Xt]; rfl
 | f + 1,.un,n=>by
   unfold aQ; rw [show (St.bad n).toks=[] from rfl,at_nil,at_nil]; exact oH f _ n
 | f + 1,.pr,n=>by
   unfold aQ; rw [wT,show (St.bad n).toks=[] from rfl,at_nil,at_nil]; rfl
theorem iN.of {α:Type} {r:bg α} {q:α × St} (h:iN ts r q):(∃x r',r= .ok x r'∧q=(x,.go r'))∨(∃r',r= .no r'∧q.2= .bad (bR ts r')):=by
 cases r with
 | ok x r'=>exact .inl ⟨x,r',rfl,h⟩
 | no r'=>exact .inr ⟨r',rfl,h⟩
theorem iN.map {α β:Type} {r:bg α} {q:α × St} (h:iN ts r q) (f:α→β):iN ts (r.map f) (f q.1,q.2):=by
 cases r with
 | ok x r'=>have h:q=_:=h; subst h; rfl
 | no r'=>exact h
theorem iN.close {α:Type} {r:bg α} {q:α × St} (h:iN ts r q) (y:List UInt8):iN ts (r.close y) (q.1,aR ts y q.2):=by
 cases r with
 | ok x r'=>
   have h:q=_:=h
   subst h
   show iN ts (if at' y r' then _ else _) _
   unfold aR
   rw [show (St.go r').toks=r' from rfl]
   by_cases hc:at' y r'=true
   ·rw [if_pos hc,if_pos hc]; rfl
   ·rw [if_neg hc,if_neg hc]; rfl
 | no r'=>
   have h:q.2=_:=h
   show aR ts y q.2=_
   rw [h,iB]
theorem iN.bind {α β:Type} {r:bg α} {q:α × St} {f:α→ak→bg β} {g:α→St→β × St} (h:iN ts r q) (hf: ∀x r',r= .ok x r'→iN ts (f x r') (g x (.go r'))) (hg: ∀x n,(g x (.bad n)).2= .bad n):iN ts (r.bind f) (g q.1 q.2):=by
 cases r with
 | ok x r'=>have h:q=_:=h; subst h; exact hf x r' rfl
 | no r'=>
   have h:q.2=_:=h
   show (g q.1 q.2).2=_
   rw [h,hg]
theorem vY (r:ak):iN ts (eO r) (aJ ts (.go r)):=by
 unfold eO aJ
 rw [show (St.go r).toks=r from rfl]
 by_cases hc:isName r=true
 ·rw [if_pos hc,if_pos hc]; rfl
 ·rw [if_neg hc,if_neg hc]; rfl
theorem zy (x:List UInt8) (r:ak):iN ts (need x r) ((),aR ts x (.go r)):=by
 unfold need aR
 rw [show (St.go r).toks=r from rfl]
 by_cases hc:at' x r=true
 ·rw [if_pos hc,if_pos hc]; rfl
 ·rw [if_neg hc,if_neg hc]; rfl
theorem Wp {r:ak} (h:isName r=true) (x:List UInt8):at' x r=false:=by
 have h:nextK r=1:=by simpa [isName] using h
 simp [at',h]
theorem kL: ∀(f:Nat) (m:M) (r:ak),iN ts (pe f m r) (aQ ts f m (.go r))
 | 0,m,r=>by cases m <;> rfl
 | f + 1,.bin lv,r=>by
   unfold pe aQ
   by_cases hl:5 < lv
   ·rw [if_pos hl,if_pos hl]; exact kL f .un r
   ·rw [if_neg hl,if_neg hl]
    rcases (kL f (.bin (lv + 1)) r).of with ⟨x,r',h1,h2⟩ | ⟨r',h1,h2⟩
    ·rw [h1,h2]; exact kL f _ r'
    ·rw [h1,h2]; exact oH f _ _
 | f + 1,.lp lv l,r=>by
   unfold pe aQ
   rw [show (St.go r).toks=r from rfl,show (St.go r).aD= .go r.tail from rfl]
   by_cases hl:(opAt lv r == 0)=true
   ·rw [if_pos hl,if_pos hl]; rfl
   ·rw [if_neg hl,if_neg hl]
    rcases (kL f (.bin (lv + 1)) r.tail).of with ⟨x,r',h1,h2⟩ | ⟨r',h1,h2⟩
    ·rw [h1,h2]
     by_cases h3:lv=3
     ·rw [if_pos h3]; dsimp only; rw [if_pos h3]; rfl
     ·rw [if_neg h3]; dsimp only; rw [if_neg h3]; exact kL f _ r'
    ·rw [h1]
     show (ite _ _ _:E × St).2=_
     by_cases h3:lv=3
     ·rw [if_pos h3]; exact h2
     ·rw [if_neg h3,h2]; exact oH f _ _
 | f + 1,.un,r=>by
   unfold pe aQ
   rw [show (St.go r).toks=r from rfl,show (St.go r).aD= .go r.tail from rfl]
   by_cases h1:at' [45] r=true
   ·rw [if_pos h1,if_pos h1]; exact (kL f .un r.tail).map _
   ·rw [if_neg h1,if_neg h1]
    by_cases h2:at' [33] r=true
    ·rw [if_pos h2,if_pos h2]; exact (kL f .un r.tail).map _
    ·rw [if_neg h2,if_neg h2]; exact kL f .pr r
 | f + 1,.pr,r=>by
   unfold pe aQ
   rw [show (St.go r).toks=r from rfl,show (St.go r).aD= .go r.tail from rfl]
   by_cases h1:isNum r=true
   ·rw [if_pos h1,if_pos h1]; rfl
   ·rw [if_neg h1,if_neg h1]
    by_cases h2:isName r=true
    ·rw [if_pos h2,if_neg (c:=at' [40] r=true) (by rw [Wp h2]; decide)]
     have hq:aJ ts (.go r)=(tx (ay r),.go r.tail):=by
      unfold aJ; rw [show (St.go r).toks=r from rfl,if_pos h2]; rfl
     rw [hq,show (St.go r.tail).toks=r.tail from rfl,show (St.go r.tail).aD= .go r.tail.tail from rfl]
     by_cases h3:at' [91] r.tail=true
     ·rw [if_pos h3,if_pos h3]
      exact ((kL f (.bin 1) r.tail.tail).close [93]).map _
     ·rw [if_neg h3,if_neg h3]; rfl
    ·rw [if_neg h2]
     by_cases h3:at' [40] r=true
     ·rw [if_pos h3,if_pos h3]; exact (kL f (.bin 1) r.tail).close [41]
     ·rw [if_neg h3,if_neg h3]
      have hq:aJ ts (.go r)=(⟨#[]⟩,.bad (bR ts r)):=by
       unfold aJ; rw [show (St.go r).toks=r from rfl,if_neg h2]; rfl
      rw [hq,show (St.bad (bR ts r)).toks=[] from rfl,at_nil]; rfl
theorem tZ (r:ak):iN ts (expr r) (dQ ts (.go r)):=kL _ _ r
theorem Bt (n:Int):(dQ ts (.bad n)).2= .bad n:=oH _ _ n
end
end Go.Proofs.YtehnipchbmjlhaaGreatDoor.Pz
end
section
namespace Go.Proofs.YtehnipchbmjlhaaGreatDoor.Pz
open Go.RowKit Md Tk
section
variable {ts:ak}
theorem RQ (h:bf) (r:ak):iN ts (if at' [91] r then ((expr r.tail).close [93]).map (fun x=> {h with idx:= .cons x.op x.n x.nm x.kids .nil}) else .ok h r) (pG ts h (.go r)):=by
 unfold pG
 rw [show (St.go r).toks=r from rfl,show (St.go r).aD= .go r.tail from rfl]
 by_cases hc:at' [91] r=true
 ·rw [if_pos hc,if_pos hc]; exact ((tZ r.tail).close [93]).map (fun x=> {h with idx:= .cons x.op x.n x.nm x.kids .nil})
 ·rw [if_neg hc,if_neg hc]; rfl
theorem TF (h:bf) (n:Int):pG ts h (.bad n)=(h,.bad n):=by
 unfold pG; rw [show (St.bad n).toks=[] from rfl,at_nil]; rfl
theorem IZ (h:bf) (n:Int):(uZ ts h (.bad n)).2= .bad n:=by
 unfold uZ; rw [iB,Bt,iB]
theorem Vm (h:bf) (r:ak):iN ts (J9 h r) (uZ ts (pG ts h (.go r)).1 (pG ts h (.go r)).2):=by
 unfold J9
 refine iN.bind (g:=uZ ts) (RQ h r) (fun x r' _=> ?_) (fun x n=>IZ x n)
 unfold uZ
 refine iN.bind (q:=((),aR ts [61] (.go r'))) (g:=fun _ s=>(one (bf.ex x (dQ ts s).1) .nil .nil,aR ts [59] (dQ ts s).2)) (zy [61] r') (fun _ r2 _=> ?_) (fun _ n=> ?_)
 ·have h:=iN.close (iN.map (tZ (ts:=ts) r2) (fun y=>one (bf.ex x y) .nil .nil)) [59]
  dsimp only at h ⊢
  exact h
 ·dsimp only; rw [Bt,iB]
theorem yP: ∀(f:Nat) (n:Int),(gu ts f false (.bad n)).2= .bad n
 | 0,n=>rfl
 | f + 1,n=>by
   unfold gu
   rw [show (St.bad n).good=false from rfl,Bool.false_and,if_neg (by decide),iB]
theorem Gi (h:bf) (b:St→aS × St) (l:aS) (n:Int):(tu h b l (.bad n)).2= .bad n:=by
 unfold tu; rw [show (St.bad n).toks=[] from rfl,at_nil]; rfl
theorem Ot (op:Int) (h:bf) (b:St→aS × St) (n:Int) (hb: ∀n,(b (.bad n)).2= .bad n):(uR ts op h b (.bad n)).2= .bad n:=by
 unfold uR
 split
 ·exact hb n
 ·split
  ·dsimp only; rw [Bt,iB]
  ·split
   ·dsimp only; rw [wT]; exact iB (ts:=ts) [59] n
   ·exact iB (ts:=ts) [59] n
theorem LZ {r:ak} (h:(nextK r == 1)=true):aJ ts (.go r)=(tx (ay r),.go r.tail):=by
 unfold aJ; rw [show (St.go r).toks=r from rfl,if_pos (show isName r=true from h)]; rfl
theorem LV {r:ak} (h:(nextK r == 1)=false):aJ ts (.go r)=(⟨#[]⟩,.bad (bR ts r)):=by
 unfold aJ; rw [show (St.go r).toks=r from rfl,if_neg (by rw [show isName r=false from h]; decide)]; rfl
theorem Fp {h:bf} {r:ak} (h1:(nextK r == 1)=false):(vI ts h (.go r)).2= .bad (bR ts r):=by
 unfold vI; rw [LV h1]; dsimp only; rw [TF]; exact IZ _ _
theorem BS: ∀(f:Nat) (b:Bool) (r:ak),iN ts (ps f b r) (gu ts f b (.go r))
 | 0,b,r=>by cases b <;> rfl
 | f + 1,false,r=>by
   unfold ps gu
   rw [show (St.go r).toks=r from rfl,show (St.go r).good=true from rfl,Bool.true_and]
   by_cases hc:at' [125] r=true
   ·rw [if_pos hc,if_neg (by rw [hc]; decide)]
    unfold aR
    rw [show (St.go r).toks=r from rfl,if_pos hc]; rfl
   ·have hc':at' [125] r=false:=by simpa using hc
    rw [if_neg hc,if_pos (by rw [hc']; rfl)]
    rcases (BS f true r).of with ⟨x,r',h1,h2⟩ | ⟨r',h1,h2⟩
    ·rw [h1,h2]; exact (BS f false r').map _
    ·rw [h1]
     show (gu ts f false (gu ts f true (.go r)).2).2=_
     rw [h2,yP]
 | f + 1,true,r=>by
   have hb: ∀r:ak,iN ts (if at' [123] r then ps f false r.tail else .no r) (gu ts f false (aR ts [123] (.go r))):=fun r=>by
    unfold aR
    rw [show (St.go r).toks=r from rfl,show (St.go r).aD= .go r.tail from rfl]
    by_cases hc:at' [123] r=true
    ·rw [if_pos hc,if_pos hc]; exact BS f false r.tail
    ·rw [if_neg hc,if_neg hc]; exact yP f _
   have hn: ∀n:Int,(gu ts f false (aR ts [123] (.bad n))).2= .bad n:=fun n=>by rw [iB,yP]
   unfold ps gu
   rw [show (St.go r).toks=r from rfl,show (St.go r).aD= .go r.tail from rfl]
   dsimp only
   by_cases h1:(nextK r == 1)=true
   ·have hw:dU r=0:=by
     unfold dU
     have:nextK r=1:=by simpa using h1
     rw [this]; rfl
    rw [hw,if_pos h1,if_pos (by decide)]
    unfold vI
    rw [LZ h1]
    exact Vm _ _
   ·have h1':(nextK r == 1)=false:=by simpa using h1
    by_cases h3:(nextK r == 3)=true
    ·have hw:dU r=eG (ay r):=by unfold dU; rw [if_pos h3]
     rw [hw,if_neg h1,if_pos h3]
     by_cases h0:(eG (ay r) == 0)=true
     ·rw [if_pos h0,if_pos h0]
      exact Fp h1'
     ·rw [if_neg h0,if_neg h0]
      by_cases h2:(eG (ay r) == 2)=true
      ·rw [if_pos h2,if_pos h2]
       have h2':eG (ay r)=2:=by simpa using h2
       rw [h2']
       refine iN.bind (g:=fun x s=>tu (bf.ex (hd 2 (aK r)) x) (fun s=>gu ts f false (aR ts [123] s)) (gu ts f false (aR ts [123] s)).1 (gu ts f false (aR ts [123] s)).2) (tZ r.tail) (fun x r' _=> ?_) (fun x n=>by rw [hn]; exact Gi _ _ _ _)
       refine iN.bind (g:=fun b s=>tu (bf.ex (hd 2 (aK r)) x) (fun s=>gu ts f false (aR ts [123] s)) b s) (hb r') (fun b r2 _=> ?_) (fun b n=>Gi _ _ _ _)
       unfold tu
       rw [show (St.go r2).toks=r2 from rfl,show (St.go r2).aD= .go r2.tail from rfl]
       by_cases he:at' [101,108,115,101] r2=true
       ·rw [if_pos he,if_pos he]; exact (hb r2.tail).map (one (bf.ex (hd 2 (aK r)) x) b)
       ·rw [if_neg he,if_neg he]; rfl
      ·rw [if_neg h2,if_neg h2]
       by_cases h4:(eG (ay r) == 3)=true
       ·rw [if_pos h4,if_pos h4]
        have h4':eG (ay r)=3:=by simpa using h4
        rw [h4']
        refine iN.bind (g:=fun x s=>(one (bf.ex (hd 3 (aK r)) x) (gu ts f false (aR ts [123] s)).1 .nil,(gu ts f false (aR ts [123] s)).2)) (tZ r.tail) (fun x r' _=> ?_) (fun x n=>hn n)
        exact (hb r').map (fun b=>one (bf.ex (hd 3 (aK r)) x) b .nil)
       ·rw [if_neg h4,if_neg h4]
        by_cases h5:(eG (ay r) == 7 || eG (ay r) == 8)=true
        ·rw [if_pos h5,if_pos h5]
         exact (hb r.tail).map (fun b=>one (hd (eG (ay r)) (aK r)) b .nil)
        ·rw [if_neg h5,if_neg h5]
         refine iN.bind (g:=fun nm s=>uR ts (eG (ay r)) {hd (eG (ay r)) (aK r) with nm:=nm} (fun s=>gu ts f false (aR ts [123] s)) s) (vY r.tail) (fun x r' _=> ?_) (fun x n=>Ot _ _ _ _ hn)
         generalize eG (ay r)=op
         unfold uR
         by_cases e1:(op == 4 || op == 5 || op == 6)=true
         ·rw [if_pos e1,if_pos e1]; exact (hb r').map (fun b=>one {hd op (aK r) with nm:=x} b .nil)
         ·rw [if_neg e1,if_neg e1]
          by_cases e2:(op == 14)=true
          ·rw [if_pos e2,if_pos e2]; exact ((tZ r').map (fun y=>one (bf.ex {hd op (aK r) with nm:=x} y) .nil .nil)).close [59]
          ·rw [if_neg e2,if_neg e2]
           by_cases e3:(op == 15)=true
           ·rw [if_pos e3,if_pos e3]; exact ((vY r').map (fun a=>one {hd op (aK r) with nm:=x,arg:=a} .nil .nil)).close [59]
           ·rw [if_neg e3,if_neg e3]; exact (zy [59] r').map (fun _=>one {hd op (aK r) with nm:=x} .nil .nil)
    ·have hw:dU r=0:=by unfold dU; rw [if_neg h3]
     rw [hw,if_neg h1,if_neg h3,if_pos (by decide)]
     exact Fp h1'
theorem Vj (f:Nat) (r:ak):iN ts (blk f r) (yA ts f (.go r)):=by
 unfold blk yA aR
 rw [show (St.go r).toks=r from rfl,show (St.go r).aD= .go r.tail from rfl]
 by_cases hc:at' [123] r=true
 ·rw [if_pos hc,if_pos hc]; exact BS f false r.tail
 ·rw [if_neg hc,if_neg hc]; exact yP f _
theorem Tf (f:Nat) (n:Int):(yA ts f (.bad n)).2= .bad n:=by unfold yA; rw [iB,yP]
end
end Go.Proofs.YtehnipchbmjlhaaGreatDoor.Pz
end
section
namespace Go.Proofs.YtehnipchbmjlhaaGreatDoor.Pz
open Go.RowKit Md Tk
def St.mu (s:St):Nat:=if s.good then s.len + 1 else 0
section
variable {ts:ak}
theorem Ng {s s':St} (h:s'.len < s.len) (hg:s.good=true):s'.mu < s.mu:=by
 unfold St.mu
 rw [if_pos hg]
 split <;> omega
theorem Pf {s:St} (n:Int) (hg:s.good=true):(St.bad n).mu < s.mu:=by
 unfold St.mu
 rw [if_pos hg,if_neg (by simp [St.good])]; omega
theorem LY (h:bf) (s:St):(pG ts h s).2.len≤s.len:=by
 unfold pG; split
 ·exact Nat.le_trans (gT _ _) (Nat.le_trans (nH _) (iP s))
 ·exact Nat.le_refl _
theorem La (h:bf) (s:St):(uZ ts h s).2.len≤s.len:=by
 unfold uZ; exact Nat.le_trans (gT _ _) (Nat.le_trans (nH _) (gT _ s))
theorem Wh (h:bf) (s:St):(vI ts h s).2.len≤s.len:=by
 unfold vI; exact Nat.le_trans (La _ _) (Nat.le_trans (LY _ _) (fJ s))
theorem JB (op:Int) (h:bf) (b:St→aS × St) (hb: ∀s,(b s).2.len≤s.len) (s:St):(uR ts op h b s).2.len≤s.len:=by
 unfold uR
 split
 ·exact hb s
 ·split
  ·exact Nat.le_trans (gT _ _) (nH s)
  ·split
   ·exact Nat.le_trans (gT _ _) (fJ s)
   ·exact gT _ s
theorem Km (h:bf) (b:St→aS × St) (hb: ∀s,(b s).2.len≤s.len) (l:aS) (s:St):(tu h b l s).2.len≤s.len:=by
 unfold tu; split
 ·exact Nat.le_trans (hb _) (iP s)
 ·exact Nat.le_refl _
theorem Ay: ∀(f:Nat) (b:Bool) (s:St),(gu ts f b s).2.len≤s.len
 | 0,b,s=>by cases b <;> exact uU s
 | f + 1,false,s=>by
   unfold gu
   split
   ·exact Nat.le_trans (Ay f false _) (Ay f true s)
   ·exact gT _ s
 | f + 1,true,s=>by
   have hb: ∀s,(gu ts f false (aR ts [123] s)).2.len≤s.len:=fun s=>Nat.le_trans (Ay f false _) (gT _ s)
   unfold gu
   split
   ·exact Wh _ s
   ·split
    ·exact Nat.le_trans (Km _ _ hb _ _) (Nat.le_trans (hb _) (Nat.le_trans (nH _) (iP s)))
    ·split
     ·exact Nat.le_trans (hb _) (Nat.le_trans (nH _) (iP s))
     ·split
      ·exact Nat.le_trans (hb _) (iP s)
      ·exact Nat.le_trans (JB _ _ _ hb _) (Nat.le_trans (fJ _) (iP s))
theorem Pj (f:Nat) (s:St):(mh ts f s).2.len≤s.len:=Nat.le_trans (Ay f false _) (gT _ s)
theorem Lr {s:St} (h:(dU s.toks == 0)=false):s.toks≠[]:=by
 intro e; rw [e] at h; exact absurd h (by decide)
theorem ZF {f:Nat} {s:St} (h:(dU s.toks == 0)=false):(gu ts (f + 1) true s).2.len < s.len:=by
 have ha:=uj (Lr h)
 have hb: ∀s,(gu ts f false (aR ts [123] s)).2.len≤s.len:=fun s=>Nat.le_trans (Ay f false _) (gT _ s)
 refine Nat.lt_of_le_of_lt ?_ ha
 unfold gu
 rw [if_neg (by rw [h]; decide)]
 split
 ·exact Nat.le_trans (Km _ _ hb _ _) (Nat.le_trans (hb _) (nH _))
 ·split
  ·exact Nat.le_trans (hb _) (nH _)
  ·split
   ·exact hb _
   ·exact Nat.le_trans (JB _ _ _ hb _) (fJ _)
theorem ZY (f:Nat) {s:St} (hg:s.good=true):(gu ts (f + 1) true s).2.mu < s.mu:=by
 cases h:(dU s.toks == 0)
 ·exact Ng (ZF h) hg
 ·have e:gu ts (f + 1) true s=vI ts (hd 0 (aK s.toks)) s:=by
   conv=>lhs; unfold gu
   rw [if_pos h]
  rw [e]
  cases hn:isName s.toks
  ·have:(vI ts (hd 0 (aK s.toks)) s).2= .bad (bR ts s.toks):=by
    cases s with
    | bad n=>cases hg
    | go r=>exact Fp hn
   rw [this]; exact Pf _ hg
  ·refine Ng ?_ hg
   unfold vI
   refine Nat.lt_of_le_of_lt (Nat.le_trans (La _ _) (LY _ _)) ?_
   have:aJ ts s=(tx (ay s.toks),s.aD):=by unfold aJ; rw [if_pos hn]
   rw [this]
   exact uj (by intro e; rw [e] at hn; exact absurd hn (by decide))
def jK (b:Bool) (s:St) (f:Nat):Prop:=3 * s.len + (if b then 1 else 2) < f
theorem Ou (s:St):jK false (aR ts [123] s) (3 * s.toks.length + 3):=by
 unfold jK
 have:=gT (ts:=ts) [123] s
 unfold St.len at this ⊢
 simp; omega
theorem X7 (f:Nat) (b:Nat) (n:Int):gu ts f false (.bad n)=(.nil,.bad n):=by
 cases f with
 | zero=>rfl
 | succ f=>rw [Ej ts f (.bad n) rfl,iB]
end
end Go.Proofs.YtehnipchbmjlhaaGreatDoor.Pz
end
section
namespace Go.Proofs.YtehnipchbmjlhaaGreatDoor.Pz
open Go.RowKit Md Tk
section
variable {ts:ak}
def TR (d:De) (r:ak):bg De:=if d.kind == 1 then lu d r else .ok d r
def Io (d:De) (r:ak):bg De:=if d.kind == 1 || d.kind == 2 then jE d r else .ok d r
def Gh (d:De) (r:ak):bg De:=if d.kind == 5 then (eO r).map fun o=> {d with on:=o} else .ok d r
theorem CU {x:List UInt8} {r:ak} (h:at' x r=true):aR ts x (.go r)= .go r.tail:=by
 unfold aR; rw [show (St.go r).toks=r from rfl,if_pos h]; rfl
theorem Sj {x:List UInt8} {r:ak} (h:at' x r=false):aR ts x (.go r)= .bad (bR ts r):=by
 unfold aR; rw [show (St.go r).toks=r from rfl,if_neg (by rw [h]; decide)]; rfl
theorem Fw {r:ak} (h:isNum r=true):jH ts (.go r)=(((val (ay r):Nat):Int),St.go r.tail):=by
 unfold jH; rw [show (St.go r).toks=r from rfl,if_pos h]; rfl
theorem Fe {r:ak} (h:isNum r=false):jH ts (.go r)=(0,.bad (bR ts r)):=by
 unfold jH; rw [show (St.go r).toks=r from rfl,if_neg (by rw [h]; decide)]; rfl
theorem QM (d:De) (r:ak):iN ts (TR d r) (pq ts d (.go r)):=by
 unfold TR pq lu
 rw [show (St.go r).toks=r from rfl,show (St.go r).aD= .go r.tail from rfl,show (St.go r.tail).toks=r.tail from rfl]
 cases h1:(d.kind == 1)
 ·rw [if_neg (by decide),Bool.false_and,if_neg (by decide)]; rfl
 ·rw [if_pos (by decide),Bool.true_and]
  by_cases h2:at' [91] r=true
  ·rw [if_pos h2,if_pos h2]
   by_cases h3:isNum r.tail=true
   ·rw [if_pos h3,if_pos h3]
    by_cases h4:(val (ay r.tail) == 0)=true
    ·rw [if_pos h4,if_pos h4]
     exact iB (ts:=ts) [93] _
    ·rw [if_neg h4,if_neg h4,Fw h3]
     exact (zy [93] r.tail.tail).map (fun _=> {d with size:=(val (ay r.tail):Nat)})
   ·rw [if_neg h3,if_neg h3,Fe (by simpa using h3)]
    exact iB (ts:=ts) [93] _
  ·rw [if_neg h2,if_neg h2]; rfl
theorem Pw (d:De) (n:Int):(pq ts d (.bad n)).2= .bad n:=by
 unfold pq; rw [show (St.bad n).toks=[] from rfl,at_nil,Bool.and_false]; rfl
theorem Qd (d:De) (r:ak):iN ts (Io d r) (oC ts d (.go r)):=by
 unfold Io oC jE
 rw [show (St.go r).toks=r from rfl,show (St.go r).aD= .go r.tail from rfl,show (St.go r.tail).toks=r.tail from rfl,show (St.go r.tail).aD= .go r.tail.tail from rfl]
 cases h1:(d.kind == 1 || d.kind == 2)
 ·rw [if_neg (by decide),Bool.false_and,if_neg (by decide)]; rfl
 ·rw [if_pos (by decide),Bool.true_and]
  by_cases h2:at' [61] r=true
  ·rw [if_pos h2,if_pos h2]
   by_cases h5:at' [45] r.tail=true
   ·rw [if_pos h5,if_pos h5]
    cases h3:isNum r.tail.tail
    ·rw [if_neg (by decide),Fe h3]; rfl
    ·rw [if_pos (by decide),Fw h3]; rfl
   ·rw [if_neg h5,if_neg h5]
    cases h3:isNum r.tail
    ·rw [if_neg (by decide),Fe h3]; rfl
    ·rw [if_pos (by decide),Fw h3]; rfl
  ·rw [if_neg h2,if_neg h2]; rfl
theorem FL (d:De) (n:Int):(oC ts d (.bad n)).2= .bad n:=by
 unfold oC; rw [show (St.bad n).toks=[] from rfl,at_nil,Bool.and_false]; rfl
theorem VK (d:De) (r:ak):iN ts (Gh d r) (vZ ts d (.go r)):=by
 unfold Gh vZ
 cases h1:(d.kind == 5)
 ·rw [if_neg (by decide),if_neg (by decide)]; rfl
 ·rw [if_pos (by decide),if_pos (by decide)]; exact (vY r).map _
theorem Lb (d:De) (n:Int):(vZ ts d (.bad n)).2= .bad n:=by unfold vZ; split <;> rfl
theorem Li {α:Type} {x:bg α} {f:α→ak→bg α} (h: ∀a r,x= .ok a r→f a r= .ok a r):x.bind f=x:=by
 cases x with
 | ok a r=>exact h a r rfl
 | no r=>rfl
theorem bind_congr {α β:Type} {x:bg α} {f g:α→ak→bg β} (h: ∀a r,x= .ok a r→f a r=g a r):x.bind f=x.bind g:=by
 cases x with
 | ok a r=>exact h a r rfl
 | no r=>rfl
theorem map_map {α β γ:Type} (x:bg α) (f:α→β) (g:β→γ):(x.map f).map g=x.map (fun a=>g (f a)):=by cases x <;> rfl
theorem map_eq {α β:Type} {x:bg α} {f g:α→β} (h: ∀a,f a=g a):x.map f=x.map g:=by
 cases x with
 | ok a r=>show bg.ok (f a) r=_; rw [h]; rfl
 | no r=>rfl
theorem Rb (r:ak):oW r=((eO r.tail).bind fun s r'=>((TR ⟨gY (ay r),aK r,s,0,0,⟨#[]⟩⟩ r').bind Io).bind Gh).close [59]:=by
 unfold oW
 dsimp only
 congr 1
 refine bind_congr (fun s r' _=> ?_)
 generalize hd:(⟨gY (ay r),aK r,s,0,0,⟨#[]⟩⟩:De)=d
 have hk:gY (ay r)=d.kind:=by rw [← hd]
 rw [hk]
 have hd':(⟨d.kind,aK r,s,0,0,⟨#[]⟩⟩:De)=d:=by rw [← hd]
 have hon: ∀o,(⟨d.kind,aK r,s,0,0,o⟩:De)= {d with on:=o} :=fun o=>by rw [← hd]
 unfold TR
 by_cases h1:(d.kind == 1)=true
 ·rw [if_pos h1,if_pos h1]
  have h1':d.kind=1:=by simpa using h1
  have e1:(lu d r').bind Io=(lu d r').bind jE:=bind_congr (fun d' r2 e=>by unfold Io; rw [(BF e).2,h1']; rfl)
  rw [e1]
  refine (Li (fun d' r2 e=> ?_)).symm
  obtain ⟨d1,r1,e1,e2⟩:=kR e
  unfold Gh; rw [(xJ e2).2,(BF e1).2,h1']; rfl
 ·rw [if_neg h1,if_neg h1]
  show _=(Io d r').bind Gh
  unfold Io
  by_cases h2:(d.kind == 2)=true
  ·rw [if_pos h2,if_pos (by rw [h2,Bool.or_true])]
   refine (Li (fun d' r2 e=> ?_)).symm
   have h2':d.kind=2:=by simpa using h2
   unfold Gh; rw [(xJ e).2,h2']; rfl
  ·rw [if_neg (c:=(d.kind == 2)=true) h2,if_neg (c:=(d.kind == 1 || d.kind == 2)=true) (by simpa [h1] using h2)]
   show _=Gh d r'
   unfold Gh
   by_cases h5:(d.kind == 5)=true
   ·rw [if_pos h5,if_pos h5]; exact map_eq hon
   ·rw [if_neg h5,if_neg h5]
theorem Qe {r:ak} (h:isDecl r=true):iN ts (oW r) (qd ts (.go r)):=by
 have hk:DJ r=gY (ay r):=by
  unfold isDecl at h
  rw [Bool.and_eq_true] at h
  unfold DJ; rw [h.1]; rfl
 rw [Rb]
 unfold qd
 rw [show (St.go r).toks=r from rfl,show (St.go r).aD= .go r.tail from rfl,hk]
 refine iN.close (q:=(thenS (thenS (pq ts ⟨gY (ay r),aK r,(aJ ts (.go r.tail)).1,0,0,⟨#[]⟩⟩ (aJ ts (.go r.tail)).2) (oC ts)) (vZ ts))) ?_ [59]
 refine iN.bind (g:=fun s q=>thenS (thenS (pq ts ⟨gY (ay r),aK r,s,0,0,⟨#[]⟩⟩ q) (oC ts)) (vZ ts)) (vY r.tail) (fun s r' _=> ?_) (fun s n=> ?_)
 ·refine iN.bind (g:=vZ ts) ?_ (fun d r2 _=>VK d r2) (fun d n=>Lb d n)
  exact iN.bind (g:=oC ts) (QM _ r') (fun d r2 _=>Qd d r2) (fun d n=>FL d n)
 ·unfold thenS; rw [Pw,FL,Lb]
theorem Qo: ∀(f:Nat) (l:List ByteArray) (n:Int),(lG ts f l (.bad n)).2= .bad n
 | 0,l,n=>rfl
 | f + 1,l,n=>by unfold lG; rw [show (St.bad n).toks=[] from rfl,at_nil]; rfl
theorem I9: ∀(f g:Nat) (l:List ByteArray) (r:ak),r.length < f→(aJ ts (.go r)).2.toks.length≤g→iN ts ((jq f r).map (l++ ·)) (lG ts g (l++[(aJ ts (.go r)).1]) (aJ ts (.go r)).2)
 | 0,g,l,r,h,_=>by omega
 | f + 1,g,l,r,h,hg=>by
   unfold jq
   cases h1:isName r
   ·rw [LV h1]
    have:eO r= .no r:=by unfold eO; rw [h1]; rfl
    rw [this]
    exact Qo _ _ _
   ·rw [LZ h1] at hg ⊢
    have:eO r= .ok (tx (ay r)) r.tail:=by unfold eO; rw [h1]; rfl
    rw [this]
    show iN ts ((if at' [44] r.tail then (jq f r.tail.tail).map (tx (ay r) :: ·) else .ok [tx (ay r)] r.tail).map (l++ ·)) (lG ts g (l++[tx (ay r)]) (.go r.tail))
    have hg:r.tail.length≤g:=hg
    have hr:=sU h1
    by_cases h2:at' [44] r.tail=true
    ·have h3:=at_len h2
     obtain ⟨g',rfl⟩: ∃g',g=g' + 1:=⟨g - 1,by omega⟩
     rw [if_pos h2,map_map]
     unfold lG
     rw [show (St.go r.tail).toks=r.tail from rfl,if_pos h2,show (St.go r.tail).aD= .go r.tail.tail from rfl]
     have ih:=I9 f g' (l++[tx (ay r)]) r.tail.tail (by omega) (by
      unfold aJ
      rw [show (St.go r.tail.tail).toks=r.tail.tail from rfl]
      split
      ·have:=jL r.tail.tail
       show r.tail.tail.tail.length≤g'
       omega
      ·exact Nat.zero_le _)
     rw [map_eq (g:=fun a=>l++[tx (ay r)]++a) (fun a=>by simp)]
     exact ih
    ·rw [if_neg h2]
     have:lG ts g (l++[tx (ay r)]) (.go r.tail)=(l++[tx (ay r)],.go r.tail):=by
      cases g with
      | zero=>rfl
      | succ g=>unfold lG; rw [show (St.go r.tail).toks=r.tail from rfl,if_neg h2]
     rw [this]; rfl
theorem NJ (n:Int):(lQ ts (.bad n)).2= .bad n:=by
 unfold lQ; rw [show (St.bad n).toks=[] from rfl,at_nil,wT]; rfl
theorem R5 (r:ak):iN ts (if at' [41] r then .ok [] r.tail else (jq (r.length + 1) r).close [41]) ((lQ ts (.go r)).1,aR ts [41] (lQ ts (.go r)).2):=by
 unfold lQ
 rw [show (St.go r).toks=r from rfl]
 cases h:at' [41] r
 ·rw [if_neg (by decide),if_neg (by decide)]
  have:=I9 (ts:=ts) (r.length + 1) (aJ ts (.go r)).2.toks.length [] r (by omega) (Nat.le_refl _)
  rw [map_eq (g:=fun a=>a) (fun a=>by simp),show (jq (r.length + 1) r).map (fun a=>a)=jq (r.length + 1) r by cases jq (r.length + 1) r <;> rfl] at this
  exact this.close [41]
 ·rw [if_pos (by decide),if_pos (by decide),CU h]; rfl
def EU (ts:ak) (nm:ByteArray) (ln:Int) (l:List ByteArray) (s:St):Th × St:=(⟨nm,ln,l,(yA ts (3 * s.toks.length + 3) s).1⟩,(yA ts (3 * s.toks.length + 3) s).2)
def MJ (ts:ak) (nm:ByteArray) (ln:Int) (s:St):Th × St:=EU ts nm ln (lQ ts s).1 (aR ts [41] (lQ ts s).2)
def MH (ts:ak) (ln:Int) (nm:ByteArray) (s:St):Th × St:=MJ ts nm ln (aR ts [40] s)
theorem Ku (nm:ByteArray) (ln:Int) (l:List ByteArray) (n:Int):(EU ts nm ln l (.bad n)).2= .bad n:=Tf _ _
theorem Ki (nm:ByteArray) (ln:Int) (n:Int):(MJ ts nm ln (.bad n)).2= .bad n:=by unfold MJ; rw [NJ,iB,Ku]
theorem K5 (nm:ByteArray) (ln:Int) (n:Int):(MH ts ln nm (.bad n)).2= .bad n:=by unfold MH; rw [iB,Ki]
theorem FP (s:St):pO ts s=MH ts (aK s.toks) (aJ ts (aR ts [116,104,114,101,97,100] s)).1 (aJ ts (aR ts [116,104,114,101,97,100] s)).2:=rfl
theorem LJ {r:ak} (h:at' [116,104,114,101,97,100] r=false):(pO ts (.go r)).2= .bad (bR ts r):=by
 rw [FP,Sj h,wT,K5]
theorem SX {r:ak} (h:at' [116,104,114,101,97,100] r=true):iN ts (uG r) (pO ts (.go r)):=by
 unfold uG
 rw [FP,CU h,show (St.go r).toks=r from rfl]
 refine iN.bind (q:=aJ ts (.go r.tail)) (g:=MH ts (aK r)) (vY r.tail) (fun nm r1 _=> ?_) (fun nm n=>K5 nm _ n)
 refine iN.bind (q:=((),aR ts [40] (.go r1))) (g:=fun _ s=>MJ ts nm (aK r) s) (zy [40] r1) (fun _ r2 _=> ?_) (fun _ n=>Ki nm _ n)
 refine iN.bind (q:=((lQ ts (.go r2)).1,aR ts [41] (lQ ts (.go r2)).2)) (g:=fun l s=>EU ts nm (aK r) l s) (R5 r2) (fun l r3 _=> ?_) (fun l n=>Ku nm _ l n)
 exact (Vj _ r3).map (fun b=>(⟨nm,aK r,l,b⟩:Th))
theorem Na: ∀(f:Nat) (l:List De) (n:Int),(kK ts f l (.bad n)).2= .bad n
 | 0,l,n=>rfl
 | f + 1,l,n=>rfl
theorem FN: ∀(f:Nat) (l:List De) (r:ak),iN ts ((jI f r).map (l++ ·)) (kK ts f l (.go r))
 | 0,l,r=>by show (l,St.go r)=(l++[],.go r); rw [List.append_nil]
 | f + 1,l,r=>by
   unfold jI kK
   rw [show (St.go r).toks=r from rfl]
   cases h:isDecl r
   ·rw [if_neg (by decide),if_neg (by decide)]
    show (l,St.go r)=(l++[],.go r); rw [List.append_nil]
   ·rw [if_pos (by decide),if_pos (by decide)]
    rcases (Qe (ts:=ts) h).of with ⟨x,r',h1,h2⟩ | ⟨r',h1,h2⟩
    ·rw [h1,h2]
     show iN ts (((jI f r').map (x :: ·)).map (l++ ·)) _
     rw [map_map,map_eq (g:=fun a=>l++[x]++a) (fun a=>by simp)]
     exact FN f (l++[x]) r'
    ·rw [h1]
     show (kK ts f _ (qd ts (.go r)).2).2=_
     rw [h2]; exact Na _ _ _
theorem BN: ∀(f:Nat) (l:List Th) (n:Int),(jS ts f l (.bad n)).2= .bad n
 | 0,l,n=>rfl
 | f + 1,l,n=>rfl
def MR (ts:ak) (l:List Th) (q:List Th × St):bg (List Th)→Prop
 | .ok th rest=>if ((l++th).isEmpty || !rest.isEmpty)=true then q.2= .bad (bR ts rest) else q=(l++th,.go rest)
 | .no rest=>q.2= .bad (bR ts rest)
theorem G9 {g:Nat} {l:List Th} {r:ak} (hg:0 < g) (h:at' [116,104,114,101,97,100] r=false):MR ts l (jS ts g l (.go r)) (.ok [] r):=by
 obtain ⟨g',rfl⟩: ∃g',g=g' + 1:=⟨g - 1,by omega⟩
 show ite _ _ _
 rw [List.append_nil]
 unfold jS
 rw [show (St.go r).toks=r from rfl,show (St.go r).good=true from rfl,Bool.true_and]
 by_cases hc:(l.isEmpty || !r.isEmpty)=true
 ·rw [if_pos hc,if_pos hc,LJ h]; exact BN _ _ _
 ·rw [if_neg hc,if_neg hc]
theorem J3: ∀(f g:Nat) (l:List Th) (r:ak),r.length≤f→r.length < g→MR ts l (jS ts g l (.go r)) (kT f r)
 | 0,g,l,r,hf,hg=>by
   have:r=[]:=List.length_eq_zero_iff.1 (by omega)
   subst this
   exact G9 (by omega) (at_nil _)
 | f + 1,g,l,r,hf,hg=>by
   unfold kT
   cases h:at' [116,104,114,101,97,100] r
   ·rw [if_neg (by decide)]; exact G9 (by omega) h
   ·rw [if_pos (by decide)]
    obtain ⟨g',rfl⟩: ∃g',g=g' + 1:=⟨g - 1,by omega⟩
    have hne:r.isEmpty=false:=by
     obtain ⟨t,r',rfl⟩:=yM h; rfl
    have hs:jS ts (g' + 1) l (.go r)=jS ts g' (l++[(pO ts (.go r)).1]) (pO ts (.go r)).2:=by
     conv=>lhs; unfold jS
     rw [show (St.go r).toks=r from rfl,show (St.go r).good=true from rfl,Bool.true_and,hne,Bool.not_false,Bool.or_true,if_pos rfl]
    rw [hs]
    rcases (SX (ts:=ts) h).of with ⟨x,r',h1,h2⟩ | ⟨r',h1,h2⟩
    ·have hl:=Jf h1
     rw [h1,h2]
     have ih:=J3 f g' (l++[x]) r' (by omega) (by omega)
     show MR ts l _ ((kT f r').map (x :: ·))
     cases ht:kT f r' with
     | ok th rest=>
       rw [ht] at ih
       show ite _ _ _
       have e:l++x ::th=l++[x]++th:=by simp
       rw [e]; exact ih
     | no rest=>rw [ht] at ih; exact ih
    ·rw [h1,h2]; exact BN _ _ _
theorem CQ {p:Pr} {s:St} {n:Int} (h:s= .bad n):Fj p s=(⟨[],[]⟩,3,n):=by subst h; rfl
theorem Oi (s:List UInt8):vG s=parse s:=by
 unfold vG parse
 split
 ·generalize (scan s).1=ts
  unfold MB prog
  have hd:=FN (ts:=ts) ts.length [] ts
  rw [map_eq (g:=fun a=>a) (fun a=>by simp),show (jI ts.length ts).map (fun a=>a)=jI ts.length ts by cases jI ts.length ts <;> rfl] at hd
  rcases hd.of with ⟨ds,r,h1,h2⟩ | ⟨r,h1,h2⟩
  ·rw [h1,h2]
   have ht:=J3 (ts:=ts) r.length (r.length + 1) [] r (Nat.le_refl _) (Nat.lt_succ_self _)
   show Fj ⟨ds,(jS ts (r.length + 1) [] (.go r)).1⟩ (jS ts (r.length + 1) [] (.go r)).2=match (kT r.length r).map (fun th=>(⟨ds,th⟩:Pr)) with
    | .ok p rest=>if p.ts.isEmpty || !rest.isEmpty then (⟨[],[]⟩,3,bR ts rest) else (p,0,0)
    | .no rest=>(⟨[],[]⟩,3,bR ts rest)
   cases hh:kT r.length r with
   | ok th rest=>
     rw [hh] at ht
     have ht:if (([]++th).isEmpty || !rest.isEmpty)=true then _ else _:=ht
     show _=if th.isEmpty || !rest.isEmpty then _ else _
     by_cases hc:(th.isEmpty || !rest.isEmpty)=true
     ·rw [if_pos (by simpa using hc)] at ht
      rw [if_pos hc,CQ ht]
     ·rw [if_neg (by simpa using hc)] at ht
      rw [if_neg hc,ht]; rfl
   | no rest=>
     rw [hh] at ht
     exact CQ ht
  ·rw [h1]
   exact CQ (by unfold Uv; dsimp only; rw [h2]; exact BN _ _ _)
 ·rfl
end
end Go.Proofs.YtehnipchbmjlhaaGreatDoor.Pz
end
