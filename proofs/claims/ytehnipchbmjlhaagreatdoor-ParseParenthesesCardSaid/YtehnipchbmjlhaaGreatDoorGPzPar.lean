/-
  Parentheses around an expression leave no trace. No program in sight.
-/
import Derived.Test.YtehnipchbmjlhaaGreatDoorGZA
import Derived.Test.YtehnipchbmjlhaaGreatDoorGTA
set_option linter.unusedVariables false
set_option linter.unusedSimpArgs false
namespace Go.Proofs.YtehnipchbmjlhaaGreatDoor.Pz
open Go.RowKit Md Tk
def rp (n:Nat):Tok:=⟨4,[41],n⟩
def lp (n:Nat):Tok:=⟨4,[40],n⟩
theorem VE (n:Nat) (lv:Int) (ts:aj):opAt lv (ts++[rp n])=opAt lv ts:=by
 cases ts with
 | nil=>simp [opAt,nextK,ay,rp,iY]
 | cons t r=>rfl
theorem yL (n:Nat) {x:List UInt8} (hx:([41] == x)=false) (ts:aj):at' x (ts++[rp n])=at' x ts:=by
 cases ts with
 | nil=>simp [at',nextK,ay,rp] at hx ⊢; exact hx
 | cons t r=>rfl
theorem SA (n:Nat) (ts:aj):isNum (ts++[rp n])=isNum ts:=by
 cases ts with
 | nil=>rfl
 | cons t r=>rfl
theorem Pj (n:Nat) (ts:aj):isName (ts++[rp n])=isName ts:=by
 cases ts with
 | nil=>rfl
 | cons t r=>rfl
theorem lF {n:Nat} {ts:aj} (h:ts.tail.length < ts.length):(ts++[rp n]).tail=ts.tail++[rp n]:=by
 cases ts with
 | nil=>exact absurd h (by simp)
 | cons t r=>rfl
theorem DV {n:Nat} {ts:aj} (h:ts.tail.length < ts.length):ay (ts++[rp n])=ay ts:=by
 cases ts with
 | nil=>exact absurd h (by simp)
 | cons t r=>rfl
theorem CG {α:Type} {y:List UInt8} {a:α} {r:aj} (h:at' y r=true):(aT.ok a r).close y= .ok a r.tail:=by
 simp only [aT.close]; rw [if_pos h]
theorem lY (n:Nat): ∀(f:Nat) (m:M) (ts:aj) (x:E) (r:aj),pe f m ts= .ok x r→ ∀f',f≤f'→pe f' m (ts++[rp n])= .ok x (r++[rp n])
 | 0,m,ts,e,r,h,_,_=>by cases m <;> simp [pe] at h
 | f + 1,m,ts,e,r,h,0,hf=>absurd hf (by omega)
 | f + 1,.bin lv,ts,e,r,h,f' + 1,hf=>by
   have hf:=Nat.le_of_succ_le_succ hf
   unfold pe at h ⊢
   split at h
   ·rename_i hl
    rw [if_pos hl]; exact lY n f .un ts e r h f' hf
   ·rename_i hl
    rw [if_neg hl]
    split at h
    ·cases h
    ·rename_i l r' hl'
     rw [lY n f (.bin (lv + 1)) ts l r' hl' f' hf]
     exact lY n f (.lp lv l) r' e r h f' hf
 | f + 1,.lp lv l,ts,e,r,h,f' + 1,hf=>by
   have hf:=Nat.le_of_succ_le_succ hf
   unfold pe at h ⊢
   rw [VE]
   split at h
   ·rename_i ho
    simp only [aT.ok.injEq] at h; obtain ⟨rfl,rfl⟩:=h
    rw [if_pos ho]
   ·rename_i ho
    rw [if_neg ho,lF (Aj (by simpa using ho))]
    split at h
    ·cases h
    ·rename_i x r' hx
     rw [lY n f (.bin (lv + 1)) ts.tail x r' hx f' hf]
     dsimp only
     split at h
     ·rename_i h3
      simp only [aT.ok.injEq] at h; obtain ⟨rfl,rfl⟩:=h
      rw [if_pos h3]
     ·rename_i h3
      rw [if_neg h3]
      exact lY n f (.lp lv _) r' e r h f' hf
 | f + 1,.un,ts,e,r,h,f' + 1,hf=>by
   have hf:=Nat.le_of_succ_le_succ hf
   unfold pe at h ⊢
   rw [yL n (by decide),yL n (by decide)]
   split at h
   ·rename_i h1
    rw [if_pos h1,lF (at_len h1)]
    obtain ⟨a,h9,rfl⟩:=map_ok h
    rw [lY n f .un ts.tail a r h9 f' hf]; rfl
   ·rename_i h1
    rw [if_neg h1]
    split at h
    ·rename_i h2
     rw [if_pos h2,lF (at_len h2)]
     obtain ⟨a,h9,rfl⟩:=map_ok h
     rw [lY n f .un ts.tail a r h9 f' hf]; rfl
    ·rename_i h2
     rw [if_neg h2]
     exact lY n f .pr ts e r h f' hf
 | f + 1,.pr,ts,e,r,h,f' + 1,hf=>by
   have hf:=Nat.le_of_succ_le_succ hf
   unfold pe at h ⊢
   rw [SA,Pj]
   split at h
   ·rename_i hn
    simp only [aT.ok.injEq] at h; obtain ⟨rfl,rfl⟩:=h
    rw [if_pos hn,lF (Bq hn),DV (Bq hn)]
   ·rename_i hn
    rw [if_neg hn]
    split at h
    ·rename_i hm
     rw [if_pos hm,lF (oO hm),DV (oO hm),yL n (by decide)]
     split at h
     ·rename_i hb
      obtain ⟨a,h9,rfl⟩:=map_ok h
      obtain ⟨r',h',ha,rfl⟩:=lS h9
      rw [if_pos hb,lF (at_len hb),lY n f (.bin 1) ts.tail.tail a r' h' f' hf,CG (by rw [yL n (by decide)]; exact ha),lF (at_len ha)]
      rfl
     ·rename_i hb
      simp only [aT.ok.injEq] at h; obtain ⟨rfl,rfl⟩:=h
      rw [if_neg hb]
    ·rename_i hm
     rw [if_neg hm,yL n (by decide)]
     split at h
     ·rename_i hp
      obtain ⟨r',h',ha,rfl⟩:=lS h
      have ha':at' [41] (r'++[rp n])=true:=by
       obtain ⟨t,q,rfl⟩:=yG ha; exact ha
      rw [if_pos hp,lF (at_len hp),lY n f (.bin 1) ts.tail e r' h' f' hf,CG ha',lF (at_len ha)]
     ·cases h
theorem AJ {f lv:Nat} {ts:aj} {x:E} (hl:lv≤5) (h:pe (f + 1) (.bin (lv + 1)) ts= .ok x []):pe (f + 2) (.bin lv) ts= .ok x []:=by
 conv=>lhs; unfold pe
 rw [if_neg (by omega),h]
 dsimp only
 unfold pe
 rw [if_pos (by simp [opAt,nextK])]
theorem Rq {ts:aj} {x:E} (a n:Nat) (h:expr ts= .ok x []):expr (lp a ::(ts++[rp n]))= .ok x []:=by
 unfold expr at h ⊢
 have h1:=lY n _ _ _ _ _ h (9 * ts.length + 19) (by omega)
 have h2:pe (9 * ts.length + 20) .pr (lp a ::(ts++[rp n]))= .ok x []:=by
  conv=>lhs; unfold pe
  rw [if_neg (by simp [isNum,nextK,lp]),if_neg (by simp [isName,nextK,lp]),if_pos (by simp [at',nextK,ay,lp])]
  show (pe (9 * ts.length + 19) (.bin 1) (ts++[rp n])).close [41]=_
  rw [h1,CG (by simp [at',nextK,ay,rp])]
  rfl
 have h3:pe (9 * ts.length + 21) .un (lp a ::(ts++[rp n]))= .ok x []:=by
  conv=>lhs; unfold pe
  rw [if_neg (by simp [at',nextK,ay,lp]),if_neg (by simp [at',nextK,ay,lp])]
  exact h2
 have h4:pe (9 * ts.length + 22) (.bin 6) (lp a ::(ts++[rp n]))= .ok x []:=by
  conv=>lhs; unfold pe
  rw [if_pos (by decide)]
  exact h3
 have h5:=AJ (by decide) (AJ (by decide) (AJ (by decide) (AJ (by decide) (AJ (by decide) h4))))
 rw [show 9 * (lp a ::(ts++[rp n])).length + 9=9 * ts.length + 27 by simp; omega]
 exact h5
theorem J4 (r:List UInt8):first (40 ::r)=(0,4,[40]):=by
 have h:eX (40 ::r)=[40]:=by simp [eX,nP,List.find?,List.isPrefixOf]
 unfold first
 rw [List.headD_cons,if_neg (show ¬ lK 40=true by decide),if_neg (show ¬ bW 40=true by decide)]
 unfold qy
 rw [h]
 rfl
theorem Ry {s:List UInt8} {ts:aj} (hl:s.length≤4000) (h:scan s=(ts,0,0)): ∃n,scan (40 ::(s++[10,41]))=(lp 1 ::(ts++[rp n]),0,0):=by
 have hT:=NH 10 [41] (fun line acc=>(acc++[rp (line + 1)],0,0)) ZV (fun f line acc hf=>by
  match f,hf with
  | f + 2,_=>rw [mX,kL _ _ _ _ _ (by decide) (by decide) (by decide) (by decide)]; exact iV _ _ _) (fun f line acc hf=>by
  rw [List.dropWhile_cons,if_neg (by decide)] at hf ⊢
  match f,hf with
  | f + 2,_=>rw [mX,kL _ _ _ _ _ (by decide) (by decide) (by decide) (by decide)]; exact iV _ _ _)
  (s++[10,41]).length s.length s 1 [lp 1] (Nat.le_refl _) (Nat.le_refl _)
 obtain ⟨toks,e,el,hs⟩:=BN s.length s 1
 have h0:=hs [] 0
 rw [Nat.add_zero,WA,List.nil_append,Nat.add_zero] at h0
 have h1:=hs [lp 1] 0
 rw [Nat.add_zero,WA] at h1
 unfold scan at h ⊢
 rw [if_neg (by omega),h0] at h
 have he:e=0:=by
  by_cases he:e=0
  ·exact he
  ·rw [if_neg he] at h; simp at h; exact absurd h.2.1 he
 rw [if_pos he] at h h1
 simp only [Prod.mk.injEq,and_true] at h
 subst h
 rw [h1,if_pos rfl] at hT
 refine ⟨1 + qI s + 1,?_⟩
 rw [if_neg (by simp; omega)]
 rw [show (40 ::(s++[10,41]):List UInt8).length=(s++[10,41]).length + 1 from rfl]
 rw [kL _ _ _ _ _ (by decide) (by decide) (by simp [List.isPrefixOf]) (by rw [J4]),J4]
 exact hT
theorem paren {s:List UInt8} (hl:s.length≤4000) (h0:(dV s).2.1=0):dV (40 ::(s++[10,41]))=((dV s).1,0,0):=by
 have h:=h0
 unfold dV at h
 split at h
 ·rename_i hs
  split at h
  ·rename_i x rest hx
   split at h
   ·cases h
   ·rename_i hr
    have hr:rest=[]:=by cases rest with
     | nil=>rfl
     | cons t r=>exact absurd rfl hr
    subst hr
    have hsc:scan s=((scan s).1,0,0):=by
     have h2:(scan s).2.2=0:=by
      obtain ⟨toks,e,el,hq⟩:=BN s.length s 1
      have h3:=hq [] 0
      rw [Nat.add_zero,WA,List.nil_append,Nat.add_zero] at h3
      unfold scan at hs ⊢
      rw [if_neg (by omega),h3] at hs ⊢
      by_cases he:e=0
      ·rw [if_pos he]
      ·rw [if_neg he] at hs; exact absurd hs he
     exact Prod.ext rfl (Prod.ext hs h2)
    obtain ⟨n,hn⟩:=Ry hl hsc
    have hp:dV s=(x,0,0):=by
     unfold dV; rw [if_pos hs,hx]; rfl
    have hq:=Rq 1 n hx
    unfold dV
    rw [hn,if_pos rfl]
    dsimp only
    rw [hq]
    have:=congrArg Prod.fst hp
    unfold dV at this
    rw [this]
    rfl
  ·cases h
 ·rename_i hs
  exact absurd h (by simpa using hs)
end Go.Proofs.YtehnipchbmjlhaaGreatDoor.Pz
