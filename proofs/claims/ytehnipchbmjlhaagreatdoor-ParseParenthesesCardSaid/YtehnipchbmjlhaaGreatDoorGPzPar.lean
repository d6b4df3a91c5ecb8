/-
  Parentheses around an expression leave no trace. No program in sight.
-/
import Derived.Test.YtehnipchbmjlhaaGreatDoorGZA
import Derived.Test.YtehnipchbmjlhaaGreatDoorGTA
set_option linter.unusedVariables false
set_option linter.unusedSimpArgs false
namespace Go.Proofs.YtehnipchbmjlhaaGreatDoor.Pz
open Go.RowKit Md Tk
def rp (n:Nat):Tok:=⟨4,[41],n⟩
def lp (n:Nat):Tok:=⟨4,[40],n⟩
theorem VA (n:Nat) (lv:Int) (ts:aj):opAt lv (ts++[rp n])=opAt lv ts:=by
 cases ts with
 | nil=>simp [opAt,nextK,ay,rp,j4]
 | cons t r=>rfl
theorem yc (n:Nat) {x:List UInt8} (hx:([41] == x)=false) (ts:aj):at' x (ts++[rp n])=at' x ts:=by
 cases ts with
 | nil=>simp [at',nextK,ay,rp] at hx ⊢; exact hx
 | cons t r=>rfl
theorem Rs (n:Nat) (ts:aj):isNum (ts++[rp n])=isNum ts:=by
 cases ts with
 | nil=>rfl
 | cons t r=>rfl
theorem PZ (n:Nat) (ts:aj):isName (ts++[rp n])=isName ts:=by
 cases ts with
 | nil=>rfl
 | cons t r=>rfl
theorem lq {n:Nat} {ts:aj} (h:ts.tail.length < ts.length):(ts++[rp n]).tail=ts.tail++[rp n]:=by
 cases ts with
 | nil=>exact absurd h (by simp)
 | cons t r=>rfl
theorem D9 {n:Nat} {ts:aj} (h:ts.tail.length < ts.length):ay (ts++[rp n])=ay ts:=by
 cases ts with
 | nil=>exact absurd h (by simp)
 | cons t r=>rfl
theorem Ca {α:Type} {y:List UInt8} {a:α} {r:aj} (h:at' y r=true):(aT.ok a r).close y= .ok a r.tail:=by
 simp only [aT.close]; rw [if_pos h]
theorem lN (n:Nat): ∀(f:Nat) (m:M) (ts:aj) (x:E) (r:aj),pe f m ts= .ok x r→ ∀f',f≤f'→pe f' m (ts++[rp n])= .ok x (r++[rp n])
 | 0,m,ts,e,r,h,_,_=>by cases m <;> simp [pe] at h
 | f + 1,m,ts,e,r,h,0,hf=>absurd hf (by omega)
 | f + 1,.bin lv,ts,e,r,h,f' + 1,hf=>by
   have hf:=Nat.le_of_succ_le_succ hf
   unfold pe at h ⊢
   split at h
   ·rename_i hl
    rw [if_pos hl]; exact lN n f .un ts e r h f' hf
   ·rename_i hl
    rw [if_neg hl]
    split at h
    ·cases h
    ·rename_i l r' hl'
     rw [lN n f (.bin (lv + 1)) ts l r' hl' f' hf]
     exact lN n f (.lp lv l) r' e r h f' hf
 | f + 1,.lp lv l,ts,e,r,h,f' + 1,hf=>by
   have hf:=Nat.le_of_succ_le_succ hf
   unfold pe at h ⊢
   rw [VA]
   split at h
   ·rename_i ho
    simp only [aT.ok.injEq] at h; obtain ⟨rfl,rfl⟩:=h
    rw [if_pos ho]
   ·rename_i ho
    rw [if_neg ho,lq (zO (by simpa using ho))]
    split at h
    ·cases h
    ·rename_i x r' hx
     rw [lN n f (.bin (lv + 1)) ts.tail x r' hx f' hf]
     dsimp only
     split at h
     ·rename_i h3
      simp only [aT.ok.injEq] at h; obtain ⟨rfl,rfl⟩:=h
      rw [if_pos h3]
     ·rename_i h3
      rw [if_neg h3]
      exact lN n f (.lp lv _) r' e r h f' hf
 | f + 1,.un,ts,e,r,h,f' + 1,hf=>by
   have hf:=Nat.le_of_succ_le_succ hf
   unfold pe at h ⊢
   rw [yc n (by decide),yc n (by decide)]
   split at h
   ·rename_i h1
    rw [if_pos h1,lq (at_len h1)]
    obtain ⟨a,h9,rfl⟩:=map_ok h
    rw [lN n f .un ts.tail a r h9 f' hf]; rfl
   ·rename_i h1
    rw [if_neg h1]
    split at h
    ·rename_i h2
     rw [if_pos h2,lq (at_len h2)]
     obtain ⟨a,h9,rfl⟩:=map_ok h
     rw [lN n f .un ts.tail a r h9 f' hf]; rfl
    ·rename_i h2
     rw [if_neg h2]
     exact lN n f .pr ts e r h f' hf
 | f + 1,.pr,ts,e,r,h,f' + 1,hf=>by
   have hf:=Nat.le_of_succ_le_succ hf
   unfold pe at h ⊢
   rw [Rs,PZ]
   split at h
   ·rename_i hn
    simp only [aT.ok.injEq] at h; obtain ⟨rfl,rfl⟩:=h
    rw [if_pos hn,lq (Bl hn),D9 (Bl hn)]
   ·rename_i hn
    rw [if_neg hn]
    split at h
    ·rename_i hm
     rw [if_pos hm,lq (oJ hm),D9 (oJ hm),yc n (by decide)]
     split at h
     ·rename_i hb
      obtain ⟨a,h9,rfl⟩:=map_ok h
      obtain ⟨r',h',ha,rfl⟩:=lF h9
      rw [if_pos hb,lq (at_len hb),lN n f (.bin 1) ts.tail.tail a r' h' f' hf,Ca (by rw [yc n (by decide)]; exact ha),lq (at_len ha)]
      rfl
     ·rename_i hb
      simp only [aT.ok.injEq] at h; obtain ⟨rfl,rfl⟩:=h
      rw [if_neg hb]
    ·rename_i hm
     rw [if_neg hm,yc n (by decide)]
     split at h
     ·rename_i hp
      obtain ⟨r',h',ha,rfl⟩:=lF h
      have ha':at' [41] (r'++[rp n])=true:=by
       obtain ⟨t,q,rfl⟩:=yh ha; exact ha
      rw [if_pos hp,lq (at_len hp),lN n f (.bin 1) ts.tail e r' h' f' hf,Ca ha',lq (at_len ha)]
     ·cases h
theorem zZ {f lv:Nat} {ts:aj} {x:E} (hl:lv≤5) (h:pe (f + 1) (.bin (lv + 1)) ts= .ok x []):pe (f + 2) (.bin lv) ts= .ok x []:=by
 conv=>lhs; unfold pe
 rw [if_neg (by omega),h]
 dsimp only
 unfold pe
 rw [if_pos (by simp [opAt,nextK])]
theorem Sq {ts:aj} {x:E} (a n:Nat) (h:expr ts= .ok x []):expr (lp a ::(ts++[rp n]))= .ok x []:=by
 unfold expr at h ⊢
 have h1:=lN n _ _ _ _ _ h (9 * ts.length + 19) (by omega)
 have h2:pe (9 * ts.length + 20) .pr (lp a ::(ts++[rp n]))= .ok x []:=by
  conv=>lhs; unfold pe
  rw [if_neg (by simp [isNum,nextK,lp]),if_neg (by simp [isName,nextK,lp]),if_pos (by simp [at',nextK,ay,lp])]
  show (pe (9 * ts.length + 19) (.bin 1) (ts++[rp n])).close [41]=_
  rw [h1,Ca (by simp [at',nextK,ay,rp])]
  rfl
 have h3:pe (9 * ts.length + 21) .un (lp a ::(ts++[rp n]))= .ok x []:=by
  conv=>lhs; unfold pe
  rw [if_neg (by simp [at',nextK,ay,lp]),if_neg (by simp [at',nextK,ay,lp])]
  exact h2
 have h4:pe (9 * ts.length + 22) (.bin 6) (lp a ::(ts++[rp n]))= .ok x []:=by
  conv=>lhs; unfold pe
  rw [if_pos (by decide)]
  exact h3
 have h5:=zZ (by decide) (zZ (by decide) (zZ (by decide) (zZ (by decide) (zZ (by decide) h4))))
 rw [show 9 * (lp a ::(ts++[rp n])).length + 9=9 * ts.length + 27 by simp; omega]
 exact h5
theorem Hg (r:List UInt8):first (40 ::r)=(0,4,[40]):=by
 have h:eX (40 ::r)=[40]:=by simp [eX,nL,List.find?,List.isPrefixOf]
 unfold first
 rw [List.headD_cons,if_neg (show ¬ l5 40=true by decide),if_neg (show ¬ bV 40=true by decide)]
 unfold pW
 rw [h]
 rfl
theorem Qt {s:List UInt8} {ts:aj} (hl:s.length≤4000) (h:scan s=(ts,0,0)): ∃n,scan (40 ::(s++[10,41]))=(lp 1 ::(ts++[rp n]),0,0):=by
 have hT:=M0 10 [41] (fun line acc=>(acc++[rp (line + 1)],0,0)) ZC (fun f line acc hf=>by
  match f,hf with
  | f + 2,_=>rw [mK,kD _ _ _ _ _ (by decide) (by decide) (by decide) (by decide)]; exact iW _ _ _) (fun f line acc hf=>by
  rw [List.dropWhile_cons,if_neg (by decide)] at hf ⊢
  match f,hf with
  | f + 2,_=>rw [mK,kD _ _ _ _ _ (by decide) (by decide) (by decide) (by decide)]; exact iW _ _ _)
  (s++[10,41]).length s.length s 1 [lp 1] (Nat.le_refl _) (Nat.le_refl _)
 obtain ⟨toks,e,el,hs⟩:=BS s.length s 1
 have h0:=hs [] 0
 rw [Nat.add_zero,Yi,List.nil_append,Nat.add_zero] at h0
 have h1:=hs [lp 1] 0
 rw [Nat.add_zero,Yi] at h1
 unfold scan at h ⊢
 rw [if_neg (by omega),h0] at h
 have he:e=0:=by
  by_cases he:e=0
  ·exact he
  ·rw [if_neg he] at h; simp at h; exact absurd h.2.1 he
 rw [if_pos he] at h h1
 simp only [Prod.mk.injEq,and_true] at h
 subst h
 rw [h1,if_pos rfl] at hT
 refine ⟨1 + qh s + 1,?_⟩
 rw [if_neg (by simp; omega)]
 rw [show (40 ::(s++[10,41]):List UInt8).length=(s++[10,41]).length + 1 from rfl]
 rw [kD _ _ _ _ _ (by decide) (by decide) (by simp [List.isPrefixOf]) (by rw [Hg]),Hg]
 exact hT
theorem paren {s:List UInt8} (hl:s.length≤4000) (h0:(dV s).2.1=0):dV (40 ::(s++[10,41]))=((dV s).1,0,0):=by
 have h:=h0
 unfold dV at h
 split at h
 ·rename_i hs
  split at h
  ·rename_i x rest hx
   split at h
   ·cases h
   ·rename_i hr
    have hr:rest=[]:=by cases rest with
     | nil=>rfl
     | cons t r=>exact absurd rfl hr
    subst hr
    have hsc:scan s=((scan s).1,0,0):=by
     have h2:(scan s).2.2=0:=by
      obtain ⟨toks,e,el,hq⟩:=BS s.length s 1
      have h3:=hq [] 0
      rw [Nat.add_zero,Yi,List.nil_append,Nat.add_zero] at h3
      unfold scan at hs ⊢
      rw [if_neg (by omega),h3] at hs ⊢
      by_cases he:e=0
      ·rw [if_pos he]
      ·rw [if_neg he] at hs; exact absurd hs he
     exact Prod.ext rfl (Prod.ext hs h2)
    obtain ⟨n,hn⟩:=Qt hl hsc
    have hp:dV s=(x,0,0):=by
     unfold dV; rw [if_pos hs,hx]; rfl
    have hq:=Sq 1 n hx
    unfold dV
    rw [hn,if_pos rfl]
    dsimp only
    rw [hq]
    have:=congrArg Prod.fst hp
    unfold dV at this
    rw [this]
    rfl
  ·cases h
 ·rename_i hs
  exact absurd h (by simpa using hs)
end Go.Proofs.YtehnipchbmjlhaaGreatDoor.Pz
