/-
  Contracts of parse.Parse and parse.Expr.
-/
import Derived.Test.YtdajkddgnfgijaaGreatDoorGRE
import Derived.Test.YtdajkddgnfgijaaGreatDoorGTC
set_option linter.unusedSimpArgs false
set_option linter.unusedVariables false
namespace Go.Proofs.YtdajkddgnfgijaaGreatDoor
open Go.RowKit
open Md Pz
theorem SQ (t:Tk.Tok):(Tk.Tok.cells t).length=3:=rfl
theorem JN {w:World} {g B:Nat} {ts:aJ} (hB:g < B): ∀(l:aJ) (k:Nat),(∀i t,l[i]? =some t→ ∀j u,(Tk.Tok.cells t)[j]? =some u→w.cell? ⟨g,(k + i) * 3 + j,none⟩=some u)→qG w B l (some ⟨g,0,none⟩) k
 | [],_,_=>trivial
 | t ::r,k,h=>by
   have h0:=h 0 t rfl
   refine ⟨⟨g,0,rfl,hB,?_,?_,?_⟩,JN (ts:=ts) hB r (k + 1) (fun i t' ht j u hu=>by rw [show k + 1 + i=k + (i + 1) by omega]; exact h (i + 1) t' (by simpa using ht) j u hu)⟩
   ·have:=h0 0 _ rfl; rw [Nat.zero_add]; exact this
   ·have:=h0 1 _ rfl; rw [Nat.zero_add]; exact this
   ·have:=h0 2 _ rfl; rw [Nat.zero_add]; exact this
theorem Nn {w:World} {base:Nat} {v:Value} {ts:aJ} (h:w.ownsRow base 138 3 v ts.length (Tk.cellsOf ts)): ∃ao cap,v= .slice ao ts.length cap∧qG w w.heap.size ts ao 0:=by
 rcases h.2 with ⟨h1,h2⟩ | ⟨g,cap,cur,h1,hB,hg,hc,-,hs,ht⟩
 ·have:ts=[]:=by
   cases ts with
   | nil=>rfl
   | cons t r=>simp at h2
  subst this
  exact ⟨none,0,h1,trivial⟩
 ·refine ⟨some ⟨g,0,none⟩,cap,h1,JN (ts:=ts) (Array.getElem?_eq_some_iff.1 hg).1 ts 0 (fun i t hi j u hu=> ?_)⟩
  have hF:=flat_get SQ ts i t j u hi hu
  have hF':(Tk.cellsOf ts)[i * 3 + j]? =some u:=hF
  rw [← ht] at hF'
  have hlt:=(List.getElem?_eq_some_iff.1 hF').1
  rw [List.getElem?_take_of_lt (by rw [List.length_take] at hlt; omega)] at hF'
  rw [Nat.zero_add]
  exact aB hg (by rw [← hF']; simp)
def Gu (N:Nat) (w:World) (r:Pr × Int × Int) (e:Ending) (w':World):Prop:=
 ∃aK aG aM aH,e= .returned (.tuple #[.agg #[.slice aK r.1.ds.length aG,.slice aM r.1.ts.length aH],.int .i64 r.2.1,.int .i64 r.2.2])∧(r.1.ds.length≤4096∧r.1.ts.length≤4096∧r.1.ds.length≤aG∧r.1.ts.length≤aH)∧(ig w' w'.heap.size r.1.ds aK 0∧gJ w' w'.heap.size r.1.ts aM 0)∧Below w.heap.size w w'∧(N≤4096→r.2.1≠0→1≤r.2.2)
theorem MN {s:List UInt8} (h: ¬ (Tk.scan s).2.1=0):parse s=((⟨[],[]⟩:Pr),((Tk.scan s).2.1:Int),((Tk.scan s).2.2:Int)):=by unfold parse; rw [if_neg h]
theorem PI {s:List UInt8} {rest:aJ} (h:(Tk.scan s).2.1=0) (h1:prog (Tk.scan s).1= .no rest):parse s=(⟨[],[]⟩,3,ji (Tk.scan s).1 rest):=by unfold parse; rw [if_pos h,h1]
theorem Nk {s:List UInt8} {p:Pr} {rest:aJ} (h:(Tk.scan s).2.1=0) (h1:prog (Tk.scan s).1= .ok p rest) (h2:(p.ts.isEmpty || !rest.isEmpty)=true):parse s=(⟨[],[]⟩,3,ji (Tk.scan s).1 rest):=by
 unfold parse; rw [if_pos h,h1]; exact if_pos h2
theorem LQ {s:List UInt8} {p:Pr} {rest:aJ} (h:(Tk.scan s).2.1=0) (h1:prog (Tk.scan s).1= .ok p rest) (h2:(p.ts.isEmpty || !rest.isEmpty)=false):parse s=(p,0,0):=by
 unfold parse; rw [if_pos h,h1]; exact if_neg (by rw [h2]; decide)
theorem Iu {ts rest:aJ} (h: ∀t ∈ ts,TL 4097 t) {pos:Nat} (hd:ts.drop pos=rest):(1:Int)≤ji ts rest:=by
 unfold ji
 cases rest with
 | cons t r=>
   have:=(h t (List.mem_of_mem_drop (by rw [hd]; exact List.mem_cons_self))).1.1
   dsimp only; omega
 | nil=>
   dsimp only
   cases hl:ts.getLast? with
   | none=>decide
   | some t=>have:=(h t (List.mem_of_getLast? hl)).1.1; dsimp only; omega
theorem EJ {N:Nat} {w W:World} {r:Pr × Int × Int} {n l:Int} (e:r=(⟨[],[]⟩,n,l)) (hb:Below w.heap.size w W) (hln:N≤4096→n≠0→1≤l):Gu N w r (.returned (.tuple #[.agg #[.slice none 0 0,.slice none 0 0],.int .i64 n,.int .i64 l])) W:=by
 subst e
 exact ⟨none,0,none,0,rfl,⟨Nat.zero_le _,Nat.zero_le _,Nat.le_refl _,Nat.le_refl _⟩,⟨trivial,trivial⟩,hb,hln⟩
theorem V9 {w W:World} {res:Pr × Int × Int} {p:Pr} {a a':Option Addr} {n c n' c':Nat} (e:res=(p,0,0)) (hn:n=p.ds.length) (hn':n'=p.ts.length) (hl:n≤4096∧n'≤4096∧n≤c∧n'≤c') (hst:ig W W.heap.size p.ds a 0∧gJ W W.heap.size p.ts a' 0) (hb:Below w.heap.size w W) {N:Nat} :
 Gu N w res (.returned (.tuple #[.agg #[.slice a n c,.slice a' n' c'],.int .i64 0,.int .i64 0])) W:=by
 subst e; subst hn; subst hn'
 exact ⟨a,c,a',c',rfl,hl,hst,hb,fun _ h=>absurd rfl h⟩
def Xg (R:Rp) (w:World) (ts:aJ) (res:Pr × Int × Int) (e:Ending) (w':World):Prop:=
 ∃(r:aJ) (a:Option Addr) (n c:Nat) (a':Option Addr) (n' c':Nat) (b:Bool),e= .returned (.tuple #[.agg #[.slice a n c,.slice a' n' c'],.bool b])∧bf w' R r∧w.grownBy w' (some R.br)∧
  ((b && r.isEmpty)=false→res=(⟨[],[]⟩,3,ji ts r))∧
  ((b && r.isEmpty)=true→ ∃p:Pr,res=(p,0,0)∧n=p.ds.length∧n'=p.ts.length∧(n≤4096∧n'≤4096∧n≤c∧n'≤c')∧eH w.heap.size w' (fun w2=>ig w2 w2.heap.size p.ds a 0∧gJ w2 w2.heap.size p.ts a' 0))
theorem Xy {R:Rp} {w w':World} {ts:aJ} {res:Pr × Int × Int} {e:Ending} {pr:bK Pr}
 (h2: ∀rest,pr= .no rest→res=(⟨[],[]⟩,3,ji ts rest))
 (h3: ∀p rest,pr= .ok p rest→(p.ts.isEmpty || !rest.isEmpty)=true→res=(⟨[],[]⟩,3,ji ts rest))
 (h4: ∀p rest,pr= .ok p rest→(p.ts.isEmpty || !rest.isEmpty)=false→res=(p,0,0)) (h:Ls R w pr e w'):Xg R w ts res e w':=by
 cases pr with
 | no r=>
   obtain ⟨⟨a,n,c,a',n',c',he⟩,hr,hg⟩:=h
   exact ⟨r,a,n,c,a',n',c',false,he,hr,hg,fun _=>h2 r rfl,fun h=>by simp at h⟩
 | ok p r=>
   obtain ⟨⟨aK,aG,aM,aH,he,hl,hst⟩,hr,hg⟩:=h
   refine ⟨r,aK,_,aG,aM,_,aH,_,he,hr,hg,fun h=>h3 p r rfl ?_,fun h=>⟨p,h4 p r rfl ?_,rfl,rfl,hl,hst⟩⟩
   ·cases hp:p.ts.isEmpty <;> cases hq:r.isEmpty <;> simp_all
   ·cases hp:p.ts.isEmpty <;> cases hq:r.isEmpty <;> simp_all
def Ei (w:World) (ao:Option Addr) (cap:Nat) (ts:aJ):Rp:=⟨w.heap.size,w.heap.size,ao,cap,ts,Nat.le_refl _⟩
theorem Vu {w W:World} {ao:Option Addr} {cap:Nat} {ts:aJ} (hW:w.alloc (.cells #[.slice ao ts.length cap,.int .i64 0] 82)=W) (ht:qG w w.heap.size ts ao 0) (ok: ∀t ∈ ts,K7 t) (tl:(∀t ∈ ts,TL 4097 t)∧ts.length≤4096):bf W (Ei w ao cap ts) ts:=by
 subst hW
 exact ⟨⟨0,Nat.zero_le _,rfl,heap_alloc_new _ _⟩,ht.below (aj _ _),⟨ok,tl.2⟩,tl.1⟩
set_option maxHeartbeats 4000000 in
set_option maxRecDepth 100000 in
theorem OD (s:ByteArray) (w:World) (dI:dw w) (hm:s.size≤maxLen):
 Calls Tryz.prog 11 #[.string s] w (Gu s.size w (parse s.data.toList)):=by
 have gU:=Lib.hid dI
 have Z7:=Lib.hid (SV s.data.toList)
 have Eh:=Lib.hid (Sr s.data.toList)
 obtain ⟨res,oG⟩: ∃res,Hid (parse s.data.toList=res):=⟨_,Lib.hid rfl⟩
 have vY:Hid (¬ (Tk.scan s.data.toList).2.1=0→res=((⟨[],[]⟩:Pr),((Tk.scan s.data.toList).2.1:Int),((Tk.scan s.data.toList).2.2:Int))):=Lib.hid (fun h=>oG.out.symm.trans (MN h))
 have HE2:Hid (∀rest,(Tk.scan s.data.toList).2.1=0→prog (Tk.scan s.data.toList).1= .no rest→res=(⟨[],[]⟩,3,ji (Tk.scan s.data.toList).1 rest)):=Lib.hid (fun rest h h1=>oG.out.symm.trans (PI h h1))
 have jQ:Hid (∀p rest,(Tk.scan s.data.toList).2.1=0→prog (Tk.scan s.data.toList).1= .ok p rest→(p.ts.isEmpty || !rest.isEmpty)=true→res=(⟨[],[]⟩,3,ji (Tk.scan s.data.toList).1 rest)):=Lib.hid (fun p rest h h1 h2=>oG.out.symm.trans (Nk h h1 h2))
 have uT:Hid (∀p rest,(Tk.scan s.data.toList).2.1=0→prog (Tk.scan s.data.toList).1= .ok p rest→(p.ts.isEmpty || !rest.isEmpty)=false→res=(p,0,0)):=Lib.hid (fun p rest h h1 h2=>oG.out.symm.trans (LQ h h1 h2))
 have Yo:Hid (∀w,dw w→Calls Tryz.prog 26 #[.string s] w (Ib w (Tk.scan s.data.toList))):=Lib.hid (fun w h=>Q5 s w h hm)
 rw [oG.out]
 clear oG dI hm
 generalize Tk.scan s.data.toList=sc at *
 go_enter Tryz.func11,Tryz.ntmps11
 go_upto_region 1 with fail
 generalize hW:World.alloc w _=W0
 have HB0:Hid (Below w.heap.size w W0):=Lib.hid (by rw [← hW]; exact aj _ _)
 have HZ0:Hid (W0.heap[w.heap.size]? =some (.cells KF 25 (0,0))):=Lib.hid (by rw [← hW]; exact heap_alloc_new _ _)
 clear hW
 go_wp2_with fail
 refine (Yo.out _ (gU.out.same HB0.out)).mono ?_
 rintro e w1 ⟨v,rfl,hown,hb⟩
 obtain ⟨ao,cap,rfl,htk⟩:=Nn hown
 have KT:=Lib.hid htk
 have HB1:=Lib.hid (HB0.out.trans (hb.mono HB0.out.size))
 have HZ1:=Lib.hid ((hb.block _ (Array.getElem?_eq_some_iff.1 HZ0.out).1).trans HZ0.out)
 clear hown hb htk Yo HB0 HZ0
 have y0:w1.cell? ⟨w.heap.size,0,none⟩=some (.slice none 0 0):=aB HZ1.out rfl
 have y1:w1.cell? ⟨w.heap.size,1,none⟩=some (.slice none 0 0):=aB HZ1.out rfl
 have f0:w1.frozen? ⟨w.heap.size,0,none⟩=false:=bH HZ1.out
 have f1:w1.frozen? ⟨w.heap.size,1,none⟩=false:=bH HZ1.out
 have hlt:w.heap.size < w1.heap.size:=(Array.getElem?_eq_some_iff.1 HZ1.out).1
 by_cases h0:sc.2.1=0
 ·have AP:Hid (∀(R:Rp) (wr:World),bf wr R sc.1→Calls Tryz.prog 27 #[.pointer (some ⟨R.br,0,none⟩)] wr (Xg R wr sc.1 res)):=Lib.hid (fun R wr h=>(Jk R sc.1 wr h).mono (fun e w' hp=>Xy (fun r=>HE2.out r h0) (fun p r=>jQ.out p r h0) (fun p r=>uT.out p r h0) hp))
  have Vz:=Lib.hid (And.intro Eh.out.1 Eh.out.2.1)
  rw [h0]
  go_upto_region 5 with fail
  generalize hW:World.alloc w1 _=W1
  have HR1:=Lib.hid (Vu hW KT.out Z7.out Vz.out)
  have HB2:Hid (Below w.heap.size w W1):=Lib.hid (by rw [← hW]; exact HB1.out.trans ((aj w1 _).mono HB1.out.size))
  have HZ2:Hid (W1.heap[w.heap.size]? =some (.cells KF 25 (0,0))):=Lib.hid (by rw [← hW]; exact ((aj w1 _).block _ hlt).trans HZ1.out)
  clear hW y0 y1 f0 f1 vY HE2 jQ uT Eh Z7 gU KT Vz HB1 HZ1
  go_wp2_with fail
  refine (AP.out _ _ HR1.out).mono ?_
  rintro e w2 ⟨r,a,n,c,a',n',c',b,rfl,h1,h2,h3,h4⟩
  go_upto_region 6 with fail
  generalize hW:World.alloc w2 _=W3
  have H3:=Lib.hid h3
  have H4:=Lib.hid h4
  have HG:=Lib.hid h2
  have HB3:Hid (Below w.heap.size w W3):=Lib.hid (by rw [← hW]; exact (HB2.out.trans (dB h2 (Nat.le_of_lt hlt) HB2.out.size)).trans ((aj w2 _).mono (Nat.le_trans HB2.out.size h2.size)))
  have LK:Hid (Below w2.heap.size w2 W3):=Lib.hid (by rw [← hW]; exact aj w2 _)
  have HR3:Hid (bf W3 (Ei w1 ao cap sc.1) r):=Lib.hid (h1.below LK.out)
  have HZ3:Hid (W3.heap[w.heap.size]? =some (.cells KF 25 (0,0))):=Lib.hid (by
   have k1:=(Array.getElem?_eq_some_iff.1 HZ2.out).1
   exact (LK.out.block _ (Nat.lt_of_lt_of_le k1 h2.size)).trans ((h2.block _ k1 (by simp [Ei]; omega)).trans HZ2.out))
  have HD3:Hid (W3.heap[w2.heap.size]? =some (.cells #[.slice a n c,.slice a' n' c'] 25 (0,0))):=Lib.hid (by rw [← hW]; exact heap_alloc_new _ _)
  obtain ⟨pos,hpos,hdrop,c0,c1⟩:=HR3.out.pos
  have c0:W3.cell? ⟨w1.heap.size,0,none⟩=some (.slice ao sc.1.length cap):=c0
  have c1:W3.cell? ⟨w1.heap.size,1,none⟩=some (.int .i64 (pos:Int)):=c1
  have hpos:pos≤sc.1.length:=hpos
  have hdrop:sc.1.drop pos=r:=hdrop
  have hlt3:w.heap.size < W3.heap.size:=(Array.getElem?_eq_some_iff.1 HZ3.out).1
  have XI:b=false∨(b=true∧r.isEmpty=false∧pos < sc.1.length)∨(b=true∧r.isEmpty=true∧ ¬ pos < sc.1.length):=by
   cases b
   ·exact .inl rfl
   ·right
    cases hr:r with
    | nil=>rw [hr] at hdrop; have:=List.drop_eq_nil_iff.1 hdrop; exact .inr ⟨rfl,rfl,by omega⟩
    | cons t q=>rw [hr] at hdrop; have:=congrArg List.length hdrop; simp at this; exact .inl ⟨rfl,rfl,by omega⟩
  have hltW:w.heap.size < W1.heap.size:=(Array.getElem?_eq_some_iff.1 HZ2.out).1
  clear hW h1 h2 h3 h4 AP HR1 HZ2 hpos hdrop
  rcases XI with hb | ⟨hb,hr,hq⟩ | ⟨hb,hr,hq⟩
  ·subst hb
   go_quiet (fail)
   generalize su:World.drewN W3 _=W4
   have eX:Hid (Below W3.heap.size W3 W4):=Lib.hid (by rw [← su]; exact below_drewN (Below.refl _ _) _)
   clear su
   have HR4:=Lib.hid (HR3.out.below eX.out)
   go_wp2_with fail
   refine (Im _ r _ HR4.out).mono ?_
   rintro e w5 ⟨rfl,hb5⟩
   have mR:=Lib.hid (HB3.out.trans ((eX.out.trans (hb5.mono eX.out.size)).mono HB3.out.size))
   have nZ:=Lib.hid ((hb5.block _ (Nat.lt_of_lt_of_le hlt3 eX.out.size)).trans ((eX.out.block _ hlt3).trans HZ3.out))
   clear hb5
   have y0:w5.cell? ⟨w.heap.size,0,none⟩=some (.slice none 0 0):=aB nZ.out rfl
   have y1:w5.cell? ⟨w.heap.size,1,none⟩=some (.slice none 0 0):=aB nZ.out rfl
   have f0:w5.frozen? ⟨w.heap.size,0,none⟩=false:=bH nZ.out
   have f1:w5.frozen? ⟨w.heap.size,1,none⟩=false:=bH nZ.out
   have kH:w.heap.size < w5.heap.size:=(Array.getElem?_eq_some_iff.1 nZ.out).1
   have lq:=Lib.hid (H3.out rfl)
   go_wp2_with fail
   exact bodyPost_ret (v:= .tuple #[.agg #[.slice none 0 0,.slice none 0 0],.int .i64 3,.int .i64 (ji sc.1 r)]) (by simp [results,Tryz.results11,go_sem,y0,y1,kH,Ei]) rfl (EJ lq.out (iR (iR mR.out _ _ (Nat.le_refl _)) _ _ (Nat.le_refl _)) (fun _ _=>by obtain ⟨q,_,hq,_⟩:=HR4.out.blk; exact Iu HR4.out.tl hq))
  ·subst hb
   go_quiet (fail)
   generalize su:World.drewN W3 _=W4
   have eX:Hid (Below W3.heap.size W3 W4):=Lib.hid (by rw [← su]; exact below_drewN (Below.refl _ _) _)
   clear su
   have HR4:=Lib.hid (HR3.out.below eX.out)
   go_wp2_with fail
   refine (Im _ r _ HR4.out).mono ?_
   rintro e w5 ⟨rfl,hb5⟩
   have mR:=Lib.hid (HB3.out.trans ((eX.out.trans (hb5.mono eX.out.size)).mono HB3.out.size))
   have nZ:=Lib.hid ((hb5.block _ (Nat.lt_of_lt_of_le hlt3 eX.out.size)).trans ((eX.out.block _ hlt3).trans HZ3.out))
   clear hb5
   have y0:w5.cell? ⟨w.heap.size,0,none⟩=some (.slice none 0 0):=aB nZ.out rfl
   have y1:w5.cell? ⟨w.heap.size,1,none⟩=some (.slice none 0 0):=aB nZ.out rfl
   have f0:w5.frozen? ⟨w.heap.size,0,none⟩=false:=bH nZ.out
   have f1:w5.frozen? ⟨w.heap.size,1,none⟩=false:=bH nZ.out
   have kH:w.heap.size < w5.heap.size:=(Array.getElem?_eq_some_iff.1 nZ.out).1
   have lq:=Lib.hid (H3.out (by rw [hr]; rfl))
   go_wp2_with fail
   exact bodyPost_ret (v:= .tuple #[.agg #[.slice none 0 0,.slice none 0 0],.int .i64 3,.int .i64 (ji sc.1 r)]) (by simp [results,Tryz.results11,go_sem,y0,y1,kH,Ei]) rfl (EJ lq.out (iR (iR mR.out _ _ (Nat.le_refl _)) _ _ (Nat.le_refl _)) (fun _ _=>by obtain ⟨q,_,hq,_⟩:=HR4.out.blk; exact Iu HR4.out.tl hq))
  ·subst hb
   obtain ⟨p,hres,hn,hn',hl,hst⟩:=H4.out (by rw [hr]; rfl)
   have HP:=Lib.hid (And.intro hres (And.intro hn (And.intro hn' (And.intro hl hst))))
   clear hres hn hn' hl hst
   go_quiet (fail)
   generalize su:World.drewN W3 _=W4
   have eX:Hid (Below W3.heap.size W3 W4):=Lib.hid (by rw [← su]; exact below_drewN (Below.refl _ _) _)
   clear su
   have iD:=Lib.hid ((eX.out.block _ hlt3).trans HZ3.out)
   have HD4:=Lib.hid ((eX.out.block _ (Array.getElem?_eq_some_iff.1 HD3.out).1).trans HD3.out)
   have y0:W4.cell? ⟨w.heap.size,0,none⟩=some (.slice none 0 0):=aB iD.out rfl
   have y1:W4.cell? ⟨w.heap.size,1,none⟩=some (.slice none 0 0):=aB iD.out rfl
   have f0:W4.frozen? ⟨w.heap.size,0,none⟩=false:=bH iD.out
   have f1:W4.frozen? ⟨w.heap.size,1,none⟩=false:=bH iD.out
   have d0:W4.cell? ⟨w2.heap.size,0,none⟩=some (.slice a n c):=aB HD4.out rfl
   have d1:W4.cell? ⟨w2.heap.size,1,none⟩=some (.slice a' n' c'):=aB HD4.out rfl
   have Qc:w.heap.size < W4.heap.size:=(Array.getElem?_eq_some_iff.1 iD.out).1
   go_wp2_with fail
   obtain ⟨hres,hn,hn',hl,hst⟩:=HP.out
   have hfin:jf W1.heap.size w2 ((W4.setCell ⟨w.heap.size,0,none⟩ (.slice a n c)).setCell ⟨w.heap.size,1,none⟩ (.slice a' n' c')):=
    ((bU (B:=W1.heap.size) (LK.out.trans (eX.out.mono LK.out.size))).trans (gK W4 _ _ hltW)).trans (gK _ _ _ hltW)
   exact bodyPost_ret (v:= .tuple #[.agg #[.slice a n c,.slice a' n' c'],.int .i64 0,.int .i64 0]) (by simp [results,Tryz.results11,go_sem,y0,y1,Qc]) rfl (V9 hres hn hn' hl (hst.next hfin).now (iR (iR (HB3.out.trans (eX.out.mono HB3.out.size)) _ _ (Nat.le_refl _)) _ _ (Nat.le_refl _)))
 ·have hq:(((sc.2.1:Nat):Int) == 0)=false:=by rw [beq_eq_false_iff_ne]; omega
  have lq:=Lib.hid (vY.out h0)
  go_wp2_with fail
  exact bodyPost_ret (v:= .tuple #[.agg #[.slice none 0 0,.slice none 0 0],.int .i64 (sc.2.1:Int),.int .i64 (sc.2.2:Int)]) (by simp [results,Tryz.results11,go_sem,y0,y1,hlt]) rfl (EJ lq.out (iR (iR HB1.out _ _ (Nat.le_refl _)) _ _ (Nat.le_refl _)) (fun hn h=>by have:=Eh.out.2.2 h0 (by rw [← Lib.size_eq]; exact hn); omega))
end Go.Proofs.YtdajkddgnfgijaaGreatDoor
