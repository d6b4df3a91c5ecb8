/- Contracts of parse.Parse and parse.Expr. -/
import Derived.Test.YtgjmahnblcajbaaGreatDoorGRE
import Derived.Test.YtgjmahnblcajbaaGreatDoorGTC
set_option linter.unusedSimpArgs false
set_option linter.unusedVariables false
set_option maxHeartbeats 40000000
set_option maxRecDepth 1000000
namespace Go.Proofs.YtgjmahnblcajbaaGreatDoor
open Go.RowKit
open Md Pz
theorem ZU (t:Tk.Tok):(Tk.Tok.cells t).length=3:=rfl
theorem QH {w:World} {g B:Nat} {ts:aA} (hB:g < B): ∀(l:aA) (k:Nat),(∀i t,l[i]? =some t-> ∀j u,(Tk.Tok.cells t)[j]? =some u->w.cell? ⟨g,(k + i) * 3 + j,none⟩=some u)->tC w B l (some ⟨g,0,none⟩) k
 | [],_,_=>trivial
 | t ::r,k,h=>by
   have h0:=h 0 t rfl;refine ⟨⟨g,0,rfl,hB,?_,?_,?_⟩,QH (ts:=ts) hB r (k + 1) (fun i t' ht j u hu=>by rw [show k + 1 + i=k + (i + 1) by omega]; exact h (i + 1) t' (by simpa using ht) j u hu)⟩
   ·have:=h0 0 _ rfl; rw [Nat.zero_add]; exact this
   ·have:=h0 1 _ rfl; rw [Nat.zero_add]; exact this
   ·have:=h0 2 _ rfl; rw [Nat.zero_add]; exact this
theorem Ve {w:World} {base:Nat} {v:Value} {ts:aA} (h:w.ownsRow base 145 3 v ts.length (Tk.cellsOf ts)): ∃ao cap,v= .slice ao ts.length cap∧tC w w.heap.size ts ao 0:=by
 rcases h.2 with ⟨h1,h2⟩ | ⟨g,cap,cur,h1,hB,hg,hc,-,hs,ht⟩
 ·have:ts=[]:=by
   cases ts with
   | nil=>rfl
   | cons t r=>simp at h2
  subst this;exact ⟨none,0,h1,trivial⟩
 ·refine ⟨some ⟨g,0,none⟩,cap,h1,QH (ts:=ts) (Array.getElem?_eq_some_iff.1 hg).1 ts 0 (fun i t hi j u hu=> ?_)⟩;have hF:=flat_get ZU ts i t j u hi hu;have hF':(Tk.cellsOf ts)[i * 3 + j]? =some u:=hF;rw [<- ht] at hF';have hlt:=(List.getElem?_eq_some_iff.1 hF').1;rw [List.getElem?_take_of_lt (by rw [List.length_take] at hlt; omega)] at hF';rw [Nat.zero_add];exact ak hg (by rw [<- hF']; simp)
def JD (N:Nat) (w:World) (r:Pr × Int × Int) (e:Ending) (w':World):Prop:=
 ∃aG aB aH aD,e= .returned (.tuple #[.agg #[.slice aG r.1.ds.length aB,.slice aH r.1.ts.length aD],.int .i64 r.2.1,.int .i64 r.2.2])∧(r.1.ds.length<=4096∧r.1.ts.length<=4096∧r.1.ds.length<=aB∧r.1.ts.length<=aD)∧(gQ w' w'.heap.size r.1.ds aG 0∧gF w' w'.heap.size r.1.ts aH 0)∧Below w.heap.size w w'∧(N<=4096->r.2.1≠0->1<=r.2.2)
theorem UO {s:List UInt8} (h: ¬ (Tk.scan s).2.1=0):parse s=((⟨[],[]⟩:Pr),((Tk.scan s).2.1:Int),((Tk.scan s).2.2:Int)):=by unfold parse; rw [if_neg h]
theorem Xb {s:List UInt8} {rest:aA} (h:(Tk.scan s).2.1=0) (h1:prog (Tk.scan s).1= .no rest):parse s=(⟨[],[]⟩,3,jM (Tk.scan s).1 rest):=by unfold parse; rw [if_pos h,h1]
theorem UN {s:List UInt8} {p:Pr} {rest:aA} (h:(Tk.scan s).2.1=0) (h1:prog (Tk.scan s).1= .ok p rest) (h2:(p.ts.isEmpty || !rest.isEmpty)=true):parse s=(⟨[],[]⟩,3,jM (Tk.scan s).1 rest):=by
 unfold parse; rw [if_pos h,h1]; exact if_pos h2
theorem Sj {s:List UInt8} {p:Pr} {rest:aA} (h:(Tk.scan s).2.1=0) (h1:prog (Tk.scan s).1= .ok p rest) (h2:(p.ts.isEmpty || !rest.isEmpty)=false):parse s=(p,0,0):=by
 unfold parse; rw [if_pos h,h1]; exact if_neg (by rw [h2]; decide)
theorem Oe {ts rest:aA} (h: ∀t ∈ ts,TL 4097 t) {pos:Nat} (hd:ts.drop pos=rest):(1:Int)<=jM ts rest:=by
 unfold jM;cases rest with
 | cons t r=>have:=(h t (List.mem_of_mem_drop (by rw [hd]; exact List.mem_cons_self))).1.1;dsimp only; omega
 | nil=>
   dsimp only;cases hl:ts.getLast? with
   | none=>decide
   | some t=>have:=(h t (List.mem_of_getLast? hl)).1.1; dsimp only; omega
theorem K5 {N:Nat} {w W:World} {r:Pr × Int × Int} {n l:Int} (e:r=(⟨[],[]⟩,n,l)) (hb:Below w.heap.size w W) (hln:N<=4096->n≠0->1<=l):JD N w r (.returned (.tuple #[.agg #[.slice none 0 0,.slice none 0 0],.int .i64 n,.int .i64 l])) W:=by
 subst e;exact ⟨none,0,none,0,rfl,⟨Nat.zero_le _,Nat.zero_le _,Nat.le_refl _,Nat.le_refl _⟩,⟨trivial,trivial⟩,hb,hln⟩
theorem ap3 {w W:World} {res:Pr × Int × Int} {p:Pr} {a a':Option Addr} {n c n' c':Nat} (e:res=(p,0,0)) (hn:n=p.ds.length) (hn':n'=p.ts.length) (hl:n<=4096∧n'<=4096∧n<=c∧n'<=c') (hst:gQ W W.heap.size p.ds a 0∧gF W W.heap.size p.ts a' 0) (hb:Below w.heap.size w W) {N:Nat} :
 JD N w res (.returned (.tuple #[.agg #[.slice a n c,.slice a' n' c'],.int .i64 0,.int .i64 0])) W:=by
 subst e; subst hn; subst hn';exact ⟨a,c,a',c',rfl,hl,hst,hb,fun _ h=>absurd rfl h⟩
def af9 (R:Rp) (w:World) (ts:aA) (res:Pr × Int × Int) (e:Ending) (w':World):Prop:=
 ∃(r:aA) (a:Option Addr) (n c:Nat) (a':Option Addr) (n' c':Nat) (b:Bool),e= .returned (.tuple #[.agg #[.slice a n c,.slice a' n' c'],.bool b])∧aR w' R r∧w.grownBy w' (some R.br)∧
  ((b && r.isEmpty)=false->res=(⟨[],[]⟩,3,jM ts r))∧
  ((b && r.isEmpty)=true-> ∃p:Pr,res=(p,0,0)∧n=p.ds.length∧n'=p.ts.length∧(n<=4096∧n'<=4096∧n<=c∧n'<=c')∧eB w.heap.size w' (fun w2=>gQ w2 w2.heap.size p.ds a 0∧gF w2 w2.heap.size p.ts a' 0))
theorem av2 {R:Rp} {w w':World} {ts:aA} {res:Pr × Int × Int} {e:Ending} {pr:bn Pr}
 (h2: ∀rest,pr= .no rest->res=(⟨[],[]⟩,3,jM ts rest))
 (h3: ∀p rest,pr= .ok p rest->(p.ts.isEmpty || !rest.isEmpty)=true->res=(⟨[],[]⟩,3,jM ts rest))
 (h4: ∀p rest,pr= .ok p rest->(p.ts.isEmpty || !rest.isEmpty)=false->res=(p,0,0)) (h:R3 R w pr e w'):af9 R w ts res e w':=by
 cases pr with
 | no r=>obtain ⟨⟨a,n,c,a',n',c',he⟩,hr,hg⟩:=h;exact ⟨r,a,n,c,a',n',c',false,he,hr,hg,fun _=>h2 r rfl,fun h=>by simp at h⟩
 | ok p r=>
   obtain ⟨⟨aG,aB,aH,aD,he,hl,hst⟩,hr,hg⟩:=h;refine ⟨r,aG,_,aB,aH,_,aD,_,he,hr,hg,fun h=>h3 p r rfl ?_,fun h=>⟨p,h4 p r rfl ?_,rfl,rfl,hl,hst⟩⟩
   ·cases hp:p.ts.isEmpty <;> cases hq:r.isEmpty <;> simp_all
   ·cases hp:p.ts.isEmpty <;> cases hq:r.isEmpty <;> simp_all
def Jd (w:World) (ao:Option Addr) (cap:Nat) (ts:aA):Rp:=⟨w.heap.size,w.heap.size,ao,cap,ts,Nat.le_refl _⟩
theorem ar1 {w W:World} {ao:Option Addr} {cap:Nat} {ts:aA} (hW:w.alloc (.cells #[.slice ao ts.length cap,.int .i64 0] 119)=W) (ht:tC w w.heap.size ts ao 0) (ok: ∀t ∈ ts,Q5 t) (tl:(∀t ∈ ts,TL 4097 t)∧ts.length<=4096):aR W (Jd w ao cap ts) ts:=by
 subst hW;exact ⟨⟨0,Nat.zero_le _,rfl,heap_alloc_new _ _⟩,ht.below (au _ _),⟨ok,tl.2⟩,tl.1⟩
theorem Tz (s:ByteArray) (w:World) (dH:cB w) (hm:s.size<=maxLen):
 Calls Tryz.prog 44 #[.string s] w (JD s.size w (parse s.data.toList)):=by
 have gV:=ah dH;have Ih:=ah (ZC s.data.toList);have El:=ah (ZE s.data.toList);obtain ⟨res,qd⟩: ∃res,aj (parse s.data.toList=res):=⟨_,ah rfl⟩;have kG:aj (¬ (Tk.scan s.data.toList).2.1=0->res=((⟨[],[]⟩:Pr),((Tk.scan s.data.toList).2.1:Int),((Tk.scan s.data.toList).2.2:Int))):=ah (fun h=>qd.o.symm.trans (UO h));have HE2:aj (∀rest,(Tk.scan s.data.toList).2.1=0->prog (Tk.scan s.data.toList).1= .no rest->res=(⟨[],[]⟩,3,jM (Tk.scan s.data.toList).1 rest)):=ah (fun rest h h1=>qd.o.symm.trans (Xb h h1));have iy:aj (∀p rest,(Tk.scan s.data.toList).2.1=0->prog (Tk.scan s.data.toList).1= .ok p rest->(p.ts.isEmpty || !rest.isEmpty)=true->res=(⟨[],[]⟩,3,jM (Tk.scan s.data.toList).1 rest)):=ah (fun p rest h h1 h2=>qd.o.symm.trans (UN h h1 h2));have qE:aj (∀p rest,(Tk.scan s.data.toList).2.1=0->prog (Tk.scan s.data.toList).1= .ok p rest->(p.ts.isEmpty || !rest.isEmpty)=false->res=(p,0,0)):=ah (fun p rest h h1 h2=>qd.o.symm.trans (Sj h h1 h2));have HSN:aj (∀w,cB w->Calls Tryz.prog 66 #[.string s] w (MW w (Tk.scan s.data.toList))):=ah (fun w h=>VK s w h hm);rw [qd.o];clear qd dH hm;generalize Tk.scan s.data.toList=sc at *;go_enter Tryz.func44,Tryz.ntmps44;go_upto_region 1 with fail;generalize hW:World.alloc w _=W0;have HB0:aj (Below w.heap.size w W0):=ah (by rw [<- hW]; exact au _ _);have HZ0:aj (W0.heap[w.heap.size]? =some (.cells QO 38 (0,0))):=ah (by rw [<- hW]; exact heap_alloc_new _ _);clear hW;go_wp2_with fail;refine (HSN.o _ (gV.o.same HB0.o)).mono ?_;rintro e w1 ⟨v,rfl,hown,hb⟩;obtain ⟨ao,cap,rfl,htk⟩:=Ve hown;have PU:=ah htk;have HB1:=ah (HB0.o.trans (hb.mono HB0.o.size));have HZ1:=ah ((hb.block _ (Array.getElem?_eq_some_iff.1 HZ0.o).1).trans HZ0.o);clear hown hb htk HSN HB0 HZ0;have y0:w1.cell? ⟨w.heap.size,0,none⟩=some (.slice none 0 0):=ak HZ1.o rfl;have y1:w1.cell? ⟨w.heap.size,1,none⟩=some (.slice none 0 0):=ak HZ1.o rfl;have f0:w1.frozen? ⟨w.heap.size,0,none⟩=false:=aU HZ1.o;have f1:w1.frozen? ⟨w.heap.size,1,none⟩=false:=aU HZ1.o;have hlt:w.heap.size < w1.heap.size:=(Array.getElem?_eq_some_iff.1 HZ1.o).1;by_cases h0:sc.2.1=0
 ·have Ee:aj (∀(R:Rp) (wr:World),aR wr R sc.1->Calls Tryz.prog 67 #[.pointer (some ⟨R.br,0,none⟩)] wr (af9 R wr sc.1 res)):=ah (fun R wr h=>(Pn R sc.1 wr h).mono (fun e w' hp=>av2 (fun r=>HE2.o r h0) (fun p r=>iy.o p r h0) (fun p r=>qE.o p r h0) hp));have af2:=ah (And.intro El.o.1 El.o.2.1);rw [h0];go_upto_region 5 with fail;generalize hW:World.alloc w1 _=W1;have HR1:=ah (ar1 hW PU.o Ih.o af2.o);have HB2:aj (Below w.heap.size w W1):=ah (by rw [<- hW]; exact HB1.o.trans ((au w1 _).mono HB1.o.size));have HZ2:aj (W1.heap[w.heap.size]? =some (.cells QO 38 (0,0))):=ah (by rw [<- hW]; exact ((au w1 _).block _ hlt).trans HZ1.o);clear hW y0 y1 f0 f1 kG HE2 iy qE El Ih gV PU af2 HB1 HZ1;go_wp2_with fail;refine (Ee.o _ _ HR1.o).mono ?_;rintro e w2 ⟨r,a,n,c,a',n',c',b,rfl,h1,h2,h3,h4⟩;go_upto_region 6 with fail;generalize hW:World.alloc w2 _=W3;have H3:=ah h3;have H4:=ah h4;have HG:=ah h2;have HB3:aj (Below w.heap.size w W3):=ah (by rw [<- hW]; exact (HB2.o.trans (bK h2 (Nat.le_of_lt hlt) HB2.o.size)).trans ((au w2 _).mono (Nat.le_trans HB2.o.size h2.size)));have QU:aj (Below w2.heap.size w2 W3):=ah (by rw [<- hW]; exact au w2 _);have HR3:aj (aR W3 (Jd w1 ao cap sc.1) r):=ah (h1.below QU.o);have HZ3:aj (W3.heap[w.heap.size]? =some (.cells QO 38 (0,0))):=ah (by have k1:=(Array.getElem?_eq_some_iff.1 HZ2.o).1;exact (QU.o.block _ (Nat.lt_of_lt_of_le k1 h2.size)).trans ((h2.block _ k1 (by simp [Jd]; omega)).trans HZ2.o));have HD3:aj (W3.heap[w2.heap.size]? =some (.cells #[.slice a n c,.slice a' n' c'] 38 (0,0))):=ah (by rw [<- hW]; exact heap_alloc_new _ _);obtain ⟨pos,hpos,hdrop,c0,c1⟩:=HR3.o.pos;have c0:W3.cell? ⟨w1.heap.size,0,none⟩=some (.slice ao sc.1.length cap):=c0;have c1:W3.cell? ⟨w1.heap.size,1,none⟩=some (.int .i64 (pos:Int)):=c1;have hpos:pos<=sc.1.length:=hpos;have hdrop:sc.1.drop pos=r:=hdrop;have hlt3:w.heap.size < W3.heap.size:=(Array.getElem?_eq_some_iff.1 HZ3.o).1;have au4:b=false∨(b=true∧r.isEmpty=false∧pos < sc.1.length)∨(b=true∧r.isEmpty=true∧ ¬ pos < sc.1.length):=by
   cases b
   ·exact .inl rfl
   ·right;cases hr:r with
    | nil=>rw [hr] at hdrop; have:=List.drop_eq_nil_iff.1 hdrop; exact .inr ⟨rfl,rfl,by omega⟩
    | cons t q=>rw [hr] at hdrop; have:=congrArg List.length hdrop; simp at this; exact .inl ⟨rfl,rfl,by omega⟩
  have hltW:w.heap.size < W1.heap.size:=(Array.getElem?_eq_some_iff.1 HZ2.o).1;clear hW h1 h2 h3 h4 Ee HR1 HZ2 hpos hdrop;rcases au4 with hb | ⟨hb,hr,hq⟩ | ⟨hb,hr,hq⟩
  ·subst hb;go_quiet (fail);generalize qR:World.drewN W3 _=W4;have dG:aj (Below W3.heap.size W3 W4):=ah (by rw [<- qR]; exact below_drewN (Below.refl _ _) _);clear qR;have HR4:=ah (HR3.o.below dG.o);go_wp2_with fail;refine (Od _ r _ HR4.o).mono ?_;rintro e w5 ⟨rfl,hb5⟩;have jh:=ah (HB3.o.trans ((dG.o.trans (hb5.mono dG.o.size)).mono HB3.o.size));have pO:=ah ((hb5.block _ (Nat.lt_of_lt_of_le hlt3 dG.o.size)).trans ((dG.o.block _ hlt3).trans HZ3.o));clear hb5;have y0:w5.cell? ⟨w.heap.size,0,none⟩=some (.slice none 0 0):=ak pO.o rfl;have y1:w5.cell? ⟨w.heap.size,1,none⟩=some (.slice none 0 0):=ak pO.o rfl;have f0:w5.frozen? ⟨w.heap.size,0,none⟩=false:=aU pO.o;have f1:w5.frozen? ⟨w.heap.size,1,none⟩=false:=aU pO.o;have lJ:w.heap.size < w5.heap.size:=(Array.getElem?_eq_some_iff.1 pO.o).1;have mG:=ah (H3.o rfl);go_wp2_with fail;exact bodyPost_ret (v:= .tuple #[.agg #[.slice none 0 0,.slice none 0 0],.int .i64 3,.int .i64 (jM sc.1 r)]) (by simp [results,Tryz.results44,go_sem,y0,y1,lJ,Jd]) rfl (K5 mG.o (iH (iH jh.o _ _ (Nat.le_refl _)) _ _ (Nat.le_refl _)) (fun _ _=>by obtain ⟨q,_,hq,_⟩:=HR4.o.blk; exact Oe HR4.o.tl hq))
  ·subst hb;go_quiet (fail);generalize qR:World.drewN W3 _=W4;have dG:aj (Below W3.heap.size W3 W4):=ah (by rw [<- qR]; exact below_drewN (Below.refl _ _) _);clear qR;have HR4:=ah (HR3.o.below dG.o);go_wp2_with fail;refine (Od _ r _ HR4.o).mono ?_;rintro e w5 ⟨rfl,hb5⟩;have jh:=ah (HB3.o.trans ((dG.o.trans (hb5.mono dG.o.size)).mono HB3.o.size));have pO:=ah ((hb5.block _ (Nat.lt_of_lt_of_le hlt3 dG.o.size)).trans ((dG.o.block _ hlt3).trans HZ3.o));clear hb5;have y0:w5.cell? ⟨w.heap.size,0,none⟩=some (.slice none 0 0):=ak pO.o rfl;have y1:w5.cell? ⟨w.heap.size,1,none⟩=some (.slice none 0 0):=ak pO.o rfl;have f0:w5.frozen? ⟨w.heap.size,0,none⟩=false:=aU pO.o;have f1:w5.frozen? ⟨w.heap.size,1,none⟩=false:=aU pO.o;have lJ:w.heap.size < w5.heap.size:=(Array.getElem?_eq_some_iff.1 pO.o).1;have mG:=ah (H3.o (by rw [hr]; rfl));go_wp2_with fail;exact bodyPost_ret (v:= .tuple #[.agg #[.slice none 0 0,.slice none 0 0],.int .i64 3,.int .i64 (jM sc.1 r)]) (by simp [results,Tryz.results44,go_sem,y0,y1,lJ,Jd]) rfl (K5 mG.o (iH (iH jh.o _ _ (Nat.le_refl _)) _ _ (Nat.le_refl _)) (fun _ _=>by obtain ⟨q,_,hq,_⟩:=HR4.o.blk; exact Oe HR4.o.tl hq))
  ·subst hb;obtain ⟨p,hres,hn,hn',hl,hst⟩:=H4.o (by rw [hr]; rfl);have HP:=ah (And.intro hres (And.intro hn (And.intro hn' (And.intro hl hst))));clear hres hn hn' hl hst;go_quiet (fail);generalize qR:World.drewN W3 _=W4;have dG:aj (Below W3.heap.size W3 W4):=ah (by rw [<- qR]; exact below_drewN (Below.refl _ _) _);clear qR;have iN:=ah ((dG.o.block _ hlt3).trans HZ3.o);have HD4:=ah ((dG.o.block _ (Array.getElem?_eq_some_iff.1 HD3.o).1).trans HD3.o);have y0:W4.cell? ⟨w.heap.size,0,none⟩=some (.slice none 0 0):=ak iN.o rfl;have y1:W4.cell? ⟨w.heap.size,1,none⟩=some (.slice none 0 0):=ak iN.o rfl;have f0:W4.frozen? ⟨w.heap.size,0,none⟩=false:=aU iN.o;have f1:W4.frozen? ⟨w.heap.size,1,none⟩=false:=aU iN.o;have d0:W4.cell? ⟨w2.heap.size,0,none⟩=some (.slice a n c):=ak HD4.o rfl;have d1:W4.cell? ⟨w2.heap.size,1,none⟩=some (.slice a' n' c'):=ak HD4.o rfl;have WJ:w.heap.size < W4.heap.size:=(Array.getElem?_eq_some_iff.1 iN.o).1;go_wp2_with fail;obtain ⟨hres,hn,hn',hl,hst⟩:=HP.o;have hfin:jE W1.heap.size w2 ((W4.setCell ⟨w.heap.size,0,none⟩ (.slice a n c)).setCell ⟨w.heap.size,1,none⟩ (.slice a' n' c')):=
    ((bg (B:=W1.heap.size) (QU.o.trans (dG.o.mono QU.o.size))).trans (gX W4 _ _ hltW)).trans (gX _ _ _ hltW)
   exact bodyPost_ret (v:= .tuple #[.agg #[.slice a n c,.slice a' n' c'],.int .i64 0,.int .i64 0]) (by simp [results,Tryz.results44,go_sem,y0,y1,WJ]) rfl (ap3 hres hn hn' hl (hst.next hfin).now (iH (iH (HB3.o.trans (dG.o.mono HB3.o.size)) _ _ (Nat.le_refl _)) _ _ (Nat.le_refl _)))
 ·have hq:(((sc.2.1:Nat):Int) == 0)=false:=by rw [beq_eq_false_iff_ne]; omega
  have mG:=ah (kG.o h0);go_wp2_with fail;exact bodyPost_ret (v:= .tuple #[.agg #[.slice none 0 0,.slice none 0 0],.int .i64 (sc.2.1:Int),.int .i64 (sc.2.2:Int)]) (by simp [results,Tryz.results44,go_sem,y0,y1,hlt]) rfl (K5 mG.o (iH (iH HB1.o _ _ (Nat.le_refl _)) _ _ (Nat.le_refl _)) (fun hn h=>by have:=El.o.2.2 h0 (by rw [<- Lib.size_eq]; exact hn); omega))
end Go.Proofs.YtgjmahnblcajbaaGreatDoor
