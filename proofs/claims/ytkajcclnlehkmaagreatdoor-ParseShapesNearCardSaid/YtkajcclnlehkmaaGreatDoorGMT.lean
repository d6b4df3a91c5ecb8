/- The tape that programs are made of: contracts of Tape.Next, name and binary. And what hangs on it. -/
import Derived.Test.YtkajcclnlehkmaaGreatDoorGMB
import Derived.Test.YtkajcclnlehkmaaGreatDoorGMA
import Derived.IntWalk
import Derived.Outline
import Derived.StillTailTactics
set_option linter.unusedSimpArgs false
set_option linter.unusedVariables false
set_option maxHeartbeats 40000000
set_option maxRecDepth 1000000
namespace Go.Proofs.YtkajcclnlehkmaaGreatDoor
open Go.RowKit
open Md
theorem pF {w:World} {b j:Nat} {cs:Array Value} {t:TypeId} {fr:Nat × Nat} {u:Value} (h:w.heap[b]? =some (.cells cs t fr)) (hu:cs[j]? =some u):b < w.heap.size∧w.cell? ⟨b,j,none⟩=some u:=
 ⟨(Array.getElem?_eq_some_iff.1 h).1,au h hu⟩
theorem KZ {b:Nat} {w1 w2 w3:World} (h:w1.grownBy w2 (some b)) (k:w2.grownBy w3 (some b)):w1.grownBy w3 (some b):=
 ⟨k.os.trans h.os,k.tape.trans h.tape,k.output.trans h.output,Nat.le_trans h.size k.size,fun j hj hne=>(k.block j (Nat.lt_of_lt_of_le hj h.size) hne).trans (h.block j hj hne)⟩
theorem Qg {b:Nat} {w w':World} (h:Below w.heap.size w w'):w.grownBy w' (some b):=⟨h.os,h.tape,h.output,h.size,fun k hk _=>h.block k hk⟩
structure Tp where
 B0:Nat
 bt:Nat
 bm:Nat
 ao:Option Addr
 cap:Nat
 zs:List Int
 t0:B0<=bt
 m0:B0<=bm
 tm:bt≠bm
def Aa (w:World) (B:Nat) (zs:List Int) (ao:Option Addr):Prop:= ∀(k:Nat) (hk:k < zs.length),∃b off,ao=some ⟨b,off,none⟩∧b < B∧w.cell? ⟨b,off + k,none⟩=some (.int .u8 zs[k])∧0<=zs[k]∧zs[k]<=255
theorem Aa.below {w w':World} {B:Nat} {zs:List Int} {ao:Option Addr} (h:Aa w B zs ao) (hb:Below B w w'):Aa w' B zs ao:=fun k hk=>by
 obtain ⟨b,off,e,hB,hc,hz⟩:=h k hk;exact ⟨b,off,e,hB,(hb.cell hB).trans hc,hz⟩
structure lu (w:World) (T:Tp):Prop where
 blk: ∃at':Nat,at'<=T.zs.length∧w.heap[T.bt]? =some (.cells #[.slice T.ao T.zs.length T.cap,.int .i64 at'] 36 (0,0))
 Aq:Aa w T.B0 T.zs T.ao
 len:T.zs.length<=9223372036854775807
theorem lu.lt {w:World} {T:Tp} (h:lu w T):T.bt < w.heap.size:=by obtain ⟨a,-,h⟩:=h.blk; exact (Array.getElem?_eq_some_iff.1 h).1
theorem lu.b0 {w:World} {T:Tp} (h:lu w T):T.B0<=w.heap.size:=by have:=h.lt; have:=T.t0; omega
def KI (T:Tp) (n:Int) (w:World) (e:Ending) (w':World):Prop:= ∃r:Int,e= .returned (.int .i64 r)∧0<=r∧(0 < n->r < n)∧r<=255∧w.grownBy w' (some T.bt)∧lu w' T
theorem xM {T:Tp} {n r:Int} {w w':World} (h0:0<=r) (h1:0 < n->r < n) (h2:r<=255) (h3:w.grownBy w' (some T.bt)) (h4:lu w' T):KI T n w (.returned (.int .i64 r)) w':=⟨r,rfl,h0,h1,h2,h3,h4⟩
theorem nV {b:Nat} (w:World) (n:Nat):w.grownBy (w.drewN n) (some b):=Qg (below_drewN (Below.refl _ _) n)
theorem lu.draws {w:World} {T:Tp} (h:lu w T) (n:Nat):lu (w.drewN n) T:=by
 obtain ⟨a,h1,h2⟩:=h.blk;have hb:=below_drewN (Below.refl w.heap.size w) n;exact ⟨⟨a,h1,(hb.block _ h.lt).trans h2⟩,h.Aq.below (hb.mono h.b0),h.len⟩
theorem Jb (T:Tp) (n:Int) (w:World) (hn:aD n) (hI:lu w T):
 Calls Tryz.prog 9 #[.pointer (some ⟨T.bt,0,none⟩),.int .i64 n] w (KI T n w):=by
 obtain ⟨a,ha,hblk⟩:=hI.blk;have HI:=ah hI;have HB:=ah hblk;have hlen:=hI.len;obtain ⟨hn1,hn2⟩:=hn;have c0:w.cell? ⟨T.bt,0,none⟩=some (.slice T.ao T.zs.length T.cap):=(pF hblk (j:=0) rfl).2;have c1:w.cell? ⟨T.bt,1,none⟩=some (.int .i64 (a:Int)):=(pF hblk (j:=1) rfl).2;clear hI hblk;by_cases h1:T.zs.length<=a
 ·have hd:decide ((T.zs.length:Int)<=(a:Int))=true:=by rw [decide_eq_true_iff]; omega
  go_enter Tryz.func9,Tryz.ntmps9;go_wp2_with fail;go_quiet (fail);go_wp2_with fail;go_ret;exact xM (by omega) (by omega) (by omega) (nV _ _) (HI.o.draws _)
 ·have hd:decide ((T.zs.length:Int)<=(a:Int))=false:=by rw [decide_eq_false_iff_not]; omega
  by_cases h2:n < 1
  ·have hd2:decide (n < 1)=true:=by rw [decide_eq_true_iff]; omega
   go_enter Tryz.func9,Tryz.ntmps9;go_wp2_with fail;go_quiet (fail);go_wp2_with fail;go_ret;exact xM (by omega) (by omega) (by omega) (nV _ _) (HI.o.draws _)
  ·have hd2:decide (n < 1)=false:=by rw [decide_eq_false_iff_not]; omega
   go_enter Tryz.func9,Tryz.ntmps9;go_wp2_with fail;go_quiet (fail);generalize hW:World.drewN w _=W1;have HI1:aj (lu W1 T):=ah (by rw [<- hW]; exact HI.o.draws _);have oP:aj (w.grownBy W1 (some T.bt)):=ah (by rw [<- hW]; exact nV _ _);have HB1:aj (W1.heap[T.bt]? =some (.cells #[.slice T.ao T.zs.length T.cap,.int .i64 (a:Int)] 36 (0,0))):=ah (by rw [<- hW]; exact ((below_drewN (Below.refl w.heap.size w) _).block _ HI.o.lt).trans HB.o);clear hW c0 c1 HI HB hd hd2;have c1:W1.cell? ⟨T.bt,1,none⟩=some (.int .i64 (a:Int)):=(pF HB1.o (j:=1) rfl).2;have f1:W1.frozen? ⟨T.bt,1,none⟩=false:=aB HB1.o;go_upto_region 4 with fail;generalize hW2:World.setCell W1 _ _=W2;have HB2:aj (W2.heap[T.bt]? =some (.cells #[.slice T.ao T.zs.length T.cap,.int .i64 ((a:Int) + 1)] 36 (0,0))):=ah (by rw [<- hW2,aY HB1.o]; rfl);have HG2:aj (W1.grownBy W2 (some T.bt)):=ah (by rw [<- hW2]; exact dD _ _ _);have nE:aj (Aa W2 T.B0 T.zs T.ao):=ah (HI1.o.Aq.below (dL HG2.o T.t0 HI1.o.b0));have HI2:aj (lu W2 T):=ah ⟨⟨a + 1,by omega,by rw [HB2.o]; rfl⟩,nE.o,HI1.o.len⟩;have HG:=ah (KZ oP.o HG2.o);clear hW2 c1 f1 oP HG2 HB1;have ha:a < T.zs.length:=by omega
   obtain ⟨bb,off,hao,hbb,hcell,hz0,hz1⟩:=nE.o a ha;have c0:W2.cell? ⟨T.bt,0,none⟩=some (.slice T.ao T.zs.length T.cap):=(pF HB2.o (j:=0) rfl).2;have c1:W2.cell? ⟨T.bt,1,none⟩=some (.int .i64 ((a:Int) + 1)):=(pF HB2.o (j:=1) rfl).2;rw [hao] at c0;generalize T.zs[a]=z at *;have hw1:(a:Int) + 1 - 1=(a:Int):=by omega
   have hw2:IntKind.i64.wrap (a:Int)=(a:Int):=IntWalk.i64_in _ (by omega);have hb0:(0:Int)<=(a:Int):=by omega
   have hb1:(a:Int) < (T.zs.length:Int):=by omega
   have QD:=ah hao;clear hao HI1;go_quiet (fail);go_wp2_with fail;go_ret;have e1:=Int.emod_nonneg z (show n≠0 by omega);have e2:=Int.emod_lt_of_pos z (show 0 < n by omega);have e3:z % n<=255:=by
    by_cases hzn:z < n
    ·rw [Int.emod_eq_of_lt hz0 hzn]; exact hz1
    ·omega
   exact xM e1 (fun _=>e2) e3 (KZ HG.o (nV _ _)) (HI2.o.draws _)
def kH (s:ByteArray):Prop:=s.size<=maxLen∧Tk.cO s.data.toList=true
theorem xO {s:ByteArray} (h:Tk.cO s.data.toList=true):s.size<=12:=by
 unfold Tk.cO at h;simp only [Bool.and_eq_true,decide_eq_true_eq] at h;rw [Lib.size_eq]; exact h.1.1.2
def vV:Array Value:= #[.int .i64 0,.int .i64 0,.string ⟨#[]⟩,.slice none 0 0]
theorem vW {w:World} {b:Nat} {t:TypeId} (h:w.heap[b]? =some (.cells vV t (0,0))):(w.cell? ⟨b,0,none⟩=some (.int .i64 0)∧w.cell? ⟨b,1,none⟩=some (.int .i64 0)∧w.cell? ⟨b,2,none⟩=some (.string ⟨#[]⟩)∧w.cell? ⟨b,3,none⟩=some (.slice none 0 0))∧(∀j,w.frozen? ⟨b,j,none⟩=false):=
 ⟨⟨(pF h (j:=0) rfl).2,(pF h (j:=1) rfl).2,(pF h (j:=2) rfl).2,(pF h (j:=3) rfl).2⟩,fun j=>aB h⟩
theorem JH (s:ByteArray) (w:World):
 Calls Tryz.prog 52 #[.string s] w fun e w'=>e= .returned (exV 2 0 s .nil none 0)∧Below w.heap.size w w':=by
 go_enter Tryz.func52,Tryz.ntmps52;go_wp2;exact bodyPost_ret (v:=exV 2 0 s .nil none 0) (by simp [results,Tryz.results52,go_sem,exV,aG.len]) rfl ⟨rfl,ak _ _⟩
theorem Fp (op:Int) (o1 n1:Int) (m1:ByteArray) (k1:aG) (a1:Option Addr) (c1:Nat) (o2 n2:Int) (m2:ByteArray) (k2:aG) (a2:Option Addr) (c2:Nat) (w:World):
 Calls Tryz.prog 53 #[.int .i64 op,exV o1 n1 m1 k1 a1 c1,exV o2 n2 m2 k2 a2 c2] w fun e w'=> ∃g,e= .returned (.agg #[.int .i64 op,.int .i64 0,.string ⟨#[]⟩,.slice (some ⟨g,0,none⟩) 2 2])∧w.heap.size<=g∧w'.heap[g]? =some (.cells (jf o1 n1 m1 k1 a1 c1++jf o2 n2 m2 k2 a2 c2).toArray 57 (0,0))∧Below w.heap.size w w':=by
 unfold exV;go_enter Tryz.func53,Tryz.ntmps53;go_wp2;refine bodyPost_ret (v:= .agg #[.int .i64 op,.int .i64 0,.string ⟨#[]⟩,.slice (some ⟨w.heap.size + 1 + 1 + 1,0,none⟩) 2 2]) (by simp [results,Tryz.results53,go_sem]) rfl ⟨w.heap.size + 1 + 1 + 1,rfl,by omega,?_,?_⟩
 ·generalize hW:World.alloc (World.alloc (World.alloc w _) _) _=W;have e:W.heap.size=w.heap.size + 1 + 1 + 1:=by rw [<- hW]; simp
  rw [<- e]; exact heap_alloc_new _ _
 ·exact (((ak _ _).alloc (by simp) _).alloc (by simp; omega) _).alloc (by simp; omega) _
namespace Md
def aX (w:World) (lo:Nat) (T:TypeId) (m:Nat) (ao:Option Addr) (n cap:Nat):Prop:=
 (ao=none∧n=0∧cap=0)∨ ∃g cs,ao=some ⟨g,0,none⟩∧lo<=g∧w.heap[g]? =some (.cells cs T (0,0))∧n<=cap∧cap<=maxLen∧cs.size=cap * m
def dA (w:World) (g o:Nat) (cs:List Value):Prop:= ∀j u,cs[j]? =some u->w.cell? ⟨g,o + j,none⟩=some u
def aG.T (w:World) (lo:Nat):aG->Option Addr->Nat->Prop
 | .nil,_,_=>True
 | .cons op n nm kids rest,ao,k=>(∃g dY cap,ao=some ⟨g,0,none⟩∧dA w g (k * 4) (jf op n nm kids dY cap)∧lZ op n nm kids∧aX w lo 57 4 dY kids.len cap∧kids.T w lo dY 0)∧rest.T w lo ao (k + 1)
def aL.T (w:World) (lo:Nat):aL->Option Addr->Nat->Prop
 | .nil,_,_=>True
 | .cons h b e rest,ao,k=>(∃g s,ao=some ⟨g,0,none⟩∧dA w g (k * 11) (bF.f ⟨h,b,e,s⟩)∧kS h b e∧
  (aX w lo 57 4 s.eT h.idx.len s.dO∧aX w lo 57 4 s.eZ h.dn.len s.dS∧aX w lo 59 11 s.bg b.len s.aU∧aX w lo 59 11 s.fG e.len s.dZ)∧
  h.idx.T w lo s.eT 0∧h.dn.T w lo s.eZ 0∧b.T w lo s.bg 0∧e.T w lo s.fG 0)∧rest.T w lo ao (k + 1)
def kT (w:World):List ByteArray->Option Addr->Nat->Prop
 | [],_,_=>True
 | s ::r,ao,k=>(∃g,ao=some ⟨g,0,none⟩∧w.cell? ⟨g,k,none⟩=some (.string s)∧s.size<=maxLen)∧kT w r ao (k + 1)
def oL (w:World):List De->Option Addr->Nat->Prop
 | [],_,_=>True
 | d ::r,ao,k=>(∃g,ao=some ⟨g,0,none⟩∧dA w g (k * 6) (eX d)∧d.Ok)∧oL w r ao (k + 1)
def lQ (w:World) (lo:Nat):List Th->Option Addr->Nat->Prop
 | [],_,_=>True
 | t ::r,ao,k=>(∃g dw bG bg aU,ao=some ⟨g,0,none⟩∧dA w g (k * 4) (dR.f ⟨t,dw,bG,bg,aU⟩)∧t.Ok∧aX w lo 9 1 dw t.cu.length bG∧aX w lo 59 11 bg t.body.len aU∧kT w t.cu dw 0∧t.body.T w lo bg 0)∧lQ w lo r ao (k + 1)
def Pr.T (w:World) (lo:Nat) (p:Pr) (aT:Option Addr) (aM:Nat) (aZ:Option Addr) (aN:Nat):Prop:=
 aX w lo 42 6 aT p.ds.length aM∧aX w lo 47 4 aZ p.ts.length aN∧oL w p.ds aT 0∧lQ w lo p.ts aZ 0
theorem dA.zero {w:World} {g o:Nat} {cs:List Value} (h:dA w g o cs) {u:Value} (hu:cs[0]? =some u):w.cell? ⟨g,0 + o,none⟩=some u:=by rw [Nat.zero_add]; exact h 0 u hu
theorem dA.at {w:World} {g o:Nat} {cs:List Value} (h:dA w g o cs) (j:Nat) {u:Value} (hu:cs[j]? =some u):w.cell? ⟨g,0 + o + j,none⟩=some u:=by rw [Nat.zero_add]; exact h j u hu
section
variable {w:World} {lo:Nat}
theorem aX.le {T:TypeId} {m n cap:Nat} {ao:Option Addr} (h:aX w lo T m ao n cap):n<=cap∧cap<=maxLen:=by
 rcases h with ⟨-,rfl,rfl⟩ | ⟨_,_,-,-,-,h1,h2,-⟩
 ·exact ⟨Nat.le_refl _,Nat.zero_le _⟩
 ·exact ⟨h1,h2⟩
theorem aX.mono {lo' m n cap:Nat} {T:TypeId} {ao:Option Addr} (h:aX w lo T m ao n cap) (hl:lo'<=lo):aX w lo' T m ao n cap:=by
 rcases h with h | ⟨g,cs,h1,h2,h3⟩
 ·exact .inl h
 ·exact .inr ⟨g,cs,h1,Nat.le_trans hl h2,h3⟩
theorem aG.T.mono {lo':Nat} (hl:lo'<=lo): ∀ {l:aG} {ao:Option Addr} {k:Nat},l.T w lo ao k->l.T w lo' ao k
 | .nil,_,_,_=>trivial
 | .cons _ _ _ _ _,_,_,⟨⟨g,dY,cap,e,hc,hok,hr,hk⟩,ht⟩=>⟨⟨g,dY,cap,e,hc,hok,hr.mono hl,hk.mono hl⟩,ht.mono hl⟩
theorem aL.T.mono {lo':Nat} (hl:lo'<=lo): ∀ {l:aL} {ao:Option Addr} {k:Nat},l.T w lo ao k->l.T w lo' ao k
 | .nil,_,_,_=>trivial
 | .cons _ _ _ _,_,_,⟨⟨g,s,e,hc,hok,⟨r1,r2,r3,r4⟩,h1,h2,h3,h4⟩,ht⟩=>⟨⟨g,s,e,hc,hok,⟨r1.mono hl,r2.mono hl,r3.mono hl,r4.mono hl⟩,h1.mono hl,h2.mono hl,h3.mono hl,h4.mono hl⟩,ht.mono hl⟩
theorem aG.T.at: ∀ {l:aG} {ao:Option Addr} {k:Nat},l.T w lo ao k->l.At w w.heap.size ao k
 | .nil,_,_,_=>trivial
 | .cons _ _ _ _ _,_,_,⟨⟨g,dY,cap,e,hc,hok,hr,hk⟩,ht⟩=>⟨⟨g,0,dY,cap,e,World.block_lt_of_cell? _ _ (hc 0 _ rfl),hc.zero rfl,hc.at 1 rfl,hc.at 2 rfl,hc.at 3 rfl,hok,hk.at⟩,ht.at⟩
theorem aL.T.at: ∀ {l:aL} {ao:Option Addr} {k:Nat},l.T w lo ao k->l.At w w.heap.size ao k
 | .nil,_,_,_=>trivial
 | .cons _ _ _ _,_,_,⟨⟨g,s,e,hc,hok,_,h1,h2,h3,h4⟩,ht⟩=>
   ⟨⟨g,0,s.eT,s.dO,s.eZ,s.dS,s.bg,s.aU,s.fG,s.dZ,e,World.block_lt_of_cell? _ _ (hc 0 _ rfl),hc.zero rfl,hc.at 1 rfl,hc.at 2 rfl,hc.at 3 rfl,hc.at 4 rfl,hc.at 5 rfl,hc.at 6 rfl,hc.at 7 rfl,hc.at 8 rfl,hc.at 9 rfl,hc.at 10 rfl,hok,h1.at,h2.at,h3.at,h4.at⟩,ht.at⟩
theorem kT.at: ∀ {l:List ByteArray} {ao:Option Addr} {k:Nat},kT w l ao k->gX w w.heap.size l ao k
 | [],_,_,_=>trivial
 | _ ::_,_,_,⟨⟨g,e,hc,hs⟩,ht⟩=>⟨⟨g,0,e,World.block_lt_of_cell? _ _ hc,by rw [Nat.zero_add]; exact hc,hs⟩,kT.at ht⟩
theorem oL.at: ∀ {l:List De} {ao:Option Addr} {k:Nat},oL w l ao k->fZ w w.heap.size l ao k
 | [],_,_,_=>trivial
 | _ ::_,_,_,⟨⟨g,e,hc,hs⟩,ht⟩=>⟨⟨g,0,e,World.block_lt_of_cell? _ _ (hc 0 _ rfl),hc.zero rfl,hc.at 1 rfl,hc.at 2 rfl,hc.at 3 rfl,hc.at 4 rfl,hc.at 5 rfl,hs⟩,oL.at ht⟩
theorem lQ.at: ∀ {l:List Th} {ao:Option Addr} {k:Nat},lQ w lo l ao k->gq w w.heap.size l ao k
 | [],_,_,_=>trivial
 | _ ::_,_,_,⟨⟨g,dw,bG,bg,aU,e,hc,hok,r1,r2,h1,h2⟩,ht⟩=>⟨⟨g,0,dw,bG,bg,aU,e,World.block_lt_of_cell? _ _ (hc 0 _ rfl),hc.zero rfl,hc.at 1 rfl,hc.at 2 rfl,hc.at 3 rfl,hok,h1.at,h2.at,r1.le.1⟩,lQ.at ht⟩
theorem Pr.T.at {p:Pr} {aT aZ:Option Addr} {aM aN:Nat} (h:p.T w lo aT aM aZ aN):p.At w aT aZ∧p.ds.length<=aM∧p.ts.length<=aN:=
 ⟨⟨Nat.le_trans h.1.le.1 h.1.le.2,Nat.le_trans h.2.1.le.1 h.2.1.le.2,h.2.2.1.at,h.2.2.2.at⟩,h.1.le.1,h.2.1.le.1⟩
end
def ru (o:Nat):Nat:=if o % 4=2 then 1 else if o % 4=3 then 2 else 0
def yU (o:Nat):Nat:=if o % 11=2∨o % 11=3∨o % 11=7 then 1 else if o % 11=4∨o % 11=8∨o % 11=9∨o % 11=10 then 2 else 0
def CP (o:Nat):Nat:=if o % 6=2∨o % 6=5 then 1 else 0
def AX (o:Nat):Nat:=if o % 4=0 then 1 else if o % 4=1 then 0 else 2
def Rel (sp:Value->Value->Prop) (k:Nat) (u u2:Value):Prop:=
 (k=0-> ∀n,u= .int .i64 n-> ∃n',u2= .int .i64 n'∧(aD n->aD n'))∧(k=1-> ∀s,u= .string s-> ∃s',u2= .string s'∧(s.size<=maxLen->s'.size<=maxLen))∧
 (k=2-> ∀a n c,u= .slice a n c->u2=u∨u2= .slice none 0 0∨sp u u2)
theorem Rel.refl (sp:Value->Value->Prop) (k:Nat) (u:Value):Rel sp k u u:=⟨fun _ n h=>⟨n,h,id⟩,fun _ s h=>⟨s,h,id⟩,fun _ _ _ _ _=> .inl rfl⟩
def uF (w w2:World) (g:Nat) (T:TypeId) (R:Nat->Value->Value->Prop):Prop:= ∀cs,w.heap[g]? =some (.cells cs T (0,0))-> ∃cs2,w2.heap[g]? =some (.cells cs2 T (0,0))∧cs2.size=cs.size∧ ∀o u,cs[o]? =some u-> ∃u2,cs2[o]? =some u2∧R o u u2
structure Up (lo:Nat) (w w2:World) (pE pS pT:Value->Value->Prop):Prop where
 e: ∀g,lo<=g->uF w w2 g 57 (fun o u u2=>Rel (fun _ _=>False) (ru o) u u2)
 s: ∀g,lo<=g->uF w w2 g 59 (fun o u u2=>Rel (fun u u2=>(o % 11=4∧pE u u2)∨(o % 11=9∨o % 11=10)∧pS u u2) (yU o) u u2)
 d: ∀g,lo<=g->uF w w2 g 42 (fun o u u2=>Rel (fun _ _=>False) (CP o) u u2)
 t: ∀g,lo<=g->uF w w2 g 47 (fun o u u2=>Rel (fun u u2=>o % 4=2∧pT u u2) (AX o) u u2)
 x: ∀g,lo<=g->uF w w2 g 9 (fun _ u u2=>Rel (fun _ _=>False) 1 u u2)
theorem dA.nil {w:World} {g o:Nat} :dA w g o []:=fun j u h=>by simp at h
theorem dA.cons {w:World} {g o:Nat} {a:Value} {cs:List Value} (h:w.cell? ⟨g,o,none⟩=some a) (h2:dA w g (o + 1) cs):dA w g o (a ::cs):=fun j u hu=>by
 cases j with
 | zero=>simp at hu; subst hu; exact h
 | succ j=>rw [show o + (j + 1)=o + 1 + j by omega]; exact h2 j u (by simpa using hu)
def su (w w2:World) (g g2 a b:Nat) (R:Nat->Value->Value->Prop):Prop:= ∀o u,w.cell? ⟨g,o,none⟩=some u->a<=o->o < b-> ∃u2,w2.cell? ⟨g2,o,none⟩=some u2∧R o u u2
section
variable {w w2:World} {lo g g2:Nat} {T:TypeId} {R:Nat->Value->Value->Prop}
theorem uF.row {cs:Array Value} (h:uF w w2 g T R) (hb:w.heap[g]? =some (.cells cs T (0,0))) (a b:Nat):su w w2 g g a b R:=fun o u hu _ _=>by
 obtain ⟨cs2,h1,-,h3⟩:=h cs hb;rw [cell_of_row w g o cs T _ hb] at hu;obtain ⟨u2,h4,h5⟩:=h3 o u hu;exact ⟨u2,au h1 h4,h5⟩
theorem aX.up {m n cap:Nat} {ao:Option Addr} (h:aX w lo T m ao n cap) (hB: ∀g,lo<=g->uF w w2 g T R):aX w2 lo T m ao n cap:=by
 rcases h with h | ⟨g,cs,h1,h2,h3,h4,h5,h6⟩
 ·exact .inl h
 ·obtain ⟨cs2,k1,k2,-⟩:=hB g h2 cs h3;exact .inr ⟨g,cs2,h1,h2,k1,h4,h5,k2.trans h6⟩
theorem su.int {sp:Nat->Value->Value->Prop} {kd:Nat->Nat} {a b:Nat} (h:su w w2 g g2 a b (fun o=>Rel (sp o) (kd o))) {o:Nat} {n:Int} (hc:w.cell? ⟨g,o,none⟩=some (.int .i64 n)) (ha:a<=o) (hb:o < b) (hk:kd o=0): ∃n',w2.cell? ⟨g2,o,none⟩=some (.int .i64 n')∧(aD n->aD n'):=by
 obtain ⟨u2,h1,h2⟩:=h o _ hc ha hb;obtain ⟨n',rfl,h3⟩:=h2.1 hk n rfl;exact ⟨n',h1,h3⟩
theorem su.str {sp:Nat->Value->Value->Prop} {kd:Nat->Nat} {a b:Nat} (h:su w w2 g g2 a b (fun o=>Rel (sp o) (kd o))) {o:Nat} {s:ByteArray} (hc:w.cell? ⟨g,o,none⟩=some (.string s)) (ha:a<=o) (hb:o < b) (hk:kd o=1): ∃s',w2.cell? ⟨g2,o,none⟩=some (.string s')∧(s.size<=maxLen->s'.size<=maxLen):=by
 obtain ⟨u2,h1,h2⟩:=h o _ hc ha hb;obtain ⟨n',rfl,h3⟩:=h2.2.1 hk s rfl;exact ⟨n',h1,h3⟩
theorem su.sl {sp:Nat->Value->Value->Prop} {kd:Nat->Nat} {a b:Nat} (h:su w w2 g g2 a b (fun o=>Rel (sp o) (kd o))) {o:Nat} {ao:Option Addr} {n c:Nat} (hc:w.cell? ⟨g,o,none⟩=some (.slice ao n c)) (ha:a<=o) (hb:o < b) (hk:kd o=2): ∃u2,w2.cell? ⟨g2,o,none⟩=some u2∧(u2= .slice ao n c∨u2= .slice none 0 0∨sp o (.slice ao n c) u2):=by
 obtain ⟨u2,h1,h2⟩:=h o _ hc ha hb;exact ⟨u2,h1,h2.2.2 hk _ _ _ rfl⟩
end
section
variable {lo:Nat} {w w2:World} {pE pS pT:Value->Value->Prop}
def MQ (lo:Nat) (w w2:World) (l:aG):Prop:= ∀g g2 k,l.T w lo (some ⟨g,0,none⟩) k->su w w2 g g2 (k * 4) ((k + l.len) * 4) (fun o=>Rel (fun _ _=>False) (ru o))-> ∃l':aG,l'.len=l.len∧l'.T w2 lo (some ⟨g2,0,none⟩) k
theorem Ct (hB: ∀g,lo<=g->uF w w2 g 57 (fun o u u2=>Rel (fun _ _=>False) (ru o) u u2)) {l:aG} (ih:MQ lo w w2 l) {ao:Option Addr} {cap:Nat} (hr:aX w lo 57 4 ao l.len cap) (hl:l.T w lo ao 0): ∃l':aG,l'.len=l.len∧aX w2 lo 57 4 ao l'.len cap∧l'.T w2 lo ao 0:=by
 have hr2:=hr.up hB;rcases hr with ⟨rfl,h1,h2⟩ | ⟨g,cs,rfl,h2,h3,-⟩
 ·exact ⟨.nil,h1.symm,by rw [show aG.len .nil=l.len from h1.symm]; exact hr2,trivial⟩
 ·obtain ⟨l',k1,k2⟩:=ih g g 0 hl ((hB g h2).row h3 _ _);exact ⟨l',k1,by rw [k1]; exact hr2,k2⟩
theorem Bv (hB: ∀g,lo<=g->uF w w2 g 57 (fun o u u2=>Rel (fun _ _=>False) (ru o) u u2)): ∀l:aG,MQ lo w w2 l
 | .nil,_,_,_,_,_=>⟨.nil,rfl,trivial⟩
 | .cons op n nm kids rest,g,g2,k,⟨⟨g',dY,cap,e,hc,hok,hr,hk⟩,ht⟩,hR=>by
   injection e with e;obtain rfl:g=g':=by injection e
   have hlen:(aG.cons op n nm kids rest).len=rest.len + 1:=rfl;obtain ⟨op',c0,i0⟩:=hR.int (hc 0 _ rfl) (by omega) (by omega) (by unfold ru; split <;> first | omega | (split <;> omega));obtain ⟨n',c1,i1⟩:=hR.int (hc 1 _ rfl) (by omega) (by omega) (by unfold ru; split <;> first | omega | (split <;> omega));obtain ⟨nm',c2,i2⟩:=hR.str (hc 2 _ rfl) (by omega) (by omega) (by unfold ru; split <;> first | omega | (split <;> omega));obtain ⟨u,c3,i3⟩:=hR.sl (hc 3 _ rfl) (by omega) (by omega) (by unfold ru; split <;> first | omega | (split <;> omega));obtain ⟨rest',r1,r2⟩:=Bv hB rest g g2 (k + 1) ht (fun o u hu h1 h2=>hR o u hu (by omega) (by rw [hlen]; omega));have fin: ∀(bM:aG) (eF:Option Addr) (cap2:Nat),u= .slice eF bM.len cap2->aX w2 lo 57 4 eF bM.len cap2->bM.T w2 lo eF 0-> ∃l':aG,l'.len=(aG.cons op n nm kids rest).len∧l'.T w2 lo (some ⟨g2,0,none⟩) k:=fun bM eF cap2 hu hro hki=>by subst hu;exact ⟨.cons op' n' nm' bM rest',by show rest'.len + 1=_; rw [r1]; rfl,⟨g2,eF,cap2,rfl,dA.cons c0 (dA.cons c1 (dA.cons c2 (dA.cons c3 dA.nil))),⟨i0 hok.1,i1 hok.2.1,i2 hok.2.2.1,Nat.le_trans hro.le.1 hro.le.2⟩,hro,hki⟩,r2⟩
   rcases i3 with rfl | rfl | i3
   ·obtain ⟨bM,k1,k2,k3⟩:=Ct hB (Bv hB kids) hr hk;exact fin bM dY cap (by rw [k1]) k2 k3
   ·exact fin .nil none 0 rfl (.inl ⟨rfl,rfl,rfl⟩) trivial
   ·exact i3.elim
end
end Md
namespace Md
def Ns (w:World) (ao:Option Addr) (n:Nat):Prop:= ∀g i j a m c,ao=some ⟨g,0,none⟩->i < n->(j=9∨j=10)->w.cell? ⟨g,i * 11 + j,none⟩=some (.slice a m c)->a≠some ⟨g,0,none⟩
def aG.Sy (l:aG) (B:Nat) (w:World) (ao:Option Addr) (cap:Nat):Prop:= ∀w',dH B w w'->aX w' B 57 4 ao l.len cap∧l.T w' B ao 0
def aL.Sy (l:aL) (B:Nat) (w:World) (ao:Option Addr) (cap:Nat):Prop:= ∀w',dH B w w'->(aX w' B 59 11 ao l.len cap∧l.T w' B ao 0)∧Ns w' ao l.len
def bF.J (B:Nat) (x:bF) (w:World):Prop:=(aX w B 57 4 x.s.eT x.h.idx.len x.s.dO∧x.h.idx.T w B x.s.eT 0)∧(aX w B 57 4 x.s.eZ x.h.dn.len x.s.dS∧x.h.dn.T w B x.s.eZ 0)∧
 (aX w B 59 11 x.s.bg x.b.len x.s.aU∧x.b.T w B x.s.bg 0)∧(aX w B 59 11 x.s.fG x.e.len x.s.dZ∧x.e.T w B x.s.fG 0)
def wR (B:Nat) (w:World) (h:bD) (b e:aL) (s:Sl):Prop:= ∀w',dH B w w'->bF.J B ⟨h,b,e,s⟩ w'
def dR.J (B:Nat) (x:dR) (w:World):Prop:=(aX w B 9 1 x.dw x.t.cu.length x.bG∧kT w x.t.cu x.dw 0)∧(aX w B 59 11 x.bg x.t.body.len x.aU∧x.t.body.T w B x.bg 0)∧Ns w x.bg x.t.body.len
section
variable {B B':Nat} {w w':World} {ao:Option Addr} {cap:Nat}
theorem aG.Sy.next {l:aG} (h:l.Sy B w ao cap) (ha:dH B w w'):l.Sy B w' ao cap:=fun w2 h2=>h w2 (ha.trans h2)
theorem aG.Sy.mono {l:aG} (h:l.Sy B' w ao cap) (hB:B<=B'):l.Sy B w ao cap:=fun w2 h2=>have k:=h w2 (h2.mono hB); ⟨k.1.mono hB,k.2.mono hB⟩
theorem aL.Sy.next {l:aL} (h:l.Sy B w ao cap) (ha:dH B w w'):l.Sy B w' ao cap:=fun w2 h2=>h w2 (ha.trans h2)
theorem aL.Sy.mono {l:aL} (h:l.Sy B' w ao cap) (hB:B<=B'):l.Sy B w ao cap:=fun w2 h2=>have k:=h w2 (h2.mono hB); ⟨⟨k.1.1.mono hB,k.1.2.mono hB⟩,k.2⟩
theorem bF.J.mono {x:bF} (h:bF.J B' x w) (hB:B<=B'):bF.J B x w:=⟨⟨h.1.1.mono hB,h.1.2.mono hB⟩,⟨h.2.1.1.mono hB,h.2.1.2.mono hB⟩,⟨h.2.2.1.1.mono hB,h.2.2.1.2.mono hB⟩,⟨h.2.2.2.1.mono hB,h.2.2.2.2.mono hB⟩⟩
theorem wR.next {h:bD} {b e:aL} {s:Sl} (hs:wR B w h b e s) (ha:dH B w w'):wR B w' h b e s:=fun w2 h2=>hs w2 (ha.trans h2)
theorem wR.mono {h:bD} {b e:aL} {s:Sl} (hs:wR B' w h b e s) (hB:B<=B'):wR B w h b e s:=fun w2 h2=>(hs w2 (h2.mono hB)).mono hB
theorem wR.stay {h:bD} {b e:aL} {s:Sl} (hs:wR B' w h b e s) (hB:B<=B'):bZ B' w (bF.J B ⟨h,b,e,s⟩):=fun w2 h2=>(hs w2 h2).mono hB
theorem aG.Sy.nil (B:Nat) (w:World):aG.nil.Sy B w none 0:=fun _ _=>⟨.inl ⟨rfl,rfl,rfl⟩,trivial⟩
theorem aL.Sy.nil (B:Nat) (w:World):aL.nil.Sy B w none 0:=fun _ _=>⟨⟨.inl ⟨rfl,rfl,rfl⟩,trivial⟩,fun _ _ _ _ _ _ e=>by cases e⟩
end
abbrev F4 (B:Nat) (w:World) (v:Value) (l:List bF):Prop:=Grow bF.f 11 (bF.J B) 59 B w v l
theorem PN {w:World} {B:Nat} {ao:Option Addr} : ∀(l:List bF) (k:Nat),(∀x ∈ l,kS x.h x.b x.e∧bF.J B x w)->(∀i x,l[i]? =some x-> ∃g,ao=some ⟨g,0,none⟩∧ ∀j u,x.f[j]? =some u->w.cell? ⟨g,(k + i) * 11 + j,none⟩=some u)->(gF l).T w B ao k
 | [],_,_,_=>trivial
 | x ::r,k,h1,h2=>by obtain ⟨g,rfl,hc⟩:=h2 0 x rfl;obtain ⟨hok,i1,i2,i3,i4⟩:=h1 x (by simp);exact ⟨⟨g,x.s,rfl,hc,hok,⟨i1.1,i2.1,i3.1,i4.1⟩,i1.2,i2.2,i3.2,i4.2⟩,PN r (k + 1) (fun y hy=>h1 y (by simp [hy])) (fun i y hy=>by obtain ⟨g',e,hc'⟩:=h2 (i + 1) y (by simpa using hy);exact ⟨g',e,fun j u hu=>by rw [show k + 1 + i=k + (i + 1) by omega]; exact hc' j u hu⟩)⟩
theorem ze {w w2:World} {B m n cap:Nat} {T:TypeId} {ao:Option Addr} {xs:List Value} (h:w.ownsRow B T m (.slice ao n cap) n xs) (ha:dH B w w2):aX w2 B T m ao n cap:=by
 rcases h.2 with ⟨h1,h2⟩ | ⟨g,cap',cur,h1,h2,h3,h4,h5,h6,-⟩
 ·injection h1 with e1 e2 e3;exact .inl ⟨e1,h2,e3⟩
 ·injection h1 with e1 e2 e3;subst e1 e3;exact .inr ⟨g,cur,rfl,h2,(ha.2 g h2 (Array.getElem?_eq_some_iff.1 h3).1).trans h3,h4,h5,h6⟩
theorem Bg: ∀(l:List bF) (i:Nat),i < (gF l).len-> ∃x,l[i]? =some x
 | [],i,h=>by cases h
 | x ::r,0,_=>⟨x,rfl⟩
 | x ::r,i + 1,h=>by obtain ⟨y,hy⟩:=Bg r i (by have:i + 1 < (gF r).len + 1:=h; omega);exact ⟨y,by simpa using hy⟩
theorem F4.says {B:Nat} {w:World} {v:Value} {l:List bF} (h:F4 B w v l) (hok: ∀x ∈ l,kS x.h x.b x.e): ∃ao cap,v= .slice ao (gF l).len cap∧(gF l).Sy B w ao cap:=by
 obtain ⟨ao,cap,e⟩:=h.len;refine ⟨ao,cap,by rw [e,lq],fun w2 h2=> ?_⟩;obtain ⟨hI,dY,cap',e',-,hc⟩:=h.cells ER w2 h2;rw [e] at e'; injection e' with e1 e2 e3; subst e1;have hown:=h.own;rw [e] at hown;refine ⟨⟨by rw [lq]; exact ze hown h2,PN l 0 (fun x hx=>⟨hok x hx,hI x hx⟩) (fun i x hx=>by obtain ⟨g,h1,-,h3,h4⟩:=hc i x hx;exact ⟨g,h1,fun j u hu=>by rw [Nat.zero_add]; exact h4 j u hu⟩)⟩,?_⟩;intro g i j a m c hg hi hj hcell ha;obtain ⟨x,hx⟩:=Bg l i hi;obtain ⟨g',hg',hB,hlt,h4⟩:=hc i x hx;rw [hg] at hg';obtain rfl:g=g':=by injection hg' with q; injection q
 have FC:g < w.heap.size:=(h.lt g (by rw [e,hg]; rfl)).2;have hst:=h.stay x (List.mem_of_getElem? hx);have hs2:lM B v.ownBlock w {w with heap:=w.heap.setIfInBounds g (.cells #[] 57 (0,0))} :=⟨by simp,fun k _ hk _=>by rw [e,hg] at hk;have:g≠k:=fun q=>hk (by rw [q]; rfl);simp [Array.getElem?_setIfInBounds,this]⟩;have hJ:=hst _ hs2;have hbad: ∀n cp,aX {w with heap:=w.heap.setIfInBounds g (.cells #[] 57 (0,0))} B 59 11 (some ⟨g,0,none⟩) n cp->False:=fun n cp hr=>by
  rcases hr with ⟨q,-⟩ | ⟨g2,cs,q,-,q2,-⟩
  ·cases q
  ·injection q with q; injection q with q;subst q;have:({w with heap:=w.heap.setIfInBounds g (.cells #[] 57 (0,0))} :World).heap[g]? =some (.cells #[] 57 (0,0)):=by simp [FC]
   rw [this] at q2;injection q2 with q2; injection q2 with _ q3;exact absurd q3 (by decide)
 rcases hj with rfl | rfl
 ·have:=h4 9 _ rfl;rw [this] at hcell;injection hcell with hcell; injection hcell with q1 q2 q3;have:=hJ.2.2.1.1;rw [q1,ha] at this;exact hbad _ _ this
 ·have:=h4 10 _ rfl;rw [this] at hcell;injection hcell with hcell; injection hcell with q1 q2 q3;have:=hJ.2.2.2.1;rw [q1,ha] at this;exact hbad _ _ this
theorem NW {w:World} {ao:Option Addr} : ∀(l:List De) (k:Nat),(∀x ∈ l,x.Ok)->(∀i x,l[i]? =some x-> ∃g,ao=some ⟨g,0,none⟩∧ ∀j u,(eX x)[j]? =some u->w.cell? ⟨g,(k + i) * 6 + j,none⟩=some u)->oL w l ao k
 | [],_,_,_=>trivial
 | x ::r,k,h1,h2=>by obtain ⟨g,rfl,hc⟩:=h2 0 x rfl;exact ⟨⟨g,rfl,hc,h1 x (by simp)⟩,NW r (k + 1) (fun y hy=>h1 y (by simp [hy])) (fun i y hy=>by obtain ⟨g',e,hc'⟩:=h2 (i + 1) y (by simpa using hy);exact ⟨g',e,fun j u hu=>by rw [show k + 1 + i=k + (i + 1) by omega]; exact hc' j u hu⟩)⟩
theorem lY.FR {B:Nat} {w:World} {v:Value} {l:List De} (h:lY B w v l) (hok: ∀x ∈ l,x.Ok): ∃ao cap,v= .slice ao l.length cap∧bZ B w (fun w2=>aX w2 B 42 6 ao l.length cap∧oL w2 l ao 0):=by
 obtain ⟨ao,cap,e⟩:=h.len;refine ⟨ao,cap,e,fun w2 h2=> ?_⟩;obtain ⟨-,dY,cap',e',-,hc⟩:=h.cells pQ w2 h2;rw [e] at e'; injection e' with e1 e2 e3; subst e1;have hown:=h.own;rw [e] at hown;exact ⟨ze hown h2,NW l 0 hok (fun i x hx=>by obtain ⟨g,h1,-,h3,h4⟩:=hc i x hx;exact ⟨g,h1,fun j u hu=>by rw [Nat.zero_add]; exact h4 j u hu⟩)⟩
theorem PY {w:World} {ao:Option Addr} : ∀(l:List ByteArray) (k:Nat),(∀x ∈ l,x.size<=maxLen)->(∀i x,l[i]? =some x-> ∃g,ao=some ⟨g,0,none⟩∧ ∀j u,(nK x)[j]? =some u->w.cell? ⟨g,(k + i) * 1 + j,none⟩=some u)->kT w l ao k
 | [],_,_,_=>trivial
 | x ::r,k,h1,h2=>by obtain ⟨g,rfl,hc⟩:=h2 0 x rfl;exact ⟨⟨g,rfl,by have:=hc 0 _ rfl; simpa using this,h1 x (by simp)⟩,PY r (k + 1) (fun y hy=>h1 y (by simp [hy])) (fun i y hy=>by obtain ⟨g',e,hc'⟩:=h2 (i + 1) y (by simpa using hy);exact ⟨g',e,fun j u hu=>by rw [show k + 1 + i=k + (i + 1) by omega]; exact hc' j u hu⟩)⟩
theorem nT.FR {B:Nat} {w:World} {v:Value} {l:List ByteArray} (h:nT B w v l) (hok: ∀x ∈ l,x.size<=maxLen): ∃ao cap,v= .slice ao l.length cap∧l.length<=cap∧bZ B w (fun w2=>aX w2 B 9 1 ao l.length cap∧kT w2 l ao 0):=by
 obtain ⟨-,ao,cap,e,hl,-⟩:=h.cells pV w (dH.refl _ _);refine ⟨ao,cap,e,hl,fun w2 h2=> ?_⟩;obtain ⟨-,dY,cap',e',-,hc⟩:=h.cells pV w2 h2;rw [e] at e'; injection e' with e1 e2 e3; subst e1;have hown:=h.own;rw [e] at hown;exact ⟨ze hown h2,PY l 0 hok (fun i x hx=>by obtain ⟨g,h1,-,h3,h4⟩:=hc i x hx;exact ⟨g,h1,fun j u hu=>by rw [Nat.zero_add]; exact h4 j u hu⟩)⟩
def uo (w:World):List Th->Option Addr->Nat->Prop
 | [],_,_=>True
 | t ::r,ao,k=>(∃g bg aU,ao=some ⟨g,0,none⟩∧w.cell? ⟨g,k * 4 + 3,none⟩=some (.slice bg t.body.len aU)∧Ns w bg t.body.len)∧uo w r ao (k + 1)
abbrev F5 (B:Nat) (w:World) (v:Value) (l:List dR):Prop:=Grow dR.f 4 (dR.J B) 47 B w v l
theorem PV {w:World} {B:Nat} {ao:Option Addr} : ∀(l:List dR) (k:Nat),(∀x ∈ l,x.t.Ok∧dR.J B x w)->(∀i x,l[i]? =some x-> ∃g,ao=some ⟨g,0,none⟩∧ ∀j u,x.f[j]? =some u->w.cell? ⟨g,(k + i) * 4 + j,none⟩=some u)->lQ w B (l.map (·.t)) ao k∧uo w (l.map (·.t)) ao k
 | [],_,_,_=>⟨trivial,trivial⟩
 | x ::r,k,h1,h2=>by obtain ⟨g,rfl,hc⟩:=h2 0 x rfl;obtain ⟨hok,i1,i2,i3⟩:=h1 x (by simp);obtain ⟨r1,r2⟩:=PV r (k + 1) (fun y hy=>h1 y (by simp [hy])) (fun i y hy=>by obtain ⟨g',e,hc'⟩:=h2 (i + 1) y (by simpa using hy);exact ⟨g',e,fun j u hu=>by rw [show k + 1 + i=k + (i + 1) by omega]; exact hc' j u hu⟩);exact ⟨⟨⟨g,x.dw,x.bG,x.bg,x.aU,rfl,hc,hok,i1.1,i2.1,i1.2,i2.2⟩,r1⟩,⟨g,x.bg,x.aU,rfl,hc 3 _ rfl,i3⟩,r2⟩
theorem F5.says {B:Nat} {w:World} {v:Value} {l:List dR} (h:F5 B w v l) (hok: ∀x ∈ l,x.t.Ok): ∃ao cap,v= .slice ao (l.map (·.t)).length cap∧bZ B w (fun w2=>aX w2 B 47 4 ao (l.map (·.t)).length cap∧lQ w2 B (l.map (·.t)) ao 0∧uo w2 (l.map (·.t)) ao 0):=by
 obtain ⟨ao,cap,e⟩:=h.len;refine ⟨ao,cap,by rw [e,List.length_map],fun w2 h2=> ?_⟩;obtain ⟨hI,dY,cap',e',-,hc⟩:=h.cells A8 w2 h2;rw [e] at e'; injection e' with e1 e2 e3; subst e1;have hown:=h.own;rw [e] at hown;exact ⟨by rw [List.length_map]; exact ze hown h2,PV l 0 (fun x hx=>⟨hok x hx,hI x hx⟩) (fun i x hx=>by obtain ⟨g,h1,-,h3,h4⟩:=hc i x hx;exact ⟨g,h1,fun j u hu=>by rw [Nat.zero_add]; exact h4 j u hu⟩)⟩
theorem lQ.mono {w:World} {lo lo':Nat} (hl:lo'<=lo): ∀ {l:List Th} {ao:Option Addr} {k:Nat},lQ w lo l ao k->lQ w lo' l ao k
 | [],_,_,_=>trivial
 | _ ::_,_,_,⟨⟨g,dw,bG,bg,aU,e,hc,hok,r1,r2,h1,h2⟩,ht⟩=>⟨⟨g,dw,bG,bg,aU,e,hc,hok,r1.mono hl,r2.mono hl,h1,h2.mono hl⟩,lQ.mono hl ht⟩
end Md
namespace Md
def EP (h:bD) (b e:aL) (s:Sl):List Value:=[.int .i64 h.op,.int .i64 h.line,.string h.nm,.string h.arg,.slice s.eT h.idx.len s.dO,.int .i64 h.iJ,.int .i64 h.xn,.string h.iP,.slice s.eZ h.dn.len s.dS,.slice s.bg b.len s.aU,.slice s.fG e.len s.dZ]
end Md
theorem bK {w:World} {b j:Nat} {cs:Array Value} {t:TypeId} {fr:Nat × Nat} {u:Value} (h:w.heap[b]? =some (.cells cs t fr)) (hu:cs[j]? =some u):b < w.heap.size∧w.cell? ⟨b,j,none⟩=some u:=
 ⟨(Array.getElem?_eq_some_iff.1 h).1,by rw [cell_of_row w b j cs t fr h]; exact hu⟩
theorem info_parts {i:Option TypeInfo} {z:Option Value} {s b:Nat} (h:i.map (fun i=>(i.zero,i.size,i.bytes))=some (z,s,b)): ∃i0,i=some i0∧i0.zero=z∧i0.size=s∧i0.bytes=b:=by
 cases i with
 | none=>cases h
 | some i=>simp at h; exact ⟨i,rfl,h.1,h.2.1,h.2.2⟩
theorem lU {w:World} {nb:Nat} {h:bD} {b e:aL} {s:Sl} {t:TypeId} {fr:Nat × Nat} (hb:w.heap[nb]? =some (.cells (EP h b e s).toArray t fr)):w.cell? ⟨nb,0,none⟩=some (.int .i64 h.op)∧w.cell? ⟨nb,1,none⟩=some (.int .i64 h.line)∧w.cell? ⟨nb,2,none⟩=some (.string h.nm)∧w.cell? ⟨nb,3,none⟩=some (.string h.arg)∧w.cell? ⟨nb,4,none⟩=some (.slice s.eT h.idx.len s.dO)∧w.cell? ⟨nb,5,none⟩=some (.int .i64 h.iJ)∧w.cell? ⟨nb,6,none⟩=some (.int .i64 h.xn)∧w.cell? ⟨nb,7,none⟩=some (.string h.iP)∧w.cell? ⟨nb,8,none⟩=some (.slice s.eZ h.dn.len s.dS)∧w.cell? ⟨nb,9,none⟩=some (.slice s.bg b.len s.aU)∧w.cell? ⟨nb,10,none⟩=some (.slice s.fG e.len s.dZ):=
 ⟨(bK hb (j:=0) rfl).2,(bK hb (j:=1) rfl).2,(bK hb (j:=2) rfl).2,(bK hb (j:=3) rfl).2,(bK hb (j:=4) rfl).2,(bK hb (j:=5) rfl).2,(bK hb (j:=6) rfl).2,(bK hb (j:=7) rfl).2,(bK hb (j:=8) rfl).2,(bK hb (j:=9) rfl).2,(bK hb (j:=10) rfl).2⟩
def Dr:Array Value:= #[.int .i64 0,.int .i64 0,.string ⟨#[]⟩,.string ⟨#[]⟩,.slice none 0 0,.int .i64 0,.int .i64 0,.string ⟨#[]⟩,.slice none 0 0,.slice none 0 0,.slice none 0 0]
theorem M6:(Tryz.prog.info? 59).map (fun i=>(i.zero,i.size,i.bytes))=some (some (.agg Dr),11,176):=by kernel_rfl
theorem zU: ∃i0,Tryz.prog.info? 59=some i0∧i0.zero=some (.agg Dr)∧i0.size=11∧i0.bytes=176:=info_parts M6
theorem zV:(Tryz.prog.info? 59).map (·.size)=some 11:=by kernel_rfl
theorem cK.nil {w:World} {K:Act->Prop} {a:Act} (h:K a):cK w K [] a:=h
theorem Dp {B:Nat} {w:World} {g:Nat} {op n:Int} {nm:ByteArray} {kids:aG} {ao:Option Addr} {cap:Nat} (hb:w.heap[g]? =some (.cells (jf op n nm kids ao cap).toArray 57 (0,0))) (ht:B<=g) (hok:lZ op n nm kids) (hk:kids.Sy B w ao cap):
 (aG.cons op n nm kids .nil).Sy B w (some ⟨g,0,none⟩) 1:=fun w2 h=>by
 have h2:=(h.2 g ht (Array.getElem?_eq_some_iff.1 hb).1).trans hb;obtain ⟨k1,k2⟩:=hk w2 h;exact ⟨.inr ⟨g,_,rfl,ht,h2,Nat.le_refl 1,by decide,rfl⟩,⟨g,ao,cap,rfl,fun j u hu=>by rw [Nat.zero_mul,Nat.zero_add]; exact au h2 (by simpa using hu),hok,k1,k2⟩,trivial⟩
theorem PO {B:Nat} {w:World} {g:Nat} {op n op' n':Int} {nm nm':ByteArray} {kids bM:aG} {ao dY:Option Addr} {cap cap':Nat} (hb:w.heap[g]? =some (.cells (jf op n nm kids ao cap++jf op' n' nm' bM dY cap').toArray 57 (0,0))) (ht:B<=g) (hok:lZ op n nm kids) (hk:kids.Sy B w ao cap) (hok':lZ op' n' nm' bM) (hk':bM.Sy B w dY cap'):
 (aG.cons op n nm kids (.cons op' n' nm' bM .nil)).Sy B w (some ⟨g,0,none⟩) 2:=fun w2 h=>by
 have h2:=(h.2 g ht (Array.getElem?_eq_some_iff.1 hb).1).trans hb;obtain ⟨k1,k2⟩:=hk w2 h;obtain ⟨q1,q2⟩:=hk' w2 h;have hc: ∀j u,(jf op n nm kids ao cap++jf op' n' nm' bM dY cap')[j]? =some u->w2.cell? ⟨g,j,none⟩=some u:=fun j u hu=>au h2 (by simpa using hu);refine ⟨.inr ⟨g,_,rfl,ht,h2,Nat.le_refl 2,by decide,rfl⟩,⟨g,ao,cap,rfl,fun j u hu=> ?_,hok,k1,k2⟩,⟨g,dY,cap',rfl,fun j u hu=> ?_,hok',q1,q2⟩,trivial⟩
 ·rw [Nat.zero_mul,Nat.zero_add];exact hc j u (by rw [List.getElem?_append_left (List.getElem?_eq_some_iff.1 hu).1]; exact hu)
 ·exact hc _ u (by rw [List.getElem?_append_right (by show 4<=(0 + 1) * 4 + j; omega)]; rw [show (0 + 1) * 4 + j - (jf op n nm kids ao cap).length=j by show (0 + 1) * 4 + j - 4=j; omega]; exact hu)
def uD:aG->Nat
 | .nil=>0
 | .cons _ _ nm kids rest=>40 + nm.size + uD kids + uD rest
def xg (nm:ByteArray) (kids:aG):Nat:=40 + nm.size + uD kids
def zm (h:bD):Nat:=200 + h.nm.size + h.arg.size + uD h.idx + xg h.iP h.dn
def lX:aL->Nat
 | .nil=>0
 | .cons h b e r=>zm h + 2 * lX b + 2 * lX e + lX r
namespace Md
section
variable {lo:Nat} {w w2:World} {pE pS pT:Value->Value->Prop}
def RS (pE pS:Value->Value->Prop) (o:Nat):Value->Value->Prop:=Rel (fun u u2=>(o % 11=4∧pE u u2)∨(o % 11=9∨o % 11=10)∧pS u u2) (yU o)
def Fg (lo:Nat) (w w2:World) (pE pS:Value->Value->Prop) (l:aL):Prop:= ∀g g2 k,l.T w lo (some ⟨g,0,none⟩) k->su w w2 g g2 (k * 11) ((k + l.len) * 11) (RS pE pS)-> ∃l':aL,l'.len=l.len∧l'.T w2 lo (some ⟨g2,0,none⟩) k
def Gy (lo:Nat) (w w2:World) (pE:Value->Value->Prop):Prop:= ∀(l:aG) ao cap u2,pE (.slice ao l.len cap) u2->aX w lo 57 4 ao l.len cap->l.T w lo ao 0-> ∃(l2:aG) (eF:Option Addr) (cap2:Nat),u2= .slice eF l2.len cap2∧aX w2 lo 57 4 eF l2.len cap2∧l2.T w2 lo eF 0
def Gz (lo:Nat) (w w2:World) (pE pS:Value->Value->Prop):Prop:= ∀(l:aL) ao cap u2,pS (.slice ao l.len cap) u2->aX w lo 59 11 ao l.len cap->l.T w lo ao 0->Fg lo w w2 pE pS l-> ∃(l2:aL) (eF:Option Addr) (cap2:Nat),u2= .slice eF l2.len cap2∧aX w2 lo 59 11 eF l2.len cap2∧l2.T w2 lo eF 0
def KM (lo:Nat) (w w2:World) (pT:Value->Value->Prop):Prop:= ∀(l:List ByteArray) ao cap u2,pT (.slice ao l.length cap) u2->aX w lo 9 1 ao l.length cap->kT w l ao 0-> ∃(l2:List ByteArray) (eF:Option Addr) (cap2:Nat),u2= .slice eF l2.length cap2∧aX w2 lo 9 1 eF l2.length cap2∧kT w2 l2 eF 0
theorem K8 (U:Up lo w w2 pE pS pT) {l:aL} (ih:Fg lo w w2 pE pS l) {ao:Option Addr} {cap:Nat} (hr:aX w lo 59 11 ao l.len cap) (hl:l.T w lo ao 0): ∃l':aL,l'.len=l.len∧aX w2 lo 59 11 ao l'.len cap∧l'.T w2 lo ao 0:=by
 have hr2:=hr.up U.s;rcases hr with ⟨rfl,h1,h2⟩ | ⟨g,cs,rfl,h2,h3,-⟩
 ·exact ⟨.nil,h1.symm,by rw [show aL.len .nil=l.len from h1.symm]; exact hr2,trivial⟩
 ·obtain ⟨l',k1,k2⟩:=ih g g 0 hl ((U.s g h2).row h3 _ _);exact ⟨l',k1,by rw [k1]; exact hr2,k2⟩
theorem H8 (U:Up lo w w2 pE pS pT) (hE:Gy lo w w2 pE) {l:aG} {ao:Option Addr} {cap:Nat} {u:Value} {q:Prop} (hu:u= .slice ao l.len cap∨u= .slice none 0 0∨(q∧pE (.slice ao l.len cap) u)) (hr:aX w lo 57 4 ao l.len cap) (hl:l.T w lo ao 0):
 ∃(l2:aG) (eF:Option Addr) (cap2:Nat),u= .slice eF l2.len cap2∧aX w2 lo 57 4 eF l2.len cap2∧l2.T w2 lo eF 0:=by
 rcases hu with rfl | rfl | ⟨-,h⟩
 ·obtain ⟨l',k1,k2,k3⟩:=Ct U.e (Bv U.e l) hr hl;exact ⟨l',ao,cap,by rw [k1],k2,k3⟩
 ·exact ⟨.nil,none,0,rfl,.inl ⟨rfl,rfl,rfl⟩,trivial⟩
 ·exact hE l ao cap u h hr hl
theorem Dl (U:Up lo w w2 pE pS pT) (hS:Gz lo w w2 pE pS) {l:aL} (ih:Fg lo w w2 pE pS l) {ao:Option Addr} {cap:Nat} {u:Value} {q:Prop} (hu:u= .slice ao l.len cap∨u= .slice none 0 0∨(q∧pS (.slice ao l.len cap) u)) (hr:aX w lo 59 11 ao l.len cap) (hl:l.T w lo ao 0):
 ∃(l2:aL) (eF:Option Addr) (cap2:Nat),u= .slice eF l2.len cap2∧aX w2 lo 59 11 eF l2.len cap2∧l2.T w2 lo eF 0:=by
 rcases hu with rfl | rfl | ⟨-,h⟩
 ·obtain ⟨l',k1,k2,k3⟩:=K8 U ih hr hl;exact ⟨l',ao,cap,by rw [k1],k2,k3⟩
 ·exact ⟨.nil,none,0,rfl,.inl ⟨rfl,rfl,rfl⟩,trivial⟩
 ·exact hS l ao cap u h hr hl ih
theorem mY (k j:Nat) (hj:j < 11):yU (k * 11 + j)=yU j∧(k * 11 + j) % 11=j:=by
 have:(k * 11 + j) % 11=j:=by omega
 have h2:j % 11=j:=by omega
 unfold yU; rw [this,h2]; exact ⟨rfl,rfl⟩
theorem Bz (U:Up lo w w2 pE pS pT) (hE:Gy lo w w2 pE) (hS:Gz lo w w2 pE pS): ∀l:aL,Fg lo w w2 pE pS l
 | .nil,_,_,_,_,_=>⟨.nil,rfl,trivial⟩
 | .cons h b e rest,g,g2,k,⟨⟨g',s,eg,hc,hok,⟨r1,r2,r3,r4⟩,t1,t2,t3,t4⟩,ht⟩,hR=>by
   injection eg with eg;obtain rfl:g=g':=by injection eg
   have hlen:(aL.cons h b e rest).len=rest.len + 1:=rfl;have K:=mY k;obtain ⟨n0,c0,i0⟩:=hR.int (hc 0 _ rfl) (by omega) (by omega) (K 0 (by decide)).1;obtain ⟨n1,c1,i1⟩:=hR.int (hc 1 _ rfl) (by omega) (by omega) (K 1 (by decide)).1;obtain ⟨n2,c2,i2⟩:=hR.str (hc 2 _ rfl) (by omega) (by omega) (K 2 (by decide)).1;obtain ⟨n3,c3,i3⟩:=hR.str (hc 3 _ rfl) (by omega) (by omega) (K 3 (by decide)).1;obtain ⟨u4,c4,i4⟩:=hR.sl (hc 4 _ rfl) (by omega) (by omega) (K 4 (by decide)).1;obtain ⟨n5,c5,i5⟩:=hR.int (hc 5 _ rfl) (by omega) (by omega) (K 5 (by decide)).1;obtain ⟨n6,c6,i6⟩:=hR.int (hc 6 _ rfl) (by omega) (by omega) (K 6 (by decide)).1;obtain ⟨n7,c7,i7⟩:=hR.str (hc 7 _ rfl) (by omega) (by omega) (K 7 (by decide)).1;obtain ⟨u8,c8,i8⟩:=hR.sl (hc 8 _ rfl) (by omega) (by omega) (K 8 (by decide)).1;obtain ⟨u9,c9,i9⟩:=hR.sl (hc 9 _ rfl) (by omega) (by omega) (K 9 (by decide)).1;obtain ⟨UR,c10,RI⟩:=hR.sl (hc 10 _ rfl) (by omega) (by omega) (K 10 (by decide)).1;rw [(K 4 (by decide)).2] at i4;rw [(K 8 (by decide)).2] at i8;rw [(K 9 (by decide)).2] at i9;rw [(K 10 (by decide)).2] at RI;obtain ⟨rest',q1,q2⟩:=Bz U hE hS rest g g2 (k + 1) ht (fun o u hu h1 h2=>hR o u hu (by omega) (by rw [hlen]; omega));obtain ⟨l4,U0,cap4,rfl,x4,y4⟩:=H8 U hE (q:=True) (by simpa using i4) r1 t1;obtain ⟨l8,U1,SE,rfl,x8,y8⟩:=H8 U hE (q:=False) (by simpa using i8) r2 t2;obtain ⟨l9,U2,SF,rfl,x9,y9⟩:=Dl U hS (Bz U hE hS b) (q:=True) (by simpa using i9) r3 t3;obtain ⟨l10,Sw,Qb,rfl,x10,gN⟩:=Dl U hS (Bz U hE hS e) (q:=True) (by simpa using RI) r4 t4;obtain ⟨o0,o1,o2,o3,-,⟨o5,o6,o7,-⟩,-,-⟩:=hok;exact ⟨.cons ⟨n0,n1,n2,n3,l4,n5,n6,n7,l8⟩ l9 l10 rest',by show rest'.len + 1=_; rw [q1]; rfl,⟨g2,⟨U0,cap4,U1,SE,U2,SF,Sw,Qb⟩,rfl,
    dA.cons c0 (dA.cons c1 (dA.cons c2 (dA.cons c3 (dA.cons c4 (dA.cons c5 (dA.cons c6 (dA.cons c7 (dA.cons c8 (dA.cons c9 (dA.cons c10 dA.nil)))))))))),
    ⟨i0 o0,i1 o1,i2 o2,i3 o3,Nat.le_trans x4.le.1 x4.le.2,⟨i5 o5,i6 o6,i7 o7,Nat.le_trans x8.le.1 x8.le.2⟩,Nat.le_trans x9.le.1 x9.le.2,Nat.le_trans x10.le.1 x10.le.2⟩,⟨x4,x8,x9,x10⟩,y4,y8,y9,gN⟩,q2⟩
theorem FW: ∀(l:List ByteArray) (g g2 k:Nat),kT w l (some ⟨g,0,none⟩) k->su w w2 g g2 k (k + l.length) (fun o=>Rel (fun _ _=>False) 1)-> ∃l':List ByteArray,l'.length=l.length∧kT w2 l' (some ⟨g2,0,none⟩) k
 | [],_,_,_,_,_=>⟨[],rfl,trivial⟩
 | s ::r,g,g2,k,⟨⟨g',eg,hc,hs⟩,ht⟩,hR=>by
   injection eg with eg;obtain rfl:g=g':=by injection eg
   rw [List.length_cons] at hR;obtain ⟨s',c0,i0⟩:=su.str (sp:=fun _ _ _=>False) (kd:=fun _=>1) hR hc (Nat.le_refl _) (by omega) rfl;obtain ⟨r',q1,q2⟩:=FW r g g2 (k + 1) ht (fun o u hu h1 h2=>hR o u hu (by omega) (by omega));exact ⟨s' ::r',by rw [List.length_cons,q1]; rfl,⟨g2,rfl,c0,i0 hs⟩,q2⟩
theorem PW (U:Up lo w w2 pE pS pT) (hT:KM lo w w2 pT) {l:List ByteArray} {ao:Option Addr} {cap:Nat} {u:Value} {q:Prop} (hu:u= .slice ao l.length cap∨u= .slice none 0 0∨(q∧pT (.slice ao l.length cap) u)) (hr:aX w lo 9 1 ao l.length cap) (hl:kT w l ao 0):
 ∃(l2:List ByteArray) (eF:Option Addr) (cap2:Nat),u= .slice eF l2.length cap2∧aX w2 lo 9 1 eF l2.length cap2∧kT w2 l2 eF 0:=by
 rcases hu with rfl | rfl | ⟨-,h⟩
 ·have hr2:=hr.up U.x;rcases hr with ⟨rfl,h1,h2⟩ | ⟨g,cs,rfl,h2,h3,-⟩
  ·exact ⟨[],none,cap,by rw [h1]; rfl,by rw [show List.length (α:=ByteArray) []=l.length from h1.symm]; exact hr2,trivial⟩
  ·obtain ⟨l',k1,k2⟩:=FW l g g 0 hl ((U.x g h2).row h3 _ _);exact ⟨l',_,cap,by rw [k1],by rw [k1]; exact hr2,k2⟩
 ·exact ⟨[],none,0,rfl,.inl ⟨rfl,rfl,rfl⟩,trivial⟩
 ·exact hT l ao cap u h hr hl
theorem Ie (k j:Nat) (hj:j < 6):CP (k * 6 + j)=CP j:=by
 have:(k * 6 + j) % 6=j:=by omega
 have h2:j % 6=j:=by omega
 unfold CP; rw [this,h2]
theorem Ig (k j:Nat) (hj:j < 4):AX (k * 4 + j)=AX j∧(k * 4 + j) % 4=j:=by
 have:(k * 4 + j) % 4=j:=by omega
 have h2:j % 4=j:=by omega
 unfold AX; rw [this,h2]; exact ⟨rfl,rfl⟩
theorem KV (g:Nat): ∀(l:List De) (k:Nat),oL w l (some ⟨g,0,none⟩) k->su w w2 g g (k * 6) ((k + l.length) * 6) (fun o=>Rel (fun _ _=>False) (CP o))-> ∃l':List De,l'.length=l.length∧oL w2 l' (some ⟨g,0,none⟩) k
 | [],_,_,_=>⟨[],rfl,trivial⟩
 | d ::r,k,⟨⟨g',eg,hc,hs⟩,ht⟩,hR=>by
   injection eg with eg;obtain rfl:g=g':=by injection eg
   rw [List.length_cons] at hR;have K:=Ie k;obtain ⟨n0,c0,i0⟩:=hR.int (hc 0 _ rfl) (by omega) (by omega) (K 0 (by decide));obtain ⟨n1,c1,i1⟩:=hR.int (hc 1 _ rfl) (by omega) (by omega) (K 1 (by decide));obtain ⟨n2,c2,i2⟩:=hR.str (hc 2 _ rfl) (by omega) (by omega) (K 2 (by decide));obtain ⟨n3,c3,i3⟩:=hR.int (hc 3 _ rfl) (by omega) (by omega) (K 3 (by decide));obtain ⟨n4,c4,i4⟩:=hR.int (hc 4 _ rfl) (by omega) (by omega) (K 4 (by decide));obtain ⟨n5,c5,i5⟩:=hR.str (hc 5 _ rfl) (by omega) (by omega) (K 5 (by decide));obtain ⟨r',q1,q2⟩:=KV g r (k + 1) ht (fun o u hu h1 h2=>hR o u hu (by omega) (by omega));obtain ⟨o0,o1,o2,o3,o4,o5⟩:=hs;exact ⟨⟨n0,n1,n2,n3,n4,n5⟩ ::r',by rw [List.length_cons,q1]; rfl,⟨g,rfl,dA.cons c0 (dA.cons c1 (dA.cons c2 (dA.cons c3 (dA.cons c4 (dA.cons c5 dA.nil))))),⟨i0 o0,i1 o1,i2 o2,i3 o3,i4 o4,i5 o5⟩⟩,q2⟩
theorem Lp (U:Up lo w w2 pE pS pT) (hE:Gy lo w w2 pE) (hS:Gz lo w w2 pE pS) (hT:KM lo w w2 pT) (g:Nat): ∀(l:List Th) (k:Nat),lQ w lo l (some ⟨g,0,none⟩) k->su w w2 g g (k * 4) ((k + l.length) * 4) (fun o=>Rel (fun u u2=>o % 4=2∧pT u u2) (AX o))-> ∃l':List Th,l'.length=l.length∧lQ w2 lo l' (some ⟨g,0,none⟩) k
 | [],_,_,_=>⟨[],rfl,trivial⟩
 | t ::r,k,⟨⟨g',dw,bG,bg,aU,eg,hc,hs,r1,r2,t1,t2⟩,ht⟩,hR=>by
   injection eg with eg;obtain rfl:g=g':=by injection eg
   rw [List.length_cons] at hR;have K:=Ig k;obtain ⟨n0,c0,i0⟩:=hR.str (hc 0 _ rfl) (by omega) (by omega) (K 0 (by decide)).1;obtain ⟨n1,c1,i1⟩:=hR.int (hc 1 _ rfl) (by omega) (by omega) (K 1 (by decide)).1;obtain ⟨u2,c2,i2⟩:=hR.sl (hc 2 _ rfl) (by omega) (by omega) (K 2 (by decide)).1;obtain ⟨u3,c3,i3⟩:=hR.sl (hc 3 _ rfl) (by omega) (by omega) (K 3 (by decide)).1;rw [(K 2 (by decide)).2] at i2;rw [(K 3 (by decide)).2] at i3;obtain ⟨r',q1,q2⟩:=Lp U hE hS hT g r (k + 1) ht (fun o u hu h1 h2=>hR o u hu (by omega) (by omega));obtain ⟨l2,eF,cap2,rfl,x2,y2⟩:=PW U hT (q:=True) (by simpa using i2) r1 t1;obtain ⟨l3,TY,SC,rfl,x3,y3⟩:=Dl U hS (Bz U hE hS t.body) (q:=False) (by simpa using i3) r2 t2;obtain ⟨o0,o1,-,-⟩:=hs;exact ⟨⟨n0,n1,l2,l3⟩ ::r',by rw [List.length_cons,q1]; rfl,⟨g,eF,cap2,TY,SC,rfl,dA.cons c0 (dA.cons c1 (dA.cons c2 (dA.cons c3 dA.nil))),⟨i0 o0,i1 o1,Nat.le_trans x2.le.1 x2.le.2,Nat.le_trans x3.le.1 x3.le.2⟩,x2,x3,y2,y3⟩,q2⟩
theorem wC (U:Up lo w w2 pE pS pT) (hE:Gy lo w w2 pE) (hS:Gz lo w w2 pE pS) (hT:KM lo w w2 pT) {p:Pr} {aT aZ:Option Addr} {aM aN:Nat} (h:p.T w lo aT aM aZ aN): ∃p':Pr,p'.ds.length=p.ds.length∧p'.ts.length=p.ts.length∧p'.T w2 lo aT aM aZ aN:=by
 obtain ⟨rD,rT,hD,U8⟩:=h;have Ud:=rD.up U.d;have Ue:=rT.up U.t;have key1: ∃l':List De,l'.length=p.ds.length∧oL w2 l' aT 0:=by
  rcases rD with ⟨rfl,h1,-⟩ | ⟨g,cs,rfl,h2,h3,-⟩
  ·exact ⟨[],h1.symm,trivial⟩
  ·exact KV g p.ds 0 hD ((U.d g h2).row h3 _ _)
 have key2: ∃l':List Th,l'.length=p.ts.length∧lQ w2 lo l' aZ 0:=by
  rcases rT with ⟨rfl,h1,-⟩ | ⟨g,cs,rfl,h2,h3,-⟩
  ·exact ⟨[],h1.symm,trivial⟩
  ·exact Lp U hE hS hT g p.ts 0 U8 ((U.t g h2).row h3 _ _)
 obtain ⟨ds,d1,d2⟩:=key1;obtain ⟨ts,t1,t2⟩:=key2;exact ⟨⟨ds,ts⟩,d1,t1,by rw [d1]; exact Ud,by rw [t1]; exact Ue,d2,t2⟩
def Wr (w w2:World) (W:Nat->Nat->Value->Prop):Prop:= ∀g cs T,w.heap[g]? =some (.cells cs T (0,0))-> ∃cs2,w2.heap[g]? =some (.cells cs2 T (0,0))∧cs2.size=cs.size∧ ∀o u,cs[o]? =some u-> ∃u2,cs2[o]? =some u2∧(u2=u∨W g o u2)
theorem Wr.trans {w1:World} {W1 W2:Nat->Nat->Value->Prop} (h:Wr w w1 W1) (k:Wr w1 w2 W2):Wr w w2 (fun g o u=>W1 g o u∨W2 g o u):=fun g cs T hb=>by
 obtain ⟨cs1,a1,a2,a3⟩:=h g cs T hb;obtain ⟨cs2,b1,b2,b3⟩:=k g cs1 T a1;refine ⟨cs2,b1,b2.trans a2,fun o u hu=> ?_⟩;obtain ⟨u1,c1,c2⟩:=a3 o u hu;obtain ⟨u2,d1,d2⟩:=b3 o u1 c1;refine ⟨u2,d1,?_⟩;rcases d2 with rfl | d2
 ·rcases c2 with rfl | c2
  ·exact .inl rfl
  ·exact .inr (.inl c2)
 ·exact .inr (.inr d2)
theorem Wr.kept (hk: ∀k,k < w.heap.size->w2.heap[k]? =w.heap[k]?):Wr w w2 (fun _ _ _=>False):=fun g cs T hb=>
 ⟨cs,(hk g (Array.getElem?_eq_some_iff.1 hb).1).trans hb,rfl,fun o u hu=>⟨u,hu,.inl rfl⟩⟩
theorem Wr.set (w:World) (b o:Nat) (v:Value):Wr w (w.setCell ⟨b,o,none⟩ v) (fun g o' u=>g=b∧o'=o∧u=v):=fun g cs T hb=>by
 by_cases hg:g=b
 ·subst hg;refine ⟨cs.setIfInBounds o v,aY hb v,by simp,fun o' u hu=> ?_⟩;by_cases ho:o'=o
  ·subst ho;have hlt:=(Array.getElem?_eq_some_iff.1 hu).1;exact ⟨v,by simp [hlt],.inr ⟨rfl,rfl,rfl⟩⟩
  ·exact ⟨u,by rw [Array.getElem?_setIfInBounds_ne (fun e=>ho e.symm)]; exact hu,.inl rfl⟩
 ·exact ⟨cs,(aW w _ _ rfl (fun e=>hg e.symm)).trans hb,rfl,fun o u hu=>⟨u,hu,.inl rfl⟩⟩
theorem Wr.sets (b:Nat): ∀(vs:List Value) (o:Nat) (w:World),Wr w (w.setCells b o vs) (fun g o' u=>g=b∧ ∃j,vs[j]? =some u∧o'=o + j)
 | [],_,w=>fun g cs T hb=>⟨cs,hb,rfl,fun o u hu=>⟨u,hu,.inl rfl⟩⟩
 | v ::vs,o,w=>fun g cs T hb=>by
   obtain ⟨cs2,h1,h2,h3⟩:=((Wr.set w b o v).trans (Wr.sets b vs (o + 1) (w.setCell ⟨b,o,none⟩ v))) g cs T hb;refine ⟨cs2,h1,h2,fun o' u hu=> ?_⟩;obtain ⟨u2,k1,k2⟩:=h3 o' u hu;refine ⟨u2,k1,?_⟩;rcases k2 with k2 | ⟨rfl,rfl,rfl⟩ | ⟨rfl,j,j1,j2⟩
   ·exact .inl k2
   ·exact .inr ⟨rfl,0,rfl,rfl⟩
   ·exact .inr ⟨rfl,j + 1,by simpa using j1,by omega⟩
structure NJ (w:World) (lo:Nat) (pE pS pT:Value->Value->Prop) (W:Nat->Nat->Value->Prop):Prop where
 e: ∀g cs o u u2,lo<=g->w.heap[g]? =some (.cells cs 57 (0,0))->cs[o]? =some u->W g o u2->Rel (fun _ _=>False) (ru o) u u2
 s: ∀g cs o u u2,lo<=g->w.heap[g]? =some (.cells cs 59 (0,0))->cs[o]? =some u->W g o u2->RS pE pS o u u2
 d: ∀g cs o u u2,lo<=g->w.heap[g]? =some (.cells cs 42 (0,0))->cs[o]? =some u->W g o u2->Rel (fun _ _=>False) (CP o) u u2
 t: ∀g cs o u u2,lo<=g->w.heap[g]? =some (.cells cs 47 (0,0))->cs[o]? =some u->W g o u2->Rel (fun u u2=>o % 4=2∧pT u u2) (AX o) u u2
 x: ∀g cs o u u2,lo<=g->w.heap[g]? =some (.cells cs 9 (0,0))->cs[o]? =some u->W g o u2->Rel (fun _ _=>False) 1 u u2
theorem Wr.up {W:Nat->Nat->Value->Prop} (h:Wr w w2 W) (k:NJ w lo pE pS pT W):Up lo w w2 pE pS pT:=by
 have go: ∀(T:TypeId) (R:Nat->Value->Value->Prop),(∀o u,R o u u)->(∀g cs o u u2,lo<=g->w.heap[g]? =some (.cells cs T (0,0))->cs[o]? =some u->W g o u2->R o u u2)-> ∀g,lo<=g->uF w w2 g T R:=fun T R hr hw g hg cs hb=>by
  obtain ⟨cs2,h1,h2,h3⟩:=h g cs T hb;refine ⟨cs2,h1,h2,fun o u hu=> ?_⟩;obtain ⟨u2,k1,k2⟩:=h3 o u hu;refine ⟨u2,k1,?_⟩;rcases k2 with rfl | k2
  ·exact hr _ _
  ·exact hw g cs o u u2 hg hb hu k2
 exact ⟨go _ _ (fun _ _=>Rel.refl _ _ _) k.e,go _ _ (fun _ _=>Rel.refl _ _ _) k.s,go _ _ (fun _ _=>Rel.refl _ _ _) k.d,go _ _ (fun _ _=>Rel.refl _ _ _) k.t,go _ _ (fun _ _=>Rel.refl _ _ _) k.x⟩
theorem jr {sp:Value->Value->Prop} {k:Nat} {u:Value} {n:Int} (hk:k=0) (hn:aD n):Rel sp k u (.int .i64 n):=by
 subst hk; exact ⟨fun _ _ _=>⟨n,rfl,fun _=>hn⟩,(fun h=>by cases h),(fun h=>by cases h)⟩
theorem jO {sp:Value->Value->Prop} {k:Nat} {u:Value} {s:ByteArray} (hk:k=1) (hs:s.size<=maxLen):Rel sp k u (.string s):=by
 subst hk; exact ⟨(fun h=>by cases h),fun _ _ _=>⟨s,rfl,fun _=>hs⟩,(fun h=>by cases h)⟩
theorem pU {sp:Value->Value->Prop} {k:Nat} {u:Value} (hk:k=2):Rel sp k u (.slice none 0 0):=by
 subst hk; exact ⟨(fun h=>by cases h),(fun h=>by cases h),fun _ _ _ _ _=> .inr (.inl rfl)⟩
theorem Da {sp:Value->Value->Prop} {k:Nat} {u u2:Value} (hk:k=2) (hs:sp u u2):Rel sp k u u2:=by
 subst hk; exact ⟨(fun h=>by cases h),(fun h=>by cases h),fun _ _ _ _ _=> .inr (.inr hs)⟩
end
end Md
end Go.Proofs.YtkajcclnlehkmaaGreatDoor
