/- Contracts of token.number and token.first. And what hangs on it. -/
import Derived.Test.YtkajcclnlehkmaaGreatDoorGTB
import Derived.Test.YtkajcclnlehkmaaGreatDoorGA
set_option linter.unusedSimpArgs false
set_option linter.unusedVariables false
set_option maxHeartbeats 40000000
set_option maxRecDepth 1000000
namespace Go.Proofs.YtkajcclnlehkmaaGreatDoor
open Go.RowKit
def tY (s:ByteArray):ByteArray:=⟨(s.data.toList.dropWhile (· == 48)).toArray⟩
theorem DU (s:ByteArray):(tY s).toList=s.data.toList.dropWhile (· == 48):=by unfold tY; rw [Lib.toList_data]
theorem J5 (s:ByteArray):(tY s).size=(s.data.toList.dropWhile (· == 48)).length:=by unfold tY; exact Lib.size_mk _
theorem Fh (s:ByteArray) (w:World) (h:s.toList.isEmpty=false):
 Calls Tryz.prog 70 #[.string s,.string ⟨#[48]⟩] w fun e w'=>e= .returned (.string (tY s))∧w=w':=Bp s w h
def Cc (z:ByteArray) (R:Nat × Nat × List UInt8) (k:Nat) (l:List UInt8):Prop:=
 (19 < z.size∧R=(3,0,[]))∨(z.size < 19∧R=(0,2,l))∨
 (z.size=19∧Op.bytesLess z.toList [57,50,50,51,51,55,50,48,51,54,56,53,52,55,55,53,56,48,55]=true∧R=(0,2,l))∨
 (z.size=19∧Op.bytesLess z.toList [57,50,50,51,51,55,50,48,51,54,56,53,52,55,55,53,56,48,55]=false∧(z.toList == [57,50,50,51,51,55,50,48,51,54,56,53,52,55,55,53,56,48,55])=true∧R=(0,2,l))∨
 (z.size=19∧Op.bytesLess z.toList [57,50,50,51,51,55,50,48,51,54,56,53,52,55,55,53,56,48,55]=false∧(z.toList == [57,50,50,51,51,55,50,48,51,54,56,53,52,55,55,53,56,48,55])=false∧R=(3,0,[]))∧0<=k
theorem sG (p:UInt8->Bool): ∀l:List UInt8,(l.takeWhile p).all p=true
 | []=>rfl
 | c ::l=>by
   rw [List.takeWhile_cons];split
   ·rename_i h; rw [List.all_cons,h,sG p l]; rfl
   ·rfl
theorem JN (l:List UInt8) (h:(l.dropWhile Tk.fU).head?.any Tk.eU=true):Tk.nR l=(3,0,[]):=by
 unfold Tk.nR; rw [h]; rfl
theorem P8 (s:ByteArray) (k:Nat) (hlen:(s.data.toList.takeWhile Tk.fU).length=k) (h:(s.data.toList.dropWhile Tk.fU).head?.any Tk.eU=false):
 Cc (tY (s.extract 0 k)) (Tk.nR s.data.toList) k (s.data.toList.takeWhile Tk.fU):=by
 have ha:=sG Tk.fU s.data.toList;unfold Cc Tk.nR;rw [DU,J5,yN hlen,h,Bool.false_or];generalize s.data.toList.takeWhile Tk.fU=d at *;rcases Nat.lt_trichotomy 19 (d.dropWhile (· == 48)).length with h1 | h1 | h1
 ·left; refine ⟨h1,?_⟩;rw [Tk.FL d ha h1]; rfl
 ·right; right;have hq:=Tk.JM d ha h1.symm;unfold Tk.great at hq;generalize Op.bytesLess (d.dropWhile (· == 48)) [57,50,50,51,51,55,50,48,51,54,56,53,52,55,55,53,56,48,55]=a at *;generalize (d.dropWhile (· == 48) == [57,50,50,51,51,55,50,48,51,54,56,53,52,55,55,53,56,48,55])=b at *;rw [<- hq];cases a <;> cases b <;> simp [h1.symm]
 ·right; left; refine ⟨h1,?_⟩;rw [Tk.DJ d ha h1]; rfl
theorem EB {p q:UInt8->Bool} {s:ByteArray} {k:Nat} (h:(s.data.toList.takeWhile p).length=k) (hlt:k < s.size):(s.data.toList.dropWhile p).head?.any q=q s[k]:=by
 have e:s.data.toList.dropWhile p=s.data.toList.drop k:=by rw [<- h,Tk.lC]
 have hl:k < s.data.toList.length:=by rw [<- Lib.size_eq]; exact hlt
 rw [e,List.drop_eq_getElem_cons hl];rfl
theorem CB {p q:UInt8->Bool} {s:ByteArray} {k:Nat} (h:(s.data.toList.takeWhile p).length=k) (hlt: ¬ k < s.size):(s.data.toList.dropWhile p).head?.any q=false:=by
 have e:s.data.toList.dropWhile p=s.data.toList.drop k:=by rw [<- h,Tk.lC]
 rw [e,List.drop_of_length_le (by rw [<- Lib.size_eq]; omega)];rfl
theorem FM (s:ByteArray) (w:World) (hs:s.size<=4096) (h0:0 < s.size) (hD:Tk.fU s[0]=true):
 Calls Tryz.prog 60 #[.string s] w fun e w'=>e= .returned (nu (Tk.nR s.data.toList))∧Below w.heap.size w w':=by
 have hin1:uh Tk.fU s 1:=uh.one h0 hD;clear hD;go_enter Tryz.func60,Tryz.ntmps60;go_wp2;go_loop [4] (fun i=> ∃k:Nat,1<=k∧k<=s.size∧i= .int .i64 k∧uh Tk.fU s k) (fun i=>s.size - (intOf i).toNat)
 case atStart=>exact ⟨1,Nat.le_refl _,h0,rfl,hin1⟩
 case round=>
  obtain ⟨k,hk1,hk,rfl,hin⟩:=hrel;clear hin1;by_cases hc: ∃h:k < s.size,Tk.fU s[k]=true
  ·obtain ⟨hlt,hi⟩:=hc;have hst:=hin.step hlt hi;have h1:Tk.jL (s[k].toNat:Int)=true:=hi;clear hi;go_wp2_with (go_at_call 59; refine (iC _ _).mono ?_; rintro e w' ⟨rfl,rfl⟩);go_round
   case rel=>exact ⟨k + 1,by omega,by omega,by go_num,hst⟩
   case measure=>simp [intOf]; omega
  ·have hlen:(s.data.toList.takeWhile Tk.fU).length=k:=hin.len hk (fun h=>by rw [Bool.eq_false_iff]; exact fun e=>hc ⟨h,e⟩);have EX:=ah (tu hlen);have hne:(s.extract 0 k).toList.isEmpty=false:=by
    rw [Lib.extract_toList];have:0 < s.data.toList.length:=(by rw [<- Lib.size_eq]; exact h0);cases hd:s.data.toList with
    | nil=>rw [hd] at this; simp at this
    | cons a r=>simp; omega
   by_cases hA: ∃h:k < s.size,Tk.eU s[k]=true
   ·obtain ⟨hlt,hi⟩:=hA;have h2:Tk.jL (s[k].toNat:Int)=false:=(by show Tk.fU s[k]=false;rw [Bool.eq_false_iff]; exact fun e=>hc ⟨hlt,e⟩);have HR:aj (Tk.nR s.data.toList=(3,0,[])):=ah (JN _ (by rw [EB hlen hlt]; exact hi));clear hc hlen;rcases qZ s[k] with ⟨_,h1⟩ | ⟨_,_,h3⟩ | ⟨_,h1,_,h3⟩ | ⟨h4,_⟩
    case inr.inr.inr=>rw [hi] at h4; cases h4
    case inr.inl=>rw [h2] at h3; cases h3
    all_goals clear hi;go_wp2_with (first | (go_at_call 57; refine (iG _ _).mono ?_; rintro e w' ⟨rfl,rfl⟩) | (go_at_call 59; refine (iC _ _).mono ?_; rintro e w' ⟨rfl,rfl⟩));exact bodyPost_ret (v:= .tuple #[.agg #[.int .i64 0,.string ⟨#[]⟩,.int .i64 0],.int .i64 3]) (by simp [results,Tryz.results60,go_sem]) rfl ⟨by rw [HR.o]; rfl,(Below.refl _ _).alloc (Nat.le_refl _) _⟩
   ·have HN:aj (Cc (tY (s.extract 0 k)) (Tk.nR s.data.toList) k (s.data.toList.takeWhile Tk.fU)):=by
     refine ah (P8 s k hlen ?_);by_cases hlt:k < s.size
     ·rw [EB hlen hlt,Bool.eq_false_iff]; exact fun e=>hA ⟨hlt,e⟩
     ·exact CB hlen hlt
    have go: ∀Z:Prop,((hlt:k < s.size)->Tk.ko (s[k].toNat:Int)=false->Tk.jL (s[k].toNat:Int)=false->((s[k].toNat:Int) == 95)=false->Z)->(¬ k < s.size->Z)->Z:=by
     intro Z h1 h2;by_cases hlt:k < s.size
     ·rcases qZ s[k] with ⟨h,_⟩ | ⟨h,_⟩ | ⟨h,_⟩ | ⟨_,ha,hb,hcc⟩
      ·exact absurd ⟨hlt,h⟩ hA
      ·exact absurd ⟨hlt,h⟩ hA
      ·exact absurd ⟨hlt,h⟩ hA
      ·exact h1 hlt ha hb hcc
     ·exact h2 hlt
    clear hc hA hlen;rcases HN.o with ⟨z1,hR⟩ | ⟨z1,hR⟩ | ⟨z1,z2,hR⟩ | ⟨z1,z2,z3,hR⟩ | ⟨⟨z1,z2,z3,hR⟩,_⟩
    all_goals have HRR:=ah hR;have zb:(((tY (s.extract 0 k)).size:Int) == 19)=decide ((tY (s.extract 0 k)).size=19):=(by rw [Bool.eq_iff_iff]; simp; omega);clear hR HN;refine go _ (fun hlt t1 t2 t3=> ?_) (fun hlt=> ?_)
    all_goals clear go;go_wp2_with (first | (go_at_call 57; refine (iG _ _).mono ?_; rintro e w' ⟨rfl,rfl⟩) | (go_at_call 59; refine (iC _ _).mono ?_; rintro e w' ⟨rfl,rfl⟩) | (go_at_call 70; refine (Fh _ _ hne).mono ?_; rintro e w' ⟨rfl,rfl⟩))
    all_goals first
     | exact bodyPost_ret (v:= .tuple #[.agg #[.int .i64 0,.string ⟨#[]⟩,.int .i64 0],.int .i64 3]) (by simp [results,Tryz.results60,go_sem]) rfl ⟨by rw [HRR.o]; rfl,(Below.refl _ _).alloc (Nat.le_refl _) _⟩
     | exact bodyPost_ret (v:= .tuple #[.agg #[.int .i64 2,.string (s.extract 0 k),.int .i64 0],.int .i64 0]) (by simp [results,Tryz.results60,go_sem]) rfl ⟨by rw [HRR.o,EX.o]; rfl,(Below.refl _ _).alloc (Nat.le_refl _) _⟩
theorem KS {W w1:World} (hb:Below W.heap.size W w1):(∀b o,b < W.heap.size->w1.cell? ⟨b,o,none⟩=W.cell? ⟨b,o,none⟩)∧(∀b o,b < W.heap.size->w1.frozen? ⟨b,o,none⟩=W.frozen? ⟨b,o,none⟩):=
 ⟨fun b o h=>hb.cell (p:=⟨b,o,none⟩) h,fun b o h=>hb.frozen (p:=⟨b,o,none⟩) h⟩
theorem Qy (l:List UInt8):(Tk.gM l).length<=l.length:=by
 rw [Tk.sQ]; split
 ·rw [List.length_take]; omega
 ·split
  ·rw [List.length_take]; omega
  ·simp
theorem Mq (l:List UInt8):l.take (Tk.gM l).length=Tk.gM l:=by
 rw [Tk.sQ]; split
 ·rw [List.length_take,List.take_eq_take_iff]; omega
 ·split
  ·rw [List.length_take,List.take_eq_take_iff]; omega
  ·rfl
theorem Ay (s:ByteArray) (w:World) (hs:s.size<=4096) (h0:0 < s.size) (gK:dx w):
 Calls Tryz.prog 45 #[.string s] w fun e w'=>e= .returned (nu (Tk.first s.data.toList))∧Below w.heap.size w w':=by
 have hhd:=LX s h0;cases hL:Tk.oo s[0]
 ·have h1:Tk.ko (s[0].toNat:Int)=false:=hL;cases hD:Tk.fU s[0]
  ·have h2:Tk.jL (s[0].toNat:Int)=false:=hD;have HR:aj (Tk.first s.data.toList=Tk.vP s.data.toList):=by apply ah; unfold Tk.first; rw [hhd,hL,hD]; rfl
   clear hhd hL hD;have HE:aj (s.extract 0 (Tk.gM s.data.toList).length=⟨(Tk.gM s.data.toList).toArray⟩):=by apply ah;rw [Lib.extract_upto,Mq]
   have hle:(Tk.gM s.data.toList).length<=s.size:=by rw [Lib.size_eq]; exact Qy _
   have HS:aj (Tk.vP s.data.toList=if (Tk.gM s.data.toList).isEmpty then (3,0,[]) else (0,4,Tk.gM s.data.toList)):=ah rfl;by_cases hn:(Tk.gM s.data.toList).length=0
   ·have hn0:Tk.gM s.data.toList=[]:=List.eq_nil_of_length_eq_zero hn;have HS2:aj (Tk.vP s.data.toList=(3,0,[])):=(by apply ah; rw [HS.o,hn0]; rfl);have hb0:(((Tk.gM s.data.toList).length:Int) == 0)=true:=(by rw [hn]; rfl);clear HS HE hn hn0;go_enter Tryz.func45,Tryz.ntmps45;go_wp2_with (first | (go_at_call 57; refine (iG _ _).mono ?_; rintro e w' ⟨rfl,rfl⟩) | (go_at_call 59; refine (iC _ _).mono ?_; rintro e w' ⟨rfl,rfl⟩) | (go_at_call 61; refine (Dk _ _ h0).mono ?_; rintro e w' ⟨rfl,rfl⟩));exact bodyPost_ret (v:= .tuple #[.agg #[.int .i64 0,.string ⟨#[]⟩,.int .i64 0],.int .i64 3]) (by simp [results,Tryz.results45,go_sem]) rfl ⟨by rw [HR.o,HS2.o]; rfl,(Below.refl _ _).alloc (Nat.le_refl _) _⟩
   ·have HS2:aj (Tk.vP s.data.toList=(0,4,Tk.gM s.data.toList)):=(by apply ah; rw [HS.o,if_neg];intro h; exact hn (by rw [List.isEmpty_iff] at h; rw [h]; rfl));have hb0:(((Tk.gM s.data.toList).length:Int) == 0)=false:=(by rw [beq_eq_false_iff_ne]; omega);clear HS;go_enter Tryz.func45,Tryz.ntmps45;go_wp2_with (first | (go_at_call 57; refine (iG _ _).mono ?_; rintro e w' ⟨rfl,rfl⟩) | (go_at_call 59; refine (iC _ _).mono ?_; rintro e w' ⟨rfl,rfl⟩) | (go_at_call 61; refine (Dk _ _ h0).mono ?_; rintro e w' ⟨rfl,rfl⟩));exact bodyPost_ret (v:= .tuple #[.agg #[.int .i64 4,.string (s.extract 0 (Tk.gM s.data.toList).length),.int .i64 0],.int .i64 0]) (by simp [results,Tryz.results45,go_sem]) rfl ⟨by rw [HR.o,HS2.o,HE.o]; rfl,(Below.refl _ _).alloc (Nat.le_refl _) _⟩
  ·have h2:Tk.jL (s[0].toNat:Int)=true:=hD;have HR:aj (Tk.first s.data.toList=Tk.nR s.data.toList):=by apply ah; unfold Tk.first; rw [hhd,hL,hD]; rfl
   clear hhd;generalize hr:Tk.nR s.data.toList=r at *;have Hr:=ah hr;clear hr;go_enter Tryz.func45,Tryz.ntmps45;go_wp2_with (first | (go_at_call 57; refine (iG _ _).mono ?_; rintro e w' ⟨rfl,rfl⟩) | (go_at_call 59; refine (iC _ _).mono ?_; rintro e w' ⟨rfl,rfl⟩));refine (FM s _ hs h0 hD).mono ?_;rintro e w1 ⟨rfl,hb⟩;rw [Hr.o];obtain ⟨hc,hf⟩:=KS hb;have hz:w.heap.size < w1.heap.size:=by have:=hb.size; simp at this; omega
   unfold nu;go_wp2;refine bodyPost_ret (v:=nu r) (by simp [results,Tryz.results45,go_sem,nu,hc]) rfl ⟨by rw [HR.o],?_⟩;exact (((((Below.refl _ _).alloc (Nat.le_refl _) _).trans (hb.mono (by simp))).setCell (by simp) _).setCell (by simp) _).setCell (by simp) _
 ·have HR:aj (Tk.first s.data.toList=Tk.jF s.data.toList):=by apply ah; unfold Tk.first; rw [hhd,if_pos hL]
  have h1:Tk.ko (s[0].toNat:Int)=true:=hL;clear hhd;generalize hr:Tk.jF s.data.toList=r at *;have Hr:=ah hr;clear hr;go_enter Tryz.func45,Tryz.ntmps45;go_wp2_with (first | (go_at_call 57; refine (iG _ _).mono ?_; rintro e w' ⟨rfl,rfl⟩) | (go_at_call 59; refine (iC _ _).mono ?_; rintro e w' ⟨rfl,rfl⟩));refine (Kk s _ hs h0 hL (gK.alloc _)).mono ?_;rintro e w1 ⟨rfl,hb⟩;rw [Hr.o];obtain ⟨hc,hf⟩:=KS hb;have hz:w.heap.size < w1.heap.size:=by have:=hb.size; simp at this; omega
  unfold nu;go_wp2;refine bodyPost_ret (v:=nu r) (by simp [results,Tryz.results45,go_sem,nu,hc]) rfl ⟨by rw [HR.o],?_⟩;exact (((((Below.refl _ _).alloc (Nat.le_refl _) _).trans (hb.mono (by simp))).setCell (by simp) _).setCell (by simp) _).setCell (by simp) _
theorem Tryz.infoTok:(Tryz.prog.info? 94).map (fun i=>(i.zero,i.size,i.bytes))=some (some (.agg #[.int .i64 0,.string ⟨#[]⟩,.int .i64 0]),3,32):=by kernel_rfl
def xu (w:World) (r:List Tk.Tok × Nat × Nat) (e:Ending) (w':World):Prop:=
 ∃v:Value,e= .returned (.tuple #[v,.int .i64 r.2.1,.int .i64 r.2.2])∧w'.ownsRow w.heap.size 94 3 v r.1.length (Tk.cellsOf r.1)∧Below w.heap.size w w'
theorem own_below {w w':World} {base:Nat} {e:TypeId} {size:Nat} {v:Value} {n:Nat} {xs:List Value} (h:w.ownsRow base e size v n xs) (hb:Below w.heap.size w w'):w'.ownsRow base e size v n xs:=
 h.kept (row:=none) ⟨hb.os,hb.tape,hb.output,hb.size,fun i hi _=>hb.block i hi⟩ (by cases hv:v.ownBlock <;> simp)
theorem Kh {w1 w2:World} {base:Nat} {e:TypeId} {size:Nat} {u:Value} {n:Nat} {xs:List Value} (h:w1.ownsRow base e size u n xs) (cs:Array Value) (t:TypeId) (o:Obj)
 (hg:((w1.alloc (.cells cs t)).alloc o).grownBy w2 u.ownBlock) (j:Nat):w2.cell? ⟨w1.heap.size,j,none⟩=cs[j]?:=by
 have e1:w2.heap[w1.heap.size]? =((w1.alloc (.cells cs t)).alloc o).heap[w1.heap.size]?:=hg.block _ (by simp; omega) (fun e=>by have:=(h.lt _ e.symm).2; omega);have e2:((w1.alloc (.cells cs t)).alloc o).heap[w1.heap.size]? =some (.cells cs t (0,0)):=by rw [Below.heap_alloc _ _ _ (by simp)];exact heap_alloc_new w1 _
 exact cell_of_row w2 w1.heap.size j cs t (0,0) (e1.trans e2)
theorem IY {B:Nat} {w w1 w2:World} {e:TypeId} {size:Nat} {u:Value} {n:Nat} {xs:List Value} (h:w1.ownsRow B e size u n xs) (hb:Below B w w1) (hB:B<=w1.heap.size) (o1 o2:Obj)
 (hg:((w1.alloc o1).alloc o2).grownBy w2 u.ownBlock):Below B w w2:=
 ((hb.alloc hB o1).alloc (by simp; omega) o2).grown hg (by simp; omega) (fun k hk=>(h.lt _ hk).1)
def Pv (s:ByteArray):Bool:=[47,47].isPrefixOf s.data.toList
def Fv (s:ByteArray):Nat:=Tk.uq s.data.toList
theorem mO (s:ByteArray) (w:World):
 Calls Tryz.prog 43 #[.string s,.string ⟨#[47,47]⟩] w fun e w'=>e= .returned (.bool (Pv s))∧w=w':=Bo s _ w
theorem GN (s:ByteArray) (w:World) (hs:s.size<=4096):
 Calls Tryz.prog 44 #[.string s] w fun e w'=>e= .returned (.int .i64 (Fv s))∧w=w':=Dx s w hs
theorem rG (s:ByteArray) (k:Nat):(s.extract k s.size).data.toList=s.data.toList.drop k:=by
 rw [Lib.extract_data,List.take_of_length_le (by rw [List.length_drop,Lib.size_eq]; exact Nat.le_refl _)]
theorem Qp (c:UInt8) (h:c≠10):((c.toNat:Int) == 10)=false:=by
 rw [beq_eq_false_iff_ne]; intro e; exact h (UInt8.toNat_inj.1 (by rw [show c.toNat=10 from by omega]; rfl))
theorem Dv (c:UInt8):((c=32∨c=9∨c=13)∧(((c.toNat:Int) == 32)=true∨(((c.toNat:Int) == 32)=false∧((c.toNat:Int) == 9)=true)∨(((c.toNat:Int) == 32)=false∧((c.toNat:Int) == 9)=false∧((c.toNat:Int) == 13)=true)))∨
 (¬ (c=32∨c=9∨c=13)∧((c.toNat:Int) == 32)=false∧((c.toNat:Int) == 9)=false∧((c.toNat:Int) == 13)=false):=by
 by_cases h1:c=32
 ·subst h1; left; exact ⟨.inl rfl,.inl rfl⟩
 ·by_cases h2:c=9
  ·subst h2; left; exact ⟨.inr (.inl rfl),.inr (.inl ⟨rfl,rfl⟩)⟩
  ·by_cases h3:c=13
   ·subst h3; left; exact ⟨.inr (.inr rfl),.inr (.inr ⟨rfl,rfl,rfl⟩)⟩
   ·right;have nb: ∀x:UInt8,c≠x->((c.toNat:Int) == (x.toNat:Int))=false:=(by intro x h; rw [beq_eq_false_iff_ne]; intro e; exact h (UInt8.toNat_inj.1 (by omega)));exact ⟨by simp [h1,h2,h3],nb 32 h1,nb 9 h2,nb 13 h3⟩
theorem Cg (s:ByteArray) (w:World) (gK:dx w) (hm:s.size<=maxLen):
 Calls Tryz.prog 30 #[.string s] w (xu w (Tk.scan s.data.toList)):=by
 have hsz:=Lib.size_eq s;unfold maxLen at hm;by_cases hbig:4096 < s.size
 ·have HR:aj (Tk.scan s.data.toList=([],2,0)):=by apply ah; unfold Tk.scan; rw [if_pos (by omega)]
  clear hsz;go_enter Tryz.func30,Tryz.ntmps30;go_wp2
  go_ret3
  rw [HR.o];exact ⟨_,rfl,World.ownsRow_nil _ _ _ _,Below.refl _ _⟩
 ·have HR:aj (Tk.scan s.data.toList=Tk.dW s.data.toList.length s.data.toList 1 []):=by apply ah; unfold Tk.scan; rw [if_neg (by omega)]
  have hst:=Tk.SP.start s.data.toList;rw [<- HR.o] at hst;generalize Tk.scan s.data.toList=R at *;clear HR hsz;obtain ⟨i0,hi,hz0,hz1,hz2⟩:=info_parts Tryz.infoTok;have hs:s.size<=4096:=by omega
  clear hbig hm;go_enter Tryz.func30,Tryz.ntmps30;go_wp2;go_loopw [5,6,7] (fun v ln i wr=> ∃(k line:Nat) (acc:List Tk.Tok),i= .int .i64 k∧ln= .int .i64 line∧Tk.SP s.data.toList R k line acc∧
   wr.ownsRow w.heap.size 94 3 v acc.length (Tk.cellsOf acc)∧Below w.heap.size w wr) (fun _ _ i _=>s.size - (intOf i).toNat)
  case atStart=>exact ⟨0,1,[],rfl,rfl,hst,World.ownsRow_nil _ _ _ _,Below.refl _ _⟩
  case round=>
   obtain ⟨k,line,acc,rfl,rfl,hsp,hown,hbel⟩:=hrel;clear hst;have hk:k<=s.size:=by rw [Lib.size_eq]; exact hsp.1
   have Uo:line<=k + 1:=hsp.2.1;by_cases hlt:k < s.size
   ·have hlt':k < s.data.toList.length:=(by rw [<- Lib.size_eq]; exact hlt);have hget:s.data.toList[k]=s[k]:=rfl;by_cases h10:s[k]=10
    ·have hnx:=hsp.nl hlt' h10;have hb:((s[k].toNat:Int) == 10)=true:=(by rw [h10]; rfl);clear h10 hget;go_wp2;go_roundw
     case rel=>exact ⟨k + 1,line + 1,acc,by go_num,by go_num,hnx,hown,hbel⟩
     case measure=>simp [intOf]; omega
    ·have hb:=Qp _ h10;rcases Dv s[k] with ⟨hbl,hcase⟩ | ⟨hbl,t1,t2,t3⟩
     ·have hnx:=hsp.blank hlt' hbl;clear h10 hget hbl;rcases hcase with t1 | ⟨t1,t2⟩ | ⟨t1,t2,t3⟩
      all_goals
       go_wp2;go_roundw
       case rel=>exact ⟨k + 1,line,acc,by go_num,rfl,hnx,hown,hbel⟩
       case measure=>simp [intOf]; omega
     ·have hts:(s.extract k s.size).size=s.size - k:=(by simp);have Ot:dx wr:=gK.below hbel gK.lt;cases hp:Pv (s.extract k s.size)
      ·have hp':[47,47].isPrefixOf (s.data.toList.drop k)=false:=(by rw [<- rG]; exact hp);have hte:(s.extract k s.size).size<=4096:=(by omega);have ht0:0 < (s.extract k s.size).size:=(by omega);have hok:=fun h4=>hsp.tok hlt' h10 hbl hp' h4;have Js:=fun h4=>hsp.err hlt' h10 hbl hp' h4;have Hd:=ah (rG s k);clear h10 hget hbl hp' hts;generalize hr:Tk.first (s.data.toList.drop k)=r at *;have Hr:=ah hr;clear hr;obtain ⟨en,kind,text⟩:=r;by_cases he:en=0
       ·subst he;obtain ⟨hnx,htl⟩:=hok rfl;simp only [] at hnx htl;clear hok Js;have hle:k + text.length<=s.size:=(by have:=hnx.1; rw [<- Lib.size_eq] at this; exact this);have hacc:acc.length<=4096:=(by have:=hsp.2.2.1; omega);have hth:(⟨text.toArray⟩:ByteArray).size=text.length:=Lib.size_mk _;go_wp2_with (go_at_call 43; refine (mO _ _).mono ?_; rintro e w' ⟨rfl,rfl⟩);refine (Ay _ _ hte ht0 Ot).mono ?_;rintro e w1 ⟨rfl,hb1⟩;rw [Hd.o,Hr.o];unfold nu;have hown1:=own_below hown hb1;have hbs:=hbel.size;have Ut:=hb1.size;go_wp2_with (at_builtin; refine wpList_append_own _ rfl _ _ 72 rfl w.heap.size 94 i0 _ 3 32 Tryz.underlying72 hi hz0 hz1 hz2 rfl (by decide) _ _ _ rfl ((hown1.alloc _).alloc _) ⟨w1.heap.size + 1,0,none⟩ 1 1 [.int .i64 kind,.string ⟨text.toArray⟩,.int .i64 line] rfl rfl ?c1 ?c2 ?c3 ?c4 ?c5 ?_)
        case c1=>
         intro j u hj
         match j,hj with
         | 0,hj=>simp at hj; subst hj; simp [Addr.add]
         | 1,hj=>simp at hj; subst hj; simp [Addr.add]
         | 2,hj=>simp at hj; subst hj; simp [Addr.add]
        case c2=>intro u hu; simp at hu; rcases hu with rfl | rfl | rfl <;> rfl
        case c3=>unfold maxLen; omega
        case c4=>omega
        case c5=>simp; omega
        intro v' w2 hown2 hgrow2 _;have hcell:=Kh hown1 _ _ _ hgrow2 1;have Qi:=IY hown1 (hbel.trans (hb1.mono hbs)) (by omega) _ _ hgrow2;have hown3:w2.ownsRow w.heap.size 94 3 v' (acc++[(⟨kind,text,line⟩:Tk.Tok)]).length (Tk.cellsOf (acc++[(⟨kind,text,line⟩:Tk.Tok)])):=(by rw [Tk.Ck,Tk.cells_one,List.length_append]; exact hown2);clear hown2 hgrow2 hown1 hown hb1 hbel hi hz0 hz1 hz2;simp only [List.getElem?_toArray,List.getElem?_cons_succ,List.getElem?_cons_zero] at hcell;go_wp2;go_roundw
        case rel=>exact ⟨k + text.length,line,_,by go_num,rfl,hnx,hown3,Qi⟩
        case measure=>simp [intOf]; omega
       ·have hR:=ah (Js he);have he1:((en:Int) == 0)=false:=(by rw [beq_eq_false_iff_ne]; omega);have he2:((en:Int) != 0)=true:=(by rw [bne_iff_ne]; omega);clear hok Js he;go_wp2_with (go_at_call 43; refine (mO _ _).mono ?_; rintro e w' ⟨rfl,rfl⟩);refine (Ay _ _ hte ht0 Ot).mono ?_;rintro e w1 ⟨rfl,hb1⟩;rw [Hd.o,Hr.o];unfold nu;have hbs:=hbel.size;go_wp2
        go_ret3
        rw [hR.o];exact ⟨_,rfl,World.ownsRow_nil _ _ _ _,(hbel.trans (hb1.mono hbs)).alloc (by have:=hb1.size; omega) _⟩
      ·have hp':[47,47].isPrefixOf (s.data.toList.drop k)=true:=(by rw [<- rG]; exact hp);obtain ⟨hnx,hc1⟩:=hsp.uq hlt' h10 hbl hp';rw [<- rG] at hnx hc1;have hc1':1<=Fv (s.extract k s.size):=hc1;have hle:k + Fv (s.extract k s.size)<=s.size:=(by have:=hnx.1; rw [<- Lib.size_eq] at this; exact this);have hte:(s.extract k s.size).size<=4096:=(by omega);clear h10 hget hbl hp' hc1 hts;go_wp2_with (first | (go_at_call 43; refine (mO _ _).mono ?_; rintro e w' ⟨rfl,rfl⟩) | (go_at_call 44; refine (GN _ _ hte).mono ?_; rintro e w' ⟨rfl,rfl⟩));go_roundw
       case rel=>exact ⟨k + Fv (s.extract k s.size),line,acc,by go_num,rfl,hnx,hown,hbel⟩
       case measure=>simp [intOf]; omega
   ·have hR:=ah (hsp.done (by rw [<- Lib.size_eq]; exact hlt));go_wp2
    go_ret3
    rw [hR.o];exact ⟨_,rfl,hown,hbel⟩
end Go.Proofs.YtkajcclnlehkmaaGreatDoor
