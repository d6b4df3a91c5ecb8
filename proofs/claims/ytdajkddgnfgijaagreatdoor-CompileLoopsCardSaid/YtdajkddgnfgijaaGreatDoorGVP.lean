/-
  What it is that objects and code are valid. No program in sight.
  The closed programs of the compiler's laws: what they are parsed and compiled as, by evaluation of plain functions.
-/
import Derived.Test.YtdajkddgnfgijaaGreatDoorGPJ
import Derived.Test.YtdajkddgnfgijaaGreatDoorGA
import Derived.Test.YtdajkddgnfgijaaGreatDoorGZA
import Derived.Test.YtdajkddgnfgijaaGreatDoorGCE
section
set_option linter.unusedVariables false
set_option linter.unusedSimpArgs false
namespace Go.Proofs.YtdajkddgnfgijaaGreatDoor
open Go.RowKit
namespace Md
end Md
end Go.Proofs.YtdajkddgnfgijaaGreatDoor
end
section
namespace Go.Proofs.YtdajkddgnfgijaaGreatDoor
open Go.RowKit Md Pz
def wL (i:bS):List Int:=[i.op,i.a,i.b,i.c,i.n,i.st]
def Sj:List Int→bS
 | [a,b,c,d,e,f]=>⟨a,b,c,d,e,f⟩
 | _=>⟨0,0,0,0,0,0⟩
theorem XL (l:List bS):(l.map wL).map Sj=l:=by
 rw [List.map_map]
 have:(Sj ∘ wL)=id:=rfl
 rw [this,List.map_id]
def KN:aP→Bool
 | .nil=>true
 | .cons h b e r=>decide (Md.gH h≤1000) && (KN b && (KN e && KN r))
theorem Ef: ∀l:aP,KN l=true→l.Ev (fun h=>Md.gH h≤1000)
 | .nil,_=>trivial
 | .cons h b e r,hs=>by
   unfold KN at hs
   simp only [Bool.and_eq_true,decide_eq_true_eq] at hs
   exact ⟨hs.1,Ef b hs.2.1,Ef e hs.2.2.1,Ef r hs.2.2.2⟩
def Ql (p:Pr):Bool:=decide (AY p.ts≤100000000000) && p.ts.all (fun t=>KN t.body)
theorem Qy {p:Pr} (h:Ql p=true):Fit p:=by
 unfold Ql at h
 simp only [Bool.and_eq_true,decide_eq_true_eq,List.all_eq_true] at h
 exact ⟨h.1,fun t ht=>Ef _ (h.2 t ht)⟩
def DZ:List UInt8:=[116,104,114,101,97,100,32,116,40,97,41,32,123,32,119,104,105,108,101,32,97,32,60,32,50,32,123,32,97,32,61,32,97,32,43,32,49,59,32,125,32,125]
def WB:List (List Int):=[[2,1,0,0,0,0],[1,2,0,0,2,0],[4,1,1,2,13,0],[10,1,9,0,0,0],[2,1,0,0,0,1],[1,2,0,0,1,1],[4,1,1,2,6,1],[2,0,1,0,0,1],[5,0,0,0,0,0],[28,0,0,0,0,-1]]
def Yw:Bool:=(parse DZ).2.1 == 0 && ((parse DZ).2.2 == 0 && ((nT (parse DZ).1).1 == 0 && (Ql (parse DZ).1 && ((zL (kL (parse DZ).1) (parse DZ).1.ts 0).map (fun t=>(t.regs,t.is.map wL)) == [(3,WB)] && (parse DZ).1.ts.length == 1))))
theorem ab7:Yw=true:=by decide +kernel
theorem Sy: ∃p,parse DZ=(p,0,0)∧(nT p).1=0∧Fit p∧zL (kL p) p.ts 0=[⟨3,WB.map Sj⟩]∧p.ts.length=1:=by
 have h:=ab7
 unfold Yw at h
 generalize parse DZ=r at h
 obtain ⟨p,e,l⟩:=r
 simp only [Bool.and_eq_true,beq_iff_eq] at h
 obtain ⟨rfl,rfl,h1,h2,h3,h4⟩:=h
 refine ⟨p,rfl,h1,Qy h2,?_,h4⟩
 generalize zL (kL p) p.ts 0=c at h3
 cases c with
 | nil=>cases h3
 | cons t c=>
   cases c with
   | cons a b=>simp at h3
   | nil=>
     simp only [List.map_cons,List.map_nil,List.cons.injEq,and_true,Prod.mk.injEq] at h3
     obtain ⟨r,is⟩:=t
     simp only at h3
     rw [← h3.1,← h3.2,XL]
end Go.Proofs.YtdajkddgnfgijaaGreatDoor
end
