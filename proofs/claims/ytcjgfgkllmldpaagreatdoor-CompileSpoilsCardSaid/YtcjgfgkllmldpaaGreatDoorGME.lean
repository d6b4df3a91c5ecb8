/- Objects and code of a program as data, and what is compiled. No program text in sight. And what hangs on it. -/
import Derived.Test.YtcjgfgkllmldpaaGreatDoorGMB
import Derived.Test.YtcjgfgkllmldpaaGreatDoorGNA
set_option linter.unusedSimpArgs false
set_option linter.unusedVariables false
set_option maxHeartbeats 40000000
set_option maxRecDepth 1000000
namespace Go.Proofs.YtcjgfgkllmldpaaGreatDoor
open Go.RowKit
namespace Md
structure mU where
 nm:ByteArray
 ix:Int
 sz:Int
 xM:Bool
 init:Int
structure xI where
 nm:ByteArray
 rw:Bool
structure Ji where
 nm:ByteArray
 mx:Int
structure tK where
 th:Int
 st:Int
 ln:Int
structure Wo where
 cs:List mU
 ls:List xI
 ns:List Ji
 fs:List ByteArray
 ts:List ByteArray
 ss:List tK
structure dw where
 op:Int
 a:Int
 b:Int
 c:Int
 n:Int
 st:Int
structure xJ where
 regs:Int
 is:List dw
def kM (x:mU):List Value:=[.string x.nm,.int .i64 x.ix,.int .i64 x.sz,.bool x.xM,.int .i64 x.init]
def mW (x:xI):List Value:=[.string x.nm,.bool x.rw]
def yB (x:Ji):List Value:=[.string x.nm,.int .i64 x.mx]
def kI (x:ByteArray):List Value:=[.string x]
def sZ (x:tK):List Value:=[.int .i64 x.th,.int .i64 x.st,.int .i64 x.ln]
def jd (x:dw):List Value:=[.int .i64 x.op,.int .i64 x.a,.int .i64 x.b,.int .i64 x.c,.int .i64 x.n,.int .i64 x.st]
def dS {α:Type} (f:α->List Value) (m:Nat) (w:World) (B:Nat):List α->Option Addr->Nat->Prop
 | [],_,_=>True
 |x::r,ao,k=>(∃b off,ao=some ⟨b,off,none⟩∧b<B∧∀(j:Nat) (u:Value),(f x)[j]? =some u->w.cell? ⟨b,off+k*m+j,none⟩=some u)∧dS f m w B r ao (k+1)
def sG:List ByteArray->ByteArray->Int->Int
 | [],_,_=> -1
 |s::r,nm,k=>if s.toList==nm.toList then k else sG r nm (k+1)
def gK (l:List ByteArray) (nm:ByteArray):Int:=sG l nm 0
def sQ (d:De):Nat->Nat->List mU
 |0,_=>[]
 |n+1,k=>⟨d.nm,k,d.size,d.kind==2,d.init⟩::sQ d n (k+1)
def JX (d:De):List mU:=sQ d (max d.size 1).toNat 0
def lZ (W:Wo) (d:De):Wo:=
 if d.kind==1||d.kind==2 then {W with cs:=W.cs++JX d} else if d.kind==3||d.kind==4 then {W with ls:=W.ls++[⟨d.nm,d.kind==4⟩]} else
 if d.kind==5 then {W with ns:=W.ns++[⟨d.nm,gK (W.ls.map (·.nm)) d.on⟩]} else {W with fs:=W.fs++[d.nm]}
def dB:bf->Nat
 | .nil=>0
 | .cons _ b e r=>1+dB b+dB e+dB r
def tZ (i:Int):bf->Nat->List tK
 | .nil,_=>[]
 | .cons h b e r,n=>⟨i,n,h.line⟩::(tZ i b (n+1)++tZ i e (n+1+dB b)++tZ i r (n+1+dB b+dB e))
def zH (W:Wo) (i:Nat):List Th->Wo
 | []=>W
 |t::r=>zH {W with ts:=W.ts++[t.nm],ss:=W.ss++tZ i t.body 0} (i+1) r
def pq:Wo:=⟨[],[],[],[],[],[]⟩
def jJ (p:Pr):Wo:=zH (p.ds.foldl lZ pq) 0 p.ts
def Wo.cell (W:Wo) (nm:ByteArray):Int:=gK (W.cs.map (·.nm)) nm
def Wo.lock (W:Wo) (nm:ByteArray):Int:=gK (W.ls.map (·.nm)) nm
def Wo.cond (W:Wo) (nm:ByteArray):Int:=gK (W.ns.map (·.nm)) nm
def Wo.size (W:Wo) (nm:ByteArray):Int:=((W.cs[(W.cell nm).toNat]?).map (·.sz)).getD 0
def OV (W:Wo) (op:Int) (nm:ByteArray) (d st:Int):dw:=
 if op==3 then⟨7,d,W.cell nm,d,W.size nm,st⟩else if op==4||op==5 then⟨3,d,d,0,op,st⟩else⟨4,d,d,d+1,op,st⟩
def Df (W:Wo) (lc:List ByteArray) (op n:Int) (nm:ByteArray) (d st:Int):dw:=
 if op==1 then⟨1,d,0,0,n,st⟩else if decide (0<=gK lc nm)then⟨2,d,gK lc nm,0,0,st⟩else⟨6,d,W.cell nm,0,0,st⟩
def Jd (W:Wo) (lc:List ByteArray) (st:Int):bV->Int->List dw
 | .nil,_=>[]
 | .cons op n nm kids rest,d=>(if op==1||op==2 then [Df W lc op n nm d st]else Jd W lc st kids d++[OV W op nm d st])++Jd W lc st rest (d+1)
def lY (W:Wo) (lc:List ByteArray) (st:Int) (op n:Int) (nm:ByteArray) (kids:bV) (d:Int):List dw:=
 if op==1||op==2 then [Df W lc op n nm d st]else Jd W lc st kids d++[OV W op nm d st]
def iX (W:Wo) (lc:List ByteArray) (st:Int) (h:dM) (d:Int):List dw:=lY W lc st h.dY h.xn h.dX h.bM d
def EZ (W:Wo) (lc:List ByteArray) (st:Int) (h:dM):List dw:=
 match h.idx with
 | .nil=>iX W lc st h lc.length++[if decide (0<=gK lc h.nm)then⟨2,gK lc h.nm,lc.length,0,0,st⟩else⟨8,W.cell h.nm,lc.length,0,0,st⟩]
 | .cons op n nm kids _=>lY W lc st op n nm kids lc.length++iX W lc st h (lc.length+1)++[⟨9,W.cell h.nm,lc.length+1,lc.length,W.size h.nm,st⟩]
def Mf (W:Wo) (h:dM):Int:=if h.op==7||h.op==8 then 0 else W.lock h.nm
def Cw (op:Int):Int:=if op==4 then 11 else if op==5 then 13 else if op==6 then 15 else if op==7 then 17 else 19
def yX (W:Wo) (lc:List ByteArray) (st:Int) (h:dM):List dw:=
 if h.op==1 then EZ W lc st h else if h.op==9 then [⟨21,W.cond h.nm,0,0,0,st⟩]else if h.op==10 then [⟨22,W.cond h.nm,0,0,0,st⟩]else if h.op==11 then [⟨23,W.cond h.nm,0,0,0,st⟩]else
 if h.op==12 then [⟨24,gK W.ts h.nm,0,0,0,st⟩]else if h.op==13 then [⟨25,gK W.ts h.nm,0,0,0,st⟩]else
 if h.op==14 then iX W lc st h lc.length++[⟨26,gK W.fs h.nm,lc.length,0,0,st⟩]else if h.op==15 then [⟨27,gK lc h.nm,gK W.fs h.arg,0,0,st⟩]else []
def GR (W:Wo) (lc:List ByteArray) (st:Int) (h:dM) (X B E:List dw) (ne:Bool) (pos:Nat):List dw:=
 if h.op==2 then
  (if ne then X++[⟨10,lc.length,((pos+X.length+1+B.length:Nat):Int),0,0,st⟩]++B
   else X++[⟨10,lc.length,((pos+X.length+1+B.length+1:Nat):Int),0,0,st⟩]++B++[⟨5,((pos+X.length+1+B.length+1+E.length:Nat):Int),0,0,0,st⟩]++E)
 else if h.op==3 then X++[⟨10,lc.length,((pos+X.length+1+B.length+1:Nat):Int),0,0,st⟩]++B++[⟨5,(pos:Int),0,0,0,st⟩]
 else if decide (4<=h.op)&&decide (h.op<=8)then [⟨Cw h.op,Mf W h,0,0,0,st⟩]++B++[⟨Cw h.op+1,Mf W h,0,0,0,st⟩]
 else yX W lc st h
def bf.none:bf->Bool
 | .nil=>true
 |_=>false
def rM (h:dM) (X:List dw):Nat:=if h.op==2||h.op==3 then X.length+1 else 1
def ko (W:Wo) (lc:List ByteArray):bf->Nat->Nat->List dw
 | .nil,_,_=>[]
 | .cons h b e r,nx,pos=>
   GR W lc nx h (iX W lc nx h lc.length) (ko W lc b (nx+1) (pos+rM h (iX W lc nx h lc.length)))
      (ko W lc e (nx+1+dB b) (pos+rM h (iX W lc nx h lc.length)+(ko W lc b (nx+1) (pos+rM h (iX W lc nx h lc.length))).length+1)) e.none pos++
    ko W lc r (nx+1+dB b+dB e) (pos+
     (GR W lc nx h (iX W lc nx h lc.length) (ko W lc b (nx+1) (pos+rM h (iX W lc nx h lc.length)))
     (ko W lc e (nx+1+dB b) (pos+rM h (iX W lc nx h lc.length)+(ko W lc b (nx+1) (pos+rM h (iX W lc nx h lc.length))).length+1)) e.none pos).length)
def je (i:dw):List Int:=
 if i.op==1||i.op==6||i.op==10||i.op==27 then [i.a]else if i.op==2||i.op==3 then [i.a,i.b]else if i.op==4 then [i.a,i.b,i.c]else if i.op==7 then [i.a,i.c]else
 if i.op==8||i.op==26 then [i.b]else if i.op==9 then [i.b,i.c]else []
def mxR:List Int->Int->Int
 | [],n=>n
 |r::l,n=>mxR l (max n (r+1))
def CU:List dw->Int->Int
 | [],n=>n
 |i::l,n=>CU l (mxR (je i) n)
def coT (W:Wo) (t:Th) (nx:Nat):xJ:=
 ⟨CU (ko W t.cZ t.body nx 0++[⟨28,0,0,0,0,-1⟩]) t.cZ.length,ko W t.cZ t.body nx 0++[⟨28,0,0,0,0,-1⟩]⟩
def Gx (W:Wo):List Th->Nat->List xJ
 | [],_=>[]
 |t::r,nx=>coT W t nx::Gx W r (nx+dB t.body)
end Md
namespace Md
theorem OI: ∀(l:List ByteArray) (nm:ByteArray) (k:Int),sG l nm k= -1∨(k<=sG l nm k∧sG l nm k<k+l.length)
 | [],_,_=> .inl rfl
 |s::r,nm,k=>by
  rw[sG];split
  ·right;simp only[aB];omega
  ·rcases OI r nm (k+1)with h|h
   ·exact .inl h
   ·right;simp only[aB];omega
theorem Q0: ∀(l:List ByteArray) (nm:ByteArray) (k:Int),0<=k->(∃s∈l,s.toList=nm.toList)->0<=sG l nm k
 | [],_,_,_,⟨s,h,_⟩=>ahG
 |s::r,nm,k,hk,⟨x,hx,e⟩=>by
  rw[sG];split
  ·exact hk
  ·rename_i h;rcases List.mem_cons.1 hx with rfl|hx
   ·rw[e]at h;simp at h
   ·exact Q0 r nm (k+1) ahf ⟨x,hx,e⟩
theorem bg7 {l:List ByteArray} {nm:ByteArray} (h:0<=gK l nm):(gK l nm).toNat<l.length:=by
 unfold gK at *;rcases OI l nm 0 with h1|h1
 ·omega
 ·omega
theorem XO (l:List ByteArray) (nm:ByteArray): -1<=gK l nm∧gK l nm<max l.length 1:=by
 unfold gK;rcases OI l nm 0 with h1|h1 <;> omega
def Mx (W:Wo):bV->Bool
 | .nil=>true
 | .cons op _ nm kids rest=>((!(op==3)||decide (0<=W.cell nm))&&Mx W kids)&&Mx W rest
def AP (W:Wo) (op:Int) (nm:ByteArray) (kids:bV):Bool:=(!(op==3)||decide (0<=W.cell nm))&&Mx W kids
def KE (W:Wo) (h:dM):Bool:=AP W h.dY h.dX h.bM&&(Mx W h.idx&&(h.idx.len==0|| !(h.op==1)||decide (0<=W.cell h.nm)))
def bf.Ev (Q:dM->Prop):bf->Prop
 | .nil=>True
 | .cons h b e r=>Q h∧b.Ev Q∧e.Ev Q∧r.Ev Q
theorem bf.Ev.imp {Q R:dM->Prop} (f: ∀h,Q h->R h): ∀ {l:bf},l.Ev Q->l.Ev R
 | .nil,_=>trivial
 | .cons _ _ _ _,h=>⟨f _ h.1,h.2.1.imp f,h.2.2.1.imp f,h.2.2.2.imp f⟩
theorem bf.Ev.and {Q R:dM->Prop} : ∀ {l:bf},l.Ev Q->l.Ev R->l.Ev (λh=>Q h∧R h)
 | .nil,_,_=>trivial
 | .cons _ _ _ _,h,k=>⟨⟨h.1,k.1⟩,h.2.1.and k.2.1,h.2.2.1.and k.2.2.1,h.2.2.2.and k.2.2.2⟩
end Md
open Md
theorem Ak (op:Int) (w:World):
 Calls Tryz.prog 171 #[.int .i64 op] w λe w'=>e= .returned (.int .i64 (opsOf op))∧w=w':=by
 unfold opsOf;go_enter Tryz.func171,Tryz.ntmps171;go_wp2
 all_goals go_ret
 all_goals refine⟨dh ?_,rfl⟩
 all_goals first|(simp[*];done)|((repeat' split) <;> simp_all <;> omega)
theorem vo (s:ByteArray) (b:Bool) (w:World) (fG:eD w) (hm:s.size<=maxLen):
 Calls Tryz.prog 126 #[.string s,.bool b] w λe w'=>e= .returned (.bool (lQ s b))∧Below w.heap.size w w':=by
 cases b
 ·go_enter Tryz.func126,Tryz.ntmps126;go_wp2;go_ret;exact⟨by simp[lQ,Lib.toList_data],ak _ _⟩
 ·go_enter Tryz.func126,Tryz.ntmps126;go_wp2_with (go_at_call 55;refine(zZ _ _ fG hm).mono ?_;rintro e w' ⟨rfl,hb⟩);go_ret;exact⟨rfl,hb⟩
theorem Uk (op:Int) (w:World):
 Calls Tryz.prog 151 #[.int .i64 op] w λe w'=>e= .returned (.tuple #[.agg #[.bool (fN op),.bool (fA op),.bool (fI op),.bool (fX op),.bool (fB op),.bool (fE op)],.bool (fO op)])∧Below w.heap.size w w':=by
 have hop:op=1∨op=2∨op=3∨op=4∨op=5∨op=6∨op=7∨op=8∨op=9∨op=10∨op=11∨op=12∨op=13∨op=14∨op=15∨(op<1∨15<op):=ahf
 rcases hop with rfl|rfl|rfl|rfl|rfl|rfl|rfl|rfl|rfl|rfl|rfl|rfl|rfl|rfl|rfl|hop
 case inr.inr.inr.inr.inr.inr.inr.inr.inr.inr.inr.inr.inr.inr.inr=>
  have e1:fN op=false:=by unfold fN;grind
  have e2:fA op=false:=by unfold fA;grind
  have e3:fI op=false:=by unfold fI;grind
  have e4:fX op=false:=by unfold fX;grind
  have e5:fB op=false:=by unfold fB;grind
  have e6:fE op=false:=by unfold fE;grind
  have e7:fO op=false:=by unfold fO;grind
  rw[e1,e2,e3,e4,e5,e6,e7];clear e1 e2 e3 e4 e5 e6 e7;have g1:(op==1)=false:=acA
  have g2:(op==2)=false:=acA
  have g3:(op==3)=false:=acA
  have g4:(op==4)=false:=acA
  have g5:(op==5)=false:=acA
  have g6:(op==6)=false:=acA
  have g7:(op==7)=false:=acA
  have g8:(op==8)=false:=acA
  have g9:(op==9)=false:=acA
  have g10:(op==10)=false:=acA
  have g11:(op==11)=false:=acA
  have g12:(op==12)=false:=acA
  have g13:(op==13)=false:=acA
  have g14:(op==14)=false:=acA
  have g15:(op==15)=false:=acA
  clear hop;go_enter Tryz.func151,Tryz.ntmps151;go_wp2;exact bodyPost_ret (v:= .tuple #[.agg #[.bool _,.bool _,.bool _,.bool _,.bool _,.bool _],.bool _]) (by simp[results,Tryz.results151,go_sem]) rfl ⟨rfl,aA _ _⟩
 all_goals go_enter Tryz.func151,Tryz.ntmps151;go_wp2;exact bodyPost_ret (v:= .tuple #[.agg #[.bool _,.bool _,.bool _,.bool _,.bool _,.bool _],.bool _]) (by simp[results,Tryz.results151,go_sem];decide) rfl ⟨rfl,aA _ _⟩
theorem VQ (op n:Int) (nm:ByteArray) (len cap:Nat) (ao:Option Addr) (w:World):
 Calls Tryz.prog 153 #[.agg #[.int .i64 op,.int .i64 n,.string nm,.slice ao len cap]] w λe w'=>e= .returned (.bool (rU op n nm len))∧Below w.heap.size w w':=by
 have HE:aj (rU op n nm len=(((decide (op=0)&&decide (n=0))&&decide (nm.toList=[]))&&decide (len=0))):=ah ad1;go_enter Tryz.func153,Tryz.ntmps153;go_wp2
 all_goals go_ret
 all_goals refine⟨bZ ?_,aA _ _⟩
 all_goals rw[HE.o]
 all_goals (go_light;grind)
theorem Qd (d:De) (w:World) (fG:eD w) (hok:d.Ok):
 Calls Tryz.prog 97 #[.agg #[.int .i64 d.kind,.int .i64 d.line,.string d.nm,.int .i64 d.size,.int .i64 d.init,.string d.on]] w λe w'=>e= .returned (.bool (jF d))∧Below w.heap.size w w':=by
 obtain⟨⟨k1,k2⟩,-,hm,-,-,ho⟩:=hok;obtain⟨kind,line,nm,size,init,on⟩:=d;have HE:aj (jF ⟨kind,line,nm,size,init,on⟩=((((decide (1<=kind)&&decide (kind<=6))&&Tk.ji nm.data.toList)&&(decide (0<=size)&&(decide (size=0)||decide (kind=1))))&&((!decide (init= -9223372036854775808)&&(decide (init=0)||(decide (kind=1)||decide (kind=2))))&&lQ on (kind==5)))):=ah abT;dsimp only at *;generalize jF ⟨kind,line,nm,size,init,on⟩=res at *;go_enter Tryz.func97,Tryz.ntmps97;go_upto_region 1 with fail;generalize hW:World.alloc w _=W;generalize Value.agg #[_,_,_,_,_,_]=a0;have HX:=ah ((Sit.start w).U7 rfl (.int .i64 kind) (.int .i64 line) (.string nm) (.int .i64 size) (.int .i64 init) (.string on) 118);rw[hW]at HX;clear hW;obtain⟨c0,c1,c2,c3,c4,c5,-⟩:=HX.o.cs;go_cut [16] (λs W2=> ∃b,s= .bool b∧(!b)=((decide (1<=kind)&&decide (kind<=6))&&Tk.ji nm.data.toList)∧Sit w W2 [(w.heap.size,0,.int .i64 kind),(w.heap.size,1,.int .i64 line),(w.heap.size,2,.string nm),(w.heap.size,3,.int .i64 size),(w.heap.size,4,.int .i64 init),(w.heap.size,5,.string on)])
 case first=>
  go_wp2_with (go_at_call 55;refine(zZ _ _ (fG.same HX.o.1) hm).mono ?_;rintro e w' ⟨rfl,hb⟩)
  all_goals go_meet
  all_goals first|exact⟨_,rfl,ahD,HX.o.next ‹_›⟩|exact⟨_,rfl,ahD,HX.o⟩
 obtain⟨b1,rfl,hb1,hX⟩:=hcut;have HY:=ah hX;have HB1:=ah hb1;clear hX HX hb1 c0 c1 c2 c3 c4 c5;obtain⟨c0,c1,c2,c3,c4,c5,-⟩:=HY.o.cs;cases b1
 ·cases h5:(kind==5)
  all_goals rw[h5]at HE;go_wp2_with (go_at_call 126;refine(vo _ _ _ (fG.same HY.o.1) ho).mono ?_;rintro e w' ⟨rfl,hb⟩)
  all_goals go_ret
  all_goals first|refine⟨bZ ?_,(HY.o.next ‹_›).1⟩|refine⟨bZ ?_,HY.o.1⟩
  all_goals rw[HE.o,<- HB1.o]
  all_goals (go_light;grind)
 ·go_wp2_with fail;go_ret;refine⟨bZ ?_,HY.o.1⟩;rw[HE.o,<- HB1.o];rfl
def Lb (op n:Int) (nm:ByteArray) (kids:bV):Prop:=
 ∀(w:World) (ao:Option Addr) (cap:Nat),qR op n nm kids->kids.At w w.heap.size ao 0->eD w->
  Calls Tryz.prog 152 #[.agg #[.int .i64 op,.int .i64 n,.string nm,.slice ao kids.len cap]] w λe w'=>e= .returned (.bool (jZ op n nm kids))∧Below w.heap.size w w'
theorem aA9 {op n:Int} {nm:ByteArray} {kids:bV} (h:((kids.len:Int)==opsOf op)=false):jZ op n nm kids=false:=by unfold jZ KQ;rw[h];rfl
theorem am4 {op n:Int} {nm:ByteArray} {kids:bV} (h:n<0∨((n==0)=false∧(op==1)=false)):jZ op n nm kids=false:=by
 unfold jZ KQ;rcases h with h|⟨h,h'⟩
 ·rw[decide_eq_true h];simp
 ·rw[h,h'];simp
theorem aP3 {op n:Int} {nm:ByteArray} {kids:bV} {b:Bool} (hb:named op=b) (h:lQ nm b=false):jZ op n nm kids=false:=by
 unfold jZ KQ;rw[hb,h];simp
theorem aB0 {op n:Int} {nm:ByteArray} {kids:bV} {b:Bool} (h1:((kids.len:Int)==opsOf op)=true) (h2:0<=n) (h3:(n==0)=true∨(op==1)=true) (hb:named op=b) (h:lQ nm b=true):jZ op n nm kids=nD kids:=by
 unfold jZ KQ;rw[hb,h,h1,decide_eq_false ahf];rcases h3 with h3|h3 <;> rw[h3] <;> simp
theorem aM4 (op n:Int):(n<0)∨(0<n∧op≠1)∨
 ∃b,named op=b∧0<=n∧((n==0)=true∨(op==1)=true)∧
  ((0<n∧op=1∧b=false)∨(n=0∧op=2∧b=true)∨(n=0∧op=3∧b=true)∨(n=0∧(op==2)=false∧(op==3)=false∧b=false)):=by
 by_cases h:n<0
 ·exact Or.inl h
 ·by_cases h0:n=0
  ·subst h0;by_cases h2:op=2
   ·subst h2;exact Or.inr (Or.inr ⟨true,rfl,ahf,Or.inl rfl,ahh⟩)
   ·by_cases h3:op=3
    ·subst h3;exact Or.inr (Or.inr ⟨true,rfl,ahf,Or.inl rfl,ahh⟩)
    ·exact Or.inr (Or.inr ⟨false,by simp[named,h2,h3],ahf,Or.inl rfl,by simp[h2,h3]⟩)
  ·by_cases h1:op=1
   ·subst h1;exact Or.inr (Or.inr ⟨false,rfl,ahf,Or.inr rfl,ahi⟩)
   ·exact Or.inr (Or.inl ⟨ahf,h1⟩)
theorem nX (op n:Int) (nm:ByteArray) (kids rest:bV):nD (.cons op n nm kids rest)=(jZ op n nm kids&&nD rest):=rfl
def Xf (kids R:bV) (k:Nat):Prop:=k+R.len=kids.len∧nD kids=nD R
theorem O4 (op n:Int) (nm:ByteArray) (kids:bV) (ih:kids.All Lb):Lb op n nm kids:=by
 intro w ao cap hok hat fG;obtain⟨⟨o1,o2⟩,⟨n1,n2⟩,hm,hl⟩:=hok;unfold maxLen at hl;have hl':kids.len<=9223372036854775807:=hl;rcases aM4 op n with hn|⟨hn,q1⟩|⟨b,hb,hn,hor,hq⟩
 ·have HR:=ah (am4 (nm:=nm) (kids:=kids) (op:=op) (Or.inl hn));exact AaQ
 ·have HR:=ah (am4 (nm:=nm) (kids:=kids) (Or.inr ⟨beq_eq_false_iff_ne.2 (show n≠0 by omega),beq_eq_false_iff_ne.2 q1⟩));have q1':(op != 1)=true:=bne_iff_ne.2 q1;have q0':(n != 0)=true:=bne_iff_ne.2 ahf;exact AaQ
 ·by_cases h1:((kids.len:Int)==opsOf op)=false
  ·have HR:=ah (aA9 (n:=n) (nm:=nm) h1);have h1':((kids.len:Int) != opsOf op)=true:=by unfold bne;rw[h1];rfl
   go_enter Tryz.func152,Tryz.ntmps152;go_wp2_with fail;generalize hW:World.alloc w _=W;have HX:=ah (xO.mk hW);clear hW;obtain⟨-,-,c0,c1,c2,c3⟩:=HX.o;go_quiet (first|(go_at_call 171;refine kJ (Ak _ _)));go_wp2_with fail;go_ret;exact⟨bZ HR.o.symm,(HX.o.draws _).1⟩
  ·have h1':((kids.len:Int)==opsOf op)=true:=by simpa using h1
   clear h1;have HY:=ah (λh:lQ nm b=true=>aB0 h1' hn hor hb h);have HN:=ah (λh:lQ nm b=false=>aP3 (n:=n) (kids:=kids) hb h);clear hb hor;have HAT:=ah hat;have oH:=ah ih;clear hat ih;have bV6:((kids.len:Int) != opsOf op)=false:=by unfold bne;rw[h1'];rfl
   clear h1';rcases hq with⟨q0,rfl,rfl⟩|⟨rfl,rfl,rfl⟩|⟨rfl,rfl,rfl⟩|⟨rfl,q2,q3,rfl⟩
   all_goals go_enter Tryz.func152,Tryz.ntmps152;go_wp2_with fail;generalize hW:World.alloc w _=W;have HX:=ah (xO.mk hW);clear hW;obtain⟨-,-,c0,c1,c2,c3⟩:=HX.o;go_quiet (first|(go_at_call 171;refine kJ (Ak _ _)));have JB:=ah (HX.o.draws nq);clear HX c0 c1 c2 c3;generalize W.drewN nq=wq at *;obtain⟨-,-,c0,c1,c2,c3⟩:=JB.o;go_wp2_with fail;refine(vo _ _ _ (fG.same JB.o.1) hm).mono ?_;rintro e w1 ⟨rfl,hb1⟩;have HZ:=ah (JB.o.next hb1);clear hb1 JB c0 c1 c2 c3;obtain⟨-,-,c0,c1,c2,c3⟩:=HZ.o
   all_goals
    cases hN:lQ nm _
    ·have HR:=ah (HN.o hN);clear HN HY;go_wp2_with fail;go_ret;exact⟨bZ HR.o.symm,HZ.o.1⟩
    ·have HR:=ah (HY.o hN);clear HN HY;go_wp2_with fail;go_loopw [40] (λi wr=> ∃k R,i= .int .i64 (k:Nat)∧Xf kids R k∧R.All Lb∧R.At wr wr.heap.size ao k∧xO w wr (Value.int IntKind.i64 _) (Value.int IntKind.i64 _) (Value.string nm) (Value.slice ao kids.len cap)) (λi _=>kids.len -(intOf i).toNat)
     case atStart=>exact⟨0,kids,rfl,⟨aU _,rfl⟩,oH.o,HAT.o.same HZ.o.1,HZ.o⟩
     case round=>
      obtain⟨k,R,rfl,⟨hlen,heq⟩,hall,hrow,Eo⟩:=hrel;have HT:=ah (HR.o.trans heq);cases R with
      |nil=>obtain rfl:k=kids.len:=afs;go_wp2_with fail;go_ret;exact⟨bZ HT.o.symm,Eo.1⟩
      |cons op' n' nm' iy rest=>
       obtain⟨⟨b,off,mK,cap',rfl,jT,x0,x1,x2,x3,hok',mF⟩,hrest⟩:=hrow;obtain⟨jV,pR⟩:=hall;have hlt:k<kids.len:=acD;go_wp2_with fail;have hba:=(ak wr.heap.size wr).alloc (aD _) (.cells #[.int .i64 op',.int .i64 n',.string nm',.slice mK iy.len cap'] 80);refine(jV _ _ _ hok' (mF.same hba) ((fG.same Eo.1).alloc _)).mono ?_;rintro e w2 ⟨rfl,hb2⟩;have hb3:=hba.trans (hb2.mono ahh);have yh:=ah (Eo.next hb3);have hrest':=hrest.same hb3;clear hba hb2 hb3 Eo hrest x0 x1 x2 x3 c0 c1 c2 c3 mF;cases hS:jZ op' n' nm' iy
       ·have HF:=ah (HT.o.trans (by rw[nX,hS];rfl:nD (.cons op' n' nm' iy rest)=false));go_wp2_with fail;go_ret;exact⟨bZ HF.o.symm,yh.o.1⟩
       ·have HF:=ah (heq.trans (by rw[nX,hS];rfl:nD (.cons op' n' nm' iy rest)=nD rest));go_wp2_with fail;go_roundw
        case rel=>exact⟨k+1,rest,ahj,⟨acD,HF.o⟩,pR,hrest',yh.o⟩
        case measure=>simp[intOf];omega
theorem Ba (op n:Int) (nm:ByteArray) (kids:bV):Lb op n nm kids:=bV.BS O4 op n nm kids
def Gl (h:dM) (b e:bf):Prop:=
 ∀(w:World) (s:Sl),FJ w h b e s->eD w->
  Calls Tryz.prog 127 #[iG h b e s] w λe' w'=>e'= .returned (.bool (EG h b e))∧Below w.heap.size w w'
theorem Ch (l:bf) (hall:l.All Gl) (w:World) (ao:Option Addr) (cap:Nat) (hl:l.len<=maxLen) (hat:l.At w w.heap.size ao 0) (fG:eD w):
 Calls Tryz.prog 98 #[.slice ao l.len cap] w λe' w'=>e'= .returned (.bool (gy l))∧Below w.heap.size w w':=by
 unfold maxLen at hl;go_enter Tryz.func98,Tryz.ntmps98;go_wp2_with fail;go_loopw [4,7] (λ_ s wr=> ∃(k:Nat) (R:bf),s= .int .i64 k∧k+R.len=l.len∧gy l=gy R∧R.All Gl∧R.At wr wr.heap.size ao k∧Below w.heap.size w wr) (λ_ s _=>l.len -(intOf s).toNat)
 case atStart=>exact⟨0,l,rfl,ahh,rfl,hall,hat,ak _ _⟩
 case round=>
  obtain⟨k,R,rfl,hlen,heq,pR,hrow,hB⟩:=hrel;have HE:=ah heq;clear heq;cases R with
  |nil=>
   obtain rfl:k=l.len:=afk
   go_wp2_with fail;go_ret;exact⟨bZ HE.o.symm,hB⟩
  |cons h b e R=>
   obtain⟨bl,off,s,rfl,hbl,hin,x0,x1,x2,x3,x4,x5,x6,x7,x8,x9,x10,hrest⟩:=bf.At.head hrow;obtain⟨jV,En⟩:=pR;have hkl:k<l.len:=acB
   clear hrow;go_wp2_with fail;have hba:=aA wr (.cells #[.int .i64 h.op,.int .i64 h.line,.string h.nm,.string h.arg,.slice s.gu h.idx.len s.eG,.int .i64 h.dY,.int .i64 h.xn,.string h.dX,.slice s.gY h.bM.len s.fD,.slice s.dR b.len s.dA,.slice s.jc e.len s.gZ] 82);refine(jV _ s (hin.same hba) (fG.same (hB.trans (hba.mono hB.size)))).mono ?_;rintro e' w2 ⟨rfl,hb2⟩;have HB3:=ah (hba.trans (hb2.mono ahh));clear hba hb2 x0 x1 x2 x3 x4 x5 x6 x7 x8 x9 x10 hin;exact Aar
theorem P9 (h:dM) (b e:bf) (ihb:b.All Gl) (ihe:e.All Gl):Gl h b e:=by
 intro w s hin fG;obtain⟨gu,eG,gY,fD,dR,dA,jc,gZ⟩:=s;have HS:aj (EG h b e=((((fO h.op&&(lQ h.nm (fN h.op)&&lQ h.arg (fA h.op)))&&((decide ((h.idx.len:Int)<=1)&&(!decide ((h.idx.len:Int)=1)||fI h.op))&&nD h.idx))&&
  ((if fX h.op then jZ h.dY h.xn h.dX h.bM else rU h.dY h.xn h.dX h.bM.len)&&((fB h.op||decide ((b.len:Int)<=0))&&(fE h.op||decide ((e.len:Int)<=0)))))&&(gy b&&gy e))):=ah (by
  unfold EG oM;rw[XI,XH,Lr,Lr])
 generalize EG h b e=res at *;have fF:=ah hin;have kG:=ah fG;have WO:=ah ihb;have HIE:=ah ihe;obtain⟨⟨⟨o1,o2⟩,-,hm,ha,hil,hxk,hbl,hel⟩,-⟩:=hin;clear fG ihb ihe;have bJ4:=hil;have aw0:=hbl;have aw3:=hel;have hxl:=hxk.2.2.2;unfold maxLen at hil hbl hel hxl;unfold iG;dsimp only;go_enter Tryz.func127,Tryz.ntmps127;go_upto_region 1 with fail;generalize hW:World.alloc w _=W;generalize Value.agg #[_,_,_,_,_,_,_,_,_,_,_]=a0;have HX:aj (Sit w W (xL w.heap.size h b e ⟨gu,eG,gY,fD,dR,dA,jc,gZ⟩ [])):=ah abq;clear hW;obtain⟨c0,c1,c2,c3,c4,c5,c6,c7,c8,c9,c10,-⟩:=HX.o.cs;go_upto_region 2 with(go_at_call 151;refine(Uk _ _).mono ?_;rintro e' w1 ⟨rfl,hb1⟩);have HB1:=ah hb1;clear hb1;generalize fN h.op=bN at *;generalize fA h.op=bA at *;generalize fI h.op=bI at *;generalize fX h.op=bX at *;generalize fB h.op=bB at *;generalize fE h.op=bE at *;generalize fO h.op=bO at *;obtain⟨n2,hn2⟩: ∃n,w1.heap.size=n:=⟨_,rfl⟩;generalize hW2:World.alloc w1 _=W2;have HY:aj (Sit w W2 ((n2,0,.bool bN)::(n2,1,.bool bA)::(n2,2,.bool bI)::(n2,3,.bool bX)::(n2,4,.bool bB)::(n2,5,.bool bE)::xL w.heap.size h b e ⟨gu,eG,gY,fD,dR,dA,jc,gZ⟩ [])):=ah (by rw[<- hW2];exact(HX.o.next HB1.o).U7 hn2 _ _ _ _ _ _ _);rw[hn2];clear hW2 hn2 HX HB1 c0 c1 c2 c3 c4 c5 c6 c7 c8 c9 c10;obtain⟨c0,c1,c2,c3,c4,c5,c6,c7,c8,c9,c10,c11,c12,c13,c14,c15,c16,-⟩:=HY.o.cs;go_cut [4,7,30] (λ_ _ s' W2=> ∃t,s'= .bool t∧(!t)=(bO&&(lQ h.nm bN&&lQ h.arg bA))∧Sit w W2 ((n2,0,.bool bN)::(n2,1,.bool bA)::(n2,2,.bool bI)::(n2,3,.bool bX)::(n2,4,.bool bB)::(n2,5,.bool bE)::xL w.heap.size h b e ⟨gu,eG,gY,fD,dR,dA,jc,gZ⟩ []))
 case first=>
  cases bO
  ·go_wp2_with fail;go_meet;exact⟨true,rfl,rfl,HY.o⟩
  ·go_wp2_with fail;refine(vo _ _ _ (kG.o.same HY.o.1) hm).mono ?_;rintro e' w3 ⟨rfl,hb3⟩;have HZ:=ah (HY.o.next hb3);clear hb3 HY c0 c1 c2 c3 c4 c5 c6 c7 c8 c9 c10 c11 c12 c13 c14 c15 c16;obtain⟨c0,c1,c2,c3,c4,c5,c6,c7,c8,c9,c10,c11,c12,c13,c14,c15,c16,-⟩:=HZ.o.cs;cases hq:lQ h.nm bN
   ·go_wp2_with fail;go_meet;exact⟨true,rfl,by rw[hq];rfl,HZ.o⟩
   ·go_wp2_with fail;refine(vo _ _ _ (kG.o.same HZ.o.1) ha).mono ?_;rintro e' w3 ⟨rfl,hb3⟩;have HU:=ah (HZ.o.next hb3);clear hb3 HZ c0 c1 c2 c3 c4 c5 c6 c7 c8 c9 c10 c11 c12 c13 c14 c15 c16;cases hq2:lQ h.arg bA
    all_goals go_wp2_with fail
    all_goals go_meet
    all_goals exact⟨_,rfl,by rw[hq,hq2];rfl,HU.o⟩
 obtain⟨t1,rfl,ht1,hX⟩:=hcut;have HZ:=ah hX;have HT1:=ah ht1;clear hX ht1 HY c0 c1 c2 c3 c4 c5 c6 c7 c8 c9 c10 c11 c12 c13 c14 c15 c16;rw[<- HT1.o]at HS;clear HT1;cases t1
 case true=>go_wp2_with fail;go_ret;exact⟨bZ HS.o.symm,HZ.o.1⟩
 obtain⟨c0,c1,c2,c3,c4,c5,c6,c7,c8,c9,c10,c11,c12,c13,c14,c15,c16,-⟩:=HZ.o.cs;go_upto_region 4 with fail;go_cut [45] (λs' W3=>wc=W3∧∃t,s'= .bool t∧(!t)=(decide ((h.idx.len:Int)<=1)&&(!decide ((h.idx.len:Int)=1)||bI)))
 case first=>
  go_wp2_with fail
  all_goals go_meet
  all_goals exact⟨rfl,_,rfl,ahD⟩
 obtain⟨rfl,t2,rfl,ht2⟩:=hcut;have HT2:=ah ht2;rw[<- HT2.o]at HS;clear HT2 ht2;cases t2
 case true=>go_wp2_with fail;go_ret;exact⟨bZ (HS.o.trans ahh).symm,HZ.o.1⟩
 have HXI:=ah (fF.o.same HZ.o.1);have hrow:=HXI.o.2.1;have hall:=HXI.o.1;clear hall;go_wp2_with fail;go_loopw [6,49] (λ_ s' wr=> ∃(k:Nat) (R:bV),s'= .int .i64 k∧k+R.len=h.idx.len∧nD h.idx=nD R∧R.At wr wr.heap.size gu k∧Sit w wr ((n2,0,.bool bN)::(n2,1,.bool bA)::(n2,2,.bool bI)::(n2,3,.bool bX)::(n2,4,.bool bB)::(n2,5,.bool bE)::xL w.heap.size h b e ⟨gu,eG,gY,fD,dR,dA,jc,gZ⟩ [])) (λ_ s' _=>h.idx.len -(intOf s').toNat)
 case atStart=>exact⟨0,h.idx,rfl,ahh,rfl,hrow,HZ.o⟩
 case round=>
  obtain⟨k,R,rfl,hlen,heq,hrow',hsit⟩:=hrel;have HE:=ah heq;have HU:=ah hsit;clear heq hsit HZ hrow HXI c0 c1 c2 c3 c4 c5 c6 c7 c8 c9 c10 c11 c12 c13 c14 c15 c16;cases R with
  |cons op' n' nm' iy rest=>
   obtain⟨⟨b',off',mK,cap',rfl,jT,x0,x1,x2,x3,hok',mF⟩,hrest⟩:=hrow';have hlt:k<h.idx.len:=acD
   go_wp2_with fail;have hba:=aA wr (.cells #[.int .i64 op',.int .i64 n',.string nm',.slice mK iy.len cap'] 80);refine(Ba op' n' nm' iy _ _ _ hok' (mF.same hba) ((kG.o.same HU.o.1).same hba)).mono ?_;rintro e' w2 ⟨rfl,hb2⟩;have HB3:=ah (hba.trans (hb2.mono ahh));clear hba hb2 x0 x1 x2 x3 mF;cases hS:jZ op' n' nm' iy
   ·rw[HE.o,nX,hS]at HS;go_wp2_with fail;go_ret;exact⟨bZ (HS.o.trans ahh).symm,(HU.o.next HB3.o).1⟩
   ·have HF:=ah (HE.o.trans (by rw[nX,hS];rfl:nD (.cons op' n' nm' iy rest)=nD rest));go_wp2_with fail;go_roundw
    case rel=>exact⟨k+1,rest,ahj,acD,HF.o,hrest.same HB3.o,HU.o.next HB3.o⟩
    case measure=>simp[intOf];omega
  |nil=>
   obtain rfl:k=h.idx.len:=afs
   rw[HE.o]at HS;clear HE hrow' hlen;obtain⟨c0,c1,c2,c3,c4,c5,c6,c7,c8,c9,c10,c11,c12,c13,c14,c15,c16,-⟩:=HU.o.cs;have hba:=kG.o.same HU.o.1;go_upto_region 12 with fail;go_cut [75] (λs' W3=> ∃t,s'= .bool t∧(!t)=(if bX then jZ h.dY h.xn h.dX h.bM else rU h.dY h.xn h.dX h.bM.len)∧Sit w W3 ((n2,0,.bool bN)::(n2,1,.bool bA)::(n2,2,.bool bI)::(n2,3,.bool bX)::(n2,4,.bool bB)::(n2,5,.bool bE)::xL w.heap.size h b e ⟨gu,eG,gY,fD,dR,dA,jc,gZ⟩ []))
   case first=>
    cases bX
    ·go_wp2_with fail;refine(VQ _ _ _ _ _ _ _).mono ?_;rintro e' w3 ⟨rfl,hb3⟩;have HV:=ah (HU.o.next hb3);clear hb3;cases hq:rU h.dY h.xn h.dX h.bM.len
     all_goals go_wp2_with fail
     all_goals go_meet
     all_goals exact⟨_,rfl,hq.symm,HV.o⟩
    ·go_wp2_with fail;refine(Ba _ _ _ _ _ _ _ hxk (fF.o.same HU.o.1).2.2.1 hba).mono ?_;rintro e' w3 ⟨rfl,hb3⟩;have HV:=ah (HU.o.next hb3);clear hb3 HU c0 c1 c2 c3 c4 c5 c6 c7 c8 c9 c10 c11 c12 c13 c14 c15 c16;obtain⟨c0,c1,c2,c3,c4,c5,c6,c7,c8,c9,c10,c11,c12,c13,c14,c15,c16,-⟩:=HV.o.cs;cases hq:jZ h.dY h.xn h.dX h.bM
     all_goals go_wp2_with fail
     all_goals go_meet
     all_goals exact⟨_,rfl,hq.symm,HV.o⟩
   obtain⟨t3,rfl,ht3,hX⟩:=hcut;have HV:=ah hX;have HT3:=ah ht3;clear hX ht3 HU hba c0 c1 c2 c3 c4 c5 c6 c7 c8 c9 c10 c11 c12 c13 c14 c15 c16;rw[<- HT3.o]at HS;clear HT3;cases t3
   case true=>go_wp2_with fail;go_ret;exact⟨bZ (HS.o.trans ahh).symm,HV.o.1⟩
   obtain⟨c0,c1,c2,c3,c4,c5,c6,c7,c8,c9,c10,c11,c12,c13,c14,c15,c16,-⟩:=HV.o.cs;go_upto_region 14 with fail;go_cut [95] (λs' W3=>wc=W3∧∃t,s'= .bool t∧(!t)=((bB||decide ((b.len:Int)<=0))&&(bE||decide ((e.len:Int)<=0))))
   case first=>
    cases bB
    all_goals cases bE
    all_goals go_wp2_with fail
    all_goals go_meet
    all_goals exact⟨rfl,_,rfl,ahD⟩
   obtain⟨rfl,t4,rfl,ht4⟩:=hcut;have Gc:=ah ht4;rw[<- Gc.o]at HS;clear Gc ht4;cases t4
   case true=>go_wp2_with fail;go_ret;exact⟨bZ (HS.o.trans ahh).symm,HV.o.1⟩
   go_wp2_with fail;refine(Ch b WO.o _ _ _ aw0 (fF.o.same HV.o.1).2.2.2.1 (kG.o.same HV.o.1)).mono ?_;rintro e' w4 ⟨rfl,hb4⟩;have HA:=ah (HV.o.next hb4);clear hb4 HV c0 c1 c2 c3 c4 c5 c6 c7 c8 c9 c10 c11 c12 c13 c14 c15 c16;obtain⟨c0,c1,c2,c3,c4,c5,c6,c7,c8,c9,c10,c11,c12,c13,c14,c15,c16,-⟩:=HA.o.cs;cases hq:gy b
   ·rw[hq]at HS;go_wp2_with fail;go_ret;exact⟨bZ (HS.o.trans ahh).symm,HA.o.1⟩
   ·rw[hq]at HS;go_wp2_with fail;refine(Ch e HIE.o _ _ _ aw3 (fF.o.same HA.o.1).2.2.2.2 (kG.o.same HA.o.1)).mono ?_;rintro e' w5 ⟨rfl,hb5⟩;go_wp2_with fail;go_ret;exact⟨bZ (HS.o.trans (by simp[nD])).symm,(HA.o.next hb5).1⟩
theorem Qe (l:bf) (w:World) (ao:Option Addr) (cap:Nat) (hl:l.len<=maxLen) (hat:l.At w w.heap.size ao 0) (fG:eD w):
 Calls Tryz.prog 98 #[.slice ao l.len cap] w λe' w'=>e'= .returned (.bool (gy l))∧Below w.heap.size w w':=
 Ch l (bf.qG P9 l) w ao cap hl hat fG
theorem Gw (d:De) (w:World):
 Calls Tryz.prog 99 #[.agg #[.int .i64 d.kind,.int .i64 d.line,.string d.nm,.int .i64 d.size,.int .i64 d.init,.string d.on]] w λe w'=>e= .returned (.int .i64 (gM d))∧Below w.heap.size w w':=by
 unfold gM;go_enter Tryz.func99,Tryz.ntmps99;go_wp2
 all_goals go_ret
 all_goals refine⟨dh ?_,aA _ _⟩
 all_goals first|(simp[*];done)|(go_light;grind)
theorem Zk (s:ByteArray) (r:List ByteArray) (nm:ByteArray):sN (s::r) nm=((s.toList==nm.toList)||sN r nm):=by simp[sN]
theorem Zp (d:De) (r:List De) (nm:ByteArray):qK (d::r) nm=if d.nm.toList==nm.toList then some (gM d)else qK r nm:=by
 unfold qK;rw[List.find?_cons];cases h:(d.nm.toList==nm.toList) <;> simp
theorem Zq (t:Th) (r:List Th) (nm:ByteArray):uE (t::r) nm=if t.nm.toList==nm.toList then 8 else uE r nm:=by
 unfold uE;rw[List.any_cons];cases h:(t.nm.toList==nm.toList) <;> simp
theorem Mt {ts:List Th} {i:Int} (h: ¬(0<=i∧i<ts.length)):rO ts i=[]:=by
 unfold rO;split
 ·rw[List.getElem?_eq_none ahf];rfl
 ·rfl
theorem OM {ts:List Th} {i:Nat} {t:Th} {r:List Th} (h:ts.drop i=t::r):rO ts (i:Int)=t.cZ:=by
 have h2:ts[i]? =some t:=by have:=List.getElem?_drop (xs:=ts) (i:=i) (j:=0);rw[h]at this;simpa using this.symm
 unfold rO;rw[if_pos ahf];simp[h2]
theorem Ws (p:Pr) (i:Int) (nm:ByteArray) (w:World) (aQ aR:Option Addr) (aJ aH:Nat) (hi:cO i) (hp:p.At w aQ aR):
 Calls Tryz.prog 184 #[.agg #[.slice aQ p.ds.length aJ,.slice aR p.ts.length aH],.int .i64 i,.string nm] w λe w'=>e= .returned (.int .i64 (mean p i nm))∧Below w.heap.size w w':=by
 obtain⟨i1,i2⟩:=hi;have hld:=hp.1;have hlt:=hp.2.1;unfold maxLen at hld hlt;have HP:=ah hp;clear hp;go_enter Tryz.func184,Tryz.ntmps184;go_upto_region 1 with fail;generalize hW:World.alloc w _=W;generalize Value.agg #[_,_]=a0;have HX:=ah ((Sit.start w).yP rfl (.slice aQ p.ds.length aJ) (.slice aR p.ts.length aH) 52);rw[hW]at HX;clear hW;obtain⟨c0,c1,-⟩:=HX.o.cs;go_cut [21] (λs W2=>W=W2∧∃b,s= .bool b∧decide (0<=i∧i<p.ts.length)=b)
 case first=>
  go_wp2_with fail
  all_goals go_meet
  all_goals exact⟨rfl,_,rfl,ahD⟩
 obtain⟨rfl,bi,rfl,hbi⟩:=hcut;have Dt:=ah hbi;clear hbi
 go_upto_if 21 with fail
 go_cut [6,8] (λs6 s8 W2=>sN (rO p.ts i) nm=false∧Sit w W2 [(w.heap.size,0,(.slice aQ p.ds.length aJ)),(w.heap.size,1,(.slice aR p.ts.length aH))])
 case first=>
  cases bi
  ·go_wp2_with fail;go_meet;exact⟨by rw[Mt (by simpa using Dt.o)];rfl,HX.o⟩
  ·have hbi:0<=i∧i<p.ts.length:=by simpa using Dt.o
   obtain⟨j,rfl⟩:=Int.eq_ofNat_of_zero_le hbi.1;have hj:j<p.ts.length:=ahf
   have hth:=(HP.o.same HX.o.1).2.2.2.drop j;cases hd:p.ts.drop j with
   |nil=>exfalso;have:=congrArg List.length hd;simp at this;omega
   |cons t r=>
    rw[hd,aU]at hth;have HL:=ah (OM hd);clear hd hbi Dt;obtain⟨⟨b,off,iO,eF,dR,dA,rfl,hB,x0,x1,x2,x3,hok,htx,hst⟩,-⟩:=hth;have hll:=hok.2.2.1;unfold maxLen at hll;clear hst hok;go_wp2_with fail;go_loop [8,29] (λ_ s=> ∃(k:Nat) (R:List ByteArray),s= .int .i64 k∧k+R.length=t.cZ.length∧sN t.cZ nm=sN R nm∧fT W W.heap.size R iO k) (λ_ s=>t.cZ.length -(intOf s).toNat)
    case atStart=>exact⟨0,t.cZ,rfl,ahh,rfl,htx⟩
    case round=>
     obtain⟨k,R,rfl,hlen,heq,hrow⟩:=hrel;cases R with
     |nil=>obtain rfl:k=t.cZ.length:=afb;go_wp2_with fail;go_meet;exact⟨by rw[HL.o,heq];rfl,HX.o⟩
     |cons s R=>
      obtain⟨⟨b',off',rfl,hB',y0,hs⟩,hrest⟩:=hrow;simp only[aB]at hlen;have hkl:k<t.cZ.length:=ahf;rw[Zk]at heq;have HE:=ah heq;clear heq;cases hc:(s.toList==nm.toList)
      ·have dP:=ah (HE.o.trans (by rw[hc];rfl:_=sN R nm));exact AbA
      ·have dP:=ah (HE.o.trans (by rw[hc];rfl:_=true));go_wp2_with fail;go_ret;exact⟨dh (by unfold mean;rw[HL.o,dP.o];rfl),HX.o.1⟩
 case rest=>
  obtain⟨hno,hX⟩:=hcut;have HY:=ah hX;have HM:aj (mean p i nm=(qK p.ds nm).getD (uE p.ts nm)):=ah (by unfold mean;rw[hno];rfl);clear hno hX HX c0 c1;obtain⟨c0,c1,-⟩:=HY.o.cs;have hde:=(HP.o.same HY.o.1).2.2.1;go_wp2_with fail;go_loopw [10,40] (λ_ s wr=> ∃(k:Nat) (R:List De),s= .int .i64 k∧k+R.length=p.ds.length∧qK p.ds nm=qK R nm∧jG wr wr.heap.size R aQ k∧Sit w wr [(w.heap.size,0,(.slice aQ p.ds.length aJ)),(w.heap.size,1,(.slice aR p.ts.length aH))]) (λ_ s _=>p.ds.length -(intOf s).toNat)
  case atStart=>exact⟨0,p.ds,rfl,ahh,rfl,hde,HY.o⟩
  case round=>
   obtain⟨k,R,rfl,hlen,heq,hrow,hsit⟩:=hrel;have HZ:=ah hsit;clear hsit HY c0 c1 hde;cases R with
   |nil=>
    obtain rfl:k=p.ds.length:=afb;obtain⟨c0,c1,-⟩:=HZ.o.cs;have hth:=(HP.o.same HZ.o.1).2.2.2;have HM':=ah (HM.o.trans (by rw[heq];rfl:_=uE p.ts nm));clear heq HM;go_wp2_with fail;go_loopw [12,54] (λ_ s wr=> ∃(k:Nat) (R:List Th),s= .int .i64 k∧k+R.length=p.ts.length∧uE p.ts nm=uE R nm∧iP wr wr.heap.size R aR k∧Sit w wr [(w.heap.size,0,(.slice aQ p.ds.length aJ)),(w.heap.size,1,(.slice aR p.ts.length aH))]) (λ_ s _=>p.ts.length -(intOf s).toNat)
    case atStart=>exact⟨0,p.ts,rfl,ahh,rfl,hth,HZ.o⟩
    case round=>
     obtain⟨k,R,rfl,hlen,heq,hrow,hsit⟩:=hrel;have HU:=ah hsit;clear hsit HZ c0 c1 hth;cases R with
     |nil=>obtain rfl:k=p.ts.length:=afb;go_wp2_with fail;go_ret;exact⟨dh (HM'.o.trans heq).symm,HU.o.1⟩
     |cons t R=>
      obtain⟨⟨b,off,iO,eF,dR,dA,rfl,hB,x0,x1,x2,x3,hok,htx,hst⟩,hrest⟩:=hrow;simp only[aB]at hlen;have hkl:k<p.ts.length:=ahf;rw[Zq]at heq;have HE:=ah heq;clear heq hok htx hst;cases hc:(t.nm.toList==nm.toList)
      ·have dP:=ah (HE.o.trans (by rw[hc];rfl:_=uE R nm));go_wp2_with fail;go_roundw
       case rel=>exact⟨k+1,R,ahj,ahf,dP.o,hrest.same (aA _ _),HU.o.next (aA _ _)⟩
       case measure=>simp[intOf];omega
      ·have dP:=ah (HE.o.trans (if_pos hc));go_wp2_with fail;go_ret;exact⟨dh (HM'.o.trans dP.o).symm,(HU.o.next (aA _ _)).1⟩
   |cons d R=>
    obtain⟨⟨b,off,rfl,hB,x0,x1,x2,x3,x4,x5,hok⟩,hrest⟩:=hrow;simp only[aB]at hlen;have hkl:k<p.ds.length:=ahf;rw[Zp]at heq;have HE:=ah heq;clear heq hok;cases hc:(d.nm.toList==nm.toList)
    ·have dP:=ah (HE.o.trans (by rw[hc];rfl:_=qK R nm));go_wp2_with fail;go_roundw
     case rel=>exact⟨k+1,R,ahj,ahf,dP.o,hrest.same (aA _ _),HZ.o.next (aA _ _)⟩
     case measure=>simp[intOf];omega
    ·have dP:=ah (HE.o.trans (if_pos hc));go_wp2_with fail;refine(Gw d _).mono ?_;rintro e w2 ⟨rfl,hb2⟩;go_wp2_with fail;go_ret;exact⟨dh (HM.o.trans ahn).symm,((HZ.o.next (aA _ _)).next hb2).1⟩
theorem uP (d:De):2<=gM d∧gM d<=9∧gM d≠8:=ag7
namespace Md
def jR (w:World) (B:Nat):List Int->Option Addr->Nat->Prop
 | [],_,_=>True
 |s::r,ao,k=>(∃b off,ao=some ⟨b,off,none⟩∧b<B∧w.cell? ⟨b,off+k,none⟩=some (.int .i64 s))∧jR w B r ao (k+1)
section
variable {w w':World} {B B':Nat}
theorem jR.below (hb:Below B w w'): ∀ {l:List Int} {ao:Option Addr} {k:Nat},jR w B l ao k->jR w' B l ao k
 | [],_,_,_=>trivial
 |_::_,_,_,⟨⟨b,off,e,hB,c⟩,hr⟩=>⟨⟨b,off,e,hB,(hb.cell hB).trans c⟩,jR.below hb hr⟩
theorem jR.mono (h:B<=B'): ∀ {l:List Int} {ao:Option Addr} {k:Nat},jR w B l ao k->jR w B' l ao k
 | [],_,_,_=>trivial
 |_::_,_,_,⟨⟨b,off,e,hB,c⟩,hr⟩=>⟨⟨b,off,e,aV hB h,c⟩,jR.mono h hr⟩
theorem jR.same {l:List Int} {ao:Option Addr} {k:Nat} (h:jR w w.heap.size l ao k) (hb:Below w.heap.size w w'):jR w' w'.heap.size l ao k:=(h.below hb).mono hb.size
end
def gU (m:Int) (l:List Int):Int:=if m==0 then 5 else if l.any (λk=>m==k)then 0 else 6
def Eh:bV->Int->Int->Int×Int
 | .nil,n,d=>(n,d)
 | .cons _ _ _ kids rest,n,d=>Eh rest (wrap64 (n+(Eh kids 1 0).1)) (max d (wrap64 ((Eh kids 1 0).2+1)))
def ext (kids:bV):Int×Int:=((Eh kids 1 0).1,wrap64 ((Eh kids 1 0).2+1))
def rP (p:Pr) (i op:Int) (nm:ByteArray):Int:=if op==2 then gU (mean p i nm) [1,2]else if op==3 then gU (mean p i nm) [3]else 0
def wH (p:Pr) (i:Int):bV->Int
 | .nil=>0
 | .cons op _ nm kids rest=>if rP p i op nm==0 then(if wH p i kids==0 then wH p i rest else wH p i kids)else rP p i op nm
def yV (p:Pr) (i op:Int) (nm:ByteArray) (kids:bV):Int:=if rP p i op nm==0 then wH p i kids else rP p i op nm
theorem Rl (p:Pr) (i op n:Int) (nm:ByteArray) (kids rest:bV):wH p i (.cons op n nm kids rest)=if yV p i op nm kids==0 then wH p i rest else yV p i op nm kids:=by
 rw[wH];unfold yV;cases h:(rP p i op nm==0) <;> simp
 ·intro h';simp[h']at h
def nO (p:Pr) (i op n:Int) (nm:ByteArray) (kids:bV):Int:=
 if jZ op n nm kids then(if decide (24<(ext kids).1)||decide (6<(ext kids).2)then 2 else yV p i op nm kids)else 3
end Md
theorem U5 (m k:Int) (l:List Int):(k::l).any (λk=>m==k)=((m==k)||l.any (λk=>m==k)):=ahh
theorem Dc (p:Pr) (i:Int) (nm:ByteArray) (l:List Int) (w:World) (aQ aR ao:Option Addr) (aJ aH cap:Nat) (hi:cO i) (hl:l.length<=maxLen) (hp:p.At w aQ aR) (hw:jR w w.heap.size l ao 0):
 Calls Tryz.prog 173 #[.agg #[.slice aQ p.ds.length aJ,.slice aR p.ts.length aH],.int .i64 i,.string nm,.slice ao l.length cap] w λe w'=>e= .returned (.int .i64 (gU (mean p i nm) l))∧Below w.heap.size w w':=by
 unfold maxLen at hl;have HP:=ah hp;have HW:=ah hw;clear hp hw;go_enter Tryz.func173,Tryz.ntmps173;go_wp2_with fail;refine(Ws p i nm _ aQ aR aJ aH hi (HP.o.same (aA _ _))).mono ?_;rintro e w2 ⟨rfl,hb2⟩;have HB:=ah ((aA w (.cells #[.slice aQ p.ds.length aJ,.slice aR p.ts.length aH] 52)).trans (hb2.mono ahh));clear hb2;have hrow:=HW.o.same HB.o;generalize hmm:mean p i nm=m at *;have HM:=ah hmm;clear hmm;cases h0:(m==0)
 ·go_wp2_with fail;go_loop [11,20] (λ_ s=> ∃(k:Nat) (R:List Int),s= .int .i64 k∧k+R.length=l.length∧l.any (λk=>m==k)=R.any (λk=>m==k)∧jR w2 w2.heap.size R ao k) (λ_ s=>l.length -(intOf s).toNat)
  case atStart=>exact⟨0,l,rfl,ahh,rfl,hrow⟩
  case round=>
   obtain⟨k,R,rfl,hlen,heq,hrow'⟩:=hrel;cases R with
   |nil=>obtain rfl:k=l.length:=afb;have HE:aj (gU m l=6):=ah (by unfold gU;rw[h0,heq];rfl);clear heq;go_wp2_with fail;go_ret;exact⟨dh (by rw[HM.o,HE.o]),HB.o⟩
   |cons a R=>
    obtain⟨⟨b,off,rfl,hB,y0⟩,hrest⟩:=hrow';simp only[aB]at hlen;have hkl:k<l.length:=ahf;rw[U5]at heq;have HE:=ah heq;clear heq;cases hc:(m==a)
    ·have dP:=ah (HE.o.trans (by rw[hc];rfl:_=R.any (λk=>m==k)));exact AbA
    ·have dP:aj (gU m l=0):=ah (by unfold gU;rw[h0,HE.o,hc];rfl);go_wp2_with fail;go_ret;exact⟨dh (by rw[HM.o,dP.o]),HB.o⟩
 ·have HE:aj (gU m l=5):=ah (by unfold gU;rw[h0];rfl);go_wp2_with fail;go_ret;exact⟨dh (by rw[HM.o,HE.o]),HB.o⟩
theorem jW {a b c d:Int} (h1:c=a) (h2:d=b):Ending.returned (.tuple #[.int .i64 a,.int .i64 b])= .returned (.tuple #[.int .i64 c,.int .i64 d]):=by rw[h1,h2]
theorem ext_nil {kids:bV} {a d:Int} (h:Eh kids 1 0=Eh .nil a d):(ext kids).1=a∧(ext kids).2=wrap64 (d+1):=by unfold ext;rw[h];exact⟨rfl,rfl⟩
def KX (op n:Int) (nm:ByteArray) (kids:bV):Prop:=
 ∀(w:World) (ao:Option Addr) (cap:Nat),qR op n nm kids->kids.At w w.heap.size ao 0->
  Calls Tryz.prog 182 #[.agg #[.int .i64 op,.int .i64 n,.string nm,.slice ao kids.len cap]] w λe w'=>e= .returned (.tuple #[.int .i64 (ext kids).1,.int .i64 (ext kids).2])∧Below w.heap.size w w'
theorem Wd (op n:Int) (nm:ByteArray) (kids:bV) (ih:kids.All KX):KX op n nm kids:=by
 intro w ao cap hok hat;obtain⟨-,-,-,hl⟩:=hok;unfold maxLen at hl;have oH:=ah ih;have HAT:=ah hat;clear ih hat;go_enter Tryz.func182,Tryz.ntmps182;go_upto_region 2 with fail;generalize hW:World.alloc w _=W;generalize Value.agg #[_,_,_,_]=a0;have HX:=ah ((Sit.start w).Bd rfl (.int .i64 op) (.int .i64 n) (.string nm) (.slice ao kids.len cap) 80);rw[hW]at HX;clear hW;obtain⟨c0,c1,c2,c3,-⟩:=HX.o.cs;go_wp2_with fail;go_loopw [4,5,7,8,9,13] (λs4 s5 _ _ _ s wr=> ∃(k:Nat) (R:bV) (a d:Int),s= .int .i64 k∧s4= .int .i64 a∧s5= .int .i64 d∧k+R.len=kids.len∧Eh kids 1 0=Eh R a d∧R.All KX∧R.At wr wr.heap.size ao k∧Below w.heap.size w wr) (λ_ _ _ _ _ s _=>kids.len -(intOf s).toNat)
 case atStart=>exact⟨0,kids,1,0,rfl,rfl,rfl,ahh,rfl,oH.o,HAT.o.same HX.o.1,HX.o.1⟩
 case round=>
  obtain⟨k,R,a,d,rfl,rfl,rfl,hlen,heq,hall,hrow,hB⟩:=hrel;have HE:=ah heq;clear heq c0 c1 c2 c3;cases R with
  |nil=>
   obtain rfl:k=kids.len:=afs
   go_wp2_with fail
   go_ret2
   exact⟨jW (ext_nil HE.o).1 (ext_nil HE.o).2,hB⟩
  |cons op' n' nm' iy rest=>
   obtain⟨⟨b,off,mK,cap',rfl,jT,x0,x1,x2,x3,hok',mF⟩,hrest⟩:=hrow;obtain⟨jV,pR⟩:=hall;have hlt:k<kids.len:=acD
   go_wp2_with fail;have hba:=aA wr (.cells #[.int .i64 op',.int .i64 n',.string nm',.slice mK iy.len cap'] 80);refine(jV _ _ _ hok' (mF.same hba)).mono ?_;rintro e w2 ⟨rfl,hb2⟩;have HB3:=ah (hba.trans (hb2.mono ahh));clear hba hb2 x0 x1 x2 x3 mF;go_wp2_with fail;go_roundw
   case rel=>exact⟨k+1,rest,_,_,ahj,rfl,rfl,acD,HE.o,pR,hrest.same HB3.o,hB.trans (HB3.o.mono hB.size)⟩
   case measure=>simp[intOf];omega
theorem Z5 (op n:Int) (nm:ByteArray) (kids:bV):KX op n nm kids:=bV.BS Wd op n nm kids
def KZ (p:Pr) (i:Int) (op n:Int) (nm:ByteArray) (kids:bV):Prop:=
 ∀(w:World) (aQ aR ao:Option Addr) (aJ aH cap:Nat),cO i->p.At w aQ aR->qR op n nm kids->kids.At w w.heap.size ao 0->
  Calls Tryz.prog 183 #[.agg #[.slice aQ p.ds.length aJ,.slice aR p.ts.length aH],.int .i64 i,.agg #[.int .i64 op,.int .i64 n,.string nm,.slice ao kids.len cap]] w λe w'=>e= .returned (.int .i64 (yV p i op nm kids))∧Below w.heap.size w w'
theorem Io (w:World) (a b:Int) (t:TypeId):jR (w.alloc (.cells #[.int .i64 a,.int .i64 b] t)) (w.alloc (.cells #[.int .i64 a,.int .i64 b] t)).heap.size [a,b] (some ⟨w.heap.size,0,none⟩) 0:=
 ⟨⟨_,_,rfl,ahh,fu w [.int .i64 a,.int .i64 b] t 0⟩,⟨_,_,rfl,ahh,fu w [.int .i64 a,.int .i64 b] t 1⟩,trivial⟩
theorem Et (w:World) (a:Int) (t:TypeId):jR (w.alloc (.cells #[.int .i64 a] t)) (w.alloc (.cells #[.int .i64 a] t)).heap.size [a] (some ⟨w.heap.size,0,none⟩) 0:=
 ⟨⟨_,_,rfl,ahh,fu w [.int .i64 a] t 0⟩,trivial⟩
theorem Zv (p:Pr) (i:Int) (op n:Int) (nm:ByteArray) (kids:bV) (ih:kids.All (KZ p i)):KZ p i op n nm kids:=by
 intro w aQ aR ao aJ aH cap hi hp hok hat;obtain⟨-,-,-,hl⟩:=hok;unfold maxLen at hl;have oH:=ah ih;have HAT:=ah hat;have HP:=ah hp;clear ih hat hp;go_enter Tryz.func183,Tryz.ntmps183;go_upto_region 1 with fail;generalize hW:World.alloc (World.alloc w _) _=W;generalize Value.agg #[_,_]=a0;generalize Value.agg #[_,_,_,_]=a1;have HX:=ah (((Sit.start w).yP rfl (.slice aQ p.ds.length aJ) (.slice aR p.ts.length aH) 52).Bd (n:=w.heap.size+1) ahh (.int .i64 op) (.int .i64 n) (.string nm) (.slice ao kids.len cap) 80);rw[hW]at HX;clear hW;obtain⟨c0,c1,c2,c3,c4,c5,-⟩:=HX.o.cs;go_upto_block 0 with(fail);go_cut [7,10] (λs7 _ W2=>s7= .int .i64 (rP p i op nm)∧Sit w W2 [(w.heap.size+1,0,.int .i64 op),(w.heap.size+1,1,.int .i64 n),(w.heap.size+1,2,.string nm),(w.heap.size+1,3,.slice ao kids.len cap),(w.heap.size,0,.slice aQ p.ds.length aJ),(w.heap.size,1,.slice aR p.ts.length aH)])
 case first=>
  cases h2:(op==2)
  ·cases h3:(op==3)
   ·have HE:aj (rP p i op nm=0):=ah agx;go_wp2_with fail;go_meet;exact⟨aiz,HX.o⟩
   ·have HE:aj (rP p i op nm=gU (mean p i nm) [3]):=ah agx;go_wp2_with fail;refine(Dc p i nm [3] _ aQ aR _ aJ aH _ hi ahg ((HP.o.same HX.o.1).same (aA _ _)) (Et W 3 _)).mono ?_;rintro e w2 ⟨rfl,hb2⟩;go_wp2_with fail;go_meet;exact⟨aiz,(HX.o.next (aA _ _)).next hb2⟩
  ·have HE:aj (rP p i op nm=gU (mean p i nm) [1,2]):=ah (by unfold rP;rw[h2];rfl);go_wp2_with fail;refine(Dc p i nm [1,2] _ aQ aR _ aJ aH _ hi ahg ((HP.o.same HX.o.1).same (aA _ _)) (Io W 1 2 _)).mono ?_;rintro e w2 ⟨rfl,hb2⟩;go_wp2_with fail;go_meet;exact⟨aiz,(HX.o.next (aA _ _)).next hb2⟩
 case rest=>
  obtain⟨rfl,hX⟩:=hcut;have HY:=ah hX;clear hX HX c0 c1 c2 c3 c4 c5;have HR:aj (yV p i op nm kids=if rP p i op nm==0 then wH p i kids else rP p i op nm):=ah rfl;generalize rP p i op nm=r0 at *;go_wp2_with fail;go_loopw [7,8] (λs7 s8 wr=> ∃(k:Nat) (R:bV) (r:Int),s8= .int .i64 k∧s7= .int .i64 r∧k+R.len=kids.len∧yV p i op nm kids=(if r==0 then wH p i R else r)∧R.All (KZ p i)∧R.At wr wr.heap.size ao k∧Sit w wr [(w.heap.size+1,0,.int .i64 op),(w.heap.size+1,1,.int .i64 n),(w.heap.size+1,2,.string nm),(w.heap.size+1,3,.slice ao kids.len cap),(w.heap.size,0,.slice aQ p.ds.length aJ),(w.heap.size,1,.slice aR p.ts.length aH)]) (λ_ s _=>kids.len -(intOf s).toNat)
  case atStart=>exact⟨0,kids,r0,rfl,rfl,ahh,HR.o,oH.o,HAT.o.same HY.o.1,HY.o⟩
  case round=>
   obtain⟨k,R,r,rfl,rfl,hlen,heq,hall,hrow,hsit⟩:=hrel;have HE:=ah heq;have HZ:=ah hsit;clear heq hsit;obtain⟨c0,c1,c2,c3,c4,c5,-⟩:=HZ.o.cs;cases R with
   |nil=>obtain rfl:k=kids.len:=afs;go_wp2_with fail;go_ret;exact⟨dh (HE.o.trans aen).symm,HZ.o.1⟩
   |cons op' n' nm' iy rest=>
    obtain⟨⟨b,off,mK,cap',rfl,jT,x0,x1,x2,x3,hok',mF⟩,hrest⟩:=hrow;obtain⟨jV,pR⟩:=hall;have hlt:k<kids.len:=acD;cases hr:(r==0)
    ·have dP:=ah (HE.o.trans (by rw[hr];rfl:_=r));go_wp2_with fail;go_ret;exact⟨dh dP.o.symm,HZ.o.1⟩
    ·have dP:=ah (HE.o.trans (by rw[hr];rfl:_=wH p i (.cons op' n' nm' iy rest)));go_wp2_with fail;obtain⟨T,F,yU,hst,hF,hnext⟩:=calm wr;have HF:=ah hF;have dN:=ah hnext;clear hnext hF;obtain⟨d0,d1,d2,d3,d4,d5,-⟩:=HZ.o.Ca HF.o;have y0:=λx=>((HF.o x).cell (p:=⟨b,off+k*4,none⟩) jT).trans x0;have y1:=λx=>((HF.o x).cell (p:=⟨b,off+k*4+1,none⟩) jT).trans x1;have y2:=λx=>((HF.o x).cell (p:=⟨b,off+k*4+2,none⟩) jT).trans x2;have y3:=λx=>((HF.o x).cell (p:=⟨b,off+k*4+3,none⟩) jT).trans x3;clear c0 c1 c2 c3 c4 c5 x0 x1 x2 x3;have hk0:(0:Int)<=k:=ahf;have hk1:(k:Int)<kids.len:=ahf;refine gX F ahe ahe hst ?_
     repeat (any_goals (first|go_big_quiet_step ((go_at_call 183;refine(jV _ aQ aR mK aJ aH cap' hi ((HP.o.same HZ.o.1).same (HF.o _)) hok' (mF.same (HF.o _))).mono ?_;rintro e w' ⟨rfl,hb⟩;exact⟨rfl,dN.o _ _ hb⟩))|(refine wpQuiet_step (λK hK=> ?_);go_simp;first|(refine hK _ ?_;clear hK K)|(split <;> first|(refine hK _ ?_;clear hK K)|(apply Exists.intro;refine⟨λ_=> ?_,hK _ ?_⟩;((go_at_call 183;refine(jV _ aQ aR mK aJ aH cap' hi ((HP.o.same HZ.o.1).same (HF.o _)) hok' (mF.same (HF.o _))).mono ?_;rintro e w' ⟨rfl,hb⟩;exact⟨rfl,dN.o _ _ hb⟩));clear hK K)))))
     all_goals (refine wpQuiet_nil ?_;rintro _ ⟨x,rfl⟩)
     exact AaP
theorem ak1 (p:Pr) (i:Int) (op n:Int) (nm:ByteArray) (kids:bV):KZ p i op n nm kids:=bV.BS (Zv p i) op n nm kids
theorem IQ (p:Pr) (i:Int) (op n:Int) (nm:ByteArray) (kids:bV) (w:World) (aQ aR ao:Option Addr) (aJ aH cap:Nat) (hi:cO i) (hp:p.At w aQ aR) (hok:qR op n nm kids) (hat:kids.At w w.heap.size ao 0) (fG:eD w):
 Calls Tryz.prog 172 #[.agg #[.slice aQ p.ds.length aJ,.slice aR p.ts.length aH],.int .i64 i,.agg #[.int .i64 op,.int .i64 n,.string nm,.slice ao kids.len cap]] w λe w'=>e= .returned (.int .i64 (nO p i op n nm kids))∧Below w.heap.size w w':=by
 have HAT:=ah hat;have HP:=ah hp;clear hat hp;go_enter Tryz.func172,Tryz.ntmps172;go_upto_region 1 with fail;generalize hW:World.alloc (World.alloc w _) _=W;generalize Value.agg #[_,_]=a0;generalize Value.agg #[_,_,_,_]=a1;have HX:=ah (((Sit.start w).yP rfl (.slice aQ p.ds.length aJ) (.slice aR p.ts.length aH) 52).Bd (n:=w.heap.size+1) ahh (.int .i64 op) (.int .i64 n) (.string nm) (.slice ao kids.len cap) 80);rw[hW]at HX;clear hW;obtain⟨c0,c1,c2,c3,c4,c5,-⟩:=HX.o.cs;go_wp2_with fail;refine(Ba op n nm kids _ ao cap hok (HAT.o.same HX.o.1) (fG.same HX.o.1)).mono ?_;rintro e w1 ⟨rfl,hb1⟩;have HY:=ah (HX.o.next hb1);clear HX hb1 c0 c1 c2 c3 c4 c5;obtain⟨c0,c1,c2,c3,c4,c5,-⟩:=HY.o.cs;cases hS:jZ op n nm kids
 ·have HE:aj (nO p i op n nm kids=3):=ah afY;go_wp2_with fail;go_ret;exact⟨dh HE.o.symm,HY.o.1⟩
 ·have HE:aj (nO p i op n nm kids=if decide (24<(ext kids).1)||decide (6<(ext kids).2)then 2 else yV p i op nm kids):=ah afY;go_wp2_with fail;refine(Z5 op n nm kids _ ao cap hok (HAT.o.same HY.o.1)).mono ?_;rintro e w2 ⟨rfl,hb2⟩;have HZ:=ah (HY.o.next hb2);clear HY hb2 c0 c1 c2 c3 c4 c5;obtain⟨c0,c1,c2,c3,c4,c5,-⟩:=HZ.o.cs;generalize (ext kids).1=a at *;generalize (ext kids).2=d at *;cases h1:decide (24<a)
  ·cases h2:decide (6<d)
   ·have dP:=ah (HE.o.trans (by rw[h1,h2];rfl:_=yV p i op nm kids));have q1:a<=24:=ahm;have q2:d<=6:=aho;go_wp2_with fail;refine(ak1 p i op n nm kids _ aQ aR ao aJ aH cap hi (HP.o.same HZ.o.1) hok (HAT.o.same HZ.o.1)).mono ?_;rintro e w3 ⟨rfl,hb3⟩;go_wp2_with fail;go_ret;exact⟨dh dP.o.symm,(HZ.o.next hb3).1⟩
   ·have dP:=ah (HE.o.trans (if_pos (by rw[h1,h2];rfl)));have q1:a<=24:=ahm;have q2:6<d:=aho;go_wp2_with fail;go_ret;exact⟨dh dP.o.symm,HZ.o.1⟩
  ·have dP:=ah (HE.o.trans (if_pos ahP));have q1:24<a:=by simpa using h1
   go_wp2_with fail;go_ret;exact⟨dh dP.o.symm,HZ.o.1⟩
namespace Md
def iI:List Int->Int
 | []=>0
 |a::r=>if a != 0 then a else iI r
def nest (b:Bool):Int:=if b then 7 else 0
def BQ (ds:List De) (nm:ByteArray):ByteArray:=((ds.find? λd=>d.kind==5&&d.nm.toList==nm.toList).map (·.on)).getD ⟨#[]⟩
end Md
def JZ (bc:Nat) (p:Pr) (aQ aR:Option Addr) (aJ aH:Nat) (i:Int) (eZ:Option Addr) (Bl dU bs bt:Nat):List (Nat×Nat×Value):=
 [(bc,0,.slice aQ p.ds.length aJ),(bc,1,.slice aR p.ts.length aH),(bc,2,.int .i64 i),(bc,3,.slice eZ Bl dU),(bc,4,.map (some bs)),(bc,5,.map (some bt))]
theorem Wu (b:Bool) (w:World):
 Calls Tryz.prog 158 #[.bool b] w λe w'=>e= .returned (.int .i64 (nest b))∧w=w':=by
 cases b
 all_goals go_enter Tryz.func158,Tryz.ntmps158;go_wp2;go_ret;exact⟨rfl,rfl⟩
theorem FN (l:List Int) (w:World) (ao:Option Addr) (cap:Nat) (hl:l.length<=maxLen) (hat:jR w w.heap.size l ao 0):
 Calls Tryz.prog 156 #[.slice ao l.length cap] w λe w'=>e= .returned (.int .i64 (iI l))∧w=w':=by
 unfold maxLen at hl;generalize hres:iI l=res;have HR:=ah hres;clear hres;go_enter Tryz.func156,Tryz.ntmps156;go_wp2_with fail;go_loop [4,7] (λ_ s=> ∃(k:Nat) (R:List Int),s= .int .i64 k∧k+R.length=l.length∧res=iI R∧jR w w.heap.size R ao k) (λ_ s=>l.length -(intOf s).toNat)
 case atStart=>exact⟨0,l,rfl,ahh,HR.o.symm,hat⟩
 case round=>
  obtain⟨k,R,rfl,hlen,heq,hrow⟩:=hrel;have HE:=ah heq;clear heq;cases R with
  |nil=>
   exact Abv
  |cons a R=>
   obtain⟨⟨b,off,rfl,hB,y0⟩,hrest⟩:=hrow;simp only[aB]at hlen;have hkl:k<l.length:=ahf
   cases hc:(a != 0)
   ·have dP:=ah (HE.o.trans (if_neg (by rw[hc];decide)));exact AbA
   ·have dP:=ah (HE.o.trans (if_pos hc));go_wp2_with fail;go_ret;exact⟨dh dP.o.symm,rfl⟩
section
variable (p:Pr) (w:World) (aQ aR:Option Addr) (aJ aH:Nat) (i:Int) (eZ:Option Addr) (Bl dU bs bt bc:Nat)
theorem Ia (nm:ByteArray) (l:List Int) (ao:Option Addr) (cap:Nat) (hi:cO i) (hl:l.length<=maxLen) (hp:p.At w aQ aR) (hw:jR w w.heap.size l ao 0) (hh:Holds w (JZ bc p aQ aR aJ aH i eZ Bl dU bs bt)):
 Calls Tryz.prog 157 #[.pointer (some ⟨bc,0,none⟩),.string nm,.slice ao l.length cap] w λe w'=>e= .returned (.int .i64 (gU (mean p i nm) l))∧Below w.heap.size w w':=by
 have HH:=ah (show Sit w w _ from⟨ak _ _,hh⟩);have HP:=ah hp;have HW:=ah hw;clear hp hw hh;go_enter Tryz.func157,Tryz.ntmps157;go_wp2_with fail;obtain⟨T,F,yU,hst,hF,hnext⟩:=calm w;have HF:=ah hF;have dN:=ah hnext;clear hnext hF;obtain⟨d0,d1,d2,d3,d4,d5,-⟩:=HH.o.Ca HF.o;refine gX F ahe ahe hst ?_
 repeat (any_goals (first|go_big_quiet_step ((go_at_call 173;refine(Dc p i nm l _ aQ aR ao aJ aH cap hi hl (HP.o.same (HF.o _)) (HW.o.same (HF.o _))).mono ?_;rintro e w' ⟨rfl,hb⟩;exact⟨rfl,dN.o _ _ hb⟩))|(refine wpQuiet_step (λK hK=> ?_);go_simp;first|(refine hK _ ?_;clear hK K)|(split <;> first|(refine hK _ ?_;clear hK K)|(apply Exists.intro;refine⟨λ_=> ?_,hK _ ?_⟩;((go_at_call 173;refine(Dc p i nm l _ aQ aR ao aJ aH cap hi hl (HP.o.same (HF.o _)) (HW.o.same (HF.o _))).mono ?_;rintro e w' ⟨rfl,hb⟩;exact⟨rfl,dN.o _ _ hb⟩));clear hK K)))))
 all_goals (refine wpQuiet_nil ?_;rintro _ ⟨x,rfl⟩)
 go_wp2_with fail;go_ret;exact⟨rfl,HF.o x⟩
theorem I9 (op n:Int) (nm:ByteArray) (kids:bV) (ao:Option Addr) (cap:Nat) (hi:cO i) (hp:p.At w aQ aR) (hok:qR op n nm kids) (hat:kids.At w w.heap.size ao 0) (fG:eD w) (hh:Holds w (JZ bc p aQ aR aJ aH i eZ Bl dU bs bt)):
 Calls Tryz.prog 155 #[.pointer (some ⟨bc,0,none⟩),.agg #[.int .i64 op,.int .i64 n,.string nm,.slice ao kids.len cap]] w λe w'=>e= .returned (.int .i64 (nO p i op n nm kids))∧Below w.heap.size w w':=by
 have HH:=ah (show Sit w w _ from⟨ak _ _,hh⟩);have HP:=ah hp;have HAT:=ah hat;have kG:=ah fG;clear hp hat hh fG;go_enter Tryz.func155,Tryz.ntmps155;go_upto_region 1 with fail;generalize hW:World.alloc w _=W;generalize Value.agg #[_,_,_,_]=a0;have HX:=ah (HH.o.Bd rfl (.int .i64 op) (.int .i64 n) (.string nm) (.slice ao kids.len cap) 80);rw[hW]at HX;clear hW;obtain⟨T,F,yU,hst,hF,hnext⟩:=calm W;have HF:=ah hF;have dN:=ah hnext;clear hnext hF;obtain⟨d0,d1,d2,d3,d4,d5,d6,d7,d8,d9,-⟩:=HX.o.Ca HF.o;refine gX F ahe ahe hst ?_
 repeat (any_goals (first|go_big_quiet_step ((go_at_call 172;refine(IQ p i op n nm kids _ aQ aR ao aJ aH cap hi ((HP.o.same HX.o.1).same (HF.o _)) hok ((HAT.o.same HX.o.1).same (HF.o _)) ((kG.o.same HX.o.1).same (HF.o _))).mono ?_;rintro e w' ⟨rfl,hb⟩;exact⟨rfl,dN.o _ _ hb⟩))|(refine wpQuiet_step (λK hK=> ?_);go_simp;first|(refine hK _ ?_;clear hK K)|(split <;> first|(refine hK _ ?_;clear hK K)|(apply Exists.intro;refine⟨λ_=> ?_,hK _ ?_⟩;((go_at_call 172;refine(IQ p i op n nm kids _ aQ aR ao aJ aH cap hi ((HP.o.same HX.o.1).same (HF.o _)) hok ((HAT.o.same HX.o.1).same (HF.o _)) ((kG.o.same HX.o.1).same (HF.o _))).mono ?_;rintro e w' ⟨rfl,hb⟩;exact⟨rfl,dN.o _ _ hb⟩));clear hK K)))))
 all_goals (refine wpQuiet_nil ?_;rintro _ ⟨x,rfl⟩)
 go_wp2_with fail;go_ret;exact⟨rfl,(HX.o.next (HF.o x)).1⟩
end
namespace Md
def jh:bf->List Int->Bool
 | .nil,_=>false
 | .cons h _ _ r,l=>(l.any λk=>h.op==k)||jh r l
def wD:bf->ByteArray->List Int->Bool
 | .nil,_,_=>false
 | .cons h _ _ r,nm,l=>(l.any λk=>h.op==k&&h.nm.toList==nm.toList)||wD r nm l
end Md
section
variable (p:Pr) (w:World) (aQ aR:Option Addr) (aJ aH:Nat) (i:Int) (eZ:Option Addr) (dU bs bt bc:Nat)
theorem Ud (ar:bf) (l:List Int) (ao:Option Addr) (cap:Nat) (hl:l.length<=maxLen) (hw:jR w w.heap.size l ao 0) (har:ar.len<=maxLen) (hat:ar.At w w.heap.size eZ 0) (hh:Holds w (JZ bc p aQ aR aJ aH i eZ ar.len dU bs bt)):
 Calls Tryz.prog 159 #[.pointer (some ⟨bc,0,none⟩),.slice ao l.length cap] w λe w'=>e= .returned (.bool (jh ar l))∧Below w.heap.size w w':=by
 have HH:=ah (show Sit w w _ from⟨ak _ _,hh⟩);have HW:=ah hw;have HAT:=ah hat;generalize hres:jh ar l=res;have HR:=ah hres;unfold maxLen at hl har;clear hh hw hat hres;obtain⟨c0,c1,c2,c3,c4,c5,-⟩:=HH.o.cs;go_enter Tryz.func159,Tryz.ntmps159;go_wp2_with fail;go_loopw [6,8,14,18,19,20] (λ_ _ s _ _ _ wr=> ∃(k:Nat) (R:bf),s= .int .i64 k∧k+R.len=ar.len∧res=jh R l∧R.At wr wr.heap.size eZ k∧Below w.heap.size w wr) (λ_ _ s _ _ _ _=>ar.len -(intOf s).toNat)
 case atStart=>exact⟨0,ar,rfl,ahh,HR.o.symm,HAT.o,ak _ _⟩
 case round=>
  obtain⟨k,R,rfl,hlen,heq,hrow,hB⟩:=hrel;have HE:=ah heq;have HB:=ah hB;clear heq hB c0 c1 c2 c3 c4 c5;cases R with
  |nil=>
   obtain rfl:k=ar.len:=afk
   go_wp2_with fail;go_ret;exact⟨bZ HE.o.symm,HB.o⟩
  |cons h b e R=>
   obtain⟨bl,off,s,rfl,hbl,hin,x0,x1,x2,x3,x4,x5,x6,x7,x8,x9,x10,hrest⟩:=bf.At.head hrow;have hkl:k<ar.len:=acB
   clear hrow hin;go_upto_region 4 with fail;obtain⟨nb,hnb⟩: ∃n,wr.heap.size=n:=⟨_,rfl⟩;generalize hW2:World.alloc wr _=W2;have HY:aj (Sit wr W2 (xL nb h b e s [])):=ah aaq;have HB2:=ah (HB.o.trans (HY.o.1.mono HB.o.size));have kg:=ah (hrest.same HY.o.1);have Ow:=HW.o.same HB2.o;rw[hnb];clear hW2 hnb x0 x1 x2 x3 x4 x5 x6 x7 x8 x9 x10 hrest;obtain⟨c0,c1,c2,c3,c4,c5,c6,c7,c8,c9,c10,-⟩:=HY.o.cs;clear c1 c2 c3 c4 c5 c6 c7 c8 c9 c10;go_wp2_with fail;go_loop [8,20] (λ_ s'=> ∃(k':Nat) (Q:List Int),s'= .int .i64 k'∧k'+Q.length=l.length∧(l.any λk=>h.op==k)=(Q.any λk=>h.op==k)∧jR W2 W2.heap.size Q ao k') (λ_ s'=>l.length -(intOf s').toNat)
   case atStart=>exact⟨0,l,rfl,ahh,rfl,Ow⟩
   case round=>
    obtain⟨k',Q,rfl,hlen',heq',hrow'⟩:=hrel;have HQ:=ah heq';clear heq' Ow;cases Q with
    |nil=>
     obtain rfl:k'=l.length:=afE;have HF:aj (res=jh R l):=ah (HE.o.trans (by rw[jh,HQ.o];rfl));go_wp2_with fail;go_roundw
     case rel=>exact⟨k+1,R,ahj,acB,HF.o,kg.o,HB2.o⟩
     case measure=>simp[intOf];omega
    |cons q Q=>
     obtain⟨⟨b2,off2,rfl,hB2,z0⟩,hrest'⟩:=hrow';simp only[aB]at hlen';have hkl':k'<l.length:=ahf;have sP:aj ((l.any λk=>h.op==k)=((h.op==q)||(Q.any λk=>h.op==k))):=ah (HQ.o.trans ahh);cases hc:(h.op==q)
     ·have HF:=ah (sP.o.trans (by rw[hc];rfl:_=(Q.any λk=>h.op==k)));exact Abz
     ·have HF:aj (res=true):=ah (HE.o.trans (by rw[jh,sP.o,hc];rfl));go_wp2_with fail;go_ret;exact⟨bZ HF.o.symm,HB2.o⟩
theorem LJ (ar:bf) (nm:ByteArray) (l:List Int) (ao:Option Addr) (cap:Nat) (hl:l.length<=maxLen) (hw:jR w w.heap.size l ao 0) (har:ar.len<=maxLen) (hat:ar.At w w.heap.size eZ 0) (hh:Holds w (JZ bc p aQ aR aJ aH i eZ ar.len dU bs bt)):
 Calls Tryz.prog 160 #[.pointer (some ⟨bc,0,none⟩),.string nm,.slice ao l.length cap] w λe w'=>e= .returned (.bool (wD ar nm l))∧Below w.heap.size w w':=by
 have HH:=ah (show Sit w w _ from⟨ak _ _,hh⟩);have HW:=ah hw;have HAT:=ah hat;generalize hres:wD ar nm l=res;have HR:=ah hres;unfold maxLen at hl har;clear hh hw hat hres;obtain⟨c0,c1,c2,c3,c4,c5,-⟩:=HH.o.cs;go_enter Tryz.func160,Tryz.ntmps160;go_wp2_with fail;go_loopw [8,10,16,20,21,22] (λ_ _ s _ _ _ wr=> ∃(k:Nat) (R:bf),s= .int .i64 k∧k+R.len=ar.len∧res=wD R nm l∧R.At wr wr.heap.size eZ k∧Below w.heap.size w wr) (λ_ _ s _ _ _ _=>ar.len -(intOf s).toNat)
 case atStart=>exact⟨0,ar,rfl,ahh,HR.o.symm,HAT.o,ak _ _⟩
 case round=>
  obtain⟨k,R,rfl,hlen,heq,hrow,hB⟩:=hrel;have HE:=ah heq;have HB:=ah hB;clear heq hB c0 c1 c2 c3 c4 c5;cases R with
  |nil=>
   obtain rfl:k=ar.len:=afk
   go_wp2_with fail;go_ret;exact⟨bZ HE.o.symm,HB.o⟩
  |cons h b e R=>
   obtain⟨bl,off,s,rfl,hbl,hin,x0,x1,x2,x3,x4,x5,x6,x7,x8,x9,x10,hrest⟩:=bf.At.head hrow;have hkl:k<ar.len:=acB
   clear hrow hin;go_upto_region 4 with fail;obtain⟨nb,hnb⟩: ∃n,wr.heap.size=n:=⟨_,rfl⟩;generalize hW2:World.alloc wr _=W2;have HY:aj (Sit wr W2 (xL nb h b e s [])):=ah aaq;have HB2:=ah (HB.o.trans (HY.o.1.mono HB.o.size));have kg:=ah (hrest.same HY.o.1);have Ow:=HW.o.same HB2.o;rw[hnb];clear hW2 hnb x0 x1 x2 x3 x4 x5 x6 x7 x8 x9 x10 hrest;obtain⟨c0,c1,c2,c3,c4,c5,c6,c7,c8,c9,c10,-⟩:=HY.o.cs;clear c1 c3 c4 c5 c6 c7 c8 c9 c10;go_wp2_with fail;go_loop [10,22] (λ_ s'=> ∃(k':Nat) (Q:List Int),s'= .int .i64 k'∧k'+Q.length=l.length∧(l.any λk=>h.op==k&&h.nm.toList==nm.toList)=(Q.any λk=>h.op==k&&h.nm.toList==nm.toList)∧jR W2 W2.heap.size Q ao k') (λ_ s'=>l.length -(intOf s').toNat)
   case atStart=>exact⟨0,l,rfl,ahh,rfl,Ow⟩
   case round=>
    obtain⟨k',Q,rfl,hlen',heq',hrow'⟩:=hrel;have HQ:=ah heq';clear heq' Ow;cases Q with
    |nil=>
     obtain rfl:k'=l.length:=afE;have HF:aj (res=wD R nm l):=ah (HE.o.trans (by rw[wD,HQ.o];rfl));go_wp2_with fail;go_roundw
     case rel=>exact⟨k+1,R,ahj,acB,HF.o,kg.o,HB2.o⟩
     case measure=>simp[intOf];omega
    |cons q Q=>
     obtain⟨⟨b2,off2,rfl,hB2,z0⟩,hrest'⟩:=hrow';simp only[aB]at hlen';have hkl':k'<l.length:=ahf;have sP:aj ((l.any λk=>h.op==k&&h.nm.toList==nm.toList)=((h.op==q&&h.nm.toList==nm.toList)||(Q.any λk=>h.op==k&&h.nm.toList==nm.toList))):=ah (HQ.o.trans ahh);cases hc:(h.op==q)
     ·have HF:=ah (sP.o.trans (by rw[hc];rfl:_=(Q.any λk=>h.op==k&&h.nm.toList==nm.toList)));exact Abz
     ·cases hn:(h.nm.toList==nm.toList)
      ·have HF:=ah (sP.o.trans (by rw[hc,hn];rfl:_=(Q.any λk=>h.op==k&&h.nm.toList==nm.toList)));rw[hn]at HF;exact Abz
      ·have HF:aj (res=true):=ah (HE.o.trans (by rw[wD,sP.o,hc,hn];rfl));go_wp2_with fail;go_ret;exact⟨bZ HF.o.symm,HB2.o⟩
end
namespace Md
def ex1 (p:Pr) (i:Int):bV->Int
 | .nil=>0
 | .cons op n nm kids _=>nO p i op n nm kids
def JR (p:Pr) (i:Int) (h:dM):Int:=
 if decide ((h.idx.len:Int)=0)then iI [gU (mean p i h.nm) [1,2],nO p i h.dY h.xn h.dX h.bM]else iI [gU (mean p i h.nm) [3],ex1 p i h.idx,nO p i h.dY h.xn h.dX h.bM]
end Md
theorem Zi (w:World) (a b c:Int) (t:TypeId):jR (w.alloc (.cells #[.int .i64 a,.int .i64 b,.int .i64 c] t)) (w.alloc (.cells #[.int .i64 a,.int .i64 b,.int .i64 c] t)).heap.size [a,b,c] (some ⟨w.heap.size,0,none⟩) 0:=
 ⟨⟨_,_,rfl,ahh,fu w [.int .i64 a,.int .i64 b,.int .i64 c] t 0⟩,⟨_,_,rfl,ahh,fu w [.int .i64 a,.int .i64 b,.int .i64 c] t 1⟩,⟨_,_,rfl,ahh,fu w [.int .i64 a,.int .i64 b,.int .i64 c] t 2⟩,trivial⟩
theorem eY.nil {w:World} {K:Act->Prop} {a:Act} (h:K a):eY w K [] a:=h
section
variable (p:Pr) (w:World) (aQ aR:Option Addr) (aJ aH:Nat) (i:Int) (eZ:Option Addr) (Bl dU bs bt bc:Nat)
theorem Uc (h:dM) (b e:bf) (s:Sl) (hi:cO i) (hp:p.At w aQ aR) (hin:FJ w h b e s) (fG:eD w) (hh:Holds w (JZ bc p aQ aR aJ aH i eZ Bl dU bs bt)):
 Calls Tryz.prog 154 #[.pointer (some ⟨bc,0,none⟩),iG h b e s] w λe' w'=>e'= .returned (.int .i64 (JR p i h))∧Below w.heap.size w w':=by
 have HH:=ah (show Sit w w _ from⟨ak _ _,hh⟩);obtain⟨gu,eG,gY,fD,dR,dA,jc,gZ⟩:=s;have hil:=hin.1.2.2.2.2.1;have hxk:=hin.1.2.2.2.2.2.1;unfold maxLen at hil;have HE:aj (JR p i h=if decide ((h.idx.len:Int)=0)then iI [gU (mean p i h.nm) [1,2],nO p i h.dY h.xn h.dX h.bM]else iI [gU (mean p i h.nm) [3],ex1 p i h.idx,nO p i h.dY h.xn h.dX h.bM]):=ah rfl;generalize JR p i h=res at *;unfold iG;dsimp only;go_enter Tryz.func154,Tryz.ntmps154;go_upto_region 1 with fail;generalize hW:World.alloc w _=W;generalize Value.agg #[_,_,_,_,_,_,_,_,_,_,_]=a0;have HX:aj (Sit w W (xL w.heap.size h b e ⟨gu,eG,gY,fD,dR,dA,jc,gZ⟩ (JZ bc p aQ aR aJ aH i eZ Bl dU bs bt))):=ah aa2;clear hW HH;have HP:=ah (hp.same HX.o.1);have kG:=ah (fG.same HX.o.1);have HAX:=ah (hin.2.2.1.same HX.o.1);have HAI:=ah (hin.2.1.same HX.o.1);have HK:aj (∀w',Below W.heap.size W w'->Holds w' (JZ bc p aQ aR aJ aH i eZ Bl dU bs bt)):=ah (λw' hb=>(HX.o.next hb).2.2.2.2.2.2.2.2.2.2.2.2);clear hp fG hh hin;obtain⟨L0,-,L2,L3,L4,L5,L6,L7,L8,-⟩:=HX.o.Aa;have l4:=L4 W (ak _ _);cases hix:h.idx with
 |nil=>
  have h0:h.idx.len=0:=by rw[hix];rfl
  have HF:=ah (HE.o.trans (if_pos (by rw[h0];rfl)));rw[h0]at l4;clear HE hix L4 h0;go_upto_region 2 with fail;refine H9 (λw'=>Below W.heap.size W w') (λw w'=>Below w.heap.size w w') [9,10,11,12,13,14,15,16,17,18,19,4] ahe ahe (λ_=>ak _ _) aix (below_drewN (ak _ _) 1) ?_
  iterate 3
   apply qP.step
   case cu=>intro β A w' hβ hC hO hD;have e0:=hO 0 aix;have e3:=hO 3 aix;simp[Act.eval]at e0 e3;simp[Act.eval]at hD;simp[go_sem,gd,Oper.wp,e0,e3,hD,L2,hC];exact AbN
  refine qP.some (λv w'=> ∃b,v= .slice (some ⟨b,0,none⟩) 2 2∧jR w' w'.heap.size [1,2] (some ⟨b,0,none⟩) 0) ?_ ?_ ?_
  ·rintro v w w' hle ⟨b,rfl,hin⟩;exact⟨b,rfl,hin.same hle⟩
  ·intro β A w' hβ hC hO hD;simp[go_sem,gd,Oper.wp];exact aZ.mk (d:=_) (v:= .slice (some ⟨_,0,none⟩) 2 2) (aA _ _) (hC.trans ((aA _ _).mono hC.size)) ⟨_,rfl,Io _ 1 2 _⟩
  apply qP.step
  case cu=>intro β A w' hβ hC hO hD;simp[Act.eval]at hD;obtain⟨d9,uY,b12,Cy,bn6⟩:=hD;simp[go_sem,gd,Oper.wp,d9,uY,Cy];refine(Ia p w' aQ aR aJ aH _ eZ _ dU bs bt bc h.nm [1,2] _ 2 hi ahg (HP.o.same hC) bn6 (HK.o _ hC)).mono ?_;exact AbE
  iterate 3
   apply qP.step
   case cu=>intro β A w' hβ hC hO hD;have e0:=hO 0 aix;have e3:=hO 3 aix;simp[Act.eval]at e0 e3;simp[Act.eval]at hD;simp[go_sem,gd,Oper.wp,e0,e3,hD,L5,L6,L7,L8,hC];exact AbN
  apply qP.step
  case cu=>intro β A w' hβ hC hO hD;simp[Act.eval]at hD;obtain⟨yC,Cz,-⟩:=hD;simp[go_sem,gd,Oper.wp,yC,Cz];refine(I9 p w' aQ aR aJ aH _ eZ _ dU bs bt bc h.dY h.xn h.dX h.bM gY fD hi (HP.o.same hC) hxk (HAX.o.same hC) (kG.o.same hC) (HK.o _ hC)).mono ?_;exact AbE
  refine qP.some (λv w'=> ∃b,v= .slice (some ⟨b,0,none⟩) 2 2∧jR w' w'.heap.size [gU (mean p i h.nm) [1,2],nO p i h.dY h.xn h.dX h.bM] (some ⟨b,0,none⟩) 0) ?_ ?_ ?_
  ·rintro v w w' hle ⟨b,rfl,hin⟩;exact⟨b,rfl,hin.same hle⟩
  ·intro β A w' hβ hC hO hD;simp[Act.eval]at hD;simp[go_sem,gd,Oper.wp,hD];exact aZ.mk (d:=_) (v:= .slice (some ⟨_,0,none⟩) 2 2) (aA _ _) (hC.trans ((aA _ _).mono hC.size)) ⟨_,rfl,Io _ _ _ _⟩
  apply qP.step
  case cu=>intro β A w' hβ hC hO hD;simp[Act.eval]at hD;obtain⟨⟨b18,CB,bn7⟩,-⟩:=hD;simp[go_sem,gd,Oper.wp,CB];refine(FN [gU (mean p i h.nm) [1,2],nO p i h.dY h.xn h.dX h.bM] w' _ _ ah9 bn7).mono ?_;rintro e' w2 ⟨rfl,rfl⟩;exact AbN
  apply qP.step
  case cu=>intro β A w' hβ hC hO hD;have e0:=hO 0 aix;have e3:=hO 3 aix;simp[Act.eval]at e0 e3;simp[Act.eval]at hD;simp[go_sem,gd,Oper.wp,e0,e3,hD];exact AbN
  intro wz dx;intro v0 h0 v1 h1 v2 h2 v3 h3 v4 h4 v5 h5 v6 h6 v7 h7 v8 h8 v9 h9 v10 h10 v11 h11;have Ur:v11=_:=h11;subst Ur;clear h0 h1 h2 h3 h4 h5 h6 h7 h8 h9 h10 h11;refine eY.nil ?_;go_wp2_with fail;go_ret;exact⟨dh HF.o.symm,(HX.o.next dx).1⟩
 |cons op' n' nm' iy rest=>
  have hrow:=HAI.o;rw[hix]at hrow;have HF:aj (res=iI [gU (mean p i h.nm) [3],nO p i op' n' nm' iy,nO p i h.dY h.xn h.dX h.bM]):=ah (HE.o.trans ((if_neg (by rw[hix,decide_eq_true_iff];simp only[bV.len];omega)).trans (by rw[hix];rfl)));have hpos:0<h.idx.len:=by rw[hix];simp[bV.len]
  have hpos':(0:Int)<h.idx.len:=ahf
  have hne0:((h.idx.len:Int)==0)=false:=acA
  obtain⟨⟨b',off',mK,cap',rfl,jT,x0,x1,x2,x3,hok',mF⟩,-⟩:=hrow;simp only[Nat.zero_mul,Nat.add_zero]at x0 x1 x2 x3;have M0:=jN jT x0;have M1:=jN jT x1;have M2:=jN jT x2;have M3:=jN jT x3;have HAK:=ah mF;clear HE hix x0 x1 x2 x3 mF;go_upto_region 3 with fail;refine H9 (λw'=>Below W.heap.size W w') (λw w'=>Below w.heap.size w w') [20,21,22,23,24,25,26,27,28,29,30,31,32,33,34,35,36,4] ahe ahe (λ_=>ak _ _) aix (below_drewN (ak _ _) 1) ?_
  iterate 3
   apply qP.step
   case cu=>intro β A w' hβ hC hO hD;have e0:=hO 0 aix;have e3:=hO 3 aix;simp[Act.eval]at e0 e3;simp[Act.eval]at hD;simp[go_sem,gd,Oper.wp,e0,e3,hD,L2,hC];exact AbN
  refine qP.some (λv w'=> ∃b,v= .slice (some ⟨b,0,none⟩) 1 1∧jR w' w'.heap.size [3] (some ⟨b,0,none⟩) 0) ?_ ?_ ?_
  ·rintro v w w' hle ⟨b,rfl,hin⟩;exact⟨b,rfl,hin.same hle⟩
  ·intro β A w' hβ hC hO hD;simp[go_sem,gd,Oper.wp];exact aZ.mk (d:=_) (v:= .slice (some ⟨_,0,none⟩) 1 1) (aA _ _) (hC.trans ((aA _ _).mono hC.size)) ⟨_,rfl,Et _ 3 _⟩
  apply qP.step
  case cu=>intro β A w' hβ hC hO hD;simp[Act.eval]at hD;obtain⟨d20,d22,b23,d23,bn8⟩:=hD;simp[go_sem,gd,Oper.wp,d20,d22,d23];refine(Ia p w' aQ aR aJ aH _ eZ _ dU bs bt bc h.nm [3] _ 1 hi ahg (HP.o.same hC) bn8 (HK.o _ hC)).mono ?_;exact AbE
  iterate 5
   apply qP.step
   case cu=>intro β A w' hβ hC hO hD;have e0:=hO 0 aix;have e3:=hO 3 aix;simp[Act.eval]at e0 e3;simp[Act.eval]at hD;simp[go_sem,gd,Oper.wp,e0,e3,hD,L4,hC,hpos,hpos',M0,M1,M2,M3];exact AbN
  apply qP.step
  case cu=>intro β A w' hβ hC hO hD;simp[Act.eval]at hD;obtain⟨d25,d29,-⟩:=hD;simp[go_sem,gd,Oper.wp,d25,d29];refine(I9 p w' aQ aR aJ aH _ eZ _ dU bs bt bc op' n' nm' iy mK cap' hi (HP.o.same hC) hok' (HAK.o.same hC) (kG.o.same hC) (HK.o _ hC)).mono ?_;exact AbE
  iterate 3
   apply qP.step
   case cu=>intro β A w' hβ hC hO hD;have e0:=hO 0 aix;have e3:=hO 3 aix;simp[Act.eval]at e0 e3;simp[Act.eval]at hD;simp[go_sem,gd,Oper.wp,e0,e3,hD,L5,L6,L7,L8,hC];exact AbN
  apply qP.step
  case cu=>intro β A w' hβ hC hO hD;simp[Act.eval]at hD;obtain⟨d31,d33,-⟩:=hD;simp[go_sem,gd,Oper.wp,d31,d33];refine(I9 p w' aQ aR aJ aH _ eZ _ dU bs bt bc h.dY h.xn h.dX h.bM gY fD hi (HP.o.same hC) hxk (HAX.o.same hC) (kG.o.same hC) (HK.o _ hC)).mono ?_;exact AbE
  refine qP.some (λv w'=> ∃b,v= .slice (some ⟨b,0,none⟩) 3 3∧jR w' w'.heap.size [gU (mean p i h.nm) [3],nO p i op' n' nm' iy,nO p i h.dY h.xn h.dX h.bM] (some ⟨b,0,none⟩) 0) ?_ ?_ ?_
  ·rintro v w w' hle ⟨b,rfl,hin⟩;exact⟨b,rfl,hin.same hle⟩
  ·intro β A w' hβ hC hO hD;simp[Act.eval]at hD;simp[go_sem,gd,Oper.wp,hD];exact aZ.mk (d:=_) (v:= .slice (some ⟨_,0,none⟩) 3 3) (aA _ _) (hC.trans ((aA _ _).mono hC.size)) ⟨_,rfl,Zi _ _ _ _ _⟩
  apply qP.step
  case cu=>intro β A w' hβ hC hO hD;simp[Act.eval]at hD;obtain⟨⟨b35,d35,bn9⟩,-⟩:=hD;simp[go_sem,gd,Oper.wp,d35];refine(FN [gU (mean p i h.nm) [3],nO p i op' n' nm' iy,nO p i h.dY h.xn h.dX h.bM] w' _ _ ah9 bn9).mono ?_;rintro e' w2 ⟨rfl,rfl⟩;exact AbN
  apply qP.step
  case cu=>intro β A w' hβ hC hO hD;have e0:=hO 0 aix;have e3:=hO 3 aix;simp[Act.eval]at e0 e3;simp[Act.eval]at hD;simp[go_sem,gd,Oper.wp,e0,e3,hD];exact AbN
  intro wz dx;intro v0 h0 v1 h1 v2 h2 v3 h3 v4 h4 v5 h5 v6 h6 v7 h7 v8 h8 v9 h9 v10 h10 v11 h11 v12 h12 v13 Om v14 CG v15 R6 v16 h16 v17 h17;have bI8:v17=_:=h17;subst bI8;clear h0 h1 h2 h3 h4 h5 h6 h7 h8 h9 h10 h11 h12 Om CG R6 h16 h17;refine eY.nil ?_;go_wp2_with fail;go_ret;exact⟨dh HF.o.symm,(HX.o.next dx).1⟩
end
namespace Md
def mD (pre:List De) (l:List UInt8):Int:=((pre.find? λd=>d.nm.toList==l).map gM).getD 0
def dc (d:De) (c:Int):Int:=if d.kind==1||d.kind==2 then c+max d.size 1 else c
def dl (d:De) (l:Int):Int:=if d.kind==3||d.kind==4 then l+1 else l
def dn (d:De) (n:Int):Int:=if d.kind==5 then n+1 else n
def df (d:De) (f:Int):Int:=if d.kind==6 then f+1 else f
def lim (c l n f:Int):Bool:=((decide (12<c)||decide (4<l))||decide (2<n))||decide (2<f)
def mY:List De->List De->Int->Int->Int->Int->Int×Int
 | [],_,_,_,_,_=>(0,0)
 |d::r,pre,c,l,n,f=>
  if mD pre d.nm.toList != 0 then(4,d.line)
  else if decide (4<d.size)then(2,d.line)
  else if lim (dc d c) (dl d l) (dn d n) (df d f)then(2,d.line)
  else if d.kind==5&&mD pre d.on.toList==0 then(5,d.line)
  else if d.kind==5&&mD pre d.on.toList != 4 then(6,d.line)
  else mY r (pre++[d]) (dc d c) (dl d l) (dn d n) (df d f)
theorem XR {pre:List De} {l:List UInt8} (h:(mD pre l != 0)=false):pre.find? (λd=>d.nm.toList==l)=none:=by
 unfold mD at h;cases hf:pre.find? (λd=>d.nm.toList==l)with
 |none=>rfl
 |some d=>rw[hf]at h;have:=uP d;simp at h;omega
theorem XT {pre:List De} {d:De} (h:(mD pre d.nm.toList != 0)=false) (l:List UInt8):(if l=d.nm.toList then gM d else mD pre l)=mD (pre++[d]) l:=by
 unfold mD;rw[List.find?_append];by_cases hl:l=d.nm.toList
 ·subst hl;rw[if_pos rfl,XR h];simp
 ·rw[if_neg hl];have:(d.nm.toList==l)=false:=by rw[beq_eq_false_iff_ne];exact λe=>hl e.symm
  simp[this]
theorem YW (d:De):(gM d==6)=(d.kind==5):=ag7
theorem xg {d:De} (h:jF d=true):1<=d.kind∧d.kind<=6∧0<=d.size∧(d.size=0∨d.kind=1):=by
 unfold jF at h;simp at h;omega
theorem K8 (d:De) (r pre:List De) (c l n f:Int):mY (d::r) pre c l n f=(if mD pre d.nm.toList != 0 then(4,d.line)
 else if decide (4<d.size)then(2,d.line)
 else if lim (dc d c) (dl d l) (dn d n) (df d f)then(2,d.line)
 else if d.kind==5&&mD pre d.on.toList==0 then(5,d.line)
 else if d.kind==5&&mD pre d.on.toList != 4 then(6,d.line)
 else mY r (pre++[d]) (dc d c) (dl d l) (dn d n) (df d f)):=rfl
end Md
theorem nA.congr {w:World} {b n:Nat} {f g:List UInt8->Int} (h:nA w b n f) (hfg: ∀l,f l=g l):nA w b n g:=by
 obtain⟨D,h1,h2⟩:=h;exact⟨D,h1,λl=>by rw[h2,hfg]⟩
theorem mh.congr {w:World} {b n:Nat} {f g:List UInt8->Bool} (h:mh w b n f) (hfg: ∀l,f l=g l):mh w b n g:=by
 obtain⟨D,h1,h2⟩:=h;exact⟨D,h1,λl=>by rw[h2,hfg]⟩
def aR1 (ds:List De) (w:World) (res:Int×Int) (g:Nat) (s5 s6 s7 s8 s15:Value) (wr:World):Prop:=
 ∃(k:Nat) (pre R:List De) (c l n f:Int),g=R.length∧s15= .int .i64 k∧pre++R=ds∧pre.length=k∧s5= .int .i64 c∧s6= .int .i64 l∧s7= .int .i64 n∧s8= .int .i64 f∧
  (0<=c∧c<=12∧0<=l∧l<=4∧0<=n∧n<=2∧0<=f∧f<=2)∧res=mY R pre c l n f∧nA wr w.heap.size k (mD pre)∧Below w.heap.size w wr
theorem MW (ds:List De) (w:World) (ao:Option Addr) (cap:Nat) (hl:ds.length<=maxLen) (hat:jG w w.heap.size ds ao 0) (hsh: ∀d∈ds,jF d=true):
 Calls Tryz.prog 68 #[.slice ao ds.length cap] w λe w'=>e= .returned (.tuple #[.int .i64 (mY ds [] 0 0 0 0).1,.int .i64 (mY ds [] 0 0 0 0).2])∧Below w.heap.size w w':=by
 generalize hres:mY ds [] 0 0 0 0=res;have HR:=ah hres;have HAT:=ah hat;have BF:=ah hsh;have hl':=hl;unfold maxLen at hl;clear hres hat hsh;have hmm:= @run_makeMap Tryz.prog;go_enter Tryz.func68,Tryz.ntmps68;go_wp2_with fail;go_loopg [5,6,7,8,10,11,15] ds.length (λg s5 s6 s7 s8 _ _ s15 wr=>aR1 ds w res g s5 s6 s7 s8 s15 wr)
 case atStart=>exact⟨0,[],ds,0,0,0,0,rfl,rfl,rfl,rfl,rfl,rfl,rfl,rfl,ahg,HR.o.symm,(nA.made w).congr (λ_=>rfl),aA _ _⟩
 case round=>
  obtain⟨k,pre,R,c,l,n,f,rfl,rfl,hds,hk,rfl,rfl,rfl,rfl,⟨q1,q2,l1,l2,n1,n2,f1,f2⟩,hr,hmap,hB⟩:=hrel;have HE:=ah hr;have HM:=ah hmap;have HB:=ah hB;clear hr hmap hB HR;have hlen:k+R.length=ds.length:=afJ
  have hrow:=(HAT.o.below HB.o).drop k;rw[aU,<- hds,<- hk,List.drop_left]at hrow;rw[hk]at hrow;cases R with
  |nil=>
   obtain rfl:k=ds.length:=afb
   have HF:=ah (HE.o.trans (rfl:_=((0:Int),(0:Int))));clear HE hds hk hrow;go_wp2_with fail
   go_ret2
   exact⟨jW (congrArg Prod.fst HF.o) (congrArg Prod.snd HF.o),HB.o⟩
  |cons d R=>
   have hsd:=xg (BF.o d (by rw[<- hds];simp));have sO:=ah hds;have HK:=ah hk;clear hds hk;obtain⟨⟨b,off,rfl,jT,x0,x1,x2,x3,x4,x5,hok⟩,-⟩:=hrow;simp only[aB]at hlen;have hkl:k<ds.length:=ahf
   obtain⟨g1,g2,g3,g4⟩:=hsd;rw[K8]at HE;go_upto_region 6 with fail;obtain⟨nb,hnb⟩: ∃n,wr.heap.size=n:=⟨_,rfl⟩;generalize hW2:World.alloc wr _=W2;have HB2:aj (Below w.heap.size w W2):=ah adI;have HY:aj (Sit wr W2 [(nb,0,.int .i64 d.kind),(nb,1,.int .i64 d.line),(nb,2,.string d.nm),(nb,3,.int .i64 d.size),(nb,4,.int .i64 d.init),(nb,5,.string d.on)]):=ah abN;have SV:=ah (HM.o.next HY.o.1);rw[hnb];clear hW2 hnb x0 x1 x2 x3 x4 x5 HM HB;obtain⟨c0,c1,c2,c3,c4,c5,-⟩:=HY.o.cs;have hk1:=SV.o.look d.nm hok.2.2.1;cases h0:(mD pre d.nm.toList != 0)
   case true=>
    as_aux_lemma=>
     have HF:=ah (HE.o.trans (if_pos h0));go_wp2_with fail;go_quiet (fail);go_wp2_with fail
     go_ret2
     exact⟨jW (congrArg Prod.fst HF.o) (congrArg Prod.snd HF.o),below_drewN HB2.o _⟩
   have HE2:=ah (HE.o.trans (if_neg (by rw[h0];decide)));clear HE;go_upto_region 8 with fail;cases h1:decide (4<d.size)
   case true=>
    as_aux_lemma=>
     have HF:=ah (HE2.o.trans (if_pos h1));have h1':4<d.size:=ahm;go_wp2_with fail;go_quiet (fail);go_wp2_with fail
     go_ret2
     exact⟨jW (congrArg Prod.fst HF.o) (congrArg Prod.snd HF.o),below_drewN HB2.o _⟩
   have kF:=ah (HE2.o.trans (if_neg ahr));have h1':d.size<=4:=ahm
   clear HE2 h1;go_upto_region 10 with fail;go_wp2_with fail;refine(Gw d _).mono ?_;rintro e w3 ⟨rfl,hb3⟩;have HZ:=ah (HY.o.next hb3);have HB3:=ah (HB2.o.trans (hb3.mono HB2.o.size));have vN:=ah (SV.o.next hb3);clear hb3 HY HB2 SV c0 c1 c2 c3 c4 c5 hk1;have HFV:=ah (YW d);have HDM:aj (∃m,gM d=m):=ah ⟨_,rfl⟩;obtain⟨c0,c1,c2,c3,c4,c5,-⟩:=HZ.o.cs;go_upto_block 2 with(fail);go_cut [5,6,7,8,11,33] (λs5 s6 s7 s8 s11 _ W3=>w3=W3∧s11= .int .i64 (gM d)∧s5= .int .i64 (dc d c)∧s6= .int .i64 (dl d l)∧s7= .int .i64 (dn d n)∧s8= .int .i64 (df d f))
   case first=>
    as_aux_lemma=>
     have hkd:d.kind=1∨d.kind=2∨d.kind=3∨d.kind=4∨d.kind=5∨d.kind=6:=ahf;rcases hkd with hkd|hkd|hkd|hkd|hkd|hkd
     ·by_cases hs0:d.size=0
      ·have hm:gM d=2:=(by simp[gM,hkd,hs0]);exact AaR
      ·have hm:gM d=3:=(by simp[gM,hkd,hs0]);have HA:aj (dc d c=c+d.size∧dl d l=l∧dn d n=n∧df d f=f):=ah aaZ;have G8:=ah hm;rw[hm];clear hm hkd hs0;go_wp2_with fail;go_meet;exact⟨rfl,by rw[G8.o],ah1,ahS,ahI,ahH⟩
     ·have hs0:d.size=0:=ahf;have hm:gM d=2:=ahU;exact AaR
     ·have hm:gM d=4:=ahU;have HA:aj (dc d c=c∧dl d l=l+1∧dn d n=n∧df d f=f):=ah afW;exact Abk
     ·have hm:gM d=5:=ahU;have HA:aj (dc d c=c∧dl d l=l+1∧dn d n=n∧df d f=f):=ah afW;exact Abk
     ·have hm:gM d=6:=ahU;have HA:aj (dc d c=c∧dl d l=l∧dn d n=n+1∧df d f=f):=ah afW;exact Abk
     ·have hm:gM d=7:=ahU;have HA:aj (dc d c=c∧dl d l=l∧dn d n=n∧df d f=f+1):=ah afW;exact Abk
   obtain⟨rfl,rfl,rfl,rfl,rfl,rfl⟩:=hcut;have hc':0<=dc d c∧dc d c<=16:=by unfold dc;split <;> omega
   have hl'':0<=dl d l∧dl d l<=5:=by unfold dl;split <;> omega
   have hn':0<=dn d n∧dn d n<=3:=by unfold dn;split <;> omega
   have hf':0<=df d f∧df d f<=3:=by unfold df;split <;> omega
   generalize hcc:dc d c=c' at *;generalize hll:dl d l=l' at *;generalize hnn:dn d n=n' at *;generalize XB:df d f=f' at *;clear hcc hll hnn XB;go_upto_region 23 with fail;go_cut [70] (λs' W3=>w3=W3∧s'= .bool (lim c' l' n' f'))
   case first=>
    as_aux_lemma=>
     have HF:aj (lim c' l' n' f'=(((decide (12<c')||decide (4<l'))||decide (2<n'))||decide (2<f'))):=ah rfl;go_wp2_with fail
     all_goals go_meet
     all_goals exact⟨rfl,abQ⟩
   obtain⟨rfl,rfl⟩:=hcut;cases h2:lim c' l' n' f'
   case true=>
    as_aux_lemma=>
     have HF:=ah (kF.o.trans (if_pos h2));go_wp2_with fail;go_quiet (fail);go_wp2_with fail
     go_ret2
     exact⟨jW (congrArg Prod.fst HF.o) (congrArg Prod.snd HF.o),below_drewN HB3.o _⟩
   have vK:=ah (kF.o.trans (if_neg ahz));have hlim:c'<=12∧l'<=4∧n'<=2∧f'<=2:=aeC
   clear kF h2;have hkm:k<maxLen:=ahf
   cases h5:(d.kind==5)
   ·have h6:(gM d==6)=false:=HFV.o.trans h5;have HF:=ah (vK.o.trans ((if_neg aik).trans (if_neg aik)));clear vK;exact Aas
   ·have h6:(gM d==6)=true:=HFV.o.trans h5;have hk2:=vN.o.look d.on hok.2.2.2.2.2;generalize hmo:mD pre d.on.toList=mo at *;clear hmo;cases h7:(mo==0)
    case true=>
     as_aux_lemma=>
      have HF:=ah (vK.o.trans (if_pos (by rw[h5,h7];rfl)));go_wp2_with fail;go_quiet (fail);go_wp2_with fail
      go_ret2
      exact⟨jW (congrArg Prod.fst HF.o) (congrArg Prod.snd HF.o),below_drewN HB3.o _⟩
    have IX:=ah (vK.o.trans (if_neg (by rw[h5,h7];decide)));clear vK;cases h8:(mo != 4)
    case true=>
     as_aux_lemma=>
      have HF:=ah (IX.o.trans (if_pos (by rw[h5,h8];rfl)));go_wp2_with fail;go_quiet (fail);go_wp2_with fail
      go_ret2
      exact⟨jW (congrArg Prod.fst HF.o) (congrArg Prod.snd HF.o),below_drewN HB3.o _⟩
    have HF:=ah (IX.o.trans (if_neg (by rw[h5,h8];decide)));clear IX;exact Aas
namespace Md
def oN (ds:List De) (l:List UInt8):Bool:=ds.any λd=>d.nm.toList==l
def om (ts:List Th) (l:List UInt8):Bool:=ts.any λt=>t.nm.toList==l
def nY (tx:List ByteArray) (l:List UInt8):Bool:=tx.any λs=>s.toList==l
def wQ (ds:List De):List Th->List Th->Option Int
 | [],_=>none
 |t::r,pre=>if oN ds t.nm.toList||om pre t.nm.toList then some t.line else wQ ds r (pre++[t])
def uS (ds:List De) (ts:List Th):List ByteArray->List ByteArray->Bool
 | [],_=>false
 |s::r,pre=>((oN ds s.toList||om ts s.toList)||nY pre s.toList)||uS ds ts r (pre++[s])
def Ci (ds:List De) (ts:List Th):List Th->Int×Int
 | []=>(0,0)
 |t::r=>if decide ((4:Int)<t.cZ.length)then(2,t.line)else if uS ds ts t.cZ []then(4,t.line)else Ci ds ts r
def mq (p:Pr):Int×Int:=match wQ p.ds p.ts []with
 |some l=>(4,l)
 |none=>Ci p.ds p.ts p.ts
theorem ZP (pre:List De) (d:De) (l:List UInt8):(if l=d.nm.toList then true else oN pre l)=oN (pre++[d]) l:=by
 unfold oN;rw[List.any_append];by_cases h:l=d.nm.toList
 ·subst h;simp
 ·rw[if_neg h];have:(d.nm.toList==l)=false:=by rw[beq_eq_false_iff_ne];exact λe=>h e.symm
  simp[this]
theorem ZQ (ds:List De) (pre:List Th) (t:Th) (l:List UInt8):(if l=t.nm.toList then true else(oN ds l||om pre l))=(oN ds l||om (pre++[t]) l):=by
 unfold om;rw[List.any_append];by_cases h:l=t.nm.toList
 ·subst h;simp
 ·rw[if_neg h];have:(t.nm.toList==l)=false:=by rw[beq_eq_false_iff_ne];exact λe=>h e.symm
  simp[this]
end Md
theorem Holds.grown {W W':World} {bm:Nat} (hg:W.grownBy W' (some bm)): ∀ {l:List (Nat×Nat×Value)},(∀f∈l,f.1≠bm)->Holds W l->Holds W' l
 | [],_,_=>trivial
 |f::_,hne,⟨⟨h1,h2⟩,h3⟩=>⟨⟨aV h1 hg.size,(World.cell?_of_block (a:=⟨f.1,f.2.1,none⟩) (hg.block f.1 h1 (by have:=hne f ahh;simp;exact this))).trans h2⟩,Holds.grown hg (λx hx=>hne x (by simp[hx])) h3⟩
theorem Sit.grown {w W W':World} {fs:List (Nat×Nat×Value)} {bm:Nat} (h:Sit w W fs) (hg:W.grownBy W' (some bm)) (hb:w.heap.size<=bm) (hne: ∀f∈fs,f.1≠bm):Sit w W' fs:=
 ⟨h.1.trans (cB hg hb h.1.size),h.2.grown hg hne⟩
theorem WC (p:Pr) (w:World) (aQ aR:Option Addr) (aJ aH:Nat) (hp:p.At w aQ aR) (hsum:p.ds.length+p.ts.length<maxLen):
 Calls Tryz.prog 69 #[.agg #[.slice aQ p.ds.length aJ,.slice aR p.ts.length aH]] w λe w'=>e= .returned (.tuple #[.int .i64 (mq p).1,.int .i64 (mq p).2])∧Below w.heap.size w w':=by
 have HR:aj (mq p=match wQ p.ds p.ts []with|some l=>(4,l)|none=>Ci p.ds p.ts p.ts):=ah rfl;generalize mq p=res at *;have hld:=hp.1;have hlt:=hp.2.1;unfold maxLen at hld hlt;have HP:=ah hp;clear hp;have hmm:= @run_makeMap Tryz.prog;go_enter Tryz.func69,Tryz.ntmps69;go_upto_region 1 with fail;generalize hW:World.alloc w _=W;generalize Value.agg #[_,_]=a0;have HX:=ah ((Sit.start w).yP rfl (.slice aQ p.ds.length aJ) (.slice aR p.ts.length aH) 52);rw[hW]at HX;have hsz:W.heap.size=w.heap.size+1:=by rw[<- hW];simp
 clear hW;go_upto_region 2 with fail;have HM:=ah (mh.made W);have HY:=ah (HX.o.next (aA W (.map #[] 0)));rw[hsz]at HM;generalize World.alloc W _=W1 at *;clear HX hsz;obtain⟨c0,c1,-⟩:=HY.o.cs;go_wp2_with fail;go_loopw [6,19] (λ_ s wr=> ∃(k:Nat) (pre R:List De),s= .int .i64 k∧pre++R=p.ds∧pre.length=k∧mh wr (w.heap.size+1) k (oN pre)∧Sit w wr [(w.heap.size,0,(.slice aQ p.ds.length aJ)),(w.heap.size,1,(.slice aR p.ts.length aH))]) (λ_ s _=>p.ds.length -(intOf s).toNat)
 case atStart=>exact⟨0,[],p.ds,rfl,rfl,rfl,HM.o.congr (λ_=>rfl),HY.o⟩
 case round=>
  obtain⟨k,pre,R,rfl,hds,hk,hmap,hsit⟩:=hrel;have HZ:=ah hsit;have SV:=ah hmap;clear hsit hmap HY HM c0 c1;have hlen:k+R.length=p.ds.length:=afJ
  have hrow:=(HP.o.2.2.1.below HZ.o.1).drop k;rw[aU,<- hds,<- hk,List.drop_left]at hrow;rw[hk]at hrow;have sO:=ah hds;have HK:=ah hk;clear hds hk;cases R with
  |cons d R=>
   obtain⟨⟨b,off,rfl,jT,x0,x1,x2,x3,x4,x5,hok⟩,-⟩:=hrow;simp only[aB]at hlen;have hkl:k<p.ds.length:=ahf
   have hba:=aA wr (.cells #[.int .i64 d.kind,.int .i64 d.line,.string d.nm,.int .i64 d.size,.int .i64 d.init,.string d.on] 118);obtain⟨w4,hup,BN,hg4⟩:=(SV.o.next hba).put ahf d.nm hok.2.2.1 true;have tF:=ah (BN.congr (ZP pre d));have zX:=ah ((HZ.o.next hba).grown hg4 ahf ahh);clear BN hg4 hba hok;go_wp2_with fail;go_roundw
   case rel=>exact⟨k+1,pre++[d],R,ahj,acE,afC,tF.o,zX.o⟩
   case measure=>simp[intOf];omega
  |nil=>
   obtain rfl:k=p.ds.length:=afb
   have hpre:pre=p.ds:=by rw[<- sO.o,List.append_nil]
   subst hpre;obtain⟨c0,c1,-⟩:=HZ.o.cs;clear hrow hlen sO HK;go_wp2_with fail;go_loopw [8,30] (λ_ s wr=> ∃(k:Nat) (pre R:List Th),s= .int .i64 k∧pre++R=p.ts∧pre.length=k∧wQ p.ds p.ts []=wQ p.ds R pre∧mh wr (w.heap.size+1) (p.ds.length+k) (λl=>oN p.ds l||om pre l)∧Sit w wr [(w.heap.size,0,(.slice aQ p.ds.length aJ)),(w.heap.size,1,(.slice aR p.ts.length aH))]) (λ_ s _=>p.ts.length -(intOf s).toNat)
   case atStart=>exact⟨0,[],p.ts,rfl,rfl,rfl,rfl,SV.o.congr (λl=>by simp[om]),HZ.o⟩
   case round=>
    obtain⟨k,pre,R,rfl,hds,hk,heq,hmap,hsit⟩:=hrel;have HU:=ah hsit;have vN:=ah hmap;have HE:=ah heq;clear hsit hmap HZ SV c0 c1 heq;have hlen:k+R.length=p.ts.length:=afJ;have hrow:=(HP.o.2.2.2.below HU.o.1).drop k;rw[aU,<- hds,<- hk,List.drop_left]at hrow;rw[hk]at hrow;have sO:=ah hds;have HK:=ah hk;clear hds hk;cases R with
    |cons t R=>
     obtain⟨⟨b,off,iO,eF,dR,dA,rfl,hB,x0,x1,x2,x3,hok,htx,hst⟩,-⟩:=hrow;simp only[aB]at hlen;have hkl:k<p.ts.length:=ahf;have hba:=aA wr (.cells #[.string t.nm,.int .i64 t.line,.slice iO t.cZ.length eF,.slice dR t.body.len dA] 63);have tF:=ah (vN.o.next hba);have hlk:=tF.o.look t.nm hok.1;have HB3:=ah (HU.o.next hba).1;cases vZ:(oN p.ds t.nm.toList||om pre t.nm.toList)
     ·obtain⟨w4,hup,BN,hg4⟩:=tF.o.put ahf t.nm hok.1 true;have fU:=ah (BN.congr (ZQ p.ds pre t));have HU4:=ah ((HU.o.next hba).grown hg4 ahf ahh);have dP:=ah (HE.o.trans (if_neg (by rw[vZ];decide)));clear BN hg4 hba hok htx hst;go_wp2_with fail;go_roundw
      case rel=>exact⟨k+1,pre++[t],R,ahj,acE,afC,dP.o,fU.o,HU4.o⟩
      case measure=>simp[intOf];omega
     ·have HF:aj (res=(4,t.line)):=ah (HR.o.trans aeY);clear hba hok htx hst;exact Abl
    |nil=>
     obtain rfl:k=p.ts.length:=afb;have hpre:pre=p.ts:=(by rw[<- sO.o,List.append_nil]);subst hpre;have HR2:aj (res=Ci p.ds p.ts p.ts):=ah (HR.o.trans ahC);obtain⟨c0,c1,-⟩:=HU.o.cs;clear hrow hlen sO HK HE HR;generalize XB:(λl=>oN p.ds l||om p.ts l)=ff at *;have SC:=ah XB;clear XB;have hth:=HP.o.2.2.2.below HU.o.1;go_wp2_with fail;go_loopw [10,11,12,14,47,60,75] (λ_ _ _ _ s _ _ wr=> ∃(k:Nat) (R:List Th),s= .int .i64 k∧k+R.length=p.ts.length∧Ci p.ds p.ts p.ts=Ci p.ds p.ts R∧iP wr w.heap.size R aR k∧mh wr (w.heap.size+1) (p.ds.length+p.ts.length) ff∧Sit w wr [(w.heap.size,0,(.slice aQ p.ds.length aJ)),(w.heap.size,1,(.slice aR p.ts.length aH))]) (λ_ _ _ _ s _ _ _=>p.ts.length -(intOf s).toNat)
     case atStart=>exact⟨0,p.ts,rfl,ahh,rfl,hth,vN.o,HU.o⟩
     case round=>
      obtain⟨k,R,rfl,hlen,heq,hrow,hmap,hsit⟩:=hrel;have HV:=ah hsit;have tF:=ah hmap;have HE:=ah (HR2.o.trans heq);have Jr:=ah heq;clear hsit hmap HU vN c0 c1 heq hth;cases R with
      |nil=>
       obtain rfl:k=p.ts.length:=afb;have HF:=ah (HE.o.trans (rfl:_=((0:Int),(0:Int))));go_wp2_with fail
       go_ret2
       exact⟨jW (congrArg Prod.fst HF.o) (congrArg Prod.snd HF.o),HV.o.1⟩
      |cons t R=>
       obtain⟨⟨b,off,iO,eF,dR,dA,rfl,hB,x0,x1,x2,x3,hok,htx,hst⟩,hrest⟩:=hrow;simp only[aB]at hlen;have hkl:k<p.ts.length:=ahf;have hll:=hok.2.2.1;have hcl:=hst.2;unfold maxLen at hll;clear hst hok;go_upto_region 17 with fail;obtain⟨nb,hnb⟩: ∃n,wr.heap.size=n:=⟨_,rfl⟩;generalize hW2:World.alloc wr _=W2;have mZ:aj (Below wr.heap.size wr W2):=ah afl;have HY:aj (Sit wr W2 [(nb,0,.string t.nm),(nb,1,.int .i64 t.line),(nb,2,.slice iO t.cZ.length eF),(nb,3,.slice dR t.body.len dA)]):=ah (by rw[<- hW2];exact(Sit.start wr).Bd hnb _ _ _ _ _);have AJ:=ah (HV.o.next mZ.o);have fU:=ah (tF.o.next mZ.o);have HB3:=ah AJ.o.1;have AB:=ah (htx.below (mZ.o.mono HV.o.1.size));have kg:=ah (hrest.below (mZ.o.mono HV.o.1.size));rw[hnb];clear hW2 hnb x0 x1 x2 x3 tF HV htx hrest mZ;obtain⟨c0,c1,c2,c3,-⟩:=HY.o.cs;cases h1:decide ((4:Int)<t.cZ.length)
       case true=>
        as_aux_lemma=>
         have HF:=ah (HE.o.trans (if_pos h1));have h1':4<t.cZ.length:=agj;clear h1;go_wp2_with fail;go_quiet (fail);go_wp2_with fail
         go_ret2
         exact⟨jW (congrArg Prod.fst HF.o) (congrArg Prod.snd HF.o),below_drewN HB3.o _⟩
       have HE2:=ah (HE.o.trans (if_neg ahr));have kF:=ah (Jr.o.trans (if_neg ahr));have h1':t.cZ.length<=4:=agj;clear HE Jr h1;go_wp2_with fail;go_loop [11,12,14,60,75] (λ_ _ _ s _=> ∃(k':Nat) (pre R':List ByteArray),s= .int .i64 k'∧pre++R'=t.cZ∧pre.length=k'∧uS p.ds p.ts t.cZ []=uS p.ds p.ts R' pre) (λ_ _ _ s _=>t.cZ.length -(intOf s).toNat)
       case atStart=>exact⟨0,[],t.cZ,rfl,rfl,rfl,rfl⟩
       case round=>
        obtain⟨k',pre,R',rfl,hds,hk',heq'⟩:=hrel;have dP:=ah heq';have hlen':k'+R'.length=t.cZ.length:=(by rw[<- hds,au,hk']);have hrow:=AB.o.drop k';rw[aU,<- hds,<- hk',List.drop_left]at hrow;rw[hk']at hrow;have xD:=ah ((hds ▸ AB.o:fT W2 w.heap.size (pre++R') iO 0).take);have sO:=ah hds;have HK:=ah hk';clear hds hk' heq';cases R' with
        |nil=>
         obtain rfl:k'=t.cZ.length:=afE;have HF:=ah (kF.o.trans (if_neg (by rw[dP.o];simp[uS])));go_wp2_with fail;go_roundw
         case rel=>exact⟨k+1,R,ahj,ahf,HF.o,kg.o,fU.o,AJ.o⟩
         case measure=>simp[intOf];omega
        |cons s R'=>
         obtain⟨⟨b',off',rfl,hB',y0,hs⟩,-⟩:=hrow;simp only[aB]at hlen';have hkl':k'<t.cZ.length:=ahf;have hlk:=fU.o.look s hs;have hfs:ff s.toList=(oN p.ds s.toList||om p.ts s.toList):=(by rw[<- SC.o]);cases vZ:ff s.toList
         case true=>
          as_aux_lemma=>
           have HF:=ah (HE2.o.trans (if_pos (by rw[dP.o];unfold uS;rw[<- hfs,vZ];rfl)));clear hfs;go_wp2_with fail;go_quiet (fail);go_wp2_with fail
           go_ret2
           exact⟨jW (congrArg Prod.fst HF.o) (congrArg Prod.snd HF.o),below_drewN HB3.o _⟩
         have vK:aj (uS p.ds p.ts t.cZ []=(nY pre s.toList||uS p.ds p.ts R' (pre++[s]))):=ah (dP.o.trans (by rw[uS,<- hfs,vZ];rfl));clear hfs dP;have hk0:(0:Int)<=k':=ahf;have hk2:k'<=eF:=ahf;go_wp2_with fail;go_loop [14,75] (λ_ s'=> ∃(k'':Nat) (Q:List ByteArray),s'= .int .i64 k''∧k''+Q.length=k'∧nY pre s.toList=nY Q s.toList∧fT W2 w.heap.size Q (some ⟨b',off',none⟩) k'') (λ_ s'=>k' -(intOf s').toNat)
         case atStart=>exact⟨0,pre,rfl,by rw[aU];exact HK.o,rfl,xD.o⟩
         case round=>
          obtain⟨k'',Q,rfl,ah6,heq'',be8⟩:=hrel;have HQ:=ah heq'';clear heq'';cases Q with
          |nil=>
           obtain rfl:k''=k':=(by simpa using ah6);have HF:=ah (vK.o.trans (by rw[HQ.o];rfl:_=uS p.ds p.ts R' (pre++[s])));go_wp2_with fail;go_round
           case rel=>exact⟨k''+1,pre++[s],R',ahj,acE,afC,HF.o⟩
           case measure=>simp[intOf];omega
          |cons q Q=>
           obtain⟨⟨b2,off2,hbe,hB2,z0,hq⟩,hrest''⟩:=be8;obtain⟨rfl,rfl⟩:b'=b2∧off'=off2:=abm;simp only[aB]at ah6;have bV0:k''<k':=ahf;clear hbe;have sP:aj (nY pre s.toList=((q.toList==s.toList)||nY Q s.toList)):=ah (HQ.o.trans (by simp[nY]));cases hc:(q.toList==s.toList)
           ·have hc':(s.toList==q.toList)=false:=(by rw[beq_eq_false_iff_ne]at hc⊢;exact λe=>hc e.symm);have HF:=ah (sP.o.trans (by rw[hc];rfl:_=nY Q s.toList));go_wp2_with fail;go_round
            case rel=>exact⟨k''+1,Q,ahj,ahf,HF.o,hrest''⟩
            case measure=>simp[intOf];omega
           ·have hc':(s.toList==q.toList)=true:=(by rw[beq_iff_eq]at hc⊢;exact hc.symm);have HF:=ah (HE2.o.trans (if_pos (by rw[vK.o,sP.o,hc];rfl)));exact Abl
def ZJ (f:List UInt8->Bool) (l:List UInt8):List UInt8->Bool:=λx=>if x=l then true else f x
def qL (b:Bool):Int:=if b then 8 else 0
theorem YM (p:Pr) (w:World) (aQ aR:Option Addr) (aJ aH:Nat) (hp:p.At w aQ aR) (fG:eD w):
 Calls Tryz.prog 67 #[.agg #[.slice aQ p.ds.length aJ,.slice aR p.ts.length aH]] w λe w'=>e= .returned (.bool (qZ p))∧Below w.heap.size w w':=by
 have HS:aj (qZ p=((p.ds.all jF&&p.ts.all pK)&&decide ((0:Int)<p.ts.length))):=ah rfl;generalize qZ p=res at *;have hld:=hp.1;have hlt:=hp.2.1;unfold maxLen at hld hlt;have HP:=ah hp;have kG:=ah fG;clear hp fG;go_enter Tryz.func67,Tryz.ntmps67;go_upto_region 1 with fail;generalize hW:World.alloc w _=W;generalize Value.agg #[_,_]=a0;have HX:=ah ((Sit.start w).yP rfl (.slice aQ p.ds.length aJ) (.slice aR p.ts.length aH) 52);rw[hW]at HX;clear hW;obtain⟨c0,c1,-⟩:=HX.o.cs;have hde:=(HP.o.same HX.o.1).2.2.1;go_wp2_with fail;go_loopw [4,12] (λ_ s wr=> ∃(k:Nat) (R:List De),s= .int .i64 k∧k+R.length=p.ds.length∧p.ds.all jF=R.all jF∧jG wr wr.heap.size R aQ k∧Sit w wr [(w.heap.size,0,(.slice aQ p.ds.length aJ)),(w.heap.size,1,(.slice aR p.ts.length aH))]) (λ_ s _=>p.ds.length -(intOf s).toNat)
 case atStart=>exact⟨0,p.ds,rfl,ahh,rfl,hde,HX.o⟩
 case round=>
  obtain⟨k,R,rfl,hlen,heq,hrow,hsit⟩:=hrel;have HZ:=ah hsit;have HE:=ah heq;clear hsit HX c0 c1 hde heq;cases R with
  |cons d R=>
   obtain⟨⟨b,off,rfl,hB,x0,x1,x2,x3,x4,x5,hok⟩,hrest⟩:=hrow;simp only[aB]at hlen;have hkl:k<p.ds.length:=ahf
   have kK:=ah hok;clear hok;go_wp2_with fail;have hba:=aA wr (.cells #[.int .i64 d.kind,.int .i64 d.line,.string d.nm,.int .i64 d.size,.int .i64 d.init,.string d.on] 118);refine(Qd d _ ((kG.o.same HZ.o.1).same hba) kK.o).mono ?_;rintro e' w2 ⟨rfl,hb2⟩;have HB3:=ah (hba.trans (hb2.mono ahh));clear hba hb2 x0 x1 x2 x3 x4 x5;exact AaO
  |nil=>
   obtain rfl:k=p.ds.length:=afb
   rw[HE.o]at HS;obtain⟨c0,c1,-⟩:=HZ.o.cs;have hth:=(HP.o.same HZ.o.1).2.2.2;clear HE hrow hlen;go_wp2_with fail;go_loopw [6,8,23,31,32,33,34,35] (λ_ _ s _ _ _ _ _ wr=> ∃(k:Nat) (R:List Th),s= .int .i64 k∧k+R.length=p.ts.length∧p.ts.all pK=R.all pK∧iP wr wr.heap.size R aR k∧Sit w wr [(w.heap.size,0,(.slice aQ p.ds.length aJ)),(w.heap.size,1,(.slice aR p.ts.length aH))]) (λ_ _ s _ _ _ _ _ _=>p.ts.length -(intOf s).toNat)
   case atStart=>exact⟨0,p.ts,rfl,ahh,rfl,hth,HZ.o⟩
   case round=>
    obtain⟨k,R,rfl,hlen,heq,hrow,hsit⟩:=hrel;have HU:=ah hsit;have HE:=ah heq;clear hsit HZ c0 c1 hth heq;cases R with
    |nil=>obtain rfl:k=p.ts.length:=afb;rw[HE.o]at HS;obtain⟨c0,c1,-⟩:=HU.o.cs;go_wp2_with fail;go_ret;exact⟨bZ (HS.o.trans ahh).symm,HU.o.1⟩
    |cons t R=>
     obtain⟨⟨b,off,iO,eF,dR,dA,rfl,hB,x0,x1,x2,x3,hok,htx,hst⟩,hrest⟩:=hrow;simp only[aB]at hlen;have hkl:k<p.ts.length:=ahf;have hll:=hok.2.2.1;have kK:=ah hok;have AB:=ah htx;have HST:=ah hst;unfold maxLen at hll;clear hok htx hst;go_upto_region 10 with fail;obtain⟨n2,hn2⟩: ∃n,wr.heap.size=n:=⟨_,rfl⟩;generalize hW2:World.alloc wr _=W2;have HB2:aj (Below wr.heap.size wr W2):=ah afl;have HV:aj (Sit w W2 ((n2,0,.string t.nm)::(n2,1,.int .i64 t.line)::(n2,2,.slice iO t.cZ.length eF)::(n2,3,.slice dR t.body.len dA)::[(w.heap.size,0,(.slice aQ p.ds.length aJ)),(w.heap.size,1,(.slice (some ⟨b,off,none⟩) p.ts.length aH))])):=ah ac7;rw[hn2];clear hW2 hn2 x0 x1 x2 x3;obtain⟨c0,c1,c2,c3,c4,c5,-⟩:=HV.o.cs;go_wp2_with fail;refine(zZ _ _ (kG.o.same HV.o.1) kK.o.1).mono ?_;rintro e' w3 ⟨rfl,hb3⟩;have HB3:=ah hb3;have HA:=ah (HV.o.next hb3);clear hb3 HV c0 c1 c2 c3 c4 c5;obtain⟨c0,c1,c2,c3,c4,c5,-⟩:=HA.o.cs;cases hN:Tk.ji t.nm.data.toList
     ·rw[HE.o,List.all_cons,show pK t=false by unfold pK;rw[hN];rfl]at HS;go_wp2_with fail;go_ret;exact⟨bZ (HS.o.trans ahh).symm,HA.o.1⟩
     ·have hrow:=AB.o.same (HB2.o.trans (HB3.o.mono HB2.o.size));have yg:=ah (HB2.o.trans (HB3.o.mono HB2.o.size));clear HB2 HB3;go_wp2_with fail;obtain⟨wo,rfl⟩: ∃wo:World,wo=wr:=⟨_,rfl⟩;go_loopw [8,34] (λ_ s wr=> ∃(k:Nat) (R:List ByteArray),s= .int .i64 k∧k+R.length=t.cZ.length∧t.cZ.all (λs=>Tk.ji s.data.toList)=R.all (λs=>Tk.ji s.data.toList)∧fT wr wr.heap.size R iO k∧Below wo.heap.size wo wr∧Sit w wr ((n2,0,.string t.nm)::(n2,1,.int .i64 t.line)::(n2,2,.slice iO t.cZ.length eF)::(n2,3,.slice dR t.body.len dA)::[(w.heap.size,0,(.slice aQ p.ds.length aJ)),(w.heap.size,1,(.slice (some ⟨b,off,none⟩) p.ts.length aH))])) (λ_ s _=>t.cZ.length -(intOf s).toNat)
      case atStart=>exact⟨0,t.cZ,rfl,ahh,rfl,hrow,yg.o,HA.o⟩
      case round=>
       obtain⟨k',R',rfl,hlen',heq',hrow',hbo,OA⟩:=hrel;have HC:=ah OA;have EK:=ah hbo;have dP:=ah heq';clear OA HA c0 c1 c2 c3 c4 c5 hrow heq' hbo yg;cases R' with
       |cons s R'=>
        obtain⟨⟨b',off',rfl,hB',y0,hs⟩,hrest'⟩:=hrow';simp only[aB]at hlen';have hkl':k'<t.cZ.length:=ahf;go_wp2_with fail;refine(zZ _ _ (kG.o.same HC.o.1) hs).mono ?_;rintro e' w3 ⟨rfl,hb3⟩;have dL:=ah hb3;clear hb3;exact Aaq
       |nil=>
        obtain rfl:k'=t.cZ.length:=afE;obtain⟨c0,c1,c2,c3,c4,c5,-⟩:=HC.o.cs;go_wp2_with fail;refine(Qe t.body _ _ _ kK.o.2.2.2 (HST.o.1.same EK.o) (kG.o.same HC.o.1)).mono ?_;rintro e' w3 ⟨rfl,hb3⟩;have dL:=ah hb3;clear hb3;have HT:aj (pK t=gy t.body):=ah (by unfold pK;rw[hN,dP.o];rfl);cases Kk:gy t.body
        ·rw[HE.o,List.all_cons,HT.o,Kk]at HS;go_wp2_with fail;go_ret;exact⟨bZ (HS.o.trans ahh).symm,(HC.o.next dL.o).1⟩
        ·have HF:=ah (HE.o.trans (by rw[List.all_cons,HT.o,Kk];rfl:_=R.all pK));have HBQ:=ah (EK.o.trans (dL.o.mono EK.o.size));have HSQ:=ah (HU.o.next HBQ.o);go_wp2_with fail;go_roundw
         case rel=>exact⟨k+1,R,ahj,ahf,HF.o,hrest.same HBQ.o,HSQ.o⟩
         case measure=>simp[intOf];omega
end Go.Proofs.YtcjgfgkllmldpaaGreatDoor
