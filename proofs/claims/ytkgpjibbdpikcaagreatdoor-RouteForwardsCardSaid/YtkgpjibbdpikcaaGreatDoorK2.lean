/- No condition. -/
import Derived.Test.YtkgpjibbdpikcaaGreatDoorK1
import Derived.KernelRfl
import Derived.Laws.RangeString
set_option linter.unusedVariables false
set_option linter.unusedSimpArgs false
set_option maxRecDepth 100000
namespace bu
open Go.IntKind renaming wrap->zW,i64->zI,u8->zU
open Go Go.Ref
def Lu{R:Type}(a:Int)(b:Bool->Option R):Option R:=
 bif a=1 then b true else b (decide (a=2))
def yJ(a:Int):Option Bool:=
 Lu a (fun a0=>some a0)
def Qp{R:Type}(a b:Int)(c:Int->Option R):Option R:=
 bif a=2 then bif b=1 then c 1 else bif a=1 then bif b=5 then c 2 else bif b=6 then c 2 else c 0 else c 0 else bif a=1 then bif b=5 then c 2 else bif b=6 then c 2 else c 0 else c 0
def jX(a b:Int):Option Int:=
 Qp a b (fun a0=>some a0)
def Ql{R:Type}(a:Int)(b:aj)(c:ByteArray)(d:Int)(e:ByteArray->Int->Int->Option R):Option R:=
 (yJ a).bind fun r1=>bif !r1 then e (bs []) 0 1 else(kB b).bind fun r2=>bif !decide (r2=0) then e (bs []) 0 1 else bif d<0 then e (bs []) 0 1 else bif(c.size:Int)<d then e (bs []) 0 1 else bif !decide (b.2.2.1=1) then(qK a b.2.2.1 c d).bind fun r3=>bif !decide (r3.2.2=0) then e (bs []) 0 r3.2.2 else bif r3.1<b.2.2.2.1 then e (bs []) 0 5 else bif b.2.2.2.2.1<r3.1 then e (bs []) 0 5 else(jX a b.2.1).bind fun r4=>bif r4=1 then(Q2 r3.1).bind fun r5=>bif zW zI ((c.size:Int)-r3.2.1)<r5 then e (bs []) 0 2 else bif 0<=zW zI (r3.2.1+r5) then bif zW zI (r3.2.1+r5)<=(c.size:Int) then bif 0<=r3.2.1 then bif r3.2.1<=(((zW zI (r3.2.1+r5)).toNat:Nat):Int) then(jX a b.2.1).bind fun r6=>bif r6=1 then(Q0 (c.extract r3.2.1.toNat (zW zI (r3.2.1+r5)).toNat) r3.1).bind fun r7=>bif !decide (r7.2.1=0) then e (bs []) 0 r7.2.1 else(bB b r7.1).bind fun r8=>bif !decide (r8=0) then e (bs []) 0 r8 else e r7.1 (zW zI (r3.2.1+r5)) 0 else bif r6=2 then(fP (c.extract r3.2.1.toNat (zW zI (r3.2.1+r5)).toNat)).bind fun r9=>bif !r9.2.2 then e (bs []) 0 3 else(bB b r9.1).bind fun jF=>bif !decide (jF=0) then e (bs []) 0 jF else e r9.1 (zW zI (r3.2.1+r5)) 0 else(bB b (c.extract r3.2.1.toNat (zW zI (r3.2.1+r5)).toNat)).bind fun jv=>bif !decide (jv=0) then e (bs []) 0 jv else e (c.extract r3.2.1.toNat (zW zI (r3.2.1+r5)).toNat) (zW zI (r3.2.1+r5)) 0 else none else none else none else none else bif r4=2 then bif zW zI ((c.size:Int)-r3.2.1)<zW zI (2*r3.1) then e (bs []) 0 2 else bif 0<=zW zI (r3.2.1+zW zI (2*r3.1)) then bif zW zI (r3.2.1+zW zI (2*r3.1))<=(c.size:Int) then bif 0<=r3.2.1 then bif r3.2.1<=(((zW zI (r3.2.1+zW zI (2*r3.1))).toNat:Nat):Int) then(jX a b.2.1).bind fun kR=>bif kR=1 then(Q0 (c.extract r3.2.1.toNat (zW zI (r3.2.1+zW zI (2*r3.1))).toNat) r3.1).bind fun jw=>bif !decide (jw.2.1=0) then e (bs []) 0 jw.2.1 else(bB b jw.1).bind fun s9=>bif !decide (s9=0) then e (bs []) 0 s9 else e jw.1 (zW zI (r3.2.1+zW zI (2*r3.1))) 0 else bif kR=2 then(fP (c.extract r3.2.1.toNat (zW zI (r3.2.1+zW zI (2*r3.1))).toNat)).bind fun vq=>bif !vq.2.2 then e (bs []) 0 3 else(bB b vq.1).bind fun Ay=>bif !decide (Ay=0) then e (bs []) 0 Ay else e vq.1 (zW zI (r3.2.1+zW zI (2*r3.1))) 0 else(bB b (c.extract r3.2.1.toNat (zW zI (r3.2.1+zW zI (2*r3.1))).toNat)).bind fun Az=>bif !decide (Az=0) then e (bs []) 0 Az else e (c.extract r3.2.1.toNat (zW zI (r3.2.1+zW zI (2*r3.1))).toNat) (zW zI (r3.2.1+zW zI (2*r3.1))) 0 else none else none else none else none else bif zW zI ((c.size:Int)-r3.2.1)<r3.1 then e (bs []) 0 2 else bif 0<=zW zI (r3.2.1+r3.1) then bif zW zI (r3.2.1+r3.1)<=(c.size:Int) then bif 0<=r3.2.1 then bif r3.2.1<=(((zW zI (r3.2.1+r3.1)).toNat:Nat):Int) then(jX a b.2.1).bind fun AA=>bif AA=1 then(Q0 (c.extract r3.2.1.toNat (zW zI (r3.2.1+r3.1)).toNat) r3.1).bind fun sB=>bif !decide (sB.2.1=0) then e (bs []) 0 sB.2.1 else(bB b sB.1).bind fun AB=>bif !decide (AB=0) then e (bs []) 0 AB else e sB.1 (zW zI (r3.2.1+r3.1)) 0 else bif AA=2 then(fP (c.extract r3.2.1.toNat (zW zI (r3.2.1+r3.1)).toNat)).bind fun vr=>bif !vr.2.2 then e (bs []) 0 3 else(bB b vr.1).bind fun G0=>bif !decide (G0=0) then e (bs []) 0 G0 else e vr.1 (zW zI (r3.2.1+r3.1)) 0 else(bB b (c.extract r3.2.1.toNat (zW zI (r3.2.1+r3.1)).toNat)).bind fun G1=>bif !decide (G1=0) then e (bs []) 0 G1 else e (c.extract r3.2.1.toNat (zW zI (r3.2.1+r3.1)).toNat) (zW zI (r3.2.1+r3.1)) 0 else none else none else none else none else(jX a b.2.1).bind fun r24=>bif r24=1 then(Q2 b.2.2.2.1).bind fun sC=>bif zW zI ((c.size:Int)-d)<sC then e (bs []) 0 2 else bif 0<=zW zI (d+sC) then bif zW zI (d+sC)<=(c.size:Int) then bif 0<=d then bif d<=(((zW zI (d+sC)).toNat:Nat):Int) then(jX a b.2.1).bind fun r26=>bif r26=1 then(Q0 (c.extract d.toNat (zW zI (d+sC)).toNat) b.2.2.2.1).bind fun MG=>bif !decide (MG.2.1=0) then e (bs []) 0 MG.2.1 else(bB b MG.1).bind fun r28=>bif !decide (r28=0) then e (bs []) 0 r28 else e MG.1 (zW zI (d+sC)) 0 else bif r26=2 then(fP (c.extract d.toNat (zW zI (d+sC)).toNat)).bind fun UY=>bif !UY.2.2 then e (bs []) 0 3 else(bB b UY.1).bind fun r30=>bif !decide (r30=0) then e (bs []) 0 r30 else e UY.1 (zW zI (d+sC)) 0 else(bB b (c.extract d.toNat (zW zI (d+sC)).toNat)).bind fun r31=>bif !decide (r31=0) then e (bs []) 0 r31 else e (c.extract d.toNat (zW zI (d+sC)).toNat) (zW zI (d+sC)) 0 else none else none else none else none else bif r24=2 then bif zW zI ((c.size:Int)-d)<zW zI (2*b.2.2.2.1) then e (bs []) 0 2 else bif 0<=zW zI (d+zW zI (2*b.2.2.2.1)) then bif zW zI (d+zW zI (2*b.2.2.2.1))<=(c.size:Int) then bif 0<=d then bif d<=(((zW zI (d+zW zI (2*b.2.2.2.1))).toNat:Nat):Int) then(jX a b.2.1).bind fun r32=>bif r32=1 then(Q0 (c.extract d.toNat (zW zI (d+zW zI (2*b.2.2.2.1))).toNat) b.2.2.2.1).bind fun MH=>bif !decide (MH.2.1=0) then e (bs []) 0 MH.2.1 else(bB b MH.1).bind fun r34=>bif !decide (r34=0) then e (bs []) 0 r34 else e MH.1 (zW zI (d+zW zI (2*b.2.2.2.1))) 0 else bif r32=2 then(fP (c.extract d.toNat (zW zI (d+zW zI (2*b.2.2.2.1))).toNat)).bind fun UZ=>bif !UZ.2.2 then e (bs []) 0 3 else(bB b UZ.1).bind fun r36=>bif !decide (r36=0) then e (bs []) 0 r36 else e UZ.1 (zW zI (d+zW zI (2*b.2.2.2.1))) 0 else(bB b (c.extract d.toNat (zW zI (d+zW zI (2*b.2.2.2.1))).toNat)).bind fun r37=>bif !decide (r37=0) then e (bs []) 0 r37 else e (c.extract d.toNat (zW zI (d+zW zI (2*b.2.2.2.1))).toNat) (zW zI (d+zW zI (2*b.2.2.2.1))) 0 else none else none else none else none else bif zW zI ((c.size:Int)-d)<b.2.2.2.1 then e (bs []) 0 2 else bif 0<=zW zI (d+b.2.2.2.1) then bif zW zI (d+b.2.2.2.1)<=(c.size:Int) then bif 0<=d then bif d<=(((zW zI (d+b.2.2.2.1)).toNat:Nat):Int) then(jX a b.2.1).bind fun r38=>bif r38=1 then(Q0 (c.extract d.toNat (zW zI (d+b.2.2.2.1)).toNat) b.2.2.2.1).bind fun MI=>bif !decide (MI.2.1=0) then e (bs []) 0 MI.2.1 else(bB b MI.1).bind fun r40=>bif !decide (r40=0) then e (bs []) 0 r40 else e MI.1 (zW zI (d+b.2.2.2.1)) 0 else bif r38=2 then(fP (c.extract d.toNat (zW zI (d+b.2.2.2.1)).toNat)).bind fun U0=>bif !U0.2.2 then e (bs []) 0 3 else(bB b U0.1).bind fun r42=>bif !decide (r42=0) then e (bs []) 0 r42 else e U0.1 (zW zI (d+b.2.2.2.1)) 0 else(bB b (c.extract d.toNat (zW zI (d+b.2.2.2.1)).toNat)).bind fun r43=>bif !decide (r43=0) then e (bs []) 0 r43 else e (c.extract d.toNat (zW zI (d+b.2.2.2.1)).toNat) (zW zI (d+b.2.2.2.1)) 0 else none else none else none else none
def D1(a:Int)(b:aj)(c:ByteArray)(d:Int):Option iA:=
 Ql a b c d (fun a0 a1 a2=>some (a0,a1,a2))
def Qo{R:Type}(a:Int)(b:aj)(c:ByteArray)(d:ByteArray->Int->Option R):Option R:=
 (yJ a).bind fun r1=>bif !r1 then d (bs []) 1 else(bB b c).bind fun r2=>bif !decide (r2=0) then d (bs []) r2 else bif !decide (b.2.2.1=1) then(pk a b.2.2.1 (c.size:Int)).bind fun r3=>(jX a b.2.1).bind fun r4=>bif r4=1 then(Q1 c).bind fun r5=>bif r3.1.size+r5.1.size<=9223372036854775807 then d (r3.1++r5.1) 0 else none else bif r4=2 then(iO c).bind fun r6=>bif r3.1.size+r6.size<=9223372036854775807 then d (r3.1++r6) 0 else none else bif r3.1.size+c.size<=9223372036854775807 then d (r3.1++c) 0 else none else(jX a b.2.1).bind fun r7=>bif r7=1 then(Q1 c).bind fun r8=>bif(bs []).size+r8.1.size<=9223372036854775807 then d (bs []++r8.1) 0 else none else bif r7=2 then(iO c).bind fun r9=>bif(bs []).size+r9.size<=9223372036854775807 then d (bs []++r9) 0 else none else bif(bs []).size+c.size<=9223372036854775807 then d (bs []++c) 0 else none
def yI(a:Int)(b:aj)(c:ByteArray):Option FP:=
 Qo a b c (fun a0 a1=>some (a0,a1))
def QT{R:Type}(a:aP)(b:Int->Int->Option R)(c:aP->Int->Int->gk->Option R):Option R:=
 bif 256<((List.length a):Int) then b 5 256 else c a ((List.length a):Int) 0 []
def AQ{R:Type}(a:aP)(b c:Int)(d:gk)(e:Int->Int->Option R)(f:aP->Int->Int->gk->Option R)(g:Option R):Option R:=
 bif c<b then zd c (List.length a) (bif ea (ff .str) false d (List.getD a c.toNat (bs [],bs [],())).1 then e (10:Int) c else bif eb (ff .str) d (List.getD a c.toNat (bs [],bs [],())).1 then none else f a b (zW zI (c+(1:Int))) (d++ [((List.getD a c.toNat (bs [],bs [],())).1,true)])) else g
def AR{R:Type}(a b:Int)(c:Int->Int->Option R):Option R:=
 c a b
def AU{R:Type}(a:Int->Int->Option R):Option R:=
 a 0 0
def Lx:Nat->aP->Int->Int->gk->Option (Sum (Int×Int) Unit)
 |0,_,_,_,_=>none
 |k+1,v0,v1,v2,v3=>AQ v0 v1 v2 v3 (fun a0 a1=>some (.inl (a0,a1))) (fun a0 a1 a2 a3=>Lx k a0 a1 a2 a3) (some (.inr ()))
def Ee(a:aP):Option (Int×Int):=
 QT a (fun a0 a1=>some (a0,a1)) (fun a0 a1 a2 a3=>(Lx ae a0 a1 a2 a3).bind fun e=>Sum.elim (fun(we:(Int×Int))=>AR we.1 we.2 (fun a0 a1=>some (a0,a1))) (fun(we:Unit)=>AU (fun a0 a1=>some (a0,a1))) e)
def QI{R:Type}(a:aP)(b:ByteArray)(c:ByteArray->aP->Int->Int->Option R):Option R:=
 c b a ((List.length a):Int) 0
def AP{R:Type}(a:ByteArray)(b:aP)(c d:Int)(e:ByteArray->Bool->Option R)(f:ByteArray->aP->Int->Int->Option R)(g:Option R):Option R:=
 bif d<c then zd d (List.length b) (bif(List.getD b d.toNat (bs [],bs [],())).1=a then e (List.getD b d.toNat (bs [],bs [],())).2.1 true else f a b c (zW zI (d+1))) else g
def z116{R:Type}(a:ByteArray)(b:Bool)(c:ByteArray->Bool->Option R):Option R:=
 c a b
def z117{R:Type}(a:ByteArray->Bool->Option R):Option R:=
 a (bs []) false
def Lw:Nat->ByteArray->aP->Int->Int->Option (Sum hJ Unit)
 |0,_,_,_,_=>none
 |k+1,v0,v1,v2,v3=>AP v0 v1 v2 v3 (fun a0 a1=>some (.inl (a0,a1))) (fun a0 a1 a2 a3=>Lw k a0 a1 a2 a3) (some (.inr ()))
def Ed(a:aP)(b:ByteArray):Option hJ:=
 QI a b (fun a0 a1 a2 a3=>(Lw ae a0 a1 a2 a3).bind fun e=>Sum.elim (fun(we:hJ)=>z116 we.1 we.2 (fun a0 a1=>some (a0,a1))) (fun(we:Unit)=>z117 (fun a0 a1=>some (a0,a1))) e)
def RQ{R:Type}(a:(List Int))(b:Int)(c:(List Int)->Int->Int->Option R):Option R:=
 c a b 0
def LI{R:Type}(a:(List Int))(b c:Int)(d:Bool->Option R)(e:(List Int)->Int->Int->Option R)(f:Option R):Option R:=
 bif c<((List.length a):Int) then zd c (List.length a) (bif List.getD a c.toNat 0=b then d true else e a b (zW zI (c+1))) else f
def Bp{R:Type}(a:Bool)(b:Bool->Option R):Option R:=
 b a
def Bq{R:Type}(a:Bool->Option R):Option R:=
 a false
def Cx:Nat->(List Int)->Int->Int->Option (Sum Bool Unit)
 |0,_,_,_=>none
 |k+1,v0,v1,v2=>LI v0 v1 v2 (fun a0=>some (.inl a0)) (fun a0 a1 a2=>Cx k a0 a1 a2) (some (.inr ()))
def tT(a:(List Int))(b:Int):Option Bool:=
 RQ a b (fun a0 a1 a2=>(Cx ae a0 a1 a2).bind fun e=>Sum.elim (fun(we:Bool)=>Bp we (fun a0=>some a0)) (fun(we:Unit)=>Bq (fun a0=>some a0)) e)
def RO{R:Type}(a b:Int)(c:Bool->Option R):Option R:=
 bif 48<=b then bif 65<=b then bif b<=90 then bif a=1 then c (decide (b<=57)) else bif a=2 then c true else bif a=3 then bif b<=57 then c true else c true else bif a=4 then bif 32<=b then c (decide (b<=126)) else c false else bif a=5 then c true else c (decide (a=6)) else bif 97<=b then bif a=1 then c (decide (b<=57)) else bif a=2 then c (decide (b<=122)) else bif a=3 then bif b<=57 then c true else c (decide (b<=122)) else bif a=4 then bif 32<=b then c (decide (b<=126)) else c false else bif a=5 then c true else c (decide (a=6)) else bif a=1 then c (decide (b<=57)) else bif a=2 then c false else bif a=3 then bif b<=57 then c true else c false else bif a=4 then bif 32<=b then c (decide (b<=126)) else c false else bif a=5 then c true else c (decide (a=6)) else bif 97<=b then bif a=1 then c (decide (b<=57)) else bif a=2 then c (decide (b<=122)) else bif a=3 then bif b<=57 then c true else c (decide (b<=122)) else bif a=4 then bif 32<=b then c (decide (b<=126)) else c false else bif a=5 then c true else c (decide (a=6)) else bif a=1 then c (decide (b<=57)) else bif a=2 then c false else bif a=3 then bif b<=57 then c true else c false else bif a=4 then bif 32<=b then c (decide (b<=126)) else c false else bif a=5 then c true else c (decide (a=6)) else bif 65<=b then bif b<=90 then bif a=1 then c false else bif a=2 then c true else bif a=3 then c true else bif a=4 then bif 32<=b then c (decide (b<=126)) else c false else bif a=5 then c true else c (decide (a=6)) else bif 97<=b then bif a=1 then c false else bif a=2 then c (decide (b<=122)) else bif a=3 then c (decide (b<=122)) else bif a=4 then bif 32<=b then c (decide (b<=126)) else c false else bif a=5 then c true else c (decide (a=6)) else bif a=1 then c false else bif a=2 then c false else bif a=3 then c false else bif a=4 then bif 32<=b then c (decide (b<=126)) else c false else bif a=5 then c true else c (decide (a=6)) else bif 97<=b then bif a=1 then c false else bif a=2 then c (decide (b<=122)) else bif a=3 then c (decide (b<=122)) else bif a=4 then bif 32<=b then c (decide (b<=126)) else c false else bif a=5 then c true else c (decide (a=6)) else bif a=1 then c false else bif a=2 then c false else bif a=3 then c false else bif a=4 then bif 32<=b then c (decide (b<=126)) else c false else bif a=5 then c true else c (decide (a=6))
def wD(a b:Int):Option Bool:=
 RO a b (fun a0=>some a0)
def RN{R:Type}(a:Int)(b:ByteArray)(c:Int->ByteArray->Int->Option R):Option R:=
 c a b 0
def LH{R:Type}(a:Int)(b:ByteArray)(c:Int)(d:Int->Option R)(e:Int->ByteArray->Int->Option R)(f:Option R):Option R:=
 bif c<(b.size:Int) then zd c b.size ((wD a (ze b c.toNat)).bind fun r1=>bif !r1 then d c else e a b (zW zI (c+1))) else f
def Bm{R:Type}(a:Int)(b:Int->Option R):Option R:=
 b a
def Bn{R:Type}(a:Int->Option R):Option R:=
 a (-1:Int)
def Cw:Nat->Int->ByteArray->Int->Option (Sum Int Unit)
 |0,_,_,_=>none
 |k+1,v0,v1,v2=>LH v0 v1 v2 (fun a0=>some (.inl a0)) (fun a0 a1 a2=>Cw k a0 a1 a2) (some (.inr ()))
def EB(a:Int)(b:ByteArray):Option Int:=
 RN a b (fun a0 a1 a2=>(Cw ae a0 a1 a2).bind fun e=>Sum.elim (fun(we:Int)=>Bm we (fun a0=>some a0)) (fun(we:Unit)=>Bn (fun a0=>some a0)) e)
def JG{R:Type}(a b:Int)(c:Bool->Option R)(d:Int->Int->Int->Option R):Option R:=
 bif a<1 then c false else bif 6<a then c false else bif b<1 then c false else bif 6<b then c false else d a b 0
def agz{R:Type}(a b c:Int)(d:Bool->Option R)(e:Int->Int->Int->Option R)(f:Option R):Option R:=
 bif c<256 then(wD b (zW zU c)).bind fun r1=>bif r1 then(wD a (zW zU c)).bind fun r2=>bif !r2 then d false else e a b (zW zI (c+1)) else e a b (zW zI (c+1)) else f
def agA{R:Type}(a:Bool)(b:Bool->Option R):Option R:=
 b a
def agB{R:Type}(a:Bool->Option R):Option R:=
 a true
def JF:Nat->Int->Int->Int->Option (Sum Bool Unit)
 |0,_,_,_=>none
 |k+1,v0,v1,v2=>agz v0 v1 v2 (fun a0=>some (.inl a0)) (fun a0 a1 a2=>JF k a0 a1 a2) (some (.inr ()))
def Md(a b:Int):Option Bool:=
 JG a b (fun a0=>some a0) (fun a0 a1 a2=>(JF ae a0 a1 a2).bind fun e=>Sum.elim (fun(we:Bool)=>agA we (fun a0=>some a0)) (fun(we:Unit)=>agB (fun a0=>some a0)) e)
def Bs{R:Type}(a:Int)(b:Int->Option R):Option R:=
 bif a=0 then b 0 else bif Int.tmod (zW zU (Int.tdiv a 32)) 2=1 then b 0 else bif Int.tmod a 32=31 then b 2 else b 1
def wH(a:Int):Option Int:=
 Bs a (fun a0=>some a0)
def LQ{R:Type}(a:ByteArray)(b:Int)(c:Int->Int->Int->Option R):Option R:=
 bif b<0 then c 0 0 1 else bif(a.size:Int)<b then c 0 0 1 else bif b=(a.size:Int) then c 0 0 2 else zd b a.size ((wH (ze a b.toNat)).bind fun r1=>bif r1=0 then c 0 0 13 else bif r1=1 then zd b a.size (c (zW zI (ze a b.toNat)) (zW zI (b+1)) 0) else bif zW zI ((a.size:Int)-b)<2 then c 0 0 2 else zd (zW zI (b+1)) a.size (bif ze a (zW zI (b+(1:Int))).toNat=0 then c 0 0 13 else zd (zW zI (b+1)) a.size (bif 127<ze a (zW zI (b+(1:Int))).toNat then c 0 0 13 else zd b a.size (zd (zW zI (b+1)) a.size (c (zW zI (zW zI (256*zW zI (ze a b.toNat))+zW zI (ze a (zW zI (b+(1:Int))).toNat))) (zW zI (b+2)) 0)))))
def wI(a:ByteArray)(b:Int):Option lJ:=
 LQ a b (fun a0 a1 a2=>some (a0,a1,a2))
def LR{R:Type}(a:ByteArray)(b:Int)(c:Int->Int->Int->Option R):Option R:=
 bif b<0 then c 0 0 1 else bif(a.size:Int)<b then c 0 0 1 else bif b=(a.size:Int) then c 0 0 2 else zd b a.size (bif zW zI (ze a b.toNat)<128 then c (zW zI (ze a b.toNat)) (zW zI (b+1)) 0 else bif !decide (zW zI (ze a b.toNat)=129) then bif !decide (zW zI (ze a b.toNat)=130) then c 0 0 14 else bif zW zI ((a.size:Int)-b)<zW zI (zW zI (ze a b.toNat)-127) then c 0 0 2 else bif zW zI (ze a b.toNat)=129 then zd (zW zI (b+1)) a.size (bif ze a (zW zI (b+(1:Int))).toNat<128 then c 0 0 14 else zd (zW zI (b+1)) a.size (c (zW zI (ze a (zW zI (b+(1:Int))).toNat)) (zW zI (b+2)) 0)) else zd (zW zI (b+1)) a.size (bif ze a (zW zI (b+(1:Int))).toNat=0 then c 0 0 14 else zd (zW zI (b+1)) a.size (zd (zW zI (b+2)) a.size (c (zW zI (zW zI (256*zW zI (ze a (zW zI (b+(1:Int))).toNat))+zW zI (ze a (zW zI (b+(2:Int))).toNat))) (zW zI (b+3)) 0))) else bif zW zI ((a.size:Int)-b)<zW zI (zW zI (ze a b.toNat)-127) then c 0 0 2 else bif zW zI (ze a b.toNat)=129 then zd (zW zI (b+1)) a.size (bif ze a (zW zI (b+(1:Int))).toNat<128 then c 0 0 14 else zd (zW zI (b+1)) a.size (c (zW zI (ze a (zW zI (b+(1:Int))).toNat)) (zW zI (b+2)) 0)) else zd (zW zI (b+1)) a.size (bif ze a (zW zI (b+(1:Int))).toNat=0 then c 0 0 14 else zd (zW zI (b+1)) a.size (zd (zW zI (b+2)) a.size (c (zW zI (zW zI (256*zW zI (ze a (zW zI (b+(1:Int))).toNat))+zW zI (ze a (zW zI (b+(2:Int))).toNat))) (zW zI (b+3)) 0))))
def wJ(a:ByteArray)(b:Int):Option lJ:=
 LR a b (fun a0 a1 a2=>some (a0,a1,a2))
def R7{R:Type}(a:ar)(b c:Int)(d:ar->Int->Int->Int->Option R):Option R:=
 d a b c 0
def LV{R:Type}(a:ar)(b c d:Int)(e:Bool->Option R)(f:ar->Int->Int->Int->Option R)(g:Option R):Option R:=
 bif d<b then zd d (List.length a) (bif(List.getD a d.toNat (0,bs [],())).1=c then e true else f a b c (zW zI (d+1))) else g
def BA{R:Type}(a:Bool)(b:Bool->Option R):Option R:=
 b a
def BB{R:Type}(a:Bool->Option R):Option R:=
 a false
def CB:Nat->ar->Int->Int->Int->Option (Sum Bool Unit)
 |0,_,_,_,_=>none
 |k+1,v0,v1,v2,v3=>LV v0 v1 v2 v3 (fun a0=>some (.inl a0)) (fun a0 a1 a2 a3=>CB k a0 a1 a2 a3) (some (.inr ()))
def EO(a:ar)(b c:Int):Option Bool:=
 R7 a b c (fun a0 a1 a2 a3=>(CB ae a0 a1 a2 a3).bind fun e=>Sum.elim (fun(we:Bool)=>BA we (fun a0=>some a0)) (fun(we:Unit)=>BB (fun a0=>some a0)) e)
def LS{R:Type}(a:ByteArray)(b:ByteArray->ar->Int->Option R):Option R:=
 b a [] 0
def LU{R:Type}(a:ByteArray)(b:ar)(c:Int)(d:ar->Int->Int->ar->Option R)(e:ByteArray->ar->Int->Option R)(f:ar->Option R):Option R:=
 bif c<(a.size:Int) then(wI a c).bind fun r1=>bif !decide (r1.2.2=0) then d [] r1.2.2 c b else(wJ a r1.2.1).bind fun r2=>bif !decide (r2.2.2=0) then d [] r2.2.2 r1.2.1 b else bif zW zI ((a.size:Int)-r2.2.1)<r2.1 then d [] 2 (a.size:Int) b else(EO b ((List.length b):Int) r1.1).bind fun r3=>bif r3 then d [] 10 c b else bif 0<=zW zI (r2.2.1+r2.1) then bif zW zI (r2.2.1+r2.1)<=(a.size:Int) then bif 0<=r2.2.1 then bif r2.2.1<=(((zW zI (r2.2.1+r2.1)).toNat:Nat):Int) then bif(List.length b+List.length ([(r1.1,a.extract r2.2.1.toNat (zW zI (r2.2.1+r2.1)).toNat,())]:List cK))*24<=140737488355328 then e a (b++([(r1.1,a.extract r2.2.1.toNat (zW zI (r2.2.1+r2.1)).toNat,())]:List cK)) (zW zI (r2.2.1+r2.1)) else none else none else none else none else none else f b
def Bv{R:Type}(a:ar)(b c:Int)(d:ar)(e:ar->Int->Int->Option R):Option R:=
 e a b c
def Bw{R:Type}(a:ar)(b:ar->Int->Int->Option R):Option R:=
 b a 0 0
def yy:Nat->ByteArray->ar->Int->Option (Sum pC ar)
 |0,_,_,_=>none
 |k+1,v0,v1,v2=>LU v0 v1 v2 (fun a0 a1 a2 a3=>some (.inl (a0,a1,a2,a3))) (fun a0 a1 a2=>yy k a0 a1 a2) (fun a0=>some (.inr a0))
def wK(a:ByteArray):Option (Sum iy iy):=
 LS a (fun a0 a1 a2=>(yy ae a0 a1 a2).bind fun e=>Sum.elim (fun(we:pC)=>Bv we.1 we.2.1 we.2.2.1 we.2.2.2 (fun a0 a1 a2=>some (.inl (a0,a1,a2)))) (fun(we:ar)=>Bw we (fun a0 a1 a2=>some (.inr (a0,a1,a2)))) e)
def R8{R:Type}(a:aj)(b:Int->Option R):Option R:=
 bif a.1<2 then b 1 else bif 128<a.1 then b 1 else bif a.2.1<1 then b 6 else bif 6<a.2.1 then b 6 else bif a.2.2.1<1 then b 3 else bif 3<a.2.2.1 then b 3 else bif a.2.2.1=2 then bif a.2.2.2.1<1 then b 5 else bif a.2.2.2.2.1<a.2.2.2.1 then b 5 else bif 99<a.2.2.2.2.1 then b 5 else bif a.2.2.1=1 then bif !decide (a.2.2.2.1=a.2.2.2.2.1) then b 5 else bif a.2.2.1=1 then bif a.2.1=6 then b 13 else b 0 else b 0 else bif a.2.2.1=1 then bif a.2.1=6 then b 13 else b 0 else b 0 else bif a.2.2.2.1<1 then b 5 else bif a.2.2.2.2.1<a.2.2.2.1 then b 5 else bif 999<a.2.2.2.2.1 then b 5 else bif a.2.2.1=1 then bif !decide (a.2.2.2.1=a.2.2.2.2.1) then b 5 else bif a.2.2.1=1 then bif a.2.1=6 then b 13 else b 0 else b 0 else bif a.2.2.1=1 then bif a.2.1=6 then b 13 else b 0 else b 0
def sY(a:aj):Option Int:=
 R8 a (fun a0=>some a0)
def DI{R:Type}(a:aj)(b:ByteArray)(c:Int->Option R):Option R:=
 (sY a).bind fun r1=>bif !decide (r1=0) then c 1 else bif(b.size:Int)<a.2.2.2.1 then c 5 else bif a.2.2.2.2.1<(b.size:Int) then c 5 else(EB a.2.1 b).bind fun r2=>bif 0<=r2 then c 6 else bif a.2.1=6 then(wK b).bind fun r3=>Sum.elim (fun(AH:iy)=>bif !decide (AH.2.1=0) then c 13 else c 0) (fun(AH:iy)=>bif !decide (AH.2.1=0) then c 13 else c 0) r3 else c 0
def lF(a:aj)(b:ByteArray):Option Int:=
 DI a b (fun a0=>some a0)
def R9{R:Type}(a b:aj)(c:Bool->Option R):Option R:=
 (sY a).bind fun r1=>bif !decide (r1=0) then c false else(sY b).bind fun r2=>bif !decide (r2=0) then c false else bif b.2.2.2.1<a.2.2.2.1 then c false else bif a.2.2.2.2.1<b.2.2.2.2.1 then c false else bif a.2.1=5 then c true else bif a.2.1=6 then c (decide (a.2.1=b.2.1)) else bif b.2.1=6 then c (decide (a.2.1=b.2.1)) else(Md a.2.1 b.2.1).bind fun r3=>c r3
def yR(a b:aj):Option Bool:=
 R9 a b (fun a0=>some a0)
def NC{R:Type}(a:ai)(b:Int)(c:Int->Int->ai->Option R):Option R:=
 c b 0 a
def ztv{R:Type}(a b:Int)(c:ai)(d:Int->Option R)(e:Int->Int->ai->Option R)(f:Option R):Option R:=
 bif b<((List.length c.2.2.1):Int) then zd b (List.length c.2.2.1) (bif(List.getD c.2.2.1 b.toNat (0,0,0,0,0,())).1=a then d b else e a (zW zI (b+1)) c) else f
def ztw{R:Type}(a:Int)(b:Int->Option R):Option R:=
 b a
def ztx{R:Type}(a:Int->Option R):Option R:=
 a (-1:Int)
def KK:Nat->Int->Int->ai->Option (Sum Int Unit)
 |0,_,_,_=>none
 |k+1,v0,v1,v2=>ztv v0 v1 v2 (fun a0=>some (.inl a0)) (fun a0 a1 a2=>KK k a0 a1 a2) (some (.inr ()))
def mK(a:ai)(b:Int):Option Int:=
 NC a b (fun a0 a1 a2=>(KK ae a0 a1 a2).bind fun e=>Sum.elim (fun(we:Int)=>ztw we (fun a0=>some a0)) (fun(we:Unit)=>ztx (fun a0=>some a0)) e)
def De{R:Type}(a:ai)(b:Int->Int->Option R)(c:Int->Int->ai->Option R):Option R:=
 bif !decide (a.1=1) then bif !decide (a.1=2) then b 1 (-1:Int) else bif a.2.1<0 then b 7 (-1:Int) else bif 9<a.2.1 then b 7 (-1:Int) else c 0 0 a else bif a.2.1<0 then b 7 (-1:Int) else bif 9<a.2.1 then b 7 (-1:Int) else c 0 0 a
theorem Vq{R S:Type}(F:R->Option S)(a)(b)(c):(De a b c).bind F=De a (fun a0 a1=>(b a0 a1).bind F) (fun a0 a1 a2=>(c a0 a1 a2).bind F):=by
 simp only[De,ax]
def KJ{R:Type}(a b:Int)(c:ai)(d:Int->Int->Option R)(e:Int->Int->ai->Option R)(f:Option R):Option R:=
 bif b<((List.length c.2.2.1):Int) then zd b (List.length c.2.2.1) ((sY (List.getD c.2.2.1 b.toNat (0,0,0,0,0,()))).bind fun r1=>bif !decide (r1=0) then d r1 b else zd b (List.length c.2.2.1) (bif(List.getD c.2.2.1 b.toNat (0,0,0,0,0,())).1<=a then d 11 b else zd b (List.length c.2.2.1) (e (List.getD c.2.2.1 b.toNat (0,0,0,0,0,())).1 (zW zI (b+1)) c))) else f
def Nz{R:Type}(a b:Int)(c:Int->Int->Option R):Option R:=
 c a b
def NA{R:Type}(a:Int->Int->Option R):Option R:=
 a 0 0
def vK:Nat->Int->Int->ai->Option (Sum (Int×Int) Unit)
 |0,_,_,_=>none
 |k+1,v0,v1,v2=>KJ v0 v1 v2 (fun a0 a1=>some (.inl (a0,a1))) (fun a0 a1 a2=>vK k a0 a1 a2) (some (.inr ()))
def qx(a:ai):Option (Int×Int):=
 De a (fun a0 a1=>some (a0,a1)) (fun a0 a1 a2=>(vK ae a0 a1 a2).bind fun e=>Sum.elim (fun(we:(Int×Int))=>Nz we.1 we.2 (fun a0 a1=>some (a0,a1))) (fun(we:Unit)=>NA (fun a0 a1=>some (a0,a1))) e)
def ND{R:Type}(a:ai)(b:Bool->Option R):Option R:=
 (qx a).bind fun r1=>b (decide (r1.1=0))
def pa(a:ai):Option Bool:=
 ND a (fun a0=>some a0)
def zu2{R:Type}(a:uK->Option R):Option R:=
 a ([([2,1,2,12,19,1,2,12,19]:List Int),([3,1,1,6,6,1,1,6,6]:List Int),([4,1,1,12,12,1,1,12,12]:List Int),([7,1,1,10,10,1,1,10,10]:List Int),([11,1,1,6,6,1,1,6,6]:List Int),([12,1,1,6,6,1,1,12,12]:List Int),([13,1,1,4,4,0,0,0,0]:List Int),([14,1,1,4,4,1,1,4,4]:List Int),([18,1,1,4,4,0,0,0,0]:List Int),([22,1,1,3,3,3,1,12,12]:List Int),([23,1,1,3,3,1,1,3,3]:List Int),([26,0,0,0,0,1,1,4,4]:List Int),([32,1,2,1,11,1,2,1,11]:List Int),([35,4,2,1,37,4,2,1,37]:List Int),([37,3,1,12,12,3,1,12,12]:List Int),([38,3,1,6,6,3,1,6,6]:List Int),([39,3,1,2,2,1,1,3,3]:List Int),([41,4,1,8,8,4,1,8,8]:List Int),([42,4,1,15,15,4,1,15,15]:List Int),([43,4,1,40,40,4,2,1,99]:List Int),([48,4,3,1,999,4,3,1,999]:List Int),([49,1,1,3,3,1,1,3,3]:List Int),([52,5,1,8,8,5,1,8,8]:List Int),([55,6,3,1,255,6,3,1,255]:List Int),([64,5,1,8,8,5,1,8,8]:List Int),([70,1,1,3,3,1,1,3,3]:List Int),([90,1,1,42,42,0,0,0,0]:List Int),([102,4,2,1,28,4,2,1,28]:List Int),([128,5,1,8,8,5,1,8,8]:List Int)]:List (List Int))
def yH:Option uK:=
 zu2 (fun a0=>some a0)
def ztz{R:Type}(a:Int)(b:Int->uK->Int->ai->ai->Option R):Option R:=
 yH.bind fun r1=>b a r1 0 (0,0,[],()) (zW zI (a+1),a,[],())
def zu0{R:Type}(a:Int)(b:uK)(c:Int)(d e:ai)(f:Int->uK->Int->ai->ai->Option R)(g:ai->ai->Option R):Option R:=
 bif c<((List.length b):Int) then zd c (List.length b) (bif 0<=zW zI (5+zW zI (4*a)) then bif zW zI (5+zW zI (4*a))<=(((List.length (List.getD b c.toNat ([]:List Int))):Nat):Int) then bif 0<=zW zI (1+zW zI (4*a)) then bif zW zI (1+zW zI (4*a))<=(((zW zI (5+zW zI (4*a))).toNat:Nat):Int) then zd 0 (List.length (List.drop (zW zI ((1:Int)+zW zI ((4:Int)*a))).toNat (List.take (zW zI ((5:Int)+zW zI ((4:Int)*a))).toNat (List.getD b c.toNat ([]:List Int))))) (bif 0<List.getD (List.drop (zW zI (1+zW zI (4*a))).toNat (List.take (zW zI (5+zW zI (4*a))).toNat (List.getD b c.toNat []))) ((0:Int)).toNat 0 then zd c (List.length b) (zd 0 (List.length (List.getD b c.toNat ([]:List Int))) (zd 0 (List.length (List.drop (zW zI ((1:Int)+zW zI ((4:Int)*a))).toNat (List.take (zW zI ((5:Int)+zW zI ((4:Int)*a))).toNat (List.getD b c.toNat ([]:List Int))))) (zd 1 (List.length (List.drop (zW zI ((1:Int)+zW zI ((4:Int)*a))).toNat (List.take (zW zI ((5:Int)+zW zI ((4:Int)*a))).toNat (List.getD b c.toNat ([]:List Int))))) (zd 2 (List.length (List.drop (zW zI ((1:Int)+zW zI ((4:Int)*a))).toNat (List.take (zW zI ((5:Int)+zW zI ((4:Int)*a))).toNat (List.getD b c.toNat ([]:List Int))))) (zd 3 (List.length (List.drop (zW zI ((1:Int)+zW zI ((4:Int)*a))).toNat (List.take (zW zI ((5:Int)+zW zI ((4:Int)*a))).toNat (List.getD b c.toNat ([]:List Int))))) (bif(List.length e.2.2.1+List.length ([(List.getD (List.getD b c.toNat ([]:List Int)) ((0:Int)).toNat (0:Int),List.getD (List.drop (zW zI ((1:Int)+zW zI ((4:Int)*a))).toNat (List.take (zW zI ((5:Int)+zW zI ((4:Int)*a))).toNat (List.getD b c.toNat ([]:List Int)))) ((0:Int)).toNat (0:Int),List.getD (List.drop (zW zI ((1:Int)+zW zI ((4:Int)*a))).toNat (List.take (zW zI ((5:Int)+zW zI ((4:Int)*a))).toNat (List.getD b c.toNat ([]:List Int)))) ((1:Int)).toNat (0:Int),List.getD (List.drop (zW zI ((1:Int)+zW zI ((4:Int)*a))).toNat (List.take (zW zI ((5:Int)+zW zI ((4:Int)*a))).toNat (List.getD b c.toNat ([]:List Int)))) ((2:Int)).toNat (0:Int),List.getD (List.drop (zW zI ((1:Int)+zW zI ((4:Int)*a))).toNat (List.take (zW zI ((5:Int)+zW zI ((4:Int)*a))).toNat (List.getD b c.toNat ([]:List Int)))) ((3:Int)).toNat (0:Int),())]:List aj))*40<=140737488355328 then f a b (zW zI (c+1)) d (e.1,e.2.1,e.2.2.1++([(List.getD (List.getD b c.toNat []) ((0:Int)).toNat 0,List.getD (List.drop (zW zI (1+zW zI (4*a))).toNat (List.take (zW zI (5+zW zI (4*a))).toNat (List.getD b c.toNat []))) ((0:Int)).toNat 0,List.getD (List.drop (zW zI (1+zW zI (4*a))).toNat (List.take (zW zI (5+zW zI (4*a))).toNat (List.getD b c.toNat []))) ((1:Int)).toNat 0,List.getD (List.drop (zW zI (1+zW zI (4*a))).toNat (List.take (zW zI (5+zW zI (4*a))).toNat (List.getD b c.toNat []))) ((2:Int)).toNat 0,List.getD (List.drop (zW zI (1+zW zI (4*a))).toNat (List.take (zW zI (5+zW zI (4*a))).toNat (List.getD b c.toNat []))) ((3:Int)).toNat 0,())]:List aj),()) else none)))))) else f a b (zW zI (c+1)) d e) else none else none else none else none) else g d e
def zu1{R:Type}(a b:ai)(c:ai->Option R):Option R:=
 c b
def NF:Nat->Int->uK->Int->ai->ai->Option (ai×ai)
 |0,_,_,_,_,_=>none
 |k+1,v0,v1,v2,v3,v4=>zu0 v0 v1 v2 v3 v4 (fun a0 a1 a2 a3 a4=>NF k a0 a1 a2 a3 a4) (fun a0 a1=>some (a0,a1))
def tG(a:Int):Option ai:=
 ztz a (fun a0 a1 a2 a3 a4=>(NF ae a0 a1 a2 a3 a4).bind fun e=>zu1 e.1 e.2 (fun a0=>some a0))
def zty{R:Type}(a:(List Int)->Option R):Option R:=
 a ([2,3,4,7,11,12,14,23,32,35,37,38,41,42,49,52,55,64,70,102,128]:List Int)
def yG:Option (List Int):=
 zty (fun a0=>some a0)
def O1{R:Type}(a:ai)(b:Int)(c:Int->fQ->Int->Int->aj->Option R):Option R:=
 c b a.2.2.1 ((List.length a.2.2.1):Int) 0 (0,0,0,0,0,())
def zw6{R:Type}(a:Int)(b:fQ)(c d:Int)(e:aj)(f:Bool->aj->Option R)(g:Int->fQ->Int->Int->aj->Option R)(h:aj->Option R):Option R:=
 bif d<c then zd d (List.length b) (bif(List.getD b d.toNat (0,0,0,0,0,())).1=a then f true (List.getD b d.toNat (0,0,0,0,0,())) else g a b c (zW zI (d+1)) e) else h e
def zw7{R:Type}(a:Bool)(b:aj)(c:aj->Bool->Option R):Option R:=
 c b a
def zw8{R:Type}(a:aj)(b:aj->Bool->Option R):Option R:=
 b (0,0,0,0,0,()) false
def K8:Nat->Int->fQ->Int->Int->aj->Option (Sum (Bool×aj) aj)
 |0,_,_,_,_,_=>none
 |k+1,v0,v1,v2,v3,v4=>zw6 v0 v1 v2 v3 v4 (fun a0 a1=>some (.inl (a0,a1))) (fun a0 a1 a2 a3 a4=>K8 k a0 a1 a2 a3 a4) (fun a0=>some (.inr a0))
def eP(a:ai)(b:Int):Option (aj×Bool):=
 O1 a b (fun a0 a1 a2 a3 a4=>(K8 ae a0 a1 a2 a3 a4).bind fun e=>Sum.elim (fun(we:(Bool×aj))=>zw7 we.1 we.2 (fun a0 a1=>some (a0,a1))) (fun(we:aj)=>zw8 we (fun a0 a1=>some (a0,a1))) e)
def Di{R:Type}(a:ai)(b:Int->Int->Option R)(c:fQ->Int->Int->ai->Option R):Option R:=
 bif !decide (a.1=1) then bif !decide (a.1=2) then b 1 (-1:Int) else bif a.2.1<0 then b 7 (-1:Int) else bif 9<a.2.1 then b 7 (-1:Int) else c a.2.2.1 ((List.length a.2.2.1):Int) 0 a else bif a.2.1<0 then b 7 (-1:Int) else bif 9<a.2.1 then b 7 (-1:Int) else c a.2.2.1 ((List.length a.2.2.1):Int) 0 a
theorem Vs{R S:Type}(F:R->Option S)(a)(b)(c):(Di a b c).bind F=Di a (fun a0 a1=>(b a0 a1).bind F) (fun a0 a1 a2 a3=>(c a0 a1 a2 a3).bind F):=by
 simp only[Di,ax]
def K7{R:Type}(a:fQ)(b c:Int)(d:ai)(e:Int->Int->Option R)(f:fQ->Int->Int->ai->Option R)(g:Option R):Option R:=
 bif c<b then zd c (List.length a) ((kB (List.getD a c.toNat (0,0,0,0,0,()))).bind fun r1=>bif !decide (r1=0) then e r1 c else bif 0<c then zd (zW zI (c-1)) (List.length d.2.2.1) (bif(List.getD a c.toNat (0,0,0,0,0,())).1<=(List.getD d.2.2.1 (zW zI (c-(1:Int))).toNat (0,0,0,0,0,())).1 then e 11 c else f a b (zW zI (c+1)) d) else f a b (zW zI (c+1)) d) else g
def OY{R:Type}(a b:Int)(c:Int->Int->Option R):Option R:=
 c a b
def OZ{R:Type}(a:Int->Int->Option R):Option R:=
 a 0 0
def yn:Nat->fQ->Int->Int->ai->Option (Sum (Int×Int) Unit)
 |0,_,_,_,_=>none
 |k+1,v0,v1,v2,v3=>K7 v0 v1 v2 v3 (fun a0 a1=>some (.inl (a0,a1))) (fun a0 a1 a2 a3=>yn k a0 a1 a2 a3) (some (.inr ()))
def lC(a:ai):Option (Int×Int):=
 Di a (fun a0 a1=>some (a0,a1)) (fun a0 a1 a2 a3=>(yn ae a0 a1 a2 a3).bind fun e=>Sum.elim (fun(we:(Int×Int))=>OY we.1 we.2 (fun a0 a1=>some (a0,a1))) (fun(we:Unit)=>OZ (fun a0 a1=>some (a0,a1))) e)
def Ru{R:Type}(a:Int)(b:Bool->Option R):Option R:=
 bif 48<=a then b (decide (a<=57)) else b false
def Ey(a:Int):Option Bool:=
 Ru a (fun a0=>some a0)
def Rs{R:Type}(a:ByteArray)(b:ByteArray->Int->Option R):Option R:=
 b a 0
def Rt{R:Type}(a:ByteArray)(b:Int)(c:Bool->Option R)(d:ByteArray->Int->Option R)(e:Option R):Option R:=
 bif b<(a.size:Int) then zd b a.size ((Ey (ze a b.toNat)).bind fun r1=>bif !r1 then c false else d a (zW zI (b+1))) else e
def A5{R:Type}(a:Bool)(b:Bool->Option R):Option R:=
 b a
def A6{R:Type}(a:Bool->Option R):Option R:=
 a true
def DB:Nat->ByteArray->Int->Option (Sum Bool Unit)
 |0,_,_=>none
 |k+1,v0,v1=>Rt v0 v1 (fun a0=>some (.inl a0)) (fun a0 a1=>DB k a0 a1) (some (.inr ()))
def yO(a:ByteArray):Option Bool:=
 Rs a (fun a0 a1=>(DB ae a0 a1).bind fun e=>Sum.elim (fun(we:Bool)=>A5 we (fun a0=>some a0)) (fun(we:Unit)=>A6 (fun a0=>some a0)) e)
def Rw{R:Type}(a:ByteArray)(b:Int->Bool->Option R)(c:ByteArray->Int->Int->Option R):Option R:=
 bif(a.size:Int)<1 then b 0 false else bif 18<(a.size:Int) then b 0 false else(yO a).bind fun r1=>bif !r1 then b 0 false else c a 0 0
def Rx{R:Type}(a:ByteArray)(b c:Int)(d:ByteArray->Int->Int->Option R)(e:Int->Option R):Option R:=
 bif c<(a.size:Int) then zd c a.size (d a (zW zI (zW zI (zW zI (10*b)+zW zI (ze a c.toNat))-48)) (zW zI (c+1))) else e b
def A7{R:Type}(a:Int)(b:Int->Bool->Option R):Option R:=
 b a true
def DC:Nat->ByteArray->Int->Int->Option Int
 |0,_,_,_=>none
 |k+1,v0,v1,v2=>Rx v0 v1 v2 (fun a0 a1 a2=>DC k a0 a1 a2) (fun a0=>some a0)
def qa(a:ByteArray):Option (Int×Bool):=
 Rw a (fun a0 a1=>some (a0,a1)) (fun a0 a1 a2=>(DC ae a0 a1 a2).bind fun e=>A7 e (fun a0 a1=>some (a0,a1)))
def Rz{R:Type}(a b:Int)(c:ByteArray->Bool->Option R)(d:Int->Int->ByteArray->Int->Option R):Option R:=
 bif a<0 then c (bs []) false else bif b<1 then c (bs []) false else bif 18<b then c (bs []) false else d a b (bs []) 0
def LB{R:Type}(a b:Int)(c:ByteArray)(d:Int)(e:Int->Int->ByteArray->Int->Option R)(f:Int->ByteArray->Option R):Option R:=
 bif d<b then bif(strOf ([(zW zU (zW zI (48+Int.tmod a 10)))]:List Int)).size+c.size<=9223372036854775807 then e (zW zI (Int.tdiv a 10)) b (strOf ([(zW zU (zW zI (48+Int.tmod a 10)))]:List Int)++c) (zW zI (d+1)) else none else f a c
def RA{R:Type}(a:Int)(b:ByteArray)(c:ByteArray->Bool->Option R):Option R:=
 bif !decide (a=0) then c (bs []) false else c b true
def Cq:Nat->Int->Int->ByteArray->Int->Option Sy
 |0,_,_,_,_=>none
 |k+1,v0,v1,v2,v3=>LB v0 v1 v2 v3 (fun a0 a1 a2 a3=>Cq k a0 a1 a2 a3) (fun a0 a1=>some (a0,a1))
def CI(a b:Int):Option hJ:=
 Rz a b (fun a0 a1=>some (a0,a1)) (fun a0 a1 a2 a3=>(Cq ae a0 a1 a2 a3).bind fun e=>RA e.1 e.2 (fun a0 a1=>some (a0,a1)))
def NG{R:Type}(a:ByteArray)(b:Bool->Option R):Option R:=
 bif(a.size:Int)=4 then(yO a).bind fun r1=>b r1 else b false
def jK(a:ByteArray):Option Bool:=
 NG a (fun a0=>some a0)
def RK{R:Type}(a:ByteArray)(b:Int)(c:ByteArray->Int->Int->Option R)(d:ByteArray->Int->ByteArray->Int->Option R):Option R:=
 bif b<0 then c (bs []) 1 0 else bif 999<b then c (bs []) 1 0 else bif(a.size:Int)<zW zI (Int.tdiv (zW zI (b+1)) 2) then c (bs []) 2 (a.size:Int) else d a (zW zI (Int.tdiv (zW zI (b+1)) 2)) (bs []) (zW zI (zW zI (2*zW zI (Int.tdiv (zW zI (b+1)) 2))-b))
def Cv{R:Type}(a:ByteArray)(b:Int)(c:ByteArray)(d:Int)(e:ByteArray->Int->Int->ByteArray->Option R)(f:ByteArray->Int->ByteArray->Int->Option R)(g:ByteArray->Option R):Option R:=
 bif d<zW zI (2*b) then bif d=1 then bif c=bs [] then zd 0 a.size (bif !decide (zW zU (Int.tdiv (ze a ((0:Int)).toNat) 16)=0) then e (bs []) 4 0 c else zd (zW zI (Int.tdiv d 2)) a.size (bif Int.tmod d 2=1 then zd (zW zI (Int.tdiv d 2)) a.size (bif 9<Int.tmod (ze a (zW zI (Int.tdiv d (2:Int))).toNat) 16 then e (bs []) 3 (zW zI (Int.tdiv d 2)) c else bif c.size+(strOf ([(zW zU (48+Int.tmod (ze a (zW zI (Int.tdiv d (2:Int))).toNat) 16))]:List Int)).size<=9223372036854775807 then f a b (c++strOf ([(zW zU (48+Int.tmod (ze a (zW zI (Int.tdiv d (2:Int))).toNat) 16))]:List Int)) (zW zI (d+1)) else none) else bif 9<zW zU (Int.tdiv (ze a (zW zI (Int.tdiv d (2:Int))).toNat) 16) then e (bs []) 3 (zW zI (Int.tdiv d 2)) c else bif c.size+(strOf ([(zW zU (48+zW zU (Int.tdiv (ze a (zW zI (Int.tdiv d (2:Int))).toNat) 16)))]:List Int)).size<=9223372036854775807 then f a b (c++strOf ([(zW zU (48+zW zU (Int.tdiv (ze a (zW zI (Int.tdiv d (2:Int))).toNat) 16)))]:List Int)) (zW zI (d+1)) else none)) else zd (zW zI (Int.tdiv d 2)) a.size (bif Int.tmod d 2=1 then zd (zW zI (Int.tdiv d 2)) a.size (bif 9<Int.tmod (ze a (zW zI (Int.tdiv d (2:Int))).toNat) 16 then e (bs []) 3 (zW zI (Int.tdiv d 2)) c else bif c.size+(strOf ([(zW zU (48+Int.tmod (ze a (zW zI (Int.tdiv d (2:Int))).toNat) 16))]:List Int)).size<=9223372036854775807 then f a b (c++strOf ([(zW zU (48+Int.tmod (ze a (zW zI (Int.tdiv d (2:Int))).toNat) 16))]:List Int)) (zW zI (d+1)) else none) else bif 9<zW zU (Int.tdiv (ze a (zW zI (Int.tdiv d (2:Int))).toNat) 16) then e (bs []) 3 (zW zI (Int.tdiv d 2)) c else bif c.size+(strOf ([(zW zU (48+zW zU (Int.tdiv (ze a (zW zI (Int.tdiv d (2:Int))).toNat) 16)))]:List Int)).size<=9223372036854775807 then f a b (c++strOf ([(zW zU (48+zW zU (Int.tdiv (ze a (zW zI (Int.tdiv d (2:Int))).toNat) 16)))]:List Int)) (zW zI (d+1)) else none) else zd (zW zI (Int.tdiv d 2)) a.size (bif Int.tmod d 2=1 then zd (zW zI (Int.tdiv d 2)) a.size (bif 9<Int.tmod (ze a (zW zI (Int.tdiv d (2:Int))).toNat) 16 then e (bs []) 3 (zW zI (Int.tdiv d 2)) c else bif c.size+(strOf ([(zW zU (48+Int.tmod (ze a (zW zI (Int.tdiv d (2:Int))).toNat) 16))]:List Int)).size<=9223372036854775807 then f a b (c++strOf ([(zW zU (48+Int.tmod (ze a (zW zI (Int.tdiv d (2:Int))).toNat) 16))]:List Int)) (zW zI (d+1)) else none) else bif 9<zW zU (Int.tdiv (ze a (zW zI (Int.tdiv d (2:Int))).toNat) 16) then e (bs []) 3 (zW zI (Int.tdiv d 2)) c else bif c.size+(strOf ([(zW zU (48+zW zU (Int.tdiv (ze a (zW zI (Int.tdiv d (2:Int))).toNat) 16)))]:List Int)).size<=9223372036854775807 then f a b (c++strOf ([(zW zU (48+zW zU (Int.tdiv (ze a (zW zI (Int.tdiv d (2:Int))).toNat) 16)))]:List Int)) (zW zI (d+1)) else none) else g c
def Bj{R:Type}(a:ByteArray)(b c:Int)(d:ByteArray)(e:ByteArray->Int->Int->Option R):Option R:=
 e a b c
def LG{R:Type}(a:ByteArray)(b:ByteArray->Int->Int->Option R):Option R:=
 b a 0 0
def z31:Nat->ByteArray->Int->ByteArray->Int->Option (Sum (ByteArray×Int×Int×ByteArray) ByteArray)
 |0,_,_,_,_=>none
 |k+1,v0,v1,v2,v3=>Cv v0 v1 v2 v3 (fun a0 a1 a2 a3=>some (.inl (a0,a1,a2,a3))) (fun a0 a1 a2 a3=>z31 k a0 a1 a2 a3) (fun a0=>some (.inr a0))
def qb(a:ByteArray)(b:Int):Option iA:=
 RK a b (fun a0 a1 a2=>some (a0,a1,a2)) (fun a0 a1 a2 a3=>(z31 ae a0 a1 a2 a3).bind fun e=>Sum.elim (fun(we:(ByteArray×Int×Int×ByteArray))=>Bj we.1 we.2.1 we.2.2.1 we.2.2.2 (fun a0 a1 a2=>some (a0,a1,a2))) (fun(we:ByteArray)=>LG we (fun a0 a1 a2=>some (a0,a1,a2))) e)
def DE{R:Type}(a:ByteArray)(b:ByteArray->Bool->Option R)(c:ByteArray->(List Int)->Int->Int->Option R):Option R:=
 bif 999<(a.size:Int) then b (bs []) false else(yO a).bind fun r1=>bif !r1 then b (bs []) false else bif Int.tmod (a.size:Int) 2=1 then bif(List.length ([]:List Int)+List.length ([(0:Int)]:List Int))*1<=140737488355328 then c a ([]++([0]:List Int)) (Int.tmod (a.size:Int) 2) 0 else none else c a [] (Int.tmod (a.size:Int) 2) 0
theorem VQ{R S:Type}(F:R->Option S)(a)(b)(c):(DE a b c).bind F=DE a (fun a0 a1=>(b a0 a1).bind F) (fun a0 a1 a2 a3=>(c a0 a1 a2 a3).bind F):=by
 simp only[DE,ax]
def DF{R:Type}(a:ByteArray)(b:(List Int))(c d:Int)(e:ByteArray->(List Int)->Int->Int->Option R)(f:(List Int)->Option R):Option R:=
 bif d<(a.size:Int) then zd d a.size (bif c=0 then bif(List.length b+List.length ([(zW zU ((16:Int)*zW zU (ze a d.toNat-(48:Int))))]:List Int))*1<=140737488355328 then e a (b++([(zW zU (16*zW zU (ze a d.toNat-48)))]:List Int)) (zW zI (1-c)) (zW zI (d+1)) else none else zd (zW zI ((List.length b:Int)-1)) (List.length b) (e a (List.set b (zW zI ((List.length b:Int)-(1:Int))).toNat (zW zU (List.getD b (zW zI ((List.length b:Int)-(1:Int))).toNat 0+zW zU (ze a d.toNat-48)))) (zW zI (1-c)) (zW zI (d+1)))) else f b
def Bk{R:Type}(a:(List Int))(b:ByteArray->Bool->Option R):Option R:=
 b (strOf a) true
def vU:Nat->ByteArray->(List Int)->Int->Int->Option (List Int)
 |0,_,_,_,_=>none
 |k+1,v0,v1,v2,v3=>DF v0 v1 v2 v3 (fun a0 a1 a2 a3=>vU k a0 a1 a2 a3) (fun a0=>some a0)
def wC(a:ByteArray):Option hJ:=
 DE a (fun a0 a1=>some (a0,a1)) (fun a0 a1 a2 a3=>(vU ae a0 a1 a2 a3).bind fun e=>Bk e (fun a0 a1=>some (a0,a1)))
def A8{R:Type}(a:ByteArray->Option R):Option R:=
 a (bs [48,49,50,51,52,53,54,55,56,57,65,66,67,68,69,70])
def CJ:Option ByteArray:=
 A8 (fun a0=>some a0)
def Be{R:Type}(a:Int)(b:Int->Int->Option R):Option R:=
 b a 0
def Bf{R:Type}(a b:Int)(c:Int->Option R)(d:Int->Int->Option R)(e:Option R):Option R:=
 bif b<16 then CJ.bind fun r1=>zd b r1.size (bif ze r1 b.toNat=a then c b else d a (zW zI (b+1))) else e
def Bg{R:Type}(a:Int)(b:Int->Option R):Option R:=
 b a
def Bh{R:Type}(a:Int->Option R):Option R:=
 a (-1:Int)
def RI:Nat->Int->Int->Option (Sum Int Unit)
 |0,_,_=>none
 |k+1,v0,v1=>Bf v0 v1 (fun a0=>some (.inl a0)) (fun a0 a1=>RI k a0 a1) (some (.inr ()))
def yP(a:Int):Option Int:=
 Be a (fun a0 a1=>(RI ae a0 a1).bind fun e=>Sum.elim (fun(we:Int)=>Bg we (fun a0=>some a0)) (fun(we:Unit)=>Bh (fun a0=>some a0)) e)
def RD{R:Type}(a:ByteArray)(b:ByteArray->Int->Option R):Option R:=
 b a 0
def LC{R:Type}(a:ByteArray)(b:Int)(c:ByteArray->ByteArray->Int->Bool->Option R)(d:ByteArray->Int->Option R)(e:ByteArray->Option R):Option R:=
 bif b<(a.size:Int) then zd b a.size ((yP (ze a b.toNat)).bind fun r1=>bif r1<0 then c a (bs []) b false else d a (zW zI (b+1))) else e a
def Ba{R:Type}(a b:ByteArray)(c:Int)(d:Bool)(e:ByteArray->Int->Bool->Option R):Option R:=
 e b c d
def RE{R:Type}(a:ByteArray)(b:ByteArray->Int->Bool->Option R)(c:ByteArray->(List Int)->Int->Option R):Option R:=
 bif Int.tmod (a.size:Int) 2=1 then b (bs []) (a.size:Int) false else c a [] 0
def LD{R:Type}(a:ByteArray)(b:(List Int))(c:Int)(d:ByteArray->(List Int)->Int->Option R)(e:(List Int)->Option R):Option R:=
 bif c<(a.size:Int) then zd c a.size ((yP (ze a c.toNat)).bind fun r2=>zd (zW zI (c+1)) a.size ((yP (ze a (zW zI (c+(1:Int))).toNat)).bind fun r3=>bif(List.length b+List.length ([(zW zU (zW zI (zW zI ((16:Int)*r2)+r3)))]:List Int))*1<=140737488355328 then d a (b++([(zW zU (zW zI (zW zI (16*r2)+r3)))]:List Int)) (zW zI (c+2)) else none)) else e b
def Bb{R:Type}(a:(List Int))(b:ByteArray->Int->Bool->Option R):Option R:=
 b (strOf a) 0 true
def Cr:Nat->ByteArray->Int->Option (Sum (ByteArray×ByteArray×Int×Bool) ByteArray)
 |0,_,_=>none
 |k+1,v0,v1=>LC v0 v1 (fun a0 a1 a2 a3=>some (.inl (a0,a1,a2,a3))) (fun a0 a1=>Cr k a0 a1) (fun a0=>some (.inr a0))
def Ct:Nat->ByteArray->(List Int)->Int->Option (List Int)
 |0,_,_,_=>none
 |k+1,v0,v1,v2=>LD v0 v1 v2 (fun a0 a1 a2=>Ct k a0 a1 a2) (fun a0=>some a0)
def wA(a:ByteArray):Option (ByteArray×Int×Bool):=
 RD a (fun a0 a1=>(Cr ae a0 a1).bind fun e=>Sum.elim (fun(we:(ByteArray×ByteArray×Int×Bool))=>Ba we.1 we.2.1 we.2.2.1 we.2.2.2 (fun a0 a1 a2=>some (a0,a1,a2))) (fun(we:ByteArray)=>RE we (fun a0 a1 a2=>some (a0,a1,a2)) (fun a0 a1 a2=>(Ct ae a0 a1 a2).bind fun e=>Bb e (fun a0 a1 a2=>some (a0,a1,a2)))) e)
def RG{R:Type}(a:ByteArray)(b:ByteArray->(List Int)->Int->Option R):Option R:=
 b a [] 0
def LF{R:Type}(a:ByteArray)(b:(List Int))(c:Int)(d:ByteArray->(List Int)->Int->Option R)(e:(List Int)->Option R):Option R:=
 bif c<(a.size:Int) then CJ.bind fun r1=>zd c a.size (zd (zW zU (Int.tdiv (ze a c.toNat) 16)) r1.size (CJ.bind fun r2=>zd c a.size (zd (Int.tmod (ze a c.toNat) 16) r2.size (bif(List.length b+List.length ([(ze r1 (zW zU (Int.tdiv (ze a c.toNat) (16:Int))).toNat),(ze r2 (Int.tmod (ze a c.toNat) (16:Int)).toNat)]:List Int))*1<=140737488355328 then d a (b++([(ze r1 (zW zU (Int.tdiv (ze a c.toNat) (16:Int))).toNat),(ze r2 (Int.tmod (ze a c.toNat) (16:Int)).toNat)]:List Int)) (zW zI (c+1)) else none)))) else e b
def Bc{R:Type}(a:(List Int))(b:ByteArray->Option R):Option R:=
 b (strOf a)
def Cu:Nat->ByteArray->(List Int)->Int->Option (List Int)
 |0,_,_,_=>none
 |k+1,v0,v1,v2=>LF v0 v1 v2 (fun a0 a1 a2=>Cu k a0 a1 a2) (fun a0=>some a0)
def tR(a:ByteArray):Option ByteArray:=
 RG a (fun a0 a1 a2=>(Cu ae a0 a1 a2).bind fun e=>Bc e (fun a0=>some a0))
def DH{R:Type}(a:Int)(b:ByteArray)(c d:Int)(e:(List Int)->Int->Option R)(f:Int->ByteArray->(List Int)->Int->Option R):Option R:=
 bif a=1 then bif zW zI ((b.size:Int)-c)<16 then e [] 2 else bif 0<=zW zI (c+16) then bif zW zI (c+16)<=(b.size:Int) then bif 0<=c then bif c<=(((zW zI (c+(16:Int))).toNat:Nat):Int) then bif a=1 then(wA (b.extract c.toNat (zW zI (c+(16:Int))).toNat)).bind fun r1=>bif !r1.2.2 then e [] 3 else f d r1.1 [] 0 else f d (b.extract c.toNat (zW zI (c+(16:Int))).toNat) [] 0 else none else none else none else none else bif zW zI ((b.size:Int)-c)<8 then e [] 2 else bif 0<=zW zI (c+8) then bif zW zI (c+8)<=(b.size:Int) then bif 0<=c then bif c<=(((zW zI (c+(8:Int))).toNat:Nat):Int) then bif a=1 then(wA (b.extract c.toNat (zW zI (c+(8:Int))).toNat)).bind fun r2=>bif !r2.2.2 then e [] 3 else f d r2.1 [] 0 else f d (b.extract c.toNat (zW zI (c+(8:Int))).toNat) [] 0 else none else none else none else none
theorem VS{R S:Type}(F:R->Option S)(a)(b)(c)(d)(e)(f):(DH a b c d e f).bind F=DH a b c d (fun a0 a1=>(e a0 a1).bind F) (fun a0 a1 a2 a3=>(f a0 a1 a2 a3).bind F):=by
 simp only[DH,ax]
def LN{R:Type}(a:Int)(b:ByteArray)(c:(List Int))(d:Int)(e:Int->ByteArray->(List Int)->Int->Int->Int->Int->Option R)(f:(List Int)->Option R):Option R:=
 bif d<8 then zd d b.size (e a b c d (ze b d.toNat) 128 0) else f c
def RZ{R:Type}(a:(List Int))(b:(List Int)->Int->Option R):Option R:=
 b a 0
def LO{R:Type}(a:Int)(b:ByteArray)(c:(List Int))(d e f g:Int)(h:Int->ByteArray->(List Int)->Int->Int->Int->Int->Option R)(i:Int->ByteArray->(List Int)->Int->Option R):Option R:=
 bif g<8 then bif f<=e then bif(List.length c+List.length ([(zW zI (zW zI (a+zW zI ((8:Int)*d))+g))]:List Int))*8<=140737488355328 then h a b (c++([(zW zI (zW zI (a+zW zI (8*d))+g))]:List Int)) d (zW zU (e-f)) (zW zU (Int.tdiv f 2)) (zW zI (g+1)) else none else h a b c d e (zW zU (Int.tdiv f 2)) (zW zI (g+1)) else i a b c d
def R0{R:Type}(a:Int)(b:ByteArray)(c:(List Int))(d:Int)(e:Int->ByteArray->(List Int)->Int->Option R):Option R:=
 e a b c (zW zI (d+1))
def CA:Nat->Int->ByteArray->(List Int)->Int->Int->Int->Int->Option (Int×ByteArray×(List Int)×Int)
 |0,_,_,_,_,_,_,_=>none
 |k+1,v0,v1,v2,v3,v4,v5,v6=>LO v0 v1 v2 v3 v4 v5 v6 (fun a0 a1 a2 a3 a4 a5 a6=>CA k a0 a1 a2 a3 a4 a5 a6) (fun a0 a1 a2 a3=>some (a0,a1,a2,a3))
def yx:Nat->Int->ByteArray->(List Int)->Int->Option (List Int)
 |0,_,_,_,_=>none
 |k+1,v0,v1,v2,v3=>LN v0 v1 v2 v3 (fun a0 a1 a2 a3 a4 a5 a6=>(CA ae a0 a1 a2 a3 a4 a5 a6).bind fun e=>R0 e.1 e.2.1 e.2.2.1 e.2.2.2 (fun a0 a1 a2 a3=>yx k a0 a1 a2 a3)) (fun a0=>some a0)
def nW(a:Int)(b:ByteArray)(c d:Int):Option ((List Int)×Int):=
 DH a b c d (fun a0 a1=>some (a0,a1)) (fun a0 a1 a2 a3=>(yx ae a0 a1 a2 a3).bind fun e=>RZ e (fun a0 a1=>some (a0,a1)))
def RR{R:Type}(a:Int)(b:ByteArray)(c:Int)(d:(List Int)->Int->Int->Option R):Option R:=
 bif !decide (a=1) then bif !decide (a=2) then d [] 0 1 else bif c<0 then d [] 0 1 else bif(b.size:Int)<c then d [] 0 1 else bif a=1 then(nW a b c (1:Int)).bind fun r1=>bif !decide (r1.2=0) then d [] 0 r1.2 else bif((List.length r1.1):Int)=0 then d r1.1 (zW zI (c+16)) 0 else zd 0 (List.length r1.1) (bif !decide (List.getD r1.1 ((0:Int)).toNat 0=1) then d r1.1 (zW zI (c+16)) 0 else(nW a b (zW zI (c+16)) (65:Int)).bind fun r2=>bif !decide (r2.2=0) then d [] 0 r2.2 else bif((List.length r2.1):Int)=0 then d [] 0 8 else bif 1<=(((List.length r1.1):Nat):Int) then bif(List.length ([]:List Int)+List.length (List.drop ((1:Int)).toNat (List.take (List.length r1.1) r1.1)))*8<=140737488355328 then bif(List.length (([]:List Int)++List.drop ((1:Int)).toNat (List.take (List.length r1.1) r1.1))+List.length r2.1)*8<=140737488355328 then d (([]++List.drop ((1:Int)).toNat (List.take (List.length r1.1) r1.1))++r2.1) (zW zI (c+zW zI (2*16))) 0 else none else none else none) else(nW a b c (1:Int)).bind fun r3=>bif !decide (r3.2=0) then d [] 0 r3.2 else bif((List.length r3.1):Int)=0 then d r3.1 (zW zI (c+8)) 0 else zd 0 (List.length r3.1) (bif !decide (List.getD r3.1 ((0:Int)).toNat 0=1) then d r3.1 (zW zI (c+8)) 0 else(nW a b (zW zI (c+8)) (65:Int)).bind fun r4=>bif !decide (r4.2=0) then d [] 0 r4.2 else bif((List.length r4.1):Int)=0 then d [] 0 8 else bif 1<=(((List.length r3.1):Nat):Int) then bif(List.length ([]:List Int)+List.length (List.drop ((1:Int)).toNat (List.take (List.length r3.1) r3.1)))*8<=140737488355328 then bif(List.length (([]:List Int)++List.drop ((1:Int)).toNat (List.take (List.length r3.1) r3.1))+List.length r4.1)*8<=140737488355328 then d (([]++List.drop ((1:Int)).toNat (List.take (List.length r3.1) r3.1))++r4.1) (zW zI (c+zW zI (2*8))) 0 else none else none else none) else bif c<0 then d [] 0 1 else bif(b.size:Int)<c then d [] 0 1 else bif a=1 then(nW a b c (1:Int)).bind fun r5=>bif !decide (r5.2=0) then d [] 0 r5.2 else bif((List.length r5.1):Int)=0 then d r5.1 (zW zI (c+16)) 0 else zd 0 (List.length r5.1) (bif !decide (List.getD r5.1 ((0:Int)).toNat 0=1) then d r5.1 (zW zI (c+16)) 0 else(nW a b (zW zI (c+16)) (65:Int)).bind fun r6=>bif !decide (r6.2=0) then d [] 0 r6.2 else bif((List.length r6.1):Int)=0 then d [] 0 8 else bif 1<=(((List.length r5.1):Nat):Int) then bif(List.length ([]:List Int)+List.length (List.drop ((1:Int)).toNat (List.take (List.length r5.1) r5.1)))*8<=140737488355328 then bif(List.length (([]:List Int)++List.drop ((1:Int)).toNat (List.take (List.length r5.1) r5.1))+List.length r6.1)*8<=140737488355328 then d (([]++List.drop ((1:Int)).toNat (List.take (List.length r5.1) r5.1))++r6.1) (zW zI (c+zW zI (2*16))) 0 else none else none else none) else(nW a b c (1:Int)).bind fun r7=>bif !decide (r7.2=0) then d [] 0 r7.2 else bif((List.length r7.1):Int)=0 then d r7.1 (zW zI (c+8)) 0 else zd 0 (List.length r7.1) (bif !decide (List.getD r7.1 ((0:Int)).toNat 0=1) then d r7.1 (zW zI (c+8)) 0 else(nW a b (zW zI (c+8)) (65:Int)).bind fun r8=>bif !decide (r8.2=0) then d [] 0 r8.2 else bif((List.length r8.1):Int)=0 then d [] 0 8 else bif 1<=(((List.length r7.1):Nat):Int) then bif(List.length ([]:List Int)+List.length (List.drop ((1:Int)).toNat (List.take (List.length r7.1) r7.1)))*8<=140737488355328 then bif(List.length (([]:List Int)++List.drop ((1:Int)).toNat (List.take (List.length r7.1) r7.1))+List.length r8.1)*8<=140737488355328 then d (([]++List.drop ((1:Int)).toNat (List.take (List.length r7.1) r7.1))++r8.1) (zW zI (c+zW zI (2*8))) 0 else none else none else none)
def tW(a:Int)(b:ByteArray)(c:Int):Option ((List Int)×Int×Int):=
 RR a b c (fun a0 a1 a2=>some (a0,a1,a2))
def RV{R:Type}(a:(List Int))(b:Int)(c:(List Int)->Int->(List Int)->Int->Option R):Option R:=
 c a b [] 0
def LL{R:Type}(a:(List Int))(b:Int)(c:(List Int))(d:Int)(e:(List Int)->Int->(List Int)->Int->Int->Int->Option R)(f:(List Int)->Option R):Option R:=
 bif d<8 then e a b c d 0 0 else f c
def Br{R:Type}(a:(List Int))(b:ByteArray->Option R):Option R:=
 b (strOf a)
def LM{R:Type}(a:(List Int))(b:Int)(c:(List Int))(d e f:Int)(g:(List Int)->Int->(List Int)->Int->Int->Int->Option R)(h:(List Int)->Int->(List Int)->Int->Int->Option R):Option R:=
 bif f<8 then(tT a (zW zI (zW zI (b+zW zI (8*d))+f))).bind fun r1=>bif r1 then g a b c d (zW zU (zW zU (e*2)+1)) (zW zI (f+1)) else g a b c d (zW zU (e*2)) (zW zI (f+1)) else h a b c d e
def RW{R:Type}(a:(List Int))(b:Int)(c:(List Int))(d e:Int)(f:(List Int)->Int->(List Int)->Int->Option R):Option R:=
 bif(List.length c+List.length ([e]:List Int))*1<=140737488355328 then f a b (c++([e]:List Int)) (zW zI (d+1)) else none
def Cz:Nat->(List Int)->Int->(List Int)->Int->Int->Int->Option ((List Int)×Int×(List Int)×Int×Int)
 |0,_,_,_,_,_,_=>none
 |k+1,v0,v1,v2,v3,v4,v5=>LM v0 v1 v2 v3 v4 v5 (fun a0 a1 a2 a3 a4 a5=>Cz k a0 a1 a2 a3 a4 a5) (fun a0 a1 a2 a3 a4=>some (a0,a1,a2,a3,a4))
def Cy:Nat->(List Int)->Int->(List Int)->Int->Option (List Int)
 |0,_,_,_,_=>none
 |k+1,v0,v1,v2,v3=>LL v0 v1 v2 v3 (fun a0 a1 a2 a3 a4 a5=>(Cz ae a0 a1 a2 a3 a4 a5).bind fun e=>RW e.1 e.2.1 e.2.2.1 e.2.2.2.1 e.2.2.2.2 (fun a0 a1 a2 a3=>Cy k a0 a1 a2 a3)) (fun a0=>some a0)
def sX(a:(List Int))(b:Int):Option ByteArray:=
 RV a b (fun a0 a1 a2 a3=>(Cy ae a0 a1 a2 a3).bind fun e=>Br e (fun a0=>some a0))
def DG{R:Type}(a:Int)(b:(List Int))(c:ByteArray->Bool->Option R)(d:Int->(List Int)->Bool->Int->Option R):Option R:=
 bif !decide (a=1) then bif !decide (a=2) then c (bs []) false else(tT b (1:Int)).bind fun r1=>bif r1 then c (bs []) false else d a b false 65 else(tT b (1:Int)).bind fun r2=>bif r2 then c (bs []) false else d a b false 65
theorem VR{R S:Type}(F:R->Option S)(a)(b)(c)(d):(DG a b c d).bind F=DG a b (fun a0 a1=>(c a0 a1).bind F) (fun a0 a1 a2 a3=>(d a0 a1 a2 a3).bind F):=by
 simp only[DG,ax]
def LJ{R:Type}(a:Int)(b:(List Int))(c:Bool)(d:Int)(e:Int->(List Int)->Bool->Int->Option R)(f:Int->(List Int)->Bool->Option R):Option R:=
 bif d<=128 then bif c then e a b true (zW zI (d+1)) else(tT b d).bind fun r3=>e a b r3 (zW zI (d+1)) else f a b c
def LK{R:Type}(a:Int)(b:(List Int))(c:Bool)(d:ByteArray->Bool->Option R):Option R:=
 (sX b (1:Int)).bind fun r4=>bif c then bif(List.length ([(1:Int)]:List Int)+List.length b)*8<=140737488355328 then(sX (([1]:List Int)++b) (1:Int)).bind fun r5=>(sX b (65:Int)).bind fun r6=>bif r5.size+r6.size<=9223372036854775807 then bif a=1 then(tR (r5++r6)).bind fun r7=>d r7 true else d (r5++r6) true else none else none else bif a=1 then(tR r4).bind fun r8=>d r8 true else d r4 true
def yw:Nat->Int->(List Int)->Bool->Int->Option (Int×(List Int)×Bool)
 |0,_,_,_,_=>none
 |k+1,v0,v1,v2,v3=>LJ v0 v1 v2 v3 (fun a0 a1 a2 a3=>yw k a0 a1 a2 a3) (fun a0 a1 a2=>some (a0,a1,a2))
def EF(a:Int)(b:(List Int)):Option hJ:=
 DG a b (fun a0 a1=>some (a0,a1)) (fun a0 a1 a2 a3=>(yw ae a0 a1 a2 a3).bind fun e=>LK e.1 e.2.1 e.2.2 (fun a0 a1=>some (a0,a1)))
def LP{R:Type}(a:Int)(b:Int->Option R):Option R:=
 bif a=2 then b a else bif a=3 then b a else b 0
def wF(a:Int):Option Int:=
 LP a (fun a0=>some a0)
def R3{R:Type}(a b:Int)(c:ByteArray)(d:Int)(e:Int->Int->Int->Option R):Option R:=
 bif !decide (a=1) then bif !decide (a=2) then e 0 0 1 else(wF b).bind fun r1=>bif r1=0 then e 0 0 1 else bif d<0 then e 0 0 1 else bif(c.size:Int)<d then e 0 0 1 else bif a=2 then bif zW zI ((c.size:Int)-d)<zW zI (b-1) then e 0 0 2 else bif 0<=zW zI (d+zW zI (b-1)) then bif zW zI (d+zW zI (b-1))<=(c.size:Int) then bif 0<=d then bif d<=(((zW zI (d+zW zI (b-(1:Int)))).toNat:Nat):Int) then bif a=2 then(qb (c.extract d.toNat (zW zI (d+zW zI (b-(1:Int)))).toNat) b).bind fun r2=>bif !decide (r2.2.1=0) then e 0 0 3 else(qa r2.1).bind fun r3=>bif !r3.2 then e 0 0 3 else e r3.1 (zW zI (d+zW zI (b-1))) 0 else(qa (c.extract d.toNat (zW zI (d+zW zI (b-(1:Int)))).toNat)).bind fun r4=>bif !r4.2 then e 0 0 3 else e r4.1 (zW zI (d+zW zI (b-1))) 0 else none else none else none else none else bif zW zI ((c.size:Int)-d)<b then e 0 0 2 else bif 0<=zW zI (d+b) then bif zW zI (d+b)<=(c.size:Int) then bif 0<=d then bif d<=(((zW zI (d+b)).toNat:Nat):Int) then bif a=2 then(qb (c.extract d.toNat (zW zI (d+b)).toNat) b).bind fun r5=>bif !decide (r5.2.1=0) then e 0 0 3 else(qa r5.1).bind fun r6=>bif !r6.2 then e 0 0 3 else e r6.1 (zW zI (d+b)) 0 else(qa (c.extract d.toNat (zW zI (d+b)).toNat)).bind fun r7=>bif !r7.2 then e 0 0 3 else e r7.1 (zW zI (d+b)) 0 else none else none else none else none else(wF b).bind fun r8=>bif r8=0 then e 0 0 1 else bif d<0 then e 0 0 1 else bif(c.size:Int)<d then e 0 0 1 else bif a=2 then bif zW zI ((c.size:Int)-d)<zW zI (b-1) then e 0 0 2 else bif 0<=zW zI (d+zW zI (b-1)) then bif zW zI (d+zW zI (b-1))<=(c.size:Int) then bif 0<=d then bif d<=(((zW zI (d+zW zI (b-(1:Int)))).toNat:Nat):Int) then bif a=2 then(qb (c.extract d.toNat (zW zI (d+zW zI (b-(1:Int)))).toNat) b).bind fun r9=>bif !decide (r9.2.1=0) then e 0 0 3 else(qa r9.1).bind fun jF=>bif !jF.2 then e 0 0 3 else e jF.1 (zW zI (d+zW zI (b-1))) 0 else(qa (c.extract d.toNat (zW zI (d+zW zI (b-(1:Int)))).toNat)).bind fun jv=>bif !jv.2 then e 0 0 3 else e jv.1 (zW zI (d+zW zI (b-1))) 0 else none else none else none else none else bif zW zI ((c.size:Int)-d)<b then e 0 0 2 else bif 0<=zW zI (d+b) then bif zW zI (d+b)<=(c.size:Int) then bif 0<=d then bif d<=(((zW zI (d+b)).toNat:Nat):Int) then bif a=2 then(qb (c.extract d.toNat (zW zI (d+b)).toNat) b).bind fun kR=>bif !decide (kR.2.1=0) then e 0 0 3 else(qa kR.1).bind fun jw=>bif !jw.2 then e 0 0 3 else e jw.1 (zW zI (d+b)) 0 else(qa (c.extract d.toNat (zW zI (d+b)).toNat)).bind fun s9=>bif !s9.2 then e 0 0 3 else e s9.1 (zW zI (d+b)) 0 else none else none else none else none
def EG(a b:Int)(c:ByteArray)(d:Int):Option lJ:=
 R3 a b c d (fun a0 a1 a2=>some (a0,a1,a2))
def R4{R:Type}(a b c:Int)(d:ByteArray->Int->Option R):Option R:=
 bif !decide (a=1) then bif !decide (a=2) then d (bs []) 1 else(wF b).bind fun r1=>bif r1=0 then d (bs []) 1 else(CI c b).bind fun r2=>bif !r2.2 then d (bs []) 5 else bif a=2 then(wC r2.1).bind fun r3=>d r3.1 0 else d r2.1 0 else(wF b).bind fun r4=>bif r4=0 then d (bs []) 1 else(CI c b).bind fun r5=>bif !r5.2 then d (bs []) 5 else bif a=2 then(wC r5.1).bind fun r6=>d r6.1 0 else d r5.1 0
def yQ(a b c:Int):Option FP:=
 R4 a b c (fun a0 a1=>some (a0,a1))
def DN{R:Type}(a:Int)(b:aj)(c:ByteArray)(d:Int)(e:Int->ByteArray->Int->Bool->aj->Option R):Option R:=
 bif !decide (a=1) then bif !decide (a=2) then e a c d true b else(sY b).bind fun r1=>bif !decide (r1=0) then e a c d true b else bif d<0 then e a c d true b else e a c d (decide ((c.size:Int)<d)) b else(sY b).bind fun r2=>bif !decide (r2=0) then e a c d true b else bif d<0 then e a c d true b else e a c d (decide ((c.size:Int)<d)) b
theorem VT{R S:Type}(F:R->Option S)(a)(b)(c)(d)(e):(DN a b c d e).bind F=DN a b c d (fun a0 a1 a2 a3 a4=>(e a0 a1 a2 a3 a4).bind F):=by
 simp only[DN,ax]
def Sb{R:Type}(a:Int)(b:ByteArray)(c:Int)(d:Bool)(e:aj)(f:ByteArray->Int->Int->Option R)(g:Int->ByteArray->Int->aj->Option R):Option R:=
 bif d then f (bs []) 0 1 else g a b c e
def Sc{R:Type}(a:Int)(b:ByteArray)(c:Int)(d:aj)(e:ByteArray->Int->Int->Option R)(f g:Int->ByteArray->Int->Int->aj->Option R):Option R:=
 bif !decide (d.2.2.1=1) then(EG a d.2.2.1 b c).bind fun r3=>bif !decide (r3.2.2=0) then e (bs []) 0 r3.2.2 else f a b r3.1 r3.2.1 d else g a b c d.2.2.2.2.1 d
def DO{R:Type}(a:Int)(b:ByteArray)(c d:Int)(e:aj)(f:Int->ByteArray->Int->Int->Bool->aj->Option R):Option R:=
 bif c<e.2.2.2.1 then f a b c d true e else f a b c d (decide (e.2.2.2.2.1<c)) e
theorem VU{R S:Type}(F:R->Option S)(a)(b)(c)(d)(e)(f):(DO a b c d e f).bind F=DO a b c d e (fun a0 a1 a2 a3 a4 a5=>(f a0 a1 a2 a3 a4 a5).bind F):=by
 simp only[DO,ax]
def vV{R:Type}(a:Int)(b:ByteArray)(c d:Int)(e:aj)(f:Int->ByteArray->Int->Int->Int->Bool->aj->Option R):Option R:=
 bif a=2 then f a b c d d (decide (e.2.1=1)) e else f a b c d d false e
theorem VV{R S:Type}(F:R->Option S)(a)(b)(c)(d)(e)(f):(vV a b c d e f).bind F=vV a b c d e (fun a0 a1 a2 a3 a4 a5 a6=>(f a0 a1 a2 a3 a4 a5 a6).bind F):=by
 simp only[vV,ax]
def Sd{R:Type}(a:Int)(b:ByteArray)(c d:Int)(e:Bool)(f:aj)(g:ByteArray->Int->Int->Option R)(h:Int->ByteArray->Int->Int->aj->Option R):Option R:=
 bif e then g (bs []) 0 5 else h a b c d f
def vW{R:Type}(a:Int)(b:ByteArray)(c d e:Int)(f:Bool)(g:aj)(h:Int->ByteArray->Int->Int->Int->aj->Option R):Option R:=
 bif f then h a b c d (zW zI (Int.tdiv (zW zI (d+1)) 2)) g else h a b c d e g
theorem VW{R S:Type}(F:R->Option S)(a)(b)(c)(d)(e)(f)(g)(h):(vW a b c d e f g h).bind F=vW a b c d e f g (fun a0 a1 a2 a3 a4 a5=>(h a0 a1 a2 a3 a4 a5).bind F):=by
 simp only[vW,ax]
def Se{R:Type}(a:Int)(b:ByteArray)(c d:Int)(e:aj)(f:Int->ByteArray->Int->Int->aj->Option R):Option R:=
 f a b d c e
def vX{R:Type}(a:Int)(b:ByteArray)(c d e:Int)(f:aj)(g:Int->ByteArray->Int->Int->Int->Bool->aj->Option R):Option R:=
 bif a=1 then g a b c d e (decide (5<=f.2.1)) f else g a b c d e false f
theorem VX{R S:Type}(F:R->Option S)(a)(b)(c)(d)(e)(f)(g):(vX a b c d e f g).bind F=vX a b c d e f (fun a0 a1 a2 a3 a4 a5 a6=>(g a0 a1 a2 a3 a4 a5 a6).bind F):=by
 simp only[vX,ax]
def vY{R:Type}(a:Int)(b:ByteArray)(c d e:Int)(f:Bool)(g:aj)(h:Int->ByteArray->Int->Int->Int->aj->Option R):Option R:=
 bif f then h a b c d (zW zI (d+d)) g else h a b c d e g
theorem VY{R S:Type}(F:R->Option S)(a)(b)(c)(d)(e)(f)(g)(h):(vY a b c d e f g h).bind F=vY a b c d e f g (fun a0 a1 a2 a3 a4 a5=>(h a0 a1 a2 a3 a4 a5).bind F):=by
 simp only[vY,ax]
def B9{R:Type}(a:Int)(b:ByteArray)(c d e:Int)(f:aj)(g:ByteArray->Int->Int->Option R)(h:Int->ByteArray->Int->Int->Int->aj->Option R):Option R:=
 bif zW zI ((b.size:Int)-c)<e then g (bs []) 0 2 else h a b c d e f
def vO{R:Type}(a:Int)(b:ByteArray)(c d e:Int)(f:aj)(g:Int->Int->Int->Int->ByteArray->Bool->aj->Option R):Option R:=
 bif 0<=zW zI (c+e) then bif zW zI (c+e)<=(b.size:Int) then bif 0<=c then bif c<=(((zW zI (c+e)).toNat:Nat):Int) then bif a=2 then g a c d e (b.extract c.toNat (zW zI (c+e)).toNat) (decide (f.2.1=1)) f else g a c d e (b.extract c.toNat (zW zI (c+e)).toNat) false f else none else none else none else none
theorem Vt{R S:Type}(F:R->Option S)(a)(b)(c)(d)(e)(f)(g):(vO a b c d e f g).bind F=vO a b c d e f (fun a0 a1 a2 a3 a4 a5 a6=>(g a0 a1 a2 a3 a4 a5 a6).bind F):=by
 simp only[vO,ax]
def Ca{R:Type}(a b c d:Int)(e:ByteArray)(f:Bool)(g:aj)(h:ByteArray->Int->Int->Option R)(i j:Int->Int->Int->ByteArray->aj->Option R):Option R:=
 bif f then(qb e c).bind fun r4=>bif !decide (r4.2.1=0) then h (bs []) 0 r4.2.1 else i a b d r4.1 g else j a b d e g
def Cb{R:Type}(a b c:Int)(d:ByteArray)(e:aj)(f:Int->Int->Int->ByteArray->aj->Option R):Option R:=
 f a b c d e
def vP{R:Type}(a b c:Int)(d:ByteArray)(e:aj)(f:Int->Int->ByteArray->Bool->aj->Option R):Option R:=
 bif a=1 then f b c d (decide (5<=e.2.1)) e else f b c d false e
theorem Vu{R S:Type}(F:R->Option S)(a)(b)(c)(d)(e)(f):(vP a b c d e f).bind F=vP a b c d e (fun a0 a1 a2 a3 a4=>(f a0 a1 a2 a3 a4).bind F):=by
 simp only[vP,ax]
def Cc{R:Type}(a b:Int)(c:ByteArray)(d:Bool)(e:aj)(f:ByteArray->Int->Int->Option R)(g h:Int->Int->ByteArray->aj->Option R):Option R:=
 bif d then(wA c).bind fun r5=>bif !r5.2.2 then f (bs []) 0 3 else g a b r5.1 e else h a b c e
def Cd{R:Type}(a b:Int)(c:ByteArray)(d:aj)(e:Int->Int->ByteArray->aj->Option R):Option R:=
 e a b c d
def Ce{R:Type}(a b:Int)(c:ByteArray)(d:aj)(e:ByteArray->Int->Int->Option R)(f:Int->Int->ByteArray->Option R):Option R:=
 (lF d c).bind fun r6=>bif !decide (r6=0) then e (bs []) 0 r6 else f a b c
def Cf{R:Type}(a b:Int)(c:ByteArray)(d:ByteArray->Int->Int->Option R):Option R:=
 d c (zW zI (a+b)) 0
def Du(a b:Int)(c:ByteArray):Option iA:=
 Cf a b c (fun a0 a1 a2=>some (a0,a1,a2))
def B8(a b:Int)(c:ByteArray)(d:aj):Option iA:=
 Ce a b c d (fun a0 a1 a2=>some (a0,a1,a2)) (fun a0 a1 a2=>Du a0 a1 a2)
def Dt(a b:Int)(c:ByteArray)(d:aj):Option iA:=
 Cd a b c d (fun a0 a1 a2 a3=>B8 a0 a1 a2 a3)
def Ds(a b:Int)(c:ByteArray)(d:Bool)(e:aj):Option iA:=
 Cc a b c d e (fun a0 a1 a2=>some (a0,a1,a2)) (fun a0 a1 a2 a3=>Dt a0 a1 a2 a3) (fun a0 a1 a2 a3=>B8 a0 a1 a2 a3)
def B7(a b c:Int)(d:ByteArray)(e:aj):Option iA:=
 vP a b c d e (fun a0 a1 a2 a3 a4=>Ds a0 a1 a2 a3 a4)
def Dr(a b c:Int)(d:ByteArray)(e:aj):Option iA:=
 Cb a b c d e (fun a0 a1 a2 a3 a4=>B7 a0 a1 a2 a3 a4)
def Dq(a b c d:Int)(e:ByteArray)(f:Bool)(g:aj):Option iA:=
 Ca a b c d e f g (fun a0 a1 a2=>some (a0,a1,a2)) (fun a0 a1 a2 a3 a4=>Dr a0 a1 a2 a3 a4) (fun a0 a1 a2 a3 a4=>B7 a0 a1 a2 a3 a4)
def Dp(a:Int)(b:ByteArray)(c d e:Int)(f:aj):Option iA:=
 vO a b c d e f (fun a0 a1 a2 a3 a4 a5 a6=>Dq a0 a1 a2 a3 a4 a5 a6)
def DM(a:Int)(b:ByteArray)(c d e:Int)(f:aj):Option iA:=
 B9 a b c d e f (fun a0 a1 a2=>some (a0,a1,a2)) (fun a0 a1 a2 a3 a4 a5=>Dp a0 a1 a2 a3 a4 a5)
def DL(a:Int)(b:ByteArray)(c d e:Int)(f:Bool)(g:aj):Option iA:=
 vY a b c d e f g (fun a0 a1 a2 a3 a4 a5=>DM a0 a1 a2 a3 a4 a5)
def DK(a:Int)(b:ByteArray)(c d e:Int)(f:aj):Option iA:=
 vX a b c d e f (fun a0 a1 a2 a3 a4 a5 a6=>DL a0 a1 a2 a3 a4 a5 a6)
def DJ(a:Int)(b:ByteArray)(c d e:Int)(f:Bool)(g:aj):Option iA:=
 vW a b c d e f g (fun a0 a1 a2 a3 a4 a5=>DK a0 a1 a2 a3 a4 a5)
def sT(a:Int)(b:ByteArray)(c d:Int)(e:aj):Option iA:=
 vV a b c d e (fun a0 a1 a2 a3 a4 a5 a6=>DJ a0 a1 a2 a3 a4 a5 a6)
def BG(a:Int)(b:ByteArray)(c d:Int)(e:aj):Option iA:=
 Se a b c d e (fun a0 a1 a2 a3 a4=>sT a0 a1 a2 a3 a4)
def BF(a:Int)(b:ByteArray)(c d:Int)(e:Bool)(f:aj):Option iA:=
 Sd a b c d e f (fun a0 a1 a2=>some (a0,a1,a2)) (fun a0 a1 a2 a3 a4=>BG a0 a1 a2 a3 a4)
def BE(a:Int)(b:ByteArray)(c d:Int)(e:aj):Option iA:=
 DO a b c d e (fun a0 a1 a2 a3 a4 a5=>BF a0 a1 a2 a3 a4 a5)
def Sa(a:Int)(b:ByteArray)(c:Int)(d:aj):Option iA:=
 Sc a b c d (fun a0 a1 a2=>some (a0,a1,a2)) (fun a0 a1 a2 a3 a4=>BE a0 a1 a2 a3 a4) (fun a0 a1 a2 a3 a4=>sT a0 a1 a2 a3 a4)
def BD(a:Int)(b:ByteArray)(c:Int)(d:Bool)(e:aj):Option iA:=
 Sb a b c d e (fun a0 a1 a2=>some (a0,a1,a2)) (fun a0 a1 a2 a3=>Sa a0 a1 a2 a3)
def CK(a:Int)(b:aj)(c:ByteArray)(d:Int):Option iA:=
 DN a b c d (fun a0 a1 a2 a3 a4=>BD a0 a1 a2 a3 a4)
def Nx{R:Type}(a b:Int)(c:ByteArray)(d:ByteArray->Option R):Option R:=
 bif a=2 then bif b=1 then(wC c).bind fun r1=>d r1.1 else bif a=1 then bif 5<=b then(tR c).bind fun r2=>d r2 else d c else d c else bif a=1 then bif 5<=b then(tR c).bind fun r3=>d r3 else d c else d c
def jJ(a b:Int)(c:ByteArray):Option ByteArray:=
 Nx a b c (fun a0=>some a0)
def Sf{R:Type}(a:Int)(b:aj)(c:ByteArray)(d:ByteArray->Int->Option R):Option R:=
 bif !decide (a=1) then bif !decide (a=2) then d (bs []) 1 else(lF b c).bind fun r1=>bif !decide (r1=0) then d (bs []) r1 else bif !decide (b.2.2.1=1) then(yQ a b.2.2.1 (c.size:Int)).bind fun r2=>(jJ a b.2.1 c).bind fun r3=>bif r2.1.size+r3.size<=9223372036854775807 then d (r2.1++r3) 0 else none else(jJ a b.2.1 c).bind fun r4=>bif(bs []).size+r4.size<=9223372036854775807 then d (bs []++r4) 0 else none else(lF b c).bind fun r5=>bif !decide (r5=0) then d (bs []) r5 else bif !decide (b.2.2.1=1) then(yQ a b.2.2.1 (c.size:Int)).bind fun r6=>(jJ a b.2.1 c).bind fun r7=>bif r6.1.size+r7.size<=9223372036854775807 then d (r6.1++r7) 0 else none else(jJ a b.2.1 c).bind fun r8=>bif(bs []).size+r8.size<=9223372036854775807 then d (bs []++r8) 0 else none
def yS(a:Int)(b:aj)(c:ByteArray):Option FP:=
 Sf a b c (fun a0 a1=>some (a0,a1))
def NK{R:Type}(a:af)(b:(List Int)->Int->af->Option R):Option R:=
 b [] 0 a
def zu6{R:Type}(a:(List Int))(b:Int)(c:af)(d:(List Int)->Int->af->Option R)(e:(List Int)->Option R):Option R:=
 bif b<((List.length c.2.1):Int) then zd b (List.length c.2.1) (bif(List.length a+List.length ([(List.getD c.2.1 b.toNat ((0:Int),bs [],())).1]:List Int))*8<=140737488355328 then d (a++([(List.getD c.2.1 b.toNat (0,bs [],())).1]:List Int)) (zW zI (b+1)) c else none) else e a
def zu7{R:Type}(a:(List Int))(b:(List Int)->Option R):Option R:=
 b a
def KM:Nat->(List Int)->Int->af->Option (List Int)
 |0,_,_,_=>none
 |k+1,v0,v1,v2=>zu6 v0 v1 v2 (fun a0 a1 a2=>KM k a0 a1 a2) (fun a0=>some a0)
def qz(a:af):Option (List Int):=
 NK a (fun a0 a1 a2=>(KM ae a0 a1 a2).bind fun e=>zu7 e (fun a0=>some a0))
def NI{R:Type}(a:ai)(b:af)(c:ay->Option R)(d:Int->Int->ai->af->ay->Option R):Option R:=
 (pa a).bind fun r1=>bif !r1 then c (1,(-1:Int),()) else(jK b.1).bind fun r2=>bif !r2 then c (7,0,()) else zd 0 b.1.size (bif !decide (zW zI (zW zI (ze b.1 ((0:Int)).toNat)-48)=a.2.1) then c (7,0,()) else d 0 0 a b (0,0,()))
def KL{R:Type}(a b:Int)(c:ai)(d:af)(e:ay)(f:ay->Option R)(g:Int->Int->ai->af->ay->Option R)(h:ay->Option R):Option R:=
 bif b<((List.length d.2.1):Int) then zd b (List.length d.2.1) (bif(List.getD d.2.1 b.toNat (0,bs [],())).1<=a then f (11,(List.getD d.2.1 b.toNat (0,bs [],())).1,()) else(mK c (List.getD d.2.1 b.toNat (0,bs [],())).1).bind fun r3=>bif r3<0 then f (9,(List.getD d.2.1 b.toNat (0,bs [],())).1,()) else zd r3 (List.length c.2.2.1) (zd b (List.length d.2.1) ((lF (List.getD c.2.2.1 r3.toNat (0,0,0,0,0,())) (List.getD d.2.1 b.toNat (0,bs [],())).2.1).bind fun r4=>bif !decide (r4=0) then f (r4,(List.getD d.2.1 b.toNat (0,bs [],())).1,()) else g (List.getD d.2.1 b.toNat (0,bs [],())).1 (zW zI (b+1)) c d e))) else h e
def zu4{R:Type}(a:ay)(b:ay->Option R):Option R:=
 b a
def zu5{R:Type}(a:ay)(b:ay->Option R):Option R:=
 b (0,0,())
def tw:Nat->Int->Int->ai->af->ay->Option (Sum ay ay)
 |0,_,_,_,_,_=>none
 |k+1,v0,v1,v2,v3,v4=>KL v0 v1 v2 v3 v4 (fun a0=>some (.inl a0)) (fun a0 a1 a2 a3 a4=>tw k a0 a1 a2 a3 a4) (fun a0=>some (.inr a0))
def qy(a:ai)(b:af):Option ay:=
 NI a b (fun a0=>some a0) (fun a0 a1 a2 a3 a4=>(tw ae a0 a1 a2 a3 a4).bind fun e=>Sum.elim (fun(we:ay)=>zu4 we (fun a0=>some a0)) (fun(we:ay)=>zu5 we (fun a0=>some a0)) e)
def NN{R:Type}(a:Int)(b:ByteArray)(c:ByteArray->Option R):Option R:=
 bif a=1 then c b else(wC b).bind fun r1=>c r1.1
def qA(a:Int)(b:ByteArray):Option ByteArray:=
 NN a b (fun a0=>some a0)
def NM{R:Type}(a:ai)(b:af)(c:ByteArray->Int->ai->af->Option R):Option R:=
 (qz b).bind fun r1=>(EF a.1 r1).bind fun r2=>(qA a.1 b.1).bind fun r3=>bif r3.size+r2.1.size<=9223372036854775807 then c (r3++r2.1) 0 a b else none
def KN{R:Type}(a:ByteArray)(b:Int)(c:ai)(d:af)(e:ByteArray->Int->ai->af->Option R)(f:ByteArray->Option R):Option R:=
 bif b<((List.length d.2.1):Int) then zd b (List.length d.2.1) ((mK c (List.getD d.2.1 b.toNat (0,bs [],())).1).bind fun r4=>zd r4 (List.length c.2.2.1) (zd b (List.length d.2.1) ((yS c.1 (List.getD c.2.2.1 r4.toNat (0,0,0,0,0,())) (List.getD d.2.1 b.toNat (0,bs [],())).2.1).bind fun r5=>bif a.size+r5.1.size<=9223372036854775807 then e (a++r5.1) (zW zI (b+1)) c d else none))) else f a
def zu8{R:Type}(a:ByteArray)(b:ByteArray->Option R):Option R:=
 b a
def vL:Nat->ByteArray->Int->ai->af->Option ByteArray
 |0,_,_,_,_=>none
 |k+1,v0,v1,v2,v3=>KN v0 v1 v2 v3 (fun a0 a1 a2 a3=>vL k a0 a1 a2 a3) (fun a0=>some a0)
def pc(a:ai)(b:af):Option ByteArray:=
 NM a b (fun a0 a1 a2 a3=>(vL ae a0 a1 a2 a3).bind fun e=>zu8 e (fun a0=>some a0))
def Df{R:Type}(a:ai)(b:ByteArray)(c:af->ay->Option R)(d:ByteArray->(List Int)->Int->Int->ai->af->ay->af->Option R):Option R:=
 (pa a).bind fun r1=>bif !r1 then c (bs [],[],()) (1,(-1:Int),()) else bif a.1=2 then bif(b.size:Int)<2 then c (bs [],[],()) (2,0,()) else bif 2<=(b.size:Int) then bif a.1=2 then(qb (b.extract 0 ((2:Int)).toNat) (4:Int)).bind fun r2=>(jK r2.1).bind fun r3=>bif !r3 then c (bs [],[],()) (7,0,()) else zd 0 r2.1.size (bif !decide (zW zI (zW zI (ze r2.1 ((0:Int)).toNat)-48)=a.2.1) then c (bs [],[],()) (7,0,()) else(tW a.1 b (2:Int)).bind fun r4=>bif !decide (r4.2.2=0) then c (r2.1,[],()) (r4.2.2,1,()) else d b r4.1 r4.2.1 0 a (bs [],[],()) (0,0,()) (r2.1,[],())) else(jK (b.extract 0 ((2:Int)).toNat)).bind fun r5=>bif !r5 then c (bs [],[],()) (7,0,()) else zd 0 (b.extract 0 ((2:Int)).toNat).size (bif !decide (zW zI (zW zI (ze (b.extract 0 ((2:Int)).toNat) ((0:Int)).toNat)-48)=a.2.1) then c (bs [],[],()) (7,0,()) else(tW a.1 b (2:Int)).bind fun r6=>bif !decide (r6.2.2=0) then c (b.extract 0 ((2:Int)).toNat,[],()) (r6.2.2,1,()) else d b r6.1 r6.2.1 0 a (bs [],[],()) (0,0,()) (b.extract 0 ((2:Int)).toNat,[],())) else none else bif(b.size:Int)<4 then c (bs [],[],()) (2,0,()) else bif 4<=(b.size:Int) then bif a.1=2 then(qb (b.extract 0 ((4:Int)).toNat) (4:Int)).bind fun r7=>(jK r7.1).bind fun r8=>bif !r8 then c (bs [],[],()) (7,0,()) else zd 0 r7.1.size (bif !decide (zW zI (zW zI (ze r7.1 ((0:Int)).toNat)-48)=a.2.1) then c (bs [],[],()) (7,0,()) else(tW a.1 b (4:Int)).bind fun r9=>bif !decide (r9.2.2=0) then c (r7.1,[],()) (r9.2.2,1,()) else d b r9.1 r9.2.1 0 a (bs [],[],()) (0,0,()) (r7.1,[],())) else(jK (b.extract 0 ((4:Int)).toNat)).bind fun jF=>bif !jF then c (bs [],[],()) (7,0,()) else zd 0 (b.extract 0 ((4:Int)).toNat).size (bif !decide (zW zI (zW zI (ze (b.extract 0 ((4:Int)).toNat) ((0:Int)).toNat)-48)=a.2.1) then c (bs [],[],()) (7,0,()) else(tW a.1 b (4:Int)).bind fun jv=>bif !decide (jv.2.2=0) then c (b.extract 0 ((4:Int)).toNat,[],()) (jv.2.2,1,()) else d b jv.1 jv.2.1 0 a (bs [],[],()) (0,0,()) (b.extract 0 ((4:Int)).toNat,[],())) else none
theorem Vr{R S:Type}(F:R->Option S)(a)(b)(c)(d):(Df a b c d).bind F=Df a b (fun a0 a1=>(c a0 a1).bind F) (fun a0 a1 a2 a3 a4 a5 a6 a7=>(d a0 a1 a2 a3 a4 a5 a6 a7).bind F):=by
 simp only[Df,ax]
def KO{R:Type}(a:ByteArray)(b:(List Int))(c d:Int)(e:ai)(f:af)(g:ay)(h:af)(i:ByteArray->Int->af->ay->af->Option R)(j:ByteArray->(List Int)->Int->Int->ai->af->ay->af->Option R)(l:ByteArray->Int->af->ay->af->Option R):Option R:=
 bif d<((List.length b):Int) then zd d (List.length b) ((mK e (List.getD b d.toNat (0:Int))).bind fun kR=>bif kR<0 then zd d (List.length b) (i a c h (9,List.getD b d.toNat 0,()) h) else zd kR (List.length e.2.2.1) ((CK e.1 (List.getD e.2.2.1 kR.toNat (0,0,0,0,0,())) a c).bind fun jw=>bif !decide (jw.2.2=0) then zd d (List.length b) (i a c h (jw.2.2,List.getD b d.toNat 0,()) h) else zd d (List.length b) (bif(List.length h.2.1+List.length ([(List.getD b d.toNat (0:Int),jw.1,())]:List cK))*24<=140737488355328 then j a b jw.2.1 (zW zI (d+1)) e f g (h.1,h.2.1++([(List.getD b d.toNat 0,jw.1,())]:List cK),()) else none))) else l a c f g h
def zua{R:Type}(a:ByteArray)(b:Int)(c:af)(d:ay)(e:af)(f:af->ay->Option R):Option R:=
 f c d
def zub{R:Type}(a:ByteArray)(b:Int)(c:af)(d:ay)(e:af)(f:af->ay->Option R):Option R:=
 bif b<(a.size:Int) then f e (12,129,()) else f e (0,0,())
def z59:Nat->ByteArray->(List Int)->Int->Int->ai->af->ay->af->Option (Sum iz iz)
 |0,_,_,_,_,_,_,_,_=>none
 |k+1,v0,v1,v2,v3,v4,v5,v6,v7=>KO v0 v1 v2 v3 v4 v5 v6 v7 (fun a0 a1 a2 a3 a4=>some (.inl (a0,a1,a2,a3,a4))) (fun a0 a1 a2 a3 a4 a5 a6 a7=>z59 k a0 a1 a2 a3 a4 a5 a6 a7) (fun a0 a1 a2 a3 a4=>some (.inr (a0,a1,a2,a3,a4)))
def qB(a:ai)(b:ByteArray):Option (af×ay):=
 Df a b (fun a0 a1=>some (a0,a1)) (fun a0 a1 a2 a3 a4 a5 a6 a7=>(z59 ae a0 a1 a2 a3 a4 a5 a6 a7).bind fun e=>Sum.elim (fun(we:iz)=>zua we.1 we.2.1 we.2.2.1 we.2.2.2.1 we.2.2.2.2 (fun a0 a1=>some (a0,a1))) (fun(we:iz)=>zub we.1 we.2.1 we.2.2.1 we.2.2.2.1 we.2.2.2.2 (fun a0 a1=>some (a0,a1))) e)
def zuc{R:Type}(a:aP)(b:aP->aP->Int->Option R):Option R:=
 b a [] 0
def zud{R:Type}(a b:aP)(c:Int)(d:aP->aP->Int->Option R)(e:aP->Option R):Option R:=
 bif c<((List.length a):Int) then zd c (List.length a) (zd c (List.length a) (bif(List.length b+List.length ([((List.getD a c.toNat (bs [],bs [],())).2.1,(List.getD a c.toNat (bs [],bs [],())).1,())]:List eQ))*32<=140737488355328 then d a (b++([((List.getD a c.toNat (bs [],bs [],())).2.1,(List.getD a c.toNat (bs [],bs [],())).1,())]:List eQ)) (zW zI (c+1)) else none)) else e b
def zue{R:Type}(a:aP)(b:aP->Option R):Option R:=
 b a
def NQ:Nat->aP->aP->Int->Option aP
 |0,_,_,_=>none
 |k+1,v0,v1,v2=>zud v0 v1 v2 (fun a0 a1 a2=>NQ k a0 a1 a2) (fun a0=>some a0)
def qC(a:aP):Option aP:=
 zuc a (fun a0 a1 a2=>(NQ ae a0 a1 a2).bind fun e=>zue e (fun a0=>some a0))
def NS{R:Type}(a:bD)(b:Bool->Option R)(c:Int->bD->Option R):Option R:=
 bif 1200<(a.2.2.2.1.size:Int) then b true else bif 300<((List.length a.2.2.2.2.1):Int) then b true else c 0 a
def KP{R:Type}(a:Int)(b:bD)(c:Bool->Option R)(d:Int->bD->Option R)(e:Option R):Option R:=
 bif a<((List.length b.2.2.2.2.1):Int) then zd a (List.length b.2.2.2.2.1) (bif 1200<(((List.getD b.2.2.2.2.1 a.toNat (bs [],bs [],())).1).size:Int) then c true else zd a (List.length b.2.2.2.2.1) (bif 1200<(((List.getD b.2.2.2.2.1 a.toNat (bs [],bs [],())).2.1).size:Int) then c true else d (zW zI (a+1)) b)) else e
def zug{R:Type}(a:Bool)(b:Bool->Option R):Option R:=
 b a
def zuh{R:Type}(a:Bool->Option R):Option R:=
 a false
def vM:Nat->Int->bD->Option (Sum Bool Unit)
 |0,_,_=>none
 |k+1,v0,v1=>KP v0 v1 (fun a0=>some (.inl a0)) (fun a0 a1=>vM k a0 a1) (some (.inr ()))
def mL(a:bD):Option Bool:=
 NS a (fun a0=>some a0) (fun a0 a1=>(vM ae a0 a1).bind fun e=>Sum.elim (fun(we:Bool)=>zug we (fun a0=>some a0)) (fun(we:Unit)=>zuh (fun a0=>some a0)) e)
def NV{R:Type}(a:aE)(b:Bool->Option R)(c:Int->aE->Option R):Option R:=
 bif 300<((List.length a.1):Int) then b true else bif 300<((List.length a.2.1):Int) then b true else c 0 a
def KR{R:Type}(a:Int)(b:aE)(c:Bool->aE->Option R)(d:Int->aE->Option R)(e:aE->Option R):Option R:=
 bif a<((List.length b.1):Int) then zd a (List.length b.1) (bif 100<(((List.getD b.1 a.toNat (bs [],bs [],())).1).size:Int) then c true b else zd a (List.length b.1) (bif 100<(((List.getD b.1 a.toNat (bs [],bs [],())).2.1).size:Int) then c true b else d (zW zI (a+1)) b)) else e b
def zuk{R:Type}(a:Bool)(b:aE)(c:Bool->Option R):Option R:=
 c a
def NW{R:Type}(a:aE)(b:Int->aE->Option R):Option R:=
 b 0 a
def zul{R:Type}(a:Int)(b:aE)(c:Bool->Option R)(d:Int->aE->Option R)(e:Option R):Option R:=
 bif a<((List.length b.2.1):Int) then zd a (List.length b.2.1) ((mL (List.getD b.2.1 a.toNat (0,0,0,bs [],[],()))).bind fun r1=>bif r1 then c true else d (zW zI (a+1)) b) else e
def zum{R:Type}(a:Bool)(b:Bool->Option R):Option R:=
 b a
def zun{R:Type}(a:Bool->Option R):Option R:=
 a false
def vN:Nat->Int->aE->Option (Sum (Bool×aE) aE)
 |0,_,_=>none
 |k+1,v0,v1=>KR v0 v1 (fun a0 a1=>some (.inl (a0,a1))) (fun a0 a1=>vN k a0 a1) (fun a0=>some (.inr a0))
def KQ:Nat->Int->aE->Option (Sum Bool Unit)
 |0,_,_=>none
 |k+1,v0,v1=>zul v0 v1 (fun a0=>some (.inl a0)) (fun a0 a1=>KQ k a0 a1) (some (.inr ()))
def kA(a:aE):Option Bool:=
 NV a (fun a0=>some a0) (fun a0 a1=>(vN ae a0 a1).bind fun e=>Sum.elim (fun(we:(Bool×aE))=>zuk we.1 we.2 (fun a0=>some a0)) (fun(we:aE)=>NW we (fun a0 a1=>(KQ ae a0 a1).bind fun e=>Sum.elim (fun(we:Bool)=>zum we (fun a0=>some a0)) (fun(we:Unit)=>zun (fun a0=>some a0)) e)) e)
def NZ{R:Type}(a:aB)(b:Bool->Option R)(c:Int->aB->Option R):Option R:=
 bif 200<((List.length a.1.2.2.1):Int) then b true else bif 300<((List.length a.2.2.1):Int) then b true else bif 300<((List.length a.2.2.2.1):Int) then b true else c 0 a
def zup{R:Type}(a:Int)(b:aB)(c:Bool->Option R)(d:Int->aB->Option R)(e:Option R):Option R:=
 bif a<((List.length b.2.2.2.1):Int) then zd a (List.length b.2.2.2.1) (bif 1200<(((List.getD b.2.2.2.1 a.toNat (0,bs [],())).2.1).size:Int) then c true else d (zW zI (a+1)) b) else e
def zuq{R:Type}(a:Bool)(b:Bool->Option R):Option R:=
 b a
def zur{R:Type}(a:Bool->Option R):Option R:=
 a false
def KS:Nat->Int->aB->Option (Sum Bool Unit)
 |0,_,_=>none
 |k+1,v0,v1=>zup v0 v1 (fun a0=>some (.inl a0)) (fun a0 a1=>KS k a0 a1) (some (.inr ()))
def lv(a:aB):Option Bool:=
 NZ a (fun a0=>some a0) (fun a0 a1=>(KS ae a0 a1).bind fun e=>Sum.elim (fun(we:Bool)=>zuq we (fun a0=>some a0)) (fun(we:Unit)=>zur (fun a0=>some a0)) e)
def zux{R:Type}(a:(List ByteArray))(b:(List ByteArray)->aP->Int->Option R):Option R:=
 b a [] 0
def zuy{R:Type}(a:(List ByteArray))(b:aP)(c:Int)(d:(List ByteArray)->aP->Int->Option R)(e:aP->Option R):Option R:=
 bif c<((List.length a):Int) then zd c (List.length a) (zd (zW zI (c+1)) (List.length a) (bif(List.length b+List.length ([(List.getD a c.toNat (bs []),List.getD a (zW zI (c+(1:Int))).toNat (bs []),())]:List eQ))*32<=140737488355328 then d a (b++([(List.getD a c.toNat (bs []),List.getD a (zW zI (c+(1:Int))).toNat (bs []),())]:List eQ)) (zW zI (c+2)) else none)) else e b
def zuz{R:Type}(a:aP)(b:aP->Option R):Option R:=
 b a
def N5:Nat->(List ByteArray)->aP->Int->Option aP
 |0,_,_,_=>none
 |k+1,v0,v1,v2=>zuy v0 v1 v2 (fun a0 a1 a2=>N5 k a0 a1 a2) (fun a0=>some a0)
def qD(a:(List ByteArray)):Option aP:=
 zux a (fun a0 a1 a2=>(N5 ae a0 a1 a2).bind fun e=>zuz e (fun a0=>some a0))
def zuu{R:Type}(a:cn->(List Int)->Int->Option R):Option R:=
 yG.bind fun r1=>a [] r1 0
def zuv{R:Type}(a:cn)(b:(List Int))(c:Int)(d:cn->(List Int)->Int->Option R)(e:cn->Option R):Option R:=
 bif c<((List.length b):Int) then zd c (List.length b) (bif List.getD b c.toNat 0=12 then zd c (List.length b) (zd c (List.length b) (bif(List.length a+List.length ([((4:Int),List.getD b c.toNat (0:Int),List.getD b c.toNat (0:Int),bs [],([]:List eQ),())]:List bD))*64<=140737488355328 then d (a++([(4,List.getD b c.toNat 0,List.getD b c.toNat 0,bs [],[],())]:List bD)) b (zW zI (c+1)) else none)) else zd c (List.length b) (zd c (List.length b) (bif(List.length a+List.length ([((1:Int),List.getD b c.toNat (0:Int),List.getD b c.toNat (0:Int),bs [],([]:List eQ),())]:List bD))*64<=140737488355328 then d (a++([(1,List.getD b c.toNat 0,List.getD b c.toNat 0,bs [],[],())]:List bD)) b (zW zI (c+1)) else none))) else e a
def zuw{R:Type}(a:cn)(b:cn->Option R):Option R:=
 b a
def N3:Nat->cn->(List Int)->Int->Option cn
 |0,_,_,_=>none
 |k+1,v0,v1,v2=>zuv v0 v1 v2 (fun a0 a1 a2=>N3 k a0 a1 a2) (fun a0=>some a0)
def tJ:Option cn:=
 zuu (fun a0 a1 a2=>(N3 ae a0 a1 a2).bind fun e=>zuw e (fun a0=>some a0))
def zut{R:Type}(a b c:ByteArray)(d:ar->Option R):Option R:=
 d ([(0,a,()),(2,b,()),(3,b,()),(12,b,()),(9,b,()),(15,c,())]:List cK)
def tH(a b c:ByteArray):Option ar:=
 zut a b c (fun a0=>some a0)
def zus{R:Type}(a:er->Option R):Option R:=
 (qD ([(bs [48,49,48,48]),bs [49,49,48,48],bs [48,49,49,48],bs [49,49,49,48],bs [48,50,48,48],bs [49,50,48,48],bs [48,50,49,48],bs [49,50,49,48],bs [48,50,50,48],bs [49,50,50,48],bs [48,50,51,48],bs [49,50,51,48],bs [48,52,48,48],bs [49,52,48,48],bs [48,52,49,48],bs [49,52,49,48],bs [48,52,50,48],bs [49,52,50,48],bs [48,52,51,48],bs [49,52,51,48],bs [48,56,48,48],bs [49,56,48,52],bs [48,56,49,48],(bs [49,56,49,52])]:List ByteArray)).bind fun r1=>(qD ([(bs [48,53,49]),bs [53,49,48,49,48,49,53,49,49,51,52,52],bs [48,50,49],bs [50,49,48,49,48,49,50,49,49,51,52,52],bs [48,49,50],(bs [49,48,48,49,52,48,49,48,48,49,49,48])]:List ByteArray)).bind fun r2=>(qD ([(bs [48,48]),bs [48,48,48],bs [48,53],bs [49,48,48],bs [49,52],bs [49,49,49],bs [53,49],bs [49,49,54],bs [53,52],bs [49,48,49],bs [57,49],bs [57,48,55],bs [57,54],(bs [57,48,57])]:List ByteArray)).bind fun r3=>tJ.bind fun r4=>bif(List.length r4+List.length ([((2:Int),(13:Int),(0:Int),bs [],([]:List eQ),()),((2:Int),(18:Int),(0:Int),bs [],([]:List eQ),()),((2:Int),(90:Int),(0:Int),bs [],([]:List eQ),()),((5:Int),(22:Int),(22:Int),bs [],r2,()),((5:Int),(39:Int),(39:Int),bs [],r3,()),((1:Int),(43:Int),(43:Int),bs [],([]:List eQ),()),((1:Int),(48:Int),(48:Int),bs [],([]:List eQ),()),((3:Int),(0:Int),(26:Int),bs [53,57,57,57],([]:List eQ),())]:List bD))*64<=140737488355328 then tJ.bind fun r5=>(qC r2).bind fun r6=>(qC r3).bind fun r7=>bif(List.length r5+List.length ([((2:Int),(26:Int),(0:Int),bs [],([]:List eQ),()),((2:Int),(43:Int),(0:Int),bs [],([]:List eQ),()),((5:Int),(22:Int),(22:Int),bs [],r6,()),((5:Int),(39:Int),(39:Int),bs [],r7,()),((1:Int),(48:Int),(48:Int),bs [],([]:List eQ),())]:List bD))*64<=140737488355328 then(tG (0:Int)).bind fun r8=>(tH (bs [57,54]) (bs [51,48]) (bs [49,50])).bind fun r9=>zd 0 2 ((tG (1:Int)).bind fun jF=>(qC r1).bind fun jv=>bif(List.length ([]:List Int)+List.length ([(2:Int),(3:Int),(4:Int),(7:Int),(11:Int),(12:Int),(32:Int),(37:Int),(41:Int),(42:Int),(70:Int)]:List Int))*8<=140737488355328 then(tH (bs [57,48,57]) (bs [57,48,52]) (bs [57,48,50])).bind fun kR=>zd 1 2 (a (List.set (List.set (List.replicate 2 ((0,0,[],()),([],[],()),[],[],())) ((0:Int)).toNat (r8,(r1,r4++([(2,13,0,bs [],[],()),(2,18,0,bs [],[],()),(2,90,0,bs [],[],()),(5,22,22,bs [],r2,()),(5,39,39,bs [],r3,()),(1,43,43,bs [],[],()),(1,48,48,bs [],[],()),(3,0,26,bs [53,57,57,57],[],())]:List bD),()),([2,3,4,7,11,12,32,37,41,42,70]:List Int),r9,())) ((1:Int)).toNat (jF,(jv,r5++([(2,26,0,bs [],[],()),(2,43,0,bs [],[],()),(5,22,22,bs [],r6,()),(5,39,39,bs [],r7,()),(1,48,48,bs [],[],())]:List bD),()),[]++([2,3,4,7,11,12,32,37,41,42,70]:List Int),kR,()),4096,())) else none) else none else none
def yK:Option er:=
 zus (fun a0=>some a0)
def N0{R:Type}(a:er)(b:Bool->Option R):Option R:=
 zd 0 2 ((lv (List.getD a.1 ((0:Int)).toNat ((0,0,[],()),([],[],()),[],[],()))).bind fun r1=>bif r1 then b true else zd 1 2 ((lv (List.getD a.1 ((1:Int)).toNat ((0,0,[],()),([],[],()),[],[],()))).bind fun r2=>bif r2 then b true else zd 0 2 ((kA (List.getD a.1 ((0:Int)).toNat ((0,0,[],()),([],[],()),[],[],())).2.1).bind fun r3=>bif r3 then b true else zd 1 2 ((kA (List.getD a.1 ((1:Int)).toNat ((0,0,[],()),([],[],()),[],[],())).2.1).bind fun r4=>b r4))))
def pd(a:er):Option Bool:=
 N0 a (fun a0=>some a0)
def N1{R:Type}(a:ai)(b:ByteArray)(c:af->Bool->Option R):Option R:=
 (qB a b).bind fun r1=>bif r1.2.1=0 then(qy a r1.1).bind fun r2=>c r1.1 (decide (r2.1=0)) else c r1.1 false
def pf(a:ai)(b:ByteArray):Option (af×Bool):=
 N1 a b (fun a0 a1=>some (a0,a1))
def On{R:Type}(a:ByteArray)(b:Bool->Option R):Option R:=
 bif(a.size:Int)=4 then(wu a).bind fun r1=>b r1 else b false
def mO(a:ByteArray):Option Bool:=
 On a (fun a0=>some a0)
def Oo{R:Type}(a:ByteArray)(b:Int->Bool->Option R):Option R:=
 (mO a).bind fun r1=>bif !r1 then b 0 false else zd 0 a.size (b (zW zI (zW zU (ze a ((0:Int)).toNat-48))) true)
def iw(a:ByteArray):Option (Int×Bool):=
 Oo a (fun a0 a1=>some (a0,a1))
def Ol{R:Type}(a:ByteArray)(b:Bool->Option R):Option R:=
 (mO a).bind fun r1=>bif r1 then zd 2 a.size (bif ze a ((2:Int)).toNat=48 then b true else zd 2 a.size (b (decide (ze a ((2:Int)).toNat=50)))) else b false
def mN(a:ByteArray):Option Bool:=
 Ol a (fun a0=>some a0)
def Om{R:Type}(a:ByteArray)(b:ByteArray->Bool->Option R):Option R:=
 (mN a).bind fun r1=>bif !r1 then b (bs []) false else bif 2<=(a.size:Int) then zd 2 a.size (bif(a.extract 0 ((2:Int)).toNat).size+(strOf ([(zW zU (ze a ((2:Int)).toNat+1))]:List Int)).size<=9223372036854775807 then bif 3<=(a.size:Int) then bif(a.extract 0 ((2:Int)).toNat++strOf ([(zW zU (ze a ((2:Int)).toNat+1))]:List Int)).size+(a.extract ((3:Int)).toNat a.size).size<=9223372036854775807 then b ((a.extract 0 ((2:Int)).toNat++strOf ([(zW zU (ze a ((2:Int)).toNat+1))]:List Int))++a.extract ((3:Int)).toNat a.size) true else none else none else none) else none
def qJ(a:ByteArray):Option hJ:=
 Om a (fun a0 a1=>some (a0,a1))
def Oe{R:Type}(a:af)(b:Int)(c:Int->ar->Int->Int->Option R):Option R:=
 c b a.2.1 ((List.length a.2.1):Int) 0
def zva{R:Type}(a:Int)(b:ar)(c d:Int)(e:ByteArray->Bool->Option R)(f:Int->ar->Int->Int->Option R)(g:Option R):Option R:=
 bif d<c then zd d (List.length b) (bif(List.getD b d.toNat (0,bs [],())).1=a then e (List.getD b d.toNat (0,bs [],())).2.1 true else f a b c (zW zI (d+1))) else g
def zvb{R:Type}(a:ByteArray)(b:Bool)(c:ByteArray->Bool->Option R):Option R:=
 c a b
def zvc{R:Type}(a:ByteArray->Bool->Option R):Option R:=
 a (bs []) false
def KW:Nat->Int->ar->Int->Int->Option (Sum hJ Unit)
 |0,_,_,_,_=>none
 |k+1,v0,v1,v2,v3=>zva v0 v1 v2 v3 (fun a0 a1=>some (.inl (a0,a1))) (fun a0 a1 a2 a3=>KW k a0 a1 a2 a3) (some (.inr ()))
def mM(a:af)(b:Int):Option hJ:=
 Oe a b (fun a0 a1 a2 a3=>(KW ae a0 a1 a2 a3).bind fun e=>Sum.elim (fun(we:hJ)=>zvb we.1 we.2 (fun a0 a1=>some (a0,a1))) (fun(we:Unit)=>zvc (fun a0 a1=>some (a0,a1))) e)
def Ok{R:Type}(a:af)(b:Int)(c:Int->ar->Int->Int->af->af->Option R):Option R:=
 c b a.2.1 ((List.length a.2.1):Int) 0 (bs [],[],()) (a.1,[],())
def zvg{R:Type}(a:Int)(b:ar)(c d:Int)(e f:af)(g:Int->ar->Int->Int->af->af->Option R)(h:af->af->Option R):Option R:=
 bif d<c then zd d (List.length b) (bif !decide ((List.getD b d.toNat (0,bs [],())).1=a) then bif(List.length f.2.1+List.length ([(List.getD b d.toNat ((0:Int),bs [],()))]:List cK))*24<=140737488355328 then g a b c (zW zI (d+1)) e (f.1,f.2.1++([(List.getD b d.toNat (0,bs [],()))]:List cK),()) else none else g a b c (zW zI (d+1)) e f) else h e f
def zvh{R:Type}(a b:af)(c:af->Option R):Option R:=
 c b
def KZ:Nat->Int->ar->Int->Int->af->af->Option (af×af)
 |0,_,_,_,_,_,_=>none
 |k+1,v0,v1,v2,v3,v4,v5=>zvg v0 v1 v2 v3 v4 v5 (fun a0 a1 a2 a3 a4 a5=>KZ k a0 a1 a2 a3 a4 a5) (fun a0 a1=>some (a0,a1))
def qI(a:af)(b:Int):Option af:=
 Ok a b (fun a0 a1 a2 a3 a4 a5=>(KZ ae a0 a1 a2 a3 a4 a5).bind fun e=>zvh e.1 e.2 (fun a0=>some a0))
def zvf{R:Type}(a:cK)(b:Int)(c:Bool->Int->Option R):Option R:=
 c (decide (b<a.1)) b
def qH(a:cK)(b:Int):Option (Bool×Int):=
 zvf a b (fun a0 a1=>some (a0,a1))
def O7{R:Type}(a:ar)(b:Int)(c:ar->Int->Int->Int->Option R):Option R:=
 c a ((List.length a):Int) 0 b
def zwe{R:Type}(a:ar)(b c d:Int)(e:Int->Int->Option R)(f:ar->Int->Int->Int->Option R)(g:Int->Option R):Option R:=
 bif c<b then zd c (List.length a) ((qH (List.getD a c.toNat (0,bs [],())) d).bind fun r1=>bif r1.1 then e c r1.2 else f a b (zW zI (c+1)) r1.2) else g d
def zwf{R:Type}(a b:Int)(c:Int->Int->Option R):Option R:=
 c a b
def zwg{R:Type}(a:Int)(b:Int->Int->Option R):Option R:=
 b (-1:Int) a
def La:Nat->ar->Int->Int->Int->Option (Sum (Int×Int) Int)
 |0,_,_,_,_=>none
 |k+1,v0,v1,v2,v3=>zwe v0 v1 v2 v3 (fun a0 a1=>some (.inl (a0,a1))) (fun a0 a1 a2 a3=>La k a0 a1 a2 a3) (fun a0=>some (.inr a0))
def qU(a:ar)(b:Int):Option (Int×Int):=
 O7 a b (fun a0 a1 a2 a3=>(La ae a0 a1 a2 a3).bind fun e=>Sum.elim (fun(we:(Int×Int))=>zwf we.1 we.2 (fun a0 a1=>some (a0,a1))) (fun(we:Int)=>zwg we (fun a0 a1=>some (a0,a1))) e)
def Oi{R:Type}(a:af)(b:Int)(c:ByteArray)(d:af->Option R):Option R:=
 (qI a b).bind fun r1=>(qU r1.2.1 b).bind fun r2=>bif r2.1<0 then bif zW zI (((List.length r1.2.1):Int)+1)=zW zI (((List.length r1.2.1):Int)+1) then bif 0<=zW zI (((List.length r1.2.1):Int)+1) then bif zW zI (((List.length r1.2.1):Int)+1)*24<=140737488355328 then bif 0<=((List.length r1.2.1):Int) then bif((List.length r1.2.1):Int)<=(((List.length r1.2.1):Nat):Int) then bif Nat.beq (zW zI (((List.length r1.2.1):Int)+(1:Int))).toNat (List.length (List.replicate (zW zI (((List.length r1.2.1):Int)+(1:Int))).toNat ((0:Int),bs [],()))) then zd ((List.length r1.2.1):Int) (zW zI (((List.length r1.2.1):Int)+(1:Int))).toNat (bif Nat.ble ((((List.length r1.2.1):Int)).toNat+1) (List.length (bE (List.replicate (zW zI (((List.length r1.2.1):Int)+(1:Int))).toNat ((0:Int),bs [],())) (List.take (zW zI (((List.length r1.2.1):Int)+(1:Int))).toNat (List.drop 0 (List.take (((List.length r1.2.1):Int)).toNat r1.2.1))) 0)) then bif 0<=zW zI (((List.length r1.2.1):Int)+1) then bif zW zI (((List.length r1.2.1):Int)+1)<=(((zW zI (((List.length r1.2.1):Int)+(1:Int))).toNat:Nat):Int) then bif 0<=((List.length r1.2.1):Int) then bif((List.length r1.2.1):Int)<=(((List.length r1.2.1):Nat):Int) then bif Nat.beq (zW zI (((List.length r1.2.1):Int)+(1:Int))).toNat (List.length (List.set (bE (List.replicate (zW zI (((List.length r1.2.1):Int)+(1:Int))).toNat ((0:Int),bs [],())) (List.take (zW zI (((List.length r1.2.1):Int)+(1:Int))).toNat (List.drop 0 (List.take (((List.length r1.2.1):Int)).toNat r1.2.1))) 0) (((List.length r1.2.1):Int)).toNat (r2.2,c,()))) then bif Nat.ble (zW zI (((List.length r1.2.1):Int)+(1:Int))).toNat (zW zI (((List.length r1.2.1):Int)+(1:Int))).toNat then bif Nat.beq (zW zI (((List.length r1.2.1):Int)+(1:Int))).toNat (List.length (bE (List.set (bE (List.replicate (zW zI (((List.length r1.2.1):Int)+(1:Int))).toNat ((0:Int),bs [],())) (List.take (zW zI (((List.length r1.2.1):Int)+(1:Int))).toNat (List.drop 0 (List.take (((List.length r1.2.1):Int)).toNat r1.2.1))) 0) (((List.length r1.2.1):Int)).toNat (r2.2,c,())) (List.take ((zW zI (((List.length r1.2.1):Int)+(1:Int))).toNat-(zW zI (((List.length r1.2.1):Int)+(1:Int))).toNat) (List.drop (((List.length r1.2.1):Int)).toNat (List.take (List.length r1.2.1) r1.2.1))) (zW zI (((List.length r1.2.1):Int)+(1:Int))).toNat)) then d (a.1,bE (List.set (bE (List.replicate (zW zI (((List.length r1.2.1):Int)+(1:Int))).toNat (0,bs [],())) (List.take (zW zI (((List.length r1.2.1):Int)+(1:Int))).toNat (List.drop 0 (List.take (((List.length r1.2.1):Int)).toNat r1.2.1))) 0) (((List.length r1.2.1):Int)).toNat (r2.2,c,())) (List.take ((zW zI (((List.length r1.2.1):Int)+(1:Int))).toNat-(zW zI (((List.length r1.2.1):Int)+(1:Int))).toNat) (List.drop (((List.length r1.2.1):Int)).toNat (List.take (List.length r1.2.1) r1.2.1))) (zW zI (((List.length r1.2.1):Int)+(1:Int))).toNat,()) else none else none else none else none else none else none else none else none) else none else none else none else none else none else none else bif zW zI (((List.length r1.2.1):Int)+1)=zW zI (((List.length r1.2.1):Int)+1) then bif 0<=zW zI (((List.length r1.2.1):Int)+1) then bif zW zI (((List.length r1.2.1):Int)+1)*24<=140737488355328 then bif 0<=r2.1 then bif r2.1<=(((List.length r1.2.1):Nat):Int) then bif Nat.beq (zW zI (((List.length r1.2.1):Int)+(1:Int))).toNat (List.length (List.replicate (zW zI (((List.length r1.2.1):Int)+(1:Int))).toNat ((0:Int),bs [],()))) then zd r2.1 (zW zI (((List.length r1.2.1):Int)+(1:Int))).toNat (bif Nat.ble (r2.1.toNat+1) (List.length (bE (List.replicate (zW zI (((List.length r1.2.1):Int)+(1:Int))).toNat ((0:Int),bs [],())) (List.take (zW zI (((List.length r1.2.1):Int)+(1:Int))).toNat (List.drop 0 (List.take r2.1.toNat r1.2.1))) 0)) then bif 0<=zW zI (r2.1+1) then bif zW zI (r2.1+1)<=(((zW zI (((List.length r1.2.1):Int)+(1:Int))).toNat:Nat):Int) then bif 0<=r2.1 then bif r2.1<=(((List.length r1.2.1):Nat):Int) then bif Nat.beq (zW zI (((List.length r1.2.1):Int)+(1:Int))).toNat (List.length (List.set (bE (List.replicate (zW zI (((List.length r1.2.1):Int)+(1:Int))).toNat ((0:Int),bs [],())) (List.take (zW zI (((List.length r1.2.1):Int)+(1:Int))).toNat (List.drop 0 (List.take r2.1.toNat r1.2.1))) 0) r2.1.toNat (r2.2,c,()))) then bif Nat.ble (zW zI (r2.1+(1:Int))).toNat (zW zI (((List.length r1.2.1):Int)+(1:Int))).toNat then bif Nat.beq (zW zI (((List.length r1.2.1):Int)+(1:Int))).toNat (List.length (bE (List.set (bE (List.replicate (zW zI (((List.length r1.2.1):Int)+(1:Int))).toNat ((0:Int),bs [],())) (List.take (zW zI (((List.length r1.2.1):Int)+(1:Int))).toNat (List.drop 0 (List.take r2.1.toNat r1.2.1))) 0) r2.1.toNat (r2.2,c,())) (List.take ((zW zI (((List.length r1.2.1):Int)+(1:Int))).toNat-(zW zI (r2.1+(1:Int))).toNat) (List.drop r2.1.toNat (List.take (List.length r1.2.1) r1.2.1))) (zW zI (r2.1+(1:Int))).toNat)) then d (a.1,bE (List.set (bE (List.replicate (zW zI (((List.length r1.2.1):Int)+(1:Int))).toNat (0,bs [],())) (List.take (zW zI (((List.length r1.2.1):Int)+(1:Int))).toNat (List.drop 0 (List.take r2.1.toNat r1.2.1))) 0) r2.1.toNat (r2.2,c,())) (List.take ((zW zI (((List.length r1.2.1):Int)+(1:Int))).toNat-(zW zI (r2.1+(1:Int))).toNat) (List.drop r2.1.toNat (List.take (List.length r1.2.1) r1.2.1))) (zW zI (r2.1+(1:Int))).toNat,()) else none else none else none else none else none else none else none else none) else none else none else none else none else none else none
def gi(a:af)(b:Int)(c:ByteArray):Option af:=
 Oi a b c (fun a0=>some a0)
def Oc{R:Type}(a:ai)(b:af)(c:ay->Option R)(d:Int->ar->Int->Int->ai->ay->Option R):Option R:=
 (lC a).bind fun r1=>bif !decide (r1.1=0) then c (1,(-1:Int),()) else(iw b.1).bind fun r2=>bif !r2.2 then c (7,0,()) else bif !decide (r2.1=a.2.1) then c (7,0,()) else d 0 b.2.1 ((List.length b.2.1):Int) 0 a (0,0,())
def zv6{R:Type}(a:Int)(b:ar)(c d:Int)(e:ai)(f:ay)(g:ay->Option R)(h:Int->ar->Int->Int->ai->ay->Option R)(i:ay->Option R):Option R:=
 bif d<c then zd d (List.length b) (bif(List.getD b d.toNat (0,bs [],())).1<=a then g (11,(List.getD b d.toNat (0,bs [],())).1,()) else(eP e (List.getD b d.toNat (0,bs [],())).1).bind fun r3=>bif !r3.2 then g (9,(List.getD b d.toNat (0,bs [],())).1,()) else(bB r3.1 (List.getD b d.toNat (0,bs [],())).2.1).bind fun r4=>bif !decide (r4=0) then g (r4,(List.getD b d.toNat (0,bs [],())).1,()) else h (List.getD b d.toNat (0,bs [],())).1 b c (zW zI (d+1)) e f) else i f
def zv7{R:Type}(a:ay)(b:ay->Option R):Option R:=
 b a
def zv8{R:Type}(a:ay)(b:ay->Option R):Option R:=
 b (0,0,())
def KV:Nat->Int->ar->Int->Int->ai->ay->Option (Sum ay ay)
 |0,_,_,_,_,_,_=>none
 |k+1,v0,v1,v2,v3,v4,v5=>zv6 v0 v1 v2 v3 v4 v5 (fun a0=>some (.inl a0)) (fun a0 a1 a2 a3 a4 a5=>KV k a0 a1 a2 a3 a4 a5) (fun a0=>some (.inr a0))
def pg(a:ai)(b:af):Option ay:=
 Oc a b (fun a0=>some a0) (fun a0 a1 a2 a3 a4 a5=>(KV ae a0 a1 a2 a3 a4 a5).bind fun e=>Sum.elim (fun(we:ay)=>zv7 we (fun a0=>some a0)) (fun(we:ay)=>zv8 we (fun a0=>some a0)) e)
def Oh{R:Type}(a:af)(b:ar->Int->Int->ay->ay->Option R):Option R:=
 b a.2.1 ((List.length a.2.1):Int) 0 (0,0,()) (0,0,())
def zvd{R:Type}(a:ar)(b c:Int)(d e:ay)(f:ar->Int->Int->ay->ay->Option R)(g:ay->ay->Option R):Option R:=
 bif c<b then zd c (List.length a) ((wy e (List.getD a c.toNat (0,bs [],())).1).bind fun r1=>f a b (zW zI (c+1)) d r1) else g d e
def zve{R:Type}(a b:ay)(c:ay->Option R):Option R:=
 c b
def KY:Nat->ar->Int->Int->ay->ay->Option (ay×ay)
 |0,_,_,_,_,_=>none
 |k+1,v0,v1,v2,v3,v4=>zvd v0 v1 v2 v3 v4 (fun a0 a1 a2 a3 a4=>KY k a0 a1 a2 a3 a4) (fun a0 a1=>some (a0,a1))
def qG(a:af):Option ay:=
 Oh a (fun a0 a1 a2 a3 a4=>(KY ae a0 a1 a2 a3 a4).bind fun e=>zve e.1 e.2 (fun a0=>some a0))
def OT{R:Type}(a:bD)(b c:ai)(d:aj->aj->Int->Option R):Option R:=
 (eP b a.2.1).bind fun r1=>(eP c a.2.2.1).bind fun r2=>bif a.1=3 then bif a.1=2 then bif !decide (a.2.1=0) then d r1.1 r2.1 9 else bif !decide (a.2.2.1=0) then d r1.1 r2.1 9 else d r1.1 r2.1 0 else bif !decide (a.2.1=0) then d r1.1 r2.1 9 else bif !r2.2 then d r1.1 r2.1 9 else d r1.1 r2.1 0 else bif a.1=2 then bif !r1.2 then d r1.1 r2.1 9 else bif !decide (a.2.2.1=0) then d r1.1 r2.1 9 else d r1.1 r2.1 0 else bif !r1.2 then d r1.1 r2.1 9 else bif !r2.2 then d r1.1 r2.1 9 else d r1.1 r2.1 0
def qR(a:bD)(b c:ai):Option (aj×aj×Int):=
 OT a b c (fun a0 a1 a2=>some (a0,a1,a2))
def OU{R:Type}(a:aj)(b:Bool->Option R):Option R:=
 bif a.2.1=1 then b (decide (a.2.2.1=1)) else b false
def ix(a:aj):Option Bool:=
 OU a (fun a0=>some a0)
def OW{R:Type}(a:aP)(b c:aj)(d:Int->Option R)(e:aP->Int->Int->aj->aj->Option R):Option R:=
 (Ee a).bind fun r1=>bif !decide (r1.1=0) then d 15 else bif((List.length a):Int)=0 then d 15 else e a ((List.length a):Int) 0 b c
def zw1{R:Type}(a:aP)(b c:Int)(d e:aj)(f:Int->Option R)(g:aP->Int->Int->aj->aj->Option R)(h:Option R):Option R:=
 bif c<b then zd c (List.length a) ((bB d (List.getD a c.toNat (bs [],bs [],())).1).bind fun r2=>bif !decide (r2=0) then f r2 else(bB e (List.getD a c.toNat (bs [],bs [],())).2.1).bind fun r3=>bif !decide (r3=0) then f r3 else g a b (zW zI (c+1)) d e) else h
def zw2{R:Type}(a:Int)(b:Int->Option R):Option R:=
 b a
def zw3{R:Type}(a:Int->Option R):Option R:=
 a 0
def K6:Nat->aP->Int->Int->aj->aj->Option (Sum Int Unit)
 |0,_,_,_,_,_=>none
 |k+1,v0,v1,v2,v3,v4=>zw1 v0 v1 v2 v3 v4 (fun a0=>some (.inl a0)) (fun a0 a1 a2 a3 a4=>K6 k a0 a1 a2 a3 a4) (some (.inr ()))
def lB(a:aP)(b c:aj):Option Int:=
 OW a b c (fun a0=>some a0) (fun a0 a1 a2 a3 a4=>(K6 ae a0 a1 a2 a3 a4).bind fun e=>Sum.elim (fun(we:Int)=>zw2 we (fun a0=>some a0)) (fun(we:Unit)=>zw3 (fun a0=>some a0)) e)
def OS{R:Type}(a:bD)(b c:ai)(d:Int->Option R):Option R:=
 bif a.1<1 then d 1 else bif 5<a.1 then d 1 else(qR a b c).bind fun r1=>bif !decide (r1.2.2=0) then d r1.2.2 else bif !decide (a.2.2.2.1=bs []) then bif !decide (a.1=3) then d 3 else bif 0<((List.length a.2.2.2.2.1):Int) then bif !decide (a.1=5) then d 3 else bif a.1=1 then(kC r1.2.1 r1.1).bind fun r2=>bif !r2 then d 6 else d 0 else bif a.1=3 then(bB r1.2.1 a.2.2.2.1).bind fun r3=>d r3 else bif a.1=4 then(ix r1.1).bind fun r4=>bif !r4 then d 6 else(ix r1.2.1).bind fun r5=>bif !r5 then d 6 else d 0 else bif a.1=5 then(lB a.2.2.2.2.1 r1.1 r1.2.1).bind fun r6=>d r6 else d 0 else bif a.1=1 then(kC r1.2.1 r1.1).bind fun r7=>bif !r7 then d 6 else d 0 else bif a.1=3 then(bB r1.2.1 a.2.2.2.1).bind fun r8=>d r8 else bif a.1=4 then(ix r1.1).bind fun r9=>bif !r9 then d 6 else(ix r1.2.1).bind fun jF=>bif !jF then d 6 else d 0 else bif a.1=5 then(lB a.2.2.2.2.1 r1.1 r1.2.1).bind fun jv=>d jv else d 0 else bif 0<((List.length a.2.2.2.2.1):Int) then bif !decide (a.1=5) then d 3 else bif a.1=1 then(kC r1.2.1 r1.1).bind fun kR=>bif !kR then d 6 else d 0 else bif a.1=3 then(bB r1.2.1 a.2.2.2.1).bind fun jw=>d jw else bif a.1=4 then(ix r1.1).bind fun s9=>bif !s9 then d 6 else(ix r1.2.1).bind fun vq=>bif !vq then d 6 else d 0 else bif a.1=5 then(lB a.2.2.2.2.1 r1.1 r1.2.1).bind fun Ay=>d Ay else d 0 else bif a.1=1 then(kC r1.2.1 r1.1).bind fun Az=>bif !Az then d 6 else d 0 else bif a.1=3 then(bB r1.2.1 a.2.2.2.1).bind fun AA=>d AA else bif a.1=4 then(ix r1.1).bind fun sB=>bif !sB then d 6 else(ix r1.2.1).bind fun AB=>bif !AB then d 6 else d 0 else bif a.1=5 then(lB a.2.2.2.2.1 r1.1 r1.2.1).bind fun vr=>d vr else d 0
def mQ(a:bD)(b c:ai):Option Int:=
 OS a b c (fun a0=>some a0)
def OR{R:Type}(a:bD)(b:ai)(c:ByteArray)(d:cK->Int->Option R):Option R:=
 bif a.1=1 then d (a.2.2.1,c,()) 0 else bif a.1=2 then d (0,bs [],()) 0 else bif a.1=3 then d (a.2.2.1,a.2.2.2.1,()) 0 else bif a.1=4 then(eP b a.2.2.1).bind fun r1=>bif !r1.2 then d (0,bs [],()) 9 else(Ef c r1.1.2.2.2.1).bind fun r2=>bif !r2.2 then d (0,bs [],()) 5 else d (a.2.2.1,r2.1,()) 0 else bif a.1=5 then(Ed a.2.2.2.2.1 c).bind fun r3=>bif !r3.2 then d (0,bs [],()) 15 else d (a.2.2.1,r3.1,()) 0 else d (0,bs [],()) 1
def mP(a:bD)(b:ai)(c:ByteArray):Option (cK×Int):=
 OR a b c (fun a0 a1=>some (a0,a1))
def PR{R:Type}(a:eQ)(b c:ai)(d:Bool->Option R):Option R:=
 (iw a.1).bind fun r1=>(iw a.2.1).bind fun r2=>bif r1.2 then bif r2.2 then bif r1.1=b.2.1 then bif r2.1=c.2.1 then(mN a.1).bind fun r3=>(mN a.2.1).bind fun r4=>d (r3==r4) else d false else d false else d false else d false
def mU(a:eQ)(b c:ai):Option Bool:=
 PR a b c (fun a0=>some a0)
def PE{R:Type}(a:aE)(b c:ai)(d:mX->Int->Int->aE->ai->ai->Option R):Option R:=
 d ([b,c]:List ai) ((List.length ([b,c]:List ai)):Int) 0 a b c
def PF{R:Type}(a:mX)(b c:Int)(d:aE)(e f:ai)(g:Int->Int->Int->aE->ai->ai->Option R)(h:mX->Int->Int->aE->ai->ai->Option R)(i:aE->ai->ai->Option R):Option R:=
 bif c<b then zd c (List.length a) ((lC (List.getD a c.toNat (0,0,[],()))).bind fun r1=>bif !decide (r1.1=0) then g 1 1 c d e f else h a b (zW zI (c+1)) d e f) else i d e f
def zwx{R:Type}(a b c:Int)(d:aE)(e f:ai)(g:Int->Int->Int->Option R):Option R:=
 g a b c
def PG{R:Type}(a:aE)(b c:ai)(d:Int->Int->Int->Option R)(e:aP->Int->Int->aE->ai->ai->gk->Option R):Option R:=
 bif 256<((List.length a.1):Int) then d 5 2 256 else e a.1 ((List.length a.1):Int) 0 a b c []
def zwy{R:Type}(a:aP)(b c:Int)(d:aE)(e f:ai)(g:gk)(h:Int->Int->Int->aE->ai->ai->Option R)(i:aP->Int->Int->aE->ai->ai->gk->Option R)(j:aE->ai->ai->Option R):Option R:=
 bif c<b then zd c (List.length a) ((mU (List.getD a c.toNat (bs [],bs [],())) e f).bind fun r2=>bif !r2 then h (7:Int) (2:Int) c d e f else bif ea (ff .str) false g (List.getD a c.toNat (bs [],bs [],())).1 then h (10:Int) (2:Int) c d e f else bif eb (ff .str) g (List.getD a c.toNat (bs [],bs [],())).1 then none else i a b (zW zI (c+(1:Int))) d e f (g++ [((List.getD a c.toNat (bs [],bs [],())).1,true)])) else j d e f
def zwz{R:Type}(a b c:Int)(d:aE)(e f:ai)(g:Int->Int->Int->Option R):Option R:=
 g a b c
def PH{R:Type}(a:aE)(b c:ai)(d:Int->Int->Int->Option R)(e:cn->Int->Int->ai->ai->ay->ay->Option R):Option R:=
 bif 256<((List.length a.2.1):Int) then d 5 3 256 else e a.2.1 ((List.length a.2.1):Int) 0 b c (0,0,()) (0,0,())
def zx0{R:Type}(a:cn)(b c:Int)(d e:ai)(f g:ay)(h:Int->Int->Int->Option R)(i:cn->Int->Int->ai->ai->ay->ay->Option R)(j:Option R):Option R:=
 bif c<b then zd c (List.length a) ((mQ (List.getD a c.toNat (0,0,0,bs [],[],())) d e).bind fun r3=>bif !decide (r3=0) then h r3 3 c else(sW ([(List.getD a c.toNat (0,0,0,bs [],[],())).2.1]:List Int)).bind fun r4=>(sW ([(List.getD a c.toNat (0,0,0,bs [],[],())).2.2.1]:List Int)).bind fun r5=>(p9 f r4).bind fun r6=>bif !(decide (r6.1=0)&&(decide (r6.2.1=0)&&true)) then h 10 3 c else(p9 g r5).bind fun r7=>bif !(decide (r7.1=0)&&(decide (r7.2.1=0)&&true)) then h 10 3 c else(re f r4).bind fun r8=>(re g r5).bind fun r9=>i a b (zW zI (c+1)) d e r8 r9) else j
def zx1{R:Type}(a b c:Int)(d:Int->Int->Int->Option R):Option R:=
 d a b c
def zx2{R:Type}(a:Int->Int->Int->Option R):Option R:=
 a 0 0 0
def Dm:Nat->mX->Int->Int->aE->ai->ai->Option (Sum pF pE)
 |0,_,_,_,_,_,_=>none
 |k+1,v0,v1,v2,v3,v4,v5=>PF v0 v1 v2 v3 v4 v5 (fun a0 a1 a2 a3 a4 a5=>some (.inl (a0,a1,a2,a3,a4,a5))) (fun a0 a1 a2 a3 a4 a5=>Dm k a0 a1 a2 a3 a4 a5) (fun a0 a1 a2=>some (.inr (a0,a1,a2)))
def Dn:Nat->aP->Int->Int->aE->ai->ai->gk->Option (Sum pF pE)
 |0,_,_,_,_,_,_,_=>none
 |k+1,v0,v1,v2,v3,v4,v5,v6=>zwy v0 v1 v2 v3 v4 v5 v6 (fun a0 a1 a2 a3 a4 a5=>some (.inl (a0,a1,a2,a3,a4,a5))) (fun a0 a1 a2 a3 a4 a5 a6=>Dn k a0 a1 a2 a3 a4 a5 a6) (fun a0 a1 a2=>some (.inr (a0,a1,a2)))
def Le:Nat->cn->Int->Int->ai->ai->ay->ay->Option (Sum lJ Unit)
 |0,_,_,_,_,_,_,_=>none
 |k+1,v0,v1,v2,v3,v4,v5,v6=>zx0 v0 v1 v2 v3 v4 v5 v6 (fun a0 a1 a2=>some (.inl (a0,a1,a2))) (fun a0 a1 a2 a3 a4 a5 a6=>Le k a0 a1 a2 a3 a4 a5 a6) (some (.inr ()))
def pu(a:aE)(b c:ai):Option lJ:=
 PE a b c (fun a0 a1 a2 a3 a4 a5=>(Dm ae a0 a1 a2 a3 a4 a5).bind fun e=>Sum.elim (fun(we:pF)=>zwx we.1 we.2.1 we.2.2.1 we.2.2.2.1 we.2.2.2.2.1 we.2.2.2.2.2 (fun a0 a1 a2=>some (a0,a1,a2))) (fun(we:pE)=>PG we.1 we.2.1 we.2.2 (fun a0 a1 a2=>some (a0,a1,a2)) (fun a0 a1 a2 a3 a4 a5 a6=>(Dn ae a0 a1 a2 a3 a4 a5 a6).bind fun e=>Sum.elim (fun(we:pF)=>zwz we.1 we.2.1 we.2.2.1 we.2.2.2.1 we.2.2.2.2.1 we.2.2.2.2.2 (fun a0 a1 a2=>some (a0,a1,a2))) (fun(we:pE)=>PH we.1 we.2.1 we.2.2 (fun a0 a1 a2=>some (a0,a1,a2)) (fun a0 a1 a2 a3 a4 a5 a6=>(Le ae a0 a1 a2 a3 a4 a5 a6).bind fun e=>Sum.elim (fun(we:lJ)=>zx1 we.1 we.2.1 we.2.2 (fun a0 a1 a2=>some (a0,a1,a2))) (fun(we:Unit)=>zx2 (fun a0 a1 a2=>some (a0,a1,a2))) e)) e)) e)
def PQ{R:Type}(a:aE)(b:ByteArray)(c:ByteArray->aP->Int->Int->Option R):Option R:=
 c b a.1 ((List.length a.1):Int) 0
def zxd{R:Type}(a:ByteArray)(b:aP)(c d:Int)(e:ByteArray->Bool->Option R)(f:ByteArray->aP->Int->Int->Option R)(g:Option R):Option R:=
 bif d<c then zd d (List.length b) (bif(List.getD b d.toNat (bs [],bs [],())).1=a then e (List.getD b d.toNat (bs [],bs [],())).2.1 true else f a b c (zW zI (d+1))) else g
def zxe{R:Type}(a:ByteArray)(b:Bool)(c:ByteArray->Bool->Option R):Option R:=
 c a b
def zxf{R:Type}(a:ByteArray->Bool->Option R):Option R:=
 a (bs []) false
def Li:Nat->ByteArray->aP->Int->Int->Option (Sum hJ Unit)
 |0,_,_,_,_=>none
 |k+1,v0,v1,v2,v3=>zxd v0 v1 v2 v3 (fun a0 a1=>some (.inl (a0,a1))) (fun a0 a1 a2 a3=>Li k a0 a1 a2 a3) (some (.inr ()))
def q9(a:aE)(b:ByteArray):Option hJ:=
 PQ a b (fun a0 a1 a2 a3=>(Li ae a0 a1 a2 a3).bind fun e=>Sum.elim (fun(we:hJ)=>zxe we.1 we.2 (fun a0 a1=>some (a0,a1))) (fun(we:Unit)=>zxf (fun a0 a1=>some (a0,a1))) e)
def PN{R:Type}(a:aE)(b:Int)(c:Int->cn->Int->Int->bD->Option R):Option R:=
 c b a.2.1 ((List.length a.2.1):Int) 0 (0,0,0,bs [],[],())
def zx9{R:Type}(a:Int)(b:cn)(c d:Int)(e:bD)(f:Bool->bD->Option R)(g:Int->cn->Int->Int->bD->Option R)(h:bD->Option R):Option R:=
 bif d<c then zd d (List.length b) (bif(List.getD b d.toNat (0,0,0,bs [],[],())).2.1=a then f true (List.getD b d.toNat (0,0,0,bs [],[],())) else g a b c (zW zI (d+1)) e) else h e
def zxa{R:Type}(a:Bool)(b:bD)(c:bD->Bool->Option R):Option R:=
 c b a
def zxb{R:Type}(a:bD)(b:bD->Bool->Option R):Option R:=
 b (0,0,0,bs [],[],()) false
def Lh:Nat->Int->cn->Int->Int->bD->Option (Sum (Bool×bD) bD)
 |0,_,_,_,_,_=>none
 |k+1,v0,v1,v2,v3,v4=>zx9 v0 v1 v2 v3 v4 (fun a0 a1=>some (.inl (a0,a1))) (fun a0 a1 a2 a3 a4=>Lh k a0 a1 a2 a3 a4) (fun a0=>some (.inr a0))
def mT(a:aE)(b:Int):Option (bD×Bool):=
 PN a b (fun a0 a1 a2 a3 a4=>(Lh ae a0 a1 a2 a3 a4).bind fun e=>Sum.elim (fun(we:(Bool×bD))=>zxa we.1 we.2 (fun a0 a1=>some (a0,a1))) (fun(we:bD)=>zxb we (fun a0 a1=>some (a0,a1))) e)
def PK{R:Type}(a:aE)(b c:ai)(d:af)(e:af->ay->Option R)(f:cn->Int->Int->aE->ai->af->af->ay->af->Option R):Option R:=
 (pu a b c).bind fun r1=>bif !decide (r1.1=0) then e (bs [],[],()) (1,(-1:Int),()) else(pg b d).bind fun r2=>bif !decide (r2.1=0) then e (bs [],[],()) r2 else(q9 a d.1).bind fun r3=>bif !r3.2 then e (bs [],[],()) (7,0,()) else f a.2.1 ((List.length a.2.1):Int) 0 a c d (bs [],[],()) (0,0,()) (r3.1,[],())
def zx4{R:Type}(a:cn)(b c:Int)(d:aE)(e:ai)(f g:af)(h:ay)(i:af)(j:cn->Int->Int->aE->ai->af->af->ay->af->Option R)(l:aE->ai->af->af->ay->af->Option R):Option R:=
 bif c<b then zd c (List.length a) (bif(List.getD a c.toNat (0,0,0,bs [],[],())).1=3 then(gi i (List.getD a c.toNat (0,0,0,bs [],[],())).2.2.1 (List.getD a c.toNat (0,0,0,bs [],[],())).2.2.2.1).bind fun r4=>j a b (zW zI (c+1)) d e f g h r4 else j a b (zW zI (c+1)) d e f g h i) else l d e f g h i
def PL{R:Type}(a:aE)(b:ai)(c d:af)(e:ay)(f:af)(g:ar->Int->Int->aE->ai->af->ay->af->Option R):Option R:=
 g c.2.1 ((List.length c.2.1):Int) 0 a b d e f
def zx5{R:Type}(a:ar)(b c:Int)(d:aE)(e:ai)(f:af)(g:ay)(h:af)(i:af->ay->af->Option R)(j:ar->Int->Int->aE->ai->af->ay->af->Option R)(l:af->ay->af->Option R):Option R:=
 bif c<b then zd c (List.length a) ((mT d (List.getD a c.toNat (0,bs [],())).1).bind fun r5=>bif !r5.2 then i (bs [],[],()) (9,(List.getD a c.toNat (0,bs [],())).1,()) h else(mP r5.1 e (List.getD a c.toNat (0,bs [],())).2.1).bind fun r6=>bif !decide (r6.2=0) then i (bs [],[],()) (r6.2,(List.getD a c.toNat (0,bs [],())).1,()) h else bif !decide (r6.1.1=0) then(gi h r6.1.1 r6.1.2.1).bind fun r7=>j a b (zW zI (c+1)) d e f g r7 else j a b (zW zI (c+1)) d e f g h) else l f g h
def zx6{R:Type}(a:af)(b:ay)(c:af)(d:af->ay->Option R):Option R:=
 d a b
def zx7{R:Type}(a:af)(b:ay)(c:af)(d:af->ay->Option R):Option R:=
 d c (0,0,())
def Lf:Nat->cn->Int->Int->aE->ai->af->af->ay->af->Option (aE×ai×af×af×ay×af)
 |0,_,_,_,_,_,_,_,_,_=>none
 |k+1,v0,v1,v2,v3,v4,v5,v6,v7,v8=>zx4 v0 v1 v2 v3 v4 v5 v6 v7 v8 (fun a0 a1 a2 a3 a4 a5 a6 a7 a8=>Lf k a0 a1 a2 a3 a4 a5 a6 a7 a8) (fun a0 a1 a2 a3 a4 a5=>some (a0,a1,a2,a3,a4,a5))
def Lg:Nat->ar->Int->Int->aE->ai->af->ay->af->Option (Sum pD pD)
 |0,_,_,_,_,_,_,_,_=>none
 |k+1,v0,v1,v2,v3,v4,v5,v6,v7=>zx5 v0 v1 v2 v3 v4 v5 v6 v7 (fun a0 a1 a2=>some (.inl (a0,a1,a2))) (fun a0 a1 a2 a3 a4 a5 a6 a7=>Lg k a0 a1 a2 a3 a4 a5 a6 a7) (fun a0 a1 a2=>some (.inr (a0,a1,a2)))
def pw(a:aE)(b c:ai)(d:af):Option (af×ay):=
 PK a b c d (fun a0 a1=>some (a0,a1)) (fun a0 a1 a2 a3 a4 a5 a6 a7 a8=>(Lf ae a0 a1 a2 a3 a4 a5 a6 a7 a8).bind fun e=>PL e.1 e.2.1 e.2.2.1 e.2.2.2.1 e.2.2.2.2.1 e.2.2.2.2.2 (fun a0 a1 a2 a3 a4 a5 a6 a7=>(Lg ae a0 a1 a2 a3 a4 a5 a6 a7).bind fun e=>Sum.elim (fun(we:pD)=>zx6 we.1 we.2.1 we.2.2 (fun a0 a1=>some (a0,a1))) (fun(we:pD)=>zx7 we.1 we.2.1 we.2.2 (fun a0 a1=>some (a0,a1))) e))
def O9{R:Type}(a:(List Int))(b:Int)(c:(List Int)->Int->Int->Int->Option R):Option R:=
 c a b ((List.length a):Int) 0
def zwi{R:Type}(a:(List Int))(b c d:Int)(e:Int->Option R)(f:(List Int)->Int->Int->Int->Option R)(g:Option R):Option R:=
 bif d<c then zd d (List.length a) (bif b=List.getD a d.toNat 0 then e d else f a b c (zW zI (d+1))) else g
def zwj{R:Type}(a:Int)(b:Int->Option R):Option R:=
 b a
def zwk{R:Type}(a:Int->Option R):Option R:=
 a (-1:Int)
def Lb:Nat->(List Int)->Int->Int->Int->Option (Sum Int Unit)
 |0,_,_,_,_=>none
 |k+1,v0,v1,v2,v3=>zwi v0 v1 v2 v3 (fun a0=>some (.inl a0)) (fun a0 a1 a2 a3=>Lb k a0 a1 a2 a3) (some (.inr ()))
def tM(a:(List Int))(b:Int):Option Int:=
 O9 a b (fun a0 a1 a2 a3=>(Lb ae a0 a1 a2 a3).bind fun e=>Sum.elim (fun(we:Int)=>zwj we (fun a0=>some a0)) (fun(we:Unit)=>zwk (fun a0=>some a0)) e)
def O3{R:Type}(a:(List Int))(b:Int)(c:Bool->Option R):Option R:=
 (tM a b).bind fun r1=>c (decide (0<=r1))
def qT(a:(List Int))(b:Int):Option Bool:=
 O3 a b (fun a0=>some a0)
def OM{R:Type}(a:aB)(b:Int)(c:Int->Option R):Option R:=
 zd b (List.length a.2.2.1) ((eP a.1 (List.getD a.2.2.1 b.toNat (0:Int))).bind fun r1=>bif !r1.2 then c 9 else bif List.getD a.2.2.1 b.toNat 0=39 then c 1 else bif 0<=b then bif b<=(((List.length a.2.2.1):Nat):Int) then(qT (List.drop 0 (List.take b.toNat a.2.2.1)) (List.getD a.2.2.1 b.toNat (0:Int))).bind fun r2=>bif r2 then c 10 else c 0 else none else none)
def qP(a:aB)(b:Int):Option Int:=
 OM a b (fun a0=>some a0)
def OL{R:Type}(a b:cK)(c:Bool->cK->Option R):Option R:=
 c (decide (a.1=b.1)) b
def po(a b:cK):Option (Bool×cK):=
 OL a b (fun a0 a1=>some (a0,a1))
def O5{R:Type}(a:ar)(b:cK)(c:ar->Int->Int->cK->Option R):Option R:=
 c a ((List.length a):Int) 0 b
def zwa{R:Type}(a:ar)(b c:Int)(d:cK)(e:Int->cK->Option R)(f:ar->Int->Int->cK->Option R)(g:cK->Option R):Option R:=
 bif c<b then zd c (List.length a) ((po (List.getD a c.toNat (0,bs [],())) d).bind fun r1=>bif r1.1 then e c r1.2 else f a b (zW zI (c+1)) r1.2) else g d
def zwb{R:Type}(a:Int)(b:cK)(c:Int->cK->Option R):Option R:=
 c a b
def zwc{R:Type}(a:cK)(b:Int->cK->Option R):Option R:=
 b (-1:Int) a
def K9:Nat->ar->Int->Int->cK->Option (Sum (Int×cK) cK)
 |0,_,_,_,_=>none
 |k+1,v0,v1,v2,v3=>zwa v0 v1 v2 v3 (fun a0 a1=>some (.inl (a0,a1))) (fun a0 a1 a2 a3=>K9 k a0 a1 a2 a3) (fun a0=>some (.inr a0))
def tL(a:ar)(b:cK):Option (Int×cK):=
 O5 a b (fun a0 a1 a2 a3=>(K9 ae a0 a1 a2 a3).bind fun e=>Sum.elim (fun(we:(Int×cK))=>zwb we.1 we.2 (fun a0 a1=>some (a0,a1))) (fun(we:cK)=>zwc we (fun a0 a1=>some (a0,a1))) e)
def O2{R:Type}(a:ar)(b:cK)(c:Bool->cK->Option R):Option R:=
 (tL a b).bind fun r1=>c (decide (0<=r1.1)) r1.2
def qS(a:ar)(b:cK):Option (Bool×cK):=
 O2 a b (fun a0 a1=>some (a0,a1))
def OK{R:Type}(a:aB)(b:Int)(c:aj)(d:Int->Option R):Option R:=
 zd b (List.length a.2.2.2.1) (bif(List.getD a.2.2.2.1 b.toNat (0,bs [],())).1<0 then d 1 else bif 16<(List.getD a.2.2.2.1 b.toNat (0,bs [],())).1 then d 1 else bif 0<=b then bif b<=(((List.length a.2.2.2.1):Nat):Int) then(qS (List.drop 0 (List.take b.toNat a.2.2.2.1)) (List.getD a.2.2.2.1 b.toNat (0,bs [],()))).bind fun r1=>bif r1.1 then d 10 else(bB c r1.2.2.1).bind fun r2=>d r2 else none else none)
def qO(a:aB)(b:Int)(c:aj):Option Int:=
 OK a b c (fun a0=>some a0)
def OC{R:Type}(a:aB)(b:Int->Int->Int->Option R)(c:Int->Int->aB->aj->Option R):Option R:=
 (lC a.1).bind fun r1=>bif !decide (r1.1=0) then b 1 1 0 else(eP a.1 (39:Int)).bind fun r2=>bif !r2.2 then b 9 1 1 else c ((List.length a.2.2.1):Int) 0 a r2.1
def K3{R:Type}(a b:Int)(c:aB)(d:aj)(e:Int->Int->Int->aB->aj->Option R)(f:Int->Int->aB->aj->Option R)(g:aB->aj->Option R):Option R:=
 bif b<a then(qP c b).bind fun r3=>bif !decide (r3=0) then e r3 2 b c d else f a (zW zI (b+1)) c d else g c d
def zvo{R:Type}(a b c:Int)(d:aB)(e:aj)(f:Int->Int->Int->Option R):Option R:=
 f a b c
def OD{R:Type}(a:aB)(b:aj)(c:Bool->ar->Int->Int->aB->aj->Option R):Option R:=
 c false a.2.2.2.1 ((List.length a.2.2.2.1):Int) 0 a b
def K4{R:Type}(a:Bool)(b:ar)(c d:Int)(e:aB)(f:aj)(g:Int->Int->Int->Bool->aB->Option R)(h:Bool->ar->Int->Int->aB->aj->Option R)(i:Bool->aB->Option R):Option R:=
 bif d<c then zd d (List.length b) ((qO e d f).bind fun r4=>bif !decide (r4=0) then g r4 3 d a e else bif a then h true b c (zW zI (d+1)) e f else h (decide ((List.getD b d.toNat (0,bs [],())).1=0)) b c (zW zI (d+1)) e f) else i a e
def zvp{R:Type}(a b c:Int)(d:Bool)(e:aB)(f:Int->Int->Int->Option R):Option R:=
 f a b c
def OE{R:Type}(a:Bool)(b:aB)(c:Int->Int->Int->Option R):Option R:=
 bif !a then c 15 3 ((List.length b.2.2.2.1):Int) else c 0 0 0
def B3:Nat->Int->Int->aB->aj->Option (Sum (Int×Int×Int×aB×aj) (aB×aj))
 |0,_,_,_,_=>none
 |k+1,v0,v1,v2,v3=>K3 v0 v1 v2 v3 (fun a0 a1 a2 a3 a4=>some (.inl (a0,a1,a2,a3,a4))) (fun a0 a1 a2 a3=>B3 k a0 a1 a2 a3) (fun a0 a1=>some (.inr (a0,a1)))
def B4:Nat->Bool->ar->Int->Int->aB->aj->Option (Sum (Int×Int×Int×Bool×aB) (Bool×aB))
 |0,_,_,_,_,_,_=>none
 |k+1,v0,v1,v2,v3,v4,v5=>K4 v0 v1 v2 v3 v4 v5 (fun a0 a1 a2 a3 a4=>some (.inl (a0,a1,a2,a3,a4))) (fun a0 a1 a2 a3 a4 a5=>B4 k a0 a1 a2 a3 a4 a5) (fun a0 a1=>some (.inr (a0,a1)))
def qM(a:aB):Option lJ:=
 OC a (fun a0 a1 a2=>some (a0,a1,a2)) (fun a0 a1 a2 a3=>(B3 ae a0 a1 a2 a3).bind fun e=>Sum.elim (fun(we:(Int×Int×Int×aB×aj))=>zvo we.1 we.2.1 we.2.2.1 we.2.2.2.1 we.2.2.2.2 (fun a0 a1 a2=>some (a0,a1,a2))) (fun(we:(aB×aj))=>OD we.1 we.2 (fun a0 a1 a2 a3 a4 a5=>(B4 ae a0 a1 a2 a3 a4 a5).bind fun e=>Sum.elim (fun(we:(Int×Int×Int×Bool×aB))=>zvp we.1 we.2.1 we.2.2.1 we.2.2.2.1 we.2.2.2.2 (fun a0 a1 a2=>some (a0,a1,a2))) (fun(we:(Bool×aB))=>OE we.1 we.2 (fun a0 a1 a2=>some (a0,a1,a2))) e)) e)
def OI{R:Type}(a:aB)(b:Int)(c:(List Int)->Int->Int->aB->Option R):Option R:=
 c ([b,0]:List Int) ((List.length ([b,(0:Int)]:List Int)):Int) 0 a
def K5{R:Type}(a:(List Int))(b c:Int)(d:aB)(e:Int->(List Int)->Int->Int->ar->Int->Int->aB->Option R)(f:Option R):Option R:=
 bif c<b then zd c (List.length a) (e (List.getD a c.toNat 0) a b c d.2.2.2.1 ((List.length d.2.2.2.1):Int) 0 d) else f
def zvs{R:Type}(a:ByteArray->Option R):Option R:=
 a (bs [])
def zvt{R:Type}(a:Int)(b:(List Int))(c d:Int)(e:ar)(f g:Int)(h:aB)(i:ByteArray->(List Int)->Int->Int->aB->Option R)(j:Int->(List Int)->Int->Int->ar->Int->Int->aB->Option R)(l:(List Int)->Int->Int->aB->Option R):Option R:=
 bif g<f then zd g (List.length e) (bif(List.getD e g.toNat (0,bs [],())).1=a then i (List.getD e g.toNat (0,bs [],())).2.1 b c d h else j a b c d e f (zW zI (g+1)) h) else l b c d h
def zvu{R:Type}(a:ByteArray)(b:(List Int))(c d:Int)(e:aB)(f:ByteArray->Option R):Option R:=
 f a
def OJ{R:Type}(a:(List Int))(b c:Int)(d:aB)(e:(List Int)->Int->Int->aB->Option R):Option R:=
 e a b (zW zI (c+1)) d
def zvv{R:Type}(a:ByteArray)(b:ByteArray->Option R):Option R:=
 b a
def Dg:Nat->Int->(List Int)->Int->Int->ar->Int->Int->aB->Option (Sum (ByteArray×(List Int)×Int×Int×aB) ((List Int)×Int×Int×aB))
 |0,_,_,_,_,_,_,_,_=>none
 |k+1,v0,v1,v2,v3,v4,v5,v6,v7=>zvt v0 v1 v2 v3 v4 v5 v6 v7 (fun a0 a1 a2 a3 a4=>some (.inl (a0,a1,a2,a3,a4))) (fun a0 a1 a2 a3 a4 a5 a6 a7=>Dg k a0 a1 a2 a3 a4 a5 a6 a7) (fun a0 a1 a2 a3=>some (.inr (a0,a1,a2,a3)))
def ym:Nat->(List Int)->Int->Int->aB->Option (Sum Unit ByteArray)
 |0,_,_,_,_=>none
 |k+1,v0,v1,v2,v3=>K5 v0 v1 v2 v3 (fun a0 a1 a2 a3 a4 a5 a6 a7=>(Dg ae a0 a1 a2 a3 a4 a5 a6 a7).bind fun e=>Sum.elim (fun(we:(ByteArray×(List Int)×Int×Int×aB))=>zvu we.1 we.2.1 we.2.2.1 we.2.2.2.1 we.2.2.2.2 (fun a0=>some (.inr a0))) (fun(we:((List Int)×Int×Int×aB))=>OJ we.1 we.2.1 we.2.2.1 we.2.2.2 (fun a0 a1 a2 a3=>ym k a0 a1 a2 a3)) e) (some (.inl ()))
def qN(a:aB)(b:Int):Option ByteArray:=
 OI a b (fun a0 a1 a2 a3=>(ym ae a0 a1 a2 a3).bind fun e=>Sum.elim (fun(we:Unit)=>zvs (fun a0=>some a0)) (fun(we:ByteArray)=>zvv we (fun a0=>some a0)) e)
def Oy{R:Type}(a:aB)(b:af)(c:ay)(d:af->Bool->Option R)(e:(List Int)->Int->Int->aB->af->ay->af->af->Option R):Option R:=
 (qJ b.1).bind fun r1=>bif !r1.2 then d (bs [],[],()) false else e a.2.2.1 ((List.length a.2.2.1):Int) 0 a b c (bs [],[],()) (r1.1,[],())
def zvl{R:Type}(a:(List Int))(b c:Int)(d:aB)(e:af)(f:ay)(g h:af)(i:(List Int)->Int->Int->aB->af->ay->af->af->Option R)(j:aB->ay->af->af->Option R):Option R:=
 bif c<b then zd c (List.length a) ((mM e (List.getD a c.toNat (0:Int))).bind fun r2=>bif r2.2 then(gi h (List.getD a c.toNat 0) r2.1).bind fun r3=>i a b (zW zI (c+1)) d e f g r3 else i a b (zW zI (c+1)) d e f g h) else j d f g h
def Oz{R:Type}(a:aB)(b:ay)(c d:af)(e:af->Bool->Option R):Option R:=
 (qN a b.1).bind fun r4=>(gi d 39 r4).bind fun r5=>e r5 true
def K2:Nat->(List Int)->Int->Int->aB->af->ay->af->af->Option (aB×ay×af×af)
 |0,_,_,_,_,_,_,_,_=>none
 |k+1,v0,v1,v2,v3,v4,v5,v6,v7=>zvl v0 v1 v2 v3 v4 v5 v6 v7 (fun a0 a1 a2 a3 a4 a5 a6 a7=>K2 k a0 a1 a2 a3 a4 a5 a6 a7) (fun a0 a1 a2 a3=>some (a0,a1,a2,a3))
def qL(a:aB)(b:af)(c:ay):Option (af×Bool):=
 Oy a b c (fun a0 a1=>some (a0,a1)) (fun a0 a1 a2 a3 a4 a5 a6 a7=>(K2 ae a0 a1 a2 a3 a4 a5 a6 a7).bind fun e=>Oz e.1 e.2.1 e.2.2.1 e.2.2.2 (fun a0 a1=>some (a0,a1)))
def Pg{R:Type}(a:ai)(b:ByteArray)(c:ByteArray->Int->Int->Option R):Option R:=
 bif a.1=2 then(Q2 (4:Int)).bind fun r1=>bif(b.size:Int)<r1 then c (bs []) 0 2 else bif 0<=r1 then bif r1<=(b.size:Int) then bif a.1=2 then(Q0 (b.extract 0 r1.toNat) (4:Int)).bind fun r2=>(iw r2.1).bind fun r3=>bif !r3.2 then c (bs []) 0 7 else bif !decide (r3.1=a.2.1) then c (bs []) 0 7 else c r2.1 r1 0 else(iw (b.extract 0 r1.toNat)).bind fun r4=>bif !r4.2 then c (bs []) 0 7 else bif !decide (r4.1=a.2.1) then c (bs []) 0 7 else c (b.extract 0 r1.toNat) r1 0 else none else none else bif(b.size:Int)<4 then c (bs []) 0 2 else bif 4<=(b.size:Int) then bif a.1=2 then(Q0 (b.extract 0 ((4:Int)).toNat) (4:Int)).bind fun r5=>(iw r5.1).bind fun r6=>bif !r6.2 then c (bs []) 0 7 else bif !decide (r6.1=a.2.1) then c (bs []) 0 7 else c r5.1 4 0 else(iw (b.extract 0 ((4:Int)).toNat)).bind fun r7=>bif !r7.2 then c (bs []) 0 7 else bif !decide (r7.1=a.2.1) then c (bs []) 0 7 else c (b.extract 0 ((4:Int)).toNat) 4 0 else none
def qV(a:ai)(b:ByteArray):Option iA:=
 Pg a b (fun a0 a1 a2=>some (a0,a1,a2))
def Pf{R:Type}(a:ai)(b:ByteArray)(c:af->ay->Option R)(d:ByteArray->Int->Int->ai->af->ay->af->ay->Option R):Option R:=
 (lC a).bind fun r1=>bif !decide (r1.1=0) then c (bs [],[],()) (1,(-1:Int),()) else(qV a b).bind fun r2=>bif !decide (r2.2.2=0) then c (bs [],[],()) (r2.2.2,0,()) else(Q5 a.1 b r2.2.1).bind fun r3=>bif !decide (r3.2.2=0) then c (r2.1,[],()) (r3.2.2,1,()) else(CG r3.1 (0:Int)).bind fun r4=>d b r3.2.1 r4 a (bs [],[],()) (0,0,()) (r2.1,[],()) r3.1
def Lc{R:Type}(a:ByteArray)(b c:Int)(d:ai)(e:af)(f:ay)(g:af)(h:ay)(i:ByteArray->Int->af->ay->af->Option R)(j:ByteArray->Int->Int->ai->af->ay->af->ay->Option R)(l:ByteArray->Int->af->ay->af->Option R):Option R:=
 bif !decide (c=0) then(eP d c).bind fun r5=>bif !r5.2 then i a b g (9,c,()) g else(D1 d.1 r5.1 a b).bind fun r6=>bif !decide (r6.2.2=0) then i a b g (r6.2.2,c,()) g else bif(List.length g.2.1+List.length ([(c,r6.1,())]:List cK))*24<=140737488355328 then(CG h c).bind fun r7=>j a r6.2.1 r7 d e f (g.1,g.2.1++([(c,r6.1,())]:List cK),()) h else none else l a b e f g
def zwm{R:Type}(a:ByteArray)(b:Int)(c:af)(d:ay)(e:af)(f:af->ay->Option R):Option R:=
 f c d
def zwn{R:Type}(a:ByteArray)(b:Int)(c:af)(d:ay)(e:af)(f:af->ay->Option R):Option R:=
 bif b<(a.size:Int) then f e (12,129,()) else f e (0,0,())
def B6:Nat->ByteArray->Int->Int->ai->af->ay->af->ay->Option (Sum iz iz)
 |0,_,_,_,_,_,_,_,_=>none
 |k+1,v0,v1,v2,v3,v4,v5,v6,v7=>Lc v0 v1 v2 v3 v4 v5 v6 v7 (fun a0 a1 a2 a3 a4=>some (.inl (a0,a1,a2,a3,a4))) (fun a0 a1 a2 a3 a4 a5 a6 a7=>B6 k a0 a1 a2 a3 a4 a5 a6 a7) (fun a0 a1 a2 a3 a4=>some (.inr (a0,a1,a2,a3,a4)))
def pr(a:ai)(b:ByteArray):Option (af×ay):=
 Pf a b (fun a0 a1=>some (a0,a1)) (fun a0 a1 a2 a3 a4 a5 a6 a7=>(B6 ae a0 a1 a2 a3 a4 a5 a6 a7).bind fun e=>Sum.elim (fun(we:iz)=>zwm we.1 we.2.1 we.2.2.1 we.2.2.2.1 we.2.2.2.2 (fun a0 a1=>some (a0,a1))) (fun(we:iz)=>zwn we.1 we.2.1 we.2.2.1 we.2.2.2.1 we.2.2.2.2 (fun a0 a1=>some (a0,a1))) e)
def PA{R:Type}(a:Int)(b:ByteArray)(c:ByteArray->Bool->Option R):Option R:=
 (mO b).bind fun r1=>bif !r1 then c (bs []) false else bif a=1 then c b true else bif a=2 then(Q1 b).bind fun r2=>c r2.1 r2.2 else c (bs []) false
def q7(a:Int)(b:ByteArray):Option hJ:=
 PA a b (fun a0 a1=>some (a0,a1))
def Pz{R:Type}(a b:ByteArray)(c:ByteArray->Option R):Option R:=
 (MP b a).bind fun r1=>c r1.2
def iR(a b:ByteArray):Option ByteArray:=
 Pz a b (fun a0=>some a0)
def Py{R:Type}(a:ai)(b:af)(c:ByteArray->ay->Option R)(d:ar->Int->Int->ai->ay->ByteArray->Option R):Option R:=
 (pg a b).bind fun r1=>bif !decide (r1.1=0) then c (bs []) r1 else(q7 a.1 b.1).bind fun r2=>(iR r2.1 (bs [])).bind fun r3=>(qG b).bind fun r4=>(Q6 a.1 r4).bind fun r5=>(iR r5.1 r3).bind fun r6=>d b.2.1 ((List.length b.2.1):Int) 0 a (0,0,()) r6
def zws{R:Type}(a:ar)(b c:Int)(d:ai)(e:ay)(f:ByteArray)(g:ar->Int->Int->ai->ay->ByteArray->Option R)(h:ay->ByteArray->Option R):Option R:=
 bif c<b then zd c (List.length a) ((eP d (List.getD a c.toNat (0,bs [],())).1).bind fun r7=>(yI d.1 r7.1 (List.getD a c.toNat (0,bs [],())).2.1).bind fun r8=>(iR r8.1 f).bind fun r9=>g a b (zW zI (c+1)) d e r9) else h e f
def zwt{R:Type}(a:ay)(b:ByteArray)(c:ByteArray->ay->Option R):Option R:=
 (z55 b).bind fun jF=>c jF.1 (0,0,())
def Ld:Nat->ar->Int->Int->ai->ay->ByteArray->Option (ay×ByteArray)
 |0,_,_,_,_,_,_=>none
 |k+1,v0,v1,v2,v3,v4,v5=>zws v0 v1 v2 v3 v4 v5 (fun a0 a1 a2 a3 a4 a5=>Ld k a0 a1 a2 a3 a4 a5) (fun a0 a1=>some (a0,a1))
def mS(a:ai)(b:af):Option (ByteArray×ay):=
 Py a b (fun a0 a1=>some (a0,a1)) (fun a0 a1 a2 a3 a4 a5=>(Ld ae a0 a1 a2 a3 a4 a5).bind fun e=>zwt e.1 e.2 (fun a0 a1=>some (a0,a1)))
def OO{R:Type}(a:er)(b:Int->Int->Int->Option R)(c:lK->Int->er->Option R):Option R:=
 bif a.2.1<1 then b 5 2 0 else bif 65535<a.2.1 then b 5 2 0 else c a.1 0 a
def Dh{R:Type}(a:lK)(b:Int)(c:er)(d:Int->Int->Int->Option R)(e:lK->Int->er->Option R)(f:Option R):Option R:=
 bif b<2 then zd b 2 ((qM (List.getD a b.toNat ((0,0,[],()),([],[],()),[],[],()))).bind fun r1=>bif !decide (r1.1=0) then d r1.1 b 1 else zd (zW zI (1-b)) 2 ((pu (List.getD a b.toNat ((0,0,[],()),([],[],()),[],[],())).2.1 (List.getD a b.toNat ((0,0,[],()),([],[],()),[],[],())).1 (List.getD c.1 (zW zI (1-b)).toNat ((0,0,[],()),([],[],()),[],[],())).1).bind fun r2=>bif !decide (r2.1=0) then d r2.1 b 2 else e a (zW zI (b+1)) c)) else f
def zvx{R:Type}(a b c:Int)(d:Int->Int->Int->Option R):Option R:=
 d a b c
def zvy{R:Type}(a:Int->Int->Int->Option R):Option R:=
 a 0 0 0
def B5:Nat->lK->Int->er->Option (Sum lJ Unit)
 |0,_,_,_=>none
 |k+1,v0,v1,v2=>Dh v0 v1 v2 (fun a0 a1 a2=>some (.inl (a0,a1,a2))) (fun a0 a1 a2=>B5 k a0 a1 a2) (some (.inr ()))
def pq(a:er):Option lJ:=
 OO a (fun a0 a1 a2=>some (a0,a1,a2)) (fun a0 a1 a2=>(B5 ae a0 a1 a2).bind fun e=>Sum.elim (fun(we:lJ)=>zvx we.1 we.2.1 we.2.2 (fun a0 a1 a2=>some (a0,a1,a2))) (fun(we:Unit)=>zvy (fun a0 a1 a2=>some (a0,a1,a2))) e)
def OQ{R:Type}(a:af)(b:ay)(c:aB)(d:er)(e:Int->ByteArray->Option R):Option R:=
 (qL c a b).bind fun r1=>bif !r1.2 then e 3 (bs []) else(mS c.1 r1.1).bind fun r2=>bif r2.1=bs [] then e 3 (bs []) else bif d.2.1<(r2.1.size:Int) then e 3 (bs []) else e 2 r2.1
def jL(a:af)(b:ay)(c:aB)(d:er):Option Sy:=
 OQ a b c d (fun a0 a1=>some (a0,a1))
def OP{R:Type}(a:er)(b:Int)(c:ByteArray)(d:Int->ByteArray->Option R):Option R:=
 (pq a).bind fun r1=>bif !decide (r1.1=0) then d 0 (bs []) else bif b<0 then d 0 (bs []) else bif 1<b then d 0 (bs []) else zd b 2 (zd (zW zI (1-b)) 2 ((pr (List.getD a.1 b.toNat ((0,0,[],()),([],[],()),[],[],())).1 c).bind fun r2=>bif !decide (r2.2.1=0) then(jL r2.1 r2.2 (List.getD a.1 b.toNat ((0,0,[],()),([],[],()),[],[],())) a).bind fun r3=>d r3.1 r3.2 else(pw (List.getD a.1 b.toNat ((0,0,[],()),([],[],()),[],[],())).2.1 (List.getD a.1 b.toNat ((0,0,[],()),([],[],()),[],[],())).1 (List.getD a.1 (zW zI (1-b)).toNat ((0,0,[],()),([],[],()),[],[],())).1 r2.1).bind fun r4=>bif !decide (r4.2.1=0) then(jL r2.1 r4.2 (List.getD a.1 b.toNat ((0,0,[],()),([],[],()),[],[],())) a).bind fun r5=>d r5.1 r5.2 else(mS (List.getD a.1 (zW zI (1-b)).toNat ((0,0,[],()),([],[],()),[],[],())).1 r4.1).bind fun r6=>bif a.2.1<(r6.1.size:Int) then(jL r2.1 (5,129,()) (List.getD a.1 b.toNat ((0,0,[],()),([],[],()),[],[],())) a).bind fun r7=>d r7.1 r7.2 else d 1 r6.1))
def lz(a:er)(b:Int)(c:ByteArray):Option Sy:=
 OP a b c (fun a0 a1=>some (a0,a1))
def A3{R:Type}(a:Bool->Option R):Option R:=
 yK.bind fun r1=>(lz r1 0 (bs [48,56,48,48,48,48,50,48,48,48,48,48,48,48,48,48,48,48,48,48,48,48,48,48,48,49])).bind fun r2=>(lz r1 0 (bs [48,56,48,48,48,48,50,48,48,48,48,48,48,48,48,48,48,48,48,48,48,48,48,48,48])).bind fun r3=>(lz r1 0 (bs [48,56,49,48,120])).bind fun r4=>(pq r1).bind fun r5=>bif r2.1=1 then bif r2.2=bs [24,4,0,32,0,64,0,0,0,0,0,0,1,89,153] then bif r3.1=2 then bif r3.2=bs [48,56,49,48,48,48,48,48,48,48,48,48,48,50,48,48,48,48,48,48,51,48] then bif r4.1=3 then bif r4.2=bs [] then bif r5.1=0 then bif r5.2.1=0 then a (decide (r5.2.2=0)) else a false else a false else a false else a false else a false else a false else a false else a false
def yN:Option Bool:=
 A3 (fun a0=>some a0)
def Rq{R:Type}(a:er)(b:Int)(c:ByteArray)(d:Bool->Option R):Option R:=
 yN.bind fun r1=>bif !r1 then yN.bind fun r2=>d r2 else(pd a).bind fun r3=>bif r3 then yN.bind fun r4=>d r4 else bif 3000<(c.size:Int) then yN.bind fun r5=>d r5 else(lz a b c).bind fun r6=>bif !decide (r6.1=1) then d (!decide (r6.1=1)) else bif b<0 then d (!decide (r6.1=1)) else bif 1<b then d (!decide (r6.1=1)) else zd (zW zI (1-b)) 2 ((pf (List.getD a.1 (zW zI (1-b)).toNat ((0,0,[],()),([],[],()),[],[],())).1 r6.2).bind fun r7=>bif r7.2 then zd (zW zI (1-b)) 2 ((pc (List.getD a.1 (zW zI (1-b)).toNat ((0,0,[],()),([],[],()),[],[],())).1 r7.1).bind fun r8=>bif r6.2=r8 then bif(r6.2.size:Int)<=a.2.1 then d (decide (0<(r6.2.size:Int))) else d false else d false) else d false)
def Eu(a:er)(b:Int)(c:ByteArray):Option Bool:=
 Rq a b c (fun a0=>some a0)
end bu

namespace bu
open Go.IntKind renaming wrap->zW,i64->zI,u8->zU
theorem zT{p:Prop}[Decidable p](h:p):decide p=true:=_root_.decide_eq_true h
theorem zF{p:Prop}[Decidable p](h:¬p):decide p=false:=_root_.decide_eq_false h
theorem zC{α:Type}{a b:α}:(bif true then a else b)=a:=rfl
theorem zD{α:Type}{a b:α}:(bif false then a else b)=b:=rfl
open Go Go.Ref
theorem zq:ae=18446744073709551616:=by unfold ae;rfl
theorem zj:maxLen=9223372036854775807:=rfl
theorem zg{x:Int}(h1: -9223372036854775808<=x)(h2:x<=9223372036854775807):zW zI x=x:=BM h1 h2
theorem tz{n:Nat}(h:n<=9223372036854775807):zW zI (n:Int)=n:=BM (by omega) (by omega)
theorem zr{j:Nat}(h:j<9223372036854775807):zW zI ((j:Int)+1)=((j+1:Nat):Int):=by
 rw[BM (by omega) (by omega)];rfl
theorem Jt(x:Int):IntKind.u64.wrap x=x % 18446744073709551616:=by
 simp [IntKind.wrap,IntKind.signed,IntKind.bits]
theorem agY(x:Int):zW zU x=x % 256:=by
 simp [IntKind.wrap,IntKind.signed,IntKind.bits]
theorem agX{x:Int}(h1:0<=x)(h2:x<18446744073709551616):IntKind.u64.wrap x=x:=by rw[Jt];omega
theorem sK{x:Int}(h1:0<=x)(h2:x<256):zW zU x=x:=by rw[agY];omega
theorem zi{R:Type}{j n:Nat}{x:Option R}(h:j<n):zd (j:Int) n x=x:=ZV h
theorem zm{R:Type}{i:Int}{n:Nat}{x:Option R}(h0:0<=i)(h:i<n):zd i n x=x:=by
 unfold zd
 rw[zT h0,zT h];rfl
theorem aeP{R:Type}{p:Prop}[Decidable p](x y:R):(bif decide p then x else y)=if p then x else y:=by
 by_cases h:p<;>simp [h]
def bl(s:ByteArray):List Int:=s.data.toList.map fun b=>(b.toNat:Int)
theorem qt{a b:ByteArray}(h:bl a=bl b):a=b:=by
 apply ByteArray.ext
 apply Array.ext'
 unfold bl at h
 have:Function.Injective (fun b:UInt8=>(b.toNat:Int)):=fun x y xP=>UInt8.toNat_inj.1 (Int.ofNat.inj xP)
 exact(List.map_inj_right (fun x y h=>this h)).1 h
theorem FR{a b:ByteArray}:a=b↔bl a=bl b:=⟨fun h=>by rw[h],qt⟩
theorem zh(s:ByteArray):(bl s).length=s.size:=by unfold bl;rw[List.length_map];rfl
theorem sQ(a b:ByteArray):bl (a++b)=bl a++bl b:=by simp [bl,ByteArray.data_append]
theorem z24(s:ByteArray)(i j:Nat):bl (s.extract i j)=((bl s).take j).drop i:=by
 unfold bl
 rw[ByteArray.data_extract,Array.toList_extract,List.extract_eq_drop_take',List.map_drop,List.map_take]
theorem mC(s:ByteArray)(i:Nat):ze s i=(bl s).getD i 0:=by
 unfold ze bl
 split
 ·rename_i h
  have h':i<s.data.toList.length:=h
  rw[List.getD_eq_getElem?_getD,List.getElem?_map,List.getElem?_eq_getElem h']
  rfl
 ·rename_i h
  have h':s.data.toList.length<=i:=Nat.le_of_not_lt h
  rw[List.getD_eq_getElem?_getD,List.getElem?_eq_none (by simpa using h')]
  rfl
def zn(n:Int):Prop:=0<=n/\n<256
theorem gN{s:ByteArray}{x:Int}(h:x∈bl s):zn x:=by
 unfold bl at h
 obtain⟨b,_,rfl⟩:=List.mem_map.1 h
 have:=b.toNat_lt
 unfold zn
 omega
theorem pW{xs:List Int}(h:∀x∈xs,zn x):bl (strOf xs)=xs:=by
 simp only[bl,strOf,List.map_map]
 conv=>rhs;rw[<-List.map_id xs]
 apply List.map_congr_left
 intro x hx
 have:=h x hx
 unfold zn at this
 simp only[Function.comp,id]
 rw[UInt8.toNat_ofNat_of_lt' (by show x.toNat<256;omega)]
 omega
theorem yk(s:ByteArray):strOf (bl s)=s:=qt (pW fun x hx=>gN hx)
theorem xp{l:List Nat}(h:∀x∈l,x<256):bl (bs l)=l.map (fun n:Nat=>(n:Int)):=by
 simp only[bl,bs,List.map_map]
 apply List.map_congr_left
 intro x hx
 have:=h x hx
 simp only[Function.comp]
 rw[UInt8.toNat_ofNat_of_lt' (by show x<256;omega)]
theorem zo8:bl (bs [])=[]:=rfl
theorem zc7{s:ByteArray}:s=bs []↔bl s=[]:=by rw[FR,zo8]
theorem kZ(xs:List Int):(strOf xs).size=xs.length:=by rw[<-zh];unfold bl strOf;simp
section
variable {α σ ρ:Type}
end
end bu
namespace bu
open Go.IntKind renaming wrap->zW,i64->zI,u8->zU
open Go Go.Ref
section
variable {α σ ρ:Type}
def bc(g:Int->α->σ->(σ->Option ρ)->Option ρ)(fin:σ->Option ρ):List α->Int->σ->Option ρ
 | [],_,s=>fin s
 |x::r,i,s=>g i x s fun s'=>bc g fin r (i+1) s'
theorem J7(d:α)(xs:List α)(hlen:xs.length<=9223372036854775807)(g:Int->α->σ->(σ->Option ρ)->Option ρ)(fin:σ->Option ρ)(L:Nat->Int->σ->Option ρ)
 (step:∀k (i:Int) s,L (k+1) i s=bif decide (i<(xs.length:Int)) then zd i xs.length (g i (xs.getD i.toNat d) s fun s'=>L k (zW zI (i+1)) s') else fin s):
 ∀(m j k:Nat) (s:σ),j+m=xs.length->m<k->L k j s=bc g fin (xs.drop j) j s
 |0,j,k,s,hj,hk=>by
  obtain⟨k,rfl⟩:∃k',k=k'+1:=⟨k-1,by omega⟩
  rw[step,zF (by omega),List.drop_eq_nil_of_le (by omega)];rfl
 |m+1,j,k,s,hj,hk=>by
  obtain⟨k,rfl⟩:∃k',k=k'+1:=⟨k-1,by omega⟩
  have ap:j<xs.length:=by omega
  rw[step,zT (by omega),zC,zi ap,List.drop_eq_getElem_cons ap,bc]
  have hx:xs.getD ((j:Int)).toNat d=xs[j]:=by rw[Int.toNat_natCast,List.getD_eq_getElem?_getD,List.getElem?_eq_getElem ap];rfl
  rw[hx]
  congr 1
  funext s'
  rw[zr (by omega),J7 d xs hlen g fin L step m (j+1) k s' (by omega) (by omega)]
  rfl
theorem cm(d:α)(xs:List α)(hlen:xs.length<=maxLen)(g:Int->α->σ->(σ->Option ρ)->Option ρ)(fin:σ->Option ρ)(L:Nat->Int->σ->Option ρ)
 (step:∀k (i:Int) s,L (k+1) i s=bif decide (i<(xs.length:Int)) then zd i xs.length (g i (xs.getD i.toNat d) s fun s'=>L k (zW zI (i+1)) s') else fin s) (s:σ):L ae 0 s=bc g fin xs 0 s:=by
 rw[zj] at hlen
 have:=J7 d xs hlen g fin L step xs.length 0 ae s (by omega) (by rw[zq];omega)
 rw[List.drop_zero] at this
 exact this
theorem J8(d:α)(xs:List α)(hlen:xs.length<=9223372036854775807)(g:Int->α->σ->(σ->Option ρ)->Option ρ)(fin:σ->Option ρ)(L:Nat->Int->σ->Option ρ)
 (step:∀k (i:Int) s,0<=i->i<(xs.length:Int)->L (k+1) i s=g i (xs.getD i.toNat d) s fun s'=>L k (zW zI (i+1)) s') (stop:∀k s,L (k+1) (xs.length:Int) s=fin s):
 ∀(m j k:Nat) (s:σ),j+m=xs.length->m<k->L k j s=bc g fin (xs.drop j) j s
 |0,j,k,s,hj,hk=>by
  obtain⟨k,rfl⟩:∃k',k=k'+1:=⟨k-1,by omega⟩
  have:j=xs.length:=by omega
  subst this
  rw[stop,List.drop_length];rfl
 |m+1,j,k,s,hj,hk=>by
  obtain⟨k,rfl⟩:∃k',k=k'+1:=⟨k-1,by omega⟩
  have ap:j<xs.length:=by omega
  rw[step k j s (by omega) (by omega),List.drop_eq_getElem_cons ap,bc]
  have hx:xs.getD ((j:Int)).toNat d=xs[j]:=by rw[Int.toNat_natCast,List.getD_eq_getElem?_getD,List.getElem?_eq_getElem ap];rfl
  rw[hx]
  congr 1
  funext s'
  rw[zr (by omega),J8 d xs hlen g fin L step stop m (j+1) k s' (by omega) (by omega)]
  rfl
theorem l5(d:α)(xs:List α)(hlen:xs.length<=maxLen)(g:Int->α->σ->(σ->Option ρ)->Option ρ)(fin:σ->Option ρ)(L:Nat->Int->σ->Option ρ)
 (step:∀k (i:Int) s,0<=i->i<(xs.length:Int)->L (k+1) i s=g i (xs.getD i.toNat d) s fun s'=>L k (zW zI (i+1)) s') (stop:∀k s,L (k+1) (xs.length:Int) s=fin s) (s:σ):L ae 0 s=bc g fin xs 0 s:=by
 rw[zj] at hlen
 have:=J8 d xs hlen g fin L step stop xs.length 0 ae s (by omega) (by rw[zq];omega)
 rw[List.drop_zero] at this
 exact this
end
end bu

namespace bu
open Go.IntKind renaming wrap->zW,i64->zI,u8->zU
open Go Go.Ref
theorem yf(n a:Nat)(h:a<2^n):(BitVec.ofInt n (a:Int)).toNat=a:=by
 rw[BitVec.toNat_ofInt]
 have h2:((a:Int)% ((2^n:Nat):Int))=((a % 2^n:Nat):Int):=by rfl
 rw[h2,Int.toNat_natCast,Nat.mod_eq_of_lt h]
theorem Dy{a:Nat}(h:a<18446744073709551616):IntKind.u64.wrap (a:Int)=a:=agX (by omega) (by omega)
theorem lL{a b:Nat}(ha:a<18446744073709551616)(hb:b<18446744073709551616):aD .and .u64 a b=((a&&&b:Nat):Int):=by
 simp only[aD,BitVec.toNat_and,yf IntKind.u64.bits a ha,yf IntKind.u64.bits b hb]
 exact Dy (Nat.lt_of_le_of_lt Nat.and_le_left ha)
theorem vn{a b:Nat}(ha:a<18446744073709551616)(hb:b<18446744073709551616):aD .or .u64 a b=((a|||b:Nat):Int):=by
 simp only[aD,BitVec.toNat_or,yf IntKind.u64.bits a ha,yf IntKind.u64.bits b hb]
 exact Dy (Nat.or_lt_two_pow (n:=64) ha hb)
theorem abR{a b:Nat}(ha:a<18446744073709551616)(hb:b<18446744073709551616):aD .andNot .u64 a b=((a&&&(18446744073709551615-b):Nat):Int):=by
 simp only[aD,BitVec.toNat_and,BitVec.toNat_not,yf IntKind.u64.bits a ha,yf IntKind.u64.bits b hb]
 have:2^IntKind.u64.bits-1-b=18446744073709551615-b:=rfl
 rw[this]
 exact Dy (Nat.lt_of_le_of_lt Nat.and_le_left ha)
theorem aeM{a b:Nat}(ha:a<9223372036854775808)(hb:b<9223372036854775808):aD .and .i64 a b=((a&&&b:Nat):Int):=by
 simp only[aD,BitVec.toNat_and,yf IntKind.i64.bits a (Nat.lt_trans ha (by decide)),yf IntKind.i64.bits b (Nat.lt_trans hb (by decide))]
 have:=Nat.lt_of_le_of_lt (Nat.and_le_left (n:=a) (m:=b)) ha
 exact tz (by omega)
theorem KG(a:Nat)(k:Nat)(hk:k<=64):Int.fdiv (a:Int) (2^min ((k:Int)).toNat 64)=((a/2^k:Nat):Int):=by
 rw[Int.fdiv_eq_ediv_of_nonneg _ (Int.pow_nonneg (by decide)),Int.toNat_natCast,Nat.min_eq_left hk]
 rfl
section
variable {c0 c1 c2 c3 c4 c5 c6 c7:Nat}
end
def zy(x:Nat):Nat:=if x=0 then 0 else x.log2+1
theorem MV(x:Nat):x<2^zy x/\(x≠0->2^(zy x-1)<=x/\1<=zy x):=by
 unfold zy
 split
 ·simp_all
 ·rename_i h
  exact⟨Nat.lt_log2_self,fun _=>⟨by simpa using Nat.log2_self_le h,by omega⟩⟩
theorem Vc{x L:Nat}(h1:x<2^L)(h2:L≠0->2^(L-1)<=x):zy x=L:=by
 obtain⟨g1,g2⟩:=MV x
 by_cases hx:x=0
 ·subst hx
  by_cases hL:L=0
  ·rw[hL];rfl
  ·have:=h2 hL
   have:=Nat.two_pow_pos (L-1)
   omega
 ·obtain⟨g3,g4⟩:=g2 hx
  rcases Nat.lt_trichotomy (zy x) L with h|h|h
  ·have:=h2 (by omega)
   have:2^zy x<=2^(L-1):=Nat.pow_le_pow_right (by decide) (by omega)
   omega
  ·exact h
  ·have:2^L<=2^(zy x-1):=Nat.pow_le_pow_right (by decide) (by omega)
   omega
theorem z8w{x k:Nat}(h:2^k<=x):zy x=zy (x/2^k)+k:=by
 have hp:=Nat.two_pow_pos k
 have hq:x/2^k≠0:=by
  have:=Nat.div_pos h hp
  omega
 obtain⟨g1,g2⟩:=MV (x/2^k)
 obtain⟨g3,g4⟩:=g2 hq
 apply Vc
 ·rw[Nat.pow_add]
  exact(Nat.div_lt_iff_lt_mul hp).1 g1
 ·intro _
  have:zy (x/2^k)+k-1=(zy (x/2^k)-1)+k:=by omega
  rw[this,Nat.pow_add]
  exact(Nat.le_div_iff_mul_le hp).1 g3
def kv:List Nat:=[0,1,2,2,3,3,3,3,4,4,4,4,4,4,4,4,5,5,5,5,5,5,5,5,5,5,5,5,5,5,5,5]++List.replicate 32 6++List.replicate 64 7++List.replicate 128 8
theorem ac0:∀c:Fin 256,kv.getD c.1 0=zy c.1:=by decide+kernel
def xT(x:Int):Option Int:=
 let t:Int->Int->Option Int:=fun n x=>zd (zW zU x) (bs kv).size (some (zW zI (n+zW zI (ze (bs kv) (zW zU x).toNat))))
 let c:Int->Int->Option Int:=fun n x=>bif decide ((256:Int)<=x) then t (zW zI (n+8)) (Int.fdiv x (2^min ((8:Int)).toNat 64)) else t n x
 let b:Int->Int->Option Int:=fun n x=>bif decide ((65536:Int)<=x) then c (zW zI (n+16)) (Int.fdiv x (2^min ((16:Int)).toNat 64)) else c n x
 bif decide ((4294967296:Int)<=x) then b 32 (Int.fdiv x (2^min ((32:Int)).toNat 64)) else b 0 x
theorem VF(x:Int):qF x=xT x:=by kernel_rfl
theorem Zb(c:Nat)(h:c<256):ze (bs kv) c=((zy c:Nat):Int):=by
 rw[mC,xp (by decide+kernel),<-ac0 ⟨c,h⟩,List.getD_eq_getElem?_getD,List.getElem?_map,List.getD_eq_getElem?_getD]
 cases kv[c]? <;>rfl
theorem zyg{x k:Nat}(h:x<2^k):zy x<=k:=by
 by_cases hx:x=0
 ·subst hx;simp [zy]
 ·obtain⟨g3,g4⟩:=(MV x).2 hx
  rcases Nat.lt_or_ge k (zy x) with h1|h1
  ·have:2^k<=2^(zy x-1):=Nat.pow_le_pow_right (by decide) (by omega)
   omega
  ·exact h1
theorem aac(x:Nat)(hx:x<18446744073709551616):qF x=some ((zy x:Nat):Int):=by
 rw[VF]
 unfold xT
 simp only
 have ht:∀(n:Nat) (c:Nat),n<=100->c<256->zd (zW zU (c:Int)) (bs kv).size (some (zW zI ((n:Int)+zW zI (ze (bs kv) (zW zU (c:Int)).toNat))))=some (((n+zy c:Nat):Int)):=by
  intro n c hn hc
  have hl:(bs kv).size=256:=by rw[<-zh,xp (by decide+kernel)];rfl
  have hb:=zyg (k:=8) hc
  rw[sK (by omega) (by omega),hl,zi hc,Int.toNat_natCast,Zb c hc,tz (by omega),zg (by omega) (by omega)]
  rfl
 have f8:∀a:Nat,Int.fdiv (a:Int) (2^min ((8:Int)).toNat 64)=((a/2^8:Nat):Int):=fun a=>KG a 8 (by omega)
 have f16:∀a:Nat,Int.fdiv (a:Int) (2^min ((16:Int)).toNat 64)=((a/2^16:Nat):Int):=fun a=>KG a 16 (by omega)
 have f32:∀a:Nat,Int.fdiv (a:Int) (2^min ((32:Int)).toNat 64)=((a/2^32:Nat):Int):=fun a=>KG a 32 (by omega)
 have hc:∀(n:Nat) (y:Nat),n<=48->y<65536->(bif decide ((256:Int)<=(y:Int)) then zd (zW zU (Int.fdiv (y:Int) (2^min ((8:Int)).toNat 64))) (bs kv).size (some (zW zI (zW zI ((n:Int)+8)+zW zI (ze (bs kv) (zW zU (Int.fdiv (y:Int) (2^min ((8:Int)).toNat 64))).toNat)))) else zd (zW zU (y:Int)) (bs kv).size (some (zW zI ((n:Int)+zW zI (ze (bs kv) (zW zU (y:Int)).toNat)))))=some (((n+zy y:Nat):Int)):=by
  intro n y hn hy
  by_cases h:256<=y
  ·rw[zT (by omega),zC,f8,zg (x:=(n:Int)+8) (by omega) (by omega)]
   have:=ht (n+8) (y/2^8) (by omega) (by omega)
   rw[show((n:Int)+8)=((n+8:Nat):Int) from rfl,this,z8w (k:=8) h]
   congr 2;omega
  ·rw[zF (by omega),zD]
   exact ht n y (by omega) (by omega)
 have hb:∀(n:Nat) (y:Nat),n<=32->y<4294967296->(bif decide ((65536:Int)<=(y:Int)) then(bif decide ((256:Int)<=Int.fdiv (y:Int) (2^min ((16:Int)).toNat 64)) then zd (zW zU (Int.fdiv (Int.fdiv (y:Int) (2^min ((16:Int)).toNat 64)) (2^min ((8:Int)).toNat 64))) (bs kv).size (some (zW zI (zW zI (zW zI ((n:Int)+16)+8)+zW zI (ze (bs kv) (zW zU (Int.fdiv (Int.fdiv (y:Int) (2^min ((16:Int)).toNat 64)) (2^min ((8:Int)).toNat 64))).toNat)))) else zd (zW zU (Int.fdiv (y:Int) (2^min ((16:Int)).toNat 64))) (bs kv).size (some (zW zI (zW zI ((n:Int)+16)+zW zI (ze (bs kv) (zW zU (Int.fdiv (y:Int) (2^min ((16:Int)).toNat 64))).toNat))))) else
  (bif decide ((256:Int)<=(y:Int)) then zd (zW zU (Int.fdiv (y:Int) (2^min ((8:Int)).toNat 64))) (bs kv).size (some (zW zI (zW zI ((n:Int)+8)+zW zI (ze (bs kv) (zW zU (Int.fdiv (y:Int) (2^min ((8:Int)).toNat 64))).toNat)))) else zd (zW zU (y:Int)) (bs kv).size (some (zW zI ((n:Int)+zW zI (ze (bs kv) (zW zU (y:Int)).toNat))))))=some (((n+zy y:Nat):Int)):=by
  intro n y hn hy
  by_cases h:65536<=y
  ·rw[zT (by omega),zC,f16,zg (x:=(n:Int)+16) (by omega) (by omega)]
   have:=hc (n+16) (y/2^16) (by omega) (by omega)
   rw[show((n:Int)+16)=((n+16:Nat):Int) from rfl,this,z8w (k:=16) h]
   congr 2;omega
  ·rw[zF (by omega),zD]
   exact hc n y (by omega) (by omega)
 by_cases h:4294967296<=x
 ·rw[zT (by omega),zC,f32]
  have:=hb 32 (x/2^32) (by omega) (by omega)
  rw[show((32:Nat):Int)=32 from rfl] at this
  rw[this,z8w (k:=32) h]
  congr 2;omega
 ·rw[zF (by omega),zD]
  have:=hb 0 x (by omega) (by omega)
  rw[show((0:Nat):Int)=0 from rfl] at this
  rw[this]
  congr 2;omega
theorem z9a(x:Nat)(hx:x<18446744073709551616):ly x=some (((64-zy x:Nat)):Int):=by
 unfold ly Oa
 have:=zyg (k:=64) hx
 rw[aac x hx,zc,zg (by omega) (by omega)]
 congr 1;omega
end bu

namespace bu
open Go.IntKind renaming wrap->zW,i64->zI,u8->zU
open Go Go.Ref
abbrev tE:=Int×Int×Unit
abbrev cz:Nat:=18446744073709551616
def bh(h l:Nat)(n:Int):Bool:=
 if 1<=n/\n<=64 then h.testBit (64-n).toNat else if 65<=n/\n<=128 then l.testBit (128-n).toNat else false
def gn(n:Int):Nat:=if 1<=n/\n<=64 then 2^(64-n).toNat else 0
def gu(n:Int):Nat:=if 65<=n/\n<=128 then 2^(128-n).toNat else 0
theorem zok{k:Nat}(h:k<64):2^k<cz:=Nat.pow_lt_pow_right (by decide) h
theorem PT(n:Int):gn n<cz:=by
 unfold gn;split
 ·exact zok (by omega)
 ·decide
theorem PU(n:Int):gu n<cz:=by
 unfold gu;split
 ·exact zok (by omega)
 ·decide
theorem Jo{k:Nat}(h:k<64):IntKind.u64.wrap ((1:Int)*2^min k 64)=((2^k:Nat):Int):=by
 rw[Nat.min_eq_left (by omega),Int.one_mul]
 have:=zok h
 have e:((2:Int)^k)=((2^k:Nat):Int):=by simp
 rw[e]
 exact Dy this
theorem JY(n:Int):CH n=some ((gn n:Int),(gu n:Int),()):=by
 unfold CH Rp gn gu
 by_cases h1:n<1
 ·rw[zT h1,if_neg (by omega),if_neg (by omega)];rfl
 rw[zF h1,zD]
 by_cases h2:128<n
 ·rw[zT h2,if_neg (by omega),if_neg (by omega)];rfl
 rw[zF h2,zD]
 by_cases h3:n<=64
 ·rw[zT h3,zC,zg (by omega) (by omega),zF (by omega),zD,Jo (by omega),if_pos (by omega),if_neg (by omega)];rfl
 ·rw[zF h3,zD,zg (by omega) (by omega),zF (by omega),zD,Jo (by omega),if_neg (by omega),if_pos (by omega)];rfl
theorem z8t(h k:Nat):(h&&&2^k=0)↔h.testBit k=false:=by
 constructor
 ·intro e
  have:=congrArg (fun x=>x.testBit k) e
  simpa [Nat.testBit_and,Nat.testBit_two_pow] using this
 ·intro e
  apply Nat.eq_of_testBit_eq
  intro i
  rw[Nat.testBit_and,Nat.testBit_two_pow]
  by_cases hi:k=i
  ·subst hi;simp [e]
  ·simp [hi]
theorem afq(h l:Nat)(hh:h<cz)(hl:l<cz)(n:Int):En ((h:Int),(l:Int),()) n=some (bh h l n):=by
 unfold En Rm p9 LA
 rw[JY,zc,lL hh (PT n),lL hl (PU n),zc]
 congr 1
 simp only[Bool.and_true]
 have e:∀a:Nat,decide ((a:Int)=0)=decide (a=0):=fun a=>decide_eq_decide.2 (by omega)
 rw[e,e]
 unfold gn gu bh
 by_cases h1:1<=n/\n<=64
 ·rw[if_pos h1,if_pos h1,if_neg (by omega)]
  have:=z8t h (64-n).toNat
  cases hb:h.testBit (64-n).toNat with
  |false=>simp [this.2 hb]
  |true=>simp;intro hz;exact absurd (this.1 hz) (by simp [hb])
 ·rw[if_neg h1,if_neg h1]
  by_cases h2:65<=n/\n<=128
  ·rw[if_pos h2,if_pos h2]
   have:=z8t l (128-n).toNat
   cases hb:l.testBit (128-n).toNat with
   |false=>simp [this.2 hb]
   |true=>simp;intro hz;exact absurd (this.1 hz) (by simp [hb])
  ·rw[if_neg h2,if_neg h2];simp
theorem zd2(h l h' l':Nat)(hh:h<cz)(hl:l<cz)(Ag:h'<cz)(u6:l'<cz):re ((h:Int),(l:Int),()) ((h':Int),(l':Int),())=some (((h|||h':Nat):Int),((l|||l':Nat):Int),()):=by
 unfold re Rl
 rw[vn hh Ag,vn hl u6]
theorem Iw(h l h' l':Nat)(hh:h<cz)(hl:l<cz)(Ag:h'<cz)(u6:l'<cz):p9 ((h:Int),(l:Int),()) ((h':Int),(l':Int),())=some (((h&&&h':Nat):Int),((l&&&l':Nat):Int),()):=by
 unfold p9 LA
 rw[lL hh Ag,lL hl u6]
theorem IZ(h l:Nat)(hh:h<cz)(hl:l<cz)(n:Int):wy ((h:Int),(l:Int),()) n=some (((h|||gn n:Nat):Int),((l|||gu n:Nat):Int),()):=by
 unfold wy Ro
 rw[JY,zc,zd2 h l _ _ hh hl (PT n) (PU n)];rfl
theorem oQ{a b:Nat}(ha:a<cz)(hb:b<cz):a|||b<cz:=Nat.or_lt_two_pow (n:=64) ha hb
theorem JW{a b:Nat}(ha:a<cz):a&&&b<cz:=Nat.lt_of_le_of_lt Nat.and_le_left ha
theorem agS(h l h' l':Nat)(n:Int):bh (h|||h') (l|||l') n=(bh h l n||bh h' l' n):=by
 unfold bh;split
 ·rw[Nat.testBit_or]
 ·split
  ·rw[Nat.testBit_or]
  ·rfl
theorem I5(h l h' l':Nat)(n:Int):bh (h&&&h') (l&&&l') n=(bh h l n&&bh h' l' n):=by
 unfold bh;split
 ·rw[Nat.testBit_and]
 ·split
  ·rw[Nat.testBit_and]
  ·rfl
def fY(n:Int):Bool:=decide (1<=n/\n<=128)
theorem ae9(m n:Int):bh (gn m) (gu m) n=(decide (m=n)&&fY n):=by
 unfold bh gn gu fY
 by_cases h1:1<=n/\n<=64
 ·rw[if_pos h1]
  by_cases h2:1<=m/\m<=64
  ·rw[if_pos h2,Nat.testBit_two_pow,zT (p:=1<=n/\n<=128) (by omega),Bool.and_true]
   exact decide_eq_decide.2 (by omega)
  ·rw[if_neg h2,zF (by omega:¬m=n)];simp
 ·rw[if_neg h1]
  by_cases h3:65<=n/\n<=128
  ·rw[if_pos h3]
   by_cases h2:65<=m/\m<=128
   ·rw[if_pos h2,Nat.testBit_two_pow,zT (p:=1<=n/\n<=128) (by omega),Bool.and_true]
    exact decide_eq_decide.2 (by omega)
   ·rw[if_neg h2,zF (by omega:¬m=n)];simp
  ·rw[if_neg h3,zF (p:=1<=n/\n<=128) (by omega),Bool.and_false]
theorem HX(h l:Nat)(m n:Int):bh (h|||gn m) (l|||gu m) n=(bh h l n||(decide (m=n)&&fY n)):=by rw[agS,ae9]
theorem zgu{h l:Nat}{n:Int}(hh:bh h l n=true):1<=n/\n<=128:=by
 unfold bh at hh
 split at hh
 ·omega
 ·split at hh
  ·omega
  ·cases hh
theorem Ls{h l h' l':Nat}(hh:h<cz)(hl:l<cz)(Ag:h'<cz)(u6:l'<cz)(e:∀n:Int,1<=n->n<=128->bh h l n=bh h' l' n):h=h'/\l=l':=by
 constructor
 ·apply Nat.eq_of_testBit_eq
  intro i
  by_cases hi:i<64
  ·have:=e (64-i) (by omega) (by omega)
   unfold bh at this
   rw[if_pos (by omega),if_pos (by omega)] at this
   have e2:(64-(64-(i:Int))).toNat=i:=by omega
   rwa [e2] at this
  ·rw[Nat.testBit_lt_two_pow (Nat.lt_of_lt_of_le hh (Nat.pow_le_pow_right (n:=2) (by decide) (by omega:64<=i))),Nat.testBit_lt_two_pow (Nat.lt_of_lt_of_le Ag (Nat.pow_le_pow_right (n:=2) (by decide) (by omega:64<=i)))]
 ·apply Nat.eq_of_testBit_eq
  intro i
  by_cases hi:i<64
  ·have:=e (128-i) (by omega) (by omega)
   unfold bh at this
   have h1:¬(1<=128-(i:Int)/\128-(i:Int)<=64):=by omega
   have h2:65<=128-(i:Int)/\128-(i:Int)<=128:=by omega
   rw[if_neg h1,if_pos h2,if_neg h1,if_pos h2] at this
   have e2:(128-(128-(i:Int))).toNat=i:=by omega
   rwa [e2] at this
  ·rw[Nat.testBit_lt_two_pow (Nat.lt_of_lt_of_le hl (Nat.pow_le_pow_right (n:=2) (by decide) (by omega:64<=i))),Nat.testBit_lt_two_pow (Nat.lt_of_lt_of_le u6 (Nat.pow_le_pow_right (n:=2) (by decide) (by omega:64<=i)))]
def bz(l:List Int):Nat:=l.foldl (fun a n=>a|||gn n) 0
def bI(l:List Int):Nat:=l.foldl (fun a n=>a|||gu n) 0
theorem zsp(f:Int->Nat)(hf:∀n,f n<cz)(l:List Int):∀a,a<cz->l.foldl (fun a n=>a|||f n) a<cz:=by
 induction l with
 |nil=>intro a h;exact h
 |cons x r ih=>intro a h;exact ih _ (oQ h (hf x))
theorem lp(l:List Int):bz l<cz:=zsp _ PT l 0 (by decide)
theorem mr(l:List Int):bI l<cz:=zsp _ PU l 0 (by decide)
theorem aco(l:List Int):∀(a b:Nat) (n:Int),bh (l.foldl (fun a n=>a|||gn n) a) (l.foldl (fun a n=>a|||gu n) b) n=(bh a b n||(decide (n∈l)&&fY n)):=by
 induction l with
 |nil=>intro a b n;simp
 |cons x r ih=>
  intro a b n
  rw[List.foldl_cons,List.foldl_cons,ih,HX]
  by_cases h1:x=n
  ·subst h1;cases fY x<;>simp
  ·have:n≠x:=fun e=>h1 e.symm
   simp [h1,this]
theorem qq(l:List Int)(n:Int):bh (bz l) (bI l) n=(decide (n∈l)&&fY n):=by
 unfold bz bI
 rw[aco]
 have:bh 0 0 n=false:=by unfold bh;simp
 rw[this];simp
theorem afc(xs:List Int)(hx:xs.length<=9223372036854775807)(b0:tE):∀(n j k:Nat) (a b:Nat),j+n=xs.length->n<k->a<cz->b<cz->
 yu k xs (xs.length:Int) j b0 ((a:Int),(b:Int),())=some (b0,((((xs.drop j).foldl (fun a n=>a|||gn n) a:Nat):Int),(((xs.drop j).foldl (fun a n=>a|||gu n) b:Nat):Int),())):=by
 intro n
 induction n with
 |zero=>
  intro j k a b hj hk ha hb
  obtain⟨k,rfl⟩:∃k',k=k'+1:=⟨k-1,by omega⟩
  rw[yu,Lz,zF (by omega),List.drop_eq_nil_of_le (by omega)];rfl
 |succ n ih=>
  intro j k a b hj hk ha hb
  obtain⟨k,rfl⟩:∃k',k=k'+1:=⟨k-1,by omega⟩
  have ap:j<xs.length:=by omega
  have GJ:xs.getD ((j:Int)).toNat 0=xs[j]:=by rw[Int.toNat_natCast,List.getD_eq_getElem?_getD,List.getElem?_eq_getElem ap];rfl
  rw[yu,Lz,zT (by omega),zC,zi ap,GJ,IZ a b ha hb,zc,zr (by omega),ih (j+1) k _ _ (by omega) (by omega) (oQ ha (PT _)) (oQ hb (PU _)),List.drop_eq_getElem_cons ap]
  rfl
theorem wl(xs:List Int)(hx:xs.length<=maxLen):sW xs=some ((bz xs:Int),(bI xs:Int),()):=by
 rw[zj] at hx
 unfold sW Rj
 have:=afc xs hx (0,0,()) xs.length 0 ae 0 0 (by omega) (by rw[zq];omega) (by decide) (by decide)
 simp only[Rk]
 have e:yu ae xs (xs.length:Int) 0 (0,0,()) (0,0,())=_:=this
 rw[e];rfl
def l8:List Int:=(List.range 128).map fun k:Nat=>((k+1:Nat):Int)
theorem acD(n:Int):n∈l8↔1<=n/\n<=128:=by
 unfold l8
 constructor
 ·intro h
  obtain⟨k,hk,rfl⟩:=List.mem_map.1 h
  have:=List.mem_range.1 hk
  omega
 ·intro h
  exact List.mem_map.2 ⟨(n-1).toNat,List.mem_range.2 (by omega),by omega⟩
theorem Wd:l8.Pairwise (· < ·):=by
 unfold l8
 exact List.Pairwise.map _ (fun a b h=>by omega) List.pairwise_lt_range
def elems(h l:Nat):List Int:=l8.filter (bh h l)
theorem yh(h l:Nat)(n:Int):n∈elems h l↔bh h l n=true:=by
 unfold elems
 rw[List.mem_filter,acD]
 exact⟨fun h=>h.2,fun h=>⟨zgu h,h⟩⟩
theorem MS(h l:Nat):(elems h l).Pairwise (· < ·):=Wd.filter _
def gE(h l:Nat)(n:Int):Int:=((elems h l).filter fun m=>decide (n<m)).headD 0
def Qc(h l:Nat)(n r:Int):Prop:=(r=0/\∀m,n<m->bh h l m=false)\/(n<r/\bh h l r=true/\∀m,n<m->m<r->bh h l m=false)
theorem acE(h l:Nat)(n:Int):Qc h l n (gE h l n):=by
 unfold gE
 cases hf:(elems h l).filter fun m=>decide (n<m) with
 |nil=>
  left
  refine⟨rfl,fun m hm=> ?_⟩
  cases hb:bh h l m with
  |false=>rfl
  |true=>
   have:m∈(elems h l).filter fun m=>decide (n<m):=List.mem_filter.2 ⟨(yh h l m).2 hb,by simpa using hm⟩
   rw[hf] at this;cases this
 |cons x r=>
  right
  have hx:x∈(elems h l).filter fun m=>decide (n<m):=by rw[hf];simp
  obtain⟨h1,h2⟩:=List.mem_filter.1 hx
  refine⟨by simpa using h2,(yh h l x).1 h1,fun m hm hmx=> ?_⟩
  cases hb:bh h l m with
  |false=>rfl
  |true=>
   have fG:m∈(elems h l).filter fun m=>decide (n<m):=List.mem_filter.2 ⟨(yh h l m).2 hb,by simpa using hm⟩
   have hs:=(MS h l).filter (fun m=>decide (n<m))
   rw[hf] at fG hs
   rcases List.mem_cons.1 fG with e|e
   ·simp only[List.headD_cons] at hmx;omega
   ·have:=(List.pairwise_cons.1 hs).1 m e
    simp only[List.headD_cons] at hmx;omega
theorem Vl{h l:Nat}{n r q:Int}(h1:Qc h l n r)(h2:Qc h l n q):r=q:=by
 rcases h1 with⟨e,a⟩|⟨e,a,b⟩<;>rcases h2 with⟨e',a'⟩|⟨e',a',b'⟩
 ·rw[e,e']
 ·rw[a q e'] at a';cases a'
 ·rw[a' r e] at a;cases a
 ·rcases Int.lt_trichotomy r q with h|h|h
  ·rw[b' r e h] at a;cases a
  ·exact h
  ·rw[b q e' h] at a';cases a'
theorem Hq(x n:Nat)(hx:x<cz)(hn:n<=64):
 (x*2^n % cz=0/\∀i,i<64-n->x.testBit i=false)\/
 (x*2^n % cz≠0/\zy (x*2^n % cz)<=64/\n<zy (x*2^n % cz)/\x.testBit (zy (x*2^n % cz)-1-n)=true/\∀i,zy (x*2^n % cz)-1-n<i->i<64-n->x.testBit i=false):=by
 have hb:∀i,(x*2^n % cz).testBit i=(decide (i<64)&&(decide (n<=i)&&x.testBit (i-n))):=by
  intro i
  rw[show cz=2^64 from rfl,Nat.testBit_mod_two_pow,Nat.testBit_mul_two_pow]
 generalize x*2^n % cz=r at hb
 have hr:∀i,i<64-n->x.testBit i=r.testBit (i+n):=by
  intro i hi
  rw[hb,zT (by omega),zT (by omega),Nat.add_sub_cancel];rfl
 by_cases h0:r=0
 ·left
  refine⟨h0,fun i hi=> ?_⟩
  rw[hr i hi,h0];simp
 ·right
  obtain⟨g1,g2⟩:=MV r
  obtain⟨g3,g4⟩:=g2 h0
  have Tq:r.testBit (zy r-1)=true:=by
   rw[Nat.testBit_eq_decide_div_mod_eq]
   have hp:=Nat.two_pow_pos (zy r-1)
   have:r/2^(zy r-1)=1:=by
    apply Nat.div_eq_of_lt_le
    ·omega
    ·have:2^zy r=2*2^(zy r-1):=by
      rw[<-Nat.pow_succ'];congr 1;omega
     omega
   rw[this];rfl
  have ap:=Tq
  rw[hb] at ap
  simp only[Bool.and_eq_true,decide_eq_true_eq] at ap
  refine⟨h0,by omega,by omega,?_,fun i h1 h2=> ?_⟩
  ·exact ap.2.2
  ·rw[hr i h2]
   exact Nat.testBit_lt_two_pow (Nat.lt_of_lt_of_le g1 (Nat.pow_le_pow_right (by decide) (by omega)))
theorem Jn(x n:Nat)(hn:n<=64):IntKind.u64.wrap ((x:Int)*2^min ((n:Int)).toNat 64)=((x*2^n % cz:Nat):Int):=by
 rw[Jt,Int.toNat_natCast,Nat.min_eq_left hn]
 have e:((x:Int)*2^n)=((x*2^n:Nat):Int):=by simp
 rw[e];rfl
theorem Ix(h l:Nat)(hh:h<cz)(hl:l<cz)(n:Int)(hn1: -9223372036854775808<=n)(hn2:n<=9223372036854775807):CG ((h:Int),(l:Int),()) n=some (gE h l n):=by
 have goal:∀r,Qc h l n r->some r=some (gE h l n):=fun r hr=>by rw[Vl hr (acE h l n)]
 unfold CG Rn
 obtain⟨m,hm,hmn⟩:∃m:Nat,(if n<(0:Int) then(0:Int) else n)=(m:Int)/\(n<=(m:Int)/\(0<=n->n=m)/\(n<0->m=0)):=by
  by_cases h0:n<0
  ·exact⟨0,by rw[if_pos h0];rfl,by omega,by omega,by omega⟩
  ·exact⟨n.toNat,by rw[if_neg h0];omega,by omega,by omega,by omega⟩
 have m6:∀k:Int,k<=0->bh h l k=false:=fun k hk=>by unfold bh;rw[if_neg (by omega),if_neg (by omega)]
 have low:∀(jG base:Nat),jG<=64->(jG<64->base=64+jG)->(jG=64->128<=base)->(m:Int)<=base->base<=9223372036854775807->(∀k,n<k->k<=base->k<=128->bh h l k=false)->
  (bif !(decide (IntKind.u64.wrap ((l:Int)*2^min ((jG:Int)).toNat 64)=0)) then(ly (IntKind.u64.wrap ((l:Int)*2^min ((jG:Int)).toNat 64))).bind (fun r=>some (zW zI (zW zI ((base:Int)+r)+1))) else some 0)=some (gE h l n):=by
  intro jG base h1 h2 h2' h3 ag7 h4
  rw[Jn l jG h1]
  have ap:l*2^jG % cz<cz:=Nat.mod_lt _ (by decide)
  rcases Hq l jG hl h1 with⟨e,w⟩|⟨e,w1,w2,w3,w4⟩
  ·rw[e,zT (by rfl)]
   refine goal 0 (.inl ⟨rfl,fun k hk=> ?_⟩)
   by_cases xG:k<=base/\k<=128
   ·exact h4 k hk xG.1 xG.2
   ·unfold bh
    by_cases CQ:65<=k/\k<=128
    ·rw[if_neg (by omega),if_pos CQ]
     exact w _ (by omega)
    ·by_cases hk4:1<=k/\k<=64
     ·omega
     ·rw[if_neg hk4,if_neg CQ]
  ·have Tn:jG<64:=by omega
   have je:=h2 Tn
   rw[zF (by omega)]
   simp only[Bool.not_false,zC]
   rw[z9a _ ap,zc,zg (x:=(base:Int)+_) (by omega) (by omega),zg (by omega) (by omega)]
   refine goal _ (.inr ⟨by omega,?_,fun k Mv xG=> ?_⟩)
   ·unfold bh
    rw[if_neg (by omega),if_pos (by omega)]
    have:(128-((base:Int)+((64-zy (l*2^jG % cz):Nat):Int)+1)).toNat=zy (l*2^jG % cz)-1-jG:=by omega
    rw[this];exact w3
   ·by_cases CQ:k<=base
    ·exact h4 k Mv CQ (by omega)
    ·unfold bh
     rw[if_neg (by omega),if_pos (by omega)]
     exact w4 _ (by omega) (by omega)
 simp only[hm]
 by_cases c1:m<64
 ·rw[zT (by omega),zC,zF (by omega),zD,Jn h m (by omega)]
  have ap:h*2^m % cz<cz:=Nat.mod_lt _ (by decide)
  rcases Hq h m hh (by omega) with⟨e,w⟩|⟨e,w1,w2,w3,w4⟩
  ·rw[e,zT (by rfl)]
   have:=low 0 64 (by omega) (by omega) (by omega) (by omega) (by omega) (fun k Mv xG _=>by
    by_cases CQ:1<=k
    ·unfold bh
     rw[if_pos (by omega)]
     exact w _ (by omega)
    ·exact m6 k (by omega))
   exact this
  ·rw[zF (by omega)]
   simp only[Bool.not_false,zC]
   rw[z9a _ ap,zc,zg (x:=(m:Int)+_) (by omega) (by omega),zg (by omega) (by omega)]
   refine goal _ (.inr ⟨by omega,?_,fun k Mv xG=> ?_⟩)
   ·unfold bh
    rw[if_pos (by omega)]
    have:(64-((m:Int)+((64-zy (h*2^m % cz):Nat):Int)+1)).toNat=zy (h*2^m % cz)-1-m:=by omega
    rw[this];exact w3
   ·by_cases CQ:1<=k
    ·unfold bh
     rw[if_pos (by omega)]
     exact w4 _ (by omega) (by omega)
    ·exact m6 k (by omega)
 ·rw[zF (by omega),zD,zg (x:=(m:Int)-64) (by omega) (by omega)]
  have aha:((m:Int)-64)=((m-64:Nat):Int):=by omega
  obtain⟨jG,hs,GF⟩:∃jG:Nat,(if(64:Int)<(m:Int)-64 then(64:Int) else(m:Int)-64)=(jG:Int)/\jG<=64/\(jG<64->m=64+jG)/\(jG=64->128<=m):=by
   by_cases h0:(64:Int)<(m:Int)-64
   ·exact⟨64,by rw[if_pos h0];rfl,by omega,by omega,by omega⟩
   ·exact⟨m-64,by rw[if_neg h0];omega,by omega,by omega,by omega⟩
  simp only[hs]
  rw[zF (by omega),zD]
  exact low jG m GF.1 GF.2.1 GF.2.2 (by omega) (by omega) (fun k Mv xG _=>by omega)
theorem zzp(n a:Nat)(h:a<2^n):(BitVec.ofInt n (a:Int)).toNat=a:=by
 rw[BitVec.toNat_ofInt]
 have h2:((a:Int)% ((2^n:Nat):Int))=((a % 2^n:Nat):Int):=by rfl
 rw[h2,Int.toNat_natCast,Nat.mod_eq_of_lt h]
theorem VD{k:IntKind}{a b:Nat}(ha:a<2^k.bits)(hb:b<2^k.bits):aD .or k a b=k.wrap ((a|||b:Nat):Int):=by
 simp only[aD,BitVec.toNat_or,zzp _ _ ha,zzp _ _ hb]
theorem Ib{x y:Int}(hx:zn x)(hy:zn y):aD .or .i64 (zW zI (zW zI x*2^min (8:Int).toNat 64)) (zW zI y)=x*256+y:=by
 unfold zn at hx hy
 obtain⟨x,rfl⟩:=Int.eq_ofNat_of_zero_le hx.1
 obtain⟨y,rfl⟩:=Int.eq_ofNat_of_zero_le hy.1
 rw[tz (by omega),tz (by omega)]
 have h1:((x:Int)*(2:Int)^min (8:Int).toNat 64)=((x<<<8:Nat):Int):=by
  rw[Nat.shiftLeft_eq];rfl
 have h3:x<<<8=x*256:=by rw[Nat.shiftLeft_eq]
 rw[h1,tz (by omega),VD (by simp only[IntKind.bits];omega) (by simp only[IntKind.bits];omega),<-Nat.shiftLeft_add_eq_or_of_lt (by omega:y<2^8),h3,tz (by omega)]
 omega
theorem Y5{b:List Int}(hb:∀x∈b,zn x)(i:Nat):zn (b.getD i 0):=by
 rw[List.getD_eq_getElem?_getD]
 cases h:b[i]? with
 |none=>exact⟨by simp,by simp⟩
 |some x=>exact hb x (List.mem_of_getElem? h)
abbrev Fr:=Int×Bool×List Int×Unit
section
variable {α:Type} [DecidableEq α]
end
end bu

namespace bu
open Go.IntKind renaming wrap->zW,i64->zI,u8->zU
open Go Go.Ref
theorem HT{l:List Int}{j:Nat}(h:j<l.length):l.getD ((j:Int)).toNat 0=l[j]:=by
 rw[Int.toNat_natCast,List.getD_eq_getElem?_getD,List.getElem?_eq_getElem h];rfl
theorem Y9(l:List Int)(n:Int)(hl:l.length<=maxLen):∀(m j k:Nat),j+m=l.length->m<k->
 Cx k l n j=some (if n∈l.drop j then .inl true else .inr ()):=by
 intro m
 rw[zj] at hl
 induction m with
 |zero=>
  intro j k hj hk
  obtain⟨k,rfl⟩:∃k',k=k'+1:=⟨k-1,by omega⟩
  rw[Cx,LI,zF (by omega),List.drop_eq_nil_of_le (by omega)];simp
 |succ m ih=>
  intro j k hj hk
  obtain⟨k,rfl⟩:∃k',k=k'+1:=⟨k-1,by omega⟩
  have ap:j<l.length:=by omega
  rw[Cx,LI,zT (by omega),zC,zi ap,HT ap,zr (by omega),List.drop_eq_getElem_cons ap]
  by_cases h:l[j]=n
  ·rw[zT h,if_pos (by rw[h];simp)];rfl
  ·rw[zF h,zD,ih (j+1) k (by omega) (by omega)]
   have:n≠l[j]:=fun e=>h e.symm
   simp only[List.mem_cons,this,false_or]
theorem ztq(l:List Int)(n:Int)(hl:l.length<=maxLen):tT l n=some (decide (n∈l)):=by
 unfold tT RQ
 dsimp only
 have:=Y9 l n hl l.length 0 ae (by omega) (by rw[zq];rw[zj] at hl;omega)
 rw[show((0:Nat):Int)=0 from rfl,List.drop_zero] at this
 rw[this,zc]
 by_cases h:n∈l
 ·rw[if_pos h,zT h];rfl
 ·rw[if_neg h,zF h];rfl
theorem acJ:l8.length=128:=by unfold l8;simp
def bk(l:List Int)(base:Nat):Nat->Nat
 |0=>0
 |m+1=>2*bk l base m+(if((base+m+1:Nat):Int)∈l then 1 else 0)
theorem zcy(l:List Int)(base m:Nat):bk l base (m+1)=2*bk l base m+(if((base+m+1:Nat):Int)∈l then 1 else 0):=rfl
theorem KI(l:List Int)(base:Nat):∀m,bk l base m<2^m
 |0=>by simp [bk]
 |m+1=>by
  have:=KI l base m
  rw[bk,Nat.pow_succ]
  split<;>omega
theorem zhm(l:List Int)(base:Nat):∀m i,i<m->(bk l base m).testBit i=decide (((base+m-i:Nat):Int)∈l)
 |0,i,h=>absurd h (Nat.not_lt_zero i)
 |m+1,0,h=>by
  rw[bk,Nat.testBit_zero,Nat.sub_zero]
  have e:base+(m+1)=base+m+1:=by omega
  rw[e]
  by_cases hm:((base+m+1:Nat):Int)∈l
  ·rw[if_pos hm,zT hm]
   exact zT (by omega)
  ·rw[if_neg hm,zF hm]
   exact zF (by omega)
 |m+1,i+1,h=>by
  rw[bk,Nat.testBit_succ]
  have e:(2*bk l base m+(if((base+m+1:Nat):Int)∈l then 1 else 0))/2=bk l base m:=by split<;>omega
  rw[e,zhm l base m i (by omega)]
  have e2:base+(m+1)-(i+1)=base+m-i:=by omega
  rw[e2]
theorem adb(l:List Int)(n:Int):bh (bk l 0 64) (bk l 64 64) n=(decide (n∈l)&&fY n):=by
 unfold bh fY
 by_cases h1:1<=n/\n<=64
 ·rw[if_pos h1,zhm l 0 64 _ (by omega),zT (p:=1<=n/\n<=128) (by omega),Bool.and_true]
  have:((0+64-(64-n).toNat:Nat):Int)=n:=by omega
  rw[this]
 ·rw[if_neg h1]
  by_cases h2:65<=n/\n<=128
  ·rw[if_pos h2,zhm l 64 64 _ (by omega),zT (p:=1<=n/\n<=128) (by omega),Bool.and_true]
   have:((64+64-(128-n).toNat:Nat):Int)=n:=by omega
   rw[this]
  ·rw[if_neg h2,zF (p:=1<=n/\n<=128) (by omega),Bool.and_false]
theorem zos(l:List Int):bk l 0 64=bz l/\bk l 64 64=bI l:=
 Ls (KI l 0 64) (KI l 64 64) (lp l) (mr l) (fun n _ _=>by rw[adb,qq])
abbrev Spec:=Int×Int×Int×Int×Int×Unit
abbrev zf:=Int×Int×List Spec×Unit
abbrev eh:Spec:=(0,0,0,0,0,())
theorem P9(c:Int):wo c=some (if c=1 then 1 else if c=2 then 2 else if c=3 then 3 else if c=4 then 7 else if c=5 then 15 else if c=6 then 15 else 0):=by
 unfold wo QG
 simp only[aeP]
 repeat' split
 all_goals rfl
theorem zmu(c:Int):yL c=some (decide (1<=c/\c<=6)):=by
 unfold yL Qx
 rw[P9,zc]
 congr 1
 by_cases h1:c=1
 ·subst h1;rfl
 by_cases h2:c=2
 ·subst h2;rfl
 by_cases h3:c=3
 ·subst h3;rfl
 by_cases h4:c=4
 ·subst h4;rfl
 by_cases h5:c=5
 ·subst h5;rfl
 by_cases h6:c=6
 ·subst h6;rfl
 rw[if_neg h1,if_neg h2,if_neg h3,if_neg h4,if_neg h5,if_neg h6,zF (p:=1<=c/\c<=6) (by omega)]
 rfl
theorem DX:pj 2=some 99:=by kernel_rfl
theorem DY:pj 3=some 999:=by kernel_rfl
def bf(s:Spec):Int:=
 if s.1<2\/128<s.1 then 1 else if s.2.1<1\/6<s.2.1 then 6 else if s.2.2.1<1\/3<s.2.2.1 then 3
 else if s.2.2.2.1<1\/s.2.2.2.2.1<s.2.2.2.1\/(s.2.2.1=2/\99<s.2.2.2.2.1)\/999<s.2.2.2.2.1\/(s.2.2.1=1/\¬s.2.2.2.1=s.2.2.2.2.1) then 5
 else if s.2.2.1=1/\s.2.1=6 then 13 else 0
theorem Kn(s:Spec):kB s=some (bf s):=by
 obtain⟨no,c,f,mn,mx,u⟩:=s
 unfold kB Pa bf
 simp only[zmu,zc]
 by_cases h1:no<2\/128<no
 ·rw[if_pos h1]
  rcases h1 with h|h
  ·rw[zT h];rfl
  ·rw[zT h];cases decide (no<2)<;>rfl
 rw[if_neg h1,zF (by omega),zF (by omega)]
 by_cases h2:c<1\/6<c
 ·rw[if_pos h2,zF (p:=1<=c/\c<=6) (by omega)];rfl
 rw[if_neg h2,zT (p:=1<=c/\c<=6) (by omega)]
 simp only[zD,Bool.not_true]
 by_cases h3:f<1\/3<f
 ·rw[if_pos h3]
  rcases h3 with h|h
  ·rw[zT h];rfl
  ·rw[zT h];cases decide (f<1)<;>rfl
 rw[if_neg h3,zF (by omega),zF (by omega)]
 simp only[zD]
 by_cases h4:mn<1\/mx<mn\/999<mx
 ·rw[if_pos (by omega)]
  by_cases a:mn<1
  ·rw[zT a];rfl
  rw[zF a]
  by_cases b:mx<mn
  ·rw[zT b];rfl
  rw[zF b,zT (by omega)];rfl
 rw[zF (by omega),zF (by omega),zF (by omega)]
 simp only[zD]
 by_cases f1:f=1
 ·rw[zT f1]
  simp only[zC,Bool.not_true,zD]
  by_cases e:mn=mx
  ·rw[zT e,if_neg (by omega)]
   by_cases e6:c=6
   ·rw[zT e6,if_pos (by omega)];rfl
   ·rw[zF e6,if_neg (by omega)];rfl
  ·rw[zF e,if_pos (by omega)];rfl
 ·rw[zF f1]
  simp only[zD,Bool.not_false,zC]
  by_cases f2:f=2
  ·subst f2
   rw[DX,zc]
   by_cases h:99<mx
   ·rw[zT h,if_pos (by omega)];rfl
   ·rw[zF h,if_neg (by omega),if_neg (by omega)];rfl
  ·have f3:f=3:=by omega
   subst f3
   rw[DY,zc,zF (by omega),if_neg (by omega),if_neg (by omega)];rfl
theorem sM(s:Spec):sY s=some (bf s):=by
 obtain⟨no,c,f,mn,mx,u⟩:=s
 unfold sY R8 bf
 simp only
 by_cases h1:no<2\/128<no
 ·rw[if_pos h1]
  rcases h1 with h|h
  ·rw[zT h];rfl
  ·rw[zT h];cases decide (no<2)<;>rfl
 rw[if_neg h1,zF (by omega),zF (by omega)]
 by_cases h2:c<1\/6<c
 ·rw[if_pos h2]
  rcases h2 with h|h
  ·rw[zT h];rfl
  ·rw[zT h];cases decide (c<1)<;>rfl
 rw[if_neg h2,zF (by omega),zF (by omega)]
 by_cases h3:f<1\/3<f
 ·rw[if_pos h3]
  rcases h3 with h|h
  ·rw[zT h];rfl
  ·rw[zT h];cases decide (f<1)<;>rfl
 rw[if_neg h3,zF (by omega),zF (by omega)]
 simp only[zD]
 by_cases f1:f=1
 ·rw[zT f1,zF (by omega:¬f=2)]
  simp only[zC,zD]
  by_cases a:mn<1
  ·rw[zT a,if_pos (by omega)];rfl
  rw[zF a]
  by_cases b:mx<mn
  ·rw[zT b,if_pos (by omega)];rfl
  rw[zF b]
  by_cases d:999<mx
  ·rw[zT d,if_pos (by omega)];rfl
  rw[zF d]
  by_cases e:mn=mx
  ·rw[zT e,if_neg (by omega)]
   by_cases e6:c=6
   ·rw[zT e6,if_pos (by omega)];rfl
   ·rw[zF e6,if_neg (by omega)];rfl
  ·rw[zF e,if_pos (by omega)];rfl
 ·rw[zF f1]
  simp only[zD]
  by_cases f2:f=2
  ·rw[zT f2]
   simp only[zC]
   by_cases a:mn<1
   ·rw[zT a,if_pos (by omega)];rfl
   rw[zF a]
   by_cases b:mx<mn
   ·rw[zT b,if_pos (by omega)];rfl
   rw[zF b]
   by_cases d:99<mx
   ·rw[zT d,if_pos (by omega)];rfl
   rw[zF d,if_neg (by omega),if_neg (by omega)];rfl
  ·rw[zF f2]
   simp only[zD]
   by_cases a:mn<1
   ·rw[zT a,if_pos (by omega)];rfl
   rw[zF a]
   by_cases b:mx<mn
   ·rw[zT b,if_pos (by omega)];rfl
   rw[zF b]
   by_cases d:999<mx
   ·rw[zT d,if_pos (by omega)];rfl
   rw[zF d,if_neg (by omega),if_neg (by omega)];rfl
def gf:List Spec->Int->Int->Int×Int
 | [],_,_=>(0,0)
 |x::r,i,last=>if bf x≠0 then(bf x,i) else if x.1<=last then(11,i) else gf r (i+1) x.1
def gd(s:zf):Int×Int:=
 if¬(s.1=1\/s.1=2) then(1,-1) else if s.2.1<0\/9<s.2.1 then(7,-1) else gf s.2.2.1 0 0
theorem Nv{x:Spec}(h:bf x=0):2<=x.1/\x.1<=128:=by
 unfold bf at h
 split at h
 ·cases h
 ·omega
def SJ(e:Sum (Int×Int) Unit):Option (Int×Int):=Sum.elim (fun we=>some (we.1,we.2)) (fun _=>some (0,0)) e
theorem zz3(l:List Spec):∀(i:Int) (last:Int),SJ (if(gf l i last).1=0 then .inr () else .inl (gf l i last))=some (gf l i last):=by
 intro i last
 by_cases h:(gf l i last).1=0
 ·rw[if_pos h]
  have:gf l i last=(0,0):=by
   induction l generalizing i last with
   |nil=>rfl
   |cons x r ih=>
    unfold gf at h⊢
    split
    ·rename_i h1;rw[if_pos h1] at h;exact absurd h h1
    ·rename_i h1
     rw[if_neg h1] at h
     split
     ·rename_i h2;rw[if_pos h2] at h;cases h
     ·rename_i h2;rw[if_neg h2] at h;exact ih _ _ h
  rw[this];rfl
 ·rw[if_neg h];rfl
theorem Vx(s:zf)(hl:s.2.2.1.length<=maxLen):vK ae 0 0 s=some (if(gf s.2.2.1 0 0).1=0 then .inr () else .inl (gf s.2.2.1 0 0)):=by
 have h:=l5 eh s.2.2.1 hl (fun i x (last:Int) K=>if bf x≠0 then some (.inl (bf x,i)) else if x.1<=last then some (.inl (11,i)) else K x.1) (fun _=>some (.inr ())) (fun k i last=>vK k last i s)
  (fun k i last h0 h1=>by
    rw[vK,KJ,zT h1]
    simp only[zC,zm h0 h1,sM,zc]
    by_cases hc:bf (s.2.2.1.getD i.toNat eh)=0
    ·rw[zT hc,if_neg (fun h=>h hc)]
     simp only[Bool.not_true,zD]
     by_cases hn:(s.2.2.1.getD i.toNat eh).1<=last
     ·rw[zT hn,if_pos hn];rfl
     ·rw[zF hn,if_neg hn];rfl
    ·rw[zF hc,if_pos hc];rfl)
  (fun k last=>by rw[vK,KJ,zF (by omega)];rfl) 0
 rw[h]
 clear h hl
 generalize s.2.2.1=l
 suffices∀(i last:Int),bc (fun i (x:Spec) (last:Int) K=>if bf x≠0 then some (Sum.inl (bf x,i)) else if x.1<=last then some (.inl (11,i)) else K x.1) (fun _=>some (.inr ())) l i last=some (if(gf l i last).1=0 then(.inr ():Sum (Int×Int) Unit) else .inl (gf l i last)) from this 0 0
 induction l with
 |nil=>intro i last;rfl
 |cons x r ih=>
  intro i last
  rw[bc,gf]
  by_cases hc:bf x≠0
  ·rw[if_pos hc,if_pos hc,if_neg hc]
  ·rw[if_neg hc,if_neg hc]
   by_cases hn:x.1<=last
   ·rw[if_pos hn,if_pos hn];rfl
   ·rw[if_neg hn,if_neg hn];exact ih _ _
theorem Wg(s:zf)(hl:s.2.2.1.length<=maxLen):qx s=some (gd s):=by
 unfold qx De gd
 have hx:=zz3 s.2.2.1 0 0
 have rN:(vK ae 0 0 s).bind (fun e=>Sum.elim (fun(we:Int×Int)=>Nz we.1 we.2 fun a0 a1=>some (a0,a1)) (fun(we:Unit)=>NA fun a0 a1=>some (a0,a1)) e)=some (gf s.2.2.1 0 0):=by
  rw[Vx s hl,zc];exact hx
 dsimp only
 rw[rN]
 by_cases h1:s.1=1
 ·rw[zT h1,if_neg (by omega)]
  by_cases h2:s.2.1<0
  ·rw[zT h2,if_pos (.inl h2)];rfl
  ·rw[zF h2]
   by_cases h3:9<s.2.1
   ·rw[zT h3,if_pos (.inr h3)];rfl
   ·rw[zF h3,if_neg (by omega)];rfl
 ·rw[zF h1]
  by_cases h0:s.1=2
  ·rw[zT h0,if_neg (by omega)]
   by_cases h2:s.2.1<0
   ·rw[zT h2,if_pos (.inl h2)];rfl
   ·rw[zF h2]
    by_cases h3:9<s.2.1
    ·rw[zT h3,if_pos (.inr h3)];rfl
    ·rw[zF h3,if_neg (by omega)];rfl
  ·rw[zF h0,if_pos (by omega)];rfl
theorem Y7{l:List Spec}{j:Nat}(h:j<l.length):l.getD ((j:Int)).toNat ((0:Int),(0:Int),(0:Int),(0:Int),(0:Int),())=l[j]:=by
 rw[Int.toNat_natCast,List.getD_eq_getElem?_getD,List.getElem?_eq_getElem h];rfl
theorem fR(s:zf)(hl:s.2.2.1.length<=9223372036854775807):∀(m j k:Nat) (last:Int),j+m=s.2.2.1.length->m<k->(j=0->last=0)->(∀h:0<j,last=(s.2.2.1.getD (j-1) eh).1)->
 yn k s.2.2.1 (s.2.2.1.length:Int) j s=some (if(gf (s.2.2.1.drop j) j last).1=0 then .inr () else .inl (gf (s.2.2.1.drop j) j last)):=by
 intro m
 induction m with
 |zero=>
  intro j k last hj hk h0 h1
  obtain⟨k,rfl⟩:∃k',k=k'+1:=⟨k-1,by omega⟩
  rw[yn,K7,zF (by omega),List.drop_eq_nil_of_le (by omega)];rfl
 |succ m ih=>
  intro j k last hj hk h0 h1
  obtain⟨k,rfl⟩:∃k',k=k'+1:=⟨k-1,by omega⟩
  have ap:j<s.2.2.1.length:=by omega
  have TD:=ih (j+1) k (s.2.2.1[j]).1 (by omega) (by omega) (by omega) (fun _=>by
   rw[Nat.add_sub_cancel,List.getD_eq_getElem?_getD,List.getElem?_eq_getElem ap];rfl)
  rw[yn,K7,zT (by omega),zC,zi ap,Y7 ap,Kn,zc,zr (by omega),List.drop_eq_getElem_cons ap]
  rw[show((j+1:Nat):Int)=(j:Int)+1 from rfl] at TD⊢
  by_cases hc:bf s.2.2.1[j]=0
  ·rw[zT hc]
   simp only[Bool.not_true,zD]
   have rS:=Nv hc
   by_cases hz:j=0
   ·have rL:=h0 hz
    have e:gf (s.2.2.1[j]::s.2.2.1.drop (j+1)) j last=gf (s.2.2.1.drop (j+1)) ((j:Int)+1) (s.2.2.1[j]).1:=by
     rw[gf,if_neg (fun h=>h hc),if_neg (by omega)]
    rw[zF (by omega),zD,e]
    exact TD
   ·have rL:=h1 (by omega)
    have hi:zW zI ((j:Int)-1)=((j-1:Nat):Int):=by rw[zg (by omega) (by omega)];omega
    rw[zT (by omega),zC,hi,zi (by omega),Int.toNat_natCast]
    by_cases hn:(s.2.2.1[j]).1<=last
    ·have e:gf (s.2.2.1[j]::s.2.2.1.drop (j+1)) j last=(11,(j:Int)):=by
      rw[gf,if_neg (fun h=>h hc),if_pos hn]
     rw[e,zT (by rw[<-rL];exact hn)];rfl
    ·have e:gf (s.2.2.1[j]::s.2.2.1.drop (j+1)) j last=gf (s.2.2.1.drop (j+1)) ((j:Int)+1) (s.2.2.1[j]).1:=by
      rw[gf,if_neg (fun h=>h hc),if_neg hn]
     rw[e,zF (by rw[<-rL];exact hn)]
     exact TD
  ·have e:gf (s.2.2.1[j]::s.2.2.1.drop (j+1)) j last=(bf s.2.2.1[j],(j:Int)):=by
    rw[gf,if_pos hc]
   rw[zF hc,e,if_neg hc];rfl
theorem KD(s:zf)(hl:s.2.2.1.length<=maxLen):lC s=some (gd s):=by
 rw[zj] at hl
 unfold lC Di gd
 have hx:=zz3 s.2.2.1 0 0
 have Gh:=fR s hl s.2.2.1.length 0 ae 0 (by omega) (by rw[zq];omega) (fun _=>rfl) (fun h=>absurd h (by omega))
 rw[List.drop_zero,show((0:Nat):Int)=0 from rfl] at Gh
 have rN:(yn ae s.2.2.1 (s.2.2.1.length:Int) 0 s).bind (fun e=>Sum.elim (fun(we:Int×Int)=>OY we.1 we.2 fun a0 a1=>some (a0,a1)) (fun(we:Unit)=>OZ fun a0 a1=>some (a0,a1)) e)=some (gf s.2.2.1 0 0):=by
  rw[Gh,zc];exact hx
 dsimp only
 rw[rN]
 by_cases h1:s.1=1
 ·rw[zT h1,if_neg (by omega)]
  by_cases h2:s.2.1<0
  ·rw[zT h2,if_pos (.inl h2)];rfl
  ·rw[zF h2]
   by_cases h3:9<s.2.1
   ·rw[zT h3,if_pos (.inr h3)];rfl
   ·rw[zF h3,if_neg (by omega)];rfl
 ·rw[zF h1]
  by_cases h0:s.1=2
  ·rw[zT h0,if_neg (by omega)]
   by_cases h2:s.2.1<0
   ·rw[zT h2,if_pos (.inl h2)];rfl
   ·rw[zF h2]
    by_cases h3:9<s.2.1
    ·rw[zT h3,if_pos (.inr h3)];rfl
    ·rw[zF h3,if_neg (by omega)];rfl
  ·rw[zF h0,if_pos (by omega)];rfl
def fg(l:List Spec)(no:Int):Option Spec:=l.find? fun x=>decide (x.1=no)
def fX:List Spec->Int->Int->Int
 | [],_,_=> -1
 |x::r,no,i=>if x.1=no then i else fX r no (i+1)
theorem adh(s:zf)(no:Int)(hl:s.2.2.1.length<=maxLen):eP s no=some (match fg s.2.2.1 no with|some x=>(x,true)|none=>(eh,false)):=by
 unfold eP O1 fg
 dsimp only
 have h:=cm eh s.2.2.1 hl (fun i x (_:Unit) K=>bif decide (x.1=no) then some (Sum.inl (true,x)) else K ()) (fun _=>some (.inr eh)) (fun k i _=>K8 k no s.2.2.1 (s.2.2.1.length:Int) i eh) (fun k i _=>rfl) ()
 rw[h,]
 clear h hl
 generalize(0:Int)=i
 generalize s.2.2.1=l
 induction l generalizing i with
 |nil=>rfl
 |cons x r ih=>
  rw[bc,List.find?_cons]
  cases hx:decide (x.1=no) with
  |true=>rfl
  |false=>exact ih (i+1)
theorem WL(l:List Spec)(no:Int):∀i:Int,0<=i->(fX l no i= -1/\fg l no=none)\/(i<=fX l no i/\fX l no i<i+l.length/\∃x,fg l no=some x/\l.getD (fX l no i-i).toNat eh=x):=by
 induction l with
 |nil=>intro i hi;left;exact⟨rfl,rfl⟩
 |cons x r ih=>
  intro i hi
  unfold fX fg
  by_cases h:x.1=no
  ·right
   rw[if_pos h,List.find?_cons,zT h]
   refine⟨by omega,by simp;omega,x,rfl,by simp⟩
  ·rw[if_neg h,List.find?_cons,zF h]
   rcases ih (i+1) (by omega) with⟨h1,h2⟩|⟨h1,h2,y,h3,h4⟩
   ·left;exact⟨h1,h2⟩
   ·right
    refine⟨by omega,by simp;omega,y,h3,?_⟩
    have:(fX r no (i+1)-i).toNat=(fX r no (i+1)-(i+1)).toNat+1:=by omega
    rw[this]
    simpa using h4
theorem zd4(s:zf)(no:Int)(hl:s.2.2.1.length<=maxLen):mK s no=some (fX s.2.2.1 no 0):=by
 unfold mK NC
 dsimp only
 have h:=cm eh s.2.2.1 hl (fun i x (_:Unit) K=>bif decide (x.1=no) then some (Sum.inl i) else K ()) (fun _=>some (.inr ())) (fun k i _=>KK k no i s) (fun k i _=>rfl) ()
 rw[h]
 clear h hl
 generalize(0:Int)=i
 generalize s.2.2.1=l
 induction l generalizing i with
 |nil=>rfl
 |cons x r ih=>
  rw[bc,fX]
  by_cases hx:x.1=no
  ·rw[zT hx,if_pos hx];rfl
  ·rw[zF hx,if_neg hx];exact ih (i+1)
theorem zz9(n:Int):bh 0 0 n=false:=by unfold bh;simp
theorem z193{a b:zf}:a=b↔a.1=b.1/\a.2.1=b.2.1/\a.2.2.1=b.2.2.1:=by
 obtain⟨x,y,z,u⟩:=a
 obtain⟨x',y',z',u'⟩:=b
 simp
instance:DecidableEq zf:=fun a b=>decidable_of_iff _ z193.symm
def Dd(l:List Spec)(last:Int):Prop:=(∀x∈l,bf x=0)/\(l.Pairwise fun x y=>x.1<y.1)/\∀x∈l,last<x.1
theorem ZC(l:List Spec):∀(i last:Int),(gf l i last).1=0↔Dd l last:=by
 induction l with
 |nil=>intro i last;simp [gf,Dd]
 |cons x r ih=>
  intro i last
  unfold gf
  by_cases hc:bf x=0
  ·rw[if_neg (fun h=>h hc)]
   by_cases hn:x.1<=last
   ·rw[if_pos hn]
    constructor
    ·intro h;cases h
    ·intro⟨_,_,h3⟩;have:=h3 x (by simp);omega
   ·rw[if_neg hn,ih]
    constructor
    ·intro⟨h1,h2,h3⟩
     refine⟨fun y hy=> ?_,List.pairwise_cons.2 ⟨h3,h2⟩,fun y hy=> ?_⟩
     ·rcases List.mem_cons.1 hy with rfl|hy
      ·exact hc
      ·exact h1 y hy
     ·rcases List.mem_cons.1 hy with rfl|hy
      ·omega
      ·have:=h3 y hy;omega
    ·intro⟨h1,h2,h3⟩
     obtain⟨h4,h5⟩:=List.pairwise_cons.1 h2
     exact⟨fun y hy=>h1 y (by simp [hy]),h5,h4⟩
  ·rw[if_pos hc]
   constructor
   ·intro h;exact absurd h hc
   ·intro⟨h1,_,_⟩;exact absurd (h1 x (by simp)) hc
def gh(s:zf):Prop:=(s.1=1\/s.1=2)/\0<=s.2.1/\s.2.1<=9/\Dd s.2.2.1 0
theorem sO(s:zf):(gd s).1=0↔gh s:=by
 unfold gd gh
 by_cases h1:s.1=1\/s.1=2
 ·rw[if_neg (fun h=>h h1)]
  by_cases h2:s.2.1<0\/9<s.2.1
  ·rw[if_pos h2]
   constructor
   ·intro h;cases h
   ·intro⟨_,a,b,_⟩;omega
  ·rw[if_neg h2,ZC]
   constructor
   ·intro h;exact⟨h1,by omega,by omega,h⟩
   ·intro⟨_,_,_,h⟩;exact h
 ·rw[if_pos h1]
  constructor
  ·intro h;cases h
  ·intro⟨a,_⟩;exact absurd a h1
theorem Dd.filter{l:List Spec}{last:Int}(h:Dd l last)(p:Spec->Bool):Dd (l.filter p) last:=
 ⟨fun x hx=>h.1 x (List.mem_filter.1 hx).1,h.2.1.filter p,fun x hx=>h.2.2 x (List.mem_filter.1 hx).1⟩
theorem zs4(s:zf)(hl:s.2.2.1.length<=maxLen):pa s=some (decide ((gd s).1=0)):=by
 unfold pa ND
 rw[Wg s hl,zc]
abbrev bK:=ByteArray×ByteArray×Unit
def ju:bK:=(bs [],bs [],())
instance TK (a:ByteArray) (l:List ByteArray):Decidable (a∈l):=decidable_of_iff (l.any (fun x=>decide (a=x))=true) (by
 rw[List.any_eq_true]
 exact⟨fun⟨x,hx,h⟩=>of_decide_eq_true h▸hx,fun h=>⟨a,h,zT rfl⟩⟩)
def F2(r:Int):Sum Int Unit:=if r= -1 then .inr () else .inl r
theorem I4(j:Nat):F2 (j:Int)= .inl (j:Int):=if_neg (by omega)
def de{K:Type}(l:List K):List (K×Bool):=l.map fun k=>(k,true)
theorem Nb{K:Type}[DecidableEq K](eq:K->K->Bool)(heq:∀x y,eq x y=decide (x=y))(k:K):∀l:List K,ea eq false (de l) k=true↔k∈l
 | []=>by simp [de,ea]
 |x::l=>by
  simp only[de,List.map_cons,ea,heq]
  by_cases h:k=x
  ·rw[zT h,zC];exact⟨fun _=>by rw[h];exact List.mem_cons_self,fun _=>rfl⟩
  ·rw[zF h,zD]
   have:=Nb eq heq k l
   simp only[de] at this
   rw[this]
   exact⟨fun h'=>List.mem_cons_of_mem _ h',fun h'=>(List.mem_cons.1 h').resolve_left h⟩
theorem Nc{K:Type}[DecidableEq K](eq:K->K->Bool)(heq:∀x y,eq x y=decide (x=y))(k:K):∀l:List K,eb eq (de l) k=true↔k∈l
 | []=>by simp [de,eb]
 |x::l=>by
  simp only[de,List.map_cons,eb,heq]
  by_cases h:k=x
  ·rw[zT h,zC];exact⟨fun _=>by rw[h];exact List.mem_cons_self,fun _=>rfl⟩
  ·rw[zF h,zD]
   have:=Nc eq heq k l
   simp only[de] at this
   rw[this]
   exact⟨fun h'=>List.mem_cons_of_mem _ h',fun h'=>(List.mem_cons.1 h').resolve_left h⟩
theorem C6{b:Bool}{p:Prop}(h:b=true↔p)(hp:¬p):b=false:=by cases b with
 |false=>rfl
 |true=>exact absurd (h.1 rfl) hp
theorem z95{K:Type}(l:List K)(k:K):de l++ [(k,true)]=de (l++ [k]):=by simp [de]
def kH:List ByteArray->List bK->Int->Option Int
 |_,[],_=>none
 |seen,p::r,i=>if p.1∈seen then some i else kH (seen++ [p.1]) r (i+1)
def Ma(l:List bK):Int×Int:=if 256<l.length then(5,256) else match kH [] l 0 with
 |some i=>(10,i)
 |none=>(0,0)
def FZ(o:Option Int):Option (Sum (Int×Int) Unit):=some (match o with
 |some i=> .inl (10,i)
 |none=> .inr ())
theorem zxm(l:List bK):∀(i:Int) (seen:List ByteArray),
 bc (fun i (x:bK) (s:List hJ) K=>bif ea (ff .str) false s x.1 then some (Sum.inl ((10:Int),i)) else bif eb (ff .str) s x.1 then none else K (s++ [(x.1,true)])) (fun _=>some (Sum.inr ())) l i (de seen)=FZ (kH seen l i):=by
 induction l with
 |nil=>intro i seen;rfl
 |cons p r ih=>
  intro i seen
  simp only[bc,kH]
  have e1:=Nb (ff .str) (fun _ _=>rfl) p.1 seen
  have e2:=Nc (ff .str) (fun _ _=>rfl) p.1 seen
  by_cases h:p.1∈seen
  ·rw[e1.2 h,if_pos h];rfl
  ·rw[C6 e1 h,C6 e2 h,if_neg h,zD,zD,z95]
   exact ih (i+1) (seen++ [p.1])
theorem Ve(l:List bK)(h:l.length<=maxLen):Ee l=some (Ma l):=by
 unfold Ee QT Ma
 dsimp only
 by_cases hl:256<l.length
 ·rw[zT (by omega),zC,if_pos hl]
 ·rw[zF (by omega),zD,if_neg hl]
  have:=cm ju l h (fun i (x:bK) (s:List hJ) K=>bif ea (ff .str) false s x.1 then some (Sum.inl ((10:Int),i)) else bif eb (ff .str) s x.1 then none else K (s++ [(x.1,true)])) (fun _=>some (Sum.inr ()))
   (fun k i s=>Lx k l (l.length:Int) i s) (fun k i s=>rfl) []
  rw[this]
  have h2:=zxm l 0 []
  rw[show de ([]:List ByteArray)=[] from rfl] at h2
  rw[h2]
  unfold FZ
  cases kH [] l 0<;>rfl
def zx(l:List bK)(f:ByteArray):ByteArray×Bool:=match l.find? fun p=>decide (p.1=f) with
 |some p=>(p.2.1,true)
 |none=>(bs [],false)
theorem zbj(f:ByteArray)(l:List bK):∀(i:Int),bc (fun i (x:bK) (s:Unit) K=>bif decide (x.1=f) then some (Sum.inl (x.2.1,true)) else K s) (fun _=>some (Sum.inr ())) l i ()=some (match l.find? fun p=>decide (p.1=f) with
 |some p=> .inl (p.2.1,true)
 |none=> .inr ()):=by
 induction l with
 |nil=>intro i;rfl
 |cons p r ih=>
  intro i
  simp only[bc,List.find?_cons]
  by_cases h:p.1=f
  ·rw[zT h];rfl
  ·rw[zF h,zD];exact ih (i+1)
theorem Vd(l:List bK)(f:ByteArray)(h:l.length<=maxLen):Ed l f=some (zx l f):=by
 unfold Ed QI zx
 dsimp only
 have:=cm ju l h (fun i (x:bK) (s:Unit) K=>bif decide (x.1=f) then some (Sum.inl (x.2.1,true)) else K s) (fun _=>some (Sum.inr ()))
  (fun k i s=>Lw k f l (l.length:Int) i) (fun k i s=>rfl) ()
 rw[this,zbj]
 cases l.find? fun p=>decide (p.1=f)<;>rfl
def kq(l:List bK):List bK:=l.map fun p=>(p.2.1,p.1,())
theorem ZM(l:List bK):(kq l).length=l.length:=by simp [kq]
def iL(c b:Int):Bool:=
 if c=1 then decide (48<=b/\b<=57)
 else if c=2 then decide (65<=b/\b<=90\/97<=b/\b<=122)
 else if c=3 then decide (48<=b/\b<=57\/65<=b/\b<=90\/97<=b/\b<=122)
 else if c=4 then decide (32<=b/\b<=126)
 else decide (c=5\/c=6)
def gK(c:Int):Int:=if c=1 then 1 else if c=2 then 2 else if c=3 then 3 else if c=4 then 7 else if c=5 then 15 else if c=6 then 15 else 0
theorem agT:∀c:Fin 7,∀b:Fin 256,wD (c.1:Int) (b.1:Int)=some (iL (c.1:Int) (b.1:Int)):=by decide+kernel
theorem Ka:∀c:Fin 7,∀b:Fin 256,(yM (b.1:Int)).map (fun r=>decide (aD .and .i64 (gK (c.1:Int)) r=0))=some (!iL (c.1:Int) (b.1:Int)):=by decide+kernel
theorem zym(c:Int):(∃k:Fin 7,c=(k.1:Int))\/(c≠1/\c≠2/\c≠3/\c≠4/\c≠5/\c≠6):=by
 by_cases h:0<=c/\c<=6
 ·exact .inl ⟨⟨c.toNat,by omega⟩,by simp;omega⟩
 ·exact .inr ⟨by omega,by omega,by omega,by omega,by omega,by omega⟩
theorem lf{b:Int}(h:zn b):∃k:Fin 256,b=(k.1:Int):=by
 unfold zn at h
 exact⟨⟨b.toNat,by omega⟩,by simp;omega⟩
theorem adk(c:Int){b:Int}(hb:zn b):wD c b=some (iL c b):=by
 obtain⟨b,rfl⟩:=lf hb
 rcases zym c with⟨k,rfl⟩|⟨h1,h2,h3,h4,h5,h6⟩
 ·exact agT k b
 ·unfold wD RO iL
  simp only[h1,h2,h3,h4,h5,h6,decide_false,zD,if_false,or_self,Bool.cond_self]
theorem Zm(c:Int){b:Int}(hb:zn b):∃r,yM b=some r/\decide (aD .and .i64 (gK c) r=0)= !iL c b:=by
 obtain⟨b,rfl⟩:=lf hb
 rcases zym c with⟨k,rfl⟩|⟨h1,h2,h3,h4,h5,h6⟩
 ·have:=Ka k b
  cases hc:yM (b.1:Int) with
  |none=>rw[hc] at this;cases this
  |some r=>rw[hc] at this;exact⟨r,rfl,by simpa using this⟩
 ·have:=Ka 0 b
  cases hc:yM (b.1:Int) with
  |none=>rw[hc] at this;cases this
  |some r=>
   rw[hc] at this
   refine⟨r,rfl,?_⟩
   have e1:gK c=gK ((0:Fin 7).1:Int):=by unfold gK;simp [h1,h2,h3,h4,h5,h6]
   have e2:iL c (b.1:Int)=iL ((0:Fin 7).1:Int) (b.1:Int):=by unfold iL;simp [h1,h2,h3,h4,h5,h6]
   rw[e1,e2]
   simpa using this
def oX(c:Int):List Int->Int->Int
 | [],_=> -1
 |b::r,i=>if iL c b=true then oX c r (i+1) else i
theorem zm6(c:Int):∀(l:List Int) (i:Int),0<=i->(0<=oX c l i↔¬l.all (iL c)=true)
 | [],i,_=>by simp [oX]
 |b::r,i,hi=>by
  simp only[oX,List.all_cons]
  cases h:iL c b with
  |true=>rw[if_pos rfl,zm6 c r (i+1) (by omega),Bool.true_and]
  |false=>simp [hi]
theorem zso(c:Int)(s:ByteArray)(hs:s.size<=9223372036854775807):∀(n j k:Nat),j+n=s.size->n<k->Cl k s (gK c) (j:Int)=some (F2 (oX c ((bl s).drop j) j))
 |n,j,0,_,hk=>by omega
 |0,j,k+1,hj,hk=>by
  unfold Cl Lv
  rw[zF (by omega),List.drop_eq_nil_of_le (by rw[zh];omega)];rfl
 |n+1,j,k+1,hj,hk=>by
  have ap:j<s.size:=by omega
  have hl:j<(bl s).length:=by rw[zh];exact ap
  have hb:zn ((bl s)[j]):=gN (List.getElem_mem hl)
  have hg:(bl s).getD j 0=(bl s)[j]:=by rw[List.getD_eq_getElem?_getD,List.getElem?_eq_getElem hl];rfl
  unfold Cl Lv
  rw[zT (by omega),zC,zi ap,Int.toNat_natCast,mC,hg,List.drop_eq_getElem_cons hl]
  obtain⟨r,h1,h2⟩:=Zm c hb
  rw[h1,Option.bind_some,h2]
  simp only[oX]
  cases h:iL c (bl s)[j] with
  |true=>rw[if_pos rfl,Bool.not_true,zD,zr (by omega),zso c s hs n (j+1) k (by omega) (by omega)];rfl
  |false=>rw[if_neg (by simp),Bool.not_false,zC,I4]
theorem Z3(c:Int)(s:ByteArray)(h:s.size<=maxLen):D6 c s=some (oX c (bl s) 0):=by
 rw[zj] at h
 unfold D6 Qu
 dsimp only
 rw[P9,Option.bind_some]
 have:=zso c s h s.size 0 ae (by omega) (by rw[zq];omega)
 rw[show((0:Nat):Int)=(0:Int) from rfl,List.drop_zero] at this
 rw[show(if c=1 then 1 else if c=2 then 2 else if c=3 then 3 else if c=4 then 7 else if c=5 then 15 else if c=6 then 15 else 0:Int)=gK c from rfl,this,Option.bind_some]
 unfold F2
 by_cases h:oX c (bl s) 0= -1
 ·rw[if_pos h,h];rfl
 ·rw[if_neg h];rfl
theorem zgq(c:Int)(s:ByteArray)(hs:s.size<=9223372036854775807):∀(n j k:Nat),j+n=s.size->n<k->Cw k c s (j:Int)=some (F2 (oX c ((bl s).drop j) j))
 |n,j,0,_,hk=>by omega
 |0,j,k+1,hj,hk=>by
  unfold Cw LH
  rw[zF (by omega),List.drop_eq_nil_of_le (by rw[zh];omega)];rfl
 |n+1,j,k+1,hj,hk=>by
  have ap:j<s.size:=by omega
  have hl:j<(bl s).length:=by rw[zh];exact ap
  have hb:zn ((bl s)[j]):=gN (List.getElem_mem hl)
  have hg:(bl s).getD j 0=(bl s)[j]:=by rw[List.getD_eq_getElem?_getD,List.getElem?_eq_getElem hl];rfl
  unfold Cw LH
  rw[zT (by omega),zC,zi ap,Int.toNat_natCast,mC,hg,List.drop_eq_getElem_cons hl,adk c hb,Option.bind_some]
  simp only[oX]
  cases h:iL c (bl s)[j] with
  |true=>rw[if_pos rfl,Bool.not_true,zD,zr (by omega),zgq c s hs n (j+1) k (by omega) (by omega)];rfl
  |false=>rw[if_neg (by simp),Bool.not_false,zC,I4]
theorem zbx(c:Int)(s:ByteArray)(h:s.size<=maxLen):EB c s=some (oX c (bl s) 0):=by
 rw[zj] at h
 unfold EB RN
 dsimp only
 have:=zgq c s h s.size 0 ae (by omega) (by rw[zq];omega)
 rw[show((0:Nat):Int)=(0:Int) from rfl,List.drop_zero] at this
 rw[this,Option.bind_some]
 unfold F2
 by_cases h:oX c (bl s) 0= -1
 ·rw[if_pos h,h];rfl
 ·rw[if_neg h];rfl
def wj(a b:Int):Bool:=decide (1<=a/\a<=6/\1<=b/\b<=6)&&decide (aD .andNot .i64 (gK b) (gK a)=0)
theorem abO(a b:Int):D8 a b=some (wj a b):=by
 unfold D8 QC wj
 rw[zmu,Option.bind_some]
 by_cases ha:1<=a/\a<=6
 ·rw[zT ha,zC,zmu,Option.bind_some]
  by_cases hb:1<=b/\b<=6
  ·rw[zT hb,zC,P9,Option.bind_some,P9,Option.bind_some,zT (show 1<=a/\a<=6/\1<=b/\b<=6 from⟨ha.1,ha.2,hb.1,hb.2⟩),Bool.true_and]
   rfl
  ·rw[zF hb,zD,zF (fun h=>hb h.2.2)];rfl
 ·rw[zF ha,zD,zF (fun h=>ha ⟨h.1,h.2.1⟩)];rfl
theorem ZU:∀a b:Fin 7,Md (a.1:Int) (b.1:Int)=some (wj (a.1:Int) (b.1:Int)):=by decide+kernel
theorem Sj{c:Int}(h:1<=c/\c<=6):∃k:Fin 7,c=(k.1:Int):=⟨⟨c.toNat,by omega⟩,by simp;omega⟩
theorem zc1(a b:Int):Md a b=some (wj a b):=by
 by_cases h:(1<=a/\a<=6)/\(1<=b/\b<=6)
 ·obtain⟨k,rfl⟩:=Sj h.1
  obtain⟨m,rfl⟩:=Sj h.2
  exact ZU k m
 ·unfold Md JG wj
  rw[show decide (1<=a/\a<=6/\1<=b/\b<=6)=false from zF (fun h'=>h ⟨⟨h'.1,h'.2.1⟩,h'.2.2⟩),Bool.false_and]
  by_cases h1:a<1
  ·rw[zT h1];rfl
  ·by_cases h2:(6:Int)<a
   ·rw[zF h1,zT h2];rfl
   ·by_cases h3:b<1
    ·rw[zF h1,zF h2,zT h3];rfl
    ·have h4:(6:Int)<b:=by omega
     rw[zF h1,zF h2,zF h3,zT h4];rfl
theorem z21(s:ByteArray)(i:Nat):zn (ze s i):=by
 rw[mC]
 exact Y5 (fun x hx=>gN hx) i
theorem zz5:∀b:Fin 256,mR (b.1:Int)=some (decide (wH (b.1:Int)≠some 0)):=by decide+kernel
theorem zcl:∀b:Fin 256,wH (b.1:Int)=some 0\/(wH (b.1:Int)=some 1/\decide (aD .and .i64 (b.1:Int) 31=31)=false)\/(wH (b.1:Int)=some 2/\decide (aD .and .i64 (b.1:Int) 31=31)=true):=by decide+kernel
theorem agM(x y:Nat)(hx:x<256)(hy:y<256):aD .and .i64 (((x:Int)*256)+(y:Int)) 255=(y:Int):=by
 have:((x:Int)*256+(y:Int))=((x*256+y:Nat):Int):=by omega
 rw[this,show(255:Int)=((255:Nat):Int) from rfl,aeM (by omega) (by omega)]
 congr 1
 rw[show(255:Nat)=2^8-1 from rfl,Nat.and_two_pow_sub_one_eq_mod]
 omega
theorem U5(x y:Nat)(hx:x<256)(hy:y<256):Int.fdiv ((x:Int)*256+(y:Int)) (2^min ((8:Int)).toNat 64)=(x:Int):=by
 have:((x:Int)*256+(y:Int))=((x*256+y:Nat):Int):=by omega
 rw[this,show(8:Int)=((8:Nat):Int) from rfl,KG _ 8 (by omega)]
 congr 1
 omega
theorem Zw(x:Fin 256)(hx:wH (x.1:Int)=some 2)(y:Fin 256):qY ((x.1:Int)*256+(y.1:Int))=some (decide (1<=(y.1:Int)/\(y.1:Int)<=127)):=by
 have hx0:x.1≠0:=fun e=>by
  have:x=0:=Fin.ext e
  subst this
  revert hx
  decide+kernel
 have zQ:decide (aD .and .i64 (x.1:Int) 31=31)=true:=by
  rcases zcl x with h|⟨h,_⟩|⟨_,h⟩
  ·rw[h] at hx;cases hx
  ·rw[h] at hx;cases hx
  ·exact h
 have hf:mR (x.1:Int)=some true:=by rw[zz5 x,hx];rfl
 unfold qY Pt
 rw[U5 x.1 y.1 x.2 y.2,agM x.1 y.1 x.2 y.2,zF (by have:=x.2;have:=y.2;omega),zD,zT (by have:=x.2;have:=y.2;omega),zC,hf,Option.bind_some,zC,zQ,zC]
 by_cases h1:(1:Int)<=(y.1:Int)
 ·rw[zT h1,zC]
  congr 1
  exact decide_eq_decide.2 ⟨fun h=>⟨h1,h⟩,fun h=>h.2⟩
 ·rw[zF h1,zD]
  congr 1
  exact(zF fun h=>h1 h.1).symm
theorem ZI(s:ByteArray)(hs:s.size<=9223372036854775000)(a:Int):qX s a=wI s a:=by
 unfold qX Ps wI LQ
 by_cases h1:a<0
 ·rw[zT h1];rfl
 rw[zF h1,zD,zD]
 by_cases h2:(s.size:Int)<a
 ·rw[zT h2];rfl
 rw[zF h2,zD,zD]
 by_cases h3:a=(s.size:Int)
 ·rw[zT h3];rfl
 have wa:∀{R:Type} (x:Option R),zd a s.size x=x:=fun x=>zm (by omega) (by omega)
 rw[zF h3,zD,zD]
 simp only[wa]
 obtain⟨x,hx⟩:=lf (z21 s a.toNat)
 obtain⟨y,hy⟩:=lf (z21 s (zW zI (a+1)).toNat)
 have sf:=x.2
 have ME:=y.2
 have ob:=Ib (z21 s a.toNat) (z21 s (zW zI (a+1)).toNat)
 rw[hx,hy] at ob
 have w1:zW zI (a+1)=a+1:=zg (by omega) (by omega)
 have w2:zW zI (x.1:Int)=(x.1:Int):=zg (by omega) (by omega)
 have w3:zW zI (y.1:Int)=(y.1:Int):=zg (by omega) (by omega)
 have w4:zW zI ((s.size:Int)-a)=(s.size:Int)-a:=zg (by omega) (by omega)
 rw[hx,hy,w2,zz5 x,Option.bind_some]
 rw[w2] at ob
 rcases zcl x with h|⟨h,zQ⟩|⟨h,zQ⟩
 ·rw[h];rfl
 ·rw[h,Option.bind_some,zQ];rfl
 ·rw[h,Option.bind_some,zQ,ob,Zw x h y,Option.bind_some,w1,w4,w3]
  by_cases h4:a+1=(s.size:Int)
  ·rw[zT h4,zT (by omega:(s.size:Int)-a<2)];rfl
  ·have w5:zW zI (256*(x.1:Int))=256*(x.1:Int):=zg (by omega) (by omega)
   have w6:zW zI (256*(x.1:Int)+(y.1:Int))=(x.1:Int)*256+(y.1:Int):=by rw[zg (by omega) (by omega)];omega
   rw[zF h4,zF (by omega:¬(s.size:Int)-a<2),w5,w6]
   have wb:∀{R:Type} (x:Option R),zd (a+1) s.size x=x:=fun x=>zm (by omega) (by omega)
   simp only[wb]
   by_cases h5:(y.1:Int)=0
   ·rw[zT h5,zF (by omega:¬(1<=(y.1:Int)/\(y.1:Int)<=127))];rfl
   ·by_cases h6:(127:Int)<(y.1:Int)
    ·rw[zF h5,zT h6,zF (by omega:¬(1<=(y.1:Int)/\(y.1:Int)<=127))];rfl
    ·rw[zF h5,zF h6,zT (by omega:1<=(y.1:Int)/\(y.1:Int)<=127)];rfl
def b9(b:Int):Int:=if 48<=b/\b<=57 then b-48 else if 65<=b/\b<=70 then b-55 else-1
def gA(d:Int):Int:=if d<10 then 48+d else 55+d
def cV:List Int->List Int
 | []=>[]
 |x::r=>gA (x/16)::gA (x % 16)::cV r
def dB:List Int->List Int
 |a::b::r=>(16*b9 a+b9 b)::dB r
 |_=>[]
def eR:List Int->Int->Option Int
 | [],_=>none
 |a::r,i=>if b9 a<0 then some i else eR r (i+1)
def jI(s:ByteArray):ByteArray×Int×Bool:=match eR (bl s) 0 with
 |some i=>(bs [],i,false)
 |none=>if s.size % 2=1 then(bs [],(s.size:Int),false) else(strOf (dB (bl s)),0,true)
def oY(s:ByteArray):ByteArray:=strOf (cV (bl s))
abbrev DW:ByteArray:=bs [48,49,50,51,52,53,54,55,56,57,65,66,67,68,69,70]
theorem agQ:∀b:Fin 256,qE (b.1:Int)=some (if b9 (b.1:Int)<0 then((0:Int),false) else(b9 (b.1:Int),true)):=by decide+kernel
theorem agZ:∀b:Fin 256,yP (b.1:Int)=some (b9 (b.1:Int)):=by decide+kernel
theorem acq:∀b:Fin 256,b9 (b.1:Int)<16/\(b9 (b.1:Int)<0\/0<=b9 (b.1:Int)):=by decide+kernel
theorem qo:∀b:Fin 256,Int.fdiv (b.1:Int) (2^min ((4:Int)).toNat 8)=((b.1/16:Nat):Int)/\aD .and .u8 (b.1:Int) (15:Int)=((b.1 % 16:Nat):Int)/\zW zU (Int.tdiv (b.1:Int) (16:Int))=((b.1/16:Nat):Int)/\Int.tmod (b.1:Int) (16:Int)=((b.1 % 16:Nat):Int):=by decide+kernel
theorem Jb:∀d:Fin 16,ze DW d.1=gA (d.1:Int):=by decide+kernel
theorem acp:∀a b:Fin 16,zW zU (aD .or .i64 (zW zI ((a.1:Int)*2^min ((4:Int)).toNat 64)) (b.1:Int))=16*(a.1:Int)+(b.1:Int)/\zW zU (zW zI (zW zI ((16:Int)*(a.1:Int))+(b.1:Int)))=16*(a.1:Int)+(b.1:Int):=by decide+kernel
theorem F9{x y:Int}(h1:0<=x)(h2:x<16)(h3:0<=y)(h4:y<16):zW zU (aD .or .i64 (zW zI (x*2^min ((4:Int)).toNat 64)) y)=16*x+y/\zW zU (zW zI (zW zI ((16:Int)*x)+y))=16*x+y:=by
 have:=acp ⟨x.toNat,by omega⟩ ⟨y.toNat,by omega⟩
 simpa [Int.toNat_of_nonneg h1,Int.toNat_of_nonneg h3] using this
theorem Lq{b:Int}(h:zn b):b9 b<16:=by
 obtain⟨k,rfl⟩:=lf h
 exact(acq k).1
theorem acb{b:Int}(h:zn b):qE b=some (if b9 b<0 then((0:Int),false) else(b9 b,true)):=by
 obtain⟨k,rfl⟩:=lf h
 exact agQ k
theorem zot{b:Int}(h:zn b):yP b=some (b9 b):=by
 obtain⟨k,rfl⟩:=lf h
 exact agZ k
theorem Nj:DW.size=16:=by decide
theorem GU{b:Int}(h:zn b):∃k:Fin 256,b=(k.1:Int)/\ze DW (b.toNat/16)=gA (b/16)/\ze DW (b.toNat % 16)=gA (b % 16):=by
 obtain⟨k,rfl⟩:=lf h
 have h1:=Jb ⟨k.1/16,by omega⟩
 have h2:=Jb ⟨k.1 % 16,by omega⟩
 exact⟨k,rfl,by simpa using h1,by simpa using h2⟩
theorem pZ{s:ByteArray}{j:Nat}(h:j<(bl s).length):ze s j=(bl s)[j]:=by rw[mC,List.getD_eq_getElem?_getD,List.getElem?_eq_getElem h];rfl
theorem zmc(s:ByteArray)(hs:s.size<=1099511627776):∀(n j k:Nat) (o:List Int),j+n=s.size->n<k->o.length+2*n<=35184372088832->BZ k s o (j:Int)=some (o++cV ((bl s).drop j))
 |n,j,0,o,_,hk,_=>by omega
 |0,j,k+1,o,hj,hk,_=>by
  unfold BZ KU
  rw[zF (by omega),zD,List.drop_eq_nil_of_le (by rw[zh];omega),cV,List.append_nil]
 |n+1,j,k+1,o,hj,hk,ho=>by
  have ap:j<s.size:=by omega
  have hl:j<(bl s).length:=by rw[zh];exact ap
  obtain⟨b,hb,n1,n2⟩:=GU (gN (List.getElem_mem hl))
  have qd:=b.2
  unfold BZ KU
  rw[zT (by omega),zC]
  simp only[Int.toNat_natCast,pZ hl,hb,(qo b).1,(qo b).2.1]
  rw[zi ap,zi (by rw[Nj];omega),zi ap,zi (by rw[Nj];omega),zT (by simp only[List.length_cons,List.length_nil];omega),zC]
  rw[hb] at n1 n2
  simp only[Int.toNat_natCast] at n1 n2
  rw[n1,n2,zr (by omega),zmc s hs n (j+1) k _ (by omega) (by omega) (by rw[List.length_append];simp only[List.length_cons,List.length_nil];omega),List.drop_eq_getElem_cons hl,hb,cV,List.append_assoc]
  rfl
theorem zsv(s:ByteArray)(hs:s.size<=1099511627776):iO s=some (oY s):=by
 unfold iO zip
 rw[zg (by omega) (by omega),zT (by omega),zC,zT (by omega),zC]
 have:=zmc s hs s.size 0 ae [] (by omega) (by rw[zq];omega) (by simp;omega)
 rw[show((0:Nat):Int)=0 from rfl,List.drop_zero,List.nil_append] at this
 dsimp only
 rw[this];rfl
theorem zt9(s:ByteArray)(hs:s.size<=1099511627776):∀(n j k:Nat) (o:List Int),j+n=s.size->n<k->o.length+2*n<=35184372088832->Cu k s o (j:Int)=some (o++cV ((bl s).drop j))
 |n,j,0,o,_,hk,_=>by omega
 |0,j,k+1,o,hj,hk,_=>by
  unfold Cu LF
  rw[zF (by omega),zD,List.drop_eq_nil_of_le (by rw[zh];omega),cV,List.append_nil]
 |n+1,j,k+1,o,hj,hk,ho=>by
  have ap:j<s.size:=by omega
  have hl:j<(bl s).length:=by rw[zh];exact ap
  obtain⟨b,hb,n1,n2⟩:=GU (gN (List.getElem_mem hl))
  have qd:=b.2
  have hD:CJ=some DW:=rfl
  unfold Cu LF
  rw[zT (by omega),zC]
  simp only[hD,zc,Int.toNat_natCast,pZ hl,hb,(qo b).2.2.1,(qo b).2.2.2]
  rw[zi ap,zi (by rw[Nj];omega),zi ap,zi (by rw[Nj];omega),zT (by simp only[List.length_cons,List.length_nil];omega),zC]
  rw[hb] at n1 n2
  simp only[Int.toNat_natCast] at n1 n2
  rw[n1,n2,zr (by omega),zt9 s hs n (j+1) k _ (by omega) (by omega) (by rw[List.length_append];simp only[List.length_cons,List.length_nil];omega),List.drop_eq_getElem_cons hl,hb,cV,List.append_assoc]
  rfl
theorem Hu(s:ByteArray)(hs:s.size<=1099511627776):tR s=some (oY s):=by
 unfold tR RG
 have:=zt9 s hs s.size 0 ae [] (by omega) (by rw[zq];omega) (by simp;omega)
 rw[show((0:Nat):Int)=0 from rfl,List.drop_zero,List.nil_append] at this
 dsimp only
 rw[this];rfl
def jO:List Int->Nat->List Int->Int->Sum Int (List Int)
 | [],_,o,_=> .inr o
 |a::r,i,o,high=>if b9 a<0 then .inl i else if i % 2=0 then jO r (i+1) o (b9 a) else jO r (i+1) (o++ [16*high+b9 a]) high
theorem z173:∀(l:List Int) (i:Nat) (o:List Int) (high:Int),i % 2=0->jO l i o high=(match eR l i with
 |some q=> .inl q
 |none=> .inr (o++dB l))
 | [],i,o,high,h=>by simp [jO,eR,dB]
 | [a],i,o,high,h=>by
   rw[jO,eR]
   by_cases ha:b9 a<0
   ·rw[if_pos ha,if_pos ha]
   ·rw[if_neg ha,if_neg ha,if_pos h]
    simp [jO,eR,dB]
 |a::b::r,i,o,high,h=>by
  rw[jO,eR]
  by_cases ha:b9 a<0
  ·rw[if_pos ha,if_pos ha]
  ·rw[if_neg ha,if_neg ha,if_pos h,jO,eR]
   by_cases hb:b9 b<0
   ·rw[if_pos hb,if_pos hb];rfl
   ·rw[if_neg hb,if_neg hb,if_neg (by omega),z173 r (i+1+1) _ _ (by omega),dB,List.append_assoc]
    have:((i:Int)+1+1)=((i+1+1:Nat):Int):=by omega
    rw[this];rfl
theorem tv(j:Nat):Int.tmod (j:Int) (2:Int)=((j % 2:Nat):Int):=rfl
theorem z9v(s:ByteArray)(hs:s.size<=1099511627776):∀(n j k:Nat) (o:List Int) (high:Int),j+n=s.size->n<k->o.length+n<=35184372088832->0<=high/\high<16->∃o',BX k s o high (j:Int)=some (match jO ((bl s).drop j) j o high with
 | .inl i=> .inl (s,bs [],i,false,o')
 | .inr r=> .inr (s,r))
 |n,j,0,o,high,_,hk,_,_=>by omega
 |0,j,k+1,o,high,hj,hk,_,_=>by
  unfold BX KT
  rw[zF (by omega),zD,List.drop_eq_nil_of_le (by rw[zh];omega)]
  exact⟨o,rfl⟩
 |n+1,j,k+1,o,high,hj,hk,ho,hh=>by
  have ap:j<s.size:=by omega
  have hl:j<(bl s).length:=by rw[zh];exact ap
  have hb:=gN (List.getElem_mem hl)
  have h16:=Lq hb
  unfold BX KT
  rw[zT (by omega),zC,zi ap,Int.toNat_natCast,pZ hl,acb hb,zc,List.drop_eq_getElem_cons hl,jO]
  by_cases ha:b9 (bl s)[j]<0
  ·rw[if_pos ha,if_pos ha]
   exact⟨o,rfl⟩
  ·rw[if_neg ha,if_neg ha]
   dsimp only
   rw[Bool.not_true,zD,tv]
   by_cases hp:j % 2=0
   ·rw[if_pos hp,zT (by omega),zC,zr (by omega)]
    exact z9v s hs n (j+1) k o _ (by omega) (by omega) (by omega) (by omega)
   ·rw[if_neg hp,zF (by omega),zD,zT (by simp only[List.length_singleton];omega),zC,zr (by omega),(F9 hh.1 hh.2 (by omega) h16).1]
    exact z9v s hs n (j+1) k _ high (by omega) (by omega) (by rw[List.length_append,List.length_singleton];omega) hh
theorem zsu(s:ByteArray)(hs:s.size<=1099511627776):fP s=some (jI s):=by
 unfold fP N7 jI
 have e:Int.tdiv (s.size:Int) 2=((s.size/2:Nat):Int):=rfl
 rw[e,zg (by omega) (by omega),zT (by omega),zC,zT (by omega),zC]
 obtain⟨o',h⟩:=z9v s hs s.size 0 ae [] 0 (by omega) (by rw[zq];omega) (by simp;omega) (by omega)
 rw[show((0:Nat):Int)=0 from rfl,List.drop_zero,z173 _ 0 _ _ rfl,List.nil_append,show((0:Nat):Int)=0 from rfl] at h
 dsimp only
 rw[h,zc]
 cases eR (bl s) 0 with
 |some i=>rfl
 |none=>
  dsimp only
  rw[Sum.elim_inr]
  unfold N8
  dsimp only
  rw[tv]
  by_cases hp:s.size % 2=1
  ·rw[if_pos hp,zF (by omega)];rfl
  ·rw[if_neg hp,zT (by omega)];rfl
theorem zsb(s:ByteArray)(hs:s.size<=1099511627776):∀(n j k:Nat),j+n=s.size->n<k->Cr k s (j:Int)=some (match eR ((bl s).drop j) j with
 |some i=> .inl (s,bs [],i,false)
 |none=> .inr s)
 |n,j,0,_,hk=>by omega
 |0,j,k+1,hj,hk=>by
  unfold Cr LC
  rw[zF (by omega),zD,List.drop_eq_nil_of_le (by rw[zh];omega)];rfl
 |n+1,j,k+1,hj,hk=>by
  have ap:j<s.size:=by omega
  have hl:j<(bl s).length:=by rw[zh];exact ap
  have hb:=gN (List.getElem_mem hl)
  unfold Cr LC
  rw[zT (by omega),zC,zi ap,Int.toNat_natCast,pZ hl,zot hb,zc,List.drop_eq_getElem_cons hl,eR]
  by_cases ha:b9 (bl s)[j]<0
  ·rw[if_pos ha,zT ha];rfl
  ·rw[if_neg ha,zF ha,zD]
   dsimp only
   rw[zr (by omega)]
   exact zsb s hs n (j+1) k (by omega) (by omega)
theorem zyc{l:List Int}:∀{i:Int},eR l i=none->∀a∈l,0<=b9 a:=by
 induction l with
 |nil=>intro i _ a ha;cases ha
 |cons b r ih=>
  intro i h a ha
  rw[eR] at h
  by_cases hb:b9 b<0
  ·rw[if_pos hb] at h;cases h
  ·rw[if_neg hb] at h
   rcases List.mem_cons.1 ha with rfl|ha
   ·omega
   ·exact ih h a ha
theorem zsr(s:ByteArray)(hs:s.size<=1099511627776)(SZ:s.size % 2=0)(iC:∀a∈bl s,0<=b9 a):∀(n j k:Nat) (o:List Int),j+2*n=s.size->n<k->o.length+n<=35184372088832->Ct k s o (j:Int)=some (o++dB ((bl s).drop j))
 |n,j,0,o,_,hk,_=>by omega
 |0,j,k+1,o,hj,hk,_=>by
  unfold Ct LD
  rw[zF (by omega),zD,List.drop_eq_nil_of_le (by rw[zh];omega),dB,List.append_nil]
  exact fun _ _ _ h=>by cases h
 |n+1,j,k+1,o,hj,hk,ho=>by
  have ap:j<s.size:=by omega
  have m7:j+1<s.size:=by omega
  have hl:j<(bl s).length:=by rw[zh];exact ap
  have m5:j+1<(bl s).length:=by rw[zh];exact m7
  have m1:=List.getElem_mem hl
  have m2:=List.getElem_mem m5
  unfold Ct LD
  rw[zT (by omega),zC,zi ap,Int.toNat_natCast,pZ hl,zot (gN m1),zc,zr (by omega),zi m7,Int.toNat_natCast,pZ m5,zot (gN m2),zc]
  rw[(F9 (iC _ m1) (Lq (gN m1)) (iC _ m2) (Lq (gN m2))).2,zT (by simp only[List.length_singleton];omega),zC]
  have e:zW zI ((j:Int)+2)=((j+2:Nat):Int):=by rw[zg (by omega) (by omega)];omega
  rw[e]
  dsimp only
  rw[zsr s hs SZ iC n (j+2) k _ (by omega) (by omega) (by rw[List.length_append,List.length_singleton];omega),List.drop_eq_getElem_cons hl,List.drop_eq_getElem_cons m5,dB,List.append_assoc]
  rfl
theorem Ht(s:ByteArray)(hs:s.size<=1099511627776):wA s=some (jI s):=by
 unfold wA RD jI
 have h:=zsb s hs s.size 0 ae (by omega) (by rw[zq];omega)
 rw[show((0:Nat):Int)=0 from rfl,List.drop_zero] at h
 dsimp only
 rw[h,zc]
 cases hb:eR (bl s) 0 with
 |some i=>rfl
 |none=>
  dsimp only
  rw[Sum.elim_inr]
  unfold RE
  rw[tv]
  by_cases hp:s.size % 2=1
  ·rw[if_pos hp,zT (by omega)];rfl
  ·rw[if_neg hp,zF (by omega),zD]
   have:=zsr s hs (by omega) (zyc hb) (s.size/2) 0 ae [] (by omega) (by rw[zq];omega) (by simp;omega)
   rw[show((0:Nat):Int)=0 from rfl,List.drop_zero,List.nil_append] at this
   dsimp only
   rw[this];rfl
theorem acs:∀d:Fin 16,b9 (gA (d.1:Int))=(d.1:Int)/\zn (gA (d.1:Int)):=by
 have:∀d:Fin 16,b9 (gA (d.1:Int))=(d.1:Int)/\0<=gA (d.1:Int)/\gA (d.1:Int)<256:=by decide+kernel
 exact this
theorem z87{d:Int}(h:0<=d)(h2:d<16):b9 (gA d)=d/\zn (gA d):=by
 have:=acs ⟨d.toNat,by omega⟩
 simpa [Int.toNat_of_nonneg h] using this
theorem zzb:∀{l:List Int},(∀x∈l,zn x)->∀y∈cV l,zn y
 | [],_,y,hy=>by cases hy
 |x::r,h,y,hy=>by
  have hx:=h x List.mem_cons_self
  unfold zn at hx
  rw[cV] at hy
  rcases List.mem_cons.1 hy with rfl|hy
  ·exact(z87 (by omega) (by omega)).2
  ·rcases List.mem_cons.1 hy with rfl|hy
   ·exact(z87 (by omega) (by omega)).2
   ·exact zzb (fun z hz=>h z (List.mem_cons_of_mem _ hz)) y hy
theorem HZ:∀l:List Int,(cV l).length=2*l.length
 | []=>rfl
 |x::r=>by rw[cV,List.length_cons,List.length_cons,HZ r,List.length_cons];omega
theorem zzc:∀{l:List Int} {i:Int},(∀x∈l,zn x)->eR (cV l) i=none
 | [],i,_=>rfl
 |x::r,i,h=>by
  have hx:=h x List.mem_cons_self
  unfold zn at hx
  rw[cV,eR,if_neg (by rw[(z87 (by omega) (by omega)).1];omega),eR,if_neg (by rw[(z87 (by omega) (by omega)).1];omega)]
  exact zzc fun z hz=>h z (List.mem_cons_of_mem _ hz)
theorem xB:∀{l:List Int},(∀x∈l,zn x)->dB (cV l)=l
 | [],_=>by simp [cV,dB]
 |x::r,h=>by
  have hx:=h x List.mem_cons_self
  unfold zn at hx
  rw[cV,dB,(z87 (by omega) (by omega)).1,(z87 (by omega) (by omega)).1,xB fun z hz=>h z (List.mem_cons_of_mem _ hz)]
  congr 1
  omega
theorem zzd(s:ByteArray):bl (oY s)=cV (bl s):=pW (zzb fun x hx=>gN hx)
theorem Kr(s:ByteArray):(oY s).size=2*s.size:=by rw[<-zh,zzd,HZ,zh]
theorem H0(s:ByteArray):jI (oY s)=(s,0,true):=by
 unfold jI
 rw[zzd,zzc (fun x hx=>gN hx),xB (fun x hx=>gN hx),yk,Kr]
 dsimp only
 rw[if_neg (by omega)]
theorem acr:∀b:Fin 256,0<=b9 (b.1:Int)->gA (b9 (b.1:Int))=(b.1:Int):=by decide+kernel
theorem zza{b:Int}(h:zn b)(h0:0<=b9 b):gA (b9 b)=b:=by
 obtain⟨k,rfl⟩:=lf h
 exact acr k h0
theorem xC:∀{l:List Int},l.length % 2=0->(∀x∈l,zn x/\0<=b9 x)->cV (dB l)=l/\∀y∈dB l,zn y
 | [],_,_=>⟨by simp [cV,dB],fun y hy=>by simp [dB] at hy⟩
 | [a],h,_=>by simp at h
 |a::b::r,h,hx=>by
  obtain⟨a1,a2⟩:=hx a (by simp)
  obtain⟨b1,b2⟩:=hx b (by simp)
  have a3:=Lq a1
  have b3:=Lq b1
  obtain⟨i1,i2⟩:=xC (l:=r) (by simp only[List.length_cons] at h;omega) fun y hy=>hx y (by simp [hy])
  rw[dB,cV]
  refine⟨?_,fun y hy=> ?_⟩
  ·rw[show(16*b9 a+b9 b)/16=b9 a by omega,show(16*b9 a+b9 b)% 16=b9 b by omega,zza a1 a2,zza b1 b2,i1]
  ·rcases List.mem_cons.1 hy with rfl|hy
   ·unfold zn;omega
   ·exact i2 y hy
theorem zgv{s t:ByteArray}{i:Int}(h:jI s=(t,i,true)):oY t=s/\s.size=2*t.size:=by
 unfold jI at h
 cases hb:eR (bl s) 0 with
 |some q=>rw[hb] at h;cases h
 |none=>
  rw[hb] at h
  dsimp only at h
  by_cases hp:s.size % 2=1
  ·rw[if_pos hp] at h;cases h
  ·rw[if_neg hp] at h
   have ht:t=strOf (dB (bl s)):=(congrArg Prod.fst h).symm
   obtain⟨e1,e2⟩:=xC (l:=bl s) (by rw[zh];omega) fun x hx=>⟨gN hx,zyc hb x hx⟩
   have e3:oY t=s:=by
    unfold oY
    rw[ht,pW e2,e1,yk]
   exact⟨e3,by rw[<-e3,Kr]⟩
def bS(b:Int):Bool:=decide (48<=b/\b<=57)
def aX(l:List Int):Bool:=l.all bS
theorem zfy(b:Int)(l:List Int):aX (b::l)=(bS b&&aX l):=rfl
theorem I9{b:Int}(h:48<=b/\b<=57):bS b=true:=zT h
theorem zxs{b:Int}(h:¬(48<=b/\b<=57)):bS b=false:=zF h
theorem LW{s:ByteArray}{j:Nat}(h:j<s.size):(bl s).getD j 0=((s[j]'h).toNat:Int):=by
 rw[<-mC]
 unfold ze
 rw[dif_pos h]
theorem PZ{s:ByteArray}{j:Nat}(h:j<s.size):(bl s).drop j=((s[j]'h).toNat:Int)::(bl s).drop (j+1):=by
 have h':j<(bl s).length:=by rw[zh];exact h
 rw[List.drop_eq_getElem_cons h']
 congr 1
 have:=LW h
 rw[List.getD_eq_getElem?_getD,List.getElem?_eq_getElem h'] at this
 exact this
theorem V5(s:ByteArray)(pos:Nat)(h:pos<s.size)(ha:128<=(s[pos]'h).toNat):128<=(Utf8.decode s pos).1:=by
 have e:s.get! (pos+0)=s[pos]'h:=by
  show s.get! pos=_
  simp [ByteArray.get!,getElem!_pos,h]
  rfl
 unfold Utf8.decode
 simp only[e]
 rw[if_neg (by omega)]
 have MA:128<=Utf8.runeError:=by unfold Utf8.runeError;omega
 split
 ·split
  ·assumption
  ·exact MA
 ·split
  ·split
   ·rename_i hc
    simp only[Bool.and_eq_true,decide_eq_true_eq] at hc
    have:=hc.1
    simp only
    omega
   ·exact MA
  ·split
   ·split
    ·rename_i hc
     simp only[Bool.and_eq_true,decide_eq_true_eq] at hc
     have:=hc.1
     simp only
     omega
    ·exact MA
   ·exact MA
theorem Hv(s:ByteArray):∀(n j k:Nat),s.size-j<=n->j<=s.size->n<k->Dz k (s,j)=some (bif aX ((bl s).drop j) then .inr () else .inl false)
 |n,j,0,_,_,hk=>by omega
 |n,j,k+1,hn,hj,hk=>by
  unfold Dz Ra
  dsimp only
  by_cases ap:j<s.size
  ·rw[zT ap,zC,PZ ap,zfy]
   by_cases h1:(s[j]'ap).toNat<128
   ·rw[decode_ascii s j ap h1]
    dsimp only
    by_cases h2:((s[j]'ap).toNat:Int)<48
    ·rw[zT h2,zC,zxs (by omega)];rfl
    ·rw[zF h2,zD]
     by_cases h3:(57:Int)<((s[j]'ap).toNat:Int)
     ·rw[zT h3,zC,zxs (by omega)];rfl
     ·obtain⟨n,rfl⟩:∃n',n=n'+1:=⟨n-1,by omega⟩
      rw[zF h3,zD,I9 (by omega),Bool.true_and,Hv s n (j+1) k (by omega) (by omega) (by omega)]
   ·have hd:=V5 s j ap (by omega)
    rw[zF (by omega:¬((Utf8.decode s j).1:Int)<48),zD,zT (by omega:(57:Int)<((Utf8.decode s j).1:Int)),zC,zxs (by omega)];rfl
  ·rw[zF ap,zD,List.drop_eq_nil_of_le (by rw[zh];omega)];rfl
theorem Qb(s:ByteArray)(h:s.size<=maxLen):wu s=some (aX (bl s)):=by
 unfold wu QZ
 dsimp only
 rw[zj] at h
 rw[Hv s s.size 0 ae (by omega) (by omega) (by rw[zq];omega),List.drop_zero]
 cases aX (bl s)<;>rfl
theorem Wi(b:Int):Ey b=some (bS b):=by
 unfold Ey Ru bS
 by_cases h:(48:Int)<=b
 ·rw[zT h,zC];congr 1;apply decide_eq_decide.2;omega
 ·rw[zF h,zD];congr 1;symm;apply zF;omega
theorem zs8(s:ByteArray)(hs:s.size<=9223372036854775807):∀(n j k:Nat),s.size-j<=n->j<=s.size->n<k->DB k s (j:Int)=some (bif aX ((bl s).drop j) then .inr () else .inl false)
 |n,j,0,_,_,hk=>by omega
 |n,j,k+1,hn,hj,hk=>by
  unfold DB Rt
  dsimp only
  by_cases ap:j<s.size
  ·rw[zT (by omega),zC,zi ap,Wi,Int.toNat_natCast,mC,LW ap,PZ ap,zfy]
   rw[Option.bind_some]
   cases h1:bS ((s[j]'ap).toNat:Int) with
   |false=>rfl
   |true=>
    obtain⟨n,rfl⟩:∃n',n=n'+1:=⟨n-1,by omega⟩
    simp only[Bool.not_true,zD,Bool.true_and]
    rw[zr (by omega),zs8 s hs n (j+1) k (by omega) (by omega) (by omega)]
  ·rw[zF (by omega),zD,List.drop_eq_nil_of_le (by rw[zh];omega)];rfl
theorem zmr(s:ByteArray)(h:s.size<=maxLen):yO s=some (aX (bl s)):=by
 unfold yO Rs
 dsimp only
 rw[zj] at h
 have:=zs8 s h s.size 0 ae (by omega) (by omega) (by rw[zq];omega)
 rw[show((0:Nat):Int)=(0:Int) from rfl] at this
 rw[this,List.drop_zero]
 cases aX (bl s)<;>rfl
def fx(l:List Int)(n:Int):Int:=l.foldl (fun n b=>10*n+(b-48)) n
theorem zto:∀(l:List Int) (n:Int) (k:Nat),aX l=true->0<=n->n<((10^k:Nat):Int)->l.length+k<=18->0<=fx l n/\fx l n<((10^(l.length+k):Nat):Int)
 | [],n,k,_,h1,h2,_=>by simpa [fx] using⟨h1,h2⟩
 |b::l,n,k,hd,h1,h2,hl=>by
  simp only[aX,List.all_cons,Bool.and_eq_true,bS,decide_eq_true_eq] at hd
  have hp:((10^(k+1):Nat):Int)=10*((10^k:Nat):Int):=by rw[Nat.pow_succ];omega
  have:=zto l (10*n+(b-48)) (k+1) hd.2 (by omega) (by rw[hp];omega) (by simp at hl;omega)
  simp only[fx,List.foldl_cons,List.length_cons] at this⊢
  rw[show l.length+1+k=l.length+(k+1) by omega]
  exact this
theorem xX{k m:Nat}(h:k<=m):10^k<=10^m:=Nat.pow_le_pow_right (by decide) h
theorem Ke(k:Nat):((10^(k+1):Nat):Int)=10*((10^k:Nat):Int):=by rw[Nat.pow_succ];omega
theorem xY:(10:Nat)^17=100000000000000000:=by decide
theorem HV(s:ByteArray)(hs:s.size<=18)(hd:aX (bl s)=true):∀(n j k:Nat) (t:Int),s.size-j<=n->j<=s.size->n<k->0<=t->t<((10^j:Nat):Int)->DA k t (s,j)=some (fx ((bl s).drop j) t)
 |n,j,0,t,_,_,hk,_,_=>by omega
 |n,j,k+1,t,hn,hj,hk,h0,h1=>by
  unfold DA Rd
  dsimp only
  by_cases ap:j<s.size
  ·have Ge:bS ((s[j]'ap).toNat:Int)=true:=by
    have:=List.all_eq_true.1 hd ((bl s).getD j 0) (by
     rw[List.getD_eq_getElem?_getD,List.getElem?_eq_getElem (by rw[zh];exact ap)]
     exact List.getElem_mem _)
    rw[LW ap] at this
    exact this
   simp only[bS,decide_eq_true_eq] at Ge
   rw[zT ap,zC,decode_ascii s j ap (by omega),PZ ap]
   dsimp only
   have Te:=Ke j
   have w32:IntKind.i32.wrap (((s[j]'ap).toNat:Int)-48)=((s[j]'ap).toNat:Int)-48:=by
    simp [IntKind.wrap,IntKind.signed,IntKind.bits];omega
   obtain⟨n,rfl⟩:∃n',n=n'+1:=⟨n-1,by omega⟩
   have ht:t<100000000000000000:=by
    have:=xX (show j<=17 by omega)
    rw[xY] at this
    omega
   have a1:zW zI (10*t)=10*t:=zg (by omega) (by omega)
   have a2:zW zI (((s[j]'ap).toNat:Int)-48)=((s[j]'ap).toNat:Int)-48:=zg (by omega) (by omega)
   rw[w32,a1,a2,zg (by omega) (by omega),HV s hs hd n (j+1) k _ (by omega) (by omega) (by omega) (by omega) (by omega)]
   rfl
  ·rw[zF ap,zD,List.drop_eq_nil_of_le (by rw[zh];omega)];rfl
def cL(l:List Int):Int×Bool:=if 1<=l.length/\l.length<=18/\aX l=true then(fx l 0,true) else(0,false)
theorem Jw(s:ByteArray)(h:s.size<=maxLen):wv s=some (cL (bl s)):=by
 unfold wv Rc cL
 dsimp only
 rw[zh]
 by_cases h0:s=bs []
 ·rw[zT h0,zC,if_neg]
  rw[h0]
  intro hh
  have:(bs []).size=0:=rfl
  omega
 ·have hz:s.size≠0:=fun e=>h0 (zc7.2 (List.eq_nil_of_length_eq_zero (by rw[zh];exact e)))
  rw[zF h0,zD]
  by_cases h1:(18:Int)<(s.size:Int)
  ·rw[zT h1,zC,if_neg (by omega)]
  ·rw[zF h1,zD,Qb s h,Option.bind_some]
   cases hd:aX (bl s) with
   |false=>rw[if_neg (by simp)];rfl
   |true=>
    rw[if_pos ⟨by omega,by omega,rfl⟩]
    simp only[Bool.not_true,zD]
    rw[HV s (by omega) hd s.size 0 ae 0 (by omega) (by omega) (by rw[zq];omega) (by omega) (by decide),List.drop_zero,Option.bind_some]
    rfl
theorem zsq(s:ByteArray)(hs:s.size<=18)(hd:aX (bl s)=true):∀(n j k:Nat) (t:Int),s.size-j<=n->j<=s.size->n<k->0<=t->t<((10^j:Nat):Int)->DC k s t (j:Int)=some (fx ((bl s).drop j) t)
 |n,j,0,t,_,_,hk,_,_=>by omega
 |n,j,k+1,t,hn,hj,hk,h0,h1=>by
  unfold DC Rx
  dsimp only
  by_cases ap:j<s.size
  ·have Ge:bS ((s[j]'ap).toNat:Int)=true:=by
    have:=List.all_eq_true.1 hd ((bl s).getD j 0) (by
     rw[List.getD_eq_getElem?_getD,List.getElem?_eq_getElem (by rw[zh];exact ap)]
     exact List.getElem_mem _)
    rw[LW ap] at this
    exact this
   simp only[bS,decide_eq_true_eq] at Ge
   rw[zT (by omega),zC,zi ap,Int.toNat_natCast,mC,LW ap,PZ ap]
   have Te:=Ke j
   obtain⟨n,rfl⟩:∃n',n=n'+1:=⟨n-1,by omega⟩
   have ht:t<100000000000000000:=by
    have:=xX (show j<=17 by omega)
    rw[xY] at this
    omega
   have a1:zW zI (10*t)=10*t:=zg (by omega) (by omega)
   have a2:zW zI ((s[j]'ap).toNat:Int)=((s[j]'ap).toNat:Int):=zg (by omega) (by omega)
   have a3:zW zI (10*t+((s[j]'ap).toNat:Int))=10*t+((s[j]'ap).toNat:Int):=zg (by omega) (by omega)
   rw[a1,a2,a3,zg (by omega) (by omega),zr (by omega),zsq s hs hd n (j+1) k _ (by omega) (by omega) (by omega) (by omega) (by omega)]
   simp only[fx,List.foldl_cons]
   congr 2
   omega
  ·rw[zF (by omega),zD,List.drop_eq_nil_of_le (by rw[zh];omega)];rfl
theorem Hs(s:ByteArray)(h:s.size<=maxLen):qa s=some (cL (bl s)):=by
 unfold qa Rw cL
 dsimp only
 rw[zh]
 by_cases h0:(s.size:Int)<1
 ·rw[zT h0,zC,if_neg (by omega)]
 ·rw[zF h0,zD]
  by_cases h1:(18:Int)<(s.size:Int)
  ·rw[zT h1,zC,if_neg (by omega)]
  ·rw[zF h1,zD,zmr s h,Option.bind_some]
   cases hd:aX (bl s) with
   |false=>rw[if_neg (by simp)];rfl
   |true=>
    rw[if_pos ⟨by omega,by omega,rfl⟩]
    simp only[Bool.not_true,zD]
    have:=zsq s (by omega) hd s.size 0 ae 0 (by omega) (by omega) (by rw[zq];omega) (by omega) (by decide)
    rw[show((0:Nat):Int)=(0:Int) from rfl] at this
    rw[this,List.drop_zero,Option.bind_some]
    rfl
def jN:Nat->Nat->List Int
 |0,_=>[]
 |w+1,n=>jN w (n/10)++ [((48+n % 10:Nat):Int)]
theorem Kv:∀w n,(jN w n).length=w
 |0,_=>rfl
 |w+1,n=>by rw[jN,List.length_append,Kv w];rfl
theorem PX:∀w n,aX (jN w n)=true
 |0,_=>rfl
 |w+1,n=>by
  rw[jN,aX,List.all_append,Bool.and_eq_true]
  refine⟨PX w _,?_⟩
  rw[List.all_cons,List.all_nil,Bool.and_true]
  exact I9 (by omega)
theorem zoc{l:List Int}(h:aX l=true):∀x∈l,zn x:=fun x hx=>by
 have:=List.all_eq_true.1 h x hx
 simp only[bS,decide_eq_true_eq] at this
 unfold zn;omega
theorem MU(a b:List Int):strOf (a++b)=strOf a++strOf b:=by
 apply ByteArray.ext
 simp [strOf,ByteArray.data_append]
theorem Kl(n:Nat):Int.tmod (n:Int) 10=((n % 10:Nat):Int):=by rw[Int.tmod_eq_emod_of_nonneg (by omega)];omega
theorem Kk(n:Nat):Int.tdiv (n:Int) 10=((n/10:Nat):Int):=by rw[Int.tdiv_eq_ediv_of_nonneg (by omega)];omega
theorem z138(n:Nat):zW zU (zW zI ((48:Int)+((n % 10:Nat):Int)))=((48+n % 10:Nat):Int):=by
 rw[zg (by omega) (by omega),sK (by omega) (by omega)];omega
theorem PY(n w:Nat):n/10/10^w=n/10^(w+1):=by rw[Nat.div_div_eq_div_mul,Nat.pow_succ,Nat.mul_comm]
theorem fB(x:Int)(tail:List Int):∀j,(List.replicate (j+1) (0:Int)++tail).set j x=List.replicate j 0++x::tail
 |0=>rfl
 |j+1=>by
  show(0:Int)::((List.replicate (j+1) (0:Int)++tail).set j x)=0::(List.replicate j 0++x::tail)
  rw[fB x tail j]
theorem Ii(nt TM:Nat)(hnt:nt<=18):∀(j k n:Nat) (tail:List Int),nt=j+tail.length->n<=9223372036854775807->j<k->
 Cp k (n:Int) nt ((j:Int)-1) TM (List.replicate j 0++tail)=some (((n/10^j:Nat):Int),nt,TM,jN j n++tail)
 |j,0,n,tail,_,_,hk=>by omega
 |0,k+1,n,tail,h,hn,hk=>by
  unfold Cp Ly
  dsimp only
  rw[zF (by omega),zD]
  simp [jN]
 |j+1,k+1,n,tail,h,hn,hk=>by
  unfold Cp Ly
  dsimp only
  have e:(((j+1:Nat):Int)-1)=(j:Int):=by omega
  rw[e,zT (by omega:(0:Int)<=(j:Int)),zC,zi (by omega),Int.toNat_natCast,Kl,Kk,z138]
  have hb:Nat.ble (j+1) (List.replicate (j+1) (0:Int)++tail).length=true:=Nat.ble_eq_true_of_le (by simp)
  rw[hb,zC,tz (by omega),zg (by omega) (by omega)]
  rw[fB,Ii nt TM hnt j k (n/10) _ (by simp;omega) (by omega) (by omega),PY]
  simp [jN]
def eC(n w:Int):ByteArray×Bool:=bif decide (0<=n/\1<=w/\w<=18/\n.toNat/10^w.toNat=0) then(strOf (jN w.toNat n.toNat),true) else(bs [],false)
theorem L7{n w:Int}(h:0<=n/\1<=w/\w<=18/\n.toNat/10^w.toNat=0):eC n w=(strOf (jN w.toNat n.toNat),true):=by unfold eC;rw[zT h];rfl
theorem wh{n w:Int}(h:¬(0<=n/\1<=w/\w<=18/\n.toNat/10^w.toNat=0)):eC n w=(bs [],false):=by unfold eC;rw[zF h];rfl
theorem afs(n w:Int)(hn:n<=9223372036854775807):Eh n w=some (eC n w):=by
 unfold Eh Rg
 dsimp only
 by_cases h1:n<0
 ·rw[zT h1,zC,wh (by omega)]
 rw[zF h1,zD]
 by_cases h2:w<1
 ·rw[zT h2,zC,wh (by omega)]
 rw[zF h2,zD]
 by_cases h3:(18:Int)<w
 ·rw[zT h3,zC,wh (by omega)]
 rw[zF h3,zD,zT (rfl:w=w),zC,zT (by omega:(0:Int)<=w),zC,zT (by omega:w*1<=140737488355328),zC]
 obtain⟨m,rfl⟩:∃m:Nat,n=m:=⟨n.toNat,by omega⟩
 obtain⟨v,rfl⟩:∃v:Nat,w=v:=⟨w.toNat,by omega⟩
 simp only[Int.toNat_natCast]
 have:=Ii v v (by omega) v ae m [] (by simp) (by omega) (by rw[zq];omega)
 simp only[List.append_nil] at this
 rw[zg (by omega) (by omega),this,zc]
 unfold Rh
 dsimp only
 by_cases h4:(0:Int)<((m/10^v:Nat):Int)
 ·rw[zT h4,zC,wh (by simp only[Int.toNat_natCast];generalize m/10^v=q at h4⊢;omega)]
 ·rw[zF h4,zD,Kv,Nat.beq_refl,zC,L7 (by simp only[Int.toNat_natCast];generalize m/10^v=q at h4⊢;omega)]
  simp only[Int.toNat_natCast]
theorem zt8(w:Nat)(hw:w<=18):∀(j k n i:Nat) (s:ByteArray),i+j=w->s.size=i->n<=9223372036854775807->j<k->
 Cq k (n:Int) (w:Int) s (i:Int)=some (((n/10^j:Nat):Int),strOf (jN j n)++s)
 |j,0,n,i,s,_,_,_,hk=>by omega
 |0,k+1,n,i,s,h,hs,hn,hk=>by
  unfold Cq LB
  dsimp only
  rw[zF (by omega),zD]
  have:strOf (jN 0 n)++s=s:=by apply qt;rw[sQ];rfl
  rw[this];simp
 |j+1,k+1,n,i,s,h,hs,hn,hk=>by
  unfold Cq LB
  dsimp only
  rw[zT (by omega:(i:Int)<(w:Int)),zC,Kl,Kk,z138,kZ]
  rw[zT (by simp only[List.length_singleton];omega),zC,tz (by omega),zr (by omega),zt8 w hw j k (n/10) (i+1) _ (by omega) (by rw[ByteArray.size_append,kZ];simp;omega) (by omega) (by omega),PY,jN,MU,ByteArray.append_assoc]
theorem aad(n w:Int)(hn:n<=9223372036854775807):CI n w=some (eC n w):=by
 unfold CI Rz
 dsimp only
 by_cases h1:n<0
 ·rw[zT h1,zC,wh (by omega)]
 rw[zF h1,zD]
 by_cases h2:w<1
 ·rw[zT h2,zC,wh (by omega)]
 rw[zF h2,zD]
 by_cases h3:(18:Int)<w
 ·rw[zT h3,zC,wh (by omega)]
 rw[zF h3,zD]
 obtain⟨m,rfl⟩:∃m:Nat,n=m:=⟨n.toNat,by omega⟩
 obtain⟨v,rfl⟩:∃v:Nat,w=v:=⟨w.toNat,by omega⟩
 have:=zt8 v (by omega) v ae m 0 (bs []) (by omega) rfl (by omega) (by rw[zq];omega)
 rw[show((0:Nat):Int)=(0:Int) from rfl] at this
 rw[this,zc]
 unfold RA
 dsimp only
 have e:strOf (jN v m)++bs []=strOf (jN v m):=by apply qt;rw[sQ,zo8,List.append_nil]
 by_cases h4:((m/10^v:Nat):Int)=0
 ·rw[zT h4,Bool.not_true,zD,L7 (by simp only[Int.toNat_natCast];generalize m/10^v=q at h4⊢;omega),e]
  simp only[Int.toNat_natCast]
 ·rw[zF h4,Bool.not_false,zC,wh (by simp only[Int.toNat_natCast];generalize m/10^v=q at h4⊢;omega)]
theorem zmq(l r:List Int)(n:Int):fx (l++r) n=fx r (fx l n):=by unfold fx;rw[List.foldl_append]
theorem z156:∀w n,n/10^w=0->fx (jN w n) 0=(n:Int)
 |0,n,h=>by simp at h;subst h;rfl
 |w+1,n,h=>by
  rw[jN,zmq,z156 w (n/10) (by rw[PY];exact h)]
  simp only[fx,List.foldl_cons,List.foldl_nil]
  omega
theorem HI:∀(w n:Nat) (l:List Int),aX l=true->w=l.length->fx l 0=(n:Int)->jN w n=l/\n/10^w=0
 |0,n,l,hd,hw,hv=>by
  obtain rfl:=List.eq_nil_of_length_eq_zero hw.symm
  have:(0:Int)=n:=hv
  obtain rfl:n=0:=by omega
  exact⟨rfl,rfl⟩
 |w+1,n,l,hd,hw,hv=>by
  have cg:l≠ []:=by intro e;subst e;simp at hw
  obtain⟨r,b,rfl⟩:∃r b,l=r++ [b]:=⟨l.dropLast,l.getLast cg,(List.dropLast_concat_getLast cg).symm⟩
  rw[aX,List.all_append,Bool.and_eq_true,List.all_cons,List.all_nil,Bool.and_true] at hd
  have hb:=hd.2
  simp only[bS,decide_eq_true_eq] at hb
  rw[zmq] at hv
  have mB:10*fx r 0+(b-48)=n:=hv
  obtain⟨i1,i2⟩:=HI w (n/10) r hd.1 (by simpa using hw) (by omega)
  refine⟨?_,by rw[<-PY];exact i2⟩
  rw[jN,i1]
  congr 2
  omega
def eY(l:List Int):Bool:=l.all fun b=>decide (b=48)
theorem M8(b:Int)(l:List Int):eY (b::l)=(decide (b=48)&&eY l):=rfl
theorem z9m(a b:List Int):eY (a++b)=(eY a&&eY b):=List.all_append ..
theorem Wq(s:ByteArray)(x:Int)(l:List Int)(h:bl s=x::l):ze s 0=x:=by rw[mC,h];rfl
theorem Hb(k:Nat):∀(s:ByteArray),s.size<k->s.size<=9223372036854775807->∃r,Dk k s 48=some r/\eY (bl r)=eY (bl s)/\(eY (bl s)=true->bl r=[])/\r.size<=s.size:=by
 induction k with
 |zero=>intro s h;omega
 |succ k ih=>
  intro s h hs
  unfold Dk Pq
  dsimp only
  by_cases h0:(0:Int)<(s.size:Int)
  ·have hm:zW zI ((s.size:Int)-1)=((s.size-1:Nat):Int):=by rw[zg (by omega) (by omega)];omega
   rw[zT h0,zC,hm,zi (by omega),Int.toNat_natCast]
   have hl:(bl s).length=s.size:=zh s
   have cg:bl s≠ []:=by intro e;rw[e] at hl;simp at hl;omega
   obtain⟨r,b,hb⟩:∃r b,bl s=r++ [b]:=⟨(bl s).dropLast,(bl s).getLast cg,(List.dropLast_concat_getLast cg).symm⟩
   have hr:r.length=s.size-1:=by rw[hb] at hl;simp at hl;omega
   have hx:ze s (s.size-1)=b:=by
    rw[mC,hb,<-hr,List.getD_eq_getElem?_getD];simp
   rw[hx]
   by_cases hz:b=48
   ·rw[zT hz,zC,zT (by omega:(0:Int)<=((s.size-1:Nat):Int)),zC,zT (by omega:((s.size-1:Nat):Int)<=((s.size:Nat):Int)),zC]
    have he:bl (s.extract 0 (s.size-1))=r:=by rw[z24,hb,List.drop_zero,<-hr,List.take_left'];rfl
    have dh:(s.extract 0 (s.size-1)).size=s.size-1:=by rw[<-zh,he,hr]
    obtain⟨q,q1,q2,q3,q4⟩:=ih (s.extract 0 (s.size-1)) (by omega) (by omega)
    refine⟨q,q1,?_,fun ha=>q3 ?_,by omega⟩
    ·rw[q2,he,hb,z9m,M8,zT hz];simp [eY]
    ·rw[hb,z9m,Bool.and_eq_true] at ha
     rw[he];exact ha.1
   ·rw[zF hz,zD]
    refine⟨s,rfl,rfl,fun ha=> ?_,Nat.le_refl _⟩
    rw[hb,z9m,M8,zF hz] at ha
    simp at ha
  ·rw[zF h0,zD]
   refine⟨s,rfl,rfl,fun _=>List.eq_nil_of_length_eq_zero (by rw[zh];omega),Nat.le_refl _⟩
theorem FY{s:ByteArray}{x:Int}{l:List Int}(h:bl s=x::l):bl (s.extract 1 s.size)=l:=by
 rw[z24,<-zh,List.take_length,h];rfl
theorem Ha(k:Nat):∀(s:ByteArray),s.size<k->s.size<=9223372036854775807->∃r,Dj k s 48=some r/\((bl r=[])↔eY (bl s)=true):=by
 induction k with
 |zero=>intro s h;omega
 |succ k ih=>
  intro s h hs
  unfold Dj Pm
  dsimp only
  have hl:(bl s).length=s.size:=zh s
  by_cases h0:(0:Int)<(s.size:Int)
  ·rw[zT h0,zC,zm (by omega) h0]
   cases hb:bl s with
   |nil=>rw[hb] at hl;simp at hl;omega
   |cons x l=>
    rw[show((0:Int)).toNat=0 from rfl,show((1:Int)).toNat=1 from rfl,Wq s x l hb]
    by_cases hz:x=48
    ·rw[zT hz,zC,zT (by omega:(1:Int)<=((s.size:Nat):Int)),zC]
     have he:=FY hb
     have dh:(s.extract 1 s.size).size=s.size-1:=by rw[<-zh,he,<-hl,hb];simp
     obtain⟨q,q1,q2⟩:=ih (s.extract 1 s.size) (by omega) (by omega)
     refine⟨q,q1,q2.trans ?_⟩
     rw[he,M8,zT hz];simp
    ·rw[zF hz,zD]
     refine⟨s,rfl,?_⟩
     rw[hb,M8,zF hz];simp
  ·rw[zF h0,zD]
   have:bl s=[]:=List.eq_nil_of_length_eq_zero (by omega)
   refine⟨s,rfl,?_⟩
   rw[this];simp [eY]
theorem aeL(s:ByteArray)(h:s.size<=9223372036854775807):∃r,qW s (bs [48])=some r/\(r=bs []↔eY (bl s)=true):=by
 unfold qW Ph
 by_cases h0:s=bs []
 ·rw[zT h0,zC]
  refine⟨s,rfl,?_⟩
  rw[h0];simp [zo8,eY]
 rw[zF h0,zD,zF (show¬bs [48]=bs [] from fun e=>absurd (congrArg ByteArray.size e) (by decide)),zD,zT (by rfl:(((bs [48]).size:Nat):Int)=1),zC]
 have hb:ze (bs [48]) ((0:Int)).toNat=48:=by rw[mC];rfl
 have hw {R:Type} (x:Option R):zd (0:Int) (bs [48]).size x=x:=zm (by omega) (by decide)
 rw[hw,hb,zT (by decide:(48:Int)<128),zC,hw]
 unfold tP Pp
 dsimp only
 obtain⟨r,r1,r2,r3,r4⟩:=Hb ae s (by rw[zq];omega) h
 rw[r1,zc]
 unfold Pr
 rw[zc,hw]
 unfold tO Pk
 dsimp only
 obtain⟨q,q1,q2⟩:=Ha ae r (by rw[zq];omega) (by omega)
 rw[q1,zc]
 unfold Pn
 rw[zc]
 refine⟨q,rfl,?_⟩
 rw[zc7,q2,r2]
theorem zh9:∀(c:Nat),bl ⟨(Go.Lib.repeatL (bs [48]).data.toList c).toArray⟩=List.replicate c 48
 |0=>rfl
 |c+1=>by
  rw[List.replicate_succ,<-zh9 c]
  simp only[bl,Go.Lib.repeatL,List.map_append]
  rfl
def eV(s:ByteArray)(w:Int):ByteArray×Bool:=
 bif decide (1<=s.size/\s.size<=999/\aX (bl s)=true/\1<=w/\w<=999) then
  (bif decide ((s.size:Int)<=w) then(strOf (List.replicate (w-s.size).toNat 48++bl s),true)
   else bif eY ((bl s).take (s.size-w.toNat)) then(strOf ((bl s).drop (s.size-w.toNat)),true) else(bs [],false))
 else(bs [],false)
theorem DV{s:ByteArray}{w:Int}(h:¬(1<=s.size/\s.size<=999/\aX (bl s)=true/\1<=w/\w<=999)):eV s w=(bs [],false):=by unfold eV;rw[zF h];rfl
theorem Kd{s:ByteArray}{w:Int}(h:1<=s.size/\s.size<=999/\aX (bl s)=true/\1<=w/\w<=999):eV s w=(bif decide ((s.size:Int)<=w) then(strOf (List.replicate (w-s.size).toNat 48++bl s),true)
 else bif eY ((bl s).take (s.size-w.toNat)) then(strOf ((bl s).drop (s.size-w.toNat)),true) else(bs [],false)):=by unfold eV;rw[zT h];rfl
theorem afr(s:ByteArray)(w:Int)(h:s.size<=maxLen):Ef s w=some (eV s w):=by
 unfold Ef Re
 dsimp only
 by_cases h0:s=bs []
 ·rw[zT h0,zC,DV]
  intro hh
  rw[h0] at hh
  exact absurd hh.1 (by decide)
 have hz:s.size≠0:=fun e=>h0 (zc7.2 (List.eq_nil_of_length_eq_zero (by rw[zh];exact e)))
 rw[zF h0,zD]
 by_cases h1:(999:Int)<(s.size:Int)
 ·rw[zT h1,zC,DV (by omega)]
 rw[zF h1,zD,Qb s h,zc]
 cases hd:aX (bl s) with
 |false=>rw[DV (by rw[hd];simp)];rfl
 |true=>
  rw[Bool.not_true,zD]
  by_cases h2:w<1
  ·rw[zT h2,zC,DV (by omega)]
  rw[zF h2,zD]
  by_cases h3:(999:Int)<w
  ·rw[zT h3,zC,DV (by omega)]
  rw[zF h3,zD,Kd ⟨by omega,by omega,hd,by omega,by omega⟩]
  obtain⟨v,rfl⟩:∃v:Nat,w=v:=⟨w.toNat,by omega⟩
  by_cases h4:(s.size:Int)<=(v:Int)
  ·rw[zT h4,zC,zC]
   obtain⟨c,hc⟩:∃c:Nat,(v:Int)-(s.size:Int)=(c:Int):=⟨v-s.size,by omega⟩
   rw[hc,tz (by omega)]
   have hR:strings_Repeat (bs [48]) (c:Int)=some ⟨(Go.Lib.repeatL (bs [48]).data.toList c).toArray⟩:=by
    unfold strings_Repeat
    rw[zT (by omega:(0:Int)<=(c:Int)),zT (by omega:(c:Int)<=9223372036854775807),zT (by rw[show(((bs [48]).size:Nat):Int)=1 from rfl];omega),Int.toNat_natCast]
    rfl
   rw[hR,zc]
   have dh:((⟨(Go.Lib.repeatL (bs [48]).data.toList c).toArray⟩:ByteArray)).size=c:=by rw[<-zh,zh9,List.length_replicate]
   rw[dh,zT (by omega),zC,Int.toNat_natCast]
   congr 2
   apply qt
   rw[sQ,zh9,pW]
   intro x hx
   rcases List.mem_append.1 hx with hx|hx
   ·rw[(List.mem_replicate.1 hx).2];unfold zn;omega
   ·exact gN hx
  ·rw[zF h4,zD,zD]
   obtain⟨c,hc⟩:∃c:Nat,(s.size:Int)-(v:Int)=(c:Int):=⟨s.size-v,by omega⟩
   have hcv:s.size-((v:Int)).toNat=c:=by omega
   rw[hc,tz (by omega),zT (by omega:(0:Int)<=(c:Int)),zC,zT (by omega:(c:Int)<=((s.size:Nat):Int)),zC,Int.toNat_natCast,hcv]
   have hx:bl (s.extract 0 c)=(bl s).take c:=by rw[z24,List.drop_zero]
   have pP:(s.extract 0 c).size=c:=by rw[<-zh,hx,List.length_take,zh];omega
   obtain⟨r,r1,r2⟩:=aeL (s.extract 0 c) (by omega)
   rw[r1,zc]
   rw[hx] at r2
   cases ha:eY ((bl s).take c) with
   |true=>
    rw[zT (r2.2 ha),Bool.not_true,zD,zC,zC]
    congr 2
    apply qt
    rw[z24,<-zh,List.take_length,pW]
    exact fun x hx=>gN (List.mem_of_mem_drop hx)
   |false=>
    rw[zF (fun e=>by rw[r2.1 e] at ha;cases ha),Bool.not_false,zC];rfl
def cP:List Int->List Int
 |a::b::r=>(16*(a-48)+(b-48))::cP r
 |_=>[]
def mD(s:ByteArray):ByteArray×Bool:=
 bif decide (s.size<=999/\aX (bl s)=true) then(strOf (cP (if s.size % 2=1 then 48::bl s else bl s)),true) else(bs [],false)
def cI(odd:Bool):List Int->Nat->Option (Int×Int)
 | [],_=>none
 |x::r,i=>if i=0/\odd=true/\x/16≠0 then some (4,0) else if 9<x/16\/9<x % 16 then some (3,i) else cI odd r (i+1)
def cO:List Int->List Int
 | []=>[]
 |x::r=>(48+x/16)::(48+x % 16)::cO r
def gO(b:ByteArray)(n:Int):ByteArray×Int×Int:=
 if n<0\/999<n then(bs [],1,0) else if(b.size:Int)<(n+1)/2 then(bs [],2,(b.size:Int)) else
 match cI (decide (n % 2=1)) ((bl b).take ((n+1)/2).toNat) 0 with
 |some e=>(bs [],e.1,e.2)
 |none=>(strOf ((cO ((bl b).take ((n+1)/2).toNat)).drop (n % 2).toNat),0,0)
theorem abU:∀a b:Fin 10,aD .or .u8 (zW zU ((zW zU ((48+(a.1:Int))-48))*2^min ((4:Int)).toNat 8)) (zW zU ((48+(b.1:Int))-48))=16*(a.1:Int)+(b.1:Int):=by decide+kernel
theorem z171{x:Int}(h:bS x=true):∃k:Fin 10,x=48+(k.1:Int):=by
 unfold bS at h
 simp only[Bool.and_eq_true,decide_eq_true_eq] at h
 exact⟨⟨(x-48).toNat,by omega⟩,by simp;omega⟩
theorem SC{x y:Int}(hx:bS x=true)(hy:bS y=true):aD .or .u8 (zW zU ((zW zU (x-48))*2^min ((4:Int)).toNat 8)) (zW zU (y-48))=16*(x-48)+(y-48):=by
 obtain⟨a,rfl⟩:=z171 hx
 obtain⟨b,rfl⟩:=z171 hy
 have:=abU a b
 rw[this];omega
theorem z9n(s:ByteArray)(hs:s.size<=1099511627776)(SZ:s.size % 2=0)(hd:aX (bl s)=true):∀(n j k:Nat) (o:List Int),j+2*n=s.size->n<k->o.length+n<=35184372088832->iQ k s o (j:Int)=some (o++cP ((bl s).drop j))
 |n,j,0,o,_,hk,_=>by omega
 |0,j,k+1,o,hj,hk,_=>by
  unfold iQ lA
  rw[zF (by omega),zD,List.drop_eq_nil_of_le (by rw[zh];omega),cP,List.append_nil]
  exact fun _ _ _ h=>by cases h
 |n+1,j,k+1,o,hj,hk,ho=>by
  have ap:j<s.size:=by omega
  have m7:j+1<s.size:=by omega
  have hl:j<(bl s).length:=by rw[zh];exact ap
  have m5:j+1<(bl s).length:=by rw[zh];exact m7
  have d1:=List.all_eq_true.1 hd _ (List.getElem_mem hl)
  have d2:=List.all_eq_true.1 hd _ (List.getElem_mem m5)
  have e:zW zI ((j:Int)+2)=((j+2:Nat):Int):=by rw[zg (by omega) (by omega)];omega
  unfold iQ lA
  rw[zT (by omega),zC,zi ap,zr (by omega),zi m7,Int.toNat_natCast,Int.toNat_natCast,pZ hl,pZ m5,SC d1 d2,zT (by simp only[List.length_singleton];omega),zC,e]
  dsimp only
  rw[z9n s hs SZ hd n (j+2) k _ (by omega) (by omega) (by rw[List.length_append,List.length_singleton];omega),List.drop_eq_getElem_cons hl,List.drop_eq_getElem_cons m5,cP,List.append_assoc]
  rfl
theorem SD:bl (bs [48])=[48]:=by decide
theorem zg1(s:ByteArray)(hs:s.size<=maxLen):Q1 s=some (mD s):=by
 unfold Q1 jY mD
 by_cases h1:(999:Int)<(s.size:Int)
 ·rw[zT h1,zC,zF (by omega)];rfl
 ·rw[zF h1,zD,Qb s hs,zc]
  cases hd:aX (bl s) with
  |false=>rw[zF (p:=s.size<=999/\false=true) (fun h=>by cases h.2)];rfl
  |true=>
   rw[Bool.not_true,zD,zT (⟨by omega,rfl⟩:s.size<=999/\true=true),zC,tv]
   by_cases hp:s.size % 2=1
   ·have dh:(bs [48]++s).size=s.size+1:=by rw[ByteArray.size_append];show 1+s.size=_;omega
    have hb:bl (bs [48]++s)=48::bl s:=by rw[sQ,SD];rfl
    rw[if_pos hp,zF (by omega),Bool.not_false,zC,zT (by show 1+s.size<=_;omega),zC,dh]
    have e:Int.tdiv ((s.size+1:Nat):Int) 2=(((s.size+1)/2:Nat):Int):=rfl
    rw[e,zg (by omega) (by omega),zT (by omega),zC,zT (by omega),zC]
    have:=z9n (bs [48]++s) (by omega) (by omega) (by rw[hb];show(bS 48&&aX (bl s))=true;rw[hd];rfl) ((s.size+1)/2) 0 ae [] (by omega) (by rw[zq];omega) (by simp;omega)
    rw[show((0:Nat):Int)=0 from rfl,List.drop_zero,List.nil_append,hb] at this
    dsimp only
    rw[this];rfl
   ·rw[if_neg hp,zT (by omega),Bool.not_true,zD]
    have e:Int.tdiv ((s.size:Nat):Int) 2=((s.size/2:Nat):Int):=rfl
    rw[e,zg (by omega) (by omega),zT (by omega),zC,zT (by omega),zC]
    have:=z9n s (by omega) (by omega) hd (s.size/2) 0 ae [] (by omega) (by rw[zq];omega) (by simp;omega)
    rw[show((0:Nat):Int)=0 from rfl,List.drop_zero,List.nil_append] at this
    dsimp only
    rw[this];rfl
theorem Ku(n:Int)(h0:0<=n)(h1:n<=999):Q2 n=some ((n+1)/2):=by
 unfold Q2 nC
 obtain⟨m,rfl⟩:∃m:Nat,n=m:=⟨n.toNat,by omega⟩
 by_cases h:(m:Int)<1
 ·rw[zT h,zC]
  congr 1
  omega
 ·rw[zF h,zD,tv]
  have e:Int.tdiv (m:Int) 2=((m/2:Nat):Int):=rfl
  have e2:zW zI ((m/2:Nat):Int)=((m/2:Nat):Int):=zg (by omega) (by omega)
  rw[e,e2,zg (by omega) (by omega)]
  congr 1
  omega
theorem acF:∀d:Fin 16,d.1<=9->zW zU ((48:Int)+(d.1:Int))=48+(d.1:Int):=by decide+kernel
theorem pQ{d:Nat}(h:d<=9):zW zU ((48:Int)+(d:Int))=48+(d:Int):=acF ⟨d,by omega⟩ h
theorem zly(b:ByteArray)(hb0:b.size<=1099511627776)(nn:Nat)(hn:nn<=999)(m:Nat)(hm:m<=b.size):∀(n j k:Nat) (o:List Int),j+n=m->n<k->o.length+2*n<=35184372088832->∃o',gZ k b (nn:Int) o (m:Int) (j:Int)=some (match cI (decide (nn % 2=1)) (((bl b).take m).drop j) j with
 |some e=> .inl ((nn:Int),bs [],e.1,e.2,o')
 |none=> .inr ((nn:Int),o++cO (((bl b).take m).drop j)))
 |n,j,0,o,_,hk,_=>by omega
 |0,j,k+1,o,hj,hk,_=>by
  unfold gZ lu
  rw[zF (by omega),zD,List.drop_eq_nil_of_le (by rw[List.length_take,zh];omega)]
  exact⟨o,by simp [cI,cO]⟩
 |n+1,j,k+1,o,hj,hk,ho=>by
  have ap:j<b.size:=by omega
  have hl:j<(bl b).length:=by rw[zh];exact ap
  have Gi:j<((bl b).take m).length:=by rw[List.length_take];omega
  obtain⟨x,hx,_,_⟩:=GU (gN (List.getElem_mem hl))
  have sf:=x.2
  have ih:=zly b hb0 nn hn m hm n (j+1) k (o++ [48+((x.1/16:Nat):Int),48+((x.1 % 16:Nat):Int)]) (by omega) (by omega) (by rw[List.length_append];simp only[List.length_cons,List.length_nil];omega)
  have hw:∀{R:Type} (z:Option R),zd (j:Int) b.size z=z:=fun z=>zi ap
  have fU:((bl b).take m).drop j=(x.1:Int)::((bl b).take m).drop (j+1):=by rw[List.drop_eq_getElem_cons Gi,List.getElem_take,hx]
  rw[fU,cI,cO]
  unfold gZ lu
  simp only[hw,Int.toNat_natCast,pZ hl,hx,(qo x).1,(qo x).2.1,tv]
  rw[zT (by omega:(j:Int)<(m:Int)),zC]
  have F0:(x.1:Int)/16=((x.1/16:Nat):Int):=by omega
  have F1:(x.1:Int)% 16=((x.1 % 16:Nat):Int):=by omega
  rw[F0,F1]
  have plain:∀(Z:Option (Sum (Int×ByteArray×Int×Int×List Int) (Int×List Int))),Z=(bif decide ((9:Int)<((x.1/16:Nat):Int)) then some (.inl ((nn:Int),bs [],(3:Int),(j:Int),o)) else bif decide ((9:Int)<((x.1 % 16:Nat):Int)) then some (.inl ((nn:Int),bs [],(3:Int),(j:Int),o)) else(bif decide ((o.length+(List.length ([zW zU (48+((x.1/16:Nat):Int)),zW zU (48+((x.1 % 16:Nat):Int))]:List Int)))*1<=140737488355328) then gZ k b (nn:Int) (o++ [zW zU (48+((x.1/16:Nat):Int)),zW zU (48+((x.1 % 16:Nat):Int))]) (m:Int) (zW zI ((j:Int)+1)) else none))->
   ∃o',Z=some (match(if 9<((x.1/16:Nat):Int)\/9<((x.1 % 16:Nat):Int) then some ((3:Int),(j:Int)) else cI (decide (nn % 2=1)) (((bl b).take m).drop (j+1)) (j+1)) with
    |some e=> .inl ((nn:Int),bs [],e.1,e.2,o')
    |none=> .inr ((nn:Int),o++(48+((x.1/16:Nat):Int))::(48+((x.1 % 16:Nat):Int))::cO (((bl b).take m).drop (j+1)))):=fun Z hZ=>by
   rw[hZ]
   by_cases c1:(9:Int)<((x.1/16:Nat):Int)
   ·rw[zT c1,if_pos (.inl c1)]
    exact⟨o,rfl⟩
   ·by_cases c2:(9:Int)<((x.1 % 16:Nat):Int)
    ·rw[zF c1,zD,zT c2,if_pos (.inr c2)]
     exact⟨o,rfl⟩
    ·rw[zF c1,zD,zF c2,zD,if_neg (fun h=>h.elim c1 c2),pQ (by omega),pQ (by omega),zT (by simp only[List.length_cons,List.length_nil];omega),zC,zr (by omega)]
     obtain⟨o',h⟩:=ih
     refine⟨o',h.trans ?_⟩
     rw[List.append_assoc]
     rfl
  by_cases j0:j=0
  ·subst j0
   rw[zT (by omega:((0:Nat):Int)=0),zC]
   by_cases hp:nn % 2=1
   ·rw[zT hp,zF (by omega:¬((nn % 2:Nat):Int)=0),Bool.not_false,zC]
    by_cases hz:x.1/16=0
    ·rw[if_neg (by omega),zT (by omega),Bool.not_true,zD]
     have:=plain _ rfl
     rw[zT hp] at this
     exact this
    ·rw[if_pos (by simp;omega),zF (by omega),Bool.not_false,zC]
     exact⟨o,rfl⟩
   ·rw[zF hp,zT (by omega:((nn % 2:Nat):Int)=0),Bool.not_true,zD,if_neg (by simp)]
    have:=plain _ rfl
    rw[zF hp] at this
    exact this
  ·rw[zF (by omega:¬(j:Int)=0),zD,if_neg (by omega)]
   exact plain _ rfl
theorem zg0(b:ByteArray)(n:Int)(hb:b.size<=1099511627776):Q0 b n=some (gO b n):=by
 unfold Q0 ns gO
 by_cases h0:n<0
 ·rw[zT h0,if_pos (.inl h0)];rfl
 ·rw[zF h0,zD]
  by_cases h1:999<n
  ·rw[zT h1,if_pos (.inr h1)];rfl
  ·rw[zF h1,zD,if_neg (fun h=>h.elim h0 h1),Ku n (by omega) (by omega),zc]
   by_cases h2:(b.size:Int)<(n+1)/2
   ·rw[zT h2,if_pos h2];rfl
   ·rw[zF h2,zD,if_neg h2,zg (by omega) (by omega),zT (by omega),zC,zT (by omega),zC,zc]
    obtain⟨nn,rfl⟩:∃nn:Nat,n=nn:=⟨n.toNat,by omega⟩
    have em:((nn:Int)+1)/2=(((nn+1)/2:Nat):Int):=by omega
    have ep:((nn:Int)% 2).toNat=nn % 2:=by omega
    have eo:decide ((nn:Int)% 2=1)=decide (nn % 2=1):=decide_eq_decide.2 (by omega)
    rw[em,Int.toNat_natCast,eo,ep]
    obtain⟨o',h⟩:=zly b hb nn (by omega) ((nn+1)/2) (by omega) ((nn+1)/2) 0 ae [] (by omega) (by rw[zq];omega) (by simp;omega)
    rw[show((0:Nat):Int)=0 from rfl,List.drop_zero,List.nil_append] at h
    dsimp only
    rw[h,zc]
    cases cI (decide (nn % 2=1)) ((bl b).take ((nn+1)/2)) 0 with
    |some e=>rfl
    |none=>
     dsimp only
     rw[Sum.elim_inr]
     unfold nu
     dsimp only
     rw[tv,zT (by omega),zC]
     have hlen:∀l:List Int,(cO l).length=2*l.length:=fun l=>by
      induction l with
      |nil=>rfl
      |cons x r ih=>rw[cO,List.length_cons,List.length_cons,ih,List.length_cons];omega
     rw[zT (by rw[hlen,List.length_take,zh];omega),zC,Int.toNat_natCast,List.take_length]
theorem zL(j:Nat):Int.tdiv (j:Int) (2:Int)=((j/2:Nat):Int):=rfl
theorem WH(b:ByteArray)(hb:b.size<=1099511627776)(m:Nat)(hm:m<=b.size)(Ai:m<=500)(K:Nat)(t:ByteArray)(ht:t.size<=1000){j:Nat}(hj:j<m)(x:Fin 256)(hx:ze b j=(x.1:Int)):
 z31 (K+1) b (m:Int) t ((2*j:Nat):Int)=(if 9<x.1/16 then some (.inl (bs [],(3:Int),(j:Int),t)) else z31 K b (m:Int) (t++strOf [48+((x.1/16:Nat):Int)]) ((2*j+1:Nat):Int)):=by
 have sf:=x.2
 have e1:zW zI ((2:Int)*(m:Int))=((2*m:Nat):Int):=by rw[zg (by omega) (by omega)];omega
 have e2:zW zI (((2*j)/2:Nat):Int)=(j:Int):=by rw[zg (by omega) (by omega)];omega
 conv=>lhs;unfold z31 Cv
 simp only[e1,zL,e2,tv,Int.toNat_natCast,hx,(qo x).2.2.1,(qo x).2.2.2]
 have hw:∀{R:Type} (z:Option R),zd (j:Int) b.size z=z:=fun z=>zi (by omega)
 simp only[hw]
 rw[zT (by omega),zC,zF (by omega:¬((2*j:Nat):Int)=1),zD,zF (by omega:¬(((2*j)% 2:Nat):Int)=1),zD]
 by_cases h:9<x.1/16
 ·rw[if_pos h,zT (by omega)];rfl
 ·rw[if_neg h,zF (by omega),zD,pQ (by omega),zT (by rw[kZ];simp only[List.length_singleton];omega),zC,zr (by omega)]
theorem Y4(b:ByteArray)(hb:b.size<=1099511627776)(m:Nat)(hm:m<=b.size)(Ai:m<=500)(K:Nat)(t:ByteArray)(ht:t.size<=1000){j:Nat}(hj:j<m)(x:Fin 256)(hx:ze b j=(x.1:Int))(cg:¬(j=0/\t=bs [])):
 z31 (K+1) b (m:Int) t ((2*j+1:Nat):Int)=(if 9<x.1 % 16 then some (.inl (bs [],(3:Int),(j:Int),t)) else z31 K b (m:Int) (t++strOf [48+((x.1 % 16:Nat):Int)]) ((2*(j+1):Nat):Int)):=by
 have sf:=x.2
 have e1:zW zI ((2:Int)*(m:Int))=((2*m:Nat):Int):=by rw[zg (by omega) (by omega)];omega
 have e2:zW zI (((2*j+1)/2:Nat):Int)=(j:Int):=by rw[zg (by omega) (by omega)];omega
 have e3:zW zI (((2*j+1:Nat):Int)+1)=((2*(j+1):Nat):Int):=by rw[zg (by omega) (by omega)];omega
 conv=>lhs;unfold z31 Cv
 simp only[e1,zL,e2,e3,tv,Int.toNat_natCast,hx,(qo x).2.2.1,(qo x).2.2.2]
 have hw:∀{R:Type} (z:Option R),zd (j:Int) b.size z=z:=fun z=>zi (by omega)
 simp only[hw]
 rw[zT (by omega),zC]
 have Gs:decide ((((2*j+1)% 2:Nat):Int)=1)=true:=zT (by omega)
 by_cases hj0:j=0
 ·have htn:¬t=bs []:=fun e=>cg ⟨hj0,e⟩
  rw[zT (by omega:((2*j+1:Nat):Int)=1),zC,zF htn,zD,Gs,zC]
  by_cases h:9<x.1 % 16
  ·rw[if_pos h,zT (by omega)];rfl
  ·rw[if_neg h,zF (by omega),zD,pQ (by omega),zT (by rw[kZ];simp only[List.length_singleton];omega),zC]
 ·rw[zF (by omega:¬((2*j+1:Nat):Int)=1),zD,Gs,zC]
  by_cases h:9<x.1 % 16
  ·rw[if_pos h,zT (by omega)];rfl
  ·rw[if_neg h,zF (by omega),zD,pQ (by omega),zT (by rw[kZ];simp only[List.length_singleton];omega),zC]
theorem Wa(b:ByteArray)(hb:b.size<=1099511627776)(m:Nat)(hm:m<=b.size)(Ai:m<=500)(K:Nat)(h0:0<m)(x:Fin 256)(hx:ze b 0=(x.1:Int)):
 z31 (K+1) b (m:Int) (bs []) (1:Int)=(if x.1/16≠0 then some (.inl (bs [],(4:Int),(0:Int),bs [])) else if 9<x.1 % 16 then some (.inl (bs [],(3:Int),(0:Int),bs [])) else z31 K b (m:Int) (bs []++strOf [48+((x.1 % 16:Nat):Int)]) (2:Int)):=by
 have sf:=x.2
 have e1:zW zI ((2:Int)*(m:Int))=((2*m:Nat):Int):=by rw[zg (by omega) (by omega)];omega
 have e2:zW zI (Int.tdiv (1:Int) 2)=0:=by decide
 have e3:zW zI ((1:Int)+1)=2:=by decide
 have e4:Int.tmod (1:Int) 2=1:=by decide
 conv=>lhs;unfold z31 Cv
 simp only[e1,e2,e3,e4,show((0:Int)).toNat=0 from rfl,hx,(qo x).2.2.1,(qo x).2.2.2]
 have hw:∀{R:Type} (z:Option R),zd (0:Int) b.size z=z:=fun z=>zm (by omega) (by omega)
 simp only[hw]
 rw[zT (by omega),zC]
 simp only[decide_true,zC]
 by_cases hz:x.1/16=0
 ·rw[if_neg (fun h=>h hz),zT (by omega),Bool.not_true,zD]
  by_cases h:9<x.1 % 16
  ·rw[if_pos h,zT (by omega)];rfl
  ·rw[if_neg h,zF (by omega),zD,pQ (by omega),zT (by rw[kZ];simp only[List.length_singleton];show 0+1<=_;omega),zC]
 ·rw[if_pos hz,zF (by omega)];rfl
theorem ZH(t:ByteArray)(a b:Int):t++strOf [a]++strOf [b]=t++strOf [a,b]:=by
 rw[ByteArray.append_assoc,<-MU];rfl
theorem zny:∀(l:List Int) (i:Nat) (o1 o2:Bool),0<i->cI o1 l i=cI o2 l i
 | [],i,o1,o2,_=>rfl
 |y::r,i,o1,o2,hi=>by
  have e:∀o,cI o (y::r) i=if 9<y/16\/9<y % 16 then some (3,(i:Int)) else cI o r (i+1):=fun o=>by rw[cI,if_neg (fun h=>absurd h.1 (by omega))]
  rw[e,e,zny r (i+1) o1 o2 (by omega)]
theorem zcm(b:ByteArray)(hb:b.size<=1099511627776)(m:Nat)(hm:m<=b.size)(Ai:m<=500)(odd:Bool):∀(n j K:Nat) (t:ByteArray),j+n=m->2*n<K->t.size+2*n<=1000->((odd=true\/t≠bs [])->0<j)->∃o',z31 K b (m:Int) t ((2*j:Nat):Int)=some (match cI (odd&&decide (0<j)) (((bl b).take m).drop j) j with
 |some e=> .inl (bs [],e.1,e.2,o')
 |none=> .inr (t++strOf (cO (((bl b).take m).drop j))))
 |n,j,0,t,_,hk,_,_=>by omega
 |0,j,K+1,t,hj,hk,ht,h0=>by
  have e1:zW zI ((2:Int)*(m:Int))=((2*m:Nat):Int):=by rw[zg (by omega) (by omega)];omega
  unfold z31 Cv
  rw[e1,zF (by omega),zD,List.drop_eq_nil_of_le (by rw[List.length_take,zh];omega)]
  exact⟨t,by simp only[cI,cO];congr 2;apply qt;rw[sQ];simp [bl,strOf]⟩
 |n+1,j,1,t,hj,hk,ht,h0=>by omega
 |n+1,j,K+2,t,hj,hk,ht,h0=>by
  have ap:j<b.size:=by omega
  have hl:j<(bl b).length:=by rw[zh];exact ap
  have Gi:j<((bl b).take m).length:=by rw[List.length_take];omega
  obtain⟨x,hx,_,_⟩:=GU (gN (List.getElem_mem hl))
  have sf:=x.2
  have Mp:ze b j=(x.1:Int):=by rw[pZ hl,hx]
  have fU:((bl b).take m).drop j=(x.1:Int)::((bl b).take m).drop (j+1):=by rw[List.drop_eq_getElem_cons Gi,List.getElem_take,hx]
  have F0:(x.1:Int)/16=((x.1/16:Nat):Int):=by omega
  have F1:(x.1:Int)% 16=((x.1 % 16:Nat):Int):=by omega
  rw[WH b hb m hm Ai (K+1) t (by omega) (by omega) x Mp,fU,cI,cO,F0,F1]
  have Ad:¬(j=0/\(odd&&decide (0<j))=true/\((x.1/16:Nat):Int)≠0):=by
   rintro⟨h1,h2,_⟩
   rw[h1] at h2
   simp at h2
  rw[if_neg Ad]
  by_cases h:9<x.1/16
  ·rw[if_pos h,if_pos (.inl (by omega))]
   exact⟨t,rfl⟩
  ·rw[if_neg h,Y4 b hb m hm Ai K _ (by rw[ByteArray.size_append,kZ];simp only[List.length_singleton];omega) (by omega) x Mp (fun e=>by
    have:=congrArg ByteArray.size e.2
    rw[ByteArray.size_append,kZ] at this
    simp only[List.length_singleton] at this
    have h0:(bs []).size=0:=rfl
    omega)]
   by_cases h2:9<x.1 % 16
   ·rw[if_pos h2,if_pos (.inr (by omega))]
    exact⟨_,rfl⟩
   ·rw[if_neg h2,if_neg (by omega),ZH]
    obtain⟨o',ih⟩:=zcm b hb m hm Ai odd n (j+1) K (t++strOf [48+((x.1/16:Nat):Int),48+((x.1 % 16:Nat):Int)]) (by omega) (by omega) (by rw[ByteArray.size_append,kZ];simp only[List.length_cons,List.length_nil];omega) (fun _=>by omega)
    refine⟨o',ih.trans ?_⟩
    have hE:cI (odd&&decide (0<j+1)) (((bl b).take m).drop (j+1)) (j+1)=cI (odd&&decide (0<j)) (((bl b).take m).drop (j+1)) (j+1):=by
     exact zny _ _ _ _ (by omega)
    rw[hE,ByteArray.append_assoc,<-MU]
    rfl
theorem zmt(b:ByteArray)(n:Int)(hb:b.size<=1099511627776):qb b n=some (gO b n):=by
 unfold qb RK gO
 by_cases h0:n<0
 ·rw[zT h0,if_pos (.inl h0)];rfl
 ·rw[zF h0,zD]
  by_cases h1:999<n
  ·rw[zT h1,if_pos (.inr h1)];rfl
  ·rw[zF h1,zD,if_neg (fun h=>h.elim h0 h1)]
   obtain⟨nn,rfl⟩:∃nn:Nat,n=nn:=⟨n.toNat,by omega⟩
   have ew:zW zI ((nn:Int)+1)=((nn+1:Nat):Int):=by rw[zg (by omega) (by omega)];omega
   have ew2:zW zI (((nn+1)/2:Nat):Int)=(((nn+1)/2:Nat):Int):=zg (by omega) (by omega)
   have em:((nn:Int)+1)/2=(((nn+1)/2:Nat):Int):=by omega
   have ep:((nn:Int)% 2).toNat=nn % 2:=by omega
   have eo:decide ((nn:Int)% 2=1)=decide (nn % 2=1):=decide_eq_decide.2 (by omega)
   rw[ew,zL,ew2,em,Int.toNat_natCast,eo,ep]
   generalize Aj:(nn+1)/2=m
   by_cases h2:(b.size:Int)<(m:Int)
   ·rw[zT h2,if_pos h2];rfl
   ·rw[zF h2,zD,if_neg h2]
    have e2m:zW zI ((2:Int)*(m:Int))=((2*m:Nat):Int):=by rw[zg (by omega) (by omega)];omega
    rw[e2m]
    dsimp only
    by_cases hp:nn % 2=1
    ·have es:zW zI (((2*m:Nat):Int)-(nn:Int))=1:=by rw[zg (by omega) (by omega)];omega
     rw[es,zT hp]
     have hl:0<(bl b).length:=by rw[zh];omega
     have Gi:0<((bl b).take m).length:=by rw[List.length_take];omega
     obtain⟨x,hx,_,_⟩:=GU (gN (List.getElem_mem hl))
     have sf:=x.2
     have Mp:ze b 0=(x.1:Int):=by rw[pZ hl,hx]
     have fU:(bl b).take m=(x.1:Int)::((bl b).take m).drop 1:=by
      have:=List.drop_eq_getElem_cons Gi
      rw[List.drop_zero,List.getElem_take,hx] at this
      exact this
     have F0:(x.1:Int)/16=((x.1/16:Nat):Int):=by omega
     have F1:(x.1:Int)% 16=((x.1 % 16:Nat):Int):=by omega
     obtain⟨K,hK⟩:∃K,ae=K+1:=⟨ae-1,by rw[zq]⟩
     rw[hK,Wa b hb m (by omega) (by omega) K (by omega) x Mp,fU,cI,cO,F0,F1]
     by_cases hz:x.1/16=0
     ·have Tx:¬((0:Nat)=0/\true=true/\((x.1/16:Nat):Int)≠0):=by simp;omega
      rw[if_neg (fun h=>h hz),if_neg Tx]
      by_cases h9:9<x.1 % 16
      ·rw[if_pos h9,if_pos (.inr (by omega))];rfl
      ·rw[if_neg h9,if_neg (by omega)]
       have GM:(bs []++strOf [48+((x.1 % 16:Nat):Int)]).size=1:=by rw[ByteArray.size_append,kZ];rfl
       obtain⟨o',ih⟩:=zcm b hb m (by omega) (by omega) true (m-1) 1 K (bs []++strOf [48+((x.1 % 16:Nat):Int)]) (by omega) (by rw[zq] at hK;omega) (by rw[GM];omega) (fun _=>by omega)
       rw[show((2*1:Nat):Int)=2 from rfl] at ih
       rw[ih,zc,zny _ 1 (true&&decide (0<1)) true (by omega)]
       cases cI true (((bl b).take m).drop 1) 1 with
       |some e=>rfl
       |none=>
        dsimp only
        rw[Sum.elim_inr]
        unfold LG
        rw[hp]
        congr 2
     ·rw[if_pos hz,if_pos ⟨rfl,rfl,by omega⟩];rfl
    ·have es:zW zI (((2*m:Nat):Int)-(nn:Int))=((2*0:Nat):Int):=by rw[zg (by omega) (by omega)];omega
     rw[es,zF hp]
     obtain⟨o',ih⟩:=zcm b hb m (by omega) (by omega) false m 0 ae (bs []) (by omega) (by rw[zq];omega) (by show 0+_<=_;omega) (fun h=>by rcases h with h|h;cases h;exact absurd rfl h)
     rw[ih,zc,List.drop_zero,show(false&&decide (0<0))=false from rfl]
     cases cI false ((bl b).take m) 0 with
     |some e=>rfl
     |none=>
      dsimp only
      rw[Sum.elim_inr]
      unfold LG
      rw[show nn % 2=0 by omega,List.drop_zero]
      congr 2
theorem pV{a:Int}{l:List Int}:aX (a::l)=true↔bS a=true/\aX l=true:=by
 rw[zfy,Bool.and_eq_true]
theorem pU{a:Int}:bS a=true↔48<=a/\a<=57:=by
 unfold bS
 rw[decide_eq_true_eq]
theorem zo0:∀l:List Int,(cP l).length=l.length/2
 | []=>rfl
 | [a]=>by simp [cP]
 |a::b::r=>by rw[cP,List.length_cons,zo0 r,List.length_cons,List.length_cons];omega
theorem znz:∀l:List Int,(cO l).length=2*l.length
 | []=>rfl
 |x::r=>by rw[cO,List.length_cons,List.length_cons,znz r,List.length_cons];omega
theorem zye:∀{l:List Int},aX l=true->∀y∈cP l,zn y
 | [],_,y,hy=>by simp [cP] at hy
 | [a],_,y,hy=>by simp [cP] at hy
 |a::b::r,h,y,hy=>by
  obtain⟨h1,h2⟩:=pV.1 h
  obtain⟨h2,h3⟩:=pV.1 h2
  rw[pU] at h1 h2
  rw[cP] at hy
  rcases List.mem_cons.1 hy with rfl|hy
  ·unfold zn;omega
  ·exact zye h3 y hy
theorem xm:∀{l:List Int},l.length % 2=0->aX l=true->cO (cP l)=l
 | [],_,_=>by simp [cP,cO]
 | [a],h,_=>by simp at h
 |a::b::r,h,hd=>by
  obtain⟨h1,h2⟩:=pV.1 hd
  obtain⟨h2,h3⟩:=pV.1 h2
  rw[pU] at h1 h2
  rw[cP,cO,xm (by simp only[List.length_cons] at h;omega) h3,show 48+(16*(a-48)+(b-48))/16=a by omega,show 48+(16*(a-48)+(b-48))% 16=b by omega]
theorem xl(odd:Bool):∀{l:List Int} {i:Nat},l.length % 2=0->aX l=true->(i=0->odd=true->l.getD 0 48=48)->cI odd (cP l) i=none
 | [],_,_,_,_=>by simp [cP,cI]
 | [a],_,h,_,_=>by simp at h
 |a::b::r,i,h,hd,ho=>by
  obtain⟨h1,h2⟩:=pV.1 hd
  obtain⟨h2,h3⟩:=pV.1 h2
  rw[pU] at h1 h2
  rw[cP,cI,if_neg,if_neg (by omega)]
  ·exact xl odd (by simp only[List.length_cons] at h;omega) h3 fun hi=>by omega
  ·rintro⟨e1,e2,e3⟩
   have:a=48:=ho e1 e2
   omega
def gm(s:ByteArray):List Int:=if s.size % 2=1 then 48::bl s else bl s
theorem zyf(s:ByteArray):(gm s).length % 2=0:=by
 unfold gm
 split
 ·rw[List.length_cons,zh];omega
 ·rw[zh];omega
theorem HC(s:ByteArray):(gm s).length/2=(s.size+1)/2:=by
 unfold gm
 split
 ·rw[List.length_cons,zh]
 ·rw[zh];omega
theorem zo1{s:ByteArray}(h:aX (bl s)=true):aX (gm s)=true:=by
 unfold gm
 split
 ·exact pV.2 ⟨rfl,h⟩
 ·exact h
theorem zg3{s:ByteArray}(h:s.size<=999)(hd:aX (bl s)=true):mD s=(strOf (cP (gm s)),true):=by
 unfold mD gm
 rw[zT ⟨h,hd⟩,zC]
theorem Kp{s:ByteArray}(h:s.size<=999)(hd:aX (bl s)=true):(mD s).1.size=(s.size+1)/2:=by
 rw[zg3 h hd]
 show(strOf _).size=_
 rw[kZ,zo0,HC]
theorem zo2{s:ByteArray}(h:s.size<=999)(hd:aX (bl s)=true):gO (mD s).1 (s.size:Int)=(s,0,0):=by
 have dh:=Kp h hd
 have hb:bl (mD s).1=cP (gm s):=by rw[zg3 h hd];exact pW (zye (zo1 hd))
 unfold gO
 rw[if_neg (by omega),if_neg (by rw[dh];omega),hb,List.take_of_length_le (by rw[zo0,HC];omega),xl _ (zyf s) (zo1 hd),xm (zyf s) (zo1 hd)]
 ·dsimp only
  by_cases hp:s.size % 2=1
  ·rw[show((s.size:Int)% 2).toNat=1 by omega]
   unfold gm
   rw[if_pos hp,List.drop_succ_cons,List.drop_zero,yk]
  ·rw[show((s.size:Int)% 2).toNat=0 by omega]
   unfold gm
   rw[if_neg hp,List.drop_zero,yk]
 ·intro _ ho
  have ho:=of_decide_eq_true ho
  unfold gm
  rw[if_pos (by omega)];rfl
theorem zyd{odd:Bool}:∀{l:List Int} {i:Nat},cI odd l i=none->(∀x∈l,x/16<=9/\x % 16<=9)/\(i=0->odd=true->l.getD 0 0/16=0)
 | [],i,_=>⟨fun x hx=>(by cases hx),fun _ _=>rfl⟩
 |a::r,i,h=>by
  rw[cI] at h
  by_cases h1:i=0/\odd=true/\a/16≠0
  ·rw[if_pos h1] at h;cases h
  ·rw[if_neg h1] at h
   by_cases h2:9<a/16\/9<a % 16
   ·rw[if_pos h2] at h;cases h
   ·rw[if_neg h2] at h
    refine⟨fun x hx=> ?_,fun hi ho=> ?_⟩
    ·rcases List.mem_cons.1 hx with rfl|hx
     ·omega
     ·exact(zyd h).1 x hx
    ·show a/16=0
     by_cases h3:a/16=0
     ·exact h3
     ·exact absurd ⟨hi,ho,h3⟩ h1
theorem xn:∀{l:List Int},(∀x∈l,zn x)->cP (cO l)=l
 | [],_=>by simp [cO,cP]
 |x::r,h=>by
  have hx:=h x List.mem_cons_self
  unfold zn at hx
  rw[cO,cP,xn fun y hy=>h y (List.mem_cons_of_mem _ hy),show 16*(48+x/16-48)+(48+x % 16-48)=x by omega]
theorem HB:∀{l:List Int},(∀x∈l,zn x)->(∀x∈l,x/16<=9/\x % 16<=9)->aX (cO l)=true
 | [],_,_=>rfl
 |x::r,h,h9=>by
  have hx:=h x List.mem_cons_self
  have hy:=h9 x List.mem_cons_self
  unfold zn at hx
  rw[cO]
  exact pV.2 ⟨pU.2 (by omega),pV.2 ⟨pU.2 (by omega),HB (fun y hy=>h y (List.mem_cons_of_mem _ hy)) fun y hy=>h9 y (List.mem_cons_of_mem _ hy)⟩⟩
theorem zyt{l:List Int}(h:aX l=true):∀x∈l,zn x:=fun x hx=>by
 have:=pU.1 (List.all_eq_true.1 h x hx)
 unfold zn;omega
theorem zg4{b t:ByteArray}{n i:Int}(h:gO b n=(t,0,i))(hb:(b.size:Int)=(n+1)/2):mD t=(b,true)/\(t.size:Int)=n/\aX (bl t)=true:=by
 unfold gO at h
 by_cases h0:n<0\/999<n
 ·rw[if_pos h0] at h;cases h
 ·rw[if_neg h0,if_neg (by omega),<-hb,Int.toNat_natCast,List.take_of_length_le (by rw[zh];exact Nat.le_refl _)] at h
  cases he:cI (decide (n % 2=1)) (bl b) 0 with
  |some e=>
   rw[he] at h
   dsimp only at h
   injection h with _ h
   injection h with h _
   exfalso
   have key:∀{l:List Int} {i:Nat} {odd:Bool} {e:Int×Int},cI odd l i=some e->e.1≠0:=by
    intro l
    induction l with
    |nil=>intro i odd e h;cases h
    |cons a r ih=>
     intro i odd e h
     rw[cI] at h
     split at h
     ·cases h;decide
     ·split at h
      ·cases h;simp
      ·exact ih h
   exact key he h
  |none=>
   rw[he] at h
   dsimp only at h
   obtain⟨g1,g2⟩:=zyd he
   have mA:∀x∈bl b,zn x:=fun x hx=>gN hx
   have dX:=HB mA g1
   have ht:t=strOf ((cO (bl b)).drop (n % 2).toNat):=(congrArg Prod.fst h).symm
   have xA:aX ((cO (bl b)).drop (n % 2).toNat)=true:=List.all_eq_true.2 fun x hx=>List.all_eq_true.1 dX x (List.mem_of_mem_drop hx)
   have dD:bl t=(cO (bl b)).drop (n % 2).toNat:=by rw[ht];exact pW (zyt xA)
   have gB:t.size=2*b.size-(n % 2).toNat:=by rw[<-zh,dD,List.length_drop,znz,zh]
   have hX:gm t=cO (bl b):=by
    unfold gm
    by_cases hp:n % 2=1
    ·rw[if_pos (by omega),dD,show(n % 2).toNat=1 by omega]
     have h1:=g2 rfl (by rw[zT hp])
     cases hl:bl b with
     |nil=>
      have h9:b.size=0:=by rw[<-zh,hl];rfl
      omega
     |cons x r=>
      rw[hl] at h1
      have h1:x/16=0:=h1
      rw[cO,List.drop_succ_cons,List.drop_zero,h1];rfl
    ·rw[if_neg (by omega),dD,show(n % 2).toNat=0 by omega,List.drop_zero]
   have hd:aX (bl t)=true:=by rw[dD];exact xA
   refine⟨?_,by omega,hd⟩
   rw[zg3 (by omega) hd,hX,xn mA,yk]
theorem FW{a:Int}(h:bS a=true):zW zU ((16:Int)*(zW zU (a-48)))=16*(a-48):=by
 have:=pU.1 h
 simp [IntKind.wrap,IntKind.signed,IntKind.bits]
 omega
theorem FX{c a:Int}(h:bS a=true)(hc:bS c=true):zW zU (16*(c-48)+zW zU (a-48))=16*(c-48)+(a-48):=by
 have:=pU.1 h
 have:=pU.1 hc
 simp [IntKind.wrap,IntKind.signed,IntKind.bits]
 omega
theorem acW(o:List Int)(x y:Int):(o++ [x]).set o.length y=o++ [y]:=by
 rw[List.set_append_right _ _ (Nat.le_refl _)];simp
theorem Y6(o:List Int)(x:Int):(o++ [x]).getD o.length 0=x:=by
 rw[List.getD_eq_getElem?_getD,List.getElem?_append_right (Nat.le_refl _)];simp
theorem zta(s:ByteArray)(hs:s.size<=1099511627776)(hd:aX (bl s)=true):∀(n j k:Nat),j+n=s.size->n<k->
 (∀o:List Int,o.length+n<=35184372088832->n % 2=0->vU k s o 0 (j:Int)=some (o++cP ((bl s).drop j)))/\
 (∀(o:List Int) (c:Int),o.length+n<=35184372088832->bS c=true->n % 2=1->vU k s (o++ [16*(c-48)]) 1 (j:Int)=some (o++cP (c::(bl s).drop j)))
 |n,j,0,_,hk=>by omega
 |0,j,k+1,hj,hk=>by
  refine⟨fun o ho hp=> ?_,fun o c ho hc hp=>by omega⟩
  unfold vU DF
  rw[zF (by omega),zD,List.drop_eq_nil_of_le (by rw[zh];omega)]
  simp [cP]
 |n+1,j,k+1,hj,hk=>by
  have ap:j<s.size:=by omega
  have hl:j<(bl s).length:=by rw[zh];exact ap
  have d1:=List.all_eq_true.1 hd _ (List.getElem_mem hl)
  obtain⟨ih0,ih1⟩:=zta s hs hd n (j+1) k (by omega) (by omega)
  refine⟨fun o ho hp=> ?_,fun o c ho hc hp=> ?_⟩
  ·unfold vU DF
   rw[zT (by omega),zC,zi ap,Int.toNat_natCast,pZ hl,FW d1,zr (by omega),zT (rfl:(0:Int)=0),zC,zT (by simp only[List.length_singleton];omega),zC]
   rw[show zW zI ((1:Int)-0)=1 from by decide]
   dsimp only
   rw[ih1 o _ (by omega) d1 (by omega),<-List.drop_eq_getElem_cons hl]
  ·unfold vU DF
   have hi:zW zI ((((o++ [16*(c-48)]).length:Nat):Int)-1)=(o.length:Int):=by
    rw[zg (by simp only[List.length_append,List.length_singleton];omega) (by simp only[List.length_append,List.length_singleton];omega),List.length_append,List.length_singleton];omega
   rw[zT (by omega),zC,zi ap,Int.toNat_natCast,pZ hl,zr (by omega),zF (by decide:¬(1:Int)=0),zD,hi,zi (by rw[List.length_append,List.length_singleton];omega),Int.toNat_natCast,Y6,acW,FX d1 hc]
   rw[show zW zI ((1:Int)-1)=0 from by decide]
   dsimp only
   rw[ih0 _ (by rw[List.length_append,List.length_singleton];omega) (by omega),List.drop_eq_getElem_cons hl,cP,List.append_assoc]
   rfl
theorem zmv(s:ByteArray)(hs:s.size<=maxLen):wC s=some (mD s):=by
 unfold wC DE mD
 by_cases h1:(999:Int)<(s.size:Int)
 ·rw[zT h1,zC,zF (by omega)];rfl
 ·rw[zF h1,zD,zmr s hs,zc]
  cases hd:aX (bl s) with
  |false=>rw[zF (p:=s.size<=999/\false=true) (fun h=>by cases h.2)];rfl
  |true=>
   rw[Bool.not_true,zD,zT (⟨by omega,rfl⟩:s.size<=999/\true=true),zC,tv]
   obtain⟨l0,l1⟩:=zta s (by omega) hd s.size 0 ae (by omega) (by rw[zq];omega)
   rw[show((0:Nat):Int)=0 from rfl,List.drop_zero] at l0 l1
   by_cases hp:s.size % 2=1
   ·rw[if_pos hp,zT (by omega),zC,hp,zT (by decide),zC]
    have:=l1 [] 48 (by simp;omega) rfl hp
    rw[List.nil_append] at this⊢
    dsimp only
    rw[show([(0:Int)]:List Int)=[16*((48:Int)-48)] from rfl,show((1:Nat):Int)=1 from rfl,this,zc]
    rfl
   ·rw[if_neg hp,zF (by omega),zD]
    have:=l0 [] (by simp;omega) (by omega)
    rw[List.nil_append] at this
    dsimp only
    rw[show s.size % 2=0 by omega,show((0:Nat):Int)=0 from rfl,this,zc]
    rfl
def dd(style form:Int):Bool:=decide ((style=1\/style=2)/\(form=2\/form=3))
def gU(style form:Int):Nat:=if style=2 then(form.toNat+1)/2 else form.toNat
def kx(style form n:Int):ByteArray×Int:=
 bif dd style form then(bif(eC n form).2 then(if style=2 then(mD (eC n form).1).1 else(eC n form).1,0) else(bs [],5)) else(bs [],1)
def kQ(style form:Int)(s:ByteArray):Option Int:=
 if style=2 then(if(gO s form).2.1=0 then(if(cL (bl (gO s form).1)).2=true then some (cL (bl (gO s form).1)).1 else none) else none) else if(cL (bl s)).2=true then some (cL (bl s)).1 else none
def gL(style form:Int)(b:ByteArray)(at_:Int):Int×Int×Int:=
 bif dd style form&&decide (0<=at_/\at_<=b.size) then(if b.size<at_.toNat+gU style form then(0,0,2) else
  match kQ style form (b.extract at_.toNat (at_.toNat+gU style form)) with
  |some n=>(n,((at_.toNat+gU style form:Nat):Int),0)
  |none=>(0,0,3)) else(0,0,1)
theorem zh6(n w:Int):(eC n w).1.size<=18:=by
 by_cases h:0<=n/\1<=w/\w<=18/\n.toNat/10^w.toNat=0
 ·rw[L7 h];show(strOf _).size<=18;rw[kZ,Kv];omega
 ·rw[wh h];decide
theorem Zs(style form n:Int)(hn:n<=9223372036854775807):pk style form n=some (kx style form n):=by
 unfold pk Ov pn K0 iP K1 kx dd
 by_cases h1:style=1<;>by_cases h2:style=2<;>by_cases h3:form=2<;>by_cases h4:form=3<;>(try(exfalso;omega))<;>simp [h1,h2,h3,h4,afs _ _ hn]
 all_goals
  cases hp:(eC n _).2<;>simp [hp]
 all_goals
  rw[zg1 _ (by have:=zh6 n;simp only[maxLen];first|(have:=this 2;omega)|(have:=this 3;omega))]
  rfl
theorem aaf(style form n:Int)(hn:n<=9223372036854775807):yQ style form n=some (kx style form n):=by
 unfold yQ R4 wF LP kx dd
 by_cases h1:style=1<;>by_cases h2:style=2<;>by_cases h3:form=2<;>by_cases h4:form=3<;>(try(exfalso;omega))<;>simp [h1,h2,h3,h4,aad _ _ hn]
 all_goals
  cases hp:(eC n _).2<;>simp [hp]
 all_goals
  rw[zmv _ (by have:=zh6 n;simp only[maxLen];first|(have:=this 2;omega)|(have:=this 3;omega))]
  rfl
theorem vI{b:ByteArray}{i n:Nat}(h:i+n<=b.size):(b.extract i (i+n)).size=n:=by rw[ByteArray.size_extract];omega
theorem Ko{b t:ByteArray}{n e i:Int}(h:gO b n=(t,e,i)):t.size<=1998:=by
 unfold gO at h
 split at h
 ·cases h;decide
 ·split at h
  ·cases h;decide
  ·split at h
   ·cases h;decide
   ·cases h
    rw[kZ,List.length_drop,znz,List.length_take]
    omega
theorem Zr(style form:Int)(b:ByteArray)(at_:Int)(hb:b.size<=1099511627776):qK style form b at_=some (gL style form b at_):=by
 unfold qK Oq pn K0 iP K1 gL dd
 by_cases bV:0<=at_/\at_<=b.size
 ·obtain⟨m,rfl⟩:∃m:Nat,at_=m:=⟨at_.toNat,by omega⟩
  have hm:m<=b.size:=by omega
  have w0:zW zI ((b.size:Int)-(m:Int))=(b.size:Int)-m:=zg (by omega) (by omega)
  have w1:∀k:Nat,k<=3->zW zI ((m:Int)+(k:Int))=((m+k:Nat):Int):=fun k hk=>by rw[zg (by omega) (by omega)];omega
  have z1:=Ku 2 (by decide) (by decide)
  have z2:=Ku 3 (by decide) (by decide)
  have v1:=w1 1 (by decide)
  have v2:=w1 2 (by decide)
  have v3:=w1 3 (by decide)
  rw[show((1:Nat):Int)=1 from rfl] at v1
  rw[show((2:Nat):Int)=2 from rfl] at v2
  rw[show((3:Nat):Int)=3 from rfl] at v3
  have t2:((m:Int)+2).toNat=m+2:=by omega
  have t3:((m:Int)+3).toNat=m+3:=by omega
  have a1:¬(m:Int)<0:=by omega
  have a2:¬(b.size:Int)<m:=by omega
  have a3:0<=((m:Int)):=by omega
  have a4:(m:Int)<=b.size:=by omega
  by_cases h1:style=1<;>by_cases h2:style=2<;>by_cases h3:form=2<;>by_cases h4:form=3<;>(try(exfalso;omega))<;>simp [h1,h2,h3,h4,a1,a2,w0,z1,z2,v1,v2,v3,gU]
  all_goals
   rw[zT hm,zC]
   split
   ·rename_i hc
    rw[zT (by omega),zC]
   ·rename_i hc
    rw[zF (by omega),zD,zT (by omega),zC,zT (by omega),zC,zT (by omega),zC]
    try rw[t2]
    try rw[t3]
    first
     |(rw[Jw _ (by rw[ByteArray.size_extract];simp only[maxLen];omega),zc]
       unfold kQ
       rw[if_neg (by decide)]
       cases(cL _).2<;>rfl)
     |(rw[zg0 _ _ (by rw[ByteArray.size_extract];omega),zc]
       unfold kQ
       rw[if_pos rfl]
       generalize hg:gO _ _=gg
       obtain⟨t,e,i⟩:=gg
       dsimp only
       by_cases he:e=0
       ·rw[zT he,zC,if_pos he,Jw _ (by have:=Ko hg;simp only[maxLen];omega),zc]
        cases(cL _).2<;>rfl
       ·rw[zF he,if_neg he];rfl)
 ·rw[zF (p:=0<=at_/\at_<=(b.size:Int)) bV,Bool.and_false,zD]
  by_cases h1:style=1<;>by_cases h2:style=2<;>by_cases h3:form=2<;>by_cases h4:form=3<;>(try(exfalso;omega))<;>by_cases h5:at_<0<;>by_cases h6:(b.size:Int)<at_<;>(try(exfalso;omega))<;>simp [h1,h2,h3,h4,h5,h6]
theorem Z8(style form:Int)(b:ByteArray)(at_:Int)(hb:b.size<=1099511627776):EG style form b at_=some (gL style form b at_):=by
 unfold EG R3 wF LP gL dd
 by_cases bV:0<=at_/\at_<=b.size
 ·obtain⟨m,rfl⟩:∃m:Nat,at_=m:=⟨at_.toNat,by omega⟩
  have hm:m<=b.size:=by omega
  have w0:zW zI ((b.size:Int)-(m:Int))=(b.size:Int)-m:=zg (by omega) (by omega)
  have w1:∀k:Nat,k<=3->zW zI ((m:Int)+(k:Int))=((m+k:Nat):Int):=fun k hk=>by rw[zg (by omega) (by omega)];omega
  have z1:zW zI 1=1:=by decide
  have z2:zW zI 2=2:=by decide
  have v1:=w1 1 (by decide)
  have v2:=w1 2 (by decide)
  have v3:=w1 3 (by decide)
  rw[show((1:Nat):Int)=1 from rfl] at v1
  rw[show((2:Nat):Int)=2 from rfl] at v2
  rw[show((3:Nat):Int)=3 from rfl] at v3
  have t2:((m:Int)+2).toNat=m+2:=by omega
  have t3:((m:Int)+3).toNat=m+3:=by omega
  have a1:¬(m:Int)<0:=by omega
  have a2:¬(b.size:Int)<m:=by omega
  have a3:0<=((m:Int)):=by omega
  have a4:(m:Int)<=b.size:=by omega
  by_cases h1:style=1<;>by_cases h2:style=2<;>by_cases h3:form=2<;>by_cases h4:form=3<;>(try(exfalso;omega))<;>simp [h1,h2,h3,h4,a1,a2,w0,z1,z2,v1,v2,v3,gU]
  all_goals
   rw[zT hm,zC]
   split
   ·rename_i hc
    rw[zT (by omega),zC]
   ·rename_i hc
    rw[zF (by omega),zD,zT (by omega),zC,zT (by omega),zC,zT (by omega),zC]
    try rw[t2]
    try rw[t3]
    first
     |(rw[Hs _ (by rw[ByteArray.size_extract];simp only[maxLen];omega),zc]
       unfold kQ
       rw[if_neg (by decide)]
       cases(cL _).2<;>rfl)
     |(rw[zmt _ _ (by rw[ByteArray.size_extract];omega),zc]
       unfold kQ
       rw[if_pos rfl]
       generalize hg:gO _ _=gg
       obtain⟨t,e,i⟩:=gg
       dsimp only
       by_cases he:e=0
       ·rw[zT he,zC,if_pos he,Hs _ (by have:=Ko hg;simp only[maxLen];omega),zc]
        cases(cL _).2<;>rfl
       ·rw[zF he,if_neg he];rfl)
 ·rw[zF (p:=0<=at_/\at_<=(b.size:Int)) bV,Bool.and_false,zD]
  by_cases h1:style=1<;>by_cases h2:style=2<;>by_cases h3:form=2<;>by_cases h4:form=3<;>(try(exfalso;omega))<;>by_cases h5:at_<0<;>by_cases h6:(b.size:Int)<at_<;>(try(exfalso;omega))<;>simp [h1,h2,h3,h4,h5,h6]
theorem zxl(n:Int):Q4 n=some (if n<0\/65535<n then 0 else if 255<n then 3 else if 127<n then 2 else 1):=by
 unfold Q4 nG
 by_cases h1:n<0
 ·rw[zT h1,if_pos (.inl h1)];rfl
 by_cases h2:(65535:Int)<n
 ·rw[zF h1,zT h2,if_pos (.inr h2)];rfl
 rw[zF h1,zF h2,if_neg (by omega)]
 by_cases h3:(255:Int)<n
 ·rw[zT h3,if_pos h3];rfl
 by_cases h4:(127:Int)<n
 ·rw[zF h3,zT h4,if_neg h3,if_pos h4];rfl
 ·rw[zF h3,zF h4,if_neg h3,if_neg h4];rfl
theorem xv:∃k,ae=k+1+1+1:=⟨ae-3,by rw[zq]⟩
theorem or_zero{y:Int}(hy:zn y):aD .or .i64 (zW zI (0*2^min (8:Int).toNat 64)) (zW zI y)=y:=by
 obtain⟨k,rfl⟩:=lf hy
 clear hy
 revert k
 decide+kernel
theorem Yw(s:ByteArray)(hs:s.size<=9223372036854775000)(a:Int):Q3 s a=wJ s a:=by
 unfold Q3 jZ wJ LR
 by_cases h1:a<0
 ·rw[zT h1];rfl
 rw[zF h1,zD,zD]
 by_cases h2:(s.size:Int)<a
 ·rw[zT h2];rfl
 rw[zF h2,zD,zD]
 by_cases h3:a=(s.size:Int)
 ·rw[zT h3];rfl
 have wa:∀{R:Type} (x:Option R),zd a s.size x=x:=fun x=>zm (by omega) (by omega)
 rw[zF h3,zD,zD]
 simp only[wa]
 obtain⟨x,hx⟩:=lf (z21 s a.toNat)
 have sf:=x.2
 have w1:zW zI (a+1)=a+1:=zg (by omega) (by omega)
 have w2:zW zI (x.1:Int)=(x.1:Int):=zg (by omega) (by omega)
 have w4:zW zI ((s.size:Int)-a)=(s.size:Int)-a:=zg (by omega) (by omega)
 have w5:zW zI ((s.size:Int)-(a+1))=(s.size:Int)-(a+1):=zg (by omega) (by omega)
 have w6:zW zI ((x.1:Int)-128)=(x.1:Int)-128:=zg (by omega) (by omega)
 have w7:zW zI ((x.1:Int)-127)=(x.1:Int)-127:=zg (by omega) (by omega)
 obtain⟨k,hk⟩:=xv
 simp only[hx,w2,w1,w4,w5,w6,w7,hk]
 by_cases h4:(127:Int)<(x.1:Int)
 ·rw[zT h4,zC,zF (by omega:¬(x.1:Int)<128),zD]
  by_cases h5:(x.1:Int)=129
  ·have wn:zW zI (0+1)=1:=rfl
   simp only[h5]
   by_cases h6:(s.size:Int)-a<2
   ·have e1:((s.size:Int)-(a+1)<129-128):=by omega
    have e2:((s.size:Int)-a<129-127):=by omega
    rw[zT e1,zT e2];rfl
   ·have e1:¬((s.size:Int)-(a+1)<129-128):=by omega
    have e2:¬((s.size:Int)-a<129-127):=by omega
    have wb:∀{R:Type} (x:Option R),zd (a+1) s.size x=x:=fun x=>zm (by omega) (by omega)
    have wc:∀{R:Type} (x:Option R),zd (zW zI (a+1+0)) s.size x=x:=fun x=>by rw[Int.add_zero,w1];exact wb x
    obtain⟨y,hy⟩:=lf (z21 s (a+1).toNat)
    have ME:=y.2
    have w3:zW zI (y.1:Int)=(y.1:Int):=zg (by omega) (by omega)
    have oz:=or_zero (y:=(y.1:Int)) ⟨by omega,by omega⟩
    rw[w3] at oz
    rw[zF e1,zF e2]
    have l1:dQ (k+1+1+1) s (a+1) 0 (129-128) (129-128) 0=some (a+1,(y.1:Int),129-128):=by
     simp only[dQ,j4]
     rw[show decide ((0:Int)<129-128)=true from rfl,zC,wc,wn,show decide ((1:Int)<129-128)=false from rfl,zD,Int.add_zero,w1,hy,w3,oz]
    simp only[wb,hy,w3]
    show(dQ (k+1+1+1) s (a+1) 0 (129-128) (129-128) 0).bind _=_
    rw[l1,Option.bind_some]
    unfold j5
    dsimp only
    rw[zxl,Option.bind_some]
    by_cases h7:(y.1:Int)<128
    ·rw[if_neg (by omega),if_neg (by omega),if_neg (by omega),zT h7];rfl
    ·rw[if_neg (by omega),if_neg (by omega),if_pos (by omega),zF h7]
     have:zW zI (a+1+(129-128))=zW zI (a+2):=by congr 1;omega
     simp only[this]
     rfl
  ·by_cases h6:(x.1:Int)=130
   ·have wn:zW zI (0+1)=1:=rfl
    have wm:zW zI (1+1)=2:=rfl
    simp only[h6]
    by_cases h7:(s.size:Int)-a<3
    ·have e1:((s.size:Int)-(a+1)<130-128):=by omega
     have e2:((s.size:Int)-a<130-127):=by omega
     rw[zT e1,zT e2];rfl
    ·have e1:¬((s.size:Int)-(a+1)<130-128):=by omega
     have e2:¬((s.size:Int)-a<130-127):=by omega
     have wb:∀{R:Type} (x:Option R),zd (a+1) s.size x=x:=fun x=>zm (by omega) (by omega)
     have w8:zW zI (a+2)=a+2:=zg (by omega) (by omega)
     have w9:zW zI (a+1+1)=a+2:=by rw[zg (by omega) (by omega)];omega
     have wd:∀{R:Type} (x:Option R),zd (a+2) s.size x=x:=fun x=>zm (by omega) (by omega)
     obtain⟨y,hy⟩:=lf (z21 s (a+1).toNat)
     obtain⟨z,hz⟩:=lf (z21 s (a+2).toNat)
     have ME:=y.2
     have Tz:=z.2
     have w3:zW zI (y.1:Int)=(y.1:Int):=zg (by omega) (by omega)
     have He:zW zI (z.1:Int)=(z.1:Int):=zg (by omega) (by omega)
     have oz:=or_zero (y:=(y.1:Int)) ⟨by omega,by omega⟩
     have ob:=Ib (x:=(y.1:Int)) (y:=(z.1:Int)) ⟨by omega,by omega⟩ ⟨by omega,by omega⟩
     rw[w3] at oz
     rw[w3,He] at ob
     rw[zF e1,zF e2]
     have l1:dQ (k+1+1+1) s (a+1) 0 (130-128) (130-128) 0=some (a+1,(y.1:Int)*256+(z.1:Int),130-128):=by
      simp only[dQ,j4]
      rw[show decide ((0:Int)<130-128)=true from rfl,zC,wn,wm,show decide ((1:Int)<130-128)=true from rfl,zC,show decide ((2:Int)<130-128)=false from rfl,zD,Int.add_zero,w1,wb,w9,wd,hy,hz,w3,He,oz,ob]
     have U9:zW zI (256*(y.1:Int))=256*(y.1:Int):=zg (by omega) (by omega)
     have Va:zW zI (256*(y.1:Int)+(z.1:Int))=(y.1:Int)*256+(z.1:Int):=by rw[zg (by omega) (by omega)];omega
     simp only[wb,w8,wd,hy,hz,w3,He,U9,Va]
     show(dQ (k+1+1+1) s (a+1) 0 (130-128) (130-128) 0).bind _=_
     rw[l1,Option.bind_some]
     unfold j5
     dsimp only
     rw[zxl,Option.bind_some]
     by_cases h8:(y.1:Int)=0
     ·rw[if_neg (by omega),if_neg (by omega),zT h8]
      by_cases h9:(127:Int)<(y.1:Int)*256+(z.1:Int)
      ·rw[if_pos h9];rfl
      ·rw[if_neg h9];rfl
     ·rw[if_neg (by omega),if_pos (by omega),zF h8]
      have:zW zI (a+1+(130-128))=zW zI (a+3):=by congr 1;omega
      simp only[this]
      rfl
   ·rw[zF h5,zF h6]
    by_cases h7:(x.1:Int)=128
    ·rw[zT h7];rfl
    ·rw[zF h7,zT (by omega:(130:Int)<(x.1:Int))];rfl
 ·rw[zF h4,zD,zT (by omega:(x.1:Int)<128),zC,zF (by omega:¬(s.size:Int)-(a+1)<0),zD]
  have l1:dQ (k+1+1+1) s (a+1) (x.1:Int) 0 0 0=some (a+1,(x.1:Int),0):=by
   simp only[dQ,j4]
   rw[show decide ((0:Int)<0)=false from rfl,zD]
  show(dQ (k+1+1+1) s (a+1) (x.1:Int) 0 0 0).bind _=_
  rw[l1,Option.bind_some]
  unfold j5
  dsimp only
  rw[zxl,Option.bind_some,if_neg (by omega),if_neg (by omega),if_neg (by omega),Int.add_zero,w1]
  rfl
end bu

