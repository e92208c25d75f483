/- No condition. -/
import Derived.Test.YtkgpjibbdpikcaaGreatDoorK1
import Derived.KernelRfl
import Derived.Laws.RangeString
set_option linter.unusedVariables false
set_option linter.unusedSimpArgs false
set_option maxRecDepth 100000
namespace bn
open Go.IntKind renaming wrap->zW,i64->zI,u8->zU
open Go Go.Ref
def Ji{R:Type}(a:Int)(b:Bool->Option R):Option R:=
 bif a=1 then b true else b (decide (a=2))
def xV(a:Int):Option Bool:=
 Ji a (fun a0=>some a0)
def NJ{R:Type}(a b:Int)(c:Int->Option R):Option R:=
 bif a=2 then bif b=1 then c 1 else bif a=1 then bif b=5 then c 2 else bif b=6 then c 2 else c 0 else c 0 else bif a=1 then bif b=5 then c 2 else bif b=6 then c 2 else c 0 else c 0
def jM(a b:Int):Option Int:=
 NJ a b (fun a0=>some a0)
def NF{R:Type}(a:Int)(b:aj)(c:ByteArray)(d:Int)(e:ByteArray->Int->Int->Option R):Option R:=
 (xV a).bind fun r1=>bif !r1 then e (bs []) 0 1 else(kl b).bind fun r2=>bif !decide (r2=0) then e (bs []) 0 1 else bif d<0 then e (bs []) 0 1 else bif(c.size:Int)<d then e (bs []) 0 1 else bif !decide (b.2.2.1=1) then(p7 a b.2.2.1 c d).bind fun r3=>bif !decide (r3.2.2=0) then e (bs []) 0 r3.2.2 else bif r3.1<b.2.2.2.1 then e (bs []) 0 5 else bif b.2.2.2.2.1<r3.1 then e (bs []) 0 5 else(jM a b.2.1).bind fun r4=>bif r4=1 then(Q2 r3.1).bind fun r5=>bif zW zI ((c.size:Int)-r3.2.1)<r5 then e (bs []) 0 2 else bif 0<=zW zI (r3.2.1+r5) then bif zW zI (r3.2.1+r5)<=(c.size:Int) then bif 0<=r3.2.1 then bif r3.2.1<=(((zW zI (r3.2.1+r5)).toNat:Nat):Int) then(jM a b.2.1).bind fun r6=>bif r6=1 then(Q0 (c.extract r3.2.1.toNat (zW zI (r3.2.1+r5)).toNat) r3.1).bind fun r7=>bif !decide (r7.2.1=0) then e (bs []) 0 r7.2.1 else(bz b r7.1).bind fun r8=>bif !decide (r8=0) then e (bs []) 0 r8 else e r7.1 (zW zI (r3.2.1+r5)) 0 else bif r6=2 then(fI (c.extract r3.2.1.toNat (zW zI (r3.2.1+r5)).toNat)).bind fun r9=>bif !r9.2.2 then e (bs []) 0 3 else(bz b r9.1).bind fun ju=>bif !decide (ju=0) then e (bs []) 0 ju else e r9.1 (zW zI (r3.2.1+r5)) 0 else(bz b (c.extract r3.2.1.toNat (zW zI (r3.2.1+r5)).toNat)).bind fun jl=>bif !decide (jl=0) then e (bs []) 0 jl else e (c.extract r3.2.1.toNat (zW zI (r3.2.1+r5)).toNat) (zW zI (r3.2.1+r5)) 0 else none else none else none else none else bif r4=2 then bif zW zI ((c.size:Int)-r3.2.1)<zW zI (2*r3.1) then e (bs []) 0 2 else bif 0<=zW zI (r3.2.1+zW zI (2*r3.1)) then bif zW zI (r3.2.1+zW zI (2*r3.1))<=(c.size:Int) then bif 0<=r3.2.1 then bif r3.2.1<=(((zW zI (r3.2.1+zW zI (2*r3.1))).toNat:Nat):Int) then(jM a b.2.1).bind fun kF=>bif kF=1 then(Q0 (c.extract r3.2.1.toNat (zW zI (r3.2.1+zW zI (2*r3.1))).toNat) r3.1).bind fun jm=>bif !decide (jm.2.1=0) then e (bs []) 0 jm.2.1 else(bz b jm.1).bind fun sm=>bif !decide (sm=0) then e (bs []) 0 sm else e jm.1 (zW zI (r3.2.1+zW zI (2*r3.1))) 0 else bif kF=2 then(fI (c.extract r3.2.1.toNat (zW zI (r3.2.1+zW zI (2*r3.1))).toNat)).bind fun uD=>bif !uD.2.2 then e (bs []) 0 3 else(bz b uD.1).bind fun yZ=>bif !decide (yZ=0) then e (bs []) 0 yZ else e uD.1 (zW zI (r3.2.1+zW zI (2*r3.1))) 0 else(bz b (c.extract r3.2.1.toNat (zW zI (r3.2.1+zW zI (2*r3.1))).toNat)).bind fun zA=>bif !decide (zA=0) then e (bs []) 0 zA else e (c.extract r3.2.1.toNat (zW zI (r3.2.1+zW zI (2*r3.1))).toNat) (zW zI (r3.2.1+zW zI (2*r3.1))) 0 else none else none else none else none else bif zW zI ((c.size:Int)-r3.2.1)<r3.1 then e (bs []) 0 2 else bif 0<=zW zI (r3.2.1+r3.1) then bif zW zI (r3.2.1+r3.1)<=(c.size:Int) then bif 0<=r3.2.1 then bif r3.2.1<=(((zW zI (r3.2.1+r3.1)).toNat:Nat):Int) then(jM a b.2.1).bind fun zB=>bif zB=1 then(Q0 (c.extract r3.2.1.toNat (zW zI (r3.2.1+r3.1)).toNat) r3.1).bind fun rG=>bif !decide (rG.2.1=0) then e (bs []) 0 rG.2.1 else(bz b rG.1).bind fun zE=>bif !decide (zE=0) then e (bs []) 0 zE else e rG.1 (zW zI (r3.2.1+r3.1)) 0 else bif zB=2 then(fI (c.extract r3.2.1.toNat (zW zI (r3.2.1+r3.1)).toNat)).bind fun uE=>bif !uE.2.2 then e (bs []) 0 3 else(bz b uE.1).bind fun Fa=>bif !decide (Fa=0) then e (bs []) 0 Fa else e uE.1 (zW zI (r3.2.1+r3.1)) 0 else(bz b (c.extract r3.2.1.toNat (zW zI (r3.2.1+r3.1)).toNat)).bind fun Fb=>bif !decide (Fb=0) then e (bs []) 0 Fb else e (c.extract r3.2.1.toNat (zW zI (r3.2.1+r3.1)).toNat) (zW zI (r3.2.1+r3.1)) 0 else none else none else none else none else(jM a b.2.1).bind fun r24=>bif r24=1 then(Q2 b.2.2.2.1).bind fun rH=>bif zW zI ((c.size:Int)-d)<rH then e (bs []) 0 2 else bif 0<=zW zI (d+rH) then bif zW zI (d+rH)<=(c.size:Int) then bif 0<=d then bif d<=(((zW zI (d+rH)).toNat:Nat):Int) then(jM a b.2.1).bind fun r26=>bif r26=1 then(Q0 (c.extract d.toNat (zW zI (d+rH)).toNat) b.2.2.2.1).bind fun Km=>bif !decide (Km.2.1=0) then e (bs []) 0 Km.2.1 else(bz b Km.1).bind fun r28=>bif !decide (r28=0) then e (bs []) 0 r28 else e Km.1 (zW zI (d+rH)) 0 else bif r26=2 then(fI (c.extract d.toNat (zW zI (d+rH)).toNat)).bind fun RW=>bif !RW.2.2 then e (bs []) 0 3 else(bz b RW.1).bind fun r30=>bif !decide (r30=0) then e (bs []) 0 r30 else e RW.1 (zW zI (d+rH)) 0 else(bz b (c.extract d.toNat (zW zI (d+rH)).toNat)).bind fun r31=>bif !decide (r31=0) then e (bs []) 0 r31 else e (c.extract d.toNat (zW zI (d+rH)).toNat) (zW zI (d+rH)) 0 else none else none else none else none else bif r24=2 then bif zW zI ((c.size:Int)-d)<zW zI (2*b.2.2.2.1) then e (bs []) 0 2 else bif 0<=zW zI (d+zW zI (2*b.2.2.2.1)) then bif zW zI (d+zW zI (2*b.2.2.2.1))<=(c.size:Int) then bif 0<=d then bif d<=(((zW zI (d+zW zI (2*b.2.2.2.1))).toNat:Nat):Int) then(jM a b.2.1).bind fun r32=>bif r32=1 then(Q0 (c.extract d.toNat (zW zI (d+zW zI (2*b.2.2.2.1))).toNat) b.2.2.2.1).bind fun Kn=>bif !decide (Kn.2.1=0) then e (bs []) 0 Kn.2.1 else(bz b Kn.1).bind fun r34=>bif !decide (r34=0) then e (bs []) 0 r34 else e Kn.1 (zW zI (d+zW zI (2*b.2.2.2.1))) 0 else bif r32=2 then(fI (c.extract d.toNat (zW zI (d+zW zI (2*b.2.2.2.1))).toNat)).bind fun RX=>bif !RX.2.2 then e (bs []) 0 3 else(bz b RX.1).bind fun r36=>bif !decide (r36=0) then e (bs []) 0 r36 else e RX.1 (zW zI (d+zW zI (2*b.2.2.2.1))) 0 else(bz b (c.extract d.toNat (zW zI (d+zW zI (2*b.2.2.2.1))).toNat)).bind fun r37=>bif !decide (r37=0) then e (bs []) 0 r37 else e (c.extract d.toNat (zW zI (d+zW zI (2*b.2.2.2.1))).toNat) (zW zI (d+zW zI (2*b.2.2.2.1))) 0 else none else none else none else none else bif zW zI ((c.size:Int)-d)<b.2.2.2.1 then e (bs []) 0 2 else bif 0<=zW zI (d+b.2.2.2.1) then bif zW zI (d+b.2.2.2.1)<=(c.size:Int) then bif 0<=d then bif d<=(((zW zI (d+b.2.2.2.1)).toNat:Nat):Int) then(jM a b.2.1).bind fun r38=>bif r38=1 then(Q0 (c.extract d.toNat (zW zI (d+b.2.2.2.1)).toNat) b.2.2.2.1).bind fun Ko=>bif !decide (Ko.2.1=0) then e (bs []) 0 Ko.2.1 else(bz b Ko.1).bind fun r40=>bif !decide (r40=0) then e (bs []) 0 r40 else e Ko.1 (zW zI (d+b.2.2.2.1)) 0 else bif r38=2 then(fI (c.extract d.toNat (zW zI (d+b.2.2.2.1)).toNat)).bind fun RY=>bif !RY.2.2 then e (bs []) 0 3 else(bz b RY.1).bind fun r42=>bif !decide (r42=0) then e (bs []) 0 r42 else e RY.1 (zW zI (d+b.2.2.2.1)) 0 else(bz b (c.extract d.toNat (zW zI (d+b.2.2.2.1)).toNat)).bind fun r43=>bif !decide (r43=0) then e (bs []) 0 r43 else e (c.extract d.toNat (zW zI (d+b.2.2.2.1)).toNat) (zW zI (d+b.2.2.2.1)) 0 else none else none else none else none
def Cp(a:Int)(b:aj)(c:ByteArray)(d:Int):Option il:=
 NF a b c d (fun a0 a1 a2=>some (a0,a1,a2))
def NI{R:Type}(a:Int)(b:aj)(c:ByteArray)(d:ByteArray->Int->Option R):Option R:=
 (xV a).bind fun r1=>bif !r1 then d (bs []) 1 else(bz b c).bind fun r2=>bif !decide (r2=0) then d (bs []) r2 else bif !decide (b.2.2.1=1) then(oB a b.2.2.1 (c.size:Int)).bind fun r3=>(jM a b.2.1).bind fun r4=>bif r4=1 then(Q1 c).bind fun r5=>bif r3.1.size+r5.1.size<=9223372036854775807 then d (r3.1++r5.1) 0 else none else bif r4=2 then(iF c).bind fun r6=>bif r3.1.size+r6.size<=9223372036854775807 then d (r3.1++r6) 0 else none else bif r3.1.size+c.size<=9223372036854775807 then d (r3.1++c) 0 else none else(jM a b.2.1).bind fun r7=>bif r7=1 then(Q1 c).bind fun r8=>bif(bs []).size+r8.1.size<=9223372036854775807 then d (bs []++r8.1) 0 else none else bif r7=2 then(iF c).bind fun r9=>bif(bs []).size+r9.size<=9223372036854775807 then d (bs []++r9) 0 else none else bif(bs []).size+c.size<=9223372036854775807 then d (bs []++c) 0 else none
def xU(a:Int)(b:aj)(c:ByteArray):Option PD:=
 NI a b c (fun a0 a1=>some (a0,a1))
def Oe{R:Type}(a:aN)(b:Int->Int->Option R)(c:aN->Int->Int->fZ->Option R):Option R:=
 bif 256<((List.length a):Int) then b 5 256 else c a ((List.length a):Int) 0 []
def zz2{R:Type}(a:aN)(b c:Int)(d:fZ)(e:Int->Int->Option R)(f:aN->Int->Int->fZ->Option R)(g:Option R):Option R:=
 bif c<b then zd c (List.length a) (bif dR (eU .str) false d (List.getD a c.toNat (bs [],bs [],())).1 then e 10 c else bif dS (eU .str) d (List.getD a c.toNat (bs [],bs [],())).1 then none else f a b (zW zI (c+1)) (d++ [((List.getD a c.toNat (bs [],bs [],())).1,true)])) else g
def zz3{R:Type}(a b:Int)(c:Int->Int->Option R):Option R:=
 c a b
def zz4{R:Type}(a:Int->Int->Option R):Option R:=
 a 0 0
def Jl:Nat->aN->Int->Int->fZ->Option (Sum (Int×Int) Unit)
 |0,_,_,_,_=>none
 |k+1,v0,v1,v2,v3=>zz2 v0 v1 v2 v3 (fun a0 a1=>some (.inl (a0,a1))) (fun a0 a1 a2 a3=>Jl k a0 a1 a2 a3) (some (.inr ()))
def CD(a:aN):Option (Int×Int):=
 Oe a (fun a0 a1=>some (a0,a1)) (fun a0 a1 a2 a3=>(Jl ag a0 a1 a2 a3).bind fun e=>Sum.elim (fun(we:(Int×Int))=>zz3 we.1 we.2 (fun a0 a1=>some (a0,a1))) (fun(we:Unit)=>zz4 (fun a0 a1=>some (a0,a1))) e)
def N3{R:Type}(a:aN)(b:ByteArray)(c:ByteArray->aN->Int->Int->Option R):Option R:=
 c b a ((List.length a):Int) 0
def zyx{R:Type}(a:ByteArray)(b:aN)(c d:Int)(e:ByteArray->Bool->Option R)(f:ByteArray->aN->Int->Int->Option R)(g:Option R):Option R:=
 bif d<c then zd d (List.length b) (bif(List.getD b d.toNat (bs [],bs [],())).1=a then e (List.getD b d.toNat (bs [],bs [],())).2.1 true else f a b c (zW zI (d+1))) else g
def zyy{R:Type}(a:ByteArray)(b:Bool)(c:ByteArray->Bool->Option R):Option R:=
 c a b
def zyz{R:Type}(a:ByteArray->Bool->Option R):Option R:=
 a (bs []) false
def Jk:Nat->ByteArray->aN->Int->Int->Option (Sum iO Unit)
 |0,_,_,_,_=>none
 |k+1,v0,v1,v2,v3=>zyx v0 v1 v2 v3 (fun a0 a1=>some (.inl (a0,a1))) (fun a0 a1 a2 a3=>Jk k a0 a1 a2 a3) (some (.inr ()))
def CC(a:aN)(b:ByteArray):Option iO:=
 N3 a b (fun a0 a1 a2 a3=>(Jk ag a0 a1 a2 a3).bind fun e=>Sum.elim (fun(we:iO)=>zyy we.1 we.2 (fun a0 a1=>some (a0,a1))) (fun(we:Unit)=>zyz (fun a0 a1=>some (a0,a1))) e)
def OZ{R:Type}(a b:Int)(c:Bool->Option R):Option R:=
 bif 48<=b then bif 65<=b then bif b<=90 then bif a=1 then c (decide (b<=57)) else bif a=2 then c true else bif a=3 then bif b<=57 then c true else c true else bif a=4 then bif 32<=b then c (decide (b<=126)) else c false else bif a=5 then c true else c (decide (a=6)) else bif 97<=b then bif a=1 then c (decide (b<=57)) else bif a=2 then c (decide (b<=122)) else bif a=3 then bif b<=57 then c true else c (decide (b<=122)) else bif a=4 then bif 32<=b then c (decide (b<=126)) else c false else bif a=5 then c true else c (decide (a=6)) else bif a=1 then c (decide (b<=57)) else bif a=2 then c false else bif a=3 then bif b<=57 then c true else c false else bif a=4 then bif 32<=b then c (decide (b<=126)) else c false else bif a=5 then c true else c (decide (a=6)) else bif 97<=b then bif a=1 then c (decide (b<=57)) else bif a=2 then c (decide (b<=122)) else bif a=3 then bif b<=57 then c true else c (decide (b<=122)) else bif a=4 then bif 32<=b then c (decide (b<=126)) else c false else bif a=5 then c true else c (decide (a=6)) else bif a=1 then c (decide (b<=57)) else bif a=2 then c false else bif a=3 then bif b<=57 then c true else c false else bif a=4 then bif 32<=b then c (decide (b<=126)) else c false else bif a=5 then c true else c (decide (a=6)) else bif 65<=b then bif b<=90 then bif a=1 then c false else bif a=2 then c true else bif a=3 then c true else bif a=4 then bif 32<=b then c (decide (b<=126)) else c false else bif a=5 then c true else c (decide (a=6)) else bif 97<=b then bif a=1 then c false else bif a=2 then c (decide (b<=122)) else bif a=3 then c (decide (b<=122)) else bif a=4 then bif 32<=b then c (decide (b<=126)) else c false else bif a=5 then c true else c (decide (a=6)) else bif a=1 then c false else bif a=2 then c false else bif a=3 then c false else bif a=4 then bif 32<=b then c (decide (b<=126)) else c false else bif a=5 then c true else c (decide (a=6)) else bif 97<=b then bif a=1 then c false else bif a=2 then c (decide (b<=122)) else bif a=3 then c (decide (b<=122)) else bif a=4 then bif 32<=b then c (decide (b<=126)) else c false else bif a=5 then c true else c (decide (a=6)) else bif a=1 then c false else bif a=2 then c false else bif a=3 then c false else bif a=4 then bif 32<=b then c (decide (b<=126)) else c false else bif a=5 then c true else c (decide (a=6))
def vD(a b:Int):Option Bool:=
 OZ a b (fun a0=>some a0)
def OY{R:Type}(a:Int)(b:ByteArray)(c:Int->ByteArray->Int->Option R):Option R:=
 c a b 0
def Js{R:Type}(a:Int)(b:ByteArray)(c:Int)(d:Int->Option R)(e:Int->ByteArray->Int->Option R)(f:Option R):Option R:=
 bif c<(b.size:Int) then zd c b.size ((vD a (ze b c.toNat)).bind fun r1=>bif !r1 then d c else e a b (zW zI (c+1))) else f
def zzs{R:Type}(a:Int)(b:Int->Option R):Option R:=
 b a
def zzt{R:Type}(a:Int->Option R):Option R:=
 a (-1:Int)
def AO:Nat->Int->ByteArray->Int->Option (Sum Int Unit)
 |0,_,_,_=>none
 |k+1,v0,v1,v2=>Js v0 v1 v2 (fun a0=>some (.inl a0)) (fun a0 a1 a2=>AO k a0 a1 a2) (some (.inr ()))
def CX(a:Int)(b:ByteArray):Option Int:=
 OY a b (fun a0 a1 a2=>(AO ag a0 a1 a2).bind fun e=>Sum.elim (fun(we:Int)=>zzs we (fun a0=>some a0)) (fun(we:Unit)=>zzt (fun a0=>some a0)) e)
def z198{R:Type}(a b:Int)(c:Bool->Option R)(d:Int->Int->Int->Option R):Option R:=
 bif a<1 then c false else bif 6<a then c false else bif b<1 then c false else bif 6<b then c false else d a b 0
def acG{R:Type}(a b c:Int)(d:Bool->Option R)(e:Int->Int->Int->Option R)(f:Option R):Option R:=
 bif c<256 then(vD b (zW zU c)).bind fun r1=>bif r1 then(vD a (zW zU c)).bind fun r2=>bif !r2 then d false else e a b (zW zI (c+1)) else e a b (zW zI (c+1)) else f
def acH{R:Type}(a:Bool)(b:Bool->Option R):Option R:=
 b a
def acI{R:Type}(a:Bool->Option R):Option R:=
 a true
def Hv:Nat->Int->Int->Int->Option (Sum Bool Unit)
 |0,_,_,_=>none
 |k+1,v0,v1,v2=>acG v0 v1 v2 (fun a0=>some (.inl a0)) (fun a0 a1 a2=>Hv k a0 a1 a2) (some (.inr ()))
def JS(a b:Int):Option Bool:=
 z198 a b (fun a0=>some a0) (fun a0 a1 a2=>(Hv ag a0 a1 a2).bind fun e=>Sum.elim (fun(we:Bool)=>acH we (fun a0=>some a0)) (fun(we:Unit)=>acI (fun a0=>some a0)) e)
def zzu{R:Type}(a:Int)(b:Int->Option R):Option R:=
 bif a=0 then b 0 else bif Int.tmod (zW zU (Int.tdiv a 32)) 2=1 then b 0 else bif Int.tmod a 32=31 then b 2 else b 1
def vG(a:Int):Option Int:=
 zzu a (fun a0=>some a0)
def Jv{R:Type}(a:ByteArray)(b:Int)(c:Int->Int->Int->Option R):Option R:=
 bif b<0 then c 0 0 1 else bif(a.size:Int)<b then c 0 0 1 else bif b=(a.size:Int) then c 0 0 2 else zd b a.size ((vG (ze a b.toNat)).bind fun r1=>bif r1=0 then c 0 0 13 else bif r1=1 then zd b a.size (c (zW zI (ze a b.toNat)) (zW zI (b+1)) 0) else bif zW zI ((a.size:Int)-b)<2 then c 0 0 2 else zd (zW zI (b+1)) a.size (bif ze a (zW zI (b+(1:Int))).toNat=0 then c 0 0 13 else zd (zW zI (b+1)) a.size (bif 127<ze a (zW zI (b+(1:Int))).toNat then c 0 0 13 else zd b a.size (zd (zW zI (b+1)) a.size (c (zW zI (zW zI (256*zW zI (ze a b.toNat))+zW zI (ze a (zW zI (b+(1:Int))).toNat))) (zW zI (b+2)) 0)))))
def vH(a:ByteArray)(b:Int):Option lr:=
 Jv a b (fun a0 a1 a2=>some (a0,a1,a2))
def Jw{R:Type}(a:ByteArray)(b:Int)(c:Int->Int->Int->Option R):Option R:=
 bif b<0 then c 0 0 1 else bif(a.size:Int)<b then c 0 0 1 else bif b=(a.size:Int) then c 0 0 2 else zd b a.size (bif zW zI (ze a b.toNat)<128 then c (zW zI (ze a b.toNat)) (zW zI (b+1)) 0 else bif !decide (zW zI (ze a b.toNat)=129) then bif !decide (zW zI (ze a b.toNat)=130) then c 0 0 14 else bif zW zI ((a.size:Int)-b)<zW zI (zW zI (ze a b.toNat)-127) then c 0 0 2 else bif zW zI (ze a b.toNat)=129 then zd (zW zI (b+1)) a.size (bif ze a (zW zI (b+(1:Int))).toNat<128 then c 0 0 14 else zd (zW zI (b+1)) a.size (c (zW zI (ze a (zW zI (b+(1:Int))).toNat)) (zW zI (b+2)) 0)) else zd (zW zI (b+1)) a.size (bif ze a (zW zI (b+(1:Int))).toNat=0 then c 0 0 14 else zd (zW zI (b+1)) a.size (zd (zW zI (b+2)) a.size (c (zW zI (zW zI (256*zW zI (ze a (zW zI (b+(1:Int))).toNat))+zW zI (ze a (zW zI (b+(2:Int))).toNat))) (zW zI (b+3)) 0))) else bif zW zI ((a.size:Int)-b)<zW zI (zW zI (ze a b.toNat)-127) then c 0 0 2 else bif zW zI (ze a b.toNat)=129 then zd (zW zI (b+1)) a.size (bif ze a (zW zI (b+(1:Int))).toNat<128 then c 0 0 14 else zd (zW zI (b+1)) a.size (c (zW zI (ze a (zW zI (b+(1:Int))).toNat)) (zW zI (b+2)) 0)) else zd (zW zI (b+1)) a.size (bif ze a (zW zI (b+(1:Int))).toNat=0 then c 0 0 14 else zd (zW zI (b+1)) a.size (zd (zW zI (b+2)) a.size (c (zW zI (zW zI (256*zW zI (ze a (zW zI (b+(1:Int))).toNat))+zW zI (ze a (zW zI (b+(2:Int))).toNat))) (zW zI (b+3)) 0))))
def vI(a:ByteArray)(b:Int):Option lr:=
 Jw a b (fun a0 a1 a2=>some (a0,a1,a2))
def O9{R:Type}(a:aq)(b c:Int)(d:aq->Int->Int->Int->Option R):Option R:=
 d a b c 0
def Jz{R:Type}(a:aq)(b c d:Int)(e:Bool->Option R)(f:aq->Int->Int->Int->Option R)(g:Option R):Option R:=
 bif d<b then zd d (List.length a) (bif(List.getD a d.toNat (0,bs [],())).1=c then e true else f a b c (zW zI (d+1))) else g
def zzz{R:Type}(a:Bool)(b:Bool->Option R):Option R:=
 b a
def zM{R:Type}(a:Bool->Option R):Option R:=
 a false
def AQ:Nat->aq->Int->Int->Int->Option (Sum Bool Unit)
 |0,_,_,_,_=>none
 |k+1,v0,v1,v2,v3=>Jz v0 v1 v2 v3 (fun a0=>some (.inl a0)) (fun a0 a1 a2 a3=>AQ k a0 a1 a2 a3) (some (.inr ()))
def Da(a:aq)(b c:Int):Option Bool:=
 O9 a b c (fun a0 a1 a2 a3=>(AQ ag a0 a1 a2 a3).bind fun e=>Sum.elim (fun(we:Bool)=>zzz we (fun a0=>some a0)) (fun(we:Unit)=>zM (fun a0=>some a0)) e)
def Jx{R:Type}(a:ByteArray)(b:ByteArray->aq->Int->Option R):Option R:=
 b a [] 0
def Jy{R:Type}(a:ByteArray)(b:aq)(c:Int)(d:aq->Int->Int->aq->Option R)(e:ByteArray->aq->Int->Option R)(f:aq->Option R):Option R:=
 bif c<(a.size:Int) then(vH a c).bind fun r1=>bif !decide (r1.2.2=0) then d [] r1.2.2 c b else(vI a r1.2.1).bind fun r2=>bif !decide (r2.2.2=0) then d [] r2.2.2 r1.2.1 b else bif zW zI ((a.size:Int)-r2.2.1)<r2.1 then d [] 2 (a.size:Int) b else(Da b ((List.length b):Int) r1.1).bind fun r3=>bif r3 then d [] 10 c b else bif 0<=zW zI (r2.2.1+r2.1) then bif zW zI (r2.2.1+r2.1)<=(a.size:Int) then bif 0<=r2.2.1 then bif r2.2.1<=(((zW zI (r2.2.1+r2.1)).toNat:Nat):Int) then bif(List.length b+List.length ([(r1.1,a.extract r2.2.1.toNat (zW zI (r2.2.1+r2.1)).toNat,())]:List cR))*24<=140737488355328 then e a (b++([(r1.1,a.extract r2.2.1.toNat (zW zI (r2.2.1+r2.1)).toNat,())]:List cR)) (zW zI (r2.2.1+r2.1)) else none else none else none else none else none else f b
def zzw{R:Type}(a:aq)(b c:Int)(d:aq)(e:aq->Int->Int->Option R):Option R:=
 e a b c
def zzx{R:Type}(a:aq)(b:aq->Int->Int->Option R):Option R:=
 b a 0 0
def xJ:Nat->ByteArray->aq->Int->Option (Sum oL aq)
 |0,_,_,_=>none
 |k+1,v0,v1,v2=>Jy v0 v1 v2 (fun a0 a1 a2 a3=>some (.inl (a0,a1,a2,a3))) (fun a0 a1 a2=>xJ k a0 a1 a2) (fun a0=>some (.inr a0))
def vJ(a:ByteArray):Option (Sum ii ii):=
 Jx a (fun a0 a1 a2=>(xJ ag a0 a1 a2).bind fun e=>Sum.elim (fun(we:oL)=>zzw we.1 we.2.1 we.2.2.1 we.2.2.2 (fun a0 a1 a2=>some (.inl (a0,a1,a2)))) (fun(we:aq)=>zzx we (fun a0 a1 a2=>some (.inr (a0,a1,a2)))) e)
def Pa{R:Type}(a:aj)(b:Int->Option R):Option R:=
 bif a.1<2 then b 1 else bif 128<a.1 then b 1 else bif a.2.1<1 then b 6 else bif 6<a.2.1 then b 6 else bif a.2.2.1<1 then b 3 else bif 3<a.2.2.1 then b 3 else bif a.2.2.1=2 then bif a.2.2.2.1<1 then b 5 else bif a.2.2.2.2.1<a.2.2.2.1 then b 5 else bif 99<a.2.2.2.2.1 then b 5 else bif a.2.2.1=1 then bif !decide (a.2.2.2.1=a.2.2.2.2.1) then b 5 else bif a.2.2.1=1 then bif a.2.1=6 then b 13 else b 0 else b 0 else bif a.2.2.1=1 then bif a.2.1=6 then b 13 else b 0 else b 0 else bif a.2.2.2.1<1 then b 5 else bif a.2.2.2.2.1<a.2.2.2.1 then b 5 else bif 999<a.2.2.2.2.1 then b 5 else bif a.2.2.1=1 then bif !decide (a.2.2.2.1=a.2.2.2.2.1) then b 5 else bif a.2.2.1=1 then bif a.2.1=6 then b 13 else b 0 else b 0 else bif a.2.2.1=1 then bif a.2.1=6 then b 13 else b 0 else b 0
def sd(a:aj):Option Int:=
 Pa a (fun a0=>some a0)
def B8{R:Type}(a:aj)(b:ByteArray)(c:Int->Option R):Option R:=
 (sd a).bind fun r1=>bif !decide (r1=0) then c 1 else bif(b.size:Int)<a.2.2.2.1 then c 5 else bif a.2.2.2.2.1<(b.size:Int) then c 5 else(CX a.2.1 b).bind fun r2=>bif 0<=r2 then c 6 else bif a.2.1=6 then(vJ b).bind fun r3=>Sum.elim (fun(zL:ii)=>bif !decide (zL.2.1=0) then c 13 else c 0) (fun(zL:ii)=>bif !decide (zL.2.1=0) then c 13 else c 0) r3 else c 0
def nC(a:aj)(b:ByteArray):Option Int:=
 B8 a b (fun a0=>some a0)
def Pb{R:Type}(a b:aj)(c:Bool->Option R):Option R:=
 (sd a).bind fun r1=>bif !decide (r1=0) then c false else(sd b).bind fun r2=>bif !decide (r2=0) then c false else bif b.2.2.2.1<a.2.2.2.1 then c false else bif a.2.2.2.2.1<b.2.2.2.2.1 then c false else bif a.2.1=5 then c true else bif a.2.1=6 then c (decide (a.2.1=b.2.1)) else bif b.2.1=6 then c (decide (a.2.1=b.2.1)) else(JS a.2.1 b.2.1).bind fun r3=>c r3
def x7(a b:aj):Option Bool:=
 Pb a b (fun a0=>some a0)
def K8{R:Type}(a:ai)(b:Int)(c:Int->Int->ai->Option R):Option R:=
 c b 0 a
def zrm{R:Type}(a b:Int)(c:ai)(d:Int->Option R)(e:Int->Int->ai->Option R)(f:Option R):Option R:=
 bif b<((List.length c.2.2.1):Int) then zd b (List.length c.2.2.1) (bif(List.getD c.2.2.1 b.toNat (0,0,0,0,0,())).1=a then d b else e a (zW zI (b+1)) c) else f
def zrn{R:Type}(a:Int)(b:Int->Option R):Option R:=
 b a
def zro{R:Type}(a:Int->Option R):Option R:=
 a (-1:Int)
def Ix:Nat->Int->Int->ai->Option (Sum Int Unit)
 |0,_,_,_=>none
 |k+1,v0,v1,v2=>zrm v0 v1 v2 (fun a0=>some (.inl a0)) (fun a0 a1 a2=>Ix k a0 a1 a2) (some (.inr ()))
def oj(a:ai)(b:Int):Option Int:=
 K8 a b (fun a0 a1 a2=>(Ix ag a0 a1 a2).bind fun e=>Sum.elim (fun(we:Int)=>zrn we (fun a0=>some a0)) (fun(we:Unit)=>zro (fun a0=>some a0)) e)
def BB{R:Type}(a:ai)(b:Int->Int->Option R)(c:Int->Int->ai->Option R):Option R:=
 bif !decide (a.1=1) then bif !decide (a.1=2) then b 1 (-1:Int) else bif a.2.1<0 then b 7 (-1:Int) else bif 9<a.2.1 then b 7 (-1:Int) else c 0 0 a else bif a.2.1<0 then b 7 (-1:Int) else bif 9<a.2.1 then b 7 (-1:Int) else c 0 0 a
theorem zyq{R S:Type}(F:R->Option S)(a)(b)(c):(BB a b c).bind F=BB a (fun a0 a1=>(b a0 a1).bind F) (fun a0 a1 a2=>(c a0 a1 a2).bind F):=by
 simp only[BB,az]
def Iw{R:Type}(a b:Int)(c:ai)(d:Int->Int->Option R)(e:Int->Int->ai->Option R)(f:Option R):Option R:=
 bif b<((List.length c.2.2.1):Int) then zd b (List.length c.2.2.1) ((sd (List.getD c.2.2.1 b.toNat (0,0,0,0,0,()))).bind fun r1=>bif !decide (r1=0) then d r1 b else zd b (List.length c.2.2.1) (bif(List.getD c.2.2.1 b.toNat (0,0,0,0,0,())).1<=a then d 11 b else zd b (List.length c.2.2.1) (e (List.getD c.2.2.1 b.toNat (0,0,0,0,0,())).1 (zW zI (b+1)) c))) else f
def K5{R:Type}(a b:Int)(c:Int->Int->Option R):Option R:=
 c a b
def K6{R:Type}(a:Int->Int->Option R):Option R:=
 a 0 0
def uX:Nat->Int->Int->ai->Option (Sum (Int×Int) Unit)
 |0,_,_,_=>none
 |k+1,v0,v1,v2=>Iw v0 v1 v2 (fun a0 a1=>some (.inl (a0,a1))) (fun a0 a1 a2=>uX k a0 a1 a2) (some (.inr ()))
def pR(a:ai):Option (Int×Int):=
 BB a (fun a0 a1=>some (a0,a1)) (fun a0 a1 a2=>(uX ag a0 a1 a2).bind fun e=>Sum.elim (fun(we:(Int×Int))=>K5 we.1 we.2 (fun a0 a1=>some (a0,a1))) (fun(we:Unit)=>K6 (fun a0 a1=>some (a0,a1))) e)
def K9{R:Type}(a:ai)(b:Bool->Option R):Option R:=
 (pR a).bind fun r1=>b (decide (r1.1=0))
def om(a:ai):Option Bool:=
 K9 a (fun a0=>some a0)
def zrt{R:Type}(a:tQ->Option R):Option R:=
 a ([([2,1,2,12,19,1,2,12,19]:List Int),([3,1,1,6,6,1,1,6,6]:List Int),([4,1,1,12,12,1,1,12,12]:List Int),([7,1,1,10,10,1,1,10,10]:List Int),([11,1,1,6,6,1,1,6,6]:List Int),([12,1,1,6,6,1,1,12,12]:List Int),([13,1,1,4,4,0,0,0,0]:List Int),([14,1,1,4,4,1,1,4,4]:List Int),([18,1,1,4,4,0,0,0,0]:List Int),([22,1,1,3,3,3,1,12,12]:List Int),([23,1,1,3,3,1,1,3,3]:List Int),([26,0,0,0,0,1,1,4,4]:List Int),([32,1,2,1,11,1,2,1,11]:List Int),([35,4,2,1,37,4,2,1,37]:List Int),([37,3,1,12,12,3,1,12,12]:List Int),([38,3,1,6,6,3,1,6,6]:List Int),([39,3,1,2,2,1,1,3,3]:List Int),([41,4,1,8,8,4,1,8,8]:List Int),([42,4,1,15,15,4,1,15,15]:List Int),([43,4,1,40,40,4,2,1,99]:List Int),([48,4,3,1,999,4,3,1,999]:List Int),([49,1,1,3,3,1,1,3,3]:List Int),([52,5,1,8,8,5,1,8,8]:List Int),([55,6,3,1,255,6,3,1,255]:List Int),([64,5,1,8,8,5,1,8,8]:List Int),([70,1,1,3,3,1,1,3,3]:List Int),([90,1,1,42,42,0,0,0,0]:List Int),([102,4,2,1,28,4,2,1,28]:List Int),([128,5,1,8,8,5,1,8,8]:List Int)]:List (List Int))
def xT:Option tQ:=
 zrt (fun a0=>some a0)
def zrq{R:Type}(a:Int)(b:Int->tQ->Int->ai->ai->Option R):Option R:=
 xT.bind fun r1=>b a r1 0 (0,0,[],()) (zW zI (a+1),a,[],())
def zrr{R:Type}(a:Int)(b:tQ)(c:Int)(d e:ai)(f:Int->tQ->Int->ai->ai->Option R)(g:ai->ai->Option R):Option R:=
 bif c<((List.length b):Int) then zd c (List.length b) (bif 0<=zW zI (5+zW zI (4*a)) then bif zW zI (5+zW zI (4*a))<=(((List.length (List.getD b c.toNat ([]:List Int))):Nat):Int) then bif 0<=zW zI (1+zW zI (4*a)) then bif zW zI (1+zW zI (4*a))<=(((zW zI (5+zW zI (4*a))).toNat:Nat):Int) then zd 0 (List.length (List.drop (zW zI ((1:Int)+zW zI ((4:Int)*a))).toNat (List.take (zW zI ((5:Int)+zW zI ((4:Int)*a))).toNat (List.getD b c.toNat ([]:List Int))))) (bif 0<List.getD (List.drop (zW zI (1+zW zI (4*a))).toNat (List.take (zW zI (5+zW zI (4*a))).toNat (List.getD b c.toNat []))) ((0:Int)).toNat 0 then zd c (List.length b) (zd 0 (List.length (List.getD b c.toNat ([]:List Int))) (zd 0 (List.length (List.drop (zW zI ((1:Int)+zW zI ((4:Int)*a))).toNat (List.take (zW zI ((5:Int)+zW zI ((4:Int)*a))).toNat (List.getD b c.toNat ([]:List Int))))) (zd 1 (List.length (List.drop (zW zI ((1:Int)+zW zI ((4:Int)*a))).toNat (List.take (zW zI ((5:Int)+zW zI ((4:Int)*a))).toNat (List.getD b c.toNat ([]:List Int))))) (zd 2 (List.length (List.drop (zW zI ((1:Int)+zW zI ((4:Int)*a))).toNat (List.take (zW zI ((5:Int)+zW zI ((4:Int)*a))).toNat (List.getD b c.toNat ([]:List Int))))) (zd 3 (List.length (List.drop (zW zI ((1:Int)+zW zI ((4:Int)*a))).toNat (List.take (zW zI ((5:Int)+zW zI ((4:Int)*a))).toNat (List.getD b c.toNat ([]:List Int))))) (bif(List.length e.2.2.1+List.length ([(List.getD (List.getD b c.toNat ([]:List Int)) ((0:Int)).toNat (0:Int),List.getD (List.drop (zW zI ((1:Int)+zW zI ((4:Int)*a))).toNat (List.take (zW zI ((5:Int)+zW zI ((4:Int)*a))).toNat (List.getD b c.toNat ([]:List Int)))) ((0:Int)).toNat (0:Int),List.getD (List.drop (zW zI ((1:Int)+zW zI ((4:Int)*a))).toNat (List.take (zW zI ((5:Int)+zW zI ((4:Int)*a))).toNat (List.getD b c.toNat ([]:List Int)))) ((1:Int)).toNat (0:Int),List.getD (List.drop (zW zI ((1:Int)+zW zI ((4:Int)*a))).toNat (List.take (zW zI ((5:Int)+zW zI ((4:Int)*a))).toNat (List.getD b c.toNat ([]:List Int)))) ((2:Int)).toNat (0:Int),List.getD (List.drop (zW zI ((1:Int)+zW zI ((4:Int)*a))).toNat (List.take (zW zI ((5:Int)+zW zI ((4:Int)*a))).toNat (List.getD b c.toNat ([]:List Int)))) ((3:Int)).toNat (0:Int),())]:List aj))*40<=140737488355328 then f a b (zW zI (c+1)) d (e.1,e.2.1,e.2.2.1++([(List.getD (List.getD b c.toNat []) ((0:Int)).toNat 0,List.getD (List.drop (zW zI (1+zW zI (4*a))).toNat (List.take (zW zI (5+zW zI (4*a))).toNat (List.getD b c.toNat []))) ((0:Int)).toNat 0,List.getD (List.drop (zW zI (1+zW zI (4*a))).toNat (List.take (zW zI (5+zW zI (4*a))).toNat (List.getD b c.toNat []))) ((1:Int)).toNat 0,List.getD (List.drop (zW zI (1+zW zI (4*a))).toNat (List.take (zW zI (5+zW zI (4*a))).toNat (List.getD b c.toNat []))) ((2:Int)).toNat 0,List.getD (List.drop (zW zI (1+zW zI (4*a))).toNat (List.take (zW zI (5+zW zI (4*a))).toNat (List.getD b c.toNat []))) ((3:Int)).toNat 0,())]:List aj),()) else none)))))) else f a b (zW zI (c+1)) d e) else none else none else none else none) else g d e
def zrs{R:Type}(a b:ai)(c:ai->Option R):Option R:=
 c b
def Lb:Nat->Int->tQ->Int->ai->ai->Option (ai×ai)
 |0,_,_,_,_,_=>none
 |k+1,v0,v1,v2,v3,v4=>zrr v0 v1 v2 v3 v4 (fun a0 a1 a2 a3 a4=>Lb k a0 a1 a2 a3 a4) (fun a0 a1=>some (a0,a1))
def sP(a:Int):Option ai:=
 zrq a (fun a0 a1 a2 a3 a4=>(Lb ag a0 a1 a2 a3 a4).bind fun e=>zrs e.1 e.2 (fun a0=>some a0))
def zrp{R:Type}(a:(List Int)->Option R):Option R:=
 a ([2,3,4,7,11,12,14,23,32,35,37,38,41,42,49,52,55,64,70,102,128]:List Int)
def xS:Option (List Int):=
 zrp (fun a0=>some a0)
def Mo{R:Type}(a:ai)(b:Int)(c:Int->fJ->Int->Int->aj->Option R):Option R:=
 c b a.2.2.1 ((List.length a.2.2.1):Int) 0 (0,0,0,0,0,())
def ztu{R:Type}(a:Int)(b:fJ)(c d:Int)(e:aj)(f:Bool->aj->Option R)(g:Int->fJ->Int->Int->aj->Option R)(h:aj->Option R):Option R:=
 bif d<c then zd d (List.length b) (bif(List.getD b d.toNat (0,0,0,0,0,())).1=a then f true (List.getD b d.toNat (0,0,0,0,0,())) else g a b c (zW zI (d+1)) e) else h e
def ztv{R:Type}(a:Bool)(b:aj)(c:aj->Bool->Option R):Option R:=
 c b a
def ztw{R:Type}(a:aj)(b:aj->Bool->Option R):Option R:=
 b (0,0,0,0,0,()) false
def IY:Nat->Int->fJ->Int->Int->aj->Option (Sum (Bool×aj) aj)
 |0,_,_,_,_,_=>none
 |k+1,v0,v1,v2,v3,v4=>ztu v0 v1 v2 v3 v4 (fun a0 a1=>some (.inl (a0,a1))) (fun a0 a1 a2 a3 a4=>IY k a0 a1 a2 a3 a4) (fun a0=>some (.inr a0))
def eD(a:ai)(b:Int):Option (aj×Bool):=
 Mo a b (fun a0 a1 a2 a3 a4=>(IY ag a0 a1 a2 a3 a4).bind fun e=>Sum.elim (fun(we:(Bool×aj))=>ztv we.1 we.2 (fun a0 a1=>some (a0,a1))) (fun(we:aj)=>ztw we (fun a0 a1=>some (a0,a1))) e)
def BF{R:Type}(a:ai)(b:Int->Int->Option R)(c:fJ->Int->Int->ai->Option R):Option R:=
 bif !decide (a.1=1) then bif !decide (a.1=2) then b 1 (-1:Int) else bif a.2.1<0 then b 7 (-1:Int) else bif 9<a.2.1 then b 7 (-1:Int) else c a.2.2.1 ((List.length a.2.2.1):Int) 0 a else bif a.2.1<0 then b 7 (-1:Int) else bif 9<a.2.1 then b 7 (-1:Int) else c a.2.2.1 ((List.length a.2.2.1):Int) 0 a
theorem zz0{R S:Type}(F:R->Option S)(a)(b)(c):(BF a b c).bind F=BF a (fun a0 a1=>(b a0 a1).bind F) (fun a0 a1 a2 a3=>(c a0 a1 a2 a3).bind F):=by
 simp only[BF,az]
def IX{R:Type}(a:fJ)(b c:Int)(d:ai)(e:Int->Int->Option R)(f:fJ->Int->Int->ai->Option R)(g:Option R):Option R:=
 bif c<b then zd c (List.length a) ((kl (List.getD a c.toNat (0,0,0,0,0,()))).bind fun r1=>bif !decide (r1=0) then e r1 c else bif 0<c then zd (zW zI (c-1)) (List.length d.2.2.1) (bif(List.getD a c.toNat (0,0,0,0,0,())).1<=(List.getD d.2.2.1 (zW zI (c-(1:Int))).toNat (0,0,0,0,0,())).1 then e 11 c else f a b (zW zI (c+1)) d) else f a b (zW zI (c+1)) d) else g
def Mm{R:Type}(a b:Int)(c:Int->Int->Option R):Option R:=
 c a b
def Mn{R:Type}(a:Int->Int->Option R):Option R:=
 a 0 0
def xE:Nat->fJ->Int->Int->ai->Option (Sum (Int×Int) Unit)
 |0,_,_,_,_=>none
 |k+1,v0,v1,v2,v3=>IX v0 v1 v2 v3 (fun a0 a1=>some (.inl (a0,a1))) (fun a0 a1 a2 a3=>xE k a0 a1 a2 a3) (some (.inr ()))
def lk(a:ai):Option (Int×Int):=
 BF a (fun a0 a1=>some (a0,a1)) (fun a0 a1 a2 a3=>(xE ag a0 a1 a2 a3).bind fun e=>Sum.elim (fun(we:(Int×Int))=>Mm we.1 we.2 (fun a0 a1=>some (a0,a1))) (fun(we:Unit)=>Mn (fun a0 a1=>some (a0,a1))) e)
def OL{R:Type}(a:Int)(b:Bool->Option R):Option R:=
 bif 48<=a then b (decide (a<=57)) else b false
def CU(a:Int):Option Bool:=
 OL a (fun a0=>some a0)
def OJ{R:Type}(a:ByteArray)(b:ByteArray->Int->Option R):Option R:=
 b a 0
def OK{R:Type}(a:ByteArray)(b:Int)(c:Bool->Option R)(d:ByteArray->Int->Option R)(e:Option R):Option R:=
 bif b<(a.size:Int) then zd b a.size ((CU (ze a b.toNat)).bind fun r1=>bif !r1 then c false else d a (zW zI (b+1))) else e
def zzd{R:Type}(a:Bool)(b:Bool->Option R):Option R:=
 b a
def zze{R:Type}(a:Bool->Option R):Option R:=
 a true
def B5:Nat->ByteArray->Int->Option (Sum Bool Unit)
 |0,_,_=>none
 |k+1,v0,v1=>OK v0 v1 (fun a0=>some (.inl a0)) (fun a0 a1=>B5 k a0 a1) (some (.inr ()))
def AZ(a:ByteArray):Option Bool:=
 OJ a (fun a0 a1=>(B5 ag a0 a1).bind fun e=>Sum.elim (fun(we:Bool)=>zzd we (fun a0=>some a0)) (fun(we:Unit)=>zze (fun a0=>some a0)) e)
def ON{R:Type}(a:ByteArray)(b:Int->Bool->Option R)(c:ByteArray->Int->Int->Option R):Option R:=
 bif(a.size:Int)<1 then b 0 false else bif 18<(a.size:Int) then b 0 false else(AZ a).bind fun r1=>bif !r1 then b 0 false else c a 0 0
def OO{R:Type}(a:ByteArray)(b c:Int)(d:ByteArray->Int->Int->Option R)(e:Int->Option R):Option R:=
 bif c<(a.size:Int) then zd c a.size (d a (zW zI (zW zI (zW zI (10*b)+zW zI (ze a c.toNat))-48)) (zW zI (c+1))) else e b
def zzf{R:Type}(a:Int)(b:Int->Bool->Option R):Option R:=
 b a true
def B6:Nat->ByteArray->Int->Int->Option Int
 |0,_,_,_=>none
 |k+1,v0,v1,v2=>OO v0 v1 v2 (fun a0 a1 a2=>B6 k a0 a1 a2) (fun a0=>some a0)
def oI(a:ByteArray):Option (Int×Bool):=
 ON a (fun a0 a1=>some (a0,a1)) (fun a0 a1 a2=>(B6 ag a0 a1 a2).bind fun e=>zzf e (fun a0 a1=>some (a0,a1)))
def Ld{R:Type}(a:ByteArray)(b:Bool->Option R):Option R:=
 bif(a.size:Int)=4 then(AZ a).bind fun r1=>b r1 else b false
def jy(a:ByteArray):Option Bool:=
 Ld a (fun a0=>some a0)
def Lc{R:Type}(a:ByteArray)(b:Bool->Option R):Option R:=
 (oI a).bind fun r1=>bif r1.2 then bif(a.size:Int)=4 then bif Int.tmod (zW zI (Int.tdiv r1.1 10)) 10=0 then b true else b (decide (Int.tmod (zW zI (Int.tdiv r1.1 10)) 10=2)) else b false else b false
def oo(a:ByteArray):Option Bool:=
 Lc a (fun a0=>some a0)
def OW{R:Type}(a:ByteArray)(b:Int)(c:ByteArray->Int->Int->Option R)(d:ByteArray->Int->ByteArray->Int->Option R):Option R:=
 bif b<0 then c (bs []) 1 0 else bif 999<b then c (bs []) 1 0 else bif(a.size:Int)<zW zI (Int.tdiv (zW zI (b+1)) 2) then c (bs []) 2 (a.size:Int) else d a (zW zI (Int.tdiv (zW zI (b+1)) 2)) (bs []) (zW zI (zW zI (2*zW zI (Int.tdiv (zW zI (b+1)) 2))-b))
def AN{R:Type}(a:ByteArray)(b:Int)(c:ByteArray)(d:Int)(e:ByteArray->Int->Int->ByteArray->Option R)(f:ByteArray->Int->ByteArray->Int->Option R)(g:ByteArray->Option R):Option R:=
 bif d<zW zI (2*b) then bif d=1 then bif c=bs [] then zd 0 a.size (bif !decide (zW zU (Int.tdiv (ze a ((0:Int)).toNat) 16)=0) then e (bs []) 4 0 c else zd (zW zI (Int.tdiv d 2)) a.size (bif Int.tmod d 2=1 then zd (zW zI (Int.tdiv d 2)) a.size (bif 9<Int.tmod (ze a (zW zI (Int.tdiv d (2:Int))).toNat) 16 then e (bs []) 3 (zW zI (Int.tdiv d 2)) c else bif c.size+(strOf ([(zW zU (48+Int.tmod (ze a (zW zI (Int.tdiv d (2:Int))).toNat) 16))]:List Int)).size<=9223372036854775807 then f a b (c++strOf ([(zW zU (48+Int.tmod (ze a (zW zI (Int.tdiv d (2:Int))).toNat) 16))]:List Int)) (zW zI (d+1)) else none) else bif 9<zW zU (Int.tdiv (ze a (zW zI (Int.tdiv d (2:Int))).toNat) 16) then e (bs []) 3 (zW zI (Int.tdiv d 2)) c else bif c.size+(strOf ([(zW zU (48+zW zU (Int.tdiv (ze a (zW zI (Int.tdiv d (2:Int))).toNat) 16)))]:List Int)).size<=9223372036854775807 then f a b (c++strOf ([(zW zU (48+zW zU (Int.tdiv (ze a (zW zI (Int.tdiv d (2:Int))).toNat) 16)))]:List Int)) (zW zI (d+1)) else none)) else zd (zW zI (Int.tdiv d 2)) a.size (bif Int.tmod d 2=1 then zd (zW zI (Int.tdiv d 2)) a.size (bif 9<Int.tmod (ze a (zW zI (Int.tdiv d (2:Int))).toNat) 16 then e (bs []) 3 (zW zI (Int.tdiv d 2)) c else bif c.size+(strOf ([(zW zU (48+Int.tmod (ze a (zW zI (Int.tdiv d (2:Int))).toNat) 16))]:List Int)).size<=9223372036854775807 then f a b (c++strOf ([(zW zU (48+Int.tmod (ze a (zW zI (Int.tdiv d (2:Int))).toNat) 16))]:List Int)) (zW zI (d+1)) else none) else bif 9<zW zU (Int.tdiv (ze a (zW zI (Int.tdiv d (2:Int))).toNat) 16) then e (bs []) 3 (zW zI (Int.tdiv d 2)) c else bif c.size+(strOf ([(zW zU (48+zW zU (Int.tdiv (ze a (zW zI (Int.tdiv d (2:Int))).toNat) 16)))]:List Int)).size<=9223372036854775807 then f a b (c++strOf ([(zW zU (48+zW zU (Int.tdiv (ze a (zW zI (Int.tdiv d (2:Int))).toNat) 16)))]:List Int)) (zW zI (d+1)) else none) else zd (zW zI (Int.tdiv d 2)) a.size (bif Int.tmod d 2=1 then zd (zW zI (Int.tdiv d 2)) a.size (bif 9<Int.tmod (ze a (zW zI (Int.tdiv d (2:Int))).toNat) 16 then e (bs []) 3 (zW zI (Int.tdiv d 2)) c else bif c.size+(strOf ([(zW zU (48+Int.tmod (ze a (zW zI (Int.tdiv d (2:Int))).toNat) 16))]:List Int)).size<=9223372036854775807 then f a b (c++strOf ([(zW zU (48+Int.tmod (ze a (zW zI (Int.tdiv d (2:Int))).toNat) 16))]:List Int)) (zW zI (d+1)) else none) else bif 9<zW zU (Int.tdiv (ze a (zW zI (Int.tdiv d (2:Int))).toNat) 16) then e (bs []) 3 (zW zI (Int.tdiv d 2)) c else bif c.size+(strOf ([(zW zU (48+zW zU (Int.tdiv (ze a (zW zI (Int.tdiv d (2:Int))).toNat) 16)))]:List Int)).size<=9223372036854775807 then f a b (c++strOf ([(zW zU (48+zW zU (Int.tdiv (ze a (zW zI (Int.tdiv d (2:Int))).toNat) 16)))]:List Int)) (zW zI (d+1)) else none) else g c
def zzq{R:Type}(a:ByteArray)(b c:Int)(d:ByteArray)(e:ByteArray->Int->Int->Option R):Option R:=
 e a b c
def Jr{R:Type}(a:ByteArray)(b:ByteArray->Int->Int->Option R):Option R:=
 b a 0 0
def mX:Nat->ByteArray->Int->ByteArray->Int->Option (Sum (ByteArray×Int×Int×ByteArray) ByteArray)
 |0,_,_,_,_=>none
 |k+1,v0,v1,v2,v3=>AN v0 v1 v2 v3 (fun a0 a1 a2 a3=>some (.inl (a0,a1,a2,a3))) (fun a0 a1 a2 a3=>mX k a0 a1 a2 a3) (fun a0=>some (.inr a0))
def pC(a:ByteArray)(b:Int):Option il:=
 OW a b (fun a0 a1 a2=>some (a0,a1,a2)) (fun a0 a1 a2 a3=>(mX ag a0 a1 a2 a3).bind fun e=>Sum.elim (fun(we:(ByteArray×Int×Int×ByteArray))=>zzq we.1 we.2.1 we.2.2.1 we.2.2.2 (fun a0 a1 a2=>some (a0,a1,a2))) (fun(we:ByteArray)=>Jr we (fun a0 a1 a2=>some (a0,a1,a2))) e)
def zzg{R:Type}(a:ByteArray->Option R):Option R:=
 a (bs [48,49,50,51,52,53,54,55,56,57,65,66,67,68,69,70])
def Pz:Option ByteArray:=
 zzg (fun a0=>some a0)
def zzl{R:Type}(a:Int)(b:Int->Int->Option R):Option R:=
 b a 0
def zzm{R:Type}(a b:Int)(c:Int->Option R)(d:Int->Int->Option R)(e:Option R):Option R:=
 bif b<16 then Pz.bind fun r1=>zd b r1.size (bif ze r1 b.toNat=a then c b else d a (zW zI (b+1))) else e
def zzn{R:Type}(a:Int)(b:Int->Option R):Option R:=
 b a
def zzo{R:Type}(a:Int->Option R):Option R:=
 a (-1:Int)
def OU:Nat->Int->Int->Option (Sum Int Unit)
 |0,_,_=>none
 |k+1,v0,v1=>zzm v0 v1 (fun a0=>some (.inl a0)) (fun a0 a1=>OU k a0 a1) (some (.inr ()))
def x6(a:Int):Option Int:=
 zzl a (fun a0 a1=>(OU ag a0 a1).bind fun e=>Sum.elim (fun(we:Int)=>zzn we (fun a0=>some a0)) (fun(we:Unit)=>zzo (fun a0=>some a0)) e)
def OR{R:Type}(a:ByteArray)(b:ByteArray->Int->Option R):Option R:=
 b a 0
def Jp{R:Type}(a:ByteArray)(b:Int)(c:ByteArray->ByteArray->Int->Bool->Option R)(d:ByteArray->Int->Option R)(e:ByteArray->Option R):Option R:=
 bif b<(a.size:Int) then zd b a.size ((x6 (ze a b.toNat)).bind fun r1=>bif r1<0 then c a (bs []) b false else d a (zW zI (b+1))) else e a
def zzi{R:Type}(a b:ByteArray)(c:Int)(d:Bool)(e:ByteArray->Int->Bool->Option R):Option R:=
 e b c d
def OS{R:Type}(a:ByteArray)(b:ByteArray->Int->Bool->Option R)(c:ByteArray->(List Int)->Int->Option R):Option R:=
 bif Int.tmod (a.size:Int) 2=1 then b (bs []) (a.size:Int) false else c a [] 0
def Jq{R:Type}(a:ByteArray)(b:(List Int))(c:Int)(d:ByteArray->(List Int)->Int->Option R)(e:(List Int)->Option R):Option R:=
 bif c<(a.size:Int) then zd c a.size ((x6 (ze a c.toNat)).bind fun r2=>zd (zW zI (c+1)) a.size ((x6 (ze a (zW zI (c+(1:Int))).toNat)).bind fun r3=>bif(List.length b+List.length ([(zW zU (zW zI (zW zI ((16:Int)*r2)+r3)))]:List Int))*1<=140737488355328 then d a (b++([(zW zU (zW zI (zW zI (16*r2)+r3)))]:List Int)) (zW zI (c+2)) else none)) else e b
def zzj{R:Type}(a:(List Int))(b:ByteArray->Int->Bool->Option R):Option R:=
 b (strOf a) 0 true
def AL:Nat->ByteArray->Int->Option (Sum (ByteArray×ByteArray×Int×Bool) ByteArray)
 |0,_,_=>none
 |k+1,v0,v1=>Jp v0 v1 (fun a0 a1 a2 a3=>some (.inl (a0,a1,a2,a3))) (fun a0 a1=>AL k a0 a1) (fun a0=>some (.inr a0))
def AM:Nat->ByteArray->(List Int)->Int->Option (List Int)
 |0,_,_,_=>none
 |k+1,v0,v1,v2=>Jq v0 v1 v2 (fun a0 a1 a2=>AM k a0 a1 a2) (fun a0=>some a0)
def vC(a:ByteArray):Option (ByteArray×Int×Bool):=
 OR a (fun a0 a1=>(AL ag a0 a1).bind fun e=>Sum.elim (fun(we:(ByteArray×ByteArray×Int×Bool))=>zzi we.1 we.2.1 we.2.2.1 we.2.2.2 (fun a0 a1 a2=>some (a0,a1,a2))) (fun(we:ByteArray)=>OS we (fun a0 a1 a2=>some (a0,a1,a2)) (fun a0 a1 a2=>(AM ag a0 a1 a2).bind fun e=>zzj e (fun a0 a1 a2=>some (a0,a1,a2)))) e)
def B7{R:Type}(a:Int)(b:ByteArray)(c d:Int)(e:(List Int)->Int->Option R)(f:Int->ByteArray->(List Int)->Int->Option R):Option R:=
 bif a=1 then bif zW zI ((b.size:Int)-c)<16 then e [] 2 else bif 0<=zW zI (c+16) then bif zW zI (c+16)<=(b.size:Int) then bif 0<=c then bif c<=(((zW zI (c+(16:Int))).toNat:Nat):Int) then bif a=1 then(vC (b.extract c.toNat (zW zI (c+(16:Int))).toNat)).bind fun r1=>bif !r1.2.2 then e [] 3 else f d r1.1 [] 0 else f d (b.extract c.toNat (zW zI (c+(16:Int))).toNat) [] 0 else none else none else none else none else bif zW zI ((b.size:Int)-c)<8 then e [] 2 else bif 0<=zW zI (c+8) then bif zW zI (c+8)<=(b.size:Int) then bif 0<=c then bif c<=(((zW zI (c+(8:Int))).toNat:Nat):Int) then bif a=1 then(vC (b.extract c.toNat (zW zI (c+(8:Int))).toNat)).bind fun r2=>bif !r2.2.2 then e [] 3 else f d r2.1 [] 0 else f d (b.extract c.toNat (zW zI (c+(8:Int))).toNat) [] 0 else none else none else none else none
theorem Sz{R S:Type}(F:R->Option S)(a)(b)(c)(d)(e)(f):(B7 a b c d e f).bind F=B7 a b c d (fun a0 a1=>(e a0 a1).bind F) (fun a0 a1 a2 a3=>(f a0 a1 a2 a3).bind F):=by
 simp only[B7,az]
def Jt{R:Type}(a:Int)(b:ByteArray)(c:(List Int))(d:Int)(e:Int->ByteArray->(List Int)->Int->Int->Int->Int->Option R)(f:(List Int)->Option R):Option R:=
 bif d<8 then zd d b.size (e a b c d (ze b d.toNat) 128 0) else f c
def O3{R:Type}(a:(List Int))(b:(List Int)->Int->Option R):Option R:=
 b a 0
def Ju{R:Type}(a:Int)(b:ByteArray)(c:(List Int))(d e f g:Int)(h:Int->ByteArray->(List Int)->Int->Int->Int->Int->Option R)(i:Int->ByteArray->(List Int)->Int->Option R):Option R:=
 bif g<8 then bif f<=e then bif(List.length c+List.length ([(zW zI (zW zI (a+zW zI ((8:Int)*d))+g))]:List Int))*8<=140737488355328 then h a b (c++([(zW zI (zW zI (a+zW zI (8*d))+g))]:List Int)) d (zW zU (e-f)) (zW zU (Int.tdiv f 2)) (zW zI (g+1)) else none else h a b c d e (zW zU (Int.tdiv f 2)) (zW zI (g+1)) else i a b c d
def O4{R:Type}(a:Int)(b:ByteArray)(c:(List Int))(d:Int)(e:Int->ByteArray->(List Int)->Int->Option R):Option R:=
 e a b c (zW zI (d+1))
def AP:Nat->Int->ByteArray->(List Int)->Int->Int->Int->Int->Option (Int×ByteArray×(List Int)×Int)
 |0,_,_,_,_,_,_,_=>none
 |k+1,v0,v1,v2,v3,v4,v5,v6=>Ju v0 v1 v2 v3 v4 v5 v6 (fun a0 a1 a2 a3 a4 a5 a6=>AP k a0 a1 a2 a3 a4 a5 a6) (fun a0 a1 a2 a3=>some (a0,a1,a2,a3))
def xI:Nat->Int->ByteArray->(List Int)->Int->Option (List Int)
 |0,_,_,_,_=>none
 |k+1,v0,v1,v2,v3=>Jt v0 v1 v2 v3 (fun a0 a1 a2 a3 a4 a5 a6=>(AP ag a0 a1 a2 a3 a4 a5 a6).bind fun e=>O4 e.1 e.2.1 e.2.2.1 e.2.2.2 (fun a0 a1 a2 a3=>xI k a0 a1 a2 a3)) (fun a0=>some a0)
def nv(a:Int)(b:ByteArray)(c d:Int):Option ((List Int)×Int):=
 B7 a b c d (fun a0 a1=>some (a0,a1)) (fun a0 a1 a2 a3=>(xI ag a0 a1 a2 a3).bind fun e=>O3 e (fun a0 a1=>some (a0,a1)))
def O0{R:Type}(a:Int)(b:ByteArray)(c:Int)(d:(List Int)->Int->Int->Option R):Option R:=
 bif !decide (a=1) then bif !decide (a=2) then d [] 0 1 else bif c<0 then d [] 0 1 else bif(b.size:Int)<c then d [] 0 1 else bif a=1 then(nv a b c (1:Int)).bind fun r1=>bif !decide (r1.2=0) then d [] 0 r1.2 else bif((List.length r1.1):Int)=0 then d r1.1 (zW zI (c+16)) 0 else zd 0 (List.length r1.1) (bif !decide (List.getD r1.1 ((0:Int)).toNat 0=1) then d r1.1 (zW zI (c+16)) 0 else(nv a b (zW zI (c+16)) (65:Int)).bind fun r2=>bif !decide (r2.2=0) then d [] 0 r2.2 else bif((List.length r2.1):Int)=0 then d [] 0 8 else bif 1<=(((List.length r1.1):Nat):Int) then bif(List.length ([]:List Int)+List.length (List.drop ((1:Int)).toNat (List.take (List.length r1.1) r1.1)))*8<=140737488355328 then bif(List.length (([]:List Int)++List.drop ((1:Int)).toNat (List.take (List.length r1.1) r1.1))+List.length r2.1)*8<=140737488355328 then d (([]++List.drop ((1:Int)).toNat (List.take (List.length r1.1) r1.1))++r2.1) (zW zI (c+zW zI (2*16))) 0 else none else none else none) else(nv a b c (1:Int)).bind fun r3=>bif !decide (r3.2=0) then d [] 0 r3.2 else bif((List.length r3.1):Int)=0 then d r3.1 (zW zI (c+8)) 0 else zd 0 (List.length r3.1) (bif !decide (List.getD r3.1 ((0:Int)).toNat 0=1) then d r3.1 (zW zI (c+8)) 0 else(nv a b (zW zI (c+8)) (65:Int)).bind fun r4=>bif !decide (r4.2=0) then d [] 0 r4.2 else bif((List.length r4.1):Int)=0 then d [] 0 8 else bif 1<=(((List.length r3.1):Nat):Int) then bif(List.length ([]:List Int)+List.length (List.drop ((1:Int)).toNat (List.take (List.length r3.1) r3.1)))*8<=140737488355328 then bif(List.length (([]:List Int)++List.drop ((1:Int)).toNat (List.take (List.length r3.1) r3.1))+List.length r4.1)*8<=140737488355328 then d (([]++List.drop ((1:Int)).toNat (List.take (List.length r3.1) r3.1))++r4.1) (zW zI (c+zW zI (2*8))) 0 else none else none else none) else bif c<0 then d [] 0 1 else bif(b.size:Int)<c then d [] 0 1 else bif a=1 then(nv a b c (1:Int)).bind fun r5=>bif !decide (r5.2=0) then d [] 0 r5.2 else bif((List.length r5.1):Int)=0 then d r5.1 (zW zI (c+16)) 0 else zd 0 (List.length r5.1) (bif !decide (List.getD r5.1 ((0:Int)).toNat 0=1) then d r5.1 (zW zI (c+16)) 0 else(nv a b (zW zI (c+16)) (65:Int)).bind fun r6=>bif !decide (r6.2=0) then d [] 0 r6.2 else bif((List.length r6.1):Int)=0 then d [] 0 8 else bif 1<=(((List.length r5.1):Nat):Int) then bif(List.length ([]:List Int)+List.length (List.drop ((1:Int)).toNat (List.take (List.length r5.1) r5.1)))*8<=140737488355328 then bif(List.length (([]:List Int)++List.drop ((1:Int)).toNat (List.take (List.length r5.1) r5.1))+List.length r6.1)*8<=140737488355328 then d (([]++List.drop ((1:Int)).toNat (List.take (List.length r5.1) r5.1))++r6.1) (zW zI (c+zW zI (2*16))) 0 else none else none else none) else(nv a b c (1:Int)).bind fun r7=>bif !decide (r7.2=0) then d [] 0 r7.2 else bif((List.length r7.1):Int)=0 then d r7.1 (zW zI (c+8)) 0 else zd 0 (List.length r7.1) (bif !decide (List.getD r7.1 ((0:Int)).toNat 0=1) then d r7.1 (zW zI (c+8)) 0 else(nv a b (zW zI (c+8)) (65:Int)).bind fun r8=>bif !decide (r8.2=0) then d [] 0 r8.2 else bif((List.length r8.1):Int)=0 then d [] 0 8 else bif 1<=(((List.length r7.1):Nat):Int) then bif(List.length ([]:List Int)+List.length (List.drop ((1:Int)).toNat (List.take (List.length r7.1) r7.1)))*8<=140737488355328 then bif(List.length (([]:List Int)++List.drop ((1:Int)).toNat (List.take (List.length r7.1) r7.1))+List.length r8.1)*8<=140737488355328 then d (([]++List.drop ((1:Int)).toNat (List.take (List.length r7.1) r7.1))++r8.1) (zW zI (c+zW zI (2*8))) 0 else none else none else none)
def s4(a:Int)(b:ByteArray)(c:Int):Option ((List Int)×Int×Int):=
 O0 a b c (fun a0 a1 a2=>some (a0,a1,a2))
def O6{R:Type}(a:Int)(b:Int->Option R):Option R:=
 bif a=2 then b a else bif a=3 then b a else b 0
def C4(a:Int):Option Int:=
 O6 a (fun a0=>some a0)
def O5{R:Type}(a b:Int)(c:ByteArray)(d:Int)(e:Int->Int->Int->Option R):Option R:=
 bif !decide (a=1) then bif !decide (a=2) then e 0 0 1 else(C4 b).bind fun r1=>bif r1=0 then e 0 0 1 else bif d<0 then e 0 0 1 else bif(c.size:Int)<d then e 0 0 1 else bif a=2 then bif zW zI ((c.size:Int)-d)<zW zI (b-1) then e 0 0 2 else bif 0<=zW zI (d+zW zI (b-1)) then bif zW zI (d+zW zI (b-1))<=(c.size:Int) then bif 0<=d then bif d<=(((zW zI (d+zW zI (b-(1:Int)))).toNat:Nat):Int) then bif a=2 then(pC (c.extract d.toNat (zW zI (d+zW zI (b-(1:Int)))).toNat) b).bind fun r2=>bif !decide (r2.2.1=0) then e 0 0 3 else(oI r2.1).bind fun r3=>bif !r3.2 then e 0 0 3 else e r3.1 (zW zI (d+zW zI (b-1))) 0 else(oI (c.extract d.toNat (zW zI (d+zW zI (b-(1:Int)))).toNat)).bind fun r4=>bif !r4.2 then e 0 0 3 else e r4.1 (zW zI (d+zW zI (b-1))) 0 else none else none else none else none else bif zW zI ((c.size:Int)-d)<b then e 0 0 2 else bif 0<=zW zI (d+b) then bif zW zI (d+b)<=(c.size:Int) then bif 0<=d then bif d<=(((zW zI (d+b)).toNat:Nat):Int) then bif a=2 then(pC (c.extract d.toNat (zW zI (d+b)).toNat) b).bind fun r5=>bif !decide (r5.2.1=0) then e 0 0 3 else(oI r5.1).bind fun r6=>bif !r6.2 then e 0 0 3 else e r6.1 (zW zI (d+b)) 0 else(oI (c.extract d.toNat (zW zI (d+b)).toNat)).bind fun r7=>bif !r7.2 then e 0 0 3 else e r7.1 (zW zI (d+b)) 0 else none else none else none else none else(C4 b).bind fun r8=>bif r8=0 then e 0 0 1 else bif d<0 then e 0 0 1 else bif(c.size:Int)<d then e 0 0 1 else bif a=2 then bif zW zI ((c.size:Int)-d)<zW zI (b-1) then e 0 0 2 else bif 0<=zW zI (d+zW zI (b-1)) then bif zW zI (d+zW zI (b-1))<=(c.size:Int) then bif 0<=d then bif d<=(((zW zI (d+zW zI (b-(1:Int)))).toNat:Nat):Int) then bif a=2 then(pC (c.extract d.toNat (zW zI (d+zW zI (b-(1:Int)))).toNat) b).bind fun r9=>bif !decide (r9.2.1=0) then e 0 0 3 else(oI r9.1).bind fun ju=>bif !ju.2 then e 0 0 3 else e ju.1 (zW zI (d+zW zI (b-1))) 0 else(oI (c.extract d.toNat (zW zI (d+zW zI (b-(1:Int)))).toNat)).bind fun jl=>bif !jl.2 then e 0 0 3 else e jl.1 (zW zI (d+zW zI (b-1))) 0 else none else none else none else none else bif zW zI ((c.size:Int)-d)<b then e 0 0 2 else bif 0<=zW zI (d+b) then bif zW zI (d+b)<=(c.size:Int) then bif 0<=d then bif d<=(((zW zI (d+b)).toNat:Nat):Int) then bif a=2 then(pC (c.extract d.toNat (zW zI (d+b)).toNat) b).bind fun kF=>bif !decide (kF.2.1=0) then e 0 0 3 else(oI kF.1).bind fun jm=>bif !jm.2 then e 0 0 3 else e jm.1 (zW zI (d+b)) 0 else(oI (c.extract d.toNat (zW zI (d+b)).toNat)).bind fun sm=>bif !sm.2 then e 0 0 3 else e sm.1 (zW zI (d+b)) 0 else none else none else none else none
def C2(a b:Int)(c:ByteArray)(d:Int):Option lr:=
 O5 a b c d (fun a0 a1 a2=>some (a0,a1,a2))
def Cd{R:Type}(a:Int)(b:aj)(c:ByteArray)(d:Int)(e:Int->ByteArray->Int->Bool->aj->Option R):Option R:=
 bif !decide (a=1) then bif !decide (a=2) then e a c d true b else(sd b).bind fun r1=>bif !decide (r1=0) then e a c d true b else bif d<0 then e a c d true b else e a c d (decide ((c.size:Int)<d)) b else(sd b).bind fun r2=>bif !decide (r2=0) then e a c d true b else bif d<0 then e a c d true b else e a c d (decide ((c.size:Int)<d)) b
theorem SA{R S:Type}(F:R->Option S)(a)(b)(c)(d)(e):(Cd a b c d e).bind F=Cd a b c d (fun a0 a1 a2 a3 a4=>(e a0 a1 a2 a3 a4).bind F):=by
 simp only[Cd,az]
def Pd{R:Type}(a:Int)(b:ByteArray)(c:Int)(d:Bool)(e:aj)(f:ByteArray->Int->Int->Option R)(g:Int->ByteArray->Int->aj->Option R):Option R:=
 bif d then f (bs []) 0 1 else g a b c e
def Pe{R:Type}(a:Int)(b:ByteArray)(c:Int)(d:aj)(e:ByteArray->Int->Int->Option R)(f g:Int->ByteArray->Int->Int->aj->Option R):Option R:=
 bif !decide (d.2.2.1=1) then(C2 a d.2.2.1 b c).bind fun r3=>bif !decide (r3.2.2=0) then e (bs []) 0 r3.2.2 else f a b r3.1 r3.2.1 d else g a b c d.2.2.2.2.1 d
def Ce{R:Type}(a:Int)(b:ByteArray)(c d:Int)(e:aj)(f:Int->ByteArray->Int->Int->Bool->aj->Option R):Option R:=
 bif c<e.2.2.2.1 then f a b c d true e else f a b c d (decide (e.2.2.2.2.1<c)) e
theorem z130{R S:Type}(F:R->Option S)(a)(b)(c)(d)(e)(f):(Ce a b c d e f).bind F=Ce a b c d e (fun a0 a1 a2 a3 a4 a5=>(f a0 a1 a2 a3 a4 a5).bind F):=by
 simp only[Ce,az]
def vh{R:Type}(a:Int)(b:ByteArray)(c d:Int)(e:aj)(f:Int->ByteArray->Int->Int->Int->Bool->aj->Option R):Option R:=
 bif a=2 then f a b c d d (decide (e.2.1=1)) e else f a b c d d false e
theorem z131{R S:Type}(F:R->Option S)(a)(b)(c)(d)(e)(f):(vh a b c d e f).bind F=vh a b c d e (fun a0 a1 a2 a3 a4 a5 a6=>(f a0 a1 a2 a3 a4 a5 a6).bind F):=by
 simp only[vh,az]
def Pf{R:Type}(a:Int)(b:ByteArray)(c d:Int)(e:Bool)(f:aj)(g:ByteArray->Int->Int->Option R)(h:Int->ByteArray->Int->Int->aj->Option R):Option R:=
 bif e then g (bs []) 0 5 else h a b c d f
def vi{R:Type}(a:Int)(b:ByteArray)(c d e:Int)(f:Bool)(g:aj)(h:Int->ByteArray->Int->Int->Int->aj->Option R):Option R:=
 bif f then h a b c d (zW zI (Int.tdiv (zW zI (d+1)) 2)) g else h a b c d e g
theorem SB{R S:Type}(F:R->Option S)(a)(b)(c)(d)(e)(f)(g)(h):(vi a b c d e f g h).bind F=vi a b c d e f g (fun a0 a1 a2 a3 a4 a5=>(h a0 a1 a2 a3 a4 a5).bind F):=by
 simp only[vi,az]
def Pg{R:Type}(a:Int)(b:ByteArray)(c d:Int)(e:aj)(f:Int->ByteArray->Int->Int->aj->Option R):Option R:=
 f a b d c e
def vj{R:Type}(a:Int)(b:ByteArray)(c d e:Int)(f:aj)(g:Int->ByteArray->Int->Int->Int->Bool->aj->Option R):Option R:=
 bif a=1 then g a b c d e (decide (5<=f.2.1)) f else g a b c d e false f
theorem SC{R S:Type}(F:R->Option S)(a)(b)(c)(d)(e)(f)(g):(vj a b c d e f g).bind F=vj a b c d e f (fun a0 a1 a2 a3 a4 a5 a6=>(g a0 a1 a2 a3 a4 a5 a6).bind F):=by
 simp only[vj,az]
def vk{R:Type}(a:Int)(b:ByteArray)(c d e:Int)(f:Bool)(g:aj)(h:Int->ByteArray->Int->Int->Int->aj->Option R):Option R:=
 bif f then h a b c d (zW zI (d+d)) g else h a b c d e g
theorem SD{R S:Type}(F:R->Option S)(a)(b)(c)(d)(e)(f)(g)(h):(vk a b c d e f g h).bind F=vk a b c d e f g (fun a0 a1 a2 a3 a4 a5=>(h a0 a1 a2 a3 a4 a5).bind F):=by
 simp only[vk,az]
def As{R:Type}(a:Int)(b:ByteArray)(c d e:Int)(f:aj)(g:ByteArray->Int->Int->Option R)(h:Int->ByteArray->Int->Int->Int->aj->Option R):Option R:=
 bif zW zI ((b.size:Int)-c)<e then g (bs []) 0 2 else h a b c d e f
def u6{R:Type}(a:Int)(b:ByteArray)(c d e:Int)(f:aj)(g:Int->Int->Int->Int->ByteArray->Bool->aj->Option R):Option R:=
 bif 0<=zW zI (c+e) then bif zW zI (c+e)<=(b.size:Int) then bif 0<=c then bif c<=(((zW zI (c+e)).toNat:Nat):Int) then bif a=2 then g a c d e (b.extract c.toNat (zW zI (c+e)).toNat) (decide (f.2.1=1)) f else g a c d e (b.extract c.toNat (zW zI (c+e)).toNat) false f else none else none else none else none
theorem Sc{R S:Type}(F:R->Option S)(a)(b)(c)(d)(e)(f)(g):(u6 a b c d e f g).bind F=u6 a b c d e f (fun a0 a1 a2 a3 a4 a5 a6=>(g a0 a1 a2 a3 a4 a5 a6).bind F):=by
 simp only[u6,az]
def At{R:Type}(a b c d:Int)(e:ByteArray)(f:Bool)(g:aj)(h:ByteArray->Int->Int->Option R)(i j:Int->Int->Int->ByteArray->aj->Option R):Option R:=
 bif f then(pC e c).bind fun r4=>bif !decide (r4.2.1=0) then h (bs []) 0 r4.2.1 else i a b d r4.1 g else j a b d e g
def Au{R:Type}(a b c:Int)(d:ByteArray)(e:aj)(f:Int->Int->Int->ByteArray->aj->Option R):Option R:=
 f a b c d e
def u7{R:Type}(a b c:Int)(d:ByteArray)(e:aj)(f:Int->Int->ByteArray->Bool->aj->Option R):Option R:=
 bif a=1 then f b c d (decide (5<=e.2.1)) e else f b c d false e
theorem z107{R S:Type}(F:R->Option S)(a)(b)(c)(d)(e)(f):(u7 a b c d e f).bind F=u7 a b c d e (fun a0 a1 a2 a3 a4=>(f a0 a1 a2 a3 a4).bind F):=by
 simp only[u7,az]
def Av{R:Type}(a b:Int)(c:ByteArray)(d:Bool)(e:aj)(f:ByteArray->Int->Int->Option R)(g h:Int->Int->ByteArray->aj->Option R):Option R:=
 bif d then(vC c).bind fun r5=>bif !r5.2.2 then f (bs []) 0 3 else g a b r5.1 e else h a b c e
def Aw{R:Type}(a b:Int)(c:ByteArray)(d:aj)(e:Int->Int->ByteArray->aj->Option R):Option R:=
 e a b c d
def Ax{R:Type}(a b:Int)(c:ByteArray)(d:aj)(e:ByteArray->Int->Int->Option R)(f:Int->Int->ByteArray->Option R):Option R:=
 (nC d c).bind fun r6=>bif !decide (r6=0) then e (bs []) 0 r6 else f a b c
def Ay{R:Type}(a b:Int)(c:ByteArray)(d:ByteArray->Int->Int->Option R):Option R:=
 d c (zW zI (a+b)) 0
def BQ(a b:Int)(c:ByteArray):Option il:=
 Ay a b c (fun a0 a1 a2=>some (a0,a1,a2))
def Ar(a b:Int)(c:ByteArray)(d:aj):Option il:=
 Ax a b c d (fun a0 a1 a2=>some (a0,a1,a2)) (fun a0 a1 a2=>BQ a0 a1 a2)
def BP(a b:Int)(c:ByteArray)(d:aj):Option il:=
 Aw a b c d (fun a0 a1 a2 a3=>Ar a0 a1 a2 a3)
def BO(a b:Int)(c:ByteArray)(d:Bool)(e:aj):Option il:=
 Av a b c d e (fun a0 a1 a2=>some (a0,a1,a2)) (fun a0 a1 a2 a3=>BP a0 a1 a2 a3) (fun a0 a1 a2 a3=>Ar a0 a1 a2 a3)
def Aq(a b c:Int)(d:ByteArray)(e:aj):Option il:=
 u7 a b c d e (fun a0 a1 a2 a3 a4=>BO a0 a1 a2 a3 a4)
def BN(a b c:Int)(d:ByteArray)(e:aj):Option il:=
 Au a b c d e (fun a0 a1 a2 a3 a4=>Aq a0 a1 a2 a3 a4)
def BM(a b c d:Int)(e:ByteArray)(f:Bool)(g:aj):Option il:=
 At a b c d e f g (fun a0 a1 a2=>some (a0,a1,a2)) (fun a0 a1 a2 a3 a4=>BN a0 a1 a2 a3 a4) (fun a0 a1 a2 a3 a4=>Aq a0 a1 a2 a3 a4)
def BL(a:Int)(b:ByteArray)(c d e:Int)(f:aj):Option il:=
 u6 a b c d e f (fun a0 a1 a2 a3 a4 a5 a6=>BM a0 a1 a2 a3 a4 a5 a6)
def Cc(a:Int)(b:ByteArray)(c d e:Int)(f:aj):Option il:=
 As a b c d e f (fun a0 a1 a2=>some (a0,a1,a2)) (fun a0 a1 a2 a3 a4 a5=>BL a0 a1 a2 a3 a4 a5)
def Cb(a:Int)(b:ByteArray)(c d e:Int)(f:Bool)(g:aj):Option il:=
 vk a b c d e f g (fun a0 a1 a2 a3 a4 a5=>Cc a0 a1 a2 a3 a4 a5)
def Ca(a:Int)(b:ByteArray)(c d e:Int)(f:aj):Option il:=
 vj a b c d e f (fun a0 a1 a2 a3 a4 a5 a6=>Cb a0 a1 a2 a3 a4 a5 a6)
def B9(a:Int)(b:ByteArray)(c d e:Int)(f:Bool)(g:aj):Option il:=
 vi a b c d e f g (fun a0 a1 a2 a3 a4 a5=>Ca a0 a1 a2 a3 a4 a5)
def z40(a:Int)(b:ByteArray)(c d:Int)(e:aj):Option il:=
 vh a b c d e (fun a0 a1 a2 a3 a4 a5 a6=>B9 a0 a1 a2 a3 a4 a5 a6)
def z105(a:Int)(b:ByteArray)(c d:Int)(e:aj):Option il:=
 Pg a b c d e (fun a0 a1 a2 a3 a4=>z40 a0 a1 a2 a3 a4)
def zQ(a:Int)(b:ByteArray)(c d:Int)(e:Bool)(f:aj):Option il:=
 Pf a b c d e f (fun a0 a1 a2=>some (a0,a1,a2)) (fun a0 a1 a2 a3 a4=>z105 a0 a1 a2 a3 a4)
def zP(a:Int)(b:ByteArray)(c d:Int)(e:aj):Option il:=
 Ce a b c d e (fun a0 a1 a2 a3 a4 a5=>zQ a0 a1 a2 a3 a4 a5)
def Pc(a:Int)(b:ByteArray)(c:Int)(d:aj):Option il:=
 Pe a b c d (fun a0 a1 a2=>some (a0,a1,a2)) (fun a0 a1 a2 a3 a4=>zP a0 a1 a2 a3 a4) (fun a0 a1 a2 a3 a4=>z40 a0 a1 a2 a3 a4)
def zO(a:Int)(b:ByteArray)(c:Int)(d:Bool)(e:aj):Option il:=
 Pd a b c d e (fun a0 a1 a2=>some (a0,a1,a2)) (fun a0 a1 a2 a3=>Pc a0 a1 a2 a3)
def A0(a:Int)(b:aj)(c:ByteArray)(d:Int):Option il:=
 Cd a b c d (fun a0 a1 a2 a3 a4=>zO a0 a1 a2 a3 a4)
def Lf{R:Type}(a:ai)(b:ae)(c:aw->Option R)(d:Int->Int->ai->ae->aw->Option R):Option R:=
 (om a).bind fun r1=>bif !r1 then c (1,(-1:Int),()) else(jy b.1).bind fun r2=>bif !r2 then c (7,0,()) else zd 0 b.1.size (bif !decide (zW zI (zW zI (ze b.1 ((0:Int)).toNat)-48)=a.2.1) then c (7,0,()) else d 0 0 a b (0,0,()))
def Iy{R:Type}(a b:Int)(c:ai)(d:ae)(e:aw)(f:aw->Option R)(g:Int->Int->ai->ae->aw->Option R)(h:aw->Option R):Option R:=
 bif b<((List.length d.2.1):Int) then zd b (List.length d.2.1) (bif(List.getD d.2.1 b.toNat (0,bs [],())).1<=a then f (11,(List.getD d.2.1 b.toNat (0,bs [],())).1,()) else(oj c (List.getD d.2.1 b.toNat (0,bs [],())).1).bind fun r3=>bif r3<0 then f (9,(List.getD d.2.1 b.toNat (0,bs [],())).1,()) else zd r3 (List.length c.2.2.1) (zd b (List.length d.2.1) ((nC (List.getD c.2.2.1 r3.toNat (0,0,0,0,0,())) (List.getD d.2.1 b.toNat (0,bs [],())).2.1).bind fun r4=>bif !decide (r4=0) then f (r4,(List.getD d.2.1 b.toNat (0,bs [],())).1,()) else g (List.getD d.2.1 b.toNat (0,bs [],())).1 (zW zI (b+1)) c d e))) else h e
def zrv{R:Type}(a:aw)(b:aw->Option R):Option R:=
 b a
def zrw{R:Type}(a:aw)(b:aw->Option R):Option R:=
 b (0,0,())
def sG:Nat->Int->Int->ai->ae->aw->Option (Sum aw aw)
 |0,_,_,_,_,_=>none
 |k+1,v0,v1,v2,v3,v4=>Iy v0 v1 v2 v3 v4 (fun a0=>some (.inl a0)) (fun a0 a1 a2 a3 a4=>sG k a0 a1 a2 a3 a4) (fun a0=>some (.inr a0))
def pS(a:ai)(b:ae):Option aw:=
 Lf a b (fun a0=>some a0) (fun a0 a1 a2 a3 a4=>(sG ag a0 a1 a2 a3 a4).bind fun e=>Sum.elim (fun(we:aw)=>zrv we (fun a0=>some a0)) (fun(we:aw)=>zrw we (fun a0=>some a0)) e)
def BC{R:Type}(a:ai)(b:ByteArray)(c:ae->aw->Option R)(d:ByteArray->(List Int)->Int->Int->ai->ae->aw->ae->Option R):Option R:=
 (om a).bind fun r1=>bif !r1 then c (bs [],[],()) (1,(-1:Int),()) else bif a.1=2 then bif(b.size:Int)<2 then c (bs [],[],()) (2,0,()) else bif 2<=(b.size:Int) then bif a.1=2 then(pC (b.extract 0 ((2:Int)).toNat) (4:Int)).bind fun r2=>(jy r2.1).bind fun r3=>bif !r3 then c (bs [],[],()) (7,0,()) else zd 0 r2.1.size (bif !decide (zW zI (zW zI (ze r2.1 ((0:Int)).toNat)-48)=a.2.1) then c (bs [],[],()) (7,0,()) else(s4 a.1 b (2:Int)).bind fun r4=>bif !decide (r4.2.2=0) then c (r2.1,[],()) (r4.2.2,1,()) else d b r4.1 r4.2.1 0 a (bs [],[],()) (0,0,()) (r2.1,[],())) else(jy (b.extract 0 ((2:Int)).toNat)).bind fun r5=>bif !r5 then c (bs [],[],()) (7,0,()) else zd 0 (b.extract 0 ((2:Int)).toNat).size (bif !decide (zW zI (zW zI (ze (b.extract 0 ((2:Int)).toNat) ((0:Int)).toNat)-48)=a.2.1) then c (bs [],[],()) (7,0,()) else(s4 a.1 b (2:Int)).bind fun r6=>bif !decide (r6.2.2=0) then c (b.extract 0 ((2:Int)).toNat,[],()) (r6.2.2,1,()) else d b r6.1 r6.2.1 0 a (bs [],[],()) (0,0,()) (b.extract 0 ((2:Int)).toNat,[],())) else none else bif(b.size:Int)<4 then c (bs [],[],()) (2,0,()) else bif 4<=(b.size:Int) then bif a.1=2 then(pC (b.extract 0 ((4:Int)).toNat) (4:Int)).bind fun r7=>(jy r7.1).bind fun r8=>bif !r8 then c (bs [],[],()) (7,0,()) else zd 0 r7.1.size (bif !decide (zW zI (zW zI (ze r7.1 ((0:Int)).toNat)-48)=a.2.1) then c (bs [],[],()) (7,0,()) else(s4 a.1 b (4:Int)).bind fun r9=>bif !decide (r9.2.2=0) then c (r7.1,[],()) (r9.2.2,1,()) else d b r9.1 r9.2.1 0 a (bs [],[],()) (0,0,()) (r7.1,[],())) else(jy (b.extract 0 ((4:Int)).toNat)).bind fun ju=>bif !ju then c (bs [],[],()) (7,0,()) else zd 0 (b.extract 0 ((4:Int)).toNat).size (bif !decide (zW zI (zW zI (ze (b.extract 0 ((4:Int)).toNat) ((0:Int)).toNat)-48)=a.2.1) then c (bs [],[],()) (7,0,()) else(s4 a.1 b (4:Int)).bind fun jl=>bif !decide (jl.2.2=0) then c (b.extract 0 ((4:Int)).toNat,[],()) (jl.2.2,1,()) else d b jl.1 jl.2.1 0 a (bs [],[],()) (0,0,()) (b.extract 0 ((4:Int)).toNat,[],())) else none
theorem zyr{R S:Type}(F:R->Option S)(a)(b)(c)(d):(BC a b c d).bind F=BC a b (fun a0 a1=>(c a0 a1).bind F) (fun a0 a1 a2 a3 a4 a5 a6 a7=>(d a0 a1 a2 a3 a4 a5 a6 a7).bind F):=by
 simp only[BC,az]
def Iz{R:Type}(a:ByteArray)(b:(List Int))(c d:Int)(e:ai)(f:ae)(g:aw)(h:ae)(i:ByteArray->Int->ae->aw->ae->Option R)(j:ByteArray->(List Int)->Int->Int->ai->ae->aw->ae->Option R)(l:ByteArray->Int->ae->aw->ae->Option R):Option R:=
 bif d<((List.length b):Int) then zd d (List.length b) ((oj e (List.getD b d.toNat (0:Int))).bind fun kF=>bif kF<0 then zd d (List.length b) (i a c h (9,List.getD b d.toNat 0,()) h) else zd kF (List.length e.2.2.1) ((A0 e.1 (List.getD e.2.2.1 kF.toNat (0,0,0,0,0,())) a c).bind fun jm=>bif !decide (jm.2.2=0) then zd d (List.length b) (i a c h (jm.2.2,List.getD b d.toNat 0,()) h) else zd d (List.length b) (bif(List.length h.2.1+List.length ([(List.getD b d.toNat (0:Int),jm.1,())]:List cR))*24<=140737488355328 then j a b jm.2.1 (zW zI (d+1)) e f g (h.1,h.2.1++([(List.getD b d.toNat 0,jm.1,())]:List cR),()) else none))) else l a c f g h
def zry{R:Type}(a:ByteArray)(b:Int)(c:ae)(d:aw)(e:ae)(f:ae->aw->Option R):Option R:=
 f c d
def zrz{R:Type}(a:ByteArray)(b:Int)(c:ae)(d:aw)(e:ae)(f:ae->aw->Option R):Option R:=
 bif b<(a.size:Int) then f e (12,129,()) else f e (0,0,())
def xC:Nat->ByteArray->(List Int)->Int->Int->ai->ae->aw->ae->Option (Sum ij ij)
 |0,_,_,_,_,_,_,_,_=>none
 |k+1,v0,v1,v2,v3,v4,v5,v6,v7=>Iz v0 v1 v2 v3 v4 v5 v6 v7 (fun a0 a1 a2 a3 a4=>some (.inl (a0,a1,a2,a3,a4))) (fun a0 a1 a2 a3 a4 a5 a6 a7=>xC k a0 a1 a2 a3 a4 a5 a6 a7) (fun a0 a1 a2 a3 a4=>some (.inr (a0,a1,a2,a3,a4)))
def pT(a:ai)(b:ByteArray):Option (ae×aw):=
 BC a b (fun a0 a1=>some (a0,a1)) (fun a0 a1 a2 a3 a4 a5 a6 a7=>(xC ag a0 a1 a2 a3 a4 a5 a6 a7).bind fun e=>Sum.elim (fun(we:ij)=>zry we.1 we.2.1 we.2.2.1 we.2.2.2.1 we.2.2.2.2 (fun a0 a1=>some (a0,a1))) (fun(we:ij)=>zrz we.1 we.2.1 we.2.2.1 we.2.2.2.1 we.2.2.2.2 (fun a0 a1=>some (a0,a1))) e)
def zs0{R:Type}(a:aN)(b:aN->aN->Int->Option R):Option R:=
 b a [] 0
def zs1{R:Type}(a b:aN)(c:Int)(d:aN->aN->Int->Option R)(e:aN->Option R):Option R:=
 bif c<((List.length a):Int) then zd c (List.length a) (zd c (List.length a) (bif(List.length b+List.length ([((List.getD a c.toNat (bs [],bs [],())).2.1,(List.getD a c.toNat (bs [],bs [],())).1,())]:List eE))*32<=140737488355328 then d a (b++([((List.getD a c.toNat (bs [],bs [],())).2.1,(List.getD a c.toNat (bs [],bs [],())).1,())]:List eE)) (zW zI (c+1)) else none)) else e b
def zs2{R:Type}(a:aN)(b:aN->Option R):Option R:=
 b a
def Li:Nat->aN->aN->Int->Option aN
 |0,_,_,_=>none
 |k+1,v0,v1,v2=>zs1 v0 v1 v2 (fun a0 a1 a2=>Li k a0 a1 a2) (fun a0=>some a0)
def pU(a:aN):Option aN:=
 zs0 a (fun a0 a1 a2=>(Li ag a0 a1 a2).bind fun e=>zs2 e (fun a0=>some a0))
def Lk{R:Type}(a:bB)(b:Bool->Option R)(c:Int->bB->Option R):Option R:=
 bif 1200<(a.2.2.2.1.size:Int) then b true else bif 300<((List.length a.2.2.2.2.1):Int) then b true else c 0 a
def IA{R:Type}(a:Int)(b:bB)(c:Bool->Option R)(d:Int->bB->Option R)(e:Option R):Option R:=
 bif a<((List.length b.2.2.2.2.1):Int) then zd a (List.length b.2.2.2.2.1) (bif 1200<(((List.getD b.2.2.2.2.1 a.toNat (bs [],bs [],())).1).size:Int) then c true else zd a (List.length b.2.2.2.2.1) (bif 1200<(((List.getD b.2.2.2.2.1 a.toNat (bs [],bs [],())).2.1).size:Int) then c true else d (zW zI (a+1)) b)) else e
def zs4{R:Type}(a:Bool)(b:Bool->Option R):Option R:=
 b a
def zs5{R:Type}(a:Bool->Option R):Option R:=
 a false
def uY:Nat->Int->bB->Option (Sum Bool Unit)
 |0,_,_=>none
 |k+1,v0,v1=>IA v0 v1 (fun a0=>some (.inl a0)) (fun a0 a1=>uY k a0 a1) (some (.inr ()))
def mm(a:bB):Option Bool:=
 Lk a (fun a0=>some a0) (fun a0 a1=>(uY ag a0 a1).bind fun e=>Sum.elim (fun(we:Bool)=>zs4 we (fun a0=>some a0)) (fun(we:Unit)=>zs5 (fun a0=>some a0)) e)
def Ln{R:Type}(a:aE)(b:Bool->Option R)(c:Int->aE->Option R):Option R:=
 bif 300<((List.length a.1):Int) then b true else bif 300<((List.length a.2.1):Int) then b true else c 0 a
def IC{R:Type}(a:Int)(b:aE)(c:Bool->aE->Option R)(d:Int->aE->Option R)(e:aE->Option R):Option R:=
 bif a<((List.length b.1):Int) then zd a (List.length b.1) (bif 100<(((List.getD b.1 a.toNat (bs [],bs [],())).1).size:Int) then c true b else zd a (List.length b.1) (bif 100<(((List.getD b.1 a.toNat (bs [],bs [],())).2.1).size:Int) then c true b else d (zW zI (a+1)) b)) else e b
def zs8{R:Type}(a:Bool)(b:aE)(c:Bool->Option R):Option R:=
 c a
def Lo{R:Type}(a:aE)(b:Int->aE->Option R):Option R:=
 b 0 a
def zs9{R:Type}(a:Int)(b:aE)(c:Bool->Option R)(d:Int->aE->Option R)(e:Option R):Option R:=
 bif a<((List.length b.2.1):Int) then zd a (List.length b.2.1) ((mm (List.getD b.2.1 a.toNat (0,0,0,bs [],[],()))).bind fun r1=>bif r1 then c true else d (zW zI (a+1)) b) else e
def zsa{R:Type}(a:Bool)(b:Bool->Option R):Option R:=
 b a
def zsb{R:Type}(a:Bool->Option R):Option R:=
 a false
def uZ:Nat->Int->aE->Option (Sum (Bool×aE) aE)
 |0,_,_=>none
 |k+1,v0,v1=>IC v0 v1 (fun a0 a1=>some (.inl (a0,a1))) (fun a0 a1=>uZ k a0 a1) (fun a0=>some (.inr a0))
def IB:Nat->Int->aE->Option (Sum Bool Unit)
 |0,_,_=>none
 |k+1,v0,v1=>zs9 v0 v1 (fun a0=>some (.inl a0)) (fun a0 a1=>IB k a0 a1) (some (.inr ()))
def kj(a:aE):Option Bool:=
 Ln a (fun a0=>some a0) (fun a0 a1=>(uZ ag a0 a1).bind fun e=>Sum.elim (fun(we:(Bool×aE))=>zs8 we.1 we.2 (fun a0=>some a0)) (fun(we:aE)=>Lo we (fun a0 a1=>(IB ag a0 a1).bind fun e=>Sum.elim (fun(we:Bool)=>zsa we (fun a0=>some a0)) (fun(we:Unit)=>zsb (fun a0=>some a0)) e)) e)
def Lq{R:Type}(a:aB)(b:Bool->Option R)(c:Int->aB->Option R):Option R:=
 bif 200<((List.length a.1.2.2.1):Int) then b true else bif 300<((List.length a.2.2.1):Int) then b true else bif 300<((List.length a.2.2.2.1):Int) then b true else c 0 a
def zsd{R:Type}(a:Int)(b:aB)(c:Bool->Option R)(d:Int->aB->Option R)(e:Option R):Option R:=
 bif a<((List.length b.2.2.2.1):Int) then zd a (List.length b.2.2.2.1) (bif 1200<(((List.getD b.2.2.2.1 a.toNat (0,bs [],())).2.1).size:Int) then c true else d (zW zI (a+1)) b) else e
def zse{R:Type}(a:Bool)(b:Bool->Option R):Option R:=
 b a
def zsf{R:Type}(a:Bool->Option R):Option R:=
 a false
def ID:Nat->Int->aB->Option (Sum Bool Unit)
 |0,_,_=>none
 |k+1,v0,v1=>zsd v0 v1 (fun a0=>some (.inl a0)) (fun a0 a1=>ID k a0 a1) (some (.inr ()))
def lf(a:aB):Option Bool:=
 Lq a (fun a0=>some a0) (fun a0 a1=>(ID ag a0 a1).bind fun e=>Sum.elim (fun(we:Bool)=>zse we (fun a0=>some a0)) (fun(we:Unit)=>zsf (fun a0=>some a0)) e)
def zsl{R:Type}(a:(List ByteArray))(b:(List ByteArray)->aN->Int->Option R):Option R:=
 b a [] 0
def zsm{R:Type}(a:(List ByteArray))(b:aN)(c:Int)(d:(List ByteArray)->aN->Int->Option R)(e:aN->Option R):Option R:=
 bif c<((List.length a):Int) then zd c (List.length a) (zd (zW zI (c+1)) (List.length a) (bif(List.length b+List.length ([(List.getD a c.toNat (bs []),List.getD a (zW zI (c+(1:Int))).toNat (bs []),())]:List eE))*32<=140737488355328 then d a (b++([(List.getD a c.toNat (bs []),List.getD a (zW zI (c+(1:Int))).toNat (bs []),())]:List eE)) (zW zI (c+2)) else none)) else e b
def zsn{R:Type}(a:aN)(b:aN->Option R):Option R:=
 b a
def Lw:Nat->(List ByteArray)->aN->Int->Option aN
 |0,_,_,_=>none
 |k+1,v0,v1,v2=>zsm v0 v1 v2 (fun a0 a1 a2=>Lw k a0 a1 a2) (fun a0=>some a0)
def pV(a:(List ByteArray)):Option aN:=
 zsl a (fun a0 a1 a2=>(Lw ag a0 a1 a2).bind fun e=>zsn e (fun a0=>some a0))
def zsi{R:Type}(a:cc->(List Int)->Int->Option R):Option R:=
 xS.bind fun r1=>a [] r1 0
def zsj{R:Type}(a:cc)(b:(List Int))(c:Int)(d:cc->(List Int)->Int->Option R)(e:cc->Option R):Option R:=
 bif c<((List.length b):Int) then zd c (List.length b) (bif List.getD b c.toNat 0=12 then zd c (List.length b) (zd c (List.length b) (bif(List.length a+List.length ([((4:Int),List.getD b c.toNat (0:Int),List.getD b c.toNat (0:Int),bs [],([]:List eE),())]:List bB))*64<=140737488355328 then d (a++([(4,List.getD b c.toNat 0,List.getD b c.toNat 0,bs [],[],())]:List bB)) b (zW zI (c+1)) else none)) else zd c (List.length b) (zd c (List.length b) (bif(List.length a+List.length ([((1:Int),List.getD b c.toNat (0:Int),List.getD b c.toNat (0:Int),bs [],([]:List eE),())]:List bB))*64<=140737488355328 then d (a++([(1,List.getD b c.toNat 0,List.getD b c.toNat 0,bs [],[],())]:List bB)) b (zW zI (c+1)) else none))) else e a
def zsk{R:Type}(a:cc)(b:cc->Option R):Option R:=
 b a
def Lu:Nat->cc->(List Int)->Int->Option cc
 |0,_,_,_=>none
 |k+1,v0,v1,v2=>zsj v0 v1 v2 (fun a0 a1 a2=>Lu k a0 a1 a2) (fun a0=>some a0)
def sR:Option cc:=
 zsi (fun a0 a1 a2=>(Lu ag a0 a1 a2).bind fun e=>zsk e (fun a0=>some a0))
def zsh{R:Type}(a b c:ByteArray)(d:aq->Option R):Option R:=
 d ([(0,a,()),(2,b,()),(3,b,()),(12,b,()),(9,b,()),(15,c,())]:List cR)
def sQ(a b c:ByteArray):Option aq:=
 zsh a b c (fun a0=>some a0)
def zsg{R:Type}(a:dW->Option R):Option R:=
 (pV ([(bs [48,49,48,48]),bs [49,49,48,48],bs [48,49,49,48],bs [49,49,49,48],bs [48,50,48,48],bs [49,50,48,48],bs [48,50,49,48],bs [49,50,49,48],bs [48,50,50,48],bs [49,50,50,48],bs [48,50,51,48],bs [49,50,51,48],bs [48,52,48,48],bs [49,52,48,48],bs [48,52,49,48],bs [49,52,49,48],bs [48,52,50,48],bs [49,52,50,48],bs [48,52,51,48],bs [49,52,51,48],bs [48,56,48,48],bs [49,56,48,52],bs [48,56,49,48],(bs [49,56,49,52])]:List ByteArray)).bind fun r1=>(pV ([(bs [48,53,49]),bs [53,49,48,49,48,49,53,49,49,51,52,52],bs [48,50,49],bs [50,49,48,49,48,49,50,49,49,51,52,52],bs [48,49,50],(bs [49,48,48,49,52,48,49,48,48,49,49,48])]:List ByteArray)).bind fun r2=>(pV ([(bs [48,48]),bs [48,48,48],bs [48,53],bs [49,48,48],bs [49,52],bs [49,49,49],bs [53,49],bs [49,49,54],bs [53,52],bs [49,48,49],bs [57,49],bs [57,48,55],bs [57,54],(bs [57,48,57])]:List ByteArray)).bind fun r3=>sR.bind fun r4=>bif(List.length r4+List.length ([((2:Int),(13:Int),(0:Int),bs [],([]:List eE),()),((2:Int),(18:Int),(0:Int),bs [],([]:List eE),()),((2:Int),(90:Int),(0:Int),bs [],([]:List eE),()),((5:Int),(22:Int),(22:Int),bs [],r2,()),((5:Int),(39:Int),(39:Int),bs [],r3,()),((1:Int),(43:Int),(43:Int),bs [],([]:List eE),()),((1:Int),(48:Int),(48:Int),bs [],([]:List eE),()),((3:Int),(0:Int),(26:Int),bs [53,57,57,57],([]:List eE),())]:List bB))*64<=140737488355328 then sR.bind fun r5=>(pU r2).bind fun r6=>(pU r3).bind fun r7=>bif(List.length r5+List.length ([((2:Int),(26:Int),(0:Int),bs [],([]:List eE),()),((2:Int),(43:Int),(0:Int),bs [],([]:List eE),()),((5:Int),(22:Int),(22:Int),bs [],r6,()),((5:Int),(39:Int),(39:Int),bs [],r7,()),((1:Int),(48:Int),(48:Int),bs [],([]:List eE),())]:List bB))*64<=140737488355328 then(sP (0:Int)).bind fun r8=>(sQ (bs [57,54]) (bs [51,48]) (bs [49,50])).bind fun r9=>zd 0 2 ((sP (1:Int)).bind fun ju=>(pU r1).bind fun jl=>bif(List.length ([]:List Int)+List.length ([(2:Int),(3:Int),(4:Int),(7:Int),(11:Int),(12:Int),(32:Int),(37:Int),(41:Int),(42:Int),(70:Int)]:List Int))*8<=140737488355328 then(sQ (bs [57,48,57]) (bs [57,48,52]) (bs [57,48,50])).bind fun kF=>zd 1 2 (a (List.set (List.set (List.replicate 2 ((0,0,[],()),([],[],()),[],[],())) ((0:Int)).toNat (r8,(r1,r4++([(2,13,0,bs [],[],()),(2,18,0,bs [],[],()),(2,90,0,bs [],[],()),(5,22,22,bs [],r2,()),(5,39,39,bs [],r3,()),(1,43,43,bs [],[],()),(1,48,48,bs [],[],()),(3,0,26,bs [53,57,57,57],[],())]:List bB),()),([2,3,4,7,11,12,32,37,41,42,70]:List Int),r9,())) ((1:Int)).toNat (ju,(jl,r5++([(2,26,0,bs [],[],()),(2,43,0,bs [],[],()),(5,22,22,bs [],r6,()),(5,39,39,bs [],r7,()),(1,48,48,bs [],[],())]:List bB),()),[]++([2,3,4,7,11,12,32,37,41,42,70]:List Int),kF,()),4096,())) else none) else none else none
def xW:Option dW:=
 zsg (fun a0=>some a0)
def Lr{R:Type}(a:dW)(b:Bool->Option R):Option R:=
 zd 0 2 ((lf (List.getD a.1 ((0:Int)).toNat ((0,0,[],()),([],[],()),[],[],()))).bind fun r1=>bif r1 then b true else zd 1 2 ((lf (List.getD a.1 ((1:Int)).toNat ((0,0,[],()),([],[],()),[],[],()))).bind fun r2=>bif r2 then b true else zd 0 2 ((kj (List.getD a.1 ((0:Int)).toNat ((0,0,[],()),([],[],()),[],[],())).2.1).bind fun r3=>bif r3 then b true else zd 1 2 ((kj (List.getD a.1 ((1:Int)).toNat ((0,0,[],()),([],[],()),[],[],())).2.1).bind fun r4=>b r4))))
def oq(a:dW):Option Bool:=
 Lr a (fun a0=>some a0)
def Ls{R:Type}(a:ai)(b:ByteArray)(c:ae->Bool->Option R):Option R:=
 (pT a b).bind fun r1=>bif r1.2.1=0 then(pS a r1.1).bind fun r2=>c r1.1 (decide (r2.1=0)) else c r1.1 false
def ot(a:ai)(b:ByteArray):Option (ae×Bool):=
 Ls a b (fun a0 a1=>some (a0,a1))
def LP{R:Type}(a:ByteArray)(b:Bool->Option R):Option R:=
 bif(a.size:Int)=4 then(vw a).bind fun r1=>b r1 else b false
def mu(a:ByteArray):Option Bool:=
 LP a (fun a0=>some a0)
def LQ{R:Type}(a:ByteArray)(b:Int->Bool->Option R):Option R:=
 (mu a).bind fun r1=>bif !r1 then b 0 false else zd 0 a.size (b (zW zI (zW zU (ze a ((0:Int)).toNat-48))) true)
def ic(a:ByteArray):Option (Int×Bool):=
 LQ a (fun a0 a1=>some (a0,a1))
def LN{R:Type}(a:ByteArray)(b:Bool->Option R):Option R:=
 (mu a).bind fun r1=>bif r1 then zd 2 a.size (bif ze a ((2:Int)).toNat=48 then b true else zd 2 a.size (b (decide (ze a ((2:Int)).toNat=50)))) else b false
def mr(a:ByteArray):Option Bool:=
 LN a (fun a0=>some a0)
def LO{R:Type}(a:ByteArray)(b:ByteArray->Bool->Option R):Option R:=
 (mr a).bind fun r1=>bif !r1 then b (bs []) false else bif 2<=(a.size:Int) then zd 2 a.size (bif(a.extract 0 ((2:Int)).toNat).size+(strOf ([(zW zU (ze a ((2:Int)).toNat+1))]:List Int)).size<=9223372036854775807 then bif 3<=(a.size:Int) then bif(a.extract 0 ((2:Int)).toNat++strOf ([(zW zU (ze a ((2:Int)).toNat+1))]:List Int)).size+(a.extract ((3:Int)).toNat a.size).size<=9223372036854775807 then b ((a.extract 0 ((2:Int)).toNat++strOf ([(zW zU (ze a ((2:Int)).toNat+1))]:List Int))++a.extract ((3:Int)).toNat a.size) true else none else none else none) else none
def p6(a:ByteArray):Option iO:=
 LO a (fun a0 a1=>some (a0,a1))
def LH{R:Type}(a:ae)(b:Int)(c:Int->aq->Int->Int->Option R):Option R:=
 c b a.2.1 ((List.length a.2.1):Int) 0
def zsy{R:Type}(a:Int)(b:aq)(c d:Int)(e:ByteArray->Bool->Option R)(f:Int->aq->Int->Int->Option R)(g:Option R):Option R:=
 bif d<c then zd d (List.length b) (bif(List.getD b d.toNat (0,bs [],())).1=a then e (List.getD b d.toNat (0,bs [],())).2.1 true else f a b c (zW zI (d+1))) else g
def zsz{R:Type}(a:ByteArray)(b:Bool)(c:ByteArray->Bool->Option R):Option R:=
 c a b
def zt0{R:Type}(a:ByteArray->Bool->Option R):Option R:=
 a (bs []) false
def II:Nat->Int->aq->Int->Int->Option (Sum iO Unit)
 |0,_,_,_,_=>none
 |k+1,v0,v1,v2,v3=>zsy v0 v1 v2 v3 (fun a0 a1=>some (.inl (a0,a1))) (fun a0 a1 a2 a3=>II k a0 a1 a2 a3) (some (.inr ()))
def mo(a:ae)(b:Int):Option iO:=
 LH a b (fun a0 a1 a2 a3=>(II ag a0 a1 a2 a3).bind fun e=>Sum.elim (fun(we:iO)=>zsz we.1 we.2 (fun a0 a1=>some (a0,a1))) (fun(we:Unit)=>zt0 (fun a0 a1=>some (a0,a1))) e)
def LM{R:Type}(a:ae)(b:Int)(c:Int->aq->Int->Int->ae->ae->Option R):Option R:=
 c b a.2.1 ((List.length a.2.1):Int) 0 (bs [],[],()) (a.1,[],())
def zt4{R:Type}(a:Int)(b:aq)(c d:Int)(e f:ae)(g:Int->aq->Int->Int->ae->ae->Option R)(h:ae->ae->Option R):Option R:=
 bif d<c then zd d (List.length b) (bif !decide ((List.getD b d.toNat (0,bs [],())).1=a) then bif(List.length f.2.1+List.length ([(List.getD b d.toNat ((0:Int),bs [],()))]:List cR))*24<=140737488355328 then g a b c (zW zI (d+1)) e (f.1,f.2.1++([(List.getD b d.toNat (0,bs [],()))]:List cR),()) else none else g a b c (zW zI (d+1)) e f) else h e f
def zt5{R:Type}(a b:ae)(c:ae->Option R):Option R:=
 c b
def IK:Nat->Int->aq->Int->Int->ae->ae->Option (ae×ae)
 |0,_,_,_,_,_,_=>none
 |k+1,v0,v1,v2,v3,v4,v5=>zt4 v0 v1 v2 v3 v4 v5 (fun a0 a1 a2 a3 a4 a5=>IK k a0 a1 a2 a3 a4 a5) (fun a0 a1=>some (a0,a1))
def p5(a:ae)(b:Int):Option ae:=
 LM a b (fun a0 a1 a2 a3 a4 a5=>(IK ag a0 a1 a2 a3 a4 a5).bind fun e=>zt5 e.1 e.2 (fun a0=>some a0))
def zt3{R:Type}(a:cR)(b:Int)(c:Bool->Int->Option R):Option R:=
 c (decide (b<a.1)) b
def pZ(a:cR)(b:Int):Option (Bool×Int):=
 zt3 a b (fun a0 a1=>some (a0,a1))
def Mu{R:Type}(a:aq)(b:Int)(c:aq->Int->Int->Int->Option R):Option R:=
 c a ((List.length a):Int) 0 b
def zu2{R:Type}(a:aq)(b c d:Int)(e:Int->Int->Option R)(f:aq->Int->Int->Int->Option R)(g:Int->Option R):Option R:=
 bif c<b then zd c (List.length a) ((pZ (List.getD a c.toNat (0,bs [],())) d).bind fun r1=>bif r1.1 then e c r1.2 else f a b (zW zI (c+1)) r1.2) else g d
def zu3{R:Type}(a b:Int)(c:Int->Int->Option R):Option R:=
 c a b
def zu4{R:Type}(a:Int)(b:Int->Int->Option R):Option R:=
 b (-1:Int) a
def I0:Nat->aq->Int->Int->Int->Option (Sum (Int×Int) Int)
 |0,_,_,_,_=>none
 |k+1,v0,v1,v2,v3=>zu2 v0 v1 v2 v3 (fun a0 a1=>some (.inl (a0,a1))) (fun a0 a1 a2 a3=>I0 k a0 a1 a2 a3) (fun a0=>some (.inr a0))
def qj(a:aq)(b:Int):Option (Int×Int):=
 Mu a b (fun a0 a1 a2 a3=>(I0 ag a0 a1 a2 a3).bind fun e=>Sum.elim (fun(we:(Int×Int))=>zu3 we.1 we.2 (fun a0 a1=>some (a0,a1))) (fun(we:Int)=>zu4 we (fun a0 a1=>some (a0,a1))) e)
def LK{R:Type}(a:ae)(b:Int)(c:ByteArray)(d:ae->Option R):Option R:=
 (p5 a b).bind fun r1=>(qj r1.2.1 b).bind fun r2=>bif r2.1<0 then bif zW zI (((List.length r1.2.1):Int)+1)=zW zI (((List.length r1.2.1):Int)+1) then bif 0<=zW zI (((List.length r1.2.1):Int)+1) then bif zW zI (((List.length r1.2.1):Int)+1)*24<=140737488355328 then bif 0<=((List.length r1.2.1):Int) then bif((List.length r1.2.1):Int)<=(((List.length r1.2.1):Nat):Int) then bif Nat.beq (zW zI (((List.length r1.2.1):Int)+(1:Int))).toNat (List.length (List.replicate (zW zI (((List.length r1.2.1):Int)+(1:Int))).toNat ((0:Int),bs [],()))) then zd ((List.length r1.2.1):Int) (zW zI (((List.length r1.2.1):Int)+(1:Int))).toNat (bif Nat.ble ((((List.length r1.2.1):Int)).toNat+1) (List.length (bC (List.replicate (zW zI (((List.length r1.2.1):Int)+(1:Int))).toNat ((0:Int),bs [],())) (List.take (zW zI (((List.length r1.2.1):Int)+(1:Int))).toNat (List.drop 0 (List.take (((List.length r1.2.1):Int)).toNat r1.2.1))) 0)) then bif 0<=zW zI (((List.length r1.2.1):Int)+1) then bif zW zI (((List.length r1.2.1):Int)+1)<=(((zW zI (((List.length r1.2.1):Int)+(1:Int))).toNat:Nat):Int) then bif 0<=((List.length r1.2.1):Int) then bif((List.length r1.2.1):Int)<=(((List.length r1.2.1):Nat):Int) then bif Nat.beq (zW zI (((List.length r1.2.1):Int)+(1:Int))).toNat (List.length (List.set (bC (List.replicate (zW zI (((List.length r1.2.1):Int)+(1:Int))).toNat ((0:Int),bs [],())) (List.take (zW zI (((List.length r1.2.1):Int)+(1:Int))).toNat (List.drop 0 (List.take (((List.length r1.2.1):Int)).toNat r1.2.1))) 0) (((List.length r1.2.1):Int)).toNat (r2.2,c,()))) then bif Nat.ble (zW zI (((List.length r1.2.1):Int)+(1:Int))).toNat (zW zI (((List.length r1.2.1):Int)+(1:Int))).toNat then bif Nat.beq (zW zI (((List.length r1.2.1):Int)+(1:Int))).toNat (List.length (bC (List.set (bC (List.replicate (zW zI (((List.length r1.2.1):Int)+(1:Int))).toNat ((0:Int),bs [],())) (List.take (zW zI (((List.length r1.2.1):Int)+(1:Int))).toNat (List.drop 0 (List.take (((List.length r1.2.1):Int)).toNat r1.2.1))) 0) (((List.length r1.2.1):Int)).toNat (r2.2,c,())) (List.take ((zW zI (((List.length r1.2.1):Int)+(1:Int))).toNat-(zW zI (((List.length r1.2.1):Int)+(1:Int))).toNat) (List.drop (((List.length r1.2.1):Int)).toNat (List.take (List.length r1.2.1) r1.2.1))) (zW zI (((List.length r1.2.1):Int)+(1:Int))).toNat)) then d (a.1,bC (List.set (bC (List.replicate (zW zI (((List.length r1.2.1):Int)+(1:Int))).toNat (0,bs [],())) (List.take (zW zI (((List.length r1.2.1):Int)+(1:Int))).toNat (List.drop 0 (List.take (((List.length r1.2.1):Int)).toNat r1.2.1))) 0) (((List.length r1.2.1):Int)).toNat (r2.2,c,())) (List.take ((zW zI (((List.length r1.2.1):Int)+(1:Int))).toNat-(zW zI (((List.length r1.2.1):Int)+(1:Int))).toNat) (List.drop (((List.length r1.2.1):Int)).toNat (List.take (List.length r1.2.1) r1.2.1))) (zW zI (((List.length r1.2.1):Int)+(1:Int))).toNat,()) else none else none else none else none else none else none else none else none) else none else none else none else none else none else none else bif zW zI (((List.length r1.2.1):Int)+1)=zW zI (((List.length r1.2.1):Int)+1) then bif 0<=zW zI (((List.length r1.2.1):Int)+1) then bif zW zI (((List.length r1.2.1):Int)+1)*24<=140737488355328 then bif 0<=r2.1 then bif r2.1<=(((List.length r1.2.1):Nat):Int) then bif Nat.beq (zW zI (((List.length r1.2.1):Int)+(1:Int))).toNat (List.length (List.replicate (zW zI (((List.length r1.2.1):Int)+(1:Int))).toNat ((0:Int),bs [],()))) then zd r2.1 (zW zI (((List.length r1.2.1):Int)+(1:Int))).toNat (bif Nat.ble (r2.1.toNat+1) (List.length (bC (List.replicate (zW zI (((List.length r1.2.1):Int)+(1:Int))).toNat ((0:Int),bs [],())) (List.take (zW zI (((List.length r1.2.1):Int)+(1:Int))).toNat (List.drop 0 (List.take r2.1.toNat r1.2.1))) 0)) then bif 0<=zW zI (r2.1+1) then bif zW zI (r2.1+1)<=(((zW zI (((List.length r1.2.1):Int)+(1:Int))).toNat:Nat):Int) then bif 0<=r2.1 then bif r2.1<=(((List.length r1.2.1):Nat):Int) then bif Nat.beq (zW zI (((List.length r1.2.1):Int)+(1:Int))).toNat (List.length (List.set (bC (List.replicate (zW zI (((List.length r1.2.1):Int)+(1:Int))).toNat ((0:Int),bs [],())) (List.take (zW zI (((List.length r1.2.1):Int)+(1:Int))).toNat (List.drop 0 (List.take r2.1.toNat r1.2.1))) 0) r2.1.toNat (r2.2,c,()))) then bif Nat.ble (zW zI (r2.1+(1:Int))).toNat (zW zI (((List.length r1.2.1):Int)+(1:Int))).toNat then bif Nat.beq (zW zI (((List.length r1.2.1):Int)+(1:Int))).toNat (List.length (bC (List.set (bC (List.replicate (zW zI (((List.length r1.2.1):Int)+(1:Int))).toNat ((0:Int),bs [],())) (List.take (zW zI (((List.length r1.2.1):Int)+(1:Int))).toNat (List.drop 0 (List.take r2.1.toNat r1.2.1))) 0) r2.1.toNat (r2.2,c,())) (List.take ((zW zI (((List.length r1.2.1):Int)+(1:Int))).toNat-(zW zI (r2.1+(1:Int))).toNat) (List.drop r2.1.toNat (List.take (List.length r1.2.1) r1.2.1))) (zW zI (r2.1+(1:Int))).toNat)) then d (a.1,bC (List.set (bC (List.replicate (zW zI (((List.length r1.2.1):Int)+(1:Int))).toNat (0,bs [],())) (List.take (zW zI (((List.length r1.2.1):Int)+(1:Int))).toNat (List.drop 0 (List.take r2.1.toNat r1.2.1))) 0) r2.1.toNat (r2.2,c,())) (List.take ((zW zI (((List.length r1.2.1):Int)+(1:Int))).toNat-(zW zI (r2.1+(1:Int))).toNat) (List.drop r2.1.toNat (List.take (List.length r1.2.1) r1.2.1))) (zW zI (r2.1+(1:Int))).toNat,()) else none else none else none else none else none else none else none else none) else none else none else none else none else none else none
def fX(a:ae)(b:Int)(c:ByteArray):Option ae:=
 LK a b c (fun a0=>some a0)
def LF{R:Type}(a:ai)(b:ae)(c:aw->Option R)(d:Int->aq->Int->Int->ai->aw->Option R):Option R:=
 (lk a).bind fun r1=>bif !decide (r1.1=0) then c (1,(-1:Int),()) else(ic b.1).bind fun r2=>bif !r2.2 then c (7,0,()) else bif !decide (r2.1=a.2.1) then c (7,0,()) else d 0 b.2.1 ((List.length b.2.1):Int) 0 a (0,0,())
def zsu{R:Type}(a:Int)(b:aq)(c d:Int)(e:ai)(f:aw)(g:aw->Option R)(h:Int->aq->Int->Int->ai->aw->Option R)(i:aw->Option R):Option R:=
 bif d<c then zd d (List.length b) (bif(List.getD b d.toNat (0,bs [],())).1<=a then g (11,(List.getD b d.toNat (0,bs [],())).1,()) else(eD e (List.getD b d.toNat (0,bs [],())).1).bind fun r3=>bif !r3.2 then g (9,(List.getD b d.toNat (0,bs [],())).1,()) else(bz r3.1 (List.getD b d.toNat (0,bs [],())).2.1).bind fun r4=>bif !decide (r4=0) then g (r4,(List.getD b d.toNat (0,bs [],())).1,()) else h (List.getD b d.toNat (0,bs [],())).1 b c (zW zI (d+1)) e f) else i f
def zsv{R:Type}(a:aw)(b:aw->Option R):Option R:=
 b a
def zsw{R:Type}(a:aw)(b:aw->Option R):Option R:=
 b (0,0,())
def IG:Nat->Int->aq->Int->Int->ai->aw->Option (Sum aw aw)
 |0,_,_,_,_,_,_=>none
 |k+1,v0,v1,v2,v3,v4,v5=>zsu v0 v1 v2 v3 v4 v5 (fun a0=>some (.inl a0)) (fun a0 a1 a2 a3 a4 a5=>IG k a0 a1 a2 a3 a4 a5) (fun a0=>some (.inr a0))
def ou(a:ai)(b:ae):Option aw:=
 LF a b (fun a0=>some a0) (fun a0 a1 a2 a3 a4 a5=>(IG ag a0 a1 a2 a3 a4 a5).bind fun e=>Sum.elim (fun(we:aw)=>zsv we (fun a0=>some a0)) (fun(we:aw)=>zsw we (fun a0=>some a0)) e)
def LJ{R:Type}(a:ae)(b:aq->Int->Int->aw->aw->Option R):Option R:=
 b a.2.1 ((List.length a.2.1):Int) 0 (0,0,()) (0,0,())
def zt1{R:Type}(a:aq)(b c:Int)(d e:aw)(f:aq->Int->Int->aw->aw->Option R)(g:aw->aw->Option R):Option R:=
 bif c<b then zd c (List.length a) ((vB e (List.getD a c.toNat (0,bs [],())).1).bind fun r1=>f a b (zW zI (c+1)) d r1) else g d e
def zt2{R:Type}(a b:aw)(c:aw->Option R):Option R:=
 c b
def IJ:Nat->aq->Int->Int->aw->aw->Option (aw×aw)
 |0,_,_,_,_,_=>none
 |k+1,v0,v1,v2,v3,v4=>zt1 v0 v1 v2 v3 v4 (fun a0 a1 a2 a3 a4=>IJ k a0 a1 a2 a3 a4) (fun a0 a1=>some (a0,a1))
def pY(a:ae):Option aw:=
 LJ a (fun a0 a1 a2 a3 a4=>(IJ ag a0 a1 a2 a3 a4).bind fun e=>zt2 e.1 e.2 (fun a0=>some a0))
def Mh{R:Type}(a:bB)(b c:ai)(d:aj->aj->Int->Option R):Option R:=
 (eD b a.2.1).bind fun r1=>(eD c a.2.2.1).bind fun r2=>bif a.1=3 then bif a.1=2 then bif !decide (a.2.1=0) then d r1.1 r2.1 9 else bif !decide (a.2.2.1=0) then d r1.1 r2.1 9 else d r1.1 r2.1 0 else bif !decide (a.2.1=0) then d r1.1 r2.1 9 else bif !r2.2 then d r1.1 r2.1 9 else d r1.1 r2.1 0 else bif a.1=2 then bif !r1.2 then d r1.1 r2.1 9 else bif !decide (a.2.2.1=0) then d r1.1 r2.1 9 else d r1.1 r2.1 0 else bif !r1.2 then d r1.1 r2.1 9 else bif !r2.2 then d r1.1 r2.1 9 else d r1.1 r2.1 0
def qg(a:bB)(b c:ai):Option (aj×aj×Int):=
 Mh a b c (fun a0 a1 a2=>some (a0,a1,a2))
def Mi{R:Type}(a:aj)(b:Bool->Option R):Option R:=
 bif a.2.1=1 then b (decide (a.2.2.1=1)) else b false
def ig(a:aj):Option Bool:=
 Mi a (fun a0=>some a0)
def Mk{R:Type}(a:aN)(b c:aj)(d:Int->Option R)(e:aN->Int->Int->aj->aj->Option R):Option R:=
 (CD a).bind fun r1=>bif !decide (r1.1=0) then d 15 else bif((List.length a):Int)=0 then d 15 else e a ((List.length a):Int) 0 b c
def ztp{R:Type}(a:aN)(b c:Int)(d e:aj)(f:Int->Option R)(g:aN->Int->Int->aj->aj->Option R)(h:Option R):Option R:=
 bif c<b then zd c (List.length a) ((bz d (List.getD a c.toNat (bs [],bs [],())).1).bind fun r2=>bif !decide (r2=0) then f r2 else(bz e (List.getD a c.toNat (bs [],bs [],())).2.1).bind fun r3=>bif !decide (r3=0) then f r3 else g a b (zW zI (c+1)) d e) else h
def ztq{R:Type}(a:Int)(b:Int->Option R):Option R:=
 b a
def ztr{R:Type}(a:Int->Option R):Option R:=
 a 0
def IW:Nat->aN->Int->Int->aj->aj->Option (Sum Int Unit)
 |0,_,_,_,_,_=>none
 |k+1,v0,v1,v2,v3,v4=>ztp v0 v1 v2 v3 v4 (fun a0=>some (.inl a0)) (fun a0 a1 a2 a3 a4=>IW k a0 a1 a2 a3 a4) (some (.inr ()))
def lj(a:aN)(b c:aj):Option Int:=
 Mk a b c (fun a0=>some a0) (fun a0 a1 a2 a3 a4=>(IW ag a0 a1 a2 a3 a4).bind fun e=>Sum.elim (fun(we:Int)=>ztq we (fun a0=>some a0)) (fun(we:Unit)=>ztr (fun a0=>some a0)) e)
def Mg{R:Type}(a:bB)(b c:ai)(d:Int->Option R):Option R:=
 bif a.1<1 then d 1 else bif 5<a.1 then d 1 else(qg a b c).bind fun r1=>bif !decide (r1.2.2=0) then d r1.2.2 else bif !decide (a.2.2.2.1=bs []) then bif !decide (a.1=3) then d 3 else bif 0<((List.length a.2.2.2.2.1):Int) then bif !decide (a.1=5) then d 3 else bif a.1=1 then(km r1.2.1 r1.1).bind fun r2=>bif !r2 then d 6 else d 0 else bif a.1=3 then(bz r1.2.1 a.2.2.2.1).bind fun r3=>d r3 else bif a.1=4 then(ig r1.1).bind fun r4=>bif !r4 then d 6 else(ig r1.2.1).bind fun r5=>bif !r5 then d 6 else d 0 else bif a.1=5 then(lj a.2.2.2.2.1 r1.1 r1.2.1).bind fun r6=>d r6 else d 0 else bif a.1=1 then(km r1.2.1 r1.1).bind fun r7=>bif !r7 then d 6 else d 0 else bif a.1=3 then(bz r1.2.1 a.2.2.2.1).bind fun r8=>d r8 else bif a.1=4 then(ig r1.1).bind fun r9=>bif !r9 then d 6 else(ig r1.2.1).bind fun ju=>bif !ju then d 6 else d 0 else bif a.1=5 then(lj a.2.2.2.2.1 r1.1 r1.2.1).bind fun jl=>d jl else d 0 else bif 0<((List.length a.2.2.2.2.1):Int) then bif !decide (a.1=5) then d 3 else bif a.1=1 then(km r1.2.1 r1.1).bind fun kF=>bif !kF then d 6 else d 0 else bif a.1=3 then(bz r1.2.1 a.2.2.2.1).bind fun jm=>d jm else bif a.1=4 then(ig r1.1).bind fun sm=>bif !sm then d 6 else(ig r1.2.1).bind fun uD=>bif !uD then d 6 else d 0 else bif a.1=5 then(lj a.2.2.2.2.1 r1.1 r1.2.1).bind fun yZ=>d yZ else d 0 else bif a.1=1 then(km r1.2.1 r1.1).bind fun zA=>bif !zA then d 6 else d 0 else bif a.1=3 then(bz r1.2.1 a.2.2.2.1).bind fun zB=>d zB else bif a.1=4 then(ig r1.1).bind fun rG=>bif !rG then d 6 else(ig r1.2.1).bind fun zE=>bif !zE then d 6 else d 0 else bif a.1=5 then(lj a.2.2.2.2.1 r1.1 r1.2.1).bind fun uE=>d uE else d 0
def my(a:bB)(b c:ai):Option Int:=
 Mg a b c (fun a0=>some a0)
def Mf{R:Type}(a:bB)(b:ai)(c:ByteArray)(d:cR->Int->Option R):Option R:=
 bif a.1=1 then d (a.2.2.1,c,()) 0 else bif a.1=2 then d (0,bs [],()) 0 else bif a.1=3 then d (a.2.2.1,a.2.2.2.1,()) 0 else bif a.1=4 then(eD b a.2.2.1).bind fun r1=>bif !r1.2 then d (0,bs [],()) 9 else(CE c r1.1.2.2.2.1).bind fun r2=>bif !r2.2 then d (0,bs [],()) 5 else d (a.2.2.1,r2.1,()) 0 else bif a.1=5 then(CC a.2.2.2.2.1 c).bind fun r3=>bif !r3.2 then d (0,bs [],()) 15 else d (a.2.2.1,r3.1,()) 0 else d (0,bs [],()) 1
def mw(a:bB)(b:ai)(c:ByteArray):Option (cR×Int):=
 Mf a b c (fun a0 a1=>some (a0,a1))
def Nd{R:Type}(a:eE)(b c:ai)(d:Bool->Option R):Option R:=
 (ic a.1).bind fun r1=>(ic a.2.1).bind fun r2=>bif r1.2 then bif r2.2 then bif r1.1=b.2.1 then bif r2.1=c.2.1 then(mr a.1).bind fun r3=>(mr a.2.1).bind fun r4=>d (r3==r4) else d false else d false else d false else d false
def mC(a:eE)(b c:ai):Option Bool:=
 Nd a b c (fun a0=>some a0)
def M0{R:Type}(a:aE)(b c:ai)(d:mF->Int->Int->aE->ai->ai->Option R):Option R:=
 d ([b,c]:List ai) ((List.length ([b,c]:List ai)):Int) 0 a b c
def M1{R:Type}(a:mF)(b c:Int)(d:aE)(e f:ai)(g:Int->Int->Int->aE->ai->ai->Option R)(h:mF->Int->Int->aE->ai->ai->Option R)(i:aE->ai->ai->Option R):Option R:=
 bif c<b then zd c (List.length a) ((lk (List.getD a c.toNat (0,0,[],()))).bind fun r1=>bif !decide (r1.1=0) then g 1 1 c d e f else h a b (zW zI (c+1)) d e f) else i d e f
def zul{R:Type}(a b c:Int)(d:aE)(e f:ai)(g:Int->Int->Int->Option R):Option R:=
 g a b c
def M3{R:Type}(a:aE)(b c:ai)(d:Int->Int->Int->Option R)(e:aN->Int->Int->aE->ai->ai->fZ->Option R):Option R:=
 bif 256<((List.length a.1):Int) then d 5 2 256 else e a.1 ((List.length a.1):Int) 0 a b c []
def zum{R:Type}(a:aN)(b c:Int)(d:aE)(e f:ai)(g:fZ)(h:Int->Int->Int->aE->ai->ai->Option R)(i:aN->Int->Int->aE->ai->ai->fZ->Option R)(j:aE->ai->ai->Option R):Option R:=
 bif c<b then zd c (List.length a) ((mC (List.getD a c.toNat (bs [],bs [],())) e f).bind fun r2=>bif !r2 then h 7 2 c d e f else bif dR (eU .str) false g (List.getD a c.toNat (bs [],bs [],())).1 then h 10 2 c d e f else bif dS (eU .str) g (List.getD a c.toNat (bs [],bs [],())).1 then none else i a b (zW zI (c+1)) d e f (g++ [((List.getD a c.toNat (bs [],bs [],())).1,true)])) else j d e f
def zun{R:Type}(a b c:Int)(d:aE)(e f:ai)(g:Int->Int->Int->Option R):Option R:=
 g a b c
def M4{R:Type}(a:aE)(b c:ai)(d:Int->Int->Int->Option R)(e:cc->Int->Int->ai->ai->aw->aw->Option R):Option R:=
 bif 256<((List.length a.2.1):Int) then d 5 3 256 else e a.2.1 ((List.length a.2.1):Int) 0 b c (0,0,()) (0,0,())
def zuo{R:Type}(a:cc)(b c:Int)(d e:ai)(f g:aw)(h:Int->Int->Int->Option R)(i:cc->Int->Int->ai->ai->aw->aw->Option R)(j:Option R):Option R:=
 bif c<b then zd c (List.length a) ((my (List.getD a c.toNat (0,0,0,bs [],[],())) d e).bind fun r3=>bif !decide (r3=0) then h r3 3 c else(sc ([(List.getD a c.toNat (0,0,0,bs [],[],())).2.1]:List Int)).bind fun r4=>(sc ([(List.getD a c.toNat (0,0,0,bs [],[],())).2.2.1]:List Int)).bind fun r5=>(pB f r4).bind fun r6=>bif !(decide (r6.1=0)&&(decide (r6.2.1=0)&&true)) then h 10 3 c else(pB g r5).bind fun r7=>bif !(decide (r7.1=0)&&(decide (r7.2.1=0)&&true)) then h 10 3 c else(qu f r4).bind fun r8=>(qu g r5).bind fun r9=>i a b (zW zI (c+1)) d e r8 r9) else j
def zup{R:Type}(a b c:Int)(d:Int->Int->Int->Option R):Option R:=
 d a b c
def zuq{R:Type}(a:Int->Int->Int->Option R):Option R:=
 a 0 0 0
def BJ:Nat->mF->Int->Int->aE->ai->ai->Option (Sum oO oN)
 |0,_,_,_,_,_,_=>none
 |k+1,v0,v1,v2,v3,v4,v5=>M1 v0 v1 v2 v3 v4 v5 (fun a0 a1 a2 a3 a4 a5=>some (.inl (a0,a1,a2,a3,a4,a5))) (fun a0 a1 a2 a3 a4 a5=>BJ k a0 a1 a2 a3 a4 a5) (fun a0 a1 a2=>some (.inr (a0,a1,a2)))
def BK:Nat->aN->Int->Int->aE->ai->ai->fZ->Option (Sum oO oN)
 |0,_,_,_,_,_,_,_=>none
 |k+1,v0,v1,v2,v3,v4,v5,v6=>zum v0 v1 v2 v3 v4 v5 v6 (fun a0 a1 a2 a3 a4 a5=>some (.inl (a0,a1,a2,a3,a4,a5))) (fun a0 a1 a2 a3 a4 a5 a6=>BK k a0 a1 a2 a3 a4 a5 a6) (fun a0 a1 a2=>some (.inr (a0,a1,a2)))
def I4:Nat->cc->Int->Int->ai->ai->aw->aw->Option (Sum lr Unit)
 |0,_,_,_,_,_,_,_=>none
 |k+1,v0,v1,v2,v3,v4,v5,v6=>zuo v0 v1 v2 v3 v4 v5 v6 (fun a0 a1 a2=>some (.inl (a0,a1,a2))) (fun a0 a1 a2 a3 a4 a5 a6=>I4 k a0 a1 a2 a3 a4 a5 a6) (some (.inr ()))
def oG(a:aE)(b c:ai):Option lr:=
 M0 a b c (fun a0 a1 a2 a3 a4 a5=>(BJ ag a0 a1 a2 a3 a4 a5).bind fun e=>Sum.elim (fun(we:oO)=>zul we.1 we.2.1 we.2.2.1 we.2.2.2.1 we.2.2.2.2.1 we.2.2.2.2.2 (fun a0 a1 a2=>some (a0,a1,a2))) (fun(we:oN)=>M3 we.1 we.2.1 we.2.2 (fun a0 a1 a2=>some (a0,a1,a2)) (fun a0 a1 a2 a3 a4 a5 a6=>(BK ag a0 a1 a2 a3 a4 a5 a6).bind fun e=>Sum.elim (fun(we:oO)=>zun we.1 we.2.1 we.2.2.1 we.2.2.2.1 we.2.2.2.2.1 we.2.2.2.2.2 (fun a0 a1 a2=>some (a0,a1,a2))) (fun(we:oN)=>M4 we.1 we.2.1 we.2.2 (fun a0 a1 a2=>some (a0,a1,a2)) (fun a0 a1 a2 a3 a4 a5 a6=>(I4 ag a0 a1 a2 a3 a4 a5 a6).bind fun e=>Sum.elim (fun(we:lr)=>zup we.1 we.2.1 we.2.2 (fun a0 a1 a2=>some (a0,a1,a2))) (fun(we:Unit)=>zuq (fun a0 a1 a2=>some (a0,a1,a2))) e)) e)) e)
def Nc{R:Type}(a:aE)(b:ByteArray)(c:ByteArray->aN->Int->Int->Option R):Option R:=
 c b a.1 ((List.length a.1):Int) 0
def zv1{R:Type}(a:ByteArray)(b:aN)(c d:Int)(e:ByteArray->Bool->Option R)(f:ByteArray->aN->Int->Int->Option R)(g:Option R):Option R:=
 bif d<c then zd d (List.length b) (bif(List.getD b d.toNat (bs [],bs [],())).1=a then e (List.getD b d.toNat (bs [],bs [],())).2.1 true else f a b c (zW zI (d+1))) else g
def zv2{R:Type}(a:ByteArray)(b:Bool)(c:ByteArray->Bool->Option R):Option R:=
 c a b
def zv3{R:Type}(a:ByteArray->Bool->Option R):Option R:=
 a (bs []) false
def I8:Nat->ByteArray->aN->Int->Int->Option (Sum iO Unit)
 |0,_,_,_,_=>none
 |k+1,v0,v1,v2,v3=>zv1 v0 v1 v2 v3 (fun a0 a1=>some (.inl (a0,a1))) (fun a0 a1 a2 a3=>I8 k a0 a1 a2 a3) (some (.inr ()))
def qt(a:aE)(b:ByteArray):Option iO:=
 Nc a b (fun a0 a1 a2 a3=>(I8 ag a0 a1 a2 a3).bind fun e=>Sum.elim (fun(we:iO)=>zv2 we.1 we.2 (fun a0 a1=>some (a0,a1))) (fun(we:Unit)=>zv3 (fun a0 a1=>some (a0,a1))) e)
def Na{R:Type}(a:aE)(b:Int)(c:Int->cc->Int->Int->bB->Option R):Option R:=
 c b a.2.1 ((List.length a.2.1):Int) 0 (0,0,0,bs [],[],())
def zux{R:Type}(a:Int)(b:cc)(c d:Int)(e:bB)(f:Bool->bB->Option R)(g:Int->cc->Int->Int->bB->Option R)(h:bB->Option R):Option R:=
 bif d<c then zd d (List.length b) (bif(List.getD b d.toNat (0,0,0,bs [],[],())).2.1=a then f true (List.getD b d.toNat (0,0,0,bs [],[],())) else g a b c (zW zI (d+1)) e) else h e
def zuy{R:Type}(a:Bool)(b:bB)(c:bB->Bool->Option R):Option R:=
 c b a
def zuz{R:Type}(a:bB)(b:bB->Bool->Option R):Option R:=
 b (0,0,0,bs [],[],()) false
def I7:Nat->Int->cc->Int->Int->bB->Option (Sum (Bool×bB) bB)
 |0,_,_,_,_,_=>none
 |k+1,v0,v1,v2,v3,v4=>zux v0 v1 v2 v3 v4 (fun a0 a1=>some (.inl (a0,a1))) (fun a0 a1 a2 a3 a4=>I7 k a0 a1 a2 a3 a4) (fun a0=>some (.inr a0))
def mB(a:aE)(b:Int):Option (bB×Bool):=
 Na a b (fun a0 a1 a2 a3 a4=>(I7 ag a0 a1 a2 a3 a4).bind fun e=>Sum.elim (fun(we:(Bool×bB))=>zuy we.1 we.2 (fun a0 a1=>some (a0,a1))) (fun(we:bB)=>zuz we (fun a0 a1=>some (a0,a1))) e)
def M7{R:Type}(a:aE)(b c:ai)(d:ae)(e:ae->aw->Option R)(f:cc->Int->Int->aE->ai->ae->ae->aw->ae->Option R):Option R:=
 (oG a b c).bind fun r1=>bif !decide (r1.1=0) then e (bs [],[],()) (1,(-1:Int),()) else(ou b d).bind fun r2=>bif !decide (r2.1=0) then e (bs [],[],()) r2 else(qt a d.1).bind fun r3=>bif !r3.2 then e (bs [],[],()) (7,0,()) else f a.2.1 ((List.length a.2.1):Int) 0 a c d (bs [],[],()) (0,0,()) (r3.1,[],())
def zus{R:Type}(a:cc)(b c:Int)(d:aE)(e:ai)(f g:ae)(h:aw)(i:ae)(j:cc->Int->Int->aE->ai->ae->ae->aw->ae->Option R)(l:aE->ai->ae->ae->aw->ae->Option R):Option R:=
 bif c<b then zd c (List.length a) (bif(List.getD a c.toNat (0,0,0,bs [],[],())).1=3 then(fX i (List.getD a c.toNat (0,0,0,bs [],[],())).2.2.1 (List.getD a c.toNat (0,0,0,bs [],[],())).2.2.2.1).bind fun r4=>j a b (zW zI (c+1)) d e f g h r4 else j a b (zW zI (c+1)) d e f g h i) else l d e f g h i
def M8{R:Type}(a:aE)(b:ai)(c d:ae)(e:aw)(f:ae)(g:aq->Int->Int->aE->ai->ae->aw->ae->Option R):Option R:=
 g c.2.1 ((List.length c.2.1):Int) 0 a b d e f
def zut{R:Type}(a:aq)(b c:Int)(d:aE)(e:ai)(f:ae)(g:aw)(h:ae)(i:ae->aw->ae->Option R)(j:aq->Int->Int->aE->ai->ae->aw->ae->Option R)(l:ae->aw->ae->Option R):Option R:=
 bif c<b then zd c (List.length a) ((mB d (List.getD a c.toNat (0,bs [],())).1).bind fun r5=>bif !r5.2 then i (bs [],[],()) (9,(List.getD a c.toNat (0,bs [],())).1,()) h else(mw r5.1 e (List.getD a c.toNat (0,bs [],())).2.1).bind fun r6=>bif !decide (r6.2=0) then i (bs [],[],()) (r6.2,(List.getD a c.toNat (0,bs [],())).1,()) h else bif !decide (r6.1.1=0) then(fX h r6.1.1 r6.1.2.1).bind fun r7=>j a b (zW zI (c+1)) d e f g r7 else j a b (zW zI (c+1)) d e f g h) else l f g h
def zuu{R:Type}(a:ae)(b:aw)(c:ae)(d:ae->aw->Option R):Option R:=
 d a b
def zuv{R:Type}(a:ae)(b:aw)(c:ae)(d:ae->aw->Option R):Option R:=
 d c (0,0,())
def I5:Nat->cc->Int->Int->aE->ai->ae->ae->aw->ae->Option (aE×ai×ae×ae×aw×ae)
 |0,_,_,_,_,_,_,_,_,_=>none
 |k+1,v0,v1,v2,v3,v4,v5,v6,v7,v8=>zus v0 v1 v2 v3 v4 v5 v6 v7 v8 (fun a0 a1 a2 a3 a4 a5 a6 a7 a8=>I5 k a0 a1 a2 a3 a4 a5 a6 a7 a8) (fun a0 a1 a2 a3 a4 a5=>some (a0,a1,a2,a3,a4,a5))
def I6:Nat->aq->Int->Int->aE->ai->ae->aw->ae->Option (Sum oM oM)
 |0,_,_,_,_,_,_,_,_=>none
 |k+1,v0,v1,v2,v3,v4,v5,v6,v7=>zut v0 v1 v2 v3 v4 v5 v6 v7 (fun a0 a1 a2=>some (.inl (a0,a1,a2))) (fun a0 a1 a2 a3 a4 a5 a6 a7=>I6 k a0 a1 a2 a3 a4 a5 a6 a7) (fun a0 a1 a2=>some (.inr (a0,a1,a2)))
def oH(a:aE)(b c:ai)(d:ae):Option (ae×aw):=
 M7 a b c d (fun a0 a1=>some (a0,a1)) (fun a0 a1 a2 a3 a4 a5 a6 a7 a8=>(I5 ag a0 a1 a2 a3 a4 a5 a6 a7 a8).bind fun e=>M8 e.1 e.2.1 e.2.2.1 e.2.2.2.1 e.2.2.2.2.1 e.2.2.2.2.2 (fun a0 a1 a2 a3 a4 a5 a6 a7=>(I6 ag a0 a1 a2 a3 a4 a5 a6 a7).bind fun e=>Sum.elim (fun(we:oM)=>zuu we.1 we.2.1 we.2.2 (fun a0 a1=>some (a0,a1))) (fun(we:oM)=>zuv we.1 we.2.1 we.2.2 (fun a0 a1=>some (a0,a1))) e))
def Mw{R:Type}(a:(List Int))(b:Int)(c:(List Int)->Int->Int->Int->Option R):Option R:=
 c a b ((List.length a):Int) 0
def zu6{R:Type}(a:(List Int))(b c d:Int)(e:Int->Option R)(f:(List Int)->Int->Int->Int->Option R)(g:Option R):Option R:=
 bif d<c then zd d (List.length a) (bif b=List.getD a d.toNat 0 then e d else f a b c (zW zI (d+1))) else g
def zu7{R:Type}(a:Int)(b:Int->Option R):Option R:=
 b a
def zu8{R:Type}(a:Int->Option R):Option R:=
 a (-1:Int)
def I1:Nat->(List Int)->Int->Int->Int->Option (Sum Int Unit)
 |0,_,_,_,_=>none
 |k+1,v0,v1,v2,v3=>zu6 v0 v1 v2 v3 (fun a0=>some (.inl a0)) (fun a0 a1 a2 a3=>I1 k a0 a1 a2 a3) (some (.inr ()))
def sU(a:(List Int))(b:Int):Option Int:=
 Mw a b (fun a0 a1 a2 a3=>(I1 ag a0 a1 a2 a3).bind fun e=>Sum.elim (fun(we:Int)=>zu7 we (fun a0=>some a0)) (fun(we:Unit)=>zu8 (fun a0=>some a0)) e)
def Mq{R:Type}(a:(List Int))(b:Int)(c:Bool->Option R):Option R:=
 (sU a b).bind fun r1=>c (decide (0<=r1))
def qi(a:(List Int))(b:Int):Option Bool:=
 Mq a b (fun a0=>some a0)
def Ma{R:Type}(a:aB)(b:Int)(c:Int->Option R):Option R:=
 zd b (List.length a.2.2.1) ((eD a.1 (List.getD a.2.2.1 b.toNat (0:Int))).bind fun r1=>bif !r1.2 then c 9 else bif List.getD a.2.2.1 b.toNat 0=39 then c 1 else bif 0<=b then bif b<=(((List.length a.2.2.1):Nat):Int) then(qi (List.drop 0 (List.take b.toNat a.2.2.1)) (List.getD a.2.2.1 b.toNat (0:Int))).bind fun r2=>bif r2 then c 10 else c 0 else none else none)
def qc(a:aB)(b:Int):Option Int:=
 Ma a b (fun a0=>some a0)
def L9{R:Type}(a b:cR)(c:Bool->cR->Option R):Option R:=
 c (decide (a.1=b.1)) b
def oD(a b:cR):Option (Bool×cR):=
 L9 a b (fun a0 a1=>some (a0,a1))
def Ms{R:Type}(a:aq)(b:cR)(c:aq->Int->Int->cR->Option R):Option R:=
 c a ((List.length a):Int) 0 b
def zty{R:Type}(a:aq)(b c:Int)(d:cR)(e:Int->cR->Option R)(f:aq->Int->Int->cR->Option R)(g:cR->Option R):Option R:=
 bif c<b then zd c (List.length a) ((oD (List.getD a c.toNat (0,bs [],())) d).bind fun r1=>bif r1.1 then e c r1.2 else f a b (zW zI (c+1)) r1.2) else g d
def ztz{R:Type}(a:Int)(b:cR)(c:Int->cR->Option R):Option R:=
 c a b
def zu0{R:Type}(a:cR)(b:Int->cR->Option R):Option R:=
 b (-1:Int) a
def IZ:Nat->aq->Int->Int->cR->Option (Sum (Int×cR) cR)
 |0,_,_,_,_=>none
 |k+1,v0,v1,v2,v3=>zty v0 v1 v2 v3 (fun a0 a1=>some (.inl (a0,a1))) (fun a0 a1 a2 a3=>IZ k a0 a1 a2 a3) (fun a0=>some (.inr a0))
def sT(a:aq)(b:cR):Option (Int×cR):=
 Ms a b (fun a0 a1 a2 a3=>(IZ ag a0 a1 a2 a3).bind fun e=>Sum.elim (fun(we:(Int×cR))=>ztz we.1 we.2 (fun a0 a1=>some (a0,a1))) (fun(we:cR)=>zu0 we (fun a0 a1=>some (a0,a1))) e)
def Mp{R:Type}(a:aq)(b:cR)(c:Bool->cR->Option R):Option R:=
 (sT a b).bind fun r1=>c (decide (0<=r1.1)) r1.2
def qh(a:aq)(b:cR):Option (Bool×cR):=
 Mp a b (fun a0 a1=>some (a0,a1))
def L8{R:Type}(a:aB)(b:Int)(c:aj)(d:Int->Option R):Option R:=
 zd b (List.length a.2.2.2.1) (bif(List.getD a.2.2.2.1 b.toNat (0,bs [],())).1<0 then d 1 else bif 16<(List.getD a.2.2.2.1 b.toNat (0,bs [],())).1 then d 1 else bif 0<=b then bif b<=(((List.length a.2.2.2.1):Nat):Int) then(qh (List.drop 0 (List.take b.toNat a.2.2.2.1)) (List.getD a.2.2.2.1 b.toNat (0,bs [],()))).bind fun r1=>bif r1.1 then d 10 else(bz c r1.2.2.1).bind fun r2=>d r2 else none else none)
def qb(a:aB)(b:Int)(c:aj):Option Int:=
 L8 a b c (fun a0=>some a0)
def L1{R:Type}(a:aB)(b:Int->Int->Int->Option R)(c:Int->Int->aB->aj->Option R):Option R:=
 (lk a.1).bind fun r1=>bif !decide (r1.1=0) then b 1 1 0 else(eD a.1 (39:Int)).bind fun r2=>bif !r2.2 then b 9 1 1 else c ((List.length a.2.2.1):Int) 0 a r2.1
def IQ{R:Type}(a b:Int)(c:aB)(d:aj)(e:Int->Int->Int->aB->aj->Option R)(f:Int->Int->aB->aj->Option R)(g:aB->aj->Option R):Option R:=
 bif b<a then(qc c b).bind fun r3=>bif !decide (r3=0) then e r3 2 b c d else f a (zW zI (b+1)) c d else g c d
def ztc{R:Type}(a b c:Int)(d:aB)(e:aj)(f:Int->Int->Int->Option R):Option R:=
 f a b c
def L2{R:Type}(a:aB)(b:aj)(c:Bool->aq->Int->Int->aB->aj->Option R):Option R:=
 c false a.2.2.2.1 ((List.length a.2.2.2.1):Int) 0 a b
def IU{R:Type}(a:Bool)(b:aq)(c d:Int)(e:aB)(f:aj)(g:Int->Int->Int->Bool->aB->Option R)(h:Bool->aq->Int->Int->aB->aj->Option R)(i:Bool->aB->Option R):Option R:=
 bif d<c then zd d (List.length b) ((qb e d f).bind fun r4=>bif !decide (r4=0) then g r4 3 d a e else bif a then h true b c (zW zI (d+1)) e f else h (decide ((List.getD b d.toNat (0,bs [],())).1=0)) b c (zW zI (d+1)) e f) else i a e
def ztd{R:Type}(a b c:Int)(d:Bool)(e:aB)(f:Int->Int->Int->Option R):Option R:=
 f a b c
def L3{R:Type}(a:Bool)(b:aB)(c:Int->Int->Int->Option R):Option R:=
 bif !a then c 15 3 ((List.length b.2.2.2.1):Int) else c 0 0 0
def Am:Nat->Int->Int->aB->aj->Option (Sum (Int×Int×Int×aB×aj) (aB×aj))
 |0,_,_,_,_=>none
 |k+1,v0,v1,v2,v3=>IQ v0 v1 v2 v3 (fun a0 a1 a2 a3 a4=>some (.inl (a0,a1,a2,a3,a4))) (fun a0 a1 a2 a3=>Am k a0 a1 a2 a3) (fun a0 a1=>some (.inr (a0,a1)))
def An:Nat->Bool->aq->Int->Int->aB->aj->Option (Sum (Int×Int×Int×Bool×aB) (Bool×aB))
 |0,_,_,_,_,_,_=>none
 |k+1,v0,v1,v2,v3,v4,v5=>IU v0 v1 v2 v3 v4 v5 (fun a0 a1 a2 a3 a4=>some (.inl (a0,a1,a2,a3,a4))) (fun a0 a1 a2 a3 a4 a5=>An k a0 a1 a2 a3 a4 a5) (fun a0 a1=>some (.inr (a0,a1)))
def p9(a:aB):Option lr:=
 L1 a (fun a0 a1 a2=>some (a0,a1,a2)) (fun a0 a1 a2 a3=>(Am ag a0 a1 a2 a3).bind fun e=>Sum.elim (fun(we:(Int×Int×Int×aB×aj))=>ztc we.1 we.2.1 we.2.2.1 we.2.2.2.1 we.2.2.2.2 (fun a0 a1 a2=>some (a0,a1,a2))) (fun(we:(aB×aj))=>L2 we.1 we.2 (fun a0 a1 a2 a3 a4 a5=>(An ag a0 a1 a2 a3 a4 a5).bind fun e=>Sum.elim (fun(we:(Int×Int×Int×Bool×aB))=>ztd we.1 we.2.1 we.2.2.1 we.2.2.2.1 we.2.2.2.2 (fun a0 a1 a2=>some (a0,a1,a2))) (fun(we:(Bool×aB))=>L3 we.1 we.2 (fun a0 a1 a2=>some (a0,a1,a2))) e)) e)
def L6{R:Type}(a:aB)(b:Int)(c:(List Int)->Int->Int->aB->Option R):Option R:=
 c ([b,0]:List Int) ((List.length ([b,(0:Int)]:List Int)):Int) 0 a
def IV{R:Type}(a:(List Int))(b c:Int)(d:aB)(e:Int->(List Int)->Int->Int->aq->Int->Int->aB->Option R)(f:Option R):Option R:=
 bif c<b then zd c (List.length a) (e (List.getD a c.toNat 0) a b c d.2.2.2.1 ((List.length d.2.2.2.1):Int) 0 d) else f
def ztg{R:Type}(a:ByteArray->Option R):Option R:=
 a (bs [])
def zth{R:Type}(a:Int)(b:(List Int))(c d:Int)(e:aq)(f g:Int)(h:aB)(i:ByteArray->(List Int)->Int->Int->aB->Option R)(j:Int->(List Int)->Int->Int->aq->Int->Int->aB->Option R)(l:(List Int)->Int->Int->aB->Option R):Option R:=
 bif g<f then zd g (List.length e) (bif(List.getD e g.toNat (0,bs [],())).1=a then i (List.getD e g.toNat (0,bs [],())).2.1 b c d h else j a b c d e f (zW zI (g+1)) h) else l b c d h
def zti{R:Type}(a:ByteArray)(b:(List Int))(c d:Int)(e:aB)(f:ByteArray->Option R):Option R:=
 f a
def L7{R:Type}(a:(List Int))(b c:Int)(d:aB)(e:(List Int)->Int->Int->aB->Option R):Option R:=
 e a b (zW zI (c+1)) d
def ztj{R:Type}(a:ByteArray)(b:ByteArray->Option R):Option R:=
 b a
def BD:Nat->Int->(List Int)->Int->Int->aq->Int->Int->aB->Option (Sum (ByteArray×(List Int)×Int×Int×aB) ((List Int)×Int×Int×aB))
 |0,_,_,_,_,_,_,_,_=>none
 |k+1,v0,v1,v2,v3,v4,v5,v6,v7=>zth v0 v1 v2 v3 v4 v5 v6 v7 (fun a0 a1 a2 a3 a4=>some (.inl (a0,a1,a2,a3,a4))) (fun a0 a1 a2 a3 a4 a5 a6 a7=>BD k a0 a1 a2 a3 a4 a5 a6 a7) (fun a0 a1 a2 a3=>some (.inr (a0,a1,a2,a3)))
def xD:Nat->(List Int)->Int->Int->aB->Option (Sum Unit ByteArray)
 |0,_,_,_,_=>none
 |k+1,v0,v1,v2,v3=>IV v0 v1 v2 v3 (fun a0 a1 a2 a3 a4 a5 a6 a7=>(BD ag a0 a1 a2 a3 a4 a5 a6 a7).bind fun e=>Sum.elim (fun(we:(ByteArray×(List Int)×Int×Int×aB))=>zti we.1 we.2.1 we.2.2.1 we.2.2.2.1 we.2.2.2.2 (fun a0=>some (.inr a0))) (fun(we:((List Int)×Int×Int×aB))=>L7 we.1 we.2.1 we.2.2.1 we.2.2.2 (fun a0 a1 a2 a3=>xD k a0 a1 a2 a3)) e) (some (.inl ()))
def qa(a:aB)(b:Int):Option ByteArray:=
 L6 a b (fun a0 a1 a2 a3=>(xD ag a0 a1 a2 a3).bind fun e=>Sum.elim (fun(we:Unit)=>ztg (fun a0=>some a0)) (fun(we:ByteArray)=>ztj we (fun a0=>some a0)) e)
def LX{R:Type}(a:aB)(b:ae)(c:aw)(d:ae->Bool->Option R)(e:(List Int)->Int->Int->aB->ae->aw->ae->ae->Option R):Option R:=
 (p6 b.1).bind fun r1=>bif !r1.2 then d (bs [],[],()) false else e a.2.2.1 ((List.length a.2.2.1):Int) 0 a b c (bs [],[],()) (r1.1,[],())
def zt9{R:Type}(a:(List Int))(b c:Int)(d:aB)(e:ae)(f:aw)(g h:ae)(i:(List Int)->Int->Int->aB->ae->aw->ae->ae->Option R)(j:aB->aw->ae->ae->Option R):Option R:=
 bif c<b then zd c (List.length a) ((mo e (List.getD a c.toNat (0:Int))).bind fun r2=>bif r2.2 then(fX h (List.getD a c.toNat 0) r2.1).bind fun r3=>i a b (zW zI (c+1)) d e f g r3 else i a b (zW zI (c+1)) d e f g h) else j d f g h
def LY{R:Type}(a:aB)(b:aw)(c d:ae)(e:ae->Bool->Option R):Option R:=
 (qa a b.1).bind fun r4=>(fX d 39 r4).bind fun r5=>e r5 true
def IP:Nat->(List Int)->Int->Int->aB->ae->aw->ae->ae->Option (aB×aw×ae×ae)
 |0,_,_,_,_,_,_,_,_=>none
 |k+1,v0,v1,v2,v3,v4,v5,v6,v7=>zt9 v0 v1 v2 v3 v4 v5 v6 v7 (fun a0 a1 a2 a3 a4 a5 a6 a7=>IP k a0 a1 a2 a3 a4 a5 a6 a7) (fun a0 a1 a2 a3=>some (a0,a1,a2,a3))
def p8(a:aB)(b:ae)(c:aw):Option (ae×Bool):=
 LX a b c (fun a0 a1=>some (a0,a1)) (fun a0 a1 a2 a3 a4 a5 a6 a7=>(IP ag a0 a1 a2 a3 a4 a5 a6 a7).bind fun e=>LY e.1 e.2.1 e.2.2.1 e.2.2.2 (fun a0 a1=>some (a0,a1)))
def MD{R:Type}(a:ai)(b:ByteArray)(c:ByteArray->Int->Int->Option R):Option R:=
 bif a.1=2 then(Q2 (4:Int)).bind fun r1=>bif(b.size:Int)<r1 then c (bs []) 0 2 else bif 0<=r1 then bif r1<=(b.size:Int) then bif a.1=2 then(Q0 (b.extract 0 r1.toNat) (4:Int)).bind fun r2=>(ic r2.1).bind fun r3=>bif !r3.2 then c (bs []) 0 7 else bif !decide (r3.1=a.2.1) then c (bs []) 0 7 else c r2.1 r1 0 else(ic (b.extract 0 r1.toNat)).bind fun r4=>bif !r4.2 then c (bs []) 0 7 else bif !decide (r4.1=a.2.1) then c (bs []) 0 7 else c (b.extract 0 r1.toNat) r1 0 else none else none else bif(b.size:Int)<4 then c (bs []) 0 2 else bif 4<=(b.size:Int) then bif a.1=2 then(Q0 (b.extract 0 ((4:Int)).toNat) (4:Int)).bind fun r5=>(ic r5.1).bind fun r6=>bif !r6.2 then c (bs []) 0 7 else bif !decide (r6.1=a.2.1) then c (bs []) 0 7 else c r5.1 4 0 else(ic (b.extract 0 ((4:Int)).toNat)).bind fun r7=>bif !r7.2 then c (bs []) 0 7 else bif !decide (r7.1=a.2.1) then c (bs []) 0 7 else c (b.extract 0 ((4:Int)).toNat) 4 0 else none
def qk(a:ai)(b:ByteArray):Option il:=
 MD a b (fun a0 a1 a2=>some (a0,a1,a2))
def MC{R:Type}(a:ai)(b:ByteArray)(c:ae->aw->Option R)(d:ByteArray->Int->Int->ai->ae->aw->ae->aw->Option R):Option R:=
 (lk a).bind fun r1=>bif !decide (r1.1=0) then c (bs [],[],()) (1,(-1:Int),()) else(qk a b).bind fun r2=>bif !decide (r2.2.2=0) then c (bs [],[],()) (r2.2.2,0,()) else(Q5 a.1 b r2.2.1).bind fun r3=>bif !decide (r3.2.2=0) then c (r2.1,[],()) (r3.2.2,1,()) else(AX r3.1 (0:Int)).bind fun r4=>d b r3.2.1 r4 a (bs [],[],()) (0,0,()) (r2.1,[],()) r3.1
def I2{R:Type}(a:ByteArray)(b c:Int)(d:ai)(e:ae)(f:aw)(g:ae)(h:aw)(i:ByteArray->Int->ae->aw->ae->Option R)(j:ByteArray->Int->Int->ai->ae->aw->ae->aw->Option R)(l:ByteArray->Int->ae->aw->ae->Option R):Option R:=
 bif !decide (c=0) then(eD d c).bind fun r5=>bif !r5.2 then i a b g (9,c,()) g else(Cp d.1 r5.1 a b).bind fun r6=>bif !decide (r6.2.2=0) then i a b g (r6.2.2,c,()) g else bif(List.length g.2.1+List.length ([(c,r6.1,())]:List cR))*24<=140737488355328 then(AX h c).bind fun r7=>j a r6.2.1 r7 d e f (g.1,g.2.1++([(c,r6.1,())]:List cR),()) h else none else l a b e f g
def zua{R:Type}(a:ByteArray)(b:Int)(c:ae)(d:aw)(e:ae)(f:ae->aw->Option R):Option R:=
 f c d
def zub{R:Type}(a:ByteArray)(b:Int)(c:ae)(d:aw)(e:ae)(f:ae->aw->Option R):Option R:=
 bif b<(a.size:Int) then f e (12,129,()) else f e (0,0,())
def Ap:Nat->ByteArray->Int->Int->ai->ae->aw->ae->aw->Option (Sum ij ij)
 |0,_,_,_,_,_,_,_,_=>none
 |k+1,v0,v1,v2,v3,v4,v5,v6,v7=>I2 v0 v1 v2 v3 v4 v5 v6 v7 (fun a0 a1 a2 a3 a4=>some (.inl (a0,a1,a2,a3,a4))) (fun a0 a1 a2 a3 a4 a5 a6 a7=>Ap k a0 a1 a2 a3 a4 a5 a6 a7) (fun a0 a1 a2 a3 a4=>some (.inr (a0,a1,a2,a3,a4)))
def oF(a:ai)(b:ByteArray):Option (ae×aw):=
 MC a b (fun a0 a1=>some (a0,a1)) (fun a0 a1 a2 a3 a4 a5 a6 a7=>(Ap ag a0 a1 a2 a3 a4 a5 a6 a7).bind fun e=>Sum.elim (fun(we:ij)=>zua we.1 we.2.1 we.2.2.1 we.2.2.2.1 we.2.2.2.2 (fun a0 a1=>some (a0,a1))) (fun(we:ij)=>zub we.1 we.2.1 we.2.2.1 we.2.2.2.1 we.2.2.2.2 (fun a0 a1=>some (a0,a1))) e)
def MW{R:Type}(a:Int)(b:ByteArray)(c:ByteArray->Bool->Option R):Option R:=
 (mu b).bind fun r1=>bif !r1 then c (bs []) false else bif a=1 then c b true else bif a=2 then(Q1 b).bind fun r2=>c r2.1 r2.2 else c (bs []) false
def qs(a:Int)(b:ByteArray):Option iO:=
 MW a b (fun a0 a1=>some (a0,a1))
def MV{R:Type}(a b:ByteArray)(c:ByteArray->Option R):Option R:=
 (Ku b a).bind fun r1=>c r1.2
def iI(a b:ByteArray):Option ByteArray:=
 MV a b (fun a0=>some a0)
def MU{R:Type}(a:ai)(b:ae)(c:ByteArray->aw->Option R)(d:aq->Int->Int->ai->aw->ByteArray->Option R):Option R:=
 (ou a b).bind fun r1=>bif !decide (r1.1=0) then c (bs []) r1 else(qs a.1 b.1).bind fun r2=>(iI r2.1 (bs [])).bind fun r3=>(pY b).bind fun r4=>(Q6 a.1 r4).bind fun r5=>(iI r5.1 r3).bind fun r6=>d b.2.1 ((List.length b.2.1):Int) 0 a (0,0,()) r6
def zug{R:Type}(a:aq)(b c:Int)(d:ai)(e:aw)(f:ByteArray)(g:aq->Int->Int->ai->aw->ByteArray->Option R)(h:aw->ByteArray->Option R):Option R:=
 bif c<b then zd c (List.length a) ((eD d (List.getD a c.toNat (0,bs [],())).1).bind fun r7=>(xU d.1 r7.1 (List.getD a c.toNat (0,bs [],())).2.1).bind fun r8=>(iI r8.1 f).bind fun r9=>g a b (zW zI (c+1)) d e r9) else h e f
def zuh{R:Type}(a:aw)(b:ByteArray)(c:ByteArray->aw->Option R):Option R:=
 (z4y b).bind fun ju=>c ju.1 (0,0,())
def I3:Nat->aq->Int->Int->ai->aw->ByteArray->Option (aw×ByteArray)
 |0,_,_,_,_,_,_=>none
 |k+1,v0,v1,v2,v3,v4,v5=>zug v0 v1 v2 v3 v4 v5 (fun a0 a1 a2 a3 a4 a5=>I3 k a0 a1 a2 a3 a4 a5) (fun a0 a1=>some (a0,a1))
def mA(a:ai)(b:ae):Option (ByteArray×aw):=
 MU a b (fun a0 a1=>some (a0,a1)) (fun a0 a1 a2 a3 a4 a5=>(I3 ag a0 a1 a2 a3 a4 a5).bind fun e=>zuh e.1 e.2 (fun a0 a1=>some (a0,a1)))
def Mc{R:Type}(a:dW)(b:Int->Int->Int->Option R)(c:lu->Int->dW->Option R):Option R:=
 bif a.2.1<1 then b 5 2 0 else bif 65535<a.2.1 then b 5 2 0 else c a.1 0 a
def BE{R:Type}(a:lu)(b:Int)(c:dW)(d:Int->Int->Int->Option R)(e:lu->Int->dW->Option R)(f:Option R):Option R:=
 bif b<2 then zd b 2 ((p9 (List.getD a b.toNat ((0,0,[],()),([],[],()),[],[],()))).bind fun r1=>bif !decide (r1.1=0) then d r1.1 b 1 else zd (zW zI (1-b)) 2 ((oG (List.getD a b.toNat ((0,0,[],()),([],[],()),[],[],())).2.1 (List.getD a b.toNat ((0,0,[],()),([],[],()),[],[],())).1 (List.getD c.1 (zW zI (1-b)).toNat ((0,0,[],()),([],[],()),[],[],())).1).bind fun r2=>bif !decide (r2.1=0) then d r2.1 b 2 else e a (zW zI (b+1)) c)) else f
def ztl{R:Type}(a b c:Int)(d:Int->Int->Int->Option R):Option R:=
 d a b c
def ztm{R:Type}(a:Int->Int->Int->Option R):Option R:=
 a 0 0 0
def Ao:Nat->lu->Int->dW->Option (Sum lr Unit)
 |0,_,_,_=>none
 |k+1,v0,v1,v2=>BE v0 v1 v2 (fun a0 a1 a2=>some (.inl (a0,a1,a2))) (fun a0 a1 a2=>Ao k a0 a1 a2) (some (.inr ()))
def oE(a:dW):Option lr:=
 Mc a (fun a0 a1 a2=>some (a0,a1,a2)) (fun a0 a1 a2=>(Ao ag a0 a1 a2).bind fun e=>Sum.elim (fun(we:lr)=>ztl we.1 we.2.1 we.2.2 (fun a0 a1 a2=>some (a0,a1,a2))) (fun(we:Unit)=>ztm (fun a0 a1 a2=>some (a0,a1,a2))) e)
def Me{R:Type}(a:ae)(b:aw)(c:aB)(d:dW)(e:Int->ByteArray->Option R):Option R:=
 (p8 c a b).bind fun r1=>bif !r1.2 then e 3 (bs []) else(mA c.1 r1.1).bind fun r2=>bif r2.1=bs [] then e 3 (bs []) else bif d.2.1<(r2.1.size:Int) then e 3 (bs []) else e 2 r2.1
def jA(a:ae)(b:aw)(c:aB)(d:dW):Option Zt4:=
 Me a b c d (fun a0 a1=>some (a0,a1))
def Md{R:Type}(a:dW)(b:Int)(c:ByteArray)(d:Int->ByteArray->Option R):Option R:=
 (oE a).bind fun r1=>bif !decide (r1.1=0) then d 0 (bs []) else bif b<0 then d 0 (bs []) else bif 1<b then d 0 (bs []) else zd b 2 (zd (zW zI (1-b)) 2 ((oF (List.getD a.1 b.toNat ((0,0,[],()),([],[],()),[],[],())).1 c).bind fun r2=>bif !decide (r2.2.1=0) then(jA r2.1 r2.2 (List.getD a.1 b.toNat ((0,0,[],()),([],[],()),[],[],())) a).bind fun r3=>d r3.1 r3.2 else(oH (List.getD a.1 b.toNat ((0,0,[],()),([],[],()),[],[],())).2.1 (List.getD a.1 b.toNat ((0,0,[],()),([],[],()),[],[],())).1 (List.getD a.1 (zW zI (1-b)).toNat ((0,0,[],()),([],[],()),[],[],())).1 r2.1).bind fun r4=>bif !decide (r4.2.1=0) then(jA r2.1 r4.2 (List.getD a.1 b.toNat ((0,0,[],()),([],[],()),[],[],())) a).bind fun r5=>d r5.1 r5.2 else(mA (List.getD a.1 (zW zI (1-b)).toNat ((0,0,[],()),([],[],()),[],[],())).1 r4.1).bind fun r6=>bif a.2.1<(r6.1.size:Int) then(jA r2.1 (5,129,()) (List.getD a.1 b.toNat ((0,0,[],()),([],[],()),[],[],())) a).bind fun r7=>d r7.1 r7.2 else d 1 r6.1))
def jz(a:dW)(b:Int)(c:ByteArray):Option Zt4:=
 Md a b c (fun a0 a1=>some (a0,a1))
def zzb{R:Type}(a:Bool->Option R):Option R:=
 xW.bind fun r1=>(jz r1 0 (bs [48,56,48,48,48,48,50,48,48,48,48,48,48,48,48,48,48,48,48,48,48,48,48,48,48,49])).bind fun r2=>(jz r1 0 (bs [48,56,48,48,48,48,50,48,48,48,48,48,48,48,48,48,48,48,48,48,48,48,48,48,48])).bind fun r3=>(jz r1 0 (bs [48,56,49,48,120])).bind fun r4=>(oE r1).bind fun r5=>bif r2.1=1 then bif r2.2=bs [24,4,0,32,0,64,0,0,0,0,0,0,1,89,153] then bif r3.1=2 then bif r3.2=bs [48,56,49,48,48,48,48,48,48,48,48,48,48,50,48,48,48,48,48,48,51,48] then bif r4.1=3 then bif r4.2=bs [] then bif r5.1=0 then bif r5.2.1=0 then a (decide (r5.2.2=0)) else a false else a false else a false else a false else a false else a false else a false else a false
def xZ:Option Bool:=
 zzb (fun a0=>some a0)
def OH{R:Type}(a:dW)(b:Int)(c:ByteArray)(d:Bool->Option R):Option R:=
 xZ.bind fun r1=>bif !r1 then xZ.bind fun r2=>d r2 else(oq a).bind fun r3=>bif r3 then xZ.bind fun r4=>d r4 else bif 3000<(c.size:Int) then xZ.bind fun r5=>d r5 else(jz a b c).bind fun r6=>bif !decide (r6.1=2) then d (!decide (r6.1=2)) else bif b<0 then d (!decide (r6.1=2)) else bif 1<b then d (!decide (r6.1=2)) else zd b 2 ((ot (List.getD a.1 b.toNat ((0,0,[],()),([],[],()),[],[],())).1 r6.2).bind fun r7=>(jz a b r6.2).bind fun r8=>bif r7.2 then(oo r7.1.1).bind fun r9=>bif !r9 then bif(r6.2.size:Int)<=a.2.1 then d (!decide (r8.1=2)) else d false else d false else d false)
def CR(a:dW)(b:Int)(c:ByteArray):Option Bool:=
 OH a b c (fun a0=>some a0)
end bn

namespace bn
open Go.IntKind renaming wrap->zW,i64->zI,u8->zU
theorem zT{p:Prop}[Decidable p](h:p):decide p=true:=_root_.decide_eq_true h
theorem zF{p:Prop}[Decidable p](h:¬p):decide p=false:=_root_.decide_eq_false h
theorem zC{α:Type}{a b:α}:(bif true then a else b)=a:=rfl
theorem zD{α:Type}{a b:α}:(bif false then a else b)=b:=rfl
open Go Go.Ref
theorem zr:ag=18446744073709551616:=by unfold ag;rfl
theorem zj:maxLen=9223372036854775807:=rfl
theorem zg{x:Int}(h1: -9223372036854775808<=x)(h2:x<=9223372036854775807):zW zI x=x:=zZ h1 h2
theorem vf{n:Nat}(h:n<=9223372036854775807):zW zI (n:Int)=n:=zZ (by omega) (by omega)
theorem zw{j:Nat}(h:j<9223372036854775807):zW zI ((j:Int)+1)=((j+1:Nat):Int):=by
 rw[zZ (by omega) (by omega)];rfl
theorem Hp(x:Int):IntKind.u64.wrap x=x % 18446744073709551616:=by
 simp [IntKind.wrap,IntKind.signed,IntKind.bits]
theorem ac4(x:Int):zW zU x=x % 256:=by
 simp [IntKind.wrap,IntKind.signed,IntKind.bits]
theorem ac3{x:Int}(h1:0<=x)(h2:x<18446744073709551616):IntKind.u64.wrap x=x:=by rw[Hp];omega
theorem rP{x:Int}(h1:0<=x)(h2:x<256):zW zU x=x:=by rw[ac4];omega
theorem zi{R:Type}{j n:Nat}{x:Option R}(h:j<n):zd (j:Int) n x=x:=Wu h
theorem zm{R:Type}{i:Int}{n:Nat}{x:Option R}(h0:0<=i)(h:i<n):zd i n x=x:=by
 unfold zd
 rw[zT h0,zT h];rfl
theorem aaV{R:Type}{p:Prop}[Decidable p](x y:R):(bif decide p then x else y)=if p then x else y:=by
 by_cases h:p<;>simp [h]
def bl(s:ByteArray):List Int:=s.data.toList.map fun b=>(b.toNat:Int)
theorem xK{a b:ByteArray}(h:bl a=bl b):a=b:=by
 apply ByteArray.ext
 apply Array.ext'
 unfold bl at h
 have:Function.Injective (fun b:UInt8=>(b.toNat:Int)):=fun x y wY=>UInt8.toNat_inj.1 (Int.ofNat.inj wY)
 exact(List.map_inj_right (fun x y h=>this h)).1 h
theorem Ea{a b:ByteArray}:a=b↔bl a=bl b:=⟨fun h=>by rw[h],xK⟩
theorem zh(s:ByteArray):(bl s).length=s.size:=by unfold bl;rw[List.length_map];rfl
theorem uO(a b:ByteArray):bl (a++b)=bl a++bl b:=by simp [bl,ByteArray.data_append]
theorem z28(s:ByteArray)(i j:Nat):bl (s.extract i j)=((bl s).take j).drop i:=by
 unfold bl
 rw[ByteArray.data_extract,Array.toList_extract,List.extract_eq_drop_take',List.map_drop,List.map_take]
theorem kW(s:ByteArray)(i:Nat):ze s i=(bl s).getD i 0:=by
 unfold ze bl
 split
 ·rename_i h
  have h':i<s.data.toList.length:=h
  rw[List.getD_eq_getElem?_getD,List.getElem?_map,List.getElem?_eq_getElem h']
  rfl
 ·rename_i h
  have h':s.data.toList.length<=i:=Nat.le_of_not_lt h
  rw[List.getD_eq_getElem?_getD,List.getElem?_eq_none (by simpa using h')]
  rfl
def zn(n:Int):Prop:=0<=n/\n<256
theorem gP{s:ByteArray}{x:Int}(h:x∈bl s):zn x:=by
 unfold bl at h
 obtain⟨b,_,rfl⟩:=List.mem_map.1 h
 have:=b.toNat_lt
 unfold zn
 omega
theorem pj{xs:List Int}(h:∀x∈xs,zn x):bl (strOf xs)=xs:=by
 simp only[bl,strOf,List.map_map]
 conv=>rhs;rw[<-List.map_id xs]
 apply List.map_congr_left
 intro x hx
 have:=h x hx
 unfold zn at this
 simp only[Function.comp,id]
 rw[UInt8.toNat_ofNat_of_lt' (by show x.toNat<256;omega)]
 omega
theorem z49(s:ByteArray):strOf (bl s)=s:=xK (pj fun x hx=>gP hx)
theorem ww{l:List Nat}(h:∀x∈l,x<256):bl (bs l)=l.map (fun n:Nat=>(n:Int)):=by
 simp only[bl,bs,List.map_map]
 apply List.map_congr_left
 intro x hx
 have:=h x hx
 simp only[Function.comp]
 rw[UInt8.toNat_ofNat_of_lt' (by show x<256;omega)]
theorem FC:bl (bs [])=[]:=rfl
theorem zbo{s:ByteArray}:s=bs []↔bl s=[]:=by rw[Ea,FC]
theorem lX(xs:List Int):(strOf xs).size=xs.length:=by rw[<-zh];unfold bl strOf;simp
section
variable {α σ ρ:Type}
end
end bn
namespace bn
open Go.IntKind renaming wrap->zW,i64->zI,u8->zU
open Go Go.Ref
section
variable {α σ ρ:Type}
def bj(g:Int->α->σ->(σ->Option ρ)->Option ρ)(fin:σ->Option ρ):List α->Int->σ->Option ρ
 | [],_,s=>fin s
 |x::r,i,s=>g i x s fun s'=>bj g fin r (i+1) s'
theorem HS(d:α)(xs:List α)(hlen:xs.length<=9223372036854775807)(g:Int->α->σ->(σ->Option ρ)->Option ρ)(fin:σ->Option ρ)(L:Nat->Int->σ->Option ρ)
 (step:∀k (i:Int) s,L (k+1) i s=bif decide (i<(xs.length:Int)) then zd i xs.length (g i (xs.getD i.toNat d) s fun s'=>L k (zW zI (i+1)) s') else fin s):
 ∀(m j k:Nat) (s:σ),j+m=xs.length->m<k->L k j s=bj g fin (xs.drop j) j s
 |0,j,k,s,hj,hk=>by
  obtain⟨k,rfl⟩:∃k',k=k'+1:=⟨k-1,by omega⟩
  rw[step,zF (by omega),List.drop_eq_nil_of_le (by omega)];rfl
 |m+1,j,k,s,hj,hk=>by
  obtain⟨k,rfl⟩:∃k',k=k'+1:=⟨k-1,by omega⟩
  have ar:j<xs.length:=by omega
  rw[step,zT (by omega),zC,zi ar,List.drop_eq_getElem_cons ar,bj]
  have hx:xs.getD ((j:Int)).toNat d=xs[j]:=by rw[Int.toNat_natCast,List.getD_eq_getElem?_getD,List.getElem?_eq_getElem ar];rfl
  rw[hx]
  congr 1
  funext s'
  rw[zw (by omega),HS d xs hlen g fin L step m (j+1) k s' (by omega) (by omega)]
  rfl
theorem cf(d:α)(xs:List α)(hlen:xs.length<=maxLen)(g:Int->α->σ->(σ->Option ρ)->Option ρ)(fin:σ->Option ρ)(L:Nat->Int->σ->Option ρ)
 (step:∀k (i:Int) s,L (k+1) i s=bif decide (i<(xs.length:Int)) then zd i xs.length (g i (xs.getD i.toNat d) s fun s'=>L k (zW zI (i+1)) s') else fin s) (s:σ):L ag 0 s=bj g fin xs 0 s:=by
 rw[zj] at hlen
 have:=HS d xs hlen g fin L step xs.length 0 ag s (by omega) (by rw[zr];omega)
 rw[List.drop_zero] at this
 exact this
theorem HT(d:α)(xs:List α)(hlen:xs.length<=9223372036854775807)(g:Int->α->σ->(σ->Option ρ)->Option ρ)(fin:σ->Option ρ)(L:Nat->Int->σ->Option ρ)
 (step:∀k (i:Int) s,0<=i->i<(xs.length:Int)->L (k+1) i s=g i (xs.getD i.toNat d) s fun s'=>L k (zW zI (i+1)) s') (stop:∀k s,L (k+1) (xs.length:Int) s=fin s):
 ∀(m j k:Nat) (s:σ),j+m=xs.length->m<k->L k j s=bj g fin (xs.drop j) j s
 |0,j,k,s,hj,hk=>by
  obtain⟨k,rfl⟩:∃k',k=k'+1:=⟨k-1,by omega⟩
  have:j=xs.length:=by omega
  subst this
  rw[stop,List.drop_length];rfl
 |m+1,j,k,s,hj,hk=>by
  obtain⟨k,rfl⟩:∃k',k=k'+1:=⟨k-1,by omega⟩
  have ar:j<xs.length:=by omega
  rw[step k j s (by omega) (by omega),List.drop_eq_getElem_cons ar,bj]
  have hx:xs.getD ((j:Int)).toNat d=xs[j]:=by rw[Int.toNat_natCast,List.getD_eq_getElem?_getD,List.getElem?_eq_getElem ar];rfl
  rw[hx]
  congr 1
  funext s'
  rw[zw (by omega),HT d xs hlen g fin L step stop m (j+1) k s' (by omega) (by omega)]
  rfl
theorem n3(d:α)(xs:List α)(hlen:xs.length<=maxLen)(g:Int->α->σ->(σ->Option ρ)->Option ρ)(fin:σ->Option ρ)(L:Nat->Int->σ->Option ρ)
 (step:∀k (i:Int) s,0<=i->i<(xs.length:Int)->L (k+1) i s=g i (xs.getD i.toNat d) s fun s'=>L k (zW zI (i+1)) s') (stop:∀k s,L (k+1) (xs.length:Int) s=fin s) (s:σ):L ag 0 s=bj g fin xs 0 s:=by
 rw[zj] at hlen
 have:=HT d xs hlen g fin L step stop xs.length 0 ag s (by omega) (by rw[zr];omega)
 rw[List.drop_zero] at this
 exact this
end
end bn

namespace bn
open Go.IntKind renaming wrap->zW,i64->zI,u8->zU
open Go Go.Ref
theorem xx(n a:Nat)(h:a<2^n):(BitVec.ofInt n (a:Int)).toNat=a:=by
 rw[BitVec.toNat_ofInt]
 have h2:((a:Int)% ((2^n:Nat):Int))=((a % 2^n:Nat):Int):=by rfl
 rw[h2,Int.toNat_natCast,Nat.mod_eq_of_lt h]
theorem BX{a:Nat}(h:a<18446744073709551616):IntKind.u64.wrap (a:Int)=a:=ac3 (by omega) (by omega)
theorem lv{a b:Nat}(ha:a<18446744073709551616)(hb:b<18446744073709551616):aD .and .u64 a b=((a&&&b:Nat):Int):=by
 simp only[aD,BitVec.toNat_and,xx IntKind.u64.bits a ha,xx IntKind.u64.bits b hb]
 exact BX (Nat.lt_of_le_of_lt Nat.and_le_left ha)
theorem uz{a b:Nat}(ha:a<18446744073709551616)(hb:b<18446744073709551616):aD .or .u64 a b=((a|||b:Nat):Int):=by
 simp only[aD,BitVec.toNat_or,xx IntKind.u64.bits a ha,xx IntKind.u64.bits b hb]
 exact BX (Nat.or_lt_two_pow (n:=64) ha hb)
theorem Yc{a b:Nat}(ha:a<18446744073709551616)(hb:b<18446744073709551616):aD .andNot .u64 a b=((a&&&(18446744073709551615-b):Nat):Int):=by
 simp only[aD,BitVec.toNat_and,BitVec.toNat_not,xx IntKind.u64.bits a ha,xx IntKind.u64.bits b hb]
 have:2^IntKind.u64.bits-1-b=18446744073709551615-b:=rfl
 rw[this]
 exact BX (Nat.lt_of_le_of_lt Nat.and_le_left ha)
theorem aaS{a b:Nat}(ha:a<9223372036854775808)(hb:b<9223372036854775808):aD .and .i64 a b=((a&&&b:Nat):Int):=by
 simp only[aD,BitVec.toNat_and,xx IntKind.i64.bits a (Nat.lt_trans ha (by decide)),xx IntKind.i64.bits b (Nat.lt_trans hb (by decide))]
 have:=Nat.lt_of_le_of_lt (Nat.and_le_left (n:=a) (m:=b)) ha
 exact vf (by omega)
theorem Ir(a:Nat)(k:Nat)(hk:k<=64):Int.fdiv (a:Int) (2^min ((k:Int)).toNat 64)=((a/2^k:Nat):Int):=by
 rw[Int.fdiv_eq_ediv_of_nonneg _ (Int.pow_nonneg (by decide)),Int.toNat_natCast,Nat.min_eq_left hk]
 rfl
section
variable {c0 c1 c2 c3 c4 c5 c6 c7:Nat}
end
def zy(x:Nat):Nat:=if x=0 then 0 else x.log2+1
theorem Ky(x:Nat):x<2^zy x/\(x≠0->2^(zy x-1)<=x/\1<=zy x):=by
 unfold zy
 split
 ·simp_all
 ·rename_i h
  exact⟨Nat.lt_log2_self,fun _=>⟨by simpa using Nat.log2_self_le h,by omega⟩⟩
theorem zy7{x L:Nat}(h1:x<2^L)(h2:L≠0->2^(L-1)<=x):zy x=L:=by
 obtain⟨g1,g2⟩:=Ky x
 by_cases hx:x=0
 ·subst hx
  by_cases hL:L=0
  ·rw[hL];rfl
  ·have:=h2 hL
   have:=Nat.two_pow_pos (L-1)
   omega
 ·obtain⟨g3,g4⟩:=g2 hx
  rcases Nat.lt_trichotomy (zy x) L with h|h|h
  ·have:=h2 (by omega)
   have:2^zy x<=2^(L-1):=Nat.pow_le_pow_right (by decide) (by omega)
   omega
  ·exact h
  ·have:2^L<=2^(zy x-1):=Nat.pow_le_pow_right (by decide) (by omega)
   omega
theorem z8l{x k:Nat}(h:2^k<=x):zy x=zy (x/2^k)+k:=by
 have hp:=Nat.two_pow_pos k
 have hq:x/2^k≠0:=by
  have:=Nat.div_pos h hp
  omega
 obtain⟨g1,g2⟩:=Ky (x/2^k)
 obtain⟨g3,g4⟩:=g2 hq
 apply zy7
 ·rw[Nat.pow_add]
  exact(Nat.div_lt_iff_lt_mul hp).1 g1
 ·intro _
  have:zy (x/2^k)+k-1=(zy (x/2^k)-1)+k:=by omega
  rw[this,Nat.pow_add]
  exact(Nat.le_div_iff_mul_le hp).1 g3
def z21:List Nat:=[0,1,2,2,3,3,3,3,4,4,4,4,4,4,4,4,5,5,5,5,5,5,5,5,5,5,5,5,5,5,5,5]++List.replicate 32 6++List.replicate 64 7++List.replicate 128 8
theorem Zh:∀c:Fin 256,z21.getD c.1 0=zy c.1:=by decide+kernel
def xd(x:Int):Option Int:=
 let t:Int->Int->Option Int:=fun n x=>zd (zW zU x) (bs z21).size (some (zW zI (n+zW zI (ze (bs z21) (zW zU x).toNat))))
 let c:Int->Int->Option Int:=fun n x=>bif decide ((256:Int)<=x) then t (zW zI (n+8)) (Int.fdiv x (2^min ((8:Int)).toNat 64)) else t n x
 let b:Int->Int->Option Int:=fun n x=>bif decide ((65536:Int)<=x) then c (zW zI (n+16)) (Int.fdiv x (2^min ((16:Int)).toNat 64)) else c n x
 bif decide ((4294967296:Int)<=x) then b 32 (Int.fdiv x (2^min ((32:Int)).toNat 64)) else b 0 x
theorem Sp(x:Int):pX x=xd x:=by kernel_rfl
theorem VI(c:Nat)(h:c<256):ze (bs z21) c=((zy c:Nat):Int):=by
 rw[kW,ww (by decide+kernel),<-Zh ⟨c,h⟩,List.getD_eq_getElem?_getD,List.getElem?_map,List.getD_eq_getElem?_getD]
 cases z21[c]? <;>rfl
theorem zw8{x k:Nat}(h:x<2^k):zy x<=k:=by
 by_cases hx:x=0
 ·subst hx;simp [zy]
 ·obtain⟨g3,g4⟩:=(Ky x).2 hx
  rcases Nat.lt_or_ge k (zy x) with h1|h1
  ·have:2^k<=2^(zy x-1):=Nat.pow_le_pow_right (by decide) (by omega)
   omega
  ·exact h1
theorem WI(x:Nat)(hx:x<18446744073709551616):pX x=some ((zy x:Nat):Int):=by
 rw[Sp]
 unfold xd
 simp only
 have ht:∀(n:Nat) (c:Nat),n<=100->c<256->zd (zW zU (c:Int)) (bs z21).size (some (zW zI ((n:Int)+zW zI (ze (bs z21) (zW zU (c:Int)).toNat))))=some (((n+zy c:Nat):Int)):=by
  intro n c hn hc
  have hl:(bs z21).size=256:=by rw[<-zh,ww (by decide+kernel)];rfl
  have hb:=zw8 (k:=8) hc
  rw[rP (by omega) (by omega),hl,zi hc,Int.toNat_natCast,VI c hc,vf (by omega),zg (by omega) (by omega)]
  rfl
 have f8:∀a:Nat,Int.fdiv (a:Int) (2^min ((8:Int)).toNat 64)=((a/2^8:Nat):Int):=fun a=>Ir a 8 (by omega)
 have f16:∀a:Nat,Int.fdiv (a:Int) (2^min ((16:Int)).toNat 64)=((a/2^16:Nat):Int):=fun a=>Ir a 16 (by omega)
 have f32:∀a:Nat,Int.fdiv (a:Int) (2^min ((32:Int)).toNat 64)=((a/2^32:Nat):Int):=fun a=>Ir a 32 (by omega)
 have hc:∀(n:Nat) (y:Nat),n<=48->y<65536->(bif decide ((256:Int)<=(y:Int)) then zd (zW zU (Int.fdiv (y:Int) (2^min ((8:Int)).toNat 64))) (bs z21).size (some (zW zI (zW zI ((n:Int)+8)+zW zI (ze (bs z21) (zW zU (Int.fdiv (y:Int) (2^min ((8:Int)).toNat 64))).toNat)))) else zd (zW zU (y:Int)) (bs z21).size (some (zW zI ((n:Int)+zW zI (ze (bs z21) (zW zU (y:Int)).toNat)))))=some (((n+zy y:Nat):Int)):=by
  intro n y hn hy
  by_cases h:256<=y
  ·rw[zT (by omega),zC,f8,zg (x:=(n:Int)+8) (by omega) (by omega)]
   have:=ht (n+8) (y/2^8) (by omega) (by omega)
   rw[show((n:Int)+8)=((n+8:Nat):Int) from rfl,this,z8l (k:=8) h]
   congr 2;omega
  ·rw[zF (by omega),zD]
   exact ht n y (by omega) (by omega)
 have hb:∀(n:Nat) (y:Nat),n<=32->y<4294967296->(bif decide ((65536:Int)<=(y:Int)) then(bif decide ((256:Int)<=Int.fdiv (y:Int) (2^min ((16:Int)).toNat 64)) then zd (zW zU (Int.fdiv (Int.fdiv (y:Int) (2^min ((16:Int)).toNat 64)) (2^min ((8:Int)).toNat 64))) (bs z21).size (some (zW zI (zW zI (zW zI ((n:Int)+16)+8)+zW zI (ze (bs z21) (zW zU (Int.fdiv (Int.fdiv (y:Int) (2^min ((16:Int)).toNat 64)) (2^min ((8:Int)).toNat 64))).toNat)))) else zd (zW zU (Int.fdiv (y:Int) (2^min ((16:Int)).toNat 64))) (bs z21).size (some (zW zI (zW zI ((n:Int)+16)+zW zI (ze (bs z21) (zW zU (Int.fdiv (y:Int) (2^min ((16:Int)).toNat 64))).toNat))))) else
  (bif decide ((256:Int)<=(y:Int)) then zd (zW zU (Int.fdiv (y:Int) (2^min ((8:Int)).toNat 64))) (bs z21).size (some (zW zI (zW zI ((n:Int)+8)+zW zI (ze (bs z21) (zW zU (Int.fdiv (y:Int) (2^min ((8:Int)).toNat 64))).toNat)))) else zd (zW zU (y:Int)) (bs z21).size (some (zW zI ((n:Int)+zW zI (ze (bs z21) (zW zU (y:Int)).toNat))))))=some (((n+zy y:Nat):Int)):=by
  intro n y hn hy
  by_cases h:65536<=y
  ·rw[zT (by omega),zC,f16,zg (x:=(n:Int)+16) (by omega) (by omega)]
   have:=hc (n+16) (y/2^16) (by omega) (by omega)
   rw[show((n:Int)+16)=((n+16:Nat):Int) from rfl,this,z8l (k:=16) h]
   congr 2;omega
  ·rw[zF (by omega),zD]
   exact hc n y (by omega) (by omega)
 by_cases h:4294967296<=x
 ·rw[zT (by omega),zC,f32]
  have:=hb 32 (x/2^32) (by omega) (by omega)
  rw[show((32:Nat):Int)=32 from rfl] at this
  rw[this,z8l (k:=32) h]
  congr 2;omega
 ·rw[zF (by omega),zD]
  have:=hb 0 x (by omega) (by omega)
  rw[show((0:Nat):Int)=0 from rfl] at this
  rw[this]
  congr 2;omega
theorem z90(x:Nat)(hx:x<18446744073709551616):lg x=some (((64-zy x:Nat)):Int):=by
 unfold lg LC
 have:=zw8 (k:=64) hx
 rw[WI x hx,zc,zg (by omega) (by omega)]
 congr 1;omega
end bn

namespace bn
open Go.IntKind renaming wrap->zW,i64->zI,u8->zU
open Go Go.Ref
abbrev sN:=Int×Int×Unit
abbrev cB:Nat:=18446744073709551616
def bp(h l:Nat)(n:Int):Bool:=
 if 1<=n/\n<=64 then h.testBit (64-n).toNat else if 65<=n/\n<=128 then l.testBit (128-n).toNat else false
def gF(n:Int):Nat:=if 1<=n/\n<=64 then 2^(64-n).toNat else 0
def gG(n:Int):Nat:=if 65<=n/\n<=128 then 2^(128-n).toNat else 0
theorem zmw{k:Nat}(h:k<64):2^k<cB:=Nat.pow_lt_pow_right (by decide) h
theorem Ng(n:Int):gF n<cB:=by
 unfold gF;split
 ·exact zmw (by omega)
 ·decide
theorem Nh(n:Int):gG n<cB:=by
 unfold gG;split
 ·exact zmw (by omega)
 ·decide
theorem z159{k:Nat}(h:k<64):IntKind.u64.wrap ((1:Int)*2^min k 64)=((2^k:Nat):Int):=by
 rw[Nat.min_eq_left (by omega),Int.one_mul]
 have:=zmw h
 have e:((2:Int)^k)=((2^k:Nat):Int):=by simp
 rw[e]
 exact BX this
theorem HK(n:Int):AY n=some ((gF n:Int),(gG n:Int),()):=by
 unfold AY OG gF gG
 by_cases h1:n<1
 ·rw[zT h1,if_neg (by omega),if_neg (by omega)];rfl
 rw[zF h1,zD]
 by_cases h2:128<n
 ·rw[zT h2,if_neg (by omega),if_neg (by omega)];rfl
 rw[zF h2,zD]
 by_cases h3:n<=64
 ·rw[zT h3,zC,zg (by omega) (by omega),zF (by omega),zD,z159 (by omega),if_pos (by omega),if_neg (by omega)];rfl
 ·rw[zF h3,zD,zg (by omega) (by omega),zF (by omega),zD,z159 (by omega),if_neg (by omega),if_pos (by omega)];rfl
theorem z8i(h k:Nat):(h&&&2^k=0)↔h.testBit k=false:=by
 constructor
 ·intro e
  have:=congrArg (fun x=>x.testBit k) e
  simpa [Nat.testBit_and,Nat.testBit_two_pow] using this
 ·intro e
  apply Nat.eq_of_testBit_eq
  intro i
  rw[Nat.testBit_and,Nat.testBit_two_pow]
  by_cases hi:k=i
  ·subst hi;simp [e]
  ·simp [hi]
theorem abA(h l:Nat)(hh:h<cB)(hl:l<cB)(n:Int):CL ((h:Int),(l:Int),()) n=some (bp h l n):=by
 unfold CL OC pB Jo
 rw[HK,zc,lv hh (Ng n),lv hl (Nh n),zc]
 congr 1
 simp only[Bool.and_true]
 have e:∀a:Nat,decide ((a:Int)=0)=decide (a=0):=fun a=>decide_eq_decide.2 (by omega)
 rw[e,e]
 unfold gF gG bp
 by_cases h1:1<=n/\n<=64
 ·rw[if_pos h1,if_pos h1,if_neg (by omega)]
  have:=z8i h (64-n).toNat
  cases hb:h.testBit (64-n).toNat with
  |false=>simp [this.2 hb]
  |true=>simp;intro hz;exact absurd (this.1 hz) (by simp [hb])
 ·rw[if_neg h1,if_neg h1]
  by_cases h2:65<=n/\n<=128
  ·rw[if_pos h2,if_pos h2]
   have:=z8i l (128-n).toNat
   cases hb:l.testBit (128-n).toNat with
   |false=>simp [this.2 hb]
   |true=>simp;intro hz;exact absurd (this.1 hz) (by simp [hb])
  ·rw[if_neg h2,if_neg h2];simp
theorem zce(h l h' l':Nat)(hh:h<cB)(hl:l<cB)(yH:h'<cB)(uh:l'<cB):qu ((h:Int),(l:Int),()) ((h':Int),(l':Int),())=some (((h|||h':Nat):Int),((l|||l':Nat):Int),()):=by
 unfold qu OB
 rw[uz hh yH,uz hl uh]
theorem Gv(h l h' l':Nat)(hh:h<cB)(hl:l<cB)(yH:h'<cB)(uh:l'<cB):pB ((h:Int),(l:Int),()) ((h':Int),(l':Int),())=some (((h&&&h':Nat):Int),((l&&&l':Nat):Int),()):=by
 unfold pB Jo
 rw[lv hh yH,lv hl uh]
theorem GR(h l:Nat)(hh:h<cB)(hl:l<cB)(n:Int):vB ((h:Int),(l:Int),()) n=some (((h|||gF n:Nat):Int),((l|||gG n:Nat):Int),()):=by
 unfold vB OE
 rw[HK,zc,zce h l _ _ hh hl (Ng n) (Nh n)];rfl
theorem rC{a b:Nat}(ha:a<cB)(hb:b<cB):a|||b<cB:=Nat.or_lt_two_pow (n:=64) ha hb
theorem HI{a b:Nat}(ha:a<cB):a&&&b<cB:=Nat.lt_of_le_of_lt Nat.and_le_left ha
theorem acV(h l h' l':Nat)(n:Int):bp (h|||h') (l|||l') n=(bp h l n||bp h' l' n):=by
 unfold bp;split
 ·rw[Nat.testBit_or]
 ·split
  ·rw[Nat.testBit_or]
  ·rfl
theorem G3(h l h' l':Nat)(n:Int):bp (h&&&h') (l&&&l') n=(bp h l n&&bp h' l' n):=by
 unfold bp;split
 ·rw[Nat.testBit_and]
 ·split
  ·rw[Nat.testBit_and]
  ·rfl
def gX(n:Int):Bool:=decide (1<=n/\n<=128)
theorem abg(m n:Int):bp (gF m) (gG m) n=(decide (m=n)&&gX n):=by
 unfold bp gF gG gX
 by_cases h1:1<=n/\n<=64
 ·rw[if_pos h1]
  by_cases h2:1<=m/\m<=64
  ·rw[if_pos h2,Nat.testBit_two_pow,zT (p:=1<=n/\n<=128) (by omega),Bool.and_true]
   exact decide_eq_decide.2 (by omega)
  ·rw[if_neg h2,zF (by omega:¬m=n)];simp
 ·rw[if_neg h1]
  by_cases h3:65<=n/\n<=128
  ·rw[if_pos h3]
   by_cases h2:65<=m/\m<=128
   ·rw[if_pos h2,Nat.testBit_two_pow,zT (p:=1<=n/\n<=128) (by omega),Bool.and_true]
    exact decide_eq_decide.2 (by omega)
   ·rw[if_neg h2,zF (by omega:¬m=n)];simp
  ·rw[if_neg h3,zF (p:=1<=n/\n<=128) (by omega),Bool.and_false]
theorem YJ(h l:Nat)(m n:Int):bp (h|||gF m) (l|||gG m) n=(bp h l n||(decide (m=n)&&gX n)):=by rw[acV,abg]
theorem zft{h l:Nat}{n:Int}(hh:bp h l n=true):1<=n/\n<=128:=by
 unfold bp at hh
 split at hh
 ·omega
 ·split at hh
  ·omega
  ·cases hh
theorem abu{h l h' l':Nat}(hh:h<cB)(hl:l<cB)(yH:h'<cB)(uh:l'<cB)(e:∀n:Int,1<=n->n<=128->bp h l n=bp h' l' n):h=h'/\l=l':=by
 constructor
 ·apply Nat.eq_of_testBit_eq
  intro i
  by_cases hi:i<64
  ·have:=e (64-i) (by omega) (by omega)
   unfold bp at this
   rw[if_pos (by omega),if_pos (by omega)] at this
   have e2:(64-(64-(i:Int))).toNat=i:=by omega
   rwa [e2] at this
  ·rw[Nat.testBit_lt_two_pow (Nat.lt_of_lt_of_le hh (Nat.pow_le_pow_right (n:=2) (by decide) (by omega:64<=i))),Nat.testBit_lt_two_pow (Nat.lt_of_lt_of_le yH (Nat.pow_le_pow_right (n:=2) (by decide) (by omega:64<=i)))]
 ·apply Nat.eq_of_testBit_eq
  intro i
  by_cases hi:i<64
  ·have:=e (128-i) (by omega) (by omega)
   unfold bp at this
   have h1:¬(1<=128-(i:Int)/\128-(i:Int)<=64):=by omega
   have h2:65<=128-(i:Int)/\128-(i:Int)<=128:=by omega
   rw[if_neg h1,if_pos h2,if_neg h1,if_pos h2] at this
   have e2:(128-(128-(i:Int))).toNat=i:=by omega
   rwa [e2] at this
  ·rw[Nat.testBit_lt_two_pow (Nat.lt_of_lt_of_le hl (Nat.pow_le_pow_right (n:=2) (by decide) (by omega:64<=i))),Nat.testBit_lt_two_pow (Nat.lt_of_lt_of_le uh (Nat.pow_le_pow_right (n:=2) (by decide) (by omega:64<=i)))]
def cg(l:List Int):Nat:=l.foldl (fun a n=>a|||gF n) 0
def cn(l:List Int):Nat:=l.foldl (fun a n=>a|||gG n) 0
theorem zql(f:Int->Nat)(hf:∀n,f n<cB)(l:List Int):∀a,a<cB->l.foldl (fun a n=>a|||f n) a<cB:=by
 induction l with
 |nil=>intro a h;exact h
 |cons x r ih=>intro a h;exact ih _ (rC h (hf x))
theorem pK(l:List Int):cg l<cB:=zql _ Ng l 0 (by decide)
theorem pM(l:List Int):cn l<cB:=zql _ Nh l 0 (by decide)
theorem YH(l:List Int):∀(a b:Nat) (n:Int),bp (l.foldl (fun a n=>a|||gF n) a) (l.foldl (fun a n=>a|||gG n) b) n=(bp a b n||(decide (n∈l)&&gX n)):=by
 induction l with
 |nil=>intro a b n;simp
 |cons x r ih=>
  intro a b n
  rw[List.foldl_cons,List.foldl_cons,ih,YJ]
  by_cases h1:x=n
  ·subst h1;cases gX x<;>simp
  ·have:n≠x:=fun e=>h1 e.symm
   simp [h1,this]
theorem BW(l:List Int)(n:Int):bp (cg l) (cn l) n=(decide (n∈l)&&gX n):=by
 unfold cg cn
 rw[YH]
 have:bp 0 0 n=false:=by unfold bp;simp
 rw[this];simp
theorem abk(xs:List Int)(hx:xs.length<=9223372036854775807)(b0:sN):∀(n j k:Nat) (a b:Nat),j+n=xs.length->n<k->a<cB->b<cB->
 xH k xs (xs.length:Int) j b0 ((a:Int),(b:Int),())=some (b0,((((xs.drop j).foldl (fun a n=>a|||gF n) a:Nat):Int),(((xs.drop j).foldl (fun a n=>a|||gG n) b:Nat):Int),())):=by
 intro n
 induction n with
 |zero=>
  intro j k a b hj hk ha hb
  obtain⟨k,rfl⟩:∃k',k=k'+1:=⟨k-1,by omega⟩
  rw[xH,Jn,zF (by omega),List.drop_eq_nil_of_le (by omega)];rfl
 |succ n ih=>
  intro j k a b hj hk ha hb
  obtain⟨k,rfl⟩:∃k',k=k'+1:=⟨k-1,by omega⟩
  have ar:j<xs.length:=by omega
  have EY:xs.getD ((j:Int)).toNat 0=xs[j]:=by rw[Int.toNat_natCast,List.getD_eq_getElem?_getD,List.getElem?_eq_getElem ar];rfl
  rw[xH,Jn,zT (by omega),zC,zi ar,EY,GR a b ha hb,zc,zw (by omega),ih (j+1) k _ _ (by omega) (by omega) (rC ha (Ng _)) (rC hb (Nh _)),List.drop_eq_getElem_cons ar]
  rfl
theorem vr(xs:List Int)(hx:xs.length<=maxLen):sc xs=some ((cg xs:Int),(cn xs:Int),()):=by
 rw[zj] at hx
 unfold sc Oz
 have:=abk xs hx (0,0,()) xs.length 0 ag 0 0 (by omega) (by rw[zr];omega) (by decide) (by decide)
 simp only[OA]
 have e:xH ag xs (xs.length:Int) 0 (0,0,()) (0,0,())=_:=this
 rw[e];rfl
def lP:List Int:=(List.range 128).map fun k:Nat=>((k+1:Nat):Int)
theorem YX(n:Int):n∈lP↔1<=n/\n<=128:=by
 unfold lP
 constructor
 ·intro h
  obtain⟨k,hk,rfl⟩:=List.mem_map.1 h
  have:=List.mem_range.1 hk
  omega
 ·intro h
  exact List.mem_map.2 ⟨(n-1).toNat,List.mem_range.2 (by omega),by omega⟩
theorem SU:lP.Pairwise (· < ·):=by
 unfold lP
 exact List.Pairwise.map _ (fun a b h=>by omega) List.pairwise_lt_range
def elems(h l:Nat):List Int:=lP.filter (bp h l)
theorem Bq(h l:Nat)(n:Int):n∈elems h l↔bp h l n=true:=by
 unfold elems
 rw[List.mem_filter,YX]
 exact⟨fun h=>h.2,fun h=>⟨zft h,h⟩⟩
theorem z8o(h l:Nat):(elems h l).Pairwise (· < ·):=SU.filter _
def gm(h l:Nat)(n:Int):Int:=((elems h l).filter fun m=>decide (n<m)).headD 0
def Ny(h l:Nat)(n r:Int):Prop:=(r=0/\∀m,n<m->bp h l m=false)\/(n<r/\bp h l r=true/\∀m,n<m->m<r->bp h l m=false)
theorem YY(h l:Nat)(n:Int):Ny h l n (gm h l n):=by
 unfold gm
 cases hf:(elems h l).filter fun m=>decide (n<m) with
 |nil=>
  left
  refine⟨rfl,fun m hm=> ?_⟩
  cases hb:bp h l m with
  |false=>rfl
  |true=>
   have:m∈(elems h l).filter fun m=>decide (n<m):=List.mem_filter.2 ⟨(Bq h l m).2 hb,by simpa using hm⟩
   rw[hf] at this;cases this
 |cons x r=>
  right
  have hx:x∈(elems h l).filter fun m=>decide (n<m):=by rw[hf];simp
  obtain⟨h1,h2⟩:=List.mem_filter.1 hx
  refine⟨by simpa using h2,(Bq h l x).1 h1,fun m hm hmx=> ?_⟩
  cases hb:bp h l m with
  |false=>rfl
  |true=>
   have fx:m∈(elems h l).filter fun m=>decide (n<m):=List.mem_filter.2 ⟨(Bq h l m).2 hb,by simpa using hm⟩
   have hs:=(z8o h l).filter (fun m=>decide (n<m))
   rw[hf] at fx hs
   rcases List.mem_cons.1 fx with e|e
   ·simp only[List.headD_cons] at hmx;omega
   ·have:=(List.pairwise_cons.1 hs).1 m e
    simp only[List.headD_cons] at hmx;omega
theorem zyg{h l:Nat}{n r q:Int}(h1:Ny h l n r)(h2:Ny h l n q):r=q:=by
 rcases h1 with⟨e,a⟩|⟨e,a,b⟩<;>rcases h2 with⟨e',a'⟩|⟨e',a',b'⟩
 ·rw[e,e']
 ·rw[a q e'] at a';cases a'
 ·rw[a' r e] at a;cases a
 ·rcases Int.lt_trichotomy r q with h|h|h
  ·rw[b' r e h] at a;cases a
  ·exact h
  ·rw[b q e' h] at a';cases a'
theorem zy6(x n:Nat)(hx:x<cB)(hn:n<=64):
 (x*2^n % cB=0/\∀i,i<64-n->x.testBit i=false)\/
 (x*2^n % cB≠0/\zy (x*2^n % cB)<=64/\n<zy (x*2^n % cB)/\x.testBit (zy (x*2^n % cB)-1-n)=true/\∀i,zy (x*2^n % cB)-1-n<i->i<64-n->x.testBit i=false):=by
 have hb:∀i,(x*2^n % cB).testBit i=(decide (i<64)&&(decide (n<=i)&&x.testBit (i-n))):=by
  intro i
  rw[show cB=2^64 from rfl,Nat.testBit_mod_two_pow,Nat.testBit_mul_two_pow]
 generalize x*2^n % cB=r at hb
 have hr:∀i,i<64-n->x.testBit i=r.testBit (i+n):=by
  intro i hi
  rw[hb,zT (by omega),zT (by omega),Nat.add_sub_cancel];rfl
 by_cases h0:r=0
 ·left
  refine⟨h0,fun i hi=> ?_⟩
  rw[hr i hi,h0];simp
 ·right
  obtain⟨g1,g2⟩:=Ky r
  obtain⟨g3,g4⟩:=g2 h0
  have Qs:r.testBit (zy r-1)=true:=by
   rw[Nat.testBit_eq_decide_div_mod_eq]
   have hp:=Nat.two_pow_pos (zy r-1)
   have:r/2^(zy r-1)=1:=by
    apply Nat.div_eq_of_lt_le
    ·omega
    ·have:2^zy r=2*2^(zy r-1):=by
      rw[<-Nat.pow_succ'];congr 1;omega
     omega
   rw[this];rfl
  have ar:=Qs
  rw[hb] at ar
  simp only[Bool.and_eq_true,decide_eq_true_eq] at ar
  refine⟨h0,by omega,by omega,?_,fun i h1 h2=> ?_⟩
  ·exact ar.2.2
  ·rw[hr i h2]
   exact Nat.testBit_lt_two_pow (Nat.lt_of_lt_of_le g1 (Nat.pow_le_pow_right (by decide) (by omega)))
theorem Hk(x n:Nat)(hn:n<=64):IntKind.u64.wrap ((x:Int)*2^min ((n:Int)).toNat 64)=((x*2^n % cB:Nat):Int):=by
 rw[Hp,Int.toNat_natCast,Nat.min_eq_left hn]
 have e:((x:Int)*2^n)=((x*2^n:Nat):Int):=by simp
 rw[e];rfl
theorem Gw(h l:Nat)(hh:h<cB)(hl:l<cB)(n:Int)(hn1: -9223372036854775808<=n)(hn2:n<=9223372036854775807):AX ((h:Int),(l:Int),()) n=some (gm h l n):=by
 have goal:∀r,Ny h l n r->some r=some (gm h l n):=fun r hr=>by rw[zyg hr (YY h l n)]
 unfold AX OD
 obtain⟨m,hm,hmn⟩:∃m:Nat,(if n<(0:Int) then(0:Int) else n)=(m:Int)/\(n<=(m:Int)/\(0<=n->n=m)/\(n<0->m=0)):=by
  by_cases h0:n<0
  ·exact⟨0,by rw[if_pos h0];rfl,by omega,by omega,by omega⟩
  ·exact⟨n.toNat,by rw[if_neg h0];omega,by omega,by omega,by omega⟩
 have ui:∀k:Int,k<=0->bp h l k=false:=fun k hk=>by unfold bp;rw[if_neg (by omega),if_neg (by omega)]
 have low:∀(jv base:Nat),jv<=64->(jv<64->base=64+jv)->(jv=64->128<=base)->(m:Int)<=base->base<=9223372036854775807->(∀k,n<k->k<=base->k<=128->bp h l k=false)->
  (bif !(decide (IntKind.u64.wrap ((l:Int)*2^min ((jv:Int)).toNat 64)=0)) then(lg (IntKind.u64.wrap ((l:Int)*2^min ((jv:Int)).toNat 64))).bind (fun r=>some (zW zI (zW zI ((base:Int)+r)+1))) else some 0)=some (gm h l n):=by
  intro jv base h1 h2 h2' h3 ade h4
  rw[Hk l jv h1]
  have ar:l*2^jv % cB<cB:=Nat.mod_lt _ (by decide)
  rcases zy6 l jv hl h1 with⟨e,w⟩|⟨e,w1,w2,w3,w4⟩
  ·rw[e,zT (by rfl)]
   refine goal 0 (.inl ⟨rfl,fun k hk=> ?_⟩)
   by_cases wO:k<=base/\k<=128
   ·exact h4 k hk wO.1 wO.2
   ·unfold bp
    by_cases A9:65<=k/\k<=128
    ·rw[if_neg (by omega),if_pos A9]
     exact w _ (by omega)
    ·by_cases hk4:1<=k/\k<=64
     ·omega
     ·rw[if_neg hk4,if_neg A9]
  ·have Qq:jv<64:=by omega
   have iX:=h2 Qq
   rw[zF (by omega)]
   simp only[Bool.not_false,zC]
   rw[z90 _ ar,zc,zg (x:=(base:Int)+_) (by omega) (by omega),zg (by omega) (by omega)]
   refine goal _ (.inr ⟨by omega,?_,fun k Ka wO=> ?_⟩)
   ·unfold bp
    rw[if_neg (by omega),if_pos (by omega)]
    have:(128-((base:Int)+((64-zy (l*2^jv % cB):Nat):Int)+1)).toNat=zy (l*2^jv % cB)-1-jv:=by omega
    rw[this];exact w3
   ·by_cases A9:k<=base
    ·exact h4 k Ka A9 (by omega)
    ·unfold bp
     rw[if_neg (by omega),if_pos (by omega)]
     exact w4 _ (by omega) (by omega)
 simp only[hm]
 by_cases c1:m<64
 ·rw[zT (by omega),zC,zF (by omega),zD,Hk h m (by omega)]
  have ar:h*2^m % cB<cB:=Nat.mod_lt _ (by decide)
  rcases zy6 h m hh (by omega) with⟨e,w⟩|⟨e,w1,w2,w3,w4⟩
  ·rw[e,zT (by rfl)]
   have:=low 0 64 (by omega) (by omega) (by omega) (by omega) (by omega) (fun k Ka wO _=>by
    by_cases A9:1<=k
    ·unfold bp
     rw[if_pos (by omega)]
     exact w _ (by omega)
    ·exact ui k (by omega))
   exact this
  ·rw[zF (by omega)]
   simp only[Bool.not_false,zC]
   rw[z90 _ ar,zc,zg (x:=(m:Int)+_) (by omega) (by omega),zg (by omega) (by omega)]
   refine goal _ (.inr ⟨by omega,?_,fun k Ka wO=> ?_⟩)
   ·unfold bp
    rw[if_pos (by omega)]
    have:(64-((m:Int)+((64-zy (h*2^m % cB):Nat):Int)+1)).toNat=zy (h*2^m % cB)-1-m:=by omega
    rw[this];exact w3
   ·by_cases A9:1<=k
    ·unfold bp
     rw[if_pos (by omega)]
     exact w4 _ (by omega) (by omega)
    ·exact ui k (by omega)
 ·rw[zF (by omega),zD,zg (x:=(m:Int)-64) (by omega) (by omega)]
  have adh:((m:Int)-64)=((m-64:Nat):Int):=by omega
  obtain⟨jv,hs,EV⟩:∃jv:Nat,(if(64:Int)<(m:Int)-64 then(64:Int) else(m:Int)-64)=(jv:Int)/\jv<=64/\(jv<64->m=64+jv)/\(jv=64->128<=m):=by
   by_cases h0:(64:Int)<(m:Int)-64
   ·exact⟨64,by rw[if_pos h0];rfl,by omega,by omega,by omega⟩
   ·exact⟨m-64,by rw[if_neg h0];omega,by omega,by omega,by omega⟩
  simp only[hs]
  rw[zF (by omega),zD]
  exact low jv m EV.1 EV.2.1 EV.2.2 (by omega) (by omega) (fun k Ka wO _=>by omega)
theorem zxj(n a:Nat)(h:a<2^n):(BitVec.ofInt n (a:Int)).toNat=a:=by
 rw[BitVec.toNat_ofInt]
 have h2:((a:Int)% ((2^n:Nat):Int))=((a % 2^n:Nat):Int):=by rfl
 rw[h2,Int.toNat_natCast,Nat.mod_eq_of_lt h]
theorem Sn{k:IntKind}{a b:Nat}(ha:a<2^k.bits)(hb:b<2^k.bits):aD .or k a b=k.wrap ((a|||b:Nat):Int):=by
 simp only[aD,BitVec.toNat_or,zxj _ _ ha,zxj _ _ hb]
theorem F9{x y:Int}(hx:zn x)(hy:zn y):aD .or .i64 (zW zI (zW zI x*2^min (8:Int).toNat 64)) (zW zI y)=x*256+y:=by
 unfold zn at hx hy
 obtain⟨x,rfl⟩:=Int.eq_ofNat_of_zero_le hx.1
 obtain⟨y,rfl⟩:=Int.eq_ofNat_of_zero_le hy.1
 rw[vf (by omega),vf (by omega)]
 have h1:((x:Int)*(2:Int)^min (8:Int).toNat 64)=((x<<<8:Nat):Int):=by
  rw[Nat.shiftLeft_eq];rfl
 have h3:x<<<8=x*256:=by rw[Nat.shiftLeft_eq]
 rw[h1,vf (by omega),Sn (by simp only[IntKind.bits];omega) (by simp only[IntKind.bits];omega),<-Nat.shiftLeft_add_eq_or_of_lt (by omega:y<2^8),h3,vf (by omega)]
 omega
theorem VE{b:List Int}(hb:∀x∈b,zn x)(i:Nat):zn (b.getD i 0):=by
 rw[List.getD_eq_getElem?_getD]
 cases h:b[i]? with
 |none=>exact⟨by simp,by simp⟩
 |some x=>exact hb x (List.mem_of_getElem? h)
abbrev Fr:=Int×Bool×List Int×Unit
section
variable {α:Type} [DecidableEq α]
end
end bn

namespace bn
open Go.IntKind renaming wrap->zW,i64->zI,u8->zU
open Go Go.Ref
theorem YI{l:List Int}{j:Nat}(h:j<l.length):l.getD ((j:Int)).toNat 0=l[j]:=by
 rw[Int.toNat_natCast,List.getD_eq_getElem?_getD,List.getElem?_eq_getElem h];rfl
theorem Y3:lP.length=128:=by unfold lP;simp
abbrev Spec:=Int×Int×Int×Int×Int×Unit
abbrev zf:=Int×Int×List Spec×Unit
abbrev dU:Spec:=(0,0,0,0,0,())
theorem Nv(c:Int):vu c=some (if c=1 then 1 else if c=2 then 2 else if c=3 then 3 else if c=4 then 7 else if c=5 then 15 else if c=6 then 15 else 0):=by
 unfold vu N1
 simp only[aaV]
 repeat' split
 all_goals rfl
theorem zle(c:Int):xX c=some (decide (1<=c/\c<=6)):=by
 unfold xX NR
 rw[Nv,zc]
 congr 1
 by_cases h1:c=1
 ·subst h1;rfl
 by_cases h2:c=2
 ·subst h2;rfl
 by_cases h3:c=3
 ·subst h3;rfl
 by_cases h4:c=4
 ·subst h4;rfl
 by_cases h5:c=5
 ·subst h5;rfl
 by_cases h6:c=6
 ·subst h6;rfl
 rw[if_neg h1,if_neg h2,if_neg h3,if_neg h4,if_neg h5,if_neg h6,zF (p:=1<=c/\c<=6) (by omega)]
 rfl
theorem Cl:ox 2=some 99:=by kernel_rfl
theorem Cm:ox 3=some 999:=by kernel_rfl
def bc(s:Spec):Int:=
 if s.1<2\/128<s.1 then 1 else if s.2.1<1\/6<s.2.1 then 6 else if s.2.2.1<1\/3<s.2.2.1 then 3
 else if s.2.2.2.1<1\/s.2.2.2.2.1<s.2.2.2.1\/(s.2.2.1=2/\99<s.2.2.2.2.1)\/999<s.2.2.2.2.1\/(s.2.2.1=1/\¬s.2.2.2.1=s.2.2.2.2.1) then 5
 else if s.2.2.1=1/\s.2.1=6 then 13 else 0
theorem H6(s:Spec):kl s=some (bc s):=by
 obtain⟨no,c,f,mn,mx,u⟩:=s
 unfold kl Mx bc
 simp only[zle,zc]
 by_cases h1:no<2\/128<no
 ·rw[if_pos h1]
  rcases h1 with h|h
  ·rw[zT h];rfl
  ·rw[zT h];cases decide (no<2)<;>rfl
 rw[if_neg h1,zF (by omega),zF (by omega)]
 by_cases h2:c<1\/6<c
 ·rw[if_pos h2,zF (p:=1<=c/\c<=6) (by omega)];rfl
 rw[if_neg h2,zT (p:=1<=c/\c<=6) (by omega)]
 simp only[zD,Bool.not_true]
 by_cases h3:f<1\/3<f
 ·rw[if_pos h3]
  rcases h3 with h|h
  ·rw[zT h];rfl
  ·rw[zT h];cases decide (f<1)<;>rfl
 rw[if_neg h3,zF (by omega),zF (by omega)]
 simp only[zD]
 by_cases h4:mn<1\/mx<mn\/999<mx
 ·rw[if_pos (by omega)]
  by_cases a:mn<1
  ·rw[zT a];rfl
  rw[zF a]
  by_cases b:mx<mn
  ·rw[zT b];rfl
  rw[zF b,zT (by omega)];rfl
 rw[zF (by omega),zF (by omega),zF (by omega)]
 simp only[zD]
 by_cases f1:f=1
 ·rw[zT f1]
  simp only[zC,Bool.not_true,zD]
  by_cases e:mn=mx
  ·rw[zT e,if_neg (by omega)]
   by_cases e6:c=6
   ·rw[zT e6,if_pos (by omega)];rfl
   ·rw[zF e6,if_neg (by omega)];rfl
  ·rw[zF e,if_pos (by omega)];rfl
 ·rw[zF f1]
  simp only[zD,Bool.not_false,zC]
  by_cases f2:f=2
  ·subst f2
   rw[Cl,zc]
   by_cases h:99<mx
   ·rw[zT h,if_pos (by omega)];rfl
   ·rw[zF h,if_neg (by omega),if_neg (by omega)];rfl
  ·have f3:f=3:=by omega
   subst f3
   rw[Cm,zc,zF (by omega),if_neg (by omega),if_neg (by omega)];rfl
theorem rR(s:Spec):sd s=some (bc s):=by
 obtain⟨no,c,f,mn,mx,u⟩:=s
 unfold sd Pa bc
 simp only
 by_cases h1:no<2\/128<no
 ·rw[if_pos h1]
  rcases h1 with h|h
  ·rw[zT h];rfl
  ·rw[zT h];cases decide (no<2)<;>rfl
 rw[if_neg h1,zF (by omega),zF (by omega)]
 by_cases h2:c<1\/6<c
 ·rw[if_pos h2]
  rcases h2 with h|h
  ·rw[zT h];rfl
  ·rw[zT h];cases decide (c<1)<;>rfl
 rw[if_neg h2,zF (by omega),zF (by omega)]
 by_cases h3:f<1\/3<f
 ·rw[if_pos h3]
  rcases h3 with h|h
  ·rw[zT h];rfl
  ·rw[zT h];cases decide (f<1)<;>rfl
 rw[if_neg h3,zF (by omega),zF (by omega)]
 simp only[zD]
 by_cases f1:f=1
 ·rw[zT f1,zF (by omega:¬f=2)]
  simp only[zC,zD]
  by_cases a:mn<1
  ·rw[zT a,if_pos (by omega)];rfl
  rw[zF a]
  by_cases b:mx<mn
  ·rw[zT b,if_pos (by omega)];rfl
  rw[zF b]
  by_cases d:999<mx
  ·rw[zT d,if_pos (by omega)];rfl
  rw[zF d]
  by_cases e:mn=mx
  ·rw[zT e,if_neg (by omega)]
   by_cases e6:c=6
   ·rw[zT e6,if_pos (by omega)];rfl
   ·rw[zF e6,if_neg (by omega)];rfl
  ·rw[zF e,if_pos (by omega)];rfl
 ·rw[zF f1]
  simp only[zD]
  by_cases f2:f=2
  ·rw[zT f2]
   simp only[zC]
   by_cases a:mn<1
   ·rw[zT a,if_pos (by omega)];rfl
   rw[zF a]
   by_cases b:mx<mn
   ·rw[zT b,if_pos (by omega)];rfl
   rw[zF b]
   by_cases d:99<mx
   ·rw[zT d,if_pos (by omega)];rfl
   rw[zF d,if_neg (by omega),if_neg (by omega)];rfl
  ·rw[zF f2]
   simp only[zD]
   by_cases a:mn<1
   ·rw[zT a,if_pos (by omega)];rfl
   rw[zF a]
   by_cases b:mx<mn
   ·rw[zT b,if_pos (by omega)];rfl
   rw[zF b]
   by_cases d:999<mx
   ·rw[zT d,if_pos (by omega)];rfl
   rw[zF d,if_neg (by omega),if_neg (by omega)];rfl
def fV:List Spec->Int->Int->Int×Int
 | [],_,_=>(0,0)
 |x::r,i,last=>if bc x≠0 then(bc x,i) else if x.1<=last then(11,i) else fV r (i+1) x.1
def gB(s:zf):Int×Int:=
 if¬(s.1=1\/s.1=2) then(1,-1) else if s.2.1<0\/9<s.2.1 then(7,-1) else fV s.2.2.1 0 0
theorem K2{x:Spec}(h:bc x=0):2<=x.1/\x.1<=128:=by
 unfold bc at h
 split at h
 ·cases h
 ·omega
def PQ(e:Sum (Int×Int) Unit):Option (Int×Int):=Sum.elim (fun we=>some (we.1,we.2)) (fun _=>some (0,0)) e
theorem zww(l:List Spec):∀(i:Int) (last:Int),PQ (if(fV l i last).1=0 then .inr () else .inl (fV l i last))=some (fV l i last):=by
 intro i last
 by_cases h:(fV l i last).1=0
 ·rw[if_pos h]
  have:fV l i last=(0,0):=by
   induction l generalizing i last with
   |nil=>rfl
   |cons x r ih=>
    unfold fV at h⊢
    split
    ·rename_i h1;rw[if_pos h1] at h;exact absurd h h1
    ·rename_i h1
     rw[if_neg h1] at h
     split
     ·rename_i h2;rw[if_pos h2] at h;cases h
     ·rename_i h2;rw[if_neg h2] at h;exact ih _ _ h
  rw[this];rfl
 ·rw[if_neg h];rfl
theorem Sg(s:zf)(hl:s.2.2.1.length<=maxLen):uX ag 0 0 s=some (if(fV s.2.2.1 0 0).1=0 then .inr () else .inl (fV s.2.2.1 0 0)):=by
 have h:=n3 dU s.2.2.1 hl (fun i x (last:Int) K=>if bc x≠0 then some (.inl (bc x,i)) else if x.1<=last then some (.inl (11,i)) else K x.1) (fun _=>some (.inr ())) (fun k i last=>uX k last i s)
  (fun k i last h0 h1=>by
    rw[uX,Iw,zT h1]
    simp only[zC,zm h0 h1,rR,zc]
    by_cases hc:bc (s.2.2.1.getD i.toNat dU)=0
    ·rw[zT hc,if_neg (fun h=>h hc)]
     simp only[Bool.not_true,zD]
     by_cases hn:(s.2.2.1.getD i.toNat dU).1<=last
     ·rw[zT hn,if_pos hn];rfl
     ·rw[zF hn,if_neg hn];rfl
    ·rw[zF hc,if_pos hc];rfl)
  (fun k last=>by rw[uX,Iw,zF (by omega)];rfl) 0
 rw[h]
 clear h hl
 generalize s.2.2.1=l
 suffices∀(i last:Int),bj (fun i (x:Spec) (last:Int) K=>if bc x≠0 then some (Sum.inl (bc x,i)) else if x.1<=last then some (.inl (11,i)) else K x.1) (fun _=>some (.inr ())) l i last=some (if(fV l i last).1=0 then(.inr ():Sum (Int×Int) Unit) else .inl (fV l i last)) from this 0 0
 induction l with
 |nil=>intro i last;rfl
 |cons x r ih=>
  intro i last
  rw[bj,fV]
  by_cases hc:bc x≠0
  ·rw[if_pos hc,if_pos hc,if_neg hc]
  ·rw[if_neg hc,if_neg hc]
   by_cases hn:x.1<=last
   ·rw[if_pos hn,if_pos hn];rfl
   ·rw[if_neg hn,if_neg hn];exact ih _ _
theorem S0(s:zf)(hl:s.2.2.1.length<=maxLen):pR s=some (gB s):=by
 unfold pR BB gB
 have hx:=zww s.2.2.1 0 0
 have qP:(uX ag 0 0 s).bind (fun e=>Sum.elim (fun(we:Int×Int)=>K5 we.1 we.2 fun a0 a1=>some (a0,a1)) (fun(we:Unit)=>K6 fun a0 a1=>some (a0,a1)) e)=some (fV s.2.2.1 0 0):=by
  rw[Sg s hl,zc];exact hx
 dsimp only
 rw[qP]
 by_cases h1:s.1=1
 ·rw[zT h1,if_neg (by omega)]
  by_cases h2:s.2.1<0
  ·rw[zT h2,if_pos (.inl h2)];rfl
  ·rw[zF h2]
   by_cases h3:9<s.2.1
   ·rw[zT h3,if_pos (.inr h3)];rfl
   ·rw[zF h3,if_neg (by omega)];rfl
 ·rw[zF h1]
  by_cases h0:s.1=2
  ·rw[zT h0,if_neg (by omega)]
   by_cases h2:s.2.1<0
   ·rw[zT h2,if_pos (.inl h2)];rfl
   ·rw[zF h2]
    by_cases h3:9<s.2.1
    ·rw[zT h3,if_pos (.inr h3)];rfl
    ·rw[zF h3,if_neg (by omega)];rfl
  ·rw[zF h0,if_pos (by omega)];rfl
theorem VF{l:List Spec}{j:Nat}(h:j<l.length):l.getD ((j:Int)).toNat ((0:Int),(0:Int),(0:Int),(0:Int),(0:Int),())=l[j]:=by
 rw[Int.toNat_natCast,List.getD_eq_getElem?_getD,List.getElem?_eq_getElem h];rfl
theorem fL(s:zf)(hl:s.2.2.1.length<=9223372036854775807):∀(m j k:Nat) (last:Int),j+m=s.2.2.1.length->m<k->(j=0->last=0)->(∀h:0<j,last=(s.2.2.1.getD (j-1) dU).1)->
 xE k s.2.2.1 (s.2.2.1.length:Int) j s=some (if(fV (s.2.2.1.drop j) j last).1=0 then .inr () else .inl (fV (s.2.2.1.drop j) j last)):=by
 intro m
 induction m with
 |zero=>
  intro j k last hj hk h0 h1
  obtain⟨k,rfl⟩:∃k',k=k'+1:=⟨k-1,by omega⟩
  rw[xE,IX,zF (by omega),List.drop_eq_nil_of_le (by omega)];rfl
 |succ m ih=>
  intro j k last hj hk h0 h1
  obtain⟨k,rfl⟩:∃k',k=k'+1:=⟨k-1,by omega⟩
  have ar:j<s.2.2.1.length:=by omega
  have QE:=ih (j+1) k (s.2.2.1[j]).1 (by omega) (by omega) (by omega) (fun _=>by
   rw[Nat.add_sub_cancel,List.getD_eq_getElem?_getD,List.getElem?_eq_getElem ar];rfl)
  rw[xE,IX,zT (by omega),zC,zi ar,VF ar,H6,zc,zw (by omega),List.drop_eq_getElem_cons ar]
  rw[show((j+1:Nat):Int)=(j:Int)+1 from rfl] at QE⊢
  by_cases hc:bc s.2.2.1[j]=0
  ·rw[zT hc]
   simp only[Bool.not_true,zD]
   have qU:=K2 hc
   by_cases hz:j=0
   ·have qN:=h0 hz
    have e:fV (s.2.2.1[j]::s.2.2.1.drop (j+1)) j last=fV (s.2.2.1.drop (j+1)) ((j:Int)+1) (s.2.2.1[j]).1:=by
     rw[fV,if_neg (fun h=>h hc),if_neg (by omega)]
    rw[zF (by omega),zD,e]
    exact QE
   ·have qN:=h1 (by omega)
    have hi:zW zI ((j:Int)-1)=((j-1:Nat):Int):=by rw[zg (by omega) (by omega)];omega
    rw[zT (by omega),zC,hi,zi (by omega),Int.toNat_natCast]
    by_cases hn:(s.2.2.1[j]).1<=last
    ·have e:fV (s.2.2.1[j]::s.2.2.1.drop (j+1)) j last=(11,(j:Int)):=by
      rw[fV,if_neg (fun h=>h hc),if_pos hn]
     rw[e,zT (by rw[<-qN];exact hn)];rfl
    ·have e:fV (s.2.2.1[j]::s.2.2.1.drop (j+1)) j last=fV (s.2.2.1.drop (j+1)) ((j:Int)+1) (s.2.2.1[j]).1:=by
      rw[fV,if_neg (fun h=>h hc),if_neg hn]
     rw[e,zF (by rw[<-qN];exact hn)]
     exact QE
  ·have e:fV (s.2.2.1[j]::s.2.2.1.drop (j+1)) j last=(bc s.2.2.1[j],(j:Int)):=by
    rw[fV,if_pos hc]
   rw[zF hc,e,if_neg hc];rfl
theorem z85(s:zf)(hl:s.2.2.1.length<=maxLen):lk s=some (gB s):=by
 rw[zj] at hl
 unfold lk BF gB
 have hx:=zww s.2.2.1 0 0
 have EA:=fL s hl s.2.2.1.length 0 ag 0 (by omega) (by rw[zr];omega) (fun _=>rfl) (fun h=>absurd h (by omega))
 rw[List.drop_zero,show((0:Nat):Int)=0 from rfl] at EA
 have qP:(xE ag s.2.2.1 (s.2.2.1.length:Int) 0 s).bind (fun e=>Sum.elim (fun(we:Int×Int)=>Mm we.1 we.2 fun a0 a1=>some (a0,a1)) (fun(we:Unit)=>Mn fun a0 a1=>some (a0,a1)) e)=some (fV s.2.2.1 0 0):=by
  rw[EA,zc];exact hx
 dsimp only
 rw[qP]
 by_cases h1:s.1=1
 ·rw[zT h1,if_neg (by omega)]
  by_cases h2:s.2.1<0
  ·rw[zT h2,if_pos (.inl h2)];rfl
  ·rw[zF h2]
   by_cases h3:9<s.2.1
   ·rw[zT h3,if_pos (.inr h3)];rfl
   ·rw[zF h3,if_neg (by omega)];rfl
 ·rw[zF h1]
  by_cases h0:s.1=2
  ·rw[zT h0,if_neg (by omega)]
   by_cases h2:s.2.1<0
   ·rw[zT h2,if_pos (.inl h2)];rfl
   ·rw[zF h2]
    by_cases h3:9<s.2.1
    ·rw[zT h3,if_pos (.inr h3)];rfl
    ·rw[zF h3,if_neg (by omega)];rfl
  ·rw[zF h0,if_pos (by omega)];rfl
def eV(l:List Spec)(no:Int):Option Spec:=l.find? fun x=>decide (x.1=no)
def fR:List Spec->Int->Int->Int
 | [],_,_=> -1
 |x::r,no,i=>if x.1=no then i else fR r no (i+1)
theorem Zv(s:zf)(no:Int)(hl:s.2.2.1.length<=maxLen):eD s no=some (match eV s.2.2.1 no with|some x=>(x,true)|none=>(dU,false)):=by
 unfold eD Mo eV
 dsimp only
 have h:=cf dU s.2.2.1 hl (fun i x (_:Unit) K=>bif decide (x.1=no) then some (Sum.inl (true,x)) else K ()) (fun _=>some (.inr dU)) (fun k i _=>IY k no s.2.2.1 (s.2.2.1.length:Int) i dU) (fun k i _=>rfl) ()
 rw[h,]
 clear h hl
 generalize(0:Int)=i
 generalize s.2.2.1=l
 induction l generalizing i with
 |nil=>rfl
 |cons x r ih=>
  rw[bj,List.find?_cons]
  cases hx:decide (x.1=no) with
  |true=>rfl
  |false=>exact ih (i+1)
theorem Ts(l:List Spec)(no:Int):∀i:Int,0<=i->(fR l no i= -1/\eV l no=none)\/(i<=fR l no i/\fR l no i<i+l.length/\∃x,eV l no=some x/\l.getD (fR l no i-i).toNat dU=x):=by
 induction l with
 |nil=>intro i hi;left;exact⟨rfl,rfl⟩
 |cons x r ih=>
  intro i hi
  unfold fR eV
  by_cases h:x.1=no
  ·right
   rw[if_pos h,List.find?_cons,zT h]
   refine⟨by omega,by simp;omega,x,rfl,by simp⟩
  ·rw[if_neg h,List.find?_cons,zF h]
   rcases ih (i+1) (by omega) with⟨h1,h2⟩|⟨h1,h2,y,h3,h4⟩
   ·left;exact⟨h1,h2⟩
   ·right
    refine⟨by omega,by simp;omega,y,h3,?_⟩
    have:(fR r no (i+1)-i).toNat=(fR r no (i+1)-(i+1)).toNat+1:=by omega
    rw[this]
    simpa using h4
theorem zvu(s:zf)(no:Int)(hl:s.2.2.1.length<=maxLen):oj s no=some (fR s.2.2.1 no 0):=by
 unfold oj K8
 dsimp only
 have h:=cf dU s.2.2.1 hl (fun i x (_:Unit) K=>bif decide (x.1=no) then some (Sum.inl i) else K ()) (fun _=>some (.inr ())) (fun k i _=>Ix k no i s) (fun k i _=>rfl) ()
 rw[h]
 clear h hl
 generalize(0:Int)=i
 generalize s.2.2.1=l
 induction l generalizing i with
 |nil=>rfl
 |cons x r ih=>
  rw[bj,fR]
  by_cases hx:x.1=no
  ·rw[zT hx,if_pos hx];rfl
  ·rw[zF hx,if_neg hx];exact ih (i+1)
theorem zx2(n:Int):bp 0 0 n=false:=by unfold bp;simp
theorem TF{a b:zf}:a=b↔a.1=b.1/\a.2.1=b.2.1/\a.2.2.1=b.2.2.1:=by
 obtain⟨x,y,z,u⟩:=a
 obtain⟨x',y',z',u'⟩:=b
 simp
instance:DecidableEq zf:=fun a b=>decidable_of_iff _ TF.symm
def BA(l:List Spec)(last:Int):Prop:=(∀x∈l,bc x=0)/\(l.Pairwise fun x y=>x.1<y.1)/\∀x∈l,last<x.1
theorem V8(l:List Spec):∀(i last:Int),(fV l i last).1=0↔BA l last:=by
 induction l with
 |nil=>intro i last;simp [fV,BA]
 |cons x r ih=>
  intro i last
  unfold fV
  by_cases hc:bc x=0
  ·rw[if_neg (fun h=>h hc)]
   by_cases hn:x.1<=last
   ·rw[if_pos hn]
    constructor
    ·intro h;cases h
    ·intro⟨_,_,h3⟩;have:=h3 x (by simp);omega
   ·rw[if_neg hn,ih]
    constructor
    ·intro⟨h1,h2,h3⟩
     refine⟨fun y hy=> ?_,List.pairwise_cons.2 ⟨h3,h2⟩,fun y hy=> ?_⟩
     ·rcases List.mem_cons.1 hy with rfl|hy
      ·exact hc
      ·exact h1 y hy
     ·rcases List.mem_cons.1 hy with rfl|hy
      ·omega
      ·have:=h3 y hy;omega
    ·intro⟨h1,h2,h3⟩
     obtain⟨h4,h5⟩:=List.pairwise_cons.1 h2
     exact⟨fun y hy=>h1 y (by simp [hy]),h5,h4⟩
  ·rw[if_pos hc]
   constructor
   ·intro h;exact absurd h hc
   ·intro⟨h1,_,_⟩;exact absurd (h1 x (by simp)) hc
def fW(s:zf):Prop:=(s.1=1\/s.1=2)/\0<=s.2.1/\s.2.1<=9/\BA s.2.2.1 0
theorem uM(s:zf):(gB s).1=0↔fW s:=by
 unfold gB fW
 by_cases h1:s.1=1\/s.1=2
 ·rw[if_neg (fun h=>h h1)]
  by_cases h2:s.2.1<0\/9<s.2.1
  ·rw[if_pos h2]
   constructor
   ·intro h;cases h
   ·intro⟨_,a,b,_⟩;omega
  ·rw[if_neg h2,V8]
   constructor
   ·intro h;exact⟨h1,by omega,by omega,h⟩
   ·intro⟨_,_,_,h⟩;exact h
 ·rw[if_pos h1]
  constructor
  ·intro h;cases h
  ·intro⟨a,_⟩;exact absurd a h1
theorem BA.filter{l:List Spec}{last:Int}(h:BA l last)(p:Spec->Bool):BA (l.filter p) last:=
 ⟨fun x hx=>h.1 x (List.mem_filter.1 hx).1,h.2.1.filter p,fun x hx=>h.2.2 x (List.mem_filter.1 hx).1⟩
theorem zq0(s:zf)(hl:s.2.2.1.length<=maxLen):om s=some (decide ((gB s).1=0)):=by
 unfold om K9
 rw[S0 s hl,zc]
abbrev bG:=ByteArray×ByteArray×Unit
def jk:bG:=(bs [],bs [],())
instance QK (a:ByteArray) (l:List ByteArray):Decidable (a∈l):=decidable_of_iff (l.any (fun x=>decide (a=x))=true) (by
 rw[List.any_eq_true]
 exact⟨fun⟨x,hx,h⟩=>of_decide_eq_true h▸hx,fun h=>⟨a,h,zT rfl⟩⟩)
def Ei(r:Int):Sum Int Unit:=if r= -1 then .inr () else .inl r
theorem G0(j:Nat):Ei (j:Int)= .inl (j:Int):=if_neg (by omega)
def cW{K:Type}(l:List K):List (K×Bool):=l.map fun k=>(k,true)
theorem KM{K:Type}[DecidableEq K](eq:K->K->Bool)(heq:∀x y,eq x y=decide (x=y))(k:K):∀l:List K,dR eq false (cW l) k=true↔k∈l
 | []=>by simp [cW,dR]
 |x::l=>by
  simp only[cW,List.map_cons,dR,heq]
  by_cases h:k=x
  ·rw[zT h,zC];exact⟨fun _=>by rw[h];exact List.mem_cons_self,fun _=>rfl⟩
  ·rw[zF h,zD]
   have:=KM eq heq k l
   simp only[cW] at this
   rw[this]
   exact⟨fun h'=>List.mem_cons_of_mem _ h',fun h'=>(List.mem_cons.1 h').resolve_left h⟩
theorem KN{K:Type}[DecidableEq K](eq:K->K->Bool)(heq:∀x y,eq x y=decide (x=y))(k:K):∀l:List K,dS eq (cW l) k=true↔k∈l
 | []=>by simp [cW,dS]
 |x::l=>by
  simp only[cW,List.map_cons,dS,heq]
  by_cases h:k=x
  ·rw[zT h,zC];exact⟨fun _=>by rw[h];exact List.mem_cons_self,fun _=>rfl⟩
  ·rw[zF h,zD]
   have:=KN eq heq k l
   simp only[cW] at this
   rw[this]
   exact⟨fun h'=>List.mem_cons_of_mem _ h',fun h'=>(List.mem_cons.1 h').resolve_left h⟩
theorem Br{b:Bool}{p:Prop}(h:b=true↔p)(hp:¬p):b=false:=by cases b with
 |false=>rfl
 |true=>exact absurd (h.1 rfl) hp
theorem z8v{K:Type}(l:List K)(k:K):cW l++ [(k,true)]=cW (l++ [k]):=by simp [cW]
def kr:List ByteArray->List bG->Int->Option Int
 |_,[],_=>none
 |seen,p::r,i=>if p.1∈seen then some i else kr (seen++ [p.1]) r (i+1)
def JO(l:List bG):Int×Int:=if 256<l.length then(5,256) else match kr [] l 0 with
 |some i=>(10,i)
 |none=>(0,0)
def Ef(o:Option Int):Option (Sum (Int×Int) Unit):=some (match o with
 |some i=> .inl (10,i)
 |none=> .inr ())
theorem zvb(l:List bG):∀(i:Int) (seen:List ByteArray),
 bj (fun i (x:bG) (s:List iO) K=>bif dR (eU .str) false s x.1 then some (Sum.inl ((10:Int),i)) else bif dS (eU .str) s x.1 then none else K (s++ [(x.1,true)])) (fun _=>some (Sum.inr ())) l i (cW seen)=Ef (kr seen l i):=by
 induction l with
 |nil=>intro i seen;rfl
 |cons p r ih=>
  intro i seen
  simp only[bj,kr]
  have e1:=KM (eU .str) (fun _ _=>rfl) p.1 seen
  have e2:=KN (eU .str) (fun _ _=>rfl) p.1 seen
  by_cases h:p.1∈seen
  ·rw[e1.2 h,if_pos h];rfl
  ·rw[Br e1 h,Br e2 h,if_neg h,zD,zD,z8v]
   exact ih (i+1) (seen++ [p.1])
theorem zy9(l:List bG)(h:l.length<=maxLen):CD l=some (JO l):=by
 unfold CD Oe JO
 dsimp only
 by_cases hl:256<l.length
 ·rw[zT (by omega),zC,if_pos hl]
 ·rw[zF (by omega),zD,if_neg hl]
  have:=cf jk l h (fun i (x:bG) (s:List iO) K=>bif dR (eU .str) false s x.1 then some (Sum.inl ((10:Int),i)) else bif dS (eU .str) s x.1 then none else K (s++ [(x.1,true)])) (fun _=>some (Sum.inr ()))
   (fun k i s=>Jl k l (l.length:Int) i s) (fun k i s=>rfl) []
  rw[this]
  have h2:=zvb l 0 []
  rw[show cW ([]:List ByteArray)=[] from rfl] at h2
  rw[h2]
  unfold Ef
  cases kr [] l 0<;>rfl
def zx(l:List bG)(f:ByteArray):ByteArray×Bool:=match l.find? fun p=>decide (p.1=f) with
 |some p=>(p.2.1,true)
 |none=>(bs [],false)
theorem zb4(f:ByteArray)(l:List bG):∀(i:Int),bj (fun i (x:bG) (s:Unit) K=>bif decide (x.1=f) then some (Sum.inl (x.2.1,true)) else K s) (fun _=>some (Sum.inr ())) l i ()=some (match l.find? fun p=>decide (p.1=f) with
 |some p=> .inl (p.2.1,true)
 |none=> .inr ()):=by
 induction l with
 |nil=>intro i;rfl
 |cons p r ih=>
  intro i
  simp only[bj,List.find?_cons]
  by_cases h:p.1=f
  ·rw[zT h];rfl
  ·rw[zF h,zD];exact ih (i+1)
theorem zy8(l:List bG)(f:ByteArray)(h:l.length<=maxLen):CC l f=some (zx l f):=by
 unfold CC N3 zx
 dsimp only
 have:=cf jk l h (fun i (x:bG) (s:Unit) K=>bif decide (x.1=f) then some (Sum.inl (x.2.1,true)) else K s) (fun _=>some (Sum.inr ()))
  (fun k i s=>Jk k f l (l.length:Int) i) (fun k i s=>rfl) ()
 rw[this,zb4]
 cases l.find? fun p=>decide (p.1=f)<;>rfl
def kf(l:List bG):List bG:=l.map fun p=>(p.2.1,p.1,())
theorem Wk(l:List bG):(kf l).length=l.length:=by simp [kf]
def iB(c b:Int):Bool:=
 if c=1 then decide (48<=b/\b<=57)
 else if c=2 then decide (65<=b/\b<=90\/97<=b/\b<=122)
 else if c=3 then decide (48<=b/\b<=57\/65<=b/\b<=90\/97<=b/\b<=122)
 else if c=4 then decide (32<=b/\b<=126)
 else decide (c=5\/c=6)
def gA(c:Int):Int:=if c=1 then 1 else if c=2 then 2 else if c=3 then 3 else if c=4 then 7 else if c=5 then 15 else if c=6 then 15 else 0
theorem acW:∀c:Fin 7,∀b:Fin 256,vD (c.1:Int) (b.1:Int)=some (iB (c.1:Int) (b.1:Int)):=by decide+kernel
theorem HV:∀c:Fin 7,∀b:Fin 256,(xY (b.1:Int)).map (fun r=>decide (aD .and .i64 (gA (c.1:Int)) r=0))=some (!iB (c.1:Int) (b.1:Int)):=by decide+kernel
theorem zwd(c:Int):(∃k:Fin 7,c=(k.1:Int))\/(c≠1/\c≠2/\c≠3/\c≠4/\c≠5/\c≠6):=by
 by_cases h:0<=c/\c<=6
 ·exact .inl ⟨⟨c.toNat,by omega⟩,by simp;omega⟩
 ·exact .inr ⟨by omega,by omega,by omega,by omega,by omega,by omega⟩
theorem kN{b:Int}(h:zn b):∃k:Fin 256,b=(k.1:Int):=by
 unfold zn at h
 exact⟨⟨b.toNat,by omega⟩,by simp;omega⟩
theorem Zy(c:Int){b:Int}(hb:zn b):vD c b=some (iB c b):=by
 obtain⟨b,rfl⟩:=kN hb
 rcases zwd c with⟨k,rfl⟩|⟨h1,h2,h3,h4,h5,h6⟩
 ·exact acW k b
 ·unfold vD OZ iB
  simp only[h1,h2,h3,h4,h5,h6,decide_false,zD,if_false,or_self,Bool.cond_self]
theorem VT(c:Int){b:Int}(hb:zn b):∃r,xY b=some r/\decide (aD .and .i64 (gA c) r=0)= !iB c b:=by
 obtain⟨b,rfl⟩:=kN hb
 rcases zwd c with⟨k,rfl⟩|⟨h1,h2,h3,h4,h5,h6⟩
 ·have:=HV k b
  cases hc:xY (b.1:Int) with
  |none=>rw[hc] at this;cases this
  |some r=>rw[hc] at this;exact⟨r,rfl,by simpa using this⟩
 ·have:=HV 0 b
  cases hc:xY (b.1:Int) with
  |none=>rw[hc] at this;cases this
  |some r=>
   rw[hc] at this
   refine⟨r,rfl,?_⟩
   have e1:gA c=gA ((0:Fin 7).1:Int):=by unfold gA;simp [h1,h2,h3,h4,h5,h6]
   have e2:iB c (b.1:Int)=iB ((0:Fin 7).1:Int) (b.1:Int):=by unfold iB;simp [h1,h2,h3,h4,h5,h6]
   rw[e1,e2]
   simpa using this
def z31(c:Int):List Int->Int->Int
 | [],_=> -1
 |b::r,i=>if iB c b=true then z31 c r (i+1) else i
theorem zkr(c:Int):∀(l:List Int) (i:Int),0<=i->(0<=z31 c l i↔¬l.all (iB c)=true)
 | [],i,_=>by simp [z31]
 |b::r,i,hi=>by
  simp only[z31,List.all_cons]
  cases h:iB c b with
  |true=>rw[if_pos rfl,zkr c r (i+1) (by omega),Bool.true_and]
  |false=>simp [hi]
theorem zqk(c:Int)(s:ByteArray)(hs:s.size<=9223372036854775807):∀(n j k:Nat),j+n=s.size->n<k->z87 k s (gA c) (j:Int)=some (Ei (z31 c ((bl s).drop j) j))
 |n,j,0,_,hk=>by omega
 |0,j,k+1,hj,hk=>by
  unfold z87 Jj
  rw[zF (by omega),List.drop_eq_nil_of_le (by rw[zh];omega)];rfl
 |n+1,j,k+1,hj,hk=>by
  have ar:j<s.size:=by omega
  have hl:j<(bl s).length:=by rw[zh];exact ar
  have hb:zn ((bl s)[j]):=gP (List.getElem_mem hl)
  have hg:(bl s).getD j 0=(bl s)[j]:=by rw[List.getD_eq_getElem?_getD,List.getElem?_eq_getElem hl];rfl
  unfold z87 Jj
  rw[zT (by omega),zC,zi ar,Int.toNat_natCast,kW,hg,List.drop_eq_getElem_cons hl]
  obtain⟨r,h1,h2⟩:=VT c hb
  rw[h1,Option.bind_some,h2]
  simp only[z31]
  cases h:iB c (bl s)[j] with
  |true=>rw[if_pos rfl,Bool.not_true,zD,zw (by omega),zqk c s hs n (j+1) k (by omega) (by omega)];rfl
  |false=>rw[if_neg (by simp),Bool.not_false,zC,G0]
theorem WA(c:Int)(s:ByteArray)(h:s.size<=maxLen):Cv c s=some (z31 c (bl s) 0):=by
 rw[zj] at h
 unfold Cv NO
 dsimp only
 rw[Nv,Option.bind_some]
 have:=zqk c s h s.size 0 ag (by omega) (by rw[zr];omega)
 rw[show((0:Nat):Int)=(0:Int) from rfl,List.drop_zero] at this
 rw[show(if c=1 then 1 else if c=2 then 2 else if c=3 then 3 else if c=4 then 7 else if c=5 then 15 else if c=6 then 15 else 0:Int)=gA c from rfl,this,Option.bind_some]
 unfold Ei
 by_cases h:z31 c (bl s) 0= -1
 ·rw[if_pos h,h];rfl
 ·rw[if_neg h];rfl
theorem zfp(c:Int)(s:ByteArray)(hs:s.size<=9223372036854775807):∀(n j k:Nat),j+n=s.size->n<k->AO k c s (j:Int)=some (Ei (z31 c ((bl s).drop j) j))
 |n,j,0,_,hk=>by omega
 |0,j,k+1,hj,hk=>by
  unfold AO Js
  rw[zF (by omega),List.drop_eq_nil_of_le (by rw[zh];omega)];rfl
 |n+1,j,k+1,hj,hk=>by
  have ar:j<s.size:=by omega
  have hl:j<(bl s).length:=by rw[zh];exact ar
  have hb:zn ((bl s)[j]):=gP (List.getElem_mem hl)
  have hg:(bl s).getD j 0=(bl s)[j]:=by rw[List.getD_eq_getElem?_getD,List.getElem?_eq_getElem hl];rfl
  unfold AO Js
  rw[zT (by omega),zC,zi ar,Int.toNat_natCast,kW,hg,List.drop_eq_getElem_cons hl,Zy c hb,Option.bind_some]
  simp only[z31]
  cases h:iB c (bl s)[j] with
  |true=>rw[if_pos rfl,Bool.not_true,zD,zw (by omega),zfp c s hs n (j+1) k (by omega) (by omega)];rfl
  |false=>rw[if_neg (by simp),Bool.not_false,zC,G0]
theorem zbf(c:Int)(s:ByteArray)(h:s.size<=maxLen):CX c s=some (z31 c (bl s) 0):=by
 rw[zj] at h
 unfold CX OY
 dsimp only
 have:=zfp c s h s.size 0 ag (by omega) (by rw[zr];omega)
 rw[show((0:Nat):Int)=(0:Int) from rfl,List.drop_zero] at this
 rw[this,Option.bind_some]
 unfold Ei
 by_cases h:z31 c (bl s) 0= -1
 ·rw[if_pos h,h];rfl
 ·rw[if_neg h];rfl
def vp(a b:Int):Bool:=decide (1<=a/\a<=6/\1<=b/\b<=6)&&decide (aD .andNot .i64 (gA b) (gA a)=0)
theorem X9(a b:Int):Cx a b=some (vp a b):=by
 unfold Cx NW vp
 rw[zle,Option.bind_some]
 by_cases ha:1<=a/\a<=6
 ·rw[zT ha,zC,zle,Option.bind_some]
  by_cases hb:1<=b/\b<=6
  ·rw[zT hb,zC,Nv,Option.bind_some,Nv,Option.bind_some,zT (show 1<=a/\a<=6/\1<=b/\b<=6 from⟨ha.1,ha.2,hb.1,hb.2⟩),Bool.true_and]
   rfl
  ·rw[zF hb,zD,zF (fun h=>hb h.2.2)];rfl
 ·rw[zF ha,zD,zF (fun h=>ha ⟨h.1,h.2.1⟩)];rfl
theorem Wt:∀a b:Fin 7,JS (a.1:Int) (b.1:Int)=some (vp (a.1:Int) (b.1:Int)):=by decide+kernel
theorem Pm{c:Int}(h:1<=c/\c<=6):∃k:Fin 7,c=(k.1:Int):=⟨⟨c.toNat,by omega⟩,by simp;omega⟩
theorem zbi(a b:Int):JS a b=some (vp a b):=by
 by_cases h:(1<=a/\a<=6)/\(1<=b/\b<=6)
 ·obtain⟨k,rfl⟩:=Pm h.1
  obtain⟨m,rfl⟩:=Pm h.2
  exact Wt k m
 ·unfold JS z198 vp
  rw[show decide (1<=a/\a<=6/\1<=b/\b<=6)=false from zF (fun h'=>h ⟨⟨h'.1,h'.2.1⟩,h'.2.2⟩),Bool.false_and]
  by_cases h1:a<1
  ·rw[zT h1];rfl
  ·by_cases h2:(6:Int)<a
   ·rw[zF h1,zT h2];rfl
   ·by_cases h3:b<1
    ·rw[zF h1,zF h2,zT h3];rfl
    ·have h4:(6:Int)<b:=by omega
     rw[zF h1,zF h2,zF h3,zT h4];rfl
theorem rS(s:ByteArray)(i:Nat):zn (ze s i):=by
 rw[kW]
 exact VE (fun x hx=>gP hx) i
theorem zwy:∀b:Fin 256,mz (b.1:Int)=some (decide (vG (b.1:Int)≠some 0)):=by decide+kernel
theorem zby:∀b:Fin 256,vG (b.1:Int)=some 0\/(vG (b.1:Int)=some 1/\decide (aD .and .i64 (b.1:Int) 31=31)=false)\/(vG (b.1:Int)=some 2/\decide (aD .and .i64 (b.1:Int) 31=31)=true):=by decide+kernel
theorem acP(x y:Nat)(hx:x<256)(hy:y<256):aD .and .i64 (((x:Int)*256)+(y:Int)) 255=(y:Int):=by
 have:((x:Int)*256+(y:Int))=((x*256+y:Nat):Int):=by omega
 rw[this,show(255:Int)=((255:Nat):Int) from rfl,aaS (by omega) (by omega)]
 congr 1
 rw[show(255:Nat)=2^8-1 from rfl,Nat.and_two_pow_sub_one_eq_mod]
 omega
theorem R5(x y:Nat)(hx:x<256)(hy:y<256):Int.fdiv ((x:Int)*256+(y:Int)) (2^min ((8:Int)).toNat 64)=(x:Int):=by
 have:((x:Int)*256+(y:Int))=((x*256+y:Nat):Int):=by omega
 rw[this,show(8:Int)=((8:Nat):Int) from rfl,Ir _ 8 (by omega)]
 congr 1
 omega
theorem V3(x:Fin 256)(hx:vG (x.1:Int)=some 2)(y:Fin 256):qo ((x.1:Int)*256+(y.1:Int))=some (decide (1<=(y.1:Int)/\(y.1:Int)<=127)):=by
 have hx0:x.1≠0:=fun e=>by
  have:x=0:=Fin.ext e
  subst this
  revert hx
  decide+kernel
 have yt:decide (aD .and .i64 (x.1:Int) 31=31)=true:=by
  rcases zby x with h|⟨h,_⟩|⟨_,h⟩
  ·rw[h] at hx;cases hx
  ·rw[h] at hx;cases hx
  ·exact h
 have hf:mz (x.1:Int)=some true:=by rw[zwy x,hx];rfl
 unfold qo MP
 rw[R5 x.1 y.1 x.2 y.2,acP x.1 y.1 x.2 y.2,zF (by have:=x.2;have:=y.2;omega),zD,zT (by have:=x.2;have:=y.2;omega),zC,hf,Option.bind_some,zC,yt,zC]
 by_cases h1:(1:Int)<=(y.1:Int)
 ·rw[zT h1,zC]
  congr 1
  exact decide_eq_decide.2 ⟨fun h=>⟨h1,h⟩,fun h=>h.2⟩
 ·rw[zF h1,zD]
  congr 1
  exact(zF fun h=>h1 h.1).symm
theorem We(s:ByteArray)(hs:s.size<=9223372036854775000)(a:Int):qn s a=vH s a:=by
 unfold qn MO vH Jv
 by_cases h1:a<0
 ·rw[zT h1];rfl
 rw[zF h1,zD,zD]
 by_cases h2:(s.size:Int)<a
 ·rw[zT h2];rfl
 rw[zF h2,zD,zD]
 by_cases h3:a=(s.size:Int)
 ·rw[zT h3];rfl
 have wa:∀{R:Type} (x:Option R),zd a s.size x=x:=fun x=>zm (by omega) (by omega)
 rw[zF h3,zD,zD]
 simp only[wa]
 obtain⟨x,hx⟩:=kN (rS s a.toNat)
 obtain⟨y,hy⟩:=kN (rS s (zW zI (a+1)).toNat)
 have rf:=x.2
 have Kj:=y.2
 have ob:=F9 (rS s a.toNat) (rS s (zW zI (a+1)).toNat)
 rw[hx,hy] at ob
 have w1:zW zI (a+1)=a+1:=zg (by omega) (by omega)
 have w2:zW zI (x.1:Int)=(x.1:Int):=zg (by omega) (by omega)
 have w3:zW zI (y.1:Int)=(y.1:Int):=zg (by omega) (by omega)
 have w4:zW zI ((s.size:Int)-a)=(s.size:Int)-a:=zg (by omega) (by omega)
 rw[hx,hy,w2,zwy x,Option.bind_some]
 rw[w2] at ob
 rcases zby x with h|⟨h,yt⟩|⟨h,yt⟩
 ·rw[h];rfl
 ·rw[h,Option.bind_some,yt];rfl
 ·rw[h,Option.bind_some,yt,ob,V3 x h y,Option.bind_some,w1,w4,w3]
  by_cases h4:a+1=(s.size:Int)
  ·rw[zT h4,zT (by omega:(s.size:Int)-a<2)];rfl
  ·have w5:zW zI (256*(x.1:Int))=256*(x.1:Int):=zg (by omega) (by omega)
   have w6:zW zI (256*(x.1:Int)+(y.1:Int))=(x.1:Int)*256+(y.1:Int):=by rw[zg (by omega) (by omega)];omega
   rw[zF h4,zF (by omega:¬(s.size:Int)-a<2),w5,w6]
   have wb:∀{R:Type} (x:Option R),zd (a+1) s.size x=x:=fun x=>zm (by omega) (by omega)
   simp only[wb]
   by_cases h5:(y.1:Int)=0
   ·rw[zT h5,zF (by omega:¬(1<=(y.1:Int)/\(y.1:Int)<=127))];rfl
   ·by_cases h6:(127:Int)<(y.1:Int)
    ·rw[zF h5,zT h6,zF (by omega:¬(1<=(y.1:Int)/\(y.1:Int)<=127))];rfl
    ·rw[zF h5,zF h6,zT (by omega:1<=(y.1:Int)/\(y.1:Int)<=127)];rfl
def bX(b:Int):Int:=if 48<=b/\b<=57 then b-48 else if 65<=b/\b<=70 then b-55 else-1
def gi(d:Int):Int:=if d<10 then 48+d else 55+d
def dg:List Int->List Int
 | []=>[]
 |x::r=>gi (x/16)::gi (x % 16)::dg r
def dv:List Int->List Int
 |a::b::r=>(16*bX a+bX b)::dv r
 |_=>[]
def eF:List Int->Int->Option Int
 | [],_=>none
 |a::r,i=>if bX a<0 then some i else eF r (i+1)
def jx(s:ByteArray):ByteArray×Int×Bool:=match eF (bl s) 0 with
 |some i=>(bs [],i,false)
 |none=>if s.size % 2=1 then(bs [],(s.size:Int),false) else(strOf (dv (bl s)),0,true)
def pr(s:ByteArray):ByteArray:=strOf (dg (bl s))
abbrev JP:ByteArray:=bs [48,49,50,51,52,53,54,55,56,57,65,66,67,68,69,70]
theorem acT:∀b:Fin 256,pW (b.1:Int)=some (if bX (b.1:Int)<0 then((0:Int),false) else(bX (b.1:Int),true)):=by decide+kernel
theorem ac6:∀b:Fin 256,x6 (b.1:Int)=some (bX (b.1:Int)):=by decide+kernel
theorem YL:∀b:Fin 256,bX (b.1:Int)<16/\(bX (b.1:Int)<0\/0<=bX (b.1:Int)):=by decide+kernel
theorem sI:∀b:Fin 256,Int.fdiv (b.1:Int) (2^min ((4:Int)).toNat 8)=((b.1/16:Nat):Int)/\aD .and .u8 (b.1:Int) (15:Int)=((b.1 % 16:Nat):Int)/\zW zU (Int.tdiv (b.1:Int) (16:Int))=((b.1/16:Nat):Int)/\Int.tmod (b.1:Int) (16:Int)=((b.1 % 16:Nat):Int):=by decide+kernel
theorem Ha:∀d:Fin 16,ze JP d.1=gi (d.1:Int):=by decide+kernel
theorem YK:∀a b:Fin 16,zW zU (aD .or .i64 (zW zI ((a.1:Int)*2^min ((4:Int)).toNat 64)) (b.1:Int))=16*(a.1:Int)+(b.1:Int)/\zW zU (zW zI (zW zI ((16:Int)*(a.1:Int))+(b.1:Int)))=16*(a.1:Int)+(b.1:Int):=by decide+kernel
theorem Er{x y:Int}(h1:0<=x)(h2:x<16)(h3:0<=y)(h4:y<16):zW zU (aD .or .i64 (zW zI (x*2^min ((4:Int)).toNat 64)) y)=16*x+y/\zW zU (zW zI (zW zI ((16:Int)*x)+y))=16*x+y:=by
 have:=YK ⟨x.toNat,by omega⟩ ⟨y.toNat,by omega⟩
 simpa [Int.toNat_of_nonneg h1,Int.toNat_of_nonneg h3] using this
theorem Jf{b:Int}(h:zn b):bX b<16:=by
 obtain⟨k,rfl⟩:=kN h
 exact(YL k).1
theorem Yv{b:Int}(h:zn b):pW b=some (if bX b<0 then((0:Int),false) else(bX b,true)):=by
 obtain⟨k,rfl⟩:=kN h
 exact acT k
theorem zn4{b:Int}(h:zn b):x6 b=some (bX b):=by
 obtain⟨k,rfl⟩:=kN h
 exact ac6 k
theorem zyp:JP.size=16:=by decide
theorem Kl{b:Int}(h:zn b):∃k:Fin 256,b=(k.1:Int)/\ze JP (b.toNat/16)=gi (b/16)/\ze JP (b.toNat % 16)=gi (b % 16):=by
 obtain⟨k,rfl⟩:=kN h
 have h1:=Ha ⟨k.1/16,by omega⟩
 have h2:=Ha ⟨k.1 % 16,by omega⟩
 exact⟨k,rfl,by simpa using h1,by simpa using h2⟩
theorem sH{s:ByteArray}{j:Nat}(h:j<(bl s).length):ze s j=(bl s)[j]:=by rw[kW,List.getD_eq_getElem?_getD,List.getElem?_eq_getElem h];rfl
theorem zkx(s:ByteArray)(hs:s.size<=1099511627776):∀(n j k:Nat) (o:List Int),j+n=s.size->n<k->o.length+2*n<=35184372088832->Al k s o (j:Int)=some (o++dg ((bl s).drop j))
 |n,j,0,o,_,hk,_=>by omega
 |0,j,k+1,o,hj,hk,_=>by
  unfold Al IF
  rw[zF (by omega),zD,List.drop_eq_nil_of_le (by rw[zh];omega),dg,List.append_nil]
 |n+1,j,k+1,o,hj,hk,ho=>by
  have ar:j<s.size:=by omega
  have hl:j<(bl s).length:=by rw[zh];exact ar
  obtain⟨b,hb,n1,n2⟩:=Kl (gP (List.getElem_mem hl))
  have qI:=b.2
  unfold Al IF
  rw[zT (by omega),zC]
  simp only[Int.toNat_natCast,sH hl,hb,(sI b).1,(sI b).2.1]
  rw[zi ar,zi (by rw[zyp];omega),zi ar,zi (by rw[zyp];omega),zT (by simp only[List.length_cons,List.length_nil];omega),zC]
  rw[hb] at n1 n2
  simp only[Int.toNat_natCast] at n1 n2
  rw[n1,n2,zw (by omega),zkx s hs n (j+1) k _ (by omega) (by omega) (by rw[List.length_append];simp only[List.length_cons,List.length_nil];omega),List.drop_eq_getElem_cons hl,hb,dg,List.append_assoc]
  rfl
theorem zqr(s:ByteArray)(hs:s.size<=1099511627776):iF s=some (pr s):=by
 unfold iF LB
 rw[zg (by omega) (by omega),zT (by omega),zC,zT (by omega),zC]
 have:=zkx s hs s.size 0 ag [] (by omega) (by rw[zr];omega) (by simp;omega)
 rw[show((0:Nat):Int)=0 from rfl,List.drop_zero,List.nil_append] at this
 dsimp only
 rw[this];rfl
def jD:List Int->Nat->List Int->Int->Sum Int (List Int)
 | [],_,o,_=> .inr o
 |a::r,i,o,high=>if bX a<0 then .inl i else if i % 2=0 then jD r (i+1) o (bX a) else jD r (i+1) (o++ [16*high+bX a]) high
theorem G2:∀(l:List Int) (i:Nat) (o:List Int) (high:Int),i % 2=0->jD l i o high=(match eF l i with
 |some q=> .inl q
 |none=> .inr (o++dv l))
 | [],i,o,high,h=>by simp [jD,eF,dv]
 | [a],i,o,high,h=>by
   rw[jD,eF]
   by_cases ha:bX a<0
   ·rw[if_pos ha,if_pos ha]
   ·rw[if_neg ha,if_neg ha,if_pos h]
    simp [jD,eF,dv]
 |a::b::r,i,o,high,h=>by
  rw[jD,eF]
  by_cases ha:bX a<0
  ·rw[if_pos ha,if_pos ha]
  ·rw[if_neg ha,if_neg ha,if_pos h,jD,eF]
   by_cases hb:bX b<0
   ·rw[if_pos hb,if_pos hb];rfl
   ·rw[if_neg hb,if_neg hb,if_neg (by omega),G2 r (i+1+1) _ _ (by omega),dv,List.append_assoc]
    have:((i:Int)+1+1)=((i+1+1:Nat):Int):=by omega
    rw[this];rfl
theorem uW(j:Nat):Int.tmod (j:Int) (2:Int)=((j % 2:Nat):Int):=rfl
theorem z9l(s:ByteArray)(hs:s.size<=1099511627776):∀(n j k:Nat) (o:List Int) (high:Int),j+n=s.size->n<k->o.length+n<=35184372088832->0<=high/\high<16->∃o',Ak k s o high (j:Int)=some (match jD ((bl s).drop j) j o high with
 | .inl i=> .inl (s,bs [],i,false,o')
 | .inr r=> .inr (s,r))
 |n,j,0,o,high,_,hk,_,_=>by omega
 |0,j,k+1,o,high,hj,hk,_,_=>by
  unfold Ak IE
  rw[zF (by omega),zD,List.drop_eq_nil_of_le (by rw[zh];omega)]
  exact⟨o,rfl⟩
 |n+1,j,k+1,o,high,hj,hk,ho,hh=>by
  have ar:j<s.size:=by omega
  have hl:j<(bl s).length:=by rw[zh];exact ar
  have hb:=gP (List.getElem_mem hl)
  have h16:=Jf hb
  unfold Ak IE
  rw[zT (by omega),zC,zi ar,Int.toNat_natCast,sH hl,Yv hb,zc,List.drop_eq_getElem_cons hl,jD]
  by_cases ha:bX (bl s)[j]<0
  ·rw[if_pos ha,if_pos ha]
   exact⟨o,rfl⟩
  ·rw[if_neg ha,if_neg ha]
   dsimp only
   rw[Bool.not_true,zD,uW]
   by_cases hp:j % 2=0
   ·rw[if_pos hp,zT (by omega),zC,zw (by omega)]
    exact z9l s hs n (j+1) k o _ (by omega) (by omega) (by omega) (by omega)
   ·rw[if_neg hp,zF (by omega),zD,zT (by simp only[List.length_singleton];omega),zC,zw (by omega),(Er hh.1 hh.2 (by omega) h16).1]
    exact z9l s hs n (j+1) k _ high (by omega) (by omega) (by rw[List.length_append,List.length_singleton];omega) hh
theorem zqq(s:ByteArray)(hs:s.size<=1099511627776):fI s=some (jx s):=by
 unfold fI Ly jx
 have e:Int.tdiv (s.size:Int) 2=((s.size/2:Nat):Int):=rfl
 rw[e,zg (by omega) (by omega),zT (by omega),zC,zT (by omega),zC]
 obtain⟨o',h⟩:=z9l s hs s.size 0 ag [] 0 (by omega) (by rw[zr];omega) (by simp;omega) (by omega)
 rw[show((0:Nat):Int)=0 from rfl,List.drop_zero,G2 _ 0 _ _ rfl,List.nil_append,show((0:Nat):Int)=0 from rfl] at h
 dsimp only
 rw[h,zc]
 cases eF (bl s) 0 with
 |some i=>rfl
 |none=>
  dsimp only
  rw[Sum.elim_inr]
  unfold Lz
  dsimp only
  rw[uW]
  by_cases hp:s.size % 2=1
  ·rw[if_pos hp,zF (by omega)];rfl
  ·rw[if_neg hp,zT (by omega)];rfl
theorem zq7(s:ByteArray)(hs:s.size<=1099511627776):∀(n j k:Nat),j+n=s.size->n<k->AL k s (j:Int)=some (match eF ((bl s).drop j) j with
 |some i=> .inl (s,bs [],i,false)
 |none=> .inr s)
 |n,j,0,_,hk=>by omega
 |0,j,k+1,hj,hk=>by
  unfold AL Jp
  rw[zF (by omega),zD,List.drop_eq_nil_of_le (by rw[zh];omega)];rfl
 |n+1,j,k+1,hj,hk=>by
  have ar:j<s.size:=by omega
  have hl:j<(bl s).length:=by rw[zh];exact ar
  have hb:=gP (List.getElem_mem hl)
  unfold AL Jp
  rw[zT (by omega),zC,zi ar,Int.toNat_natCast,sH hl,zn4 hb,zc,List.drop_eq_getElem_cons hl,eF]
  by_cases ha:bX (bl s)[j]<0
  ·rw[if_pos ha,zT ha];rfl
  ·rw[if_neg ha,zF ha,zD]
   dsimp only
   rw[zw (by omega)]
   exact zq7 s hs n (j+1) k (by omega) (by omega)
theorem zw3{l:List Int}:∀{i:Int},eF l i=none->∀a∈l,0<=bX a:=by
 induction l with
 |nil=>intro i _ a ha;cases ha
 |cons b r ih=>
  intro i h a ha
  rw[eF] at h
  by_cases hb:bX b<0
  ·rw[if_pos hb] at h;cases h
  ·rw[if_neg hb] at h
   rcases List.mem_cons.1 ha with rfl|ha
   ·omega
   ·exact ih h a ha
theorem zqn(s:ByteArray)(hs:s.size<=1099511627776)(P4:s.size % 2=0)(io:∀a∈bl s,0<=bX a):∀(n j k:Nat) (o:List Int),j+2*n=s.size->n<k->o.length+n<=35184372088832->AM k s o (j:Int)=some (o++dv ((bl s).drop j))
 |n,j,0,o,_,hk,_=>by omega
 |0,j,k+1,o,hj,hk,_=>by
  unfold AM Jq
  rw[zF (by omega),zD,List.drop_eq_nil_of_le (by rw[zh];omega),dv,List.append_nil]
  exact fun _ _ _ h=>by cases h
 |n+1,j,k+1,o,hj,hk,ho=>by
  have ar:j<s.size:=by omega
  have mL:j+1<s.size:=by omega
  have hl:j<(bl s).length:=by rw[zh];exact ar
  have mK:j+1<(bl s).length:=by rw[zh];exact mL
  have m1:=List.getElem_mem hl
  have m2:=List.getElem_mem mK
  unfold AM Jq
  rw[zT (by omega),zC,zi ar,Int.toNat_natCast,sH hl,zn4 (gP m1),zc,zw (by omega),zi mL,Int.toNat_natCast,sH mK,zn4 (gP m2),zc]
  rw[(Er (io _ m1) (Jf (gP m1)) (io _ m2) (Jf (gP m2))).2,zT (by simp only[List.length_singleton];omega),zC]
  have e:zW zI ((j:Int)+2)=((j+2:Nat):Int):=by rw[zg (by omega) (by omega)];omega
  rw[e]
  dsimp only
  rw[zqn s hs P4 io n (j+2) k _ (by omega) (by omega) (by rw[List.length_append,List.length_singleton];omega),List.drop_eq_getElem_cons hl,List.drop_eq_getElem_cons mK,dv,List.append_assoc]
  rfl
theorem zyo(s:ByteArray)(hs:s.size<=1099511627776):vC s=some (jx s):=by
 unfold vC OR jx
 have h:=zq7 s hs s.size 0 ag (by omega) (by rw[zr];omega)
 rw[show((0:Nat):Int)=0 from rfl,List.drop_zero] at h
 dsimp only
 rw[h,zc]
 cases hb:eF (bl s) 0 with
 |some i=>rfl
 |none=>
  dsimp only
  rw[Sum.elim_inr]
  unfold OS
  rw[uW]
  by_cases hp:s.size % 2=1
  ·rw[if_pos hp,zT (by omega)];rfl
  ·rw[if_neg hp,zF (by omega),zD]
   have:=zqn s hs (by omega) (zw3 hb) (s.size/2) 0 ag [] (by omega) (by rw[zr];omega) (by simp;omega)
   rw[show((0:Nat):Int)=0 from rfl,List.drop_zero,List.nil_append] at this
   dsimp only
   rw[this];rfl
theorem YN:∀d:Fin 16,bX (gi (d.1:Int))=(d.1:Int)/\zn (gi (d.1:Int)):=by
 have:∀d:Fin 16,bX (gi (d.1:Int))=(d.1:Int)/\0<=gi (d.1:Int)/\gi (d.1:Int)<256:=by decide+kernel
 exact this
theorem BT{d:Int}(h:0<=d)(h2:d<16):bX (gi d)=d/\zn (gi d):=by
 have:=YN ⟨d.toNat,by omega⟩
 simpa [Int.toNat_of_nonneg h] using this
theorem zx4:∀{l:List Int},(∀x∈l,zn x)->∀y∈dg l,zn y
 | [],_,y,hy=>by cases hy
 |x::r,h,y,hy=>by
  have hx:=h x List.mem_cons_self
  unfold zn at hx
  rw[dg] at hy
  rcases List.mem_cons.1 hy with rfl|hy
  ·exact(BT (by omega) (by omega)).2
  ·rcases List.mem_cons.1 hy with rfl|hy
   ·exact(BT (by omega) (by omega)).2
   ·exact zx4 (fun z hz=>h z (List.mem_cons_of_mem _ hz)) y hy
theorem FV:∀l:List Int,(dg l).length=2*l.length
 | []=>rfl
 |x::r=>by rw[dg,List.length_cons,List.length_cons,FV r,List.length_cons];omega
theorem zx5:∀{l:List Int} {i:Int},(∀x∈l,zn x)->eF (dg l) i=none
 | [],i,_=>rfl
 |x::r,i,h=>by
  have hx:=h x List.mem_cons_self
  unfold zn at hx
  rw[dg,eF,if_neg (by rw[(BT (by omega) (by omega)).1];omega),eF,if_neg (by rw[(BT (by omega) (by omega)).1];omega)]
  exact zx5 fun z hz=>h z (List.mem_cons_of_mem _ hz)
theorem wJ:∀{l:List Int},(∀x∈l,zn x)->dv (dg l)=l
 | [],_=>by simp [dg,dv]
 |x::r,h=>by
  have hx:=h x List.mem_cons_self
  unfold zn at hx
  rw[dg,dv,(BT (by omega) (by omega)).1,(BT (by omega) (by omega)).1,wJ fun z hz=>h z (List.mem_cons_of_mem _ hz)]
  congr 1
  omega
theorem zx6(s:ByteArray):bl (pr s)=dg (bl s):=pj (zx4 fun x hx=>gP hx)
theorem Ia(s:ByteArray):(pr s).size=2*s.size:=by rw[<-zh,zx6,FV,zh]
theorem FW(s:ByteArray):jx (pr s)=(s,0,true):=by
 unfold jx
 rw[zx6,zx5 (fun x hx=>gP hx),wJ (fun x hx=>gP hx),z49,Ia]
 dsimp only
 rw[if_neg (by omega)]
theorem YM:∀b:Fin 256,0<=bX (b.1:Int)->gi (bX (b.1:Int))=(b.1:Int):=by decide+kernel
theorem zx3{b:Int}(h:zn b)(h0:0<=bX b):gi (bX b)=b:=by
 obtain⟨k,rfl⟩:=kN h
 exact YM k h0
theorem wK:∀{l:List Int},l.length % 2=0->(∀x∈l,zn x/\0<=bX x)->dg (dv l)=l/\∀y∈dv l,zn y
 | [],_,_=>⟨by simp [dg,dv],fun y hy=>by simp [dv] at hy⟩
 | [a],h,_=>by simp at h
 |a::b::r,h,hx=>by
  obtain⟨a1,a2⟩:=hx a (by simp)
  obtain⟨b1,b2⟩:=hx b (by simp)
  have a3:=Jf a1
  have b3:=Jf b1
  obtain⟨i1,i2⟩:=wK (l:=r) (by simp only[List.length_cons] at h;omega) fun y hy=>hx y (by simp [hy])
  rw[dv,dg]
  refine⟨?_,fun y hy=> ?_⟩
  ·rw[show(16*bX a+bX b)/16=bX a by omega,show(16*bX a+bX b)% 16=bX b by omega,zx3 a1 a2,zx3 b1 b2,i1]
  ·rcases List.mem_cons.1 hy with rfl|hy
   ·unfold zn;omega
   ·exact i2 y hy
theorem zfu{s t:ByteArray}{i:Int}(h:jx s=(t,i,true)):pr t=s/\s.size=2*t.size:=by
 unfold jx at h
 cases hb:eF (bl s) 0 with
 |some q=>rw[hb] at h;cases h
 |none=>
  rw[hb] at h
  dsimp only at h
  by_cases hp:s.size % 2=1
  ·rw[if_pos hp] at h;cases h
  ·rw[if_neg hp] at h
   have ht:t=strOf (dv (bl s)):=(congrArg Prod.fst h).symm
   obtain⟨e1,e2⟩:=wK (l:=bl s) (by rw[zh];omega) fun x hx=>⟨gP hx,zw3 hb x hx⟩
   have e3:pr t=s:=by
    unfold pr
    rw[ht,pj e2,e1,z49]
   exact⟨e3,by rw[<-e3,Ia]⟩
def b9(b:Int):Bool:=decide (48<=b/\b<=57)
def aX(l:List Int):Bool:=l.all b9
theorem zez(b:Int)(l:List Int):aX (b::l)=(b9 b&&aX l):=rfl
theorem G8{b:Int}(h:48<=b/\b<=57):b9 b=true:=zT h
theorem zvi{b:Int}(h:¬(48<=b/\b<=57)):b9 b=false:=zF h
theorem JA{s:ByteArray}{j:Nat}(h:j<s.size):(bl s).getD j 0=((s[j]'h).toNat:Int):=by
 rw[<-kW]
 unfold ze
 rw[dif_pos h]
theorem Nk{s:ByteArray}{j:Nat}(h:j<s.size):(bl s).drop j=((s[j]'h).toNat:Int)::(bl s).drop (j+1):=by
 have h':j<(bl s).length:=by rw[zh];exact h
 rw[List.drop_eq_getElem_cons h']
 congr 1
 have:=JA h
 rw[List.getD_eq_getElem?_getD,List.getElem?_eq_getElem h'] at this
 exact this
theorem SI(s:ByteArray)(pos:Nat)(h:pos<s.size)(ha:128<=(s[pos]'h).toNat):128<=(Utf8.decode s pos).1:=by
 have e:s.get! (pos+0)=s[pos]'h:=by
  show s.get! pos=_
  simp [ByteArray.get!,getElem!_pos,h]
  rfl
 unfold Utf8.decode
 simp only[e]
 rw[if_neg (by omega)]
 have Kf:128<=Utf8.runeError:=by unfold Utf8.runeError;omega
 split
 ·split
  ·assumption
  ·exact Kf
 ·split
  ·split
   ·rename_i hc
    simp only[Bool.and_eq_true,decide_eq_true_eq] at hc
    have:=hc.1
    simp only
    omega
   ·exact Kf
  ·split
   ·split
    ·rename_i hc
     simp only[Bool.and_eq_true,decide_eq_true_eq] at hc
     have:=hc.1
     simp only
     omega
    ·exact Kf
   ·exact Kf
theorem Ft(s:ByteArray):∀(n j k:Nat),s.size-j<=n->j<=s.size->n<k->B3 k (s,j)=some (bif aX ((bl s).drop j) then .inr () else .inl false)
 |n,j,0,_,_,hk=>by omega
 |n,j,k+1,hn,hj,hk=>by
  unfold B3 Om
  dsimp only
  by_cases ar:j<s.size
  ·rw[zT ar,zC,Nk ar,zez]
   by_cases h1:(s[j]'ar).toNat<128
   ·rw[decode_ascii s j ar h1]
    dsimp only
    by_cases h2:((s[j]'ar).toNat:Int)<48
    ·rw[zT h2,zC,zvi (by omega)];rfl
    ·rw[zF h2,zD]
     by_cases h3:(57:Int)<((s[j]'ar).toNat:Int)
     ·rw[zT h3,zC,zvi (by omega)];rfl
     ·obtain⟨n,rfl⟩:∃n',n=n'+1:=⟨n-1,by omega⟩
      rw[zF h3,zD,G8 (by omega),Bool.true_and,Ft s n (j+1) k (by omega) (by omega) (by omega)]
   ·have hd:=SI s j ar (by omega)
    rw[zF (by omega:¬((Utf8.decode s j).1:Int)<48),zD,zT (by omega:(57:Int)<((Utf8.decode s j).1:Int)),zC,zvi (by omega)];rfl
  ·rw[zF ar,zD,List.drop_eq_nil_of_le (by rw[zh];omega)];rfl
theorem Nx(s:ByteArray)(h:s.size<=maxLen):vw s=some (aX (bl s)):=by
 unfold vw Ol
 dsimp only
 rw[zj] at h
 rw[Ft s s.size 0 ag (by omega) (by omega) (by rw[zr];omega),List.drop_zero]
 cases aX (bl s)<;>rfl
theorem S3(b:Int):CU b=some (b9 b):=by
 unfold CU OL b9
 by_cases h:(48:Int)<=b
 ·rw[zT h,zC];congr 1;apply decide_eq_decide.2;omega
 ·rw[zF h,zD];congr 1;symm;apply zF;omega
theorem zq4(s:ByteArray)(hs:s.size<=9223372036854775807):∀(n j k:Nat),s.size-j<=n->j<=s.size->n<k->B5 k s (j:Int)=some (bif aX ((bl s).drop j) then .inr () else .inl false)
 |n,j,0,_,_,hk=>by omega
 |n,j,k+1,hn,hj,hk=>by
  unfold B5 OK
  dsimp only
  by_cases ar:j<s.size
  ·rw[zT (by omega),zC,zi ar,S3,Int.toNat_natCast,kW,JA ar,Nk ar,zez]
   rw[Option.bind_some]
   cases h1:b9 ((s[j]'ar).toNat:Int) with
   |false=>rfl
   |true=>
    obtain⟨n,rfl⟩:∃n',n=n'+1:=⟨n-1,by omega⟩
    simp only[Bool.not_true,zD,Bool.true_and]
    rw[zw (by omega),zq4 s hs n (j+1) k (by omega) (by omega) (by omega)]
  ·rw[zF (by omega),zD,List.drop_eq_nil_of_le (by rw[zh];omega)];rfl
theorem zyj(s:ByteArray)(h:s.size<=maxLen):AZ s=some (aX (bl s)):=by
 unfold AZ OJ
 dsimp only
 rw[zj] at h
 have:=zq4 s h s.size 0 ag (by omega) (by omega) (by rw[zr];omega)
 rw[show((0:Nat):Int)=(0:Int) from rfl] at this
 rw[this,List.drop_zero]
 cases aX (bl s)<;>rfl
def dI(l:List Int)(n:Int):Int:=l.foldl (fun n b=>10*n+(b-48)) n
theorem zrh:∀(l:List Int) (n:Int) (k:Nat),aX l=true->0<=n->n<((10^k:Nat):Int)->l.length+k<=18->0<=dI l n/\dI l n<((10^(l.length+k):Nat):Int)
 | [],n,k,_,h1,h2,_=>by simpa [dI] using⟨h1,h2⟩
 |b::l,n,k,hd,h1,h2,hl=>by
  simp only[aX,List.all_cons,Bool.and_eq_true,b9,decide_eq_true_eq] at hd
  have hp:((10^(k+1):Nat):Int)=10*((10^k:Nat):Int):=by rw[Nat.pow_succ];omega
  have:=zrh l (10*n+(b-48)) (k+1) hd.2 (by omega) (by rw[hp];omega) (by simp at hl;omega)
  simp only[dI,List.foldl_cons,List.length_cons] at this⊢
  rw[show l.length+1+k=l.length+(k+1) by omega]
  exact this
theorem xh{k m:Nat}(h:k<=m):10^k<=10^m:=Nat.pow_le_pow_right (by decide) h
theorem HX(k:Nat):((10^(k+1):Nat):Int)=10*((10^k:Nat):Int):=by rw[Nat.pow_succ];omega
theorem xi:(10:Nat)^17=100000000000000000:=by decide
theorem FR(s:ByteArray)(hs:s.size<=18)(hd:aX (bl s)=true):∀(n j k:Nat) (t:Int),s.size-j<=n->j<=s.size->n<k->0<=t->t<((10^j:Nat):Int)->B4 k t (s,j)=some (dI ((bl s).drop j) t)
 |n,j,0,t,_,_,hk,_,_=>by omega
 |n,j,k+1,t,hn,hj,hk,h0,h1=>by
  unfold B4 Oq
  dsimp only
  by_cases ar:j<s.size
  ·have Ew:b9 ((s[j]'ar).toNat:Int)=true:=by
    have:=List.all_eq_true.1 hd ((bl s).getD j 0) (by
     rw[List.getD_eq_getElem?_getD,List.getElem?_eq_getElem (by rw[zh];exact ar)]
     exact List.getElem_mem _)
    rw[JA ar] at this
    exact this
   simp only[b9,decide_eq_true_eq] at Ew
   rw[zT ar,zC,decode_ascii s j ar (by omega),Nk ar]
   dsimp only
   have Qh:=HX j
   have w32:IntKind.i32.wrap (((s[j]'ar).toNat:Int)-48)=((s[j]'ar).toNat:Int)-48:=by
    simp [IntKind.wrap,IntKind.signed,IntKind.bits];omega
   obtain⟨n,rfl⟩:∃n',n=n'+1:=⟨n-1,by omega⟩
   have ht:t<100000000000000000:=by
    have:=xh (show j<=17 by omega)
    rw[xi] at this
    omega
   have a1:zW zI (10*t)=10*t:=zg (by omega) (by omega)
   have a2:zW zI (((s[j]'ar).toNat:Int)-48)=((s[j]'ar).toNat:Int)-48:=zg (by omega) (by omega)
   rw[w32,a1,a2,zg (by omega) (by omega),FR s hs hd n (j+1) k _ (by omega) (by omega) (by omega) (by omega) (by omega)]
   rfl
  ·rw[zF ar,zD,List.drop_eq_nil_of_le (by rw[zh];omega)];rfl
def cE(l:List Int):Int×Bool:=if 1<=l.length/\l.length<=18/\aX l=true then(dI l 0,true) else(0,false)
theorem Hs(s:ByteArray)(h:s.size<=maxLen):vz s=some (cE (bl s)):=by
 unfold vz Oo cE
 dsimp only
 rw[zh]
 by_cases h0:s=bs []
 ·rw[zT h0,zC,if_neg]
  rw[h0]
  intro hh
  have:(bs []).size=0:=rfl
  omega
 ·have hz:s.size≠0:=fun e=>h0 (zbo.2 (List.eq_nil_of_length_eq_zero (by rw[zh];exact e)))
  rw[zF h0,zD]
  by_cases h1:(18:Int)<(s.size:Int)
  ·rw[zT h1,zC,if_neg (by omega)]
  ·rw[zF h1,zD,Nx s h,Option.bind_some]
   cases hd:aX (bl s) with
   |false=>rw[if_neg (by simp)];rfl
   |true=>
    rw[if_pos ⟨by omega,by omega,rfl⟩]
    simp only[Bool.not_true,zD]
    rw[FR s (by omega) hd s.size 0 ag 0 (by omega) (by omega) (by rw[zr];omega) (by omega) (by decide),List.drop_zero,Option.bind_some]
    rfl
theorem zqm(s:ByteArray)(hs:s.size<=18)(hd:aX (bl s)=true):∀(n j k:Nat) (t:Int),s.size-j<=n->j<=s.size->n<k->0<=t->t<((10^j:Nat):Int)->B6 k s t (j:Int)=some (dI ((bl s).drop j) t)
 |n,j,0,t,_,_,hk,_,_=>by omega
 |n,j,k+1,t,hn,hj,hk,h0,h1=>by
  unfold B6 OO
  dsimp only
  by_cases ar:j<s.size
  ·have Ew:b9 ((s[j]'ar).toNat:Int)=true:=by
    have:=List.all_eq_true.1 hd ((bl s).getD j 0) (by
     rw[List.getD_eq_getElem?_getD,List.getElem?_eq_getElem (by rw[zh];exact ar)]
     exact List.getElem_mem _)
    rw[JA ar] at this
    exact this
   simp only[b9,decide_eq_true_eq] at Ew
   rw[zT (by omega),zC,zi ar,Int.toNat_natCast,kW,JA ar,Nk ar]
   have Qh:=HX j
   obtain⟨n,rfl⟩:∃n',n=n'+1:=⟨n-1,by omega⟩
   have ht:t<100000000000000000:=by
    have:=xh (show j<=17 by omega)
    rw[xi] at this
    omega
   have a1:zW zI (10*t)=10*t:=zg (by omega) (by omega)
   have a2:zW zI ((s[j]'ar).toNat:Int)=((s[j]'ar).toNat:Int):=zg (by omega) (by omega)
   have a3:zW zI (10*t+((s[j]'ar).toNat:Int))=10*t+((s[j]'ar).toNat:Int):=zg (by omega) (by omega)
   rw[a1,a2,a3,zg (by omega) (by omega),zw (by omega),zqm s hs hd n (j+1) k _ (by omega) (by omega) (by omega) (by omega) (by omega)]
   simp only[dI,List.foldl_cons]
   congr 2
   omega
  ·rw[zF (by omega),zD,List.drop_eq_nil_of_le (by rw[zh];omega)];rfl
theorem zlc(s:ByteArray)(h:s.size<=maxLen):oI s=some (cE (bl s)):=by
 unfold oI ON cE
 dsimp only
 rw[zh]
 by_cases h0:(s.size:Int)<1
 ·rw[zT h0,zC,if_neg (by omega)]
 ·rw[zF h0,zD]
  by_cases h1:(18:Int)<(s.size:Int)
  ·rw[zT h1,zC,if_neg (by omega)]
  ·rw[zF h1,zD,zyj s h,Option.bind_some]
   cases hd:aX (bl s) with
   |false=>rw[if_neg (by simp)];rfl
   |true=>
    rw[if_pos ⟨by omega,by omega,rfl⟩]
    simp only[Bool.not_true,zD]
    have:=zqm s (by omega) hd s.size 0 ag 0 (by omega) (by omega) (by rw[zr];omega) (by omega) (by decide)
    rw[show((0:Nat):Int)=(0:Int) from rfl] at this
    rw[this,List.drop_zero,Option.bind_some]
    rfl
def l8:Nat->Nat->List Int
 |0,_=>[]
 |w+1,n=>l8 w (n/10)++ [((48+n % 10:Nat):Int)]
theorem Ig:∀w n,(l8 w n).length=w
 |0,_=>rfl
 |w+1,n=>by rw[l8,List.length_append,Ig w];rfl
theorem Nj:∀w n,aX (l8 w n)=true
 |0,_=>rfl
 |w+1,n=>by
  rw[l8,aX,List.all_append,Bool.and_eq_true]
  refine⟨Nj w _,?_⟩
  rw[List.all_cons,List.all_nil,Bool.and_true]
  exact G8 (by omega)
theorem zmo{l:List Int}(h:aX l=true):∀x∈l,zn x:=fun x hx=>by
 have:=List.all_eq_true.1 h x hx
 simp only[b9,decide_eq_true_eq] at this
 unfold zn;omega
theorem z8w(a b:List Int):strOf (a++b)=strOf a++strOf b:=by
 apply ByteArray.ext
 simp [strOf,ByteArray.data_append]
theorem ac2(n:Nat):Int.tmod (n:Int) 10=((n % 10:Nat):Int):=by rw[Int.tmod_eq_emod_of_nonneg (by omega)];omega
theorem ac1(n:Nat):Int.tdiv (n:Int) 10=((n/10:Nat):Int):=by rw[Int.tdiv_eq_ediv_of_nonneg (by omega)];omega
theorem Yu(n:Nat):zW zU (zW zI ((48:Int)+((n % 10:Nat):Int)))=((48+n % 10:Nat):Int):=by
 rw[zg (by omega) (by omega),rP (by omega) (by omega)];omega
theorem zvc(n w:Nat):n/10/10^w=n/10^(w+1):=by rw[Nat.div_div_eq_div_mul,Nat.pow_succ,Nat.mul_comm]
theorem fm(x:Int)(tail:List Int):∀j,(List.replicate (j+1) (0:Int)++tail).set j x=List.replicate j 0++x::tail
 |0=>rfl
 |j+1=>by
  show(0:Int)::((List.replicate (j+1) (0:Int)++tail).set j x)=0::(List.replicate j 0++x::tail)
  rw[fm x tail j]
theorem z124(nt QN:Nat)(hnt:nt<=18):∀(j k n:Nat) (tail:List Int),nt=j+tail.length->n<=9223372036854775807->j<k->
 AK k (n:Int) nt ((j:Int)-1) QN (List.replicate j 0++tail)=some (((n/10^j:Nat):Int),nt,QN,l8 j n++tail)
 |j,0,n,tail,_,_,hk=>by omega
 |0,k+1,n,tail,h,hn,hk=>by
  unfold AK Jm
  dsimp only
  rw[zF (by omega),zD]
  simp [l8]
 |j+1,k+1,n,tail,h,hn,hk=>by
  unfold AK Jm
  dsimp only
  have e:(((j+1:Nat):Int)-1)=(j:Int):=by omega
  rw[e,zT (by omega:(0:Int)<=(j:Int)),zC,zi (by omega),Int.toNat_natCast,ac2,ac1,Yu]
  have hb:Nat.ble (j+1) (List.replicate (j+1) (0:Int)++tail).length=true:=Nat.ble_eq_true_of_le (by simp)
  rw[hb,zC,vf (by omega),zg (by omega) (by omega)]
  rw[fm,z124 nt QN hnt j k (n/10) _ (by simp;omega) (by omega) (by omega),zvc]
  simp [l8]
def fe(n w:Int):ByteArray×Bool:=bif decide (0<=n/\1<=w/\w<=18/\n.toNat/10^w.toNat=0) then(strOf (l8 w.toNat n.toNat),true) else(bs [],false)
theorem Pp{n w:Int}(h:0<=n/\1<=w/\w<=18/\n.toNat/10^w.toNat=0):fe n w=(strOf (l8 w.toNat n.toNat),true):=by unfold fe;rw[zT h];rfl
theorem JL{n w:Int}(h:¬(0<=n/\1<=w/\w<=18/\n.toNat/10^w.toNat=0)):fe n w=(bs [],false):=by unfold fe;rw[zF h];rfl
theorem abC(n w:Int)(hn:n<=9223372036854775807):CG n w=some (fe n w):=by
 unfold CG Ov
 dsimp only
 by_cases h1:n<0
 ·rw[zT h1,zC,JL (by omega)]
 rw[zF h1,zD]
 by_cases h2:w<1
 ·rw[zT h2,zC,JL (by omega)]
 rw[zF h2,zD]
 by_cases h3:(18:Int)<w
 ·rw[zT h3,zC,JL (by omega)]
 rw[zF h3,zD,zT (rfl:w=w),zC,zT (by omega:(0:Int)<=w),zC,zT (by omega:w*1<=140737488355328),zC]
 obtain⟨m,rfl⟩:∃m:Nat,n=m:=⟨n.toNat,by omega⟩
 obtain⟨v,rfl⟩:∃v:Nat,w=v:=⟨w.toNat,by omega⟩
 simp only[Int.toNat_natCast]
 have:=z124 v v (by omega) v ag m [] (by simp) (by omega) (by rw[zr];omega)
 simp only[List.append_nil] at this
 rw[zg (by omega) (by omega),this,zc]
 unfold Ox
 dsimp only
 by_cases h4:(0:Int)<((m/10^v:Nat):Int)
 ·rw[zT h4,zC,JL (by simp only[Int.toNat_natCast];generalize m/10^v=q at h4⊢;omega)]
 ·rw[zF h4,zD,Ig,Nat.beq_refl,zC,Pp (by simp only[Int.toNat_natCast];generalize m/10^v=q at h4⊢;omega)]
  simp only[Int.toNat_natCast]
theorem zla(l r:List Int)(n:Int):dI (l++r) n=dI r (dI l n):=by unfold dI;rw[List.foldl_append]
theorem Gq:∀w n,n/10^w=0->dI (l8 w n) 0=(n:Int)
 |0,n,h=>by simp at h;subst h;rfl
 |w+1,n,h=>by
  rw[l8,zla,Gq w (n/10) (by rw[zvc];exact h)]
  simp only[dI,List.foldl_cons,List.foldl_nil]
  omega
theorem FJ:∀(w n:Nat) (l:List Int),aX l=true->w=l.length->dI l 0=(n:Int)->l8 w n=l/\n/10^w=0
 |0,n,l,hd,hw,hv=>by
  obtain rfl:=List.eq_nil_of_length_eq_zero hw.symm
  have:(0:Int)=n:=hv
  obtain rfl:n=0:=by omega
  exact⟨rfl,rfl⟩
 |w+1,n,l,hd,hw,hv=>by
  have bZ:l≠ []:=by intro e;subst e;simp at hw
  obtain⟨r,b,rfl⟩:∃r b,l=r++ [b]:=⟨l.dropLast,l.getLast bZ,(List.dropLast_concat_getLast bZ).symm⟩
  rw[aX,List.all_append,Bool.and_eq_true,List.all_cons,List.all_nil,Bool.and_true] at hd
  have hb:=hd.2
  simp only[b9,decide_eq_true_eq] at hb
  rw[zla] at hv
  have mc:10*dI r 0+(b-48)=n:=hv
  obtain⟨i1,i2⟩:=FJ w (n/10) r hd.1 (by simpa using hw) (by omega)
  refine⟨?_,by rw[<-zvc];exact i2⟩
  rw[l8,i1]
  congr 2
  omega
def eN(l:List Int):Bool:=l.all fun b=>decide (b=48)
theorem z91(b:Int)(l:List Int):eN (b::l)=(decide (b=48)&&eN l):=rfl
theorem z9c(a b:List Int):eN (a++b)=(eN a&&eN b):=List.all_append ..
theorem Tc(s:ByteArray)(x:Int)(l:List Int)(h:bl s=x::l):ze s 0=x:=by rw[kW,h];rfl
theorem Fm(k:Nat):∀(s:ByteArray),s.size<k->s.size<=9223372036854775807->∃r,BH k s 48=some r/\eN (bl r)=eN (bl s)/\(eN (bl s)=true->bl r=[])/\r.size<=s.size:=by
 induction k with
 |zero=>intro s h;omega
 |succ k ih=>
  intro s h hs
  unfold BH ML
  dsimp only
  by_cases h0:(0:Int)<(s.size:Int)
  ·have hm:zW zI ((s.size:Int)-1)=((s.size-1:Nat):Int):=by rw[zg (by omega) (by omega)];omega
   rw[zT h0,zC,hm,zi (by omega),Int.toNat_natCast]
   have hl:(bl s).length=s.size:=zh s
   have bZ:bl s≠ []:=by intro e;rw[e] at hl;simp at hl;omega
   obtain⟨r,b,hb⟩:∃r b,bl s=r++ [b]:=⟨(bl s).dropLast,(bl s).getLast bZ,(List.dropLast_concat_getLast bZ).symm⟩
   have hr:r.length=s.size-1:=by rw[hb] at hl;simp at hl;omega
   have hx:ze s (s.size-1)=b:=by
    rw[kW,hb,<-hr,List.getD_eq_getElem?_getD];simp
   rw[hx]
   by_cases hz:b=48
   ·rw[zT hz,zC,zT (by omega:(0:Int)<=((s.size-1:Nat):Int)),zC,zT (by omega:((s.size-1:Nat):Int)<=((s.size:Nat):Int)),zC]
    have he:bl (s.extract 0 (s.size-1))=r:=by rw[z28,hb,List.drop_zero,<-hr,List.take_left'];rfl
    have di:(s.extract 0 (s.size-1)).size=s.size-1:=by rw[<-zh,he,hr]
    obtain⟨q,q1,q2,q3,q4⟩:=ih (s.extract 0 (s.size-1)) (by omega) (by omega)
    refine⟨q,q1,?_,fun ha=>q3 ?_,by omega⟩
    ·rw[q2,he,hb,z9c,z91,zT hz];simp [eN]
    ·rw[hb,z9c,Bool.and_eq_true] at ha
     rw[he];exact ha.1
   ·rw[zF hz,zD]
    refine⟨s,rfl,rfl,fun ha=> ?_,Nat.le_refl _⟩
    rw[hb,z9c,z91,zF hz] at ha
    simp at ha
  ·rw[zF h0,zD]
   refine⟨s,rfl,rfl,fun _=>List.eq_nil_of_length_eq_zero (by rw[zh];omega),Nat.le_refl _⟩
theorem Ee{s:ByteArray}{x:Int}{l:List Int}(h:bl s=x::l):bl (s.extract 1 s.size)=l:=by
 rw[z28,<-zh,List.take_length,h];rfl
theorem Fl(k:Nat):∀(s:ByteArray),s.size<k->s.size<=9223372036854775807->∃r,BG k s 48=some r/\((bl r=[])↔eN (bl s)=true):=by
 induction k with
 |zero=>intro s h;omega
 |succ k ih=>
  intro s h hs
  unfold BG MH
  dsimp only
  have hl:(bl s).length=s.size:=zh s
  by_cases h0:(0:Int)<(s.size:Int)
  ·rw[zT h0,zC,zm (by omega) h0]
   cases hb:bl s with
   |nil=>rw[hb] at hl;simp at hl;omega
   |cons x l=>
    rw[show((0:Int)).toNat=0 from rfl,show((1:Int)).toNat=1 from rfl,Tc s x l hb]
    by_cases hz:x=48
    ·rw[zT hz,zC,zT (by omega:(1:Int)<=((s.size:Nat):Int)),zC]
     have he:=Ee hb
     have di:(s.extract 1 s.size).size=s.size-1:=by rw[<-zh,he,<-hl,hb];simp
     obtain⟨q,q1,q2⟩:=ih (s.extract 1 s.size) (by omega) (by omega)
     refine⟨q,q1,q2.trans ?_⟩
     rw[he,z91,zT hz];simp
    ·rw[zF hz,zD]
     refine⟨s,rfl,?_⟩
     rw[hb,z91,zF hz];simp
  ·rw[zF h0,zD]
   have:bl s=[]:=List.eq_nil_of_length_eq_zero (by omega)
   refine⟨s,rfl,?_⟩
   rw[this];simp [eN]
theorem aaR(s:ByteArray)(h:s.size<=9223372036854775807):∃r,ql s (bs [48])=some r/\(r=bs []↔eN (bl s)=true):=by
 unfold ql ME
 by_cases h0:s=bs []
 ·rw[zT h0,zC]
  refine⟨s,rfl,?_⟩
  rw[h0];simp [FC,eN]
 rw[zF h0,zD,zF (show¬bs [48]=bs [] from fun e=>absurd (congrArg ByteArray.size e) (by decide)),zD,zT (by rfl:(((bs [48]).size:Nat):Int)=1),zC]
 have hb:ze (bs [48]) ((0:Int)).toNat=48:=by rw[kW];rfl
 have hw {R:Type} (x:Option R):zd (0:Int) (bs [48]).size x=x:=zm (by omega) (by decide)
 rw[hw,hb,zT (by decide:(48:Int)<128),zC,hw]
 unfold sX MK
 dsimp only
 obtain⟨r,r1,r2,r3,r4⟩:=Fm ag s (by rw[zr];omega) h
 rw[r1,zc]
 unfold MN
 rw[zc,hw]
 unfold sW MG
 dsimp only
 obtain⟨q,q1,q2⟩:=Fl ag r (by rw[zr];omega) (by omega)
 rw[q1,zc]
 unfold MI
 rw[zc]
 refine⟨q,rfl,?_⟩
 rw[zbo,q2,r2]
theorem zg5:∀(c:Nat),bl ⟨(Go.Lib.repeatL (bs [48]).data.toList c).toArray⟩=List.replicate c 48
 |0=>rfl
 |c+1=>by
  rw[List.replicate_succ,<-zg5 c]
  simp only[bl,Go.Lib.repeatL,List.map_append]
  rfl
def eJ(s:ByteArray)(w:Int):ByteArray×Bool:=
 bif decide (1<=s.size/\s.size<=999/\aX (bl s)=true/\1<=w/\w<=999) then
  (bif decide ((s.size:Int)<=w) then(strOf (List.replicate (w-s.size).toNat 48++bl s),true)
   else bif eN ((bl s).take (s.size-w.toNat)) then(strOf ((bl s).drop (s.size-w.toNat)),true) else(bs [],false))
 else(bs [],false)
theorem Ck{s:ByteArray}{w:Int}(h:¬(1<=s.size/\s.size<=999/\aX (bl s)=true/\1<=w/\w<=999)):eJ s w=(bs [],false):=by unfold eJ;rw[zF h];rfl
theorem HW{s:ByteArray}{w:Int}(h:1<=s.size/\s.size<=999/\aX (bl s)=true/\1<=w/\w<=999):eJ s w=(bif decide ((s.size:Int)<=w) then(strOf (List.replicate (w-s.size).toNat 48++bl s),true)
 else bif eN ((bl s).take (s.size-w.toNat)) then(strOf ((bl s).drop (s.size-w.toNat)),true) else(bs [],false)):=by unfold eJ;rw[zT h];rfl
theorem abB(s:ByteArray)(w:Int)(h:s.size<=maxLen):CE s w=some (eJ s w):=by
 unfold CE Ot
 dsimp only
 by_cases h0:s=bs []
 ·rw[zT h0,zC,Ck]
  intro hh
  rw[h0] at hh
  exact absurd hh.1 (by decide)
 have hz:s.size≠0:=fun e=>h0 (zbo.2 (List.eq_nil_of_length_eq_zero (by rw[zh];exact e)))
 rw[zF h0,zD]
 by_cases h1:(999:Int)<(s.size:Int)
 ·rw[zT h1,zC,Ck (by omega)]
 rw[zF h1,zD,Nx s h,zc]
 cases hd:aX (bl s) with
 |false=>rw[Ck (by rw[hd];simp)];rfl
 |true=>
  rw[Bool.not_true,zD]
  by_cases h2:w<1
  ·rw[zT h2,zC,Ck (by omega)]
  rw[zF h2,zD]
  by_cases h3:(999:Int)<w
  ·rw[zT h3,zC,Ck (by omega)]
  rw[zF h3,zD,HW ⟨by omega,by omega,hd,by omega,by omega⟩]
  obtain⟨v,rfl⟩:∃v:Nat,w=v:=⟨w.toNat,by omega⟩
  by_cases h4:(s.size:Int)<=(v:Int)
  ·rw[zT h4,zC,zC]
   obtain⟨c,hc⟩:∃c:Nat,(v:Int)-(s.size:Int)=(c:Int):=⟨v-s.size,by omega⟩
   rw[hc,vf (by omega)]
   have hR:strings_Repeat (bs [48]) (c:Int)=some ⟨(Go.Lib.repeatL (bs [48]).data.toList c).toArray⟩:=by
    unfold strings_Repeat
    rw[zT (by omega:(0:Int)<=(c:Int)),zT (by omega:(c:Int)<=9223372036854775807),zT (by rw[show(((bs [48]).size:Nat):Int)=1 from rfl];omega),Int.toNat_natCast]
    rfl
   rw[hR,zc]
   have di:((⟨(Go.Lib.repeatL (bs [48]).data.toList c).toArray⟩:ByteArray)).size=c:=by rw[<-zh,zg5,List.length_replicate]
   rw[di,zT (by omega),zC,Int.toNat_natCast]
   congr 2
   apply xK
   rw[uO,zg5,pj]
   intro x hx
   rcases List.mem_append.1 hx with hx|hx
   ·rw[(List.mem_replicate.1 hx).2];unfold zn;omega
   ·exact gP hx
  ·rw[zF h4,zD,zD]
   obtain⟨c,hc⟩:∃c:Nat,(s.size:Int)-(v:Int)=(c:Int):=⟨s.size-v,by omega⟩
   have hcv:s.size-((v:Int)).toNat=c:=by omega
   rw[hc,vf (by omega),zT (by omega:(0:Int)<=(c:Int)),zC,zT (by omega:(c:Int)<=((s.size:Nat):Int)),zC,Int.toNat_natCast,hcv]
   have hx:bl (s.extract 0 c)=(bl s).take c:=by rw[z28,List.drop_zero]
   have oZ:(s.extract 0 c).size=c:=by rw[<-zh,hx,List.length_take,zh];omega
   obtain⟨r,r1,r2⟩:=aaR (s.extract 0 c) (by omega)
   rw[r1,zc]
   rw[hx] at r2
   cases ha:eN ((bl s).take c) with
   |true=>
    rw[zT (r2.2 ha),Bool.not_true,zD,zC,zC]
    congr 2
    apply xK
    rw[z28,<-zh,List.take_length,pj]
    exact fun x hx=>gP (List.mem_of_mem_drop hx)
   |false=>
    rw[zF (fun e=>by rw[r2.1 e] at ha;cases ha),Bool.not_false,zC];rfl
def de:List Int->List Int
 |a::b::r=>(16*(a-48)+(b-48))::de r
 |_=>[]
def oh(s:ByteArray):ByteArray×Bool:=
 bif decide (s.size<=999/\aX (bl s)=true) then(strOf (de (if s.size % 2=1 then 48::bl s else bl s)),true) else(bs [],false)
def cF(odd:Bool):List Int->Nat->Option (Int×Int)
 | [],_=>none
 |x::r,i=>if i=0/\odd=true/\x/16≠0 then some (4,0) else if 9<x/16\/9<x % 16 then some (3,i) else cF odd r (i+1)
def cL:List Int->List Int
 | []=>[]
 |x::r=>(48+x/16)::(48+x % 16)::cL r
def ib(b:ByteArray)(n:Int):ByteArray×Int×Int:=
 if n<0\/999<n then(bs [],1,0) else if(b.size:Int)<(n+1)/2 then(bs [],2,(b.size:Int)) else
 match cF (decide (n % 2=1)) ((bl b).take ((n+1)/2).toNat) 0 with
 |some e=>(bs [],e.1,e.2)
 |none=>(strOf ((cL ((bl b).take ((n+1)/2).toNat)).drop (n % 2).toNat),0,0)
theorem Yf:∀a b:Fin 10,aD .or .u8 (zW zU ((zW zU ((48+(a.1:Int))-48))*2^min ((4:Int)).toNat 8)) (zW zU ((48+(b.1:Int))-48))=16*(a.1:Int)+(b.1:Int):=by decide+kernel
theorem GZ{x:Int}(h:b9 x=true):∃k:Fin 10,x=48+(k.1:Int):=by
 unfold b9 at h
 simp only[Bool.and_eq_true,decide_eq_true_eq] at h
 exact⟨⟨(x-48).toNat,by omega⟩,by simp;omega⟩
theorem PI{x y:Int}(hx:b9 x=true)(hy:b9 y=true):aD .or .u8 (zW zU ((zW zU (x-48))*2^min ((4:Int)).toNat 8)) (zW zU (y-48))=16*(x-48)+(y-48):=by
 obtain⟨a,rfl⟩:=GZ hx
 obtain⟨b,rfl⟩:=GZ hy
 have:=Yf a b
 rw[this];omega
theorem z9d(s:ByteArray)(hs:s.size<=1099511627776)(P4:s.size % 2=0)(hd:aX (bl s)=true):∀(n j k:Nat) (o:List Int),j+2*n=s.size->n<k->o.length+n<=35184372088832->iH k s o (j:Int)=some (o++de ((bl s).drop j))
 |n,j,0,o,_,hk,_=>by omega
 |0,j,k+1,o,hj,hk,_=>by
  unfold iH lh
  rw[zF (by omega),zD,List.drop_eq_nil_of_le (by rw[zh];omega),de,List.append_nil]
  exact fun _ _ _ h=>by cases h
 |n+1,j,k+1,o,hj,hk,ho=>by
  have ar:j<s.size:=by omega
  have mL:j+1<s.size:=by omega
  have hl:j<(bl s).length:=by rw[zh];exact ar
  have mK:j+1<(bl s).length:=by rw[zh];exact mL
  have d1:=List.all_eq_true.1 hd _ (List.getElem_mem hl)
  have d2:=List.all_eq_true.1 hd _ (List.getElem_mem mK)
  have e:zW zI ((j:Int)+2)=((j+2:Nat):Int):=by rw[zg (by omega) (by omega)];omega
  unfold iH lh
  rw[zT (by omega),zC,zi ar,zw (by omega),zi mL,Int.toNat_natCast,Int.toNat_natCast,sH hl,sH mK,PI d1 d2,zT (by simp only[List.length_singleton];omega),zC,e]
  dsimp only
  rw[z9d s hs P4 hd n (j+2) k _ (by omega) (by omega) (by rw[List.length_append,List.length_singleton];omega),List.drop_eq_getElem_cons hl,List.drop_eq_getElem_cons mK,de,List.append_assoc]
  rfl
theorem PJ:bl (bs [48])=[48]:=by decide
theorem zf1(s:ByteArray)(hs:s.size<=maxLen):Q1 s=some (oh s):=by
 unfold Q1 jN oh
 by_cases h1:(999:Int)<(s.size:Int)
 ·rw[zT h1,zC,zF (by omega)];rfl
 ·rw[zF h1,zD,Nx s hs,zc]
  cases hd:aX (bl s) with
  |false=>rw[zF (p:=s.size<=999/\false=true) (fun h=>by cases h.2)];rfl
  |true=>
   rw[Bool.not_true,zD,zT (⟨by omega,rfl⟩:s.size<=999/\true=true),zC,uW]
   by_cases hp:s.size % 2=1
   ·have di:(bs [48]++s).size=s.size+1:=by rw[ByteArray.size_append];show 1+s.size=_;omega
    have hb:bl (bs [48]++s)=48::bl s:=by rw[uO,PJ];rfl
    rw[if_pos hp,zF (by omega),Bool.not_false,zC,zT (by show 1+s.size<=_;omega),zC,di]
    have e:Int.tdiv ((s.size+1:Nat):Int) 2=(((s.size+1)/2:Nat):Int):=rfl
    rw[e,zg (by omega) (by omega),zT (by omega),zC,zT (by omega),zC]
    have:=z9d (bs [48]++s) (by omega) (by omega) (by rw[hb];show(b9 48&&aX (bl s))=true;rw[hd];rfl) ((s.size+1)/2) 0 ag [] (by omega) (by rw[zr];omega) (by simp;omega)
    rw[show((0:Nat):Int)=0 from rfl,List.drop_zero,List.nil_append,hb] at this
    dsimp only
    rw[this];rfl
   ·rw[if_neg hp,zT (by omega),Bool.not_true,zD]
    have e:Int.tdiv ((s.size:Nat):Int) 2=((s.size/2:Nat):Int):=rfl
    rw[e,zg (by omega) (by omega),zT (by omega),zC,zT (by omega),zC]
    have:=z9d s (by omega) (by omega) hd (s.size/2) 0 ag [] (by omega) (by rw[zr];omega) (by simp;omega)
    rw[show((0:Nat):Int)=0 from rfl,List.drop_zero,List.nil_append] at this
    dsimp only
    rw[this];rfl
theorem Ie(n:Int)(h0:0<=n)(h1:n<=999):Q2 n=some ((n+1)/2):=by
 unfold Q2 na
 obtain⟨m,rfl⟩:∃m:Nat,n=m:=⟨n.toNat,by omega⟩
 by_cases h:(m:Int)<1
 ·rw[zT h,zC]
  congr 1
  omega
 ·rw[zF h,zD,uW]
  have e:Int.tdiv (m:Int) 2=((m/2:Nat):Int):=rfl
  have e2:zW zI ((m/2:Nat):Int)=((m/2:Nat):Int):=zg (by omega) (by omega)
  rw[e,e2,zg (by omega) (by omega)]
  congr 1
  omega
theorem YZ:∀d:Fin 16,d.1<=9->zW zU ((48:Int)+(d.1:Int))=48+(d.1:Int):=by decide+kernel
theorem pa{d:Nat}(h:d<=9):zW zU ((48:Int)+(d:Int))=48+(d:Int):=YZ ⟨d,by omega⟩ h
theorem zkl(b:ByteArray)(hb0:b.size<=1099511627776)(nn:Nat)(hn:nn<=999)(m:Nat)(hm:m<=b.size):∀(n j k:Nat) (o:List Int),j+n=m->n<k->o.length+2*n<=35184372088832->∃o',gQ k b (nn:Int) o (m:Int) (j:Int)=some (match cF (decide (nn % 2=1)) (((bl b).take m).drop j) j with
 |some e=> .inl ((nn:Int),bs [],e.1,e.2,o')
 |none=> .inr ((nn:Int),o++cL (((bl b).take m).drop j)))
 |n,j,0,o,_,hk,_=>by omega
 |0,j,k+1,o,hj,hk,_=>by
  unfold gQ ld
  rw[zF (by omega),zD,List.drop_eq_nil_of_le (by rw[List.length_take,zh];omega)]
  exact⟨o,by simp [cF,cL]⟩
 |n+1,j,k+1,o,hj,hk,ho=>by
  have ar:j<b.size:=by omega
  have hl:j<(bl b).length:=by rw[zh];exact ar
  have EB:j<((bl b).take m).length:=by rw[List.length_take];omega
  obtain⟨x,hx,_,_⟩:=Kl (gP (List.getElem_mem hl))
  have rf:=x.2
  have ih:=zkl b hb0 nn hn m hm n (j+1) k (o++ [48+((x.1/16:Nat):Int),48+((x.1 % 16:Nat):Int)]) (by omega) (by omega) (by rw[List.length_append];simp only[List.length_cons,List.length_nil];omega)
  have hw:∀{R:Type} (z:Option R),zd (j:Int) b.size z=z:=fun z=>zi ar
  have fO:((bl b).take m).drop j=(x.1:Int)::((bl b).take m).drop (j+1):=by rw[List.drop_eq_getElem_cons EB,List.getElem_take,hx]
  rw[fO,cF,cL]
  unfold gQ ld
  simp only[hw,Int.toNat_natCast,sH hl,hx,(sI x).1,(sI x).2.1,uW]
  rw[zT (by omega:(j:Int)<(m:Int)),zC]
  have Eg:(x.1:Int)/16=((x.1/16:Nat):Int):=by omega
  have Eh:(x.1:Int)% 16=((x.1 % 16:Nat):Int):=by omega
  rw[Eg,Eh]
  have plain:∀(Z:Option (Sum (Int×ByteArray×Int×Int×List Int) (Int×List Int))),Z=(bif decide ((9:Int)<((x.1/16:Nat):Int)) then some (.inl ((nn:Int),bs [],(3:Int),(j:Int),o)) else bif decide ((9:Int)<((x.1 % 16:Nat):Int)) then some (.inl ((nn:Int),bs [],(3:Int),(j:Int),o)) else(bif decide ((o.length+(List.length ([zW zU (48+((x.1/16:Nat):Int)),zW zU (48+((x.1 % 16:Nat):Int))]:List Int)))*1<=140737488355328) then gQ k b (nn:Int) (o++ [zW zU (48+((x.1/16:Nat):Int)),zW zU (48+((x.1 % 16:Nat):Int))]) (m:Int) (zW zI ((j:Int)+1)) else none))->
   ∃o',Z=some (match(if 9<((x.1/16:Nat):Int)\/9<((x.1 % 16:Nat):Int) then some ((3:Int),(j:Int)) else cF (decide (nn % 2=1)) (((bl b).take m).drop (j+1)) (j+1)) with
    |some e=> .inl ((nn:Int),bs [],e.1,e.2,o')
    |none=> .inr ((nn:Int),o++(48+((x.1/16:Nat):Int))::(48+((x.1 % 16:Nat):Int))::cL (((bl b).take m).drop (j+1)))):=fun Z hZ=>by
   rw[hZ]
   by_cases c1:(9:Int)<((x.1/16:Nat):Int)
   ·rw[zT c1,if_pos (.inl c1)]
    exact⟨o,rfl⟩
   ·by_cases c2:(9:Int)<((x.1 % 16:Nat):Int)
    ·rw[zF c1,zD,zT c2,if_pos (.inr c2)]
     exact⟨o,rfl⟩
    ·rw[zF c1,zD,zF c2,zD,if_neg (fun h=>h.elim c1 c2),pa (by omega),pa (by omega),zT (by simp only[List.length_cons,List.length_nil];omega),zC,zw (by omega)]
     obtain⟨o',h⟩:=ih
     refine⟨o',h.trans ?_⟩
     rw[List.append_assoc]
     rfl
  by_cases j0:j=0
  ·subst j0
   rw[zT (by omega:((0:Nat):Int)=0),zC]
   by_cases hp:nn % 2=1
   ·rw[zT hp,zF (by omega:¬((nn % 2:Nat):Int)=0),Bool.not_false,zC]
    by_cases hz:x.1/16=0
    ·rw[if_neg (by omega),zT (by omega),Bool.not_true,zD]
     have:=plain _ rfl
     rw[zT hp] at this
     exact this
    ·rw[if_pos (by simp;omega),zF (by omega),Bool.not_false,zC]
     exact⟨o,rfl⟩
   ·rw[zF hp,zT (by omega:((nn % 2:Nat):Int)=0),Bool.not_true,zD,if_neg (by simp)]
    have:=plain _ rfl
    rw[zF hp] at this
    exact this
  ·rw[zF (by omega:¬(j:Int)=0),zD,if_neg (by omega)]
   exact plain _ rfl
theorem zf0(b:ByteArray)(n:Int)(hb:b.size<=1099511627776):Q0 b n=some (ib b n):=by
 unfold Q0 mZ ib
 by_cases h0:n<0
 ·rw[zT h0,if_pos (.inl h0)];rfl
 ·rw[zF h0,zD]
  by_cases h1:999<n
  ·rw[zT h1,if_pos (.inr h1)];rfl
  ·rw[zF h1,zD,if_neg (fun h=>h.elim h0 h1),Ie n (by omega) (by omega),zc]
   by_cases h2:(b.size:Int)<(n+1)/2
   ·rw[zT h2,if_pos h2];rfl
   ·rw[zF h2,zD,if_neg h2,zg (by omega) (by omega),zT (by omega),zC,zT (by omega),zC,zc]
    obtain⟨nn,rfl⟩:∃nn:Nat,n=nn:=⟨n.toNat,by omega⟩
    have em:((nn:Int)+1)/2=(((nn+1)/2:Nat):Int):=by omega
    have ep:((nn:Int)% 2).toNat=nn % 2:=by omega
    have eo:decide ((nn:Int)% 2=1)=decide (nn % 2=1):=decide_eq_decide.2 (by omega)
    rw[em,Int.toNat_natCast,eo,ep]
    obtain⟨o',h⟩:=zkl b hb nn (by omega) ((nn+1)/2) (by omega) ((nn+1)/2) 0 ag [] (by omega) (by rw[zr];omega) (by simp;omega)
    rw[show((0:Nat):Int)=0 from rfl,List.drop_zero,List.nil_append] at h
    dsimp only
    rw[h,zc]
    cases cF (decide (nn % 2=1)) ((bl b).take ((nn+1)/2)) 0 with
    |some e=>rfl
    |none=>
     dsimp only
     rw[Sum.elim_inr]
     unfold m3
     dsimp only
     rw[uW,zT (by omega),zC]
     have hlen:∀l:List Int,(cL l).length=2*l.length:=fun l=>by
      induction l with
      |nil=>rfl
      |cons x r ih=>rw[cL,List.length_cons,List.length_cons,ih,List.length_cons];omega
     rw[zT (by rw[hlen,List.length_take,zh];omega),zC,Int.toNat_natCast,List.take_length]
theorem ym(j:Nat):Int.tdiv (j:Int) (2:Int)=((j/2:Nat):Int):=rfl
theorem z168(b:ByteArray)(hb:b.size<=1099511627776)(m:Nat)(hm:m<=b.size)(yJ:m<=500)(K:Nat)(t:ByteArray)(ht:t.size<=1000){j:Nat}(hj:j<m)(x:Fin 256)(hx:ze b j=(x.1:Int)):
 mX (K+1) b (m:Int) t ((2*j:Nat):Int)=(if 9<x.1/16 then some (.inl (bs [],(3:Int),(j:Int),t)) else mX K b (m:Int) (t++strOf [48+((x.1/16:Nat):Int)]) ((2*j+1:Nat):Int)):=by
 have rf:=x.2
 have e1:zW zI ((2:Int)*(m:Int))=((2*m:Nat):Int):=by rw[zg (by omega) (by omega)];omega
 have e2:zW zI (((2*j)/2:Nat):Int)=(j:Int):=by rw[zg (by omega) (by omega)];omega
 conv=>lhs;unfold mX AN
 simp only[e1,ym,e2,uW,Int.toNat_natCast,hx,(sI x).2.2.1,(sI x).2.2.2]
 have hw:∀{R:Type} (z:Option R),zd (j:Int) b.size z=z:=fun z=>zi (by omega)
 simp only[hw]
 rw[zT (by omega),zC,zF (by omega:¬((2*j:Nat):Int)=1),zD,zF (by omega:¬(((2*j)% 2:Nat):Int)=1),zD]
 by_cases h:9<x.1/16
 ·rw[if_pos h,zT (by omega)];rfl
 ·rw[if_neg h,zF (by omega),zD,pa (by omega),zT (by rw[lX];simp only[List.length_singleton];omega),zC,zw (by omega)]
theorem VD(b:ByteArray)(hb:b.size<=1099511627776)(m:Nat)(hm:m<=b.size)(yJ:m<=500)(K:Nat)(t:ByteArray)(ht:t.size<=1000){j:Nat}(hj:j<m)(x:Fin 256)(hx:ze b j=(x.1:Int))(bZ:¬(j=0/\t=bs [])):
 mX (K+1) b (m:Int) t ((2*j+1:Nat):Int)=(if 9<x.1 % 16 then some (.inl (bs [],(3:Int),(j:Int),t)) else mX K b (m:Int) (t++strOf [48+((x.1 % 16:Nat):Int)]) ((2*(j+1):Nat):Int)):=by
 have rf:=x.2
 have e1:zW zI ((2:Int)*(m:Int))=((2*m:Nat):Int):=by rw[zg (by omega) (by omega)];omega
 have e2:zW zI (((2*j+1)/2:Nat):Int)=(j:Int):=by rw[zg (by omega) (by omega)];omega
 have e3:zW zI (((2*j+1:Nat):Int)+1)=((2*(j+1):Nat):Int):=by rw[zg (by omega) (by omega)];omega
 conv=>lhs;unfold mX AN
 simp only[e1,ym,e2,e3,uW,Int.toNat_natCast,hx,(sI x).2.2.1,(sI x).2.2.2]
 have hw:∀{R:Type} (z:Option R),zd (j:Int) b.size z=z:=fun z=>zi (by omega)
 simp only[hw]
 rw[zT (by omega),zC]
 have EL:decide ((((2*j+1)% 2:Nat):Int)=1)=true:=zT (by omega)
 by_cases hj0:j=0
 ·have htn:¬t=bs []:=fun e=>bZ ⟨hj0,e⟩
  rw[zT (by omega:((2*j+1:Nat):Int)=1),zC,zF htn,zD,EL,zC]
  by_cases h:9<x.1 % 16
  ·rw[if_pos h,zT (by omega)];rfl
  ·rw[if_neg h,zF (by omega),zD,pa (by omega),zT (by rw[lX];simp only[List.length_singleton];omega),zC]
 ·rw[zF (by omega:¬((2*j+1:Nat):Int)=1),zD,EL,zC]
  by_cases h:9<x.1 % 16
  ·rw[if_pos h,zT (by omega)];rfl
  ·rw[if_neg h,zF (by omega),zD,pa (by omega),zT (by rw[lX];simp only[List.length_singleton];omega),zC]
theorem SO(b:ByteArray)(hb:b.size<=1099511627776)(m:Nat)(hm:m<=b.size)(yJ:m<=500)(K:Nat)(h0:0<m)(x:Fin 256)(hx:ze b 0=(x.1:Int)):
 mX (K+1) b (m:Int) (bs []) (1:Int)=(if x.1/16≠0 then some (.inl (bs [],(4:Int),(0:Int),bs [])) else if 9<x.1 % 16 then some (.inl (bs [],(3:Int),(0:Int),bs [])) else mX K b (m:Int) (bs []++strOf [48+((x.1 % 16:Nat):Int)]) (2:Int)):=by
 have rf:=x.2
 have e1:zW zI ((2:Int)*(m:Int))=((2*m:Nat):Int):=by rw[zg (by omega) (by omega)];omega
 have e2:zW zI (Int.tdiv (1:Int) 2)=0:=by decide
 have e3:zW zI ((1:Int)+1)=2:=by decide
 have e4:Int.tmod (1:Int) 2=1:=by decide
 conv=>lhs;unfold mX AN
 simp only[e1,e2,e3,e4,show((0:Int)).toNat=0 from rfl,hx,(sI x).2.2.1,(sI x).2.2.2]
 have hw:∀{R:Type} (z:Option R),zd (0:Int) b.size z=z:=fun z=>zm (by omega) (by omega)
 simp only[hw]
 rw[zT (by omega),zC]
 simp only[decide_true,zC]
 by_cases hz:x.1/16=0
 ·rw[if_neg (fun h=>h hz),zT (by omega),Bool.not_true,zD]
  by_cases h:9<x.1 % 16
  ·rw[if_pos h,zT (by omega)];rfl
  ·rw[if_neg h,zF (by omega),zD,pa (by omega),zT (by rw[lX];simp only[List.length_singleton];show 0+1<=_;omega),zC]
 ·rw[if_pos hz,zF (by omega)];rfl
theorem Wd(t:ByteArray)(a b:Int):t++strOf [a]++strOf [b]=t++strOf [a,b]:=by
 rw[ByteArray.append_assoc,<-z8w];rfl
theorem zm9:∀(l:List Int) (i:Nat) (o1 o2:Bool),0<i->cF o1 l i=cF o2 l i
 | [],i,o1,o2,_=>rfl
 |y::r,i,o1,o2,hi=>by
  have e:∀o,cF o (y::r) i=if 9<y/16\/9<y % 16 then some (3,(i:Int)) else cF o r (i+1):=fun o=>by rw[cF,if_neg (fun h=>absurd h.1 (by omega))]
  rw[e,e,zm9 r (i+1) o1 o2 (by omega)]
theorem zbz(b:ByteArray)(hb:b.size<=1099511627776)(m:Nat)(hm:m<=b.size)(yJ:m<=500)(odd:Bool):∀(n j K:Nat) (t:ByteArray),j+n=m->2*n<K->t.size+2*n<=1000->((odd=true\/t≠bs [])->0<j)->∃o',mX K b (m:Int) t ((2*j:Nat):Int)=some (match cF (odd&&decide (0<j)) (((bl b).take m).drop j) j with
 |some e=> .inl (bs [],e.1,e.2,o')
 |none=> .inr (t++strOf (cL (((bl b).take m).drop j))))
 |n,j,0,t,_,hk,_,_=>by omega
 |0,j,K+1,t,hj,hk,ht,h0=>by
  have e1:zW zI ((2:Int)*(m:Int))=((2*m:Nat):Int):=by rw[zg (by omega) (by omega)];omega
  unfold mX AN
  rw[e1,zF (by omega),zD,List.drop_eq_nil_of_le (by rw[List.length_take,zh];omega)]
  exact⟨t,by simp only[cF,cL];congr 2;apply xK;rw[uO];simp [bl,strOf]⟩
 |n+1,j,1,t,hj,hk,ht,h0=>by omega
 |n+1,j,K+2,t,hj,hk,ht,h0=>by
  have ar:j<b.size:=by omega
  have hl:j<(bl b).length:=by rw[zh];exact ar
  have EB:j<((bl b).take m).length:=by rw[List.length_take];omega
  obtain⟨x,hx,_,_⟩:=Kl (gP (List.getElem_mem hl))
  have rf:=x.2
  have J4:ze b j=(x.1:Int):=by rw[sH hl,hx]
  have fO:((bl b).take m).drop j=(x.1:Int)::((bl b).take m).drop (j+1):=by rw[List.drop_eq_getElem_cons EB,List.getElem_take,hx]
  have Eg:(x.1:Int)/16=((x.1/16:Nat):Int):=by omega
  have Eh:(x.1:Int)% 16=((x.1 % 16:Nat):Int):=by omega
  rw[z168 b hb m hm yJ (K+1) t (by omega) (by omega) x J4,fO,cF,cL,Eg,Eh]
  have yE:¬(j=0/\(odd&&decide (0<j))=true/\((x.1/16:Nat):Int)≠0):=by
   rintro⟨h1,h2,_⟩
   rw[h1] at h2
   simp at h2
  rw[if_neg yE]
  by_cases h:9<x.1/16
  ·rw[if_pos h,if_pos (.inl (by omega))]
   exact⟨t,rfl⟩
  ·rw[if_neg h,VD b hb m hm yJ K _ (by rw[ByteArray.size_append,lX];simp only[List.length_singleton];omega) (by omega) x J4 (fun e=>by
    have:=congrArg ByteArray.size e.2
    rw[ByteArray.size_append,lX] at this
    simp only[List.length_singleton] at this
    have h0:(bs []).size=0:=rfl
    omega)]
   by_cases h2:9<x.1 % 16
   ·rw[if_pos h2,if_pos (.inr (by omega))]
    exact⟨_,rfl⟩
   ·rw[if_neg h2,if_neg (by omega),Wd]
    obtain⟨o',ih⟩:=zbz b hb m hm yJ odd n (j+1) K (t++strOf [48+((x.1/16:Nat):Int),48+((x.1 % 16:Nat):Int)]) (by omega) (by omega) (by rw[ByteArray.size_append,lX];simp only[List.length_cons,List.length_nil];omega) (fun _=>by omega)
    refine⟨o',ih.trans ?_⟩
    have hE:cF (odd&&decide (0<j+1)) (((bl b).take m).drop (j+1)) (j+1)=cF (odd&&decide (0<j)) (((bl b).take m).drop (j+1)) (j+1):=by
     exact zm9 _ _ _ _ (by omega)
    rw[hE,ByteArray.append_assoc,<-z8w]
    rfl
theorem zld(b:ByteArray)(n:Int)(hb:b.size<=1099511627776):pC b n=some (ib b n):=by
 unfold pC OW ib
 by_cases h0:n<0
 ·rw[zT h0,if_pos (.inl h0)];rfl
 ·rw[zF h0,zD]
  by_cases h1:999<n
  ·rw[zT h1,if_pos (.inr h1)];rfl
  ·rw[zF h1,zD,if_neg (fun h=>h.elim h0 h1)]
   obtain⟨nn,rfl⟩:∃nn:Nat,n=nn:=⟨n.toNat,by omega⟩
   have ew:zW zI ((nn:Int)+1)=((nn+1:Nat):Int):=by rw[zg (by omega) (by omega)];omega
   have ew2:zW zI (((nn+1)/2:Nat):Int)=(((nn+1)/2:Nat):Int):=zg (by omega) (by omega)
   have em:((nn:Int)+1)/2=(((nn+1)/2:Nat):Int):=by omega
   have ep:((nn:Int)% 2).toNat=nn % 2:=by omega
   have eo:decide ((nn:Int)% 2=1)=decide (nn % 2=1):=decide_eq_decide.2 (by omega)
   rw[ew,ym,ew2,em,Int.toNat_natCast,eo,ep]
   generalize yL:(nn+1)/2=m
   by_cases h2:(b.size:Int)<(m:Int)
   ·rw[zT h2,if_pos h2];rfl
   ·rw[zF h2,zD,if_neg h2]
    have e2m:zW zI ((2:Int)*(m:Int))=((2*m:Nat):Int):=by rw[zg (by omega) (by omega)];omega
    rw[e2m]
    dsimp only
    by_cases hp:nn % 2=1
    ·have es:zW zI (((2*m:Nat):Int)-(nn:Int))=1:=by rw[zg (by omega) (by omega)];omega
     rw[es,zT hp]
     have hl:0<(bl b).length:=by rw[zh];omega
     have EB:0<((bl b).take m).length:=by rw[List.length_take];omega
     obtain⟨x,hx,_,_⟩:=Kl (gP (List.getElem_mem hl))
     have rf:=x.2
     have J4:ze b 0=(x.1:Int):=by rw[sH hl,hx]
     have fO:(bl b).take m=(x.1:Int)::((bl b).take m).drop 1:=by
      have:=List.drop_eq_getElem_cons EB
      rw[List.drop_zero,List.getElem_take,hx] at this
      exact this
     have Eg:(x.1:Int)/16=((x.1/16:Nat):Int):=by omega
     have Eh:(x.1:Int)% 16=((x.1 % 16:Nat):Int):=by omega
     obtain⟨K,hK⟩:∃K,ag=K+1:=⟨ag-1,by rw[zr]⟩
     rw[hK,SO b hb m (by omega) (by omega) K (by omega) x J4,fO,cF,cL,Eg,Eh]
     by_cases hz:x.1/16=0
     ·have Qz:¬((0:Nat)=0/\true=true/\((x.1/16:Nat):Int)≠0):=by simp;omega
      rw[if_neg (fun h=>h hz),if_neg Qz]
      by_cases h9:9<x.1 % 16
      ·rw[if_pos h9,if_pos (.inr (by omega))];rfl
      ·rw[if_neg h9,if_neg (by omega)]
       have E1:(bs []++strOf [48+((x.1 % 16:Nat):Int)]).size=1:=by rw[ByteArray.size_append,lX];rfl
       obtain⟨o',ih⟩:=zbz b hb m (by omega) (by omega) true (m-1) 1 K (bs []++strOf [48+((x.1 % 16:Nat):Int)]) (by omega) (by rw[zr] at hK;omega) (by rw[E1];omega) (fun _=>by omega)
       rw[show((2*1:Nat):Int)=2 from rfl] at ih
       rw[ih,zc,zm9 _ 1 (true&&decide (0<1)) true (by omega)]
       cases cF true (((bl b).take m).drop 1) 1 with
       |some e=>rfl
       |none=>
        dsimp only
        rw[Sum.elim_inr]
        unfold Jr
        rw[hp]
        congr 2
     ·rw[if_pos hz,if_pos ⟨rfl,rfl,by omega⟩];rfl
    ·have es:zW zI (((2*m:Nat):Int)-(nn:Int))=((2*0:Nat):Int):=by rw[zg (by omega) (by omega)];omega
     rw[es,zF hp]
     obtain⟨o',ih⟩:=zbz b hb m (by omega) (by omega) false m 0 ag (bs []) (by omega) (by rw[zr];omega) (by show 0+_<=_;omega) (fun h=>by rcases h with h|h;cases h;exact absurd rfl h)
     rw[ih,zc,List.drop_zero,show(false&&decide (0<0))=false from rfl]
     cases cF false ((bl b).take m) 0 with
     |some e=>rfl
     |none=>
      dsimp only
      rw[Sum.elim_inr]
      unfold Jr
      rw[show nn % 2=0 by omega,List.drop_zero]
      congr 2
theorem pg{a:Int}{l:List Int}:aX (a::l)=true↔b9 a=true/\aX l=true:=by
 rw[zez,Bool.and_eq_true]
theorem sw{a:Int}:b9 a=true↔48<=a/\a<=57:=by
 unfold b9
 rw[decide_eq_true_eq]
theorem zmb:∀l:List Int,(de l).length=l.length/2
 | []=>rfl
 | [a]=>by simp [de]
 |a::b::r=>by rw[de,List.length_cons,zmb r,List.length_cons,List.length_cons];omega
theorem zma:∀l:List Int,(cL l).length=2*l.length
 | []=>rfl
 |x::r=>by rw[cL,List.length_cons,List.length_cons,zma r,List.length_cons];omega
theorem zw5:∀{l:List Int},aX l=true->∀y∈de l,zn y
 | [],_,y,hy=>by simp [de] at hy
 | [a],_,y,hy=>by simp [de] at hy
 |a::b::r,h,y,hy=>by
  obtain⟨h1,h2⟩:=pg.1 h
  obtain⟨h2,h3⟩:=pg.1 h2
  rw[sw] at h1 h2
  rw[de] at hy
  rcases List.mem_cons.1 hy with rfl|hy
  ·unfold zn;omega
  ·exact zw5 h3 y hy
theorem wu:∀{l:List Int},l.length % 2=0->aX l=true->cL (de l)=l
 | [],_,_=>by simp [de,cL]
 | [a],h,_=>by simp at h
 |a::b::r,h,hd=>by
  obtain⟨h1,h2⟩:=pg.1 hd
  obtain⟨h2,h3⟩:=pg.1 h2
  rw[sw] at h1 h2
  rw[de,cL,wu (by simp only[List.length_cons] at h;omega) h3,show 48+(16*(a-48)+(b-48))/16=a by omega,show 48+(16*(a-48)+(b-48))% 16=b by omega]
theorem wq(odd:Bool):∀{l:List Int} {i:Nat},l.length % 2=0->aX l=true->(i=0->odd=true->l.getD 0 48=48)->cF odd (de l) i=none
 | [],_,_,_,_=>by simp [de,cF]
 | [a],_,h,_,_=>by simp at h
 |a::b::r,i,h,hd,ho=>by
  obtain⟨h1,h2⟩:=pg.1 hd
  obtain⟨h2,h3⟩:=pg.1 h2
  rw[sw] at h1 h2
  rw[de,cF,if_neg,if_neg (by omega)]
  ·exact wq odd (by simp only[List.length_cons] at h;omega) h3 fun hi=>by omega
  ·rintro⟨e1,e2,e3⟩
   have:a=48:=ho e1 e2
   omega
def gb(s:ByteArray):List Int:=if s.size % 2=1 then 48::bl s else bl s
theorem zw6(s:ByteArray):(gb s).length % 2=0:=by
 unfold gb
 split
 ·rw[List.length_cons,zh];omega
 ·rw[zh];omega
theorem FA(s:ByteArray):(gb s).length/2=(s.size+1)/2:=by
 unfold gb
 split
 ·rw[List.length_cons,zh]
 ·rw[zh];omega
theorem zmc{s:ByteArray}(h:aX (bl s)=true):aX (gb s)=true:=by
 unfold gb
 split
 ·exact pg.2 ⟨rfl,h⟩
 ·exact h
theorem zf3{s:ByteArray}(h:s.size<=999)(hd:aX (bl s)=true):oh s=(strOf (de (gb s)),true):=by
 unfold oh gb
 rw[zT ⟨h,hd⟩,zC]
theorem H8{s:ByteArray}(h:s.size<=999)(hd:aX (bl s)=true):(oh s).1.size=(s.size+1)/2:=by
 rw[zf3 h hd]
 show(strOf _).size=_
 rw[lX,zmb,FA]
theorem zmd{s:ByteArray}(h:s.size<=999)(hd:aX (bl s)=true):ib (oh s).1 (s.size:Int)=(s,0,0):=by
 have di:=H8 h hd
 have hb:bl (oh s).1=de (gb s):=by rw[zf3 h hd];exact pj (zw5 (zmc hd))
 unfold ib
 rw[if_neg (by omega),if_neg (by rw[di];omega),hb,List.take_of_length_le (by rw[zmb,FA];omega),wq _ (zw6 s) (zmc hd),wu (zw6 s) (zmc hd)]
 ·dsimp only
  by_cases hp:s.size % 2=1
  ·rw[show((s.size:Int)% 2).toNat=1 by omega]
   unfold gb
   rw[if_pos hp,List.drop_succ_cons,List.drop_zero,z49]
  ·rw[show((s.size:Int)% 2).toNat=0 by omega]
   unfold gb
   rw[if_neg hp,List.drop_zero,z49]
 ·intro _ ho
  have ho:=of_decide_eq_true ho
  unfold gb
  rw[if_pos (by omega)];rfl
theorem zw4{odd:Bool}:∀{l:List Int} {i:Nat},cF odd l i=none->(∀x∈l,x/16<=9/\x % 16<=9)/\(i=0->odd=true->l.getD 0 0/16=0)
 | [],i,_=>⟨fun x hx=>(by cases hx),fun _ _=>rfl⟩
 |a::r,i,h=>by
  rw[cF] at h
  by_cases h1:i=0/\odd=true/\a/16≠0
  ·rw[if_pos h1] at h;cases h
  ·rw[if_neg h1] at h
   by_cases h2:9<a/16\/9<a % 16
   ·rw[if_pos h2] at h;cases h
   ·rw[if_neg h2] at h
    refine⟨fun x hx=> ?_,fun hi ho=> ?_⟩
    ·rcases List.mem_cons.1 hx with rfl|hx
     ·omega
     ·exact(zw4 h).1 x hx
    ·show a/16=0
     by_cases h3:a/16=0
     ·exact h3
     ·exact absurd ⟨hi,ho,h3⟩ h1
theorem wv:∀{l:List Int},(∀x∈l,zn x)->de (cL l)=l
 | [],_=>by simp [cL,de]
 |x::r,h=>by
  have hx:=h x List.mem_cons_self
  unfold zn at hx
  rw[cL,de,wv fun y hy=>h y (List.mem_cons_of_mem _ hy),show 16*(48+x/16-48)+(48+x % 16-48)=x by omega]
theorem Fz:∀{l:List Int},(∀x∈l,zn x)->(∀x∈l,x/16<=9/\x % 16<=9)->aX (cL l)=true
 | [],_,_=>rfl
 |x::r,h,h9=>by
  have hx:=h x List.mem_cons_self
  have hy:=h9 x List.mem_cons_self
  unfold zn at hx
  rw[cL]
  exact pg.2 ⟨sw.2 (by omega),pg.2 ⟨sw.2 (by omega),Fz (fun y hy=>h y (List.mem_cons_of_mem _ hy)) fun y hy=>h9 y (List.mem_cons_of_mem _ hy)⟩⟩
theorem zwl{l:List Int}(h:aX l=true):∀x∈l,zn x:=fun x hx=>by
 have:=sw.1 (List.all_eq_true.1 h x hx)
 unfold zn;omega
theorem zw7{b t:ByteArray}{n i:Int}(h:ib b n=(t,0,i))(hb:(b.size:Int)=(n+1)/2):oh t=(b,true)/\(t.size:Int)=n/\aX (bl t)=true:=by
 unfold ib at h
 by_cases h0:n<0\/999<n
 ·rw[if_pos h0] at h;cases h
 ·rw[if_neg h0,if_neg (by omega),<-hb,Int.toNat_natCast,List.take_of_length_le (by rw[zh];exact Nat.le_refl _)] at h
  cases he:cF (decide (n % 2=1)) (bl b) 0 with
  |some e=>
   rw[he] at h
   dsimp only at h
   injection h with _ h
   injection h with h _
   exfalso
   have key:∀{l:List Int} {i:Nat} {odd:Bool} {e:Int×Int},cF odd l i=some e->e.1≠0:=by
    intro l
    induction l with
    |nil=>intro i odd e h;cases h
    |cons a r ih=>
     intro i odd e h
     rw[cF] at h
     split at h
     ·cases h;decide
     ·split at h
      ·cases h;simp
      ·exact ih h
   exact key he h
  |none=>
   rw[he] at h
   dsimp only at h
   obtain⟨g1,g2⟩:=zw4 he
   have l9:∀x∈bl b,zn x:=fun x hx=>gP hx
   have dP:=Fz l9 g1
   have ht:t=strOf ((cL (bl b)).drop (n % 2).toNat):=(congrArg Prod.fst h).symm
   have wI:aX ((cL (bl b)).drop (n % 2).toNat)=true:=List.all_eq_true.2 fun x hx=>List.all_eq_true.1 dP x (List.mem_of_mem_drop hx)
   have dx:bl t=(cL (bl b)).drop (n % 2).toNat:=by rw[ht];exact pj (zwl wI)
   have gj:t.size=2*b.size-(n % 2).toNat:=by rw[<-zh,dx,List.length_drop,zma,zh]
   have hX:gb t=cL (bl b):=by
    unfold gb
    by_cases hp:n % 2=1
    ·rw[if_pos (by omega),dx,show(n % 2).toNat=1 by omega]
     have h1:=g2 rfl (by rw[zT hp])
     cases hl:bl b with
     |nil=>
      have h9:b.size=0:=by rw[<-zh,hl];rfl
      omega
     |cons x r=>
      rw[hl] at h1
      have h1:x/16=0:=h1
      rw[cL,List.drop_succ_cons,List.drop_zero,h1];rfl
    ·rw[if_neg (by omega),dx,show(n % 2).toNat=0 by omega,List.drop_zero]
   have hd:aX (bl t)=true:=by rw[dx];exact wI
   refine⟨?_,by omega,hd⟩
   rw[zf3 (by omega) hd,hX,wv l9,z49]
def dk(style form:Int):Bool:=decide ((style=1\/style=2)/\(form=2\/form=3))
def gN(style form:Int):Nat:=if style=2 then(form.toNat+1)/2 else form.toNat
def z24(style form n:Int):ByteArray×Int:=
 bif dk style form then(bif(fe n form).2 then(if style=2 then(oh (fe n form).1).1 else(fe n form).1,0) else(bs [],5)) else(bs [],1)
def kD(style form:Int)(s:ByteArray):Option Int:=
 if style=2 then(if(ib s form).2.1=0 then(if(cE (bl (ib s form).1)).2=true then some (cE (bl (ib s form).1)).1 else none) else none) else if(cE (bl s)).2=true then some (cE (bl s)).1 else none
def gC(style form:Int)(b:ByteArray)(at_:Int):Int×Int×Int:=
 bif dk style form&&decide (0<=at_/\at_<=b.size) then(if b.size<at_.toNat+gN style form then(0,0,2) else
  match kD style form (b.extract at_.toNat (at_.toNat+gN style form)) with
  |some n=>(n,((at_.toNat+gN style form:Nat):Int),0)
  |none=>(0,0,3)) else(0,0,1)
theorem zxo(n w:Int):(fe n w).1.size<=18:=by
 by_cases h:0<=n/\1<=w/\w<=18/\n.toNat/10^w.toNat=0
 ·rw[Pp h];show(strOf _).size<=18;rw[lX,Ig];omega
 ·rw[JL h];decide
theorem VZ(style form n:Int)(hn:n<=9223372036854775807):oB style form n=some (z24 style form n):=by
 unfold oB LV oC IL iG IM z24 dk
 by_cases h1:style=1<;>by_cases h2:style=2<;>by_cases h3:form=2<;>by_cases h4:form=3<;>(try(exfalso;omega))<;>simp [h1,h2,h3,h4,abC _ _ hn]
 all_goals
  cases hp:(fe n _).2<;>simp [hp]
 all_goals
  rw[zf1 _ (by have:=zxo n;simp only[maxLen];first|(have:=this 2;omega)|(have:=this 3;omega))]
  rfl
theorem uU{b:ByteArray}{i n:Nat}(h:i+n<=b.size):(b.extract i (i+n)).size=n:=by rw[ByteArray.size_extract];omega
theorem H7{b t:ByteArray}{n e i:Int}(h:ib b n=(t,e,i)):t.size<=1998:=by
 unfold ib at h
 split at h
 ·cases h;decide
 ·split at h
  ·cases h;decide
  ·split at h
   ·cases h;decide
   ·cases h
    rw[lX,List.length_drop,zma,List.length_take]
    omega
theorem VY(style form:Int)(b:ByteArray)(at_:Int)(hb:b.size<=1099511627776):p7 style form b at_=some (gC style form b at_):=by
 unfold p7 LR oC IL iG IM gC dk
 by_cases bR:0<=at_/\at_<=b.size
 ·obtain⟨m,rfl⟩:∃m:Nat,at_=m:=⟨at_.toNat,by omega⟩
  have hm:m<=b.size:=by omega
  have w0:zW zI ((b.size:Int)-(m:Int))=(b.size:Int)-m:=zg (by omega) (by omega)
  have w1:∀k:Nat,k<=3->zW zI ((m:Int)+(k:Int))=((m+k:Nat):Int):=fun k hk=>by rw[zg (by omega) (by omega)];omega
  have z1:=Ie 2 (by decide) (by decide)
  have z2:=Ie 3 (by decide) (by decide)
  have v1:=w1 1 (by decide)
  have v2:=w1 2 (by decide)
  have v3:=w1 3 (by decide)
  rw[show((1:Nat):Int)=1 from rfl] at v1
  rw[show((2:Nat):Int)=2 from rfl] at v2
  rw[show((3:Nat):Int)=3 from rfl] at v3
  have t2:((m:Int)+2).toNat=m+2:=by omega
  have t3:((m:Int)+3).toNat=m+3:=by omega
  have a1:¬(m:Int)<0:=by omega
  have a2:¬(b.size:Int)<m:=by omega
  have a3:0<=((m:Int)):=by omega
  have a4:(m:Int)<=b.size:=by omega
  by_cases h1:style=1<;>by_cases h2:style=2<;>by_cases h3:form=2<;>by_cases h4:form=3<;>(try(exfalso;omega))<;>simp [h1,h2,h3,h4,a1,a2,w0,z1,z2,v1,v2,v3,gN]
  all_goals
   rw[zT hm,zC]
   split
   ·rename_i hc
    rw[zT (by omega),zC]
   ·rename_i hc
    rw[zF (by omega),zD,zT (by omega),zC,zT (by omega),zC,zT (by omega),zC]
    try rw[t2]
    try rw[t3]
    first
     |(rw[Hs _ (by rw[ByteArray.size_extract];simp only[maxLen];omega),zc]
       unfold kD
       rw[if_neg (by decide)]
       cases(cE _).2<;>rfl)
     |(rw[zf0 _ _ (by rw[ByteArray.size_extract];omega),zc]
       unfold kD
       rw[if_pos rfl]
       generalize hg:ib _ _=gg
       obtain⟨t,e,i⟩:=gg
       dsimp only
       by_cases he:e=0
       ·rw[zT he,zC,if_pos he,Hs _ (by have:=H7 hg;simp only[maxLen];omega),zc]
        cases(cE _).2<;>rfl
       ·rw[zF he,if_neg he];rfl)
 ·rw[zF (p:=0<=at_/\at_<=(b.size:Int)) bR,Bool.and_false,zD]
  by_cases h1:style=1<;>by_cases h2:style=2<;>by_cases h3:form=2<;>by_cases h4:form=3<;>(try(exfalso;omega))<;>by_cases h5:at_<0<;>by_cases h6:(b.size:Int)<at_<;>(try(exfalso;omega))<;>simp [h1,h2,h3,h4,h5,h6]
theorem WG(style form:Int)(b:ByteArray)(at_:Int)(hb:b.size<=1099511627776):C2 style form b at_=some (gC style form b at_):=by
 unfold C2 O5 C4 O6 gC dk
 by_cases bR:0<=at_/\at_<=b.size
 ·obtain⟨m,rfl⟩:∃m:Nat,at_=m:=⟨at_.toNat,by omega⟩
  have hm:m<=b.size:=by omega
  have w0:zW zI ((b.size:Int)-(m:Int))=(b.size:Int)-m:=zg (by omega) (by omega)
  have w1:∀k:Nat,k<=3->zW zI ((m:Int)+(k:Int))=((m+k:Nat):Int):=fun k hk=>by rw[zg (by omega) (by omega)];omega
  have z1:zW zI 1=1:=by decide
  have z2:zW zI 2=2:=by decide
  have v1:=w1 1 (by decide)
  have v2:=w1 2 (by decide)
  have v3:=w1 3 (by decide)
  rw[show((1:Nat):Int)=1 from rfl] at v1
  rw[show((2:Nat):Int)=2 from rfl] at v2
  rw[show((3:Nat):Int)=3 from rfl] at v3
  have t2:((m:Int)+2).toNat=m+2:=by omega
  have t3:((m:Int)+3).toNat=m+3:=by omega
  have a1:¬(m:Int)<0:=by omega
  have a2:¬(b.size:Int)<m:=by omega
  have a3:0<=((m:Int)):=by omega
  have a4:(m:Int)<=b.size:=by omega
  by_cases h1:style=1<;>by_cases h2:style=2<;>by_cases h3:form=2<;>by_cases h4:form=3<;>(try(exfalso;omega))<;>simp [h1,h2,h3,h4,a1,a2,w0,z1,z2,v1,v2,v3,gN]
  all_goals
   rw[zT hm,zC]
   split
   ·rename_i hc
    rw[zT (by omega),zC]
   ·rename_i hc
    rw[zF (by omega),zD,zT (by omega),zC,zT (by omega),zC,zT (by omega),zC]
    try rw[t2]
    try rw[t3]
    first
     |(rw[zlc _ (by rw[ByteArray.size_extract];simp only[maxLen];omega),zc]
       unfold kD
       rw[if_neg (by decide)]
       cases(cE _).2<;>rfl)
     |(rw[zld _ _ (by rw[ByteArray.size_extract];omega),zc]
       unfold kD
       rw[if_pos rfl]
       generalize hg:ib _ _=gg
       obtain⟨t,e,i⟩:=gg
       dsimp only
       by_cases he:e=0
       ·rw[zT he,zC,if_pos he,zlc _ (by have:=H7 hg;simp only[maxLen];omega),zc]
        cases(cE _).2<;>rfl
       ·rw[zF he,if_neg he];rfl)
 ·rw[zF (p:=0<=at_/\at_<=(b.size:Int)) bR,Bool.and_false,zD]
  by_cases h1:style=1<;>by_cases h2:style=2<;>by_cases h3:form=2<;>by_cases h4:form=3<;>(try(exfalso;omega))<;>by_cases h5:at_<0<;>by_cases h6:(b.size:Int)<at_<;>(try(exfalso;omega))<;>simp [h1,h2,h3,h4,h5,h6]
theorem zv9(n:Int):Q4 n=some (if n<0\/65535<n then 0 else if 255<n then 3 else if 127<n then 2 else 1):=by
 unfold Q4 nh
 by_cases h1:n<0
 ·rw[zT h1,if_pos (.inl h1)];rfl
 by_cases h2:(65535:Int)<n
 ·rw[zF h1,zT h2,if_pos (.inr h2)];rfl
 rw[zF h1,zF h2,if_neg (by omega)]
 by_cases h3:(255:Int)<n
 ·rw[zT h3,if_pos h3];rfl
 by_cases h4:(127:Int)<n
 ·rw[zF h3,zT h4,if_neg h3,if_pos h4];rfl
 ·rw[zF h3,zF h4,if_neg h3,if_neg h4];rfl
theorem wE:∃k,ag=k+1+1+1:=⟨ag-3,by rw[zr]⟩
theorem He{y:Int}(hy:zn y):aD .or .i64 (zW zI (0*2^min (8:Int).toNat 64)) (zW zI y)=y:=by
 obtain⟨k,rfl⟩:=kN hy
 clear hy
 revert k
 decide+kernel
theorem U7(s:ByteArray)(hs:s.size<=9223372036854775000)(a:Int):Q3 s a=vI s a:=by
 unfold Q3 jO vI Jw
 by_cases h1:a<0
 ·rw[zT h1];rfl
 rw[zF h1,zD,zD]
 by_cases h2:(s.size:Int)<a
 ·rw[zT h2];rfl
 rw[zF h2,zD,zD]
 by_cases h3:a=(s.size:Int)
 ·rw[zT h3];rfl
 have wa:∀{R:Type} (x:Option R),zd a s.size x=x:=fun x=>zm (by omega) (by omega)
 rw[zF h3,zD,zD]
 simp only[wa]
 obtain⟨x,hx⟩:=kN (rS s a.toNat)
 have rf:=x.2
 have w1:zW zI (a+1)=a+1:=zg (by omega) (by omega)
 have w2:zW zI (x.1:Int)=(x.1:Int):=zg (by omega) (by omega)
 have w4:zW zI ((s.size:Int)-a)=(s.size:Int)-a:=zg (by omega) (by omega)
 have w5:zW zI ((s.size:Int)-(a+1))=(s.size:Int)-(a+1):=zg (by omega) (by omega)
 have w6:zW zI ((x.1:Int)-128)=(x.1:Int)-128:=zg (by omega) (by omega)
 have w7:zW zI ((x.1:Int)-127)=(x.1:Int)-127:=zg (by omega) (by omega)
 obtain⟨k,hk⟩:=wE
 simp only[hx,w2,w1,w4,w5,w6,w7,hk]
 by_cases h4:(127:Int)<(x.1:Int)
 ·rw[zT h4,zC,zF (by omega:¬(x.1:Int)<128),zD]
  by_cases h5:(x.1:Int)=129
  ·have wn:zW zI (0+1)=1:=rfl
   simp only[h5]
   by_cases h6:(s.size:Int)-a<2
   ·have e1:((s.size:Int)-(a+1)<129-128):=by omega
    have e2:((s.size:Int)-a<129-127):=by omega
    rw[zT e1,zT e2];rfl
   ·have e1:¬((s.size:Int)-(a+1)<129-128):=by omega
    have e2:¬((s.size:Int)-a<129-127):=by omega
    have wb:∀{R:Type} (x:Option R),zd (a+1) s.size x=x:=fun x=>zm (by omega) (by omega)
    have wc:∀{R:Type} (x:Option R),zd (zW zI (a+1+0)) s.size x=x:=fun x=>by rw[Int.add_zero,w1];exact wb x
    obtain⟨y,hy⟩:=kN (rS s (a+1).toNat)
    have Kj:=y.2
    have w3:zW zI (y.1:Int)=(y.1:Int):=zg (by omega) (by omega)
    have oz:=He (y:=(y.1:Int)) ⟨by omega,by omega⟩
    rw[w3] at oz
    rw[zF e1,zF e2]
    have l1:dJ (k+1+1+1) s (a+1) 0 (129-128) (129-128) 0=some (a+1,(y.1:Int),129-128):=by
     simp only[dJ,jP]
     rw[show decide ((0:Int)<129-128)=true from rfl,zC,wc,wn,show decide ((1:Int)<129-128)=false from rfl,zD,Int.add_zero,w1,hy,w3,oz]
    simp only[wb,hy,w3]
    show(dJ (k+1+1+1) s (a+1) 0 (129-128) (129-128) 0).bind _=_
    rw[l1,Option.bind_some]
    unfold jQ
    dsimp only
    rw[zv9,Option.bind_some]
    by_cases h7:(y.1:Int)<128
    ·rw[if_neg (by omega),if_neg (by omega),if_neg (by omega),zT h7];rfl
    ·rw[if_neg (by omega),if_neg (by omega),if_pos (by omega),zF h7]
     have:zW zI (a+1+(129-128))=zW zI (a+2):=by congr 1;omega
     simp only[this]
     rfl
  ·by_cases h6:(x.1:Int)=130
   ·have wn:zW zI (0+1)=1:=rfl
    have wm:zW zI (1+1)=2:=rfl
    simp only[h6]
    by_cases h7:(s.size:Int)-a<3
    ·have e1:((s.size:Int)-(a+1)<130-128):=by omega
     have e2:((s.size:Int)-a<130-127):=by omega
     rw[zT e1,zT e2];rfl
    ·have e1:¬((s.size:Int)-(a+1)<130-128):=by omega
     have e2:¬((s.size:Int)-a<130-127):=by omega
     have wb:∀{R:Type} (x:Option R),zd (a+1) s.size x=x:=fun x=>zm (by omega) (by omega)
     have w8:zW zI (a+2)=a+2:=zg (by omega) (by omega)
     have w9:zW zI (a+1+1)=a+2:=by rw[zg (by omega) (by omega)];omega
     have wd:∀{R:Type} (x:Option R),zd (a+2) s.size x=x:=fun x=>zm (by omega) (by omega)
     obtain⟨y,hy⟩:=kN (rS s (a+1).toNat)
     obtain⟨z,hz⟩:=kN (rS s (a+2).toNat)
     have Kj:=y.2
     have QA:=z.2
     have w3:zW zI (y.1:Int)=(y.1:Int):=zg (by omega) (by omega)
     have Fq:zW zI (z.1:Int)=(z.1:Int):=zg (by omega) (by omega)
     have oz:=He (y:=(y.1:Int)) ⟨by omega,by omega⟩
     have ob:=F9 (x:=(y.1:Int)) (y:=(z.1:Int)) ⟨by omega,by omega⟩ ⟨by omega,by omega⟩
     rw[w3] at oz
     rw[w3,Fq] at ob
     rw[zF e1,zF e2]
     have l1:dJ (k+1+1+1) s (a+1) 0 (130-128) (130-128) 0=some (a+1,(y.1:Int)*256+(z.1:Int),130-128):=by
      simp only[dJ,jP]
      rw[show decide ((0:Int)<130-128)=true from rfl,zC,wn,wm,show decide ((1:Int)<130-128)=true from rfl,zC,show decide ((2:Int)<130-128)=false from rfl,zD,Int.add_zero,w1,wb,w9,wd,hy,hz,w3,Fq,oz,ob]
     have R9:zW zI (256*(y.1:Int))=256*(y.1:Int):=zg (by omega) (by omega)
     have Sa:zW zI (256*(y.1:Int)+(z.1:Int))=(y.1:Int)*256+(z.1:Int):=by rw[zg (by omega) (by omega)];omega
     simp only[wb,w8,wd,hy,hz,w3,Fq,R9,Sa]
     show(dJ (k+1+1+1) s (a+1) 0 (130-128) (130-128) 0).bind _=_
     rw[l1,Option.bind_some]
     unfold jQ
     dsimp only
     rw[zv9,Option.bind_some]
     by_cases h8:(y.1:Int)=0
     ·rw[if_neg (by omega),if_neg (by omega),zT h8]
      by_cases h9:(127:Int)<(y.1:Int)*256+(z.1:Int)
      ·rw[if_pos h9];rfl
      ·rw[if_neg h9];rfl
     ·rw[if_neg (by omega),if_pos (by omega),zF h8]
      have:zW zI (a+1+(130-128))=zW zI (a+3):=by congr 1;omega
      simp only[this]
      rfl
   ·rw[zF h5,zF h6]
    by_cases h7:(x.1:Int)=128
    ·rw[zT h7];rfl
    ·rw[zF h7,zT (by omega:(130:Int)<(x.1:Int))];rfl
 ·rw[zF h4,zD,zT (by omega:(x.1:Int)<128),zC,zF (by omega:¬(s.size:Int)-(a+1)<0),zD]
  have l1:dJ (k+1+1+1) s (a+1) (x.1:Int) 0 0 0=some (a+1,(x.1:Int),0):=by
   simp only[dJ,jP]
   rw[show decide ((0:Int)<0)=false from rfl,zD]
  show(dJ (k+1+1+1) s (a+1) (x.1:Int) 0 0 0).bind _=_
  rw[l1,Option.bind_some]
  unfold jQ
  dsimp only
  rw[zv9,Option.bind_some,if_neg (by omega),if_neg (by omega),if_neg (by omega),Int.add_zero,w1]
  rfl
abbrev aQ:=Int×ByteArray×Unit
theorem zqo(l:List aQ)(hl:l.length<=9223372036854775807)(t:Int):∀(m j k:Nat),j+m=l.length->m<k->AQ k l (l.length:Int) t (j:Int)=some (if t∈(l.drop j).map (fun v=>v.1) then .inl true else .inr ())
 |m,j,0,_,hk=>by omega
 |0,j,k+1,hj,hk=>by
  unfold AQ Jz
  rw[zF (by omega),List.drop_eq_nil_of_le (by omega)];rfl
 |m+1,j,k+1,hj,hk=>by
  have ar:j<l.length:=by omega
  have hg:∀d,l.getD j d=l[j]:=fun d=>by rw[List.getD_eq_getElem?_getD,List.getElem?_eq_getElem ar];rfl
  unfold AQ Jz
  rw[zT (by omega),zC,zi ar,Int.toNat_natCast,hg,List.drop_eq_getElem_cons ar,List.map_cons]
  by_cases h:l[j].1=t
  ·rw[zT h,if_pos (by rw[h];exact List.mem_cons_self)];rfl
  ·rw[zF h,zD,zw (by omega)]
   dsimp only
   rw[zqo l hl t m (j+1) k (by omega) (by omega)]
   by_cases h2:t∈(l.drop (j+1)).map (fun v=>v.1)
   ·rw[if_pos h2,if_pos (List.mem_cons_of_mem _ h2)]
   ·rw[if_neg h2,if_neg (fun h3=>(List.mem_cons.1 h3).elim (fun e=>h e.symm) h2)]
theorem FT(l:List aQ)(hl:l.length<=maxLen)(t:Int):Da l (l.length:Int) t=some (decide (t∈l.map fun v=>v.1)):=by
 rw[zj] at hl
 unfold Da O9
 dsimp only
 have:=zqo l hl t l.length 0 ag (by omega) (by rw[zr];omega)
 rw[show((0:Nat):Int)=(0:Int) from rfl,List.drop_zero] at this
 rw[this,Option.bind_some]
 by_cases h:t∈l.map fun v=>v.1
 ·rw[if_pos h,zT h];rfl
 ·rw[if_neg h,zF h];rfl
theorem Gl(b:ByteArray)(hb:b.size<=9223372036854775000):∀(k:Nat) (t5:List aQ) (t7:Int),t5.length<=5864062014805->BI k b t5 t7 (cW (t5.map fun v=>v.1))=xJ k b t5 t7
 |0,_,_,_=>rfl
 |k+1,t5,t7,hl=>by
  unfold BI MS xJ Jy
  rw[We b hb]
  generalize decide (t7<(b.size:Int))=c0
  cases c0 with
  |false=>rfl
  |true=>
   simp only[zC]
   cases vH b t7 with
   |none=>rfl
   |some r1=>
    simp only[Option.bind_some]
    generalize(!decide (r1.2.2=0))=c1
    cases c1 with
    |true=>rfl
    |false=>
     simp only[zD]
     rw[U7 b hb]
     cases vI b r1.2.1 with
     |none=>rfl
     |some r2=>
      simp only[Option.bind_some]
      generalize(!decide (r2.2.2=0))=c2
      cases c2 with
      |true=>rfl
      |false=>
       simp only[zD]
       generalize decide (zW zI ((b.size:Int)-r2.2.1)<r2.1)=c3
       cases c3 with
       |true=>rfl
       |false=>
        simp only[zD]
        rw[FT t5 (by rw[zj];omega),Option.bind_some]
        have e1:=KM (eU (.int .i64)) (fun _ _=>rfl) r1.1 (t5.map fun v=>v.1)
        have e2:=KN (eU (.int .i64)) (fun _ _=>rfl) r1.1 (t5.map fun v=>v.1)
        by_cases hm:r1.1∈t5.map fun v=>v.1
        ·rw[e1.2 hm,zT hm];rfl
        ·rw[Br e1 hm,Br e2 hm,zF hm]
         simp only[zD]
         rw[z8v]
         have hs:(t5.map fun v=>v.1)++ [r1.1]=(t5++ [((r1.1,(b.extract r2.2.1.toNat (zW zI (r2.2.1+r2.1)).toNat),()):aQ)]).map fun v=>v.1:=by simp
         rw[hs]
         by_cases hn:(t5.length+1)*24<=140737488355328
         ·rw[Gl b hb k _ _ (by simp;omega)]
         ·have:decide ((t5.length+(List.length ([(r1.1,(b.extract r2.2.1.toNat (zW zI (r2.2.1+r2.1)).toNat),())]:List aQ)))*24<=140737488355328)=false:=zF (by simp;omega)
          simp only[this,zD]
theorem Wi(b:ByteArray)(hb:b.size<=9223372036854775000):qq b=vJ b:=by
 unfold qq MR vJ Jx
 dsimp only
 have:=Gl b hb ag [] 0 (by simp)
 rw[show cW (([]:List aQ).map fun v=>v.1)=[] from rfl] at this
 rw[this]
 rfl
theorem X8(s:Spec)(x:ByteArray)(hx:x.size<=9223372036854775000):bz s x=nC s x:=by
 unfold bz My nC B8
 rw[H6,rR,WA _ _ (by rw[zj];omega),zbf _ _ (by rw[zj];omega),Wi x hx]
theorem St(a b:Spec):km a b=x7 a b:=by
 unfold km Mz x7 Pb sV MA
 rw[H6,rR,H6,rR,X9,zbi]
 simp only[Option.bind_some]
 by_cases h1:bc a=0
 ·by_cases h2:bc b=0
  ·simp only[h1,h2,decide_true,zC,Bool.not_true,zD]
   by_cases h3:a.2.2.2.1<=b.2.2.2.1
   ·rw[zT h3,zF (by omega:¬b.2.2.2.1<a.2.2.2.1)]
    by_cases h4:b.2.2.2.2.1<=a.2.2.2.2.1
    ·rw[zT h4,zF (by omega:¬a.2.2.2.2.1<b.2.2.2.2.1)]
     simp only[zC,zD]
     by_cases h5:a.2.1=5
     ·simp [h5]
     ·by_cases h6:a.2.1=6
      ·simp [h6]
      ·by_cases h7:b.2.1=6
       ·simp [h5,h6,h7]
       ·simp [h5,h6,h7]
    ·rw[zF h4,zT (by omega:a.2.2.2.2.1<b.2.2.2.2.1)];rfl
   ·rw[zF h3,zT (by omega:b.2.2.2.1<a.2.2.2.1)];rfl
  ·simp [h1,h2]
 ·simp [h1]
theorem Wg(s:ByteArray)(hs:s.size<=9223372036854775000)(a:Int)(h0:0<=a)(h1:a<s.size):∃r,vH s a=some r/\(r.2.2=0->a<r.2.1/\r.2.1<=s.size):=by
 unfold vH Jv
 have wa:∀{R:Type} (x:Option R),zd a s.size x=x:=fun x=>zm (by omega) (by omega)
 rw[zF (by omega:¬a<0),zF (by omega:¬(s.size:Int)<a),zF (by omega:¬a=(s.size:Int))]
 simp only[zD,wa]
 obtain⟨x,hx⟩:=kN (rS s a.toNat)
 have w1:zW zI (a+1)=a+1:=zg (by omega) (by omega)
 have w4:zW zI ((s.size:Int)-a)=(s.size:Int)-a:=zg (by omega) (by omega)
 rw[hx,w1,w4]
 rcases zby x with h|⟨h,yt⟩|⟨h,yt⟩
 ·rw[h];exact⟨_,rfl,fun h=>by cases h⟩
 ·rw[h]
  exact⟨_,rfl,fun _=>⟨by show a<a+1;omega,by show a+1<=_;omega⟩⟩
 ·rw[h,Option.bind_some]
  simp only[show decide ((2:Int)=0)=false from rfl,show decide ((2:Int)=1)=false from rfl,zD]
  by_cases h4:(s.size:Int)-a<2
  ·rw[zT h4];exact⟨_,rfl,fun h=>by cases h⟩
  ·have wb:∀{R:Type} (x:Option R),zd (a+1) s.size x=x:=fun x=>zm (by omega) (by omega)
   have w2:zW zI (a+2)=a+2:=zg (by omega) (by omega)
   rw[zF h4]
   simp only[zD,wb]
   generalize decide (ze s (a+1).toNat=0)=c1
   generalize decide ((127:Int)<ze s (a+1).toNat)=c2
   cases c1
   ·cases c2
    ·exact⟨_,rfl,fun _=>⟨by show a<zW zI (a+2);rw[w2];omega,by show zW zI (a+2)<=_;rw[w2];omega⟩⟩
    ·exact⟨_,rfl,fun h=>by cases h⟩
   ·exact⟨_,rfl,fun h=>by cases h⟩
theorem U8(s:ByteArray)(hs:s.size<=9223372036854775000)(a:Int)(h0:0<=a)(h1:a<=s.size):∃r,vI s a=some r/\(r.2.2=0->a<r.2.1/\r.2.1<=s.size/\0<=r.1/\r.1<=65535):=by
 unfold vI Jw
 rw[zF (by omega:¬a<0),zF (by omega:¬(s.size:Int)<a)]
 simp only[zD]
 by_cases he:a=(s.size:Int)
 ·rw[zT he];exact⟨_,rfl,fun h=>by cases h⟩
 have wa:∀{R:Type} (x:Option R),zd a s.size x=x:=fun x=>zm (by omega) (by omega)
 rw[zF he]
 simp only[zD,wa]
 obtain⟨x,hx⟩:=kN (rS s a.toNat)
 have rf:=x.2
 have w1:zW zI (a+1)=a+1:=zg (by omega) (by omega)
 have w2:zW zI (x.1:Int)=(x.1:Int):=zg (by omega) (by omega)
 have w4:zW zI ((s.size:Int)-a)=(s.size:Int)-a:=zg (by omega) (by omega)
 have w7:zW zI ((x.1:Int)-127)=(x.1:Int)-127:=zg (by omega) (by omega)
 simp only[hx,w2,w1,w4,w7]
 by_cases h4:(x.1:Int)<128
 ·rw[zT h4]
  exact⟨_,rfl,fun _=>⟨by show a<a+1;omega,by show a+1<=_;omega,by show(0:Int)<=(x.1:Int);omega,by show(x.1:Int)<=65535;omega⟩⟩
 rw[zF h4]
 have PS:∀i,zn (ze s i):=rS s
 by_cases h5:(x.1:Int)=129
 ·have wb:(s.size:Int)-a<(x.1:Int)-127\/∀{R:Type} (x:Option R),zd (a+1) s.size x=x:=by
   by_cases h:(s.size:Int)-a<(x.1:Int)-127
   ·exact .inl h
   ·exact .inr fun x=>zm (by omega) (by omega)
  rw[zT h5]
  simp only[Bool.not_true,zD,zC]
  by_cases h6:(s.size:Int)-a<(x.1:Int)-127
  ·rw[zT h6];exact⟨_,rfl,fun h=>by cases h⟩
  ·have wb:∀{R:Type} (x:Option R),zd (a+1) s.size x=x:=fun x=>zm (by omega) (by omega)
   have w8:zW zI (a+2)=a+2:=zg (by omega) (by omega)
   obtain⟨y,hy⟩:=kN (PS (a+1).toNat)
   have Kj:=y.2
   have w3:zW zI (y.1:Int)=(y.1:Int):=zg (by omega) (by omega)
   rw[zF h6]
   simp only[zD,wb,hy,w3,w8]
   generalize decide ((y.1:Int)<128)=c
   cases c
   ·exact⟨_,rfl,fun _=>⟨by show a<a+2;omega,by show a+2<=_;omega,by show(0:Int)<=(y.1:Int);omega,by show(y.1:Int)<=65535;omega⟩⟩
   ·exact⟨_,rfl,fun h=>by cases h⟩
 ·rw[zF h5]
  simp only[Bool.not_false,zD,zC]
  by_cases h9:(x.1:Int)=130
  ·rw[zT h9]
   simp only[Bool.not_true,zD]
   by_cases h6:(s.size:Int)-a<(x.1:Int)-127
   ·rw[zT h6];exact⟨_,rfl,fun h=>by cases h⟩
   ·have wb:∀{R:Type} (x:Option R),zd (a+1) s.size x=x:=fun x=>zm (by omega) (by omega)
    have w8:zW zI (a+2)=a+2:=zg (by omega) (by omega)
    have w9:zW zI (a+3)=a+3:=zg (by omega) (by omega)
    have wd:∀{R:Type} (x:Option R),zd (a+2) s.size x=x:=fun x=>zm (by omega) (by omega)
    obtain⟨y,hy⟩:=kN (PS (a+1).toNat)
    obtain⟨z,hz⟩:=kN (PS (a+2).toNat)
    have Kj:=y.2
    have QA:=z.2
    have w3:zW zI (y.1:Int)=(y.1:Int):=zg (by omega) (by omega)
    have Fq:zW zI (z.1:Int)=(z.1:Int):=zg (by omega) (by omega)
    have R9:zW zI (256*(y.1:Int))=256*(y.1:Int):=zg (by omega) (by omega)
    have Sa:zW zI (256*(y.1:Int)+(z.1:Int))=256*(y.1:Int)+(z.1:Int):=zg (by omega) (by omega)
    rw[zF h6]
    simp only[zD,wb,w8,wd,hy,hz,w3,Fq,R9,Sa,w9]
    generalize decide ((y.1:Int)=0)=c
    cases c
    ·exact⟨_,rfl,fun _=>⟨by show a<a+3;omega,by show a+3<=_;omega,by show(0:Int)<=256*(y.1:Int)+(z.1:Int);omega,by show 256*(y.1:Int)+(z.1:Int)<=65535;omega⟩⟩
    ·exact⟨_,rfl,fun h=>by cases h⟩
  ·rw[zF h9];exact⟨_,rfl,fun h=>by cases h⟩
theorem z8z(b:ByteArray)(hb:b.size<=1099511627776):∀(n:Nat) (k:Nat) (t5:List aQ) (a:Int),0<=a->a<=b.size->(b.size:Int)-a<=n->n<k->t5.length+n<=2199023255552->∃r,xJ k b t5 a=some r
 |n,0,_,_,_,_,_,h,_=>by omega
 |n,k+1,t5,a,h0,h1,h2,h3,h4=>by
  unfold xJ Jy
  by_cases ar:a<(b.size:Int)
  ·obtain⟨r1,e1,p1⟩:=Wg b (by omega) a h0 ar
   rw[zT ar,e1,Option.bind_some,zC]
   by_cases z1:r1.2.2=0
   ·obtain⟨q1,q2⟩:=p1 z1
    obtain⟨r2,e2,p2⟩:=U8 b (by omega) r1.2.1 (by omega) q2
    simp only[z1,decide_true,Bool.not_true,zD]
    rw[e2,Option.bind_some]
    by_cases z2:r2.2.2=0
    ·obtain⟨u1,u2,u3,u4⟩:=p2 z2
     simp only[z2,decide_true,Bool.not_true,zD]
     have w1:zW zI ((b.size:Int)-r2.2.1)=(b.size:Int)-r2.2.1:=zg (by omega) (by omega)
     have w2:zW zI (r2.2.1+r2.1)=r2.2.1+r2.1:=zg (by omega) (by omega)
     rw[w1,w2]
     by_cases z3:(b.size:Int)-r2.2.1<r2.1
     ·rw[zT z3];exact⟨_,rfl⟩
     ·rw[zF z3,zD,FT t5 (by rw[zj];omega),Option.bind_some]
      generalize decide (r1.1∈t5.map fun v=>v.1)=c
      cases c with
      |true=>exact⟨_,rfl⟩
      |false=>
       rw[zD,zT (by omega:0<=r2.2.1+r2.1),zT (by omega:r2.2.1+r2.1<=(((b.size:Nat):Int))),zT (by omega:0<=r2.2.1),zT (by omega:r2.2.1<=(((r2.2.1+r2.1).toNat:Nat):Int)),zT (by simp;omega)]
       simp only[zC]
       obtain⟨n,rfl⟩:∃n',n=n'+1:=⟨n-1,by omega⟩
       exact z8z b hb n k _ _ (by omega) (by omega) (by omega) (by omega) (by simp;omega)
    ·simp only[z2,decide_false,Bool.not_false,zC];exact⟨_,rfl⟩
   ·simp only[z1,decide_false,Bool.not_false,zC];exact⟨_,rfl⟩
  ·rw[zF ar];exact⟨_,rfl⟩
theorem zl9(b:ByteArray)(hb:b.size<=1099511627776):∃r,vJ b=some r:=by
 unfold vJ Jx
 dsimp only
 obtain⟨r,hr⟩:=z8z b hb b.size ag [] 0 (by omega) (by omega) (by omega) (by rw[zr];omega) (by simp;omega)
 rw[hr,Option.bind_some]
 cases r<;>exact⟨_,rfl⟩
@[irreducible] def aY (s:Spec) (x:ByteArray):Int:=(nC s x).getD 0
theorem Bi(s:Spec)(x:ByteArray)(hx:x.size<=1099511627776):nC s x=some (aY s x):=by
 have:∃v,nC s x=some v:=by
  unfold nC B8
  rw[rR,Option.bind_some,zbf _ _ (by rw[zj];omega),Option.bind_some]
  obtain⟨r,hr⟩:=zl9 x hx
  rw[hr,Option.bind_some]
  generalize(!decide (bc s=0))=c1
  generalize decide ((x.size:Int)<s.2.2.2.1)=c2
  generalize decide (s.2.2.2.2.1<(x.size:Int))=c3
  generalize decide ((0:Int)<=z31 s.2.1 (bl x) 0)=c4
  generalize decide (s.2.1=6)=c5
  cases c1<;>cases c2<;>cases c3<;>cases c4<;>cases c5<;>first|exact⟨_,rfl⟩|skip
  cases r with
  |inl r=>simp only[zD,zC,Sum.elim_inl];cases(!decide (r.2.1=0))<;>exact⟨_,rfl⟩
  |inr r=>simp only[zD,zC,Sum.elim_inr];cases(!decide (r.2.1=0))<;>exact⟨_,rfl⟩
 obtain⟨v,hv⟩:=this
 unfold aY
 rw[hv];rfl
theorem sr(s:Spec)(x:ByteArray)(hx:x.size<=1099511627776):bz s x=some (aY s x):=by
 rw[X8 s x (by omega),Bi s x hx]
@[irreducible] def lW (a b:Spec):Bool:=(x7 a b).getD false
theorem zq2(a b:Spec):x7 a b=some (lW a b):=by
 have:∃v,x7 a b=some v:=by
  unfold x7 Pb
  rw[rR,rR,zbi]
  simp only[Option.bind_some]
  generalize(!decide (bc a=0))=c1
  generalize(!decide (bc b=0))=c2
  generalize decide (b.2.2.2.1<a.2.2.2.1)=c3
  generalize decide (a.2.2.2.2.1<b.2.2.2.2.1)=c4
  generalize decide (a.2.1=5)=c5
  generalize decide (a.2.1=6)=c6
  generalize decide (b.2.1=6)=c7
  cases c1<;>cases c2<;>cases c3<;>cases c4<;>cases c5<;>cases c6<;>cases c7<;>exact⟨_,rfl⟩
 obtain⟨v,hv⟩:=this
 unfold lW
 rw[hv];rfl
theorem UZ(a b:Spec):km a b=some (lW a b):=by rw[St,zq2]
abbrev aS:=Int×Int×Int×ByteArray×List bG×Unit
def aO(s:zf)(no:Int):Spec:=(eV s.2.2.1 no).getD dU
def bq(s:zf)(no:Int):Bool:=(eV s.2.2.1 no).isSome
theorem uR(s:zf)(no:Int)(hl:s.2.2.1.length<=maxLen):eD s no=some (aO s no,bq s no):=by
 rw[Zv s no hl]
 unfold aO bq
 cases eV s.2.2.1 no<;>rfl
theorem zx7(s:zf)(no:Int):(fR s.2.2.1 no 0= -1/\bq s no=false/\aO s no=dU)\/(0<=fR s.2.2.1 no 0/\fR s.2.2.1 no 0<s.2.2.1.length/\bq s no=true/\s.2.2.1.getD (fR s.2.2.1 no 0).toNat dU=aO s no):=by
 unfold bq aO
 rcases Ts s.2.2.1 no 0 (Int.le_refl _) with⟨h1,h2⟩|⟨h1,h2,x,h3,h4⟩
 ·left;rw[h2];exact⟨h1,rfl,rfl⟩
 ·right;rw[h3];rw[Int.sub_zero] at h4;exact⟨h1,by omega,rfl,h4⟩
def eh(r:aS)(a b:zf):Bool:=
 (bif decide (r.1=3) then !decide (r.2.1=0) else !bq a r.2.1)||(bif decide (r.1=2) then !decide (r.2.2.1=0) else !bq b r.2.2.1)
def lS(r:aS):Bool:=(!decide (r.2.2.2.1=bs [])&& !decide (r.1=3))||(decide (0<(r.2.2.2.2.1.length:Int))&& !decide (r.1=5))
def jj(s:Spec):Bool:=decide (s.2.1=1)&&decide (s.2.2.1=1)
def jo:List bG->Spec->Spec->Int
 | [],_,_=>0
 |p::r,x,y=>bif !decide (aY x p.1=0) then aY x p.1 else bif !decide (aY y p.2.1=0) then aY y p.2.1 else jo r x y
def Pt(l:List bG)(x y:Spec):Int:=bif(!decide ((JO l).1=0)||decide ((l.length:Int)=0)) then 15 else jo l x y
def j7(r:aS)(x y:Spec):Int:=
 bif decide (r.1=1) then(bif lW y x then 0 else 6) else bif decide (r.1=3) then aY y r.2.2.2.1 else bif decide (r.1=4) then(bif jj x&&jj y then 0 else 6) else bif decide (r.1=5) then Pt r.2.2.2.2.1 x y else 0
def dz(r:aS)(a b:zf):Int:=
 bif decide (r.1<1)||decide (5<r.1) then 1 else bif eh r a b then 9 else bif lS r then 3 else j7 r (aO a r.2.1) (aO b r.2.2.1)
structure dV(l:List bG):Prop where
 len:l.length<=1000000
 sz:∀p∈l,p.1.size<=1099511627776/\p.2.1.size<=1099511627776
structure gE(r:aS):Prop where
 text:r.2.2.2.1.size<=1099511627776
 hJ:dV r.2.2.2.2.1
theorem abb(r:aS)(a b:zf)(ha:a.2.2.1.length<=maxLen)(hb:b.2.2.1.length<=maxLen):qg r a b=some (aO a r.2.1,aO b r.2.2.1,bif eh r a b then 9 else 0):=by
 unfold qg Mh eh
 rw[uR a _ ha,uR b _ hb]
 simp only[Option.bind_some]
 generalize decide (r.1=3)=k3
 generalize decide (r.1=2)=k2
 generalize decide (r.2.1=0)=z1
 generalize decide (r.2.2.1=0)=z2
 generalize bq a r.2.1=h1
 generalize bq b r.2.2.1=h2
 cases k3<;>cases k2<;>cases z1<;>cases z2<;>cases h1<;>cases h2<;>rfl
theorem VV(s:Spec):ig s=some (jj s):=by
 unfold ig Mi jj
 generalize decide (s.2.1=1)=c1
 generalize decide (s.2.2.1=1)=c2
 cases c1<;>cases c2<;>rfl
def uL(v:Int):Sum Int Unit:=if v=0 then .inr () else .inl v
theorem zxv(x y:Spec):∀(l:List bG) (i:Int),(∀p∈l,p.1.size<=1099511627776/\p.2.1.size<=1099511627776)->
 bj (fun i (p:bG) (s:Unit) K=>((bz x p.1).bind fun r2=>(bif(!decide (r2=0)) then some (Sum.inl r2) else((bz y p.2.1).bind fun r3=>(bif(!decide (r3=0)) then some (Sum.inl r3) else K s))))) (fun _=>some (Sum.inr ())) l i ()=some (uL (jo l x y))
 | [],i,_=>rfl
 |p::r,i,h=>by
  obtain⟨h1,h2⟩:=h p List.mem_cons_self
  simp only[bj,jo]
  rw[sr x p.1 h1,Option.bind_some]
  by_cases z1:aY x p.1=0
  ·rw[zT z1]
   simp only[Bool.not_true,zD]
   rw[sr y p.2.1 h2,Option.bind_some]
   by_cases z2:aY y p.2.1=0
   ·rw[zT z2]
    simp only[Bool.not_true,zD]
    exact zxv x y r (i+1) fun q hq=>h q (List.mem_cons_of_mem _ hq)
   ·rw[zF z2]
    simp only[Bool.not_false,zC,uL,if_neg z2]
  ·rw[zF z1]
   simp only[Bool.not_false,zC,uL,if_neg z1]
theorem Zi(l:List bG)(x y:Spec)(h:dV l):lj l x y=some (Pt l x y):=by
 have hl:=h.len
 unfold lj Mk Pt
 dsimp only
 rw[zy9 l (by rw[zj];omega),Option.bind_some]
 cases(!decide ((JO l).1=0)) with
 |true=>rfl
 |false=>
  cases decide ((l.length:Int)=0) with
  |true=>rfl
  |false=>
   simp only[zD,Bool.or_false]
   have:=cf jk l (by rw[zj];omega) (fun i (p:bG) (s:Unit) K=>((bz x p.1).bind fun r2=>(bif(!decide (r2=0)) then some (Sum.inl r2) else((bz y p.2.1).bind fun r3=>(bif(!decide (r3=0)) then some (Sum.inl r3) else K s))))) (fun _=>some (Sum.inr ()))
    (fun k i s=>IW k l (l.length:Int) i x y) (fun k i s=>rfl) ()
   rw[this,zxv x y l 0 h.sz,Option.bind_some]
   unfold uL
   by_cases z:jo l x y=0
   ·rw[if_pos z,z];rfl
   ·rw[if_neg z];rfl
theorem Sr(r:aS)(a b:zf)(h:gE r)(ha:a.2.2.1.length<=maxLen)(hb:b.2.2.1.length<=maxLen):my r a b=some (dz r a b):=by
 unfold my Mg dz j7 lS
 rw[abb r a b ha hb]
 simp only[Option.bind_some,UZ,sr _ _ h.text,VV,Zi _ _ _ h.hJ]
 generalize eh r a b=e
 generalize decide (r.1<1)=c1
 generalize decide ((5:Int)<r.1)=c2
 generalize decide (r.2.2.2.1=bs [])=t
 generalize decide ((0:Int)<(r.2.2.2.2.1.length:Int))=p
 generalize decide (r.1=1)=k1
 generalize decide (r.1=3)=k3
 generalize decide (r.1=4)=k4
 generalize decide (r.1=5)=k5
 generalize jj (aO a r.2.1)=p1
 generalize jj (aO b r.2.2.1)=p2
 generalize lW (aO b r.2.2.1) (aO a r.2.1)=w
 cases c1<;>cases c2<;>first|rfl|skip
 cases e<;>first|rfl|skip
 cases t<;>cases p<;>cases k3<;>cases k5<;>first|rfl|skip
 all_goals(cases k1<;>cases k4<;>cases p1<;>cases p2<;>cases w<;>rfl)
end bn

