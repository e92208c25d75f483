/- No condition. -/
import Derived.Test.YtkgpjibbdpikcaaGreatDoorK1
import Derived.KernelRfl
import Derived.Laws.RangeString
set_option linter.unusedVariables false
set_option linter.unusedSimpArgs false
set_option maxRecDepth 100000
namespace bF
open Go.IntKind renaming wrap->zW,i64->zI,u8->zU
open Go Go.Ref
def SN{R:Type}(a:Int)(b:Bool->Option R):Option R:=
 bif a=1 then b true else b (decide (a=2))
def Bk(a:Int):Option Bool:=
 SN a (fun a0=>some a0)
def YH{R:Type}(a b:Int)(c:Int->Option R):Option R:=
 bif a=2 then bif b=1 then c 1 else bif a=1 then bif b=5 then c 2 else bif b=6 then c 2 else c 0 else c 0 else bif a=1 then bif b=5 then c 2 else bif b=6 then c 2 else c 0 else c 0
def km(a b:Int):Option Int:=
 YH a b (fun a0=>some a0)
def Yz{R:Type}(a:Int)(b:ap)(c:ByteArray)(d:Int)(e:ByteArray->Int->Int->Option R):Option R:=
 (Bk a).bind fun r1=>bif !r1 then e (bs []) 0 1 else(kW b).bind fun r2=>bif !decide (r2=0) then e (bs []) 0 1 else bif d<0 then e (bs []) 0 1 else bif(c.size:Int)<d then e (bs []) 0 1 else bif !decide (b.2.2.1=1) then(sG a b.2.2.1 c d).bind fun r3=>bif !decide (r3.2.2=0) then e (bs []) 0 r3.2.2 else bif r3.1<b.2.2.2.1 then e (bs []) 0 5 else bif b.2.2.2.2.1<r3.1 then e (bs []) 0 5 else(km a b.2.1).bind fun r4=>bif r4=1 then(Q2 r3.1).bind fun r5=>bif zW zI ((c.size:Int)-r3.2.1)<r5 then e (bs []) 0 2 else bif 0<=zW zI (r3.2.1+r5) then bif zW zI (r3.2.1+r5)<=(c.size:Int) then bif 0<=r3.2.1 then bif r3.2.1<=(((zW zI (r3.2.1+r5)).toNat:Nat):Int) then(km a b.2.1).bind fun r6=>bif r6=1 then(Q0 (c.extract r3.2.1.toNat (zW zI (r3.2.1+r5)).toNat) r3.1).bind fun r7=>bif !decide (r7.2.1=0) then e (bs []) 0 r7.2.1 else(bH b r7.1).bind fun r8=>bif !decide (r8=0) then e (bs []) 0 r8 else e r7.1 (zW zI (r3.2.1+r5)) 0 else bif r6=2 then(fZ (c.extract r3.2.1.toNat (zW zI (r3.2.1+r5)).toNat)).bind fun r9=>bif !r9.2.2 then e (bs []) 0 3 else(bH b r9.1).bind fun j6=>bif !decide (j6=0) then e (bs []) 0 j6 else e r9.1 (zW zI (r3.2.1+r5)) 0 else(bH b (c.extract r3.2.1.toNat (zW zI (r3.2.1+r5)).toNat)).bind fun jV=>bif !decide (jV=0) then e (bs []) 0 jV else e (c.extract r3.2.1.toNat (zW zI (r3.2.1+r5)).toNat) (zW zI (r3.2.1+r5)) 0 else none else none else none else none else bif r4=2 then bif zW zI ((c.size:Int)-r3.2.1)<zW zI (2*r3.1) then e (bs []) 0 2 else bif 0<=zW zI (r3.2.1+zW zI (2*r3.1)) then bif zW zI (r3.2.1+zW zI (2*r3.1))<=(c.size:Int) then bif 0<=r3.2.1 then bif r3.2.1<=(((zW zI (r3.2.1+zW zI (2*r3.1))).toNat:Nat):Int) then(km a b.2.1).bind fun lv=>bif lv=1 then(Q0 (c.extract r3.2.1.toNat (zW zI (r3.2.1+zW zI (2*r3.1))).toNat) r3.1).bind fun jW=>bif !decide (jW.2.1=0) then e (bs []) 0 jW.2.1 else(bH b jW.1).bind fun uM=>bif !decide (uM=0) then e (bs []) 0 uM else e jW.1 (zW zI (r3.2.1+zW zI (2*r3.1))) 0 else bif lv=2 then(fZ (c.extract r3.2.1.toNat (zW zI (r3.2.1+zW zI (2*r3.1))).toNat)).bind fun xg=>bif !xg.2.2 then e (bs []) 0 3 else(bH b xg.1).bind fun Ck=>bif !decide (Ck=0) then e (bs []) 0 Ck else e xg.1 (zW zI (r3.2.1+zW zI (2*r3.1))) 0 else(bH b (c.extract r3.2.1.toNat (zW zI (r3.2.1+zW zI (2*r3.1))).toNat)).bind fun Cl=>bif !decide (Cl=0) then e (bs []) 0 Cl else e (c.extract r3.2.1.toNat (zW zI (r3.2.1+zW zI (2*r3.1))).toNat) (zW zI (r3.2.1+zW zI (2*r3.1))) 0 else none else none else none else none else bif zW zI ((c.size:Int)-r3.2.1)<r3.1 then e (bs []) 0 2 else bif 0<=zW zI (r3.2.1+r3.1) then bif zW zI (r3.2.1+r3.1)<=(c.size:Int) then bif 0<=r3.2.1 then bif r3.2.1<=(((zW zI (r3.2.1+r3.1)).toNat:Nat):Int) then(km a b.2.1).bind fun Cm=>bif Cm=1 then(Q0 (c.extract r3.2.1.toNat (zW zI (r3.2.1+r3.1)).toNat) r3.1).bind fun tZ=>bif !decide (tZ.2.1=0) then e (bs []) 0 tZ.2.1 else(bH b tZ.1).bind fun Cn=>bif !decide (Cn=0) then e (bs []) 0 Cn else e tZ.1 (zW zI (r3.2.1+r3.1)) 0 else bif Cm=2 then(fZ (c.extract r3.2.1.toNat (zW zI (r3.2.1+r3.1)).toNat)).bind fun xh=>bif !xh.2.2 then e (bs []) 0 3 else(bH b xh.1).bind fun L5=>bif !decide (L5=0) then e (bs []) 0 L5 else e xh.1 (zW zI (r3.2.1+r3.1)) 0 else(bH b (c.extract r3.2.1.toNat (zW zI (r3.2.1+r3.1)).toNat)).bind fun L6=>bif !decide (L6=0) then e (bs []) 0 L6 else e (c.extract r3.2.1.toNat (zW zI (r3.2.1+r3.1)).toNat) (zW zI (r3.2.1+r3.1)) 0 else none else none else none else none else(km a b.2.1).bind fun r24=>bif r24=1 then(Q2 b.2.2.2.1).bind fun ua=>bif zW zI ((c.size:Int)-d)<ua then e (bs []) 0 2 else bif 0<=zW zI (d+ua) then bif zW zI (d+ua)<=(c.size:Int) then bif 0<=d then bif d<=(((zW zI (d+ua)).toNat:Nat):Int) then(km a b.2.1).bind fun r26=>bif r26=1 then(Q0 (c.extract d.toNat (zW zI (d+ua)).toNat) b.2.2.2.1).bind fun TT=>bif !decide (TT.2.1=0) then e (bs []) 0 TT.2.1 else(bH b TT.1).bind fun r28=>bif !decide (r28=0) then e (bs []) 0 r28 else e TT.1 (zW zI (d+ua)) 0 else bif r26=2 then(fZ (c.extract d.toNat (zW zI (d+ua)).toNat)).bind fun r29=>bif !r29.2.2 then e (bs []) 0 3 else(bH b r29.1).bind fun r30=>bif !decide (r30=0) then e (bs []) 0 r30 else e r29.1 (zW zI (d+ua)) 0 else(bH b (c.extract d.toNat (zW zI (d+ua)).toNat)).bind fun r31=>bif !decide (r31=0) then e (bs []) 0 r31 else e (c.extract d.toNat (zW zI (d+ua)).toNat) (zW zI (d+ua)) 0 else none else none else none else none else bif r24=2 then bif zW zI ((c.size:Int)-d)<zW zI (2*b.2.2.2.1) then e (bs []) 0 2 else bif 0<=zW zI (d+zW zI (2*b.2.2.2.1)) then bif zW zI (d+zW zI (2*b.2.2.2.1))<=(c.size:Int) then bif 0<=d then bif d<=(((zW zI (d+zW zI (2*b.2.2.2.1))).toNat:Nat):Int) then(km a b.2.1).bind fun r32=>bif r32=1 then(Q0 (c.extract d.toNat (zW zI (d+zW zI (2*b.2.2.2.1))).toNat) b.2.2.2.1).bind fun TU=>bif !decide (TU.2.1=0) then e (bs []) 0 TU.2.1 else(bH b TU.1).bind fun r34=>bif !decide (r34=0) then e (bs []) 0 r34 else e TU.1 (zW zI (d+zW zI (2*b.2.2.2.1))) 0 else bif r32=2 then(fZ (c.extract d.toNat (zW zI (d+zW zI (2*b.2.2.2.1))).toNat)).bind fun r35=>bif !r35.2.2 then e (bs []) 0 3 else(bH b r35.1).bind fun r36=>bif !decide (r36=0) then e (bs []) 0 r36 else e r35.1 (zW zI (d+zW zI (2*b.2.2.2.1))) 0 else(bH b (c.extract d.toNat (zW zI (d+zW zI (2*b.2.2.2.1))).toNat)).bind fun r37=>bif !decide (r37=0) then e (bs []) 0 r37 else e (c.extract d.toNat (zW zI (d+zW zI (2*b.2.2.2.1))).toNat) (zW zI (d+zW zI (2*b.2.2.2.1))) 0 else none else none else none else none else bif zW zI ((c.size:Int)-d)<b.2.2.2.1 then e (bs []) 0 2 else bif 0<=zW zI (d+b.2.2.2.1) then bif zW zI (d+b.2.2.2.1)<=(c.size:Int) then bif 0<=d then bif d<=(((zW zI (d+b.2.2.2.1)).toNat:Nat):Int) then(km a b.2.1).bind fun r38=>bif r38=1 then(Q0 (c.extract d.toNat (zW zI (d+b.2.2.2.1)).toNat) b.2.2.2.1).bind fun TV=>bif !decide (TV.2.1=0) then e (bs []) 0 TV.2.1 else(bH b TV.1).bind fun r40=>bif !decide (r40=0) then e (bs []) 0 r40 else e TV.1 (zW zI (d+b.2.2.2.1)) 0 else bif r38=2 then(fZ (c.extract d.toNat (zW zI (d+b.2.2.2.1)).toNat)).bind fun r41=>bif !r41.2.2 then e (bs []) 0 3 else(bH b r41.1).bind fun r42=>bif !decide (r42=0) then e (bs []) 0 r42 else e r41.1 (zW zI (d+b.2.2.2.1)) 0 else(bH b (c.extract d.toNat (zW zI (d+b.2.2.2.1)).toNat)).bind fun r43=>bif !decide (r43=0) then e (bs []) 0 r43 else e (c.extract d.toNat (zW zI (d+b.2.2.2.1)).toNat) (zW zI (d+b.2.2.2.1)) 0 else none else none else none else none
def Jd(a:Int)(b:ap)(c:ByteArray)(d:Int):Option iT:=
 Yz a b c d (fun a0 a1 a2=>some (a0,a1,a2))
def YE{R:Type}(a:Int)(b:ap)(c:ByteArray)(d:ByteArray->Int->Option R):Option R:=
 (Bk a).bind fun r1=>bif !r1 then d (bs []) 1 else(bH b c).bind fun r2=>bif !decide (r2=0) then d (bs []) r2 else bif !decide (b.2.2.1=1) then(qs a b.2.2.1 (c.size:Int)).bind fun r3=>(km a b.2.1).bind fun r4=>bif r4=1 then(Q1 c).bind fun r5=>bif r3.1.size+r5.1.size<=9223372036854775807 then d (r3.1++r5.1) 0 else none else bif r4=2 then(jk c).bind fun r6=>bif r3.1.size+r6.size<=9223372036854775807 then d (r3.1++r6) 0 else none else bif r3.1.size+c.size<=9223372036854775807 then d (r3.1++c) 0 else none else(km a b.2.1).bind fun r7=>bif r7=1 then(Q1 c).bind fun r8=>bif(bs []).size+r8.1.size<=9223372036854775807 then d (bs []++r8.1) 0 else none else bif r7=2 then(jk c).bind fun r9=>bif(bs []).size+r9.size<=9223372036854775807 then d (bs []++r9) 0 else none else bif(bs []).size+c.size<=9223372036854775807 then d (bs []++c) 0 else none
def Bj(a:Int)(b:ap)(c:ByteArray):Option HB:=
 YE a b c (fun a0 a1=>some (a0,a1))
def Zf{R:Type}(a:aK)(b:Int->Int->Option R)(c:aK->Int->Int->gE->Option R):Option R:=
 bif 256<((List.length a):Int) then b 5 256 else c a ((List.length a):Int) 0 []
def Fo{R:Type}(a:aK)(b c:Int)(d:gE)(e:Int->Int->Option R)(f:aK->Int->Int->gE->Option R)(g:Option R):Option R:=
 bif c<b then zd c (List.length a) (bif eF (fy .str) false d (List.getD a c.toNat (bs [],bs [],())).1 then e (10:Int) c else bif eG (fy .str) d (List.getD a c.toNat (bs [],bs [],())).1 then none else f a b (zW zI (c+(1:Int))) (d++ [((List.getD a c.toNat (bs [],bs [],())).1,true)])) else g
def Fp{R:Type}(a b:Int)(c:Int->Int->Option R):Option R:=
 c a b
def Fq{R:Type}(a:Int->Int->Option R):Option R:=
 a 0 0
def SQ:Nat->aK->Int->Int->gE->Option (Sum (Int×Int) Unit)
 |0,_,_,_,_=>none
 |k+1,v0,v1,v2,v3=>Fo v0 v1 v2 v3 (fun a0 a1=>some (.inl (a0,a1))) (fun a0 a1 a2 a3=>SQ k a0 a1 a2 a3) (some (.inr ()))
def Jq(a:aK):Option (Int×Int):=
 Zf a (fun a0 a1=>some (a0,a1)) (fun a0 a1 a2 a3=>(SQ ah a0 a1 a2 a3).bind fun e=>Sum.elim (fun(we:(Int×Int))=>Fp we.1 we.2 (fun a0 a1=>some (a0,a1))) (fun(we:Unit)=>Fq (fun a0 a1=>some (a0,a1))) e)
def Y4{R:Type}(a:aK)(b:ByteArray)(c:ByteArray->aK->Int->Int->Option R):Option R:=
 c b a ((List.length a):Int) 0
def Fj{R:Type}(a:ByteArray)(b:aK)(c d:Int)(e:ByteArray->Bool->Option R)(f:ByteArray->aK->Int->Int->Option R)(g:Option R):Option R:=
 bif d<c then zd d (List.length b) (bif(List.getD b d.toNat (bs [],bs [],())).1=a then e (List.getD b d.toNat (bs [],bs [],())).2.1 true else f a b c (zW zI (d+1))) else g
def Fk{R:Type}(a:ByteArray)(b:Bool)(c:ByteArray->Bool->Option R):Option R:=
 c a b
def Fl{R:Type}(a:ByteArray->Bool->Option R):Option R:=
 a (bs []) false
def SP:Nat->ByteArray->aK->Int->Int->Option (Sum gF Unit)
 |0,_,_,_,_=>none
 |k+1,v0,v1,v2,v3=>Fj v0 v1 v2 v3 (fun a0 a1=>some (.inl (a0,a1))) (fun a0 a1 a2 a3=>SP k a0 a1 a2 a3) (some (.inr ()))
def Jp(a:aK)(b:ByteArray):Option gF:=
 Y4 a b (fun a0 a1 a2 a3=>(SP ah a0 a1 a2 a3).bind fun e=>Sum.elim (fun(we:gF)=>Fk we.1 we.2 (fun a0 a1=>some (a0,a1))) (fun(we:Unit)=>Fl (fun a0 a1=>some (a0,a1))) e)
def zx3{R:Type}(a:(List Int))(b:Int)(c:(List Int)->Int->Int->Option R):Option R:=
 c a b 0
def S3{R:Type}(a:(List Int))(b c:Int)(d:Bool->Option R)(e:(List Int)->Int->Int->Option R)(f:Option R):Option R:=
 bif c<((List.length a):Int) then zd c (List.length a) (bif List.getD a c.toNat 0=b then d true else e a b (zW zI (c+1))) else f
def FW{R:Type}(a:Bool)(b:Bool->Option R):Option R:=
 b a
def FX{R:Type}(a:Bool->Option R):Option R:=
 a false
def Hn:Nat->(List Int)->Int->Int->Option (Sum Bool Unit)
 |0,_,_,_=>none
 |k+1,v0,v1,v2=>S3 v0 v1 v2 (fun a0=>some (.inl a0)) (fun a0 a1 a2=>Hn k a0 a1 a2) (some (.inr ()))
def uC(a:(List Int))(b:Int):Option Bool:=
 zx3 a b (fun a0 a1 a2=>(Hn ah a0 a1 a2).bind fun e=>Sum.elim (fun(we:Bool)=>FW we (fun a0=>some a0)) (fun(we:Unit)=>FX (fun a0=>some a0)) e)
def Z8{R:Type}(a b:Int)(c:Bool->Option R):Option R:=
 bif 48<=b then bif 65<=b then bif b<=90 then bif a=1 then c (decide (b<=57)) else bif a=2 then c true else bif a=3 then bif b<=57 then c true else c true else bif a=4 then bif 32<=b then c (decide (b<=126)) else c false else bif a=5 then c true else c (decide (a=6)) else bif 97<=b then bif a=1 then c (decide (b<=57)) else bif a=2 then c (decide (b<=122)) else bif a=3 then bif b<=57 then c true else c (decide (b<=122)) else bif a=4 then bif 32<=b then c (decide (b<=126)) else c false else bif a=5 then c true else c (decide (a=6)) else bif a=1 then c (decide (b<=57)) else bif a=2 then c false else bif a=3 then bif b<=57 then c true else c false else bif a=4 then bif 32<=b then c (decide (b<=126)) else c false else bif a=5 then c true else c (decide (a=6)) else bif 97<=b then bif a=1 then c (decide (b<=57)) else bif a=2 then c (decide (b<=122)) else bif a=3 then bif b<=57 then c true else c (decide (b<=122)) else bif a=4 then bif 32<=b then c (decide (b<=126)) else c false else bif a=5 then c true else c (decide (a=6)) else bif a=1 then c (decide (b<=57)) else bif a=2 then c false else bif a=3 then bif b<=57 then c true else c false else bif a=4 then bif 32<=b then c (decide (b<=126)) else c false else bif a=5 then c true else c (decide (a=6)) else bif 65<=b then bif b<=90 then bif a=1 then c false else bif a=2 then c true else bif a=3 then c true else bif a=4 then bif 32<=b then c (decide (b<=126)) else c false else bif a=5 then c true else c (decide (a=6)) else bif 97<=b then bif a=1 then c false else bif a=2 then c (decide (b<=122)) else bif a=3 then c (decide (b<=122)) else bif a=4 then bif 32<=b then c (decide (b<=126)) else c false else bif a=5 then c true else c (decide (a=6)) else bif a=1 then c false else bif a=2 then c false else bif a=3 then c false else bif a=4 then bif 32<=b then c (decide (b<=126)) else c false else bif a=5 then c true else c (decide (a=6)) else bif 97<=b then bif a=1 then c false else bif a=2 then c (decide (b<=122)) else bif a=3 then c (decide (b<=122)) else bif a=4 then bif 32<=b then c (decide (b<=126)) else c false else bif a=5 then c true else c (decide (a=6)) else bif a=1 then c false else bif a=2 then c false else bif a=3 then c false else bif a=4 then bif 32<=b then c (decide (b<=126)) else c false else bif a=5 then c true else c (decide (a=6))
def ye(a b:Int):Option Bool:=
 Z8 a b (fun a0=>some a0)
def Z7{R:Type}(a:Int)(b:ByteArray)(c:Int->ByteArray->Int->Option R):Option R:=
 c a b 0
def S1{R:Type}(a:Int)(b:ByteArray)(c:Int)(d:Int->Option R)(e:Int->ByteArray->Int->Option R)(f:Option R):Option R:=
 bif c<(b.size:Int) then zd c b.size ((ye a (ze b c.toNat)).bind fun r1=>bif !r1 then d c else e a b (zW zI (c+1))) else f
def FO{R:Type}(a:Int)(b:Int->Option R):Option R:=
 b a
def FP{R:Type}(a:Int->Option R):Option R:=
 a (-1:Int)
def Hm:Nat->Int->ByteArray->Int->Option (Sum Int Unit)
 |0,_,_,_=>none
 |k+1,v0,v1,v2=>S1 v0 v1 v2 (fun a0=>some (.inl a0)) (fun a0 a1 a2=>Hm k a0 a1 a2) (some (.inr ()))
def JL(a:Int)(b:ByteArray):Option Int:=
 Z7 a b (fun a0 a1 a2=>(Hm ah a0 a1 a2).bind fun e=>Sum.elim (fun(we:Int)=>FO we (fun a0=>some a0)) (fun(we:Unit)=>FP (fun a0=>some a0)) e)
def zx1{R:Type}(a b:Int)(c:Bool->Option R)(d:Int->Int->Int->Option R):Option R:=
 bif a<1 then c false else bif 6<a then c false else bif b<1 then c false else bif 6<b then c false else d a b 0
def FR{R:Type}(a b c:Int)(d:Bool->Option R)(e:Int->Int->Int->Option R)(f:Option R):Option R:=
 bif c<256 then(ye b (zW zU c)).bind fun r1=>bif r1 then(ye a (zW zU c)).bind fun r2=>bif !r2 then d false else e a b (zW zI (c+1)) else e a b (zW zI (c+1)) else f
def FT{R:Type}(a:Bool)(b:Bool->Option R):Option R:=
 b a
def FU{R:Type}(a:Bool->Option R):Option R:=
 a true
def zx0:Nat->Int->Int->Int->Option (Sum Bool Unit)
 |0,_,_,_=>none
 |k+1,v0,v1,v2=>FR v0 v1 v2 (fun a0=>some (.inl a0)) (fun a0 a1 a2=>zx0 k a0 a1 a2) (some (.inr ()))
def Hz(a b:Int):Option Bool:=
 zx1 a b (fun a0=>some a0) (fun a0 a1 a2=>(zx0 ah a0 a1 a2).bind fun e=>Sum.elim (fun(we:Bool)=>FT we (fun a0=>some a0)) (fun(we:Unit)=>FU (fun a0=>some a0)) e)
def FZ{R:Type}(a:Int)(b:Int->Option R):Option R:=
 bif a=0 then b 0 else bif Int.tmod (zW zU (Int.tdiv a 32)) 2=1 then b 0 else bif Int.tmod a 32=31 then b 2 else b 1
def yi(a:Int):Option Int:=
 FZ a (fun a0=>some a0)
def Ta{R:Type}(a:ByteArray)(b:Int)(c:Int->Int->Int->Option R):Option R:=
 bif b<0 then c 0 0 1 else bif(a.size:Int)<b then c 0 0 1 else bif b=(a.size:Int) then c 0 0 2 else zd b a.size ((yi (ze a b.toNat)).bind fun r1=>bif r1=0 then c 0 0 13 else bif r1=1 then zd b a.size (c (zW zI (ze a b.toNat)) (zW zI (b+1)) 0) else bif zW zI ((a.size:Int)-b)<2 then c 0 0 2 else zd (zW zI (b+1)) a.size (bif ze a (zW zI (b+(1:Int))).toNat=0 then c 0 0 13 else zd (zW zI (b+1)) a.size (bif 127<ze a (zW zI (b+(1:Int))).toNat then c 0 0 13 else zd b a.size (zd (zW zI (b+1)) a.size (c (zW zI (zW zI (256*zW zI (ze a b.toNat))+zW zI (ze a (zW zI (b+(1:Int))).toNat))) (zW zI (b+2)) 0)))))
def yj(a:ByteArray)(b:Int):Option iw:=
 Ta a b (fun a0 a1 a2=>some (a0,a1,a2))
def Tb{R:Type}(a:ByteArray)(b:Int)(c:Int->Int->Int->Option R):Option R:=
 bif b<0 then c 0 0 1 else bif(a.size:Int)<b then c 0 0 1 else bif b=(a.size:Int) then c 0 0 2 else zd b a.size (bif zW zI (ze a b.toNat)<128 then c (zW zI (ze a b.toNat)) (zW zI (b+1)) 0 else bif !decide (zW zI (ze a b.toNat)=129) then bif !decide (zW zI (ze a b.toNat)=130) then c 0 0 14 else bif zW zI ((a.size:Int)-b)<zW zI (zW zI (ze a b.toNat)-127) then c 0 0 2 else bif zW zI (ze a b.toNat)=129 then zd (zW zI (b+1)) a.size (bif ze a (zW zI (b+(1:Int))).toNat<128 then c 0 0 14 else zd (zW zI (b+1)) a.size (c (zW zI (ze a (zW zI (b+(1:Int))).toNat)) (zW zI (b+2)) 0)) else zd (zW zI (b+1)) a.size (bif ze a (zW zI (b+(1:Int))).toNat=0 then c 0 0 14 else zd (zW zI (b+1)) a.size (zd (zW zI (b+2)) a.size (c (zW zI (zW zI (256*zW zI (ze a (zW zI (b+(1:Int))).toNat))+zW zI (ze a (zW zI (b+(2:Int))).toNat))) (zW zI (b+3)) 0))) else bif zW zI ((a.size:Int)-b)<zW zI (zW zI (ze a b.toNat)-127) then c 0 0 2 else bif zW zI (ze a b.toNat)=129 then zd (zW zI (b+1)) a.size (bif ze a (zW zI (b+(1:Int))).toNat<128 then c 0 0 14 else zd (zW zI (b+1)) a.size (c (zW zI (ze a (zW zI (b+(1:Int))).toNat)) (zW zI (b+2)) 0)) else zd (zW zI (b+1)) a.size (bif ze a (zW zI (b+(1:Int))).toNat=0 then c 0 0 14 else zd (zW zI (b+1)) a.size (zd (zW zI (b+2)) a.size (c (zW zI (zW zI (256*zW zI (ze a (zW zI (b+(1:Int))).toNat))+zW zI (ze a (zW zI (b+(2:Int))).toNat))) (zW zI (b+3)) 0))))
def yk(a:ByteArray)(b:Int):Option iw:=
 Tb a b (fun a0 a1 a2=>some (a0,a1,a2))
def zxi{R:Type}(a:ak)(b c:Int)(d:ak->Int->Int->Int->Option R):Option R:=
 d a b c 0
def Te{R:Type}(a:ak)(b c d:Int)(e:Bool->Option R)(f:ak->Int->Int->Int->Option R)(g:Option R):Option R:=
 bif d<b then zd d (List.length a) (bif(List.getD a d.toNat (0,bs [],())).1=c then e true else f a b c (zW zI (d+1))) else g
def F4{R:Type}(a:Bool)(b:Bool->Option R):Option R:=
 b a
def F5{R:Type}(a:Bool->Option R):Option R:=
 a false
def Hr:Nat->ak->Int->Int->Int->Option (Sum Bool Unit)
 |0,_,_,_,_=>none
 |k+1,v0,v1,v2,v3=>Te v0 v1 v2 v3 (fun a0=>some (.inl a0)) (fun a0 a1 a2 a3=>Hr k a0 a1 a2 a3) (some (.inr ()))
def JY(a:ak)(b c:Int):Option Bool:=
 zxi a b c (fun a0 a1 a2 a3=>(Hr ah a0 a1 a2 a3).bind fun e=>Sum.elim (fun(we:Bool)=>F4 we (fun a0=>some a0)) (fun(we:Unit)=>F5 (fun a0=>some a0)) e)
def Tc{R:Type}(a:ByteArray)(b:ByteArray->ak->Int->Option R):Option R:=
 b a [] 0
def Td{R:Type}(a:ByteArray)(b:ak)(c:Int)(d:ak->Int->Int->ak->Option R)(e:ByteArray->ak->Int->Option R)(f:ak->Option R):Option R:=
 bif c<(a.size:Int) then(yj a c).bind fun r1=>bif !decide (r1.2.2=0) then d [] r1.2.2 c b else(yk a r1.2.1).bind fun r2=>bif !decide (r2.2.2=0) then d [] r2.2.2 r1.2.1 b else bif zW zI ((a.size:Int)-r2.2.1)<r2.1 then d [] 2 (a.size:Int) b else(JY b ((List.length b):Int) r1.1).bind fun r3=>bif r3 then d [] 10 c b else bif 0<=zW zI (r2.2.1+r2.1) then bif zW zI (r2.2.1+r2.1)<=(a.size:Int) then bif 0<=r2.2.1 then bif r2.2.1<=(((zW zI (r2.2.1+r2.1)).toNat:Nat):Int) then bif(List.length b+List.length ([(r1.1,a.extract r2.2.1.toNat (zW zI (r2.2.1+r2.1)).toNat,())]:List cn))*24<=140737488355328 then e a (b++([(r1.1,a.extract r2.2.1.toNat (zW zI (r2.2.1+r2.1)).toNat,())]:List cn)) (zW zI (r2.2.1+r2.1)) else none else none else none else none else none else f b
def F1{R:Type}(a:ak)(b c:Int)(d:ak)(e:ak->Int->Int->Option R):Option R:=
 e a b c
def F2{R:Type}(a:ak)(b:ak->Int->Int->Option R):Option R:=
 b a 0 0
def A9:Nat->ByteArray->ak->Int->Option (Sum qB ak)
 |0,_,_,_=>none
 |k+1,v0,v1,v2=>Td v0 v1 v2 (fun a0 a1 a2 a3=>some (.inl (a0,a1,a2,a3))) (fun a0 a1 a2=>A9 k a0 a1 a2) (fun a0=>some (.inr a0))
def yl(a:ByteArray):Option (Sum iR iR):=
 Tc a (fun a0 a1 a2=>(A9 ah a0 a1 a2).bind fun e=>Sum.elim (fun(we:qB)=>F1 we.1 we.2.1 we.2.2.1 we.2.2.2 (fun a0 a1 a2=>some (.inl (a0,a1,a2)))) (fun(we:ak)=>F2 we (fun a0 a1 a2=>some (.inr (a0,a1,a2)))) e)
def zxj{R:Type}(a:ap)(b:Int->Option R):Option R:=
 bif a.1<2 then b 1 else bif 128<a.1 then b 1 else bif a.2.1<1 then b 6 else bif 6<a.2.1 then b 6 else bif a.2.2.1<1 then b 3 else bif 3<a.2.2.1 then b 3 else bif a.2.2.1=2 then bif a.2.2.2.1<1 then b 5 else bif a.2.2.2.2.1<a.2.2.2.1 then b 5 else bif 99<a.2.2.2.2.1 then b 5 else bif a.2.2.1=1 then bif !decide (a.2.2.2.1=a.2.2.2.2.1) then b 5 else bif a.2.2.1=1 then bif a.2.1=6 then b 13 else b 0 else b 0 else bif a.2.2.1=1 then bif a.2.1=6 then b 13 else b 0 else b 0 else bif a.2.2.2.1<1 then b 5 else bif a.2.2.2.2.1<a.2.2.2.1 then b 5 else bif 999<a.2.2.2.2.1 then b 5 else bif a.2.2.1=1 then bif !decide (a.2.2.2.1=a.2.2.2.2.1) then b 5 else bif a.2.2.1=1 then bif a.2.1=6 then b 13 else b 0 else b 0 else bif a.2.2.1=1 then bif a.2.1=6 then b 13 else b 0 else b 0
def uE(a:ap):Option Int:=
 zxj a (fun a0=>some a0)
def IU{R:Type}(a:ap)(b:ByteArray)(c:Int->Option R):Option R:=
 (uE a).bind fun r1=>bif !decide (r1=0) then c 1 else bif(b.size:Int)<a.2.2.2.1 then c 5 else bif a.2.2.2.2.1<(b.size:Int) then c 5 else(JL a.2.1 b).bind fun r2=>bif 0<=r2 then c 6 else bif a.2.1=6 then(yl b).bind fun r3=>Sum.elim (fun(Ct:iR)=>bif !decide (Ct.2.1=0) then c 13 else c 0) (fun(Ct:iR)=>bif !decide (Ct.2.1=0) then c 13 else c 0) r3 else c 0
def iQ(a:ap)(b:ByteArray):Option Int:=
 IU a b (fun a0=>some a0)
def IV{R:Type}(a b:ap)(c:Bool->Option R):Option R:=
 (uE a).bind fun r1=>bif !decide (r1=0) then c false else(uE b).bind fun r2=>bif !decide (r2=0) then c false else bif b.2.2.2.1<a.2.2.2.1 then c false else bif a.2.2.2.2.1<b.2.2.2.2.1 then c false else bif a.2.1=5 then c true else bif a.2.1=6 then c (decide (a.2.1=b.2.1)) else bif b.2.1=6 then c (decide (a.2.1=b.2.1)) else(Hz a.2.1 b.2.1).bind fun r3=>c r3
def uF(a b:ap):Option Bool:=
 IV a b (fun a0=>some a0)
def UR{R:Type}(a:ag)(b:Int)(c:Int->Int->ag->Option R):Option R:=
 c b 0 a
def zzh{R:Type}(a b:Int)(c:ag)(d:Int->Option R)(e:Int->Int->ag->Option R)(f:Option R):Option R:=
 bif b<((List.length c.2.2.1):Int) then zd b (List.length c.2.2.1) (bif(List.getD c.2.2.1 b.toNat (0,0,0,0,0,())).1=a then d b else e a (zW zI (b+1)) c) else f
def zzi{R:Type}(a:Int)(b:Int->Option R):Option R:=
 b a
def zzj{R:Type}(a:Int->Option R):Option R:=
 a (-1:Int)
def RL:Nat->Int->Int->ag->Option (Sum Int Unit)
 |0,_,_,_=>none
 |k+1,v0,v1,v2=>zzh v0 v1 v2 (fun a0=>some (.inl a0)) (fun a0 a1 a2=>RL k a0 a1 a2) (some (.inr ()))
def iN(a:ag)(b:Int):Option Int:=
 UR a b (fun a0 a1 a2=>(RL ah a0 a1 a2).bind fun e=>Sum.elim (fun(we:Int)=>zzi we (fun a0=>some a0)) (fun(we:Unit)=>zzj (fun a0=>some a0)) e)
def UP{R:Type}(a:ag)(b:ag->Option R):Option R:=
 bif(List.length ([]:List ap)+List.length a.2.2.1)*40<=140737488355328 then b (a.1,a.2.1,[]++a.2.2.1,()) else none
def rS(a:ag):Option ag:=
 UP a (fun a0=>some a0)
def H9{R:Type}(a:ag)(b:Int->Int->Option R)(c:Int->Int->ag->Option R):Option R:=
 bif !decide (a.1=1) then bif !decide (a.1=2) then b 1 (-1:Int) else bif a.2.1<0 then b 7 (-1:Int) else bif 9<a.2.1 then b 7 (-1:Int) else c 0 0 a else bif a.2.1<0 then b 7 (-1:Int) else bif 9<a.2.1 then b 7 (-1:Int) else c 0 0 a
theorem acK{R S:Type}(F:R->Option S)(a)(b)(c):(H9 a b c).bind F=H9 a (fun a0 a1=>(b a0 a1).bind F) (fun a0 a1 a2=>(c a0 a1 a2).bind F):=by
 simp only[H9,ay]
def RK{R:Type}(a b:Int)(c:ag)(d:Int->Int->Option R)(e:Int->Int->ag->Option R)(f:Option R):Option R:=
 bif b<((List.length c.2.2.1):Int) then zd b (List.length c.2.2.1) ((uE (List.getD c.2.2.1 b.toNat (0,0,0,0,0,()))).bind fun r1=>bif !decide (r1=0) then d r1 b else zd b (List.length c.2.2.1) (bif(List.getD c.2.2.1 b.toNat (0,0,0,0,0,())).1<=a then d 11 b else zd b (List.length c.2.2.1) (e (List.getD c.2.2.1 b.toNat (0,0,0,0,0,())).1 (zW zI (b+1)) c))) else f
def UN{R:Type}(a b:Int)(c:Int->Int->Option R):Option R:=
 c a b
def UO{R:Type}(a:Int->Int->Option R):Option R:=
 a 0 0
def xA:Nat->Int->Int->ag->Option (Sum (Int×Int) Unit)
 |0,_,_,_=>none
 |k+1,v0,v1,v2=>RK v0 v1 v2 (fun a0 a1=>some (.inl (a0,a1))) (fun a0 a1 a2=>xA k a0 a1 a2) (some (.inr ()))
def rR(a:ag):Option (Int×Int):=
 H9 a (fun a0 a1=>some (a0,a1)) (fun a0 a1 a2=>(xA ah a0 a1 a2).bind fun e=>Sum.elim (fun(we:(Int×Int))=>UN we.1 we.2 (fun a0 a1=>some (a0,a1))) (fun(we:Unit)=>UO (fun a0 a1=>some (a0,a1))) e)
def US{R:Type}(a:ag)(b:Bool->Option R):Option R:=
 (rR a).bind fun r1=>b (decide (r1.1=0))
def kU(a:ag):Option Bool:=
 US a (fun a0=>some a0)
def zzo{R:Type}(a:wE->Option R):Option R:=
 a ([([2,1,2,12,19,1,2,12,19]:List Int),([3,1,1,6,6,1,1,6,6]:List Int),([4,1,1,12,12,1,1,12,12]:List Int),([7,1,1,10,10,1,1,10,10]:List Int),([11,1,1,6,6,1,1,6,6]:List Int),([12,1,1,6,6,1,1,12,12]:List Int),([13,1,1,4,4,0,0,0,0]:List Int),([14,1,1,4,4,1,1,4,4]:List Int),([18,1,1,4,4,0,0,0,0]:List Int),([22,1,1,3,3,3,1,12,12]:List Int),([23,1,1,3,3,1,1,3,3]:List Int),([26,0,0,0,0,1,1,4,4]:List Int),([32,1,2,1,11,1,2,1,11]:List Int),([35,4,2,1,37,4,2,1,37]:List Int),([37,3,1,12,12,3,1,12,12]:List Int),([38,3,1,6,6,3,1,6,6]:List Int),([39,3,1,2,2,1,1,3,3]:List Int),([41,4,1,8,8,4,1,8,8]:List Int),([42,4,1,15,15,4,1,15,15]:List Int),([43,4,1,40,40,4,2,1,99]:List Int),([48,4,3,1,999,4,3,1,999]:List Int),([49,1,1,3,3,1,1,3,3]:List Int),([52,5,1,8,8,5,1,8,8]:List Int),([55,6,3,1,255,6,3,1,255]:List Int),([64,5,1,8,8,5,1,8,8]:List Int),([70,1,1,3,3,1,1,3,3]:List Int),([90,1,1,42,42,0,0,0,0]:List Int),([102,4,2,1,28,4,2,1,28]:List Int),([128,5,1,8,8,5,1,8,8]:List Int)]:List (List Int))
def Bi:Option wE:=
 zzo (fun a0=>some a0)
def zzl{R:Type}(a:Int)(b:Int->wE->Int->ag->ag->Option R):Option R:=
 Bi.bind fun r1=>b a r1 0 (0,0,[],()) (zW zI (a+1),a,[],())
def zzm{R:Type}(a:Int)(b:wE)(c:Int)(d e:ag)(f:Int->wE->Int->ag->ag->Option R)(g:ag->ag->Option R):Option R:=
 bif c<((List.length b):Int) then zd c (List.length b) (bif 0<=zW zI (5+zW zI (4*a)) then bif zW zI (5+zW zI (4*a))<=(((List.length (List.getD b c.toNat ([]:List Int))):Nat):Int) then bif 0<=zW zI (1+zW zI (4*a)) then bif zW zI (1+zW zI (4*a))<=(((zW zI (5+zW zI (4*a))).toNat:Nat):Int) then zd 0 (List.length (List.drop (zW zI ((1:Int)+zW zI ((4:Int)*a))).toNat (List.take (zW zI ((5:Int)+zW zI ((4:Int)*a))).toNat (List.getD b c.toNat ([]:List Int))))) (bif 0<List.getD (List.drop (zW zI (1+zW zI (4*a))).toNat (List.take (zW zI (5+zW zI (4*a))).toNat (List.getD b c.toNat []))) ((0:Int)).toNat 0 then zd c (List.length b) (zd 0 (List.length (List.getD b c.toNat ([]:List Int))) (zd 0 (List.length (List.drop (zW zI ((1:Int)+zW zI ((4:Int)*a))).toNat (List.take (zW zI ((5:Int)+zW zI ((4:Int)*a))).toNat (List.getD b c.toNat ([]:List Int))))) (zd 1 (List.length (List.drop (zW zI ((1:Int)+zW zI ((4:Int)*a))).toNat (List.take (zW zI ((5:Int)+zW zI ((4:Int)*a))).toNat (List.getD b c.toNat ([]:List Int))))) (zd 2 (List.length (List.drop (zW zI ((1:Int)+zW zI ((4:Int)*a))).toNat (List.take (zW zI ((5:Int)+zW zI ((4:Int)*a))).toNat (List.getD b c.toNat ([]:List Int))))) (zd 3 (List.length (List.drop (zW zI ((1:Int)+zW zI ((4:Int)*a))).toNat (List.take (zW zI ((5:Int)+zW zI ((4:Int)*a))).toNat (List.getD b c.toNat ([]:List Int))))) (bif(List.length e.2.2.1+List.length ([(List.getD (List.getD b c.toNat ([]:List Int)) ((0:Int)).toNat (0:Int),List.getD (List.drop (zW zI ((1:Int)+zW zI ((4:Int)*a))).toNat (List.take (zW zI ((5:Int)+zW zI ((4:Int)*a))).toNat (List.getD b c.toNat ([]:List Int)))) ((0:Int)).toNat (0:Int),List.getD (List.drop (zW zI ((1:Int)+zW zI ((4:Int)*a))).toNat (List.take (zW zI ((5:Int)+zW zI ((4:Int)*a))).toNat (List.getD b c.toNat ([]:List Int)))) ((1:Int)).toNat (0:Int),List.getD (List.drop (zW zI ((1:Int)+zW zI ((4:Int)*a))).toNat (List.take (zW zI ((5:Int)+zW zI ((4:Int)*a))).toNat (List.getD b c.toNat ([]:List Int)))) ((2:Int)).toNat (0:Int),List.getD (List.drop (zW zI ((1:Int)+zW zI ((4:Int)*a))).toNat (List.take (zW zI ((5:Int)+zW zI ((4:Int)*a))).toNat (List.getD b c.toNat ([]:List Int)))) ((3:Int)).toNat (0:Int),())]:List ap))*40<=140737488355328 then f a b (zW zI (c+1)) d (e.1,e.2.1,e.2.2.1++([(List.getD (List.getD b c.toNat []) ((0:Int)).toNat 0,List.getD (List.drop (zW zI (1+zW zI (4*a))).toNat (List.take (zW zI (5+zW zI (4*a))).toNat (List.getD b c.toNat []))) ((0:Int)).toNat 0,List.getD (List.drop (zW zI (1+zW zI (4*a))).toNat (List.take (zW zI (5+zW zI (4*a))).toNat (List.getD b c.toNat []))) ((1:Int)).toNat 0,List.getD (List.drop (zW zI (1+zW zI (4*a))).toNat (List.take (zW zI (5+zW zI (4*a))).toNat (List.getD b c.toNat []))) ((2:Int)).toNat 0,List.getD (List.drop (zW zI (1+zW zI (4*a))).toNat (List.take (zW zI (5+zW zI (4*a))).toNat (List.getD b c.toNat []))) ((3:Int)).toNat 0,())]:List ap),()) else none)))))) else f a b (zW zI (c+1)) d e) else none else none else none else none) else g d e
def zzn{R:Type}(a b:ag)(c:ag->Option R):Option R:=
 c b
def UU:Nat->Int->wE->Int->ag->ag->Option (ag×ag)
 |0,_,_,_,_,_=>none
 |k+1,v0,v1,v2,v3,v4=>zzm v0 v1 v2 v3 v4 (fun a0 a1 a2 a3 a4=>UU k a0 a1 a2 a3 a4) (fun a0 a1=>some (a0,a1))
def vn(a:Int):Option ag:=
 zzl a (fun a0 a1 a2 a3 a4=>(UU ah a0 a1 a2 a3 a4).bind fun e=>zzn e.1 e.2 (fun a0=>some a0))
def zzk{R:Type}(a:(List Int)->Option R):Option R:=
 a ([2,3,4,7,11,12,14,23,32,35,37,38,41,42,49,52,55,64,70,102,128]:List Int)
def Bh:Option (List Int):=
 zzk (fun a0=>some a0)
def Xe{R:Type}(a:ag)(b:Int)(c:Int->ga->Int->Int->ap->Option R):Option R:=
 c b a.2.2.1 ((List.length a.2.2.1):Int) 0 (0,0,0,0,0,())
def Ec{R:Type}(a:Int)(b:ga)(c d:Int)(e:ap)(f:Bool->ap->Option R)(g:Int->ga->Int->Int->ap->Option R)(h:ap->Option R):Option R:=
 bif d<c then zd d (List.length b) (bif(List.getD b d.toNat (0,0,0,0,0,())).1=a then f true (List.getD b d.toNat (0,0,0,0,0,())) else g a b c (zW zI (d+1)) e) else h e
def Ed{R:Type}(a:Bool)(b:ap)(c:ap->Bool->Option R):Option R:=
 c b a
def Ee{R:Type}(a:ap)(b:ap->Bool->Option R):Option R:=
 b (0,0,0,0,0,()) false
def St:Nat->Int->ga->Int->Int->ap->Option (Sum (Bool×ap) ap)
 |0,_,_,_,_,_=>none
 |k+1,v0,v1,v2,v3,v4=>Ec v0 v1 v2 v3 v4 (fun a0 a1=>some (.inl (a0,a1))) (fun a0 a1 a2 a3 a4=>St k a0 a1 a2 a3 a4) (fun a0=>some (.inr a0))
def fb(a:ag)(b:Int):Option (ap×Bool):=
 Xe a b (fun a0 a1 a2 a3 a4=>(St ah a0 a1 a2 a3 a4).bind fun e=>Sum.elim (fun(we:(Bool×ap))=>Ed we.1 we.2 (fun a0 a1=>some (a0,a1))) (fun(we:ap)=>Ee we (fun a0 a1=>some (a0,a1))) e)
def Im{R:Type}(a:ag)(b:Int->Int->Option R)(c:ga->Int->Int->ag->Option R):Option R:=
 bif !decide (a.1=1) then bif !decide (a.1=2) then b 1 (-1:Int) else bif a.2.1<0 then b 7 (-1:Int) else bif 9<a.2.1 then b 7 (-1:Int) else c a.2.2.1 ((List.length a.2.2.1):Int) 0 a else bif a.2.1<0 then b 7 (-1:Int) else bif 9<a.2.1 then b 7 (-1:Int) else c a.2.2.1 ((List.length a.2.2.1):Int) 0 a
theorem acR{R S:Type}(F:R->Option S)(a)(b)(c):(Im a b c).bind F=Im a (fun a0 a1=>(b a0 a1).bind F) (fun a0 a1 a2 a3=>(c a0 a1 a2 a3).bind F):=by
 simp only[Im,ay]
def Ss{R:Type}(a:ga)(b c:Int)(d:ag)(e:Int->Int->Option R)(f:ga->Int->Int->ag->Option R)(g:Option R):Option R:=
 bif c<b then zd c (List.length a) ((kW (List.getD a c.toNat (0,0,0,0,0,()))).bind fun r1=>bif !decide (r1=0) then e r1 c else bif 0<c then zd (zW zI (c-1)) (List.length d.2.2.1) (bif(List.getD a c.toNat (0,0,0,0,0,())).1<=(List.getD d.2.2.1 (zW zI (c-(1:Int))).toNat (0,0,0,0,0,())).1 then e 11 c else f a b (zW zI (c+1)) d) else f a b (zW zI (c+1)) d) else g
def Xb{R:Type}(a b:Int)(c:Int->Int->Option R):Option R:=
 c a b
def Xc{R:Type}(a:Int->Int->Option R):Option R:=
 a 0 0
def AZ:Nat->ga->Int->Int->ag->Option (Sum (Int×Int) Unit)
 |0,_,_,_,_=>none
 |k+1,v0,v1,v2,v3=>Ss v0 v1 v2 v3 (fun a0 a1=>some (.inl (a0,a1))) (fun a0 a1 a2 a3=>AZ k a0 a1 a2 a3) (some (.inr ()))
def lX(a:ag):Option (Int×Int):=
 Im a (fun a0 a1=>some (a0,a1)) (fun a0 a1 a2 a3=>(AZ ah a0 a1 a2 a3).bind fun e=>Sum.elim (fun(we:(Int×Int))=>Xb we.1 we.2 (fun a0 a1=>some (a0,a1))) (fun(we:Unit)=>Xc (fun a0 a1=>some (a0,a1))) e)
def ZG{R:Type}(a:Int)(b:Bool->Option R):Option R:=
 bif 48<=a then b (decide (a<=57)) else b false
def JH(a:Int):Option Bool:=
 ZG a (fun a0=>some a0)
def ZE{R:Type}(a:ByteArray)(b:ByteArray->Int->Option R):Option R:=
 b a 0
def ZF{R:Type}(a:ByteArray)(b:Int)(c:Bool->Option R)(d:ByteArray->Int->Option R)(e:Option R):Option R:=
 bif b<(a.size:Int) then zd b a.size ((JH (ze a b.toNat)).bind fun r1=>bif !r1 then c false else d a (zW zI (b+1))) else e
def Fx{R:Type}(a:Bool)(b:Bool->Option R):Option R:=
 b a
def z198{R:Type}(a:Bool->Option R):Option R:=
 a true
def IG:Nat->ByteArray->Int->Option (Sum Bool Unit)
 |0,_,_=>none
 |k+1,v0,v1=>ZF v0 v1 (fun a0=>some (.inl a0)) (fun a0 a1=>IG k a0 a1) (some (.inr ()))
def yb(a:ByteArray):Option Bool:=
 ZE a (fun a0 a1=>(IG ah a0 a1).bind fun e=>Sum.elim (fun(we:Bool)=>Fx we (fun a0=>some a0)) (fun(we:Unit)=>z198 (fun a0=>some a0)) e)
def ZI{R:Type}(a:ByteArray)(b:Int->Bool->Option R)(c:ByteArray->Int->Int->Option R):Option R:=
 bif(a.size:Int)<1 then b 0 false else bif 18<(a.size:Int) then b 0 false else(yb a).bind fun r1=>bif !r1 then b 0 false else c a 0 0
def ZJ{R:Type}(a:ByteArray)(b c:Int)(d:ByteArray->Int->Int->Option R)(e:Int->Option R):Option R:=
 bif c<(a.size:Int) then zd c a.size (d a (zW zI (zW zI (zW zI (10*b)+zW zI (ze a c.toNat))-48)) (zW zI (c+1))) else e b
def Fy{R:Type}(a:Int)(b:Int->Bool->Option R):Option R:=
 b a true
def II:Nat->ByteArray->Int->Int->Option Int
 |0,_,_,_=>none
 |k+1,v0,v1,v2=>ZJ v0 v1 v2 (fun a0 a1 a2=>II k a0 a1 a2) (fun a0=>some a0)
def oq(a:ByteArray):Option (Int×Bool):=
 ZI a (fun a0 a1=>some (a0,a1)) (fun a0 a1 a2=>(II ah a0 a1 a2).bind fun e=>Fy e (fun a0 a1=>some (a0,a1)))
def ZT{R:Type}(a b:Int)(c:ByteArray->Bool->Option R)(d:Int->Int->ByteArray->Int->Option R):Option R:=
 bif a<0 then c (bs []) false else bif b<1 then c (bs []) false else bif 18<b then c (bs []) false else d a b (bs []) 0
def SW{R:Type}(a b:Int)(c:ByteArray)(d:Int)(e:Int->Int->ByteArray->Int->Option R)(f:Int->ByteArray->Option R):Option R:=
 bif d<b then bif(strOf ([(zW zU (zW zI (48+Int.tmod a 10)))]:List Int)).size+c.size<=9223372036854775807 then e (zW zI (Int.tdiv a 10)) b (strOf ([(zW zU (zW zI (48+Int.tmod a 10)))]:List Int)++c) (zW zI (d+1)) else none else f a c
def ZU{R:Type}(a:Int)(b:ByteArray)(c:ByteArray->Bool->Option R):Option R:=
 bif !decide (a=0) then c (bs []) false else c b true
def Hh:Nat->Int->Int->ByteArray->Int->Option KZ
 |0,_,_,_,_=>none
 |k+1,v0,v1,v2,v3=>SW v0 v1 v2 v3 (fun a0 a1 a2 a3=>Hh k a0 a1 a2 a3) (fun a0 a1=>some (a0,a1))
def Bq(a b:Int):Option gF:=
 ZT a b (fun a0 a1=>some (a0,a1)) (fun a0 a1 a2 a3=>(Hh ah a0 a1 a2 a3).bind fun e=>ZU e.1 e.2 (fun a0 a1=>some (a0,a1)))
def ZM{R:Type}(a:ByteArray)(b:Int)(c:ByteArray->Bool->Option R)(d:ByteArray->Int->Option R):Option R:=
 bif(a.size:Int)<1 then c (bs []) false else bif 999<(a.size:Int) then c (bs []) false else(yb a).bind fun r1=>bif !r1 then c (bs []) false else bif b<1 then c (bs []) false else bif 999<b then c (bs []) false else d a b
def ZN{R:Type}(a:ByteArray)(b:Int)(c d:ByteArray->Int->Option R):Option R:=
 bif(a.size:Int)<b then bif(bs [48]).size+a.size<=9223372036854775807 then c (bs [48]++a) b else none else d a b
def ZO{R:Type}(a:ByteArray)(b:Int)(c:ByteArray->Int->Option R):Option R:=
 c a b
def ZP{R:Type}(a:ByteArray)(b:Int)(c:ByteArray->ByteArray->Bool->Option R)(d:ByteArray->Int->Option R)(e:ByteArray->Option R):Option R:=
 bif b<(a.size:Int) then zd 0 a.size (bif !decide (ze a ((0:Int)).toNat=48) then c a (bs []) false else bif 1<=(a.size:Int) then d (a.extract ((1:Int)).toNat a.size) b else none) else e a
def ZQ{R:Type}(a b:ByteArray)(c:Bool)(d:ByteArray->Bool->Option R):Option R:=
 d b c
def ZR{R:Type}(a:ByteArray)(b:ByteArray->Bool->Option R):Option R:=
 b a true
def IJ:Nat->ByteArray->Int->Option HB
 |0,_,_=>none
 |k+1,v0,v1=>ZN v0 v1 (fun a0 a1=>IJ k a0 a1) (fun a0 a1=>some (a0,a1))
def IK:Nat->ByteArray->Int->Option (Sum s6 ByteArray)
 |0,_,_=>none
 |k+1,v0,v1=>ZP v0 v1 (fun a0 a1 a2=>some (.inl (a0,a1,a2))) (fun a0 a1=>IK k a0 a1) (fun a0=>some (.inr a0))
def JJ(a:ByteArray)(b:Int):Option gF:=
 ZM a b (fun a0 a1=>some (a0,a1)) (fun a0 a1=>(IJ ah a0 a1).bind fun e=>ZO e.1 e.2 (fun a0 a1=>(IK ah a0 a1).bind fun e=>Sum.elim (fun(we:s6)=>ZQ we.1 we.2.1 we.2.2 (fun a0 a1=>some (a0,a1))) (fun(we:ByteArray)=>ZR we (fun a0 a1=>some (a0,a1))) e))
def UY{R:Type}(a:ByteArray)(b:Bool->Option R):Option R:=
 bif(a.size:Int)=4 then(yb a).bind fun r1=>b r1 else b false
def jj(a:ByteArray):Option Bool:=
 UY a (fun a0=>some a0)
def UW{R:Type}(a:ByteArray)(b:Bool->Option R):Option R:=
 (oq a).bind fun r1=>bif r1.2 then bif(a.size:Int)=4 then bif Int.tmod (zW zI (Int.tdiv r1.1 10)) 10=0 then b true else b (decide (Int.tmod (zW zI (Int.tdiv r1.1 10)) 10=2)) else b false else b false
def m6(a:ByteArray):Option Bool:=
 UW a (fun a0=>some a0)
def UX{R:Type}(a:ByteArray)(b:ByteArray->Option R):Option R:=
 (oq a).bind fun r1=>(Bq (zW zI (r1.1+10)) (4:Int)).bind fun r2=>b r2.1
def rT(a:ByteArray):Option ByteArray:=
 UX a (fun a0=>some a0)
def Z4{R:Type}(a:ByteArray)(b:Int)(c:ByteArray->Int->Int->Option R)(d:ByteArray->Int->ByteArray->Int->Option R):Option R:=
 bif b<0 then c (bs []) 1 0 else bif 999<b then c (bs []) 1 0 else bif(a.size:Int)<zW zI (Int.tdiv (zW zI (b+1)) 2) then c (bs []) 2 (a.size:Int) else d a (zW zI (Int.tdiv (zW zI (b+1)) 2)) (bs []) (zW zI (zW zI (2*zW zI (Int.tdiv (zW zI (b+1)) 2))-b))
def Hl{R:Type}(a:ByteArray)(b:Int)(c:ByteArray)(d:Int)(e:ByteArray->Int->Int->ByteArray->Option R)(f:ByteArray->Int->ByteArray->Int->Option R)(g:ByteArray->Option R):Option R:=
 bif d<zW zI (2*b) then bif d=1 then bif c=bs [] then zd 0 a.size (bif !decide (zW zU (Int.tdiv (ze a ((0:Int)).toNat) 16)=0) then e (bs []) 4 0 c else zd (zW zI (Int.tdiv d 2)) a.size (bif Int.tmod d 2=1 then zd (zW zI (Int.tdiv d 2)) a.size (bif 9<Int.tmod (ze a (zW zI (Int.tdiv d (2:Int))).toNat) 16 then e (bs []) 3 (zW zI (Int.tdiv d 2)) c else bif c.size+(strOf ([(zW zU (48+Int.tmod (ze a (zW zI (Int.tdiv d (2:Int))).toNat) 16))]:List Int)).size<=9223372036854775807 then f a b (c++strOf ([(zW zU (48+Int.tmod (ze a (zW zI (Int.tdiv d (2:Int))).toNat) 16))]:List Int)) (zW zI (d+1)) else none) else bif 9<zW zU (Int.tdiv (ze a (zW zI (Int.tdiv d (2:Int))).toNat) 16) then e (bs []) 3 (zW zI (Int.tdiv d 2)) c else bif c.size+(strOf ([(zW zU (48+zW zU (Int.tdiv (ze a (zW zI (Int.tdiv d (2:Int))).toNat) 16)))]:List Int)).size<=9223372036854775807 then f a b (c++strOf ([(zW zU (48+zW zU (Int.tdiv (ze a (zW zI (Int.tdiv d (2:Int))).toNat) 16)))]:List Int)) (zW zI (d+1)) else none)) else zd (zW zI (Int.tdiv d 2)) a.size (bif Int.tmod d 2=1 then zd (zW zI (Int.tdiv d 2)) a.size (bif 9<Int.tmod (ze a (zW zI (Int.tdiv d (2:Int))).toNat) 16 then e (bs []) 3 (zW zI (Int.tdiv d 2)) c else bif c.size+(strOf ([(zW zU (48+Int.tmod (ze a (zW zI (Int.tdiv d (2:Int))).toNat) 16))]:List Int)).size<=9223372036854775807 then f a b (c++strOf ([(zW zU (48+Int.tmod (ze a (zW zI (Int.tdiv d (2:Int))).toNat) 16))]:List Int)) (zW zI (d+1)) else none) else bif 9<zW zU (Int.tdiv (ze a (zW zI (Int.tdiv d (2:Int))).toNat) 16) then e (bs []) 3 (zW zI (Int.tdiv d 2)) c else bif c.size+(strOf ([(zW zU (48+zW zU (Int.tdiv (ze a (zW zI (Int.tdiv d (2:Int))).toNat) 16)))]:List Int)).size<=9223372036854775807 then f a b (c++strOf ([(zW zU (48+zW zU (Int.tdiv (ze a (zW zI (Int.tdiv d (2:Int))).toNat) 16)))]:List Int)) (zW zI (d+1)) else none) else zd (zW zI (Int.tdiv d 2)) a.size (bif Int.tmod d 2=1 then zd (zW zI (Int.tdiv d 2)) a.size (bif 9<Int.tmod (ze a (zW zI (Int.tdiv d (2:Int))).toNat) 16 then e (bs []) 3 (zW zI (Int.tdiv d 2)) c else bif c.size+(strOf ([(zW zU (48+Int.tmod (ze a (zW zI (Int.tdiv d (2:Int))).toNat) 16))]:List Int)).size<=9223372036854775807 then f a b (c++strOf ([(zW zU (48+Int.tmod (ze a (zW zI (Int.tdiv d (2:Int))).toNat) 16))]:List Int)) (zW zI (d+1)) else none) else bif 9<zW zU (Int.tdiv (ze a (zW zI (Int.tdiv d (2:Int))).toNat) 16) then e (bs []) 3 (zW zI (Int.tdiv d 2)) c else bif c.size+(strOf ([(zW zU (48+zW zU (Int.tdiv (ze a (zW zI (Int.tdiv d (2:Int))).toNat) 16)))]:List Int)).size<=9223372036854775807 then f a b (c++strOf ([(zW zU (48+zW zU (Int.tdiv (ze a (zW zI (Int.tdiv d (2:Int))).toNat) 16)))]:List Int)) (zW zI (d+1)) else none) else g c
def FL{R:Type}(a:ByteArray)(b c:Int)(d:ByteArray)(e:ByteArray->Int->Int->Option R):Option R:=
 e a b c
def S0{R:Type}(a:ByteArray)(b:ByteArray->Int->Int->Option R):Option R:=
 b a 0 0
def nW:Nat->ByteArray->Int->ByteArray->Int->Option (Sum (ByteArray×Int×Int×ByteArray) ByteArray)
 |0,_,_,_,_=>none
 |k+1,v0,v1,v2,v3=>Hl v0 v1 v2 v3 (fun a0 a1 a2 a3=>some (.inl (a0,a1,a2,a3))) (fun a0 a1 a2 a3=>nW k a0 a1 a2 a3) (fun a0=>some (.inr a0))
def rl(a:ByteArray)(b:Int):Option iT:=
 Z4 a b (fun a0 a1 a2=>some (a0,a1,a2)) (fun a0 a1 a2 a3=>(nW ah a0 a1 a2 a3).bind fun e=>Sum.elim (fun(we:(ByteArray×Int×Int×ByteArray))=>FL we.1 we.2.1 we.2.2.1 we.2.2.2 (fun a0 a1 a2=>some (a0,a1,a2))) (fun(we:ByteArray)=>S0 we (fun a0 a1 a2=>some (a0,a1,a2))) e)
def IL{R:Type}(a:ByteArray)(b:ByteArray->Bool->Option R)(c:ByteArray->(List Int)->Int->Int->Option R):Option R:=
 bif 999<(a.size:Int) then b (bs []) false else(yb a).bind fun r1=>bif !r1 then b (bs []) false else bif Int.tmod (a.size:Int) 2=1 then bif(List.length ([]:List Int)+List.length ([(0:Int)]:List Int))*1<=140737488355328 then c a ([]++([0]:List Int)) (Int.tmod (a.size:Int) 2) 0 else none else c a [] (Int.tmod (a.size:Int) 2) 0
theorem adj{R S:Type}(F:R->Option S)(a)(b)(c):(IL a b c).bind F=IL a (fun a0 a1=>(b a0 a1).bind F) (fun a0 a1 a2 a3=>(c a0 a1 a2 a3).bind F):=by
 simp only[IL,ay]
def IM{R:Type}(a:ByteArray)(b:(List Int))(c d:Int)(e:ByteArray->(List Int)->Int->Int->Option R)(f:(List Int)->Option R):Option R:=
 bif d<(a.size:Int) then zd d a.size (bif c=0 then bif(List.length b+List.length ([(zW zU ((16:Int)*zW zU (ze a d.toNat-(48:Int))))]:List Int))*1<=140737488355328 then e a (b++([(zW zU (16*zW zU (ze a d.toNat-48)))]:List Int)) (zW zI (1-c)) (zW zI (d+1)) else none else zd (zW zI ((List.length b:Int)-1)) (List.length b) (e a (List.set b (zW zI ((List.length b:Int)-(1:Int))).toNat (zW zU (List.getD b (zW zI ((List.length b:Int)-(1:Int))).toNat 0+zW zU (ze a d.toNat-48)))) (zW zI (1-c)) (zW zI (d+1)))) else f b
def FM{R:Type}(a:(List Int))(b:ByteArray->Bool->Option R):Option R:=
 b (strOf a) true
def xO:Nat->ByteArray->(List Int)->Int->Int->Option (List Int)
 |0,_,_,_,_=>none
 |k+1,v0,v1,v2,v3=>IM v0 v1 v2 v3 (fun a0 a1 a2 a3=>xO k a0 a1 a2 a3) (fun a0=>some a0)
def yd(a:ByteArray):Option gF:=
 IL a (fun a0 a1=>some (a0,a1)) (fun a0 a1 a2 a3=>(xO ah a0 a1 a2 a3).bind fun e=>FM e (fun a0 a1=>some (a0,a1)))
def FA{R:Type}(a:ByteArray->Option R):Option R:=
 a (bs [48,49,50,51,52,53,54,55,56,57,65,66,67,68,69,70])
def Hy:Option ByteArray:=
 FA (fun a0=>some a0)
def FG{R:Type}(a:Int)(b:Int->Int->Option R):Option R:=
 b a 0
def FH{R:Type}(a b:Int)(c:Int->Option R)(d:Int->Int->Option R)(e:Option R):Option R:=
 bif b<16 then Hy.bind fun r1=>zd b r1.size (bif ze r1 b.toNat=a then c b else d a (zW zI (b+1))) else e
def FI{R:Type}(a:Int)(b:Int->Option R):Option R:=
 b a
def FJ{R:Type}(a:Int->Option R):Option R:=
 a (-1:Int)
def Z2:Nat->Int->Int->Option (Sum Int Unit)
 |0,_,_=>none
 |k+1,v0,v1=>FH v0 v1 (fun a0=>some (.inl a0)) (fun a0 a1=>Z2 k a0 a1) (some (.inr ()))
def Br(a:Int):Option Int:=
 FG a (fun a0 a1=>(Z2 ah a0 a1).bind fun e=>Sum.elim (fun(we:Int)=>FI we (fun a0=>some a0)) (fun(we:Unit)=>FJ (fun a0=>some a0)) e)
def ZX{R:Type}(a:ByteArray)(b:ByteArray->Int->Option R):Option R:=
 b a 0
def SX{R:Type}(a:ByteArray)(b:Int)(c:ByteArray->ByteArray->Int->Bool->Option R)(d:ByteArray->Int->Option R)(e:ByteArray->Option R):Option R:=
 bif b<(a.size:Int) then zd b a.size ((Br (ze a b.toNat)).bind fun r1=>bif r1<0 then c a (bs []) b false else d a (zW zI (b+1))) else e a
def FC{R:Type}(a b:ByteArray)(c:Int)(d:Bool)(e:ByteArray->Int->Bool->Option R):Option R:=
 e b c d
def ZY{R:Type}(a:ByteArray)(b:ByteArray->Int->Bool->Option R)(c:ByteArray->(List Int)->Int->Option R):Option R:=
 bif Int.tmod (a.size:Int) 2=1 then b (bs []) (a.size:Int) false else c a [] 0
def SY{R:Type}(a:ByteArray)(b:(List Int))(c:Int)(d:ByteArray->(List Int)->Int->Option R)(e:(List Int)->Option R):Option R:=
 bif c<(a.size:Int) then zd c a.size ((Br (ze a c.toNat)).bind fun r2=>zd (zW zI (c+1)) a.size ((Br (ze a (zW zI (c+(1:Int))).toNat)).bind fun r3=>bif(List.length b+List.length ([(zW zU (zW zI (zW zI ((16:Int)*r2)+r3)))]:List Int))*1<=140737488355328 then d a (b++([(zW zU (zW zI (zW zI (16*r2)+r3)))]:List Int)) (zW zI (c+2)) else none)) else e b
def FD{R:Type}(a:(List Int))(b:ByteArray->Int->Bool->Option R):Option R:=
 b (strOf a) 0 true
def Hi:Nat->ByteArray->Int->Option (Sum (ByteArray×ByteArray×Int×Bool) ByteArray)
 |0,_,_=>none
 |k+1,v0,v1=>SX v0 v1 (fun a0 a1 a2 a3=>some (.inl (a0,a1,a2,a3))) (fun a0 a1=>Hi k a0 a1) (fun a0=>some (.inr a0))
def Hj:Nat->ByteArray->(List Int)->Int->Option (List Int)
 |0,_,_,_=>none
 |k+1,v0,v1,v2=>SY v0 v1 v2 (fun a0 a1 a2=>Hj k a0 a1 a2) (fun a0=>some a0)
def yc(a:ByteArray):Option (ByteArray×Int×Bool):=
 ZX a (fun a0 a1=>(Hi ah a0 a1).bind fun e=>Sum.elim (fun(we:(ByteArray×ByteArray×Int×Bool))=>FC we.1 we.2.1 we.2.2.1 we.2.2.2 (fun a0 a1 a2=>some (a0,a1,a2))) (fun(we:ByteArray)=>ZY we (fun a0 a1 a2=>some (a0,a1,a2)) (fun a0 a1 a2=>(Hj ah a0 a1 a2).bind fun e=>FD e (fun a0 a1 a2=>some (a0,a1,a2)))) e)
def Z0{R:Type}(a:ByteArray)(b:ByteArray->(List Int)->Int->Option R):Option R:=
 b a [] 0
def SZ{R:Type}(a:ByteArray)(b:(List Int))(c:Int)(d:ByteArray->(List Int)->Int->Option R)(e:(List Int)->Option R):Option R:=
 bif c<(a.size:Int) then Hy.bind fun r1=>zd c a.size (zd (zW zU (Int.tdiv (ze a c.toNat) 16)) r1.size (Hy.bind fun r2=>zd c a.size (zd (Int.tmod (ze a c.toNat) 16) r2.size (bif(List.length b+List.length ([(ze r1 (zW zU (Int.tdiv (ze a c.toNat) (16:Int))).toNat),(ze r2 (Int.tmod (ze a c.toNat) (16:Int)).toNat)]:List Int))*1<=140737488355328 then d a (b++([(ze r1 (zW zU (Int.tdiv (ze a c.toNat) (16:Int))).toNat),(ze r2 (Int.tmod (ze a c.toNat) (16:Int)).toNat)]:List Int)) (zW zI (c+1)) else none)))) else e b
def FE{R:Type}(a:(List Int))(b:ByteArray->Option R):Option R:=
 b (strOf a)
def Hk:Nat->ByteArray->(List Int)->Int->Option (List Int)
 |0,_,_,_=>none
 |k+1,v0,v1,v2=>SZ v0 v1 v2 (fun a0 a1 a2=>Hk k a0 a1 a2) (fun a0=>some a0)
def vC(a:ByteArray):Option ByteArray:=
 Z0 a (fun a0 a1 a2=>(Hk ah a0 a1 a2).bind fun e=>FE e (fun a0=>some a0))
def IQ{R:Type}(a:Int)(b:ByteArray)(c d:Int)(e:(List Int)->Int->Option R)(f:Int->ByteArray->(List Int)->Int->Option R):Option R:=
 bif a=1 then bif zW zI ((b.size:Int)-c)<16 then e [] 2 else bif 0<=zW zI (c+16) then bif zW zI (c+16)<=(b.size:Int) then bif 0<=c then bif c<=(((zW zI (c+(16:Int))).toNat:Nat):Int) then bif a=1 then(yc (b.extract c.toNat (zW zI (c+(16:Int))).toNat)).bind fun r1=>bif !r1.2.2 then e [] 3 else f d r1.1 [] 0 else f d (b.extract c.toNat (zW zI (c+(16:Int))).toNat) [] 0 else none else none else none else none else bif zW zI ((b.size:Int)-c)<8 then e [] 2 else bif 0<=zW zI (c+8) then bif zW zI (c+8)<=(b.size:Int) then bif 0<=c then bif c<=(((zW zI (c+(8:Int))).toNat:Nat):Int) then bif a=1 then(yc (b.extract c.toNat (zW zI (c+(8:Int))).toNat)).bind fun r2=>bif !r2.2.2 then e [] 3 else f d r2.1 [] 0 else f d (b.extract c.toNat (zW zI (c+(8:Int))).toNat) [] 0 else none else none else none else none
theorem adl{R S:Type}(F:R->Option S)(a)(b)(c)(d)(e)(f):(IQ a b c d e f).bind F=IQ a b c d (fun a0 a1=>(e a0 a1).bind F) (fun a0 a1 a2 a3=>(f a0 a1 a2 a3).bind F):=by
 simp only[IQ,ay]
def zip{R:Type}(a:Int)(b:ByteArray)(c:(List Int))(d:Int)(e:Int->ByteArray->(List Int)->Int->Int->Int->Int->Option R)(f:(List Int)->Option R):Option R:=
 bif d<8 then zd d b.size (e a b c d (ze b d.toNat) 128 0) else f c
def zxc{R:Type}(a:(List Int))(b:(List Int)->Int->Option R):Option R:=
 b a 0
def S8{R:Type}(a:Int)(b:ByteArray)(c:(List Int))(d e f g:Int)(h:Int->ByteArray->(List Int)->Int->Int->Int->Int->Option R)(i:Int->ByteArray->(List Int)->Int->Option R):Option R:=
 bif g<8 then bif f<=e then bif(List.length c+List.length ([(zW zI (zW zI (a+zW zI ((8:Int)*d))+g))]:List Int))*8<=140737488355328 then h a b (c++([(zW zI (zW zI (a+zW zI (8*d))+g))]:List Int)) d (zW zU (e-f)) (zW zU (Int.tdiv f 2)) (zW zI (g+1)) else none else h a b c d e (zW zU (Int.tdiv f 2)) (zW zI (g+1)) else i a b c d
def zxd{R:Type}(a:Int)(b:ByteArray)(c:(List Int))(d:Int)(e:Int->ByteArray->(List Int)->Int->Option R):Option R:=
 e a b c (zW zI (d+1))
def Hq:Nat->Int->ByteArray->(List Int)->Int->Int->Int->Int->Option (Int×ByteArray×(List Int)×Int)
 |0,_,_,_,_,_,_,_=>none
 |k+1,v0,v1,v2,v3,v4,v5,v6=>S8 v0 v1 v2 v3 v4 v5 v6 (fun a0 a1 a2 a3 a4 a5 a6=>Hq k a0 a1 a2 a3 a4 a5 a6) (fun a0 a1 a2 a3=>some (a0,a1,a2,a3))
def A8:Nat->Int->ByteArray->(List Int)->Int->Option (List Int)
 |0,_,_,_,_=>none
 |k+1,v0,v1,v2,v3=>zip v0 v1 v2 v3 (fun a0 a1 a2 a3 a4 a5 a6=>(Hq ah a0 a1 a2 a3 a4 a5 a6).bind fun e=>zxd e.1 e.2.1 e.2.2.1 e.2.2.2 (fun a0 a1 a2 a3=>A8 k a0 a1 a2 a3)) (fun a0=>some a0)
def oL(a:Int)(b:ByteArray)(c d:Int):Option ((List Int)×Int):=
 IQ a b c d (fun a0 a1=>some (a0,a1)) (fun a0 a1 a2 a3=>(A8 ah a0 a1 a2 a3).bind fun e=>zxc e (fun a0 a1=>some (a0,a1)))
def zx4{R:Type}(a:Int)(b:ByteArray)(c:Int)(d:(List Int)->Int->Int->Option R):Option R:=
 bif !decide (a=1) then bif !decide (a=2) then d [] 0 1 else bif c<0 then d [] 0 1 else bif(b.size:Int)<c then d [] 0 1 else bif a=1 then(oL a b c (1:Int)).bind fun r1=>bif !decide (r1.2=0) then d [] 0 r1.2 else bif((List.length r1.1):Int)=0 then d r1.1 (zW zI (c+16)) 0 else zd 0 (List.length r1.1) (bif !decide (List.getD r1.1 ((0:Int)).toNat 0=1) then d r1.1 (zW zI (c+16)) 0 else(oL a b (zW zI (c+16)) (65:Int)).bind fun r2=>bif !decide (r2.2=0) then d [] 0 r2.2 else bif((List.length r2.1):Int)=0 then d [] 0 8 else bif 1<=(((List.length r1.1):Nat):Int) then bif(List.length ([]:List Int)+List.length (List.drop ((1:Int)).toNat (List.take (List.length r1.1) r1.1)))*8<=140737488355328 then bif(List.length (([]:List Int)++List.drop ((1:Int)).toNat (List.take (List.length r1.1) r1.1))+List.length r2.1)*8<=140737488355328 then d (([]++List.drop ((1:Int)).toNat (List.take (List.length r1.1) r1.1))++r2.1) (zW zI (c+zW zI (2*16))) 0 else none else none else none) else(oL a b c (1:Int)).bind fun r3=>bif !decide (r3.2=0) then d [] 0 r3.2 else bif((List.length r3.1):Int)=0 then d r3.1 (zW zI (c+8)) 0 else zd 0 (List.length r3.1) (bif !decide (List.getD r3.1 ((0:Int)).toNat 0=1) then d r3.1 (zW zI (c+8)) 0 else(oL a b (zW zI (c+8)) (65:Int)).bind fun r4=>bif !decide (r4.2=0) then d [] 0 r4.2 else bif((List.length r4.1):Int)=0 then d [] 0 8 else bif 1<=(((List.length r3.1):Nat):Int) then bif(List.length ([]:List Int)+List.length (List.drop ((1:Int)).toNat (List.take (List.length r3.1) r3.1)))*8<=140737488355328 then bif(List.length (([]:List Int)++List.drop ((1:Int)).toNat (List.take (List.length r3.1) r3.1))+List.length r4.1)*8<=140737488355328 then d (([]++List.drop ((1:Int)).toNat (List.take (List.length r3.1) r3.1))++r4.1) (zW zI (c+zW zI (2*8))) 0 else none else none else none) else bif c<0 then d [] 0 1 else bif(b.size:Int)<c then d [] 0 1 else bif a=1 then(oL a b c (1:Int)).bind fun r5=>bif !decide (r5.2=0) then d [] 0 r5.2 else bif((List.length r5.1):Int)=0 then d r5.1 (zW zI (c+16)) 0 else zd 0 (List.length r5.1) (bif !decide (List.getD r5.1 ((0:Int)).toNat 0=1) then d r5.1 (zW zI (c+16)) 0 else(oL a b (zW zI (c+16)) (65:Int)).bind fun r6=>bif !decide (r6.2=0) then d [] 0 r6.2 else bif((List.length r6.1):Int)=0 then d [] 0 8 else bif 1<=(((List.length r5.1):Nat):Int) then bif(List.length ([]:List Int)+List.length (List.drop ((1:Int)).toNat (List.take (List.length r5.1) r5.1)))*8<=140737488355328 then bif(List.length (([]:List Int)++List.drop ((1:Int)).toNat (List.take (List.length r5.1) r5.1))+List.length r6.1)*8<=140737488355328 then d (([]++List.drop ((1:Int)).toNat (List.take (List.length r5.1) r5.1))++r6.1) (zW zI (c+zW zI (2*16))) 0 else none else none else none) else(oL a b c (1:Int)).bind fun r7=>bif !decide (r7.2=0) then d [] 0 r7.2 else bif((List.length r7.1):Int)=0 then d r7.1 (zW zI (c+8)) 0 else zd 0 (List.length r7.1) (bif !decide (List.getD r7.1 ((0:Int)).toNat 0=1) then d r7.1 (zW zI (c+8)) 0 else(oL a b (zW zI (c+8)) (65:Int)).bind fun r8=>bif !decide (r8.2=0) then d [] 0 r8.2 else bif((List.length r8.1):Int)=0 then d [] 0 8 else bif 1<=(((List.length r7.1):Nat):Int) then bif(List.length ([]:List Int)+List.length (List.drop ((1:Int)).toNat (List.take (List.length r7.1) r7.1)))*8<=140737488355328 then bif(List.length (([]:List Int)++List.drop ((1:Int)).toNat (List.take (List.length r7.1) r7.1))+List.length r8.1)*8<=140737488355328 then d (([]++List.drop ((1:Int)).toNat (List.take (List.length r7.1) r7.1))++r8.1) (zW zI (c+zW zI (2*8))) 0 else none else none else none)
def vE(a:Int)(b:ByteArray)(c:Int):Option ((List Int)×Int×Int):=
 zx4 a b c (fun a0 a1 a2=>some (a0,a1,a2))
def zx8{R:Type}(a:(List Int))(b:Int)(c:(List Int)->Int->(List Int)->Int->Option R):Option R:=
 c a b [] 0
def S6{R:Type}(a:(List Int))(b:Int)(c:(List Int))(d:Int)(e:(List Int)->Int->(List Int)->Int->Int->Int->Option R)(f:(List Int)->Option R):Option R:=
 bif d<8 then e a b c d 0 0 else f c
def FY{R:Type}(a:(List Int))(b:ByteArray->Option R):Option R:=
 b (strOf a)
def S7{R:Type}(a:(List Int))(b:Int)(c:(List Int))(d e f:Int)(g:(List Int)->Int->(List Int)->Int->Int->Int->Option R)(h:(List Int)->Int->(List Int)->Int->Int->Option R):Option R:=
 bif f<8 then(uC a (zW zI (zW zI (b+zW zI (8*d))+f))).bind fun r1=>bif r1 then g a b c d (zW zU (zW zU (e*2)+1)) (zW zI (f+1)) else g a b c d (zW zU (e*2)) (zW zI (f+1)) else h a b c d e
def zx9{R:Type}(a:(List Int))(b:Int)(c:(List Int))(d e:Int)(f:(List Int)->Int->(List Int)->Int->Option R):Option R:=
 bif(List.length c+List.length ([e]:List Int))*1<=140737488355328 then f a b (c++([e]:List Int)) (zW zI (d+1)) else none
def Hp:Nat->(List Int)->Int->(List Int)->Int->Int->Int->Option ((List Int)×Int×(List Int)×Int×Int)
 |0,_,_,_,_,_,_=>none
 |k+1,v0,v1,v2,v3,v4,v5=>S7 v0 v1 v2 v3 v4 v5 (fun a0 a1 a2 a3 a4 a5=>Hp k a0 a1 a2 a3 a4 a5) (fun a0 a1 a2 a3 a4=>some (a0,a1,a2,a3,a4))
def Ho:Nat->(List Int)->Int->(List Int)->Int->Option (List Int)
 |0,_,_,_,_=>none
 |k+1,v0,v1,v2,v3=>S6 v0 v1 v2 v3 (fun a0 a1 a2 a3 a4 a5=>(Hp ah a0 a1 a2 a3 a4 a5).bind fun e=>zx9 e.1 e.2.1 e.2.2.1 e.2.2.2.1 e.2.2.2.2 (fun a0 a1 a2 a3=>Ho k a0 a1 a2 a3)) (fun a0=>some a0)
def uD(a:(List Int))(b:Int):Option ByteArray:=
 zx8 a b (fun a0 a1 a2 a3=>(Ho ah a0 a1 a2 a3).bind fun e=>FY e (fun a0=>some a0))
def IP{R:Type}(a:Int)(b:(List Int))(c:ByteArray->Bool->Option R)(d:Int->(List Int)->Bool->Int->Option R):Option R:=
 bif !decide (a=1) then bif !decide (a=2) then c (bs []) false else(uC b (1:Int)).bind fun r1=>bif r1 then c (bs []) false else d a b false 65 else(uC b (1:Int)).bind fun r2=>bif r2 then c (bs []) false else d a b false 65
theorem adk{R S:Type}(F:R->Option S)(a)(b)(c)(d):(IP a b c d).bind F=IP a b (fun a0 a1=>(c a0 a1).bind F) (fun a0 a1 a2 a3=>(d a0 a1 a2 a3).bind F):=by
 simp only[IP,ay]
def S4{R:Type}(a:Int)(b:(List Int))(c:Bool)(d:Int)(e:Int->(List Int)->Bool->Int->Option R)(f:Int->(List Int)->Bool->Option R):Option R:=
 bif d<=128 then bif c then e a b true (zW zI (d+1)) else(uC b d).bind fun r3=>e a b r3 (zW zI (d+1)) else f a b c
def S5{R:Type}(a:Int)(b:(List Int))(c:Bool)(d:ByteArray->Bool->Option R):Option R:=
 (uD b (1:Int)).bind fun r4=>bif c then bif(List.length ([(1:Int)]:List Int)+List.length b)*8<=140737488355328 then(uD (([1]:List Int)++b) (1:Int)).bind fun r5=>(uD b (65:Int)).bind fun r6=>bif r5.size+r6.size<=9223372036854775807 then bif a=1 then(vC (r5++r6)).bind fun r7=>d r7 true else d (r5++r6) true else none else none else bif a=1 then(vC r4).bind fun r8=>d r8 true else d r4 true
def A7:Nat->Int->(List Int)->Bool->Int->Option (Int×(List Int)×Bool)
 |0,_,_,_,_=>none
 |k+1,v0,v1,v2,v3=>S4 v0 v1 v2 v3 (fun a0 a1 a2 a3=>A7 k a0 a1 a2 a3) (fun a0 a1 a2=>some (a0,a1,a2))
def JP(a:Int)(b:(List Int)):Option gF:=
 IP a b (fun a0 a1=>some (a0,a1)) (fun a0 a1 a2 a3=>(A7 ah a0 a1 a2 a3).bind fun e=>S5 e.1 e.2.1 e.2.2 (fun a0 a1=>some (a0,a1)))
def S9{R:Type}(a:Int)(b:Int->Option R):Option R:=
 bif a=2 then b a else bif a=3 then b a else b 0
def yg(a:Int):Option Int:=
 S9 a (fun a0=>some a0)
def zxe{R:Type}(a b:Int)(c:ByteArray)(d:Int)(e:Int->Int->Int->Option R):Option R:=
 bif !decide (a=1) then bif !decide (a=2) then e 0 0 1 else(yg b).bind fun r1=>bif r1=0 then e 0 0 1 else bif d<0 then e 0 0 1 else bif(c.size:Int)<d then e 0 0 1 else bif a=2 then bif zW zI ((c.size:Int)-d)<zW zI (b-1) then e 0 0 2 else bif 0<=zW zI (d+zW zI (b-1)) then bif zW zI (d+zW zI (b-1))<=(c.size:Int) then bif 0<=d then bif d<=(((zW zI (d+zW zI (b-(1:Int)))).toNat:Nat):Int) then bif a=2 then(rl (c.extract d.toNat (zW zI (d+zW zI (b-(1:Int)))).toNat) b).bind fun r2=>bif !decide (r2.2.1=0) then e 0 0 3 else(oq r2.1).bind fun r3=>bif !r3.2 then e 0 0 3 else e r3.1 (zW zI (d+zW zI (b-1))) 0 else(oq (c.extract d.toNat (zW zI (d+zW zI (b-(1:Int)))).toNat)).bind fun r4=>bif !r4.2 then e 0 0 3 else e r4.1 (zW zI (d+zW zI (b-1))) 0 else none else none else none else none else bif zW zI ((c.size:Int)-d)<b then e 0 0 2 else bif 0<=zW zI (d+b) then bif zW zI (d+b)<=(c.size:Int) then bif 0<=d then bif d<=(((zW zI (d+b)).toNat:Nat):Int) then bif a=2 then(rl (c.extract d.toNat (zW zI (d+b)).toNat) b).bind fun r5=>bif !decide (r5.2.1=0) then e 0 0 3 else(oq r5.1).bind fun r6=>bif !r6.2 then e 0 0 3 else e r6.1 (zW zI (d+b)) 0 else(oq (c.extract d.toNat (zW zI (d+b)).toNat)).bind fun r7=>bif !r7.2 then e 0 0 3 else e r7.1 (zW zI (d+b)) 0 else none else none else none else none else(yg b).bind fun r8=>bif r8=0 then e 0 0 1 else bif d<0 then e 0 0 1 else bif(c.size:Int)<d then e 0 0 1 else bif a=2 then bif zW zI ((c.size:Int)-d)<zW zI (b-1) then e 0 0 2 else bif 0<=zW zI (d+zW zI (b-1)) then bif zW zI (d+zW zI (b-1))<=(c.size:Int) then bif 0<=d then bif d<=(((zW zI (d+zW zI (b-(1:Int)))).toNat:Nat):Int) then bif a=2 then(rl (c.extract d.toNat (zW zI (d+zW zI (b-(1:Int)))).toNat) b).bind fun r9=>bif !decide (r9.2.1=0) then e 0 0 3 else(oq r9.1).bind fun j6=>bif !j6.2 then e 0 0 3 else e j6.1 (zW zI (d+zW zI (b-1))) 0 else(oq (c.extract d.toNat (zW zI (d+zW zI (b-(1:Int)))).toNat)).bind fun jV=>bif !jV.2 then e 0 0 3 else e jV.1 (zW zI (d+zW zI (b-1))) 0 else none else none else none else none else bif zW zI ((c.size:Int)-d)<b then e 0 0 2 else bif 0<=zW zI (d+b) then bif zW zI (d+b)<=(c.size:Int) then bif 0<=d then bif d<=(((zW zI (d+b)).toNat:Nat):Int) then bif a=2 then(rl (c.extract d.toNat (zW zI (d+b)).toNat) b).bind fun lv=>bif !decide (lv.2.1=0) then e 0 0 3 else(oq lv.1).bind fun jW=>bif !jW.2 then e 0 0 3 else e jW.1 (zW zI (d+b)) 0 else(oq (c.extract d.toNat (zW zI (d+b)).toNat)).bind fun uM=>bif !uM.2 then e 0 0 3 else e uM.1 (zW zI (d+b)) 0 else none else none else none else none
def JQ(a b:Int)(c:ByteArray)(d:Int):Option iw:=
 zxe a b c d (fun a0 a1 a2=>some (a0,a1,a2))
def zxf{R:Type}(a b c:Int)(d:ByteArray->Int->Option R):Option R:=
 bif !decide (a=1) then bif !decide (a=2) then d (bs []) 1 else(yg b).bind fun r1=>bif r1=0 then d (bs []) 1 else(Bq c b).bind fun r2=>bif !r2.2 then d (bs []) 5 else bif a=2 then(yd r2.1).bind fun r3=>d r3.1 0 else d r2.1 0 else(yg b).bind fun r4=>bif r4=0 then d (bs []) 1 else(Bq c b).bind fun r5=>bif !r5.2 then d (bs []) 5 else bif a=2 then(yd r5.1).bind fun r6=>d r6.1 0 else d r5.1 0
def Bs(a b c:Int):Option HB:=
 zxf a b c (fun a0 a1=>some (a0,a1))
def I0{R:Type}(a:Int)(b:ap)(c:ByteArray)(d:Int)(e:Int->ByteArray->Int->Bool->ap->Option R):Option R:=
 bif !decide (a=1) then bif !decide (a=2) then e a c d true b else(uE b).bind fun r1=>bif !decide (r1=0) then e a c d true b else bif d<0 then e a c d true b else e a c d (decide ((c.size:Int)<d)) b else(uE b).bind fun r2=>bif !decide (r2=0) then e a c d true b else bif d<0 then e a c d true b else e a c d (decide ((c.size:Int)<d)) b
theorem adn{R S:Type}(F:R->Option S)(a)(b)(c)(d)(e):(I0 a b c d e).bind F=I0 a b c d (fun a0 a1 a2 a3 a4=>(e a0 a1 a2 a3 a4).bind F):=by
 simp only[I0,ay]
def zxl{R:Type}(a:Int)(b:ByteArray)(c:Int)(d:Bool)(e:ap)(f:ByteArray->Int->Int->Option R)(g:Int->ByteArray->Int->ap->Option R):Option R:=
 bif d then f (bs []) 0 1 else g a b c e
def zxm{R:Type}(a:Int)(b:ByteArray)(c:Int)(d:ap)(e:ByteArray->Int->Int->Option R)(f g:Int->ByteArray->Int->Int->ap->Option R):Option R:=
 bif !decide (d.2.2.1=1) then(JQ a d.2.2.1 b c).bind fun r3=>bif !decide (r3.2.2=0) then e (bs []) 0 r3.2.2 else f a b r3.1 r3.2.1 d else g a b c d.2.2.2.2.1 d
def I1{R:Type}(a:Int)(b:ByteArray)(c d:Int)(e:ap)(f:Int->ByteArray->Int->Int->Bool->ap->Option R):Option R:=
 bif c<e.2.2.2.1 then f a b c d true e else f a b c d (decide (e.2.2.2.2.1<c)) e
theorem ado{R S:Type}(F:R->Option S)(a)(b)(c)(d)(e)(f):(I1 a b c d e f).bind F=I1 a b c d e (fun a0 a1 a2 a3 a4 a5=>(f a0 a1 a2 a3 a4 a5).bind F):=by
 simp only[I1,ay]
def xP{R:Type}(a:Int)(b:ByteArray)(c d:Int)(e:ap)(f:Int->ByteArray->Int->Int->Int->Bool->ap->Option R):Option R:=
 bif a=2 then f a b c d d (decide (e.2.1=1)) e else f a b c d d false e
theorem adp{R S:Type}(F:R->Option S)(a)(b)(c)(d)(e)(f):(xP a b c d e f).bind F=xP a b c d e (fun a0 a1 a2 a3 a4 a5 a6=>(f a0 a1 a2 a3 a4 a5 a6).bind F):=by
 simp only[xP,ay]
def zxn{R:Type}(a:Int)(b:ByteArray)(c d:Int)(e:Bool)(f:ap)(g:ByteArray->Int->Int->Option R)(h:Int->ByteArray->Int->Int->ap->Option R):Option R:=
 bif e then g (bs []) 0 5 else h a b c d f
def xQ{R:Type}(a:Int)(b:ByteArray)(c d e:Int)(f:Bool)(g:ap)(h:Int->ByteArray->Int->Int->Int->ap->Option R):Option R:=
 bif f then h a b c d (zW zI (Int.tdiv (zW zI (d+1)) 2)) g else h a b c d e g
theorem adq{R S:Type}(F:R->Option S)(a)(b)(c)(d)(e)(f)(g)(h):(xQ a b c d e f g h).bind F=xQ a b c d e f g (fun a0 a1 a2 a3 a4 a5=>(h a0 a1 a2 a3 a4 a5).bind F):=by
 simp only[xQ,ay]
def zxo{R:Type}(a:Int)(b:ByteArray)(c d:Int)(e:ap)(f:Int->ByteArray->Int->Int->ap->Option R):Option R:=
 f a b d c e
def xR{R:Type}(a:Int)(b:ByteArray)(c d e:Int)(f:ap)(g:Int->ByteArray->Int->Int->Int->Bool->ap->Option R):Option R:=
 bif a=1 then g a b c d e (decide (5<=f.2.1)) f else g a b c d e false f
theorem adr{R S:Type}(F:R->Option S)(a)(b)(c)(d)(e)(f)(g):(xR a b c d e f g).bind F=xR a b c d e f (fun a0 a1 a2 a3 a4 a5 a6=>(g a0 a1 a2 a3 a4 a5 a6).bind F):=by
 simp only[xR,ay]
def xS{R:Type}(a:Int)(b:ByteArray)(c d e:Int)(f:Bool)(g:ap)(h:Int->ByteArray->Int->Int->Int->ap->Option R):Option R:=
 bif f then h a b c d (zW zI (d+d)) g else h a b c d e g
theorem ads{R S:Type}(F:R->Option S)(a)(b)(c)(d)(e)(f)(g)(h):(xS a b c d e f g h).bind F=xS a b c d e f g (fun a0 a1 a2 a3 a4 a5=>(h a0 a1 a2 a3 a4 a5).bind F):=by
 simp only[xS,ay]
def GZ{R:Type}(a:Int)(b:ByteArray)(c d e:Int)(f:ap)(g:ByteArray->Int->Int->Option R)(h:Int->ByteArray->Int->Int->Int->ap->Option R):Option R:=
 bif zW zI ((b.size:Int)-c)<e then g (bs []) 0 2 else h a b c d e f
def xI{R:Type}(a:Int)(b:ByteArray)(c d e:Int)(f:ap)(g:Int->Int->Int->Int->ByteArray->Bool->ap->Option R):Option R:=
 bif 0<=zW zI (c+e) then bif zW zI (c+e)<=(b.size:Int) then bif 0<=c then bif c<=(((zW zI (c+e)).toNat:Nat):Int) then bif a=2 then g a c d e (b.extract c.toNat (zW zI (c+e)).toNat) (decide (f.2.1=1)) f else g a c d e (b.extract c.toNat (zW zI (c+e)).toNat) false f else none else none else none else none
theorem acS{R S:Type}(F:R->Option S)(a)(b)(c)(d)(e)(f)(g):(xI a b c d e f g).bind F=xI a b c d e f (fun a0 a1 a2 a3 a4 a5 a6=>(g a0 a1 a2 a3 a4 a5 a6).bind F):=by
 simp only[xI,ay]
def G0{R:Type}(a b c d:Int)(e:ByteArray)(f:Bool)(g:ap)(h:ByteArray->Int->Int->Option R)(i j:Int->Int->Int->ByteArray->ap->Option R):Option R:=
 bif f then(rl e c).bind fun r4=>bif !decide (r4.2.1=0) then h (bs []) 0 r4.2.1 else i a b d r4.1 g else j a b d e g
def G1{R:Type}(a b c:Int)(d:ByteArray)(e:ap)(f:Int->Int->Int->ByteArray->ap->Option R):Option R:=
 f a b c d e
def xJ{R:Type}(a b c:Int)(d:ByteArray)(e:ap)(f:Int->Int->ByteArray->Bool->ap->Option R):Option R:=
 bif a=1 then f b c d (decide (5<=e.2.1)) e else f b c d false e
theorem acT{R S:Type}(F:R->Option S)(a)(b)(c)(d)(e)(f):(xJ a b c d e f).bind F=xJ a b c d e (fun a0 a1 a2 a3 a4=>(f a0 a1 a2 a3 a4).bind F):=by
 simp only[xJ,ay]
def G2{R:Type}(a b:Int)(c:ByteArray)(d:Bool)(e:ap)(f:ByteArray->Int->Int->Option R)(g h:Int->Int->ByteArray->ap->Option R):Option R:=
 bif d then(yc c).bind fun r5=>bif !r5.2.2 then f (bs []) 0 3 else g a b r5.1 e else h a b c e
def G3{R:Type}(a b:Int)(c:ByteArray)(d:ap)(e:Int->Int->ByteArray->ap->Option R):Option R:=
 e a b c d
def G4{R:Type}(a b:Int)(c:ByteArray)(d:ap)(e:ByteArray->Int->Int->Option R)(f:Int->Int->ByteArray->Option R):Option R:=
 (iQ d c).bind fun r6=>bif !decide (r6=0) then e (bs []) 0 r6 else f a b c
def G5{R:Type}(a b:Int)(c:ByteArray)(d:ByteArray->Int->Int->Option R):Option R:=
 d c (zW zI (a+b)) 0
def Ix(a b:Int)(c:ByteArray):Option iT:=
 G5 a b c (fun a0 a1 a2=>some (a0,a1,a2))
def GY(a b:Int)(c:ByteArray)(d:ap):Option iT:=
 G4 a b c d (fun a0 a1 a2=>some (a0,a1,a2)) (fun a0 a1 a2=>Ix a0 a1 a2)
def Iw(a b:Int)(c:ByteArray)(d:ap):Option iT:=
 G3 a b c d (fun a0 a1 a2 a3=>GY a0 a1 a2 a3)
def z93(a b:Int)(c:ByteArray)(d:Bool)(e:ap):Option iT:=
 G2 a b c d e (fun a0 a1 a2=>some (a0,a1,a2)) (fun a0 a1 a2 a3=>Iw a0 a1 a2 a3) (fun a0 a1 a2 a3=>GY a0 a1 a2 a3)
def GX(a b c:Int)(d:ByteArray)(e:ap):Option iT:=
 xJ a b c d e (fun a0 a1 a2 a3 a4=>z93 a0 a1 a2 a3 a4)
def Iv(a b c:Int)(d:ByteArray)(e:ap):Option iT:=
 G1 a b c d e (fun a0 a1 a2 a3 a4=>GX a0 a1 a2 a3 a4)
def z91(a b c d:Int)(e:ByteArray)(f:Bool)(g:ap):Option iT:=
 G0 a b c d e f g (fun a0 a1 a2=>some (a0,a1,a2)) (fun a0 a1 a2 a3 a4=>Iv a0 a1 a2 a3 a4) (fun a0 a1 a2 a3 a4=>GX a0 a1 a2 a3 a4)
def Iu(a:Int)(b:ByteArray)(c d e:Int)(f:ap):Option iT:=
 xI a b c d e f (fun a0 a1 a2 a3 a4 a5 a6=>z91 a0 a1 a2 a3 a4 a5 a6)
def IZ(a:Int)(b:ByteArray)(c d e:Int)(f:ap):Option iT:=
 GZ a b c d e f (fun a0 a1 a2=>some (a0,a1,a2)) (fun a0 a1 a2 a3 a4 a5=>Iu a0 a1 a2 a3 a4 a5)
def IY(a:Int)(b:ByteArray)(c d e:Int)(f:Bool)(g:ap):Option iT:=
 xS a b c d e f g (fun a0 a1 a2 a3 a4 a5=>IZ a0 a1 a2 a3 a4 a5)
def IX(a:Int)(b:ByteArray)(c d e:Int)(f:ap):Option iT:=
 xR a b c d e f (fun a0 a1 a2 a3 a4 a5 a6=>IY a0 a1 a2 a3 a4 a5 a6)
def IW(a:Int)(b:ByteArray)(c d e:Int)(f:Bool)(g:ap):Option iT:=
 xQ a b c d e f g (fun a0 a1 a2 a3 a4 a5=>IX a0 a1 a2 a3 a4 a5)
def ux(a:Int)(b:ByteArray)(c d:Int)(e:ap):Option iT:=
 xP a b c d e (fun a0 a1 a2 a3 a4 a5 a6=>IW a0 a1 a2 a3 a4 a5 a6)
def Ga(a:Int)(b:ByteArray)(c d:Int)(e:ap):Option iT:=
 zxo a b c d e (fun a0 a1 a2 a3 a4=>ux a0 a1 a2 a3 a4)
def F9(a:Int)(b:ByteArray)(c d:Int)(e:Bool)(f:ap):Option iT:=
 zxn a b c d e f (fun a0 a1 a2=>some (a0,a1,a2)) (fun a0 a1 a2 a3 a4=>Ga a0 a1 a2 a3 a4)
def F8(a:Int)(b:ByteArray)(c d:Int)(e:ap):Option iT:=
 I1 a b c d e (fun a0 a1 a2 a3 a4 a5=>F9 a0 a1 a2 a3 a4 a5)
def zxk(a:Int)(b:ByteArray)(c:Int)(d:ap):Option iT:=
 zxm a b c d (fun a0 a1 a2=>some (a0,a1,a2)) (fun a0 a1 a2 a3 a4=>F8 a0 a1 a2 a3 a4) (fun a0 a1 a2 a3 a4=>ux a0 a1 a2 a3 a4)
def F7(a:Int)(b:ByteArray)(c:Int)(d:Bool)(e:ap):Option iT:=
 zxl a b c d e (fun a0 a1 a2=>some (a0,a1,a2)) (fun a0 a1 a2 a3=>zxk a0 a1 a2 a3)
def HA(a:Int)(b:ap)(c:ByteArray)(d:Int):Option iT:=
 I0 a b c d (fun a0 a1 a2 a3 a4=>F7 a0 a1 a2 a3 a4)
def UL{R:Type}(a b:Int)(c:ByteArray)(d:ByteArray->Option R):Option R:=
 bif a=2 then bif b=1 then(yd c).bind fun r1=>d r1.1 else bif a=1 then bif 5<=b then(vC c).bind fun r2=>d r2 else d c else d c else bif a=1 then bif 5<=b then(vC c).bind fun r3=>d r3 else d c else d c
def j9(a b:Int)(c:ByteArray):Option ByteArray:=
 UL a b c (fun a0=>some a0)
def zxp{R:Type}(a:Int)(b:ap)(c:ByteArray)(d:ByteArray->Int->Option R):Option R:=
 bif !decide (a=1) then bif !decide (a=2) then d (bs []) 1 else(iQ b c).bind fun r1=>bif !decide (r1=0) then d (bs []) r1 else bif !decide (b.2.2.1=1) then(Bs a b.2.2.1 (c.size:Int)).bind fun r2=>(j9 a b.2.1 c).bind fun r3=>bif r2.1.size+r3.size<=9223372036854775807 then d (r2.1++r3) 0 else none else(j9 a b.2.1 c).bind fun r4=>bif(bs []).size+r4.size<=9223372036854775807 then d (bs []++r4) 0 else none else(iQ b c).bind fun r5=>bif !decide (r5=0) then d (bs []) r5 else bif !decide (b.2.2.1=1) then(Bs a b.2.2.1 (c.size:Int)).bind fun r6=>(j9 a b.2.1 c).bind fun r7=>bif r6.1.size+r7.size<=9223372036854775807 then d (r6.1++r7) 0 else none else(j9 a b.2.1 c).bind fun r8=>bif(bs []).size+r8.size<=9223372036854775807 then d (bs []++r8) 0 else none
def Bu(a:Int)(b:ap)(c:ByteArray):Option HB:=
 zxp a b c (fun a0 a1=>some (a0,a1))
def U2{R:Type}(a:af)(b:Int)(c:Int->Int->af->Option R):Option R:=
 c b 0 a
def U3{R:Type}(a b:Int)(c:af)(d:Int->Option R)(e:Int->Int->af->Option R)(f:Option R):Option R:=
 bif b<((List.length c.2.1):Int) then zd b (List.length c.2.1) (bif(List.getD c.2.1 b.toNat (0,bs [],())).1=a then d b else e a (zW zI (b+1)) c) else f
def zzt{R:Type}(a:Int)(b:Int->Option R):Option R:=
 b a
def zzu{R:Type}(a:Int->Option R):Option R:=
 a (-1:Int)
def Gw:Nat->Int->Int->af->Option (Sum Int Unit)
 |0,_,_,_=>none
 |k+1,v0,v1,v2=>U3 v0 v1 v2 (fun a0=>some (.inl a0)) (fun a0 a1 a2=>Gw k a0 a1 a2) (some (.inr ()))
def rV(a:af)(b:Int):Option Int:=
 U2 a b (fun a0 a1 a2=>(Gw ah a0 a1 a2).bind fun e=>Sum.elim (fun(we:Int)=>zzt we (fun a0=>some a0)) (fun(we:Unit)=>zzu (fun a0=>some a0)) e)
def Va{R:Type}(a:af)(b:Int)(c:Int->Int->af->af->af->Option R):Option R:=
 c b 0 a (bs [],[],()) (a.1,[],())
def RP{R:Type}(a b:Int)(c d e:af)(f:Int->Int->af->af->af->Option R)(g:af->af->Option R):Option R:=
 bif b<((List.length c.2.1):Int) then zd b (List.length c.2.1) (bif !decide ((List.getD c.2.1 b.toNat (0,bs [],())).1=a) then zd b (List.length c.2.1) (bif(List.length e.2.1+List.length ([(List.getD c.2.1 b.toNat ((0:Int),bs [],()))]:List cn))*24<=140737488355328 then f a (zW zI (b+1)) c d (e.1,e.2.1++([(List.getD c.2.1 b.toNat (0,bs [],()))]:List cn),()) else none) else f a (zW zI (b+1)) c d e) else g d e
def zzx{R:Type}(a b:af)(c:af->Option R):Option R:=
 c b
def xC:Nat->Int->Int->af->af->af->Option (af×af)
 |0,_,_,_,_,_=>none
 |k+1,v0,v1,v2,v3,v4=>RP v0 v1 v2 v3 v4 (fun a0 a1 a2 a3 a4=>xC k a0 a1 a2 a3 a4) (fun a0 a1=>some (a0,a1))
def rX(a:af)(b:Int):Option af:=
 Va a b (fun a0 a1 a2 a3 a4=>(xC ah a0 a1 a2 a3 a4).bind fun e=>zzx e.1 e.2 (fun a0=>some a0))
def U7{R:Type}(a:af)(b:Int)(c:ByteArray)(d:Int->ByteArray->Bool->Int->af->af->af->Option R):Option R:=
 (rX a b).bind fun r1=>d b c false 0 (bs [],[],()) (a.1,[],()) r1
def RO{R:Type}(a:Int)(b:ByteArray)(c:Bool)(d:Int)(e f g:af)(h:Int->ByteArray->Bool->Int->af->af->af->Option R)(i:Int->ByteArray->Bool->af->af->Option R):Option R:=
 bif d<((List.length g.2.1):Int) then bif !c then zd d (List.length g.2.1) (bif a<(List.getD g.2.1 d.toNat (0,bs [],())).1 then bif(List.length f.2.1+List.length ([(a,b,())]:List cn))*24<=140737488355328 then zd d (List.length g.2.1) (bif(List.length (f.2.1++([(a,b,())]:List cn))+List.length ([(List.getD g.2.1 d.toNat ((0:Int),bs [],()))]:List cn))*24<=140737488355328 then h a b true (zW zI (d+1)) e (f.1,(f.2.1++([(a,b,())]:List cn))++([(List.getD g.2.1 d.toNat (0,bs [],()))]:List cn),()) g else none) else none else zd d (List.length g.2.1) (bif(List.length f.2.1+List.length ([(List.getD g.2.1 d.toNat ((0:Int),bs [],()))]:List cn))*24<=140737488355328 then h a b c (zW zI (d+1)) e (f.1,f.2.1++([(List.getD g.2.1 d.toNat (0,bs [],()))]:List cn),()) g else none)) else zd d (List.length g.2.1) (bif(List.length f.2.1+List.length ([(List.getD g.2.1 d.toNat ((0:Int),bs [],()))]:List cn))*24<=140737488355328 then h a b c (zW zI (d+1)) e (f.1,f.2.1++([(List.getD g.2.1 d.toNat (0,bs [],()))]:List cn),()) g else none) else i a b c e f
def U8{R:Type}(a:Int)(b:ByteArray)(c:Bool)(d e:af)(f:af->Option R):Option R:=
 bif !c then bif(List.length e.2.1+List.length ([(a,b,())]:List cn))*24<=140737488355328 then f (e.1,e.2.1++([(a,b,())]:List cn),()) else none else f e
def xB:Nat->Int->ByteArray->Bool->Int->af->af->af->Option (Int×ByteArray×Bool×af×af)
 |0,_,_,_,_,_,_,_=>none
 |k+1,v0,v1,v2,v3,v4,v5,v6=>RO v0 v1 v2 v3 v4 v5 v6 (fun a0 a1 a2 a3 a4 a5 a6=>xB k a0 a1 a2 a3 a4 a5 a6) (fun a0 a1 a2 a3 a4=>some (a0,a1,a2,a3,a4))
def qd(a:af)(b:Int)(c:ByteArray):Option af:=
 U7 a b c (fun a0 a1 a2 a3 a4 a5 a6=>(xB ah a0 a1 a2 a3 a4 a5 a6).bind fun e=>U8 e.1 e.2.1 e.2.2.1 e.2.2.2.1 e.2.2.2.2 (fun a0=>some a0))
def U5{R:Type}(a:af)(b:(List Int)->Int->af->Option R):Option R:=
 b [] 0 a
def zzv{R:Type}(a:(List Int))(b:Int)(c:af)(d:(List Int)->Int->af->Option R)(e:(List Int)->Option R):Option R:=
 bif b<((List.length c.2.1):Int) then zd b (List.length c.2.1) (bif(List.length a+List.length ([(List.getD c.2.1 b.toNat ((0:Int),bs [],())).1]:List Int))*8<=140737488355328 then d (a++([(List.getD c.2.1 b.toNat (0,bs [],())).1]:List Int)) (zW zI (b+1)) c else none) else e a
def zzw{R:Type}(a:(List Int))(b:(List Int)->Option R):Option R:=
 b a
def RN:Nat->(List Int)->Int->af->Option (List Int)
 |0,_,_,_=>none
 |k+1,v0,v1,v2=>zzv v0 v1 v2 (fun a0 a1 a2=>RN k a0 a1 a2) (fun a0=>some a0)
def rW(a:af):Option (List Int):=
 U5 a (fun a0 a1 a2=>(RN ah a0 a1 a2).bind fun e=>zzw e (fun a0=>some a0))
def U0{R:Type}(a:ag)(b:af)(c:ax->Option R)(d:Int->Int->ag->af->ax->Option R):Option R:=
 (kU a).bind fun r1=>bif !r1 then c (1,(-1:Int),()) else(jj b.1).bind fun r2=>bif !r2 then c (7,0,()) else zd 0 b.1.size (bif !decide (zW zI (zW zI (ze b.1 ((0:Int)).toNat)-48)=a.2.1) then c (7,0,()) else d 0 0 a b (0,0,()))
def RM{R:Type}(a b:Int)(c:ag)(d:af)(e:ax)(f:ax->Option R)(g:Int->Int->ag->af->ax->Option R)(h:ax->Option R):Option R:=
 bif b<((List.length d.2.1):Int) then zd b (List.length d.2.1) (bif(List.getD d.2.1 b.toNat (0,bs [],())).1<=a then f (11,(List.getD d.2.1 b.toNat (0,bs [],())).1,()) else(iN c (List.getD d.2.1 b.toNat (0,bs [],())).1).bind fun r3=>bif r3<0 then f (9,(List.getD d.2.1 b.toNat (0,bs [],())).1,()) else zd r3 (List.length c.2.2.1) (zd b (List.length d.2.1) ((iQ (List.getD c.2.2.1 r3.toNat (0,0,0,0,0,())) (List.getD d.2.1 b.toNat (0,bs [],())).2.1).bind fun r4=>bif !decide (r4=0) then f (r4,(List.getD d.2.1 b.toNat (0,bs [],())).1,()) else g (List.getD d.2.1 b.toNat (0,bs [],())).1 (zW zI (b+1)) c d e))) else h e
def zzq{R:Type}(a:ax)(b:ax->Option R):Option R:=
 b a
def zzr{R:Type}(a:ax)(b:ax->Option R):Option R:=
 b (0,0,())
def va:Nat->Int->Int->ag->af->ax->Option (Sum ax ax)
 |0,_,_,_,_,_=>none
 |k+1,v0,v1,v2,v3,v4=>RM v0 v1 v2 v3 v4 (fun a0=>some (.inl a0)) (fun a0 a1 a2 a3 a4=>va k a0 a1 a2 a3 a4) (fun a0=>some (.inr a0))
def rU(a:ag)(b:af):Option ax:=
 U0 a b (fun a0=>some a0) (fun a0 a1 a2 a3 a4=>(va ah a0 a1 a2 a3 a4).bind fun e=>Sum.elim (fun(we:ax)=>zzq we (fun a0=>some a0)) (fun(we:ax)=>zzr we (fun a0=>some a0)) e)
def Vd{R:Type}(a:Int)(b:ByteArray)(c:ByteArray->Option R):Option R:=
 bif a=1 then c b else(yd b).bind fun r1=>c r1.1
def rY(a:Int)(b:ByteArray):Option ByteArray:=
 Vd a b (fun a0=>some a0)
def Vc{R:Type}(a:ag)(b:af)(c:ByteArray->Int->ag->af->Option R):Option R:=
 (rW b).bind fun r1=>(JP a.1 r1).bind fun r2=>(rY a.1 b.1).bind fun r3=>bif r3.size+r2.1.size<=9223372036854775807 then c (r3++r2.1) 0 a b else none
def RQ{R:Type}(a:ByteArray)(b:Int)(c:ag)(d:af)(e:ByteArray->Int->ag->af->Option R)(f:ByteArray->Option R):Option R:=
 bif b<((List.length d.2.1):Int) then zd b (List.length d.2.1) ((iN c (List.getD d.2.1 b.toNat (0,bs [],())).1).bind fun r4=>zd r4 (List.length c.2.2.1) (zd b (List.length d.2.1) ((Bu c.1 (List.getD c.2.2.1 r4.toNat (0,0,0,0,0,())) (List.getD d.2.1 b.toNat (0,bs [],())).2.1).bind fun r5=>bif a.size+r5.1.size<=9223372036854775807 then e (a++r5.1) (zW zI (b+1)) c d else none))) else f a
def zzy{R:Type}(a:ByteArray)(b:ByteArray->Option R):Option R:=
 b a
def xD:Nat->ByteArray->Int->ag->af->Option ByteArray
 |0,_,_,_,_=>none
 |k+1,v0,v1,v2,v3=>RQ v0 v1 v2 v3 (fun a0 a1 a2 a3=>xD k a0 a1 a2 a3) (fun a0=>some a0)
def m7(a:ag)(b:af):Option ByteArray:=
 Vc a b (fun a0 a1 a2 a3=>(xD ah a0 a1 a2 a3).bind fun e=>zzy e (fun a0=>some a0))
def Ia{R:Type}(a:ag)(b:ByteArray)(c:af->ax->Option R)(d:ByteArray->(List Int)->Int->Int->ag->af->ax->af->Option R):Option R:=
 (kU a).bind fun r1=>bif !r1 then c (bs [],[],()) (1,(-1:Int),()) else bif a.1=2 then bif(b.size:Int)<2 then c (bs [],[],()) (2,0,()) else bif 2<=(b.size:Int) then bif a.1=2 then(rl (b.extract 0 ((2:Int)).toNat) (4:Int)).bind fun r2=>(jj r2.1).bind fun r3=>bif !r3 then c (bs [],[],()) (7,0,()) else zd 0 r2.1.size (bif !decide (zW zI (zW zI (ze r2.1 ((0:Int)).toNat)-48)=a.2.1) then c (bs [],[],()) (7,0,()) else(vE a.1 b (2:Int)).bind fun r4=>bif !decide (r4.2.2=0) then c (r2.1,[],()) (r4.2.2,1,()) else d b r4.1 r4.2.1 0 a (bs [],[],()) (0,0,()) (r2.1,[],())) else(jj (b.extract 0 ((2:Int)).toNat)).bind fun r5=>bif !r5 then c (bs [],[],()) (7,0,()) else zd 0 (b.extract 0 ((2:Int)).toNat).size (bif !decide (zW zI (zW zI (ze (b.extract 0 ((2:Int)).toNat) ((0:Int)).toNat)-48)=a.2.1) then c (bs [],[],()) (7,0,()) else(vE a.1 b (2:Int)).bind fun r6=>bif !decide (r6.2.2=0) then c (b.extract 0 ((2:Int)).toNat,[],()) (r6.2.2,1,()) else d b r6.1 r6.2.1 0 a (bs [],[],()) (0,0,()) (b.extract 0 ((2:Int)).toNat,[],())) else none else bif(b.size:Int)<4 then c (bs [],[],()) (2,0,()) else bif 4<=(b.size:Int) then bif a.1=2 then(rl (b.extract 0 ((4:Int)).toNat) (4:Int)).bind fun r7=>(jj r7.1).bind fun r8=>bif !r8 then c (bs [],[],()) (7,0,()) else zd 0 r7.1.size (bif !decide (zW zI (zW zI (ze r7.1 ((0:Int)).toNat)-48)=a.2.1) then c (bs [],[],()) (7,0,()) else(vE a.1 b (4:Int)).bind fun r9=>bif !decide (r9.2.2=0) then c (r7.1,[],()) (r9.2.2,1,()) else d b r9.1 r9.2.1 0 a (bs [],[],()) (0,0,()) (r7.1,[],())) else(jj (b.extract 0 ((4:Int)).toNat)).bind fun j6=>bif !j6 then c (bs [],[],()) (7,0,()) else zd 0 (b.extract 0 ((4:Int)).toNat).size (bif !decide (zW zI (zW zI (ze (b.extract 0 ((4:Int)).toNat) ((0:Int)).toNat)-48)=a.2.1) then c (bs [],[],()) (7,0,()) else(vE a.1 b (4:Int)).bind fun jV=>bif !decide (jV.2.2=0) then c (b.extract 0 ((4:Int)).toNat,[],()) (jV.2.2,1,()) else d b jV.1 jV.2.1 0 a (bs [],[],()) (0,0,()) (b.extract 0 ((4:Int)).toNat,[],())) else none
theorem acL{R S:Type}(F:R->Option S)(a)(b)(c)(d):(Ia a b c d).bind F=Ia a b (fun a0 a1=>(c a0 a1).bind F) (fun a0 a1 a2 a3 a4 a5 a6 a7=>(d a0 a1 a2 a3 a4 a5 a6 a7).bind F):=by
 simp only[Ia,ay]
def RR{R:Type}(a:ByteArray)(b:(List Int))(c d:Int)(e:ag)(f:af)(g:ax)(h:af)(i:ByteArray->Int->af->ax->af->Option R)(j:ByteArray->(List Int)->Int->Int->ag->af->ax->af->Option R)(l:ByteArray->Int->af->ax->af->Option R):Option R:=
 bif d<((List.length b):Int) then zd d (List.length b) ((iN e (List.getD b d.toNat (0:Int))).bind fun lv=>bif lv<0 then zd d (List.length b) (i a c h (9,List.getD b d.toNat 0,()) h) else zd lv (List.length e.2.2.1) ((HA e.1 (List.getD e.2.2.1 lv.toNat (0,0,0,0,0,())) a c).bind fun jW=>bif !decide (jW.2.2=0) then zd d (List.length b) (i a c h (jW.2.2,List.getD b d.toNat 0,()) h) else zd d (List.length b) (bif(List.length h.2.1+List.length ([(List.getD b d.toNat (0:Int),jW.1,())]:List cn))*24<=140737488355328 then j a b jW.2.1 (zW zI (d+1)) e f g (h.1,h.2.1++([(List.getD b d.toNat 0,jW.1,())]:List cn),()) else none))) else l a c f g h
def Cu{R:Type}(a:ByteArray)(b:Int)(c:af)(d:ax)(e:af)(f:af->ax->Option R):Option R:=
 f c d
def Cv{R:Type}(a:ByteArray)(b:Int)(c:af)(d:ax)(e:af)(f:af->ax->Option R):Option R:=
 bif b<(a.size:Int) then f e (12,129,()) else f e (0,0,())
def AW:Nat->ByteArray->(List Int)->Int->Int->ag->af->ax->af->Option (Sum iS iS)
 |0,_,_,_,_,_,_,_,_=>none
 |k+1,v0,v1,v2,v3,v4,v5,v6,v7=>RR v0 v1 v2 v3 v4 v5 v6 v7 (fun a0 a1 a2 a3 a4=>some (.inl (a0,a1,a2,a3,a4))) (fun a0 a1 a2 a3 a4 a5 a6 a7=>AW k a0 a1 a2 a3 a4 a5 a6 a7) (fun a0 a1 a2 a3 a4=>some (.inr (a0,a1,a2,a3,a4)))
def qg(a:ag)(b:ByteArray):Option (af×ax):=
 Ia a b (fun a0 a1=>some (a0,a1)) (fun a0 a1 a2 a3 a4 a5 a6 a7=>(AW ah a0 a1 a2 a3 a4 a5 a6 a7).bind fun e=>Sum.elim (fun(we:iS)=>Cu we.1 we.2.1 we.2.2.1 we.2.2.2.1 we.2.2.2.2 (fun a0 a1=>some (a0,a1))) (fun(we:iS)=>Cv we.1 we.2.1 we.2.2.1 we.2.2.2.1 we.2.2.2.2 (fun a0 a1=>some (a0,a1))) e)
def z105{R:Type}(a:aK)(b:aK->aK->Int->Option R):Option R:=
 b a [] 0
def Cz{R:Type}(a b:aK)(c:Int)(d:aK->aK->Int->Option R)(e:aK->Option R):Option R:=
 bif c<((List.length a):Int) then zd c (List.length a) (zd c (List.length a) (bif(List.length b+List.length ([((List.getD a c.toNat (bs [],bs [],())).2.1,(List.getD a c.toNat (bs [],bs [],())).1,())]:List ea))*32<=140737488355328 then d a (b++([((List.getD a c.toNat (bs [],bs [],())).2.1,(List.getD a c.toNat (bs [],bs [],())).1,())]:List ea)) (zW zI (c+1)) else none)) else e b
def z107{R:Type}(a:aK)(b:aK->Option R):Option R:=
 b a
def Vk:Nat->aK->aK->Int->Option aK
 |0,_,_,_=>none
 |k+1,v0,v1,v2=>Cz v0 v1 v2 (fun a0 a1 a2=>Vk k a0 a1 a2) (fun a0=>some a0)
def sc(a:aK):Option aK:=
 z105 a (fun a0 a1 a2=>(Vk ah a0 a1 a2).bind fun e=>z107 e (fun a0=>some a0))
def Vi{R:Type}(a:aK)(b:aK->Option R):Option R:=
 bif(List.length ([]:List ea)+List.length a)*32<=140737488355328 then b ([]++a) else none
def qh(a:aK):Option aK:=
 Vi a (fun a0=>some a0)
def Vm{R:Type}(a:aK)(b:Int)(c:ByteArray)(d:aK->Int->ByteArray->Int->Option R):Option R:=
 d a b c 0
def RT{R:Type}(a:aK)(b:Int)(c:ByteArray)(d:Int)(e:Int->Option R)(f:aK->Int->ByteArray->Int->Option R)(g:Option R):Option R:=
 bif d<b then zd d (List.length a) (bif(List.getD a d.toNat (bs [],bs [],())).1=c then e d else f a b c (zW zI (d+1))) else g
def CB{R:Type}(a:Int)(b:Int->Option R):Option R:=
 b a
def CC{R:Type}(a:Int->Option R):Option R:=
 a (-1:Int)
def Gy:Nat->aK->Int->ByteArray->Int->Option (Sum Int Unit)
 |0,_,_,_,_=>none
 |k+1,v0,v1,v2,v3=>RT v0 v1 v2 v3 (fun a0=>some (.inl a0)) (fun a0 a1 a2 a3=>Gy k a0 a1 a2 a3) (some (.inr ()))
def qi(a:aK)(b:Int)(c:ByteArray):Option Int:=
 Vm a b c (fun a0 a1 a2 a3=>(Gy ah a0 a1 a2 a3).bind fun e=>Sum.elim (fun(we:Int)=>CB we (fun a0=>some a0)) (fun(we:Unit)=>CC (fun a0=>some a0)) e)
def Vf{R:Type}(a:aK)(b:ByteArray)(c:ByteArray->Bool->Option R):Option R:=
 (qi a ((List.length a):Int) b).bind fun r1=>bif r1<0 then c (bs []) false else zd r1 (List.length a) (c (List.getD a r1.toNat (bs [],bs [],())).2.1 true)
def m8(a:aK)(b:ByteArray):Option gF:=
 Vf a b (fun a0 a1=>some (a0,a1))
def Vh{R:Type}(a:aK)(b:Int->Int->Option R)(c:aK->Int->Option R):Option R:=
 bif 256<((List.length a):Int) then b 5 256 else c a 0
def RS{R:Type}(a:aK)(b:Int)(c:Int->Int->Option R)(d:aK->Int->Option R)(e:Option R):Option R:=
 bif b<((List.length a):Int) then zd b (List.length a) ((qi a b (List.getD a b.toNat (bs [],bs [],())).1).bind fun r1=>bif 0<=r1 then c 10 b else d a (zW zI (b+1))) else e
def Cx{R:Type}(a b:Int)(c:Int->Int->Option R):Option R:=
 c a b
def Cy{R:Type}(a:Int->Int->Option R):Option R:=
 a 0 0
def Gx:Nat->aK->Int->Option (Sum (Int×Int) Unit)
 |0,_,_=>none
 |k+1,v0,v1=>RS v0 v1 (fun a0 a1=>some (.inl (a0,a1))) (fun a0 a1=>Gx k a0 a1) (some (.inr ()))
def rZ(a:aK):Option (Int×Int):=
 Vh a (fun a0 a1=>some (a0,a1)) (fun a0 a1=>(Gx ah a0 a1).bind fun e=>Sum.elim (fun(we:(Int×Int))=>Cx we.1 we.2 (fun a0 a1=>some (a0,a1))) (fun(we:Unit)=>Cy (fun a0 a1=>some (a0,a1))) e)
def Vu{R:Type}(a:aB)(b:Bool->Option R)(c:Int->aB->Option R):Option R:=
 bif 1200<(a.2.2.2.1.size:Int) then b true else bif 300<((List.length a.2.2.2.2.1):Int) then b true else c 0 a
def RW{R:Type}(a:Int)(b:aB)(c:Bool->Option R)(d:Int->aB->Option R)(e:Option R):Option R:=
 bif a<((List.length b.2.2.2.2.1):Int) then zd a (List.length b.2.2.2.2.1) (bif 1200<(((List.getD b.2.2.2.2.1 a.toNat (bs [],bs [],())).1).size:Int) then c true else zd a (List.length b.2.2.2.2.1) (bif 1200<(((List.getD b.2.2.2.2.1 a.toNat (bs [],bs [],())).2.1).size:Int) then c true else d (zW zI (a+1)) b)) else e
def CO{R:Type}(a:Bool)(b:Bool->Option R):Option R:=
 b a
def CP{R:Type}(a:Bool->Option R):Option R:=
 a false
def xE:Nat->Int->aB->Option (Sum Bool Unit)
 |0,_,_=>none
 |k+1,v0,v1=>RW v0 v1 (fun a0=>some (.inl a0)) (fun a0 a1=>xE k a0 a1) (some (.inr ()))
def na(a:aB):Option Bool:=
 Vu a (fun a0=>some a0) (fun a0 a1=>(xE ah a0 a1).bind fun e=>Sum.elim (fun(we:Bool)=>CO we (fun a0=>some a0)) (fun(we:Unit)=>CP (fun a0=>some a0)) e)
def Vs{R:Type}(a:aB)(b:aB->Option R):Option R:=
 (qh a.2.2.2.2.1).bind fun r1=>b (a.1,a.2.1,a.2.2.1,a.2.2.2.1,r1,())
def m9(a:aB):Option aB:=
 Vs a (fun a0=>some a0)
def Ib{R:Type}(a:aB)(b c:ag)(d:Bool->aB->ag->ag->Option R):Option R:=
 bif a.1<1 then d true a b c else d (decide (5<a.1)) a b c
theorem acM{R S:Type}(F:R->Option S)(a)(b)(c)(d):(Ib a b c d).bind F=Ib a b c (fun a0 a1 a2 a3=>(d a0 a1 a2 a3).bind F):=by
 simp only[Ib,ay]
def CI{R:Type}(a:Bool)(b:aB)(c d:ag)(e:Int->Option R)(f:aB->ag->ag->Option R):Option R:=
 bif a then e 1 else f b c d
def Ic{R:Type}(a:aB)(b c:ag)(d:Int->Int->Bool->aB->ag->ag->Option R):Option R:=
 (iN b a.2.1).bind fun r1=>(iN c a.2.2.1).bind fun r2=>bif a.1=3 then bif !decide (a.2.1=0) then d r1 r2 true a b c else bif !decide (a.1=3) then d r1 r2 (decide (r1<0)) a b c else d r1 r2 false a b c else bif !decide (a.1=3) then d r1 r2 (decide (r1<0)) a b c else d r1 r2 false a b c
theorem acN{R S:Type}(F:R->Option S)(a)(b)(c)(d):(Ic a b c d).bind F=Ic a b c (fun a0 a1 a2 a3 a4 a5=>(d a0 a1 a2 a3 a4 a5).bind F):=by
 simp only[Ic,ay]
def CJ{R:Type}(a b:Int)(c:Bool)(d:aB)(e f:ag)(g:Int->Option R)(h:Int->Int->aB->ag->ag->Option R):Option R:=
 bif c then g 9 else h a b d e f
def Ie{R:Type}(a b:Int)(c:aB)(d e:ag)(f:Int->Int->Bool->aB->ag->ag->Option R):Option R:=
 bif c.1=2 then bif !decide (c.2.2.1=0) then f a b true c d e else bif !decide (c.1=2) then f a b (decide (b<0)) c d e else f a b false c d e else bif !decide (c.1=2) then f a b (decide (b<0)) c d e else f a b false c d e
theorem acO{R S:Type}(F:R->Option S)(a)(b)(c)(d)(e)(f):(Ie a b c d e f).bind F=Ie a b c d e (fun a0 a1 a2 a3 a4 a5=>(f a0 a1 a2 a3 a4 a5).bind F):=by
 simp only[Ie,ay]
def CK{R:Type}(a b:Int)(c:Bool)(d:aB)(e f:ag)(g:Int->Option R)(h:Int->Int->aB->ag->ag->Option R):Option R:=
 bif c then g 9 else h a b d e f
def Ig{R:Type}(a b:Int)(c:aB)(d e:ag)(f:Int->Int->Bool->aB->ag->ag->Option R):Option R:=
 bif !decide (c.2.2.2.1=bs []) then bif !decide (c.1=3) then f a b true c d e else bif 0<((List.length c.2.2.2.2.1):Int) then f a b (!decide (c.1=5)) c d e else f a b false c d e else bif 0<((List.length c.2.2.2.2.1):Int) then f a b (!decide (c.1=5)) c d e else f a b false c d e
theorem acP{R S:Type}(F:R->Option S)(a)(b)(c)(d)(e)(f):(Ig a b c d e f).bind F=Ig a b c d e (fun a0 a1 a2 a3 a4 a5=>(f a0 a1 a2 a3 a4 a5).bind F):=by
 simp only[Ig,ay]
def CL{R:Type}(a b:Int)(c:Bool)(d:aB)(e f:ag)(g:Int->Option R)(h:Int->Int->aB->ag->ag->Option R):Option R:=
 bif c then g 3 else h a b d e f
def Ih{R:Type}(a b:Int)(c:aB)(d e:ag)(f:Int->Option R)(g:Option R)(h:Bool->Option R)(i:Int->Int->Bool->aB->ag->ag->Option R):Option R:=
 bif c.1=1 then zd b (List.length e.2.2.1) (zd a (List.length d.2.2.1) ((uF (List.getD e.2.2.1 b.toNat (0,0,0,0,0,())) (List.getD d.2.2.1 a.toNat (0,0,0,0,0,()))).bind fun r3=>bif !r3 then f 6 else g)) else bif c.1=3 then zd b (List.length e.2.2.1) ((iQ (List.getD e.2.2.1 b.toNat (0,0,0,0,0,())) c.2.2.2.1).bind fun r4=>f r4) else bif c.1=4 then zd a (List.length d.2.2.1) (zd b (List.length e.2.2.1) (bif !decide ((List.getD d.2.2.1 a.toNat (0,0,0,0,0,())).2.1=1) then h true else bif !decide ((List.getD d.2.2.1 a.toNat (0,0,0,0,0,())).2.2.1=1) then h true else bif !decide ((List.getD e.2.2.1 b.toNat (0,0,0,0,0,())).2.1=1) then h true else h (!decide ((List.getD e.2.2.1 b.toNat (0,0,0,0,0,())).2.2.1=1)))) else bif c.1=5 then(rZ c.2.2.2.2.1).bind fun r5=>bif !decide (r5.1=0) then i a b true c d e else i a b (decide (((List.length c.2.2.2.2.1):Int)=0)) c d e else g
theorem acQ{R S:Type}(F:R->Option S)(a)(b)(c)(d)(e)(f)(g)(h)(i):(Ih a b c d e f g h i).bind F=Ih a b c d e (fun a0=>(f a0).bind F) ((g).bind F) (fun a0=>(h a0).bind F) (fun a0 a1 a2 a3 a4 a5=>(i a0 a1 a2 a3 a4 a5).bind F):=by
 simp only[Ih,ay]
def CM{R:Type}(a:Int->Option R):Option R:=
 a 0
def zrq{R:Type}(a:Bool)(b:Int->Option R)(c:Option R):Option R:=
 bif a then b 6 else c
def zrr{R:Type}(a b:Int)(c:Bool)(d:aB)(e f:ag)(g:Int->Option R)(h:Int->Int->aB->ag->ag->Option R):Option R:=
 bif c then g 15 else h a b d e f
def Uw{R:Type}(a b:Int)(c:aB)(d e:ag)(f:Int->Int->Int->aB->ag->ag->Option R):Option R:=
 f a b 0 c d e
def RC{R:Type}(a b c:Int)(d:aB)(e f:ag)(g:Int->Int->Int->aB->ag->ag->Option R)(h:Option R):Option R:=
 bif c<((List.length d.2.2.2.2.1):Int) then g a b c d e f else h
def Ux{R:Type}(a b c:Int)(d:aB)(e f:ag)(g:Int->Option R)(h:Int->Int->Int->aB->ag->ag->Option R):Option R:=
 zd a (List.length e.2.2.1) (zd c (List.length d.2.2.2.2.1) ((iQ (List.getD e.2.2.1 a.toNat (0,0,0,0,0,())) (List.getD d.2.2.2.2.1 c.toNat (bs [],bs [],())).1).bind fun r6=>bif !decide (r6=0) then g r6 else h a b c d e f))
def zrs{R:Type}(a:Option R):Option R:=
 a
def zrt{R:Type}(a:Int)(b:Int->Option R):Option R:=
 b a
def Uy{R:Type}(a b c:Int)(d:aB)(e f:ag)(g:Int->Option R)(h:Int->Int->Int->aB->ag->ag->Option R):Option R:=
 zd b (List.length f.2.2.1) (zd c (List.length d.2.2.2.2.1) ((iQ (List.getD f.2.2.1 b.toNat (0,0,0,0,0,())) (List.getD d.2.2.2.2.1 c.toNat (bs [],bs [],())).2.1).bind fun r7=>bif !decide (r7=0) then g r7 else h a b c d e f))
def Uz{R:Type}(a b c:Int)(d:aB)(e f:ag)(g:Int->Int->Int->aB->ag->ag->Option R):Option R:=
 g a b (zW zI (c+1)) d e f
def vd:Nat->Int->Int->Int->aB->ag->ag->Option (Sum Unit Int)
 |0,_,_,_,_,_,_=>none
 |k+1,v0,v1,v2,v3,v4,v5=>RC v0 v1 v2 v3 v4 v5 (fun a0 a1 a2 a3 a4 a5=>Ux a0 a1 a2 a3 a4 a5 (fun a0=>some (.inr a0)) (fun a0 a1 a2 a3 a4 a5=>Uy a0 a1 a2 a3 a4 a5 (fun a0=>some (.inr a0)) (fun a0 a1 a2 a3 a4 a5=>Uz a0 a1 a2 a3 a4 a5 (fun a0 a1 a2 a3 a4 a5=>vd k a0 a1 a2 a3 a4 a5)))) (some (.inl ()))
def Vr:Option Int:=
 CM (fun a0=>some a0)
def CH(a:Bool):Option Int:=
 zrq a (fun a0=>some a0) Vr
def RB(a b:Int)(c:aB)(d f:ag):Option Int:=
 Uw a b c d f (fun a0 a1 a2 a3 a4 a5=>(vd ah a0 a1 a2 a3 a4 a5).bind fun e=>Sum.elim (fun(we:Unit)=>zrs Vr) (fun(we:Int)=>zrt we (fun a0=>some a0)) e)
def zrp(a b:Int)(c:Bool)(d:aB)(e f:ag):Option Int:=
 zrr a b c d e f (fun a0=>some a0) (fun a0 a1 a2 a3 a4=>RB a0 a1 a2 a3 a4)
def RV(a b:Int)(c:aB)(d e:ag):Option Int:=
 Ih a b c d e (fun a0=>some a0) Vr (fun a0=>CH a0) (fun a0 a1 a2 a3 a4 a5=>zrp a0 a1 a2 a3 a4 a5)
def CG(a b:Int)(c:Bool)(d:aB)(e f:ag):Option Int:=
 CL a b c d e f (fun a0=>some a0) (fun a0 a1 a2 a3 a4=>RV a0 a1 a2 a3 a4)
def Gz(a b:Int)(c:aB)(d e:ag):Option Int:=
 Ig a b c d e (fun a0 a1 a2 a3 a4 a5=>CG a0 a1 a2 a3 a4 a5)
def CF(a b:Int)(c:Bool)(d:aB)(e f:ag):Option Int:=
 CK a b c d e f (fun a0=>some a0) (fun a0 a1 a2 a3 a4=>Gz a0 a1 a2 a3 a4)
def RU(a b:Int)(c:aB)(d e:ag):Option Int:=
 Ie a b c d e (fun a0 a1 a2 a3 a4 a5=>CF a0 a1 a2 a3 a4 a5)
def AX(a b:Int)(c:Bool)(d:aB)(e f:ag):Option Int:=
 CJ a b c d e f (fun a0=>some a0) (fun a0 a1 a2 a3 a4=>RU a0 a1 a2 a3 a4)
def Vq(a:aB)(b c:ag):Option Int:=
 Ic a b c (fun a0 a1 a2 a3 a4 a5=>AX a0 a1 a2 a3 a4 a5)
def CE(a:Bool)(b:aB)(c d:ag):Option Int:=
 CI a b c d (fun a0=>some a0) (fun a0 a1 a2=>Vq a0 a1 a2)
def sd(a:aB)(b c:ag):Option Int:=
 Ib a b c (fun a0 a1 a2 a3=>CE a0 a1 a2 a3)
def Vn{R:Type}(a:aB)(b:ag)(c:ByteArray)(d:cn->Int->Option R):Option R:=
 bif a.1=1 then d (a.2.2.1,c,()) 0 else bif a.1=2 then d (0,bs [],()) 0 else bif a.1=3 then d (a.2.2.1,a.2.2.2.1,()) 0 else bif a.1=4 then(iN b a.2.2.1).bind fun r1=>bif r1<0 then d (0,bs [],()) 9 else zd r1 (List.length b.2.2.1) ((JJ c (List.getD b.2.2.1 r1.toNat (0,0,0,0,0,())).2.2.2.1).bind fun r2=>bif !r2.2 then d (0,bs [],()) 5 else d (a.2.2.1,r2.1,()) 0) else bif a.1=5 then(m8 a.2.2.2.2.1 c).bind fun r3=>bif !r3.2 then d (0,bs [],()) 15 else d (a.2.2.1,r3.1,()) 0 else d (0,bs [],()) 1
def lQ(a:aB)(b:ag)(c:ByteArray):Option (cn×Int):=
 Vn a b c (fun a0 a1=>some (a0,a1))
def VF{R:Type}(a:al)(b:Bool->Option R)(c:Int->al->Option R):Option R:=
 bif 300<((List.length a.1):Int) then b true else bif 300<((List.length a.2.1):Int) then b true else c 0 a
def R4{R:Type}(a:Int)(b:al)(c:Bool->al->Option R)(d:Int->al->Option R)(e:al->Option R):Option R:=
 bif a<((List.length b.1):Int) then zd a (List.length b.1) (bif 100<(((List.getD b.1 a.toNat (bs [],bs [],())).1).size:Int) then c true b else zd a (List.length b.1) (bif 100<(((List.getD b.1 a.toNat (bs [],bs [],())).2.1).size:Int) then c true b else d (zW zI (a+1)) b)) else e b
def C2{R:Type}(a:Bool)(b:al)(c:Bool->Option R):Option R:=
 c a
def VG{R:Type}(a:al)(b:Int->al->Option R):Option R:=
 b 0 a
def C3{R:Type}(a:Int)(b:al)(c:Bool->Option R)(d:Int->al->Option R)(e:Option R):Option R:=
 bif a<((List.length b.2.1):Int) then zd a (List.length b.2.1) ((na (List.getD b.2.1 a.toNat (0,0,0,bs [],[],()))).bind fun r1=>bif r1 then c true else d (zW zI (a+1)) b) else e
def C4{R:Type}(a:Bool)(b:Bool->Option R):Option R:=
 b a
def C5{R:Type}(a:Bool->Option R):Option R:=
 a false
def xF:Nat->Int->al->Option (Sum (Bool×al) al)
 |0,_,_=>none
 |k+1,v0,v1=>R4 v0 v1 (fun a0 a1=>some (.inl (a0,a1))) (fun a0 a1=>xF k a0 a1) (fun a0=>some (.inr a0))
def R3:Nat->Int->al->Option (Sum Bool Unit)
 |0,_,_=>none
 |k+1,v0,v1=>C3 v0 v1 (fun a0=>some (.inl a0)) (fun a0 a1=>R3 k a0 a1) (some (.inr ()))
def kV(a:al):Option Bool:=
 VF a (fun a0=>some a0) (fun a0 a1=>(xF ah a0 a1).bind fun e=>Sum.elim (fun(we:(Bool×al))=>C2 we.1 we.2 (fun a0=>some a0)) (fun(we:al)=>VG we (fun a0 a1=>(R3 ah a0 a1).bind fun e=>Sum.elim (fun(we:Bool)=>C4 we (fun a0=>some a0)) (fun(we:Unit)=>C5 (fun a0=>some a0)) e)) e)
def VC{R:Type}(a:al)(b:Int->al->al->al->Option R):Option R:=
 (qh a.1).bind fun r1=>b 0 a ([],[],()) (r1,[],())
def CX{R:Type}(a:Int)(b c d:al)(e:Int->al->al->al->Option R)(f:al->al->Option R):Option R:=
 bif a<((List.length b.2.1):Int) then zd a (List.length b.2.1) ((m9 (List.getD b.2.1 a.toNat (0,0,0,bs [],[],()))).bind fun r2=>bif(List.length d.2.1+List.length ([r2]:List aB))*64<=140737488355328 then e (zW zI (a+1)) b c (d.1,d.2.1++([r2]:List aB),()) else none) else f c d
def CY{R:Type}(a b:al)(c:al->Option R):Option R:=
 c b
def R0:Nat->Int->al->al->al->Option (al×al)
 |0,_,_,_,_=>none
 |k+1,v0,v1,v2,v3=>CX v0 v1 v2 v3 (fun a0 a1 a2 a3=>R0 k a0 a1 a2 a3) (fun a0 a1=>some (a0,a1))
def se(a:al):Option al:=
 VC a (fun a0 a1 a2 a3=>(R0 ah a0 a1 a2 a3).bind fun e=>CY e.1 e.2 (fun a0=>some a0))
def VT{R:Type}(a:ByteArray)(b:Int)(c:Bool->Option R):Option R:=
 (jj a).bind fun r1=>bif r1 then zd 0 a.size (c (decide (zW zI (zW zI (ze a ((0:Int)).toNat)-48)=b))) else c false
def ql(a:ByteArray)(b:Int):Option Bool:=
 VT a b (fun a0=>some a0)
def VS{R:Type}(a b:aB)(c:Bool->Option R):Option R:=
 bif !decide (a.2.1=0) then bif a.2.1=b.2.1 then c true else bif !decide (a.2.2.1=0) then c (decide (a.2.2.1=b.2.2.1)) else c false else bif !decide (a.2.2.1=0) then c (decide (a.2.2.1=b.2.2.1)) else c false
def sg(a b:aB):Option Bool:=
 VS a b (fun a0=>some a0)
def Vy{R:Type}(a:al)(b c:ag)(d:Int->Int->Int->Option R)(e:Int->al->ag->ag->Option R):Option R:=
 (kU b).bind fun r1=>bif !r1 then d 1 1 0 else(kU c).bind fun r2=>bif !r2 then d 1 1 1 else bif 256<((List.length a.1):Int) then d 5 2 256 else e 0 a b c
def RX{R:Type}(a:Int)(b:al)(c d:ag)(e:Int->Int->Int->al->ag->ag->Option R)(f:Int->al->ag->ag->Option R)(g:al->ag->ag->Option R):Option R:=
 bif a<((List.length b.1):Int) then zd a (List.length b.1) ((ql (List.getD b.1 a.toNat (bs [],bs [],())).1 c.2.1).bind fun r3=>bif !r3 then e 7 2 a b c d else(ql (List.getD b.1 a.toNat (bs [],bs [],())).2.1 d.2.1).bind fun r4=>bif !r4 then e 7 2 a b c d else(m6 (List.getD b.1 a.toNat (bs [],bs [],())).1).bind fun r5=>(m6 (List.getD b.1 a.toNat (bs [],bs [],())).2.1).bind fun r6=>bif !(r5==r6) then e 7 2 a b c d else bif 0<=a then bif a<=(((List.length b.1):Nat):Int) then(m8 (List.drop 0 (List.take a.toNat b.1)) (List.getD b.1 a.toNat (bs [],bs [],())).1).bind fun r7=>bif r7.2 then e 10 2 a b c d else f (zW zI (a+1)) b c d else none else none) else g b c d
def CT{R:Type}(a b c:Int)(d:al)(e f:ag)(g:Int->Int->Int->Option R):Option R:=
 g a b c
def Vz{R:Type}(a:al)(b c:ag)(d:Int->Int->Int->Option R)(e:Int->al->ag->ag->Option R):Option R:=
 bif 256<((List.length a.2.1):Int) then d 5 3 256 else e 0 a b c
def RY{R:Type}(a:Int)(b:al)(c d:ag)(e:Int->Int->Int->Option R)(f:Int->Int->al->ag->ag->Option R)(g:Option R):Option R:=
 bif a<((List.length b.2.1):Int) then zd a (List.length b.2.1) ((sd (List.getD b.2.1 a.toNat (0,0,0,bs [],[],())) c d).bind fun r8=>bif !decide (r8=0) then e r8 3 a else f a 0 b c d) else g
def CU{R:Type}(a b c:Int)(d:Int->Int->Int->Option R):Option R:=
 d a b c
def CV{R:Type}(a:Int->Int->Int->Option R):Option R:=
 a 0 0 0
def RZ{R:Type}(a b:Int)(c:al)(d e:ag)(f:Int->Int->Int->Int->al->ag->ag->Option R)(g:Int->Int->al->ag->ag->Option R)(h:Int->al->ag->ag->Option R):Option R:=
 bif b<a then zd b (List.length c.2.1) (zd a (List.length c.2.1) ((sg (List.getD c.2.1 b.toNat (0,0,0,bs [],[],())) (List.getD c.2.1 a.toNat (0,0,0,bs [],[],()))).bind fun r9=>bif r9 then f 10 3 a a c d e else g a (zW zI (b+1)) c d e)) else h a c d e
def CW{R:Type}(a b c d:Int)(e:al)(f g:ag)(h:Int->Int->Int->Option R):Option R:=
 h a b c
def VA{R:Type}(a:Int)(b:al)(c d:ag)(e:Int->al->ag->ag->Option R):Option R:=
 e (zW zI (a+1)) b c d
def GC:Nat->Int->al->ag->ag->Option (Sum lg lf)
 |0,_,_,_,_=>none
 |k+1,v0,v1,v2,v3=>RX v0 v1 v2 v3 (fun a0 a1 a2 a3 a4 a5=>some (.inl (a0,a1,a2,a3,a4,a5))) (fun a0 a1 a2 a3=>GC k a0 a1 a2 a3) (fun a0 a1 a2=>some (.inr (a0,a1,a2)))
def GF:Nat->Int->Int->al->ag->ag->Option (Sum (Int×Int×Int×Int×al×ag×ag) (Int×al×ag×ag))
 |0,_,_,_,_,_=>none
 |k+1,v0,v1,v2,v3,v4=>RZ v0 v1 v2 v3 v4 (fun a0 a1 a2 a3 a4 a5 a6=>some (.inl (a0,a1,a2,a3,a4,a5,a6))) (fun a0 a1 a2 a3 a4=>GF k a0 a1 a2 a3 a4) (fun a0 a1 a2 a3=>some (.inr (a0,a1,a2,a3)))
def GD:Nat->Int->al->ag->ag->Option (Sum iw Unit)
 |0,_,_,_,_=>none
 |k+1,v0,v1,v2,v3=>RY v0 v1 v2 v3 (fun a0 a1 a2=>some (.inl (a0,a1,a2))) (fun a0 a1 a2 a3 a4=>(GF ah a0 a1 a2 a3 a4).bind fun e=>Sum.elim (fun(we:(Int×Int×Int×Int×al×ag×ag))=>CW we.1 we.2.1 we.2.2.1 we.2.2.2.1 we.2.2.2.2.1 we.2.2.2.2.2.1 we.2.2.2.2.2.2 (fun a0 a1 a2=>some (.inl (a0,a1,a2)))) (fun(we:(Int×al×ag×ag))=>VA we.1 we.2.1 we.2.2.1 we.2.2.2 (fun a0 a1 a2 a3=>GD k a0 a1 a2 a3)) e) (some (.inr ()))
def qj(a:al)(b c:ag):Option iw:=
 Vy a b c (fun a0 a1 a2=>some (a0,a1,a2)) (fun a0 a1 a2 a3=>(GC ah a0 a1 a2 a3).bind fun e=>Sum.elim (fun(we:lg)=>CT we.1 we.2.1 we.2.2.1 we.2.2.2.1 we.2.2.2.2.1 we.2.2.2.2.2 (fun a0 a1 a2=>some (a0,a1,a2))) (fun(we:lf)=>Vz we.1 we.2.1 we.2.2 (fun a0 a1 a2=>some (a0,a1,a2)) (fun a0 a1 a2 a3=>(GD ah a0 a1 a2 a3).bind fun e=>Sum.elim (fun(we:iw)=>CU we.1 we.2.1 we.2.2 (fun a0 a1 a2=>some (a0,a1,a2))) (fun(we:Unit)=>CV (fun a0 a1 a2=>some (a0,a1,a2))) e)) e)
def VH{R:Type}(a:al)(b c:ag)(d:Bool->Option R):Option R:=
 (qj a b c).bind fun r1=>d (decide (r1.1=0))
def sf(a:al)(b c:ag):Option Bool:=
 VH a b c (fun a0=>some a0)
def VR{R:Type}(a:al)(b:Int)(c:Int->Int->al->Option R):Option R:=
 c b 0 a
def C8{R:Type}(a b:Int)(c:al)(d:Int->Option R)(e:Int->Int->al->Option R)(f:Option R):Option R:=
 bif b<((List.length c.2.1):Int) then zd b (List.length c.2.1) (bif(List.getD c.2.1 b.toNat (0,0,0,bs [],[],())).2.1=a then d b else e a (zW zI (b+1)) c) else f
def z119{R:Type}(a:Int)(b:Int->Option R):Option R:=
 b a
def C9{R:Type}(a:Int->Option R):Option R:=
 a (-1:Int)
def R9:Nat->Int->Int->al->Option (Sum Int Unit)
 |0,_,_,_=>none
 |k+1,v0,v1,v2=>C8 v0 v1 v2 (fun a0=>some (.inl a0)) (fun a0 a1 a2=>R9 k a0 a1 a2) (some (.inr ()))
def lR(a:al)(b:Int):Option Int:=
 VR a b (fun a0 a1 a2=>(R9 ah a0 a1 a2).bind fun e=>Sum.elim (fun(we:Int)=>z119 we (fun a0=>some a0)) (fun(we:Unit)=>C9 (fun a0=>some a0)) e)
def VM{R:Type}(a:al)(b c:ag)(d:af)(e:af->ax->Option R)(f:ByteArray->ak->Int->al->ag->af->af->ax->af->Option R):Option R:=
 (sf a b c).bind fun r1=>bif !r1 then e (bs [],[],()) (1,(-1:Int),()) else(rU b d).bind fun r2=>bif !decide (r2.1=0) then e (bs [],[],()) r2 else(m8 a.1 d.1).bind fun r3=>bif !r3.2 then e (bs [],[],()) (7,0,()) else f r3.1 [] 0 a c d (bs [],[],()) (0,0,()) (bs [],[],())
def R5{R:Type}(a:ByteArray)(b:ak)(c:Int)(d:al)(e:ag)(f g:af)(h:ax)(i:af)(j:ByteArray->ak->al->af->ax->Option R)(l:ByteArray->ak->Int->al->ag->af->af->ax->af->Option R)(m:ByteArray->ak->al->af->ax->Option R):Option R:=
 bif c<((List.length f.2.1):Int) then zd c (List.length f.2.1) ((lR d (List.getD f.2.1 c.toNat (0,bs [],())).1).bind fun r4=>bif r4<0 then zd c (List.length f.2.1) (j a b d i (9,(List.getD f.2.1 c.toNat (0,bs [],())).1,())) else zd r4 (List.length d.2.1) (zd c (List.length f.2.1) ((lQ (List.getD d.2.1 r4.toNat (0,0,0,bs [],[],())) e (List.getD f.2.1 c.toNat (0,bs [],())).2.1).bind fun r5=>bif !decide (r5.2=0) then zd c (List.length f.2.1) (j a b d i (r5.2,(List.getD f.2.1 c.toNat (0,bs [],())).1,())) else bif(List.length b+List.length ([r5.1]:List cn))*24<=140737488355328 then l a (b++([r5.1]:List cn)) (zW zI (c+1)) d e f g h i else none))) else m a b d g h
def C7{R:Type}(a:ByteArray)(b:ak)(c:al)(d:af)(e:ax)(f:af->ax->Option R):Option R:=
 f d e
def VN{R:Type}(a:ByteArray)(b:ak)(c:al)(d:af)(e:ax)(f:ByteArray->ak->Int->al->af->ax->Option R):Option R:=
 f a b 0 c d e
def R6{R:Type}(a:ByteArray)(b:ak)(c:Int)(d:al)(e:af)(f:ax)(g:ByteArray->ak->Int->al->af->ax->Option R)(h:ByteArray->ak->af->ax->Option R):Option R:=
 bif c<((List.length d.2.1):Int) then zd c (List.length d.2.1) (bif(List.getD d.2.1 c.toNat (0,0,0,bs [],[],())).1=3 then zd c (List.length d.2.1) (zd c (List.length d.2.1) (bif(List.length b+List.length ([((List.getD d.2.1 c.toNat ((0:Int),(0:Int),(0:Int),bs [],([]:List ea),())).2.2.1,(List.getD d.2.1 c.toNat ((0:Int),(0:Int),(0:Int),bs [],([]:List ea),())).2.2.2.1,())]:List cn))*24<=140737488355328 then g a (b++([((List.getD d.2.1 c.toNat (0,0,0,bs [],[],())).2.2.1,(List.getD d.2.1 c.toNat (0,0,0,bs [],[],())).2.2.2.1,())]:List cn)) (zW zI (c+1)) d e f else none)) else g a b (zW zI (c+1)) d e f) else h a b e f
def VO{R:Type}(a:ByteArray)(b:ak)(c:af)(d:ax)(e:ak->Int->af->ax->af->Option R):Option R:=
 e b 2 c d (a,[],())
def R7{R:Type}(a:ak)(b:Int)(c:af)(d:ax)(e:af)(f:ak->Int->Int->af->ax->af->Option R)(g:af->ax->af->Option R):Option R:=
 bif b<=128 then f a b 0 c d e else g c d e
def z116{R:Type}(a:af)(b:ax)(c:af)(d:af->ax->Option R):Option R:=
 d c (0,0,())
def R8{R:Type}(a:ak)(b c:Int)(d:af)(e:ax)(f:af)(g:ak->Int->Int->af->ax->af->Option R)(h:ak->Int->af->ax->af->Option R):Option R:=
 bif c<((List.length a):Int) then zd c (List.length a) (bif(List.getD a c.toNat (0,bs [],())).1=b then zd c (List.length a) (bif(List.length f.2.1+List.length ([(List.getD a c.toNat ((0:Int),bs [],()))]:List cn))*24<=140737488355328 then g a b (zW zI (c+1)) d e (f.1,f.2.1++([(List.getD a c.toNat (0,bs [],()))]:List cn),()) else none) else g a b (zW zI (c+1)) d e f) else h a b d e f
def VP{R:Type}(a:ak)(b:Int)(c:af)(d:ax)(e:af)(f:ak->Int->af->ax->af->Option R):Option R:=
 f a (zW zI (b+1)) c d e
def xG:Nat->ByteArray->ak->Int->al->ag->af->af->ax->af->Option (Sum qC qC)
 |0,_,_,_,_,_,_,_,_,_=>none
 |k+1,v0,v1,v2,v3,v4,v5,v6,v7,v8=>R5 v0 v1 v2 v3 v4 v5 v6 v7 v8 (fun a0 a1 a2 a3 a4=>some (.inl (a0,a1,a2,a3,a4))) (fun a0 a1 a2 a3 a4 a5 a6 a7 a8=>xG k a0 a1 a2 a3 a4 a5 a6 a7 a8) (fun a0 a1 a2 a3 a4=>some (.inr (a0,a1,a2,a3,a4)))
def xH:Nat->ByteArray->ak->Int->al->af->ax->Option (ByteArray×ak×af×ax)
 |0,_,_,_,_,_,_=>none
 |k+1,v0,v1,v2,v3,v4,v5=>R6 v0 v1 v2 v3 v4 v5 (fun a0 a1 a2 a3 a4 a5=>xH k a0 a1 a2 a3 a4 a5) (fun a0 a1 a2 a3=>some (a0,a1,a2,a3))
def ve:Nat->ak->Int->Int->af->ax->af->Option (ak×Int×af×ax×af)
 |0,_,_,_,_,_,_=>none
 |k+1,v0,v1,v2,v3,v4,v5=>R8 v0 v1 v2 v3 v4 v5 (fun a0 a1 a2 a3 a4 a5=>ve k a0 a1 a2 a3 a4 a5) (fun a0 a1 a2 a3 a4=>some (a0,a1,a2,a3,a4))
def GG:Nat->ak->Int->af->ax->af->Option nu
 |0,_,_,_,_,_=>none
 |k+1,v0,v1,v2,v3,v4=>R7 v0 v1 v2 v3 v4 (fun a0 a1 a2 a3 a4 a5=>(ve ah a0 a1 a2 a3 a4 a5).bind fun e=>VP e.1 e.2.1 e.2.2.1 e.2.2.2.1 e.2.2.2.2 (fun a0 a1 a2 a3 a4=>GG k a0 a1 a2 a3 a4)) (fun a0 a1 a2=>some (a0,a1,a2))
def qk(a:al)(b c:ag)(d:af):Option (af×ax):=
 VM a b c d (fun a0 a1=>some (a0,a1)) (fun a0 a1 a2 a3 a4 a5 a6 a7 a8=>(xG ah a0 a1 a2 a3 a4 a5 a6 a7 a8).bind fun e=>Sum.elim (fun(we:qC)=>C7 we.1 we.2.1 we.2.2.1 we.2.2.2.1 we.2.2.2.2 (fun a0 a1=>some (a0,a1))) (fun(we:qC)=>VN we.1 we.2.1 we.2.2.1 we.2.2.2.1 we.2.2.2.2 (fun a0 a1 a2 a3 a4 a5=>(xH ah a0 a1 a2 a3 a4 a5).bind fun e=>VO e.1 e.2.1 e.2.2.1 e.2.2.2 (fun a0 a1 a2 a3 a4=>(GG ah a0 a1 a2 a3 a4).bind fun e=>z116 e.1 e.2.1 e.2.2 (fun a0 a1=>some (a0,a1))))) e)
def V5{R:Type}(a:au)(b:Bool->Option R)(c:Int->au->Option R):Option R:=
 bif 200<((List.length a.1.2.2.1):Int) then b true else bif 300<((List.length a.2.2.1):Int) then b true else bif 300<((List.length a.2.2.2.1):Int) then b true else c 0 a
def Df{R:Type}(a:Int)(b:au)(c:Bool->Option R)(d:Int->au->Option R)(e:Option R):Option R:=
 bif a<((List.length b.2.2.2.1):Int) then zd a (List.length b.2.2.2.1) (bif 1200<(((List.getD b.2.2.2.1 a.toNat (0,bs [],())).2.1).size:Int) then c true else d (zW zI (a+1)) b) else e
def Dg{R:Type}(a:Bool)(b:Bool->Option R):Option R:=
 b a
def Dh{R:Type}(a:Bool->Option R):Option R:=
 a false
def Sd:Nat->Int->au->Option (Sum Bool Unit)
 |0,_,_=>none
 |k+1,v0,v1=>Df v0 v1 (fun a0=>some (.inl a0)) (fun a0 a1=>Sd k a0 a1) (some (.inr ()))
def lS(a:au):Option Bool:=
 V5 a (fun a0=>some a0) (fun a0 a1=>(Sd ah a0 a1).bind fun e=>Sum.elim (fun(we:Bool)=>Dg we (fun a0=>some a0)) (fun(we:Unit)=>Dh (fun a0=>some a0)) e)
def V3{R:Type}(a:au)(b:au->Option R):Option R:=
 (rS a.1).bind fun r1=>bif(List.length ([]:List Int)+List.length a.2.2.1)*8<=140737488355328 then bif(List.length ([]:List cn)+List.length a.2.2.2.1)*24<=140737488355328 then b (r1,a.2.1,[]++a.2.2.1,[]++a.2.2.2.1,()) else none else none
def sm(a:au):Option au:=
 V3 a (fun a0=>some a0)
def Se{R:Type}(a:ak)(b c:Int)(d:ak->Int->Int->Int->Option R):Option R:=
 d a b c 0
def GK{R:Type}(a:ak)(b c d:Int)(e:Int->Option R)(f:ak->Int->Int->Int->Option R)(g:Option R):Option R:=
 bif d<b then zd d (List.length a) (bif(List.getD a d.toNat (0,bs [],())).1=c then e d else f a b c (zW zI (d+1))) else g
def Dj{R:Type}(a:Int)(b:Int->Option R):Option R:=
 b a
def Dk{R:Type}(a:Int->Option R):Option R:=
 a (-1:Int)
def vf:Nat->ak->Int->Int->Int->Option (Sum Int Unit)
 |0,_,_,_,_=>none
 |k+1,v0,v1,v2,v3=>GK v0 v1 v2 v3 (fun a0=>some (.inl a0)) (fun a0 a1 a2 a3=>vf k a0 a1 a2 a3) (some (.inr ()))
def ka(a:ak)(b c:Int):Option Int:=
 Se a b c (fun a0 a1 a2 a3=>(vf ah a0 a1 a2 a3).bind fun e=>Sum.elim (fun(we:Int)=>Dj we (fun a0=>some a0)) (fun(we:Unit)=>Dk (fun a0=>some a0)) e)
def VZ{R:Type}(a:au)(b:Int->Int->Int->Option R)(c:Int->Int->au->Option R):Option R:=
 (kU a.1).bind fun r1=>bif !r1 then b 1 1 0 else(iN a.1 (39:Int)).bind fun r2=>bif r2<0 then b 9 1 1 else c r2 0 a
def Sb{R:Type}(a b:Int)(c:au)(d:Int->Int->Int->Int->au->Option R)(e:Int->Int->au->Option R)(f:Int->au->Option R):Option R:=
 bif b<((List.length c.2.2.1):Int) then zd b (List.length c.2.2.1) ((iN c.1 (List.getD c.2.2.1 b.toNat (0:Int))).bind fun r3=>bif r3<0 then d 9 2 b a c else zd b (List.length c.2.2.1) (bif List.getD c.2.2.1 b.toNat 0=39 then d 1 2 b a c else bif 0<=b then bif b<=(((List.length c.2.2.1):Nat):Int) then zd b (List.length c.2.2.1) ((uC (List.drop 0 (List.take b.toNat c.2.2.1)) (List.getD c.2.2.1 b.toNat (0:Int))).bind fun r4=>bif r4 then d 10 2 b a c else e a (zW zI (b+1)) c) else none else none)) else f a c
def Dc{R:Type}(a b c d:Int)(e:au)(f:Int->Int->Int->Option R):Option R:=
 f a b c
def V0{R:Type}(a:Int)(b:au)(c:Int->Int->au->Option R):Option R:=
 c a 0 b
def Sc{R:Type}(a b:Int)(c:au)(d:Int->Int->Int->au->Option R)(e:Int->Int->au->Option R)(f:au->Option R):Option R:=
 bif b<((List.length c.2.2.2.1):Int) then zd b (List.length c.2.2.2.1) (bif(List.getD c.2.2.2.1 b.toNat (0,bs [],())).1<0 then d 1 3 b c else zd b (List.length c.2.2.2.1) (bif 16<(List.getD c.2.2.2.1 b.toNat (0,bs [],())).1 then d 1 3 b c else zd b (List.length c.2.2.2.1) ((ka c.2.2.2.1 b (List.getD c.2.2.2.1 b.toNat (0,bs [],())).1).bind fun r5=>bif 0<=r5 then d 10 3 b c else zd a (List.length c.1.2.2.1) (zd b (List.length c.2.2.2.1) ((iQ (List.getD c.1.2.2.1 a.toNat (0,0,0,0,0,())) (List.getD c.2.2.2.1 b.toNat (0,bs [],())).2.1).bind fun r6=>bif !decide (r6=0) then d r6 3 b c else e a (zW zI (b+1)) c))))) else f c
def Dd{R:Type}(a b c:Int)(d:au)(e:Int->Int->Int->Option R):Option R:=
 e a b c
def V1{R:Type}(a:au)(b:Int->Int->Int->Option R):Option R:=
 (ka a.2.2.2.1 ((List.length a.2.2.2.1):Int) (0:Int)).bind fun r7=>bif r7<0 then b 15 3 ((List.length a.2.2.2.1):Int) else b 0 0 0
def GI:Nat->Int->Int->au->Option (Sum (Int×Int×Int×Int×au) (Int×au))
 |0,_,_,_=>none
 |k+1,v0,v1,v2=>Sb v0 v1 v2 (fun a0 a1 a2 a3 a4=>some (.inl (a0,a1,a2,a3,a4))) (fun a0 a1 a2=>GI k a0 a1 a2) (fun a0 a1=>some (.inr (a0,a1)))
def GJ:Nat->Int->Int->au->Option (Sum (Int×Int×Int×au) au)
 |0,_,_,_=>none
 |k+1,v0,v1,v2=>Sc v0 v1 v2 (fun a0 a1 a2 a3=>some (.inl (a0,a1,a2,a3))) (fun a0 a1 a2=>GJ k a0 a1 a2) (fun a0=>some (.inr a0))
def sj(a:au):Option iw:=
 VZ a (fun a0 a1 a2=>some (a0,a1,a2)) (fun a0 a1 a2=>(GI ah a0 a1 a2).bind fun e=>Sum.elim (fun(we:(Int×Int×Int×Int×au))=>Dc we.1 we.2.1 we.2.2.1 we.2.2.2.1 we.2.2.2.2 (fun a0 a1 a2=>some (a0,a1,a2))) (fun(we:(Int×au))=>V0 we.1 we.2 (fun a0 a1 a2=>(GJ ah a0 a1 a2).bind fun e=>Sum.elim (fun(we:(Int×Int×Int×au))=>Dd we.1 we.2.1 we.2.2.1 we.2.2.2 (fun a0 a1 a2=>some (a0,a1,a2))) (fun(we:au)=>V1 we (fun a0 a1 a2=>some (a0,a1,a2))) e)) e)
def V2{R:Type}(a:au)(b:Int)(c:ByteArray->Option R):Option R:=
 (ka a.2.2.2.1 ((List.length a.2.2.2.1):Int) b).bind fun r1=>bif r1<0 then(ka a.2.2.2.1 ((List.length a.2.2.2.1):Int) (0:Int)).bind fun r2=>bif r2<0 then c (bs []) else zd r2 (List.length a.2.2.2.1) (c (List.getD a.2.2.2.1 r2.toNat (0,bs [],())).2.1) else bif r1<0 then c (bs []) else zd r1 (List.length a.2.2.2.1) (c (List.getD a.2.2.2.1 r1.toNat (0,bs [],())).2.1)
def sk(a:au)(b:Int):Option ByteArray:=
 V2 a b (fun a0=>some a0)
def VV{R:Type}(a:au)(b:af)(c:ax)(d:af->Bool->Option R)(e:Int->au->af->ax->af->af->Option R):Option R:=
 (m6 b.1).bind fun r1=>bif !r1 then d (bs [],[],()) false else(rT b.1).bind fun r2=>e 0 a b c (bs [],[],()) (r2,[],())
def Sa{R:Type}(a:Int)(b:au)(c:af)(d:ax)(e f:af)(g:Int->au->af->ax->af->af->Option R)(h:au->ax->af->af->Option R):Option R:=
 bif a<((List.length b.2.2.1):Int) then zd a (List.length b.2.2.1) ((rV c (List.getD b.2.2.1 a.toNat (0:Int))).bind fun r3=>bif 0<=r3 then zd a (List.length b.2.2.1) (zd r3 (List.length c.2.1) ((qd f (List.getD b.2.2.1 a.toNat 0) (List.getD c.2.1 r3.toNat (0,bs [],())).2.1).bind fun r4=>g (zW zI (a+1)) b c d e r4)) else g (zW zI (a+1)) b c d e f) else h b d e f
def VW{R:Type}(a:au)(b:ax)(c d:af)(e:af->Bool->Option R):Option R:=
 (sk a b.1).bind fun r5=>(qd d 39 r5).bind fun r6=>e r6 true
def GH:Nat->Int->au->af->ax->af->af->Option (au×ax×af×af)
 |0,_,_,_,_,_,_=>none
 |k+1,v0,v1,v2,v3,v4,v5=>Sa v0 v1 v2 v3 v4 v5 (fun a0 a1 a2 a3 a4 a5=>GH k a0 a1 a2 a3 a4 a5) (fun a0 a1 a2 a3=>some (a0,a1,a2,a3))
def si(a:au)(b:af)(c:ax):Option (af×Bool):=
 VV a b c (fun a0 a1=>some (a0,a1)) (fun a0 a1 a2 a3 a4 a5=>(GH ah a0 a1 a2 a3 a4 a5).bind fun e=>VW e.1 e.2.1 e.2.2.1 e.2.2.2 (fun a0 a1=>some (a0,a1)))
def Dv{R:Type}(a:(List ByteArray))(b:(List ByteArray)->aK->Int->Option R):Option R:=
 b a [] 0
def Dw{R:Type}(a:(List ByteArray))(b:aK)(c:Int)(d:(List ByteArray)->aK->Int->Option R)(e:aK->Option R):Option R:=
 bif c<((List.length a):Int) then zd c (List.length a) (zd (zW zI (c+1)) (List.length a) (bif(List.length b+List.length ([(List.getD a c.toNat (bs []),List.getD a (zW zI (c+(1:Int))).toNat (bs []),())]:List ea))*32<=140737488355328 then d a (b++([(List.getD a c.toNat (bs []),List.getD a (zW zI (c+(1:Int))).toNat (bs []),())]:List ea)) (zW zI (c+2)) else none)) else e b
def Dx{R:Type}(a:aK)(b:aK->Option R):Option R:=
 b a
def Wj:Nat->(List ByteArray)->aK->Int->Option aK
 |0,_,_,_=>none
 |k+1,v0,v1,v2=>Dw v0 v1 v2 (fun a0 a1 a2=>Wj k a0 a1 a2) (fun a0=>some a0)
def sw(a:(List ByteArray)):Option aK:=
 Dv a (fun a0 a1 a2=>(Wj ah a0 a1 a2).bind fun e=>Dx e (fun a0=>some a0))
def Ds{R:Type}(a:cz->(List Int)->Int->Option R):Option R:=
 Bh.bind fun r1=>a [] r1 0
def Dt{R:Type}(a:cz)(b:(List Int))(c:Int)(d:cz->(List Int)->Int->Option R)(e:cz->Option R):Option R:=
 bif c<((List.length b):Int) then zd c (List.length b) (bif List.getD b c.toNat 0=12 then zd c (List.length b) (zd c (List.length b) (bif(List.length a+List.length ([((4:Int),List.getD b c.toNat (0:Int),List.getD b c.toNat (0:Int),bs [],([]:List ea),())]:List aB))*64<=140737488355328 then d (a++([(4,List.getD b c.toNat 0,List.getD b c.toNat 0,bs [],[],())]:List aB)) b (zW zI (c+1)) else none)) else zd c (List.length b) (zd c (List.length b) (bif(List.length a+List.length ([((1:Int),List.getD b c.toNat (0:Int),List.getD b c.toNat (0:Int),bs [],([]:List ea),())]:List aB))*64<=140737488355328 then d (a++([(1,List.getD b c.toNat 0,List.getD b c.toNat 0,bs [],[],())]:List aB)) b (zW zI (c+1)) else none))) else e a
def Du{R:Type}(a:cz)(b:cz->Option R):Option R:=
 b a
def Wh:Nat->cz->(List Int)->Int->Option cz
 |0,_,_,_=>none
 |k+1,v0,v1,v2=>Dt v0 v1 v2 (fun a0 a1 a2=>Wh k a0 a1 a2) (fun a0=>some a0)
def vq:Option cz:=
 Ds (fun a0 a1 a2=>(Wh ah a0 a1 a2).bind fun e=>Du e (fun a0=>some a0))
def Dr{R:Type}(a b c:ByteArray)(d:ak->Option R):Option R:=
 d ([(0,a,()),(2,b,()),(3,b,()),(12,b,()),(9,b,()),(15,c,())]:List cn)
def vp(a b c:ByteArray):Option ak:=
 Dr a b c (fun a0=>some a0)
def Dl{R:Type}(a:bC->Option R):Option R:=
 (sw ([(bs [48,49,48,48]),bs [49,49,48,48],bs [48,49,49,48],bs [49,49,49,48],bs [48,50,48,48],bs [49,50,48,48],bs [48,50,49,48],bs [49,50,49,48],bs [48,50,50,48],bs [49,50,50,48],bs [48,50,51,48],bs [49,50,51,48],bs [48,52,48,48],bs [49,52,48,48],bs [48,52,49,48],bs [49,52,49,48],bs [48,52,50,48],bs [49,52,50,48],bs [48,52,51,48],bs [49,52,51,48],bs [48,56,48,48],bs [49,56,48,52],bs [48,56,49,48],(bs [49,56,49,52])]:List ByteArray)).bind fun r1=>(sw ([(bs [48,53,49]),bs [53,49,48,49,48,49,53,49,49,51,52,52],bs [48,50,49],bs [50,49,48,49,48,49,50,49,49,51,52,52],bs [48,49,50],(bs [49,48,48,49,52,48,49,48,48,49,49,48])]:List ByteArray)).bind fun r2=>(sw ([(bs [48,48]),bs [48,48,48],bs [48,53],bs [49,48,48],bs [49,52],bs [49,49,49],bs [53,49],bs [49,49,54],bs [53,52],bs [49,48,49],bs [57,49],bs [57,48,55],bs [57,54],(bs [57,48,57])]:List ByteArray)).bind fun r3=>vq.bind fun r4=>bif(List.length r4+List.length ([((2:Int),(13:Int),(0:Int),bs [],([]:List ea),()),((2:Int),(18:Int),(0:Int),bs [],([]:List ea),()),((2:Int),(90:Int),(0:Int),bs [],([]:List ea),()),((5:Int),(22:Int),(22:Int),bs [],r2,()),((5:Int),(39:Int),(39:Int),bs [],r3,()),((1:Int),(43:Int),(43:Int),bs [],([]:List ea),()),((1:Int),(48:Int),(48:Int),bs [],([]:List ea),()),((3:Int),(0:Int),(26:Int),bs [53,57,57,57],([]:List ea),())]:List aB))*64<=140737488355328 then vq.bind fun r5=>(sc r2).bind fun r6=>(sc r3).bind fun r7=>bif(List.length r5+List.length ([((2:Int),(26:Int),(0:Int),bs [],([]:List ea),()),((2:Int),(43:Int),(0:Int),bs [],([]:List ea),()),((5:Int),(22:Int),(22:Int),bs [],r6,()),((5:Int),(39:Int),(39:Int),bs [],r7,()),((1:Int),(48:Int),(48:Int),bs [],([]:List ea),())]:List aB))*64<=140737488355328 then(vn (0:Int)).bind fun r8=>(vp (bs [57,54]) (bs [51,48]) (bs [49,50])).bind fun r9=>zd 0 2 ((vn (1:Int)).bind fun j6=>(sc r1).bind fun jV=>bif(List.length ([]:List Int)+List.length ([(2:Int),(3:Int),(4:Int),(7:Int),(11:Int),(12:Int),(32:Int),(37:Int),(41:Int),(42:Int),(70:Int)]:List Int))*8<=140737488355328 then(vp (bs [57,48,57]) (bs [57,48,52]) (bs [57,48,50])).bind fun lv=>zd 1 2 (a (List.set (List.set (List.replicate 2 ((0,0,[],()),([],[],()),[],[],())) ((0:Int)).toNat (r8,(r1,r4++([(2,13,0,bs [],[],()),(2,18,0,bs [],[],()),(2,90,0,bs [],[],()),(5,22,22,bs [],r2,()),(5,39,39,bs [],r3,()),(1,43,43,bs [],[],()),(1,48,48,bs [],[],()),(3,0,26,bs [53,57,57,57],[],())]:List aB),()),([2,3,4,7,11,12,32,37,41,42,70]:List Int),r9,())) ((1:Int)).toNat (j6,(jV,r5++([(2,26,0,bs [],[],()),(2,43,0,bs [],[],()),(5,22,22,bs [],r6,()),(5,39,39,bs [],r7,()),(1,48,48,bs [],[],())]:List aB),()),[]++([2,3,4,7,11,12,32,37,41,42,70]:List Int),lv,()),4096,())) else none) else none else none
def Bl:Option bC:=
 Dl (fun a0=>some a0)
def Wb{R:Type}(a:bC)(b:Bool->Option R):Option R:=
 zd 0 2 ((lS (List.getD a.1 ((0:Int)).toNat ((0,0,[],()),([],[],()),[],[],()))).bind fun r1=>bif r1 then b true else zd 1 2 ((lS (List.getD a.1 ((1:Int)).toNat ((0,0,[],()),([],[],()),[],[],()))).bind fun r2=>bif r2 then b true else zd 0 2 ((kV (List.getD a.1 ((0:Int)).toNat ((0,0,[],()),([],[],()),[],[],())).2.1).bind fun r3=>bif r3 then b true else zd 1 2 ((kV (List.getD a.1 ((1:Int)).toNat ((0,0,[],()),([],[],()),[],[],())).2.1).bind fun r4=>b r4))))
def qn(a:bC):Option Bool:=
 Wb a (fun a0=>some a0)
def Wa{R:Type}(a:bC)(b:Int->bC->bC->Option R):Option R:=
 b 0 a (List.replicate 2 ((0,0,[],()),([],[],()),[],[],()),0,())
def Ij{R:Type}(a:Int)(b c:bC)(d:Int->bC->bC->Option R)(e:bC->bC->Option R):Option R:=
 bif a<2 then zd a 2 ((se (List.getD b.1 a.toNat ((0,0,[],()),([],[],()),[],[],())).2.1).bind fun r1=>zd a 2 ((sm (List.getD b.1 a.toNat ((0,0,[],()),([],[],()),[],[],()))).bind fun r2=>zd a 2 (zd a 2 (d (zW zI (a+1)) (List.set (List.set b.1 a.toNat r2) a.toNat ((List.getD (List.set b.1 a.toNat r2) a.toNat ((0,0,[],()),([],[],()),[],[],())).1,r1,(List.getD (List.set b.1 a.toNat r2) a.toNat ((0,0,[],()),([],[],()),[],[],())).2.2.1,(List.getD (List.set b.1 a.toNat r2) a.toNat ((0,0,[],()),([],[],()),[],[],())).2.2.2.1,()),b.2.1,()) c)))) else e b c
def Dq{R:Type}(a b:bC)(c:bC->Option R):Option R:=
 c a
def GM:Nat->Int->bC->bC->Option (bC×bC)
 |0,_,_,_=>none
 |k+1,v0,v1,v2=>Ij v0 v1 v2 (fun a0 a1 a2=>GM k a0 a1 a2) (fun a0 a1=>some (a0,a1))
def sr(a:bC):Option bC:=
 Wa a (fun a0 a1 a2=>(GM ah a0 a1 a2).bind fun e=>Dq e.1 e.2 (fun a0=>some a0))
def V8{R:Type}(a:bC)(b:Int->Int->Int->Option R)(c:Int->bC->Option R):Option R:=
 bif a.2.1<1 then b 5 2 0 else bif 65535<a.2.1 then b 5 2 0 else c 0 a
def Ii{R:Type}(a:Int)(b:bC)(c:Int->Int->Int->Option R)(d:Int->bC->Option R)(e:Option R):Option R:=
 bif a<2 then zd a 2 ((sj (List.getD b.1 a.toNat ((0,0,[],()),([],[],()),[],[],()))).bind fun r1=>bif !decide (r1.1=0) then c r1.1 a 1 else zd a 2 (zd a 2 (zd (zW zI (1-a)) 2 ((qj (List.getD b.1 a.toNat ((0,0,[],()),([],[],()),[],[],())).2.1 (List.getD b.1 a.toNat ((0,0,[],()),([],[],()),[],[],())).1 (List.getD b.1 (zW zI (1-a)).toNat ((0,0,[],()),([],[],()),[],[],())).1).bind fun r2=>bif !decide (r2.1=0) then c r2.1 a 2 else d (zW zI (a+1)) b)))) else e
def Dn{R:Type}(a b c:Int)(d:Int->Int->Int->Option R):Option R:=
 d a b c
def Dp{R:Type}(a:Int->Int->Int->Option R):Option R:=
 a 0 0 0
def GL:Nat->Int->bC->Option (Sum iw Unit)
 |0,_,_=>none
 |k+1,v0,v1=>Ii v0 v1 (fun a0 a1 a2=>some (.inl (a0,a1,a2))) (fun a0 a1=>GL k a0 a1) (some (.inr ()))
def sn(a:bC):Option iw:=
 V8 a (fun a0 a1 a2=>some (a0,a1,a2)) (fun a0 a1=>(GL ah a0 a1).bind fun e=>Sum.elim (fun(we:iw)=>Dn we.1 we.2.1 we.2.2 (fun a0 a1 a2=>some (a0,a1,a2))) (fun(we:Unit)=>Dp (fun a0 a1 a2=>some (a0,a1,a2))) e)
def Wd{R:Type}(a:bC)(b:Bool->Option R):Option R:=
 (sn a).bind fun r1=>b (decide (r1.1=0))
def su(a:bC):Option Bool:=
 Wd a (fun a0=>some a0)
def We{R:Type}(a:bC)(b:Int)(c:af)(d:ax)(e:Int->ByteArray->Option R):Option R:=
 zd b 2 ((si (List.getD a.1 b.toNat ((0,0,[],()),([],[],()),[],[],())) c d).bind fun r1=>bif !r1.2 then e 3 (bs []) else(m7 (List.getD a.1 b.toNat ((0,0,[],()),([],[],()),[],[],())).1 r1.1).bind fun r2=>bif a.2.1<(r2.size:Int) then e 3 (bs []) else e 2 r2)
def kb(a:bC)(b:Int)(c:af)(d:ax):Option KZ:=
 We a b c d (fun a0 a1=>some (a0,a1))
def Wc{R:Type}(a:bC)(b:Int)(c:ByteArray)(d:Int->ByteArray->Option R):Option R:=
 zd b 2 (zd (zW zI (1-b)) 2 ((qg (List.getD a.1 b.toNat ((0,0,[],()),([],[],()),[],[],())).1 c).bind fun r1=>bif !decide (r1.2.1=0) then(kb a b r1.1 r1.2).bind fun r2=>d r2.1 r2.2 else(qk (List.getD a.1 b.toNat ((0,0,[],()),([],[],()),[],[],())).2.1 (List.getD a.1 b.toNat ((0,0,[],()),([],[],()),[],[],())).1 (List.getD a.1 (zW zI (1-b)).toNat ((0,0,[],()),([],[],()),[],[],())).1 r1.1).bind fun r3=>bif !decide (r3.2.1=0) then(kb a b r1.1 r3.2).bind fun r4=>d r4.1 r4.2 else(m7 (List.getD a.1 (zW zI (1-b)).toNat ((0,0,[],()),([],[],()),[],[],())).1 r3.1).bind fun r5=>bif a.2.1<(r5.size:Int) then(kb a b r1.1 (5,129,())).bind fun r6=>d r6.1 r6.2 else d 1 r5))
def ss(a:bC)(b:Int)(c:ByteArray):Option KZ:=
 Wc a b c (fun a0 a1=>some (a0,a1))
def WB{R:Type}(a:ByteArray)(b:Bool->Option R):Option R:=
 bif(a.size:Int)=4 then(x7 a).bind fun r1=>b r1 else b false
def ng(a:ByteArray):Option Bool:=
 WB a (fun a0=>some a0)
def WC{R:Type}(a:ByteArray)(b:Int->Bool->Option R):Option R:=
 (ng a).bind fun r1=>bif !r1 then b 0 false else zd 0 a.size (b (zW zI (zW zU (ze a ((0:Int)).toNat-48))) true)
def iO(a:ByteArray):Option (Int×Bool):=
 WC a (fun a0 a1=>some (a0,a1))
def Wz{R:Type}(a:ByteArray)(b:Bool->Option R):Option R:=
 (ng a).bind fun r1=>bif r1 then zd 2 a.size (bif ze a ((2:Int)).toNat=48 then b true else zd 2 a.size (b (decide (ze a ((2:Int)).toNat=50)))) else b false
def nf(a:ByteArray):Option Bool:=
 Wz a (fun a0=>some a0)
def WA{R:Type}(a:ByteArray)(b:ByteArray->Bool->Option R):Option R:=
 (nf a).bind fun r1=>bif !r1 then b (bs []) false else bif 2<=(a.size:Int) then zd 2 a.size (bif(a.extract 0 ((2:Int)).toNat).size+(strOf ([(zW zU (ze a ((2:Int)).toNat+1))]:List Int)).size<=9223372036854775807 then bif 3<=(a.size:Int) then bif(a.extract 0 ((2:Int)).toNat++strOf ([(zW zU (ze a ((2:Int)).toNat+1))]:List Int)).size+(a.extract ((3:Int)).toNat a.size).size<=9223372036854775807 then b ((a.extract 0 ((2:Int)).toNat++strOf ([(zW zU (ze a ((2:Int)).toNat+1))]:List Int))++a.extract ((3:Int)).toNat a.size) true else none else none else none) else none
def sF(a:ByteArray):Option gF:=
 WA a (fun a0 a1=>some (a0,a1))
def Wt{R:Type}(a:af)(b:Int)(c:Int->ak->Int->Int->Option R):Option R:=
 c b a.2.1 ((List.length a.2.1):Int) 0
def DI{R:Type}(a:Int)(b:ak)(c d:Int)(e:ByteArray->Bool->Option R)(f:Int->ak->Int->Int->Option R)(g:Option R):Option R:=
 bif d<c then zd d (List.length b) (bif(List.getD b d.toNat (0,bs [],())).1=a then e (List.getD b d.toNat (0,bs [],())).2.1 true else f a b c (zW zI (d+1))) else g
def DJ{R:Type}(a:ByteArray)(b:Bool)(c:ByteArray->Bool->Option R):Option R:=
 c a b
def DK{R:Type}(a:ByteArray->Bool->Option R):Option R:=
 a (bs []) false
def Si:Nat->Int->ak->Int->Int->Option (Sum gF Unit)
 |0,_,_,_,_=>none
 |k+1,v0,v1,v2,v3=>DI v0 v1 v2 v3 (fun a0 a1=>some (.inl (a0,a1))) (fun a0 a1 a2 a3=>Si k a0 a1 a2 a3) (some (.inr ()))
def nb(a:af)(b:Int):Option gF:=
 Wt a b (fun a0 a1 a2 a3=>(Si ah a0 a1 a2 a3).bind fun e=>Sum.elim (fun(we:gF)=>DJ we.1 we.2 (fun a0 a1=>some (a0,a1))) (fun(we:Unit)=>DK (fun a0 a1=>some (a0,a1))) e)
def Wy{R:Type}(a:af)(b:Int)(c:Int->ak->Int->Int->af->af->Option R):Option R:=
 c b a.2.1 ((List.length a.2.1):Int) 0 (bs [],[],()) (a.1,[],())
def DO{R:Type}(a:Int)(b:ak)(c d:Int)(e f:af)(g:Int->ak->Int->Int->af->af->Option R)(h:af->af->Option R):Option R:=
 bif d<c then zd d (List.length b) (bif !decide ((List.getD b d.toNat (0,bs [],())).1=a) then bif(List.length f.2.1+List.length ([(List.getD b d.toNat ((0:Int),bs [],()))]:List cn))*24<=140737488355328 then g a b c (zW zI (d+1)) e (f.1,f.2.1++([(List.getD b d.toNat (0,bs [],()))]:List cn),()) else none else g a b c (zW zI (d+1)) e f) else h e f
def DP{R:Type}(a b:af)(c:af->Option R):Option R:=
 c b
def Sk:Nat->Int->ak->Int->Int->af->af->Option (af×af)
 |0,_,_,_,_,_,_=>none
 |k+1,v0,v1,v2,v3,v4,v5=>DO v0 v1 v2 v3 v4 v5 (fun a0 a1 a2 a3 a4 a5=>Sk k a0 a1 a2 a3 a4 a5) (fun a0 a1=>some (a0,a1))
def sE(a:af)(b:Int):Option af:=
 Wy a b (fun a0 a1 a2 a3 a4 a5=>(Sk ah a0 a1 a2 a3 a4 a5).bind fun e=>DP e.1 e.2 (fun a0=>some a0))
def DN{R:Type}(a:cn)(b:Int)(c:Bool->Int->Option R):Option R:=
 c (decide (b<a.1)) b
def sD(a:cn)(b:Int):Option (Bool×Int):=
 DN a b (fun a0 a1=>some (a0,a1))
def Xk{R:Type}(a:ak)(b:Int)(c:ak->Int->Int->Int->Option R):Option R:=
 c a ((List.length a):Int) 0 b
def Ei{R:Type}(a:ak)(b c d:Int)(e:Int->Int->Option R)(f:ak->Int->Int->Int->Option R)(g:Int->Option R):Option R:=
 bif c<b then zd c (List.length a) ((sD (List.getD a c.toNat (0,bs [],())) d).bind fun r1=>bif r1.1 then e c r1.2 else f a b (zW zI (c+1)) r1.2) else g d
def Ej{R:Type}(a b:Int)(c:Int->Int->Option R):Option R:=
 c a b
def Ek{R:Type}(a:Int)(b:Int->Int->Option R):Option R:=
 b (-1:Int) a
def Sv:Nat->ak->Int->Int->Int->Option (Sum (Int×Int) Int)
 |0,_,_,_,_=>none
 |k+1,v0,v1,v2,v3=>Ei v0 v1 v2 v3 (fun a0 a1=>some (.inl (a0,a1))) (fun a0 a1 a2 a3=>Sv k a0 a1 a2 a3) (fun a0=>some (.inr a0))
def sQ(a:ak)(b:Int):Option (Int×Int):=
 Xk a b (fun a0 a1 a2 a3=>(Sv ah a0 a1 a2 a3).bind fun e=>Sum.elim (fun(we:(Int×Int))=>Ej we.1 we.2 (fun a0 a1=>some (a0,a1))) (fun(we:Int)=>Ek we (fun a0 a1=>some (a0,a1))) e)
def Ww{R:Type}(a:af)(b:Int)(c:ByteArray)(d:af->Option R):Option R:=
 (sE a b).bind fun r1=>(sQ r1.2.1 b).bind fun r2=>bif r2.1<0 then bif zW zI (((List.length r1.2.1):Int)+1)=zW zI (((List.length r1.2.1):Int)+1) then bif 0<=zW zI (((List.length r1.2.1):Int)+1) then bif zW zI (((List.length r1.2.1):Int)+1)*24<=140737488355328 then bif 0<=((List.length r1.2.1):Int) then bif((List.length r1.2.1):Int)<=(((List.length r1.2.1):Nat):Int) then bif Nat.beq (zW zI (((List.length r1.2.1):Int)+(1:Int))).toNat (List.length (List.replicate (zW zI (((List.length r1.2.1):Int)+(1:Int))).toNat ((0:Int),bs [],()))) then zd ((List.length r1.2.1):Int) (zW zI (((List.length r1.2.1):Int)+(1:Int))).toNat (bif Nat.ble ((((List.length r1.2.1):Int)).toNat+1) (List.length (bJ (List.replicate (zW zI (((List.length r1.2.1):Int)+(1:Int))).toNat ((0:Int),bs [],())) (List.take (zW zI (((List.length r1.2.1):Int)+(1:Int))).toNat (List.drop 0 (List.take (((List.length r1.2.1):Int)).toNat r1.2.1))) 0)) then bif 0<=zW zI (((List.length r1.2.1):Int)+1) then bif zW zI (((List.length r1.2.1):Int)+1)<=(((zW zI (((List.length r1.2.1):Int)+(1:Int))).toNat:Nat):Int) then bif 0<=((List.length r1.2.1):Int) then bif((List.length r1.2.1):Int)<=(((List.length r1.2.1):Nat):Int) then bif Nat.beq (zW zI (((List.length r1.2.1):Int)+(1:Int))).toNat (List.length (List.set (bJ (List.replicate (zW zI (((List.length r1.2.1):Int)+(1:Int))).toNat ((0:Int),bs [],())) (List.take (zW zI (((List.length r1.2.1):Int)+(1:Int))).toNat (List.drop 0 (List.take (((List.length r1.2.1):Int)).toNat r1.2.1))) 0) (((List.length r1.2.1):Int)).toNat (r2.2,c,()))) then bif Nat.ble (zW zI (((List.length r1.2.1):Int)+(1:Int))).toNat (zW zI (((List.length r1.2.1):Int)+(1:Int))).toNat then bif Nat.beq (zW zI (((List.length r1.2.1):Int)+(1:Int))).toNat (List.length (bJ (List.set (bJ (List.replicate (zW zI (((List.length r1.2.1):Int)+(1:Int))).toNat ((0:Int),bs [],())) (List.take (zW zI (((List.length r1.2.1):Int)+(1:Int))).toNat (List.drop 0 (List.take (((List.length r1.2.1):Int)).toNat r1.2.1))) 0) (((List.length r1.2.1):Int)).toNat (r2.2,c,())) (List.take ((zW zI (((List.length r1.2.1):Int)+(1:Int))).toNat-(zW zI (((List.length r1.2.1):Int)+(1:Int))).toNat) (List.drop (((List.length r1.2.1):Int)).toNat (List.take (List.length r1.2.1) r1.2.1))) (zW zI (((List.length r1.2.1):Int)+(1:Int))).toNat)) then d (a.1,bJ (List.set (bJ (List.replicate (zW zI (((List.length r1.2.1):Int)+(1:Int))).toNat (0,bs [],())) (List.take (zW zI (((List.length r1.2.1):Int)+(1:Int))).toNat (List.drop 0 (List.take (((List.length r1.2.1):Int)).toNat r1.2.1))) 0) (((List.length r1.2.1):Int)).toNat (r2.2,c,())) (List.take ((zW zI (((List.length r1.2.1):Int)+(1:Int))).toNat-(zW zI (((List.length r1.2.1):Int)+(1:Int))).toNat) (List.drop (((List.length r1.2.1):Int)).toNat (List.take (List.length r1.2.1) r1.2.1))) (zW zI (((List.length r1.2.1):Int)+(1:Int))).toNat,()) else none else none else none else none else none else none else none else none) else none else none else none else none else none else none else bif zW zI (((List.length r1.2.1):Int)+1)=zW zI (((List.length r1.2.1):Int)+1) then bif 0<=zW zI (((List.length r1.2.1):Int)+1) then bif zW zI (((List.length r1.2.1):Int)+1)*24<=140737488355328 then bif 0<=r2.1 then bif r2.1<=(((List.length r1.2.1):Nat):Int) then bif Nat.beq (zW zI (((List.length r1.2.1):Int)+(1:Int))).toNat (List.length (List.replicate (zW zI (((List.length r1.2.1):Int)+(1:Int))).toNat ((0:Int),bs [],()))) then zd r2.1 (zW zI (((List.length r1.2.1):Int)+(1:Int))).toNat (bif Nat.ble (r2.1.toNat+1) (List.length (bJ (List.replicate (zW zI (((List.length r1.2.1):Int)+(1:Int))).toNat ((0:Int),bs [],())) (List.take (zW zI (((List.length r1.2.1):Int)+(1:Int))).toNat (List.drop 0 (List.take r2.1.toNat r1.2.1))) 0)) then bif 0<=zW zI (r2.1+1) then bif zW zI (r2.1+1)<=(((zW zI (((List.length r1.2.1):Int)+(1:Int))).toNat:Nat):Int) then bif 0<=r2.1 then bif r2.1<=(((List.length r1.2.1):Nat):Int) then bif Nat.beq (zW zI (((List.length r1.2.1):Int)+(1:Int))).toNat (List.length (List.set (bJ (List.replicate (zW zI (((List.length r1.2.1):Int)+(1:Int))).toNat ((0:Int),bs [],())) (List.take (zW zI (((List.length r1.2.1):Int)+(1:Int))).toNat (List.drop 0 (List.take r2.1.toNat r1.2.1))) 0) r2.1.toNat (r2.2,c,()))) then bif Nat.ble (zW zI (r2.1+(1:Int))).toNat (zW zI (((List.length r1.2.1):Int)+(1:Int))).toNat then bif Nat.beq (zW zI (((List.length r1.2.1):Int)+(1:Int))).toNat (List.length (bJ (List.set (bJ (List.replicate (zW zI (((List.length r1.2.1):Int)+(1:Int))).toNat ((0:Int),bs [],())) (List.take (zW zI (((List.length r1.2.1):Int)+(1:Int))).toNat (List.drop 0 (List.take r2.1.toNat r1.2.1))) 0) r2.1.toNat (r2.2,c,())) (List.take ((zW zI (((List.length r1.2.1):Int)+(1:Int))).toNat-(zW zI (r2.1+(1:Int))).toNat) (List.drop r2.1.toNat (List.take (List.length r1.2.1) r1.2.1))) (zW zI (r2.1+(1:Int))).toNat)) then d (a.1,bJ (List.set (bJ (List.replicate (zW zI (((List.length r1.2.1):Int)+(1:Int))).toNat (0,bs [],())) (List.take (zW zI (((List.length r1.2.1):Int)+(1:Int))).toNat (List.drop 0 (List.take r2.1.toNat r1.2.1))) 0) r2.1.toNat (r2.2,c,())) (List.take ((zW zI (((List.length r1.2.1):Int)+(1:Int))).toNat-(zW zI (r2.1+(1:Int))).toNat) (List.drop r2.1.toNat (List.take (List.length r1.2.1) r1.2.1))) (zW zI (r2.1+(1:Int))).toNat,()) else none else none else none else none else none else none else none else none) else none else none else none else none else none else none
def gB(a:af)(b:Int)(c:ByteArray):Option af:=
 Ww a b c (fun a0=>some a0)
def Wr{R:Type}(a:ag)(b:af)(c:ax->Option R)(d:Int->ak->Int->Int->ag->ax->Option R):Option R:=
 (lX a).bind fun r1=>bif !decide (r1.1=0) then c (1,(-1:Int),()) else(iO b.1).bind fun r2=>bif !r2.2 then c (7,0,()) else bif !decide (r2.1=a.2.1) then c (7,0,()) else d 0 b.2.1 ((List.length b.2.1):Int) 0 a (0,0,())
def z124{R:Type}(a:Int)(b:ak)(c d:Int)(e:ag)(f:ax)(g:ax->Option R)(h:Int->ak->Int->Int->ag->ax->Option R)(i:ax->Option R):Option R:=
 bif d<c then zd d (List.length b) (bif(List.getD b d.toNat (0,bs [],())).1<=a then g (11,(List.getD b d.toNat (0,bs [],())).1,()) else(fb e (List.getD b d.toNat (0,bs [],())).1).bind fun r3=>bif !r3.2 then g (9,(List.getD b d.toNat (0,bs [],())).1,()) else(bH r3.1 (List.getD b d.toNat (0,bs [],())).2.1).bind fun r4=>bif !decide (r4=0) then g (r4,(List.getD b d.toNat (0,bs [],())).1,()) else h (List.getD b d.toNat (0,bs [],())).1 b c (zW zI (d+1)) e f) else i f
def DF{R:Type}(a:ax)(b:ax->Option R):Option R:=
 b a
def DG{R:Type}(a:ax)(b:ax->Option R):Option R:=
 b (0,0,())
def Sh:Nat->Int->ak->Int->Int->ag->ax->Option (Sum ax ax)
 |0,_,_,_,_,_,_=>none
 |k+1,v0,v1,v2,v3,v4,v5=>z124 v0 v1 v2 v3 v4 v5 (fun a0=>some (.inl a0)) (fun a0 a1 a2 a3 a4 a5=>Sh k a0 a1 a2 a3 a4 a5) (fun a0=>some (.inr a0))
def qo(a:ag)(b:af):Option ax:=
 Wr a b (fun a0=>some a0) (fun a0 a1 a2 a3 a4 a5=>(Sh ah a0 a1 a2 a3 a4 a5).bind fun e=>Sum.elim (fun(we:ax)=>DF we (fun a0=>some a0)) (fun(we:ax)=>DG we (fun a0=>some a0)) e)
def Wv{R:Type}(a:af)(b:ak->Int->Int->ax->ax->Option R):Option R:=
 b a.2.1 ((List.length a.2.1):Int) 0 (0,0,()) (0,0,())
def DL{R:Type}(a:ak)(b c:Int)(d e:ax)(f:ak->Int->Int->ax->ax->Option R)(g:ax->ax->Option R):Option R:=
 bif c<b then zd c (List.length a) ((ya e (List.getD a c.toNat (0,bs [],())).1).bind fun r1=>f a b (zW zI (c+1)) d r1) else g d e
def DM{R:Type}(a b:ax)(c:ax->Option R):Option R:=
 c b
def Sj:Nat->ak->Int->Int->ax->ax->Option (ax×ax)
 |0,_,_,_,_,_=>none
 |k+1,v0,v1,v2,v3,v4=>DL v0 v1 v2 v3 v4 (fun a0 a1 a2 a3 a4=>Sj k a0 a1 a2 a3 a4) (fun a0 a1=>some (a0,a1))
def sC(a:af):Option ax:=
 Wv a (fun a0 a1 a2 a3 a4=>(Sj ah a0 a1 a2 a3 a4).bind fun e=>DM e.1 e.2 (fun a0=>some a0))
def W6{R:Type}(a:aB)(b c:ag)(d:ap->ap->Int->Option R):Option R:=
 (fb b a.2.1).bind fun r1=>(fb c a.2.2.1).bind fun r2=>bif a.1=3 then bif a.1=2 then bif !decide (a.2.1=0) then d r1.1 r2.1 9 else bif !decide (a.2.2.1=0) then d r1.1 r2.1 9 else d r1.1 r2.1 0 else bif !decide (a.2.1=0) then d r1.1 r2.1 9 else bif !r2.2 then d r1.1 r2.1 9 else d r1.1 r2.1 0 else bif a.1=2 then bif !r1.2 then d r1.1 r2.1 9 else bif !decide (a.2.2.1=0) then d r1.1 r2.1 9 else d r1.1 r2.1 0 else bif !r1.2 then d r1.1 r2.1 9 else bif !r2.2 then d r1.1 r2.1 9 else d r1.1 r2.1 0
def sN(a:aB)(b c:ag):Option (ap×ap×Int):=
 W6 a b c (fun a0 a1 a2=>some (a0,a1,a2))
def W7{R:Type}(a:ap)(b:Bool->Option R):Option R:=
 bif a.2.1=1 then b (decide (a.2.2.1=1)) else b false
def iP(a:ap):Option Bool:=
 W7 a (fun a0=>some a0)
def W9{R:Type}(a:aK)(b c:ap)(d:Int->Option R)(e:aK->Int->Int->ap->ap->Option R):Option R:=
 (Jq a).bind fun r1=>bif !decide (r1.1=0) then d 15 else bif((List.length a):Int)=0 then d 15 else e a ((List.length a):Int) 0 b c
def z130{R:Type}(a:aK)(b c:Int)(d e:ap)(f:Int->Option R)(g:aK->Int->Int->ap->ap->Option R)(h:Option R):Option R:=
 bif c<b then zd c (List.length a) ((bH d (List.getD a c.toNat (bs [],bs [],())).1).bind fun r2=>bif !decide (r2=0) then f r2 else(bH e (List.getD a c.toNat (bs [],bs [],())).2.1).bind fun r3=>bif !decide (r3=0) then f r3 else g a b (zW zI (c+1)) d e) else h
def z131{R:Type}(a:Int)(b:Int->Option R):Option R:=
 b a
def D9{R:Type}(a:Int->Option R):Option R:=
 a 0
def Sr:Nat->aK->Int->Int->ap->ap->Option (Sum Int Unit)
 |0,_,_,_,_,_=>none
 |k+1,v0,v1,v2,v3,v4=>z130 v0 v1 v2 v3 v4 (fun a0=>some (.inl a0)) (fun a0 a1 a2 a3 a4=>Sr k a0 a1 a2 a3 a4) (some (.inr ()))
def lW(a:aK)(b c:ap):Option Int:=
 W9 a b c (fun a0=>some a0) (fun a0 a1 a2 a3 a4=>(Sr ah a0 a1 a2 a3 a4).bind fun e=>Sum.elim (fun(we:Int)=>z131 we (fun a0=>some a0)) (fun(we:Unit)=>D9 (fun a0=>some a0)) e)
def W5{R:Type}(a:aB)(b c:ag)(d:Int->Option R):Option R:=
 bif a.1<1 then d 1 else bif 5<a.1 then d 1 else(sN a b c).bind fun r1=>bif !decide (r1.2.2=0) then d r1.2.2 else bif !decide (a.2.2.2.1=bs []) then bif !decide (a.1=3) then d 3 else bif 0<((List.length a.2.2.2.2.1):Int) then bif !decide (a.1=5) then d 3 else bif a.1=1 then(kX r1.2.1 r1.1).bind fun r2=>bif !r2 then d 6 else d 0 else bif a.1=3 then(bH r1.2.1 a.2.2.2.1).bind fun r3=>d r3 else bif a.1=4 then(iP r1.1).bind fun r4=>bif !r4 then d 6 else(iP r1.2.1).bind fun r5=>bif !r5 then d 6 else d 0 else bif a.1=5 then(lW a.2.2.2.2.1 r1.1 r1.2.1).bind fun r6=>d r6 else d 0 else bif a.1=1 then(kX r1.2.1 r1.1).bind fun r7=>bif !r7 then d 6 else d 0 else bif a.1=3 then(bH r1.2.1 a.2.2.2.1).bind fun r8=>d r8 else bif a.1=4 then(iP r1.1).bind fun r9=>bif !r9 then d 6 else(iP r1.2.1).bind fun j6=>bif !j6 then d 6 else d 0 else bif a.1=5 then(lW a.2.2.2.2.1 r1.1 r1.2.1).bind fun jV=>d jV else d 0 else bif 0<((List.length a.2.2.2.2.1):Int) then bif !decide (a.1=5) then d 3 else bif a.1=1 then(kX r1.2.1 r1.1).bind fun lv=>bif !lv then d 6 else d 0 else bif a.1=3 then(bH r1.2.1 a.2.2.2.1).bind fun jW=>d jW else bif a.1=4 then(iP r1.1).bind fun uM=>bif !uM then d 6 else(iP r1.2.1).bind fun xg=>bif !xg then d 6 else d 0 else bif a.1=5 then(lW a.2.2.2.2.1 r1.1 r1.2.1).bind fun Ck=>d Ck else d 0 else bif a.1=1 then(kX r1.2.1 r1.1).bind fun Cl=>bif !Cl then d 6 else d 0 else bif a.1=3 then(bH r1.2.1 a.2.2.2.1).bind fun Cm=>d Cm else bif a.1=4 then(iP r1.1).bind fun tZ=>bif !tZ then d 6 else(iP r1.2.1).bind fun Cn=>bif !Cn then d 6 else d 0 else bif a.1=5 then(lW a.2.2.2.2.1 r1.1 r1.2.1).bind fun xh=>d xh else d 0
def ni(a:aB)(b c:ag):Option Int:=
 W5 a b c (fun a0=>some a0)
def W4{R:Type}(a:aB)(b:ag)(c:ByteArray)(d:cn->Int->Option R):Option R:=
 bif a.1=1 then d (a.2.2.1,c,()) 0 else bif a.1=2 then d (0,bs [],()) 0 else bif a.1=3 then d (a.2.2.1,a.2.2.2.1,()) 0 else bif a.1=4 then(fb b a.2.2.1).bind fun r1=>bif !r1.2 then d (0,bs [],()) 9 else(Jr c r1.1.2.2.2.1).bind fun r2=>bif !r2.2 then d (0,bs [],()) 5 else d (a.2.2.1,r2.1,()) 0 else bif a.1=5 then(Jp a.2.2.2.2.1 c).bind fun r3=>bif !r3.2 then d (0,bs [],()) 15 else d (a.2.2.1,r3.1,()) 0 else d (0,bs [],()) 1
def nh(a:aB)(b:ag)(c:ByteArray):Option (cn×Int):=
 W4 a b c (fun a0 a1=>some (a0,a1))
def X5{R:Type}(a:ea)(b c:ag)(d:Bool->Option R):Option R:=
 (iO a.1).bind fun r1=>(iO a.2.1).bind fun r2=>bif r1.2 then bif r2.2 then bif r1.1=b.2.1 then bif r2.1=c.2.1 then(nf a.1).bind fun r3=>(nf a.2.1).bind fun r4=>d (r3==r4) else d false else d false else d false else d false
def np(a:ea)(b c:ag):Option Bool:=
 X5 a b c (fun a0=>some a0)
def XR{R:Type}(a:al)(b c:ag)(d:ns->Int->Int->al->ag->ag->Option R):Option R:=
 d ([b,c]:List ag) ((List.length ([b,c]:List ag)):Int) 0 a b c
def XS{R:Type}(a:ns)(b c:Int)(d:al)(e f:ag)(g:Int->Int->Int->al->ag->ag->Option R)(h:ns->Int->Int->al->ag->ag->Option R)(i:al->ag->ag->Option R):Option R:=
 bif c<b then zd c (List.length a) ((lX (List.getD a c.toNat (0,0,[],()))).bind fun r1=>bif !decide (r1.1=0) then g 1 1 c d e f else h a b (zW zI (c+1)) d e f) else i d e f
def EE{R:Type}(a b c:Int)(d:al)(e f:ag)(g:Int->Int->Int->Option R):Option R:=
 g a b c
def XT{R:Type}(a:al)(b c:ag)(d:Int->Int->Int->Option R)(e:aK->Int->Int->al->ag->ag->gE->Option R):Option R:=
 bif 256<((List.length a.1):Int) then d 5 2 256 else e a.1 ((List.length a.1):Int) 0 a b c []
def EF{R:Type}(a:aK)(b c:Int)(d:al)(e f:ag)(g:gE)(h:Int->Int->Int->al->ag->ag->Option R)(i:aK->Int->Int->al->ag->ag->gE->Option R)(j:al->ag->ag->Option R):Option R:=
 bif c<b then zd c (List.length a) ((np (List.getD a c.toNat (bs [],bs [],())) e f).bind fun r2=>bif !r2 then h (7:Int) (2:Int) c d e f else bif eF (fy .str) false g (List.getD a c.toNat (bs [],bs [],())).1 then h (10:Int) (2:Int) c d e f else bif eG (fy .str) g (List.getD a c.toNat (bs [],bs [],())).1 then none else i a b (zW zI (c+(1:Int))) d e f (g++ [((List.getD a c.toNat (bs [],bs [],())).1,true)])) else j d e f
def EG{R:Type}(a b c:Int)(d:al)(e f:ag)(g:Int->Int->Int->Option R):Option R:=
 g a b c
def XU{R:Type}(a:al)(b c:ag)(d:Int->Int->Int->Option R)(e:cz->Int->Int->ag->ag->ax->ax->Option R):Option R:=
 bif 256<((List.length a.2.1):Int) then d 5 3 256 else e a.2.1 ((List.length a.2.1):Int) 0 b c (0,0,()) (0,0,())
def EH{R:Type}(a:cz)(b c:Int)(d e:ag)(f g:ax)(h:Int->Int->Int->Option R)(i:cz->Int->Int->ag->ag->ax->ax->Option R)(j:Option R):Option R:=
 bif c<b then zd c (List.length a) ((ni (List.getD a c.toNat (0,0,0,bs [],[],())) d e).bind fun r3=>bif !decide (r3=0) then h r3 3 c else(uB ([(List.getD a c.toNat (0,0,0,bs [],[],())).2.1]:List Int)).bind fun r4=>(uB ([(List.getD a c.toNat (0,0,0,bs [],[],())).2.2.1]:List Int)).bind fun r5=>(rj f r4).bind fun r6=>bif !(decide (r6.1=0)&&(decide (r6.2.1=0)&&true)) then h 10 3 c else(rj g r5).bind fun r7=>bif !(decide (r7.1=0)&&(decide (r7.2.1=0)&&true)) then h 10 3 c else(sY f r4).bind fun r8=>(sY g r5).bind fun r9=>i a b (zW zI (c+1)) d e r8 r9) else j
def EI{R:Type}(a b c:Int)(d:Int->Int->Int->Option R):Option R:=
 d a b c
def z141{R:Type}(a:Int->Int->Int->Option R):Option R:=
 a 0 0 0
def Ir:Nat->ns->Int->Int->al->ag->ag->Option (Sum lg lf)
 |0,_,_,_,_,_,_=>none
 |k+1,v0,v1,v2,v3,v4,v5=>XS v0 v1 v2 v3 v4 v5 (fun a0 a1 a2 a3 a4 a5=>some (.inl (a0,a1,a2,a3,a4,a5))) (fun a0 a1 a2 a3 a4 a5=>Ir k a0 a1 a2 a3 a4 a5) (fun a0 a1 a2=>some (.inr (a0,a1,a2)))
def Is:Nat->aK->Int->Int->al->ag->ag->gE->Option (Sum lg lf)
 |0,_,_,_,_,_,_,_=>none
 |k+1,v0,v1,v2,v3,v4,v5,v6=>EF v0 v1 v2 v3 v4 v5 v6 (fun a0 a1 a2 a3 a4 a5=>some (.inl (a0,a1,a2,a3,a4,a5))) (fun a0 a1 a2 a3 a4 a5 a6=>Is k a0 a1 a2 a3 a4 a5 a6) (fun a0 a1 a2=>some (.inr (a0,a1,a2)))
def Sz:Nat->cz->Int->Int->ag->ag->ax->ax->Option (Sum iw Unit)
 |0,_,_,_,_,_,_,_=>none
 |k+1,v0,v1,v2,v3,v4,v5,v6=>EH v0 v1 v2 v3 v4 v5 v6 (fun a0 a1 a2=>some (.inl (a0,a1,a2))) (fun a0 a1 a2 a3 a4 a5 a6=>Sz k a0 a1 a2 a3 a4 a5 a6) (some (.inr ()))
def qx(a:al)(b c:ag):Option iw:=
 XR a b c (fun a0 a1 a2 a3 a4 a5=>(Ir ah a0 a1 a2 a3 a4 a5).bind fun e=>Sum.elim (fun(we:lg)=>EE we.1 we.2.1 we.2.2.1 we.2.2.2.1 we.2.2.2.2.1 we.2.2.2.2.2 (fun a0 a1 a2=>some (a0,a1,a2))) (fun(we:lf)=>XT we.1 we.2.1 we.2.2 (fun a0 a1 a2=>some (a0,a1,a2)) (fun a0 a1 a2 a3 a4 a5 a6=>(Is ah a0 a1 a2 a3 a4 a5 a6).bind fun e=>Sum.elim (fun(we:lg)=>EG we.1 we.2.1 we.2.2.1 we.2.2.2.1 we.2.2.2.2.1 we.2.2.2.2.2 (fun a0 a1 a2=>some (a0,a1,a2))) (fun(we:lf)=>XU we.1 we.2.1 we.2.2 (fun a0 a1 a2=>some (a0,a1,a2)) (fun a0 a1 a2 a3 a4 a5 a6=>(Sz ah a0 a1 a2 a3 a4 a5 a6).bind fun e=>Sum.elim (fun(we:iw)=>EI we.1 we.2.1 we.2.2 (fun a0 a1 a2=>some (a0,a1,a2))) (fun(we:Unit)=>z141 (fun a0 a1 a2=>some (a0,a1,a2))) e)) e)) e)
def X4{R:Type}(a:al)(b:ByteArray)(c:ByteArray->aK->Int->Int->Option R):Option R:=
 c b a.1 ((List.length a.1):Int) 0
def ER{R:Type}(a:ByteArray)(b:aK)(c d:Int)(e:ByteArray->Bool->Option R)(f:ByteArray->aK->Int->Int->Option R)(g:Option R):Option R:=
 bif d<c then zd d (List.length b) (bif(List.getD b d.toNat (bs [],bs [],())).1=a then e (List.getD b d.toNat (bs [],bs [],())).2.1 true else f a b c (zW zI (d+1))) else g
def ES{R:Type}(a:ByteArray)(b:Bool)(c:ByteArray->Bool->Option R):Option R:=
 c a b
def ET{R:Type}(a:ByteArray->Bool->Option R):Option R:=
 a (bs []) false
def SD:Nat->ByteArray->aK->Int->Int->Option (Sum gF Unit)
 |0,_,_,_,_=>none
 |k+1,v0,v1,v2,v3=>ER v0 v1 v2 v3 (fun a0 a1=>some (.inl (a0,a1))) (fun a0 a1 a2 a3=>SD k a0 a1 a2 a3) (some (.inr ()))
def sX(a:al)(b:ByteArray):Option gF:=
 X4 a b (fun a0 a1 a2 a3=>(SD ah a0 a1 a2 a3).bind fun e=>Sum.elim (fun(we:gF)=>ES we.1 we.2 (fun a0 a1=>some (a0,a1))) (fun(we:Unit)=>ET (fun a0 a1=>some (a0,a1))) e)
def X2{R:Type}(a:al)(b:Int)(c:Int->cz->Int->Int->aB->Option R):Option R:=
 c b a.2.1 ((List.length a.2.1):Int) 0 (0,0,0,bs [],[],())
def EN{R:Type}(a:Int)(b:cz)(c d:Int)(e:aB)(f:Bool->aB->Option R)(g:Int->cz->Int->Int->aB->Option R)(h:aB->Option R):Option R:=
 bif d<c then zd d (List.length b) (bif(List.getD b d.toNat (0,0,0,bs [],[],())).2.1=a then f true (List.getD b d.toNat (0,0,0,bs [],[],())) else g a b c (zW zI (d+1)) e) else h e
def EO{R:Type}(a:Bool)(b:aB)(c:aB->Bool->Option R):Option R:=
 c b a
def EP{R:Type}(a:aB)(b:aB->Bool->Option R):Option R:=
 b (0,0,0,bs [],[],()) false
def SC:Nat->Int->cz->Int->Int->aB->Option (Sum (Bool×aB) aB)
 |0,_,_,_,_,_=>none
 |k+1,v0,v1,v2,v3,v4=>EN v0 v1 v2 v3 v4 (fun a0 a1=>some (.inl (a0,a1))) (fun a0 a1 a2 a3 a4=>SC k a0 a1 a2 a3 a4) (fun a0=>some (.inr a0))
def nm(a:al)(b:Int):Option (aB×Bool):=
 X2 a b (fun a0 a1 a2 a3 a4=>(SC ah a0 a1 a2 a3 a4).bind fun e=>Sum.elim (fun(we:(Bool×aB))=>EO we.1 we.2 (fun a0 a1=>some (a0,a1))) (fun(we:aB)=>EP we (fun a0 a1=>some (a0,a1))) e)
def XX{R:Type}(a:al)(b c:ag)(d:af)(e:af->ax->Option R)(f:cz->Int->Int->al->ag->af->af->ax->af->Option R):Option R:=
 (qx a b c).bind fun r1=>bif !decide (r1.1=0) then e (bs [],[],()) (1,(-1:Int),()) else(qo b d).bind fun r2=>bif !decide (r2.1=0) then e (bs [],[],()) r2 else(sX a d.1).bind fun r3=>bif !r3.2 then e (bs [],[],()) (7,0,()) else f a.2.1 ((List.length a.2.1):Int) 0 a c d (bs [],[],()) (0,0,()) (r3.1,[],())
def z143{R:Type}(a:cz)(b c:Int)(d:al)(e:ag)(f g:af)(h:ax)(i:af)(j:cz->Int->Int->al->ag->af->af->ax->af->Option R)(l:al->ag->af->af->ax->af->Option R):Option R:=
 bif c<b then zd c (List.length a) (bif(List.getD a c.toNat (0,0,0,bs [],[],())).1=3 then(gB i (List.getD a c.toNat (0,0,0,bs [],[],())).2.2.1 (List.getD a c.toNat (0,0,0,bs [],[],())).2.2.2.1).bind fun r4=>j a b (zW zI (c+1)) d e f g h r4 else j a b (zW zI (c+1)) d e f g h i) else l d e f g h i
def XY{R:Type}(a:al)(b:ag)(c d:af)(e:ax)(f:af)(g:ak->Int->Int->al->ag->af->ax->af->Option R):Option R:=
 g c.2.1 ((List.length c.2.1):Int) 0 a b d e f
def EK{R:Type}(a:ak)(b c:Int)(d:al)(e:ag)(f:af)(g:ax)(h:af)(i:af->ax->af->Option R)(j:ak->Int->Int->al->ag->af->ax->af->Option R)(l:af->ax->af->Option R):Option R:=
 bif c<b then zd c (List.length a) ((nm d (List.getD a c.toNat (0,bs [],())).1).bind fun r5=>bif !r5.2 then i (bs [],[],()) (9,(List.getD a c.toNat (0,bs [],())).1,()) h else(nh r5.1 e (List.getD a c.toNat (0,bs [],())).2.1).bind fun r6=>bif !decide (r6.2=0) then i (bs [],[],()) (r6.2,(List.getD a c.toNat (0,bs [],())).1,()) h else bif !decide (r6.1.1=0) then(gB h r6.1.1 r6.1.2.1).bind fun r7=>j a b (zW zI (c+1)) d e f g r7 else j a b (zW zI (c+1)) d e f g h) else l f g h
def z145{R:Type}(a:af)(b:ax)(c:af)(d:af->ax->Option R):Option R:=
 d a b
def EL{R:Type}(a:af)(b:ax)(c:af)(d:af->ax->Option R):Option R:=
 d c (0,0,())
def SA:Nat->cz->Int->Int->al->ag->af->af->ax->af->Option (al×ag×af×af×ax×af)
 |0,_,_,_,_,_,_,_,_,_=>none
 |k+1,v0,v1,v2,v3,v4,v5,v6,v7,v8=>z143 v0 v1 v2 v3 v4 v5 v6 v7 v8 (fun a0 a1 a2 a3 a4 a5 a6 a7 a8=>SA k a0 a1 a2 a3 a4 a5 a6 a7 a8) (fun a0 a1 a2 a3 a4 a5=>some (a0,a1,a2,a3,a4,a5))
def SB:Nat->ak->Int->Int->al->ag->af->ax->af->Option (Sum nu nu)
 |0,_,_,_,_,_,_,_,_=>none
 |k+1,v0,v1,v2,v3,v4,v5,v6,v7=>EK v0 v1 v2 v3 v4 v5 v6 v7 (fun a0 a1 a2=>some (.inl (a0,a1,a2))) (fun a0 a1 a2 a3 a4 a5 a6 a7=>SB k a0 a1 a2 a3 a4 a5 a6 a7) (fun a0 a1 a2=>some (.inr (a0,a1,a2)))
def qy(a:al)(b c:ag)(d:af):Option (af×ax):=
 XX a b c d (fun a0 a1=>some (a0,a1)) (fun a0 a1 a2 a3 a4 a5 a6 a7 a8=>(SA ah a0 a1 a2 a3 a4 a5 a6 a7 a8).bind fun e=>XY e.1 e.2.1 e.2.2.1 e.2.2.2.1 e.2.2.2.2.1 e.2.2.2.2.2 (fun a0 a1 a2 a3 a4 a5 a6 a7=>(SB ah a0 a1 a2 a3 a4 a5 a6 a7).bind fun e=>Sum.elim (fun(we:nu)=>z145 we.1 we.2.1 we.2.2 (fun a0 a1=>some (a0,a1))) (fun(we:nu)=>EL we.1 we.2.1 we.2.2 (fun a0 a1=>some (a0,a1))) e))
def Xm{R:Type}(a:(List Int))(b:Int)(c:(List Int)->Int->Int->Int->Option R):Option R:=
 c a b ((List.length a):Int) 0
def En{R:Type}(a:(List Int))(b c d:Int)(e:Int->Option R)(f:(List Int)->Int->Int->Int->Option R)(g:Option R):Option R:=
 bif d<c then zd d (List.length a) (bif b=List.getD a d.toNat 0 then e d else f a b c (zW zI (d+1))) else g
def Eo{R:Type}(a:Int)(b:Int->Option R):Option R:=
 b a
def Ep{R:Type}(a:Int->Option R):Option R:=
 a (-1:Int)
def Sw:Nat->(List Int)->Int->Int->Int->Option (Sum Int Unit)
 |0,_,_,_,_=>none
 |k+1,v0,v1,v2,v3=>En v0 v1 v2 v3 (fun a0=>some (.inl a0)) (fun a0 a1 a2 a3=>Sw k a0 a1 a2 a3) (some (.inr ()))
def vv(a:(List Int))(b:Int):Option Int:=
 Xm a b (fun a0 a1 a2 a3=>(Sw ah a0 a1 a2 a3).bind fun e=>Sum.elim (fun(we:Int)=>Eo we (fun a0=>some a0)) (fun(we:Unit)=>Ep (fun a0=>some a0)) e)
def Xg{R:Type}(a:(List Int))(b:Int)(c:Bool->Option R):Option R:=
 (vv a b).bind fun r1=>c (decide (0<=r1))
def sP(a:(List Int))(b:Int):Option Bool:=
 Xg a b (fun a0=>some a0)
def WX{R:Type}(a:au)(b:Int)(c:Int->Option R):Option R:=
 zd b (List.length a.2.2.1) ((fb a.1 (List.getD a.2.2.1 b.toNat (0:Int))).bind fun r1=>bif !r1.2 then c 9 else bif List.getD a.2.2.1 b.toNat 0=39 then c 1 else bif 0<=b then bif b<=(((List.length a.2.2.1):Nat):Int) then(sP (List.drop 0 (List.take b.toNat a.2.2.1)) (List.getD a.2.2.1 b.toNat (0:Int))).bind fun r2=>bif r2 then c 10 else c 0 else none else none)
def sL(a:au)(b:Int):Option Int:=
 WX a b (fun a0=>some a0)
def WW{R:Type}(a b:cn)(c:Bool->cn->Option R):Option R:=
 c (decide (a.1=b.1)) b
def qu(a b:cn):Option (Bool×cn):=
 WW a b (fun a0 a1=>some (a0,a1))
def Xi{R:Type}(a:ak)(b:cn)(c:ak->Int->Int->cn->Option R):Option R:=
 c a ((List.length a):Int) 0 b
def z139{R:Type}(a:ak)(b c:Int)(d:cn)(e:Int->cn->Option R)(f:ak->Int->Int->cn->Option R)(g:cn->Option R):Option R:=
 bif c<b then zd c (List.length a) ((qu (List.getD a c.toNat (0,bs [],())) d).bind fun r1=>bif r1.1 then e c r1.2 else f a b (zW zI (c+1)) r1.2) else g d
def Ef{R:Type}(a:Int)(b:cn)(c:Int->cn->Option R):Option R:=
 c a b
def Eg{R:Type}(a:cn)(b:Int->cn->Option R):Option R:=
 b (-1:Int) a
def Su:Nat->ak->Int->Int->cn->Option (Sum (Int×cn) cn)
 |0,_,_,_,_=>none
 |k+1,v0,v1,v2,v3=>z139 v0 v1 v2 v3 (fun a0 a1=>some (.inl (a0,a1))) (fun a0 a1 a2 a3=>Su k a0 a1 a2 a3) (fun a0=>some (.inr a0))
def vu(a:ak)(b:cn):Option (Int×cn):=
 Xi a b (fun a0 a1 a2 a3=>(Su ah a0 a1 a2 a3).bind fun e=>Sum.elim (fun(we:(Int×cn))=>Ef we.1 we.2 (fun a0 a1=>some (a0,a1))) (fun(we:cn)=>Eg we (fun a0 a1=>some (a0,a1))) e)
def Xf{R:Type}(a:ak)(b:cn)(c:Bool->cn->Option R):Option R:=
 (vu a b).bind fun r1=>c (decide (0<=r1.1)) r1.2
def sO(a:ak)(b:cn):Option (Bool×cn):=
 Xf a b (fun a0 a1=>some (a0,a1))
def WV{R:Type}(a:au)(b:Int)(c:ap)(d:Int->Option R):Option R:=
 zd b (List.length a.2.2.2.1) (bif(List.getD a.2.2.2.1 b.toNat (0,bs [],())).1<0 then d 1 else bif 16<(List.getD a.2.2.2.1 b.toNat (0,bs [],())).1 then d 1 else bif 0<=b then bif b<=(((List.length a.2.2.2.1):Nat):Int) then(sO (List.drop 0 (List.take b.toNat a.2.2.2.1)) (List.getD a.2.2.2.1 b.toNat (0,bs [],()))).bind fun r1=>bif r1.1 then d 10 else(bH c r1.2.2.1).bind fun r2=>d r2 else none else none)
def sK(a:au)(b:Int)(c:ap):Option Int:=
 WV a b c (fun a0=>some a0)
def WN{R:Type}(a:au)(b:Int->Int->Int->Option R)(c:Int->Int->au->ap->Option R):Option R:=
 (lX a.1).bind fun r1=>bif !decide (r1.1=0) then b 1 1 0 else(fb a.1 (39:Int)).bind fun r2=>bif !r2.2 then b 9 1 1 else c ((List.length a.2.2.1):Int) 0 a r2.1
def So{R:Type}(a b:Int)(c:au)(d:ap)(e:Int->Int->Int->au->ap->Option R)(f:Int->Int->au->ap->Option R)(g:au->ap->Option R):Option R:=
 bif b<a then(sL c b).bind fun r3=>bif !decide (r3=0) then e r3 2 b c d else f a (zW zI (b+1)) c d else g c d
def DW{R:Type}(a b c:Int)(d:au)(e:ap)(f:Int->Int->Int->Option R):Option R:=
 f a b c
def WO{R:Type}(a:au)(b:ap)(c:Bool->ak->Int->Int->au->ap->Option R):Option R:=
 c false a.2.2.2.1 ((List.length a.2.2.2.1):Int) 0 a b
def Sp{R:Type}(a:Bool)(b:ak)(c d:Int)(e:au)(f:ap)(g:Int->Int->Int->Bool->au->Option R)(h:Bool->ak->Int->Int->au->ap->Option R)(i:Bool->au->Option R):Option R:=
 bif d<c then zd d (List.length b) ((sK e d f).bind fun r4=>bif !decide (r4=0) then g r4 3 d a e else bif a then h true b c (zW zI (d+1)) e f else h (decide ((List.getD b d.toNat (0,bs [],())).1=0)) b c (zW zI (d+1)) e f) else i a e
def DX{R:Type}(a b c:Int)(d:Bool)(e:au)(f:Int->Int->Int->Option R):Option R:=
 f a b c
def WQ{R:Type}(a:Bool)(b:au)(c:Int->Int->Int->Option R):Option R:=
 bif !a then c 15 3 ((List.length b.2.2.2.1):Int) else c 0 0 0
def GQ:Nat->Int->Int->au->ap->Option (Sum (Int×Int×Int×au×ap) (au×ap))
 |0,_,_,_,_=>none
 |k+1,v0,v1,v2,v3=>So v0 v1 v2 v3 (fun a0 a1 a2 a3 a4=>some (.inl (a0,a1,a2,a3,a4))) (fun a0 a1 a2 a3=>GQ k a0 a1 a2 a3) (fun a0 a1=>some (.inr (a0,a1)))
def GR:Nat->Bool->ak->Int->Int->au->ap->Option (Sum (Int×Int×Int×Bool×au) (Bool×au))
 |0,_,_,_,_,_,_=>none
 |k+1,v0,v1,v2,v3,v4,v5=>Sp v0 v1 v2 v3 v4 v5 (fun a0 a1 a2 a3 a4=>some (.inl (a0,a1,a2,a3,a4))) (fun a0 a1 a2 a3 a4 a5=>GR k a0 a1 a2 a3 a4 a5) (fun a0 a1=>some (.inr (a0,a1)))
def sI(a:au):Option iw:=
 WN a (fun a0 a1 a2=>some (a0,a1,a2)) (fun a0 a1 a2 a3=>(GQ ah a0 a1 a2 a3).bind fun e=>Sum.elim (fun(we:(Int×Int×Int×au×ap))=>DW we.1 we.2.1 we.2.2.1 we.2.2.2.1 we.2.2.2.2 (fun a0 a1 a2=>some (a0,a1,a2))) (fun(we:(au×ap))=>WO we.1 we.2 (fun a0 a1 a2 a3 a4 a5=>(GR ah a0 a1 a2 a3 a4 a5).bind fun e=>Sum.elim (fun(we:(Int×Int×Int×Bool×au))=>DX we.1 we.2.1 we.2.2.1 we.2.2.2.1 we.2.2.2.2 (fun a0 a1 a2=>some (a0,a1,a2))) (fun(we:(Bool×au))=>WQ we.1 we.2 (fun a0 a1 a2=>some (a0,a1,a2))) e)) e)
def WT{R:Type}(a:au)(b:Int)(c:(List Int)->Int->Int->au->Option R):Option R:=
 c ([b,0]:List Int) ((List.length ([b,(0:Int)]:List Int)):Int) 0 a
def Sq{R:Type}(a:(List Int))(b c:Int)(d:au)(e:Int->(List Int)->Int->Int->ak->Int->Int->au->Option R)(f:Option R):Option R:=
 bif c<b then zd c (List.length a) (e (List.getD a c.toNat 0) a b c d.2.2.2.1 ((List.length d.2.2.2.1):Int) 0 d) else f
def D0{R:Type}(a:ByteArray->Option R):Option R:=
 a (bs [])
def D1{R:Type}(a:Int)(b:(List Int))(c d:Int)(e:ak)(f g:Int)(h:au)(i:ByteArray->(List Int)->Int->Int->au->Option R)(j:Int->(List Int)->Int->Int->ak->Int->Int->au->Option R)(l:(List Int)->Int->Int->au->Option R):Option R:=
 bif g<f then zd g (List.length e) (bif(List.getD e g.toNat (0,bs [],())).1=a then i (List.getD e g.toNat (0,bs [],())).2.1 b c d h else j a b c d e f (zW zI (g+1)) h) else l b c d h
def D2{R:Type}(a:ByteArray)(b:(List Int))(c d:Int)(e:au)(f:ByteArray->Option R):Option R:=
 f a
def WU{R:Type}(a:(List Int))(b c:Int)(d:au)(e:(List Int)->Int->Int->au->Option R):Option R:=
 e a b (zW zI (c+1)) d
def D3{R:Type}(a:ByteArray)(b:ByteArray->Option R):Option R:=
 b a
def Ik:Nat->Int->(List Int)->Int->Int->ak->Int->Int->au->Option (Sum (ByteArray×(List Int)×Int×Int×au) ((List Int)×Int×Int×au))
 |0,_,_,_,_,_,_,_,_=>none
 |k+1,v0,v1,v2,v3,v4,v5,v6,v7=>D1 v0 v1 v2 v3 v4 v5 v6 v7 (fun a0 a1 a2 a3 a4=>some (.inl (a0,a1,a2,a3,a4))) (fun a0 a1 a2 a3 a4 a5 a6 a7=>Ik k a0 a1 a2 a3 a4 a5 a6 a7) (fun a0 a1 a2 a3=>some (.inr (a0,a1,a2,a3)))
def AY:Nat->(List Int)->Int->Int->au->Option (Sum Unit ByteArray)
 |0,_,_,_,_=>none
 |k+1,v0,v1,v2,v3=>Sq v0 v1 v2 v3 (fun a0 a1 a2 a3 a4 a5 a6 a7=>(Ik ah a0 a1 a2 a3 a4 a5 a6 a7).bind fun e=>Sum.elim (fun(we:(ByteArray×(List Int)×Int×Int×au))=>D2 we.1 we.2.1 we.2.2.1 we.2.2.2.1 we.2.2.2.2 (fun a0=>some (.inr a0))) (fun(we:((List Int)×Int×Int×au))=>WU we.1 we.2.1 we.2.2.1 we.2.2.2 (fun a0 a1 a2 a3=>AY k a0 a1 a2 a3)) e) (some (.inl ()))
def sJ(a:au)(b:Int):Option ByteArray:=
 WT a b (fun a0 a1 a2 a3=>(AY ah a0 a1 a2 a3).bind fun e=>Sum.elim (fun(we:Unit)=>D0 (fun a0=>some a0)) (fun(we:ByteArray)=>D3 we (fun a0=>some a0)) e)
def WJ{R:Type}(a:au)(b:af)(c:ax)(d:af->Bool->Option R)(e:(List Int)->Int->Int->au->af->ax->af->af->Option R):Option R:=
 (sF b.1).bind fun r1=>bif !r1.2 then d (bs [],[],()) false else e a.2.2.1 ((List.length a.2.2.1):Int) 0 a b c (bs [],[],()) (r1.1,[],())
def DT{R:Type}(a:(List Int))(b c:Int)(d:au)(e:af)(f:ax)(g h:af)(i:(List Int)->Int->Int->au->af->ax->af->af->Option R)(j:au->ax->af->af->Option R):Option R:=
 bif c<b then zd c (List.length a) ((nb e (List.getD a c.toNat (0:Int))).bind fun r2=>bif r2.2 then(gB h (List.getD a c.toNat 0) r2.1).bind fun r3=>i a b (zW zI (c+1)) d e f g r3 else i a b (zW zI (c+1)) d e f g h) else j d f g h
def WK{R:Type}(a:au)(b:ax)(c d:af)(e:af->Bool->Option R):Option R:=
 (sJ a b.1).bind fun r4=>(gB d 39 r4).bind fun r5=>e r5 true
def Sn:Nat->(List Int)->Int->Int->au->af->ax->af->af->Option (au×ax×af×af)
 |0,_,_,_,_,_,_,_,_=>none
 |k+1,v0,v1,v2,v3,v4,v5,v6,v7=>DT v0 v1 v2 v3 v4 v5 v6 v7 (fun a0 a1 a2 a3 a4 a5 a6 a7=>Sn k a0 a1 a2 a3 a4 a5 a6 a7) (fun a0 a1 a2 a3=>some (a0,a1,a2,a3))
def sH(a:au)(b:af)(c:ax):Option (af×Bool):=
 WJ a b c (fun a0 a1=>some (a0,a1)) (fun a0 a1 a2 a3 a4 a5 a6 a7=>(Sn ah a0 a1 a2 a3 a4 a5 a6 a7).bind fun e=>WK e.1 e.2.1 e.2.2.1 e.2.2.2 (fun a0 a1=>some (a0,a1)))
def Xu{R:Type}(a:ag)(b:ByteArray)(c:ByteArray->Int->Int->Option R):Option R:=
 bif a.1=2 then(Q2 (4:Int)).bind fun r1=>bif(b.size:Int)<r1 then c (bs []) 0 2 else bif 0<=r1 then bif r1<=(b.size:Int) then bif a.1=2 then(Q0 (b.extract 0 r1.toNat) (4:Int)).bind fun r2=>(iO r2.1).bind fun r3=>bif !r3.2 then c (bs []) 0 7 else bif !decide (r3.1=a.2.1) then c (bs []) 0 7 else c r2.1 r1 0 else(iO (b.extract 0 r1.toNat)).bind fun r4=>bif !r4.2 then c (bs []) 0 7 else bif !decide (r4.1=a.2.1) then c (bs []) 0 7 else c (b.extract 0 r1.toNat) r1 0 else none else none else bif(b.size:Int)<4 then c (bs []) 0 2 else bif 4<=(b.size:Int) then bif a.1=2 then(Q0 (b.extract 0 ((4:Int)).toNat) (4:Int)).bind fun r5=>(iO r5.1).bind fun r6=>bif !r6.2 then c (bs []) 0 7 else bif !decide (r6.1=a.2.1) then c (bs []) 0 7 else c r5.1 4 0 else(iO (b.extract 0 ((4:Int)).toNat)).bind fun r7=>bif !r7.2 then c (bs []) 0 7 else bif !decide (r7.1=a.2.1) then c (bs []) 0 7 else c (b.extract 0 ((4:Int)).toNat) 4 0 else none
def sR(a:ag)(b:ByteArray):Option iT:=
 Xu a b (fun a0 a1 a2=>some (a0,a1,a2))
def Xt{R:Type}(a:ag)(b:ByteArray)(c:af->ax->Option R)(d:ByteArray->Int->Int->ag->af->ax->af->ax->Option R):Option R:=
 (lX a).bind fun r1=>bif !decide (r1.1=0) then c (bs [],[],()) (1,(-1:Int),()) else(sR a b).bind fun r2=>bif !decide (r2.2.2=0) then c (bs [],[],()) (r2.2.2,0,()) else(Q5 a.1 b r2.2.1).bind fun r3=>bif !decide (r3.2.2=0) then c (r2.1,[],()) (r3.2.2,1,()) else(Hw r3.1 (0:Int)).bind fun r4=>d b r3.2.1 r4 a (bs [],[],()) (0,0,()) (r2.1,[],()) r3.1
def Sx{R:Type}(a:ByteArray)(b c:Int)(d:ag)(e:af)(f:ax)(g:af)(h:ax)(i:ByteArray->Int->af->ax->af->Option R)(j:ByteArray->Int->Int->ag->af->ax->af->ax->Option R)(l:ByteArray->Int->af->ax->af->Option R):Option R:=
 bif !decide (c=0) then(fb d c).bind fun r5=>bif !r5.2 then i a b g (9,c,()) g else(Jd d.1 r5.1 a b).bind fun r6=>bif !decide (r6.2.2=0) then i a b g (r6.2.2,c,()) g else bif(List.length g.2.1+List.length ([(c,r6.1,())]:List cn))*24<=140737488355328 then(Hw h c).bind fun r7=>j a r6.2.1 r7 d e f (g.1,g.2.1++([(c,r6.1,())]:List cn),()) h else none else l a b e f g
def Es{R:Type}(a:ByteArray)(b:Int)(c:af)(d:ax)(e:af)(f:af->ax->Option R):Option R:=
 f c d
def Et{R:Type}(a:ByteArray)(b:Int)(c:af)(d:ax)(e:af)(f:af->ax->Option R):Option R:=
 bif b<(a.size:Int) then f e (12,129,()) else f e (0,0,())
def GV:Nat->ByteArray->Int->Int->ag->af->ax->af->ax->Option (Sum iS iS)
 |0,_,_,_,_,_,_,_,_=>none
 |k+1,v0,v1,v2,v3,v4,v5,v6,v7=>Sx v0 v1 v2 v3 v4 v5 v6 v7 (fun a0 a1 a2 a3 a4=>some (.inl (a0,a1,a2,a3,a4))) (fun a0 a1 a2 a3 a4 a5 a6 a7=>GV k a0 a1 a2 a3 a4 a5 a6 a7) (fun a0 a1 a2 a3 a4=>some (.inr (a0,a1,a2,a3,a4)))
def qw(a:ag)(b:ByteArray):Option (af×ax):=
 Xt a b (fun a0 a1=>some (a0,a1)) (fun a0 a1 a2 a3 a4 a5 a6 a7=>(GV ah a0 a1 a2 a3 a4 a5 a6 a7).bind fun e=>Sum.elim (fun(we:iS)=>Es we.1 we.2.1 we.2.2.1 we.2.2.2.1 we.2.2.2.2 (fun a0 a1=>some (a0,a1))) (fun(we:iS)=>Et we.1 we.2.1 we.2.2.1 we.2.2.2.1 we.2.2.2.2 (fun a0 a1=>some (a0,a1))) e)
def XM{R:Type}(a:Int)(b:ByteArray)(c:ByteArray->Bool->Option R):Option R:=
 (ng b).bind fun r1=>bif !r1 then c (bs []) false else bif a=1 then c b true else bif a=2 then(Q1 b).bind fun r2=>c r2.1 r2.2 else c (bs []) false
def sW(a:Int)(b:ByteArray):Option gF:=
 XM a b (fun a0 a1=>some (a0,a1))
def XL{R:Type}(a b:ByteArray)(c:ByteArray->Option R):Option R:=
 (TY b a).bind fun r1=>c r1.2
def jn(a b:ByteArray):Option ByteArray:=
 XL a b (fun a0=>some a0)
def XK{R:Type}(a:ag)(b:af)(c:ByteArray->ax->Option R)(d:ak->Int->Int->ag->ax->ByteArray->Option R):Option R:=
 (qo a b).bind fun r1=>bif !decide (r1.1=0) then c (bs []) r1 else(sW a.1 b.1).bind fun r2=>(jn r2.1 (bs [])).bind fun r3=>(sC b).bind fun r4=>(Q6 a.1 r4).bind fun r5=>(jn r5.1 r3).bind fun r6=>d b.2.1 ((List.length b.2.1):Int) 0 a (0,0,()) r6
def Ez{R:Type}(a:ak)(b c:Int)(d:ag)(e:ax)(f:ByteArray)(g:ak->Int->Int->ag->ax->ByteArray->Option R)(h:ax->ByteArray->Option R):Option R:=
 bif c<b then zd c (List.length a) ((fb d (List.getD a c.toNat (0,bs [],())).1).bind fun r7=>(Bj d.1 r7.1 (List.getD a c.toNat (0,bs [],())).2.1).bind fun r8=>(jn r8.1 f).bind fun r9=>g a b (zW zI (c+1)) d e r9) else h e f
def EA{R:Type}(a:ax)(b:ByteArray)(c:ByteArray->ax->Option R):Option R:=
 (z5g b).bind fun j6=>c j6.1 (0,0,())
def Sy:Nat->ak->Int->Int->ag->ax->ByteArray->Option (ax×ByteArray)
 |0,_,_,_,_,_,_=>none
 |k+1,v0,v1,v2,v3,v4,v5=>Ez v0 v1 v2 v3 v4 v5 (fun a0 a1 a2 a3 a4 a5=>Sy k a0 a1 a2 a3 a4 a5) (fun a0 a1=>some (a0,a1))
def nk(a:ag)(b:af):Option (ByteArray×ax):=
 XK a b (fun a0 a1=>some (a0,a1)) (fun a0 a1 a2 a3 a4 a5=>(Sy ah a0 a1 a2 a3 a4 a5).bind fun e=>EA e.1 e.2 (fun a0 a1=>some (a0,a1)))
def WZ{R:Type}(a:bC)(b:Int->Int->Int->Option R)(c:l7->Int->bC->Option R):Option R:=
 bif a.2.1<1 then b 5 2 0 else bif 65535<a.2.1 then b 5 2 0 else c a.1 0 a
def Il{R:Type}(a:l7)(b:Int)(c:bC)(d:Int->Int->Int->Option R)(e:l7->Int->bC->Option R)(f:Option R):Option R:=
 bif b<2 then zd b 2 ((sI (List.getD a b.toNat ((0,0,[],()),([],[],()),[],[],()))).bind fun r1=>bif !decide (r1.1=0) then d r1.1 b 1 else zd (zW zI (1-b)) 2 ((qx (List.getD a b.toNat ((0,0,[],()),([],[],()),[],[],())).2.1 (List.getD a b.toNat ((0,0,[],()),([],[],()),[],[],())).1 (List.getD c.1 (zW zI (1-b)).toNat ((0,0,[],()),([],[],()),[],[],())).1).bind fun r2=>bif !decide (r2.1=0) then d r2.1 b 2 else e a (zW zI (b+1)) c)) else f
def D5{R:Type}(a b c:Int)(d:Int->Int->Int->Option R):Option R:=
 d a b c
def D6{R:Type}(a:Int->Int->Int->Option R):Option R:=
 a 0 0 0
def GU:Nat->l7->Int->bC->Option (Sum iw Unit)
 |0,_,_,_=>none
 |k+1,v0,v1,v2=>Il v0 v1 v2 (fun a0 a1 a2=>some (.inl (a0,a1,a2))) (fun a0 a1 a2=>GU k a0 a1 a2) (some (.inr ()))
def qv(a:bC):Option iw:=
 WZ a (fun a0 a1 a2=>some (a0,a1,a2)) (fun a0 a1 a2=>(GU ah a0 a1 a2).bind fun e=>Sum.elim (fun(we:iw)=>D5 we.1 we.2.1 we.2.2 (fun a0 a1 a2=>some (a0,a1,a2))) (fun(we:Unit)=>D6 (fun a0 a1 a2=>some (a0,a1,a2))) e)
def W3{R:Type}(a:af)(b:ax)(c:au)(d:bC)(e:Int->ByteArray->Option R):Option R:=
 (sH c a b).bind fun r1=>bif !r1.2 then e 3 (bs []) else(nk c.1 r1.1).bind fun r2=>bif r2.1=bs [] then e 3 (bs []) else bif d.2.1<(r2.1.size:Int) then e 3 (bs []) else e 2 r2.1
def kc(a:af)(b:ax)(c:au)(d:bC):Option KZ:=
 W3 a b c d (fun a0 a1=>some (a0,a1))
def W0{R:Type}(a:bC)(b:Int)(c:ByteArray)(d:Int->ByteArray->Option R):Option R:=
 (qv a).bind fun r1=>bif !decide (r1.1=0) then d 0 (bs []) else bif b<0 then d 0 (bs []) else bif 1<b then d 0 (bs []) else zd b 2 (zd (zW zI (1-b)) 2 ((qw (List.getD a.1 b.toNat ((0,0,[],()),([],[],()),[],[],())).1 c).bind fun r2=>bif !decide (r2.2.1=0) then(kc r2.1 r2.2 (List.getD a.1 b.toNat ((0,0,[],()),([],[],()),[],[],())) a).bind fun r3=>d r3.1 r3.2 else(qy (List.getD a.1 b.toNat ((0,0,[],()),([],[],()),[],[],())).2.1 (List.getD a.1 b.toNat ((0,0,[],()),([],[],()),[],[],())).1 (List.getD a.1 (zW zI (1-b)).toNat ((0,0,[],()),([],[],()),[],[],())).1 r2.1).bind fun r4=>bif !decide (r4.2.1=0) then(kc r2.1 r4.2 (List.getD a.1 b.toNat ((0,0,[],()),([],[],()),[],[],())) a).bind fun r5=>d r5.1 r5.2 else(nk (List.getD a.1 (zW zI (1-b)).toNat ((0,0,[],()),([],[],()),[],[],())).1 r4.1).bind fun r6=>bif a.2.1<(r6.1.size:Int) then(kc r2.1 (5,129,()) (List.getD a.1 b.toNat ((0,0,[],()),([],[],()),[],[],())) a).bind fun r7=>d r7.1 r7.2 else d 1 r6.1))
def lU(a:bC)(b:Int)(c:ByteArray):Option KZ:=
 W0 a b c (fun a0 a1=>some (a0,a1))
def Fw{R:Type}(a:Bool->Option R):Option R:=
 Bl.bind fun r1=>(lU r1 0 (bs [48,56,48,48,48,48,50,48,48,48,48,48,48,48,48,48,48,48,48,48,48,48,48,48,48,49])).bind fun r2=>(lU r1 0 (bs [48,56,48,48,48,48,50,48,48,48,48,48,48,48,48,48,48,48,48,48,48,48,48,48,48])).bind fun r3=>(lU r1 0 (bs [48,56,49,48,120])).bind fun r4=>(qv r1).bind fun r5=>bif r2.1=1 then bif r2.2=bs [24,4,0,32,0,64,0,0,0,0,0,0,1,89,153] then bif r3.1=2 then bif r3.2=bs [48,56,49,48,48,48,48,48,48,48,48,48,48,50,48,48,48,48,48,48,51,48] then bif r4.1=3 then bif r4.2=bs [] then bif r5.1=0 then bif r5.2.1=0 then a (decide (r5.2.2=0)) else a false else a false else a false else a false else a false else a false else a false else a false
def Bp:Option Bool:=
 Fw (fun a0=>some a0)
def ZC{R:Type}(a:bC)(b:Int)(c:ByteArray)(d:Bool->Option R):Option R:=
 Bp.bind fun r1=>bif !r1 then Bp.bind fun r2=>d r2 else(qn a).bind fun r3=>bif r3 then Bp.bind fun r4=>d r4 else bif 3000<(c.size:Int) then Bp.bind fun r5=>d r5 else(sr a).bind fun r6=>(lU r6 b c).bind fun r7=>(su a).bind fun r8=>bif !r8 then bif r7.1=0 then d (decide (r7.2=bs [])) else d false else bif b<0 then bif r7.1=0 then d (decide (r7.2=bs [])) else d false else bif 1<b then bif r7.1=0 then d (decide (r7.2=bs [])) else d false else(ss a b c).bind fun r9=>bif r7.1=r9.1 then d (decide (r7.2=r9.2)) else d false
def JE(a:bC)(b:Int)(c:ByteArray):Option Bool:=
 ZC a b c (fun a0=>some a0)
end bF

namespace bF
open Go.IntKind renaming wrap->zW,i64->zI,u8->zU
theorem zT{p:Prop}[Decidable p](h:p):decide p=true:=_root_.decide_eq_true h
theorem zF{p:Prop}[Decidable p](h:¬p):decide p=false:=_root_.decide_eq_false h
theorem zC{α:Type}{a b:α}:(bif true then a else b)=a:=rfl
theorem zD{α:Type}{a b:α}:(bif false then a else b)=b:=rfl
open Go Go.Ref
theorem zn:ah=18446744073709551616:=by unfold ah;rfl
theorem zj:maxLen=9223372036854775807:=rfl
theorem zi{x:Int}(h1: -9223372036854775808<=x)(h2:x<=9223372036854775807):zW zI x=x:=Gk h1 h2
theorem z49{n:Nat}(h:n<=9223372036854775807):zW zI (n:Int)=n:=Gk (by omega) (by omega)
theorem zo{j:Nat}(h:j<9223372036854775807):zW zI ((j:Int)+1)=((j+1:Nat):Int):=by
 rw[Gk (by omega) (by omega)];rfl
theorem Qk(x:Int):IntKind.u64.wrap x=x % 18446744073709551616:=by
 simp [IntKind.wrap,IntKind.signed,IntKind.bits]
theorem ap9(x:Int):zW zU x=x % 256:=by
 simp [IntKind.wrap,IntKind.signed,IntKind.bits]
theorem ap8{x:Int}(h1:0<=x)(h2:x<18446744073709551616):IntKind.u64.wrap x=x:=by rw[Qk];omega
theorem ui{x:Int}(h1:0<=x)(h2:x<256):zW zU x=x:=by rw[ap9];omega
theorem zh{R:Type}{j n:Nat}{x:Option R}(h:j<n):zd (j:Int) n x=x:=aim h
theorem zl{R:Type}{i:Int}{n:Nat}{x:Option R}(h0:0<=i)(h:i<n):zd i n x=x:=by
 unfold zd
 rw[zT h0,zT h];rfl
theorem an0{R:Type}{p:Prop}[Decidable p](x y:R):(bif decide p then x else y)=if p then x else y:=by
 by_cases h:p<;>simp [h]
def bl(s:ByteArray):List Int:=s.data.toList.map fun b=>(b.toNat:Int)
theorem vi{a b:ByteArray}(h:bl a=bl b):a=b:=by
 apply ByteArray.ext
 apply Array.ext'
 unfold bl at h
 have:Function.Injective (fun b:UInt8=>(b.toNat:Int)):=fun x y An=>UInt8.toNat_inj.1 (Int.ofNat.inj An)
 exact(List.map_inj_right (fun x y h=>this h)).1 h
theorem K1{a b:ByteArray}:a=b↔bl a=bl b:=⟨fun h=>by rw[h],vi⟩
theorem zg(s:ByteArray):(bl s).length=s.size:=by unfold bl;rw[List.length_map];rfl
theorem z28(a b:ByteArray):bl (a++b)=bl a++bl b:=by simp [bl,ByteArray.data_append]
theorem uP(s:ByteArray)(i j:Nat):bl (s.extract i j)=((bl s).take j).drop i:=by
 unfold bl
 rw[ByteArray.data_extract,Array.toList_extract,List.extract_eq_drop_take',List.map_drop,List.map_take]
theorem lM(s:ByteArray)(i:Nat):ze s i=(bl s).getD i 0:=by
 unfold ze bl
 split
 ·rename_i h
  have h':i<s.data.toList.length:=h
  rw[List.getD_eq_getElem?_getD,List.getElem?_map,List.getElem?_eq_getElem h']
  rfl
 ·rename_i h
  have h':s.data.toList.length<=i:=Nat.le_of_not_lt h
  rw[List.getD_eq_getElem?_getD,List.getElem?_eq_none (by simpa using h')]
  rfl
def zq(n:Int):Prop:=0<=n/\n<256
theorem im{s:ByteArray}{x:Int}(h:x∈bl s):zq x:=by
 unfold bl at h
 obtain⟨b,_,rfl⟩:=List.mem_map.1 h
 have:=b.toNat_lt
 unfold zq
 omega
theorem rF{xs:List Int}(h:∀x∈xs,zq x):bl (strOf xs)=xs:=by
 simp only[bl,strOf,List.map_map]
 conv=>rhs;rw[<-List.map_id xs]
 apply List.map_congr_left
 intro x hx
 have:=h x hx
 unfold zq at this
 simp only[Function.comp,id]
 rw[UInt8.toNat_ofNat_of_lt' (by show x.toNat<256;omega)]
 omega
theorem z40(s:ByteArray):strOf (bl s)=s:=vi (rF fun x hx=>im hx)
theorem zL{l:List Nat}(h:∀x∈l,x<256):bl (bs l)=l.map (fun n:Nat=>(n:Int)):=by
 simp only[bl,bs,List.map_map]
 apply List.map_congr_left
 intro x hx
 have:=h x hx
 simp only[Function.comp]
 rw[UInt8.toNat_ofNat_of_lt' (by show x<256;omega)]
theorem zta:bl (bs [])=[]:=rfl
theorem ze9{s:ByteArray}:s=bs []↔bl s=[]:=by rw[K1,zta]
theorem lL(xs:List Int):(strOf xs).size=xs.length:=by rw[<-zg];unfold bl strOf;simp
section
variable {α σ ρ:Type}
end
end bF
namespace bF
open Go.IntKind renaming wrap->zW,i64->zI,u8->zU
open Go Go.Ref
section
variable {α σ ρ:Type}
def aU(g:Int->α->σ->(σ->Option ρ)->Option ρ)(fin:σ->Option ρ):List α->Int->σ->Option ρ
 | [],_,s=>fin s
 |x::r,i,s=>g i x s fun s'=>aU g fin r (i+1) s'
theorem QV(d:α)(xs:List α)(hlen:xs.length<=9223372036854775807)(g:Int->α->σ->(σ->Option ρ)->Option ρ)(fin:σ->Option ρ)(L:Nat->Int->σ->Option ρ)
 (step:∀k (i:Int) s,L (k+1) i s=bif decide (i<(xs.length:Int)) then zd i xs.length (g i (xs.getD i.toNat d) s fun s'=>L k (zW zI (i+1)) s') else fin s):
 ∀(m j k:Nat) (s:σ),j+m=xs.length->m<k->L k j s=aU g fin (xs.drop j) j s
 |0,j,k,s,hj,hk=>by
  obtain⟨k,rfl⟩:∃k',k=k'+1:=⟨k-1,by omega⟩
  rw[step,zF (by omega),List.drop_eq_nil_of_le (by omega)];rfl
 |m+1,j,k,s,hj,hk=>by
  obtain⟨k,rfl⟩:∃k',k=k'+1:=⟨k-1,by omega⟩
  have aq:j<xs.length:=by omega
  rw[step,zT (by omega),zC,zh aq,List.drop_eq_getElem_cons aq,aU]
  have hx:xs.getD ((j:Int)).toNat d=xs[j]:=by rw[Int.toNat_natCast,List.getD_eq_getElem?_getD,List.getElem?_eq_getElem aq];rfl
  rw[hx]
  congr 1
  funext s'
  rw[zo (by omega),QV d xs hlen g fin L step m (j+1) k s' (by omega) (by omega)]
  rfl
theorem b7(d:α)(xs:List α)(hlen:xs.length<=maxLen)(g:Int->α->σ->(σ->Option ρ)->Option ρ)(fin:σ->Option ρ)(L:Nat->Int->σ->Option ρ)
 (step:∀k (i:Int) s,L (k+1) i s=bif decide (i<(xs.length:Int)) then zd i xs.length (g i (xs.getD i.toNat d) s fun s'=>L k (zW zI (i+1)) s') else fin s) (s:σ):L ah 0 s=aU g fin xs 0 s:=by
 rw[zj] at hlen
 have:=QV d xs hlen g fin L step xs.length 0 ah s (by omega) (by rw[zn];omega)
 rw[List.drop_zero] at this
 exact this
theorem QW(d:α)(xs:List α)(hlen:xs.length<=9223372036854775807)(g:Int->α->σ->(σ->Option ρ)->Option ρ)(fin:σ->Option ρ)(L:Nat->Int->σ->Option ρ)
 (step:∀k (i:Int) s,0<=i->i<(xs.length:Int)->L (k+1) i s=g i (xs.getD i.toNat d) s fun s'=>L k (zW zI (i+1)) s') (stop:∀k s,L (k+1) (xs.length:Int) s=fin s):
 ∀(m j k:Nat) (s:σ),j+m=xs.length->m<k->L k j s=aU g fin (xs.drop j) j s
 |0,j,k,s,hj,hk=>by
  obtain⟨k,rfl⟩:∃k',k=k'+1:=⟨k-1,by omega⟩
  have:j=xs.length:=by omega
  subst this
  rw[stop,List.drop_length];rfl
 |m+1,j,k,s,hj,hk=>by
  obtain⟨k,rfl⟩:∃k',k=k'+1:=⟨k-1,by omega⟩
  have aq:j<xs.length:=by omega
  rw[step k j s (by omega) (by omega),List.drop_eq_getElem_cons aq,aU]
  have hx:xs.getD ((j:Int)).toNat d=xs[j]:=by rw[Int.toNat_natCast,List.getD_eq_getElem?_getD,List.getElem?_eq_getElem aq];rfl
  rw[hx]
  congr 1
  funext s'
  rw[zo (by omega),QW d xs hlen g fin L step stop m (j+1) k s' (by omega) (by omega)]
  rfl
theorem fH(d:α)(xs:List α)(hlen:xs.length<=maxLen)(g:Int->α->σ->(σ->Option ρ)->Option ρ)(fin:σ->Option ρ)(L:Nat->Int->σ->Option ρ)
 (step:∀k (i:Int) s,0<=i->i<(xs.length:Int)->L (k+1) i s=g i (xs.getD i.toNat d) s fun s'=>L k (zW zI (i+1)) s') (stop:∀k s,L (k+1) (xs.length:Int) s=fin s) (s:σ):L ah 0 s=aU g fin xs 0 s:=by
 rw[zj] at hlen
 have:=QW d xs hlen g fin L step stop xs.length 0 ah s (by omega) (by rw[zn];omega)
 rw[List.drop_zero] at this
 exact this
end
end bF

namespace bF
open Go.IntKind renaming wrap->zW,i64->zI,u8->zU
open Go Go.Ref
theorem AP(n a:Nat)(h:a<2^n):(BitVec.ofInt n (a:Int)).toNat=a:=by
 rw[BitVec.toNat_ofInt]
 have h2:((a:Int)% ((2^n:Nat):Int))=((a % 2^n:Nat):Int):=by rfl
 rw[h2,Int.toNat_natCast,Nat.mod_eq_of_lt h]
theorem ID{a:Nat}(h:a<18446744073709551616):IntKind.u64.wrap (a:Int)=a:=ap8 (by omega) (by omega)
theorem l8{a b:Nat}(ha:a<18446744073709551616)(hb:b<18446744073709551616):aM .and .u64 a b=((a&&&b:Nat):Int):=by
 simp only[aM,BitVec.toNat_and,AP IntKind.u64.bits a ha,AP IntKind.u64.bits b hb]
 exact ID (Nat.lt_of_le_of_lt Nat.and_le_left ha)
theorem xd{a b:Nat}(ha:a<18446744073709551616)(hb:b<18446744073709551616):aM .or .u64 a b=((a|||b:Nat):Int):=by
 simp only[aM,BitVec.toNat_or,AP IntKind.u64.bits a ha,AP IntKind.u64.bits b hb]
 exact ID (Nat.or_lt_two_pow (n:=64) ha hb)
theorem akL{a b:Nat}(ha:a<18446744073709551616)(hb:b<18446744073709551616):aM .andNot .u64 a b=((a&&&(18446744073709551615-b):Nat):Int):=by
 simp only[aM,BitVec.toNat_and,BitVec.toNat_not,AP IntKind.u64.bits a ha,AP IntKind.u64.bits b hb]
 have:2^IntKind.u64.bits-1-b=18446744073709551615-b:=rfl
 rw[this]
 exact ID (Nat.lt_of_le_of_lt Nat.and_le_left ha)
theorem anX{a b:Nat}(ha:a<9223372036854775808)(hb:b<9223372036854775808):aM .and .i64 a b=((a&&&b:Nat):Int):=by
 simp only[aM,BitVec.toNat_and,AP IntKind.i64.bits a (Nat.lt_trans ha (by decide)),AP IntKind.i64.bits b (Nat.lt_trans hb (by decide))]
 have:=Nat.lt_of_le_of_lt (Nat.and_le_left (n:=a) (m:=b)) ha
 exact z49 (by omega)
theorem RF(a:Nat)(k:Nat)(hk:k<=64):Int.fdiv (a:Int) (2^min ((k:Int)).toNat 64)=((a/2^k:Nat):Int):=by
 rw[Int.fdiv_eq_ediv_of_nonneg _ (Int.pow_nonneg (by decide)),Int.toNat_natCast,Nat.min_eq_left hk]
 rfl
section
variable {c0 c1 c2 c3 c4 c5 c6 c7:Nat}
end
def fm(x:Nat):Nat:=if x=0 then 0 else x.log2+1
theorem T4(x:Nat):x<2^fm x/\(x≠0->2^(fm x-1)<=x/\1<=fm x):=by
 unfold fm
 split
 ·simp_all
 ·rename_i h
  exact⟨Nat.lt_log2_self,fun _=>⟨by simpa using Nat.log2_self_le h,by omega⟩⟩
theorem acv{x L:Nat}(h1:x<2^L)(h2:L≠0->2^(L-1)<=x):fm x=L:=by
 obtain⟨g1,g2⟩:=T4 x
 by_cases hx:x=0
 ·subst hx
  by_cases hL:L=0
  ·rw[hL];rfl
  ·have:=h2 hL
   have:=Nat.two_pow_pos (L-1)
   omega
 ·obtain⟨g3,g4⟩:=g2 hx
  rcases Nat.lt_trichotomy (fm x) L with h|h|h
  ·have:=h2 (by omega)
   have:2^fm x<=2^(L-1):=Nat.pow_le_pow_right (by decide) (by omega)
   omega
  ·exact h
  ·have:2^L<=2^(fm x-1):=Nat.pow_le_pow_right (by decide) (by omega)
   omega
theorem za1{x k:Nat}(h:2^k<=x):fm x=fm (x/2^k)+k:=by
 have hp:=Nat.two_pow_pos k
 have hq:x/2^k≠0:=by
  have:=Nat.div_pos h hp
  omega
 obtain⟨g1,g2⟩:=T4 (x/2^k)
 obtain⟨g3,g4⟩:=g2 hq
 apply acv
 ·rw[Nat.pow_add]
  exact(Nat.div_lt_iff_lt_mul hp).1 g1
 ·intro _
  have:fm (x/2^k)+k-1=(fm (x/2^k)-1)+k:=by omega
  rw[this,Nat.pow_add]
  exact(Nat.le_div_iff_mul_le hp).1 g3
def kQ:List Nat:=[0,1,2,2,3,3,3,3,4,4,4,4,4,4,4,4,5,5,5,5,5,5,5,5,5,5,5,5,5,5,5,5]++List.replicate 32 6++List.replicate 64 7++List.replicate 128 8
theorem alN:∀c:Fin 256,kQ.getD c.1 0=fm c.1:=by decide+kernel
def Ar(x:Int):Option Int:=
 let t:Int->Int->Option Int:=fun n x=>zd (zW zU x) (bs kQ).size (some (zW zI (n+zW zI (ze (bs kQ) (zW zU x).toNat))))
 let c:Int->Int->Option Int:=fun n x=>bif decide ((256:Int)<=x) then t (zW zI (n+8)) (Int.fdiv x (2^min ((8:Int)).toNat 64)) else t n x
 let b:Int->Int->Option Int:=fun n x=>bif decide ((65536:Int)<=x) then c (zW zI (n+16)) (Int.fdiv x (2^min ((16:Int)).toNat 64)) else c n x
 bif decide ((4294967296:Int)<=x) then b 32 (Int.fdiv x (2^min ((32:Int)).toNat 64)) else b 0 x
theorem ac6(x:Int):sB x=Ar x:=by kernel_rfl
theorem ahA(c:Nat)(h:c<256):ze (bs kQ) c=((fm c:Nat):Int):=by
 rw[lM,zL (by decide+kernel),<-alN ⟨c,h⟩,List.getD_eq_getElem?_getD,List.getElem?_map,List.getD_eq_getElem?_getD]
 cases kQ[c]? <;>rfl
theorem MA{x k:Nat}(h:x<2^k):fm x<=k:=by
 by_cases hx:x=0
 ·subst hx;simp [fm]
 ·obtain⟨g3,g4⟩:=(T4 x).2 hx
  rcases Nat.lt_or_ge k (fm x) with h1|h1
  ·have:2^k<=2^(fm x-1):=Nat.pow_le_pow_right (by decide) (by omega)
   omega
  ·exact h1
theorem aiA(x:Nat)(hx:x<18446744073709551616):sB x=some ((fm x:Nat):Int):=by
 rw[ac6]
 unfold Ar
 simp only
 have ht:∀(n:Nat) (c:Nat),n<=100->c<256->zd (zW zU (c:Int)) (bs kQ).size (some (zW zI ((n:Int)+zW zI (ze (bs kQ) (zW zU (c:Int)).toNat))))=some (((n+fm c:Nat):Int)):=by
  intro n c hn hc
  have hl:(bs kQ).size=256:=by rw[<-zg,zL (by decide+kernel)];rfl
  have hb:=MA (k:=8) hc
  rw[ui (by omega) (by omega),hl,zh hc,Int.toNat_natCast,ahA c hc,z49 (by omega),zi (by omega) (by omega)]
  rfl
 have f8:∀a:Nat,Int.fdiv (a:Int) (2^min ((8:Int)).toNat 64)=((a/2^8:Nat):Int):=fun a=>RF a 8 (by omega)
 have f16:∀a:Nat,Int.fdiv (a:Int) (2^min ((16:Int)).toNat 64)=((a/2^16:Nat):Int):=fun a=>RF a 16 (by omega)
 have f32:∀a:Nat,Int.fdiv (a:Int) (2^min ((32:Int)).toNat 64)=((a/2^32:Nat):Int):=fun a=>RF a 32 (by omega)
 have hc:∀(n:Nat) (y:Nat),n<=48->y<65536->(bif decide ((256:Int)<=(y:Int)) then zd (zW zU (Int.fdiv (y:Int) (2^min ((8:Int)).toNat 64))) (bs kQ).size (some (zW zI (zW zI ((n:Int)+8)+zW zI (ze (bs kQ) (zW zU (Int.fdiv (y:Int) (2^min ((8:Int)).toNat 64))).toNat)))) else zd (zW zU (y:Int)) (bs kQ).size (some (zW zI ((n:Int)+zW zI (ze (bs kQ) (zW zU (y:Int)).toNat)))))=some (((n+fm y:Nat):Int)):=by
  intro n y hn hy
  by_cases h:256<=y
  ·rw[zT (by omega),zC,f8,zi (x:=(n:Int)+8) (by omega) (by omega)]
   have:=ht (n+8) (y/2^8) (by omega) (by omega)
   rw[show((n:Int)+8)=((n+8:Nat):Int) from rfl,this,za1 (k:=8) h]
   congr 2;omega
  ·rw[zF (by omega),zD]
   exact ht n y (by omega) (by omega)
 have hb:∀(n:Nat) (y:Nat),n<=32->y<4294967296->(bif decide ((65536:Int)<=(y:Int)) then(bif decide ((256:Int)<=Int.fdiv (y:Int) (2^min ((16:Int)).toNat 64)) then zd (zW zU (Int.fdiv (Int.fdiv (y:Int) (2^min ((16:Int)).toNat 64)) (2^min ((8:Int)).toNat 64))) (bs kQ).size (some (zW zI (zW zI (zW zI ((n:Int)+16)+8)+zW zI (ze (bs kQ) (zW zU (Int.fdiv (Int.fdiv (y:Int) (2^min ((16:Int)).toNat 64)) (2^min ((8:Int)).toNat 64))).toNat)))) else zd (zW zU (Int.fdiv (y:Int) (2^min ((16:Int)).toNat 64))) (bs kQ).size (some (zW zI (zW zI ((n:Int)+16)+zW zI (ze (bs kQ) (zW zU (Int.fdiv (y:Int) (2^min ((16:Int)).toNat 64))).toNat))))) else
  (bif decide ((256:Int)<=(y:Int)) then zd (zW zU (Int.fdiv (y:Int) (2^min ((8:Int)).toNat 64))) (bs kQ).size (some (zW zI (zW zI ((n:Int)+8)+zW zI (ze (bs kQ) (zW zU (Int.fdiv (y:Int) (2^min ((8:Int)).toNat 64))).toNat)))) else zd (zW zU (y:Int)) (bs kQ).size (some (zW zI ((n:Int)+zW zI (ze (bs kQ) (zW zU (y:Int)).toNat))))))=some (((n+fm y:Nat):Int)):=by
  intro n y hn hy
  by_cases h:65536<=y
  ·rw[zT (by omega),zC,f16,zi (x:=(n:Int)+16) (by omega) (by omega)]
   have:=hc (n+16) (y/2^16) (by omega) (by omega)
   rw[show((n:Int)+16)=((n+16:Nat):Int) from rfl,this,za1 (k:=16) h]
   congr 2;omega
  ·rw[zF (by omega),zD]
   exact hc n y (by omega) (by omega)
 by_cases h:4294967296<=x
 ·rw[zT (by omega),zC,f32]
  have:=hb 32 (x/2^32) (by omega) (by omega)
  rw[show((32:Nat):Int)=32 from rfl] at this
  rw[this,za1 (k:=32) h]
  congr 2;omega
 ·rw[zF (by omega),zD]
  have:=hb 0 x (by omega) (by omega)
  rw[show((0:Nat):Int)=0 from rfl] at this
  rw[this]
  congr 2;omega
theorem zah(x:Nat)(hx:x<18446744073709551616):lT x=some (((64-fm x:Nat)):Int):=by
 unfold lT Wp
 have:=MA (k:=64) hx
 rw[aiA x hx,zc,zi (by omega) (by omega)]
 congr 1;omega
end bF

namespace bF
open Go.IntKind renaming wrap->zW,i64->zI,u8->zU
open Go Go.Ref
abbrev vl:=Int×Int×Unit
abbrev cS:Nat:=18446744073709551616
def bu(h l:Nat)(n:Int):Bool:=
 if 1<=n/\n<=64 then h.testBit (64-n).toNat else if 65<=n/\n<=128 then l.testBit (128-n).toNat else false
def gI(n:Int):Nat:=if 1<=n/\n<=64 then 2^(64-n).toNat else 0
def gJ(n:Int):Nat:=if 65<=n/\n<=128 then 2^(128-n).toNat else 0
theorem ztl{k:Nat}(h:k<64):2^k<cS:=Nat.pow_lt_pow_right (by decide) h
theorem X7(n:Int):gI n<cS:=by
 unfold gI;split
 ·exact ztl (by omega)
 ·decide
theorem X8(n:Int):gJ n<cS:=by
 unfold gJ;split
 ·exact ztl (by omega)
 ·decide
theorem Qf{k:Nat}(h:k<64):IntKind.u64.wrap ((1:Int)*2^min k 64)=((2^k:Nat):Int):=by
 rw[Nat.min_eq_left (by omega),Int.one_mul]
 have:=ztl h
 have e:((2:Int)^k)=((2^k:Nat):Int):=by simp
 rw[e]
 exact ID this
theorem QO(n:Int):Hx n=some ((gI n:Int),(gJ n:Int),()):=by
 unfold Hx ZB gI gJ
 by_cases h1:n<1
 ·rw[zT h1,if_neg (by omega),if_neg (by omega)];rfl
 rw[zF h1,zD]
 by_cases h2:128<n
 ·rw[zT h2,if_neg (by omega),if_neg (by omega)];rfl
 rw[zF h2,zD]
 by_cases h3:n<=64
 ·rw[zT h3,zC,zi (by omega) (by omega),zF (by omega),zD,Qf (by omega),if_pos (by omega),if_neg (by omega)];rfl
 ·rw[zF h3,zD,zi (by omega) (by omega),zF (by omega),zD,Qf (by omega),if_neg (by omega),if_pos (by omega)];rfl
theorem z9y(h k:Nat):(h&&&2^k=0)↔h.testBit k=false:=by
 constructor
 ·intro e
  have:=congrArg (fun x=>x.testBit k) e
  simpa [Nat.testBit_and,Nat.testBit_two_pow] using this
 ·intro e
  apply Nat.eq_of_testBit_eq
  intro i
  rw[Nat.testBit_and,Nat.testBit_two_pow]
  by_cases hi:k=i
  ·subst hi;simp [e]
  ·simp [hi]
theorem aoC(h l:Nat)(hh:h<cS)(hl:l<cS)(n:Int):Jy ((h:Int),(l:Int),()) n=some (bu h l n):=by
 unfold Jy Zy rj SU
 rw[QO,zc,l8 hh (X7 n),l8 hl (X8 n),zc]
 congr 1
 simp only[Bool.and_true]
 have e:∀a:Nat,decide ((a:Int)=0)=decide (a=0):=fun a=>decide_eq_decide.2 (by omega)
 rw[e,e]
 unfold gI gJ bu
 by_cases h1:1<=n/\n<=64
 ·rw[if_pos h1,if_pos h1,if_neg (by omega)]
  have:=z9y h (64-n).toNat
  cases hb:h.testBit (64-n).toNat with
  |false=>simp [this.2 hb]
  |true=>simp;intro hz;exact absurd (this.1 hz) (by simp [hb])
 ·rw[if_neg h1,if_neg h1]
  by_cases h2:65<=n/\n<=128
  ·rw[if_pos h2,if_pos h2]
   have:=z9y l (128-n).toNat
   cases hb:l.testBit (128-n).toNat with
   |false=>simp [this.2 hb]
   |true=>simp;intro hz;exact absurd (this.1 hz) (by simp [hb])
  ·rw[if_neg h2,if_neg h2];simp
theorem zf6(h l h' l':Nat)(hh:h<cS)(hl:l<cS)(BZ:h'<cS)(wT:l'<cS):sY ((h:Int),(l:Int),()) ((h':Int),(l':Int),())=some (((h|||h':Nat):Int),((l|||l':Nat):Int),()):=by
 unfold sY Zx
 rw[xd hh BZ,xd hl wT]
theorem O5(h l h' l':Nat)(hh:h<cS)(hl:l<cS)(BZ:h'<cS)(wT:l'<cS):rj ((h:Int),(l:Int),()) ((h':Int),(l':Int),())=some (((h&&&h':Nat):Int),((l&&&l':Nat):Int),()):=by
 unfold rj SU
 rw[l8 hh BZ,l8 hl wT]
theorem PL(h l:Nat)(hh:h<cS)(hl:l<cS)(n:Int):ya ((h:Int),(l:Int),()) n=some (((h|||gI n:Nat):Int),((l|||gJ n:Nat):Int),()):=by
 unfold ya ZA
 rw[QO,zc,zf6 h l _ _ hh hl (X7 n) (X8 n)];rfl
theorem pZ{a b:Nat}(ha:a<cS)(hb:b<cS):a|||b<cS:=Nat.or_lt_two_pow (n:=64) ha hb
theorem QM{a b:Nat}(ha:a<cS):a&&&b<cS:=Nat.lt_of_le_of_lt Nat.and_le_left ha
theorem ap4(h l h' l':Nat)(n:Int):bu (h|||h') (l|||l') n=(bu h l n||bu h' l' n):=by
 unfold bu;split
 ·rw[Nat.testBit_or]
 ·split
  ·rw[Nat.testBit_or]
  ·rfl
theorem PU(h l h' l':Nat)(n:Int):bu (h&&&h') (l&&&l') n=(bu h l n&&bu h' l' n):=by
 unfold bu;split
 ·rw[Nat.testBit_and]
 ·split
  ·rw[Nat.testBit_and]
  ·rfl
def gS(n:Int):Bool:=decide (1<=n/\n<=128)
theorem aoi(m n:Int):bu (gI m) (gJ m) n=(decide (m=n)&&gS n):=by
 unfold bu gI gJ gS
 by_cases h1:1<=n/\n<=64
 ·rw[if_pos h1]
  by_cases h2:1<=m/\m<=64
  ·rw[if_pos h2,Nat.testBit_two_pow,zT (p:=1<=n/\n<=128) (by omega),Bool.and_true]
   exact decide_eq_decide.2 (by omega)
  ·rw[if_neg h2,zF (by omega:¬m=n)];simp
 ·rw[if_neg h1]
  by_cases h3:65<=n/\n<=128
  ·rw[if_pos h3]
   by_cases h2:65<=m/\m<=128
   ·rw[if_pos h2,Nat.testBit_two_pow,zT (p:=1<=n/\n<=128) (by omega),Bool.and_true]
    exact decide_eq_decide.2 (by omega)
   ·rw[if_neg h2,zF (by omega:¬m=n)];simp
  ·rw[if_neg h3,zF (p:=1<=n/\n<=128) (by omega),Bool.and_false]
theorem Ol(h l:Nat)(m n:Int):bu (h|||gI m) (l|||gJ m) n=(bu h l n||(decide (m=n)&&gS n)):=by rw[ap4,aoi]
theorem zjw{h l:Nat}{n:Int}(hh:bu h l n=true):1<=n/\n<=128:=by
 unfold bu at hh
 split at hh
 ·omega
 ·split at hh
  ·omega
  ·cases hh
theorem Yj{h l h' l':Nat}(hh:h<cS)(hl:l<cS)(BZ:h'<cS)(wT:l'<cS)(e:∀n:Int,1<=n->n<=128->bu h l n=bu h' l' n):h=h'/\l=l':=by
 constructor
 ·apply Nat.eq_of_testBit_eq
  intro i
  by_cases hi:i<64
  ·have:=e (64-i) (by omega) (by omega)
   unfold bu at this
   rw[if_pos (by omega),if_pos (by omega)] at this
   have e2:(64-(64-(i:Int))).toNat=i:=by omega
   rwa [e2] at this
  ·rw[Nat.testBit_lt_two_pow (Nat.lt_of_lt_of_le hh (Nat.pow_le_pow_right (n:=2) (by decide) (by omega:64<=i))),Nat.testBit_lt_two_pow (Nat.lt_of_lt_of_le BZ (Nat.pow_le_pow_right (n:=2) (by decide) (by omega:64<=i)))]
 ·apply Nat.eq_of_testBit_eq
  intro i
  by_cases hi:i<64
  ·have:=e (128-i) (by omega) (by omega)
   unfold bu at this
   have h1:¬(1<=128-(i:Int)/\128-(i:Int)<=64):=by omega
   have h2:65<=128-(i:Int)/\128-(i:Int)<=128:=by omega
   rw[if_neg h1,if_pos h2,if_neg h1,if_pos h2] at this
   have e2:(128-(128-(i:Int))).toNat=i:=by omega
   rwa [e2] at this
  ·rw[Nat.testBit_lt_two_pow (Nat.lt_of_lt_of_le hl (Nat.pow_le_pow_right (n:=2) (by decide) (by omega:64<=i))),Nat.testBit_lt_two_pow (Nat.lt_of_lt_of_le wT (Nat.pow_le_pow_right (n:=2) (by decide) (by omega:64<=i)))]
def bY(l:List Int):Nat:=l.foldl (fun a n=>a|||gI n) 0
def cj(l:List Int):Nat:=l.foldl (fun a n=>a|||gJ n) 0
theorem zyb(f:Int->Nat)(hf:∀n,f n<cS)(l:List Int):∀a,a<cS->l.foldl (fun a n=>a|||f n) a<cS:=by
 induction l with
 |nil=>intro a h;exact h
 |cons x r ih=>intro a h;exact ih _ (pZ h (hf x))
theorem mQ(l:List Int):bY l<cS:=zyb _ X7 l 0 (by decide)
theorem nV(l:List Int):cj l<cS:=zyb _ X8 l 0 (by decide)
theorem ale(l:List Int):∀(a b:Nat) (n:Int),bu (l.foldl (fun a n=>a|||gI n) a) (l.foldl (fun a n=>a|||gJ n) b) n=(bu a b n||(decide (n∈l)&&gS n)):=by
 induction l with
 |nil=>intro a b n;simp
 |cons x r ih=>
  intro a b n
  rw[List.foldl_cons,List.foldl_cons,ih,Ol]
  by_cases h1:x=n
  ·subst h1;cases gS x<;>simp
  ·have:n≠x:=fun e=>h1 e.symm
   simp [h1,this]
theorem vg(l:List Int)(n:Int):bu (bY l) (cj l) n=(decide (n∈l)&&gS n):=by
 unfold bY cj
 rw[ale]
 have:bu 0 0 n=false:=by unfold bu;simp
 rw[this];simp
theorem aon(xs:List Int)(hx:xs.length<=9223372036854775807)(b0:vl):∀(n j k:Nat) (a b:Nat),j+n=xs.length->n<k->a<cS->b<cS->
 A6 k xs (xs.length:Int) j b0 ((a:Int),(b:Int),())=some (b0,((((xs.drop j).foldl (fun a n=>a|||gI n) a:Nat):Int),(((xs.drop j).foldl (fun a n=>a|||gJ n) b:Nat):Int),())):=by
 intro n
 induction n with
 |zero=>
  intro j k a b hj hk ha hb
  obtain⟨k,rfl⟩:∃k',k=k'+1:=⟨k-1,by omega⟩
  rw[A6,SS,zF (by omega),List.drop_eq_nil_of_le (by omega)];rfl
 |succ n ih=>
  intro j k a b hj hk ha hb
  obtain⟨k,rfl⟩:∃k',k=k'+1:=⟨k-1,by omega⟩
  have aq:j<xs.length:=by omega
  have LO:xs.getD ((j:Int)).toNat 0=xs[j]:=by rw[Int.toNat_natCast,List.getD_eq_getElem?_getD,List.getElem?_eq_getElem aq];rfl
  rw[A6,SS,zT (by omega),zC,zh aq,LO,PL a b ha hb,zc,zo (by omega),ih (j+1) k _ _ (by omega) (by omega) (pZ ha (X7 _)) (pZ hb (X8 _)),List.drop_eq_getElem_cons aq]
  rfl
theorem x4(xs:List Int)(hx:xs.length<=maxLen):uB xs=some ((bY xs:Int),(cj xs:Int),()):=by
 rw[zj] at hx
 unfold uB Zv
 have:=aon xs hx (0,0,()) xs.length 0 ah 0 0 (by omega) (by rw[zn];omega) (by decide) (by decide)
 simp only[Zw]
 have e:A6 ah xs (xs.length:Int) 0 (0,0,()) (0,0,())=_:=this
 rw[e];rfl
def mE:List Int:=(List.range 128).map fun k:Nat=>((k+1:Nat):Int)
theorem alu(n:Int):n∈mE↔1<=n/\n<=128:=by
 unfold mE
 constructor
 ·intro h
  obtain⟨k,hk,rfl⟩:=List.mem_map.1 h
  have:=List.mem_range.1 hk
  omega
 ·intro h
  exact List.mem_map.2 ⟨(n-1).toNat,List.mem_range.2 (by omega),by omega⟩
theorem adJ:mE.Pairwise (· < ·):=by
 unfold mE
 exact List.Pairwise.map _ (fun a b h=>by omega) List.pairwise_lt_range
def elems(h l:Nat):List Int:=mE.filter (bu h l)
theorem Rw(h l:Nat)(n:Int):n∈elems h l↔bu h l n=true:=by
 unfold elems
 rw[List.mem_filter,alu]
 exact⟨fun h=>h.2,fun h=>⟨zjw h,h⟩⟩
theorem zjk(h l:Nat):(elems h l).Pairwise (· < ·):=adJ.filter _
def gV(h l:Nat)(n:Int):Int:=((elems h l).filter fun m=>decide (n<m)).headD 0
def Yn(h l:Nat)(n r:Int):Prop:=(r=0/\∀m,n<m->bu h l m=false)\/(n<r/\bu h l r=true/\∀m,n<m->m<r->bu h l m=false)
theorem alv(h l:Nat)(n:Int):Yn h l n (gV h l n):=by
 unfold gV
 cases hf:(elems h l).filter fun m=>decide (n<m) with
 |nil=>
  left
  refine⟨rfl,fun m hm=> ?_⟩
  cases hb:bu h l m with
  |false=>rfl
  |true=>
   have:m∈(elems h l).filter fun m=>decide (n<m):=List.mem_filter.2 ⟨(Rw h l m).2 hb,by simpa using hm⟩
   rw[hf] at this;cases this
 |cons x r=>
  right
  have hx:x∈(elems h l).filter fun m=>decide (n<m):=by rw[hf];simp
  obtain⟨h1,h2⟩:=List.mem_filter.1 hx
  refine⟨by simpa using h2,(Rw h l x).1 h1,fun m hm hmx=> ?_⟩
  cases hb:bu h l m with
  |false=>rfl
  |true=>
   have fS:m∈(elems h l).filter fun m=>decide (n<m):=List.mem_filter.2 ⟨(Rw h l m).2 hb,by simpa using hm⟩
   have hs:=(zjk h l).filter (fun m=>decide (n<m))
   rw[hf] at fS hs
   rcases List.mem_cons.1 fS with e|e
   ·simp only[List.headD_cons] at hmx;omega
   ·have:=(List.pairwise_cons.1 hs).1 m e
    simp only[List.headD_cons] at hmx;omega
theorem acE{h l:Nat}{n r q:Int}(h1:Yn h l n r)(h2:Yn h l n q):r=q:=by
 rcases h1 with⟨e,a⟩|⟨e,a,b⟩<;>rcases h2 with⟨e',a'⟩|⟨e',a',b'⟩
 ·rw[e,e']
 ·rw[a q e'] at a';cases a'
 ·rw[a' r e] at a;cases a
 ·rcases Int.lt_trichotomy r q with h|h|h
  ·rw[b' r e h] at a;cases a
  ·exact h
  ·rw[b q e' h] at a';cases a'
theorem NF(x n:Nat)(hx:x<cS)(hn:n<=64):
 (x*2^n % cS=0/\∀i,i<64-n->x.testBit i=false)\/
 (x*2^n % cS≠0/\fm (x*2^n % cS)<=64/\n<fm (x*2^n % cS)/\x.testBit (fm (x*2^n % cS)-1-n)=true/\∀i,fm (x*2^n % cS)-1-n<i->i<64-n->x.testBit i=false):=by
 have hb:∀i,(x*2^n % cS).testBit i=(decide (i<64)&&(decide (n<=i)&&x.testBit (i-n))):=by
  intro i
  rw[show cS=2^64 from rfl,Nat.testBit_mod_two_pow,Nat.testBit_mul_two_pow]
 generalize x*2^n % cS=r at hb
 have hr:∀i,i<64-n->x.testBit i=r.testBit (i+n):=by
  intro i hi
  rw[hb,zT (by omega),zT (by omega),Nat.add_sub_cancel];rfl
 by_cases h0:r=0
 ·left
  refine⟨h0,fun i hi=> ?_⟩
  rw[hr i hi,h0];simp
 ·right
  obtain⟨g1,g2⟩:=T4 r
  obtain⟨g3,g4⟩:=g2 h0
  have aaE:r.testBit (fm r-1)=true:=by
   rw[Nat.testBit_eq_decide_div_mod_eq]
   have hp:=Nat.two_pow_pos (fm r-1)
   have:r/2^(fm r-1)=1:=by
    apply Nat.div_eq_of_lt_le
    ·omega
    ·have:2^fm r=2*2^(fm r-1):=by
      rw[<-Nat.pow_succ'];congr 1;omega
     omega
   rw[this];rfl
  have aq:=aaE
  rw[hb] at aq
  simp only[Bool.and_eq_true,decide_eq_true_eq] at aq
  refine⟨h0,by omega,by omega,?_,fun i h1 h2=> ?_⟩
  ·exact aq.2.2
  ·rw[hr i h2]
   exact Nat.testBit_lt_two_pow (Nat.lt_of_lt_of_le g1 (Nat.pow_le_pow_right (by decide) (by omega)))
theorem Qe(x n:Nat)(hn:n<=64):IntKind.u64.wrap ((x:Int)*2^min ((n:Int)).toNat 64)=((x*2^n % cS:Nat):Int):=by
 rw[Qk,Int.toNat_natCast,Nat.min_eq_left hn]
 have e:((x:Int)*2^n)=((x*2^n:Nat):Int):=by simp
 rw[e];rfl
theorem O6(h l:Nat)(hh:h<cS)(hl:l<cS)(n:Int)(hn1: -9223372036854775808<=n)(Lv:n<=9223372036854775807):Hw ((h:Int),(l:Int),()) n=some (gV h l n):=by
 have goal:∀r,Yn h l n r->some r=some (gV h l n):=fun r hr=>by rw[acE hr (alv h l n)]
 unfold Hw Zz
 obtain⟨m,hm,hmn⟩:∃m:Nat,(if n<(0:Int) then(0:Int) else n)=(m:Int)/\(n<=(m:Int)/\(0<=n->n=m)/\(n<0->m=0)):=by
  by_cases h0:n<0
  ·exact⟨0,by rw[if_pos h0];rfl,by omega,by omega,by omega⟩
  ·exact⟨n.toNat,by rw[if_neg h0];omega,by omega,by omega,by omega⟩
 have nE:∀k:Int,k<=0->bu h l k=false:=fun k hk=>by unfold bu;rw[if_neg (by omega),if_neg (by omega)]
 have low:∀(j7 base:Nat),j7<=64->(j7<64->base=64+j7)->(j7=64->128<=base)->(m:Int)<=base->base<=9223372036854775807->(∀k,n<k->k<=base->k<=128->bu h l k=false)->
  (bif !(decide (IntKind.u64.wrap ((l:Int)*2^min ((j7:Int)).toNat 64)=0)) then(lT (IntKind.u64.wrap ((l:Int)*2^min ((j7:Int)).toNat 64))).bind (fun r=>some (zW zI (zW zI ((base:Int)+r)+1))) else some 0)=some (gV h l n):=by
  intro j7 base h1 h2 h2' h3 aqg h4
  rw[Qe l j7 h1]
  have aq:l*2^j7 % cS<cS:=Nat.mod_lt _ (by decide)
  rcases NF l j7 hl h1 with⟨e,w⟩|⟨e,w1,w2,w3,w4⟩
  ·rw[e,zT (by rfl)]
   refine goal 0 (.inl ⟨rfl,fun k hk=> ?_⟩)
   by_cases B4:k<=base/\k<=128
   ·exact h4 k hk B4.1 B4.2
   ·unfold bu
    by_cases HM:65<=k/\k<=128
    ·rw[if_neg (by omega),if_pos HM]
     exact w _ (by omega)
    ·by_cases hk4:1<=k/\k<=64
     ·omega
     ·rw[if_neg hk4,if_neg HM]
  ·have aaD:j7<64:=by omega
   have jG:=h2 aaD
   rw[zF (by omega)]
   simp only[Bool.not_false,zC]
   rw[zah _ aq,zc,zi (x:=(base:Int)+_) (by omega) (by omega),zi (by omega) (by omega)]
   refine goal _ (.inr ⟨by omega,?_,fun k TI B4=> ?_⟩)
   ·unfold bu
    rw[if_neg (by omega),if_pos (by omega)]
    have:(128-((base:Int)+((64-fm (l*2^j7 % cS):Nat):Int)+1)).toNat=fm (l*2^j7 % cS)-1-j7:=by omega
    rw[this];exact w3
   ·by_cases HM:k<=base
    ·exact h4 k TI HM (by omega)
    ·unfold bu
     rw[if_neg (by omega),if_pos (by omega)]
     exact w4 _ (by omega) (by omega)
 simp only[hm]
 by_cases c1:m<64
 ·rw[zT (by omega),zC,zF (by omega),zD,Qe h m (by omega)]
  have aq:h*2^m % cS<cS:=Nat.mod_lt _ (by decide)
  rcases NF h m hh (by omega) with⟨e,w⟩|⟨e,w1,w2,w3,w4⟩
  ·rw[e,zT (by rfl)]
   have:=low 0 64 (by omega) (by omega) (by omega) (by omega) (by omega) (fun k TI B4 _=>by
    by_cases HM:1<=k
    ·unfold bu
     rw[if_pos (by omega)]
     exact w _ (by omega)
    ·exact nE k (by omega))
   exact this
  ·rw[zF (by omega)]
   simp only[Bool.not_false,zC]
   rw[zah _ aq,zc,zi (x:=(m:Int)+_) (by omega) (by omega),zi (by omega) (by omega)]
   refine goal _ (.inr ⟨by omega,?_,fun k TI B4=> ?_⟩)
   ·unfold bu
    rw[if_pos (by omega)]
    have:(64-((m:Int)+((64-fm (h*2^m % cS):Nat):Int)+1)).toNat=fm (h*2^m % cS)-1-m:=by omega
    rw[this];exact w3
   ·by_cases HM:1<=k
    ·unfold bu
     rw[if_pos (by omega)]
     exact w4 _ (by omega) (by omega)
    ·exact nE k (by omega)
 ·rw[zF (by omega),zD,zi (x:=(m:Int)-64) (by omega) (by omega)]
  have aqj:((m:Int)-64)=((m-64:Nat):Int):=by omega
  obtain⟨j7,hs,LM⟩:∃j7:Nat,(if(64:Int)<(m:Int)-64 then(64:Int) else(m:Int)-64)=(j7:Int)/\j7<=64/\(j7<64->m=64+j7)/\(j7=64->128<=m):=by
   by_cases h0:(64:Int)<(m:Int)-64
   ·exact⟨64,by rw[if_pos h0];rfl,by omega,by omega,by omega⟩
   ·exact⟨m-64,by rw[if_neg h0];omega,by omega,by omega,by omega⟩
  simp only[hs]
  rw[zF (by omega),zD]
  exact low j7 m LM.1 LM.2.1 LM.2.2 (by omega) (by omega) (fun k TI B4 _=>by omega)
theorem Ni(n a:Nat)(h:a<2^n):(BitVec.ofInt n (a:Int)).toNat=a:=by
 rw[BitVec.toNat_ofInt]
 have h2:((a:Int)% ((2^n:Nat):Int))=((a % 2^n:Nat):Int):=by rfl
 rw[h2,Int.toNat_natCast,Nat.mod_eq_of_lt h]
theorem ac4{k:IntKind}{a b:Nat}(ha:a<2^k.bits)(hb:b<2^k.bits):aM .or k a b=k.wrap ((a|||b:Nat):Int):=by
 simp only[aM,BitVec.toNat_or,Ni _ _ ha,Ni _ _ hb]
theorem OI{x y:Int}(hx:zq x)(hy:zq y):aM .or .i64 (zW zI (zW zI x*2^min (8:Int).toNat 64)) (zW zI y)=x*256+y:=by
 unfold zq at hx hy
 obtain⟨x,rfl⟩:=Int.eq_ofNat_of_zero_le hx.1
 obtain⟨y,rfl⟩:=Int.eq_ofNat_of_zero_le hy.1
 rw[z49 (by omega),z49 (by omega)]
 have h1:((x:Int)*(2:Int)^min (8:Int).toNat 64)=((x<<<8:Nat):Int):=by
  rw[Nat.shiftLeft_eq];rfl
 have h3:x<<<8=x*256:=by rw[Nat.shiftLeft_eq]
 rw[h1,z49 (by omega),ac4 (by simp only[IntKind.bits];omega) (by simp only[IntKind.bits];omega),<-Nat.shiftLeft_add_eq_or_of_lt (by omega:y<2^8),h3,z49 (by omega)]
 omega
theorem aht{b:List Int}(hb:∀x∈b,zq x)(i:Nat):zq (b.getD i 0):=by
 rw[List.getD_eq_getElem?_getD]
 cases h:b[i]? with
 |none=>exact⟨by simp,by simp⟩
 |some x=>exact hb x (List.mem_of_getElem? h)
abbrev Fr:=Int×Bool×List Int×Unit
section
variable {α:Type} [DecidableEq α]
end
end bF

namespace bF
open Go.IntKind renaming wrap->zW,i64->zI,u8->zU
open Go Go.Ref
theorem Oh{l:List Int}{j:Nat}(h:j<l.length):l.getD ((j:Int)).toNat 0=l[j]:=by
 rw[Int.toNat_natCast,List.getD_eq_getElem?_getD,List.getElem?_eq_getElem h];rfl
theorem ahy(l:List Int)(n:Int)(hl:l.length<=maxLen):∀(m j k:Nat),j+m=l.length->m<k->
 Hn k l n j=some (if n∈l.drop j then .inl true else .inr ()):=by
 intro m
 rw[zj] at hl
 induction m with
 |zero=>
  intro j k hj hk
  obtain⟨k,rfl⟩:∃k',k=k'+1:=⟨k-1,by omega⟩
  rw[Hn,S3,zF (by omega),List.drop_eq_nil_of_le (by omega)];simp
 |succ m ih=>
  intro j k hj hk
  obtain⟨k,rfl⟩:∃k',k=k'+1:=⟨k-1,by omega⟩
  have aq:j<l.length:=by omega
  rw[Hn,S3,zT (by omega),zC,zh aq,Oh aq,zo (by omega),List.drop_eq_getElem_cons aq]
  by_cases h:l[j]=n
  ·rw[zT h,if_pos (by rw[h];simp)];rfl
  ·rw[zF h,zD,ih (j+1) k (by omega) (by omega)]
   have:n≠l[j]:=fun e=>h e.symm
   simp only[List.mem_cons,this,false_or]
theorem UK(l:List Int)(n:Int)(hl:l.length<=maxLen):uC l n=some (decide (n∈l)):=by
 unfold uC zx3
 dsimp only
 have:=ahy l n hl l.length 0 ah (by omega) (by rw[zn];rw[zj] at hl;omega)
 rw[show((0:Nat):Int)=0 from rfl,List.drop_zero] at this
 rw[this,zc]
 by_cases h:n∈l
 ·rw[if_pos h,zT h];rfl
 ·rw[if_neg h,zF h];rfl
theorem alA:mE.length=128:=by unfold mE;simp
def bA(l:List Int)(base:Nat):Nat->Nat
 |0=>0
 |m+1=>2*bA l base m+(if((base+m+1:Nat):Int)∈l then 1 else 0)
theorem zf1(l:List Int)(base m:Nat):bA l base (m+1)=2*bA l base m+(if((base+m+1:Nat):Int)∈l then 1 else 0):=rfl
theorem RJ(l:List Int)(base:Nat):∀m,bA l base m<2^m
 |0=>by simp [bA]
 |m+1=>by
  have:=RJ l base m
  rw[bA,Nat.pow_succ]
  split<;>omega
theorem zko(l:List Int)(base:Nat):∀m i,i<m->(bA l base m).testBit i=decide (((base+m-i:Nat):Int)∈l)
 |0,i,h=>absurd h (Nat.not_lt_zero i)
 |m+1,0,h=>by
  rw[bA,Nat.testBit_zero,Nat.sub_zero]
  have e:base+(m+1)=base+m+1:=by omega
  rw[e]
  by_cases hm:((base+m+1:Nat):Int)∈l
  ·rw[if_pos hm,zT hm]
   exact zT (by omega)
  ·rw[if_neg hm,zF hm]
   exact zF (by omega)
 |m+1,i+1,h=>by
  rw[bA,Nat.testBit_succ]
  have e:(2*bA l base m+(if((base+m+1:Nat):Int)∈l then 1 else 0))/2=bA l base m:=by split<;>omega
  rw[e,zko l base m i (by omega)]
  have e2:base+(m+1)-(i+1)=base+m-i:=by omega
  rw[e2]
theorem alY(l:List Int)(n:Int):bu (bA l 0 64) (bA l 64 64) n=(decide (n∈l)&&gS n):=by
 unfold bu gS
 by_cases h1:1<=n/\n<=64
 ·rw[if_pos h1,zko l 0 64 _ (by omega),zT (p:=1<=n/\n<=128) (by omega),Bool.and_true]
  have:((0+64-(64-n).toNat:Nat):Int)=n:=by omega
  rw[this]
 ·rw[if_neg h1]
  by_cases h2:65<=n/\n<=128
  ·rw[if_pos h2,zko l 64 64 _ (by omega),zT (p:=1<=n/\n<=128) (by omega),Bool.and_true]
   have:((64+64-(128-n).toNat:Nat):Int)=n:=by omega
   rw[this]
  ·rw[if_neg h2,zF (p:=1<=n/\n<=128) (by omega),Bool.and_false]
theorem zts(l:List Int):bA l 0 64=bY l/\bA l 64 64=cj l:=
 Yj (RJ l 0 64) (RJ l 64 64) (mQ l) (nV l) (fun n _ _=>by rw[alY,vg])
abbrev Spec:=Int×Int×Int×Int×Int×Unit
abbrev zf:=Int×Int×List Spec×Unit
abbrev cQ:Spec:=(0,0,0,0,0,())
theorem Yk(c:Int):x5 c=some (if c=1 then 1 else if c=2 then 2 else if c=3 then 3 else if c=4 then 7 else if c=5 then 15 else if c=6 then 15 else 0):=by
 unfold x5 Y2
 simp only[an0]
 repeat' split
 all_goals rfl
theorem zrn(c:Int):Bm c=some (decide (1<=c/\c<=6)):=by
 unfold Bm YT
 rw[Yk,zc]
 congr 1
 by_cases h1:c=1
 ·subst h1;rfl
 by_cases h2:c=2
 ·subst h2;rfl
 by_cases h3:c=3
 ·subst h3;rfl
 by_cases h4:c=4
 ·subst h4;rfl
 by_cases h5:c=5
 ·subst h5;rfl
 by_cases h6:c=6
 ·subst h6;rfl
 rw[if_neg h1,if_neg h2,if_neg h3,if_neg h4,if_neg h5,if_neg h6,zF (p:=1<=c/\c<=6) (by omega)]
 rfl
theorem I9:qq 2=some 99:=by kernel_rfl
theorem Ja:qq 3=some 999:=by kernel_rfl
def bp(s:Spec):Int:=
 if s.1<2\/128<s.1 then 1 else if s.2.1<1\/6<s.2.1 then 6 else if s.2.2.1<1\/3<s.2.2.1 then 3
 else if s.2.2.2.1<1\/s.2.2.2.2.1<s.2.2.2.1\/(s.2.2.1=2/\99<s.2.2.2.2.1)\/999<s.2.2.2.2.1\/(s.2.2.1=1/\¬s.2.2.2.1=s.2.2.2.2.1) then 5
 else if s.2.2.1=1/\s.2.1=6 then 13 else 0
theorem Rj(s:Spec):kW s=some (bp s):=by
 obtain⟨no,c,f,mn,mx,u⟩:=s
 unfold kW Xn bp
 simp only[zrn,zc]
 by_cases h1:no<2\/128<no
 ·rw[if_pos h1]
  rcases h1 with h|h
  ·rw[zT h];rfl
  ·rw[zT h];cases decide (no<2)<;>rfl
 rw[if_neg h1,zF (by omega),zF (by omega)]
 by_cases h2:c<1\/6<c
 ·rw[if_pos h2,zF (p:=1<=c/\c<=6) (by omega)];rfl
 rw[if_neg h2,zT (p:=1<=c/\c<=6) (by omega)]
 simp only[zD,Bool.not_true]
 by_cases h3:f<1\/3<f
 ·rw[if_pos h3]
  rcases h3 with h|h
  ·rw[zT h];rfl
  ·rw[zT h];cases decide (f<1)<;>rfl
 rw[if_neg h3,zF (by omega),zF (by omega)]
 simp only[zD]
 by_cases h4:mn<1\/mx<mn\/999<mx
 ·rw[if_pos (by omega)]
  by_cases a:mn<1
  ·rw[zT a];rfl
  rw[zF a]
  by_cases b:mx<mn
  ·rw[zT b];rfl
  rw[zF b,zT (by omega)];rfl
 rw[zF (by omega),zF (by omega),zF (by omega)]
 simp only[zD]
 by_cases f1:f=1
 ·rw[zT f1]
  simp only[zC,Bool.not_true,zD]
  by_cases e:mn=mx
  ·rw[zT e,if_neg (by omega)]
   by_cases e6:c=6
   ·rw[zT e6,if_pos (by omega)];rfl
   ·rw[zF e6,if_neg (by omega)];rfl
  ·rw[zF e,if_pos (by omega)];rfl
 ·rw[zF f1]
  simp only[zD,Bool.not_false,zC]
  by_cases f2:f=2
  ·subst f2
   rw[I9,zc]
   by_cases h:99<mx
   ·rw[zT h,if_pos (by omega)];rfl
   ·rw[zF h,if_neg (by omega),if_neg (by omega)];rfl
  ·have f3:f=3:=by omega
   subst f3
   rw[Ja,zc,zF (by omega),if_neg (by omega),if_neg (by omega)];rfl
theorem um(s:Spec):uE s=some (bp s):=by
 obtain⟨no,c,f,mn,mx,u⟩:=s
 unfold uE zxj bp
 simp only
 by_cases h1:no<2\/128<no
 ·rw[if_pos h1]
  rcases h1 with h|h
  ·rw[zT h];rfl
  ·rw[zT h];cases decide (no<2)<;>rfl
 rw[if_neg h1,zF (by omega),zF (by omega)]
 by_cases h2:c<1\/6<c
 ·rw[if_pos h2]
  rcases h2 with h|h
  ·rw[zT h];rfl
  ·rw[zT h];cases decide (c<1)<;>rfl
 rw[if_neg h2,zF (by omega),zF (by omega)]
 by_cases h3:f<1\/3<f
 ·rw[if_pos h3]
  rcases h3 with h|h
  ·rw[zT h];rfl
  ·rw[zT h];cases decide (f<1)<;>rfl
 rw[if_neg h3,zF (by omega),zF (by omega)]
 simp only[zD]
 by_cases f1:f=1
 ·rw[zT f1,zF (by omega:¬f=2)]
  simp only[zC,zD]
  by_cases a:mn<1
  ·rw[zT a,if_pos (by omega)];rfl
  rw[zF a]
  by_cases b:mx<mn
  ·rw[zT b,if_pos (by omega)];rfl
  rw[zF b]
  by_cases d:999<mx
  ·rw[zT d,if_pos (by omega)];rfl
  rw[zF d]
  by_cases e:mn=mx
  ·rw[zT e,if_neg (by omega)]
   by_cases e6:c=6
   ·rw[zT e6,if_pos (by omega)];rfl
   ·rw[zF e6,if_neg (by omega)];rfl
  ·rw[zF e,if_pos (by omega)];rfl
 ·rw[zF f1]
  simp only[zD]
  by_cases f2:f=2
  ·rw[zT f2]
   simp only[zC]
   by_cases a:mn<1
   ·rw[zT a,if_pos (by omega)];rfl
   rw[zF a]
   by_cases b:mx<mn
   ·rw[zT b,if_pos (by omega)];rfl
   rw[zF b]
   by_cases d:99<mx
   ·rw[zT d,if_pos (by omega)];rfl
   rw[zF d,if_neg (by omega),if_neg (by omega)];rfl
  ·rw[zF f2]
   simp only[zD]
   by_cases a:mn<1
   ·rw[zT a,if_pos (by omega)];rfl
   rw[zF a]
   by_cases b:mx<mn
   ·rw[zT b,if_pos (by omega)];rfl
   rw[zF b]
   by_cases d:999<mx
   ·rw[zT d,if_pos (by omega)];rfl
   rw[zF d,if_neg (by omega),if_neg (by omega)];rfl
def gA:List Spec->Int->Int->Int×Int
 | [],_,_=>(0,0)
 |x::r,i,last=>if bp x≠0 then(bp x,i) else if x.1<=last then(11,i) else gA r (i+1) x.1
def fY(s:zf):Int×Int:=
 if¬(s.1=1\/s.1=2) then(1,-1) else if s.2.1<0\/9<s.2.1 then(7,-1) else gA s.2.2.1 0 0
theorem UH{x:Spec}(h:bp x=0):2<=x.1/\x.1<=128:=by
 unfold bp at h
 split at h
 ·cases h
 ·omega
def aak(e:Sum (Int×Int) Unit):Option (Int×Int):=Sum.elim (fun we=>some (we.1,we.2)) (fun _=>some (0,0)) e
theorem MS(l:List Spec):∀(i:Int) (last:Int),aak (if(gA l i last).1=0 then .inr () else .inl (gA l i last))=some (gA l i last):=by
 intro i last
 by_cases h:(gA l i last).1=0
 ·rw[if_pos h]
  have:gA l i last=(0,0):=by
   induction l generalizing i last with
   |nil=>rfl
   |cons x r ih=>
    unfold gA at h⊢
    split
    ·rename_i h1;rw[if_pos h1] at h;exact absurd h h1
    ·rename_i h1
     rw[if_neg h1] at h
     split
     ·rename_i h2;rw[if_pos h2] at h;cases h
     ·rename_i h2;rw[if_neg h2] at h;exact ih _ _ h
  rw[this];rfl
 ·rw[if_neg h];rfl
theorem acW(s:zf)(hl:s.2.2.1.length<=maxLen):xA ah 0 0 s=some (if(gA s.2.2.1 0 0).1=0 then .inr () else .inl (gA s.2.2.1 0 0)):=by
 have h:=fH cQ s.2.2.1 hl (fun i x (last:Int) K=>if bp x≠0 then some (.inl (bp x,i)) else if x.1<=last then some (.inl (11,i)) else K x.1) (fun _=>some (.inr ())) (fun k i last=>xA k last i s)
  (fun k i last h0 h1=>by
    rw[xA,RK,zT h1]
    simp only[zC,zl h0 h1,um,zc]
    by_cases hc:bp (s.2.2.1.getD i.toNat cQ)=0
    ·rw[zT hc,if_neg (fun h=>h hc)]
     simp only[Bool.not_true,zD]
     by_cases hn:(s.2.2.1.getD i.toNat cQ).1<=last
     ·rw[zT hn,if_pos hn];rfl
     ·rw[zF hn,if_neg hn];rfl
    ·rw[zF hc,if_pos hc];rfl)
  (fun k last=>by rw[xA,RK,zF (by omega)];rfl) 0
 rw[h]
 clear h hl
 generalize s.2.2.1=l
 suffices∀(i last:Int),aU (fun i (x:Spec) (last:Int) K=>if bp x≠0 then some (Sum.inl (bp x,i)) else if x.1<=last then some (.inl (11,i)) else K x.1) (fun _=>some (.inr ())) l i last=some (if(gA l i last).1=0 then(.inr ():Sum (Int×Int) Unit) else .inl (gA l i last)) from this 0 0
 induction l with
 |nil=>intro i last;rfl
 |cons x r ih=>
  intro i last
  rw[aU,gA]
  by_cases hc:bp x≠0
  ·rw[if_pos hc,if_pos hc,if_neg hc]
  ·rw[if_neg hc,if_neg hc]
   by_cases hn:x.1<=last
   ·rw[if_pos hn,if_pos hn];rfl
   ·rw[if_neg hn,if_neg hn];exact ih _ _
theorem adR(s:zf)(hl:s.2.2.1.length<=maxLen):rR s=some (fY s):=by
 unfold rR H9 fY
 have hx:=MS s.2.2.1 0 0
 have tA:(xA ah 0 0 s).bind (fun e=>Sum.elim (fun(we:Int×Int)=>UN we.1 we.2 fun a0 a1=>some (a0,a1)) (fun(we:Unit)=>UO fun a0 a1=>some (a0,a1)) e)=some (gA s.2.2.1 0 0):=by
  rw[acW s hl,zc];exact hx
 dsimp only
 rw[tA]
 by_cases h1:s.1=1
 ·rw[zT h1,if_neg (by omega)]
  by_cases h2:s.2.1<0
  ·rw[zT h2,if_pos (.inl h2)];rfl
  ·rw[zF h2]
   by_cases h3:9<s.2.1
   ·rw[zT h3,if_pos (.inr h3)];rfl
   ·rw[zF h3,if_neg (by omega)];rfl
 ·rw[zF h1]
  by_cases h0:s.1=2
  ·rw[zT h0,if_neg (by omega)]
   by_cases h2:s.2.1<0
   ·rw[zT h2,if_pos (.inl h2)];rfl
   ·rw[zF h2]
    by_cases h3:9<s.2.1
    ·rw[zT h3,if_pos (.inr h3)];rfl
    ·rw[zF h3,if_neg (by omega)];rfl
  ·rw[zF h0,if_pos (by omega)];rfl
theorem ahv{l:List Spec}{j:Nat}(h:j<l.length):l.getD ((j:Int)).toNat ((0:Int),(0:Int),(0:Int),(0:Int),(0:Int),())=l[j]:=by
 rw[Int.toNat_natCast,List.getD_eq_getElem?_getD,List.getElem?_eq_getElem h];rfl
theorem gf(s:zf)(hl:s.2.2.1.length<=9223372036854775807):∀(m j k:Nat) (last:Int),j+m=s.2.2.1.length->m<k->(j=0->last=0)->(∀h:0<j,last=(s.2.2.1.getD (j-1) cQ).1)->
 AZ k s.2.2.1 (s.2.2.1.length:Int) j s=some (if(gA (s.2.2.1.drop j) j last).1=0 then .inr () else .inl (gA (s.2.2.1.drop j) j last)):=by
 intro m
 induction m with
 |zero=>
  intro j k last hj hk h0 h1
  obtain⟨k,rfl⟩:∃k',k=k'+1:=⟨k-1,by omega⟩
  rw[AZ,Ss,zF (by omega),List.drop_eq_nil_of_le (by omega)];rfl
 |succ m ih=>
  intro j k last hj hk h0 h1
  obtain⟨k,rfl⟩:∃k',k=k'+1:=⟨k-1,by omega⟩
  have aq:j<s.2.2.1.length:=by omega
  have ihj:=ih (j+1) k (s.2.2.1[j]).1 (by omega) (by omega) (by omega) (fun _=>by
   rw[Nat.add_sub_cancel,List.getD_eq_getElem?_getD,List.getElem?_eq_getElem aq];rfl)
  rw[AZ,Ss,zT (by omega),zC,zh aq,ahv aq,Rj,zc,zo (by omega),List.drop_eq_getElem_cons aq]
  rw[show((j+1:Nat):Int)=(j:Int)+1 from rfl] at ihj⊢
  by_cases hc:bp s.2.2.1[j]=0
  ·rw[zT hc]
   simp only[Bool.not_true,zD]
   have tF:=UH hc
   by_cases hz:j=0
   ·have tw:=h0 hz
    have e:gA (s.2.2.1[j]::s.2.2.1.drop (j+1)) j last=gA (s.2.2.1.drop (j+1)) ((j:Int)+1) (s.2.2.1[j]).1:=by
     rw[gA,if_neg (fun h=>h hc),if_neg (by omega)]
    rw[zF (by omega),zD,e]
    exact ihj
   ·have tw:=h1 (by omega)
    have hi:zW zI ((j:Int)-1)=((j-1:Nat):Int):=by rw[zi (by omega) (by omega)];omega
    rw[zT (by omega),zC,hi,zh (by omega),Int.toNat_natCast]
    by_cases hn:(s.2.2.1[j]).1<=last
    ·have e:gA (s.2.2.1[j]::s.2.2.1.drop (j+1)) j last=(11,(j:Int)):=by
      rw[gA,if_neg (fun h=>h hc),if_pos hn]
     rw[e,zT (by rw[<-tw];exact hn)];rfl
    ·have e:gA (s.2.2.1[j]::s.2.2.1.drop (j+1)) j last=gA (s.2.2.1.drop (j+1)) ((j:Int)+1) (s.2.2.1[j]).1:=by
      rw[gA,if_neg (fun h=>h hc),if_neg hn]
     rw[e,zF (by rw[<-tw];exact hn)]
     exact ihj
  ·have e:gA (s.2.2.1[j]::s.2.2.1.drop (j+1)) j last=(bp s.2.2.1[j],(j:Int)):=by
    rw[gA,if_pos hc]
   rw[zF hc,e,if_neg hc];rfl
theorem RA(s:zf)(hl:s.2.2.1.length<=maxLen):lX s=some (fY s):=by
 rw[zj] at hl
 unfold lX Im fY
 have hx:=MS s.2.2.1 0 0
 have Lp:=gf s hl s.2.2.1.length 0 ah 0 (by omega) (by rw[zn];omega) (fun _=>rfl) (fun h=>absurd h (by omega))
 rw[List.drop_zero,show((0:Nat):Int)=0 from rfl] at Lp
 have tA:(AZ ah s.2.2.1 (s.2.2.1.length:Int) 0 s).bind (fun e=>Sum.elim (fun(we:Int×Int)=>Xb we.1 we.2 fun a0 a1=>some (a0,a1)) (fun(we:Unit)=>Xc fun a0 a1=>some (a0,a1)) e)=some (gA s.2.2.1 0 0):=by
  rw[Lp,zc];exact hx
 dsimp only
 rw[tA]
 by_cases h1:s.1=1
 ·rw[zT h1,if_neg (by omega)]
  by_cases h2:s.2.1<0
  ·rw[zT h2,if_pos (.inl h2)];rfl
  ·rw[zF h2]
   by_cases h3:9<s.2.1
   ·rw[zT h3,if_pos (.inr h3)];rfl
   ·rw[zF h3,if_neg (by omega)];rfl
 ·rw[zF h1]
  by_cases h0:s.1=2
  ·rw[zT h0,if_neg (by omega)]
   by_cases h2:s.2.1<0
   ·rw[zT h2,if_pos (.inl h2)];rfl
   ·rw[zF h2]
    by_cases h3:9<s.2.1
    ·rw[zT h3,if_pos (.inr h3)];rfl
    ·rw[zF h3,if_neg (by omega)];rfl
  ·rw[zF h0,if_pos (by omega)];rfl
def fA(l:List Spec)(no:Int):Option Spec:=l.find? fun x=>decide (x.1=no)
def dN:List Spec->Int->Int->Int
 | [],_,_=> -1
 |x::r,no,i=>if x.1=no then i else dN r no (i+1)
theorem al2(s:zf)(no:Int)(hl:s.2.2.1.length<=maxLen):fb s no=some (match fA s.2.2.1 no with|some x=>(x,true)|none=>(cQ,false)):=by
 unfold fb Xe fA
 dsimp only
 have h:=b7 cQ s.2.2.1 hl (fun i x (_:Unit) K=>bif decide (x.1=no) then some (Sum.inl (true,x)) else K ()) (fun _=>some (.inr cQ)) (fun k i _=>St k no s.2.2.1 (s.2.2.1.length:Int) i cQ) (fun k i _=>rfl) ()
 rw[h,]
 clear h hl
 generalize(0:Int)=i
 generalize s.2.2.1=l
 induction l generalizing i with
 |nil=>rfl
 |cons x r ih=>
  rw[aU,List.find?_cons]
  cases hx:decide (x.1=no) with
  |true=>rfl
  |false=>exact ih (i+1)
theorem aes(l:List Spec)(no:Int):∀i:Int,0<=i->(dN l no i= -1/\fA l no=none)\/(i<=dN l no i/\dN l no i<i+l.length/\∃x,fA l no=some x/\l.getD (dN l no i-i).toNat cQ=x):=by
 induction l with
 |nil=>intro i hi;left;exact⟨rfl,rfl⟩
 |cons x r ih=>
  intro i hi
  unfold dN fA
  by_cases h:x.1=no
  ·right
   rw[if_pos h,List.find?_cons,zT h]
   refine⟨by omega,by simp;omega,x,rfl,by simp⟩
  ·rw[if_neg h,List.find?_cons,zF h]
   rcases ih (i+1) (by omega) with⟨h1,h2⟩|⟨h1,h2,y,h3,h4⟩
   ·left;exact⟨h1,h2⟩
   ·right
    refine⟨by omega,by simp;omega,y,h3,?_⟩
    have:(dN r no (i+1)-i).toNat=(dN r no (i+1)-(i+1)).toNat+1:=by omega
    rw[this]
    simpa using h4
theorem AQ(s:zf)(no:Int)(hl:s.2.2.1.length<=maxLen):iN s no=some (dN s.2.2.1 no 0):=by
 unfold iN UR
 dsimp only
 have h:=b7 cQ s.2.2.1 hl (fun i x (_:Unit) K=>bif decide (x.1=no) then some (Sum.inl i) else K ()) (fun _=>some (.inr ())) (fun k i _=>RL k no i s) (fun k i _=>rfl) ()
 rw[h]
 clear h hl
 generalize(0:Int)=i
 generalize s.2.2.1=l
 induction l generalizing i with
 |nil=>rfl
 |cons x r ih=>
  rw[aU,dN]
  by_cases hx:x.1=no
  ·rw[zT hx,if_pos hx];rfl
  ·rw[zF hx,if_neg hx];exact ih (i+1)
theorem M0(n:Int):bu 0 0 n=false:=by unfold bu;simp
theorem aeC{a b:zf}:a=b↔a.1=b.1/\a.2.1=b.2.1/\a.2.2.1=b.2.2.1:=by
 obtain⟨x,y,z,u⟩:=a
 obtain⟨x',y',z',u'⟩:=b
 simp
instance:DecidableEq zf:=fun a b=>decidable_of_iff _ aeC.symm
theorem aeN(s:zf)(h:s.2.2.1.length<=1000000):rS s=some s:=by
 unfold rS UP
 rw[zT (by simp;omega)];rfl
def H8(l:List Spec)(last:Int):Prop:=(∀x∈l,bp x=0)/\(l.Pairwise fun x y=>x.1<y.1)/\∀x∈l,last<x.1
theorem ah1(l:List Spec):∀(i last:Int),(gA l i last).1=0↔H8 l last:=by
 induction l with
 |nil=>intro i last;simp [gA,H8]
 |cons x r ih=>
  intro i last
  unfold gA
  by_cases hc:bp x=0
  ·rw[if_neg (fun h=>h hc)]
   by_cases hn:x.1<=last
   ·rw[if_pos hn]
    constructor
    ·intro h;cases h
    ·intro⟨_,_,h3⟩;have:=h3 x (by simp);omega
   ·rw[if_neg hn,ih]
    constructor
    ·intro⟨h1,h2,h3⟩
     refine⟨fun y hy=> ?_,List.pairwise_cons.2 ⟨h3,h2⟩,fun y hy=> ?_⟩
     ·rcases List.mem_cons.1 hy with rfl|hy
      ·exact hc
      ·exact h1 y hy
     ·rcases List.mem_cons.1 hy with rfl|hy
      ·omega
      ·have:=h3 y hy;omega
    ·intro⟨h1,h2,h3⟩
     obtain⟨h4,h5⟩:=List.pairwise_cons.1 h2
     exact⟨fun y hy=>h1 y (by simp [hy]),h5,h4⟩
  ·rw[if_pos hc]
   constructor
   ·intro h;exact absurd h hc
   ·intro⟨h1,_,_⟩;exact absurd (h1 x (by simp)) hc
def hP(s:zf):Prop:=(s.1=1\/s.1=2)/\0<=s.2.1/\s.2.1<=9/\H8 s.2.2.1 0
theorem xq(s:zf):(fY s).1=0↔hP s:=by
 unfold fY hP
 by_cases h1:s.1=1\/s.1=2
 ·rw[if_neg (fun h=>h h1)]
  by_cases h2:s.2.1<0\/9<s.2.1
  ·rw[if_pos h2]
   constructor
   ·intro h;cases h
   ·intro⟨_,a,b,_⟩;omega
  ·rw[if_neg h2,ah1]
   constructor
   ·intro h;exact⟨h1,by omega,by omega,h⟩
   ·intro⟨_,_,_,h⟩;exact h
 ·rw[if_pos h1]
  constructor
  ·intro h;cases h
  ·intro⟨a,_⟩;exact absurd a h1
theorem H8.filter{l:List Spec}{last:Int}(h:H8 l last)(p:Spec->Bool):H8 (l.filter p) last:=
 ⟨fun x hx=>h.1 x (List.mem_filter.1 hx).1,h.2.1.filter p,fun x hx=>h.2.2 x (List.mem_filter.1 hx).1⟩
theorem Rn(s:zf)(hl:s.2.2.1.length<=maxLen):kU s=some (decide ((fY s).1=0)):=by
 unfold kU US
 rw[adR s hl,zc]
abbrev bj:=ByteArray×ByteArray×Unit
def iH:bj:=(bs [],bs [],())
instance aaI (a:ByteArray) (l:List ByteArray):Decidable (a∈l):=decidable_of_iff (l.any (fun x=>decide (a=x))=true) (by
 rw[List.any_eq_true]
 exact⟨fun⟨x,hx,h⟩=>of_decide_eq_true h▸hx,fun h=>⟨a,h,zT rfl⟩⟩)
def BJ(r:Int):Sum Int Unit:=if r= -1 then .inr () else .inl r
theorem E3(j:Nat):BJ (j:Int)= .inl (j:Int):=if_neg (by omega)
def dz{K:Type}(l:List K):List (K×Bool):=l.map fun k=>(k,true)
theorem Um{K:Type}[DecidableEq K](eq:K->K->Bool)(heq:∀x y,eq x y=decide (x=y))(k:K):∀l:List K,eF eq false (dz l) k=true↔k∈l
 | []=>by simp [dz,eF]
 |x::l=>by
  simp only[dz,List.map_cons,eF,heq]
  by_cases h:k=x
  ·rw[zT h,zC];exact⟨fun _=>by rw[h];exact List.mem_cons_self,fun _=>rfl⟩
  ·rw[zF h,zD]
   have:=Um eq heq k l
   simp only[dz] at this
   rw[this]
   exact⟨fun h'=>List.mem_cons_of_mem _ h',fun h'=>(List.mem_cons.1 h').resolve_left h⟩
theorem Un{K:Type}[DecidableEq K](eq:K->K->Bool)(heq:∀x y,eq x y=decide (x=y))(k:K):∀l:List K,eG eq (dz l) k=true↔k∈l
 | []=>by simp [dz,eG]
 |x::l=>by
  simp only[dz,List.map_cons,eG,heq]
  by_cases h:k=x
  ·rw[zT h,zC];exact⟨fun _=>by rw[h];exact List.mem_cons_self,fun _=>rfl⟩
  ·rw[zF h,zD]
   have:=Un eq heq k l
   simp only[dz] at this
   rw[this]
   exact⟨fun h'=>List.mem_cons_of_mem _ h',fun h'=>(List.mem_cons.1 h').resolve_left h⟩
theorem Gr{b:Bool}{p:Prop}(h:b=true↔p)(hp:¬p):b=false:=by cases b with
 |false=>rfl
 |true=>exact absurd (h.1 rfl) hp
theorem zac{K:Type}(l:List K)(k:K):dz l++ [(k,true)]=dz (l++ [k]):=by simp [dz]
def iV:List ByteArray->List bj->Int->Option Int
 |_,[],_=>none
 |seen,p::r,i=>if p.1∈seen then some i else iV (seen++ [p.1]) r (i+1)
def Be(l:List bj):Int×Int:=if 256<l.length then(5,256) else match iV [] l 0 with
 |some i=>(10,i)
 |none=>(0,0)
def wK(o:Option Int):Option (Sum (Int×Int) Unit):=some (match o with
 |some i=> .inl (10,i)
 |none=> .inr ())
theorem acp(l:List bj):∀(i:Int) (seen:List ByteArray),
 aU (fun i (x:bj) (s:List gF) K=>bif eF (fy .str) false s x.1 then some (Sum.inl ((10:Int),i)) else bif eG (fy .str) s x.1 then none else K (s++ [(x.1,true)])) (fun _=>some (Sum.inr ())) l i (dz seen)=wK (iV seen l i):=by
 induction l with
 |nil=>intro i seen;rfl
 |cons p r ih=>
  intro i seen
  simp only[aU,iV]
  have e1:=Um (fy .str) (fun _ _=>rfl) p.1 seen
  have e2:=Un (fy .str) (fun _ _=>rfl) p.1 seen
  by_cases h:p.1∈seen
  ·rw[e1.2 h,if_pos h];rfl
  ·rw[Gr e1 h,Gr e2 h,if_neg h,zD,zD,zac]
   exact ih (i+1) (seen++ [p.1])
theorem acx(l:List bj)(h:l.length<=maxLen):Jq l=some (Be l):=by
 unfold Jq Zf Be
 dsimp only
 by_cases hl:256<l.length
 ·rw[zT (by omega),zC,if_pos hl]
 ·rw[zF (by omega),zD,if_neg hl]
  have:=b7 iH l h (fun i (x:bj) (s:List gF) K=>bif eF (fy .str) false s x.1 then some (Sum.inl ((10:Int),i)) else bif eG (fy .str) s x.1 then none else K (s++ [(x.1,true)])) (fun _=>some (Sum.inr ()))
   (fun k i s=>SQ k l (l.length:Int) i s) (fun k i s=>rfl) []
  rw[this]
  have h2:=acp l 0 []
  rw[show dz ([]:List ByteArray)=[] from rfl] at h2
  rw[h2]
  unfold wK
  cases iV [] l 0<;>rfl
def gl:List bj->ByteArray->Int->Int
 | [],_,_=> -1
 |p::r,f,i=>if p.1=f then i else gl r f (i+1)
theorem zqy(l:List bj)(hl:l.length<=9223372036854775807)(n:Nat)(hn:n<=l.length)(f:ByteArray):∀(m j k:Nat),j+m=n->m<k->Gy k l (n:Int) f (j:Int)=some (BJ (gl ((l.take n).drop j) f j))
 |m,j,0,_,hk=>by omega
 |0,j,k+1,hj,hk=>by
  have:j=n:=by omega
  subst this
  unfold Gy RT
  rw[zF (by omega),List.drop_eq_nil_of_le (by rw[List.length_take];omega)]
  rfl
 |m+1,j,k+1,hj,hk=>by
  have aq:j<l.length:=by omega
  unfold Gy RT
  rw[zT (by omega),zC,zh aq,Int.toNat_natCast]
  have hd:(l.take n).drop j=l[j]::(l.take n).drop (j+1):=by
   rw[List.drop_eq_getElem_cons (by simp;omega)]
   congr 1
   rw[List.getElem_take]
  have hg:∀d,l.getD j d=l[j]:=fun d=>by rw[List.getD_eq_getElem?_getD,List.getElem?_eq_getElem aq];rfl
  rw[hd]
  simp only[hg,gl]
  by_cases h:l[j].1=f
  ·rw[zT h,if_pos h,E3];rfl
  ·rw[zF h,if_neg h,zD,zo (by omega),zqy l hl n hn f m (j+1) k (by omega) (by omega)]
   rfl
theorem MU(l:List bj)(hl:l.length<=maxLen)(n:Nat)(hn:n<=l.length)(f:ByteArray):qi l (n:Int) f=some (gl (l.take n) f 0):=by
 rw[zj] at hl
 unfold qi Vm
 dsimp only
 have:=zqy l hl n hn f n 0 ah (by omega) (by rw[zn];omega)
 rw[show((0:Nat):Int)=(0:Int) from rfl,List.drop_zero] at this
 rw[this,Option.bind_some]
 unfold BJ
 by_cases h:gl (l.take n) f 0= -1
 ·rw[if_pos h,h];rfl
 ·rw[if_neg h];rfl
theorem M5(f:ByteArray):∀(l:List bj) (i:Int),0<=i->(0<=gl l f i↔f∈l.map fun p=>p.1)
 | [],i,_=>by simp [gl]
 |p::r,i,hi=>by
  simp only[gl,List.map_cons,List.mem_cons]
  by_cases h:p.1=f
  ·rw[if_pos h];exact⟨fun _=> .inl h.symm,fun _=>hi⟩
  ·rw[if_neg h,M5 f r (i+1) (by omega)]
   exact⟨.inr,fun h'=>h'.resolve_left (fun e=>h e.symm)⟩
theorem zj9(l:List bj)(hl:l.length<=256):∀(m j k:Nat),j+m=l.length->m<k->Gx k l (j:Int)=wK (iV ((l.take j).map fun p=>p.1) (l.drop j) j)
 |m,j,0,_,hk=>by omega
 |0,j,k+1,hj,hk=>by
  unfold Gx RS
  rw[zF (by omega),List.drop_eq_nil_of_le (by omega)]
  rfl
 |m+1,j,k+1,hj,hk=>by
  have aq:j<l.length:=by omega
  unfold Gx RS
  have hg:∀d,l.getD j d=l[j]:=fun d=>by rw[List.getD_eq_getElem?_getD,List.getElem?_eq_getElem aq];rfl
  rw[zT (by omega),zC,zh aq,Int.toNat_natCast,hg,MU l (by rw[zj];omega) j (by omega),Option.bind_some,List.drop_eq_getElem_cons aq]
  simp only[iV]
  have hm:=M5 l[j].1 (l.take j) 0 (Int.le_refl _)
  by_cases h:l[j].1∈(l.take j).map fun p=>p.1
  ·rw[zT (hm.2 h),if_pos h];rfl
  ·rw[zF (fun h'=>h (hm.1 h')),if_neg h,zD,zo (by omega),zj9 l hl m (j+1) k (by omega) (by omega)]
   congr 2
   rw[List.take_add_one,List.getElem?_eq_getElem aq,List.map_append]
   rfl
theorem adT(l:List bj)(h:l.length<=maxLen):rZ l=some (Be l):=by
 unfold rZ Vh Be
 dsimp only
 by_cases hl:256<l.length
 ·rw[zT (by omega),zC,if_pos hl]
 ·rw[zF (by omega),zD,if_neg hl]
  have:=zj9 l (by omega) l.length 0 ah (by omega) (by rw[zn];omega)
  rw[show((0:Nat):Int)=(0:Int) from rfl,List.take_zero,List.drop_zero] at this
  rw[this]
  unfold wK
  simp only[List.map_nil]
  cases iV [] l 0<;>rfl
def zp(l:List bj)(f:ByteArray):ByteArray×Bool:=match l.find? fun p=>decide (p.1=f) with
 |some p=>(p.2.1,true)
 |none=>(bs [],false)
theorem zdf(f:ByteArray)(l:List bj):∀(i:Int),aU (fun i (x:bj) (s:Unit) K=>bif decide (x.1=f) then some (Sum.inl (x.2.1,true)) else K s) (fun _=>some (Sum.inr ())) l i ()=some (match l.find? fun p=>decide (p.1=f) with
 |some p=> .inl (p.2.1,true)
 |none=> .inr ()):=by
 induction l with
 |nil=>intro i;rfl
 |cons p r ih=>
  intro i
  simp only[aU,List.find?_cons]
  by_cases h:p.1=f
  ·rw[zT h];rfl
  ·rw[zF h,zD];exact ih (i+1)
theorem acw(l:List bj)(f:ByteArray)(h:l.length<=maxLen):Jp l f=some (zp l f):=by
 unfold Jp Y4 zp
 dsimp only
 have:=b7 iH l h (fun i (x:bj) (s:Unit) K=>bif decide (x.1=f) then some (Sum.inl (x.2.1,true)) else K s) (fun _=>some (Sum.inr ()))
  (fun k i s=>SP k f l (l.length:Int) i) (fun k i s=>rfl) ()
 rw[this,zdf]
 cases l.find? fun p=>decide (p.1=f)<;>rfl
theorem M4(f:ByteArray):∀(l:List bj) (i:Int),0<=i->(gl l f i= -1/\l.find? (fun p=>decide (p.1=f))=none)\/(i<=gl l f i/\gl l f i<i+l.length/\∃p,l.find? (fun p=>decide (p.1=f))=some p/\∀d,l.getD (gl l f i-i).toNat d=p)
 | [],i,_=> .inl ⟨rfl,rfl⟩
 |p::r,i,hi=>by
  simp only[gl,List.find?_cons,List.length_cons]
  by_cases h:p.1=f
  ·rw[if_pos h,zT h]
   exact .inr ⟨Int.le_refl _,by omega,p,rfl,fun d=>by simp⟩
  ·rw[if_neg h,zF h]
   rcases M4 f r (i+1) (by omega) with⟨h1,h2⟩|⟨h1,h2,q,h3,h4⟩
   ·exact .inl ⟨h1,h2⟩
   ·refine .inr ⟨by omega,by omega,q,h3,fun d=> ?_⟩
    have:=h4 d
    rw[show(gl r f (i+1)-i).toNat=(gl r f (i+1)-(i+1)).toNat+1 by omega,List.getD_cons_succ]
    exact this
theorem zdq(l:List bj)(f:ByteArray)(h:l.length<=maxLen):m8 l f=some (zp l f):=by
 unfold m8 Vf zp
 dsimp only
 rw[MU l h l.length (Nat.le_refl _),List.take_length,Option.bind_some]
 rcases M4 f l 0 (Int.le_refl _) with⟨h1,h2⟩|⟨h1,h2,p,h3,h4⟩
 ·rw[h1,h2];rfl
 ·rw[zF (by omega),zD,zl h1 (by omega),h3]
  have:=h4 ((bs []),(bs []),())
  rw[Int.sub_zero] at this
  rw[this]
def kO(l:List bj):List bj:=l.map fun p=>(p.2.1,p.1,())
theorem aib(l:List bj):(kO l).length=l.length:=by simp [kO]
theorem z159(l:List bj)(h:l.length<=1000000):qh l=some l:=by
 unfold qh Vi
 rw[zT (by simp;omega),zC,List.nil_append]
def jh(c b:Int):Bool:=
 if c=1 then decide (48<=b/\b<=57)
 else if c=2 then decide (65<=b/\b<=90\/97<=b/\b<=122)
 else if c=3 then decide (48<=b/\b<=57\/65<=b/\b<=90\/97<=b/\b<=122)
 else if c=4 then decide (32<=b/\b<=126)
 else decide (c=5\/c=6)
def hG(c:Int):Int:=if c=1 then 1 else if c=2 then 2 else if c=3 then 3 else if c=4 then 7 else if c=5 then 15 else if c=6 then 15 else 0
theorem ap5:∀c:Fin 7,∀b:Fin 256,ye (c.1:Int) (b.1:Int)=some (jh (c.1:Int) (b.1:Int)):=by decide+kernel
theorem QY:∀c:Fin 7,∀b:Fin 256,(Bn (b.1:Int)).map (fun r=>decide (aM .and .i64 (hG (c.1:Int)) r=0))=some (!jh (c.1:Int) (b.1:Int)):=by decide+kernel
theorem MG(c:Int):(∃k:Fin 7,c=(k.1:Int))\/(c≠1/\c≠2/\c≠3/\c≠4/\c≠5/\c≠6):=by
 by_cases h:0<=c/\c<=6
 ·exact .inl ⟨⟨c.toNat,by omega⟩,by simp;omega⟩
 ·exact .inr ⟨by omega,by omega,by omega,by omega,by omega,by omega⟩
theorem lE{b:Int}(h:zq b):∃k:Fin 256,b=(k.1:Int):=by
 unfold zq at h
 exact⟨⟨b.toNat,by omega⟩,by simp;omega⟩
theorem al5(c:Int){b:Int}(hb:zq b):ye c b=some (jh c b):=by
 obtain⟨b,rfl⟩:=lE hb
 rcases MG c with⟨k,rfl⟩|⟨h1,h2,h3,h4,h5,h6⟩
 ·exact ap5 k b
 ·unfold ye Z8 jh
  simp only[h1,h2,h3,h4,h5,h6,decide_false,zD,if_false,or_self,Bool.cond_self]
theorem ahL(c:Int){b:Int}(hb:zq b):∃r,Bn b=some r/\decide (aM .and .i64 (hG c) r=0)= !jh c b:=by
 obtain⟨b,rfl⟩:=lE hb
 rcases MG c with⟨k,rfl⟩|⟨h1,h2,h3,h4,h5,h6⟩
 ·have:=QY k b
  cases hc:Bn (b.1:Int) with
  |none=>rw[hc] at this;cases this
  |some r=>rw[hc] at this;exact⟨r,rfl,by simpa using this⟩
 ·have:=QY 0 b
  cases hc:Bn (b.1:Int) with
  |none=>rw[hc] at this;cases this
  |some r=>
   rw[hc] at this
   refine⟨r,rfl,?_⟩
   have e1:hG c=hG ((0:Fin 7).1:Int):=by unfold hG;simp [h1,h2,h3,h4,h5,h6]
   have e2:jh c (b.1:Int)=jh ((0:Fin 7).1:Int) (b.1:Int):=by unfold jh;simp [h1,h2,h3,h4,h5,h6]
   rw[e1,e2]
   simpa using this
def qb(c:Int):List Int->Int->Int
 | [],_=> -1
 |b::r,i=>if jh c b=true then qb c r (i+1) else i
theorem zr1(c:Int):∀(l:List Int) (i:Int),0<=i->(0<=qb c l i↔¬l.all (jh c)=true)
 | [],i,_=>by simp [qb]
 |b::r,i,hi=>by
  simp only[qb,List.all_cons]
  cases h:jh c b with
  |true=>rw[if_pos rfl,zr1 c r (i+1) (by omega),Bool.true_and]
  |false=>simp [hi]
theorem zya(c:Int)(s:ByteArray)(hs:s.size<=9223372036854775807):∀(n j k:Nat),j+n=s.size->n<k->Hc k s (hG c) (j:Int)=some (BJ (qb c ((bl s).drop j) j))
 |n,j,0,_,hk=>by omega
 |0,j,k+1,hj,hk=>by
  unfold Hc SO
  rw[zF (by omega),List.drop_eq_nil_of_le (by rw[zg];omega)];rfl
 |n+1,j,k+1,hj,hk=>by
  have aq:j<s.size:=by omega
  have hl:j<(bl s).length:=by rw[zg];exact aq
  have hb:zq ((bl s)[j]):=im (List.getElem_mem hl)
  have hg:(bl s).getD j 0=(bl s)[j]:=by rw[List.getD_eq_getElem?_getD,List.getElem?_eq_getElem hl];rfl
  unfold Hc SO
  rw[zT (by omega),zC,zh aq,Int.toNat_natCast,lM,hg,List.drop_eq_getElem_cons hl]
  obtain⟨r,h1,h2⟩:=ahL c hb
  rw[h1,Option.bind_some,h2]
  simp only[qb]
  cases h:jh c (bl s)[j] with
  |true=>rw[if_pos rfl,Bool.not_true,zD,zo (by omega),zya c s hs n (j+1) k (by omega) (by omega)];rfl
  |false=>rw[if_neg (by simp),Bool.not_false,zC,E3]
theorem ait(c:Int)(s:ByteArray)(h:s.size<=maxLen):Ji c s=some (qb c (bl s) 0):=by
 rw[zj] at h
 unfold Ji YQ
 dsimp only
 rw[Yk,Option.bind_some]
 have:=zya c s h s.size 0 ah (by omega) (by rw[zn];omega)
 rw[show((0:Nat):Int)=(0:Int) from rfl,List.drop_zero] at this
 rw[show(if c=1 then 1 else if c=2 then 2 else if c=3 then 3 else if c=4 then 7 else if c=5 then 15 else if c=6 then 15 else 0:Int)=hG c from rfl,this,Option.bind_some]
 unfold BJ
 by_cases h:qb c (bl s) 0= -1
 ·rw[if_pos h,h];rfl
 ·rw[if_neg h];rfl
theorem zjs(c:Int)(s:ByteArray)(hs:s.size<=9223372036854775807):∀(n j k:Nat),j+n=s.size->n<k->Hm k c s (j:Int)=some (BJ (qb c ((bl s).drop j) j))
 |n,j,0,_,hk=>by omega
 |0,j,k+1,hj,hk=>by
  unfold Hm S1
  rw[zF (by omega),List.drop_eq_nil_of_le (by rw[zg];omega)];rfl
 |n+1,j,k+1,hj,hk=>by
  have aq:j<s.size:=by omega
  have hl:j<(bl s).length:=by rw[zg];exact aq
  have hb:zq ((bl s)[j]):=im (List.getElem_mem hl)
  have hg:(bl s).getD j 0=(bl s)[j]:=by rw[List.getD_eq_getElem?_getD,List.getElem?_eq_getElem hl];rfl
  unfold Hm S1
  rw[zT (by omega),zC,zh aq,Int.toNat_natCast,lM,hg,List.drop_eq_getElem_cons hl,al5 c hb,Option.bind_some]
  simp only[qb]
  cases h:jh c (bl s)[j] with
  |true=>rw[if_pos rfl,Bool.not_true,zD,zo (by omega),zjs c s hs n (j+1) k (by omega) (by omega)];rfl
  |false=>rw[if_neg (by simp),Bool.not_false,zC,E3]
theorem zds(c:Int)(s:ByteArray)(h:s.size<=maxLen):JL c s=some (qb c (bl s) 0):=by
 rw[zj] at h
 unfold JL Z7
 dsimp only
 have:=zjs c s h s.size 0 ah (by omega) (by rw[zn];omega)
 rw[show((0:Nat):Int)=(0:Int) from rfl,List.drop_zero] at this
 rw[this,Option.bind_some]
 unfold BJ
 by_cases h:qb c (bl s) 0= -1
 ·rw[if_pos h,h];rfl
 ·rw[if_neg h];rfl
def xY(a b:Int):Bool:=decide (1<=a/\a<=6/\1<=b/\b<=6)&&decide (aM .andNot .i64 (hG b) (hG a)=0)
theorem akI(a b:Int):Jk a b=some (xY a b):=by
 unfold Jk YY xY
 rw[zrn,Option.bind_some]
 by_cases ha:1<=a/\a<=6
 ·rw[zT ha,zC,zrn,Option.bind_some]
  by_cases hb:1<=b/\b<=6
  ·rw[zT hb,zC,Yk,Option.bind_some,Yk,Option.bind_some,zT (show 1<=a/\a<=6/\1<=b/\b<=6 from⟨ha.1,ha.2,hb.1,hb.2⟩),Bool.true_and]
   rfl
  ·rw[zF hb,zD,zF (fun h=>hb h.2.2)];rfl
 ·rw[zF ha,zD,zF (fun h=>ha ⟨h.1,h.2.1⟩)];rfl
theorem ail:∀a b:Fin 7,Hz (a.1:Int) (b.1:Int)=some (xY (a.1:Int) (b.1:Int)):=by decide+kernel
theorem zyl{c:Int}(h:1<=c/\c<=6):∃k:Fin 7,c=(k.1:Int):=⟨⟨c.toNat,by omega⟩,by simp;omega⟩
theorem ze2(a b:Int):Hz a b=some (xY a b):=by
 by_cases h:(1<=a/\a<=6)/\(1<=b/\b<=6)
 ·obtain⟨k,rfl⟩:=zyl h.1
  obtain⟨m,rfl⟩:=zyl h.2
  exact ail k m
 ·unfold Hz zx1 xY
  rw[show decide (1<=a/\a<=6/\1<=b/\b<=6)=false from zF (fun h'=>h ⟨⟨h'.1,h'.2.1⟩,h'.2.2⟩),Bool.false_and]
  by_cases h1:a<1
  ·rw[zT h1];rfl
  ·by_cases h2:(6:Int)<a
   ·rw[zF h1,zT h2];rfl
   ·by_cases h3:b<1
    ·rw[zF h1,zF h2,zT h3];rfl
    ·have h4:(6:Int)<b:=by omega
     rw[zF h1,zF h2,zF h3,zT h4];rfl
theorem uo(s:ByteArray)(i:Nat):zq (ze s i):=by
 rw[lM]
 exact aht (fun x hx=>im hx) i
theorem MW:∀b:Fin 256,nj (b.1:Int)=some (decide (yi (b.1:Int)≠some 0)):=by decide+kernel
theorem zel:∀b:Fin 256,yi (b.1:Int)=some 0\/(yi (b.1:Int)=some 1/\decide (aM .and .i64 (b.1:Int) 31=31)=false)\/(yi (b.1:Int)=some 2/\decide (aM .and .i64 (b.1:Int) 31=31)=true):=by decide+kernel
theorem apY(x y:Nat)(hx:x<256)(hy:y<256):aM .and .i64 (((x:Int)*256)+(y:Int)) 255=(y:Int):=by
 have:((x:Int)*256+(y:Int))=((x*256+y:Nat):Int):=by omega
 rw[this,show(255:Int)=((255:Nat):Int) from rfl,anX (by omega) (by omega)]
 congr 1
 rw[show(255:Nat)=2^8-1 from rfl,Nat.and_two_pow_sub_one_eq_mod]
 omega
theorem acn(x y:Nat)(hx:x<256)(hy:y<256):Int.fdiv ((x:Int)*256+(y:Int)) (2^min ((8:Int)).toNat 64)=(x:Int):=by
 have:((x:Int)*256+(y:Int))=((x*256+y:Nat):Int):=by omega
 rw[this,show(8:Int)=((8:Nat):Int) from rfl,RF _ 8 (by omega)]
 congr 1
 omega
theorem ahV(x:Fin 256)(hx:yi (x.1:Int)=some 2)(y:Fin 256):sU ((x.1:Int)*256+(y.1:Int))=some (decide (1<=(y.1:Int)/\(y.1:Int)<=127)):=by
 have hx0:x.1≠0:=fun e=>by
  have:x=0:=Fin.ext e
  subst this
  revert hx
  decide+kernel
 have BL:decide (aM .and .i64 (x.1:Int) 31=31)=true:=by
  rcases zel x with h|⟨h,_⟩|⟨_,h⟩
  ·rw[h] at hx;cases hx
  ·rw[h] at hx;cases hx
  ·exact h
 have hf:nj (x.1:Int)=some true:=by rw[MW x,hx];rfl
 unfold sU XF
 rw[acn x.1 y.1 x.2 y.2,apY x.1 y.1 x.2 y.2,zF (by have:=x.2;have:=y.2;omega),zD,zT (by have:=x.2;have:=y.2;omega),zC,hf,Option.bind_some,zC,BL,zC]
 by_cases h1:(1:Int)<=(y.1:Int)
 ·rw[zT h1,zC]
  congr 1
  exact decide_eq_decide.2 ⟨fun h=>⟨h1,h⟩,fun h=>h.2⟩
 ·rw[zF h1,zD]
  congr 1
  exact(zF fun h=>h1 h.1).symm
theorem ah7(s:ByteArray)(hs:s.size<=9223372036854775000)(a:Int):sT s a=yj s a:=by
 unfold sT XE yj Ta
 by_cases h1:a<0
 ·rw[zT h1];rfl
 rw[zF h1,zD,zD]
 by_cases h2:(s.size:Int)<a
 ·rw[zT h2];rfl
 rw[zF h2,zD,zD]
 by_cases h3:a=(s.size:Int)
 ·rw[zT h3];rfl
 have wa:∀{R:Type} (x:Option R),zd a s.size x=x:=fun x=>zl (by omega) (by omega)
 rw[zF h3,zD,zD]
 simp only[wa]
 obtain⟨x,hx⟩:=lE (uo s a.toNat)
 obtain⟨y,hy⟩:=lE (uo s (zW zI (a+1)).toNat)
 have rD:=x.2
 have TR:=y.2
 have ob:=OI (uo s a.toNat) (uo s (zW zI (a+1)).toNat)
 rw[hx,hy] at ob
 have w1:zW zI (a+1)=a+1:=zi (by omega) (by omega)
 have w2:zW zI (x.1:Int)=(x.1:Int):=zi (by omega) (by omega)
 have w3:zW zI (y.1:Int)=(y.1:Int):=zi (by omega) (by omega)
 have w4:zW zI ((s.size:Int)-a)=(s.size:Int)-a:=zi (by omega) (by omega)
 rw[hx,hy,w2,MW x,Option.bind_some]
 rw[w2] at ob
 rcases zel x with h|⟨h,BL⟩|⟨h,BL⟩
 ·rw[h];rfl
 ·rw[h,Option.bind_some,BL];rfl
 ·rw[h,Option.bind_some,BL,ob,ahV x h y,Option.bind_some,w1,w4,w3]
  by_cases h4:a+1=(s.size:Int)
  ·rw[zT h4,zT (by omega:(s.size:Int)-a<2)];rfl
  ·have w5:zW zI (256*(x.1:Int))=256*(x.1:Int):=zi (by omega) (by omega)
   have w6:zW zI (256*(x.1:Int)+(y.1:Int))=(x.1:Int)*256+(y.1:Int):=by rw[zi (by omega) (by omega)];omega
   rw[zF h4,zF (by omega:¬(s.size:Int)-a<2),w5,w6]
   have wb:∀{R:Type} (x:Option R),zd (a+1) s.size x=x:=fun x=>zl (by omega) (by omega)
   simp only[wb]
   by_cases h5:(y.1:Int)=0
   ·rw[zT h5,zF (by omega:¬(1<=(y.1:Int)/\(y.1:Int)<=127))];rfl
   ·by_cases h6:(127:Int)<(y.1:Int)
    ·rw[zF h5,zT h6,zF (by omega:¬(1<=(y.1:Int)/\(y.1:Int)<=127))];rfl
    ·rw[zF h5,zF h6,zT (by omega:1<=(y.1:Int)/\(y.1:Int)<=127)];rfl
def cq(b:Int):Int:=if 48<=b/\b<=57 then b-48 else if 65<=b/\b<=70 then b-55 else-1
def gO(d:Int):Int:=if d<10 then 48+d else 55+d
def eb:List Int->List Int
 | []=>[]
 |x::r=>gO (x/16)::gO (x % 16)::eb r
def eM:List Int->List Int
 |a::b::r=>(16*cq a+cq b)::eM r
 |_=>[]
def gb:List Int->Int->Option Int
 | [],_=>none
 |a::r,i=>if cq a<0 then some i else gb r (i+1)
def z21(s:ByteArray):ByteArray×Int×Bool:=match gb (bl s) 0 with
 |some i=>(bs [],i,false)
 |none=>if s.size % 2=1 then(bs [],(s.size:Int),false) else(strOf (eM (bl s)),0,true)
def rf(s:ByteArray):ByteArray:=strOf (eb (bl s))
abbrev I8:ByteArray:=bs [48,49,50,51,52,53,54,55,56,57,65,66,67,68,69,70]
theorem ap2:∀b:Fin 256,sA (b.1:Int)=some (if cq (b.1:Int)<0 then((0:Int),false) else(cq (b.1:Int),true)):=by decide+kernel
theorem aqa:∀b:Fin 256,Br (b.1:Int)=some (cq (b.1:Int)):=by decide+kernel
theorem alg:∀b:Fin 256,cq (b.1:Int)<16/\(cq (b.1:Int)<0\/0<=cq (b.1:Int)):=by decide+kernel
theorem rK:∀b:Fin 256,Int.fdiv (b.1:Int) (2^min ((4:Int)).toNat 8)=((b.1/16:Nat):Int)/\aM .and .u8 (b.1:Int) (15:Int)=((b.1 % 16:Nat):Int)/\zW zU (Int.tdiv (b.1:Int) (16:Int))=((b.1/16:Nat):Int)/\Int.tmod (b.1:Int) (16:Int)=((b.1 % 16:Nat):Int):=by decide+kernel
theorem P1:∀d:Fin 16,ze I8 d.1=gO (d.1:Int):=by decide+kernel
theorem alf:∀a b:Fin 16,zW zU (aM .or .i64 (zW zI ((a.1:Int)*2^min ((4:Int)).toNat 64)) (b.1:Int))=16*(a.1:Int)+(b.1:Int)/\zW zU (zW zI (zW zI ((16:Int)*(a.1:Int))+(b.1:Int)))=16*(a.1:Int)+(b.1:Int):=by decide+kernel
theorem Lg{x y:Int}(h1:0<=x)(h2:x<16)(h3:0<=y)(h4:y<16):zW zU (aM .or .i64 (zW zI (x*2^min ((4:Int)).toNat 64)) y)=16*x+y/\zW zU (zW zI (zW zI ((16:Int)*x)+y))=16*x+y:=by
 have:=alf ⟨x.toNat,by omega⟩ ⟨y.toNat,by omega⟩
 simpa [Int.toNat_of_nonneg h1,Int.toNat_of_nonneg h3] using this
theorem SJ{b:Int}(h:zq b):cq b<16:=by
 obtain⟨k,rfl⟩:=lE h
 exact(alg k).1
theorem ak3{b:Int}(h:zq b):sA b=some (if cq b<0 then((0:Int),false) else(cq b,true)):=by
 obtain⟨k,rfl⟩:=lE h
 exact ap2 k
theorem ztt{b:Int}(h:zq b):Br b=some (cq b):=by
 obtain⟨k,rfl⟩:=lE h
 exact aqa k
theorem Uu:I8.size=16:=by decide
theorem LY{b:Int}(h:zq b):∃k:Fin 256,b=(k.1:Int)/\ze I8 (b.toNat/16)=gO (b/16)/\ze I8 (b.toNat % 16)=gO (b % 16):=by
 obtain⟨k,rfl⟩:=lE h
 have h1:=P1 ⟨k.1/16,by omega⟩
 have h2:=P1 ⟨k.1 % 16,by omega⟩
 exact⟨k,rfl,by simpa using h1,by simpa using h2⟩
theorem qZ{s:ByteArray}{j:Nat}(h:j<(bl s).length):ze s j=(bl s)[j]:=by rw[lM,List.getD_eq_getElem?_getD,List.getElem?_eq_getElem h];rfl
theorem zr7(s:ByteArray)(hs:s.size<=1099511627776):∀(n j k:Nat) (o:List Int),j+n=s.size->n<k->o.length+2*n<=35184372088832->GO k s o (j:Int)=some (o++eb ((bl s).drop j))
 |n,j,0,o,_,hk,_=>by omega
 |0,j,k+1,o,hj,hk,_=>by
  unfold GO Sg
  rw[zF (by omega),zD,List.drop_eq_nil_of_le (by rw[zg];omega),eb,List.append_nil]
 |n+1,j,k+1,o,hj,hk,ho=>by
  have aq:j<s.size:=by omega
  have hl:j<(bl s).length:=by rw[zg];exact aq
  obtain⟨b,hb,n1,n2⟩:=LY (im (List.getElem_mem hl))
  have rA:=b.2
  unfold GO Sg
  rw[zT (by omega),zC]
  simp only[Int.toNat_natCast,qZ hl,hb,(rK b).1,(rK b).2.1]
  rw[zh aq,zh (by rw[Uu];omega),zh aq,zh (by rw[Uu];omega),zT (by simp only[List.length_cons,List.length_nil];omega),zC]
  rw[hb] at n1 n2
  simp only[Int.toNat_natCast] at n1 n2
  rw[n1,n2,zo (by omega),zr7 s hs n (j+1) k _ (by omega) (by omega) (by rw[List.length_append];simp only[List.length_cons,List.length_nil];omega),List.drop_eq_getElem_cons hl,hb,eb,List.append_assoc]
  rfl
theorem zyi(s:ByteArray)(hs:s.size<=1099511627776):jk s=some (rf s):=by
 unfold jk Wo
 rw[zi (by omega) (by omega),zT (by omega),zC,zT (by omega),zC]
 have:=zr7 s hs s.size 0 ah [] (by omega) (by rw[zn];omega) (by simp;omega)
 rw[show((0:Nat):Int)=0 from rfl,List.drop_zero,List.nil_append] at this
 dsimp only
 rw[this];rfl
theorem zyw(s:ByteArray)(hs:s.size<=1099511627776):∀(n j k:Nat) (o:List Int),j+n=s.size->n<k->o.length+2*n<=35184372088832->Hk k s o (j:Int)=some (o++eb ((bl s).drop j))
 |n,j,0,o,_,hk,_=>by omega
 |0,j,k+1,o,hj,hk,_=>by
  unfold Hk SZ
  rw[zF (by omega),zD,List.drop_eq_nil_of_le (by rw[zg];omega),eb,List.append_nil]
 |n+1,j,k+1,o,hj,hk,ho=>by
  have aq:j<s.size:=by omega
  have hl:j<(bl s).length:=by rw[zg];exact aq
  obtain⟨b,hb,n1,n2⟩:=LY (im (List.getElem_mem hl))
  have rA:=b.2
  have hD:Hy=some I8:=rfl
  unfold Hk SZ
  rw[zT (by omega),zC]
  simp only[hD,zc,Int.toNat_natCast,qZ hl,hb,(rK b).2.2.1,(rK b).2.2.2]
  rw[zh aq,zh (by rw[Uu];omega),zh aq,zh (by rw[Uu];omega),zT (by simp only[List.length_cons,List.length_nil];omega),zC]
  rw[hb] at n1 n2
  simp only[Int.toNat_natCast] at n1 n2
  rw[n1,n2,zo (by omega),zyw s hs n (j+1) k _ (by omega) (by omega) (by rw[List.length_append];simp only[List.length_cons,List.length_nil];omega),List.drop_eq_getElem_cons hl,hb,eb,List.append_assoc]
  rfl
theorem NI(s:ByteArray)(hs:s.size<=1099511627776):vC s=some (rf s):=by
 unfold vC Z0
 have:=zyw s hs s.size 0 ah [] (by omega) (by rw[zn];omega) (by simp;omega)
 rw[show((0:Nat):Int)=0 from rfl,List.drop_zero,List.nil_append] at this
 dsimp only
 rw[this];rfl
def ke:List Int->Nat->List Int->Int->Sum Int (List Int)
 | [],_,o,_=> .inr o
 |a::r,i,o,high=>if cq a<0 then .inl i else if i % 2=0 then ke r (i+1) o (cq a) else ke r (i+1) (o++ [16*high+cq a]) high
theorem PT:∀(l:List Int) (i:Nat) (o:List Int) (high:Int),i % 2=0->ke l i o high=(match gb l i with
 |some q=> .inl q
 |none=> .inr (o++eM l))
 | [],i,o,high,h=>by simp [ke,gb,eM]
 | [a],i,o,high,h=>by
   rw[ke,gb]
   by_cases ha:cq a<0
   ·rw[if_pos ha,if_pos ha]
   ·rw[if_neg ha,if_neg ha,if_pos h]
    simp [ke,gb,eM]
 |a::b::r,i,o,high,h=>by
  rw[ke,gb]
  by_cases ha:cq a<0
  ·rw[if_pos ha,if_pos ha]
  ·rw[if_neg ha,if_neg ha,if_pos h,ke,gb]
   by_cases hb:cq b<0
   ·rw[if_pos hb,if_pos hb];rfl
   ·rw[if_neg hb,if_neg hb,if_neg (by omega),PT r (i+1+1) _ _ (by omega),eM,List.append_assoc]
    have:((i:Int)+1+1)=((i+1+1:Nat):Int):=by omega
    rw[this];rfl
theorem u7(j:Nat):Int.tmod (j:Int) (2:Int)=((j % 2:Nat):Int):=rfl
theorem zb5(s:ByteArray)(hs:s.size<=1099511627776):∀(n j k:Nat) (o:List Int) (high:Int),j+n=s.size->n<k->o.length+n<=35184372088832->0<=high/\high<16->∃o',GN k s o high (j:Int)=some (match ke ((bl s).drop j) j o high with
 | .inl i=> .inl (s,bs [],i,false,o')
 | .inr r=> .inr (s,r))
 |n,j,0,o,high,_,hk,_,_=>by omega
 |0,j,k+1,o,high,hj,hk,_,_=>by
  unfold GN Sf
  rw[zF (by omega),zD,List.drop_eq_nil_of_le (by rw[zg];omega)]
  exact⟨o,rfl⟩
 |n+1,j,k+1,o,high,hj,hk,ho,hh=>by
  have aq:j<s.size:=by omega
  have hl:j<(bl s).length:=by rw[zg];exact aq
  have hb:=im (List.getElem_mem hl)
  have h16:=SJ hb
  unfold GN Sf
  rw[zT (by omega),zC,zh aq,Int.toNat_natCast,qZ hl,ak3 hb,zc,List.drop_eq_getElem_cons hl,ke]
  by_cases ha:cq (bl s)[j]<0
  ·rw[if_pos ha,if_pos ha]
   exact⟨o,rfl⟩
  ·rw[if_neg ha,if_neg ha]
   dsimp only
   rw[Bool.not_true,zD,u7]
   by_cases hp:j % 2=0
   ·rw[if_pos hp,zT (by omega),zC,zo (by omega)]
    exact zb5 s hs n (j+1) k o _ (by omega) (by omega) (by omega) (by omega)
   ·rw[if_neg hp,zF (by omega),zD,zT (by simp only[List.length_singleton];omega),zC,zo (by omega),(Lg hh.1 hh.2 (by omega) h16).1]
    exact zb5 s hs n (j+1) k _ high (by omega) (by omega) (by rw[List.length_append,List.length_singleton];omega) hh
theorem zyh(s:ByteArray)(hs:s.size<=1099511627776):fZ s=some (z21 s):=by
 unfold fZ Wl z21
 have e:Int.tdiv (s.size:Int) 2=((s.size/2:Nat):Int):=rfl
 rw[e,zi (by omega) (by omega),zT (by omega),zC,zT (by omega),zC]
 obtain⟨o',h⟩:=zb5 s hs s.size 0 ah [] 0 (by omega) (by rw[zn];omega) (by simp;omega) (by omega)
 rw[show((0:Nat):Int)=0 from rfl,List.drop_zero,PT _ 0 _ _ rfl,List.nil_append,show((0:Nat):Int)=0 from rfl] at h
 dsimp only
 rw[h,zc]
 cases gb (bl s) 0 with
 |some i=>rfl
 |none=>
  dsimp only
  rw[Sum.elim_inr]
  unfold Wm
  dsimp only
  rw[u7]
  by_cases hp:s.size % 2=1
  ·rw[if_pos hp,zF (by omega)];rfl
  ·rw[if_neg hp,zT (by omega)];rfl
theorem zxu(s:ByteArray)(hs:s.size<=1099511627776):∀(n j k:Nat),j+n=s.size->n<k->Hi k s (j:Int)=some (match gb ((bl s).drop j) j with
 |some i=> .inl (s,bs [],i,false)
 |none=> .inr s)
 |n,j,0,_,hk=>by omega
 |0,j,k+1,hj,hk=>by
  unfold Hi SX
  rw[zF (by omega),zD,List.drop_eq_nil_of_le (by rw[zg];omega)];rfl
 |n+1,j,k+1,hj,hk=>by
  have aq:j<s.size:=by omega
  have hl:j<(bl s).length:=by rw[zg];exact aq
  have hb:=im (List.getElem_mem hl)
  unfold Hi SX
  rw[zT (by omega),zC,zh aq,Int.toNat_natCast,qZ hl,ztt hb,zc,List.drop_eq_getElem_cons hl,gb]
  by_cases ha:cq (bl s)[j]<0
  ·rw[if_pos ha,zT ha];rfl
  ·rw[if_neg ha,zF ha,zD]
   dsimp only
   rw[zo (by omega)]
   exact zxu s hs n (j+1) k (by omega) (by omega)
theorem Mv{l:List Int}:∀{i:Int},gb l i=none->∀a∈l,0<=cq a:=by
 induction l with
 |nil=>intro i _ a ha;cases ha
 |cons b r ih=>
  intro i h a ha
  rw[gb] at h
  by_cases hb:cq b<0
  ·rw[if_pos hb] at h;cases h
  ·rw[if_neg hb] at h
   rcases List.mem_cons.1 ha with rfl|ha
   ·omega
   ·exact ih h a ha
theorem zye(s:ByteArray)(hs:s.size<=1099511627776)(hev:s.size % 2=0)(iA:∀a∈bl s,0<=cq a):∀(n j k:Nat) (o:List Int),j+2*n=s.size->n<k->o.length+n<=35184372088832->Hj k s o (j:Int)=some (o++eM ((bl s).drop j))
 |n,j,0,o,_,hk,_=>by omega
 |0,j,k+1,o,hj,hk,_=>by
  unfold Hj SY
  rw[zF (by omega),zD,List.drop_eq_nil_of_le (by rw[zg];omega),eM,List.append_nil]
  exact fun _ _ _ h=>by cases h
 |n+1,j,k+1,o,hj,hk,ho=>by
  have aq:j<s.size:=by omega
  have nF:j+1<s.size:=by omega
  have hl:j<(bl s).length:=by rw[zg];exact aq
  have nD:j+1<(bl s).length:=by rw[zg];exact nF
  have m1:=List.getElem_mem hl
  have m2:=List.getElem_mem nD
  unfold Hj SY
  rw[zT (by omega),zC,zh aq,Int.toNat_natCast,qZ hl,ztt (im m1),zc,zo (by omega),zh nF,Int.toNat_natCast,qZ nD,ztt (im m2),zc]
  rw[(Lg (iA _ m1) (SJ (im m1)) (iA _ m2) (SJ (im m2))).2,zT (by simp only[List.length_singleton];omega),zC]
  have e:zW zI ((j:Int)+2)=((j+2:Nat):Int):=by rw[zi (by omega) (by omega)];omega
  rw[e]
  dsimp only
  rw[zye s hs hev iA n (j+2) k _ (by omega) (by omega) (by rw[List.length_append,List.length_singleton];omega),List.drop_eq_getElem_cons hl,List.drop_eq_getElem_cons nD,eM,List.append_assoc]
  rfl
theorem NG(s:ByteArray)(hs:s.size<=1099511627776):yc s=some (z21 s):=by
 unfold yc ZX z21
 have h:=zxu s hs s.size 0 ah (by omega) (by rw[zn];omega)
 rw[show((0:Nat):Int)=0 from rfl,List.drop_zero] at h
 dsimp only
 rw[h,zc]
 cases hb:gb (bl s) 0 with
 |some i=>rfl
 |none=>
  dsimp only
  rw[Sum.elim_inr]
  unfold ZY
  rw[u7]
  by_cases hp:s.size % 2=1
  ·rw[if_pos hp,zT (by omega)];rfl
  ·rw[if_neg hp,zF (by omega),zD]
   have:=zye s hs (by omega) (Mv hb) (s.size/2) 0 ah [] (by omega) (by rw[zn];omega) (by simp;omega)
   rw[show((0:Nat):Int)=0 from rfl,List.drop_zero,List.nil_append] at this
   dsimp only
   rw[this];rfl
theorem ali:∀d:Fin 16,cq (gO (d.1:Int))=(d.1:Int)/\zq (gO (d.1:Int)):=by
 have:∀d:Fin 16,cq (gO (d.1:Int))=(d.1:Int)/\0<=gO (d.1:Int)/\gO (d.1:Int)<256:=by decide+kernel
 exact this
theorem PX{d:Int}(h:0<=d)(h2:d<16):cq (gO d)=d/\zq (gO d):=by
 have:=ali ⟨d.toNat,by omega⟩
 simpa [Int.toNat_of_nonneg h] using this
theorem M3:∀{l:List Int},(∀x∈l,zq x)->∀y∈eb l,zq y
 | [],_,y,hy=>by cases hy
 |x::r,h,y,hy=>by
  have hx:=h x List.mem_cons_self
  unfold zq at hx
  rw[eb] at hy
  rcases List.mem_cons.1 hy with rfl|hy
  ·exact(PX (by omega) (by omega)).2
  ·rcases List.mem_cons.1 hy with rfl|hy
   ·exact(PX (by omega) (by omega)).2
   ·exact M3 (fun z hz=>h z (List.mem_cons_of_mem _ hz)) y hy
theorem On:∀l:List Int,(eb l).length=2*l.length
 | []=>rfl
 |x::r=>by rw[eb,List.length_cons,List.length_cons,On r,List.length_cons];omega
theorem ahx(s:ByteArray):bl (rf s)=eb (bl s):=rF (M3 fun x hx=>im hx)
theorem zb6(s:ByteArray):(rf s).size=2*s.size:=by rw[<-zg,ahx,On,zg]
theorem alh:∀b:Fin 256,0<=cq (b.1:Int)->gO (cq (b.1:Int))=(b.1:Int):=by decide+kernel
theorem M1{b:Int}(h:zq b)(h0:0<=cq b):gO (cq b)=b:=by
 obtain⟨k,rfl⟩:=lE h
 exact alh k h0
theorem Aa:∀{l:List Int},l.length % 2=0->(∀x∈l,zq x/\0<=cq x)->eb (eM l)=l/\∀y∈eM l,zq y
 | [],_,_=>⟨by simp [eb,eM],fun y hy=>by simp [eM] at hy⟩
 | [a],h,_=>by simp at h
 |a::b::r,h,hx=>by
  obtain⟨a1,a2⟩:=hx a (by simp)
  obtain⟨b1,b2⟩:=hx b (by simp)
  have a3:=SJ a1
  have b3:=SJ b1
  obtain⟨i1,i2⟩:=Aa (l:=r) (by simp only[List.length_cons] at h;omega) fun y hy=>hx y (by simp [hy])
  rw[eM,eb]
  refine⟨?_,fun y hy=> ?_⟩
  ·rw[show(16*cq a+cq b)/16=cq a by omega,show(16*cq a+cq b)% 16=cq b by omega,M1 a1 a2,M1 b1 b2,i1]
  ·rcases List.mem_cons.1 hy with rfl|hy
   ·unfold zq;omega
   ·exact i2 y hy
theorem zjx{s t:ByteArray}{i:Int}(h:z21 s=(t,i,true)):rf t=s/\s.size=2*t.size:=by
 unfold z21 at h
 cases hb:gb (bl s) 0 with
 |some q=>rw[hb] at h;cases h
 |none=>
  rw[hb] at h
  dsimp only at h
  by_cases hp:s.size % 2=1
  ·rw[if_pos hp] at h;cases h
  ·rw[if_neg hp] at h
   have ht:t=strOf (eM (bl s)):=(congrArg Prod.fst h).symm
   obtain⟨e1,e2⟩:=Aa (l:=bl s) (by rw[zg];omega) fun x hx=>⟨im hx,Mv hb x hx⟩
   have e3:rf t=s:=by
    unfold rf
    rw[ht,rF e2,e1,z40]
   exact⟨e3,by rw[<-e3,zb6]⟩
def bX(b:Int):Bool:=decide (48<=b/\b<=57)
def bh(l:List Int):Bool:=l.all bX
theorem zix(b:Int)(l:List Int):bh (b::l)=(bX b&&bh l):=rfl
theorem aol{b:Int}(h:48<=b/\b<=57):bX b=true:=zT h
theorem E4{b:Int}(h:¬(48<=b/\b<=57)):bX b=false:=zF h
theorem Tf{s:ByteArray}{j:Nat}(h:j<s.size):(bl s).getD j 0=((s[j]'h).toNat:Int):=by
 rw[<-lM]
 unfold ze
 rw[dif_pos h]
theorem Ya{s:ByteArray}{j:Nat}(h:j<s.size):(bl s).drop j=((s[j]'h).toNat:Int)::(bl s).drop (j+1):=by
 have h':j<(bl s).length:=by rw[zg];exact h
 rw[List.drop_eq_getElem_cons h']
 congr 1
 have:=Tf h
 rw[List.getD_eq_getElem?_getD,List.getElem?_eq_getElem h'] at this
 exact this
theorem adz(s:ByteArray)(pos:Nat)(h:pos<s.size)(ha:128<=(s[pos]'h).toNat):128<=(Utf8.decode s pos).1:=by
 have e:s.get! (pos+0)=s[pos]'h:=by
  show s.get! pos=_
  simp [ByteArray.get!,getElem!_pos,h]
  rfl
 unfold Utf8.decode
 simp only[e]
 rw[if_neg (by omega)]
 have TN:128<=Utf8.runeError:=by unfold Utf8.runeError;omega
 split
 ·split
  ·assumption
  ·exact TN
 ·split
  ·split
   ·rename_i hc
    simp only[Bool.and_eq_true,decide_eq_true_eq] at hc
    have:=hc.1
    simp only
    omega
   ·exact TN
  ·split
   ·split
    ·rename_i hc
     simp only[Bool.and_eq_true,decide_eq_true_eq] at hc
     have:=hc.1
     simp only
     omega
    ·exact TN
   ·exact TN
theorem NO(s:ByteArray):∀(n j k:Nat),s.size-j<=n->j<=s.size->n<k->IE k (s,j)=some (bif bh ((bl s).drop j) then .inr () else .inl false)
 |n,j,0,_,_,hk=>by omega
 |n,j,k+1,hn,hj,hk=>by
  unfold IE Zm
  dsimp only
  by_cases aq:j<s.size
  ·rw[zT aq,zC,Ya aq,zix]
   by_cases h1:(s[j]'aq).toNat<128
   ·rw[decode_ascii s j aq h1]
    dsimp only
    by_cases h2:((s[j]'aq).toNat:Int)<48
    ·rw[zT h2,zC,E4 (by omega)];rfl
    ·rw[zF h2,zD]
     by_cases h3:(57:Int)<((s[j]'aq).toNat:Int)
     ·rw[zT h3,zC,E4 (by omega)];rfl
     ·obtain⟨n,rfl⟩:∃n',n=n'+1:=⟨n-1,by omega⟩
      rw[zF h3,zD,aol (by omega),Bool.true_and,NO s n (j+1) k (by omega) (by omega) (by omega)]
   ·have hd:=adz s j aq (by omega)
    rw[zF (by omega:¬((Utf8.decode s j).1:Int)<48),zD,zT (by omega:(57:Int)<((Utf8.decode s j).1:Int)),zC,E4 (by omega)];rfl
  ·rw[zF aq,zD,List.drop_eq_nil_of_le (by rw[zg];omega)];rfl
theorem Ym(s:ByteArray)(h:s.size<=maxLen):x7 s=some (bh (bl s)):=by
 unfold x7 Zl
 dsimp only
 rw[zj] at h
 rw[NO s s.size 0 ah (by omega) (by omega) (by rw[zn];omega),List.drop_zero]
 cases bh (bl s)<;>rfl
theorem adW(b:Int):JH b=some (bX b):=by
 unfold JH ZG bX
 by_cases h:(48:Int)<=b
 ·rw[zT h,zC];congr 1;apply decide_eq_decide.2;omega
 ·rw[zF h,zD];congr 1;symm;apply zF;omega
theorem zxr(s:ByteArray)(hs:s.size<=9223372036854775807):∀(n j k:Nat),s.size-j<=n->j<=s.size->n<k->IG k s (j:Int)=some (bif bh ((bl s).drop j) then .inr () else .inl false)
 |n,j,0,_,_,hk=>by omega
 |n,j,k+1,hn,hj,hk=>by
  unfold IG ZF
  dsimp only
  by_cases aq:j<s.size
  ·rw[zT (by omega),zC,zh aq,adW,Int.toNat_natCast,lM,Tf aq,Ya aq,zix]
   rw[Option.bind_some]
   cases h1:bX ((s[j]'aq).toNat:Int) with
   |false=>rfl
   |true=>
    obtain⟨n,rfl⟩:∃n',n=n'+1:=⟨n-1,by omega⟩
    simp only[Bool.not_true,zD,Bool.true_and]
    rw[zo (by omega),zxr s hs n (j+1) k (by omega) (by omega) (by omega)]
  ·rw[zF (by omega),zD,List.drop_eq_nil_of_le (by rw[zg];omega)];rfl
theorem Us(s:ByteArray)(h:s.size<=maxLen):yb s=some (bh (bl s)):=by
 unfold yb ZE
 dsimp only
 rw[zj] at h
 have:=zxr s h s.size 0 ah (by omega) (by omega) (by rw[zn];omega)
 rw[show((0:Nat):Int)=(0:Int) from rfl] at this
 rw[this,List.drop_zero]
 cases bh (bl s)<;>rfl
def c8(l:List Int)(n:Int):Int:=l.foldl (fun n b=>10*n+(b-48)) n
theorem zza:∀(l:List Int) (n:Int) (k:Nat),bh l=true->0<=n->n<((10^k:Nat):Int)->l.length+k<=18->0<=c8 l n/\c8 l n<((10^(l.length+k):Nat):Int)
 | [],n,k,_,h1,h2,_=>by simpa [c8] using⟨h1,h2⟩
 |b::l,n,k,hd,h1,h2,hl=>by
  simp only[bh,List.all_cons,Bool.and_eq_true,bX,decide_eq_true_eq] at hd
  have hp:((10^(k+1):Nat):Int)=10*((10^k:Nat):Int):=by rw[Nat.pow_succ];omega
  have:=zza l (10*n+(b-48)) (k+1) hd.2 (by omega) (by rw[hp];omega) (by simp at hl;omega)
  simp only[c8,List.foldl_cons,List.length_cons] at this⊢
  rw[show l.length+1+k=l.length+(k+1) by omega]
  exact this
theorem Av{k m:Nat}(h:k<=m):10^k<=10^m:=Nat.pow_le_pow_right (by decide) h
theorem Ra(k:Nat):((10^(k+1):Nat):Int)=10*((10^k:Nat):Int):=by rw[Nat.pow_succ];omega
theorem Aw:(10:Nat)^17=100000000000000000:=by decide
theorem Oj(s:ByteArray)(hs:s.size<=18)(hd:bh (bl s)=true):∀(n j k:Nat) (t:Int),s.size-j<=n->j<=s.size->n<k->0<=t->t<((10^j:Nat):Int)->IF k t (s,j)=some (c8 ((bl s).drop j) t)
 |n,j,0,t,_,_,hk,_,_=>by omega
 |n,j,k+1,t,hn,hj,hk,h0,h1=>by
  unfold IF Zp
  dsimp only
  by_cases aq:j<s.size
  ·have Ln:bX ((s[j]'aq).toNat:Int)=true:=by
    have:=List.all_eq_true.1 hd ((bl s).getD j 0) (by
     rw[List.getD_eq_getElem?_getD,List.getElem?_eq_getElem (by rw[zg];exact aq)]
     exact List.getElem_mem _)
    rw[Tf aq] at this
    exact this
   simp only[bX,decide_eq_true_eq] at Ln
   rw[zT aq,zC,decode_ascii s j aq (by omega),Ya aq]
   dsimp only
   have hp1:=Ra j
   have w32:IntKind.i32.wrap (((s[j]'aq).toNat:Int)-48)=((s[j]'aq).toNat:Int)-48:=by
    simp [IntKind.wrap,IntKind.signed,IntKind.bits];omega
   obtain⟨n,rfl⟩:∃n',n=n'+1:=⟨n-1,by omega⟩
   have ht:t<100000000000000000:=by
    have:=Av (show j<=17 by omega)
    rw[Aw] at this
    omega
   have a1:zW zI (10*t)=10*t:=zi (by omega) (by omega)
   have a2:zW zI (((s[j]'aq).toNat:Int)-48)=((s[j]'aq).toNat:Int)-48:=zi (by omega) (by omega)
   rw[w32,a1,a2,zi (by omega) (by omega),Oj s hs hd n (j+1) k _ (by omega) (by omega) (by omega) (by omega) (by omega)]
   rfl
  ·rw[zF aq,zD,List.drop_eq_nil_of_le (by rw[zg];omega)];rfl
def cW(l:List Int):Int×Bool:=if 1<=l.length/\l.length<=18/\bh l=true then(c8 l 0,true) else(0,false)
theorem Qn(s:ByteArray)(h:s.size<=maxLen):x8 s=some (cW (bl s)):=by
 unfold x8 Zo cW
 dsimp only
 rw[zg]
 by_cases h0:s=bs []
 ·rw[zT h0,zC,if_neg]
  rw[h0]
  intro hh
  have:(bs []).size=0:=rfl
  omega
 ·have hz:s.size≠0:=fun e=>h0 (ze9.2 (List.eq_nil_of_length_eq_zero (by rw[zg];exact e)))
  rw[zF h0,zD]
  by_cases h1:(18:Int)<(s.size:Int)
  ·rw[zT h1,zC,if_neg (by omega)]
  ·rw[zF h1,zD,Ym s h,Option.bind_some]
   cases hd:bh (bl s) with
   |false=>rw[if_neg (by simp)];rfl
   |true=>
    rw[if_pos ⟨by omega,by omega,rfl⟩]
    simp only[Bool.not_true,zD]
    rw[Oj s (by omega) hd s.size 0 ah 0 (by omega) (by omega) (by rw[zn];omega) (by omega) (by decide),List.drop_zero,Option.bind_some]
    rfl
theorem zyd(s:ByteArray)(hs:s.size<=18)(hd:bh (bl s)=true):∀(n j k:Nat) (t:Int),s.size-j<=n->j<=s.size->n<k->0<=t->t<((10^j:Nat):Int)->II k s t (j:Int)=some (c8 ((bl s).drop j) t)
 |n,j,0,t,_,_,hk,_,_=>by omega
 |n,j,k+1,t,hn,hj,hk,h0,h1=>by
  unfold II ZJ
  dsimp only
  by_cases aq:j<s.size
  ·have Ln:bX ((s[j]'aq).toNat:Int)=true:=by
    have:=List.all_eq_true.1 hd ((bl s).getD j 0) (by
     rw[List.getD_eq_getElem?_getD,List.getElem?_eq_getElem (by rw[zg];exact aq)]
     exact List.getElem_mem _)
    rw[Tf aq] at this
    exact this
   simp only[bX,decide_eq_true_eq] at Ln
   rw[zT (by omega),zC,zh aq,Int.toNat_natCast,lM,Tf aq,Ya aq]
   have hp1:=Ra j
   obtain⟨n,rfl⟩:∃n',n=n'+1:=⟨n-1,by omega⟩
   have ht:t<100000000000000000:=by
    have:=Av (show j<=17 by omega)
    rw[Aw] at this
    omega
   have a1:zW zI (10*t)=10*t:=zi (by omega) (by omega)
   have a2:zW zI ((s[j]'aq).toNat:Int)=((s[j]'aq).toNat:Int):=zi (by omega) (by omega)
   have a3:zW zI (10*t+((s[j]'aq).toNat:Int))=10*t+((s[j]'aq).toNat:Int):=zi (by omega) (by omega)
   rw[a1,a2,a3,zi (by omega) (by omega),zo (by omega),zyd s hs hd n (j+1) k _ (by omega) (by omega) (by omega) (by omega) (by omega)]
   simp only[c8,List.foldl_cons]
   congr 2
   omega
  ·rw[zF (by omega),zD,List.drop_eq_nil_of_le (by rw[zg];omega)];rfl
theorem Ut(s:ByteArray)(h:s.size<=maxLen):oq s=some (cW (bl s)):=by
 unfold oq ZI cW
 dsimp only
 rw[zg]
 by_cases h0:(s.size:Int)<1
 ·rw[zT h0,zC,if_neg (by omega)]
 ·rw[zF h0,zD]
  by_cases h1:(18:Int)<(s.size:Int)
  ·rw[zT h1,zC,if_neg (by omega)]
  ·rw[zF h1,zD,Us s h,Option.bind_some]
   cases hd:bh (bl s) with
   |false=>rw[if_neg (by simp)];rfl
   |true=>
    rw[if_pos ⟨by omega,by omega,rfl⟩]
    simp only[Bool.not_true,zD]
    have:=zyd s (by omega) hd s.size 0 ah 0 (by omega) (by omega) (by rw[zn];omega) (by omega) (by decide)
    rw[show((0:Nat):Int)=(0:Int) from rfl] at this
    rw[this,List.drop_zero,Option.bind_some]
    rfl
def nA:Nat->Nat->List Int
 |0,_=>[]
 |w+1,n=>nA w (n/10)++ [((48+n % 10:Nat):Int)]
theorem zei:∀w n,(nA w n).length=w
 |0,_=>rfl
 |w+1,n=>by rw[nA,List.length_append,zei w];rfl
theorem N5{l:List Int}(h:bh l=true):∀x∈l,zq x:=fun x hx=>by
 have:=List.all_eq_true.1 h x hx
 simp only[bX,decide_eq_true_eq] at this
 unfold zq;omega
theorem T3(a b:List Int):strOf (a++b)=strOf a++strOf b:=by
 apply ByteArray.ext
 simp [strOf,ByteArray.data_append]
theorem Rg(n:Nat):Int.tmod (n:Int) 10=((n % 10:Nat):Int):=by rw[Int.tmod_eq_emod_of_nonneg (by omega)];omega
theorem Rf(n:Nat):Int.tdiv (n:Int) 10=((n/10:Nat):Int):=by rw[Int.tdiv_eq_ediv_of_nonneg (by omega)];omega
theorem N6(n:Nat):zW zU (zW zI ((48:Int)+((n % 10:Nat):Int)))=((48+n % 10:Nat):Int):=by
 rw[zi (by omega) (by omega),ui (by omega) (by omega)];omega
theorem E2(n w:Nat):n/10/10^w=n/10^(w+1):=by rw[Nat.div_div_eq_div_mul,Nat.pow_succ,Nat.mul_comm]
theorem fN(x:Int)(tail:List Int):∀j,(List.replicate (j+1) (0:Int)++tail).set j x=List.replicate j 0++x::tail
 |0=>rfl
 |j+1=>by
  show(0:Int)::((List.replicate (j+1) (0:Int)++tail).set j x)=0::(List.replicate j 0++x::tail)
  rw[fN x tail j]
theorem OP(nt nt2:Nat)(hnt:nt<=18):∀(j k n:Nat) (tail:List Int),nt=j+tail.length->n<=9223372036854775807->j<k->
 Hg k (n:Int) nt ((j:Int)-1) nt2 (List.replicate j 0++tail)=some (((n/10^j:Nat):Int),nt,nt2,nA j n++tail)
 |j,0,n,tail,_,_,hk=>by omega
 |0,k+1,n,tail,h,hn,hk=>by
  unfold Hg SR
  dsimp only
  rw[zF (by omega),zD]
  simp [nA]
 |j+1,k+1,n,tail,h,hn,hk=>by
  unfold Hg SR
  dsimp only
  have e:(((j+1:Nat):Int)-1)=(j:Int):=by omega
  rw[e,zT (by omega:(0:Int)<=(j:Int)),zC,zh (by omega),Int.toNat_natCast,Rg,Rf,N6]
  have hb:Nat.ble (j+1) (List.replicate (j+1) (0:Int)++tail).length=true:=Nat.ble_eq_true_of_le (by simp)
  rw[hb,zC,z49 (by omega),zi (by omega) (by omega)]
  rw[fN,OP nt nt2 hnt j k (n/10) _ (by simp;omega) (by omega) (by omega),E2]
  simp [nA]
def gX(n w:Int):ByteArray×Bool:=bif decide (0<=n/\1<=w/\w<=18/\n.toNat/10^w.toNat=0) then(strOf (nA w.toNat n.toNat),true) else(bs [],false)
theorem Tr{n w:Int}(h:0<=n/\1<=w/\w<=18/\n.toNat/10^w.toNat=0):gX n w=(strOf (nA w.toNat n.toNat),true):=by unfold gX;rw[zT h];rfl
theorem xW{n w:Int}(h:¬(0<=n/\1<=w/\w<=18/\n.toNat/10^w.toNat=0)):gX n w=(bs [],false):=by unfold gX;rw[zF h];rfl
theorem aoE(n w:Int)(hn:n<=9223372036854775807):Jt n w=some (gX n w):=by
 unfold Jt Zs
 dsimp only
 by_cases h1:n<0
 ·rw[zT h1,zC,xW (by omega)]
 rw[zF h1,zD]
 by_cases h2:w<1
 ·rw[zT h2,zC,xW (by omega)]
 rw[zF h2,zD]
 by_cases h3:(18:Int)<w
 ·rw[zT h3,zC,xW (by omega)]
 rw[zF h3,zD,zT (rfl:w=w),zC,zT (by omega:(0:Int)<=w),zC,zT (by omega:w*1<=140737488355328),zC]
 obtain⟨m,rfl⟩:∃m:Nat,n=m:=⟨n.toNat,by omega⟩
 obtain⟨v,rfl⟩:∃v:Nat,w=v:=⟨w.toNat,by omega⟩
 simp only[Int.toNat_natCast]
 have:=OP v v (by omega) v ah m [] (by simp) (by omega) (by rw[zn];omega)
 simp only[List.append_nil] at this
 rw[zi (by omega) (by omega),this,zc]
 unfold Zt
 dsimp only
 by_cases h4:(0:Int)<((m/10^v:Nat):Int)
 ·rw[zT h4,zC,xW (by simp only[Int.toNat_natCast];generalize m/10^v=q at h4⊢;omega)]
 ·rw[zF h4,zD,zei,Nat.beq_refl,zC,Tr (by simp only[Int.toNat_natCast];generalize m/10^v=q at h4⊢;omega)]
  simp only[Int.toNat_natCast]
theorem zyv(w:Nat)(hw:w<=18):∀(j k n i:Nat) (s:ByteArray),i+j=w->s.size=i->n<=9223372036854775807->j<k->
 Hh k (n:Int) (w:Int) s (i:Int)=some (((n/10^j:Nat):Int),strOf (nA j n)++s)
 |j,0,n,i,s,_,_,_,hk=>by omega
 |0,k+1,n,i,s,h,hs,hn,hk=>by
  unfold Hh SW
  dsimp only
  rw[zF (by omega),zD]
  have:strOf (nA 0 n)++s=s:=by apply vi;rw[z28];rfl
  rw[this];simp
 |j+1,k+1,n,i,s,h,hs,hn,hk=>by
  unfold Hh SW
  dsimp only
  rw[zT (by omega:(i:Int)<(w:Int)),zC,Rg,Rf,N6,lL]
  rw[zT (by simp only[List.length_singleton];omega),zC,z49 (by omega),zo (by omega),zyv w hw j k (n/10) (i+1) _ (by omega) (by rw[ByteArray.size_append,lL];simp;omega) (by omega) (by omega),E2,nA,T3,ByteArray.append_assoc]
theorem NH(n w:Int)(hn:n<=9223372036854775807):Bq n w=some (gX n w):=by
 unfold Bq ZT
 dsimp only
 by_cases h1:n<0
 ·rw[zT h1,zC,xW (by omega)]
 rw[zF h1,zD]
 by_cases h2:w<1
 ·rw[zT h2,zC,xW (by omega)]
 rw[zF h2,zD]
 by_cases h3:(18:Int)<w
 ·rw[zT h3,zC,xW (by omega)]
 rw[zF h3,zD]
 obtain⟨m,rfl⟩:∃m:Nat,n=m:=⟨n.toNat,by omega⟩
 obtain⟨v,rfl⟩:∃v:Nat,w=v:=⟨w.toNat,by omega⟩
 have:=zyv v (by omega) v ah m 0 (bs []) (by omega) rfl (by omega) (by rw[zn];omega)
 rw[show((0:Nat):Int)=(0:Int) from rfl] at this
 rw[this,zc]
 unfold ZU
 dsimp only
 have e:strOf (nA v m)++bs []=strOf (nA v m):=by apply vi;rw[z28,zta,List.append_nil]
 by_cases h4:((m/10^v:Nat):Int)=0
 ·rw[zT h4,Bool.not_true,zD,Tr (by simp only[Int.toNat_natCast];generalize m/10^v=q at h4⊢;omega),e]
  simp only[Int.toNat_natCast]
 ·rw[zF h4,Bool.not_false,zC,xW (by simp only[Int.toNat_natCast];generalize m/10^v=q at h4⊢;omega)]
theorem adN(l r:List Int)(n:Int):c8 (l++r) n=c8 r (c8 l n):=by unfold c8;rw[List.foldl_append]
theorem ztd:∀(w n:Nat) (l:List Int),bh l=true->w=l.length->c8 l 0=(n:Int)->nA w n=l/\n/10^w=0
 |0,n,l,hd,hw,hv=>by
  obtain rfl:=List.eq_nil_of_length_eq_zero hw.symm
  have:(0:Int)=n:=hv
  obtain rfl:n=0:=by omega
  exact⟨rfl,rfl⟩
 |w+1,n,l,hd,hw,hv=>by
  have ct:l≠ []:=by intro e;subst e;simp at hw
  obtain⟨r,b,rfl⟩:∃r b,l=r++ [b]:=⟨l.dropLast,l.getLast ct,(List.dropLast_concat_getLast ct).symm⟩
  rw[bh,List.all_append,Bool.and_eq_true,List.all_cons,List.all_nil,Bool.and_true] at hd
  have hb:=hd.2
  simp only[bX,decide_eq_true_eq] at hb
  rw[adN] at hv
  have mV:10*c8 r 0+(b-48)=n:=hv
  obtain⟨i1,i2⟩:=ztd w (n/10) r hd.1 (by simpa using hw) (by omega)
  refine⟨?_,by rw[<-E2];exact i2⟩
  rw[nA,i1]
  congr 2
  omega
def fc(l:List Int):Bool:=l.all fun b=>decide (b=48)
theorem Rs(b:Int)(l:List Int):fc (b::l)=(decide (b=48)&&fc l):=rfl
theorem zau(a b:List Int):fc (a++b)=(fc a&&fc b):=List.all_append ..
theorem zxv(s:ByteArray)(x:Int)(l:List Int)(h:bl s=x::l):ze s 0=x:=by rw[lM,h];rfl
theorem Mg(k:Nat):∀(s:ByteArray),s.size<k->s.size<=9223372036854775807->∃r,Ip k s 48=some r/\fc (bl r)=fc (bl s)/\(fc (bl s)=true->bl r=[])/\r.size<=s.size:=by
 induction k with
 |zero=>intro s h;omega
 |succ k ih=>
  intro s h hs
  unfold Ip XC
  dsimp only
  by_cases h0:(0:Int)<(s.size:Int)
  ·have hm:zW zI ((s.size:Int)-1)=((s.size-1:Nat):Int):=by rw[zi (by omega) (by omega)];omega
   rw[zT h0,zC,hm,zh (by omega),Int.toNat_natCast]
   have hl:(bl s).length=s.size:=zg s
   have ct:bl s≠ []:=by intro e;rw[e] at hl;simp at hl;omega
   obtain⟨r,b,hb⟩:∃r b,bl s=r++ [b]:=⟨(bl s).dropLast,(bl s).getLast ct,(List.dropLast_concat_getLast ct).symm⟩
   have hr:r.length=s.size-1:=by rw[hb] at hl;simp at hl;omega
   have hx:ze s (s.size-1)=b:=by
    rw[lM,hb,<-hr,List.getD_eq_getElem?_getD];simp
   rw[hx]
   by_cases hz:b=48
   ·rw[zT hz,zC,zT (by omega:(0:Int)<=((s.size-1:Nat):Int)),zC,zT (by omega:((s.size-1:Nat):Int)<=((s.size:Nat):Int)),zC]
    have he:bl (s.extract 0 (s.size-1))=r:=by rw[uP,hb,List.drop_zero,<-hr,List.take_left'];rfl
    have dt:(s.extract 0 (s.size-1)).size=s.size-1:=by rw[<-zg,he,hr]
    obtain⟨q,q1,q2,q3,q4⟩:=ih (s.extract 0 (s.size-1)) (by omega) (by omega)
    refine⟨q,q1,?_,fun ha=>q3 ?_,by omega⟩
    ·rw[q2,he,hb,zau,Rs,zT hz];simp [fc]
    ·rw[hb,zau,Bool.and_eq_true] at ha
     rw[he];exact ha.1
   ·rw[zF hz,zD]
    refine⟨s,rfl,rfl,fun ha=> ?_,Nat.le_refl _⟩
    rw[hb,zau,Rs,zF hz] at ha
    simp at ha
  ·rw[zF h0,zD]
   refine⟨s,rfl,rfl,fun _=>List.eq_nil_of_length_eq_zero (by rw[zg];omega),Nat.le_refl _⟩
theorem zP{s:ByteArray}{x:Int}{l:List Int}(h:bl s=x::l):bl (s.extract 1 s.size)=l:=by
 rw[uP,<-zg,List.take_length,h];rfl
theorem Mf(k:Nat):∀(s:ByteArray),s.size<k->s.size<=9223372036854775807->∃r,Io k s 48=some r/\((bl r=[])↔fc (bl s)=true):=by
 induction k with
 |zero=>intro s h;omega
 |succ k ih=>
  intro s h hs
  unfold Io Xy
  dsimp only
  have hl:(bl s).length=s.size:=zg s
  by_cases h0:(0:Int)<(s.size:Int)
  ·rw[zT h0,zC,zl (by omega) h0]
   cases hb:bl s with
   |nil=>rw[hb] at hl;simp at hl;omega
   |cons x l=>
    rw[show((0:Int)).toNat=0 from rfl,show((1:Int)).toNat=1 from rfl,zxv s x l hb]
    by_cases hz:x=48
    ·rw[zT hz,zC,zT (by omega:(1:Int)<=((s.size:Nat):Int)),zC]
     have he:=zP hb
     have dt:(s.extract 1 s.size).size=s.size-1:=by rw[<-zg,he,<-hl,hb];simp
     obtain⟨q,q1,q2⟩:=ih (s.extract 1 s.size) (by omega) (by omega)
     refine⟨q,q1,q2.trans ?_⟩
     rw[he,Rs,zT hz];simp
    ·rw[zF hz,zD]
     refine⟨s,rfl,?_⟩
     rw[hb,Rs,zF hz];simp
  ·rw[zF h0,zD]
   have:bl s=[]:=List.eq_nil_of_length_eq_zero (by omega)
   refine⟨s,rfl,?_⟩
   rw[this];simp [fc]
theorem anV(s:ByteArray)(h:s.size<=9223372036854775807):∃r,sS s (bs [48])=some r/\(r=bs []↔fc (bl s)=true):=by
 unfold sS Xv
 by_cases h0:s=bs []
 ·rw[zT h0,zC]
  refine⟨s,rfl,?_⟩
  rw[h0];simp [zta,fc]
 rw[zF h0,zD,zF (show¬bs [48]=bs [] from fun e=>absurd (congrArg ByteArray.size e) (by decide)),zD,zT (by rfl:(((bs [48]).size:Nat):Int)=1),zC]
 have hb:ze (bs [48]) ((0:Int)).toNat=48:=by rw[lM];rfl
 have hw {R:Type} (x:Option R):zd (0:Int) (bs [48]).size x=x:=zl (by omega) (by decide)
 rw[hw,hb,zT (by decide:(48:Int)<128),zC,hw]
 unfold vA XB
 dsimp only
 obtain⟨r,r1,r2,r3,r4⟩:=Mg ah s (by rw[zn];omega) h
 rw[r1,zc]
 unfold XD
 rw[zc,hw]
 unfold vz Xx
 dsimp only
 obtain⟨q,q1,q2⟩:=Mf ah r (by rw[zn];omega) (by omega)
 rw[q1,zc]
 unfold Xz
 rw[zc]
 refine⟨q,rfl,?_⟩
 rw[ze9,q2,r2]
theorem zka:∀(c:Nat),bl ⟨(Go.Lib.repeatL (bs [48]).data.toList c).toArray⟩=List.replicate c 48
 |0=>rfl
 |c+1=>by
  rw[List.replicate_succ,<-zka c]
  simp only[bl,Go.Lib.repeatL,List.map_append]
  rfl
def eI(s:ByteArray)(w:Int):ByteArray×Bool:=
 bif decide (1<=s.size/\s.size<=999/\bh (bl s)=true/\1<=w/\w<=999) then
  (bif decide ((s.size:Int)<=w) then(strOf (List.replicate (w-s.size).toNat 48++bl s),true)
   else bif fc ((bl s).take (s.size-w.toNat)) then(strOf ((bl s).drop (s.size-w.toNat)),true) else(bs [],false))
 else(bs [],false)
theorem uy{s:ByteArray}{w:Int}(h:¬(1<=s.size/\s.size<=999/\bh (bl s)=true/\1<=w/\w<=999)):eI s w=(bs [],false):=by unfold eI;rw[zF h];rfl
theorem Gh{s:ByteArray}{w:Int}(h:1<=s.size/\s.size<=999/\bh (bl s)=true/\1<=w/\w<=999):eI s w=(bif decide ((s.size:Int)<=w) then(strOf (List.replicate (w-s.size).toNat 48++bl s),true)
 else bif fc ((bl s).take (s.size-w.toNat)) then(strOf ((bl s).drop (s.size-w.toNat)),true) else(bs [],false)):=by unfold eI;rw[zT h];rfl
theorem aoD(s:ByteArray)(w:Int)(h:s.size<=maxLen):Jr s w=some (eI s w):=by
 unfold Jr Zq
 dsimp only
 by_cases h0:s=bs []
 ·rw[zT h0,zC,uy]
  intro hh
  rw[h0] at hh
  exact absurd hh.1 (by decide)
 have hz:s.size≠0:=fun e=>h0 (ze9.2 (List.eq_nil_of_length_eq_zero (by rw[zg];exact e)))
 rw[zF h0,zD]
 by_cases h1:(999:Int)<(s.size:Int)
 ·rw[zT h1,zC,uy (by omega)]
 rw[zF h1,zD,Ym s h,zc]
 cases hd:bh (bl s) with
 |false=>rw[uy (by rw[hd];simp)];rfl
 |true=>
  rw[Bool.not_true,zD]
  by_cases h2:w<1
  ·rw[zT h2,zC,uy (by omega)]
  rw[zF h2,zD]
  by_cases h3:(999:Int)<w
  ·rw[zT h3,zC,uy (by omega)]
  rw[zF h3,zD,Gh ⟨by omega,by omega,hd,by omega,by omega⟩]
  obtain⟨v,rfl⟩:∃v:Nat,w=v:=⟨w.toNat,by omega⟩
  by_cases h4:(s.size:Int)<=(v:Int)
  ·rw[zT h4,zC,zC]
   obtain⟨c,hc⟩:∃c:Nat,(v:Int)-(s.size:Int)=(c:Int):=⟨v-s.size,by omega⟩
   rw[hc,z49 (by omega)]
   have hR:strings_Repeat (bs [48]) (c:Int)=some ⟨(Go.Lib.repeatL (bs [48]).data.toList c).toArray⟩:=by
    unfold strings_Repeat
    rw[zT (by omega:(0:Int)<=(c:Int)),zT (by omega:(c:Int)<=9223372036854775807),zT (by rw[show(((bs [48]).size:Nat):Int)=1 from rfl];omega),Int.toNat_natCast]
    rfl
   rw[hR,zc]
   have dt:((⟨(Go.Lib.repeatL (bs [48]).data.toList c).toArray⟩:ByteArray)).size=c:=by rw[<-zg,zka,List.length_replicate]
   rw[dt,zT (by omega),zC,Int.toNat_natCast]
   congr 2
   apply vi
   rw[z28,zka,rF]
   intro x hx
   rcases List.mem_append.1 hx with hx|hx
   ·rw[(List.mem_replicate.1 hx).2];unfold zq;omega
   ·exact im hx
  ·rw[zF h4,zD,zD]
   obtain⟨c,hc⟩:∃c:Nat,(s.size:Int)-(v:Int)=(c:Int):=⟨s.size-v,by omega⟩
   have hcv:s.size-((v:Int)).toNat=c:=by omega
   rw[hc,z49 (by omega),zT (by omega:(0:Int)<=(c:Int)),zC,zT (by omega:(c:Int)<=((s.size:Nat):Int)),zC,Int.toNat_natCast,hcv]
   have hx:bl (s.extract 0 c)=(bl s).take c:=by rw[uP,List.drop_zero]
   have qO:(s.extract 0 c).size=c:=by rw[<-zg,hx,List.length_take,zg];omega
   obtain⟨r,r1,r2⟩:=anV (s.extract 0 c) (by omega)
   rw[r1,zc]
   rw[hx] at r2
   cases ha:fc ((bl s).take c) with
   |true=>
    rw[zT (r2.2 ha),Bool.not_true,zD,zC,zC]
    congr 2
    apply vi
    rw[uP,<-zg,List.take_length,rF]
    exact fun x hx=>im (List.mem_of_mem_drop hx)
   |false=>
    rw[zF (fun e=>by rw[r2.1 e] at ha;cases ha),Bool.not_false,zC];rfl
theorem OJ(v:Nat)(hv:v<=999):∀(n k:Nat) (s:ByteArray),v-s.size<=n->n<k->s.size<=999->IJ k s (v:Int)=some (strOf (List.replicate (v-s.size) 48++bl s),(v:Int))
 |n,0,s,_,hk,_=>by omega
 |n,k+1,s,hn,hk,hs=>by
  unfold IJ ZN
  dsimp only
  by_cases h:(s.size:Int)<(v:Int)
  ·have h48:(bs [48]).size=1:=rfl
   rw[zT h,zC,zT (by omega),zC]
   obtain⟨n,rfl⟩:∃n',n=n'+1:=⟨n-1,by omega⟩
   have dt:(bs [48]++s).size=s.size+1:=by rw[ByteArray.size_append];omega
   rw[OJ v hv n k _ (by omega) (by omega) (by omega),dt,z28]
   obtain⟨m,hm⟩:∃m,v-s.size=m+1:=⟨v-s.size-1,by omega⟩
   rw[show v-(s.size+1)=m by omega,hm,List.replicate_succ',List.append_assoc]
   rfl
  ·rw[zF h,zD,show v-s.size=0 by omega,List.replicate_zero,List.nil_append,z40]
def K9(e:Sum s6 ByteArray):Option gF:=
 Sum.elim (fun(we:s6)=>ZQ we.1 we.2.1 we.2.2 (fun a0 a1=>some (a0,a1))) (fun(we:ByteArray)=>ZR we (fun a0 a1=>some (a0,a1))) e
theorem OK(v:Nat):∀(n k:Nat) (s:ByteArray),s.size-v<=n->n<k->s.size<=999->(IK k s (v:Int)).bind K9=some (bif fc ((bl s).take (s.size-v)) then(strOf ((bl s).drop (s.size-v)),true) else(bs [],false))
 |n,0,s,_,hk,_=>by omega
 |n,k+1,s,hn,hk,hs=>by
  unfold IK ZP
  dsimp only
  have hl:(bl s).length=s.size:=zg s
  by_cases h:(v:Int)<(s.size:Int)
  ·rw[zT h,zC,zl (by omega) (by omega)]
   cases hb:bl s with
   |nil=>rw[hb] at hl;simp at hl;omega
   |cons x l=>
    have hm:s.size-v=(s.size-1-v)+1:=by omega
    rw[show((0:Int)).toNat=0 from rfl,show((1:Int)).toNat=1 from rfl,zxv s x l hb,hm,List.take_succ_cons,Rs,List.drop_succ_cons]
    by_cases hz:x=48
    ·rw[zT hz,Bool.not_true,zD,zT (by omega:(1:Int)<=((s.size:Nat):Int)),zC,Bool.true_and]
     have he:=zP hb
     have dt:(s.extract 1 s.size).size=s.size-1:=by rw[<-zg,he,<-hl,hb];simp
     obtain⟨n,rfl⟩:∃n',n=n'+1:=⟨n-1,by omega⟩
     rw[OK v n k _ (by omega) (by omega) (by omega),he,dt]
    ·rw[zF hz,Bool.not_false,zC,Bool.false_and];rfl
  ·rw[zF h,zD,show s.size-v=0 by omega,List.take_zero,List.drop_zero,z40];rfl
theorem aiB(s:ByteArray)(w:Int)(h:s.size<=maxLen):JJ s w=some (eI s w):=by
 unfold JJ ZM
 dsimp only
 by_cases h0:(s.size:Int)<1
 ·rw[zT h0,zC,uy (by omega)]
 rw[zF h0,zD]
 by_cases h1:(999:Int)<(s.size:Int)
 ·rw[zT h1,zC,uy (by omega)]
 rw[zF h1,zD,Us s h,zc]
 cases hd:bh (bl s) with
 |false=>rw[uy (by rw[hd];simp)];rfl
 |true=>
  rw[Bool.not_true,zD]
  by_cases h2:w<1
  ·rw[zT h2,zC,uy (by omega)]
  rw[zF h2,zD]
  by_cases h3:(999:Int)<w
  ·rw[zT h3,zC,uy (by omega)]
  rw[zF h3,zD,Gh ⟨by omega,by omega,hd,by omega,by omega⟩]
  obtain⟨v,rfl⟩:∃v:Nat,w=v:=⟨w.toNat,by omega⟩
  rw[OJ v (by omega) 999 ah s (by omega) (by rw[zn];omega) (by omega),zc]
  unfold ZO
  dsimp only
  have BP:bl (strOf (List.replicate (v-s.size) 48++bl s))=List.replicate (v-s.size) 48++bl s:=by
   rw[rF]
   intro x hx
   rcases List.mem_append.1 hx with hx|hx
   ·rw[(List.mem_replicate.1 hx).2];unfold zq;omega
   ·exact im hx
  have dt:(strOf (List.replicate (v-s.size) 48++bl s)).size=v-s.size+s.size:=by rw[<-zg,BP,List.length_append,List.length_replicate,zg]
  have:=OK v 999 ah (strOf (List.replicate (v-s.size) 48++bl s)) (by omega) (by rw[zn];omega) (by omega)
  refine this.trans ?_
  rw[dt,BP]
  congr 1
  by_cases h4:(s.size:Int)<=(v:Int)
  ·rw[zT h4,zC,show v-s.size+s.size-v=0 by omega,List.take_zero,List.drop_zero,show((v:Int)-(s.size:Int)).toNat=v-s.size by omega];rfl
  ·rw[zF h4,zD,show v-s.size=0 by omega,Nat.zero_add,List.replicate_zero,List.nil_append,show((v:Int)).toNat=v by omega]
end bF

