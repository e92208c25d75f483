/- No condition. -/
import Derived.Test.YtkgpjibbdpikcaaGreatDoorK1
import Derived.Laws.RangeString
import Derived.KernelRfl
import Derived.Test.YtkgpjibbdpikcaaGreatDoorProg
set_option linter.unusedVariables false
set_option linter.unusedSimpArgs false
set_option maxRecDepth 100000
namespace bW
open Go.IntKind renaming wrap->zW,i64->zI,u8->zU
open Go Go.Ref
def L0{R:Type}(a:Int)(b:Bool->Option R):Option R:=
 bif a=1 then b true else b (decide (a=2))
def wJ(a:Int):Option Bool:=
 L0 a (fun a0=>some a0)
def LZ{R:Type}(a b:Int)(c:Int->Option R):Option R:=
 bif a=2 then bif b=1 then c 1 else bif a=1 then bif b=5 then c 2 else bif b=6 then c 2 else c 0 else c 0 else bif a=1 then bif b=5 then c 2 else bif b=6 then c 2 else c 0 else c 0
def j6(a b:Int):Option Int:=
 LZ a b (fun a0=>some a0)
def LX{R:Type}(a:Int)(b:aA)(c:ByteArray)(d:Int)(e:ByteArray->Int->Int->Option R):Option R:=
 (wJ a).bind fun r1=>bif !r1 then e (bs []) 0 1 else(fT b).bind fun r2=>bif !decide (r2=0) then e (bs []) 0 1 else bif d<0 then e (bs []) 0 1 else bif(c.size:Int)<d then e (bs []) 0 1 else bif !decide (b.2.2.1=1) then(pW a b.2.2.1 c d).bind fun r3=>bif !decide (r3.2.2=0) then e (bs []) 0 r3.2.2 else bif r3.1<b.2.2.2.1 then e (bs []) 0 5 else bif b.2.2.2.2.1<r3.1 then e (bs []) 0 5 else(j6 a b.2.1).bind fun r4=>bif r4=1 then(Q2 r3.1).bind fun r5=>bif zW zI ((c.size:Int)-r3.2.1)<r5 then e (bs []) 0 2 else bif 0<=zW zI (r3.2.1+r5) then bif zW zI (r3.2.1+r5)<=(c.size:Int) then bif 0<=r3.2.1 then bif r3.2.1<=(((zW zI (r3.2.1+r5)).toNat:Nat):Int) then(j6 a b.2.1).bind fun r6=>bif r6=1 then(Q0 (c.extract r3.2.1.toNat (zW zI (r3.2.1+r5)).toNat) r3.1).bind fun r7=>bif !decide (r7.2.1=0) then e (bs []) 0 r7.2.1 else(bU b r7.1).bind fun r8=>bif !decide (r8=0) then e (bs []) 0 r8 else e r7.1 (zW zI (r3.2.1+r5)) 0 else bif r6=2 then(fe (c.extract r3.2.1.toNat (zW zI (r3.2.1+r5)).toNat)).bind fun r9=>bif !r9.2.2 then e (bs []) 0 3 else(bU b r9.1).bind fun dW=>bif !decide (dW=0) then e (bs []) 0 dW else e r9.1 (zW zI (r3.2.1+r5)) 0 else(bU b (c.extract r3.2.1.toNat (zW zI (r3.2.1+r5)).toNat)).bind fun fJ=>bif !decide (fJ=0) then e (bs []) 0 fJ else e (c.extract r3.2.1.toNat (zW zI (r3.2.1+r5)).toNat) (zW zI (r3.2.1+r5)) 0 else none else none else none else none else bif r4=2 then bif zW zI ((c.size:Int)-r3.2.1)<zW zI (2*r3.1) then e (bs []) 0 2 else bif 0<=zW zI (r3.2.1+zW zI (2*r3.1)) then bif zW zI (r3.2.1+zW zI (2*r3.1))<=(c.size:Int) then bif 0<=r3.2.1 then bif r3.2.1<=(((zW zI (r3.2.1+zW zI (2*r3.1))).toNat:Nat):Int) then(j6 a b.2.1).bind fun gV=>bif gV=1 then(Q0 (c.extract r3.2.1.toNat (zW zI (r3.2.1+zW zI (2*r3.1))).toNat) r3.1).bind fun gW=>bif !decide (gW.2.1=0) then e (bs []) 0 gW.2.1 else(bU b gW.1).bind fun ka=>bif !decide (ka=0) then e (bs []) 0 ka else e gW.1 (zW zI (r3.2.1+zW zI (2*r3.1))) 0 else bif gV=2 then(fe (c.extract r3.2.1.toNat (zW zI (r3.2.1+zW zI (2*r3.1))).toNat)).bind fun jV=>bif !jV.2.2 then e (bs []) 0 3 else(bU b jV.1).bind fun kb=>bif !decide (kb=0) then e (bs []) 0 kb else e jV.1 (zW zI (r3.2.1+zW zI (2*r3.1))) 0 else(bU b (c.extract r3.2.1.toNat (zW zI (r3.2.1+zW zI (2*r3.1))).toNat)).bind fun kc=>bif !decide (kc=0) then e (bs []) 0 kc else e (c.extract r3.2.1.toNat (zW zI (r3.2.1+zW zI (2*r3.1))).toNat) (zW zI (r3.2.1+zW zI (2*r3.1))) 0 else none else none else none else none else bif zW zI ((c.size:Int)-r3.2.1)<r3.1 then e (bs []) 0 2 else bif 0<=zW zI (r3.2.1+r3.1) then bif zW zI (r3.2.1+r3.1)<=(c.size:Int) then bif 0<=r3.2.1 then bif r3.2.1<=(((zW zI (r3.2.1+r3.1)).toNat:Nat):Int) then(j6 a b.2.1).bind fun l5=>bif l5=1 then(Q0 (c.extract r3.2.1.toNat (zW zI (r3.2.1+r3.1)).toNat) r3.1).bind fun kd=>bif !decide (kd.2.1=0) then e (bs []) 0 kd.2.1 else(bU b kd.1).bind fun se=>bif !decide (se=0) then e (bs []) 0 se else e kd.1 (zW zI (r3.2.1+r3.1)) 0 else bif l5=2 then(fe (c.extract r3.2.1.toNat (zW zI (r3.2.1+r3.1)).toNat)).bind fun rp=>bif !rp.2.2 then e (bs []) 0 3 else(bU b rp.1).bind fun xe=>bif !decide (xe=0) then e (bs []) 0 xe else e rp.1 (zW zI (r3.2.1+r3.1)) 0 else(bU b (c.extract r3.2.1.toNat (zW zI (r3.2.1+r3.1)).toNat)).bind fun NQ=>bif !decide (NQ=0) then e (bs []) 0 NQ else e (c.extract r3.2.1.toNat (zW zI (r3.2.1+r3.1)).toNat) (zW zI (r3.2.1+r3.1)) 0 else none else none else none else none else(j6 a b.2.1).bind fun NR=>bif NR=1 then(Q2 b.2.2.2.1).bind fun lL=>bif zW zI ((c.size:Int)-d)<lL then e (bs []) 0 2 else bif 0<=zW zI (d+lL) then bif zW zI (d+lL)<=(c.size:Int) then bif 0<=d then bif d<=(((zW zI (d+lL)).toNat:Nat):Int) then(j6 a b.2.1).bind fun NS=>bif NS=1 then(Q0 (c.extract d.toNat (zW zI (d+lL)).toNat) b.2.2.2.1).bind fun xf=>bif !decide (xf.2.1=0) then e (bs []) 0 xf.2.1 else(bU b xf.1).bind fun NT=>bif !decide (NT=0) then e (bs []) 0 NT else e xf.1 (zW zI (d+lL)) 0 else bif NS=2 then(fe (c.extract d.toNat (zW zI (d+lL)).toNat)).bind fun Du=>bif !Du.2.2 then e (bs []) 0 3 else(bU b Du.1).bind fun NU=>bif !decide (NU=0) then e (bs []) 0 NU else e Du.1 (zW zI (d+lL)) 0 else(bU b (c.extract d.toNat (zW zI (d+lL)).toNat)).bind fun NV=>bif !decide (NV=0) then e (bs []) 0 NV else e (c.extract d.toNat (zW zI (d+lL)).toNat) (zW zI (d+lL)) 0 else none else none else none else none else bif NR=2 then bif zW zI ((c.size:Int)-d)<zW zI (2*b.2.2.2.1) then e (bs []) 0 2 else bif 0<=zW zI (d+zW zI (2*b.2.2.2.1)) then bif zW zI (d+zW zI (2*b.2.2.2.1))<=(c.size:Int) then bif 0<=d then bif d<=(((zW zI (d+zW zI (2*b.2.2.2.1))).toNat:Nat):Int) then(j6 a b.2.1).bind fun NW=>bif NW=1 then(Q0 (c.extract d.toNat (zW zI (d+zW zI (2*b.2.2.2.1))).toNat) b.2.2.2.1).bind fun xg=>bif !decide (xg.2.1=0) then e (bs []) 0 xg.2.1 else(bU b xg.1).bind fun NY=>bif !decide (NY=0) then e (bs []) 0 NY else e xg.1 (zW zI (d+zW zI (2*b.2.2.2.1))) 0 else bif NW=2 then(fe (c.extract d.toNat (zW zI (d+zW zI (2*b.2.2.2.1))).toNat)).bind fun Dv=>bif !Dv.2.2 then e (bs []) 0 3 else(bU b Dv.1).bind fun NZ=>bif !decide (NZ=0) then e (bs []) 0 NZ else e Dv.1 (zW zI (d+zW zI (2*b.2.2.2.1))) 0 else(bU b (c.extract d.toNat (zW zI (d+zW zI (2*b.2.2.2.1))).toNat)).bind fun N0=>bif !decide (N0=0) then e (bs []) 0 N0 else e (c.extract d.toNat (zW zI (d+zW zI (2*b.2.2.2.1))).toNat) (zW zI (d+zW zI (2*b.2.2.2.1))) 0 else none else none else none else none else bif zW zI ((c.size:Int)-d)<b.2.2.2.1 then e (bs []) 0 2 else bif 0<=zW zI (d+b.2.2.2.1) then bif zW zI (d+b.2.2.2.1)<=(c.size:Int) then bif 0<=d then bif d<=(((zW zI (d+b.2.2.2.1)).toNat:Nat):Int) then(j6 a b.2.1).bind fun N1=>bif N1=1 then(Q0 (c.extract d.toNat (zW zI (d+b.2.2.2.1)).toNat) b.2.2.2.1).bind fun xh=>bif !decide (xh.2.1=0) then e (bs []) 0 xh.2.1 else(bU b xh.1).bind fun N2=>bif !decide (N2=0) then e (bs []) 0 N2 else e xh.1 (zW zI (d+b.2.2.2.1)) 0 else bif N1=2 then(fe (c.extract d.toNat (zW zI (d+b.2.2.2.1)).toNat)).bind fun Dw=>bif !Dw.2.2 then e (bs []) 0 3 else(bU b Dw.1).bind fun N3=>bif !decide (N3=0) then e (bs []) 0 N3 else e Dw.1 (zW zI (d+b.2.2.2.1)) 0 else(bU b (c.extract d.toNat (zW zI (d+b.2.2.2.1)).toNat)).bind fun N4=>bif !decide (N4=0) then e (bs []) 0 N4 else e (c.extract d.toNat (zW zI (d+b.2.2.2.1)).toNat) (zW zI (d+b.2.2.2.1)) 0 else none else none else none else none
def Be(a:Int)(b:aA)(c:ByteArray)(d:Int):Option BD:=
 LX a b c d (fun a0 a1 a2=>some (a0,a1,a2))
def LY{R:Type}(a:Int)(b:aA)(c:ByteArray)(d:ByteArray->Int->Option R):Option R:=
 (wJ a).bind fun r1=>bif !r1 then d (bs []) 1 else(bU b c).bind fun r2=>bif !decide (r2=0) then d (bs []) r2 else bif !decide (b.2.2.1=1) then(pX a b.2.2.1 (c.size:Int)).bind fun r3=>(j6 a b.2.1).bind fun r4=>bif r4=1 then(Q1 c).bind fun r5=>bif r3.1.size+r5.1.size<=9223372036854775807 then d (r3.1++r5.1) 0 else none else bif r4=2 then(jx c).bind fun r6=>bif r3.1.size+r6.size<=9223372036854775807 then d (r3.1++r6) 0 else none else bif r3.1.size+c.size<=9223372036854775807 then d (r3.1++c) 0 else none else(j6 a b.2.1).bind fun r7=>bif r7=1 then(Q1 c).bind fun r8=>bif(bs []).size+r8.1.size<=9223372036854775807 then d (bs []++r8.1) 0 else none else bif r7=2 then(jx c).bind fun r9=>bif(bs []).size+r9.size<=9223372036854775807 then d (bs []++r9) 0 else none else bif(bs []).size+c.size<=9223372036854775807 then d (bs []++c) 0 else none
def Bf(a:Int)(b:aA)(c:ByteArray):Option BC:=
 LY a b c (fun a0 a1=>some (a0,a1))
def Mf{R:Type}(a:aw)(b:Int->Int->Option R)(c:aw->Int->Int->dF->Option R):Option R:=
 bif 256<((List.length a):Int) then b 5 256 else c a ((List.length a):Int) 0 []
def Mg{R:Type}(a:aw)(b c:Int)(d:dF)(e:Int->Int->Option R)(f:aw->Int->Int->dF->Option R)(g:Option R):Option R:=
 bif c<b then za c (List.length a) (bif dT (fh .str) false d (List.getD a c.toNat (bs [],bs [],())).1 then e (10:Int) c else bif dU (fh .str) d (List.getD a c.toNat (bs [],bs [],())).1 then none else f a b (zW zI (c+(1:Int))) (d++ [((List.getD a c.toNat (bs [],bs [],())).1,true)])) else g
def Mh{R:Type}(a b:Int)(c:Int->Int->Option R):Option R:=
 c a b
def Mi{R:Type}(a:Int->Int->Option R):Option R:=
 a 0 0
def AN:Nat->aw->Int->Int->dF->Option (Sum (Int×Int) Unit)
 |0,_,_,_,_=>none
 |k+1,v0,v1,v2,v3=>Mg v0 v1 v2 v3 (fun a0 a1=>some (.inl (a0,a1))) (fun a0 a1 a2 a3=>AN k a0 a1 a2 a3) (some (.inr ()))
def sW(a:aw):Option (Int×Int):=
 Mf a (fun a0 a1=>some (a0,a1)) (fun a0 a1 a2 a3=>(AN aq a0 a1 a2 a3).bind fun e=>Sum.elim (fun(we:(Int×Int))=>Mh we.1 we.2 (fun a0 a1=>some (a0,a1))) (fun(we:Unit)=>Mi (fun a0 a1=>some (a0,a1))) e)
def L9{R:Type}(a:aw)(b:ByteArray)(c:ByteArray->aw->Int->Int->Option R):Option R:=
 c b a ((List.length a):Int) 0
def Ma{R:Type}(a:ByteArray)(b:aw)(c d:Int)(e:ByteArray->Bool->Option R)(f:ByteArray->aw->Int->Int->Option R)(g:Option R):Option R:=
 bif d<c then za d (List.length b) (bif(List.getD b d.toNat (bs [],bs [],())).1=a then e (List.getD b d.toNat (bs [],bs [],())).2.1 true else f a b c (zW zI (d+1))) else g
def Mb{R:Type}(a:ByteArray)(b:Bool)(c:ByteArray->Bool->Option R):Option R:=
 c a b
def Mc{R:Type}(a:ByteArray->Bool->Option R):Option R:=
 a (bs []) false
def AA:Nat->ByteArray->aw->Int->Int->Option (Sum gl Unit)
 |0,_,_,_,_=>none
 |k+1,v0,v1,v2,v3=>Ma v0 v1 v2 v3 (fun a0 a1=>some (.inl (a0,a1))) (fun a0 a1 a2 a3=>AA k a0 a1 a2 a3) (some (.inr ()))
def Bj(a:aw)(b:ByteArray):Option gl:=
 L9 a b (fun a0 a1 a2 a3=>(AA aq a0 a1 a2 a3).bind fun e=>Sum.elim (fun(we:gl)=>Mb we.1 we.2 (fun a0 a1=>some (a0,a1))) (fun(we:Unit)=>Mc (fun a0 a1=>some (a0,a1))) e)
def Mj{R:Type}(a:aw)(b:aw->aw->Int->Int->Option R):Option R:=
 bif 0<=((List.length a):Int) then bif((List.length a):Int)*32<=140737488355328 then b [] a ((List.length a):Int) 0 else none else none
def Mk{R:Type}(a b:aw)(c d:Int)(e:aw->aw->Int->Int->Option R)(f:aw->Option R):Option R:=
 bif d<c then za d (List.length b) (bif(List.length a+List.length ([((List.getD b d.toNat (bs [],bs [],())).2.1,(List.getD b d.toNat (bs [],bs [],())).1,())]:List bc))*32<=140737488355328 then e (a++([((List.getD b d.toNat (bs [],bs [],())).2.1,(List.getD b d.toNat (bs [],bs [],())).1,())]:List bc)) b c (zW zI (d+1)) else none) else f a
def Ml{R:Type}(a:aw)(b:aw->Option R):Option R:=
 b a
def AR:Nat->aw->aw->Int->Int->Option aw
 |0,_,_,_,_=>none
 |k+1,v0,v1,v2,v3=>Mk v0 v1 v2 v3 (fun a0 a1 a2 a3=>AR k a0 a1 a2 a3) (fun a0=>some a0)
def sX(a:aw):Option aw:=
 Mj a (fun a0 a1 a2 a3=>(AR aq a0 a1 a2 a3).bind fun e=>Ml e (fun a0=>some a0))
def Md{R:Type}(a:aw)(b:Bool->Option R):Option R:=
 (sW a).bind fun r1=>(sX a).bind fun r2=>(sW r2).bind fun r3=>bif r1.1=0 then b (decide (r3.1=0)) else b false
def wK(a:aw):Option Bool:=
 Md a (fun a0=>some a0)
def Mp{R:Type}(a b c:Int)(d:aA->Option R):Option R:=
 d (a,b,1,c,c,())
def cD(a b c:Int):Option aA:=
 Mp a b c (fun a0=>some a0)
def Mn{R:Type}(a:ag->Option R):Option R:=
 (cD 3 1 (6:Int)).bind fun r1=>(cD 4 1 (12:Int)).bind fun r2=>(cD 7 1 (10:Int)).bind fun r3=>(cD 11 1 (6:Int)).bind fun r4=>(cD 12 1 (12:Int)).bind fun r5=>(cD 14 1 (4:Int)).bind fun r6=>(cD 22 3 (12:Int)).bind fun r7=>(cD 23 1 (3:Int)).bind fun r8=>(cD 26 1 (4:Int)).bind fun r9=>(cD 37 3 (12:Int)).bind fun dW=>(cD 38 3 (6:Int)).bind fun fJ=>(cD 39 1 (3:Int)).bind fun gV=>(cD 41 4 (8:Int)).bind fun gW=>(cD 42 4 (15:Int)).bind fun ka=>(cD 49 1 (3:Int)).bind fun jV=>(cD 52 5 (8:Int)).bind fun kb=>(cD 64 5 (8:Int)).bind fun kc=>(cD 70 1 (3:Int)).bind fun l5=>(cD 128 5 (8:Int)).bind fun kd=>a (2,1,([(2,1,2,12,19,()),r1,r2,r3,r4,r5,r6,r7,r8,r9,(32,1,2,1,11,()),(35,4,2,1,37,()),dW,fJ,gV,gW,ka,(43,4,2,1,99,()),(48,4,3,1,999,()),jV,kb,(55,6,3,1,255,()),kc,l5,(102,4,2,1,28,()),kd]:List aA),())
def Bl:Option ag:=
 Mn (fun a0=>some a0)
def Mm{R:Type}(a:ag->Option R):Option R:=
 (cD 3 1 (6:Int)).bind fun r1=>(cD 4 1 (12:Int)).bind fun r2=>(cD 7 1 (10:Int)).bind fun r3=>(cD 11 1 (6:Int)).bind fun r4=>(cD 12 1 (6:Int)).bind fun r5=>(cD 13 1 (4:Int)).bind fun r6=>(cD 14 1 (4:Int)).bind fun r7=>(cD 18 1 (4:Int)).bind fun r8=>(cD 22 1 (3:Int)).bind fun r9=>(cD 23 1 (3:Int)).bind fun dW=>(cD 37 3 (12:Int)).bind fun fJ=>(cD 38 3 (6:Int)).bind fun gV=>(cD 39 3 (2:Int)).bind fun gW=>(cD 41 4 (8:Int)).bind fun ka=>(cD 42 4 (15:Int)).bind fun jV=>(cD 43 4 (40:Int)).bind fun kb=>(cD 49 1 (3:Int)).bind fun kc=>(cD 52 5 (8:Int)).bind fun l5=>(cD 64 5 (8:Int)).bind fun kd=>(cD 70 1 (3:Int)).bind fun se=>(cD 90 1 (42:Int)).bind fun rp=>(cD 128 5 (8:Int)).bind fun xe=>a (1,0,([(2,1,2,12,19,()),r1,r2,r3,r4,r5,r6,r7,r8,r9,dW,(32,1,2,1,11,()),(35,4,2,1,37,()),fJ,gV,gW,ka,jV,kb,(48,4,3,1,999,()),kc,l5,(55,6,3,1,255,()),kd,se,rp,(102,4,2,1,28,()),xe]:List aA),())
def Bk:Option ag:=
 Mm (fun a0=>some a0)
def Mo{R:Type}(a:aB->Option R):Option R:=
 (s9 ([2,3,4,7,11,12,14,23,32,35,37,38,41,42,49,52,55,64,70,102,128]:List Int)).bind fun r1=>a r1
def s4:Option aB:=
 Mo (fun a0=>some a0)
def E7{R:Type}(a b:Int)(c:Bool->Option R):Option R:=
 bif 48<=b then bif 65<=b then bif b<=90 then bif a=1 then c (decide (b<=57)) else bif a=2 then c true else bif a=3 then bif b<=57 then c true else c true else bif a=4 then bif 32<=b then c (decide (b<=126)) else c false else bif a=5 then c true else c (decide (a=6)) else bif 97<=b then bif a=1 then c (decide (b<=57)) else bif a=2 then c (decide (b<=122)) else bif a=3 then bif b<=57 then c true else c (decide (b<=122)) else bif a=4 then bif 32<=b then c (decide (b<=126)) else c false else bif a=5 then c true else c (decide (a=6)) else bif a=1 then c (decide (b<=57)) else bif a=2 then c false else bif a=3 then bif b<=57 then c true else c false else bif a=4 then bif 32<=b then c (decide (b<=126)) else c false else bif a=5 then c true else c (decide (a=6)) else bif 97<=b then bif a=1 then c (decide (b<=57)) else bif a=2 then c (decide (b<=122)) else bif a=3 then bif b<=57 then c true else c (decide (b<=122)) else bif a=4 then bif 32<=b then c (decide (b<=126)) else c false else bif a=5 then c true else c (decide (a=6)) else bif a=1 then c (decide (b<=57)) else bif a=2 then c false else bif a=3 then bif b<=57 then c true else c false else bif a=4 then bif 32<=b then c (decide (b<=126)) else c false else bif a=5 then c true else c (decide (a=6)) else bif 65<=b then bif b<=90 then bif a=1 then c false else bif a=2 then c true else bif a=3 then c true else bif a=4 then bif 32<=b then c (decide (b<=126)) else c false else bif a=5 then c true else c (decide (a=6)) else bif 97<=b then bif a=1 then c false else bif a=2 then c (decide (b<=122)) else bif a=3 then c (decide (b<=122)) else bif a=4 then bif 32<=b then c (decide (b<=126)) else c false else bif a=5 then c true else c (decide (a=6)) else bif a=1 then c false else bif a=2 then c false else bif a=3 then c false else bif a=4 then bif 32<=b then c (decide (b<=126)) else c false else bif a=5 then c true else c (decide (a=6)) else bif 97<=b then bif a=1 then c false else bif a=2 then c (decide (b<=122)) else bif a=3 then c (decide (b<=122)) else bif a=4 then bif 32<=b then c (decide (b<=126)) else c false else bif a=5 then c true else c (decide (a=6)) else bif a=1 then c false else bif a=2 then c false else bif a=3 then c false else bif a=4 then bif 32<=b then c (decide (b<=126)) else c false else bif a=5 then c true else c (decide (a=6))
def Bw(a b:Int):Option Bool:=
 E7 a b (fun a0=>some a0)
def E3{R:Type}(a:Int)(b:ByteArray)(c:Int->ByteArray->Int->Option R):Option R:=
 c a b 0
def E4{R:Type}(a:Int)(b:ByteArray)(c:Int)(d:Int->Option R)(e:Int->ByteArray->Int->Option R)(f:Option R):Option R:=
 bif c<(b.size:Int) then za c b.size ((Bw a (zb b c.toNat)).bind fun r1=>bif !r1 then d c else e a b (zW zI (c+1))) else f
def E5{R:Type}(a:Int)(b:Int->Option R):Option R:=
 b a
def E6{R:Type}(a:Int->Option R):Option R:=
 a (-1:Int)
def Qs:Nat->Int->ByteArray->Int->Option (Sum Int Unit)
 |0,_,_,_=>none
 |k+1,v0,v1,v2=>E4 v0 v1 v2 (fun a0=>some (.inl a0)) (fun a0 a1 a2=>Qs k a0 a1 a2) (some (.inr ()))
def QF(a:Int)(b:ByteArray):Option Int:=
 E3 a b (fun a0 a1 a2=>(Qs aq a0 a1 a2).bind fun e=>Sum.elim (fun(we:Int)=>E5 we (fun a0=>some a0)) (fun(we:Unit)=>E6 (fun a0=>some a0)) e)
def E8{R:Type}(a b:Int)(c:Bool->Option R)(d:Int->Int->Int->Option R):Option R:=
 bif a<1 then c false else bif 6<a then c false else bif b<1 then c false else bif 6<b then c false else d a b 0
def E9{R:Type}(a b c:Int)(d:Bool->Option R)(e:Int->Int->Int->Option R)(f:Option R):Option R:=
 bif c<256 then(Bw b (zW zU c)).bind fun r1=>bif r1 then(Bw a (zW zU c)).bind fun r2=>bif !r2 then d false else e a b (zW zI (c+1)) else e a b (zW zI (c+1)) else f
def Fa{R:Type}(a:Bool)(b:Bool->Option R):Option R:=
 b a
def Fb{R:Type}(a:Bool->Option R):Option R:=
 a true
def Qt:Nat->Int->Int->Int->Option (Sum Bool Unit)
 |0,_,_,_=>none
 |k+1,v0,v1,v2=>E9 v0 v1 v2 (fun a0=>some (.inl a0)) (fun a0 a1 a2=>Qt k a0 a1 a2) (some (.inr ()))
def QG(a b:Int):Option Bool:=
 E8 a b (fun a0=>some a0) (fun a0 a1 a2=>(Qt aq a0 a1 a2).bind fun e=>Sum.elim (fun(we:Bool)=>Fa we (fun a0=>some a0)) (fun(we:Unit)=>Fb (fun a0=>some a0)) e)
def Ff{R:Type}(a:Int)(b:Int->Option R):Option R:=
 bif a=0 then b 0 else bif Int.tmod (zW zU (Int.tdiv a 32)) 2=1 then b 0 else bif Int.tmod a 32=31 then b 2 else b 1
def QH(a:Int):Option Int:=
 Ff a (fun a0=>some a0)
def Fg{R:Type}(a:ByteArray)(b:Int)(c:Int->Int->Int->Option R):Option R:=
 bif b<0 then c 0 0 1 else bif(a.size:Int)<b then c 0 0 1 else bif b=(a.size:Int) then c 0 0 2 else za b a.size ((QH (zb a b.toNat)).bind fun r1=>bif r1=0 then c 0 0 13 else bif r1=1 then za b a.size (c (zW zI (zb a b.toNat)) (zW zI (b+1)) 0) else bif zW zI ((a.size:Int)-b)<2 then c 0 0 2 else za (zW zI (b+1)) a.size (bif zb a (zW zI (b+(1:Int))).toNat=0 then c 0 0 13 else za (zW zI (b+1)) a.size (bif 127<zb a (zW zI (b+(1:Int))).toNat then c 0 0 13 else za b a.size (za (zW zI (b+1)) a.size (c (zW zI (zW zI (256*zW zI (zb a b.toNat))+zW zI (zb a (zW zI (b+(1:Int))).toNat))) (zW zI (b+2)) 0)))))
def QI(a:ByteArray)(b:Int):Option ig:=
 Fg a b (fun a0 a1 a2=>some (a0,a1,a2))
def Fh{R:Type}(a:ByteArray)(b:Int)(c:Int->Int->Int->Option R):Option R:=
 bif b<0 then c 0 0 1 else bif(a.size:Int)<b then c 0 0 1 else bif b=(a.size:Int) then c 0 0 2 else za b a.size (bif zW zI (zb a b.toNat)<128 then c (zW zI (zb a b.toNat)) (zW zI (b+1)) 0 else bif !decide (zW zI (zb a b.toNat)=129) then bif !decide (zW zI (zb a b.toNat)=130) then c 0 0 14 else bif zW zI ((a.size:Int)-b)<zW zI (zW zI (zb a b.toNat)-127) then c 0 0 2 else bif zW zI (zb a b.toNat)=129 then za (zW zI (b+1)) a.size (bif zb a (zW zI (b+(1:Int))).toNat<128 then c 0 0 14 else za (zW zI (b+1)) a.size (c (zW zI (zb a (zW zI (b+(1:Int))).toNat)) (zW zI (b+2)) 0)) else za (zW zI (b+1)) a.size (bif zb a (zW zI (b+(1:Int))).toNat=0 then c 0 0 14 else za (zW zI (b+1)) a.size (za (zW zI (b+2)) a.size (c (zW zI (zW zI (256*zW zI (zb a (zW zI (b+(1:Int))).toNat))+zW zI (zb a (zW zI (b+(2:Int))).toNat))) (zW zI (b+3)) 0))) else bif zW zI ((a.size:Int)-b)<zW zI (zW zI (zb a b.toNat)-127) then c 0 0 2 else bif zW zI (zb a b.toNat)=129 then za (zW zI (b+1)) a.size (bif zb a (zW zI (b+(1:Int))).toNat<128 then c 0 0 14 else za (zW zI (b+1)) a.size (c (zW zI (zb a (zW zI (b+(1:Int))).toNat)) (zW zI (b+2)) 0)) else za (zW zI (b+1)) a.size (bif zb a (zW zI (b+(1:Int))).toNat=0 then c 0 0 14 else za (zW zI (b+1)) a.size (za (zW zI (b+2)) a.size (c (zW zI (zW zI (256*zW zI (zb a (zW zI (b+(1:Int))).toNat))+zW zI (zb a (zW zI (b+(2:Int))).toNat))) (zW zI (b+3)) 0))))
def QJ(a:ByteArray)(b:Int):Option ig:=
 Fh a b (fun a0 a1 a2=>some (a0,a1,a2))
def Fm{R:Type}(a:al)(b c:Int)(d:al->Int->Int->Int->Option R):Option R:=
 d a b c 0
def z130{R:Type}(a:al)(b c d:Int)(e:Bool->Option R)(f:al->Int->Int->Int->Option R)(g:Option R):Option R:=
 bif d<b then za d (List.length a) (bif(List.getD a d.toNat (0,bs [],())).1=c then e true else f a b c (zW zI (d+1))) else g
def z131{R:Type}(a:Bool)(b:Bool->Option R):Option R:=
 b a
def Fo{R:Type}(a:Bool->Option R):Option R:=
 a false
def Qv:Nat->al->Int->Int->Int->Option (Sum Bool Unit)
 |0,_,_,_,_=>none
 |k+1,v0,v1,v2,v3=>z130 v0 v1 v2 v3 (fun a0=>some (.inl a0)) (fun a0 a1 a2 a3=>Qv k a0 a1 a2 a3) (some (.inr ()))
def QL(a:al)(b c:Int):Option Bool:=
 Fm a b c (fun a0 a1 a2 a3=>(Qv aq a0 a1 a2 a3).bind fun e=>Sum.elim (fun(we:Bool)=>z131 we (fun a0=>some a0)) (fun(we:Unit)=>Fo (fun a0=>some a0)) e)
def Fi{R:Type}(a:ByteArray)(b:ByteArray->al->Int->Option R):Option R:=
 b a [] 0
def Fj{R:Type}(a:ByteArray)(b:al)(c:Int)(d:al->Int->Int->al->Option R)(e:ByteArray->al->Int->Option R)(f:al->Option R):Option R:=
 bif c<(a.size:Int) then(QI a c).bind fun r1=>bif !decide (r1.2.2=0) then d [] r1.2.2 c b else(QJ a r1.2.1).bind fun r2=>bif !decide (r2.2.2=0) then d [] r2.2.2 r1.2.1 b else bif zW zI ((a.size:Int)-r2.2.1)<r2.1 then d [] 2 (a.size:Int) b else(QL b ((List.length b):Int) r1.1).bind fun r3=>bif r3 then d [] 10 c b else bif 0<=zW zI (r2.2.1+r2.1) then bif zW zI (r2.2.1+r2.1)<=(a.size:Int) then bif 0<=r2.2.1 then bif r2.2.1<=(((zW zI (r2.2.1+r2.1)).toNat:Nat):Int) then bif(List.length b+List.length ([(r1.1,a.extract r2.2.1.toNat (zW zI (r2.2.1+r2.1)).toNat,())]:List bM))*24<=140737488355328 then e a (b++([(r1.1,a.extract r2.2.1.toNat (zW zI (r2.2.1+r2.1)).toNat,())]:List bM)) (zW zI (r2.2.1+r2.1)) else none else none else none else none else none else f b
def Fk{R:Type}(a:al)(b c:Int)(d:al)(e:al->Int->Int->Option R):Option R:=
 e a b c
def Fl{R:Type}(a:al)(b:al->Int->Int->Option R):Option R:=
 b a 0 0
def Qu:Nat->ByteArray->al->Int->Option (Sum kR al)
 |0,_,_,_=>none
 |k+1,v0,v1,v2=>Fj v0 v1 v2 (fun a0 a1 a2 a3=>some (.inl (a0,a1,a2,a3))) (fun a0 a1 a2=>Qu k a0 a1 a2) (fun a0=>some (.inr a0))
def QK(a:ByteArray):Option (Sum fg fg):=
 Fi a (fun a0 a1 a2=>(Qu aq a0 a1 a2).bind fun e=>Sum.elim (fun(we:kR)=>Fk we.1 we.2.1 we.2.2.1 we.2.2.2 (fun a0 a1 a2=>some (.inl (a0,a1,a2)))) (fun(we:al)=>Fl we (fun a0 a1 a2=>some (.inr (a0,a1,a2)))) e)
def Fp{R:Type}(a:aA)(b:Int->Option R):Option R:=
 bif a.1<2 then b 1 else bif 128<a.1 then b 1 else bif a.2.1<1 then b 6 else bif 6<a.2.1 then b 6 else bif a.2.2.1<1 then b 3 else bif 3<a.2.2.1 then b 3 else bif a.2.2.1=2 then bif a.2.2.2.1<1 then b 5 else bif a.2.2.2.2.1<a.2.2.2.1 then b 5 else bif 99<a.2.2.2.2.1 then b 5 else bif a.2.2.1=1 then bif !decide (a.2.2.2.1=a.2.2.2.2.1) then b 5 else bif a.2.2.1=1 then bif a.2.1=6 then b 13 else b 0 else b 0 else bif a.2.2.1=1 then bif a.2.1=6 then b 13 else b 0 else b 0 else bif a.2.2.2.1<1 then b 5 else bif a.2.2.2.2.1<a.2.2.2.1 then b 5 else bif 999<a.2.2.2.2.1 then b 5 else bif a.2.2.1=1 then bif !decide (a.2.2.2.1=a.2.2.2.2.1) then b 5 else bif a.2.2.1=1 then bif a.2.1=6 then b 13 else b 0 else b 0 else bif a.2.2.1=1 then bif a.2.1=6 then b 13 else b 0 else b 0
def Bz(a:aA):Option Int:=
 Fp a (fun a0=>some a0)
def Fq{R:Type}(a:aA)(b:ByteArray)(c:Int->Option R):Option R:=
 (Bz a).bind fun r1=>bif !decide (r1=0) then c 1 else bif(b.size:Int)<a.2.2.2.1 then c 5 else bif a.2.2.2.2.1<(b.size:Int) then c 5 else(QF a.2.1 b).bind fun r2=>bif 0<=r2 then c 6 else bif a.2.1=6 then(QK b).bind fun r3=>Sum.elim (fun(rB:fg)=>bif !decide (rB.2.1=0) then c 13 else c 0) (fun(rB:fg)=>bif !decide (rB.2.1=0) then c 13 else c 0) r3 else c 0
def QM(a:aA)(b:ByteArray):Option Int:=
 Fq a b (fun a0=>some a0)
def Fs{R:Type}(a b:aA)(c:Bool->Option R):Option R:=
 (Bz a).bind fun r1=>bif !decide (r1=0) then c false else(Bz b).bind fun r2=>bif !decide (r2=0) then c false else bif b.2.2.2.1<a.2.2.2.1 then c false else bif a.2.2.2.2.1<b.2.2.2.2.1 then c false else bif a.2.1=5 then c true else bif a.2.1=6 then c (decide (a.2.1=b.2.1)) else bif b.2.1=6 then c (decide (a.2.1=b.2.1)) else(QG a.2.1 b.2.1).bind fun r3=>c r3
def QN(a b:aA):Option Bool:=
 Fs a b (fun a0=>some a0)
def HM{R:Type}(a b:ag)(c:Bool->Option R)(d:Int->ag->ag->Option R):Option R:=
 bif !decide (a.1=b.1) then c false else bif !decide (a.2.1=b.2.1) then c false else bif !decide (((List.length a.2.2.1):Int)=((List.length b.2.2.1):Int)) then c false else d 0 a b
def HN{R:Type}(a:Int)(b c:ag)(d:Bool->Option R)(e:Int->ag->ag->Option R)(f:Option R):Option R:=
 bif a<((List.length b.2.2.1):Int) then za a (List.length b.2.2.1) (za a (List.length c.2.2.1) (bif !(decide ((List.getD b.2.2.1 a.toNat (0,0,0,0,0,())).1=(List.getD c.2.2.1 a.toNat (0,0,0,0,0,())).1)&&(decide ((List.getD b.2.2.1 a.toNat (0,0,0,0,0,())).2.1=(List.getD c.2.2.1 a.toNat (0,0,0,0,0,())).2.1)&&(decide ((List.getD b.2.2.1 a.toNat (0,0,0,0,0,())).2.2.1=(List.getD c.2.2.1 a.toNat (0,0,0,0,0,())).2.2.1)&&(decide ((List.getD b.2.2.1 a.toNat (0,0,0,0,0,())).2.2.2.1=(List.getD c.2.2.1 a.toNat (0,0,0,0,0,())).2.2.2.1)&&(decide ((List.getD b.2.2.1 a.toNat (0,0,0,0,0,())).2.2.2.2.1=(List.getD c.2.2.1 a.toNat (0,0,0,0,0,())).2.2.2.2.1)&&true))))) then d false else e (zW zI (a+1)) b c)) else f
def HO{R:Type}(a:Bool)(b:Bool->Option R):Option R:=
 b a
def HP{R:Type}(a:Bool->Option R):Option R:=
 a true
def xC:Nat->Int->ag->ag->Option (Sum Bool Unit)
 |0,_,_,_=>none
 |k+1,v0,v1,v2=>HN v0 v1 v2 (fun a0=>some (.inl a0)) (fun a0 a1 a2=>xC k a0 a1 a2) (some (.inr ()))
def pI(a b:ag):Option Bool:=
 HM a b (fun a0=>some a0) (fun a0 a1 a2=>(xC aq a0 a1 a2).bind fun e=>Sum.elim (fun(we:Bool)=>HO we (fun a0=>some a0)) (fun(we:Unit)=>HP (fun a0=>some a0)) e)
def HU{R:Type}(a:np->Option R):Option R:=
 a ([([2,1,2,12,19,1,2,12,19]:List Int),([3,1,1,6,6,1,1,6,6]:List Int),([4,1,1,12,12,1,1,12,12]:List Int),([7,1,1,10,10,1,1,10,10]:List Int),([11,1,1,6,6,1,1,6,6]:List Int),([12,1,1,6,6,1,1,12,12]:List Int),([13,1,1,4,4,0,0,0,0]:List Int),([14,1,1,4,4,1,1,4,4]:List Int),([18,1,1,4,4,0,0,0,0]:List Int),([22,1,1,3,3,3,1,12,12]:List Int),([23,1,1,3,3,1,1,3,3]:List Int),([26,0,0,0,0,1,1,4,4]:List Int),([32,1,2,1,11,1,2,1,11]:List Int),([35,4,2,1,37,4,2,1,37]:List Int),([37,3,1,12,12,3,1,12,12]:List Int),([38,3,1,6,6,3,1,6,6]:List Int),([39,3,1,2,2,1,1,3,3]:List Int),([41,4,1,8,8,4,1,8,8]:List Int),([42,4,1,15,15,4,1,15,15]:List Int),([43,4,1,40,40,4,2,1,99]:List Int),([48,4,3,1,999,4,3,1,999]:List Int),([49,1,1,3,3,1,1,3,3]:List Int),([52,5,1,8,8,5,1,8,8]:List Int),([55,6,3,1,255,6,3,1,255]:List Int),([64,5,1,8,8,5,1,8,8]:List Int),([70,1,1,3,3,1,1,3,3]:List Int),([90,1,1,42,42,0,0,0,0]:List Int),([102,4,2,1,28,4,2,1,28]:List Int),([128,5,1,8,8,5,1,8,8]:List Int)]:List (List Int))
def pK:Option np:=
 HU (fun a0=>some a0)
def HR{R:Type}(a:Int)(b:Int->np->Int->ag->ag->Option R):Option R:=
 pK.bind fun r1=>b a r1 0 (0,0,[],()) (zW zI (a+1),a,[],())
def HS{R:Type}(a:Int)(b:np)(c:Int)(d e:ag)(f:Int->np->Int->ag->ag->Option R)(g:ag->ag->Option R):Option R:=
 bif c<((List.length b):Int) then za c (List.length b) (bif 0<=zW zI (5+zW zI (4*a)) then bif zW zI (5+zW zI (4*a))<=(((List.length (List.getD b c.toNat ([]:List Int))):Nat):Int) then bif 0<=zW zI (1+zW zI (4*a)) then bif zW zI (1+zW zI (4*a))<=(((zW zI (5+zW zI (4*a))).toNat:Nat):Int) then za 0 (List.length (List.drop (zW zI ((1:Int)+zW zI ((4:Int)*a))).toNat (List.take (zW zI ((5:Int)+zW zI ((4:Int)*a))).toNat (List.getD b c.toNat ([]:List Int))))) (bif 0<List.getD (List.drop (zW zI (1+zW zI (4*a))).toNat (List.take (zW zI (5+zW zI (4*a))).toNat (List.getD b c.toNat []))) ((0:Int)).toNat 0 then za c (List.length b) (za 0 (List.length (List.getD b c.toNat ([]:List Int))) (za 0 (List.length (List.drop (zW zI ((1:Int)+zW zI ((4:Int)*a))).toNat (List.take (zW zI ((5:Int)+zW zI ((4:Int)*a))).toNat (List.getD b c.toNat ([]:List Int))))) (za 1 (List.length (List.drop (zW zI ((1:Int)+zW zI ((4:Int)*a))).toNat (List.take (zW zI ((5:Int)+zW zI ((4:Int)*a))).toNat (List.getD b c.toNat ([]:List Int))))) (za 2 (List.length (List.drop (zW zI ((1:Int)+zW zI ((4:Int)*a))).toNat (List.take (zW zI ((5:Int)+zW zI ((4:Int)*a))).toNat (List.getD b c.toNat ([]:List Int))))) (za 3 (List.length (List.drop (zW zI ((1:Int)+zW zI ((4:Int)*a))).toNat (List.take (zW zI ((5:Int)+zW zI ((4:Int)*a))).toNat (List.getD b c.toNat ([]:List Int))))) (bif(List.length e.2.2.1+List.length ([(List.getD (List.getD b c.toNat ([]:List Int)) ((0:Int)).toNat (0:Int),List.getD (List.drop (zW zI ((1:Int)+zW zI ((4:Int)*a))).toNat (List.take (zW zI ((5:Int)+zW zI ((4:Int)*a))).toNat (List.getD b c.toNat ([]:List Int)))) ((0:Int)).toNat (0:Int),List.getD (List.drop (zW zI ((1:Int)+zW zI ((4:Int)*a))).toNat (List.take (zW zI ((5:Int)+zW zI ((4:Int)*a))).toNat (List.getD b c.toNat ([]:List Int)))) ((1:Int)).toNat (0:Int),List.getD (List.drop (zW zI ((1:Int)+zW zI ((4:Int)*a))).toNat (List.take (zW zI ((5:Int)+zW zI ((4:Int)*a))).toNat (List.getD b c.toNat ([]:List Int)))) ((2:Int)).toNat (0:Int),List.getD (List.drop (zW zI ((1:Int)+zW zI ((4:Int)*a))).toNat (List.take (zW zI ((5:Int)+zW zI ((4:Int)*a))).toNat (List.getD b c.toNat ([]:List Int)))) ((3:Int)).toNat (0:Int),())]:List aA))*40<=140737488355328 then f a b (zW zI (c+1)) d (e.1,e.2.1,e.2.2.1++([(List.getD (List.getD b c.toNat []) ((0:Int)).toNat 0,List.getD (List.drop (zW zI (1+zW zI (4*a))).toNat (List.take (zW zI (5+zW zI (4*a))).toNat (List.getD b c.toNat []))) ((0:Int)).toNat 0,List.getD (List.drop (zW zI (1+zW zI (4*a))).toNat (List.take (zW zI (5+zW zI (4*a))).toNat (List.getD b c.toNat []))) ((1:Int)).toNat 0,List.getD (List.drop (zW zI (1+zW zI (4*a))).toNat (List.take (zW zI (5+zW zI (4*a))).toNat (List.getD b c.toNat []))) ((2:Int)).toNat 0,List.getD (List.drop (zW zI (1+zW zI (4*a))).toNat (List.take (zW zI (5+zW zI (4*a))).toNat (List.getD b c.toNat []))) ((3:Int)).toNat 0,())]:List aA),()) else none)))))) else f a b (zW zI (c+1)) d e) else none else none else none else none) else g d e
def HT{R:Type}(a b:ag)(c:ag->Option R):Option R:=
 c b
def xE:Nat->Int->np->Int->ag->ag->Option (ag×ag)
 |0,_,_,_,_,_=>none
 |k+1,v0,v1,v2,v3,v4=>HS v0 v1 v2 v3 v4 (fun a0 a1 a2 a3 a4=>xE k a0 a1 a2 a3 a4) (fun a0 a1=>some (a0,a1))
def mo(a:Int):Option ag:=
 HR a (fun a0 a1 a2 a3 a4=>(xE aq a0 a1 a2 a3 a4).bind fun e=>HT e.1 e.2 (fun a0=>some a0))
def HQ{R:Type}(a:(List Int)->Option R):Option R:=
 a ([2,3,4,7,11,12,14,23,32,35,37,38,41,42,49,52,55,64,70,102,128]:List Int)
def pJ:Option (List Int):=
 HQ (fun a0=>some a0)
def zip{R:Type}(a:ag)(b:Int)(c:Int->dv->Int->Int->aA->Option R):Option R:=
 c b a.2.2.1 ((List.length a.2.2.1):Int) 0 (0,0,0,0,0,())
def Kq{R:Type}(a:Int)(b:dv)(c d:Int)(e:aA)(f:Bool->aA->Option R)(g:Int->dv->Int->Int->aA->Option R)(h:aA->Option R):Option R:=
 bif d<c then za d (List.length b) (bif(List.getD b d.toNat (0,0,0,0,0,())).1=a then f true (List.getD b d.toNat (0,0,0,0,0,())) else g a b c (zW zI (d+1)) e) else h e
def Kr{R:Type}(a:Bool)(b:aA)(c:aA->Bool->Option R):Option R:=
 c b a
def Ks{R:Type}(a:aA)(b:aA->Bool->Option R):Option R:=
 b (0,0,0,0,0,()) false
def yE:Nat->Int->dv->Int->Int->aA->Option (Sum (Bool×aA) aA)
 |0,_,_,_,_,_=>none
 |k+1,v0,v1,v2,v3,v4=>Kq v0 v1 v2 v3 v4 (fun a0 a1=>some (.inl (a0,a1))) (fun a0 a1 a2 a3 a4=>yE k a0 a1 a2 a3 a4) (fun a0=>some (.inr a0))
def er(a:ag)(b:Int):Option (aA×Bool):=
 zip a b (fun a0 a1 a2 a3 a4=>(yE aq a0 a1 a2 a3 a4).bind fun e=>Sum.elim (fun(we:(Bool×aA))=>Kr we.1 we.2 (fun a0 a1=>some (a0,a1))) (fun(we:aA)=>Ks we (fun a0 a1=>some (a0,a1))) e)
def wk{R:Type}(a:ag)(b:Int->Int->Option R)(c:dv->Int->Int->ag->Option R):Option R:=
 bif !decide (a.1=1) then bif !decide (a.1=2) then b 1 (-1:Int) else bif a.2.1<0 then b 7 (-1:Int) else bif 9<a.2.1 then b 7 (-1:Int) else c a.2.2.1 ((List.length a.2.2.1):Int) 0 a else bif a.2.1<0 then b 7 (-1:Int) else bif 9<a.2.1 then b 7 (-1:Int) else c a.2.2.1 ((List.length a.2.2.1):Int) 0 a
theorem Uc{R S:Type}(F:R->Option S)(a)(b)(c):(wk a b c).bind F=wk a (fun a0 a1=>(b a0 a1).bind F) (fun a0 a1 a2 a3=>(c a0 a1 a2 a3).bind F):=by
 simp only[wk,aE]
def wl{R:Type}(a:dv)(b c:Int)(d:ag)(e:Int->Int->Option R)(f:dv->Int->Int->ag->Option R)(g:Option R):Option R:=
 bif c<b then za c (List.length a) ((fT (List.getD a c.toNat (0,0,0,0,0,()))).bind fun r1=>bif !decide (r1=0) then e r1 c else bif 0<c then za (zW zI (c-1)) (List.length d.2.2.1) (bif(List.getD a c.toNat (0,0,0,0,0,())).1<=(List.getD d.2.2.1 (zW zI (c-(1:Int))).toNat (0,0,0,0,0,())).1 then e 11 c else f a b (zW zI (c+1)) d) else f a b (zW zI (c+1)) d) else g
def Kn{R:Type}(a b:Int)(c:Int->Int->Option R):Option R:=
 c a b
def Ko{R:Type}(a:Int->Int->Option R):Option R:=
 a 0 0
def rI:Nat->dv->Int->Int->ag->Option (Sum (Int×Int) Unit)
 |0,_,_,_,_=>none
 |k+1,v0,v1,v2,v3=>wl v0 v1 v2 v3 (fun a0 a1=>some (.inl (a0,a1))) (fun a0 a1 a2 a3=>rI k a0 a1 a2 a3) (some (.inr ()))
def jB(a:ag):Option (Int×Int):=
 wk a (fun a0 a1=>some (a0,a1)) (fun a0 a1 a2 a3=>(rI aq a0 a1 a2 a3).bind fun e=>Sum.elim (fun(we:(Int×Int))=>Kn we.1 we.2 (fun a0 a1=>some (a0,a1))) (fun(we:Unit)=>Ko (fun a0 a1=>some (a0,a1))) e)
def H0{R:Type}(a:aw)(b:aw->aw->Int->Option R):Option R:=
 b a [] 0
def H2{R:Type}(a b:aw)(c:Int)(d:aw->aw->Int->Option R)(e:aw->Option R):Option R:=
 bif c<((List.length a):Int) then za c (List.length a) (za c (List.length a) (bif(List.length b+List.length ([((List.getD a c.toNat (bs [],bs [],())).2.1,(List.getD a c.toNat (bs [],bs [],())).1,())]:List bc))*32<=140737488355328 then d a (b++([((List.getD a c.toNat (bs [],bs [],())).2.1,(List.getD a c.toNat (bs [],bs [],())).1,())]:List bc)) (zW zI (c+1)) else none)) else e b
def H3{R:Type}(a:aw)(b:aw->Option R):Option R:=
 b a
def xI:Nat->aw->aw->Int->Option aw
 |0,_,_,_=>none
 |k+1,v0,v1,v2=>H2 v0 v1 v2 (fun a0 a1 a2=>xI k a0 a1 a2) (fun a0=>some a0)
def ia(a:aw):Option aw:=
 H0 a (fun a0 a1 a2=>(xI aq a0 a1 a2).bind fun e=>H3 e (fun a0=>some a0))
def HW{R:Type}(a b:aw)(c:Bool->Option R)(d:aw->aw->Int->Option R):Option R:=
 bif !decide (((List.length a):Int)=((List.length b):Int)) then c false else d a b 0
def HX{R:Type}(a b:aw)(c:Int)(d:Bool->Option R)(e:aw->aw->Int->Option R)(f:Option R):Option R:=
 bif c<((List.length a):Int) then za c (List.length a) (za c (List.length b) (bif !(decide ((List.getD a c.toNat (bs [],bs [],())).1=(List.getD b c.toNat (bs [],bs [],())).1)&&(decide ((List.getD a c.toNat (bs [],bs [],())).2.1=(List.getD b c.toNat (bs [],bs [],())).2.1)&&true)) then d false else e a b (zW zI (c+1)))) else f
def HY{R:Type}(a:Bool)(b:Bool->Option R):Option R:=
 b a
def HZ{R:Type}(a:Bool->Option R):Option R:=
 a true
def xG:Nat->aw->aw->Int->Option (Sum Bool Unit)
 |0,_,_,_=>none
 |k+1,v0,v1,v2=>HX v0 v1 v2 (fun a0=>some (.inl a0)) (fun a0 a1 a2=>xG k a0 a1 a2) (some (.inr ()))
def mq(a b:aw):Option Bool:=
 HW a b (fun a0=>some a0) (fun a0 a1 a2=>(xG aq a0 a1 a2).bind fun e=>Sum.elim (fun(we:Bool)=>HY we (fun a0=>some a0)) (fun(we:Unit)=>HZ (fun a0=>some a0)) e)
def H5{R:Type}(a b:av)(c:Bool->Option R)(d:Int->av->av->Option R):Option R:=
 (mq a.1 b.1).bind fun r1=>bif !r1 then c false else bif !decide (((List.length a.2.1):Int)=((List.length b.2.1):Int)) then c false else d 0 a b
def H6{R:Type}(a:Int)(b c:av)(d:Bool->Option R)(e:Int->av->av->Option R)(f:Option R):Option R:=
 bif a<((List.length b.2.1):Int) then za a (List.length b.2.1) (za a (List.length c.2.1) (bif !decide ((List.getD b.2.1 a.toNat (0,0,0,bs [],[],())).1=(List.getD c.2.1 a.toNat (0,0,0,bs [],[],())).1) then d false else bif !decide ((List.getD b.2.1 a.toNat (0,0,0,bs [],[],())).2.1=(List.getD c.2.1 a.toNat (0,0,0,bs [],[],())).2.1) then d false else bif !decide ((List.getD b.2.1 a.toNat (0,0,0,bs [],[],())).2.2.1=(List.getD c.2.1 a.toNat (0,0,0,bs [],[],())).2.2.1) then d false else bif !decide ((List.getD b.2.1 a.toNat (0,0,0,bs [],[],())).2.2.2.1=(List.getD c.2.1 a.toNat (0,0,0,bs [],[],())).2.2.2.1) then d false else(mq (List.getD b.2.1 a.toNat (0,0,0,bs [],[],())).2.2.2.2.1 (List.getD c.2.1 a.toNat (0,0,0,bs [],[],())).2.2.2.2.1).bind fun r2=>bif !r2 then d false else e (zW zI (a+1)) b c)) else f
def H7{R:Type}(a:Bool)(b:Bool->Option R):Option R:=
 b a
def H8{R:Type}(a:Bool->Option R):Option R:=
 a true
def xK:Nat->Int->av->av->Option (Sum Bool Unit)
 |0,_,_,_=>none
 |k+1,v0,v1,v2=>H6 v0 v1 v2 (fun a0=>some (.inl a0)) (fun a0 a1 a2=>xK k a0 a1 a2) (some (.inr ()))
def pL(a b:av):Option Bool:=
 H5 a b (fun a0=>some a0) (fun a0 a1 a2=>(xK aq a0 a1 a2).bind fun e=>Sum.elim (fun(we:Bool)=>H7 we (fun a0=>some a0)) (fun(we:Unit)=>H8 (fun a0=>some a0)) e)
def H9{R:Type}(a:av)(b:Int->av->av->av->Option R):Option R:=
 (ia a.1).bind fun r1=>b 0 a ([],[],()) (r1,[],())
def Ia{R:Type}(a:Int)(b c d:av)(e:Int->av->av->av->Option R)(f:av->av->Option R):Option R:=
 bif a<((List.length b.2.1):Int) then za a (List.length b.2.1) ((ia (List.getD b.2.1 a.toNat (0,0,0,bs [],[],())).2.2.2.2.1).bind fun r2=>bif(List.length d.2.1+List.length ([((List.getD b.2.1 a.toNat ((0:Int),(0:Int),(0:Int),bs [],([]:List bc),())).1,(List.getD b.2.1 a.toNat ((0:Int),(0:Int),(0:Int),bs [],([]:List bc),())).2.2.1,(List.getD b.2.1 a.toNat ((0:Int),(0:Int),(0:Int),bs [],([]:List bc),())).2.1,(List.getD b.2.1 a.toNat ((0:Int),(0:Int),(0:Int),bs [],([]:List bc),())).2.2.2.1,r2,())]:List aM))*64<=140737488355328 then e (zW zI (a+1)) b c (d.1,d.2.1++([((List.getD b.2.1 a.toNat (0,0,0,bs [],[],())).1,(List.getD b.2.1 a.toNat (0,0,0,bs [],[],())).2.2.1,(List.getD b.2.1 a.toNat (0,0,0,bs [],[],())).2.1,(List.getD b.2.1 a.toNat (0,0,0,bs [],[],())).2.2.2.1,r2,())]:List aM),()) else none) else f c d
def Ib{R:Type}(a b:av)(c:av->Option R):Option R:=
 c b
def xM:Nat->Int->av->av->av->Option (av×av)
 |0,_,_,_,_=>none
 |k+1,v0,v1,v2,v3=>Ia v0 v1 v2 v3 (fun a0 a1 a2 a3=>xM k a0 a1 a2 a3) (fun a0 a1=>some (a0,a1))
def pM(a:av):Option av:=
 H9 a (fun a0 a1 a2 a3=>(xM aq a0 a1 a2 a3).bind fun e=>Ib e.1 e.2 (fun a0=>some a0))
def Iz{R:Type}(a:(List ByteArray))(b:(List ByteArray)->aw->Int->Option R):Option R:=
 b a [] 0
def IA{R:Type}(a:(List ByteArray))(b:aw)(c:Int)(d:(List ByteArray)->aw->Int->Option R)(e:aw->Option R):Option R:=
 bif c<((List.length a):Int) then za c (List.length a) (za (zW zI (c+1)) (List.length a) (bif(List.length b+List.length ([(List.getD a c.toNat (bs []),List.getD a (zW zI (c+(1:Int))).toNat (bs []),())]:List bc))*32<=140737488355328 then d a (b++([(List.getD a c.toNat (bs []),List.getD a (zW zI (c+(1:Int))).toNat (bs []),())]:List bc)) (zW zI (c+2)) else none)) else e b
def IB{R:Type}(a:aw)(b:aw->Option R):Option R:=
 b a
def xW:Nat->(List ByteArray)->aw->Int->Option aw
 |0,_,_,_=>none
 |k+1,v0,v1,v2=>IA v0 v1 v2 (fun a0 a1 a2=>xW k a0 a1 a2) (fun a0=>some a0)
def kn(a:(List ByteArray)):Option aw:=
 Iz a (fun a0 a1 a2=>(xW aq a0 a1 a2).bind fun e=>IB e (fun a0=>some a0))
def Iw{R:Type}(a:aR->(List Int)->Int->Option R):Option R:=
 pJ.bind fun r1=>a [] r1 0
def Ix{R:Type}(a:aR)(b:(List Int))(c:Int)(d:aR->(List Int)->Int->Option R)(e:aR->Option R):Option R:=
 bif c<((List.length b):Int) then za c (List.length b) (bif List.getD b c.toNat 0=12 then za c (List.length b) (za c (List.length b) (bif(List.length a+List.length ([((4:Int),List.getD b c.toNat (0:Int),List.getD b c.toNat (0:Int),bs [],([]:List bc),())]:List aM))*64<=140737488355328 then d (a++([(4,List.getD b c.toNat 0,List.getD b c.toNat 0,bs [],[],())]:List aM)) b (zW zI (c+1)) else none)) else za c (List.length b) (za c (List.length b) (bif(List.length a+List.length ([((1:Int),List.getD b c.toNat (0:Int),List.getD b c.toNat (0:Int),bs [],([]:List bc),())]:List aM))*64<=140737488355328 then d (a++([(1,List.getD b c.toNat 0,List.getD b c.toNat 0,bs [],[],())]:List aM)) b (zW zI (c+1)) else none))) else e a
def Iy{R:Type}(a:aR)(b:aR->Option R):Option R:=
 b a
def xU:Nat->aR->(List Int)->Int->Option aR
 |0,_,_,_=>none
 |k+1,v0,v1,v2=>Ix v0 v1 v2 (fun a0 a1 a2=>xU k a0 a1 a2) (fun a0=>some a0)
def km:Option aR:=
 Iw (fun a0 a1 a2=>(xU aq a0 a1 a2).bind fun e=>Iy e (fun a0=>some a0))
def Iv{R:Type}(a b c:ByteArray)(d:al->Option R):Option R:=
 d ([(0,a,()),(2,b,()),(3,b,()),(12,b,()),(9,b,()),(15,c,())]:List bM)
def mu(a b c:ByteArray):Option al:=
 Iv a b c (fun a0=>some a0)
def Ic{R:Type}(a:aD->Option R):Option R:=
 (kn ([(bs [48,49,48,48]),bs [49,49,48,48],bs [48,49,49,48],bs [49,49,49,48],bs [48,50,48,48],bs [49,50,48,48],bs [48,50,49,48],bs [49,50,49,48],bs [48,50,50,48],bs [49,50,50,48],bs [48,50,51,48],bs [49,50,51,48],bs [48,52,48,48],bs [49,52,48,48],bs [48,52,49,48],bs [49,52,49,48],bs [48,52,50,48],bs [49,52,50,48],bs [48,52,51,48],bs [49,52,51,48],bs [48,56,48,48],bs [49,56,48,52],bs [48,56,49,48],(bs [49,56,49,52])]:List ByteArray)).bind fun r1=>(kn ([(bs [48,53,49]),bs [53,49,48,49,48,49,53,49,49,51,52,52],bs [48,50,49],bs [50,49,48,49,48,49,50,49,49,51,52,52],bs [48,49,50],(bs [49,48,48,49,52,48,49,48,48,49,49,48])]:List ByteArray)).bind fun r2=>(kn ([(bs [48,48]),bs [48,48,48],bs [48,53],bs [49,48,48],bs [49,52],bs [49,49,49],bs [53,49],bs [49,49,54],bs [53,52],bs [49,48,49],bs [57,49],bs [57,48,55],bs [57,54],(bs [57,48,57])]:List ByteArray)).bind fun r3=>km.bind fun r4=>bif(List.length r4+List.length ([((2:Int),(13:Int),(0:Int),bs [],([]:List bc),()),((2:Int),(18:Int),(0:Int),bs [],([]:List bc),()),((2:Int),(90:Int),(0:Int),bs [],([]:List bc),()),((5:Int),(22:Int),(22:Int),bs [],r2,()),((5:Int),(39:Int),(39:Int),bs [],r3,()),((1:Int),(43:Int),(43:Int),bs [],([]:List bc),()),((1:Int),(48:Int),(48:Int),bs [],([]:List bc),()),((3:Int),(0:Int),(26:Int),bs [53,57,57,57],([]:List bc),())]:List aM))*64<=140737488355328 then km.bind fun r5=>(ia r2).bind fun r6=>(ia r3).bind fun r7=>bif(List.length r5+List.length ([((2:Int),(26:Int),(0:Int),bs [],([]:List bc),()),((2:Int),(43:Int),(0:Int),bs [],([]:List bc),()),((5:Int),(22:Int),(22:Int),bs [],r6,()),((5:Int),(39:Int),(39:Int),bs [],r7,()),((1:Int),(48:Int),(48:Int),bs [],([]:List bc),())]:List aM))*64<=140737488355328 then(mo (0:Int)).bind fun r8=>(mu (bs [57,54]) (bs [51,48]) (bs [49,50])).bind fun r9=>za 0 2 ((mo (1:Int)).bind fun dW=>(ia r1).bind fun fJ=>bif(List.length ([]:List Int)+List.length ([(2:Int),(3:Int),(4:Int),(7:Int),(11:Int),(12:Int),(32:Int),(37:Int),(41:Int),(42:Int),(70:Int)]:List Int))*8<=140737488355328 then(mu (bs [57,48,57]) (bs [57,48,52]) (bs [57,48,50])).bind fun gV=>za 1 2 (a (List.set (List.set (List.replicate 2 ((0,0,[],()),([],[],()),[],[],())) ((0:Int)).toNat (r8,(r1,r4++([(2,13,0,bs [],[],()),(2,18,0,bs [],[],()),(2,90,0,bs [],[],()),(5,22,22,bs [],r2,()),(5,39,39,bs [],r3,()),(1,43,43,bs [],[],()),(1,48,48,bs [],[],()),(3,0,26,bs [53,57,57,57],[],())]:List aM),()),([2,3,4,7,11,12,32,37,41,42,70]:List Int),r9,())) ((1:Int)).toNat (dW,(fJ,r5++([(2,26,0,bs [],[],()),(2,43,0,bs [],[],()),(5,22,22,bs [],r6,()),(5,39,39,bs [],r7,()),(1,48,48,bs [],[],())]:List aM),()),[]++([2,3,4,7,11,12,32,37,41,42,70]:List Int),gV,()),4096,())) else none) else none else none
def fO:Option aD:=
 Ic (fun a0=>some a0)
def Ij{R:Type}(a b:aD)(c:Bool->Option R)(d:Int->aD->aD->Option R):Option R:=
 bif !decide (a.2.1=b.2.1) then c false else d 0 a b
def Ik{R:Type}(a:Int)(b c:aD)(d:Bool->Option R)(e:Int->Int->aD->aD->ap->ap->Option R)(f:Option R):Option R:=
 bif a<2 then za a 2 (za a 2 ((pI (List.getD b.1 a.toNat ((0,0,[],()),([],[],()),[],[],())).1 (List.getD c.1 a.toNat ((0,0,[],()),([],[],()),[],[],())).1).bind fun r1=>bif !r1 then d false else(pL (List.getD b.1 a.toNat ((0,0,[],()),([],[],()),[],[],())).2.1 (List.getD c.1 a.toNat ((0,0,[],()),([],[],()),[],[],())).2.1).bind fun r2=>bif !r2 then d false else bif !decide (((List.length (List.getD b.1 a.toNat (((0:Int),(0:Int),([]:List aA),()),(([]:List bc),([]:List aM),()),([]:List Int),([]:List bM),())).2.2.1):Int)=((List.length (List.getD c.1 a.toNat (((0:Int),(0:Int),([]:List aA),()),(([]:List bc),([]:List aM),()),([]:List Int),([]:List bM),())).2.2.1):Int)) then d false else bif !decide (((List.length (List.getD b.1 a.toNat (((0:Int),(0:Int),([]:List aA),()),(([]:List bc),([]:List aM),()),([]:List Int),([]:List bM),())).2.2.2.1):Int)=((List.length (List.getD c.1 a.toNat (((0:Int),(0:Int),([]:List aA),()),(([]:List bc),([]:List aM),()),([]:List Int),([]:List bM),())).2.2.2.1):Int)) then d false else e a 0 b c (List.getD b.1 a.toNat ((0,0,[],()),([],[],()),[],[],())) (List.getD c.1 a.toNat ((0,0,[],()),([],[],()),[],[],())))) else f
def Il{R:Type}(a:Bool)(b:Bool->Option R):Option R:=
 b a
def Im{R:Type}(a:Bool->Option R):Option R:=
 a true
def Io{R:Type}(a b:Int)(c d:aD)(e f:ap)(g:Bool->Int->aD->aD->ap->ap->Option R)(h:Int->Int->aD->aD->ap->ap->Option R)(i:Int->aD->aD->ap->ap->Option R):Option R:=
 bif b<((List.length e.2.2.1):Int) then za b (List.length e.2.2.1) (za b (List.length f.2.2.1) (bif !decide (List.getD e.2.2.1 b.toNat 0=List.getD f.2.2.1 b.toNat 0) then g false a c d e f else h a (zW zI (b+1)) c d e f)) else i a c d e f
def Ip{R:Type}(a:Bool)(b:Int)(c d:aD)(e f:ap)(g:Bool->Option R):Option R:=
 g a
def Iq{R:Type}(a:Int)(b c:aD)(d e:ap)(f:Int->Int->aD->aD->ap->ap->Option R):Option R:=
 f a 0 b c d e
def Ir{R:Type}(a b:Int)(c d:aD)(e f:ap)(g:Bool->Int->aD->aD->Option R)(h:Int->Int->aD->aD->ap->ap->Option R)(i:Int->aD->aD->Option R):Option R:=
 bif b<((List.length e.2.2.2.1):Int) then za b (List.length e.2.2.2.1) (za b (List.length f.2.2.2.1) (bif !(decide ((List.getD e.2.2.2.1 b.toNat (0,bs [],())).1=(List.getD f.2.2.2.1 b.toNat (0,bs [],())).1)&&(decide ((List.getD e.2.2.2.1 b.toNat (0,bs [],())).2.1=(List.getD f.2.2.2.1 b.toNat (0,bs [],())).2.1)&&true)) then g false a c d else h a (zW zI (b+1)) c d e f)) else i a c d
def Is{R:Type}(a:Bool)(b:Int)(c d:aD)(e:Bool->Option R):Option R:=
 e a
def Iu{R:Type}(a:Int)(b c:aD)(d:Int->aD->aD->Option R):Option R:=
 d (zW zI (a+1)) b c
def xR:Nat->Int->Int->aD->aD->ap->ap->Option (Sum (Bool×Int×aD×aD×ap×ap) (Int×aD×aD×ap×ap))
 |0,_,_,_,_,_,_=>none
 |k+1,v0,v1,v2,v3,v4,v5=>Io v0 v1 v2 v3 v4 v5 (fun a0 a1 a2 a3 a4 a5=>some (.inl (a0,a1,a2,a3,a4,a5))) (fun a0 a1 a2 a3 a4 a5=>xR k a0 a1 a2 a3 a4 a5) (fun a0 a1 a2 a3 a4=>some (.inr (a0,a1,a2,a3,a4)))
def xS:Nat->Int->Int->aD->aD->ap->ap->Option (Sum (Bool×Int×aD×aD) (Int×aD×aD))
 |0,_,_,_,_,_,_=>none
 |k+1,v0,v1,v2,v3,v4,v5=>Ir v0 v1 v2 v3 v4 v5 (fun a0 a1 a2 a3=>some (.inl (a0,a1,a2,a3))) (fun a0 a1 a2 a3 a4 a5=>xS k a0 a1 a2 a3 a4 a5) (fun a0 a1 a2=>some (.inr (a0,a1,a2)))
def xQ:Nat->Int->aD->aD->Option (Sum Bool Unit)
 |0,_,_,_=>none
 |k+1,v0,v1,v2=>Ik v0 v1 v2 (fun a0=>some (.inl a0)) (fun a0 a1 a2 a3 a4 a5=>(xR aq a0 a1 a2 a3 a4 a5).bind fun e=>Sum.elim (fun(we:(Bool×Int×aD×aD×ap×ap))=>Ip we.1 we.2.1 we.2.2.1 we.2.2.2.1 we.2.2.2.2.1 we.2.2.2.2.2 (fun a0=>some (.inl a0))) (fun(we:(Int×aD×aD×ap×ap))=>Iq we.1 we.2.1 we.2.2.1 we.2.2.2.1 we.2.2.2.2 (fun a0 a1 a2 a3 a4 a5=>(xS aq a0 a1 a2 a3 a4 a5).bind fun e=>Sum.elim (fun(we:(Bool×Int×aD×aD))=>Is we.1 we.2.1 we.2.2.1 we.2.2.2 (fun a0=>some (.inl a0))) (fun(we:(Int×aD×aD))=>Iu we.1 we.2.1 we.2.2 (fun a0 a1 a2=>xQ k a0 a1 a2)) e)) e) (some (.inr ()))
def fP(a b:aD):Option Bool:=
 Ij a b (fun a0=>some a0) (fun a0 a1 a2=>(xQ aq a0 a1 a2).bind fun e=>Sum.elim (fun(we:Bool)=>Il we (fun a0=>some a0)) (fun(we:Unit)=>Im (fun a0=>some a0)) e)
def Ie{R:Type}(a:aD->Option R):Option R:=
 fO.bind fun r1=>km.bind fun r2=>za 0 2 (za 0 2 ((pM (List.getD (List.set r1.1 ((0:Int)).toNat ((List.getD r1.1 ((0:Int)).toNat ((0,0,[],()),([],[],()),[],[],())).1,((List.getD r1.1 ((0:Int)).toNat ((0,0,[],()),([],[],()),[],[],())).2.1.1,r2,()),(List.getD r1.1 ((0:Int)).toNat ((0,0,[],()),([],[],()),[],[],())).2.2.1,(List.getD r1.1 ((0:Int)).toNat ((0,0,[],()),([],[],()),[],[],())).2.2.2.1,())) ((0:Int)).toNat ((0,0,[],()),([],[],()),[],[],())).2.1).bind fun r3=>za 1 2 (a (List.set (List.set r1.1 ((0:Int)).toNat ((List.getD r1.1 ((0:Int)).toNat ((0,0,[],()),([],[],()),[],[],())).1,((List.getD r1.1 ((0:Int)).toNat ((0,0,[],()),([],[],()),[],[],())).2.1.1,r2,()),(List.getD r1.1 ((0:Int)).toNat ((0,0,[],()),([],[],()),[],[],())).2.2.1,(List.getD r1.1 ((0:Int)).toNat ((0,0,[],()),([],[],()),[],[],())).2.2.2.1,())) ((1:Int)).toNat ((List.getD (List.set r1.1 ((0:Int)).toNat ((List.getD r1.1 ((0:Int)).toNat ((0,0,[],()),([],[],()),[],[],())).1,((List.getD r1.1 ((0:Int)).toNat ((0,0,[],()),([],[],()),[],[],())).2.1.1,r2,()),(List.getD r1.1 ((0:Int)).toNat ((0,0,[],()),([],[],()),[],[],())).2.2.1,(List.getD r1.1 ((0:Int)).toNat ((0,0,[],()),([],[],()),[],[],())).2.2.2.1,())) ((1:Int)).toNat ((0,0,[],()),([],[],()),[],[],())).1,r3,(List.getD (List.set r1.1 ((0:Int)).toNat ((List.getD r1.1 ((0:Int)).toNat ((0,0,[],()),([],[],()),[],[],())).1,((List.getD r1.1 ((0:Int)).toNat ((0,0,[],()),([],[],()),[],[],())).2.1.1,r2,()),(List.getD r1.1 ((0:Int)).toNat ((0,0,[],()),([],[],()),[],[],())).2.2.1,(List.getD r1.1 ((0:Int)).toNat ((0,0,[],()),([],[],()),[],[],())).2.2.2.1,())) ((1:Int)).toNat ((0,0,[],()),([],[],()),[],[],())).2.2.1,(List.getD (List.set r1.1 ((0:Int)).toNat ((List.getD r1.1 ((0:Int)).toNat ((0,0,[],()),([],[],()),[],[],())).1,((List.getD r1.1 ((0:Int)).toNat ((0,0,[],()),([],[],()),[],[],())).2.1.1,r2,()),(List.getD r1.1 ((0:Int)).toNat ((0,0,[],()),([],[],()),[],[],())).2.2.1,(List.getD r1.1 ((0:Int)).toNat ((0,0,[],()),([],[],()),[],[],())).2.2.2.1,())) ((1:Int)).toNat ((0,0,[],()),([],[],()),[],[],())).2.2.2.1,()),r1.2.1,()))))
def mr:Option aD:=
 Ie (fun a0=>some a0)
def Jm{R:Type}(a:ByteArray)(b:Bool->Option R):Option R:=
 bif(a.size:Int)=4 then(rR a).bind fun r1=>b r1 else b false
def kq(a:ByteArray):Option Bool:=
 Jm a (fun a0=>some a0)
def Jn{R:Type}(a:ByteArray)(b:Int->Bool->Option R):Option R:=
 (kq a).bind fun r1=>bif !r1 then b 0 false else za 0 a.size (b (zW zI (zW zU (zb a ((0:Int)).toNat-48))) true)
def fQ(a:ByteArray):Option (Int×Bool):=
 Jn a (fun a0 a1=>some (a0,a1))
def Jk{R:Type}(a:ByteArray)(b:Bool->Option R):Option R:=
 (kq a).bind fun r1=>bif r1 then za 2 a.size (bif zb a ((2:Int)).toNat=48 then b true else za 2 a.size (b (decide (zb a ((2:Int)).toNat=50)))) else b false
def kp(a:ByteArray):Option Bool:=
 Jk a (fun a0=>some a0)
def Jl{R:Type}(a:ByteArray)(b:ByteArray->Bool->Option R):Option R:=
 (kp a).bind fun r1=>bif !r1 then b (bs []) false else bif 2<=(a.size:Int) then za 2 a.size (bif(a.extract 0 ((2:Int)).toNat).size+(strOf ([(zW zU (zb a ((2:Int)).toNat+1))]:List Int)).size<=9223372036854775807 then bif 3<=(a.size:Int) then bif(a.extract 0 ((2:Int)).toNat++strOf ([(zW zU (zb a ((2:Int)).toNat+1))]:List Int)).size+(a.extract ((3:Int)).toNat a.size).size<=9223372036854775807 then b ((a.extract 0 ((2:Int)).toNat++strOf ([(zW zU (zb a ((2:Int)).toNat+1))]:List Int))++a.extract ((3:Int)).toNat a.size) true else none else none else none) else none
def pV(a:ByteArray):Option gl:=
 Jl a (fun a0 a1=>some (a0,a1))
def I8{R:Type}(a:ai)(b:Int)(c:Int->al->Int->Int->Option R):Option R:=
 c b a.2.1 ((List.length a.2.1):Int) 0
def I9{R:Type}(a:Int)(b:al)(c d:Int)(e:ByteArray->Bool->Option R)(f:Int->al->Int->Int->Option R)(g:Option R):Option R:=
 bif d<c then za d (List.length b) (bif(List.getD b d.toNat (0,bs [],())).1=a then e (List.getD b d.toNat (0,bs [],())).2.1 true else f a b c (zW zI (d+1))) else g
def Ja{R:Type}(a:ByteArray)(b:Bool)(c:ByteArray->Bool->Option R):Option R:=
 c a b
def Jb{R:Type}(a:ByteArray->Bool->Option R):Option R:=
 a (bs []) false
def ya:Nat->Int->al->Int->Int->Option (Sum gl Unit)
 |0,_,_,_,_=>none
 |k+1,v0,v1,v2,v3=>I9 v0 v1 v2 v3 (fun a0 a1=>some (.inl (a0,a1))) (fun a0 a1 a2 a3=>ya k a0 a1 a2 a3) (some (.inr ()))
def pR(a:ai)(b:Int):Option gl:=
 I8 a b (fun a0 a1 a2 a3=>(ya aq a0 a1 a2 a3).bind fun e=>Sum.elim (fun(we:gl)=>Ja we.1 we.2 (fun a0 a1=>some (a0,a1))) (fun(we:Unit)=>Jb (fun a0 a1=>some (a0,a1))) e)
def Jh{R:Type}(a:ai)(b:Int)(c:Int->al->Int->Int->ai->ai->Option R):Option R:=
 c b a.2.1 ((List.length a.2.1):Int) 0 (bs [],[],()) (a.1,[],())
def Ji{R:Type}(a:Int)(b:al)(c d:Int)(e f:ai)(g:Int->al->Int->Int->ai->ai->Option R)(h:ai->ai->Option R):Option R:=
 bif d<c then za d (List.length b) (bif !decide ((List.getD b d.toNat (0,bs [],())).1=a) then bif(List.length f.2.1+List.length ([(List.getD b d.toNat ((0:Int),bs [],()))]:List bM))*24<=140737488355328 then g a b c (zW zI (d+1)) e (f.1,f.2.1++([(List.getD b d.toNat (0,bs [],()))]:List bM),()) else none else g a b c (zW zI (d+1)) e f) else h e f
def Jj{R:Type}(a b:ai)(c:ai->Option R):Option R:=
 c b
def ye:Nat->Int->al->Int->Int->ai->ai->Option (ai×ai)
 |0,_,_,_,_,_,_=>none
 |k+1,v0,v1,v2,v3,v4,v5=>Ji v0 v1 v2 v3 v4 v5 (fun a0 a1 a2 a3 a4 a5=>ye k a0 a1 a2 a3 a4 a5) (fun a0 a1=>some (a0,a1))
def pU(a:ai)(b:Int):Option ai:=
 Jh a b (fun a0 a1 a2 a3 a4 a5=>(ye aq a0 a1 a2 a3 a4 a5).bind fun e=>Jj e.1 e.2 (fun a0=>some a0))
def Jg{R:Type}(a:bM)(b:Int)(c:Bool->Int->Option R):Option R:=
 c (decide (b<a.1)) b
def pT(a:bM)(b:Int):Option (Bool×Int):=
 Jg a b (fun a0 a1=>some (a0,a1))
def KB{R:Type}(a:al)(b:Int)(c:al->Int->Int->Int->Option R):Option R:=
 c a ((List.length a):Int) 0 b
def KC{R:Type}(a:al)(b c d:Int)(e:Int->Int->Option R)(f:al->Int->Int->Int->Option R)(g:Int->Option R):Option R:=
 bif c<b then za c (List.length a) ((pT (List.getD a c.toNat (0,bs [],())) d).bind fun r1=>bif r1.1 then e c r1.2 else f a b (zW zI (c+1)) r1.2) else g d
def KD{R:Type}(a b:Int)(c:Int->Int->Option R):Option R:=
 c a b
def KE{R:Type}(a:Int)(b:Int->Int->Option R):Option R:=
 b (-1:Int) a
def yI:Nat->al->Int->Int->Int->Option (Sum (Int×Int) Int)
 |0,_,_,_,_=>none
 |k+1,v0,v1,v2,v3=>KC v0 v1 v2 v3 (fun a0 a1=>some (.inl (a0,a1))) (fun a0 a1 a2 a3=>yI k a0 a1 a2 a3) (fun a0=>some (.inr a0))
def qd(a:al)(b:Int):Option (Int×Int):=
 KB a b (fun a0 a1 a2 a3=>(yI aq a0 a1 a2 a3).bind fun e=>Sum.elim (fun(we:(Int×Int))=>KD we.1 we.2 (fun a0 a1=>some (a0,a1))) (fun(we:Int)=>KE we (fun a0 a1=>some (a0,a1))) e)
def Jf{R:Type}(a:ai)(b:Int)(c:ByteArray)(d:ai->Option R):Option R:=
 (pU a b).bind fun r1=>(qd r1.2.1 b).bind fun r2=>bif r2.1<0 then bif zW zI (((List.length r1.2.1):Int)+1)=zW zI (((List.length r1.2.1):Int)+1) then bif 0<=zW zI (((List.length r1.2.1):Int)+1) then bif zW zI (((List.length r1.2.1):Int)+1)*24<=140737488355328 then bif 0<=((List.length r1.2.1):Int) then bif((List.length r1.2.1):Int)<=(((List.length r1.2.1):Nat):Int) then bif Nat.beq (zW zI (((List.length r1.2.1):Int)+(1:Int))).toNat (List.length (List.replicate (zW zI (((List.length r1.2.1):Int)+(1:Int))).toNat ((0:Int),bs [],()))) then za ((List.length r1.2.1):Int) (zW zI (((List.length r1.2.1):Int)+(1:Int))).toNat (bif Nat.ble ((((List.length r1.2.1):Int)).toNat+1) (List.length (bJ (List.replicate (zW zI (((List.length r1.2.1):Int)+(1:Int))).toNat ((0:Int),bs [],())) (List.take (zW zI (((List.length r1.2.1):Int)+(1:Int))).toNat (List.drop 0 (List.take (((List.length r1.2.1):Int)).toNat r1.2.1))) 0)) then bif 0<=zW zI (((List.length r1.2.1):Int)+1) then bif zW zI (((List.length r1.2.1):Int)+1)<=(((zW zI (((List.length r1.2.1):Int)+(1:Int))).toNat:Nat):Int) then bif 0<=((List.length r1.2.1):Int) then bif((List.length r1.2.1):Int)<=(((List.length r1.2.1):Nat):Int) then bif Nat.beq (zW zI (((List.length r1.2.1):Int)+(1:Int))).toNat (List.length (List.set (bJ (List.replicate (zW zI (((List.length r1.2.1):Int)+(1:Int))).toNat ((0:Int),bs [],())) (List.take (zW zI (((List.length r1.2.1):Int)+(1:Int))).toNat (List.drop 0 (List.take (((List.length r1.2.1):Int)).toNat r1.2.1))) 0) (((List.length r1.2.1):Int)).toNat (r2.2,c,()))) then bif Nat.ble (zW zI (((List.length r1.2.1):Int)+(1:Int))).toNat (zW zI (((List.length r1.2.1):Int)+(1:Int))).toNat then bif Nat.beq (zW zI (((List.length r1.2.1):Int)+(1:Int))).toNat (List.length (bJ (List.set (bJ (List.replicate (zW zI (((List.length r1.2.1):Int)+(1:Int))).toNat ((0:Int),bs [],())) (List.take (zW zI (((List.length r1.2.1):Int)+(1:Int))).toNat (List.drop 0 (List.take (((List.length r1.2.1):Int)).toNat r1.2.1))) 0) (((List.length r1.2.1):Int)).toNat (r2.2,c,())) (List.take ((zW zI (((List.length r1.2.1):Int)+(1:Int))).toNat-(zW zI (((List.length r1.2.1):Int)+(1:Int))).toNat) (List.drop (((List.length r1.2.1):Int)).toNat (List.take (List.length r1.2.1) r1.2.1))) (zW zI (((List.length r1.2.1):Int)+(1:Int))).toNat)) then d (a.1,bJ (List.set (bJ (List.replicate (zW zI (((List.length r1.2.1):Int)+(1:Int))).toNat (0,bs [],())) (List.take (zW zI (((List.length r1.2.1):Int)+(1:Int))).toNat (List.drop 0 (List.take (((List.length r1.2.1):Int)).toNat r1.2.1))) 0) (((List.length r1.2.1):Int)).toNat (r2.2,c,())) (List.take ((zW zI (((List.length r1.2.1):Int)+(1:Int))).toNat-(zW zI (((List.length r1.2.1):Int)+(1:Int))).toNat) (List.drop (((List.length r1.2.1):Int)).toNat (List.take (List.length r1.2.1) r1.2.1))) (zW zI (((List.length r1.2.1):Int)+(1:Int))).toNat,()) else none else none else none else none else none else none else none else none) else none else none else none else none else none else none else bif zW zI (((List.length r1.2.1):Int)+1)=zW zI (((List.length r1.2.1):Int)+1) then bif 0<=zW zI (((List.length r1.2.1):Int)+1) then bif zW zI (((List.length r1.2.1):Int)+1)*24<=140737488355328 then bif 0<=r2.1 then bif r2.1<=(((List.length r1.2.1):Nat):Int) then bif Nat.beq (zW zI (((List.length r1.2.1):Int)+(1:Int))).toNat (List.length (List.replicate (zW zI (((List.length r1.2.1):Int)+(1:Int))).toNat ((0:Int),bs [],()))) then za r2.1 (zW zI (((List.length r1.2.1):Int)+(1:Int))).toNat (bif Nat.ble (r2.1.toNat+1) (List.length (bJ (List.replicate (zW zI (((List.length r1.2.1):Int)+(1:Int))).toNat ((0:Int),bs [],())) (List.take (zW zI (((List.length r1.2.1):Int)+(1:Int))).toNat (List.drop 0 (List.take r2.1.toNat r1.2.1))) 0)) then bif 0<=zW zI (r2.1+1) then bif zW zI (r2.1+1)<=(((zW zI (((List.length r1.2.1):Int)+(1:Int))).toNat:Nat):Int) then bif 0<=r2.1 then bif r2.1<=(((List.length r1.2.1):Nat):Int) then bif Nat.beq (zW zI (((List.length r1.2.1):Int)+(1:Int))).toNat (List.length (List.set (bJ (List.replicate (zW zI (((List.length r1.2.1):Int)+(1:Int))).toNat ((0:Int),bs [],())) (List.take (zW zI (((List.length r1.2.1):Int)+(1:Int))).toNat (List.drop 0 (List.take r2.1.toNat r1.2.1))) 0) r2.1.toNat (r2.2,c,()))) then bif Nat.ble (zW zI (r2.1+(1:Int))).toNat (zW zI (((List.length r1.2.1):Int)+(1:Int))).toNat then bif Nat.beq (zW zI (((List.length r1.2.1):Int)+(1:Int))).toNat (List.length (bJ (List.set (bJ (List.replicate (zW zI (((List.length r1.2.1):Int)+(1:Int))).toNat ((0:Int),bs [],())) (List.take (zW zI (((List.length r1.2.1):Int)+(1:Int))).toNat (List.drop 0 (List.take r2.1.toNat r1.2.1))) 0) r2.1.toNat (r2.2,c,())) (List.take ((zW zI (((List.length r1.2.1):Int)+(1:Int))).toNat-(zW zI (r2.1+(1:Int))).toNat) (List.drop r2.1.toNat (List.take (List.length r1.2.1) r1.2.1))) (zW zI (r2.1+(1:Int))).toNat)) then d (a.1,bJ (List.set (bJ (List.replicate (zW zI (((List.length r1.2.1):Int)+(1:Int))).toNat (0,bs [],())) (List.take (zW zI (((List.length r1.2.1):Int)+(1:Int))).toNat (List.drop 0 (List.take r2.1.toNat r1.2.1))) 0) r2.1.toNat (r2.2,c,())) (List.take ((zW zI (((List.length r1.2.1):Int)+(1:Int))).toNat-(zW zI (r2.1+(1:Int))).toNat) (List.drop r2.1.toNat (List.take (List.length r1.2.1) r1.2.1))) (zW zI (r2.1+(1:Int))).toNat,()) else none else none else none else none else none else none else none else none) else none else none else none else none else none else none
def jy(a:ai)(b:Int)(c:ByteArray):Option ai:=
 Jf a b c (fun a0=>some a0)
def I3{R:Type}(a:ag)(b:ai)(c:aB->Option R)(d:Int->al->Int->Int->ag->aB->Option R):Option R:=
 (jB a).bind fun r1=>bif !decide (r1.1=0) then c (1,(-1:Int),()) else(fQ b.1).bind fun r2=>bif !r2.2 then c (7,0,()) else bif !decide (r2.1=a.2.1) then c (7,0,()) else d 0 b.2.1 ((List.length b.2.1):Int) 0 a (0,0,())
def I4{R:Type}(a:Int)(b:al)(c d:Int)(e:ag)(f:aB)(g:aB->Option R)(h:Int->al->Int->Int->ag->aB->Option R)(i:aB->Option R):Option R:=
 bif d<c then za d (List.length b) (bif(List.getD b d.toNat (0,bs [],())).1<=a then g (11,(List.getD b d.toNat (0,bs [],())).1,()) else(er e (List.getD b d.toNat (0,bs [],())).1).bind fun r3=>bif !r3.2 then g (9,(List.getD b d.toNat (0,bs [],())).1,()) else(bU r3.1 (List.getD b d.toNat (0,bs [],())).2.1).bind fun r4=>bif !decide (r4=0) then g (r4,(List.getD b d.toNat (0,bs [],())).1,()) else h (List.getD b d.toNat (0,bs [],())).1 b c (zW zI (d+1)) e f) else i f
def I5{R:Type}(a:aB)(b:aB->Option R):Option R:=
 b a
def I6{R:Type}(a:aB)(b:aB->Option R):Option R:=
 b (0,0,())
def z93:Nat->Int->al->Int->Int->ag->aB->Option (Sum aB aB)
 |0,_,_,_,_,_,_=>none
 |k+1,v0,v1,v2,v3,v4,v5=>I4 v0 v1 v2 v3 v4 v5 (fun a0=>some (.inl a0)) (fun a0 a1 a2 a3 a4 a5=>z93 k a0 a1 a2 a3 a4 a5) (fun a0=>some (.inr a0))
def mz(a:ag)(b:ai):Option aB:=
 I3 a b (fun a0=>some a0) (fun a0 a1 a2 a3 a4 a5=>(z93 aq a0 a1 a2 a3 a4 a5).bind fun e=>Sum.elim (fun(we:aB)=>I5 we (fun a0=>some a0)) (fun(we:aB)=>I6 we (fun a0=>some a0)) e)
def Jc{R:Type}(a:ai)(b:al->Int->Int->aB->aB->Option R):Option R:=
 b a.2.1 ((List.length a.2.1):Int) 0 (0,0,()) (0,0,())
def Jd{R:Type}(a:al)(b c:Int)(d e:aB)(f:al->Int->Int->aB->aB->Option R)(g:aB->aB->Option R):Option R:=
 bif c<b then za c (List.length a) ((wM e (List.getD a c.toNat (0,bs [],())).1).bind fun r1=>f a b (zW zI (c+1)) d r1) else g d e
def Je{R:Type}(a b:aB)(c:aB->Option R):Option R:=
 c b
def yc:Nat->al->Int->Int->aB->aB->Option (aB×aB)
 |0,_,_,_,_,_=>none
 |k+1,v0,v1,v2,v3,v4=>Jd v0 v1 v2 v3 v4 (fun a0 a1 a2 a3 a4=>yc k a0 a1 a2 a3 a4) (fun a0 a1=>some (a0,a1))
def pS(a:ai):Option aB:=
 Jc a (fun a0 a1 a2 a3 a4=>(yc aq a0 a1 a2 a3 a4).bind fun e=>Je e.1 e.2 (fun a0=>some a0))
def Kf{R:Type}(a:aM)(b c:ag)(d:aA->aA->Int->Option R):Option R:=
 (er b a.2.1).bind fun r1=>(er c a.2.2.1).bind fun r2=>bif a.1=3 then bif a.1=2 then bif !decide (a.2.1=0) then d r1.1 r2.1 9 else bif !decide (a.2.2.1=0) then d r1.1 r2.1 9 else d r1.1 r2.1 0 else bif !decide (a.2.1=0) then d r1.1 r2.1 9 else bif !r2.2 then d r1.1 r2.1 9 else d r1.1 r2.1 0 else bif a.1=2 then bif !r1.2 then d r1.1 r2.1 9 else bif !decide (a.2.2.1=0) then d r1.1 r2.1 9 else d r1.1 r2.1 0 else bif !r1.2 then d r1.1 r2.1 9 else bif !r2.2 then d r1.1 r2.1 9 else d r1.1 r2.1 0
def p9(a:aM)(b c:ag):Option (aA×aA×Int):=
 Kf a b c (fun a0 a1 a2=>some (a0,a1,a2))
def Kg{R:Type}(a:aA)(b:Bool->Option R):Option R:=
 bif a.2.1=1 then b (decide (a.2.2.1=1)) else b false
def ff(a:aA):Option Bool:=
 Kg a (fun a0=>some a0)
def Ki{R:Type}(a:aw)(b c:aA)(d:Int->Option R)(e:aw->Int->Int->aA->aA->Option R):Option R:=
 (sW a).bind fun r1=>bif !decide (r1.1=0) then d 15 else bif((List.length a):Int)=0 then d 15 else e a ((List.length a):Int) 0 b c
def Kj{R:Type}(a:aw)(b c:Int)(d e:aA)(f:Int->Option R)(g:aw->Int->Int->aA->aA->Option R)(h:Option R):Option R:=
 bif c<b then za c (List.length a) ((bU d (List.getD a c.toNat (bs [],bs [],())).1).bind fun r2=>bif !decide (r2=0) then f r2 else(bU e (List.getD a c.toNat (bs [],bs [],())).2.1).bind fun r3=>bif !decide (r3=0) then f r3 else g a b (zW zI (c+1)) d e) else h
def Kk{R:Type}(a:Int)(b:Int->Option R):Option R:=
 b a
def Kl{R:Type}(a:Int->Option R):Option R:=
 a 0
def yB:Nat->aw->Int->Int->aA->aA->Option (Sum Int Unit)
 |0,_,_,_,_,_=>none
 |k+1,v0,v1,v2,v3,v4=>Kj v0 v1 v2 v3 v4 (fun a0=>some (.inl a0)) (fun a0 a1 a2 a3 a4=>yB k a0 a1 a2 a3 a4) (some (.inr ()))
def jA(a:aw)(b c:aA):Option Int:=
 Ki a b c (fun a0=>some a0) (fun a0 a1 a2 a3 a4=>(yB aq a0 a1 a2 a3 a4).bind fun e=>Sum.elim (fun(we:Int)=>Kk we (fun a0=>some a0)) (fun(we:Unit)=>Kl (fun a0=>some a0)) e)
def Ke{R:Type}(a:aM)(b c:ag)(d:Int->Option R):Option R:=
 bif a.1<1 then d 1 else bif 5<a.1 then d 1 else(p9 a b c).bind fun r1=>bif !decide (r1.2.2=0) then d r1.2.2 else bif !decide (a.2.2.2.1=bs []) then bif !decide (a.1=3) then d 3 else bif 0<((List.length a.2.2.2.2.1):Int) then bif !decide (a.1=5) then d 3 else bif a.1=1 then(gx r1.2.1 r1.1).bind fun r2=>bif !r2 then d 6 else d 0 else bif a.1=3 then(bU r1.2.1 a.2.2.2.1).bind fun r3=>d r3 else bif a.1=4 then(ff r1.1).bind fun r4=>bif !r4 then d 6 else(ff r1.2.1).bind fun r5=>bif !r5 then d 6 else d 0 else bif a.1=5 then(jA a.2.2.2.2.1 r1.1 r1.2.1).bind fun r6=>d r6 else d 0 else bif a.1=1 then(gx r1.2.1 r1.1).bind fun r7=>bif !r7 then d 6 else d 0 else bif a.1=3 then(bU r1.2.1 a.2.2.2.1).bind fun r8=>d r8 else bif a.1=4 then(ff r1.1).bind fun r9=>bif !r9 then d 6 else(ff r1.2.1).bind fun dW=>bif !dW then d 6 else d 0 else bif a.1=5 then(jA a.2.2.2.2.1 r1.1 r1.2.1).bind fun fJ=>d fJ else d 0 else bif 0<((List.length a.2.2.2.2.1):Int) then bif !decide (a.1=5) then d 3 else bif a.1=1 then(gx r1.2.1 r1.1).bind fun gV=>bif !gV then d 6 else d 0 else bif a.1=3 then(bU r1.2.1 a.2.2.2.1).bind fun gW=>d gW else bif a.1=4 then(ff r1.1).bind fun ka=>bif !ka then d 6 else(ff r1.2.1).bind fun jV=>bif !jV then d 6 else d 0 else bif a.1=5 then(jA a.2.2.2.2.1 r1.1 r1.2.1).bind fun kb=>d kb else d 0 else bif a.1=1 then(gx r1.2.1 r1.1).bind fun kc=>bif !kc then d 6 else d 0 else bif a.1=3 then(bU r1.2.1 a.2.2.2.1).bind fun l5=>d l5 else bif a.1=4 then(ff r1.1).bind fun kd=>bif !kd then d 6 else(ff r1.2.1).bind fun se=>bif !se then d 6 else d 0 else bif a.1=5 then(jA a.2.2.2.2.1 r1.1 r1.2.1).bind fun rp=>d rp else d 0
def p8(a:aM)(b c:ag):Option Int:=
 Ke a b c (fun a0=>some a0)
def Kd{R:Type}(a:aM)(b:ag)(c:ByteArray)(d:bM->Int->Option R):Option R:=
 bif a.1=1 then d (a.2.2.1,c,()) 0 else bif a.1=2 then d (0,bs [],()) 0 else bif a.1=3 then d (a.2.2.1,a.2.2.2.1,()) 0 else bif a.1=4 then(er b a.2.2.1).bind fun r1=>bif !r1.2 then d (0,bs [],()) 9 else(Bn c r1.1.2.2.2.1).bind fun r2=>bif !r2.2 then d (0,bs [],()) 5 else d (a.2.2.1,r2.1,()) 0 else bif a.1=5 then(Bj a.2.2.2.2.1 c).bind fun r3=>bif !r3.2 then d (0,bs [],()) 15 else d (a.2.2.1,r3.1,()) 0 else d (0,bs [],()) 1
def p7(a:aM)(b:ag)(c:ByteArray):Option (bM×Int):=
 Kd a b c (fun a0 a1=>some (a0,a1))
def LK{R:Type}(a:bc)(b c:ag)(d:Bool->Option R):Option R:=
 (fQ a.1).bind fun r1=>(fQ a.2.1).bind fun r2=>bif r1.2 then bif r2.2 then bif r1.1=b.2.1 then bif r2.1=c.2.1 then(kp a.1).bind fun r3=>(kp a.2.1).bind fun r4=>d (r3==r4) else d false else d false else d false else d false
def qv(a:bc)(b c:ag):Option Bool:=
 LK a b c (fun a0=>some a0)
def Li{R:Type}(a:av)(b c:ag)(d:ii->Int->Int->av->ag->ag->Option R):Option R:=
 d ([b,c]:List ag) ((List.length ([b,c]:List ag)):Int) 0 a b c
def Lj{R:Type}(a:ii)(b c:Int)(d:av)(e f:ag)(g:Int->Int->Int->av->ag->ag->Option R)(h:ii->Int->Int->av->ag->ag->Option R)(i:av->ag->ag->Option R):Option R:=
 bif c<b then za c (List.length a) ((jB (List.getD a c.toNat (0,0,[],()))).bind fun r1=>bif !decide (r1.1=0) then g 1 1 c d e f else h a b (zW zI (c+1)) d e f) else i d e f
def Lk{R:Type}(a b c:Int)(d:av)(e f:ag)(g:Int->Int->Int->Option R):Option R:=
 g a b c
def Ll{R:Type}(a:av)(b c:ag)(d:Int->Int->Int->Option R)(e:aw->Int->Int->av->ag->ag->dF->Option R):Option R:=
 bif 256<((List.length a.1):Int) then d 5 2 256 else e a.1 ((List.length a.1):Int) 0 a b c []
def Lm{R:Type}(a:aw)(b c:Int)(d:av)(e f:ag)(g:dF)(h:Int->Int->Int->av->ag->ag->Option R)(i:aw->Int->Int->av->ag->ag->dF->Option R)(j:av->ag->ag->Option R):Option R:=
 bif c<b then za c (List.length a) ((qv (List.getD a c.toNat (bs [],bs [],())) e f).bind fun r2=>bif !r2 then h (7:Int) (2:Int) c d e f else bif dT (fh .str) false g (List.getD a c.toNat (bs [],bs [],())).1 then h (10:Int) (2:Int) c d e f else bif dU (fh .str) g (List.getD a c.toNat (bs [],bs [],())).1 then none else i a b (zW zI (c+(1:Int))) d e f (g++ [((List.getD a c.toNat (bs [],bs [],())).1,true)])) else j d e f
def Ln{R:Type}(a b c:Int)(d:av)(e f:ag)(g:Int->Int->Int->Option R):Option R:=
 g a b c
def Lo{R:Type}(a:av)(b c:ag)(d:Int->Int->Int->Option R)(e:aR->Int->Int->ag->ag->aB->aB->Option R):Option R:=
 bif 256<((List.length a.2.1):Int) then d 5 3 256 else e a.2.1 ((List.length a.2.1):Int) 0 b c (0,0,()) (0,0,())
def Lp{R:Type}(a:aR)(b c:Int)(d e:ag)(f g:aB)(h:Int->Int->Int->Option R)(i:aR->Int->Int->ag->ag->aB->aB->Option R)(j:Option R):Option R:=
 bif c<b then za c (List.length a) ((p8 (List.getD a c.toNat (0,0,0,bs [],[],())) d e).bind fun r3=>bif !decide (r3=0) then h r3 3 c else(s9 ([(List.getD a c.toNat (0,0,0,bs [],[],())).2.1]:List Int)).bind fun r4=>(s9 ([(List.getD a c.toNat (0,0,0,bs [],[],())).2.2.1]:List Int)).bind fun r5=>(tc f r4).bind fun r6=>bif !(decide (r6.1=0)&&(decide (r6.2.1=0)&&true)) then h 10 3 c else(tc g r5).bind fun r7=>bif !(decide (r7.1=0)&&(decide (r7.2.1=0)&&true)) then h 10 3 c else(te f r4).bind fun r8=>(te g r5).bind fun r9=>i a b (zW zI (c+1)) d e r8 r9) else j
def Lq{R:Type}(a b c:Int)(d:Int->Int->Int->Option R):Option R:=
 d a b c
def Lr{R:Type}(a:Int->Int->Int->Option R):Option R:=
 a 0 0 0
def yZ:Nat->ii->Int->Int->av->ag->ag->Option (Sum jI jH)
 |0,_,_,_,_,_,_=>none
 |k+1,v0,v1,v2,v3,v4,v5=>Lj v0 v1 v2 v3 v4 v5 (fun a0 a1 a2 a3 a4 a5=>some (.inl (a0,a1,a2,a3,a4,a5))) (fun a0 a1 a2 a3 a4 a5=>yZ k a0 a1 a2 a3 a4 a5) (fun a0 a1 a2=>some (.inr (a0,a1,a2)))
def zA:Nat->aw->Int->Int->av->ag->ag->dF->Option (Sum jI jH)
 |0,_,_,_,_,_,_,_=>none
 |k+1,v0,v1,v2,v3,v4,v5,v6=>Lm v0 v1 v2 v3 v4 v5 v6 (fun a0 a1 a2 a3 a4 a5=>some (.inl (a0,a1,a2,a3,a4,a5))) (fun a0 a1 a2 a3 a4 a5 a6=>zA k a0 a1 a2 a3 a4 a5 a6) (fun a0 a1 a2=>some (.inr (a0,a1,a2)))
def zB:Nat->aR->Int->Int->ag->ag->aB->aB->Option (Sum ig Unit)
 |0,_,_,_,_,_,_,_=>none
 |k+1,v0,v1,v2,v3,v4,v5,v6=>Lp v0 v1 v2 v3 v4 v5 v6 (fun a0 a1 a2=>some (.inl (a0,a1,a2))) (fun a0 a1 a2 a3 a4 a5 a6=>zB k a0 a1 a2 a3 a4 a5 a6) (some (.inr ()))
def kC(a:av)(b c:ag):Option ig:=
 Li a b c (fun a0 a1 a2 a3 a4 a5=>(yZ aq a0 a1 a2 a3 a4 a5).bind fun e=>Sum.elim (fun(we:jI)=>Lk we.1 we.2.1 we.2.2.1 we.2.2.2.1 we.2.2.2.2.1 we.2.2.2.2.2 (fun a0 a1 a2=>some (a0,a1,a2))) (fun(we:jH)=>Ll we.1 we.2.1 we.2.2 (fun a0 a1 a2=>some (a0,a1,a2)) (fun a0 a1 a2 a3 a4 a5 a6=>(zA aq a0 a1 a2 a3 a4 a5 a6).bind fun e=>Sum.elim (fun(we:jI)=>Ln we.1 we.2.1 we.2.2.1 we.2.2.2.1 we.2.2.2.2.1 we.2.2.2.2.2 (fun a0 a1 a2=>some (a0,a1,a2))) (fun(we:jH)=>Lo we.1 we.2.1 we.2.2 (fun a0 a1 a2=>some (a0,a1,a2)) (fun a0 a1 a2 a3 a4 a5 a6=>(zB aq a0 a1 a2 a3 a4 a5 a6).bind fun e=>Sum.elim (fun(we:ig)=>Lq we.1 we.2.1 we.2.2 (fun a0 a1 a2=>some (a0,a1,a2))) (fun(we:Unit)=>Lr (fun a0 a1 a2=>some (a0,a1,a2))) e)) e)) e)
def LG{R:Type}(a:av)(b:ByteArray)(c:ByteArray->aw->Int->Int->Option R):Option R:=
 c b a.1 ((List.length a.1):Int) 0
def LH{R:Type}(a:ByteArray)(b:aw)(c d:Int)(e:ByteArray->Bool->Option R)(f:ByteArray->aw->Int->Int->Option R)(g:Option R):Option R:=
 bif d<c then za d (List.length b) (bif(List.getD b d.toNat (bs [],bs [],())).1=a then e (List.getD b d.toNat (bs [],bs [],())).2.1 true else f a b c (zW zI (d+1))) else g
def LI{R:Type}(a:ByteArray)(b:Bool)(c:ByteArray->Bool->Option R):Option R:=
 c a b
def LJ{R:Type}(a:ByteArray->Bool->Option R):Option R:=
 a (bs []) false
def zN:Nat->ByteArray->aw->Int->Int->Option (Sum gl Unit)
 |0,_,_,_,_=>none
 |k+1,v0,v1,v2,v3=>LH v0 v1 v2 v3 (fun a0 a1=>some (.inl (a0,a1))) (fun a0 a1 a2 a3=>zN k a0 a1 a2 a3) (some (.inr ()))
def qu(a:av)(b:ByteArray):Option gl:=
 LG a b (fun a0 a1 a2 a3=>(zN aq a0 a1 a2 a3).bind fun e=>Sum.elim (fun(we:gl)=>LI we.1 we.2 (fun a0 a1=>some (a0,a1))) (fun(we:Unit)=>LJ (fun a0 a1=>some (a0,a1))) e)
def LA{R:Type}(a:av)(b:Int)(c:Int->aR->Int->Int->aM->Option R):Option R:=
 c b a.2.1 ((List.length a.2.1):Int) 0 (0,0,0,bs [],[],())
def LB{R:Type}(a:Int)(b:aR)(c d:Int)(e:aM)(f:Bool->aM->Option R)(g:Int->aR->Int->Int->aM->Option R)(h:aM->Option R):Option R:=
 bif d<c then za d (List.length b) (bif(List.getD b d.toNat (0,0,0,bs [],[],())).2.1=a then f true (List.getD b d.toNat (0,0,0,bs [],[],())) else g a b c (zW zI (d+1)) e) else h e
def LC{R:Type}(a:Bool)(b:aM)(c:aM->Bool->Option R):Option R:=
 c b a
def LD{R:Type}(a:aM)(b:aM->Bool->Option R):Option R:=
 b (0,0,0,bs [],[],()) false
def zL:Nat->Int->aR->Int->Int->aM->Option (Sum (Bool×aM) aM)
 |0,_,_,_,_,_=>none
 |k+1,v0,v1,v2,v3,v4=>LB v0 v1 v2 v3 v4 (fun a0 a1=>some (.inl (a0,a1))) (fun a0 a1 a2 a3 a4=>zL k a0 a1 a2 a3 a4) (fun a0=>some (.inr a0))
def qt(a:av)(b:Int):Option (aM×Bool):=
 LA a b (fun a0 a1 a2 a3 a4=>(zL aq a0 a1 a2 a3 a4).bind fun e=>Sum.elim (fun(we:(Bool×aM))=>LC we.1 we.2 (fun a0 a1=>some (a0,a1))) (fun(we:aM)=>LD we (fun a0 a1=>some (a0,a1))) e)
def Lt{R:Type}(a:av)(b c:ag)(d:ai)(e:ai->aB->Option R)(f:aR->Int->Int->av->ag->ai->ai->aB->ai->Option R):Option R:=
 (kC a b c).bind fun r1=>bif !decide (r1.1=0) then e (bs [],[],()) (1,(-1:Int),()) else(mz b d).bind fun r2=>bif !decide (r2.1=0) then e (bs [],[],()) r2 else(qu a d.1).bind fun r3=>bif !r3.2 then e (bs [],[],()) (7,0,()) else f a.2.1 ((List.length a.2.1):Int) 0 a c d (bs [],[],()) (0,0,()) (r3.1,[],())
def Lu{R:Type}(a:aR)(b c:Int)(d:av)(e:ag)(f g:ai)(h:aB)(i:ai)(j:aR->Int->Int->av->ag->ai->ai->aB->ai->Option R)(l:av->ag->ai->ai->aB->ai->Option R):Option R:=
 bif c<b then za c (List.length a) (bif(List.getD a c.toNat (0,0,0,bs [],[],())).1=3 then(jy i (List.getD a c.toNat (0,0,0,bs [],[],())).2.2.1 (List.getD a c.toNat (0,0,0,bs [],[],())).2.2.2.1).bind fun r4=>j a b (zW zI (c+1)) d e f g h r4 else j a b (zW zI (c+1)) d e f g h i) else l d e f g h i
def Lv{R:Type}(a:av)(b:ag)(c d:ai)(e:aB)(f:ai)(g:al->Int->Int->av->ag->ai->aB->ai->Option R):Option R:=
 g c.2.1 ((List.length c.2.1):Int) 0 a b d e f
def Lw{R:Type}(a:al)(b c:Int)(d:av)(e:ag)(f:ai)(g:aB)(h:ai)(i:ai->aB->ai->Option R)(j:al->Int->Int->av->ag->ai->aB->ai->Option R)(l:ai->aB->ai->Option R):Option R:=
 bif c<b then za c (List.length a) ((qt d (List.getD a c.toNat (0,bs [],())).1).bind fun r5=>bif !r5.2 then i (bs [],[],()) (9,(List.getD a c.toNat (0,bs [],())).1,()) h else(p7 r5.1 e (List.getD a c.toNat (0,bs [],())).2.1).bind fun r6=>bif !decide (r6.2=0) then i (bs [],[],()) (r6.2,(List.getD a c.toNat (0,bs [],())).1,()) h else bif !decide (r6.1.1=0) then(jy h r6.1.1 r6.1.2.1).bind fun r7=>j a b (zW zI (c+1)) d e f g r7 else j a b (zW zI (c+1)) d e f g h) else l f g h
def Lx{R:Type}(a:ai)(b:aB)(c:ai)(d:ai->aB->Option R):Option R:=
 d a b
def Ly{R:Type}(a:ai)(b:aB)(c:ai)(d:ai->aB->Option R):Option R:=
 d c (0,0,())
def zH:Nat->aR->Int->Int->av->ag->ai->ai->aB->ai->Option (av×ag×ai×ai×aB×ai)
 |0,_,_,_,_,_,_,_,_,_=>none
 |k+1,v0,v1,v2,v3,v4,v5,v6,v7,v8=>Lu v0 v1 v2 v3 v4 v5 v6 v7 v8 (fun a0 a1 a2 a3 a4 a5 a6 a7 a8=>zH k a0 a1 a2 a3 a4 a5 a6 a7 a8) (fun a0 a1 a2 a3 a4 a5=>some (a0,a1,a2,a3,a4,a5))
def zJ:Nat->al->Int->Int->av->ag->ai->aB->ai->Option (Sum jF jF)
 |0,_,_,_,_,_,_,_,_=>none
 |k+1,v0,v1,v2,v3,v4,v5,v6,v7=>Lw v0 v1 v2 v3 v4 v5 v6 v7 (fun a0 a1 a2=>some (.inl (a0,a1,a2))) (fun a0 a1 a2 a3 a4 a5 a6 a7=>zJ k a0 a1 a2 a3 a4 a5 a6 a7) (fun a0 a1 a2=>some (.inr (a0,a1,a2)))
def qs(a:av)(b c:ag)(d:ai):Option (ai×aB):=
 Lt a b c d (fun a0 a1=>some (a0,a1)) (fun a0 a1 a2 a3 a4 a5 a6 a7 a8=>(zH aq a0 a1 a2 a3 a4 a5 a6 a7 a8).bind fun e=>Lv e.1 e.2.1 e.2.2.1 e.2.2.2.1 e.2.2.2.2.1 e.2.2.2.2.2 (fun a0 a1 a2 a3 a4 a5 a6 a7=>(zJ aq a0 a1 a2 a3 a4 a5 a6 a7).bind fun e=>Sum.elim (fun(we:jF)=>Lx we.1 we.2.1 we.2.2 (fun a0 a1=>some (a0,a1))) (fun(we:jF)=>Ly we.1 we.2.1 we.2.2 (fun a0 a1=>some (a0,a1))) e))
def IZ{R:Type}(a:aM)(b c:ag)(d:Bool->Option R):Option R:=
 (er b a.2.1).bind fun r1=>(er c a.2.2.1).bind fun r2=>bif a.1=1 then(gx r1.1 r2.1).bind fun r3=>bif r3 then(gx r2.1 r1.1).bind fun r4=>d r4 else d false else bif a.1=4 then d (decide (r1.1.2.2.2.1<=r2.1.2.2.2.1)) else bif a.1=5 then(wK a.2.2.2.2.1).bind fun r5=>d r5 else d false
def pP(a:aM)(b c:ag):Option Bool:=
 IZ a b c (fun a0=>some a0)
def IP{R:Type}(a:av)(b c:ag)(d:Bool->Option R)(e:aR->Int->Int->ag->ag->Option R):Option R:=
 (kC a b c).bind fun r1=>bif !decide (r1.1=0) then d false else(wK a.1).bind fun r2=>bif !r2 then d false else e a.2.1 ((List.length a.2.1):Int) 0 b c
def IQ{R:Type}(a:aR)(b c:Int)(d e:ag)(f:Bool->Option R)(g:aR->Int->Int->ag->ag->Option R)(h:Option R):Option R:=
 bif c<b then za c (List.length a) ((pP (List.getD a c.toNat (0,0,0,bs [],[],())) d e).bind fun r3=>bif !r3 then f false else g a b (zW zI (c+1)) d e) else h
def IU{R:Type}(a:Bool)(b:Bool->Option R):Option R:=
 b a
def IV{R:Type}(a:Bool->Option R):Option R:=
 a true
def x6:Nat->aR->Int->Int->ag->ag->Option (Sum Bool Unit)
 |0,_,_,_,_,_=>none
 |k+1,v0,v1,v2,v3,v4=>IQ v0 v1 v2 v3 v4 (fun a0=>some (.inl a0)) (fun a0 a1 a2 a3 a4=>x6 k a0 a1 a2 a3 a4) (some (.inr ()))
def mw(a:av)(b c:ag):Option Bool:=
 IP a b c (fun a0=>some a0) (fun a0 a1 a2 a3 a4=>(x6 aq a0 a1 a2 a3 a4).bind fun e=>Sum.elim (fun(we:Bool)=>IU we (fun a0=>some a0)) (fun(we:Unit)=>IV (fun a0=>some a0)) e)
def IW{R:Type}(a:av)(b:aR->Int->Int->av->av->Option R):Option R:=
 (sX a.1).bind fun r1=>b a.2.1 ((List.length a.2.1):Int) 0 ([],[],()) (r1,[],())
def IX{R:Type}(a:aR)(b c:Int)(d e:av)(f:aR->Int->Int->av->av->Option R)(g:av->av->Option R):Option R:=
 bif c<b then za c (List.length a) ((sX (List.getD a c.toNat (0,0,0,bs [],[],())).2.2.2.2.1).bind fun r2=>bif(List.length e.2.1+List.length ([((List.getD a c.toNat ((0:Int),(0:Int),(0:Int),bs [],([]:List bc),())).1,(List.getD a c.toNat ((0:Int),(0:Int),(0:Int),bs [],([]:List bc),())).2.2.1,(List.getD a c.toNat ((0:Int),(0:Int),(0:Int),bs [],([]:List bc),())).2.1,(List.getD a c.toNat ((0:Int),(0:Int),(0:Int),bs [],([]:List bc),())).2.2.2.1,r2,())]:List aM))*64<=140737488355328 then f a b (zW zI (c+1)) d (e.1,e.2.1++([((List.getD a c.toNat (0,0,0,bs [],[],())).1,(List.getD a c.toNat (0,0,0,bs [],[],())).2.2.1,(List.getD a c.toNat (0,0,0,bs [],[],())).2.1,(List.getD a c.toNat (0,0,0,bs [],[],())).2.2.2.1,r2,())]:List aM),()) else none) else g d e
def IY{R:Type}(a b:av)(c:av->Option R):Option R:=
 c b
def z91:Nat->aR->Int->Int->av->av->Option (av×av)
 |0,_,_,_,_,_=>none
 |k+1,v0,v1,v2,v3,v4=>IX v0 v1 v2 v3 v4 (fun a0 a1 a2 a3 a4=>z91 k a0 a1 a2 a3 a4) (fun a0 a1=>some (a0,a1))
def my(a:av):Option av:=
 IW a (fun a0 a1 a2 a3 a4=>(z91 aq a0 a1 a2 a3 a4).bind fun e=>IY e.1 e.2 (fun a0=>some a0))
def KH{R:Type}(a:(List Int))(b:Int)(c:(List Int)->Int->Int->Int->Option R):Option R:=
 c a b ((List.length a):Int) 0
def KI{R:Type}(a:(List Int))(b c d:Int)(e:Int->Option R)(f:(List Int)->Int->Int->Int->Option R)(g:Option R):Option R:=
 bif d<c then za d (List.length a) (bif b=List.getD a d.toNat 0 then e d else f a b c (zW zI (d+1))) else g
def KJ{R:Type}(a:Int)(b:Int->Option R):Option R:=
 b a
def KK{R:Type}(a:Int->Option R):Option R:=
 a (-1:Int)
def yK:Nat->(List Int)->Int->Int->Int->Option (Sum Int Unit)
 |0,_,_,_,_=>none
 |k+1,v0,v1,v2,v3=>KI v0 v1 v2 v3 (fun a0=>some (.inl a0)) (fun a0 a1 a2 a3=>yK k a0 a1 a2 a3) (some (.inr ()))
def qf(a:(List Int))(b:Int):Option Int:=
 KH a b (fun a0 a1 a2 a3=>(yK aq a0 a1 a2 a3).bind fun e=>Sum.elim (fun(we:Int)=>KJ we (fun a0=>some a0)) (fun(we:Unit)=>KK (fun a0=>some a0)) e)
def Ku{R:Type}(a:(List Int))(b:Int)(c:Bool->Option R):Option R:=
 (qf a b).bind fun r1=>c (decide (0<=r1))
def qb(a:(List Int))(b:Int):Option Bool:=
 Ku a b (fun a0=>some a0)
def JS{R:Type}(a:ap)(b:Int)(c:Int->Option R):Option R:=
 za b (List.length a.2.2.1) ((er a.1 (List.getD a.2.2.1 b.toNat (0:Int))).bind fun r1=>bif !r1.2 then c 9 else bif List.getD a.2.2.1 b.toNat 0=39 then c 1 else bif 0<=b then bif b<=(((List.length a.2.2.1):Nat):Int) then(qb (List.drop 0 (List.take b.toNat a.2.2.1)) (List.getD a.2.2.1 b.toNat (0:Int))).bind fun r2=>bif r2 then c 10 else c 0 else none else none)
def p6(a:ap)(b:Int):Option Int:=
 JS a b (fun a0=>some a0)
def JR{R:Type}(a b:bM)(c:Bool->bM->Option R):Option R:=
 c (decide (a.1=b.1)) b
def p5(a b:bM):Option (Bool×bM):=
 JR a b (fun a0 a1=>some (a0,a1))
def Kw{R:Type}(a:al)(b:bM)(c:al->Int->Int->bM->Option R):Option R:=
 c a ((List.length a):Int) 0 b
def Kx{R:Type}(a:al)(b c:Int)(d:bM)(e:Int->bM->Option R)(f:al->Int->Int->bM->Option R)(g:bM->Option R):Option R:=
 bif c<b then za c (List.length a) ((p5 (List.getD a c.toNat (0,bs [],())) d).bind fun r1=>bif r1.1 then e c r1.2 else f a b (zW zI (c+1)) r1.2) else g d
def Ky{R:Type}(a:Int)(b:bM)(c:Int->bM->Option R):Option R:=
 c a b
def Kz{R:Type}(a:bM)(b:Int->bM->Option R):Option R:=
 b (-1:Int) a
def yG:Nat->al->Int->Int->bM->Option (Sum (Int×bM) bM)
 |0,_,_,_,_=>none
 |k+1,v0,v1,v2,v3=>Kx v0 v1 v2 v3 (fun a0 a1=>some (.inl (a0,a1))) (fun a0 a1 a2 a3=>yG k a0 a1 a2 a3) (fun a0=>some (.inr a0))
def qc(a:al)(b:bM):Option (Int×bM):=
 Kw a b (fun a0 a1 a2 a3=>(yG aq a0 a1 a2 a3).bind fun e=>Sum.elim (fun(we:(Int×bM))=>Ky we.1 we.2 (fun a0 a1=>some (a0,a1))) (fun(we:bM)=>Kz we (fun a0 a1=>some (a0,a1))) e)
def Kt{R:Type}(a:al)(b:bM)(c:Bool->bM->Option R):Option R:=
 (qc a b).bind fun r1=>c (decide (0<=r1.1)) r1.2
def qa(a:al)(b:bM):Option (Bool×bM):=
 Kt a b (fun a0 a1=>some (a0,a1))
def JQ{R:Type}(a:ap)(b:Int)(c:aA)(d:Int->Option R):Option R:=
 za b (List.length a.2.2.2.1) (bif(List.getD a.2.2.2.1 b.toNat (0,bs [],())).1<0 then d 1 else bif 16<(List.getD a.2.2.2.1 b.toNat (0,bs [],())).1 then d 1 else bif 0<=b then bif b<=(((List.length a.2.2.2.1):Nat):Int) then(qa (List.drop 0 (List.take b.toNat a.2.2.2.1)) (List.getD a.2.2.2.1 b.toNat (0,bs [],()))).bind fun r1=>bif r1.1 then d 10 else(bU c r1.2.2.1).bind fun r2=>d r2 else none else none)
def p4(a:ap)(b:Int)(c:aA):Option Int:=
 JQ a b c (fun a0=>some a0)
def JA{R:Type}(a:ap)(b:Int->Int->Int->Option R)(c:Int->Int->ap->aA->Option R):Option R:=
 (jB a.1).bind fun r1=>bif !decide (r1.1=0) then b 1 1 0 else(er a.1 (39:Int)).bind fun r2=>bif !r2.2 then b 9 1 1 else c ((List.length a.2.2.1):Int) 0 a r2.1
def JB{R:Type}(a b:Int)(c:ap)(d:aA)(e:Int->Int->Int->ap->aA->Option R)(f:Int->Int->ap->aA->Option R)(g:ap->aA->Option R):Option R:=
 bif b<a then(p6 c b).bind fun r3=>bif !decide (r3=0) then e r3 2 b c d else f a (zW zI (b+1)) c d else g c d
def JC{R:Type}(a b c:Int)(d:ap)(e:aA)(f:Int->Int->Int->Option R):Option R:=
 f a b c
def JD{R:Type}(a:ap)(b:aA)(c:Bool->al->Int->Int->ap->aA->Option R):Option R:=
 c false a.2.2.2.1 ((List.length a.2.2.2.1):Int) 0 a b
def JE{R:Type}(a:Bool)(b:al)(c d:Int)(e:ap)(f:aA)(g:Int->Int->Int->Bool->ap->Option R)(h:Bool->al->Int->Int->ap->aA->Option R)(i:Bool->ap->Option R):Option R:=
 bif d<c then za d (List.length b) ((p4 e d f).bind fun r4=>bif !decide (r4=0) then g r4 3 d a e else bif a then h true b c (zW zI (d+1)) e f else h (decide ((List.getD b d.toNat (0,bs [],())).1=0)) b c (zW zI (d+1)) e f) else i a e
def JF{R:Type}(a b c:Int)(d:Bool)(e:ap)(f:Int->Int->Int->Option R):Option R:=
 f a b c
def JG{R:Type}(a:Bool)(b:ap)(c:Int->Int->Int->Option R):Option R:=
 bif !a then c 15 3 ((List.length b.2.2.2.1):Int) else c 0 0 0
def yl:Nat->Int->Int->ap->aA->Option (Sum (Int×Int×Int×ap×aA) (ap×aA))
 |0,_,_,_,_=>none
 |k+1,v0,v1,v2,v3=>JB v0 v1 v2 v3 (fun a0 a1 a2 a3 a4=>some (.inl (a0,a1,a2,a3,a4))) (fun a0 a1 a2 a3=>yl k a0 a1 a2 a3) (fun a0 a1=>some (.inr (a0,a1)))
def ym:Nat->Bool->al->Int->Int->ap->aA->Option (Sum (Int×Int×Int×Bool×ap) (Bool×ap))
 |0,_,_,_,_,_,_=>none
 |k+1,v0,v1,v2,v3,v4,v5=>JE v0 v1 v2 v3 v4 v5 (fun a0 a1 a2 a3 a4=>some (.inl (a0,a1,a2,a3,a4))) (fun a0 a1 a2 a3 a4 a5=>ym k a0 a1 a2 a3 a4 a5) (fun a0 a1=>some (.inr (a0,a1)))
def pZ(a:ap):Option ig:=
 JA a (fun a0 a1 a2=>some (a0,a1,a2)) (fun a0 a1 a2 a3=>(yl aq a0 a1 a2 a3).bind fun e=>Sum.elim (fun(we:(Int×Int×Int×ap×aA))=>JC we.1 we.2.1 we.2.2.1 we.2.2.2.1 we.2.2.2.2 (fun a0 a1 a2=>some (a0,a1,a2))) (fun(we:(ap×aA))=>JD we.1 we.2 (fun a0 a1 a2 a3 a4 a5=>(ym aq a0 a1 a2 a3 a4 a5).bind fun e=>Sum.elim (fun(we:(Int×Int×Int×Bool×ap))=>JF we.1 we.2.1 we.2.2.1 we.2.2.2.1 we.2.2.2.2 (fun a0 a1 a2=>some (a0,a1,a2))) (fun(we:(Bool×ap))=>JG we.1 we.2 (fun a0 a1 a2=>some (a0,a1,a2))) e)) e)
def JJ{R:Type}(a:ap)(b:Int)(c:(List Int)->Int->Int->ap->Option R):Option R:=
 c ([b,0]:List Int) ((List.length ([b,(0:Int)]:List Int)):Int) 0 a
def JK{R:Type}(a:(List Int))(b c:Int)(d:ap)(e:Int->(List Int)->Int->Int->al->Int->Int->ap->Option R)(f:Option R):Option R:=
 bif c<b then za c (List.length a) (e (List.getD a c.toNat 0) a b c d.2.2.2.1 ((List.length d.2.2.2.1):Int) 0 d) else f
def JL{R:Type}(a:ByteArray->Option R):Option R:=
 a (bs [])
def JM{R:Type}(a:Int)(b:(List Int))(c d:Int)(e:al)(f g:Int)(h:ap)(i:ByteArray->(List Int)->Int->Int->ap->Option R)(j:Int->(List Int)->Int->Int->al->Int->Int->ap->Option R)(l:(List Int)->Int->Int->ap->Option R):Option R:=
 bif g<f then za g (List.length e) (bif(List.getD e g.toNat (0,bs [],())).1=a then i (List.getD e g.toNat (0,bs [],())).2.1 b c d h else j a b c d e f (zW zI (g+1)) h) else l b c d h
def JN{R:Type}(a:ByteArray)(b:(List Int))(c d:Int)(e:ap)(f:ByteArray->Option R):Option R:=
 f a
def JO{R:Type}(a:(List Int))(b c:Int)(d:ap)(e:(List Int)->Int->Int->ap->Option R):Option R:=
 e a b (zW zI (c+1)) d
def JP{R:Type}(a:ByteArray)(b:ByteArray->Option R):Option R:=
 b a
def yr:Nat->Int->(List Int)->Int->Int->al->Int->Int->ap->Option (Sum (ByteArray×(List Int)×Int×Int×ap) ((List Int)×Int×Int×ap))
 |0,_,_,_,_,_,_,_,_=>none
 |k+1,v0,v1,v2,v3,v4,v5,v6,v7=>JM v0 v1 v2 v3 v4 v5 v6 v7 (fun a0 a1 a2 a3 a4=>some (.inl (a0,a1,a2,a3,a4))) (fun a0 a1 a2 a3 a4 a5 a6 a7=>yr k a0 a1 a2 a3 a4 a5 a6 a7) (fun a0 a1 a2 a3=>some (.inr (a0,a1,a2,a3)))
def yq:Nat->(List Int)->Int->Int->ap->Option (Sum Unit ByteArray)
 |0,_,_,_,_=>none
 |k+1,v0,v1,v2,v3=>JK v0 v1 v2 v3 (fun a0 a1 a2 a3 a4 a5 a6 a7=>(yr aq a0 a1 a2 a3 a4 a5 a6 a7).bind fun e=>Sum.elim (fun(we:(ByteArray×(List Int)×Int×Int×ap))=>JN we.1 we.2.1 we.2.2.1 we.2.2.2.1 we.2.2.2.2 (fun a0=>some (.inr a0))) (fun(we:((List Int)×Int×Int×ap))=>JO we.1 we.2.1 we.2.2.1 we.2.2.2 (fun a0 a1 a2 a3=>yq k a0 a1 a2 a3)) e) (some (.inl ()))
def p3(a:ap)(b:Int):Option ByteArray:=
 JJ a b (fun a0 a1 a2 a3=>(yq aq a0 a1 a2 a3).bind fun e=>Sum.elim (fun(we:Unit)=>JL (fun a0=>some a0)) (fun(we:ByteArray)=>JP we (fun a0=>some a0)) e)
def Jv{R:Type}(a:ap)(b:ai)(c:aB)(d:ai->Bool->Option R)(e:(List Int)->Int->Int->ap->ai->aB->ai->ai->Option R):Option R:=
 (pV b.1).bind fun r1=>bif !r1.2 then d (bs [],[],()) false else e a.2.2.1 ((List.length a.2.2.1):Int) 0 a b c (bs [],[],()) (r1.1,[],())
def Jw{R:Type}(a:(List Int))(b c:Int)(d:ap)(e:ai)(f:aB)(g h:ai)(i:(List Int)->Int->Int->ap->ai->aB->ai->ai->Option R)(j:ap->aB->ai->ai->Option R):Option R:=
 bif c<b then za c (List.length a) ((pR e (List.getD a c.toNat (0:Int))).bind fun r2=>bif r2.2 then(jy h (List.getD a c.toNat 0) r2.1).bind fun r3=>i a b (zW zI (c+1)) d e f g r3 else i a b (zW zI (c+1)) d e f g h) else j d f g h
def Jx{R:Type}(a:ap)(b:aB)(c d:ai)(e:ai->Bool->Option R):Option R:=
 (p3 a b.1).bind fun r4=>(jy d 39 r4).bind fun r5=>e r5 true
def yi:Nat->(List Int)->Int->Int->ap->ai->aB->ai->ai->Option (ap×aB×ai×ai)
 |0,_,_,_,_,_,_,_,_=>none
 |k+1,v0,v1,v2,v3,v4,v5,v6,v7=>Jw v0 v1 v2 v3 v4 v5 v6 v7 (fun a0 a1 a2 a3 a4 a5 a6 a7=>yi k a0 a1 a2 a3 a4 a5 a6 a7) (fun a0 a1 a2 a3=>some (a0,a1,a2,a3))
def pY(a:ap)(b:ai)(c:aB):Option (ai×Bool):=
 Jv a b c (fun a0 a1=>some (a0,a1)) (fun a0 a1 a2 a3 a4 a5 a6 a7=>(yi aq a0 a1 a2 a3 a4 a5 a6 a7).bind fun e=>Jx e.1 e.2.1 e.2.2.1 e.2.2.2 (fun a0 a1=>some (a0,a1)))
def KT{R:Type}(a:ag)(b:ByteArray)(c:ByteArray->Int->Int->Option R):Option R:=
 bif a.1=2 then(Q2 (4:Int)).bind fun r1=>bif(b.size:Int)<r1 then c (bs []) 0 2 else bif 0<=r1 then bif r1<=(b.size:Int) then bif a.1=2 then(Q0 (b.extract 0 r1.toNat) (4:Int)).bind fun r2=>(fQ r2.1).bind fun r3=>bif !r3.2 then c (bs []) 0 7 else bif !decide (r3.1=a.2.1) then c (bs []) 0 7 else c r2.1 r1 0 else(fQ (b.extract 0 r1.toNat)).bind fun r4=>bif !r4.2 then c (bs []) 0 7 else bif !decide (r4.1=a.2.1) then c (bs []) 0 7 else c (b.extract 0 r1.toNat) r1 0 else none else none else bif(b.size:Int)<4 then c (bs []) 0 2 else bif 4<=(b.size:Int) then bif a.1=2 then(Q0 (b.extract 0 ((4:Int)).toNat) (4:Int)).bind fun r5=>(fQ r5.1).bind fun r6=>bif !r6.2 then c (bs []) 0 7 else bif !decide (r6.1=a.2.1) then c (bs []) 0 7 else c r5.1 4 0 else(fQ (b.extract 0 ((4:Int)).toNat)).bind fun r7=>bif !r7.2 then c (bs []) 0 7 else bif !decide (r7.1=a.2.1) then c (bs []) 0 7 else c (b.extract 0 ((4:Int)).toNat) 4 0 else none
def qi(a:ag)(b:ByteArray):Option BD:=
 KT a b (fun a0 a1 a2=>some (a0,a1,a2))
def KP{R:Type}(a:ag)(b:ByteArray)(c:ai->aB->Option R)(d:ByteArray->Int->Int->ag->ai->aB->ai->aB->Option R):Option R:=
 (jB a).bind fun r1=>bif !decide (r1.1=0) then c (bs [],[],()) (1,(-1:Int),()) else(qi a b).bind fun r2=>bif !decide (r2.2.2=0) then c (bs [],[],()) (r2.2.2,0,()) else(Q5 a.1 b r2.2.1).bind fun r3=>bif !decide (r3.2.2=0) then c (r2.1,[],()) (r3.2.2,1,()) else(qw r3.1 (0:Int)).bind fun r4=>d b r3.2.1 r4 a (bs [],[],()) (0,0,()) (r2.1,[],()) r3.1
def KQ{R:Type}(a:ByteArray)(b c:Int)(d:ag)(e:ai)(f:aB)(g:ai)(h:aB)(i:ByteArray->Int->ai->aB->ai->Option R)(j:ByteArray->Int->Int->ag->ai->aB->ai->aB->Option R)(l:ByteArray->Int->ai->aB->ai->Option R):Option R:=
 bif !decide (c=0) then(er d c).bind fun r5=>bif !r5.2 then i a b g (9,c,()) g else(Be d.1 r5.1 a b).bind fun r6=>bif !decide (r6.2.2=0) then i a b g (r6.2.2,c,()) g else bif(List.length g.2.1+List.length ([(c,r6.1,())]:List bM))*24<=140737488355328 then(qw h c).bind fun r7=>j a r6.2.1 r7 d e f (g.1,g.2.1++([(c,r6.1,())]:List bM),()) h else none else l a b e f g
def KR{R:Type}(a:ByteArray)(b:Int)(c:ai)(d:aB)(e:ai)(f:ai->aB->Option R):Option R:=
 f c d
def KS{R:Type}(a:ByteArray)(b:Int)(c:ai)(d:aB)(e:ai)(f:ai->aB->Option R):Option R:=
 bif b<(a.size:Int) then f e (12,129,()) else f e (0,0,())
def yN:Nat->ByteArray->Int->Int->ag->ai->aB->ai->aB->Option (Sum jG jG)
 |0,_,_,_,_,_,_,_,_=>none
 |k+1,v0,v1,v2,v3,v4,v5,v6,v7=>KQ v0 v1 v2 v3 v4 v5 v6 v7 (fun a0 a1 a2 a3 a4=>some (.inl (a0,a1,a2,a3,a4))) (fun a0 a1 a2 a3 a4 a5 a6 a7=>yN k a0 a1 a2 a3 a4 a5 a6 a7) (fun a0 a1 a2 a3 a4=>some (.inr (a0,a1,a2,a3,a4)))
def qh(a:ag)(b:ByteArray):Option (ai×aB):=
 KP a b (fun a0 a1=>some (a0,a1)) (fun a0 a1 a2 a3 a4 a5 a6 a7=>(yN aq a0 a1 a2 a3 a4 a5 a6 a7).bind fun e=>Sum.elim (fun(we:jG)=>KR we.1 we.2.1 we.2.2.1 we.2.2.2.1 we.2.2.2.2 (fun a0 a1=>some (a0,a1))) (fun(we:jG)=>KS we.1 we.2.1 we.2.2.1 we.2.2.2.1 we.2.2.2.2 (fun a0 a1=>some (a0,a1))) e)
def Le{R:Type}(a:Int)(b:ByteArray)(c:ByteArray->Bool->Option R):Option R:=
 (kq b).bind fun r1=>bif !r1 then c (bs []) false else bif a=1 then c b true else bif a=2 then(Q1 b).bind fun r2=>c r2.1 r2.2 else c (bs []) false
def qq(a:Int)(b:ByteArray):Option gl:=
 Le a b (fun a0 a1=>some (a0,a1))
def Ld{R:Type}(a b:ByteArray)(c:ByteArray->Option R):Option R:=
 (Fy b a).bind fun r1=>c r1.2
def kB(a b:ByteArray):Option ByteArray:=
 Ld a b (fun a0=>some a0)
def La{R:Type}(a:ag)(b:ai)(c:ByteArray->aB->Option R)(d:al->Int->Int->ag->aB->ByteArray->Option R):Option R:=
 (mz a b).bind fun r1=>bif !decide (r1.1=0) then c (bs []) r1 else(qq a.1 b.1).bind fun r2=>(kB r2.1 (bs [])).bind fun r3=>(pS b).bind fun r4=>(Q6 a.1 r4).bind fun r5=>(kB r5.1 r3).bind fun r6=>d b.2.1 ((List.length b.2.1):Int) 0 a (0,0,()) r6
def Lb{R:Type}(a:al)(b c:Int)(d:ag)(e:aB)(f:ByteArray)(g:al->Int->Int->ag->aB->ByteArray->Option R)(h:aB->ByteArray->Option R):Option R:=
 bif c<b then za c (List.length a) ((er d (List.getD a c.toNat (0,bs [],())).1).bind fun r7=>(Bf d.1 r7.1 (List.getD a c.toNat (0,bs [],())).2.1).bind fun r8=>(kB r8.1 f).bind fun r9=>g a b (zW zI (c+1)) d e r9) else h e f
def Lc{R:Type}(a:aB)(b:ByteArray)(c:ByteArray->aB->Option R):Option R:=
 (N8 b).bind fun dW=>c dW.1 (0,0,())
def yV:Nat->al->Int->Int->ag->aB->ByteArray->Option (aB×ByteArray)
 |0,_,_,_,_,_,_=>none
 |k+1,v0,v1,v2,v3,v4,v5=>Lb v0 v1 v2 v3 v4 v5 (fun a0 a1 a2 a3 a4 a5=>yV k a0 a1 a2 a3 a4 a5) (fun a0 a1=>some (a0,a1))
def mH(a:ag)(b:ai):Option (ByteArray×aB):=
 La a b (fun a0 a1=>some (a0,a1)) (fun a0 a1 a2 a3 a4 a5=>(yV aq a0 a1 a2 a3 a4 a5).bind fun e=>Lc e.1 e.2 (fun a0 a1=>some (a0,a1)))
def JV{R:Type}(a:aD)(b:Int->Int->Int->Option R)(c:gB->Int->aD->Option R):Option R:=
 bif a.2.1<1 then b 5 2 0 else bif 65535<a.2.1 then b 5 2 0 else c a.1 0 a
def JW{R:Type}(a:gB)(b:Int)(c:aD)(d:Int->Int->Int->Option R)(e:gB->Int->aD->Option R)(f:Option R):Option R:=
 bif b<2 then za b 2 ((pZ (List.getD a b.toNat ((0,0,[],()),([],[],()),[],[],()))).bind fun r1=>bif !decide (r1.1=0) then d r1.1 b 1 else za (zW zI (1-b)) 2 ((kC (List.getD a b.toNat ((0,0,[],()),([],[],()),[],[],())).2.1 (List.getD a b.toNat ((0,0,[],()),([],[],()),[],[],())).1 (List.getD c.1 (zW zI (1-b)).toNat ((0,0,[],()),([],[],()),[],[],())).1).bind fun r2=>bif !decide (r2.1=0) then d r2.1 b 2 else e a (zW zI (b+1)) c)) else f
def JX{R:Type}(a b c:Int)(d:Int->Int->Int->Option R):Option R:=
 d a b c
def JY{R:Type}(a:Int->Int->Int->Option R):Option R:=
 a 0 0 0
def yu:Nat->gB->Int->aD->Option (Sum ig Unit)
 |0,_,_,_=>none
 |k+1,v0,v1,v2=>JW v0 v1 v2 (fun a0 a1 a2=>some (.inl (a0,a1,a2))) (fun a0 a1 a2=>yu k a0 a1 a2) (some (.inr ()))
def gv(a:aD):Option ig:=
 JV a (fun a0 a1 a2=>some (a0,a1,a2)) (fun a0 a1 a2=>(yu aq a0 a1 a2).bind fun e=>Sum.elim (fun(we:ig)=>JX we.1 we.2.1 we.2.2 (fun a0 a1 a2=>some (a0,a1,a2))) (fun(we:Unit)=>JY (fun a0 a1 a2=>some (a0,a1,a2))) e)
def J1{R:Type}(a:ai)(b:aB)(c:ap)(d:aD)(e:Int->ByteArray->Option R):Option R:=
 (pY c a b).bind fun r1=>bif !r1.2 then e 3 (bs []) else(mH c.1 r1.1).bind fun r2=>bif r2.1=bs [] then e 3 (bs []) else bif d.2.1<(r2.1.size:Int) then e 3 (bs []) else e 2 r2.1
def kv(a:ai)(b:aB)(c:ap)(d:aD):Option M8:=
 J1 a b c d (fun a0 a1=>some (a0,a1))
def J0{R:Type}(a:aD)(b:Int)(c:ByteArray)(d:Int->ByteArray->Option R):Option R:=
 (gv a).bind fun r1=>bif !decide (r1.1=0) then d 0 (bs []) else bif b<0 then d 0 (bs []) else bif 1<b then d 0 (bs []) else za b 2 (za (zW zI (1-b)) 2 ((qh (List.getD a.1 b.toNat ((0,0,[],()),([],[],()),[],[],())).1 c).bind fun r2=>bif !decide (r2.2.1=0) then(kv r2.1 r2.2 (List.getD a.1 b.toNat ((0,0,[],()),([],[],()),[],[],())) a).bind fun r3=>d r3.1 r3.2 else(qs (List.getD a.1 b.toNat ((0,0,[],()),([],[],()),[],[],())).2.1 (List.getD a.1 b.toNat ((0,0,[],()),([],[],()),[],[],())).1 (List.getD a.1 (zW zI (1-b)).toNat ((0,0,[],()),([],[],()),[],[],())).1 r2.1).bind fun r4=>bif !decide (r4.2.1=0) then(kv r2.1 r4.2 (List.getD a.1 b.toNat ((0,0,[],()),([],[],()),[],[],())) a).bind fun r5=>d r5.1 r5.2 else(mH (List.getD a.1 (zW zI (1-b)).toNat ((0,0,[],()),([],[],()),[],[],())).1 r4.1).bind fun r6=>bif a.2.1<(r6.1.size:Int) then(kv r2.1 (5,129,()) (List.getD a.1 b.toNat ((0,0,[],()),([],[],()),[],[],())) a).bind fun r7=>d r7.1 r7.2 else d 1 r6.1))
def ku(a:aD)(b:Int)(c:ByteArray):Option M8:=
 J0 a b c (fun a0 a1=>some (a0,a1))
def J9{R:Type}(a:aB)(b:aR->Int->aB->Option R):Option R:=
 (qw a (0:Int)).bind fun r1=>b [] r1 a
def Ka{R:Type}(a:aR)(b:Int)(c:aB)(d:aR->Int->aB->Option R)(e:aR->Option R):Option R:=
 bif !decide (b=0) then bif b=12 then bif(List.length a+List.length ([((4:Int),b,b,bs [],([]:List bc),())]:List aM))*64<=140737488355328 then(qw c b).bind fun r2=>d (a++([(4,b,b,bs [],[],())]:List aM)) r2 c else none else bif(List.length a+List.length ([((1:Int),b,b,bs [],([]:List bc),())]:List aM))*64<=140737488355328 then(qw c b).bind fun r3=>d (a++([(1,b,b,bs [],[],())]:List aM)) r3 c else none else e a
def Kb{R:Type}(a:aR)(b:aR->Option R):Option R:=
 b a
def yz:Nat->aR->Int->aB->Option aR
 |0,_,_,_=>none
 |k+1,v0,v1,v2=>Ka v0 v1 v2 (fun a0 a1 a2=>yz k a0 a1 a2) (fun a0=>some a0)
def kz(a:aB):Option aR:=
 J9 a (fun a0 a1 a2=>(yz aq a0 a1 a2).bind fun e=>Kb e (fun a0=>some a0))
def J8{R:Type}(a:aM->Option R):Option R:=
 a (5,22,22,bs [],([(bs [48,53,49],bs [53,49,48,49,48,49,53,49,49,51,52,52],()),(bs [48,50,49],bs [50,49,48,49,48,49,50,49,49,51,52,52],()),(bs [48,49,50],bs [49,48,48,49,52,48,49,48,48,49,49,48],())]:List bc),())
def mF:Option aM:=
 J8 (fun a0=>some a0)
def J3{R:Type}(a:aM->Option R):Option R:=
 a (5,39,39,bs [],([(bs [48,48],bs [48,48,48],()),(bs [48,53],bs [49,48,48],()),(bs [49,52],bs [49,49,49],()),(bs [53,49],bs [49,49,54],()),(bs [53,52],bs [49,48,49],()),(bs [57,49],bs [57,48,55],()),(bs [57,54],bs [57,48,57],())]:List bc),())
def mC:Option aM:=
 J3 (fun a0=>some a0)
def Kc{R:Type}(a:aw->Option R):Option R:=
 a ([(bs [48,49,48,48],bs [49,49,48,48],()),(bs [48,49,49,48],bs [49,49,49,48],()),(bs [48,50,48,48],bs [49,50,48,48],()),(bs [48,50,49,48],bs [49,50,49,48],()),(bs [48,50,50,48],bs [49,50,50,48],()),(bs [48,50,51,48],bs [49,50,51,48],()),(bs [48,52,48,48],bs [49,52,48,48],()),(bs [48,52,49,48],bs [49,52,49,48],()),(bs [48,52,50,48],bs [49,52,50,48],()),(bs [48,52,51,48],bs [49,52,51,48],()),(bs [48,56,48,48],bs [49,56,48,52],()),(bs [48,56,49,48],bs [49,56,49,52],())]:List bc)
def mG:Option aw:=
 Kc (fun a0=>some a0)
def J7{R:Type}(a:(List Int)->Option R):Option R:=
 a ([2,3,4,7,11,12,32,37,41,42,70]:List Int)
def mE:Option (List Int):=
 J7 (fun a0=>some a0)
def J4{R:Type}(a b c:ByteArray)(d:ByteArray->ByteArray->al->(List Int)->Int->Int->Option R):Option R:=
 d b c ([(0,a,())]:List bM) ([2,3,12,9]:List Int) ((List.length ([(2:Int),(3:Int),(12:Int),(9:Int)]:List Int)):Int) 0
def J5{R:Type}(a b:ByteArray)(c:al)(d:(List Int))(e f:Int)(g:ByteArray->ByteArray->al->(List Int)->Int->Int->Option R)(h:ByteArray->al->Option R):Option R:=
 bif f<e then za f (List.length d) (bif(List.length c+List.length ([(List.getD d f.toNat (0:Int),a,())]:List bM))*24<=140737488355328 then g a b (c++([(List.getD d f.toNat 0,a,())]:List bM)) d e (zW zI (f+1)) else none) else h b c
def J6{R:Type}(a:ByteArray)(b:al)(c:al->Option R):Option R:=
 bif(List.length b+List.length ([((15:Int),a,())]:List bM))*24<=140737488355328 then c (b++([(15,a,())]:List bM)) else none
def yx:Nat->ByteArray->ByteArray->al->(List Int)->Int->Int->Option (ByteArray×al)
 |0,_,_,_,_,_,_=>none
 |k+1,v0,v1,v2,v3,v4,v5=>J5 v0 v1 v2 v3 v4 v5 (fun a0 a1 a2 a3 a4 a5=>yx k a0 a1 a2 a3 a4 a5) (fun a0 a1=>some (a0,a1))
def mD(a b c:ByteArray):Option al:=
 J4 a b c (fun a0 a1 a2 a3 a4 a5=>(yx aq a0 a1 a2 a3 a4 a5).bind fun e=>J6 e.1 e.2 (fun a0=>some a0))
def JT{R:Type}(a:aD->Option R):Option R:=
 s4.bind fun r1=>(kz r1).bind fun r2=>mF.bind fun r3=>mC.bind fun r4=>bif(List.length r2+List.length ([((2:Int),(13:Int),(0:Int),bs [],([]:List bc),()),((2:Int),(18:Int),(0:Int),bs [],([]:List bc),()),((2:Int),(90:Int),(0:Int),bs [],([]:List bc),()),r3,r4,((1:Int),(43:Int),(43:Int),bs [],([]:List bc),()),((1:Int),(48:Int),(48:Int),bs [],([]:List bc),()),((3:Int),(0:Int),(26:Int),bs [53,57,57,57],([]:List bc),())]:List aM))*64<=140737488355328 then mG.bind fun r5=>mF.bind fun r6=>mC.bind fun r7=>(my (r5,([r6,r7]:List aM),())).bind fun r8=>s4.bind fun r9=>(kz r9).bind fun dW=>bif(List.length dW+List.length ([((2:Int),(26:Int),(0:Int),bs [],([]:List bc),()),((2:Int),(43:Int),(0:Int),bs [],([]:List bc),())]:List aM))*64<=140737488355328 then bif(List.length (dW++([((2:Int),(26:Int),(0:Int),bs [],([]:List bc),()),((2:Int),(43:Int),(0:Int),bs [],([]:List bc),())]:List aM))+List.length r8.2.1)*64<=140737488355328 then bif(List.length ((dW++([((2:Int),(26:Int),(0:Int),bs [],([]:List bc),()),((2:Int),(43:Int),(0:Int),bs [],([]:List bc),())]:List aM))++r8.2.1)+List.length ([((1:Int),(48:Int),(48:Int),bs [],([]:List bc),())]:List aM))*64<=140737488355328 then Bk.bind fun fJ=>mG.bind fun gV=>mE.bind fun gW=>(mD (bs [57,54]) (bs [51,48]) (bs [49,50])).bind fun ka=>Bl.bind fun jV=>mE.bind fun kb=>(mD (bs [57,48,57]) (bs [57,48,52]) (bs [57,48,50])).bind fun kc=>a (([(fJ,(gV,r2++([(2,13,0,bs [],[],()),(2,18,0,bs [],[],()),(2,90,0,bs [],[],()),r3,r4,(1,43,43,bs [],[],()),(1,48,48,bs [],[],()),(3,0,26,bs [53,57,57,57],[],())]:List aM),()),gW,ka,()),(jV,(r8.1,((dW++([(2,26,0,bs [],[],()),(2,43,0,bs [],[],())]:List aM))++r8.2.1)++([(1,48,48,bs [],[],())]:List aM),()),kb,kc,())]:List ap),4096,()) else none else none else none else none
def fS:Option aD:=
 JT (fun a0=>some a0)
def JZ{R:Type}(a:aD->Option R):Option R:=
 fS.bind fun r1=>s4.bind fun r2=>(kz r2).bind fun r3=>za 0 2 (za 0 2 ((my (List.getD (List.set r1.1 ((0:Int)).toNat ((List.getD r1.1 ((0:Int)).toNat ((0,0,[],()),([],[],()),[],[],())).1,((List.getD r1.1 ((0:Int)).toNat ((0,0,[],()),([],[],()),[],[],())).2.1.1,r3,()),(List.getD r1.1 ((0:Int)).toNat ((0,0,[],()),([],[],()),[],[],())).2.2.1,(List.getD r1.1 ((0:Int)).toNat ((0,0,[],()),([],[],()),[],[],())).2.2.2.1,())) ((0:Int)).toNat ((0,0,[],()),([],[],()),[],[],())).2.1).bind fun r4=>za 1 2 (a (List.set (List.set r1.1 ((0:Int)).toNat ((List.getD r1.1 ((0:Int)).toNat ((0,0,[],()),([],[],()),[],[],())).1,((List.getD r1.1 ((0:Int)).toNat ((0,0,[],()),([],[],()),[],[],())).2.1.1,r3,()),(List.getD r1.1 ((0:Int)).toNat ((0,0,[],()),([],[],()),[],[],())).2.2.1,(List.getD r1.1 ((0:Int)).toNat ((0,0,[],()),([],[],()),[],[],())).2.2.2.1,())) ((1:Int)).toNat ((List.getD (List.set r1.1 ((0:Int)).toNat ((List.getD r1.1 ((0:Int)).toNat ((0,0,[],()),([],[],()),[],[],())).1,((List.getD r1.1 ((0:Int)).toNat ((0,0,[],()),([],[],()),[],[],())).2.1.1,r3,()),(List.getD r1.1 ((0:Int)).toNat ((0,0,[],()),([],[],()),[],[],())).2.2.1,(List.getD r1.1 ((0:Int)).toNat ((0,0,[],()),([],[],()),[],[],())).2.2.2.1,())) ((1:Int)).toNat ((0,0,[],()),([],[],()),[],[],())).1,r4,(List.getD (List.set r1.1 ((0:Int)).toNat ((List.getD r1.1 ((0:Int)).toNat ((0,0,[],()),([],[],()),[],[],())).1,((List.getD r1.1 ((0:Int)).toNat ((0,0,[],()),([],[],()),[],[],())).2.1.1,r3,()),(List.getD r1.1 ((0:Int)).toNat ((0,0,[],()),([],[],()),[],[],())).2.2.1,(List.getD r1.1 ((0:Int)).toNat ((0,0,[],()),([],[],()),[],[],())).2.2.2.1,())) ((1:Int)).toNat ((0,0,[],()),([],[],()),[],[],())).2.2.1,(List.getD (List.set r1.1 ((0:Int)).toNat ((List.getD r1.1 ((0:Int)).toNat ((0,0,[],()),([],[],()),[],[],())).1,((List.getD r1.1 ((0:Int)).toNat ((0,0,[],()),([],[],()),[],[],())).2.1.1,r3,()),(List.getD r1.1 ((0:Int)).toNat ((0,0,[],()),([],[],()),[],[],())).2.2.1,(List.getD r1.1 ((0:Int)).toNat ((0,0,[],()),([],[],()),[],[],())).2.2.2.1,())) ((1:Int)).toNat ((0,0,[],()),([],[],()),[],[],())).2.2.2.1,()),r1.2.1,()))))
def kr:Option aD:=
 JZ (fun a0=>some a0)
def MO{R:Type}(a:Bool->Option R):Option R:=
 fO.bind fun r1=>(ku r1 0 (bs [48,56,48,48,48,48,50,48,48,48,48,48,48,48,48,48,48,48,48,48,48,48,48,48,48,49])).bind fun r2=>(ku r1 0 (bs [48,56,48,48,48,48,50,48,48,48,48,48,48,48,48,48,48,48,48,48,48,48,48,48,48])).bind fun r3=>(ku r1 0 (bs [48,56,49,48,120])).bind fun r4=>(gv r1).bind fun r5=>bif r2.1=1 then bif r2.2=bs [24,4,0,32,0,64,0,0,0,0,0,0,1,89,153] then bif r3.1=2 then bif r3.2=bs [48,56,49,48,48,48,48,48,48,48,48,48,48,50,48,48,48,48,48,48,51,48] then bif r4.1=3 then bif r4.2=bs [] then bif r5.1=0 then bif r5.2.1=0 then a (decide (r5.2.2=0)) else a false else a false else a false else a false else a false else a false else a false else a false
def wO:Option Bool:=
 MO (fun a0=>some a0)
def A6{R:Type}(a:Int)(b:aM)(c:Bool->Option R):Option R:=
 fS.bind fun r1=>kr.bind fun r2=>wO.bind fun r3=>bif !r3 then c false else fO.bind fun r4=>(fP r1 r4).bind fun r5=>bif !r5 then c false else mr.bind fun r6=>(fP r2 r6).bind fun r7=>bif !r7 then c false else(gv r1).bind fun r8=>(gv r2).bind fun r9=>za 0 2 (za 1 2 ((mw (List.getD r2.1 ((0:Int)).toNat ((0,0,[],()),([],[],()),[],[],())).2.1 (List.getD r2.1 ((0:Int)).toNat ((0,0,[],()),([],[],()),[],[],())).1 (List.getD r2.1 ((1:Int)).toNat ((0,0,[],()),([],[],()),[],[],())).1).bind fun dW=>bif 0<=a then za 0 2 (bif a<((List.length (List.getD r1.1 ((0:Int)).toNat (((0:Int),(0:Int),([]:List aA),()),(([]:List bc),([]:List aM),()),([]:List Int),([]:List bM),())).2.1.2.1):Int) then za 0 2 (za a (List.length (List.getD r1.1 ((0:Int)).toNat (((0:Int),(0:Int),([]:List aA),()),(([]:List bc),([]:List aM),()),([]:List Int),([]:List bM),())).2.1.2.1) (bif r8.1=0 then bif r9.1=0 then bif dW then fS.bind fun fJ=>fO.bind fun gV=>(fP fJ gV).bind fun gW=>c gW else c false else c false else c false)) else bif r8.1=0 then bif r9.1=0 then bif dW then fS.bind fun ka=>fO.bind fun jV=>(fP ka jV).bind fun kb=>c kb else c false else c false else c false) else bif r8.1=0 then bif r9.1=0 then bif dW then fS.bind fun kc=>fO.bind fun l5=>(fP kc l5).bind fun kd=>c kd else c false else c false else c false))
def tu(a:Int)(b:aM):Option Bool:=
 A6 a b (fun a0=>some a0)
end bW

namespace bW
open Go.IntKind renaming wrap->zW,i64->zI,u8->zU
theorem zT{p:Prop}[Decidable p](h:p):decide p=true:=_root_.decide_eq_true h
theorem zF{p:Prop}[Decidable p](h:¬p):decide p=false:=_root_.decide_eq_false h
theorem zC{α:Type}{a b:α}:(bif true then a else b)=a:=rfl
theorem zD{α:Type}{a b:α}:(bif false then a else b)=b:=rfl
open Go Go.Ref
theorem Fv{x:Int}(h1: -9223372036854775808<=x)(h2:x<=9223372036854775807):zW zI x=x:=QE h1 h2
theorem YQ{j:Nat}(h:j<9223372036854775807):zW zI ((j:Int)+1)=((j+1:Nat):Int):=by
 rw[QE (by omega) (by omega)];rfl
theorem Oe{R:Type}{j n:Nat}{x:Option R}(h:j<n):za (j:Int) n x=x:=Xp h
theorem z31{R:Type}{i:Int}{n:Nat}{x:Option R}(h0:0<=i)(h:i<n):za i n x=x:=by
 unfold za
 rw[zT h0,zT h];rfl
theorem DQ{R:Type}{p:Prop}[Decidable p](x y:R):(bif decide p then x else y)=if p then x else y:=by
 by_cases h:p<;>simp [h]
def bl(s:ByteArray):List Int:=s.data.toList.map fun b=>(b.toNat:Int)
section
variable {α σ ρ:Type}
end
end bW
namespace bW
open Go.IntKind renaming wrap->zW,i64->zI,u8->zU
open Go Go.Ref
section
variable {α σ ρ:Type}
end
end bW

namespace bW
open Go.IntKind renaming wrap->zW,i64->zI,u8->zU
open Go Go.Ref
def vD(b:Int):Bool:=decide (48<=b/\b<=57)
def BH(l:List Int):Bool:=l.all vD
section
variable {c0 c1 c2 c3 c4 c5 c6 c7:Nat}
end
end bW

namespace bW
open Go.IntKind renaming wrap->zW,i64->zI,u8->zU
open Go Go.Ref
abbrev Fr:=Int×Bool×List Int×Unit
section
variable {α:Type} [DecidableEq α]
end
end bW

namespace bW
open Go.IntKind renaming wrap->zW,i64->zI,u8->zU
open Go Go.Ref
abbrev Spec:=Int×Int×Int×Int×Int×Unit
abbrev gk:=Int×Int×List Spec×Unit
abbrev ph:Spec:=(0,0,0,0,0,())
theorem D4(c:Int):n9 c=some (if c=1 then 1 else if c=2 then 2 else if c=3 then 3 else if c=4 then 7 else if c=5 then 15 else if c=6 then 15 else 0):=by
 unfold n9 Aw
 simp only[DQ]
 repeat' split
 all_goals rfl
theorem Xt(c:Int):pO c=some (decide (1<=c/\c<=6)):=by
 unfold pO Ao
 rw[D4,zq]
 congr 1
 by_cases h1:c=1
 ·subst h1;rfl
 by_cases h2:c=2
 ·subst h2;rfl
 by_cases h3:c=3
 ·subst h3;rfl
 by_cases h4:c=4
 ·subst h4;rfl
 by_cases h5:c=5
 ·subst h5;rfl
 by_cases h6:c=6
 ·subst h6;rfl
 rw[if_neg h1,if_neg h2,if_neg h3,if_neg h4,if_neg h5,if_neg h6,zF (p:=1<=c/\c<=6) (by omega)]
 rfl
theorem sI:jz 2=some 99:=by kernel_rfl
theorem sJ:jz 3=some 999:=by kernel_rfl
def dO(s:Spec):Int:=
 if s.1<2\/128<s.1 then 1 else if s.2.1<1\/6<s.2.1 then 6 else if s.2.2.1<1\/3<s.2.2.1 then 3
 else if s.2.2.2.1<1\/s.2.2.2.2.1<s.2.2.2.1\/(s.2.2.1=2/\99<s.2.2.2.2.1)\/999<s.2.2.2.2.1\/(s.2.2.1=1/\¬s.2.2.2.1=s.2.2.2.2.1) then 5
 else if s.2.2.1=1/\s.2.1=6 then 13 else 0
theorem Uk(s:Spec):fT s=some (dO s):=by
 obtain⟨no,c,f,mn,mx,u⟩:=s
 unfold fT yL dO
 simp only[Xt,zq]
 by_cases h1:no<2\/128<no
 ·rw[if_pos h1]
  rcases h1 with h|h
  ·rw[zT h];rfl
  ·rw[zT h];cases decide (no<2)<;>rfl
 rw[if_neg h1,zF (by omega),zF (by omega)]
 by_cases h2:c<1\/6<c
 ·rw[if_pos h2,zF (p:=1<=c/\c<=6) (by omega)];rfl
 rw[if_neg h2,zT (p:=1<=c/\c<=6) (by omega)]
 simp only[zD,Bool.not_true]
 by_cases h3:f<1\/3<f
 ·rw[if_pos h3]
  rcases h3 with h|h
  ·rw[zT h];rfl
  ·rw[zT h];cases decide (f<1)<;>rfl
 rw[if_neg h3,zF (by omega),zF (by omega)]
 simp only[zD]
 by_cases h4:mn<1\/mx<mn\/999<mx
 ·rw[if_pos (by omega)]
  by_cases a:mn<1
  ·rw[zT a];rfl
  rw[zF a]
  by_cases b:mx<mn
  ·rw[zT b];rfl
  rw[zF b,zT (by omega)];rfl
 rw[zF (by omega),zF (by omega),zF (by omega)]
 simp only[zD]
 by_cases f1:f=1
 ·rw[zT f1]
  simp only[zC,Bool.not_true,zD]
  by_cases e:mn=mx
  ·rw[zT e,if_neg (by omega)]
   by_cases e6:c=6
   ·rw[zT e6,if_pos (by omega)];rfl
   ·rw[zF e6,if_neg (by omega)];rfl
  ·rw[zF e,if_pos (by omega)];rfl
 ·rw[zF f1]
  simp only[zD,Bool.not_false,zC]
  by_cases f2:f=2
  ·subst f2
   rw[sI,zq]
   by_cases h:99<mx
   ·rw[zT h,if_pos (by omega)];rfl
   ·rw[zF h,if_neg (by omega),if_neg (by omega)];rfl
  ·have f3:f=3:=by omega
   subst f3
   rw[sJ,zq,zF (by omega),if_neg (by omega),if_neg (by omega)];rfl
def jw:List Spec->Int->Int->Int×Int
 | [],_,_=>(0,0)
 |x::r,i,last=>if dO x≠0 then(dO x,i) else if x.1<=last then(11,i) else jw r (i+1) x.1
def zY(s:gk):Int×Int:=
 if¬(s.1=1\/s.1=2) then(1,-1) else if s.2.1<0\/9<s.2.1 then(7,-1) else jw s.2.2.1 0 0
theorem Y8{x:Spec}(h:dO x=0):2<=x.1/\x.1<=128:=by
 unfold dO at h
 split at h
 ·cases h
 ·omega
theorem WW{l:List Spec}{j:Nat}(h:j<l.length):l.getD ((j:Int)).toNat ((0:Int),(0:Int),(0:Int),(0:Int),(0:Int),())=l[j]:=by
 rw[Int.toNat_natCast,List.getD_eq_getElem?_getD,List.getElem?_eq_getElem h];rfl
theorem eJ(s:gk)(hl:s.2.2.1.length<=9223372036854775807):∀(m j k:Nat) (last:Int),j+m=s.2.2.1.length->m<k->(j=0->last=0)->(∀h:0<j,last=(s.2.2.1.getD (j-1) ph).1)->
 rI k s.2.2.1 (s.2.2.1.length:Int) j s=some (if(jw (s.2.2.1.drop j) j last).1=0 then .inr () else .inl (jw (s.2.2.1.drop j) j last)):=by
 intro m
 induction m with
 |zero=>
  intro j k last hj hk h0 h1
  obtain⟨k,rfl⟩:∃k',k=k'+1:=⟨k-1,by omega⟩
  rw[rI,wl,zF (by omega),List.drop_eq_nil_of_le (by omega)];rfl
 |succ m ih=>
  intro j k last hj hk h0 h1
  obtain⟨k,rfl⟩:∃k',k=k'+1:=⟨k-1,by omega⟩
  have aK:j<s.2.2.1.length:=by omega
  have Cz:=ih (j+1) k (s.2.2.1[j]).1 (by omega) (by omega) (by omega) (fun _=>by
   rw[Nat.add_sub_cancel,List.getD_eq_getElem?_getD,List.getElem?_eq_getElem aK];rfl)
  rw[rI,wl,zT (by omega),zC,Oe aK,WW aK,Uk,zq,YQ (by omega),List.drop_eq_getElem_cons aK]
  rw[show((j+1:Nat):Int)=(j:Int)+1 from rfl] at Cz⊢
  by_cases hc:dO s.2.2.1[j]=0
  ·rw[zT hc]
   simp only[Bool.not_true,zD]
   have lZ:=Y8 hc
   by_cases hz:j=0
   ·have lf:=h0 hz
    have e:jw (s.2.2.1[j]::s.2.2.1.drop (j+1)) j last=jw (s.2.2.1.drop (j+1)) ((j:Int)+1) (s.2.2.1[j]).1:=by
     rw[jw,if_neg (fun h=>h hc),if_neg (by omega)]
    rw[zF (by omega),zD,e]
    exact Cz
   ·have lf:=h1 (by omega)
    have hi:zW zI ((j:Int)-1)=((j-1:Nat):Int):=by rw[Fv (by omega) (by omega)];omega
    rw[zT (by omega),zC,hi,Oe (by omega),Int.toNat_natCast]
    by_cases hn:(s.2.2.1[j]).1<=last
    ·have e:jw (s.2.2.1[j]::s.2.2.1.drop (j+1)) j last=(11,(j:Int)):=by
      rw[jw,if_neg (fun h=>h hc),if_pos hn]
     rw[e,zT (by rw[<-lf];exact hn)];rfl
    ·have e:jw (s.2.2.1[j]::s.2.2.1.drop (j+1)) j last=jw (s.2.2.1.drop (j+1)) ((j:Int)+1) (s.2.2.1[j]).1:=by
      rw[jw,if_neg (fun h=>h hc),if_neg hn]
     rw[e,zF (by rw[<-lf];exact hn)]
     exact Cz
  ·have e:jw (s.2.2.1[j]::s.2.2.1.drop (j+1)) j last=(dO s.2.2.1[j],(j:Int)):=by
    rw[jw,if_pos hc]
   rw[zF hc,e,if_neg hc];rfl
def oJ(l:List Spec)(no:Int):Option Spec:=l.find? fun x=>decide (x.1=no)
theorem U1{a b:gk}:a=b↔a.1=b.1/\a.2.1=b.2.1/\a.2.2.1=b.2.2.1:=by
 obtain⟨x,y,z,u⟩:=a
 obtain⟨x',y',z',u'⟩:=b
 simp
instance:DecidableEq gk:=fun a b=>decidable_of_iff _ U1.symm
def HI(l:List Spec)(last:Int):Prop:=(∀x∈l,dO x=0)/\(l.Pairwise fun x y=>x.1<y.1)/\∀x∈l,last<x.1
theorem HI.filter{l:List Spec}{last:Int}(h:HI l last)(p:Spec->Bool):HI (l.filter p) last:=
 ⟨fun x hx=>h.1 x (List.mem_filter.1 hx).1,h.2.1.filter p,fun x hx=>h.2.2 x (List.mem_filter.1 hx).1⟩
abbrev dD:=ByteArray×ByteArray×Unit
instance CH (a:ByteArray) (l:List ByteArray):Decidable (a∈l):=decidable_of_iff (l.any (fun x=>decide (a=x))=true) (by
 rw[List.any_eq_true]
 exact⟨fun⟨x,hx,h⟩=>of_decide_eq_true h▸hx,fun h=>⟨a,h,zT rfl⟩⟩)
def jO:List ByteArray->List dD->Int->Option Int
 |_,[],_=>none
 |seen,p::r,i=>if p.1∈seen then some i else jO (seen++ [p.1]) r (i+1)
def Fw(l:List dD):Int×Int:=if 256<l.length then(5,256) else match jO [] l 0 with
 |some i=>(10,i)
 |none=>(0,0)
def fM(l:List dD):List dD:=l.map fun p=>(p.2.1,p.1,())
theorem Xm(l:List dD):(fM l).length=l.length:=by simp [fM]
abbrev M6:=Int×ByteArray×Unit
@[irreducible] def lO (s:Spec) (x:ByteArray):Int:=(QM s x).getD 0
@[irreducible] def DF (a b:Spec):Bool:=(QN a b).getD false
abbrev cR:=Int×Int×Int×ByteArray×List dD×Unit
def nv(s:gk)(no:Int):Spec:=(oJ s.2.2.1 no).getD ph
def uT(s:gk)(no:Int):Bool:=(oJ s.2.2.1 no).isSome
def oI(r:cR)(a b:gk):Bool:=
 (bif decide (r.1=3) then !decide (r.2.1=0) else !uT a r.2.1)||(bif decide (r.1=2) then !decide (r.2.2.1=0) else !uT b r.2.2.1)
def pn(r:cR):Bool:=(!decide (r.2.2.2.1=bs [])&& !decide (r.1=3))||(decide (0<(r.2.2.2.2.1.length:Int))&& !decide (r.1=5))
def vJ(s:Spec):Bool:=decide (s.2.1=1)&&decide (s.2.2.1=1)
def po:List dD->Spec->Spec->Int
 | [],_,_=>0
 |p::r,x,y=>bif !decide (lO x p.1=0) then lO x p.1 else bif !decide (lO y p.2.1=0) then lO y p.2.1 else po r x y
def Fx(l:List dD)(x y:Spec):Int:=bif(!decide ((Fw l).1=0)||decide ((l.length:Int)=0)) then 15 else po l x y
def pc(r:cR)(x y:Spec):Int:=
 bif decide (r.1=1) then(bif DF y x then 0 else 6) else bif decide (r.1=3) then lO y r.2.2.2.1 else bif decide (r.1=4) then(bif vJ x&&vJ y then 0 else 6) else bif decide (r.1=5) then Fx r.2.2.2.2.1 x y else 0
def gX(r:cR)(a b:gk):Int:=
 bif decide (r.1<1)||decide (5<r.1) then 1 else bif oI r a b then 9 else bif pn r then 3 else pc r (nv a r.2.1) (nv b r.2.2.1)
structure dE(l:List dD):Prop where
 len:l.length<=1000000
 sz:∀p∈l,p.1.size<=1099511627776/\p.2.1.size<=1099511627776
structure qx(r:cR):Prop where
 text:r.2.2.2.1.size<=1099511627776
 vK:dE r.2.2.2.2.1
def QC(m:ByteArray):Bool:=decide ((m.size:Int)=4)&&BH (bl m)
def vM(m:ByteArray):Bool:=QC m&&(decide (zb m 2=48)||decide (zb m 2=50))
def pq(m:ByteArray)(v:Int):Bool:=QC m&&decide (zb m 0-48=v)
def Bc(p:dD)(a b:gk):Bool:=pq p.1 a.2.1&&(pq p.2.1 b.2.1&&(vM p.1==vM p.2.1))
abbrev Map:=List dD×List cR×Unit
structure gu(m:Map):Prop where
 CJ:dE m.1
 len:m.2.1.length<=1000000
 rules:∀r∈m.2.1,qx r
def gT(a b:gk):List ByteArray->List dD->Int->Option (Int×Int)
 |_,[],_=>none
 |seen,p::r,i=>if Bc p a b=true then(if p.1∈seen then some (10,i) else gT a b (seen++ [p.1]) r (i+1)) else some (7,i)
def MT(x y:cR):Bool:=(!decide (x.2.1=0)&&decide (x.2.1=y.2.1))||(!decide (x.2.2.1=0)&&decide (x.2.2.1=y.2.2.1))
def sG(a b:gk):List cR->List cR->Int->Option (Int×Int)
 |_,[],_=>none
 |prev,r::l,i=>if gX r a b=0 then(if prev.any (fun q=>MT q r)=true then some (10,i) else sG a b (prev++ [r]) l (i+1)) else some (gX r a b,i)
def vE(m:Map)(a b:gk):Int×Int×Int:=
 if(zY a).1=0 then(if(zY b).1=0 then(if 256<m.1.length then(5,2,256) else match gT a b [] m.1 0 with
  |some e=>(e.1,2,e.2)
  |none=>if 256<m.2.1.length then(5,3,256) else match sG a b [] m.2.1 0 with
   |some e=>(e.1,3,e.2)
   |none=>(0,0,0)) else(1,1,1)) else(1,1,0)
abbrev mL:=gk×Map×List Int×List M6×Unit
structure kQ(s:mL):Prop where
 sch:s.1.2.2.1.length<=maxLen
 QQ:s.2.2.1.length<=1000000
 Nb:s.2.2.2.1.length<=1000000
 txt:∀c∈s.2.2.2.1,c.2.1.size<=1099511627776
instance xi:DecidableEq cR:=fun x y=>decidable_of_iff ((decide (x.1=y.1)&&(decide (x.2.1=y.2.1)&&(decide (x.2.2.1=y.2.2.1)&&(decide (x.2.2.2.1=y.2.2.2.1)&&decide (x.2.2.2.2.1=y.2.2.2.2.1)))))=true) (by obtain⟨a1,a2,a3,a4,a5,u⟩:=x;obtain⟨b1,b2,b3,b4,b5,v⟩:=y;simp)
instance CG:DecidableEq Map:=fun x y=>decidable_of_iff ((decide (x.1=y.1)&&decide (x.2.1=y.2.1))=true) (by obtain⟨a1,a2,u⟩:=x;obtain⟨b1,b2,v⟩:=y;simp)
def lN(r:cR):cR:=(r.1,r.2.2.1,r.2.1,r.2.2.2.1,fM r.2.2.2.2.1,())
def vS(m:Map):Map:=(fM m.1,m.2.1.map lN,())
abbrev CF:Map:=([],[],())
structure MW(r:cR)(a b:gk):Prop where
 lo:¬r.1<1
 hi:¬(5:Int)<r.1
 ends:oI r a b=false
 text:pn r=false
 kind:pc r (nv a r.2.1) (nv b r.2.2.1)=0
theorem ON{a b:gk}:∀{l:List dD} {seen:List ByteArray} {i:Int},gT a b seen l i=none↔(∀p∈l,Bc p a b=true)/\jO seen l i=none
 | [],seen,i=>by simp [gT,jO]
 |p::r,seen,i=>by
  simp only[gT,jO,List.mem_cons,forall_eq_or_imp]
  cases ht:Bc p a b with
  |false=>simp
  |true=>
   rw[if_pos rfl]
   by_cases hm:p.1∈seen
   ·simp [hm]
   ·rw[if_neg hm,if_neg hm,ON]
    simp
def wj:List cR->List cR->Prop
 |_,[]=>True
 |prev,r::l=>prev.any (fun q=>MT q r)=false/\wj (prev++ [r]) l
theorem Ox{a b:gk}:∀{l:List cR} {prev:List cR} {i:Int},sG a b prev l i=none↔(∀r∈l,gX r a b=0)/\wj prev l
 | [],prev,i=>by simp [sG,wj]
 |r::l,prev,i=>by
  simp only[sG,wj,List.mem_cons,forall_eq_or_imp]
  by_cases z:gX r a b=0
  ·rw[if_pos z]
   cases hp:prev.any (fun q=>MT q r) with
   |true=>simp
   |false=>
    rw[if_neg (by simp),Ox]
    simp [z]
  ·rw[if_neg z];simp [z]
structure sH(m:Map)(a b:gk):Prop where
 sa:(zY a).1=0
 sb:(zY b).1=0
 CC:m.1.length<=256
 typed:∀p∈m.1,Bc p a b=true
 dup:jO [] m.1 0=none
 CD:m.2.1.length<=256
 rules:∀r∈m.2.1,gX r a b=0
 vT:wj [] m.2.1
theorem sH.eq{m:Map}{a b:gk}(h:sH m a b):vE m a b=(0,0,0):=by
 unfold vE
 have e1:=ON.2 ⟨h.typed,h.dup⟩
 have e2:sG a b [] m.2.1 0=none:=Ox.2 ⟨h.rules,h.vT⟩
 have l1:=h.CC
 have l2:=h.CD
 rw[if_pos h.sa,if_pos h.sb,if_neg (by omega),e1]
 simp only
 rw[if_neg (by omega),e2]
theorem dE.turn{l:List dD}(h:dE l):dE (fM l):=⟨by rw[Xm];exact h.len,fun p hp=>by
 unfold fM at hp
 obtain⟨q,hq,rfl⟩:=List.mem_map.1 hp
 exact⟨(h.sz q hq).2,(h.sz q hq).1⟩⟩
theorem gu.turn{m:Map}(h:gu m):gu (vS m):=⟨h.CJ.turn,by show(m.2.1.map lN).length<=_;rw[List.length_map];exact h.len,fun r hr=>by
 obtain⟨q,hq,rfl⟩:=List.mem_map.1 (show r∈m.2.1.map lN from hr)
 exact⟨(h.rules q hq).text,(h.rules q hq).vK.turn⟩⟩
abbrev vQ:Ty:= .pair .str (.pair .str .unit)
abbrev vR:Ty:= .pair (.int .i64) (.pair (.int .i64) (.pair (.int .i64) (.pair .str (.pair (.sl 0 vQ) .unit))))
abbrev Qn:=List mL×Int×Unit
abbrev D3:gk:=((0:Int),(0:Int),([]:List Spec),())
abbrev gZ:mL:=(D3,CF,([]:List Int),([]:List M6),())
structure MV(p q:mL):Prop where
 sp:kQ p
 sq:kQ q
 pm:gu p.2.1
 qm:gu q.2.1
 TA:p.1.2.2.1.length<=200
 TC:q.1.2.2.1.length<=200
 pe:p.2.2.1.length<=300
 qe:q.2.2.1.length<=300
 pml:p.2.1.2.1.length<=300
 qml:q.2.1.2.1.length<=300
 TB:∀c∈p.2.2.2.1,c.2.1.size<=1200
 TD:∀c∈q.2.2.2.1,c.2.1.size<=1200
theorem DP:wO=some true:=by kernel_rfl
def sE:Qn:=(fS).getD ([],0,())
def cO:Qn:=(kr).getD ([],0,())
theorem YA:fS=some sE:=by kernel_rfl
theorem DY:kr=some cO:=by kernel_rfl
theorem UG:fO=some sE:=by kernel_rfl
theorem W0:mr=some cO:=by kernel_rfl
theorem OP:fP sE sE=some true:=by kernel_rfl
theorem Xd:fP cO cO=some true:=by kernel_rfl
theorem Up:(gv sE).map (fun r=>decide (r.1=0))=some true:=by kernel_rfl
theorem UH:(gv cO).map (fun r=>decide (r.1=0))=some true:=by kernel_rfl
theorem QA{α:Type}{o:Option α}{f:α->Bool}(h:o.map f=some true):∃x,o=some x/\f x=true:=by
 cases o with
 |none=>cases h
 |some x=>exact⟨x,rfl,by simpa using h⟩
theorem YR:mw (List.getD cO.1 0 gZ).2.1 (List.getD cO.1 0 gZ).1 (List.getD cO.1 1 gZ).1=some true:=by kernel_rfl
theorem eE(n:Int)(x:cR)(hn:Wf (.int .i64) n)(hx:Wf vR x):tu n x=some true:=by
 unfold tu A6
 obtain⟨e,he,h0⟩:=QA Up
 obtain⟨f,hf,h1⟩:=QA UH
 rw[YA,zq,DY,zq,DP,zq,Bool.not_true,zD,UG,zq,OP,zq,Bool.not_true,zD,W0,zq,Xd,zq,Bool.not_true,zD,he,zq,hf,zq,z31 (by decide) (by decide),z31 (by decide) (by decide)]
 rw[show(List.getD cO.1 ((0:Int)).toNat _)=List.getD cO.1 0 gZ from rfl,show(List.getD cO.1 ((1:Int)).toNat _)=List.getD cO.1 1 gZ from rfl,YR,zq]
 simp only[zq,OP,h0,h1,zC]
 by_cases k0:(0:Int)<=n
 ·rw[zT k0,zC,z31 (by decide) (by decide)]
  generalize List.length (List.getD sE.1 ((0:Int)).toNat _).2.1.2.1=m
  by_cases k1:n<(m:Int)
  ·rw[zT k1,zC,z31 (by decide) (by decide),z31 k0 k1]
  ·rw[zF k1,zD]
 ·rw[zF k0,zD]
end bW

namespace Go.Proofs.YtkgpjibbdpikcaaGreatDoor
noncomputable section
open Go Go.Ref bW
abbrev y0:Go.Ref.Ty:=(.pair (.sl 116 (.pair .str (.pair .str .unit))) .unit)
abbrev y1:Go.Ref.Ty:=(.pair (.sl 96 (.pair (.int .i64) (.pair .str .unit))) .unit)
abbrev y2:Go.Ref.Ty:=(.pair (.sl 90 (.pair (.int .i64) (.pair .str .unit))) .unit)
abbrev y3:Go.Ref.Ty:=(.pair (.int .i64) (.pair (.int .i64) (.pair (.int .i64) .unit)))
abbrev y4:Go.Ref.Ty:=(.pair .str y0)
abbrev y5:Go.Ref.Ty:=(.pair .str y2)
abbrev y6:Go.Ref.Ty:=(.pair (.int .i64) y3)
abbrev y7:Go.Ref.Ty:=(.pair (.int .i64) y4)
abbrev y8:Go.Ref.Ty:=(.pair (.sl 3 (.int .i64)) y1)
abbrev y9:Go.Ref.Ty:=(.pair (.int .i64) y6)
abbrev TN:Go.Ref.Ty:=(.pair (.int .i64) y7)
abbrev TO:Go.Ref.Ty:=(.pair (.sl 87 y9) .unit)
abbrev cw:Go.Ref.Ty:=(.pair (.int .i64) TN)
abbrev TP:Go.Ref.Ty:=(.pair (.int .i64) TO)
abbrev TQ:Go.Ref.Ty:=(.pair (.sl 59 cw) .unit)
abbrev aO:Go.Ref.Ty:=(.pair (.int .i64) TP)
abbrev bG:Go.Ref.Ty:=(.pair (.sl 116 (.pair .str (.pair .str .unit))) TQ)
abbrev TR:Go.Ref.Ty:=(.pair bG y8)
abbrev bT:Go.Ref.Ty:=(.pair aO TR)
abbrev cc:Go.Ref.Ty:=(.pair (.arr 2 bT) (.pair (.int .i64) .unit))
def sf:List (Option Ty):=[none,none,some (.int .i64),some (.int .i64),some .bool,some (.int .u8),some (.int .u8),some (.pair (.int .i64) (.pair (.int .i64) (.pair .bool (.pair (.int .u8) .unit)))),some (.pair (.int .i64) (.pair (.int .i64) (.pair .bool (.pair (.int .u8) .unit)))),some .str,some .str,some .str,some (.int .u64),none,none,none,none,none,none,none,none,some (.int .i32),some (.sl 87 y9),some aO,some aO,some (.sl 116 (.pair .str (.pair .str .unit))),some (.sl 59 cw),some bG,some bG,some (.sl 3 (.int .i64)),some (.sl 96 (.pair (.int .i64) (.pair .str .unit))),some bT,some bT,some (.arr 2 bT),some cc,some cc,none,none,some (.int .i64),none,none,none,none,none,none,none,none,some (.sl 90 (.pair (.int .i64) (.pair .str .unit))),some y5,some y5,none,none,none,none,none,none,none,none,some cw,some cw,none,none,none,none,none,none,none,none,none,some (.pair (.int .i64) (.pair (.int .i64) .unit)),some (.pair (.int .i64) (.pair (.int .i64) .unit)),none,none,none,none,none,none,none,none,none,none,none,none,none,none,none,some y9,some y9,none,some (.pair (.int .i64) (.pair .str .unit)),some (.pair (.int .i64) (.pair .str .unit)),none,none,none,none,some (.pair (.int .i64) (.pair .str .unit)),some (.pair (.int .i64) (.pair .str .unit)),none,none,none,none,some (.int .u64),some (.pair (.int .u64) (.pair (.int .u64) .unit)),some (.pair (.int .u64) (.pair (.int .u64) .unit)),none,none,none,none,none,none,none,some (.sl 9 .str),none,none,none,some (.pair .str (.pair .str .unit)),some (.pair .str (.pair .str .unit)),none,none,none,none,none,none,none,some (.sl 24 aO),none,none,none,none,none,none,none,none,none,none,none,none,none,none,none,none,none,none,none,none,some (.sl 5 (.int .u8)),none,none,none,none,none,none,none,none,none,none,none,none,none,none,none,none,none,none,none,none,none,none,none,none,none,none,none,none,none,none,none,none,none,none,none,none,none,none,none,none,some (.sl 38 (.int .i64)),some (.sl 29 (.sl 3 (.int .i64))),none,none,none,none,none,none,none,none,none,none,none,none,none,none,some (.sl 245 (.pair (.int .i64) (.pair .str .unit))),none,none,none,none,none,none,none,none,none,none,some (.arr 8 (.int .u8)),none,none,none,none,none,none,none,none,none,none,none,none,none,none,none,none,none,none,none,none,none,none,none,none,none,none,none,none,none,none,some (.pair (.int .i64) (.pair .str .unit)),some (.pair (.int .i64) (.pair .str .unit)),none,none,some (.int .u64),none,none,none,none,none,none,none,none,none,none,none,none,some (.arr 256 .bool),some (.arr 256 .bool),none,none,none,none,some (.int .u32),none,none,none,none,none,none,none,none,some (.arr 256 (.int .u8)),some (.pair (.int .u8) (.pair (.int .u8) .unit)),some (.pair (.int .u8) (.pair (.int .u8) .unit)),some (.arr 16 (.pair (.int .u8) (.pair (.int .u8) .unit))),none,none,none,none,none,none,none,none,some (.int .u8),some (.int .u8),none,some (.int .i32),some (.int .i32),none,none]
def BJ:List Nat:=[0,8,8,8,1,1,1,24,24,16,16,16,8,24,24,8,8,8,8,8,16,4,24,40,40,24,24,48,48,24,24,136,136,272,280,280,8,8,8,0,8,8,0,8,0,8,8,24,40,40,0,8,8,8,8,8,8,8,64,64,8,8,8,8,8,8,8,8,8,16,16,8,0,8,8,0,8,8,8,8,0,8,8,8,0,8,40,40,8,24,24,0,8,8,8,24,24,8,8,8,8,8,16,16,8,8,8,8,8,8,8,24,8,8,8,32,32,8,0,8,0,8,8,8,24,8,8,8,8,8,8,8,8,8,8,8,8,8,8,8,8,8,8,8,8,24,32,32,16,16,0,8,8,8,0,8,8,8,8,0,8,0,8,8,8,8,0,8,0,8,0,8,0,8,8,8,0,8,8,8,8,8,8,8,8,8,24,24,8,8,8,8,8,0,8,8,8,8,0,8,8,8,24,0,8,8,8,8,8,8,8,0,8,8,8,8,8,8,0,8,0,8,8,8,8,0,8,0,8,8,0,8,8,8,8,8,8,8,8,0,8,8,8,8,24,24,8,8,8,8,8,8,8,8,8,0,8,8,8,8,8,256,256,0,8,8,8,4,0,8,8,0,8,8,8,8,256,2,2,32,8,8,8,40,40,0,0,0,1,1,8,4,4,48,48]
def pf:List Bool:=[false,false,false,false,false,false,false,false,false,false,false,false,false,false,false,true,true,true,false,false,false,false,false,false,false,false,false,false,false,false,false,false,false,false,false,false,false,false,false,false,false,false,false,false,false,false,false,false,false,false,false,false,false,false,false,false,false,false,false,false,false,false,false,false,false,false,false,false,false,false,false,false,false,false,false,false,false,false,false,false,false,false,false,false,false,false,false,false,false,false,false,false,false,false,false,false,false,false,false,false,false,false,false,false,false,false,false,false,false,false,false,false,false,false,false,false,false,false,false,false,false,false,false,false,false,false,false,false,false,false,false,false,false,false,false,false,false,false,false,false,false,false,false,false,true,false,false,false,false,false,false,false,false,false,false,false,false,false,false,false,false,false,false,false,false,false,false,false,false,false,false,false,false,false,false,false,false,false,false,false,false,false,false,false,false,false,false,false,false,false,false,false,false,false,false,false,false,false,false,false,false,false,false,false,false,false,false,false,false,false,false,false,false,false,false,false,false,true,false,false,false,false,false,false,false,false,false,false,false,false,false,false,false,false,false,false,false,false,false,false,false,false,false,false,false,false,false,false,false,false,false,false,false,false,false,false,false,false,false,false,false,false,false,false,false,false,true,false,false,false,false,false,false,false,false,false,false,false,false,false,false,false,false,false,false,false,false,false,false,false,false,false,false,false,false]
def xc:List (TypeId×TypeId×TypeId):=[(125,9,4),(253,3,4)]
def bD:jD:=⟨sf,BJ,pf,xc⟩
theorem MR:bD.ok Tryz.prog=true:=by kernel_rfl
theorem ek:∀a b c d,ah Tryz.prog (bD.env a b c d):=jD.im MR
abbrev e0(ps:List Ty):Env:=bD.env (fun _=>[]) (fun _=>[]) [] ps
abbrev uS(n:Nat)(l:List (List SV)):List (List SV):=Nat.rec (motive:=fun _=>List (List SV)) l (fun _ r=>[.undef]::r) n
abbrev nS(n:Nat)(l:List (Option aX)):List (Option aX):=Nat.rec (motive:=fun _=>List (Option aX)) l (fun _ r=>none::r) n
def MX:ae:=ae.none
theorem o0:aL Tryz.prog MX:= .none (by kernel_rfl)
variable (R:Type) (kk k:Nat) (K:KF R) (J:KX R)
def tn:Env:=bD.env (fun _=>[]) (fun _=>[]) [2] [(.int .i64)]
def MY:ae:=MX.add 192 [(.int .i64)] (cu (.int .i64) wN (fun _ r K=>K [.af (.pair (.int .u64) (.pair (.int .u64) .unit)) r []] none))
theorem o1:aL Tryz.prog MY:=cA tn Tryz.f192 (fun R kk x0 K=>MN x0 (fun a0=>K [.af (.pair (.int .u64) (.pair (.int .u64) .unit)) a0 []] none)) o0 (ek _ _ _ _) Tryz.func192 (by kernel_rfl) rfl (fun _ _ _ _ _ _ h=>h _ _) (fun _ _ _ _=>by kernel_rfl) fun R kk e x0 K=>by
 simp only[wN,MN,aE]
def tf:Env:=bD.env (fun _=>[]) (fun _=>[]) [4] [(.pair (.int .u64) (.pair (.int .u64) .unit)),(.pair (.int .u64) (.pair (.int .u64) .unit))]
def MZ:ae:=MY.add 80 [(.pair (.int .u64) (.pair (.int .u64) .unit)),(.pair (.int .u64) (.pair (.int .u64) .unit))] (cE (.pair (.int .u64) (.pair (.int .u64) .unit)) (.pair (.int .u64) (.pair (.int .u64) .unit)) te (fun _ r K=>K [.af (.pair (.int .u64) (.pair (.int .u64) .unit)) r []] none))
theorem o2:aL Tryz.prog MZ:=cF tf Tryz.f80 (fun R kk x0 x1 K=>MH x0 x1 (fun a0=>K [.af (.pair (.int .u64) (.pair (.int .u64) .unit)) a0 []] none)) o1 (ek _ _ _ _) Tryz.func80 (by kernel_rfl) rfl (fun _ _ _ _ _ _ h=>h _ _) (fun _ _ _ _ _=>by kernel_rfl) fun R kk e x0 x1 K=>by
 simp only[te,MH,aE]
def tm:Env:=bD.env (fun _=>[]) (fun _=>[]) [4] [(.pair (.int .u64) (.pair (.int .u64) .unit)),(.int .i64)]
def wP:ae:=MZ.add 141 [(.pair (.int .u64) (.pair (.int .u64) .unit)),(.int .i64)] (cE (.pair (.int .u64) (.pair (.int .u64) .unit)) (.int .i64) wM (fun _ r K=>K [.af (.pair (.int .u64) (.pair (.int .u64) .unit)) r []] none))
theorem o3:aL Tryz.prog wP:=cF tm Tryz.f141 (fun R kk x0 x1 K=>ML x0 x1 (fun a0=>K [.af (.pair (.int .u64) (.pair (.int .u64) .unit)) a0 []] none)) o2 (ek _ _ _ _) Tryz.func141 (by kernel_rfl) rfl (fun _ _ _ _ _ _ h=>h _ _) (fun _ _ _ _ _=>by kernel_rfl) fun R kk e x0 x1 K=>by
 simp only[wM,ML,aE]
def iP:Env:=bD.env (fun i=>bif Nat.beq i 3 then [2,3,6,7,8] else []) (fun i=>bif Nat.beq i 3 then [2,3] else []) [2] [(.sl 3 (.int .i64))]
def A4(a:(List Int))(b c:Int)(d e:aB):Option R:=az (ev iP (wP R) kk (sub [1,1,0,1,0,0] (cd Tryz.f78))) [2,3,6,7,8] [2,3] k ⟨uS 2 ([.ptr 3 (.pair (.int .u64) (.pair (.int .u64) .unit)) []]::[.ptr 4 (.pair (.int .u64) (.pair (.int .u64) .unit)) []]::uS 2 ([.af (.sl 3 (.int .i64)) a []]::[tI b]::[tI c]::uS 8 [])),nS 3 ((some ⟨(.pair (.int .u64) (.pair (.int .u64) .unit)),d,[]⟩)::(some ⟨(.pair (.int .u64) (.pair (.int .u64) .unit)),e,[]⟩)::nS 13 [])⟩ J
def Hu(a b:aB):State:=⟨uS 2 ([.ptr 3 (.pair (.int .u64) (.pair (.int .u64) .unit)) []]::[.ptr 4 (.pair (.int .u64) (.pair (.int .u64) .unit)) []]::uS 13 []),nS 3 ((some ⟨(.pair (.int .u64) (.pair (.int .u64) .unit)),a,[]⟩)::(some ⟨(.pair (.int .u64) (.pair (.int .u64) .unit)),b,[]⟩)::nS 13 [])⟩
def Qr:KX R:=(zd 0 (aS iP (wP R) kk (sub [1,1,1] (cd Tryz.f78)) (aW iP Tryz.f78.results.toList none K)))
theorem E1(a:(List Int))(b c:Int)(d e:aB):A4 R kk (k+1) J a b c d e=
 ME a b c d e (A4 R kk k J) (fun a0 a1=>J (.exit 0) (Hu a0 a1)):=by kernel_rfl
theorem Ys(a b:aB):Qr R kk K (.exit 0) (Hu a b)=
 MF a b (fun a0=>K [.af (.pair (.int .u64) (.pair (.int .u64) .unit)) a0 []] none):=by kernel_rfl
theorem DM{kk:Nat}(hF:kk=aq)(t6:(List Int))(t7 t8:Int)(bR bY:aB):A4 R kk k J t6 t7 t8 bR bY=(A5 k t6 t7 t8 bR bY).bind fun e=>J (.exit 0) (Hu e.1 e.2):=by
 induction k generalizing t6 t7 t8 bR bY with
 |zero=>rfl
 |succ k ih=>
  rw[E1]
  simp only[A5,ME,ih,aE]
def M0:ae:=wP.add 78 [(.sl 3 (.int .i64))] (cu (.sl 3 (.int .i64)) s9 (fun _ r K=>K [.af (.pair (.int .u64) (.pair (.int .u64) .unit)) r []] none))
theorem o4:aL Tryz.prog M0:=cA iP Tryz.f78 (fun R kk x0 K=>MD x0 (A4 R kk kk (Qr R kk K))) o3 (ek _ _ _ _) Tryz.func78 (by kernel_rfl) rfl (fun _ _ _ _ _ _ h=>h _ _) (fun _ _ _ _=>by kernel_rfl) fun R kk e x0 K=>by
 simp only[s9,MD,MF,DM (hF:=e),Ys,aE,<-e]
def s5:Env:=bD.env (fun _=>[]) (fun _=>[]) [0] []
def M1:ae:=M0.add 57 [] (hM s4 (fun _ r K=>K [.af (.pair (.int .u64) (.pair (.int .u64) .unit)) r []] none))
theorem o5:aL Tryz.prog M1:=iC s5 Tryz.f57 (fun R kk K=>Mo (fun a0=>K [.af (.pair (.int .u64) (.pair (.int .u64) .unit)) a0 []] none)) o4 (ek _ _ _ _) Tryz.func57 (by kernel_rfl) rfl (fun _ _ _ _ _ _ h=>h _ _) (fun _ _ _=>by kernel_rfl) fun R kk e K=>by
 simp only[s4,Mo,aE]
def Eh:Env:=e0 [(.int .u64)]
def M3:ae:=M1.add 203 [(.int .u64)] (cu (.int .u64) pQ (fun _ r K=>K [tI r] none))
theorem o6:aL Tryz.prog M3:=cA Eh Tryz.f203 (fun R kk x0 K=>I1 x0 (fun a0=>K [tI a0] none)) o5 (ek _ _ _ _) Tryz.func203 (by kernel_rfl) rfl (fun _ _ _ _ _ _ h=>h _ _) (fun _ _ _ _=>by kernel_rfl) fun R kk e x0 K=>by
 simp only[pQ,I1,aE]
def Eg:Env:=e0 [(.int .u64)]
def M4:ae:=M3.add 168 [(.int .u64)] (cu (.int .u64) ko (fun _ r K=>K [tI r] none))
theorem o7:aL Tryz.prog M4:=cA Eg Tryz.f168 (fun R kk x0 K=>I0 x0 (fun a0=>K [tI a0] none)) o6 (ek _ _ _ _) Tryz.func168 (by kernel_rfl) rfl (fun _ _ _ _ _ _ h=>h _ _) (fun _ _ _ _=>by kernel_rfl) fun R kk e x0 K=>by
 simp only[ko,I0,aE]
def tj:Env:=e0 [(.pair (.int .u64) (.pair (.int .u64) .unit)),(.int .i64)]
def wQ:ae:=M4.add 106 [(.pair (.int .u64) (.pair (.int .u64) .unit)),(.int .i64)] (cE (.pair (.int .u64) (.pair (.int .u64) .unit)) (.int .i64) qw (fun _ r K=>K [tI r] none))
theorem o8:aL Tryz.prog wQ:=cF tj Tryz.f106 (fun R kk x0 x1 K=>MK x0 x1 (fun a0=>K [tI a0] none)) o7 (ek _ _ _ _) Tryz.func106 (by kernel_rfl) rfl (fun _ _ _ _ _ _ h=>h _ _) (fun _ _ _ _ _=>by kernel_rfl) fun R kk e x0 x1 K=>by
 simp only[qw,MK,aE]
def Ay:Env:={bD.env (fun i=>bif Nat.beq i 3 then [1,3,4] else []) (fun i=>bif Nat.beq i 3 then [3] else []) [] [(.pair (.int .u64) (.pair (.int .u64) .unit))] with mv:=[22]}
def yy(a:aR)(b:Int)(c:aB):Option R:=az (ev Ay (wQ R) kk (sub [1,1,0,1,0,0] (cd Tryz.f56))) [1,3,4] [3] k ⟨uS 1 ([.ptr 2 (.pair (.int .u64) (.pair (.int .u64) .unit)) []]::uS 1 ([.af (.sl 59 cw) a [[]]]::[tI b]::uS 18 [])),nS 2 ((some ⟨(.pair (.int .u64) (.pair (.int .u64) .unit)),c,[]⟩)::nS 21 [])⟩ J
def Gv(a:aR):State:=⟨uS 3 ([.af (.sl 59 cw) a [[]]]::uS 19 []),nS 24 []⟩
def P6:KX R:=(zd 0 (aS Ay (wQ R) kk (sub [1,1,1] (cd Tryz.f56)) (aW Ay Tryz.f56.results.toList none K)))
theorem ZN(a:aR)(b:Int)(c:aB):yy R kk (k+1) J a b c=
 Ka a b c (yy R kk k J) (fun a0=>J (.exit 0) (Gv a0)):=by kernel_rfl
theorem VP(a:aR):P6 R kk K (.exit 0) (Gv a)=
 Kb a (fun a0=>K [.af (.sl 59 cw) a0 [[]]] none):=by kernel_rfl
theorem XY{kk:Nat}(hF:kk=aq)(t3:aR)(t4:Int)(eG:aB):yy R kk k J t3 t4 eG=(yz k t3 t4 eG).bind fun e=>J (.exit 0) (Gv e):=by
 induction k generalizing t3 t4 eG with
 |zero=>rfl
 |succ k ih=>
  rw[ZN]
  simp only[yz,Ka,ih,aE]
def M5:ae:=wQ.add 56 [(.pair (.int .u64) (.pair (.int .u64) .unit))] (cu (.pair (.int .u64) (.pair (.int .u64) .unit)) kz (fun _ r K=>K [.af (.sl 59 cw) r [[]]] none))
theorem o9:aL Tryz.prog M5:=cA Ay Tryz.f56 (fun R kk x0 K=>J9 x0 (yy R kk kk (P6 R kk K))) o8 ((ek _ _ _ _).mv _) Tryz.func56 (by kernel_rfl) rfl (fun _ _ _ _ _ _ h=>h _ _) (fun _ _ _ _=>by kernel_rfl) fun R kk e x0 K=>by
 simp only[kz,J9,Kb,XY (hF:=e),VP,aE,<-e]
def EC:Env:=bD.env (fun _=>[]) (fun _=>[]) [0] []
def tC:ae:=M5.add 58 [] (hM mF (fun _ r K=>K [.af cw r [[4]]] none))
theorem CN:aL Tryz.prog tC:=iC EC Tryz.f58 (fun R kk K=>J8 (fun a0=>K [.af cw a0 [[4]]] none)) o9 (ek _ _ _ _) Tryz.func58 (by kernel_rfl) rfl (fun _ _ _ _ _ _ h=>h _ _) (fun _ _ _=>by kernel_rfl) fun R kk e K=>by
 simp only[mF,J8,aE]
def EA:Env:=bD.env (fun _=>[]) (fun _=>[]) [0] []
def tD:ae:=tC.add 59 [] (hM mC (fun _ r K=>K [.af cw r [[4]]] none))
theorem CX:aL Tryz.prog tD:=iC EA Tryz.f59 (fun R kk K=>J3 (fun a0=>K [.af cw a0 [[4]]] none)) CN (ek _ _ _ _) Tryz.func59 (by kernel_rfl) rfl (fun _ _ _ _ _ _ h=>h _ _) (fun _ _ _=>by kernel_rfl) fun R kk e K=>by
 simp only[mC,J3,aE]
def ED:Env:=e0 []
def mN:ae:=tD.add 60 [] (hM mG (fun _ r K=>K [.af (.sl 116 (.pair .str (.pair .str .unit))) r [[]]] none))
theorem C8:aL Tryz.prog mN:=iC ED Tryz.f60 (fun R kk K=>Kc (fun a0=>K [.af (.sl 116 (.pair .str (.pair .str .unit))) a0 [[]]] none)) CX (ek _ _ _ _) Tryz.func60 (by kernel_rfl) rfl (fun _ _ _ _ _ _ h=>h _ _) (fun _ _ _=>by kernel_rfl) fun R kk e K=>by
 simp only[mG,Kc,aE]
def iL:Env:=bD.env (fun i=>bif Nat.beq i 3 then [3,9,10,11] else []) (fun i=>bif Nat.beq i 3 then [3] else []) [] [(.sl 116 (.pair .str (.pair .str .unit)))]
def AQ(a b:aw)(c d:Int):Option R:=az (ev iL (mN R) kk (sub [1,1,0,1,0,0] (cd Tryz.f55))) [3,9,10,11] [3] k ⟨uS 3 ([.af (.sl 116 (.pair .str (.pair .str .unit))) a [[]]]::uS 5 ([.af (.sl 116 (.pair .str (.pair .str .unit))) b []]::[tI c]::[tI d]::uS 13 [])),nS 26 []⟩ J
def Hp(a:aw):State:=⟨uS 3 ([.af (.sl 116 (.pair .str (.pair .str .unit))) a [[]]]::uS 21 []),nS 26 []⟩
def Qo:KX R:=(zd 0 (aS iL (mN R) kk (sub [1,1,1] (cd Tryz.f55)) (aW iL Tryz.f55.results.toList none K)))
theorem EU(a b:aw)(c d:Int):AQ R kk (k+1) J a b c d=
 Mk a b c d (AQ R kk k J) (fun a0=>J (.exit 0) (Hp a0)):=by kernel_rfl
theorem Yg(a:aw):Qo R kk K (.exit 0) (Hp a)=
 Ml a (fun a0=>K [.af (.sl 116 (.pair .str (.pair .str .unit))) a0 []] none):=by kernel_rfl
theorem Z1{kk:Nat}(hF:kk=aq)(t3 t9:aw)(t10 t11:Int):AQ R kk k J t3 t9 t10 t11=(AR k t3 t9 t10 t11).bind fun e=>J (.exit 0) (Hp e):=by
 induction k generalizing t3 t9 t10 t11 with
 |zero=>rfl
 |succ k ih=>
  rw[EU]
  simp only[AR,Mk,ih,aE]
def mO:ae:=mN.add 55 [(.sl 116 (.pair .str (.pair .str .unit)))] (cu (.sl 116 (.pair .str (.pair .str .unit))) sX (fun _ r K=>K [.af (.sl 116 (.pair .str (.pair .str .unit))) r []] none))
theorem Dj:aL Tryz.prog mO:=cA iL Tryz.f55 (fun R kk x0 K=>Mj x0 (AQ R kk kk (Qo R kk K))) C8 (ek _ _ _ _) Tryz.func55 (by kernel_rfl) rfl (fun _ _ _ _ _ _ h=>h _ _) (fun _ _ _ _=>by kernel_rfl) fun R kk e x0 K=>by
 simp only[sX,Mj,Ml,Z1 (hF:=e),Yg,aE,<-e]
def An:Env:=bD.env (fun i=>bif Nat.beq i 3 then [2,3,11,12,13] else []) (fun i=>bif Nat.beq i 3 then [2,3] else []) [2] [bG]
def x7(a:aR)(b c:Int)(d e:av):Option R:=az (ev An (mO R) kk (sub [1,1,0,1,0,0] (cd Tryz.f23))) [2,3,11,12,13] [2,3] k ⟨uS 2 ([.ptr 3 bG []]::[.ptr 4 bG []]::uS 7 ([.af (.sl 59 cw) a []]::[tI b]::[tI c]::uS 22 [])),nS 3 ((some ⟨bG,d,[[0],[1]]⟩)::(some ⟨bG,e,[[1]]⟩)::nS 32 [])⟩ J
def Ga(a b:av):State:=⟨uS 2 ([.ptr 3 bG []]::[.ptr 4 bG []]::uS 32 []),nS 3 ((some ⟨bG,a,[[0],[1]]⟩)::(some ⟨bG,b,[[1]]⟩)::nS 32 [])⟩
def P0:KX R:=(zd 0 (aS An (mO R) kk (sub [1,1,1] (cd Tryz.f23)) (aW An Tryz.f23.results.toList none K)))
theorem Zz(a:aR)(b c:Int)(d e:av):x7 R kk (k+1) J a b c d e=
 IX a b c d e (x7 R kk k J) (fun a0 a1=>J (.exit 0) (Ga a0 a1)):=by kernel_rfl
theorem Vv(a b:av):P0 R kk K (.exit 0) (Ga a b)=
 IY a b (fun a0=>K [.af bG a0 [[1]]] none):=by kernel_rfl
theorem XK{kk:Nat}(hF:kk=aq)(t11:aR)(t12 t13:Int)(bR bY:av):x7 R kk k J t11 t12 t13 bR bY=(z91 k t11 t12 t13 bR bY).bind fun e=>J (.exit 0) (Ga e.1 e.2):=by
 induction k generalizing t11 t12 t13 bR bY with
 |zero=>rfl
 |succ k ih=>
  rw[Zz]
  simp only[z91,IX,ih,aE]
def tE:ae:=mO.add 23 [bG] (cu bG my (fun _ r K=>K [.af bG r [[1]]] none))
theorem R8:aL Tryz.prog tE:=cA An Tryz.f23 (fun R kk x0 K=>IW x0 (x7 R kk kk (P0 R kk K))) Dj (ek _ _ _ _) Tryz.func23 (by kernel_rfl) rfl (fun _ _ _ _ _ _ h=>h _ _) (fun _ _ _ _=>by kernel_rfl) fun R kk e x0 K=>by
 simp only[my,IW,IY,XK (hF:=e),Vv,aE,<-e]
def s6:Env:=bD.env (fun _=>[]) (fun _=>[]) [6] [(.int .i64),(.int .i64),(.int .i64)]
def tF:ae:=tE.add 128 [(.int .i64),(.int .i64),(.int .i64)] (fI (.int .i64) (.int .i64) (.int .i64) cD (fun _ r K=>K [.af y9 r []] none))
theorem R9:aL Tryz.prog tF:=gf s6 Tryz.f128 (fun R kk x0 x1 x2 K=>Mp x0 x1 x2 (fun a0=>K [.af y9 a0 []] none)) R8 (ek _ _ _ _) Tryz.func128 (by kernel_rfl) rfl (fun _ _ _ _ _ _ h=>h _ _) (fun _ _ _ _ _ _=>by kernel_rfl) fun R kk e x0 x1 x2 K=>by
 simp only[cD,Mp,aE]
def sY:Env:=bD.env (fun _=>[]) (fun _=>[]) [0] []
def tG:ae:=tF.add 61 [] (hM Bk (fun _ r K=>K [.af aO r [[2]]] none))
theorem Sa:aL Tryz.prog tG:=iC sY Tryz.f61 (fun R kk K=>Mm (fun a0=>K [.af aO a0 [[2]]] none)) R9 (ek _ _ _ _) Tryz.func61 (by kernel_rfl) rfl (fun _ _ _ _ _ _ h=>h _ _) (fun _ _ _=>by kernel_rfl) fun R kk e K=>by
 simp only[Bk,Mm,aE]
def EB:Env:=e0 []
def mP:ae:=tG.add 62 [] (hM mE (fun _ r K=>K [.af (.sl 3 (.int .i64)) r [[]]] none))
theorem Sb:aL Tryz.prog mP:=iC EB Tryz.f62 (fun R kk K=>J7 (fun a0=>K [.af (.sl 3 (.int .i64)) a0 [[]]] none)) Sa (ek _ _ _ _) Tryz.func62 (by kernel_rfl) rfl (fun _ _ _ _ _ _ h=>h _ _) (fun _ _ _=>by kernel_rfl) fun R kk e K=>by
 simp only[mE,J7,aE]
def Ax:Env:=bD.env (fun i=>bif Nat.beq i 3 then [1,2,7,13,14,15] else []) (fun i=>bif Nat.beq i 3 then [2,7] else []) [] [.str,.str,.str]
def yw(a b:ByteArray)(c:al)(d:(List Int))(e f:Int):Option R:=az (ev Ax (mP R) kk (sub [1,1,0,1,0,0] (cd Tryz.f63))) [1,2,7,13,14,15] [2,7] k ⟨uS 1 ([tS a]::[tS b]::uS 4 ([.af (.sl 96 (.pair (.int .i64) (.pair .str .unit))) c [[]]]::uS 5 ([.af (.sl 38 (.int .i64)) d [[]]]::[tI e]::[tI f]::uS 15 []))),nS 32 []⟩ J
def Gu(a:ByteArray)(b:al):State:=⟨uS 2 ([tS a]::uS 4 ([.af (.sl 96 (.pair (.int .i64) (.pair .str .unit))) b [[]]]::uS 23 [])),nS 32 []⟩
def P5:KX R:=(zd 0 (aS Ax (mP R) kk (sub [1,1,1] (cd Tryz.f63)) (aW Ax Tryz.f63.results.toList none K)))
theorem ZM(a b:ByteArray)(c:al)(d:(List Int))(e f:Int):yw R kk (k+1) J a b c d e f=
 J5 a b c d e f (yw R kk k J) (fun a0 a1=>J (.exit 0) (Gu a0 a1)):=by kernel_rfl
theorem VO(a:ByteArray)(b:al):P5 R kk K (.exit 0) (Gu a b)=
 J6 a b (fun a0=>K [.af (.sl 96 (.pair (.int .i64) (.pair .str .unit))) a0 [[]]] none):=by kernel_rfl
theorem XX{kk:Nat}(hF:kk=aq)(io gg:ByteArray)(t7:al)(t13:(List Int))(t14 t15:Int):yw R kk k J io gg t7 t13 t14 t15=(yx k io gg t7 t13 t14 t15).bind fun e=>J (.exit 0) (Gu e.1 e.2):=by
 induction k generalizing io gg t7 t13 t14 t15 with
 |zero=>rfl
 |succ k ih=>
  rw[ZM]
  simp only[yx,J5,ih,aE]
def tH:ae:=mP.add 63 [.str,.str,.str] (fI .str .str .str mD (fun _ r K=>K [.af (.sl 96 (.pair (.int .i64) (.pair .str .unit))) r [[]]] none))
theorem Sc:aL Tryz.prog tH:=gf Ax Tryz.f63 (fun R kk x0 x1 x2 K=>J4 x0 x1 x2 (yw R kk kk (P5 R kk K))) Sb (ek _ _ _ _) Tryz.func63 (by kernel_rfl) rfl (fun _ _ _ _ _ _ h=>h _ _) (fun _ _ _ _ _ _=>by kernel_rfl) fun R kk e x0 x1 x2 K=>by
 simp only[mD,J4,J6,XX (hF:=e),VO,aE,<-e]
def sZ:Env:=bD.env (fun _=>[]) (fun _=>[]) [0] []
def tJ:ae:=tH.add 64 [] (hM Bl (fun _ r K=>K [.af aO r [[2]]] none))
theorem Sd:aL Tryz.prog tJ:=iC sZ Tryz.f64 (fun R kk K=>Mn (fun a0=>K [.af aO a0 [[2]]] none)) Sc (ek _ _ _ _) Tryz.func64 (by kernel_rfl) rfl (fun _ _ _ _ _ _ h=>h _ _) (fun _ _ _=>by kernel_rfl) fun R kk e K=>by
 simp only[Bl,Mn,aE]
def Eu:Env:={bD.env (fun _=>[]) (fun _=>[]) [0] [] with mv:=[37]}
def tK:ae:=tJ.add 24 [] (hM fS (fun _ r K=>K [.af cc r [[0,1,3],[0,1,2],[0,1,0,2],[0,0,3],[0,0,2],[0,0,1,1],[0,0,1,0],[0,0,0,2]]] none))
theorem Se:aL Tryz.prog tK:=iC Eu Tryz.f24 (fun R kk K=>JT (fun a0=>K [.af cc a0 [[0,1,3],[0,1,2],[0,1,0,2],[0,0,3],[0,0,2],[0,0,1,1],[0,0,1,0],[0,0,0,2]]] none)) Sd ((ek _ _ _ _).mv _) Tryz.func24 (by kernel_rfl) rfl (fun _ _ _ _ _ _ h=>h _ _) (fun _ _ _=>by kernel_rfl) fun R kk e K=>by
 simp only[fS,JT,aE]
def Ev:Env:={bD.env (fun _=>[]) (fun _=>[]) [0] [] with sh:=[4,13]}
def mQ:ae:=tK.add 25 [] (hM kr (fun _ r K=>K [.af cc r [[0,1,3],[0,1,2],[0,1,0,2],[0,0,3],[0,0,2],[0,0,1,0],[0,0,0,2]]] none))
theorem Sf:aL Tryz.prog mQ:=iC Ev Tryz.f25 (fun R kk K=>JZ (fun a0=>K [.af cc a0 [[0,1,3],[0,1,2],[0,1,0,2],[0,0,3],[0,0,2],[0,0,1,0],[0,0,0,2]]] none)) Se ((ek _ _ _ _).sh _) Tryz.func25 (by kernel_rfl) rfl (fun _ _ _ _ _ _ h=>h _ _) (fun _ _ _=>by kernel_rfl) fun R kk e K=>by
 simp only[kr,JZ,aE]
def Ah:Env:=bD.env (fun i=>bif Nat.beq i 3 then [0,3,4] else []) (fun i=>bif Nat.beq i 3 then [3] else []) [] [(.sl 9 .str)]
def xV(a:(List ByteArray))(b:aw)(c:Int):Option R:=az (ev Ah (mQ R) kk (sub [1,1,0,1,0,0] (cd Tryz.f65))) [0,3,4] [3] k ⟨[.af (.sl 9 .str) a []]::uS 2 ([.af (.sl 116 (.pair .str (.pair .str .unit))) b [[]]]::[tI c]::uS 21 []),nS 27 []⟩ J
def F4(a:aw):State:=⟨uS 3 ([.af (.sl 116 (.pair .str (.pair .str .unit))) a [[]]]::uS 22 []),nS 27 []⟩
def PY:KX R:=(zd 0 (aS Ah (mQ R) kk (sub [1,1,1] (cd Tryz.f65)) (aW Ah Tryz.f65.results.toList none K)))
theorem Zu(a:(List ByteArray))(b:aw)(c:Int):xV R kk (k+1) J a b c=
 IA a b c (xV R kk k J) (fun a0=>J (.exit 0) (F4 a0)):=by kernel_rfl
theorem Vp(a:aw):PY R kk K (.exit 0) (F4 a)=
 IB a (fun a0=>K [.af (.sl 116 (.pair .str (.pair .str .unit))) a0 []] none):=by kernel_rfl
theorem XE{kk:Nat}(hF:kk=aq)(re:(List ByteArray))(t3:aw)(t4:Int):xV R kk k J re t3 t4=(xW k re t3 t4).bind fun e=>J (.exit 0) (F4 e):=by
 induction k generalizing re t3 t4 with
 |zero=>rfl
 |succ k ih=>
  rw[Zu]
  simp only[xW,IA,ih,aE]
def tL:ae:=mQ.add 65 [(.sl 9 .str)] (cu (.sl 9 .str) kn (fun _ r K=>K [.af (.sl 116 (.pair .str (.pair .str .unit))) r []] none))
theorem Sg:aL Tryz.prog tL:=cA Ah Tryz.f65 (fun R kk x0 K=>Iz x0 (xV R kk kk (PY R kk K))) Sf (ek _ _ _ _) Tryz.func65 (by kernel_rfl) rfl (fun _ _ _ _ _ _ h=>h _ _) (fun _ _ _ _=>by kernel_rfl) fun R kk e x0 K=>by
 simp only[kn,Iz,IB,XE (hF:=e),Vp,aE,<-e]
def D8:Env:=e0 []
def mR:ae:=tL.add 129 [] (hM pJ (fun _ r K=>K [.af (.sl 3 (.int .i64)) r [[]]] none))
theorem Sh:aL Tryz.prog mR:=iC D8 Tryz.f129 (fun R kk K=>HQ (fun a0=>K [.af (.sl 3 (.int .i64)) a0 [[]]] none)) Sg (ek _ _ _ _) Tryz.func129 (by kernel_rfl) rfl (fun _ _ _ _ _ _ h=>h _ _) (fun _ _ _=>by kernel_rfl) fun R kk e K=>by
 simp only[pJ,HQ,aE]
def Ag:Env:={bD.env (fun i=>bif Nat.beq i 4 then [1,2,3] else []) (fun i=>bif Nat.beq i 4 then [1] else []) [] [] with mv:=[31]}
def xT(a:aR)(b:(List Int))(c:Int):Option R:=az (ev Ag (mR R) kk (sub [1,1,1,0,1,0,0] (cd Tryz.f66))) [1,2,3] [1] k ⟨uS 1 ([.af (.sl 59 cw) a [[]]]::[.af (.sl 3 (.int .i64)) b [[]]]::[tI c]::uS 28 []),nS 33 []⟩ J
def F3(a:aR):State:=⟨uS 1 ([.af (.sl 59 cw) a [[]]]::uS 30 []),nS 33 []⟩
def PX:KX R:=(zd 0 (aS Ag (mR R) kk (sub [1,1,1,1] (cd Tryz.f66)) (aW Ag Tryz.f66.results.toList none K)))
theorem Zt(a:aR)(b:(List Int))(c:Int):xT R kk (k+1) J a b c=
 Ix a b c (xT R kk k J) (fun a0=>J (.exit 0) (F3 a0)):=by kernel_rfl
theorem Vo(a:aR):PX R kk K (.exit 0) (F3 a)=
 Iy a (fun a0=>K [.af (.sl 59 cw) a0 [[]]] none):=by kernel_rfl
theorem XD{kk:Nat}(hF:kk=aq)(t1:aR)(t2:(List Int))(t3:Int):xT R kk k J t1 t2 t3=(xU k t1 t2 t3).bind fun e=>J (.exit 0) (F3 e):=by
 induction k generalizing t1 t2 t3 with
 |zero=>rfl
 |succ k ih=>
  rw[Zt]
  simp only[xU,Ix,ih,aE]
def mS:ae:=mR.add 66 [] (hM km (fun _ r K=>K [.af (.sl 59 cw) r [[]]] none))
theorem Si:aL Tryz.prog mS:=iC Ag Tryz.f66 (fun R kk K=>Iw (xT R kk kk (PX R kk K))) Sh ((ek _ _ _ _).mv _) Tryz.func66 (by kernel_rfl) rfl (fun _ _ _ _ _ _ h=>h _ _) (fun _ _ _=>by kernel_rfl) fun R kk e K=>by
 simp only[km,Iw,Iy,XD (hF:=e),Vo,aE,<-e]
def Ad:Env:=bD.env (fun i=>bif Nat.beq i 3 then [0,3,4] else []) (fun i=>bif Nat.beq i 3 then [3] else []) [] [(.sl 116 (.pair .str (.pair .str .unit)))]
def xH(a b:aw)(c:Int):Option R:=az (ev Ad (mS R) kk (sub [1,1,0,1,0,0] (cd Tryz.f67))) [0,3,4] [3] k ⟨[.af (.sl 116 (.pair .str (.pair .str .unit))) a []]::uS 2 ([.af (.sl 116 (.pair .str (.pair .str .unit))) b [[]]]::[tI c]::uS 22 []),nS 28 []⟩ J
def FU(a:aw):State:=⟨uS 3 ([.af (.sl 116 (.pair .str (.pair .str .unit))) a [[]]]::uS 23 []),nS 28 []⟩
def PV:KX R:=(zd 0 (aS Ad (mS R) kk (sub [1,1,1] (cd Tryz.f67)) (aW Ad Tryz.f67.results.toList none K)))
theorem Zn(a b:aw)(c:Int):xH R kk (k+1) J a b c=
 H2 a b c (xH R kk k J) (fun a0=>J (.exit 0) (FU a0)):=by kernel_rfl
theorem Ve(a:aw):PV R kk K (.exit 0) (FU a)=
 H3 a (fun a0=>K [.af (.sl 116 (.pair .str (.pair .str .unit))) a0 []] none):=by kernel_rfl
theorem Xx{kk:Nat}(hF:kk=aq)(re t3:aw)(t4:Int):xH R kk k J re t3 t4=(xI k re t3 t4).bind fun e=>J (.exit 0) (FU e):=by
 induction k generalizing re t3 t4 with
 |zero=>rfl
 |succ k ih=>
  rw[Zn]
  simp only[xI,H2,ih,aE]
def tM:ae:=mS.add 67 [(.sl 116 (.pair .str (.pair .str .unit)))] (cu (.sl 116 (.pair .str (.pair .str .unit))) ia (fun _ r K=>K [.af (.sl 116 (.pair .str (.pair .str .unit))) r []] none))
theorem Sj:aL Tryz.prog tM:=cA Ad Tryz.f67 (fun R kk x0 K=>H0 x0 (xH R kk kk (PV R kk K))) Si (ek _ _ _ _) Tryz.func67 (by kernel_rfl) rfl (fun _ _ _ _ _ _ h=>h _ _) (fun _ _ _ _=>by kernel_rfl) fun R kk e x0 K=>by
 simp only[ia,H0,H3,Xx (hF:=e),Ve,aE,<-e]
def D9:Env:=e0 []
def mT:ae:=tM.add 130 [] (hM pK (fun _ r K=>K [.af (.sl 29 (.sl 3 (.int .i64))) r [[]]] none))
theorem Sk:aL Tryz.prog mT:=iC D9 Tryz.f130 (fun R kk K=>HU (fun a0=>K [.af (.sl 29 (.sl 3 (.int .i64))) a0 [[]]] none)) Sj (ek _ _ _ _) Tryz.func130 (by kernel_rfl) rfl (fun _ _ _ _ _ _ h=>h _ _) (fun _ _ _=>by kernel_rfl) fun R kk e K=>by
 simp only[pK,HU,aE]
def Ab:Env:=bD.env (fun i=>bif Nat.beq i 4 then [0,2,3,4,5] else []) (fun i=>bif Nat.beq i 4 then [2,3] else []) [2] [(.int .i64)]
def xD(a:Int)(b:np)(c:Int)(d e:ag):Option R:=az (ev Ab (mT R) kk (sub [1,1,1,0,1,0,0] (cd Tryz.f68))) [0,2,3,4,5] [2,3] k ⟨[tI a]::uS 1 ([.ptr 3 aO []]::[.ptr 4 aO []]::[.af (.sl 29 (.sl 3 (.int .i64))) b [[]]]::[tI c]::uS 52 []),nS 3 ((some ⟨aO,d,[[2]]⟩)::(some ⟨aO,e,[[2]]⟩)::nS 54 [])⟩ J
def FQ(a b:ag):State:=⟨uS 2 ([.ptr 3 aO []]::[.ptr 4 aO []]::uS 54 []),nS 3 ((some ⟨aO,a,[[2]]⟩)::(some ⟨aO,b,[[2]]⟩)::nS 54 [])⟩
def PU:KX R:=(zd 0 (aS Ab (mT R) kk (sub [1,1,1,1] (cd Tryz.f68)) (aW Ab Tryz.f68.results.toList none K)))
theorem Zl(a:Int)(b:np)(c:Int)(d e:ag):xD R kk (k+1) J a b c d e=
 HS a b c d e (xD R kk k J) (fun a0 a1=>J (.exit 0) (FQ a0 a1)):=by kernel_rfl
theorem Vb(a b:ag):PU R kk K (.exit 0) (FQ a b)=
 HT a b (fun a0=>K [.af aO a0 [[2]]] none):=by kernel_rfl
theorem Xv{kk:Nat}(hF:kk=aq)(gj:Int)(t4:np)(t5:Int)(bR bY:ag):xD R kk k J gj t4 t5 bR bY=(xE k gj t4 t5 bR bY).bind fun e=>J (.exit 0) (FQ e.1 e.2):=by
 induction k generalizing gj t4 t5 bR bY with
 |zero=>rfl
 |succ k ih=>
  rw[Zl]
  simp only[xE,HS,ih,aE]
def tN:ae:=mT.add 68 [(.int .i64)] (cu (.int .i64) mo (fun _ r K=>K [.af aO r [[2]]] none))
theorem Sl:aL Tryz.prog tN:=cA Ab Tryz.f68 (fun R kk x0 K=>HR x0 (xD R kk kk (PU R kk K))) Sk (ek _ _ _ _) Tryz.func68 (by kernel_rfl) rfl (fun _ _ _ _ _ _ h=>h _ _) (fun _ _ _ _=>by kernel_rfl) fun R kk e x0 K=>by
 simp only[mo,HR,HT,Xv (hF:=e),Vb,aE,<-e]
def Ec:Env:=e0 [.str,.str,.str]
def tO:ae:=tN.add 69 [.str,.str,.str] (fI .str .str .str mu (fun _ r K=>K [.af (.sl 96 (.pair (.int .i64) (.pair .str .unit))) r [[]]] none))
theorem Sm:aL Tryz.prog tO:=gf Ec Tryz.f69 (fun R kk x0 x1 x2 K=>Iv x0 x1 x2 (fun a0=>K [.af (.sl 96 (.pair (.int .i64) (.pair .str .unit))) a0 [[]]] none)) Sl (ek _ _ _ _) Tryz.func69 (by kernel_rfl) rfl (fun _ _ _ _ _ _ h=>h _ _) (fun _ _ _ _ _ _=>by kernel_rfl) fun R kk e x0 x1 x2 K=>by
 simp only[mu,Iv,aE]
def Ea:Env:={bD.env (fun _=>[]) (fun _=>[]) [0] [] with sh:=[47,59]}
def tP:ae:=tO.add 26 [] (hM fO (fun _ r K=>K [.af cc r [[0,((1:Int)).toNat,3],[0,((1:Int)).toNat,2],[0,((1:Int)).toNat,0,2],[0,((0:Int)).toNat,3],[0,((0:Int)).toNat,0,2]]] none))
theorem Sn:aL Tryz.prog tP:=iC Ea Tryz.f26 (fun R kk K=>Ic (fun a0=>K [.af cc a0 [[0,((1:Int)).toNat,3],[0,((1:Int)).toNat,2],[0,((1:Int)).toNat,0,2],[0,((0:Int)).toNat,3],[0,((0:Int)).toNat,0,2]]] none)) Sm ((ek _ _ _ _).sh _) Tryz.func26 (by kernel_rfl) rfl (fun _ _ _ _ _ _ h=>h _ _) (fun _ _ _=>by kernel_rfl) fun R kk e K=>by
 simp only[fO,Ic,aE]
def sT:Env:=e0 [(.int .i64)]
def tQ:ae:=tP.add 211 [(.int .i64)] (cu (.int .i64) n9 (fun _ r K=>K [tI r] none))
theorem So:aL Tryz.prog tQ:=cA sT Tryz.f211 (fun R kk x0 K=>Aw x0 (fun a0=>K [tI a0] none)) Sn (ek _ _ _ _) Tryz.func211 (by kernel_rfl) rfl (fun _ _ _ _ _ _ h=>h _ _) (fun _ _ _ _=>by kernel_rfl) fun R kk e x0 K=>by
 simp only[n9,Aw,aE]
def sQ:Env:=e0 [(.int .i64)]
def tR:ae:=tQ.add 186 [(.int .i64)] (cu (.int .i64) pO (fun _ r K=>K [tB r] none))
theorem Sp:aL Tryz.prog tR:=cA sQ Tryz.f186 (fun R kk x0 K=>Ao x0 (fun a0=>K [tB a0] none)) So (ek _ _ _ _) Tryz.func186 (by kernel_rfl) rfl (fun _ _ _ _ _ _ h=>h _ _) (fun _ _ _ _=>by kernel_rfl) fun R kk e x0 K=>by
 simp only[pO,Ao,aE]
def Ep:Env:=e0 [(.int .i64)]
def mU:ae:=tR.add 202 [(.int .i64)] (cu (.int .i64) fR (fun _ r K=>K [tI r] none))
theorem Sq:aL Tryz.prog mU:=cA Ep Tryz.f202 (fun R kk x0 K=>Ju x0 (fun a0=>K [tI a0] none)) Sp (ek _ _ _ _) Tryz.func202 (by kernel_rfl) rfl (fun _ _ _ _ _ _ h=>h _ _) (fun _ _ _ _=>by kernel_rfl) fun R kk e x0 K=>by
 simp only[fR,Ju,aE]
def At:Env:=bD.env (fun i=>bif Nat.beq i 3 then [3,5,6] else []) (fun i=>bif Nat.beq i 3 then [3] else []) [] [(.int .i64)]
def yf(a b c:Int):Option R:=az (ev At (mU R) kk (sub [1,1,0,1,0,0] (cd Tryz.f187))) [3,5,6] [3] k ⟨uS 3 ([tI a]::uS 1 ([tI b]::[tI c]::uS 6 [])),nS 14 []⟩ J
def Gh(a:Int):State:=⟨uS 3 ([tI a]::uS 9 []),nS 14 []⟩
def P3:KX R:=(zd 0 (aS At (mU R) kk (sub [1,1,1] (cd Tryz.f187)) (aW At Tryz.f187.results.toList none K)))
theorem ZE(a b c:Int):yf R kk (k+1) J a b c=
 Jq a b c (yf R kk k J) (fun a0=>J (.exit 0) (Gh a0)):=by kernel_rfl
theorem VC(a:Int):P3 R kk K (.exit 0) (Gh a)=
 Jr a (fun a0=>K [tI a0] none):=by kernel_rfl
theorem XQ{kk:Nat}(hF:kk=aq)(t3 t5 t6:Int):yf R kk k J t3 t5 t6=(yg k t3 t5 t6).bind fun e=>J (.exit 0) (Gh e):=by
 induction k generalizing t3 t5 t6 with
 |zero=>rfl
 |succ k ih=>
  rw[ZE]
  simp only[yg,Jq,ih,aE]
def tT:ae:=mU.add 187 [(.int .i64)] (cu (.int .i64) jz (fun _ r K=>K [tI r] none))
theorem Sr:aL Tryz.prog tT:=cA At Tryz.f187 (fun R kk x0 K=>Jp x0 (yf R kk kk (P3 R kk K))) Sq (ek _ _ _ _) Tryz.func187 (by kernel_rfl) rfl (fun _ _ _ _ _ _ h=>h _ _) (fun _ _ _ _=>by kernel_rfl) fun R kk e x0 K=>by
 simp only[jz,Jp,Jr,XQ (hF:=e),VC,aE,<-e]
def EL:Env:=e0 [y9]
def mV:ae:=tT.add 131 [y9] (cu y9 fT (fun _ r K=>K [tI r] none))
theorem Ss:aL Tryz.prog mV:=cA EL Tryz.f131 (fun R kk x0 K=>yL x0 (fun a0=>K [tI a0] none)) Sr (ek _ _ _ _) Tryz.func131 (by kernel_rfl) rfl (fun _ _ _ _ _ _ h=>h _ _) (fun _ _ _ _=>by kernel_rfl) fun R kk e x0 K=>by
 simp only[fT,yL,aE]
def AD:Env:=bD.env (fun i=>bif Nat.beq i 6 then [1,26,27,28] else []) (fun i=>bif Nat.beq i 6 then [2,3] else []) [] [aO]
def yC(a:dv)(b c:Int)(d:ag):Option R:=az (ev AD (mV R) kk (sub [1,1,0,1,0,0] (cd Tryz.f72))) [1,26,27,28] [2,3] k ⟨uS 1 ([.ptr 2 aO []]::uS 24 ([.af (.sl 87 y9) a []]::[tI b]::[tI c]::uS 26 [])),nS 2 ((some ⟨aO,d,[]⟩)::nS 53 [])⟩ J
def Gy(a b:Int):State:=⟨uS 2 ([tI a]::[tI b]::uS 51 []),nS 56 []⟩
def Gz:State:=⟨uS 55 [],nS 56 []⟩
def Km:KX R:=(zd 1 (aS AD (mV R) kk (sub [1,1,1] (cd Tryz.f72)) (aW AD Tryz.f72.results.toList none K)))
theorem ZQ(a:dv)(b c:Int)(d:ag):yC R kk (k+1) J a b c d=
 wl a b c d (fun a0 a1=>J .ret (Gy a0 a1)) (yC R kk k J) (J (.exit 1) (Gz)):=by kernel_rfl
theorem VS(a b:Int):Km R kk K .ret (Gy a b)=
 Kn a b (fun a0 a1=>K [tI a0,tI a1] none):=by kernel_rfl
theorem VT:Km R kk K (.exit 1) (Gz)=
 Ko (fun a0 a1=>K [tI a0,tI a1] none):=by kernel_rfl
theorem X4{kk:Nat}(hF:kk=aq)(t26:dv)(t27 t28:Int)(eG:ag):yC R kk k J t26 t27 t28 eG=(rI k t26 t27 t28 eG).bind fun e=>(Sum.elim (fun(we:(Int×Int))=>J .ret (Gy we.1 we.2)) (fun(we:Unit)=>J (.exit 1) (Gz)) e):=by
 induction k generalizing t26 t27 t28 eG with
 |zero=>rfl
 |succ k ih=>
  rw[ZQ]
  simp only[rI,wl,ih,aE]
def mW:ae:=mV.add 72 [aO] (cu aO jB (fun _ r K=>K [tI r.1,tI r.2] none))
theorem St:aL Tryz.prog mW:=cA AD Tryz.f72 (fun R kk x0 K=>wk x0 (fun a0 a1=>K [tI a0,tI a1] none) (fun a0 a1 a2 a3=>yC R kk kk (Km R kk K) a0 a1 a2 a3)) Ss (ek _ _ _ _) Tryz.func72 (by kernel_rfl) rfl (fun _ _ _ _ _ _ h=>h _ _) (fun _ _ _ _=>by kernel_rfl) fun R kk e x0 K=>by
 simp only[jB,Uc,Kn,Ko,X4 (hF:=e),VS,VT,aE,<-e]
def AE:Env:=bD.env (fun i=>bif Nat.beq i 2 then [1,4,9,10,11] else []) (fun i=>bif Nat.beq i 2 then [4,5] else []) [4] [aO,(.int .i64)]
def yD(a:Int)(b:dv)(c d:Int)(e:aA):Option R:=az (ev AE (mW R) kk (sub [1,0,1,0,0] (cd Tryz.f73))) [1,4,9,10,11] [4,5] k ⟨uS 1 ([tI a]::uS 2 ([.ptr 5 y9 []]::uS 4 ([.af (.sl 87 y9) b []]::[tI c]::[tI d]::uS 10 []))),nS 5 ((some ⟨y9,e,[]⟩)::nS 17 [])⟩ J
def GC(a:Bool)(b:aA):State:=⟨uS 4 ([.ptr 5 y9 []]::[tB a]::uS 16 []),nS 5 ((some ⟨y9,b,[]⟩)::nS 17 [])⟩
def GD(a:aA):State:=⟨uS 4 ([.ptr 5 y9 []]::uS 17 []),nS 5 ((some ⟨y9,a,[]⟩)::nS 17 [])⟩
def Kp:KX R:=(zd 0 (aS AE (mW R) kk (sub [1,1] (cd Tryz.f73)) (aW AE Tryz.f73.results.toList none K)))
theorem ZR(a:Int)(b:dv)(c d:Int)(e:aA):yD R kk (k+1) J a b c d e=
 Kq a b c d e (fun a0 a1=>J .ret (GC a0 a1)) (yD R kk k J) (fun a0=>J (.exit 0) (GD a0)):=by kernel_rfl
theorem VU(a:Bool)(b:aA):Kp R kk K .ret (GC a b)=
 Kr a b (fun a0 a1=>K [.af y9 a0 [],tB a1] none):=by kernel_rfl
theorem VV(a:aA):Kp R kk K (.exit 0) (GD a)=
 Ks a (fun a0 a1=>K [.af y9 a0 [],tB a1] none):=by kernel_rfl
theorem X5{kk:Nat}(hF:kk=aq)(dC:Int)(t9:dv)(t10 t11:Int)(bZ:aA):yD R kk k J dC t9 t10 t11 bZ=(yE k dC t9 t10 t11 bZ).bind fun e=>(Sum.elim (fun(we:(Bool×aA))=>J .ret (GC we.1 we.2)) (fun(we:aA)=>J (.exit 0) (GD we)) e):=by
 induction k generalizing dC t9 t10 t11 bZ with
 |zero=>rfl
 |succ k ih=>
  rw[ZR]
  simp only[yE,Kq,ih,aE]
def mX:ae:=mW.add 73 [aO,(.int .i64)] (cE aO (.int .i64) er (fun _ r K=>K [.af y9 r.1 [],tB r.2] none))
theorem Su:aL Tryz.prog mX:=cF AE Tryz.f73 (fun R kk x0 x1 K=>zip x0 x1 (yD R kk kk (Kp R kk K))) St (ek _ _ _ _) Tryz.func73 (by kernel_rfl) rfl (fun _ _ _ _ _ _ h=>h _ _) (fun _ _ _ _ _=>by kernel_rfl) fun R kk e x0 x1 K=>by
 simp only[er,zip,Kr,Ks,X5 (hF:=e),VU,VV,aE,<-e]
def AH:Env:=bD.env (fun i=>bif Nat.beq i 2 then [0,1,7,8] else []) (fun i=>bif Nat.beq i 2 then [4] else []) [] [(.sl 3 (.int .i64)),(.int .i64)]
def yJ(a:(List Int))(b c d:Int):Option R:=az (ev AH (mX R) kk (sub [1,0,1,0,0] (cd Tryz.f188))) [0,1,7,8] [4] k ⟨[.af (.sl 3 (.int .i64)) a []]::[tI b]::uS 5 ([tI c]::[tI d]::uS 10 []),nS 20 []⟩ J
def GJ(a:Int):State:=⟨uS 4 ([tI a]::uS 14 []),nS 20 []⟩
def GK:State:=⟨uS 19 [],nS 20 []⟩
def KG:KX R:=(zd 0 (aS AH (mX R) kk (sub [1,1] (cd Tryz.f188)) (aW AH Tryz.f188.results.toList none K)))
theorem ZU(a:(List Int))(b c d:Int):yJ R kk (k+1) J a b c d=
 KI a b c d (fun a0=>J .ret (GJ a0)) (yJ R kk k J) (J (.exit 0) (GK)):=by kernel_rfl
theorem V0(a:Int):KG R kk K .ret (GJ a)=
 KJ a (fun a0=>K [tI a0] none):=by kernel_rfl
theorem V1:KG R kk K (.exit 0) (GK)=
 KK (fun a0=>K [tI a0] none):=by kernel_rfl
theorem X8{kk:Nat}(hF:kk=aq)(ij:(List Int))(BE t7 t8:Int):yJ R kk k J ij BE t7 t8=(yK k ij BE t7 t8).bind fun e=>(Sum.elim (fun(we:Int)=>J .ret (GJ we)) (fun(we:Unit)=>J (.exit 0) (GK)) e):=by
 induction k generalizing ij BE t7 t8 with
 |zero=>rfl
 |succ k ih=>
  rw[ZU]
  simp only[yK,KI,ih,aE]
def tV:ae:=mX.add 188 [(.sl 3 (.int .i64)),(.int .i64)] (cE (.sl 3 (.int .i64)) (.int .i64) qf (fun _ r K=>K [tI r] none))
theorem Sv:aL Tryz.prog tV:=cF AH Tryz.f188 (fun R kk x0 x1 K=>KH x0 x1 (yJ R kk kk (KG R kk K))) Su (ek _ _ _ _) Tryz.func188 (by kernel_rfl) rfl (fun _ _ _ _ _ _ h=>h _ _) (fun _ _ _ _ _=>by kernel_rfl) fun R kk e x0 x1 K=>by
 simp only[qf,KH,KJ,KK,X8 (hF:=e),V0,V1,aE,<-e]
def EK:Env:=e0 [(.sl 3 (.int .i64)),(.int .i64)]
def tW:ae:=tV.add 132 [(.sl 3 (.int .i64)),(.int .i64)] (cE (.sl 3 (.int .i64)) (.int .i64) qb (fun _ r K=>K [tB r] none))
theorem Sw:aL Tryz.prog tW:=cF EK Tryz.f132 (fun R kk x0 x1 K=>Ku x0 x1 (fun a0=>K [tB a0] none)) Sv (ek _ _ _ _) Tryz.func132 (by kernel_rfl) rfl (fun _ _ _ _ _ _ h=>h _ _) (fun _ _ _ _ _=>by kernel_rfl) fun R kk e x0 x1 K=>by
 simp only[qb,Ku,aE]
def Et:Env:=e0 [bT,(.int .i64)]
def tX:ae:=tW.add 74 [bT,(.int .i64)] (cE bT (.int .i64) p6 (fun _ r K=>K [tI r] none))
theorem Sx:aL Tryz.prog tX:=cF Et Tryz.f74 (fun R kk x0 x1 K=>JS x0 x1 (fun a0=>K [tI a0] none)) Sw (ek _ _ _ _) Tryz.func74 (by kernel_rfl) rfl (fun _ _ _ _ _ _ h=>h _ _) (fun _ _ _ _ _=>by kernel_rfl) fun R kk e x0 x1 K=>by
 simp only[p6,JS,aE]
def Es:Env:=e0 [(.pair (.int .i64) (.pair .str .unit)),.unit]
def mY:ae:=tX.add 134 [(.pair (.int .i64) (.pair .str .unit)),.unit] (pz (.pair (.int .i64) (.pair .str .unit)) (.pair (.int .i64) (.pair .str .unit)) (.pair (.int .i64) (.pair .str .unit)) [] p5 (fun _ r K=>K [tB r.1] (some ⟨(.pair (.int .i64) (.pair .str .unit)),r.2,[]⟩)))
theorem Sy:aL Tryz.prog mY:=sz Es Tryz.f134 (fun R kk x0 x1 K=>JR x0 x1 (fun a0 a1=>K [tB a0] (some ⟨(.pair (.int .i64) (.pair .str .unit)),a1,[]⟩))) Sx (ek _ _ _ _) Tryz.func134 (by kernel_rfl) rfl (fun _ _ _ _ _ _ h=>h _ _) (fun _ _ _ _ _=>by kernel_rfl) fun R kk e x0 x1 K=>by
 simp only[p5,JR,aE]
def AF:Env:=bD.env (fun i=>bif Nat.beq i 2 then [0,1,7,8] else []) (fun i=>bif Nat.beq i 2 then [4] else []) [] [(.sl 96 (.pair (.int .i64) (.pair .str .unit))),.unit]
def yF(a:al)(b c:Int)(d:bM):Option R:=az (ev AF (mY R) kk (sub [1,0,1,0,0] (cd Tryz.f189))) [0,1,7,8] [4] k ⟨[.af (.sl 96 (.pair (.int .i64) (.pair .str .unit))) a []]::[.ptr 0 (.aP (.j7 134) (.pair (.int .i64) (.pair .str .unit)) .unit) []]::uS 5 ([tI b]::[tI c]::uS 10 []),(some ⟨(.pair (.int .i64) (.pair .str .unit)),d,[]⟩)::nS 19 []⟩ J
def GF(a:Int)(b:bM):State:=⟨uS 4 ([tI a]::uS 14 []),(some ⟨(.pair (.int .i64) (.pair .str .unit)),b,[]⟩)::nS 19 []⟩
def GG(a:bM):State:=⟨uS 19 [],(some ⟨(.pair (.int .i64) (.pair .str .unit)),a,[]⟩)::nS 19 []⟩
def Kv(a:bM):KX R:=(zd 0 (aS AF (mY R) kk (sub [1,1] (cd Tryz.f189)) (aW AF Tryz.f189.results.toList (some ⟨(.pair (.int .i64) (.pair .str .unit)),a,[]⟩) K)))
theorem ZS(a:al)(b c:Int)(d:bM):yF R kk (k+1) J a b c d=
 Kx a b c d (fun a0 a1=>J .ret (GF a0 a1)) (yF R kk k J) (fun a0=>J (.exit 0) (GG a0)):=by kernel_rfl
theorem VW(a:bM)(b:Int)(c:bM):Kv R kk K a .ret (GF b c)=
 Ky b c (fun a0 a1=>K [tI a0] (some ⟨(.pair (.int .i64) (.pair .str .unit)),a1,[]⟩)):=by kernel_rfl
theorem VX(a b:bM):Kv R kk K a (.exit 0) (GG b)=
 Kz b (fun a0 a1=>K [tI a0] (some ⟨(.pair (.int .i64) (.pair .str .unit)),a1,[]⟩)):=by kernel_rfl
theorem X6{kk:Nat}(hF:kk=aq)(ij:al)(t7 t8:Int)(recv:bM):yF R kk k J ij t7 t8 recv=(yG k ij t7 t8 recv).bind fun e=>(Sum.elim (fun(we:(Int×bM))=>J .ret (GF we.1 we.2)) (fun(we:bM)=>J (.exit 0) (GG we)) e):=by
 induction k generalizing ij t7 t8 recv with
 |zero=>rfl
 |succ k ih=>
  rw[ZS]
  simp only[yG,Kx,ih,aE]
def tY:ae:=mY.add 189 [(.sl 96 (.pair (.int .i64) (.pair .str .unit))),.unit] (pz (.sl 96 (.pair (.int .i64) (.pair .str .unit))) (.aP (.j7 134) (.pair (.int .i64) (.pair .str .unit)) .unit) (.pair (.int .i64) (.pair .str .unit)) [] qc (fun _ r K=>K [tI r.1] (some ⟨(.pair (.int .i64) (.pair .str .unit)),r.2,[]⟩)))
theorem Sz:aL Tryz.prog tY:=sz AF Tryz.f189 (fun R kk x0 x1 K=>Kw x0 x1 (yF R kk kk (Kv R kk K x1))) Sy (ek _ _ _ _) Tryz.func189 (by kernel_rfl) rfl (fun _ _ _ _ _ _ h=>h _ _) (fun _ _ _ _ _=>by kernel_rfl) fun R kk e x0 x1 K=>by
 simp only[qc,Kw,Ky,Kz,X6 (hF:=e),VW,VX,aE,<-e]
def EJ:Env:=e0 [(.sl 96 (.pair (.int .i64) (.pair .str .unit))),.unit]
def tZ:ae:=tY.add 133 [(.sl 96 (.pair (.int .i64) (.pair .str .unit))),.unit] (pz (.sl 96 (.pair (.int .i64) (.pair .str .unit))) (.aP (.j7 134) (.pair (.int .i64) (.pair .str .unit)) .unit) (.pair (.int .i64) (.pair .str .unit)) [] qa (fun _ r K=>K [tB r.1] (some ⟨(.pair (.int .i64) (.pair .str .unit)),r.2,[]⟩)))
theorem SA:aL Tryz.prog tZ:=sz EJ Tryz.f133 (fun R kk x0 x1 K=>Kt x0 x1 (fun a0 a1=>K [tB a0] (some ⟨(.pair (.int .i64) (.pair .str .unit)),a1,[]⟩))) Sz (ek _ _ _ _) Tryz.func133 (by kernel_rfl) rfl (fun _ _ _ _ _ _ h=>h _ _) (fun _ _ _ _ _=>by kernel_rfl) fun R kk e x0 x1 K=>by
 simp only[qa,Kt,aE]
def sS:Env:=e0 [(.int .u8)]
def mZ:ae:=tZ.add 212 [(.int .u8)] (cu (.int .u8) Bi (fun _ r K=>K [tI r] none))
theorem SB:aL Tryz.prog mZ:=cA sS Tryz.f212 (fun R kk x0 K=>L7 x0 (fun a0=>K [tI a0] none)) SA (ek _ _ _ _) Tryz.func212 (by kernel_rfl) rfl (fun _ _ _ _ _ _ h=>h _ _) (fun _ _ _ _=>by kernel_rfl) fun R kk e x0 K=>by
 simp only[Bi,L7,aE]
def iG:Env:=bD.env (fun i=>bif Nat.beq i 3 then [1,5,6] else []) (fun i=>bif Nat.beq i 3 then [4] else []) [] [(.int .i64),.str]
def Ai(a:ByteArray)(b c:Int):Option R:=az (ev iG (mZ R) kk (sub [1,1,0,1,0,0] (cd Tryz.f190))) [1,5,6] [4] k ⟨uS 1 ([tS a]::uS 3 ([tI b]::[tI c]::uS 16 [])),nS 24 []⟩ J
def Hj(a:Int):State:=⟨uS 4 ([tI a]::uS 18 []),nS 24 []⟩
def Hk:State:=⟨uS 23 [],nS 24 []⟩
def L1:KX R:=(zd 0 (aS iG (mZ R) kk (sub [1,1,1] (cd Tryz.f190)) (aW iG Tryz.f190.results.toList none K)))
theorem Ee(a:ByteArray)(b c:Int):Ai R kk (k+1) J a b c=
 L3 a b c (fun a0=>J .ret (Hj a0)) (Ai R kk k J) (J (.exit 0) (Hk)):=by kernel_rfl
theorem XF(a:Int):L1 R kk K .ret (Hj a)=
 L4 a (fun a0=>K [tI a0] none):=by kernel_rfl
theorem XG:L1 R kk K (.exit 0) (Hk)=
 L5 (fun a0=>K [tI a0] none):=by kernel_rfl
theorem Zv{kk:Nat}(hF:kk=aq)(DA:ByteArray)(t5 t6:Int):Ai R kk k J DA t5 t6=(Aj k DA t5 t6).bind fun e=>(Sum.elim (fun(we:Int)=>J .ret (Hj we)) (fun(we:Unit)=>J (.exit 0) (Hk)) e):=by
 induction k generalizing DA t5 t6 with
 |zero=>rfl
 |succ k ih=>
  rw[Ee]
  simp only[Aj,L3,ih,aE]
def ua:ae:=mZ.add 190 [(.int .i64),.str] (cE (.int .i64) .str Bg (fun _ r K=>K [tI r] none))
theorem SC:aL Tryz.prog ua:=cF iG Tryz.f190 (fun R kk x0 x1 K=>L2 x0 x1 (Ai R kk kk (L1 R kk K))) SB (ek _ _ _ _) Tryz.func190 (by kernel_rfl) rfl (fun _ _ _ _ _ _ h=>h _ _) (fun _ _ _ _ _=>by kernel_rfl) fun R kk e x0 x1 K=>by
 simp only[Bg,L2,L4,L5,Zv (hF:=e),XF,XG,aE,<-e]
def ET:Env:=e0 [(.int .i64)]
def ub:ae:=ua.add 227 [(.int .i64)] (cu (.int .i64) kA (fun _ r K=>K [tB r] none))
theorem SD:aL Tryz.prog ub:=cA ET Tryz.f227 (fun R kk x0 K=>K4 x0 (fun a0=>K [tB a0] none)) SC (ek _ _ _ _) Tryz.func227 (by kernel_rfl) rfl (fun _ _ _ _ _ _ h=>h _ _) (fun _ _ _ _=>by kernel_rfl) fun R kk e x0 K=>by
 simp only[kA,K4,aE]
def ES:Env:=e0 [(.int .i64)]
def uc:ae:=ub.add 228 [(.int .i64)] (cu (.int .i64) qo (fun _ r K=>K [tB r] none))
theorem SE:aL Tryz.prog uc:=cA ES Tryz.f228 (fun R kk x0 K=>K3 x0 (fun a0=>K [tB a0] none)) SD (ek _ _ _ _) Tryz.func228 (by kernel_rfl) rfl (fun _ _ _ _ _ _ h=>h _ _) (fun _ _ _ _=>by kernel_rfl) fun R kk e x0 K=>by
 simp only[qo,K3,aE]
def z124:Env:=e0 [.str,(.int .i64)]
def ud:ae:=uc.add 213 [.str,(.int .i64)] (cE .str (.int .i64) qn (fun _ r K=>K [tI r.1,tI r.2.1,tI r.2.2] none))
theorem SF:aL Tryz.prog ud:=cF z124 Tryz.f213 (fun R kk x0 x1 K=>K2 x0 x1 (fun a0 a1 a2=>K [tI a0,tI a1,tI a2] none)) SE (ek _ _ _ _) Tryz.func213 (by kernel_rfl) rfl (fun _ _ _ _ _ _ h=>h _ _) (fun _ _ _ _ _=>by kernel_rfl) fun R kk e x0 x1 K=>by
 simp only[qn,K2,aE]
def Bs:Env:=e0 [(.int .i64)]
def m3:ae:=ud.add 229 [(.int .i64)] (cu (.int .i64) Q4 (fun _ r K=>K [tI r] none))
theorem SG:aL Tryz.prog m3:=cA Bs Tryz.f229 (fun R kk x0 K=>kG x0 (fun a0=>K [tI a0] none)) SF (ek _ _ _ _) Tryz.func229 (by kernel_rfl) rfl (fun _ _ _ _ _ _ h=>h _ _) (fun _ _ _ _=>by kernel_rfl) fun R kk e x0 K=>by
 simp only[Q4,kG,aE]
def mI:Env:=bD.env (fun i=>bif Nat.beq i 14 then [0,1,7,8,44,45] else []) (fun i=>bif Nat.beq i 14 then [1,7,8] else []) [] [.str,(.int .i64)]
def iQ(a:ByteArray)(b c d e f:Int):Option R:=az (ev mI (m3 R) kk (sub [1,1,1,1,1,1,1,0,1,0,0] (cd Tryz.f214))) [0,1,7,8,44,45] [1,7,8] k ⟨[tS a]::[tI b]::uS 5 ([tI c]::[tI d]::uS 35 ([tI e]::[tI f]::uS 21 [])),nS 68 []⟩ J
def LL(a b c:Int):State:=⟨uS 1 ([tI a]::uS 5 ([tI b]::[tI c]::uS 58 [])),nS 68 []⟩
def ob:KX R:=(zd 0 (aS mI (m3 R) kk (sub [1,1,1,1,1,1,1,1] (cd Tryz.f214)) (aW mI Tryz.f214.results.toList none K)))
theorem tk(a:ByteArray)(b c d e f:Int):iQ R kk (k+1) J a b c d e f=
 kE a b c d e f (iQ R kk k J) (fun a0 a1 a2=>J (.exit 0) (LL a0 a1 a2)):=by kernel_rfl
theorem z107(a b c:Int):ob R kk K (.exit 0) (LL a b c)=
 kF a b c (fun a0 a1 a2=>K [tI a0,tI a1,tI a2] none):=by kernel_rfl
theorem E2{kk:Nat}(hF:kk=aq)(kS:ByteArray)(qB t7 t8 t44 t45:Int):iQ R kk k J kS qB t7 t8 t44 t45=(iR k kS qB t7 t8 t44 t45).bind fun e=>J (.exit 0) (LL e.1 e.2.1 e.2.2):=by
 induction k generalizing kS qB t7 t8 t44 t45 with
 |zero=>rfl
 |succ k ih=>
  rw[tk]
  simp only[iR,kE,ih,aE]
def m4:ae:=m3.add 214 [.str,(.int .i64)] (cE .str (.int .i64) Q3 (fun _ r K=>K [tI r.1,tI r.2.1,tI r.2.2] none))
theorem SH:aL Tryz.prog m4:=cF mI Tryz.f214 (fun R kk x0 x1 K=>gy x0 x1 (fun a0 a1 a2=>K [tI a0,tI a1,tI a2] none) (fun a0 a1 a2 a3 a4 a5=>iQ R kk kk (ob R kk K) a0 a1 a2 a3 a4 a5)) SG (ek _ _ _ _) Tryz.func214 (by kernel_rfl) rfl (fun _ _ _ _ _ _ h=>h _ _) (fun _ _ _ _ _=>by kernel_rfl) fun R kk e x0 x1 K=>by
 simp only[Q3,UC,kF,E2 (hF:=e),z107,aE,<-e]
def AO:Env:=bD.env (fun i=>bif Nat.beq i 4 then [0,5,6,7,13] else []) (fun i=>bif Nat.beq i 4 then [2,3,4,5] else []) [] [.str]
def yS(a:ByteArray)(b:al)(c:Int)(d:qy):Option R:=az (ev AO (m4 R) kk (sub [1,1,1,0,1,0,0] (cd Tryz.f191))) [0,5,6,7,13] [2,3,4,5] k ⟨[tS a]::uS 4 ([.af (.sl 245 (.pair (.int .i64) (.pair .str .unit))) b [[]]]::[.ptr 14 (.aP .mp (.int .i64) .bool) []]::[tI c]::uS 5 ([.ptr 14 (.aP .mp (.int .i64) .bool) []]::uS 58 [])),nS 14 ((some ⟨(.aP .mp (.int .i64) .bool),d,[]⟩)::nS 58 [])⟩ J
def GQ(a:al)(b c:Int)(d:al):State:=⟨uS 2 ([.af (.sl 245 (.pair (.int .i64) (.pair .str .unit))) a [[]]]::[tI b]::[tI c]::[.af (.sl 245 (.pair (.int .i64) (.pair .str .unit))) d [[]]]::uS 66 []),nS 73 []⟩
def GR(a:al):State:=⟨uS 5 ([.af (.sl 245 (.pair (.int .i64) (.pair .str .unit))) a [[]]]::uS 66 []),nS 73 []⟩
def K5:KX R:=(zd 0 (aS AO (m4 R) kk (sub [1,1,1,1] (cd Tryz.f191)) (aW AO Tryz.f191.results.toList none K)))
theorem ZZ(a:ByteArray)(b:al)(c:Int)(d:qy):yS R kk (k+1) J a b c d=
 K7 a b c d (fun a0 a1 a2 a3=>J .ret (GQ a0 a1 a2 a3)) (yS R kk k J) (fun a0=>J (.exit 0) (GR a0)):=by kernel_rfl
theorem V6(a:al)(b c:Int)(d:al):K5 R kk K .ret (GQ a b c d)=
 K8 a b c d (fun a0 a1 a2=>K [.af (.sl 245 (.pair (.int .i64) (.pair .str .unit))) a0 [[]],tI a1,tI a2] none):=by kernel_rfl
theorem V7(a:al):K5 R kk K (.exit 0) (GR a)=
 K9 a (fun a0 a1 a2=>K [.af (.sl 245 (.pair (.int .i64) (.pair .str .unit))) a0 [],tI a1,tI a2] none):=by kernel_rfl
theorem Ye{kk:Nat}(hF:kk=aq)(kS:ByteArray)(t5:al)(t7:Int)(dw:qy):yS R kk k J kS t5 t7 dw=(yT k kS t5 t7 dw).bind fun e=>(Sum.elim (fun(we:kR)=>J .ret (GQ we.1 we.2.1 we.2.2.1 we.2.2.2)) (fun(we:al)=>J (.exit 0) (GR we)) e):=by
 induction k generalizing kS t5 t7 dw with
 |zero=>rfl
 |succ k ih=>
  rw[ZZ]
  simp only[yT,K7,ih,aE]
def ue:ae:=m4.add 191 [.str] (cu .str qp (fun _ r K=>(Sum.elim (fun(wr:fg)=>K [.af (.sl 245 (.pair (.int .i64) (.pair .str .unit))) wr.1 [[]],tI wr.2.1,tI wr.2.2] none) (fun(wr:fg)=>K [.af (.sl 245 (.pair (.int .i64) (.pair .str .unit))) wr.1 [],tI wr.2.1,tI wr.2.2] none) r)))
theorem SI:aL Tryz.prog ue:=cA AO Tryz.f191 (fun R kk x0 K=>K6 x0 (yS R kk kk (K5 R kk K))) SH (ek _ _ _ _) Tryz.func191 (by kernel_rfl) rfl (fun _ _ _ _ _ _ h=>D5 (fun _=>h _ _) (fun _=>h _ _)) (fun _ _ _ _=>by kernel_rfl) fun R kk e x0 K=>by
 simp only[qp,K6,K8,K9,Ye (hF:=e),V6,V7,aE,<-e]
def EM:Env:=e0 [y9,.str]
def uf:ae:=ue.add 135 [y9,.str] (cE y9 .str bU (fun _ r K=>K [tI r] none))
theorem SJ:aL Tryz.prog uf:=cF EM Tryz.f135 (fun R kk x0 x1 K=>KL x0 x1 (fun a0=>K [tI a0] none)) SI (ek _ _ _ _) Tryz.func135 (by kernel_rfl) rfl (fun _ _ _ _ _ _ h=>h _ _) (fun _ _ _ _ _=>by kernel_rfl) fun R kk e x0 x1 K=>by
 simp only[bU,KL,aE]
def Er:Env:=e0 [bT,(.int .i64),y9]
def jE:ae:=uf.add 75 [bT,(.int .i64),y9] (fI bT (.int .i64) y9 p4 (fun _ r K=>K [tI r] none))
theorem SK:aL Tryz.prog jE:=gf Er Tryz.f75 (fun R kk x0 x1 x2 K=>JQ x0 x1 x2 (fun a0=>K [tI a0] none)) SJ (ek _ _ _ _) Tryz.func75 (by kernel_rfl) rfl (fun _ _ _ _ _ _ h=>h _ _) (fun _ _ _ _ _ _=>by kernel_rfl) fun R kk e x0 x1 x2 K=>by
 simp only[p4,JQ,aE]
def rM:Env:=bD.env (fun i=>bif Nat.beq i 8 then [1,7,33,34] else bif Nat.beq i 16 then [1,7,11,46,47,48] else []) (fun i=>bif Nat.beq i 8 then [1,2,3,4,7] else bif Nat.beq i 16 then [1,2,3,4,11] else []) [] [bT]
def yj(a b:Int)(c:ap)(d:aA):Option R:=az (ev rM (jE R) kk (sub [1,1,1,1,0,1,0,0] (cd Tryz.f30))) [1,7,33,34] [1,2,3,4,7] k ⟨uS 1 ([.ptr 2 bT []]::uS 5 ([.ptr 8 y9 []]::uS 25 ([tI a]::[tI b]::uS 38 []))),nS 2 ((some ⟨bT,c,[]⟩)::nS 5 ((some ⟨y9,d,[]⟩)::nS 65 []))⟩ J
def Gj(a b c:Int)(d:ap)(e:aA):State:=⟨uS 1 ([.ptr 2 bT []]::[tI a]::[tI b]::[tI c]::uS 2 ([.ptr 8 y9 []]::uS 65 [])),nS 2 ((some ⟨bT,d,[]⟩)::nS 5 ((some ⟨y9,e,[]⟩)::nS 65 []))⟩
def Gk(a:ap)(b:aA):State:=⟨uS 1 ([.ptr 2 bT []]::uS 5 ([.ptr 8 y9 []]::uS 65 [])),nS 2 ((some ⟨bT,a,[]⟩)::nS 5 ((some ⟨y9,b,[]⟩)::nS 65 []))⟩
def Jy:KX R:=(zd 0 (aS rM (jE R) kk (sub [1,1,1,1,1] (cd Tryz.f30)) (aW rM Tryz.f30.results.toList none K)))
def yk(a:Bool)(b:al)(c d:Int)(e:ap)(f:aA):Option R:=az (ev rM (jE R) kk (sub [1,1,1,1,1,1,0,1,0,0] (cd Tryz.f30))) [1,7,11,46,47,48] [1,2,3,4,11] k ⟨uS 1 ([.ptr 2 bT []]::uS 5 ([.ptr 8 y9 []]::uS 3 ([tB a]::uS 34 ([.af (.sl 96 (.pair (.int .i64) (.pair .str .unit))) b []]::[tI c]::[tI d]::uS 24 [])))),nS 2 ((some ⟨bT,e,[]⟩)::nS 5 ((some ⟨y9,f,[]⟩)::nS 65 []))⟩ J
def Gl(a b c:Int)(d:Bool)(e:ap):State:=⟨uS 1 ([.ptr 2 bT []]::[tI a]::[tI b]::[tI c]::uS 6 ([tB d]::uS 61 [])),nS 2 ((some ⟨bT,e,[]⟩)::nS 71 [])⟩
def Gm(a:Bool)(b:ap):State:=⟨uS 1 ([.ptr 2 bT []]::uS 9 ([tB a]::uS 61 [])),nS 2 ((some ⟨bT,b,[]⟩)::nS 71 [])⟩
def Jz:KX R:=(zd 2 (aS rM (jE R) kk (sub [1,1,1,1,1,1,1] (cd Tryz.f30)) (aW rM Tryz.f30.results.toList none K)))
theorem ZG(a b:Int)(c:ap)(d:aA):yj R kk (k+1) J a b c d=
 JB a b c d (fun a0 a1 a2 a3 a4=>J .ret (Gj a0 a1 a2 a3 a4)) (yj R kk k J) (fun a0 a1=>J (.exit 0) (Gk a0 a1)):=by kernel_rfl
theorem VE(a b c:Int)(d:ap)(e:aA):Jy R kk K .ret (Gj a b c d e)=
 JC a b c d e (fun a0 a1 a2=>K [tI a0,tI a1,tI a2] none):=by kernel_rfl
theorem VF(a:ap)(b:aA):Jy R kk K (.exit 0) (Gk a b)=
 JD a b (yk R kk kk (Jz R kk K)):=by kernel_rfl
theorem ZH(a:Bool)(b:al)(c d:Int)(e:ap)(f:aA):yk R kk (k+1) J a b c d e f=
 JE a b c d e f (fun a0 a1 a2 a3 a4=>J .ret (Gl a0 a1 a2 a3 a4)) (yk R kk k J) (fun a0 a1=>J (.exit 2) (Gm a0 a1)):=by kernel_rfl
theorem VG(a b c:Int)(d:Bool)(e:ap):Jz R kk K .ret (Gl a b c d e)=
 JF a b c d e (fun a0 a1 a2=>K [tI a0,tI a1,tI a2] none):=by kernel_rfl
theorem VH(a:Bool)(b:ap):Jz R kk K (.exit 2) (Gm a b)=
 JG a b (fun a0 a1 a2=>K [tI a0,tI a1,tI a2] none):=by kernel_rfl
theorem XS{kk:Nat}(hF:kk=aq)(t33 t34:Int)(eG:ap)(eI:aA):yj R kk k J t33 t34 eG eI=(yl k t33 t34 eG eI).bind fun e=>(Sum.elim (fun(we:(Int×Int×Int×ap×aA))=>J .ret (Gj we.1 we.2.1 we.2.2.1 we.2.2.2.1 we.2.2.2.2)) (fun(we:(ap×aA))=>J (.exit 0) (Gk we.1 we.2)) e):=by
 induction k generalizing t33 t34 eG eI with
 |zero=>rfl
 |succ k ih=>
  rw[ZG]
  simp only[yl,JB,ih,aE]
theorem XT{kk:Nat}(hF:kk=aq)(t11:Bool)(t46:al)(t47 t48:Int)(eG:ap)(eI:aA):yk R kk k J t11 t46 t47 t48 eG eI=(ym k t11 t46 t47 t48 eG eI).bind fun e=>(Sum.elim (fun(we:(Int×Int×Int×Bool×ap))=>J .ret (Gl we.1 we.2.1 we.2.2.1 we.2.2.2.1 we.2.2.2.2)) (fun(we:(Bool×ap))=>J (.exit 2) (Gm we.1 we.2)) e):=by
 induction k generalizing t11 t46 t47 t48 eG eI with
 |zero=>rfl
 |succ k ih=>
  rw[ZH]
  simp only[ym,JE,ih,aE]
def m5:ae:=jE.add 30 [bT] (cu bT pZ (fun _ r K=>K [tI r.1,tI r.2.1,tI r.2.2] none))
theorem SL:aL Tryz.prog m5:=cA rM Tryz.f30 (fun R kk x0 K=>JA x0 (fun a0 a1 a2=>K [tI a0,tI a1,tI a2] none) (yj R kk kk (Jy R kk K))) SK (ek _ _ _ _) Tryz.func30 (by kernel_rfl) rfl (fun _ _ _ _ _ _ h=>h _ _) (fun _ _ _ _=>by kernel_rfl) fun R kk e x0 K=>by
 simp only[pZ,JA,JC,JD,JF,JG,XS (hF:=e),XT (hF:=e),VE,VF,VG,VH,aE,<-e]
def iM:Env:=bD.env (fun i=>bif Nat.beq i 2 then [6] else []) (fun i=>bif Nat.beq i 2 then [2] else []) [] [.str]
def AW(a:jk):Option R:=az (ev iM (m5 R) kk (sub [1,0,1,0,0] (cd Tryz.f199))) [6] [2] k ⟨uS 6 ([.ptr 7 (.aP .iter .unit .unit) []]::uS 9 []),nS 7 ((some ⟨(.aP .iter .unit .unit),a,[]⟩)::nS 9 [])⟩ J
def Hq(a:Bool):State:=⟨uS 2 ([tB a]::uS 13 []),nS 17 []⟩
def Hr:State:=⟨uS 16 [],nS 17 []⟩
def Mq:KX R:=(zd 0 (aS iM (m5 R) kk (sub [1,1] (cd Tryz.f199)) (aW iM Tryz.f199.results.toList none K)))
theorem EY(a:jk):AW R kk (k+1) J a=
 Ms a (fun a0=>J .ret (Hq a0)) (AW R kk k J) (J (.exit 0) (Hr)):=by kernel_rfl
theorem Yo(a:Bool):Mq R kk K .ret (Hq a)=
 Mt a (fun a0=>K [tB a0] none):=by kernel_rfl
theorem Yp:Mq R kk K (.exit 0) (Hr)=
 Mu (fun a0=>K [tB a0] none):=by kernel_rfl
theorem DK{kk:Nat}(hF:kk=aq)(dw:jk):AW R kk k J dw=(AX k dw).bind fun e=>(Sum.elim (fun(we:Bool)=>J .ret (Hq we)) (fun(we:Unit)=>J (.exit 0) (Hr)) e):=by
 induction k generalizing dw with
 |zero=>rfl
 |succ k ih=>
  rw[EY]
  simp only[AX,Ms,ih,aE]
def ug:ae:=m5.add 199 [.str] (cu .str rR (fun _ r K=>K [tB r] none))
theorem SM:aL Tryz.prog ug:=cA iM Tryz.f199 (fun R kk x0 K=>Mr x0 (AW R kk kk (Mq R kk K))) SL (ek _ _ _ _) Tryz.func199 (by kernel_rfl) rfl (fun _ _ _ _ _ _ h=>h _ _) (fun _ _ _ _=>by kernel_rfl) fun R kk e x0 K=>by
 simp only[rR,Mr,Mt,Mu,DK (hF:=e),Yo,Yp,aE,<-e]
def Ek:Env:=e0 [.str]
def uh:ae:=ug.add 153 [.str] (cu .str kq (fun _ r K=>K [tB r] none))
theorem SN:aL Tryz.prog uh:=cA Ek Tryz.f153 (fun R kk x0 K=>Jm x0 (fun a0=>K [tB a0] none)) SM (ek _ _ _ _) Tryz.func153 (by kernel_rfl) rfl (fun _ _ _ _ _ _ h=>h _ _) (fun _ _ _ _=>by kernel_rfl) fun R kk e x0 K=>by
 simp only[kq,Jm,aE]
def z119:Env:=e0 [.str]
def ui:ae:=uh.add 136 [.str] (cu .str fQ (fun _ r K=>K [tI r.1,tB r.2] none))
theorem SO:aL Tryz.prog ui:=cA z119 Tryz.f136 (fun R kk x0 K=>Jn x0 (fun a0 a1=>K [tI a0,tB a1] none)) SN (ek _ _ _ _) Tryz.func136 (by kernel_rfl) rfl (fun _ _ _ _ _ _ h=>h _ _) (fun _ _ _ _=>by kernel_rfl) fun R kk e x0 K=>by
 simp only[fQ,Jn,aE]
def z116:Env:=e0 [.str]
def uk:ae:=ui.add 137 [.str] (cu .str kp (fun _ r K=>K [tB r] none))
theorem SP:aL Tryz.prog uk:=cA z116 Tryz.f137 (fun R kk x0 K=>Jk x0 (fun a0=>K [tB a0] none)) SO (ek _ _ _ _) Tryz.func137 (by kernel_rfl) rfl (fun _ _ _ _ _ _ h=>h _ _) (fun _ _ _ _=>by kernel_rfl) fun R kk e x0 K=>by
 simp only[kp,Jk,aE]
def EX:Env:=e0 [(.pair .str (.pair .str .unit)),aO,aO]
def um:ae:=uk.add 76 [(.pair .str (.pair .str .unit)),aO,aO] (fI (.pair .str (.pair .str .unit)) aO aO qv (fun _ r K=>K [tB r] none))
theorem SQ:aL Tryz.prog um:=gf EX Tryz.f76 (fun R kk x0 x1 x2 K=>LK x0 x1 x2 (fun a0=>K [tB a0] none)) SP (ek _ _ _ _) Tryz.func76 (by kernel_rfl) rfl (fun _ _ _ _ _ _ h=>h _ _) (fun _ _ _ _ _ _=>by kernel_rfl) fun R kk e x0 x1 x2 K=>by
 simp only[qv,LK,aE]
def EG:Env:=bD.env (fun _=>[]) (fun _=>[]) [6,7] [cw,aO,aO]
def uo:ae:=um.add 138 [cw,aO,aO] (fI cw aO aO p9 (fun _ r K=>K [.af y9 r.1 [],.af y9 r.2.1 [],tI r.2.2] none))
theorem SR:aL Tryz.prog uo:=gf EG Tryz.f138 (fun R kk x0 x1 x2 K=>Kf x0 x1 x2 (fun a0 a1 a2=>K [.af y9 a0 [],.af y9 a1 [],tI a2] none)) SQ (ek _ _ _ _) Tryz.func138 (by kernel_rfl) rfl (fun _ _ _ _ _ _ h=>h _ _) (fun _ _ _ _ _ _=>by kernel_rfl) fun R kk e x0 x1 x2 K=>by
 simp only[p9,Kf,aE]
def sR:Env:=e0 [(.int .i64),(.int .i64)]
def uq:ae:=uo.add 210 [(.int .i64),(.int .i64)] (cE (.int .i64) (.int .i64) Bh (fun _ r K=>K [tB r] none))
theorem SS:aL Tryz.prog uq:=cF sR Tryz.f210 (fun R kk x0 x1 K=>L6 x0 x1 (fun a0=>K [tB a0] none)) SR (ek _ _ _ _) Tryz.func210 (by kernel_rfl) rfl (fun _ _ _ _ _ _ h=>h _ _) (fun _ _ _ _ _=>by kernel_rfl) fun R kk e x0 x1 K=>by
 simp only[Bh,L6,aE]
def EO:Env:=e0 [(.int .i64),(.int .i64)]
def ur:ae:=uq.add 185 [(.int .i64),(.int .i64)] (cE (.int .i64) (.int .i64) qg (fun _ r K=>K [tB r] none))
theorem SU:aL Tryz.prog ur:=cF EO Tryz.f185 (fun R kk x0 x1 K=>KN x0 x1 (fun a0=>K [tB a0] none)) SS (ek _ _ _ _) Tryz.func185 (by kernel_rfl) rfl (fun _ _ _ _ _ _ h=>h _ _) (fun _ _ _ _ _=>by kernel_rfl) fun R kk e x0 x1 K=>by
 simp only[qg,KN,aE]
def EN:Env:=e0 [y9,y9]
def uu:ae:=ur.add 127 [y9,y9] (cE y9 y9 gx (fun _ r K=>K [tB r] none))
theorem SW:aL Tryz.prog uu:=cF EN Tryz.f127 (fun R kk x0 x1 K=>KM x0 x1 (fun a0=>K [tB a0] none)) SU (ek _ _ _ _) Tryz.func127 (by kernel_rfl) rfl (fun _ _ _ _ _ _ h=>h _ _) (fun _ _ _ _ _=>by kernel_rfl) fun R kk e x0 x1 K=>by
 simp only[gx,KM,aE]
def EH:Env:=e0 [y9]
def m6:ae:=uu.add 139 [y9] (cu y9 ff (fun _ r K=>K [tB r] none))
theorem SX:aL Tryz.prog m6:=cA EH Tryz.f139 (fun R kk x0 K=>Kg x0 (fun a0=>K [tB a0] none)) SW (ek _ _ _ _) Tryz.func139 (by kernel_rfl) rfl (fun _ _ _ _ _ _ h=>h _ _) (fun _ _ _ _=>by kernel_rfl) fun R kk e x0 K=>by
 simp only[ff,Kg,aE]
def iK:Env:=bD.env (fun i=>bif Nat.beq i 5 then [4,10,11,12,13] else []) (fun i=>bif Nat.beq i 5 then [2,3] else []) [] [(.sl 116 (.pair .str (.pair .str .unit)))]
def AM(a:aw)(b c:Int)(d:dF):Option R:=az (ev iK (m6 R) kk (sub [1,1,1,0,1,0,0] (cd Tryz.f126))) [4,10,11,12,13] [2,3] k ⟨uS 4 ([.ptr 11 (.aP .mp .str .bool) []]::uS 5 ([.ptr 11 (.aP .mp .str .bool) []]::[.af (.sl 116 (.pair .str (.pair .str .unit))) a []]::[tI b]::[tI c]::uS 13 [])),nS 11 ((some ⟨(.aP .mp .str .bool),d,[]⟩)::nS 16 [])⟩ J
def Hn(a b:Int):State:=⟨uS 2 ([tI a]::[tI b]::uS 23 []),nS 28 []⟩
def Ho:State:=⟨uS 27 [],nS 28 []⟩
def Me:KX R:=(zd 0 (aS iK (m6 R) kk (sub [1,1,1,1] (cd Tryz.f126)) (aW iK Tryz.f126.results.toList none K)))
theorem ER(a:aw)(b c:Int)(d:dF):AM R kk (k+1) J a b c d=
 Mg a b c d (fun a0 a1=>J .ret (Hn a0 a1)) (AM R kk k J) (J (.exit 0) (Ho)):=by kernel_rfl
theorem Yc(a b:Int):Me R kk K .ret (Hn a b)=
 Mh a b (fun a0 a1=>K [tI a0,tI a1] none):=by kernel_rfl
theorem Yd:Me R kk K (.exit 0) (Ho)=
 Mi (fun a0 a1=>K [tI a0,tI a1] none):=by kernel_rfl
theorem ZY{kk:Nat}(hF:kk=aq)(t11:aw)(t12 t13:Int)(bZ:dF):AM R kk k J t11 t12 t13 bZ=(AN k t11 t12 t13 bZ).bind fun e=>(Sum.elim (fun(we:(Int×Int))=>J .ret (Hn we.1 we.2)) (fun(we:Unit)=>J (.exit 0) (Ho)) e):=by
 induction k generalizing t11 t12 t13 bZ with
 |zero=>rfl
 |succ k ih=>
  rw[ER]
  simp only[AN,Mg,ih,aE]
def m7:ae:=m6.add 126 [(.sl 116 (.pair .str (.pair .str .unit)))] (cu (.sl 116 (.pair .str (.pair .str .unit))) sW (fun _ r K=>K [tI r.1,tI r.2] none))
theorem SY:aL Tryz.prog m7:=cA iK Tryz.f126 (fun R kk x0 K=>Mf x0 (fun a0 a1=>K [tI a0,tI a1] none) (AM R kk kk (Me R kk K))) SX (ek _ _ _ _) Tryz.func126 (by kernel_rfl) rfl (fun _ _ _ _ _ _ h=>h _ _) (fun _ _ _ _=>by kernel_rfl) fun R kk e x0 K=>by
 simp only[sW,Mf,Mh,Mi,ZY (hF:=e),Yc,Yd,aE,<-e]
def AB:Env:=bD.env (fun i=>bif Nat.beq i 5 then [4,5,25,26,27] else []) (fun i=>bif Nat.beq i 5 then [6] else []) [] [(.sl 116 (.pair .str (.pair .str .unit))),y9,y9]
def yA(a:aw)(b c:Int)(d e:aA):Option R:=az (ev AB (m7 R) kk (sub [1,1,0,1,0,0] (cd Tryz.f140))) [4,5,25,26,27] [6] k ⟨uS 4 ([.ptr 5 y9 []]::[.ptr 6 y9 []]::uS 19 ([.af (.sl 116 (.pair .str (.pair .str .unit))) a []]::[tI b]::[tI c]::uS 18 [])),nS 5 ((some ⟨y9,d,[]⟩)::(some ⟨y9,e,[]⟩)::nS 40 [])⟩ J
def Gw(a:Int):State:=⟨uS 6 ([tI a]::uS 39 []),nS 47 []⟩
def Gx:State:=⟨uS 46 [],nS 47 []⟩
def Kh:KX R:=(zd 0 (aS AB (m7 R) kk (sub [1,1,1] (cd Tryz.f140)) (aW AB Tryz.f140.results.toList none K)))
theorem ZP(a:aw)(b c:Int)(d e:aA):yA R kk (k+1) J a b c d e=
 Kj a b c d e (fun a0=>J .ret (Gw a0)) (yA R kk k J) (J (.exit 0) (Gx)):=by kernel_rfl
theorem VQ(a:Int):Kh R kk K .ret (Gw a)=
 Kk a (fun a0=>K [tI a0] none):=by kernel_rfl
theorem VR:Kh R kk K (.exit 0) (Gx)=
 Kl (fun a0=>K [tI a0] none):=by kernel_rfl
theorem X3{kk:Nat}(hF:kk=aq)(t25:aw)(t26 t27:Int)(bZ cW:aA):yA R kk k J t25 t26 t27 bZ cW=(yB k t25 t26 t27 bZ cW).bind fun e=>(Sum.elim (fun(we:Int)=>J .ret (Gw we)) (fun(we:Unit)=>J (.exit 0) (Gx)) e):=by
 induction k generalizing t25 t26 t27 bZ cW with
 |zero=>rfl
 |succ k ih=>
  rw[ZP]
  simp only[yB,Kj,ih,aE]
def uv:ae:=m7.add 140 [(.sl 116 (.pair .str (.pair .str .unit))),y9,y9] (fI (.sl 116 (.pair .str (.pair .str .unit))) y9 y9 jA (fun _ r K=>K [tI r] none))
theorem SZ:aL Tryz.prog uv:=gf AB Tryz.f140 (fun R kk x0 x1 x2 K=>Ki x0 x1 x2 (fun a0=>K [tI a0] none) (yA R kk kk (Kh R kk K))) SY (ek _ _ _ _) Tryz.func140 (by kernel_rfl) rfl (fun _ _ _ _ _ _ h=>h _ _) (fun _ _ _ _ _ _=>by kernel_rfl) fun R kk e x0 x1 x2 K=>by
 simp only[jA,Ki,Kk,Kl,X3 (hF:=e),VQ,VR,aE,<-e]
def EF:Env:=e0 [cw,aO,aO]
def uw:ae:=uv.add 77 [cw,aO,aO] (fI cw aO aO p8 (fun _ r K=>K [tI r] none))
theorem S0:aL Tryz.prog uw:=gf EF Tryz.f77 (fun R kk x0 x1 x2 K=>Ke x0 x1 x2 (fun a0=>K [tI a0] none)) SZ (ek _ _ _ _) Tryz.func77 (by kernel_rfl) rfl (fun _ _ _ _ _ _ h=>h _ _) (fun _ _ _ _ _ _=>by kernel_rfl) fun R kk e x0 x1 x2 K=>by
 simp only[p8,Ke,aE]
def td:Env:=bD.env (fun _=>[]) (fun _=>[]) [4] [(.pair (.int .u64) (.pair (.int .u64) .unit)),(.pair (.int .u64) (.pair (.int .u64) .unit))]
def gA:ae:=uw.add 79 [(.pair (.int .u64) (.pair (.int .u64) .unit)),(.pair (.int .u64) (.pair (.int .u64) .unit))] (cE (.pair (.int .u64) (.pair (.int .u64) .unit)) (.pair (.int .u64) (.pair (.int .u64) .unit)) tc (fun _ r K=>K [.af (.pair (.int .u64) (.pair (.int .u64) .unit)) r []] none))
theorem S1:aL Tryz.prog gA:=cF td Tryz.f79 (fun R kk x0 x1 K=>MG x0 x1 (fun a0=>K [.af (.pair (.int .u64) (.pair (.int .u64) .unit)) a0 []] none)) S0 (ek _ _ _ _) Tryz.func79 (by kernel_rfl) rfl (fun _ _ _ _ _ _ h=>h _ _) (fun _ _ _ _ _=>by kernel_rfl) fun R kk e x0 x1 K=>by
 simp only[tc,MG,aE]
def mi:Env:=bD.env (fun i=>bif Nat.beq i 2 then [3,4,5,26,27,28] else bif Nat.beq i 12 then [3,4,5,13,46,48,49,50] else bif Nat.beq i 24 then [4,5,16,17,77,78,79] else []) (fun i=>bif Nat.beq i 2 then [3,4,5,6,7,8] else bif Nat.beq i 12 then [3,4,5,6,7,8] else bif Nat.beq i 24 then [6,7,8] else []) [] [bG,aO,aO]
def yW(a:ii)(b c:Int)(d:av)(e f:ag):Option R:=az (ev mi (gA R) kk (sub [1,0,1,0,0] (cd Tryz.f31))) [3,4,5,26,27,28] [3,4,5,6,7,8] k ⟨uS 3 ([.ptr 4 bG []]::[.ptr 5 aO []]::[.ptr 6 aO []]::uS 20 ([.af (.sl 24 aO) a [[]]]::[tI b]::[tI c]::uS 92 [])),nS 4 ((some ⟨bG,d,[]⟩)::(some ⟨aO,e,[]⟩)::(some ⟨aO,f,[]⟩)::nS 115 [])⟩ J
def GV(a b c:Int)(d:av)(e f:ag):State:=⟨uS 3 ([.ptr 4 bG []]::[.ptr 5 aO []]::[.ptr 6 aO []]::[tI a]::[tI b]::[tI c]::uS 112 []),nS 4 ((some ⟨bG,d,[]⟩)::(some ⟨aO,e,[]⟩)::(some ⟨aO,f,[]⟩)::nS 115 [])⟩
def GX(a:av)(b c:ag):State:=⟨uS 3 ([.ptr 4 bG []]::[.ptr 5 aO []]::[.ptr 6 aO []]::uS 115 []),nS 4 ((some ⟨bG,a,[]⟩)::(some ⟨aO,b,[]⟩)::(some ⟨aO,c,[]⟩)::nS 115 [])⟩
def Lf:KX R:=(zd 0 (aS mi (gA R) kk (sub [1,1] (cd Tryz.f31)) (aW mi Tryz.f31.results.toList none K)))
def yX(a:aw)(b c:Int)(d:av)(e f:ag)(g:dF):Option R:=az (ev mi (gA R) kk (sub [1,1,1,1,0,1,0,0] (cd Tryz.f31))) [3,4,5,13,46,48,49,50] [3,4,5,6,7,8] k ⟨uS 3 ([.ptr 4 bG []]::[.ptr 5 aO []]::[.ptr 6 aO []]::uS 7 ([.ptr 47 (.aP .mp .str .bool) []]::uS 32 ([.ptr 47 (.aP .mp .str .bool) []]::uS 1 ([.af (.sl 116 (.pair .str (.pair .str .unit))) a []]::[tI b]::[tI c]::uS 70 [])))),nS 4 ((some ⟨bG,d,[]⟩)::(some ⟨aO,e,[]⟩)::(some ⟨aO,f,[]⟩)::nS 40 ((some ⟨(.aP .mp .str .bool),g,[]⟩)::nS 74 []))⟩ J
def GY(a b c:Int)(d:av)(e f:ag):State:=⟨uS 3 ([.ptr 4 bG []]::[.ptr 5 aO []]::[.ptr 6 aO []]::[tI a]::[tI b]::[tI c]::uS 112 []),nS 4 ((some ⟨bG,d,[]⟩)::(some ⟨aO,e,[]⟩)::(some ⟨aO,f,[]⟩)::nS 115 [])⟩
def GZ(a:av)(b c:ag):State:=⟨uS 3 ([.ptr 4 bG []]::[.ptr 5 aO []]::[.ptr 6 aO []]::uS 115 []),nS 4 ((some ⟨bG,a,[]⟩)::(some ⟨aO,b,[]⟩)::(some ⟨aO,c,[]⟩)::nS 115 [])⟩
def Lg:KX R:=(zd 2 (aS mi (gA R) kk (sub [1,1,1,1,1] (cd Tryz.f31)) (aW mi Tryz.f31.results.toList none K)))
def yY(a:aR)(b c:Int)(d e:ag)(f g:aB):Option R:=az (ev mi (gA R) kk (sub [1,1,1,1,1,1,1,0,1,0,0] (cd Tryz.f31))) [4,5,16,17,77,78,79] [6,7,8] k ⟨uS 4 ([.ptr 5 aO []]::[.ptr 6 aO []]::uS 10 ([.ptr 17 (.pair (.int .u64) (.pair (.int .u64) .unit)) []]::[.ptr 18 (.pair (.int .u64) (.pair (.int .u64) .unit)) []]::uS 59 ([.af (.sl 59 cw) a []]::[tI b]::[tI c]::uS 41 []))),nS 5 ((some ⟨aO,d,[]⟩)::(some ⟨aO,e,[]⟩)::nS 10 ((some ⟨(.pair (.int .u64) (.pair (.int .u64) .unit)),f,[]⟩)::(some ⟨(.pair (.int .u64) (.pair (.int .u64) .unit)),g,[]⟩)::nS 103 []))⟩ J
def G0(a b c:Int):State:=⟨uS 6 ([tI a]::[tI b]::[tI c]::uS 112 []),nS 122 []⟩
def G1:State:=⟨uS 121 [],nS 122 []⟩
def Lh:KX R:=(zd 5 (aS mi (gA R) kk (sub [1,1,1,1,1,1,1,1] (cd Tryz.f31)) (aW mi Tryz.f31.results.toList none K)))
theorem Z2(a:ii)(b c:Int)(d:av)(e f:ag):yW R kk (k+1) J a b c d e f=
 Lj a b c d e f (fun a0 a1 a2 a3 a4 a5=>J .ret (GV a0 a1 a2 a3 a4 a5)) (yW R kk k J) (fun a0 a1 a2=>J (.exit 0) (GX a0 a1 a2)):=by kernel_rfl
theorem V9(a b c:Int)(d:av)(e f:ag):Lf R kk K .ret (GV a b c d e f)=
 Lk a b c d e f (fun a0 a1 a2=>K [tI a0,tI a1,tI a2] none):=by kernel_rfl
theorem Wa(a:av)(b c:ag):Lf R kk K (.exit 0) (GX a b c)=
 Ll a b c (fun a0 a1 a2=>K [tI a0,tI a1,tI a2] none) (yX R kk kk (Lg R kk K)):=by kernel_rfl
theorem Z3(a:aw)(b c:Int)(d:av)(e f:ag)(g:dF):yX R kk (k+1) J a b c d e f g=
 Lm a b c d e f g (fun a0 a1 a2 a3 a4 a5=>J .ret (GY a0 a1 a2 a3 a4 a5)) (yX R kk k J) (fun a0 a1 a2=>J (.exit 2) (GZ a0 a1 a2)):=by kernel_rfl
theorem Wb(a b c:Int)(d:av)(e f:ag):Lg R kk K .ret (GY a b c d e f)=
 Ln a b c d e f (fun a0 a1 a2=>K [tI a0,tI a1,tI a2] none):=by kernel_rfl
theorem Wc(a:av)(b c:ag):Lg R kk K (.exit 2) (GZ a b c)=
 Lo a b c (fun a0 a1 a2=>K [tI a0,tI a1,tI a2] none) (yY R kk kk (Lh R kk K)):=by kernel_rfl
theorem Z4(a:aR)(b c:Int)(d e:ag)(f g:aB):yY R kk (k+1) J a b c d e f g=
 Lp a b c d e f g (fun a0 a1 a2=>J .ret (G0 a0 a1 a2)) (yY R kk k J) (J (.exit 5) (G1)):=by kernel_rfl
theorem Wd(a b c:Int):Lh R kk K .ret (G0 a b c)=
 Lq a b c (fun a0 a1 a2=>K [tI a0,tI a1,tI a2] none):=by kernel_rfl
theorem We:Lh R kk K (.exit 5) (G1)=
 Lr (fun a0 a1 a2=>K [tI a0,tI a1,tI a2] none):=by kernel_rfl
theorem Yh{kk:Nat}(hF:kk=aq)(t26:ii)(t27 t28:Int)(bY:av)(bZ cW:ag):yW R kk k J t26 t27 t28 bY bZ cW=(yZ k t26 t27 t28 bY bZ cW).bind fun e=>(Sum.elim (fun(we:jI)=>J .ret (GV we.1 we.2.1 we.2.2.1 we.2.2.2.1 we.2.2.2.2.1 we.2.2.2.2.2)) (fun(we:jH)=>J (.exit 0) (GX we.1 we.2.1 we.2.2)) e):=by
 induction k generalizing t26 t27 t28 bY bZ cW with
 |zero=>rfl
 |succ k ih=>
  rw[Z2]
  simp only[yZ,Lj,ih,aE]
theorem Yi{kk:Nat}(hF:kk=aq)(t48:aw)(t49 t50:Int)(bY:av)(bZ cW:ag)(qF:dF):yX R kk k J t48 t49 t50 bY bZ cW qF=(zA k t48 t49 t50 bY bZ cW qF).bind fun e=>(Sum.elim (fun(we:jI)=>J .ret (GY we.1 we.2.1 we.2.2.1 we.2.2.2.1 we.2.2.2.2.1 we.2.2.2.2.2)) (fun(we:jH)=>J (.exit 2) (GZ we.1 we.2.1 we.2.2)) e):=by
 induction k generalizing t48 t49 t50 bY bZ cW qF with
 |zero=>rfl
 |succ k ih=>
  rw[Z3]
  simp only[zA,Lm,ih,aE]
theorem Yj{kk:Nat}(hF:kk=aq)(t77:aR)(t78 t79:Int)(bZ cW:ag)(eH qG:aB):yY R kk k J t77 t78 t79 bZ cW eH qG=(zB k t77 t78 t79 bZ cW eH qG).bind fun e=>(Sum.elim (fun(we:ig)=>J .ret (G0 we.1 we.2.1 we.2.2)) (fun(we:Unit)=>J (.exit 5) (G1)) e):=by
 induction k generalizing t77 t78 t79 bZ cW eH qG with
 |zero=>rfl
 |succ k ih=>
  rw[Z4]
  simp only[zB,Lp,ih,aE]
def m8:ae:=gA.add 31 [bG,aO,aO] (fI bG aO aO kC (fun _ r K=>K [tI r.1,tI r.2.1,tI r.2.2] none))
theorem S2:aL Tryz.prog m8:=gf mi Tryz.f31 (fun R kk x0 x1 x2 K=>Li x0 x1 x2 (yW R kk kk (Lf R kk K))) S1 (ek _ _ _ _) Tryz.func31 (by kernel_rfl) rfl (fun _ _ _ _ _ _ h=>h _ _) (fun _ _ _ _ _ _=>by kernel_rfl) fun R kk e x0 x1 x2 K=>by
 simp only[kC,Li,Lk,Ll,Ln,Lo,Lq,Lr,Yh (hF:=e),Yi (hF:=e),Yj (hF:=e),V9,Wa,Wb,Wc,Wd,We,aE,<-e]
def Av:Env:=bD.env (fun i=>bif Nat.beq i 4 then [1,22,23] else []) (fun i=>bif Nat.beq i 4 then [2,3,4] else []) [] [cc]
def yt(a:gB)(b:Int)(c:aD):Option R:=az (ev Av (m8 R) kk (sub [1,1,0,1,0,0] (cd Tryz.f11))) [1,22,23] [2,3,4] k ⟨uS 1 ([.ptr 2 cc []]::uS 20 ([.af (.arr 2 bT) a []]::[tI b]::uS 33 [])),nS 2 ((some ⟨cc,c,[]⟩)::nS 55 [])⟩ J
def Gs(a b c:Int):State:=⟨uS 2 ([tI a]::[tI b]::[tI c]::uS 52 []),nS 58 []⟩
def Gt:State:=⟨uS 57 [],nS 58 []⟩
def JU:KX R:=(zd 0 (aS Av (m8 R) kk (sub [1,1,1] (cd Tryz.f11)) (aW Av Tryz.f11.results.toList none K)))
theorem ZK(a:gB)(b:Int)(c:aD):yt R kk (k+1) J a b c=
 JW a b c (fun a0 a1 a2=>J .ret (Gs a0 a1 a2)) (yt R kk k J) (J (.exit 0) (Gt)):=by kernel_rfl
theorem VM(a b c:Int):JU R kk K .ret (Gs a b c)=
 JX a b c (fun a0 a1 a2=>K [tI a0,tI a1,tI a2] none):=by kernel_rfl
theorem VN:JU R kk K (.exit 0) (Gt)=
 JY (fun a0 a1 a2=>K [tI a0,tI a1,tI a2] none):=by kernel_rfl
theorem XW{kk:Nat}(hF:kk=aq)(t22:gB)(t23:Int)(eG:aD):yt R kk k J t22 t23 eG=(yu k t22 t23 eG).bind fun e=>(Sum.elim (fun(we:ig)=>J .ret (Gs we.1 we.2.1 we.2.2)) (fun(we:Unit)=>J (.exit 0) (Gt)) e):=by
 induction k generalizing t22 t23 eG with
 |zero=>rfl
 |succ k ih=>
  rw[ZK]
  simp only[yu,JW,ih,aE]
def ux:ae:=m8.add 11 [cc] (cu cc gv (fun _ r K=>K [tI r.1,tI r.2.1,tI r.2.2] none))
theorem S3:aL Tryz.prog ux:=cA Av Tryz.f11 (fun R kk x0 K=>JV x0 (fun a0 a1 a2=>K [tI a0,tI a1,tI a2] none) (yt R kk kk (JU R kk K))) S2 (ek _ _ _ _) Tryz.func11 (by kernel_rfl) rfl (fun _ _ _ _ _ _ h=>h _ _) (fun _ _ _ _=>by kernel_rfl) fun R kk e x0 K=>by
 simp only[gv,JV,JX,JY,XW (hF:=e),VM,VN,aE,<-e]
def Bm:Env:=e0 [(.int .i64)]
def m9:ae:=ux.add 163 [(.int .i64)] (cu (.int .i64) Q2 (fun _ r K=>K [tI r] none))
theorem S4:aL Tryz.prog m9:=cA Bm Tryz.f163 (fun R kk x0 K=>kD x0 (fun a0=>K [tI a0] none)) S3 (ek _ _ _ _) Tryz.func163 (by kernel_rfl) rfl (fun _ _ _ _ _ _ h=>h _ _) (fun _ _ _ _=>by kernel_rfl) fun R kk e x0 K=>by
 simp only[Q2,kD,aE]
def mm:Env:=bD.env (fun i=>bif Nat.beq i 7 then [0,1,7,30,31] else []) (fun i=>bif Nat.beq i 7 then [1,4,5,6,7] else []) [] [.str,(.int .i64)]
def iE(a:ByteArray)(b:Int)(c:(List Int))(d e:Int):Option R:=az (ev mm (m9 R) kk (sub [1,1,1,0,1,0,0] (cd Tryz.f164))) [0,1,7,30,31] [1,4,5,6,7] k ⟨[tS a]::[tI b]::uS 5 ([.af (.sl 5 (.int .u8)) c [[]]]::uS 22 ([tI d]::[tI e]::uS 43 [])),nS 76 []⟩ J
def HJ(a:Int)(b:ByteArray)(c d:Int)(e:(List Int)):State:=⟨uS 1 ([tI a]::uS 2 ([tS b]::[tI c]::[tI d]::[.af (.sl 5 (.int .u8)) e [[]]]::uS 67 [])),nS 76 []⟩
def HK(a:Int)(b:(List Int)):State:=⟨uS 1 ([tI a]::uS 5 ([.af (.sl 5 (.int .u8)) b [[]]]::uS 67 [])),nS 76 []⟩
def kg:KX R:=(zd 1 (aS mm (m9 R) kk (sub [1,1,1,1] (cd Tryz.f164)) (aW mm Tryz.f164.results.toList none K)))
theorem sK(a:ByteArray)(b:Int)(c:(List Int))(d e:Int):iE R kk (k+1) J a b c d e=
 ki a b c d e (fun a0 a1 a2 a3 a4=>J .ret (HJ a0 a1 a2 a3 a4)) (iE R kk k J) (fun a0 a1=>J (.exit 1) (HK a0 a1)):=by kernel_rfl
theorem Zi(a:Int)(b:ByteArray)(c d:Int)(e:(List Int)):kg R kk K .ret (HJ a b c d e)=
 kj a b c d e (fun a0 a1 a2=>K [tS a0,tI a1,tI a2] none):=by kernel_rfl
theorem Zj(a:Int)(b:(List Int)):kg R kk K (.exit 1) (HK a b)=
 kl a b (fun a0 a1 a2=>K [tS a0,tI a1,tI a2] none):=by kernel_rfl
theorem D7{kk:Nat}(hF:kk=aq)(kS:ByteArray)(CL:Int)(t7:(List Int))(t30 t31:Int):iE R kk k J kS CL t7 t30 t31=(iF k kS CL t7 t30 t31).bind fun e=>(Sum.elim (fun(we:(Int×ByteArray×Int×Int×(List Int)))=>J .ret (HJ we.1 we.2.1 we.2.2.1 we.2.2.2.1 we.2.2.2.2)) (fun(we:(Int×(List Int)))=>J (.exit 1) (HK we.1 we.2)) e):=by
 induction k generalizing kS CL t7 t30 t31 with
 |zero=>rfl
 |succ k ih=>
  rw[sK]
  simp only[iF,ki,ih,aE]
def uy:ae:=m9.add 164 [.str,(.int .i64)] (cE .str (.int .i64) Q0 (fun _ r K=>K [tS r.1,tI r.2.1,tI r.2.2] none))
theorem S5:aL Tryz.prog uy:=cF mm Tryz.f164 (fun R kk x0 x1 K=>kh x0 x1 (fun a0 a1 a2=>K [tS a0,tI a1,tI a2] none) (iE R kk kk (kg R kk K))) S4 (ek _ _ _ _) Tryz.func164 (by kernel_rfl) rfl (fun _ _ _ _ _ _ h=>h _ _) (fun _ _ _ _ _=>by kernel_rfl) fun R kk e x0 x1 K=>by
 simp only[Q0,kh,kj,kl,D7 (hF:=e),Zi,Zj,aE,<-e]
def EP:Env:=e0 [aO,.str]
def uz:ae:=uy.add 104 [aO,.str] (cE aO .str qi (fun _ r K=>K [tS r.1,tI r.2.1,tI r.2.2] none))
theorem S6:aL Tryz.prog uz:=cF EP Tryz.f104 (fun R kk x0 x1 K=>KT x0 x1 (fun a0 a1 a2=>K [tS a0,tI a1,tI a2] none)) S5 (ek _ _ _ _) Tryz.func104 (by kernel_rfl) rfl (fun _ _ _ _ _ _ h=>h _ _) (fun _ _ _ _ _=>by kernel_rfl) fun R kk e x0 x1 K=>by
 simp only[qi,KT,aE]
def BA:Env:=e0 [(.int .i64)]
def uA:ae:=uz.add 155 [(.int .i64)] (cu (.int .i64) Q9 (fun _ r K=>K [tB r] none))
theorem S7:aL Tryz.prog uA:=cA BA Tryz.f155 (fun R kk x0 K=>kP x0 (fun a0=>K [tB a0] none)) S6 (ek _ _ _ _) Tryz.func155 (by kernel_rfl) rfl (fun _ _ _ _ _ _ h=>h _ _) (fun _ _ _ _=>by kernel_rfl) fun R kk e x0 K=>by
 simp only[Q9,kP,aE]
def Ed:Env:=e0 [(.int .u8)]
def na:ae:=uA.add 205 [(.int .u8)] (cu (.int .u8) pN (fun _ r K=>K [tI r.1,tB r.2] none))
theorem S8:aL Tryz.prog na:=cA Ed Tryz.f205 (fun R kk x0 K=>IC x0 (fun a0 a1=>K [tI a0,tB a1] none)) S7 (ek _ _ _ _) Tryz.func205 (by kernel_rfl) rfl (fun _ _ _ _ _ _ h=>h _ _) (fun _ _ _ _=>by kernel_rfl) fun R kk e x0 K=>by
 simp only[pN,IC,aE]
def Ak:Env:=bD.env (fun i=>bif Nat.beq i 4 then [0,5,6,7] else []) (fun i=>bif Nat.beq i 4 then [0,2,3,4,5] else []) [] [.str]
def xX(a:ByteArray)(b:(List Int))(c d:Int):Option R:=az (ev Ak (na R) kk (sub [1,1,1,0,1,0,0] (cd Tryz.f170))) [0,5,6,7] [0,2,3,4,5] k ⟨[tS a]::uS 4 ([.af (.sl 5 (.int .u8)) b [[]]]::[tI c]::[tI d]::uS 44 []),nS 53 []⟩ J
def F5(a b:ByteArray)(c:Int)(d:Bool)(e:(List Int)):State:=⟨[tS a]::uS 1 ([tS b]::[tI c]::[tB d]::[.af (.sl 5 (.int .u8)) e [[]]]::uS 46 []),nS 53 []⟩
def F6(a:ByteArray)(b:(List Int)):State:=⟨[tS a]::uS 4 ([.af (.sl 5 (.int .u8)) b [[]]]::uS 46 []),nS 53 []⟩
def ID:KX R:=(zd 0 (aS Ak (na R) kk (sub [1,1,1,1] (cd Tryz.f170)) (aW Ak Tryz.f170.results.toList none K)))
theorem Zw(a:ByteArray)(b:(List Int))(c d:Int):xX R kk (k+1) J a b c d=
 IF a b c d (fun a0 a1 a2 a3 a4=>J .ret (F5 a0 a1 a2 a3 a4)) (xX R kk k J) (fun a0 a1=>J (.exit 0) (F6 a0 a1)):=by kernel_rfl
theorem Vq(a b:ByteArray)(c:Int)(d:Bool)(e:(List Int)):ID R kk K .ret (F5 a b c d e)=
 IG a b c d e (fun a0 a1 a2=>K [tS a0,tI a1,tB a2] none):=by kernel_rfl
theorem Vr(a:ByteArray)(b:(List Int)):ID R kk K (.exit 0) (F6 a b)=
 II a b (fun a0 a1 a2=>K [tS a0,tI a1,tB a2] none):=by kernel_rfl
theorem XH{kk:Nat}(hF:kk=aq)(gd:ByteArray)(t5:(List Int))(t6 t7:Int):xX R kk k J gd t5 t6 t7=(xY k gd t5 t6 t7).bind fun e=>(Sum.elim (fun(we:(ByteArray×ByteArray×Int×Bool×(List Int)))=>J .ret (F5 we.1 we.2.1 we.2.2.1 we.2.2.2.1 we.2.2.2.2)) (fun(we:(ByteArray×(List Int)))=>J (.exit 0) (F6 we.1 we.2)) e):=by
 induction k generalizing gd t5 t6 t7 with
 |zero=>rfl
 |succ k ih=>
  rw[Zw]
  simp only[xY,IF,ih,aE]
def uB:ae:=na.add 170 [.str] (cu .str fe (fun _ r K=>K [tS r.1,tI r.2.1,tB r.2.2] none))
theorem S9:aL Tryz.prog uB:=cA Ak Tryz.f170 (fun R kk x0 K=>IE x0 (xX R kk kk (ID R kk K))) S8 (ek _ _ _ _) Tryz.func170 (by kernel_rfl) rfl (fun _ _ _ _ _ _ h=>h _ _) (fun _ _ _ _=>by kernel_rfl) fun R kk e x0 K=>by
 simp only[fe,IE,IG,II,XH (hF:=e),Vq,Vr,aE,<-e]
def sL:Env:=bD.env (fun _=>[]) (fun _=>[]) [6] [(.int .i64),.str,(.int .i64)]
def nb:ae:=uB.add 165 [(.int .i64),.str,(.int .i64)] (fI (.int .i64) .str (.int .i64) wI (fun _ r K=>K [.af (.arr 8 (.int .u8)) r.1 [],tI r.2.1,tI r.2.2] none))
theorem Ta:aL Tryz.prog nb:=gf sL Tryz.f165 (fun R kk x0 x1 x2 K=>LW x0 x1 x2 (fun a0 a1 a2=>K [.af (.arr 8 (.int .u8)) a0 [],tI a1,tI a2] none)) S9 (ek _ _ _ _) Tryz.func165 (by kernel_rfl) rfl (fun _ _ _ _ _ _ h=>h _ _) (fun _ _ _ _ _ _=>by kernel_rfl) fun R kk e x0 x1 x2 K=>by
 simp only[wI,LW,aE]
def mJ:Env:=bD.env (fun i=>bif Nat.beq i 3 then [3,6,7] else []) (fun i=>bif Nat.beq i 3 then [3] else []) [] [(.arr 8 (.int .u8))]
def iS(a:Int)(b:(List Int))(c:Int):Option R:=az (ev mJ (nb R) kk (sub [1,1,0,1,0,0] (cd Tryz.f166))) [3,6,7] [3] k ⟨uS 3 ([.af (.int .u64) a []]::uS 2 ([.af (.arr 8 (.int .u8)) b []]::[tI c]::uS 9 [])),nS 18 []⟩ J
def LM(a:Int):State:=⟨uS 3 ([.af (.int .u64) a []]::uS 13 []),nS 18 []⟩
def oc:KX R:=(zd 0 (aS mJ (nb R) kk (sub [1,1,1] (cd Tryz.f166)) (aW mJ Tryz.f166.results.toList none K)))
theorem tz(a:Int)(b:(List Int))(c:Int):iS R kk (k+1) J a b c=
 kK a b c (iS R kk k J) (fun a0=>J (.exit 0) (LM a0)):=by kernel_rfl
theorem DN(a:Int):oc R kk K (.exit 0) (LM a)=
 kL a (fun a0=>K [.af (.int .u64) a0 []] none):=by kernel_rfl
theorem Fc{kk:Nat}(hF:kk=aq)(t3:Int)(t6:(List Int))(t7:Int):iS R kk k J t3 t6 t7=(iT k t3 t6 t7).bind fun e=>J (.exit 0) (LM e):=by
 induction k generalizing t3 t6 t7 with
 |zero=>rfl
 |succ k ih=>
  rw[tz]
  simp only[iT,kK,ih,aE]
def uC:ae:=nb.add 166 [(.arr 8 (.int .u8))] (cu (.arr 8 (.int .u8)) Q7 (fun _ r K=>K [.af (.int .u64) r []] none))
theorem Tb:aL Tryz.prog uC:=cA mJ Tryz.f166 (fun R kk x0 K=>kJ x0 (iS R kk kk (oc R kk K))) Ta (ek _ _ _ _) Tryz.func166 (by kernel_rfl) rfl (fun _ _ _ _ _ _ h=>h _ _) (fun _ _ _ _=>by kernel_rfl) fun R kk e x0 K=>by
 simp only[Q7,kJ,kL,Fc (hF:=e),DN,aE,<-e]
def s8:Env:=bD.env (fun _=>[]) (fun _=>[]) [4] [(.int .u64),(.int .u64)]
def uD:ae:=uC.add 167 [(.int .u64),(.int .u64)] (cE (.int .u64) (.int .u64) wL (fun _ r K=>K [.af (.pair (.int .u64) (.pair (.int .u64) .unit)) r []] none))
theorem Tc:aL Tryz.prog uD:=cF s8 Tryz.f167 (fun R kk x0 x1 K=>MC x0 x1 (fun a0=>K [.af (.pair (.int .u64) (.pair (.int .u64) .unit)) a0 []] none)) Tb (ek _ _ _ _) Tryz.func167 (by kernel_rfl) rfl (fun _ _ _ _ _ _ h=>h _ _) (fun _ _ _ _ _=>by kernel_rfl) fun R kk e x0 x1 K=>by
 simp only[wL,MC,aE]
def Bu:Env:=bD.env (fun _=>[]) (fun _=>[]) [6] [(.int .i64),.str,(.int .i64)]
def uE:ae:=uD.add 105 [(.int .i64),.str,(.int .i64)] (fI (.int .i64) .str (.int .i64) Q5 (fun _ r K=>K [.af (.pair (.int .u64) (.pair (.int .u64) .unit)) r.1 [],tI r.2.1,tI r.2.2] none))
theorem Td:aL Tryz.prog uE:=gf Bu Tryz.f105 (fun R kk x0 x1 x2 K=>kH x0 x1 x2 (fun a0 a1 a2=>K [.af (.pair (.int .u64) (.pair (.int .u64) .unit)) a0 [],tI a1,tI a2] none)) Tc (ek _ _ _ _) Tryz.func105 (by kernel_rfl) rfl (fun _ _ _ _ _ _ h=>h _ _) (fun _ _ _ _ _ _=>by kernel_rfl) fun R kk e x0 x1 x2 K=>by
 simp only[Q5,kH,aE]
def sP:Env:=e0 [(.int .i64)]
def uF:ae:=uE.add 160 [(.int .i64)] (cu (.int .i64) wJ (fun _ r K=>K [tB r] none))
theorem Te:aL Tryz.prog uF:=cA sP Tryz.f160 (fun R kk x0 K=>L0 x0 (fun a0=>K [tB a0] none)) Td (ek _ _ _ _) Tryz.func160 (by kernel_rfl) rfl (fun _ _ _ _ _ _ h=>h _ _) (fun _ _ _ _=>by kernel_rfl) fun R kk e x0 K=>by
 simp only[wJ,L0,aE]
def Eo:Env:=e0 [(.int .i64),(.int .i64)]
def nc:ae:=uF.add 200 [(.int .i64),(.int .i64)] (cE (.int .i64) (.int .i64) mA (fun _ r K=>K [tB r] none))
theorem Tf:aL Tryz.prog nc:=cF Eo Tryz.f200 (fun R kk x0 x1 K=>Jt x0 x1 (fun a0=>K [tB a0] none)) Te (ek _ _ _ _) Tryz.func200 (by kernel_rfl) rfl (fun _ _ _ _ _ _ h=>h _ _) (fun _ _ _ _ _=>by kernel_rfl) fun R kk e x0 x1 K=>by
 simp only[mA,Jt,aE]
def iN:Env:=bD.env (fun i=>bif Nat.beq i 5 then [4,20] else []) (fun i=>bif Nat.beq i 5 then [4] else []) [] [.str]
def AY(a:Int)(b:jk):Option R:=az (ev iN (nc R) kk (sub [1,1,1,0,1,0,0] (cd Tryz.f204))) [4,20] [4] k ⟨uS 4 ([tI a]::uS 15 ([.ptr 21 (.aP .iter .unit .unit) []]::uS 10 [])),nS 21 ((some ⟨(.aP .iter .unit .unit),b,[]⟩)::nS 10 [])⟩ J
def Hs(a:Int):State:=⟨uS 4 ([tI a]::uS 26 []),nS 32 []⟩
def Qp:KX R:=(zd 0 (aS iN (nc R) kk (sub [1,1,1,1] (cd Tryz.f204)) (aW iN Tryz.f204.results.toList none K)))
theorem EZ(a:Int)(b:jk):AY R kk (k+1) J a b=
 Mw a b (AY R kk k J) (fun a0=>J (.exit 0) (Hs a0)):=by kernel_rfl
theorem Yq(a:Int):Qp R kk K (.exit 0) (Hs a)=
 Mx a (fun a0 a1=>K [tI a0,tB a1] none):=by kernel_rfl
theorem DL{kk:Nat}(hF:kk=aq)(t4:Int)(qI:jk):AY R kk k J t4 qI=(AZ k t4 qI).bind fun e=>J (.exit 0) (Hs e):=by
 induction k generalizing t4 qI with
 |zero=>rfl
 |succ k ih=>
  rw[EZ]
  simp only[AZ,Mw,ih,aE]
def uG:ae:=nc.add 204 [.str] (cu .str rS (fun _ r K=>K [tI r.1,tB r.2] none))
theorem Tg:aL Tryz.prog uG:=cA iN Tryz.f204 (fun R kk x0 K=>Mv x0 (fun a0 a1=>K [tI a0,tB a1] none) (AY R kk kk (Qp R kk K))) Tf (ek _ _ _ _) Tryz.func204 (by kernel_rfl) rfl (fun _ _ _ _ _ _ h=>h _ _) (fun _ _ _ _=>by kernel_rfl) fun R kk e x0 K=>by
 simp only[rS,Mv,Mx,DL (hF:=e),Yq,aE,<-e]
def Em:Env:=e0 [(.int .i64),(.int .i64),.str,(.int .i64)]
def uH:ae:=uG.add 169 [(.int .i64),(.int .i64),.str,(.int .i64)] (xd (.int .i64) (.int .i64) .str (.int .i64) pW (fun _ r K=>K [tI r.1,tI r.2.1,tI r.2.2] none))
theorem Th:aL Tryz.prog uH:=DB Em Tryz.f169 (fun R kk x0 x1 x2 x3 K=>Jo x0 x1 x2 x3 (fun a0 a1 a2=>K [tI a0,tI a1,tI a2] none)) Tg (ek _ _ _ _) Tryz.func169 (by kernel_rfl) rfl (fun _ _ _ _ _ _ h=>h _ _) (fun _ _ _ _ _ _ _=>by kernel_rfl) fun R kk e x0 x1 x2 x3 K=>by
 simp only[pW,Jo,aE]
def sO:Env:=e0 [(.int .i64),(.int .i64)]
def uI:ae:=uH.add 162 [(.int .i64),(.int .i64)] (cE (.int .i64) (.int .i64) j6 (fun _ r K=>K [tI r] none))
theorem Ti:aL Tryz.prog uI:=cF sO Tryz.f162 (fun R kk x0 x1 K=>LZ x0 x1 (fun a0=>K [tI a0] none)) Th (ek _ _ _ _) Tryz.func162 (by kernel_rfl) rfl (fun _ _ _ _ _ _ h=>h _ _) (fun _ _ _ _ _=>by kernel_rfl) fun R kk e x0 x1 K=>by
 simp only[j6,LZ,aE]
def sM:Env:=e0 [(.int .i64),y9,.str,(.int .i64)]
def nf:ae:=uI.add 107 [(.int .i64),y9,.str,(.int .i64)] (xd (.int .i64) y9 .str (.int .i64) Be (fun _ r K=>K [tS r.1,tI r.2.1,tI r.2.2] none))
theorem Tj:aL Tryz.prog nf:=DB sM Tryz.f107 (fun R kk x0 x1 x2 x3 K=>LX x0 x1 x2 x3 (fun a0 a1 a2=>K [tS a0,tI a1,tI a2] none)) Ti (ek _ _ _ _) Tryz.func107 (by kernel_rfl) rfl (fun _ _ _ _ _ _ h=>h _ _) (fun _ _ _ _ _ _ _=>by kernel_rfl) fun R kk e x0 x1 x2 x3 K=>by
 simp only[Be,LX,aE]
def AJ:Env:=bD.env (fun i=>bif Nat.beq i 13 then [1,2,4,5,6,10,12,13] else []) (fun i=>bif Nat.beq i 13 then [1,4,5,6,10] else []) [4,5] [aO,.str]
def yM(a:ByteArray)(b c:Int)(d:ag)(e:ai)(f:aB)(g:ai)(h:aB):Option R:=az (ev AJ (nf R) kk (sub [1,1,1,1,1,1,1,1,0,1,0,0] (cd Tryz.f39))) [1,2,4,5,6,10,12,13] [1,4,5,6,10] k ⟨uS 1 ([tS a]::[.ptr 3 aO []]::uS 1 ([.ptr 5 y5 []]::[.ptr 6 (.pair (.int .i64) (.pair (.int .i64) .unit)) []]::[.ptr 7 y5 []]::uS 3 ([tI b]::uS 1 ([.ptr 13 (.pair (.int .u64) (.pair (.int .u64) .unit)) []]::[tI c]::uS 93 [])))),nS 3 ((some ⟨aO,d,[]⟩)::nS 1 ((some ⟨y5,e,[[1]]⟩)::(some ⟨(.pair (.int .i64) (.pair (.int .i64) .unit)),f,[]⟩)::(some ⟨y5,g,[[1]]⟩)::nS 5 ((some ⟨(.pair (.int .u64) (.pair (.int .u64) .unit)),h,[]⟩)::nS 94 [])))⟩ J
def GL(a:ByteArray)(b:Int)(c:ai)(d:aB)(e:ai):State:=⟨uS 1 ([tS a]::uS 2 ([.ptr 5 y5 []]::[.ptr 6 (.pair (.int .i64) (.pair (.int .i64) .unit)) []]::[.ptr 7 y5 []]::uS 3 ([tI b]::uS 96 []))),nS 5 ((some ⟨y5,c,[[1]]⟩)::(some ⟨(.pair (.int .i64) (.pair (.int .i64) .unit)),d,[]⟩)::(some ⟨y5,e,[]⟩)::nS 100 [])⟩
def GM(a:ByteArray)(b:Int)(c:ai)(d:aB)(e:ai):State:=⟨uS 1 ([tS a]::uS 2 ([.ptr 5 y5 []]::[.ptr 6 (.pair (.int .i64) (.pair (.int .i64) .unit)) []]::[.ptr 7 y5 []]::uS 3 ([tI b]::uS 96 []))),nS 5 ((some ⟨y5,c,[[1]]⟩)::(some ⟨(.pair (.int .i64) (.pair (.int .i64) .unit)),d,[]⟩)::(some ⟨y5,e,[[1]]⟩)::nS 100 [])⟩
def KO:KX R:=(zd 0 (aS AJ (nf R) kk (sub [1,1,1,1,1,1,1,1,1] (cd Tryz.f39)) (aW AJ Tryz.f39.results.toList none K)))
theorem ZV(a:ByteArray)(b c:Int)(d:ag)(e:ai)(f:aB)(g:ai)(h:aB):yM R kk (k+1) J a b c d e f g h=
 KQ a b c d e f g h (fun a0 a1 a2 a3 a4=>J .ret (GL a0 a1 a2 a3 a4)) (yM R kk k J) (fun a0 a1 a2 a3 a4=>J (.exit 0) (GM a0 a1 a2 a3 a4)):=by kernel_rfl
theorem V2(a:ByteArray)(b:Int)(c:ai)(d:aB)(e:ai):KO R kk K .ret (GL a b c d e)=
 KR a b c d e (fun a0 a1=>K [.af y5 a0 [[1]],.af (.pair (.int .i64) (.pair (.int .i64) .unit)) a1 []] none):=by kernel_rfl
theorem V3(a:ByteArray)(b:Int)(c:ai)(d:aB)(e:ai):KO R kk K (.exit 0) (GM a b c d e)=
 KS a b c d e (fun a0 a1=>K [.af y5 a0 [[1]],.af (.pair (.int .i64) (.pair (.int .i64) .unit)) a1 []] none):=by kernel_rfl
theorem X9{kk:Nat}(hF:kk=aq)(qC:ByteArray)(t10 t13:Int)(bR:ag)(bZ:ai)(cW:aB)(dw:ai)(qE:aB):yM R kk k J qC t10 t13 bR bZ cW dw qE=(yN k qC t10 t13 bR bZ cW dw qE).bind fun e=>(Sum.elim (fun(we:jG)=>J .ret (GL we.1 we.2.1 we.2.2.1 we.2.2.2.1 we.2.2.2.2)) (fun(we:jG)=>J (.exit 0) (GM we.1 we.2.1 we.2.2.1 we.2.2.2.1 we.2.2.2.2)) e):=by
 induction k generalizing qC t10 t13 bR bZ cW dw qE with
 |zero=>rfl
 |succ k ih=>
  rw[ZV]
  simp only[yN,KQ,ih,aE]
def uJ:ae:=nf.add 39 [aO,.str] (cE aO .str qh (fun _ r K=>K [.af y5 r.1 [[1]],.af (.pair (.int .i64) (.pair (.int .i64) .unit)) r.2 []] none))
theorem Tk:aL Tryz.prog uJ:=cF AJ Tryz.f39 (fun R kk x0 x1 K=>KP x0 x1 (fun a0 a1=>K [.af y5 a0 [[1]],.af (.pair (.int .i64) (.pair (.int .i64) .unit)) a1 []] none) (yM R kk kk (KO R kk K))) Tj (ek _ _ _ _) Tryz.func39 (by kernel_rfl) rfl (fun _ _ _ _ _ _ h=>h _ _) (fun _ _ _ _ _=>by kernel_rfl) fun R kk e x0 x1 K=>by
 simp only[qh,KP,KR,KS,X9 (hF:=e),V2,V3,aE,<-e]
def z117:Env:=e0 [.str]
def ng:ae:=uJ.add 92 [.str] (cu .str pV (fun _ r K=>K [tS r.1,tB r.2] none))
theorem Tl:aL Tryz.prog ng:=cA z117 Tryz.f92 (fun R kk x0 K=>Jl x0 (fun a0 a1=>K [tS a0,tB a1] none)) Tk (ek _ _ _ _) Tryz.func92 (by kernel_rfl) rfl (fun _ _ _ _ _ _ h=>h _ _) (fun _ _ _ _=>by kernel_rfl) fun R kk e x0 K=>by
 simp only[pV,Jl,aE]
def Aq:Env:=bD.env (fun i=>bif Nat.beq i 2 then [1,9,10,11] else []) (fun i=>bif Nat.beq i 2 then [4,5] else []) [] [y5,(.int .i64)]
def x9(a:Int)(b:al)(c d:Int):Option R:=az (ev Aq (ng R) kk (sub [1,0,1,0,0] (cd Tryz.f93))) [1,9,10,11] [4,5] k ⟨uS 1 ([tI a]::uS 7 ([.af (.sl 90 (.pair (.int .i64) (.pair .str .unit))) b []]::[tI c]::[tI d]::uS 10 [])),nS 23 []⟩ J
def Gd(a:ByteArray)(b:Bool):State:=⟨uS 4 ([tS a]::[tB b]::uS 16 []),nS 23 []⟩
def Ge:State:=⟨uS 22 [],nS 23 []⟩
def I7:KX R:=(zd 0 (aS Aq (ng R) kk (sub [1,1] (cd Tryz.f93)) (aW Aq Tryz.f93.results.toList none K)))
theorem ZB(a:Int)(b:al)(c d:Int):x9 R kk (k+1) J a b c d=
 I9 a b c d (fun a0 a1=>J .ret (Gd a0 a1)) (x9 R kk k J) (J (.exit 0) (Ge)):=by kernel_rfl
theorem Vy(a:ByteArray)(b:Bool):I7 R kk K .ret (Gd a b)=
 Ja a b (fun a0 a1=>K [tS a0,tB a1] none):=by kernel_rfl
theorem Vz:I7 R kk K (.exit 0) (Ge)=
 Jb (fun a0 a1=>K [tS a0,tB a1] none):=by kernel_rfl
theorem XM{kk:Nat}(hF:kk=aq)(dC:Int)(t9:al)(t10 t11:Int):x9 R kk k J dC t9 t10 t11=(ya k dC t9 t10 t11).bind fun e=>(Sum.elim (fun(we:gl)=>J .ret (Gd we.1 we.2)) (fun(we:Unit)=>J (.exit 0) (Ge)) e):=by
 induction k generalizing dC t9 t10 t11 with
 |zero=>rfl
 |succ k ih=>
  rw[ZB]
  simp only[ya,I9,ih,aE]
def nh:ae:=ng.add 93 [y5,(.int .i64)] (cE y5 (.int .i64) pR (fun _ r K=>K [tS r.1,tB r.2] none))
theorem Tm:aL Tryz.prog nh:=cF Aq Tryz.f93 (fun R kk x0 x1 K=>I8 x0 x1 (x9 R kk kk (I7 R kk K))) Tl (ek _ _ _ _) Tryz.func93 (by kernel_rfl) rfl (fun _ _ _ _ _ _ h=>h _ _) (fun _ _ _ _ _=>by kernel_rfl) fun R kk e x0 x1 K=>by
 simp only[pR,I8,Ja,Jb,XM (hF:=e),Vy,Vz,aE,<-e]
def As:Env:=bD.env (fun i=>bif Nat.beq i 3 then [1,4,5,12,13,14] else []) (fun i=>bif Nat.beq i 3 then [4,5] else []) [4] [y5,(.int .i64)]
def yd(a:Int)(b:al)(c d:Int)(e f:ai):Option R:=az (ev As (nh R) kk (sub [1,1,0,1,0,0] (cd Tryz.f149))) [1,4,5,12,13,14] [4,5] k ⟨uS 1 ([tI a]::uS 2 ([.ptr 5 y5 []]::[.ptr 6 y5 []]::uS 6 ([.af (.sl 90 (.pair (.int .i64) (.pair .str .unit))) b []]::[tI c]::[tI d]::uS 15 []))),nS 5 ((some ⟨y5,e,[[1]]⟩)::(some ⟨y5,f,[[1]]⟩)::nS 24 [])⟩ J
def Gg(a b:ai):State:=⟨uS 4 ([.ptr 5 y5 []]::[.ptr 6 y5 []]::uS 24 []),nS 5 ((some ⟨y5,a,[[1]]⟩)::(some ⟨y5,b,[[1]]⟩)::nS 24 [])⟩
def P2:KX R:=(zd 0 (aS As (nh R) kk (sub [1,1,1] (cd Tryz.f149)) (aW As Tryz.f149.results.toList none K)))
theorem ZD(a:Int)(b:al)(c d:Int)(e f:ai):yd R kk (k+1) J a b c d e f=
 Ji a b c d e f (yd R kk k J) (fun a0 a1=>J (.exit 0) (Gg a0 a1)):=by kernel_rfl
theorem VB(a b:ai):P2 R kk K (.exit 0) (Gg a b)=
 Jj a b (fun a0=>K [.af y5 a0 [[1]]] none):=by kernel_rfl
theorem XP{kk:Nat}(hF:kk=aq)(dC:Int)(t12:al)(t13 t14:Int)(bZ cW:ai):yd R kk k J dC t12 t13 t14 bZ cW=(ye k dC t12 t13 t14 bZ cW).bind fun e=>J (.exit 0) (Gg e.1 e.2):=by
 induction k generalizing dC t12 t13 t14 bZ cW with
 |zero=>rfl
 |succ k ih=>
  rw[ZD]
  simp only[ye,Ji,ih,aE]
def uK:ae:=nh.add 149 [y5,(.int .i64)] (cE y5 (.int .i64) pU (fun _ r K=>K [.af y5 r [[1]]] none))
theorem Tn:aL Tryz.prog uK:=cF As Tryz.f149 (fun R kk x0 x1 K=>Jh x0 x1 (yd R kk kk (P2 R kk K))) Tm (ek _ _ _ _) Tryz.func149 (by kernel_rfl) rfl (fun _ _ _ _ _ _ h=>h _ _) (fun _ _ _ _ _=>by kernel_rfl) fun R kk e x0 x1 K=>by
 simp only[pU,Jh,Jj,XP (hF:=e),VB,aE,<-e]
def Ej:Env:=e0 [(.pair (.int .i64) (.pair .str .unit)),.unit]
def ni:ae:=uK.add 151 [(.pair (.int .i64) (.pair .str .unit)),.unit] (pz (.pair (.int .i64) (.pair .str .unit)) (.int .i64) (.int .i64) [] pT (fun _ r K=>K [tB r.1] (some ⟨(.int .i64),r.2,[]⟩)))
theorem Tp:aL Tryz.prog ni:=sz Ej Tryz.f151 (fun R kk x0 x1 K=>Jg x0 x1 (fun a0 a1=>K [tB a0] (some ⟨(.int .i64),a1,[]⟩))) Tn (ek _ _ _ _) Tryz.func151 (by kernel_rfl) rfl (fun _ _ _ _ _ _ h=>h _ _) (fun _ _ _ _ _=>by kernel_rfl) fun R kk e x0 x1 K=>by
 simp only[pT,Jg,aE]
def AG:Env:=bD.env (fun i=>bif Nat.beq i 2 then [0,1,7,8] else []) (fun i=>bif Nat.beq i 2 then [4] else []) [] [(.sl 90 (.pair (.int .i64) (.pair .str .unit))),.unit]
def yH(a:al)(b c d:Int):Option R:=az (ev AG (ni R) kk (sub [1,0,1,0,0] (cd Tryz.f150))) [0,1,7,8] [4] k ⟨[.af (.sl 90 (.pair (.int .i64) (.pair .str .unit))) a []]::[.ptr 0 (.aP (.j7 151) (.int .i64) .unit) []]::uS 5 ([tI b]::[tI c]::uS 10 []),(some ⟨(.int .i64),d,[]⟩)::nS 19 []⟩ J
def GH(a b:Int):State:=⟨uS 4 ([tI a]::uS 14 []),(some ⟨(.int .i64),b,[]⟩)::nS 19 []⟩
def GI(a:Int):State:=⟨uS 19 [],(some ⟨(.int .i64),a,[]⟩)::nS 19 []⟩
def KA(a:Int):KX R:=(zd 0 (aS AG (ni R) kk (sub [1,1] (cd Tryz.f150)) (aW AG Tryz.f150.results.toList (some ⟨(.int .i64),a,[]⟩) K)))
theorem ZT(a:al)(b c d:Int):yH R kk (k+1) J a b c d=
 KC a b c d (fun a0 a1=>J .ret (GH a0 a1)) (yH R kk k J) (fun a0=>J (.exit 0) (GI a0)):=by kernel_rfl
theorem VY(a b c:Int):KA R kk K a .ret (GH b c)=
 KD b c (fun a0 a1=>K [tI a0] (some ⟨(.int .i64),a1,[]⟩)):=by kernel_rfl
theorem VZ(a b:Int):KA R kk K a (.exit 0) (GI b)=
 KE b (fun a0 a1=>K [tI a0] (some ⟨(.int .i64),a1,[]⟩)):=by kernel_rfl
theorem X7{kk:Nat}(hF:kk=aq)(ij:al)(t7 t8 recv:Int):yH R kk k J ij t7 t8 recv=(yI k ij t7 t8 recv).bind fun e=>(Sum.elim (fun(we:(Int×Int))=>J .ret (GH we.1 we.2)) (fun(we:Int)=>J (.exit 0) (GI we)) e):=by
 induction k generalizing ij t7 t8 recv with
 |zero=>rfl
 |succ k ih=>
  rw[ZT]
  simp only[yI,KC,ih,aE]
def uL:ae:=ni.add 150 [(.sl 90 (.pair (.int .i64) (.pair .str .unit))),.unit] (pz (.sl 90 (.pair (.int .i64) (.pair .str .unit))) (.aP (.j7 151) (.int .i64) .unit) (.int .i64) [] qd (fun _ r K=>K [tI r.1] (some ⟨(.int .i64),r.2,[]⟩)))
theorem Tq:aL Tryz.prog uL:=sz AG Tryz.f150 (fun R kk x0 x1 K=>KB x0 x1 (yH R kk kk (KA R kk K x1))) Tp (ek _ _ _ _) Tryz.func150 (by kernel_rfl) rfl (fun _ _ _ _ _ _ h=>h _ _) (fun _ _ _ _ _=>by kernel_rfl) fun R kk e x0 x1 K=>by
 simp only[qd,KB,KD,KE,X7 (hF:=e),VY,VZ,aE,<-e]
def Ei:Env:={bD.env (fun _=>[]) (fun _=>[]) [6] [y5,(.int .i64),.str] with fz:=fun i=>bif Nat.beq i 9 then some (9,47) else none}
def ic:ae:=uL.add 94 [y5,(.int .i64),.str] (fI y5 (.int .i64) .str jy (fun _ r K=>K [.af y5 r []] none))
theorem Tr:aL Tryz.prog ic:=gf Ei Tryz.f94 (fun R kk x0 x1 x2 K=>Jf x0 x1 x2 (fun a0=>K [.af y5 a0 []] none)) Tq ((ek _ _ _ _).fz _) Tryz.func94 (by kernel_rfl) rfl (fun _ _ _ _ _ _ h=>h _ _) (fun _ _ _ _ _ _=>by kernel_rfl) fun R kk e x0 x1 x2 K=>by
 simp only[jy,Jf,aE]
def rN:Env:=bD.env (fun i=>bif Nat.beq i 2 then [2,10,11,12] else bif Nat.beq i 5 then [2,6,10,11,12,17,18,19] else []) (fun i=>bif Nat.beq i 2 then [4] else bif Nat.beq i 5 then [2,4,10,11,12] else []) [] [bT,(.int .i64)]
def yn(a:(List Int))(b c:Int)(d:ap):Option R:=az (ev rN (ic R) kk (sub [1,0,1,0,0] (cd Tryz.f95))) [2,10,11,12] [4] k ⟨uS 2 ([.ptr 3 bT []]::uS 7 ([.af (.sl 38 (.int .i64)) a [[]]]::[tI b]::[tI c]::uS 18 [])),nS 3 ((some ⟨bT,d,[]⟩)::nS 28 [])⟩ J
def Gn:State:=⟨uS 31 [],nS 32 []⟩
def Gp(a:ByteArray):State:=⟨uS 4 ([tS a]::uS 26 []),nS 32 []⟩
def JH:KX R:=(zd 0 (aS rN (ic R) kk (sub [1,1] (cd Tryz.f95)) (aW rN Tryz.f95.results.toList none K)))
def yp(a:Int)(b:(List Int))(c d:Int)(e:al)(f g:Int)(h:ap):Option R:=az (ev rN (ic R) kk (sub [1,0,1,0,0,1,1,0,0,1,1,0,0] (cd Tryz.f95))) [2,6,10,11,12,17,18,19] [2,4,10,11,12] k ⟨uS 2 ([.ptr 3 bT []]::uS 3 ([tI a]::uS 3 ([.af (.sl 38 (.int .i64)) b [[]]]::[tI c]::[tI d]::uS 4 ([.af (.sl 96 (.pair (.int .i64) (.pair .str .unit))) e []]::[tI f]::[tI g]::uS 11 [])))),nS 3 ((some ⟨bT,h,[]⟩)::nS 28 [])⟩ J
def Gq(a:ByteArray)(b:(List Int))(c d:Int)(e:ap):State:=⟨uS 2 ([.ptr 3 bT []]::uS 1 ([tS a]::uS 5 ([.af (.sl 38 (.int .i64)) b [[]]]::[tI c]::[tI d]::uS 18 []))),nS 3 ((some ⟨bT,e,[]⟩)::nS 28 [])⟩
def Gr(a:(List Int))(b c:Int)(d:ap):State:=⟨uS 2 ([.ptr 3 bT []]::uS 7 ([.af (.sl 38 (.int .i64)) a [[]]]::[tI b]::[tI c]::uS 18 [])),nS 3 ((some ⟨bT,d,[]⟩)::nS 28 [])⟩
def JI:KX R:=(zd 2 (zd 1 (aS rN (ic R) kk (sub [1,0,1,0,0,1,1,1] (cd Tryz.f95)) (lF (ev rN (ic R) kk (sub [1,0,1,0,0] (cd Tryz.f95))) [2,10,11,12] [4] k J))))
theorem ZI(a:(List Int))(b c:Int)(d:ap):yn R kk (k+1) J a b c d=
 JK a b c d (yp R kk kk (JI R kk k J)) (J (.exit 0) (Gn)):=by kernel_rfl
theorem VI:JH R kk K (.exit 0) (Gn)=
 JL (fun a0=>K [tS a0] none):=by kernel_rfl
theorem ZJ(a:Int)(b:(List Int))(c d:Int)(e:al)(f g:Int)(h:ap):yp R kk (k+1) J a b c d e f g h=
 JM a b c d e f g h (fun a0 a1 a2 a3 a4=>J .ret (Gq a0 a1 a2 a3 a4)) (yp R kk k J) (fun a0 a1 a2 a3=>J (.exit 2) (Gr a0 a1 a2 a3)):=by kernel_rfl
theorem VK(a:ByteArray)(b:(List Int))(c d:Int)(e:ap):JI R kk k J .ret (Gq a b c d e)=
 JN a b c d e (fun a0=>J .ret (Gp a0)):=by kernel_rfl
theorem VL(a:(List Int))(b c:Int)(d:ap):JI R kk k J (.exit 2) (Gr a b c d)=
 JO a b c d (yn R kk k J):=by kernel_rfl
theorem VJ(a:ByteArray):JH R kk K .ret (Gp a)=
 JP a (fun a0=>K [tS a0] none):=by kernel_rfl
theorem XV{kk:Nat}(hF:kk=aq)(t6:Int)(t10:(List Int))(t11 t12:Int)(t17:al)(t18 t19:Int)(bR:ap):yp R kk k J t6 t10 t11 t12 t17 t18 t19 bR=(yr k t6 t10 t11 t12 t17 t18 t19 bR).bind fun e=>(Sum.elim (fun(we:(ByteArray×(List Int)×Int×Int×ap))=>J .ret (Gq we.1 we.2.1 we.2.2.1 we.2.2.2.1 we.2.2.2.2)) (fun(we:((List Int)×Int×Int×ap))=>J (.exit 2) (Gr we.1 we.2.1 we.2.2.1 we.2.2.2)) e):=by
 induction k generalizing t6 t10 t11 t12 t17 t18 t19 bR with
 |zero=>rfl
 |succ k ih=>
  rw[ZJ]
  simp only[yr,JM,ih,aE]
theorem XU{kk:Nat}(hF:kk=aq)(t10:(List Int))(t11 t12:Int)(bR:ap):yn R kk k J t10 t11 t12 bR=(yq k t10 t11 t12 bR).bind fun e=>(Sum.elim (fun(we:Unit)=>J (.exit 0) (Gn)) (fun(we:ByteArray)=>J .ret (Gp we)) e):=by
 induction k generalizing t10 t11 t12 bR with
 |zero=>rfl
 |succ k ih=>
  rw[ZI]
  simp only[yq,JK,JN,JO,ih,XV (hF:=hF),VK,VL,aE,<-hF]
def nj:ae:=ic.add 95 [bT,(.int .i64)] (cE bT (.int .i64) p3 (fun _ r K=>K [tS r] none))
theorem Ts:aL Tryz.prog nj:=cF rN Tryz.f95 (fun R kk x0 x1 K=>JJ x0 x1 (yn R kk kk (JH R kk K))) Tr (ek _ _ _ _) Tryz.func95 (by kernel_rfl) rfl (fun _ _ _ _ _ _ h=>h _ _) (fun _ _ _ _ _=>by kernel_rfl) fun R kk e x0 x1 K=>by
 simp only[p3,JJ,JL,JP,XU (hF:=e),VI,VJ,aE,<-e]
def Au:Env:={{bD.env (fun i=>bif Nat.beq i 6 then [3,4,5,6,10,27,28,29] else []) (fun i=>bif Nat.beq i 6 then [3,5,6,10] else []) [6] [bT,y5,(.pair (.int .i64) (.pair (.int .i64) .unit))] with dr:=fun i=>bif Nat.beq i 6 then [11] else []} with ro:=true}
def yh(a:(List Int))(b c:Int)(d:ap)(e:ai)(f:aB)(g h:ai):Option R:=az (ev Au (nj R) kk (sub [1,1,1,1,0,1,0,0] (cd Tryz.f37))) [3,4,5,6,10,27,28,29] [3,5,6,10] k ⟨uS 3 ([.ptr 4 bT []]::[.ptr 5 y5 []]::[.ptr 6 (.pair (.int .i64) (.pair (.int .i64) .unit)) []]::[.ptr 7 y5 []]::uS 3 ([.ptr 11 y5 []]::uS 16 ([.af (.sl 3 (.int .i64)) a []]::[tI b]::[tI c]::uS 21 []))),nS 4 ((some ⟨bT,d,[]⟩)::(some ⟨y5,e,[]⟩)::(some ⟨(.pair (.int .i64) (.pair (.int .i64) .unit)),f,[]⟩)::(some ⟨y5,g,[[1]]⟩)::nS 3 ((some ⟨y5,h,[]⟩)::nS 40 []))⟩ J
def Gi(a:ap)(b:aB)(c d:ai):State:=⟨uS 3 ([.ptr 4 bT []]::uS 1 ([.ptr 6 (.pair (.int .i64) (.pair (.int .i64) .unit)) []]::[.ptr 7 y5 []]::uS 3 ([.ptr 11 y5 []]::uS 40 []))),nS 4 ((some ⟨bT,a,[]⟩)::nS 1 ((some ⟨(.pair (.int .i64) (.pair (.int .i64) .unit)),b,[]⟩)::(some ⟨y5,c,[[1]]⟩)::nS 3 ((some ⟨y5,d,[]⟩)::nS 40 [])))⟩
def P4:KX R:=(zd 0 (aS Au (nj R) kk (sub [1,1,1,1,1] (cd Tryz.f37)) (aW Au Tryz.f37.results.toList none K)))
theorem ZF(a:(List Int))(b c:Int)(d:ap)(e:ai)(f:aB)(g h:ai):yh R kk (k+1) J a b c d e f g h=
 Jw a b c d e f g h (yh R kk k J) (fun a0 a1 a2 a3=>J (.exit 0) (Gi a0 a1 a2 a3)):=by kernel_rfl
theorem VD(a:ap)(b:aB)(c d:ai):P4 R kk K (.exit 0) (Gi a b c d)=
 Jx a b c d (fun a0 a1=>K [.af y5 a0 [],tB a1] none):=by kernel_rfl
theorem XR{kk:Nat}(hF:kk=aq)(t27:(List Int))(t28 t29:Int)(bY:ap)(bZ:ai)(cW:aB)(dw qD:ai):yh R kk k J t27 t28 t29 bY bZ cW dw qD=(yi k t27 t28 t29 bY bZ cW dw qD).bind fun e=>J (.exit 0) (Gi e.1 e.2.1 e.2.2.1 e.2.2.2):=by
 induction k generalizing t27 t28 t29 bY bZ cW dw qD with
 |zero=>rfl
 |succ k ih=>
  rw[ZF]
  simp only[yi,Jw,ih,aE]
def nk:ae:=nj.add 37 [bT,y5,(.pair (.int .i64) (.pair (.int .i64) .unit))] (fI bT y5 (.pair (.int .i64) (.pair (.int .i64) .unit)) pY (fun _ r K=>K [.af y5 r.1 [],tB r.2] none))
theorem Tt:aL Tryz.prog nk:=gf Au Tryz.f37 (fun R kk x0 x1 x2 K=>Jv x0 x1 x2 (fun a0 a1=>K [.af y5 a0 [],tB a1] none) (yh R kk kk (P4 R kk K))) Ts (((ek _ _ _ _).dr _).ro _) Tryz.func37 (by kernel_rfl) rfl (fun _ _ _ _ _ _ h=>h _ _) (fun _ _ _ _ _ _=>by kernel_rfl) fun R kk e x0 x1 x2 K=>by
 simp only[pY,Jv,Jx,XR (hF:=e),VD,aE,<-e]
def Ap:Env:=bD.env (fun i=>bif Nat.beq i 9 then [2,4,9,39,40,41] else []) (fun i=>bif Nat.beq i 9 then [4] else []) [4] [aO,y5]
def x8(a:Int)(b:al)(c d:Int)(e:ag)(f:aB):Option R:=az (ev Ap (nk R) kk (sub [1,1,1,1,0,1,0,0] (cd Tryz.f96))) [2,4,9,39,40,41] [4] k ⟨uS 2 ([.ptr 3 aO []]::uS 1 ([.ptr 5 (.pair (.int .i64) (.pair (.int .i64) .unit)) []]::uS 4 ([tI a]::uS 29 ([.af (.sl 90 (.pair (.int .i64) (.pair .str .unit))) b []]::[tI c]::[tI d]::uS 36 [])))),nS 3 ((some ⟨aO,e,[]⟩)::nS 1 ((some ⟨(.pair (.int .i64) (.pair (.int .i64) .unit)),f,[]⟩)::nS 73 []))⟩ J
def Gb(a:aB):State:=⟨uS 4 ([.ptr 5 (.pair (.int .i64) (.pair (.int .i64) .unit)) []]::uS 73 []),nS 5 ((some ⟨(.pair (.int .i64) (.pair (.int .i64) .unit)),a,[]⟩)::nS 73 [])⟩
def Gc(a:aB):State:=⟨uS 4 ([.ptr 5 (.pair (.int .i64) (.pair (.int .i64) .unit)) []]::uS 73 []),nS 5 ((some ⟨(.pair (.int .i64) (.pair (.int .i64) .unit)),a,[]⟩)::nS 73 [])⟩
def I2:KX R:=(zd 0 (aS Ap (nk R) kk (sub [1,1,1,1,1] (cd Tryz.f96)) (aW Ap Tryz.f96.results.toList none K)))
theorem ZA(a:Int)(b:al)(c d:Int)(e:ag)(f:aB):x8 R kk (k+1) J a b c d e f=
 I4 a b c d e f (fun a0=>J .ret (Gb a0)) (x8 R kk k J) (fun a0=>J (.exit 0) (Gc a0)):=by kernel_rfl
theorem Vw(a:aB):I2 R kk K .ret (Gb a)=
 I5 a (fun a0=>K [.af (.pair (.int .i64) (.pair (.int .i64) .unit)) a0 []] none):=by kernel_rfl
theorem Vx(a:aB):I2 R kk K (.exit 0) (Gc a)=
 I6 a (fun a0=>K [.af (.pair (.int .i64) (.pair (.int .i64) .unit)) a0 []] none):=by kernel_rfl
theorem XL{kk:Nat}(hF:kk=aq)(t9:Int)(t39:al)(t40 t41:Int)(bR:ag)(bZ:aB):x8 R kk k J t9 t39 t40 t41 bR bZ=(z93 k t9 t39 t40 t41 bR bZ).bind fun e=>(Sum.elim (fun(we:aB)=>J .ret (Gb we)) (fun(we:aB)=>J (.exit 0) (Gc we)) e):=by
 induction k generalizing t9 t39 t40 t41 bR bZ with
 |zero=>rfl
 |succ k ih=>
  rw[ZA]
  simp only[z93,I4,ih,aE]
def nm:ae:=nk.add 96 [aO,y5] (cE aO y5 mz (fun _ r K=>K [.af (.pair (.int .i64) (.pair (.int .i64) .unit)) r []] none))
theorem Tu:aL Tryz.prog nm:=cF Ap Tryz.f96 (fun R kk x0 x1 K=>I3 x0 x1 (fun a0=>K [.af (.pair (.int .i64) (.pair (.int .i64) .unit)) a0 []] none) (x8 R kk kk (I2 R kk K))) Tt (ek _ _ _ _) Tryz.func96 (by kernel_rfl) rfl (fun _ _ _ _ _ _ h=>h _ _) (fun _ _ _ _ _=>by kernel_rfl) fun R kk e x0 x1 K=>by
 simp only[mz,I3,I5,I6,XL (hF:=e),Vw,Vx,aE,<-e]
def mB:Env:=bD.env (fun i=>bif Nat.beq i 7 then [0,4,5] else []) (fun i=>bif Nat.beq i 7 then [4] else []) [] [.str]
def iH(a:ByteArray)(b:(List Int))(c:Int):Option R:=az (ev mB (nm R) kk (sub [1,1,1,1,0,1,0,0] (cd Tryz.f154))) [0,4,5] [4] k ⟨[tS a]::uS 3 ([.af (.sl 5 (.int .u8)) b [[]]]::[tI c]::uS 40 []),nS 47 []⟩ J
def J2(a:(List Int)):State:=⟨uS 4 ([.af (.sl 5 (.int .u8)) a [[]]]::uS 41 []),nS 47 []⟩
def oa:KX R:=(zd 0 (aS mB (nm R) kk (sub [1,1,1,1,1] (cd Tryz.f154)) (aW mB Tryz.f154.results.toList none K)))
theorem sU(a:ByteArray)(b:(List Int))(c:Int):iH R kk (k+1) J a b c=
 kx a b c (iH R kk k J) (fun a0=>J (.exit 0) (J2 a0)):=by kernel_rfl
theorem ZL(a:(List Int)):oa R kk K (.exit 0) (J2 a)=
 ky a (fun a0 a1=>K [tS a0,tB a1] none):=by kernel_rfl
theorem Ez{kk:Nat}(hF:kk=aq)(gd:ByteArray)(t4:(List Int))(t5:Int):iH R kk k J gd t4 t5=(iI k gd t4 t5).bind fun e=>J (.exit 0) (J2 e):=by
 induction k generalizing gd t4 t5 with
 |zero=>rfl
 |succ k ih=>
  rw[sU]
  simp only[iI,kx,ih,aE]
def uM:ae:=nm.add 154 [.str] (cu .str Q1 (fun _ r K=>K [tS r.1,tB r.2] none))
theorem Tv:aL Tryz.prog uM:=cA mB Tryz.f154 (fun R kk x0 K=>gw x0 (fun a0 a1=>K [tS a0,tB a1] none) (fun a0 a1 a2=>iH R kk kk (oa R kk K) a0 a1 a2)) Tu (ek _ _ _ _) Tryz.func154 (by kernel_rfl) rfl (fun _ _ _ _ _ _ h=>h _ _) (fun _ _ _ _=>by kernel_rfl) fun R kk e x0 K=>by
 simp only[Q1,UB,ky,Ez (hF:=e),ZL,aE,<-e]
def EW:Env:=e0 [(.int .i64),.str]
def uN:ae:=uM.add 99 [(.int .i64),.str] (cE (.int .i64) .str qq (fun _ r K=>K [tS r.1,tB r.2] none))
theorem Dp:aL Tryz.prog uN:=cF EW Tryz.f99 (fun R kk x0 x1 K=>Le x0 x1 (fun a0 a1=>K [tS a0,tB a1] none)) Tv (ek _ _ _ _) Tryz.func99 (by kernel_rfl) rfl (fun _ _ _ _ _ _ h=>h _ _) (fun _ _ _ _ _=>by kernel_rfl) fun R kk e x0 x1 K=>by
 simp only[qq,Le,aE]
def Tryz.eb:Go.Shelf.Ren:=⟨fun|166=>98|240=>152|276=>198|n=>n,fun|70=>144|9=>9|3=>3|75=>149|0=>0|72=>147|37=>145|4=>4|164=>246|80=>158|5=>5|20=>20|n=>n,fun n=>n⟩
theorem Tryz.nJ:Go.Proofs.Lays.n166 Go.Proofs.Tryz.prog Tryz.eb:={
 mixed:=by kernel_rfl,
 f166:=Go.Proofs.Tryz.func98.trans (congrArg some (by kernel_rfl)),
 f240:=Go.Proofs.Tryz.func152.trans (congrArg some (by kernel_rfl)),
 f276:=Go.Proofs.Tryz.func198.trans (congrArg some (by kernel_rfl)),
 t0:=Go.Proofs.Tryz.underlying0,
 a0:=Go.Proofs.Tryz.isAgg0,
 z0:=Go.Proofs.Tryz.sizeOf0,
 v0:=Go.Proofs.Tryz.zeroValue0,
 t3:=Go.Proofs.Tryz.underlying3,
 a3:=Go.Proofs.Tryz.isAgg3,
 z3:=Go.Proofs.Tryz.sizeOf3,
 v3:=Go.Proofs.Tryz.zeroValue3,
 t4:=Go.Proofs.Tryz.underlying4,
 a4:=Go.Proofs.Tryz.isAgg4,
 z4:=Go.Proofs.Tryz.sizeOf4,
 v4:=Go.Proofs.Tryz.zeroValue4,
 t9:=Go.Proofs.Tryz.underlying9,
 a9:=Go.Proofs.Tryz.isAgg9,
 z9:=Go.Proofs.Tryz.sizeOf9,
 v9:=Go.Proofs.Tryz.zeroValue9,
 t20:=Go.Proofs.Tryz.underlying20,
 a20:=Go.Proofs.Tryz.isAgg20,
 z20:=Go.Proofs.Tryz.sizeOf20,
 v20:=Go.Proofs.Tryz.zeroValue20,
 t37:=Go.Proofs.Tryz.underlying145,
 a37:=Go.Proofs.Tryz.isAgg145,
 z37:=Go.Proofs.Tryz.sizeOf145,
 v37:=Go.Proofs.Tryz.zeroValue145,
 t70:=Go.Proofs.Tryz.underlying144,
 a70:=Go.Proofs.Tryz.isAgg144,
 z70:=Go.Proofs.Tryz.sizeOf144,
 v70:=Go.Proofs.Tryz.zeroValue144,
 t72:=Go.Proofs.Tryz.underlying147,
 a72:=Go.Proofs.Tryz.isAgg147,
 z72:=Go.Proofs.Tryz.sizeOf147,
 v72:=Go.Proofs.Tryz.zeroValue147,
 t75:=Go.Proofs.Tryz.underlying149,
 a75:=Go.Proofs.Tryz.isAgg149,
 z75:=Go.Proofs.Tryz.sizeOf149,
 v75:=Go.Proofs.Tryz.zeroValue149,
 t164:=Go.Proofs.Tryz.underlying246,
 a164:=Go.Proofs.Tryz.isAgg246,
 z164:=Go.Proofs.Tryz.sizeOf246,
 v164:=Go.Proofs.Tryz.zeroValue246}
theorem Tryz.kW:Go.Proofs.Builder.Extra Go.Proofs.Tryz.prog Tryz.eb:={
 sizeBuilder:=by kernel_rfl,
 liesBuilder:=by kernel_rfl,
 t5:=Go.Proofs.Tryz.underlying5,
 a5:=Go.Proofs.Tryz.isAgg5,
 z5:=Go.Proofs.Tryz.sizeOf5,
 v5:=Go.Proofs.Tryz.zeroValue5,
 infoByte:=by kernel_rfl,
 cellsByte:=by kernel_rfl,
 sizeByte:=by kernel_rfl,
 neB5:=by decide}
noncomputable abbrev TV:Code:=Tryz.f98.body.getD .skip
theorem TU:j5 Tryz.prog 98:=⟨Tryz.f98,TV,Tryz.func98,by kernel_rfl,by kernel_rfl⟩
def uO:ae:=uN.add 98 [] (wB 147 5)
theorem Tw:aL Tryz.prog uO:=⟨Dp.mix,zO Dp.nat (z138 _ _),Ww Dp.lI TU Tryz.nJ Tryz.kW rfl rfl rfl⟩
def EV:Env:=e0 [.str,.unit]
def nn:ae:=uO.add 97 [.str,.unit] (pz .str (.aP (.dk 147 5) .unit .unit) (.aP (.dk 147 5) .unit .unit) [[]] kB (fun _ r K=>K [] (some ⟨(.aP (.dk 147 5) .unit .unit),r,[[]]⟩)))
theorem Tx:aL Tryz.prog nn:=sz EV Tryz.f97 (fun R kk x0 x1 K=>Ld x0 x1 (fun a0=>K [] (some ⟨(.aP (.dk 147 5) .unit .unit),a0,[[]]⟩))) Tw (ek _ _ _ _) Tryz.func97 (by kernel_rfl) rfl (fun _ _ _ _ _ _ h=>h _ _) (fun _ _ _ _ _=>by kernel_rfl) fun R kk e x0 x1 K=>by
 simp only[kB,Ld,aE]
def Ar:Env:=bD.env (fun i=>bif Nat.beq i 3 then [2,3,7,8,9] else []) (fun i=>bif Nat.beq i 3 then [2,3] else []) [2] [y5]
def yb(a:al)(b c:Int)(d e:aB):Option R:=az (ev Ar (nn R) kk (sub [1,1,0,1,0,0] (cd Tryz.f101))) [2,3,7,8,9] [2,3] k ⟨uS 2 ([.ptr 3 (.pair (.int .u64) (.pair (.int .u64) .unit)) []]::[.ptr 4 (.pair (.int .u64) (.pair (.int .u64) .unit)) []]::uS 3 ([.af (.sl 90 (.pair (.int .i64) (.pair .str .unit))) a []]::[tI b]::[tI c]::uS 9 [])),nS 3 ((some ⟨(.pair (.int .u64) (.pair (.int .u64) .unit)),d,[]⟩)::(some ⟨(.pair (.int .u64) (.pair (.int .u64) .unit)),e,[]⟩)::nS 15 [])⟩ J
def Gf(a b:aB):State:=⟨uS 2 ([.ptr 3 (.pair (.int .u64) (.pair (.int .u64) .unit)) []]::[.ptr 4 (.pair (.int .u64) (.pair (.int .u64) .unit)) []]::uS 15 []),nS 3 ((some ⟨(.pair (.int .u64) (.pair (.int .u64) .unit)),a,[]⟩)::(some ⟨(.pair (.int .u64) (.pair (.int .u64) .unit)),b,[]⟩)::nS 15 [])⟩
def P1:KX R:=(zd 0 (aS Ar (nn R) kk (sub [1,1,1] (cd Tryz.f101)) (aW Ar Tryz.f101.results.toList none K)))
theorem ZC(a:al)(b c:Int)(d e:aB):yb R kk (k+1) J a b c d e=
 Jd a b c d e (yb R kk k J) (fun a0 a1=>J (.exit 0) (Gf a0 a1)):=by kernel_rfl
theorem VA(a b:aB):P1 R kk K (.exit 0) (Gf a b)=
 Je a b (fun a0=>K [.af (.pair (.int .u64) (.pair (.int .u64) .unit)) a0 []] none):=by kernel_rfl
theorem XO{kk:Nat}(hF:kk=aq)(t7:al)(t8 t9:Int)(bR bY:aB):yb R kk k J t7 t8 t9 bR bY=(yc k t7 t8 t9 bR bY).bind fun e=>J (.exit 0) (Gf e.1 e.2):=by
 induction k generalizing t7 t8 t9 bR bY with
 |zero=>rfl
 |succ k ih=>
  rw[ZC]
  simp only[yc,Jd,ih,aE]
def oe:ae:=nn.add 101 [y5] (cu y5 pS (fun _ r K=>K [.af (.pair (.int .u64) (.pair (.int .u64) .unit)) r []] none))
theorem CO:aL Tryz.prog oe:=cA Ar Tryz.f101 (fun R kk x0 K=>Jc x0 (yb R kk kk (P1 R kk K))) Tx (ek _ _ _ _) Tryz.func101 (by kernel_rfl) rfl (fun _ _ _ _ _ _ h=>h _ _) (fun _ _ _ _=>by kernel_rfl) fun R kk e x0 K=>by
 simp only[pS,Jc,Je,XO (hF:=e),VA,aE,<-e]
def ti:Env:=e0 [(.pair (.int .u64) (.pair (.int .u64) .unit)),(.int .i64)]
def og:ae:=oe.add 156 [(.pair (.int .u64) (.pair (.int .u64) .unit)),(.int .i64)] (cE (.pair (.int .u64) (.pair (.int .u64) .unit)) (.int .i64) Br (fun _ r K=>K [tB r] none))
theorem CP:aL Tryz.prog og:=cF ti Tryz.f156 (fun R kk x0 x1 K=>MJ x0 x1 (fun a0=>K [tB a0] none)) CO (ek _ _ _ _) Tryz.func156 (by kernel_rfl) rfl (fun _ _ _ _ _ _ h=>h _ _) (fun _ _ _ _ _=>by kernel_rfl) fun R kk e x0 x1 K=>by
 simp only[Br,MJ,aE]
def tg:Env:=e0 [(.pair (.int .u64) (.pair (.int .u64) .unit))]
def iW:ae:=og.add 157 [(.pair (.int .u64) (.pair (.int .u64) .unit))] (cu (.pair (.int .u64) (.pair (.int .u64) .unit)) Bq (fun _ r K=>K [.af (.int .u64) r.1 [],.af (.int .u64) r.2 []] none))
theorem CQ:aL Tryz.prog iW:=cA tg Tryz.f157 (fun R kk x0 K=>MI x0 (fun a0 a1=>K [.af (.int .u64) a0 [],.af (.int .u64) a1 []] none)) CP (ek _ _ _ _) Tryz.func157 (by kernel_rfl) rfl (fun _ _ _ _ _ _ h=>h _ _) (fun _ _ _ _=>by kernel_rfl) fun R kk e x0 K=>by
 simp only[Bq,MI,aE]
def mK:Env:=bD.env (fun i=>bif Nat.beq i 3 then [0,2,3,5] else []) (fun i=>bif Nat.beq i 3 then [2,3] else []) [2] [(.int .u64)]
def iU(a b:Int)(c d:(List Int)):Option R:=az (ev mK (iW R) kk (sub [1,1,0,1,0,0] (cd Tryz.f158))) [0,2,3,5] [2,3] k ⟨[.af (.int .u64) a []]::uS 1 ([.ptr 3 (.arr 8 (.int .u8)) []]::[.ptr 4 (.arr 8 (.int .u8)) []]::uS 1 ([tI b]::uS 12 [])),nS 3 ((some ⟨(.arr 8 (.int .u8)),c,[]⟩)::(some ⟨(.arr 8 (.int .u8)),d,[]⟩)::nS 14 [])⟩ J
def LN(a b:(List Int)):State:=⟨uS 2 ([.ptr 3 (.arr 8 (.int .u8)) []]::[.ptr 4 (.arr 8 (.int .u8)) []]::uS 14 []),nS 3 ((some ⟨(.arr 8 (.int .u8)),a,[]⟩)::(some ⟨(.arr 8 (.int .u8)),b,[]⟩)::nS 14 [])⟩
def od:KX R:=(zd 0 (aS mK (iW R) kk (sub [1,1,1] (cd Tryz.f158)) (aW mK Tryz.f158.results.toList none K)))
theorem tA(a b:Int)(c d:(List Int)):iU R kk (k+1) J a b c d=
 kN a b c d (iU R kk k J) (fun a0 a1=>J (.exit 0) (LN a0 a1)):=by kernel_rfl
theorem DO(a b:(List Int)):od R kk K (.exit 0) (LN a b)=
 kO a b (fun a0=>K [.af (.arr 8 (.int .u8)) a0 []] none):=by kernel_rfl
theorem Fe{kk:Nat}(hF:kk=aq)(DG t5:Int)(bR bY:(List Int)):iU R kk k J DG t5 bR bY=(iV k DG t5 bR bY).bind fun e=>J (.exit 0) (LN e.1 e.2):=by
 induction k generalizing DG t5 bR bY with
 |zero=>rfl
 |succ k ih=>
  rw[tA]
  simp only[iV,kN,ih,aE]
def iX:ae:=iW.add 158 [(.int .u64)] (cu (.int .u64) Q8 (fun _ r K=>K [.af (.arr 8 (.int .u8)) r []] none))
theorem CR:aL Tryz.prog iX:=cA mK Tryz.f158 (fun R kk x0 K=>kM x0 (iU R kk kk (od R kk K))) CQ (ek _ _ _ _) Tryz.func158 (by kernel_rfl) rfl (fun _ _ _ _ _ _ h=>h _ _) (fun _ _ _ _=>by kernel_rfl) fun R kk e x0 K=>by
 simp only[Q8,kM,kO,Fe (hF:=e),DO,aE,<-e]
def Al:Env:=bD.env (fun i=>bif Nat.beq i 3 then [0,3,4] else []) (fun i=>bif Nat.beq i 3 then [3] else []) [] [.str]
def xZ(a:ByteArray)(b:(List Int))(c:Int):Option R:=az (ev Al (iX R) kk (sub [1,1,0,1,0,0] (cd Tryz.f159))) [0,3,4] [3] k ⟨[tS a]::uS 2 ([.af (.sl 5 (.int .u8)) b [[]]]::[tI c]::uS 25 []),nS 31 []⟩ J
def F7(a:(List Int)):State:=⟨uS 3 ([.af (.sl 5 (.int .u8)) a [[]]]::uS 26 []),nS 31 []⟩
def PZ:KX R:=(zd 0 (aS Al (iX R) kk (sub [1,1,1] (cd Tryz.f159)) (aW Al Tryz.f159.results.toList none K)))
theorem Zx(a:ByteArray)(b:(List Int))(c:Int):xZ R kk (k+1) J a b c=
 IK a b c (xZ R kk k J) (fun a0=>J (.exit 0) (F7 a0)):=by kernel_rfl
theorem Vs(a:(List Int)):PZ R kk K (.exit 0) (F7 a)=
 IL a (fun a0=>K [tS a0] none):=by kernel_rfl
theorem XI{kk:Nat}(hF:kk=aq)(gd:ByteArray)(t3:(List Int))(t4:Int):xZ R kk k J gd t3 t4=(x4 k gd t3 t4).bind fun e=>J (.exit 0) (F7 e):=by
 induction k generalizing gd t3 t4 with
 |zero=>rfl
 |succ k ih=>
  rw[Zx]
  simp only[x4,IK,ih,aE]
def oh:ae:=iX.add 159 [.str] (cu .str jx (fun _ r K=>K [tS r] none))
theorem CS:aL Tryz.prog oh:=cA Al Tryz.f159 (fun R kk x0 K=>IJ x0 (xZ R kk kk (PZ R kk K))) CR (ek _ _ _ _) Tryz.func159 (by kernel_rfl) rfl (fun _ _ _ _ _ _ h=>h _ _) (fun _ _ _ _=>by kernel_rfl) fun R kk e x0 K=>by
 simp only[jx,IJ,IL,XI (hF:=e),Vs,aE,<-e]
def Bv:Env:=e0 [(.int .i64),(.pair (.int .u64) (.pair (.int .u64) .unit))]
def iY:ae:=oh.add 100 [(.int .i64),(.pair (.int .u64) (.pair (.int .u64) .unit))] (cE (.int .i64) (.pair (.int .u64) (.pair (.int .u64) .unit)) Q6 (fun _ r K=>K [tS r.1,tI r.2] none))
theorem CT:aL Tryz.prog iY:=cF Bv Tryz.f100 (fun R kk x0 x1 K=>kI x0 x1 (fun a0 a1=>K [tS a0,tI a1] none)) CS (ek _ _ _ _) Tryz.func100 (by kernel_rfl) rfl (fun _ _ _ _ _ _ h=>h _ _) (fun _ _ _ _ _=>by kernel_rfl) fun R kk e x0 x1 K=>by
 simp only[Q6,kI,aE]
def iO:Env:=bD.env (fun i=>bif Nat.beq i 5 then [0,6,7,19] else []) (fun i=>bif Nat.beq i 5 then [0,6,19] else []) [] [(.int .i64),(.int .i64)]
def A0(a:Int)(b:Nat)(c:Int)(d:Nat)(e:(List Int)):Option R:=az (ev iO (iY R) kk (sub [1,1,1,0,1,0,0] (cd Tryz.f201))) [0,6,7,19] [0,6,19] k ⟨[tI a]::uS 5 ([.ptr 20 (.aP (.ey b) (.int .u8) .unit) []]::[tI c]::uS 11 ([.ptr 20 (.aP (.ey d) (.int .u8) .unit) []]::uS 19 [])),nS 20 ((some ⟨(.aP .row (.int .u8) .unit),e,[]⟩)::nS 19 [])⟩ J
def Ht(a:Int)(b c:Nat)(d:(List Int)):State:=⟨[tI a]::uS 5 ([.ptr 20 (.aP (.ey b) (.int .u8) .unit) []]::uS 12 ([.ptr 20 (.aP (.ey c) (.int .u8) .unit) []]::uS 19 [])),nS 20 ((some ⟨(.aP .row (.int .u8) .unit),d,[]⟩)::nS 19 [])⟩
def Qq:KX R:=(zd 0 (aS iO (iY R) kk (sub [1,1,1,1] (cd Tryz.f201)) (aW iO Tryz.f201.results.toList none K)))
theorem E0(a:Int)(b:Nat)(c:Int)(d:Nat)(e:(List Int)):A0 R kk (k+1) J a b c d e=
 MA a b c d e (A0 R kk k J) (fun a0 a1 a2 a3=>J (.exit 0) (Ht a0 a1 a2 a3)):=by kernel_rfl
theorem Yr(a:Int)(b c:Nat)(d:(List Int)):Qq R kk K (.exit 0) (Ht a b c d)=
 MB a b c d (fun a0 a1=>K [tS a0,tB a1] none):=by kernel_rfl
theorem z105{kk:Nat}(hF:kk=aq)(CK:Int)(CM:Nat)(t7:Int)(rh:Nat)(qH:(List Int)):A0 R kk k J CK CM t7 rh qH=(A3 k CK CM t7 rh qH).bind fun e=>J (.exit 0) (Ht e.1 e.2.1 e.2.2.1 e.2.2.2):=by
 induction k generalizing CK CM t7 rh qH with
 |zero=>rfl
 |succ k ih=>
  rw[E0]
  simp only[A3,MA,ih,aE]
def oi:ae:=iY.add 201 [(.int .i64),(.int .i64)] (cE (.int .i64) (.int .i64) Bp (fun _ r K=>K [tS r.1,tB r.2] none))
theorem CU:aL Tryz.prog oi:=cF iO Tryz.f201 (fun R kk x0 x1 K=>Mz x0 x1 (fun a0 a1=>K [tS a0,tB a1] none) (A0 R kk kk (Qq R kk K))) CT (ek _ _ _ _) Tryz.func201 (by kernel_rfl) rfl (fun _ _ _ _ _ _ h=>h _ _) (fun _ _ _ _ _=>by kernel_rfl) fun R kk e x0 x1 K=>by
 simp only[Bp,Mz,MB,z105 (hF:=e),Yr,aE,<-e]
def En:Env:=e0 [(.int .i64),(.int .i64),(.int .i64)]
def oj:ae:=oi.add 161 [(.int .i64),(.int .i64),(.int .i64)] (fI (.int .i64) (.int .i64) (.int .i64) pX (fun _ r K=>K [tS r.1,tI r.2] none))
theorem CV:aL Tryz.prog oj:=gf En Tryz.f161 (fun R kk x0 x1 x2 K=>Js x0 x1 x2 (fun a0 a1=>K [tS a0,tI a1] none)) CU (ek _ _ _ _) Tryz.func161 (by kernel_rfl) rfl (fun _ _ _ _ _ _ h=>h _ _) (fun _ _ _ _ _ _=>by kernel_rfl) fun R kk e x0 x1 x2 K=>by
 simp only[pX,Js,aE]
def sN:Env:=e0 [(.int .i64),y9,.str]
def om:ae:=oj.add 102 [(.int .i64),y9,.str] (fI (.int .i64) y9 .str Bf (fun _ r K=>K [tS r.1,tI r.2] none))
theorem ri:aL Tryz.prog om:=gf sN Tryz.f102 (fun R kk x0 x1 x2 K=>LY x0 x1 x2 (fun a0 a1=>K [tS a0,tI a1] none)) CV (ek _ _ _ _) Tryz.func102 (by kernel_rfl) rfl (fun _ _ _ _ _ _ h=>h _ _) (fun _ _ _ _ _ _=>by kernel_rfl) fun R kk e x0 x1 x2 K=>by
 simp only[Bf,LY,aE]
def Tryz.eg:Go.Shelf.Ren:=⟨fun|169=>103|n=>n,fun|70=>144|9=>9|0=>0|72=>147|37=>145|127=>217|3=>3|5=>5|n=>n,fun n=>n⟩
theorem Tryz.nK:Go.Proofs.Lays.n169 Go.Proofs.Tryz.prog Tryz.eg:={
 mixed:=by kernel_rfl,
 f169:=Go.Proofs.Tryz.func103.trans (congrArg some (by kernel_rfl)),
 t0:=Go.Proofs.Tryz.underlying0,
 a0:=Go.Proofs.Tryz.isAgg0,
 z0:=Go.Proofs.Tryz.sizeOf0,
 v0:=Go.Proofs.Tryz.zeroValue0,
 t3:=Go.Proofs.Tryz.underlying3,
 a3:=Go.Proofs.Tryz.isAgg3,
 z3:=Go.Proofs.Tryz.sizeOf3,
 v3:=Go.Proofs.Tryz.zeroValue3,
 t9:=Go.Proofs.Tryz.underlying9,
 a9:=Go.Proofs.Tryz.isAgg9,
 z9:=Go.Proofs.Tryz.sizeOf9,
 v9:=Go.Proofs.Tryz.zeroValue9,
 t37:=Go.Proofs.Tryz.underlying145,
 a37:=Go.Proofs.Tryz.isAgg145,
 z37:=Go.Proofs.Tryz.sizeOf145,
 v37:=Go.Proofs.Tryz.zeroValue145,
 t70:=Go.Proofs.Tryz.underlying144,
 a70:=Go.Proofs.Tryz.isAgg144,
 z70:=Go.Proofs.Tryz.sizeOf144,
 v70:=Go.Proofs.Tryz.zeroValue144,
 t72:=Go.Proofs.Tryz.underlying147,
 a72:=Go.Proofs.Tryz.isAgg147,
 z72:=Go.Proofs.Tryz.sizeOf147,
 v72:=Go.Proofs.Tryz.zeroValue147,
 t127:=Go.Proofs.Tryz.underlying217,
 a127:=Go.Proofs.Tryz.isAgg217,
 z127:=Go.Proofs.Tryz.sizeOf217,
 v127:=Go.Proofs.Tryz.zeroValue217}
theorem Tryz.kX:Go.Proofs.Builder.Extra Go.Proofs.Tryz.prog Tryz.eg:={
 sizeBuilder:=by kernel_rfl,
 liesBuilder:=by kernel_rfl,
 t5:=Go.Proofs.Tryz.underlying5,
 a5:=Go.Proofs.Tryz.isAgg5,
 z5:=Go.Proofs.Tryz.sizeOf5,
 v5:=Go.Proofs.Tryz.zeroValue5,
 infoByte:=by kernel_rfl,
 cellsByte:=by kernel_rfl,
 sizeByte:=by kernel_rfl,
 neB5:=by decide}
noncomputable abbrev z40:Code:=Tryz.f103.body.getD .skip
theorem TW:j5 Tryz.prog 103:=⟨Tryz.f103,z40,Tryz.func103,by kernel_rfl,by kernel_rfl⟩
def iZ:ae:=om.add 103 [] (wA 147 5)
theorem CW:aL Tryz.prog iZ:=⟨ri.mix,zO ri.nat (Fu _ _),Wv ri.lI TW Tryz.nK Tryz.kX rfl rfl rfl⟩
def AP:Env:={bD.env (fun i=>bif Nat.beq i 11 then [2,5,7,8,50,51,52] else []) (fun i=>bif Nat.beq i 11 then [5,7] else []) [5] [aO,y5] with bl:=fun t=>bif Nat.beq t 147 then some 5 else none}
def yU(a:al)(b c:Int)(d:ag)(e:aB)(f:ByteArray):Option R:=az (ev AP (iZ R) kk (sub [1,1,1,1,1,1,1,1,0,1,0,0] (cd Tryz.f38))) [2,5,7,8,50,51,52] [5,7] k ⟨uS 2 ([.ptr 3 aO []]::uS 2 ([.ptr 6 (.pair (.int .i64) (.pair (.int .i64) .unit)) []]::uS 1 ([.ptr 8 (.aP (.dk 147 5) .unit .unit) []]::[.ptr 8 (.aP (.j7 97) (.aP (.dk 147 5) .unit .unit) .unit) []]::uS 41 ([.af (.sl 90 (.pair (.int .i64) (.pair .str .unit))) a []]::[tI b]::[tI c]::uS 25 [])))),nS 3 ((some ⟨aO,d,[]⟩)::nS 2 ((some ⟨(.pair (.int .i64) (.pair (.int .i64) .unit)),e,[]⟩)::nS 1 ((some ⟨(.aP (.dk 147 5) .unit .unit),f,[[]]⟩)::nS 70 [])))⟩ J
def GU(a:aB)(b:ByteArray):State:=⟨uS 5 ([.ptr 6 (.pair (.int .i64) (.pair (.int .i64) .unit)) []]::uS 1 ([.ptr 8 (.aP (.dk 147 5) .unit .unit) []]::uS 70 [])),nS 6 ((some ⟨(.pair (.int .i64) (.pair (.int .i64) .unit)),a,[]⟩)::nS 1 ((some ⟨(.aP (.dk 147 5) .unit .unit),b,[[]]⟩)::nS 70 []))⟩
def P9:KX R:=(zd 0 (aS AP (iZ R) kk (sub [1,1,1,1,1,1,1,1,1] (cd Tryz.f38)) (aW AP Tryz.f38.results.toList none K)))
theorem Z0(a:al)(b c:Int)(d:ag)(e:aB)(f:ByteArray):yU R kk (k+1) J a b c d e f=
 Lb a b c d e f (yU R kk k J) (fun a0 a1=>J (.exit 0) (GU a0 a1)):=by kernel_rfl
theorem V8(a:aB)(b:ByteArray):P9 R kk K (.exit 0) (GU a b)=
 Lc a b (fun a0 a1=>K [tS a0,.af (.pair (.int .i64) (.pair (.int .i64) .unit)) a1 []] none):=by kernel_rfl
theorem Yf{kk:Nat}(hF:kk=aq)(t50:al)(t51 t52:Int)(bR:ag)(cW:aB)(eI:ByteArray):yU R kk k J t50 t51 t52 bR cW eI=(yV k t50 t51 t52 bR cW eI).bind fun e=>J (.exit 0) (GU e.1 e.2):=by
 induction k generalizing t50 t51 t52 bR cW eI with
 |zero=>rfl
 |succ k ih=>
  rw[Z0]
  simp only[yV,Lb,ih,aE]
def oo:ae:=iZ.add 38 [aO,y5] (cE aO y5 mH (fun _ r K=>K [tS r.1,.af (.pair (.int .i64) (.pair (.int .i64) .unit)) r.2 []] none))
theorem CY:aL Tryz.prog oo:=cF AP Tryz.f38 (fun R kk x0 x1 K=>La x0 x1 (fun a0 a1=>K [tS a0,.af (.pair (.int .i64) (.pair (.int .i64) .unit)) a1 []] none) (yU R kk kk (P9 R kk K))) CW ((ek _ _ _ _).dk 147 5 (by kernel_rfl)) Tryz.func38 (by kernel_rfl) rfl (fun _ _ _ _ _ _ h=>h _ _) (fun _ _ _ _ _=>by kernel_rfl) fun R kk e x0 x1 K=>by
 simp only[mH,La,Lc,Yf (hF:=e),V8,aE,<-e]
def Ey:Env:=e0 [y5,(.pair (.int .i64) (.pair (.int .i64) .unit)),.unit,.unit]
def ja:ae:=oo.add 36 [y5,(.pair (.int .i64) (.pair (.int .i64) .unit)),.unit,.unit] (pv y5 (.pair (.int .i64) (.pair (.int .i64) .unit)) bT cc kv (fun _ r K=>K [tI r.1,tS r.2] none))
theorem CZ:aL Tryz.prog ja:=sv Ey Tryz.f36 (fun R kk x0 x1 x2 x3 K=>J1 x0 x1 x2 x3 (fun a0 a1=>K [tI a0,tS a1] none)) CY (ek _ _ _ _) Tryz.func36 (by kernel_rfl) rfl (fun _ _ _ _ _ _ h=>h _ _) (fun _ _ _ _ _ _ _=>by kernel_rfl) fun R kk e x0 x1 x2 x3 K=>by
 simp only[kv,J1,aE]
def AV:Env:=bD.env (fun i=>bif Nat.beq i 2 then [1,9,10,11] else []) (fun i=>bif Nat.beq i 2 then [4,5] else []) [] [bG,.str]
def zM(a:ByteArray)(b:aw)(c d:Int):Option R:=az (ev AV (ja R) kk (sub [1,0,1,0,0] (cd Tryz.f108))) [1,9,10,11] [4,5] k ⟨uS 1 ([tS a]::uS 7 ([.af (.sl 116 (.pair .str (.pair .str .unit))) b []]::[tI c]::[tI d]::uS 10 [])),nS 23 []⟩ J
def G7(a:ByteArray)(b:Bool):State:=⟨uS 4 ([tS a]::[tB b]::uS 16 []),nS 23 []⟩
def G8:State:=⟨uS 22 [],nS 23 []⟩
def LF:KX R:=(zd 0 (aS AV (ja R) kk (sub [1,1] (cd Tryz.f108)) (aW AV Tryz.f108.results.toList none K)))
theorem DJ(a:ByteArray)(b:aw)(c d:Int):zM R kk (k+1) J a b c d=
 LH a b c d (fun a0 a1=>J .ret (G7 a0 a1)) (zM R kk k J) (J (.exit 0) (G8)):=by kernel_rfl
theorem Wl(a:ByteArray)(b:Bool):LF R kk K .ret (G7 a b)=
 LI a b (fun a0 a1=>K [tS a0,tB a1] none):=by kernel_rfl
theorem Wm:LF R kk K (.exit 0) (G8)=
 LJ (fun a0 a1=>K [tS a0,tB a1] none):=by kernel_rfl
theorem Yn{kk:Nat}(hF:kk=aq)(DC:ByteArray)(t9:aw)(t10 t11:Int):zM R kk k J DC t9 t10 t11=(zN k DC t9 t10 t11).bind fun e=>(Sum.elim (fun(we:gl)=>J .ret (G7 we.1 we.2)) (fun(we:Unit)=>J (.exit 0) (G8)) e):=by
 induction k generalizing DC t9 t10 t11 with
 |zero=>rfl
 |succ k ih=>
  rw[DJ]
  simp only[zN,LH,ih,aE]
def jb:ae:=ja.add 108 [bG,.str] (cE bG .str qu (fun _ r K=>K [tS r.1,tB r.2] none))
theorem C1:aL Tryz.prog jb:=cF AV Tryz.f108 (fun R kk x0 x1 K=>LG x0 x1 (zM R kk kk (LF R kk K))) CZ (ek _ _ _ _) Tryz.func108 (by kernel_rfl) rfl (fun _ _ _ _ _ _ h=>h _ _) (fun _ _ _ _ _=>by kernel_rfl) fun R kk e x0 x1 K=>by
 simp only[qu,LG,LI,LJ,Yn (hF:=e),Wl,Wm,aE,<-e]
def AU:Env:={bD.env (fun i=>bif Nat.beq i 2 then [1,4,9,10,11] else []) (fun i=>bif Nat.beq i 2 then [4,5] else []) [4] [bG,(.int .i64)] with ro:=true}
def zK(a:Int)(b:aR)(c d:Int)(e:aM):Option R:=az (ev AU (jb R) kk (sub [1,0,1,0,0] (cd Tryz.f109))) [1,4,9,10,11] [4,5] k ⟨uS 1 ([tI a]::uS 2 ([.ptr 5 cw []]::uS 4 ([.af (.sl 59 cw) b []]::[tI c]::[tI d]::uS 10 []))),nS 5 ((some ⟨cw,e,[[4]]⟩)::nS 17 [])⟩ J
def G5(a:Bool)(b:aM):State:=⟨uS 4 ([.ptr 5 cw []]::[tB a]::uS 16 []),nS 5 ((some ⟨cw,b,[]⟩)::nS 17 [])⟩
def G6(a:aM):State:=⟨uS 4 ([.ptr 5 cw []]::uS 17 []),nS 5 ((some ⟨cw,a,[[4]]⟩)::nS 17 [])⟩
def Lz:KX R:=(zd 0 (aS AU (jb R) kk (sub [1,1] (cd Tryz.f109)) (aW AU Tryz.f109.results.toList none K)))
theorem DI(a:Int)(b:aR)(c d:Int)(e:aM):zK R kk (k+1) J a b c d e=
 LB a b c d e (fun a0 a1=>J .ret (G5 a0 a1)) (zK R kk k J) (fun a0=>J (.exit 0) (G6 a0)):=by kernel_rfl
theorem Wj(a:Bool)(b:aM):Lz R kk K .ret (G5 a b)=
 LC a b (fun a0 a1=>K [.af cw a0 [],tB a1] none):=by kernel_rfl
theorem Wk(a:aM):Lz R kk K (.exit 0) (G6 a)=
 LD a (fun a0 a1=>K [.af cw a0 [],tB a1] none):=by kernel_rfl
theorem Ym{kk:Nat}(hF:kk=aq)(dC:Int)(t9:aR)(t10 t11:Int)(bZ:aM):zK R kk k J dC t9 t10 t11 bZ=(zL k dC t9 t10 t11 bZ).bind fun e=>(Sum.elim (fun(we:(Bool×aM))=>J .ret (G5 we.1 we.2)) (fun(we:aM)=>J (.exit 0) (G6 we)) e):=by
 induction k generalizing dC t9 t10 t11 bZ with
 |zero=>rfl
 |succ k ih=>
  rw[DI]
  simp only[zL,LB,ih,aE]
def oq:ae:=jb.add 109 [bG,(.int .i64)] (cE bG (.int .i64) qt (fun _ r K=>K [.af cw r.1 [],tB r.2] none))
theorem rj:aL Tryz.prog oq:=cF AU Tryz.f109 (fun R kk x0 x1 K=>LA x0 x1 (zK R kk kk (Lz R kk K))) C1 ((ek _ _ _ _).ro _) Tryz.func109 (by kernel_rfl) rfl (fun _ _ _ _ _ _ h=>h _ _) (fun _ _ _ _ _=>by kernel_rfl) fun R kk e x0 x1 K=>by
 simp only[qt,LA,LC,LD,Ym (hF:=e),Wj,Wk,aE,<-e]
def Tryz.dd:Go.Shelf.Ren:=⟨fun|105=>206|212=>216|99=>217|165=>218|166=>98|170=>219|169=>103|263=>230|264=>231|206=>232|240=>152|241=>233|276=>198|277=>238|n=>n,fun|9=>9|3=>3|4=>4|20=>20|0=>0|46=>248|109=>255|5=>5|72=>147|76=>150|51=>267|146=>268|53=>101|148=>211|70=>144|37=>145|75=>149|127=>217|164=>246|80=>158|n=>n,fun n=>n⟩
theorem Tryz.cp:Go.Proofs.Lays.n105 Go.Proofs.Tryz.prog Tryz.dd:={
 mixed:=by kernel_rfl,
 f99:=Go.Proofs.Tryz.func217.trans (congrArg some (by kernel_rfl)),
 f105:=Go.Proofs.Tryz.func206.trans (congrArg some (by kernel_rfl)),
 f165:=Go.Proofs.Tryz.func218.trans (congrArg some (by kernel_rfl)),
 f166:=Go.Proofs.Tryz.func98.trans (congrArg some (by kernel_rfl)),
 f169:=Go.Proofs.Tryz.func103.trans (congrArg some (by kernel_rfl)),
 f170:=Go.Proofs.Tryz.func219.trans (congrArg some (by kernel_rfl)),
 f206:=Go.Proofs.Tryz.func232.trans (congrArg some (by kernel_rfl)),
 f212:=Go.Proofs.Tryz.func216.trans (congrArg some (by kernel_rfl)),
 f240:=Go.Proofs.Tryz.func152.trans (congrArg some (by kernel_rfl)),
 f241:=Go.Proofs.Tryz.func233.trans (congrArg some (by kernel_rfl)),
 f263:=Go.Proofs.Tryz.func230.trans (congrArg some (by kernel_rfl)),
 f264:=Go.Proofs.Tryz.func231.trans (congrArg some (by kernel_rfl)),
 f276:=Go.Proofs.Tryz.func198.trans (congrArg some (by kernel_rfl)),
 f277:=Go.Proofs.Tryz.func238.trans (congrArg some (by kernel_rfl)),
 t0:=Go.Proofs.Tryz.underlying0,
 a0:=Go.Proofs.Tryz.isAgg0,
 z0:=Go.Proofs.Tryz.sizeOf0,
 v0:=Go.Proofs.Tryz.zeroValue0,
 t3:=Go.Proofs.Tryz.underlying3,
 a3:=Go.Proofs.Tryz.isAgg3,
 z3:=Go.Proofs.Tryz.sizeOf3,
 v3:=Go.Proofs.Tryz.zeroValue3,
 t4:=Go.Proofs.Tryz.underlying4,
 a4:=Go.Proofs.Tryz.isAgg4,
 z4:=Go.Proofs.Tryz.sizeOf4,
 v4:=Go.Proofs.Tryz.zeroValue4,
 t5:=Go.Proofs.Tryz.underlying5,
 a5:=Go.Proofs.Tryz.isAgg5,
 z5:=Go.Proofs.Tryz.sizeOf5,
 v5:=Go.Proofs.Tryz.zeroValue5,
 t9:=Go.Proofs.Tryz.underlying9,
 a9:=Go.Proofs.Tryz.isAgg9,
 z9:=Go.Proofs.Tryz.sizeOf9,
 v9:=Go.Proofs.Tryz.zeroValue9,
 t20:=Go.Proofs.Tryz.underlying20,
 a20:=Go.Proofs.Tryz.isAgg20,
 z20:=Go.Proofs.Tryz.sizeOf20,
 v20:=Go.Proofs.Tryz.zeroValue20,
 t37:=Go.Proofs.Tryz.underlying145,
 a37:=Go.Proofs.Tryz.isAgg145,
 z37:=Go.Proofs.Tryz.sizeOf145,
 v37:=Go.Proofs.Tryz.zeroValue145,
 t46:=Go.Proofs.Tryz.underlying248,
 a46:=Go.Proofs.Tryz.isAgg248,
 z46:=Go.Proofs.Tryz.sizeOf248,
 v46:=Go.Proofs.Tryz.zeroValue248,
 t51:=Go.Proofs.Tryz.underlying267,
 a51:=Go.Proofs.Tryz.isAgg267,
 z51:=Go.Proofs.Tryz.sizeOf267,
 v51:=Go.Proofs.Tryz.zeroValue267,
 t53:=Go.Proofs.Tryz.underlying101,
 a53:=Go.Proofs.Tryz.isAgg101,
 z53:=Go.Proofs.Tryz.sizeOf101,
 v53:=Go.Proofs.Tryz.zeroValue101,
 t70:=Go.Proofs.Tryz.underlying144,
 a70:=Go.Proofs.Tryz.isAgg144,
 z70:=Go.Proofs.Tryz.sizeOf144,
 v70:=Go.Proofs.Tryz.zeroValue144,
 t72:=Go.Proofs.Tryz.underlying147,
 a72:=Go.Proofs.Tryz.isAgg147,
 z72:=Go.Proofs.Tryz.sizeOf147,
 v72:=Go.Proofs.Tryz.zeroValue147,
 t75:=Go.Proofs.Tryz.underlying149,
 a75:=Go.Proofs.Tryz.isAgg149,
 z75:=Go.Proofs.Tryz.sizeOf149,
 v75:=Go.Proofs.Tryz.zeroValue149,
 t76:=Go.Proofs.Tryz.underlying150,
 a76:=Go.Proofs.Tryz.isAgg150,
 z76:=Go.Proofs.Tryz.sizeOf150,
 v76:=Go.Proofs.Tryz.zeroValue150,
 t109:=Go.Proofs.Tryz.underlying255,
 a109:=Go.Proofs.Tryz.isAgg255,
 z109:=Go.Proofs.Tryz.sizeOf255,
 v109:=Go.Proofs.Tryz.zeroValue255,
 t127:=Go.Proofs.Tryz.underlying217,
 a127:=Go.Proofs.Tryz.isAgg217,
 z127:=Go.Proofs.Tryz.sizeOf217,
 v127:=Go.Proofs.Tryz.zeroValue217,
 t146:=Go.Proofs.Tryz.underlying268,
 a146:=Go.Proofs.Tryz.isAgg268,
 z146:=Go.Proofs.Tryz.sizeOf268,
 v146:=Go.Proofs.Tryz.zeroValue268,
 t148:=Go.Proofs.Tryz.underlying211,
 a148:=Go.Proofs.Tryz.isAgg211,
 z148:=Go.Proofs.Tryz.sizeOf211,
 v148:=Go.Proofs.Tryz.zeroValue211,
 t164:=Go.Proofs.Tryz.underlying246,
 a164:=Go.Proofs.Tryz.isAgg246,
 z164:=Go.Proofs.Tryz.sizeOf246,
 v164:=Go.Proofs.Tryz.zeroValue246}
theorem Tryz.gD:Go.Proofs.Builder.Extra Go.Proofs.Tryz.prog Tryz.dd:={
 sizeBuilder:=by kernel_rfl,
 liesBuilder:=by kernel_rfl,
 t5:=Tryz.cp.t5,
 a5:=Tryz.cp.a5,
 z5:=Tryz.cp.z5,
 v5:=Tryz.cp.v5,
 infoByte:=by kernel_rfl,
 cellsByte:=by kernel_rfl,
 sizeByte:=by kernel_rfl,
 neB5:=by decide}
noncomputable abbrev T0:Code:=Tryz.f206.body.getD .skip
theorem TY:j5 Tryz.prog 206:=⟨Tryz.f206,T0,Tryz.func206,by kernel_rfl,by kernel_rfl⟩
def N9:Pure:=fun R l b K=>de b (dG .str (.int .i64) l fun x0 x1=>(strings_Repeat x0 x1).bind fun r=>K [.af .str r []] none)
theorem T1:N9.Nat:=fun R S l b F G K h=>z28 (OX fun _ _=>l7 fun _=>h _ _)
def jc:ae:=oq.add 206 [] N9
theorem C2:aL Tryz.prog jc:=⟨rj.mix,zO rj.nat T1,YU rj.lI TY strings_Repeat (TX Tryz.cp Tryz.gD (by kernel_rfl))⟩
def AL:Env:=bD.env (fun i=>bif Nat.beq i 1 then [0,1] else []) (fun i=>bif Nat.beq i 1 then [0] else []) [] [.str,(.int .u8)]
def yQ(a:ByteArray)(b:Int):Option R:=az (ev AL (jc R) kk (sub [1,0,0,0] (cd Tryz.f221))) [0,1] [0] k ⟨[tS a]::[tU b]::uS 21 [],nS 24 []⟩ J
def GO(a:ByteArray):State:=⟨[tS a]::uS 22 [],nS 24 []⟩
def P8:KX R:=(zd 0 (aS AL (jc R) kk (sub [1,1] (cd Tryz.f221)) (aW AL Tryz.f221.results.toList none K)))
theorem ZX(a:ByteArray)(b:Int):yQ R kk (k+1) J a b=
 K0 a b (yQ R kk k J) (fun a0=>J (.exit 0) (GO a0)):=by kernel_rfl
theorem V5(a:ByteArray):P8 R kk K (.exit 0) (GO a)=
 K1 a (fun a0=>K [tS a0] none):=by kernel_rfl
theorem Yb{kk:Nat}(hF:kk=aq)(gd:ByteArray)(qL:Int):yQ R kk k J gd qL=(yR k gd qL).bind fun e=>J (.exit 0) (GO e):=by
 induction k generalizing gd qL with
 |zero=>rfl
 |succ k ih=>
  rw[ZX]
  simp only[yR,K0,ih,aE]
def jd:ae:=jc.add 221 [.str,(.int .u8)] (cE .str (.int .u8) ql (fun _ r K=>K [tS r] none))
theorem C3:aL Tryz.prog jd:=cF AL Tryz.f221 (fun R kk x0 x1 K=>KZ x0 x1 (yQ R kk kk (P8 R kk K))) C2 (ek _ _ _ _) Tryz.func221 (by kernel_rfl) rfl (fun _ _ _ _ _ _ h=>h _ _) (fun _ _ _ _ _=>by kernel_rfl) fun R kk e x0 x1 K=>by
 simp only[ql,KZ,K1,Yb (hF:=e),V5,aE,<-e]
def AK:Env:=bD.env (fun i=>bif Nat.beq i 1 then [0,1] else []) (fun i=>bif Nat.beq i 1 then [0] else []) [] [.str,(.int .u8)]
def yO(a:ByteArray)(b:Int):Option R:=az (ev AK (jd R) kk (sub [1,0,0,0] (cd Tryz.f220))) [0,1] [0] k ⟨[tS a]::[tU b]::uS 15 [],nS 18 []⟩ J
def GN(a:ByteArray):State:=⟨[tS a]::uS 16 [],nS 18 []⟩
def P7:KX R:=(zd 0 (aS AK (jd R) kk (sub [1,1] (cd Tryz.f220)) (aW AK Tryz.f220.results.toList none K)))
theorem ZW(a:ByteArray)(b:Int):yO R kk (k+1) J a b=
 KW a b (yO R kk k J) (fun a0=>J (.exit 0) (GN a0)):=by kernel_rfl
theorem V4(a:ByteArray):P7 R kk K (.exit 0) (GN a)=
 KY a (fun a0=>K [tS a0] none):=by kernel_rfl
theorem Ya{kk:Nat}(hF:kk=aq)(gd:ByteArray)(qL:Int):yO R kk k J gd qL=(yP k gd qL).bind fun e=>J (.exit 0) (GN e):=by
 induction k generalizing gd qL with
 |zero=>rfl
 |succ k ih=>
  rw[ZW]
  simp only[yP,KW,ih,aE]
def ot:ae:=jd.add 220 [.str,(.int .u8)] (cE .str (.int .u8) qk (fun _ r K=>K [tS r] none))
theorem C4:aL Tryz.prog ot:=cF AK Tryz.f220 (fun R kk x0 x1 K=>KV x0 x1 (yO R kk kk (P7 R kk K))) C3 (ek _ _ _ _) Tryz.func220 (by kernel_rfl) rfl (fun _ _ _ _ _ _ h=>h _ _) (fun _ _ _ _ _=>by kernel_rfl) fun R kk e x0 x1 K=>by
 simp only[qk,KV,KY,Ya (hF:=e),V4,aE,<-e]
def EQ:Env:=e0 [.str,.str]
def ou:ae:=ot.add 207 [.str,.str] (cE .str .str qj (fun _ r K=>K [tS r] none))
theorem C5:aL Tryz.prog ou:=cF EQ Tryz.f207 (fun R kk x0 x1 K=>KU x0 x1 (fun a0=>K [tS a0] none)) C4 (ek _ _ _ _) Tryz.func207 (by kernel_rfl) rfl (fun _ _ _ _ _ _ h=>h _ _) (fun _ _ _ _ _=>by kernel_rfl) fun R kk e x0 x1 K=>by
 simp only[qj,KU,aE]
def s7:Env:=e0 [.str,(.int .i64)]
def je:ae:=ou.add 171 [.str,(.int .i64)] (cE .str (.int .i64) Bn (fun _ r K=>K [tS r.1,tB r.2] none))
theorem C6:aL Tryz.prog je:=cF s7 Tryz.f171 (fun R kk x0 x1 K=>My x0 x1 (fun a0 a1=>K [tS a0,tB a1] none)) C5 (ek _ _ _ _) Tryz.func171 (by kernel_rfl) rfl (fun _ _ _ _ _ _ h=>h _ _) (fun _ _ _ _ _=>by kernel_rfl) fun R kk e x0 x1 K=>by
 simp only[Bn,My,aE]
def iJ:Env:=bD.env (fun i=>bif Nat.beq i 2 then [1,8,9,10] else []) (fun i=>bif Nat.beq i 2 then [4,5] else []) [] [(.sl 116 (.pair .str (.pair .str .unit))),.str]
def Az(a:ByteArray)(b:aw)(c d:Int):Option R:=az (ev iJ (je R) kk (sub [1,0,1,0,0] (cd Tryz.f172))) [1,8,9,10] [4,5] k ⟨uS 1 ([tS a]::uS 6 ([.af (.sl 116 (.pair .str (.pair .str .unit))) b []]::[tI c]::[tI d]::uS 10 [])),nS 22 []⟩ J
def Hl(a:ByteArray)(b:Bool):State:=⟨uS 4 ([tS a]::[tB b]::uS 15 []),nS 22 []⟩
def Hm:State:=⟨uS 21 [],nS 22 []⟩
def L8:KX R:=(zd 0 (aS iJ (je R) kk (sub [1,1] (cd Tryz.f172)) (aW iJ Tryz.f172.results.toList none K)))
theorem EI(a:ByteArray)(b:aw)(c d:Int):Az R kk (k+1) J a b c d=
 Ma a b c d (fun a0 a1=>J .ret (Hl a0 a1)) (Az R kk k J) (J (.exit 0) (Hm)):=by kernel_rfl
theorem XZ(a:ByteArray)(b:Bool):L8 R kk K .ret (Hl a b)=
 Mb a b (fun a0 a1=>K [tS a0,tB a1] none):=by kernel_rfl
theorem X2:L8 R kk K (.exit 0) (Hm)=
 Mc (fun a0 a1=>K [tS a0,tB a1] none):=by kernel_rfl
theorem ZO{kk:Nat}(hF:kk=aq)(iD:ByteArray)(t8:aw)(t9 t10:Int):Az R kk k J iD t8 t9 t10=(AA k iD t8 t9 t10).bind fun e=>(Sum.elim (fun(we:gl)=>J .ret (Hl we.1 we.2)) (fun(we:Unit)=>J (.exit 0) (Hm)) e):=by
 induction k generalizing iD t8 t9 t10 with
 |zero=>rfl
 |succ k ih=>
  rw[EI]
  simp only[AA,Ma,ih,aE]
def ox:ae:=je.add 172 [(.sl 116 (.pair .str (.pair .str .unit))),.str] (cE (.sl 116 (.pair .str (.pair .str .unit))) .str Bj (fun _ r K=>K [tS r.1,tB r.2] none))
theorem C7:aL Tryz.prog ox:=cF iJ Tryz.f172 (fun R kk x0 x1 K=>L9 x0 x1 (Az R kk kk (L8 R kk K))) C6 (ek _ _ _ _) Tryz.func172 (by kernel_rfl) rfl (fun _ _ _ _ _ _ h=>h _ _) (fun _ _ _ _ _=>by kernel_rfl) fun R kk e x0 x1 K=>by
 simp only[Bj,L9,Mb,Mc,ZO (hF:=e),XZ,X2,aE,<-e]
def EE:Env:=bD.env (fun _=>[]) (fun _=>[]) [6] [cw,aO,.str]
def fq:ae:=ox.add 110 [cw,aO,.str] (fI cw aO .str p7 (fun _ r K=>K [.af (.pair (.int .i64) (.pair .str .unit)) r.1 [],tI r.2] none))
theorem C9:aL Tryz.prog fq:=gf EE Tryz.f110 (fun R kk x0 x1 x2 K=>Kd x0 x1 x2 (fun a0 a1=>K [.af (.pair (.int .i64) (.pair .str .unit)) a0 [],tI a1] none)) C7 (ek _ _ _ _) Tryz.func110 (by kernel_rfl) rfl (fun _ _ _ _ _ _ h=>h _ _) (fun _ _ _ _ _ _=>by kernel_rfl) fun R kk e x0 x1 x2 K=>by
 simp only[p7,Kd,aE]
end
end Go.Proofs.YtkgpjibbdpikcaaGreatDoor

