/- No condition. -/
import Derived.Test.YtkgpjibbdpikcaaGreatDoorK1
import Derived.KernelRfl
import Derived.Laws.RangeString
set_option linter.unusedVariables false
set_option linter.unusedSimpArgs false
set_option maxRecDepth 100000
namespace Groat
open Go.IntKind renaming wrap→zW,i64→zI,u8→zU
open Go Go.Ref
def zc8{R:Type}(a:Int)(b:Bool→Option R):Option R:=
 bif a=1 then b true else b (decide (a=2))
def Q14(a:Int):Option Bool:=
 zc8 a (fun a0=>some a0)
def zmn{R:Type}(a b:Int)(c:Int→Option R):Option R:=
 bif a=2 then bif b=1 then c 1 else bif a=1 then bif b=5 then c 2 else bif b=6 then c 2 else c 0 else c 0 else bif a=1 then bif b=5 then c 2 else bif b=6 then c 2 else c 0 else c 0
def Q13(a b:Int):Option Int:=
 zmn a b (fun a0=>some a0)
def zmg{R:Type}(a:Int)(b:Zt13)(c:ByteArray)(d:Int)(e:ByteArray→Int→Int→Option R):Option R:=
 (Q14 a).bind fun r1=>bif !r1 then e (bs []) 0 1 else(Q218 b).bind fun r2=>bif !decide (r2=0) then e (bs []) 0 1 else bif d<0 then e (bs []) 0 1 else bif(c.size:Int)<d then e (bs []) 0 1 else bif !decide (b.2.2.1=1) then(Q182 a b.2.2.1 c d).bind fun r3=>bif !decide (r3.2.2=0) then e (bs []) 0 r3.2.2 else bif r3.1<b.2.2.2.1 then e (bs []) 0 5 else bif b.2.2.2.2.1<r3.1 then e (bs []) 0 5 else(Q13 a b.2.1).bind fun r4=>bif r4=1 then(Q2 r3.1).bind fun r5=>bif zW zI ((c.size:Int)-r3.2.1)<r5 then e (bs []) 0 2 else bif 0≤zW zI (r3.2.1+r5) then bif zW zI (r3.2.1+r5)≤(c.size:Int) then bif 0≤r3.2.1 then bif r3.2.1≤(((zW zI (r3.2.1+r5)).toNat:Nat):Int) then(Q13 a b.2.1).bind fun r6=>bif r6=1 then(Q0 (c.extract r3.2.1.toNat (zW zI (r3.2.1+r5)).toNat) r3.1).bind fun r7=>bif !decide (r7.2.1=0) then e (bs []) 0 r7.2.1 else(Q219 b r7.1).bind fun r8=>bif !decide (r8=0) then e (bs []) 0 r8 else e r7.1 (zW zI (r3.2.1+r5)) 0 else bif r6=2 then(Q159 (c.extract r3.2.1.toNat (zW zI (r3.2.1+r5)).toNat)).bind fun r9=>bif !r9.2.2 then e (bs []) 0 3 else(Q219 b r9.1).bind fun r10=>bif !decide (r10=0) then e (bs []) 0 r10 else e r9.1 (zW zI (r3.2.1+r5)) 0 else(Q219 b (c.extract r3.2.1.toNat (zW zI (r3.2.1+r5)).toNat)).bind fun r11=>bif !decide (r11=0) then e (bs []) 0 r11 else e (c.extract r3.2.1.toNat (zW zI (r3.2.1+r5)).toNat) (zW zI (r3.2.1+r5)) 0 else none else none else none else none else bif r4=2 then bif zW zI ((c.size:Int)-r3.2.1)<zW zI (2*r3.1) then e (bs []) 0 2 else bif 0≤zW zI (r3.2.1+zW zI (2*r3.1)) then bif zW zI (r3.2.1+zW zI (2*r3.1))≤(c.size:Int) then bif 0≤r3.2.1 then bif r3.2.1≤(((zW zI (r3.2.1+zW zI (2*r3.1))).toNat:Nat):Int) then(Q13 a b.2.1).bind fun r12=>bif r12=1 then(Q0 (c.extract r3.2.1.toNat (zW zI (r3.2.1+zW zI (2*r3.1))).toNat) r3.1).bind fun r13=>bif !decide (r13.2.1=0) then e (bs []) 0 r13.2.1 else(Q219 b r13.1).bind fun r14=>bif !decide (r14=0) then e (bs []) 0 r14 else e r13.1 (zW zI (r3.2.1+zW zI (2*r3.1))) 0 else bif r12=2 then(Q159 (c.extract r3.2.1.toNat (zW zI (r3.2.1+zW zI (2*r3.1))).toNat)).bind fun r15=>bif !r15.2.2 then e (bs []) 0 3 else(Q219 b r15.1).bind fun r16=>bif !decide (r16=0) then e (bs []) 0 r16 else e r15.1 (zW zI (r3.2.1+zW zI (2*r3.1))) 0 else(Q219 b (c.extract r3.2.1.toNat (zW zI (r3.2.1+zW zI (2*r3.1))).toNat)).bind fun r17=>bif !decide (r17=0) then e (bs []) 0 r17 else e (c.extract r3.2.1.toNat (zW zI (r3.2.1+zW zI (2*r3.1))).toNat) (zW zI (r3.2.1+zW zI (2*r3.1))) 0 else none else none else none else none else bif zW zI ((c.size:Int)-r3.2.1)<r3.1 then e (bs []) 0 2 else bif 0≤zW zI (r3.2.1+r3.1) then bif zW zI (r3.2.1+r3.1)≤(c.size:Int) then bif 0≤r3.2.1 then bif r3.2.1≤(((zW zI (r3.2.1+r3.1)).toNat:Nat):Int) then(Q13 a b.2.1).bind fun r18=>bif r18=1 then(Q0 (c.extract r3.2.1.toNat (zW zI (r3.2.1+r3.1)).toNat) r3.1).bind fun r19=>bif !decide (r19.2.1=0) then e (bs []) 0 r19.2.1 else(Q219 b r19.1).bind fun r20=>bif !decide (r20=0) then e (bs []) 0 r20 else e r19.1 (zW zI (r3.2.1+r3.1)) 0 else bif r18=2 then(Q159 (c.extract r3.2.1.toNat (zW zI (r3.2.1+r3.1)).toNat)).bind fun r21=>bif !r21.2.2 then e (bs []) 0 3 else(Q219 b r21.1).bind fun r22=>bif !decide (r22=0) then e (bs []) 0 r22 else e r21.1 (zW zI (r3.2.1+r3.1)) 0 else(Q219 b (c.extract r3.2.1.toNat (zW zI (r3.2.1+r3.1)).toNat)).bind fun r23=>bif !decide (r23=0) then e (bs []) 0 r23 else e (c.extract r3.2.1.toNat (zW zI (r3.2.1+r3.1)).toNat) (zW zI (r3.2.1+r3.1)) 0 else none else none else none else none else(Q13 a b.2.1).bind fun r24=>bif r24=1 then(Q2 b.2.2.2.1).bind fun r25=>bif zW zI ((c.size:Int)-d)<r25 then e (bs []) 0 2 else bif 0≤zW zI (d+r25) then bif zW zI (d+r25)≤(c.size:Int) then bif 0≤d then bif d≤(((zW zI (d+r25)).toNat:Nat):Int) then(Q13 a b.2.1).bind fun r26=>bif r26=1 then(Q0 (c.extract d.toNat (zW zI (d+r25)).toNat) b.2.2.2.1).bind fun r27=>bif !decide (r27.2.1=0) then e (bs []) 0 r27.2.1 else(Q219 b r27.1).bind fun r28=>bif !decide (r28=0) then e (bs []) 0 r28 else e r27.1 (zW zI (d+r25)) 0 else bif r26=2 then(Q159 (c.extract d.toNat (zW zI (d+r25)).toNat)).bind fun r29=>bif !r29.2.2 then e (bs []) 0 3 else(Q219 b r29.1).bind fun r30=>bif !decide (r30=0) then e (bs []) 0 r30 else e r29.1 (zW zI (d+r25)) 0 else(Q219 b (c.extract d.toNat (zW zI (d+r25)).toNat)).bind fun r31=>bif !decide (r31=0) then e (bs []) 0 r31 else e (c.extract d.toNat (zW zI (d+r25)).toNat) (zW zI (d+r25)) 0 else none else none else none else none else bif r24=2 then bif zW zI ((c.size:Int)-d)<zW zI (2*b.2.2.2.1) then e (bs []) 0 2 else bif 0≤zW zI (d+zW zI (2*b.2.2.2.1)) then bif zW zI (d+zW zI (2*b.2.2.2.1))≤(c.size:Int) then bif 0≤d then bif d≤(((zW zI (d+zW zI (2*b.2.2.2.1))).toNat:Nat):Int) then(Q13 a b.2.1).bind fun r32=>bif r32=1 then(Q0 (c.extract d.toNat (zW zI (d+zW zI (2*b.2.2.2.1))).toNat) b.2.2.2.1).bind fun r33=>bif !decide (r33.2.1=0) then e (bs []) 0 r33.2.1 else(Q219 b r33.1).bind fun r34=>bif !decide (r34=0) then e (bs []) 0 r34 else e r33.1 (zW zI (d+zW zI (2*b.2.2.2.1))) 0 else bif r32=2 then(Q159 (c.extract d.toNat (zW zI (d+zW zI (2*b.2.2.2.1))).toNat)).bind fun r35=>bif !r35.2.2 then e (bs []) 0 3 else(Q219 b r35.1).bind fun r36=>bif !decide (r36=0) then e (bs []) 0 r36 else e r35.1 (zW zI (d+zW zI (2*b.2.2.2.1))) 0 else(Q219 b (c.extract d.toNat (zW zI (d+zW zI (2*b.2.2.2.1))).toNat)).bind fun r37=>bif !decide (r37=0) then e (bs []) 0 r37 else e (c.extract d.toNat (zW zI (d+zW zI (2*b.2.2.2.1))).toNat) (zW zI (d+zW zI (2*b.2.2.2.1))) 0 else none else none else none else none else bif zW zI ((c.size:Int)-d)<b.2.2.2.1 then e (bs []) 0 2 else bif 0≤zW zI (d+b.2.2.2.1) then bif zW zI (d+b.2.2.2.1)≤(c.size:Int) then bif 0≤d then bif d≤(((zW zI (d+b.2.2.2.1)).toNat:Nat):Int) then(Q13 a b.2.1).bind fun r38=>bif r38=1 then(Q0 (c.extract d.toNat (zW zI (d+b.2.2.2.1)).toNat) b.2.2.2.1).bind fun r39=>bif !decide (r39.2.1=0) then e (bs []) 0 r39.2.1 else(Q219 b r39.1).bind fun r40=>bif !decide (r40=0) then e (bs []) 0 r40 else e r39.1 (zW zI (d+b.2.2.2.1)) 0 else bif r38=2 then(Q159 (c.extract d.toNat (zW zI (d+b.2.2.2.1)).toNat)).bind fun r41=>bif !r41.2.2 then e (bs []) 0 3 else(Q219 b r41.1).bind fun r42=>bif !decide (r42=0) then e (bs []) 0 r42 else e r41.1 (zW zI (d+b.2.2.2.1)) 0 else(Q219 b (c.extract d.toNat (zW zI (d+b.2.2.2.1)).toNat)).bind fun r43=>bif !decide (r43=0) then e (bs []) 0 r43 else e (c.extract d.toNat (zW zI (d+b.2.2.2.1)).toNat) (zW zI (d+b.2.2.2.1)) 0 else none else none else none else none
def Q11(a:Int)(b:Zt13)(c:ByteArray)(d:Int):Option Zt8:=
 zmg a b c d (fun a0 a1 a2=>some (a0,a1,a2))
def zmk{R:Type}(a:Int)(b:Zt13)(c:ByteArray)(d:ByteArray→Int→Option R):Option R:=
 (Q14 a).bind fun r1=>bif !r1 then d (bs []) 1 else(Q219 b c).bind fun r2=>bif !decide (r2=0) then d (bs []) r2 else bif !decide (b.2.2.1=1) then(Q184 a b.2.2.1 (c.size:Int)).bind fun r3=>(Q13 a b.2.1).bind fun r4=>bif r4=1 then(Q1 c).bind fun r5=>bif r3.1.size+r5.1.size≤9223372036854775807 then d (r3.1++r5.1) 0 else none else bif r4=2 then(Q160 c).bind fun r6=>bif r3.1.size+r6.size≤9223372036854775807 then d (r3.1++r6) 0 else none else bif r3.1.size+c.size≤9223372036854775807 then d (r3.1++c) 0 else none else(Q13 a b.2.1).bind fun r7=>bif r7=1 then(Q1 c).bind fun r8=>bif(bs []).size+r8.1.size≤9223372036854775807 then d (bs []++r8.1) 0 else none else bif r7=2 then(Q160 c).bind fun r9=>bif(bs []).size+r9.size≤9223372036854775807 then d (bs []++r9) 0 else none else bif(bs []).size+c.size≤9223372036854775807 then d (bs []++c) 0 else none
def Q12(a:Int)(b:Zt13)(c:ByteArray):Option Zt2:=
 zmk a b c (fun a0 a1=>some (a0,a1))
end Groat

namespace Groat
open Go.IntKind renaming wrap→zW,i64→zI,u8→zU
open Go Go.Ref
def znl{R:Type}(a:Zt14)(b:Int→Int→Option R)(c:Zt14→Int→Int→Zt10→Option R):Option R:=
 bif 256<((List.length a):Int) then b 5 256 else c a ((List.length a):Int) 0 []
def zxq{R:Type}(a:Zt14)(b c:Int)(d:Zt10)(e:Int→Int→Option R)(f:Zt14→Int→Int→Zt10→Option R)(g:Option R):Option R:=
 bif c<b then zd c (List.length a) (bif mget (eqK .str) false d (List.getD a c.toNat (bs [],bs [],())).1 then e 10 c else bif mhas (eqK .str) d (List.getD a c.toNat (bs [],bs [],())).1 then none else f a b (zW zI (c+1)) (d++ [((List.getD a c.toNat (bs [],bs [],())).1,true)])) else g
def zxr{R:Type}(a b:Int)(c:Int→Int→Option R):Option R:=
 c a b
def zxs{R:Type}(a:Int→Int→Option R):Option R:=
 a 0 0
def zdm:Nat→Zt14→Int→Int→Zt10→Option (Sum (Int×Int) Unit)
 |0,_,_,_,_=>none
 |k+1,v0,v1,v2,v3=>zxq v0 v1 v2 v3 (fun a0 a1=>some (.inl (a0,a1))) (fun a0 a1 a2 a3=>zdm k a0 a1 a2 a3) (some (.inr ()))
def Q22(a:Zt14):Option (Int×Int):=
 znl a (fun a0 a1=>some (a0,a1)) (fun a0 a1 a2 a3=>(zdm FUEL a0 a1 a2 a3).bind fun e=>Sum.elim (fun(we:(Int×Int))=>zxr we.1 we.2 (fun a0 a1=>some (a0,a1))) (fun(we:Unit)=>zxs (fun a0 a1=>some (a0,a1))) e)
def zna{R:Type}(a:Zt14)(b:ByteArray)(c:ByteArray→Zt14→Int→Int→Option R):Option R:=
 c b a ((List.length a):Int) 0
def zxl{R:Type}(a:ByteArray)(b:Zt14)(c d:Int)(e:ByteArray→Bool→Option R)(f:ByteArray→Zt14→Int→Int→Option R)(g:Option R):Option R:=
 bif d<c then zd d (List.length b) (bif(List.getD b d.toNat (bs [],bs [],())).1=a then e (List.getD b d.toNat (bs [],bs [],())).2.1 true else f a b c (zW zI (d+1))) else g
def zxm{R:Type}(a:ByteArray)(b:Bool)(c:ByteArray→Bool→Option R):Option R:=
 c a b
def zxn{R:Type}(a:ByteArray→Bool→Option R):Option R:=
 a (bs []) false
def zd7:Nat→ByteArray→Zt14→Int→Int→Option (Sum Zt5 Unit)
 |0,_,_,_,_=>none
 |k+1,v0,v1,v2,v3=>zxl v0 v1 v2 v3 (fun a0 a1=>some (.inl (a0,a1))) (fun a0 a1 a2 a3=>zd7 k a0 a1 a2 a3) (some (.inr ()))
def Q20(a:Zt14)(b:ByteArray):Option Zt5:=
 zna a b (fun a0 a1 a2 a3=>(zd7 FUEL a0 a1 a2 a3).bind fun e=>Sum.elim (fun(we:Zt5)=>zxm we.1 we.2 (fun a0 a1=>some (a0,a1))) (fun(we:Unit)=>zxn (fun a0 a1=>some (a0,a1))) e)
def znp{R:Type}(a:Zt14)(b:Zt14→Zt14→Int→Int→Option R):Option R:=
 bif 0≤((List.length a):Int) then bif((List.length a):Int)*32≤140737488355328 then b [] a ((List.length a):Int) 0 else none else none
def zxt{R:Type}(a b:Zt14)(c d:Int)(e:Zt14→Zt14→Int→Int→Option R)(f:Zt14→Option R):Option R:=
 bif d<c then zd d (List.length b) (bif(List.length a+List.length ([((List.getD b d.toNat (bs [],bs [],())).2.1,(List.getD b d.toNat (bs [],bs [],())).1,())]:List Zt11))*32≤140737488355328 then e (a++([((List.getD b d.toNat (bs [],bs [],())).2.1,(List.getD b d.toNat (bs [],bs [],())).1,())]:List Zt11)) b c (zW zI (d+1)) else none) else f a
def zxu{R:Type}(a:Zt14)(b:Zt14→Option R):Option R:=
 b a
def zdq:Nat→Zt14→Zt14→Int→Int→Option Zt14
 |0,_,_,_,_=>none
 |k+1,v0,v1,v2,v3=>zxt v0 v1 v2 v3 (fun a0 a1 a2 a3=>zdq k a0 a1 a2 a3) (fun a0=>some a0)
def Q23(a:Zt14):Option Zt14:=
 znp a (fun a0 a1 a2 a3=>(zdq FUEL a0 a1 a2 a3).bind fun e=>zxu e (fun a0=>some a0))
def zng{R:Type}(a:Zt14)(b:Bool→Option R):Option R:=
 (Q22 a).bind fun r1=>(Q23 a).bind fun r2=>(Q22 r2).bind fun r3=>bif r1.1=0 then b (decide (r3.1=0)) else b false
def Q21(a:Zt14):Option Bool:=
 zng a (fun a0=>some a0)
end Groat

namespace Groat
open Go.IntKind renaming wrap→zW,i64→zI,u8→zU
open Go Go.Ref
def z16w{R:Type}(a b:Int)(c:Bool→Option R):Option R:=
 bif 48≤b then bif 65≤b then bif b≤90 then bif a=1 then c (decide (b≤57)) else bif a=2 then c true else bif a=3 then bif b≤57 then c true else c true else bif a=4 then bif 32≤b then c (decide (b≤126)) else c false else bif a=5 then c true else c (decide (a=6)) else bif 97≤b then bif a=1 then c (decide (b≤57)) else bif a=2 then c (decide (b≤122)) else bif a=3 then bif b≤57 then c true else c (decide (b≤122)) else bif a=4 then bif 32≤b then c (decide (b≤126)) else c false else bif a=5 then c true else c (decide (a=6)) else bif a=1 then c (decide (b≤57)) else bif a=2 then c false else bif a=3 then bif b≤57 then c true else c false else bif a=4 then bif 32≤b then c (decide (b≤126)) else c false else bif a=5 then c true else c (decide (a=6)) else bif 97≤b then bif a=1 then c (decide (b≤57)) else bif a=2 then c (decide (b≤122)) else bif a=3 then bif b≤57 then c true else c (decide (b≤122)) else bif a=4 then bif 32≤b then c (decide (b≤126)) else c false else bif a=5 then c true else c (decide (a=6)) else bif a=1 then c (decide (b≤57)) else bif a=2 then c false else bif a=3 then bif b≤57 then c true else c false else bif a=4 then bif 32≤b then c (decide (b≤126)) else c false else bif a=5 then c true else c (decide (a=6)) else bif 65≤b then bif b≤90 then bif a=1 then c false else bif a=2 then c true else bif a=3 then c true else bif a=4 then bif 32≤b then c (decide (b≤126)) else c false else bif a=5 then c true else c (decide (a=6)) else bif 97≤b then bif a=1 then c false else bif a=2 then c (decide (b≤122)) else bif a=3 then c (decide (b≤122)) else bif a=4 then bif 32≤b then c (decide (b≤126)) else c false else bif a=5 then c true else c (decide (a=6)) else bif a=1 then c false else bif a=2 then c false else bif a=3 then c false else bif a=4 then bif 32≤b then c (decide (b≤126)) else c false else bif a=5 then c true else c (decide (a=6)) else bif 97≤b then bif a=1 then c false else bif a=2 then c (decide (b≤122)) else bif a=3 then c (decide (b≤122)) else bif a=4 then bif 32≤b then c (decide (b≤126)) else c false else bif a=5 then c true else c (decide (a=6)) else bif a=1 then c false else bif a=2 then c false else bif a=3 then c false else bif a=4 then bif 32≤b then c (decide (b≤126)) else c false else bif a=5 then c true else c (decide (a=6))
def Q74(a b:Int):Option Bool:=
 z16w a b (fun a0=>some a0)
def z16v{R:Type}(a:Int)(b:ByteArray)(c:Int→ByteArray→Int→Option R):Option R:=
 c a b 0
def zy2{R:Type}(a:Int)(b:ByteArray)(c:Int)(d:Int→Option R)(e:Int→ByteArray→Int→Option R)(f:Option R):Option R:=
 bif c<(b.size:Int) then zd c b.size ((Q74 a (ze b c.toNat)).bind fun r1=>bif !r1 then d c else e a b (zW zI (c+1))) else f
def z1js{R:Type}(a:Int)(b:Int→Option R):Option R:=
 b a
def z1jt{R:Type}(a:Int→Option R):Option R:=
 a (-1:Int)
def ze7:Nat→Int→ByteArray→Int→Option (Sum Int Unit)
 |0,_,_,_=>none
 |k+1,v0,v1,v2=>zy2 v0 v1 v2 (fun a0=>some (.inl a0)) (fun a0 a1 a2=>ze7 k a0 a1 a2) (some (.inr ()))
def Q73(a:Int)(b:ByteArray):Option Int:=
 z16v a b (fun a0 a1 a2=>(ze7 FUEL a0 a1 a2).bind fun e=>Sum.elim (fun(we:Int)=>z1js we (fun a0=>some a0)) (fun(we:Unit)=>z1jt (fun a0=>some a0)) e)
def z16y{R:Type}(a b:Int)(c:Bool→Option R)(d:Int→Int→Int→Option R):Option R:=
 bif a<1 then c false else bif 6<a then c false else bif b<1 then c false else bif 6<b then c false else d a b 0
def z1ju{R:Type}(a b c:Int)(d:Bool→Option R)(e:Int→Int→Int→Option R)(f:Option R):Option R:=
 bif c<256 then(Q74 b (zW zU c)).bind fun r1=>bif r1 then(Q74 a (zW zU c)).bind fun r2=>bif !r2 then d false else e a b (zW zI (c+1)) else e a b (zW zI (c+1)) else f
def z1jv{R:Type}(a:Bool)(b:Bool→Option R):Option R:=
 b a
def z1jw{R:Type}(a:Bool→Option R):Option R:=
 a true
def z16x:Nat→Int→Int→Int→Option (Sum Bool Unit)
 |0,_,_,_=>none
 |k+1,v0,v1,v2=>z1ju v0 v1 v2 (fun a0=>some (.inl a0)) (fun a0 a1 a2=>z16x k a0 a1 a2) (some (.inr ()))
def Q75(a b:Int):Option Bool:=
 z16y a b (fun a0=>some a0) (fun a0 a1 a2=>(z16x FUEL a0 a1 a2).bind fun e=>Sum.elim (fun(we:Bool)=>z1jv we (fun a0=>some a0)) (fun(we:Unit)=>z1jw (fun a0=>some a0)) e)
end Groat

namespace Groat
open Go.IntKind renaming wrap→zW,i64→zI,u8→zU
open Go Go.Ref
def z1jy{R:Type}(a:Int)(b:Int→Option R):Option R:=
 bif a=0 then b 0 else bif Int.tmod (zW zU (Int.tdiv a 32)) 2=1 then b 0 else bif Int.tmod a 32=31 then b 2 else b 1
def Q89(a:Int):Option Int:=
 z1jy a (fun a0=>some a0)
def zy3{R:Type}(a:ByteArray)(b:Int)(c:Int→Int→Int→Option R):Option R:=
 bif b<0 then c 0 0 1 else bif(a.size:Int)<b then c 0 0 1 else bif b=(a.size:Int) then c 0 0 2 else zd b a.size ((Q89 (ze a b.toNat)).bind fun r1=>bif r1=0 then c 0 0 13 else bif r1=1 then zd b a.size (c (zW zI (ze a b.toNat)) (zW zI (b+1)) 0) else bif zW zI ((a.size:Int)-b)<2 then c 0 0 2 else zd (zW zI (b+1)) a.size (bif ze a (zW zI (b+(1:Int))).toNat=0 then c 0 0 13 else zd (zW zI (b+1)) a.size (bif 127<ze a (zW zI (b+(1:Int))).toNat then c 0 0 13 else zd b a.size (zd (zW zI (b+1)) a.size (c (zW zI (zW zI (256*zW zI (ze a b.toNat))+zW zI (ze a (zW zI (b+(1:Int))).toNat))) (zW zI (b+2)) 0)))))
def Q90(a:ByteArray)(b:Int):Option Zt1:=
 zy3 a b (fun a0 a1 a2=>some (a0,a1,a2))
end Groat

namespace Groat
open Go.IntKind renaming wrap→zW,i64→zI,u8→zU
open Go Go.Ref
def zy4{R:Type}(a:ByteArray)(b:Int)(c:Int→Int→Int→Option R):Option R:=
 bif b<0 then c 0 0 1 else bif(a.size:Int)<b then c 0 0 1 else bif b=(a.size:Int) then c 0 0 2 else zd b a.size (bif zW zI (ze a b.toNat)<128 then c (zW zI (ze a b.toNat)) (zW zI (b+1)) 0 else bif !decide (zW zI (ze a b.toNat)=129) then bif !decide (zW zI (ze a b.toNat)=130) then c 0 0 14 else bif zW zI ((a.size:Int)-b)<zW zI (zW zI (ze a b.toNat)-127) then c 0 0 2 else bif zW zI (ze a b.toNat)=129 then zd (zW zI (b+1)) a.size (bif ze a (zW zI (b+(1:Int))).toNat<128 then c 0 0 14 else zd (zW zI (b+1)) a.size (c (zW zI (ze a (zW zI (b+(1:Int))).toNat)) (zW zI (b+2)) 0)) else zd (zW zI (b+1)) a.size (bif ze a (zW zI (b+(1:Int))).toNat=0 then c 0 0 14 else zd (zW zI (b+1)) a.size (zd (zW zI (b+2)) a.size (c (zW zI (zW zI (256*zW zI (ze a (zW zI (b+(1:Int))).toNat))+zW zI (ze a (zW zI (b+(2:Int))).toNat))) (zW zI (b+3)) 0))) else bif zW zI ((a.size:Int)-b)<zW zI (zW zI (ze a b.toNat)-127) then c 0 0 2 else bif zW zI (ze a b.toNat)=129 then zd (zW zI (b+1)) a.size (bif ze a (zW zI (b+(1:Int))).toNat<128 then c 0 0 14 else zd (zW zI (b+1)) a.size (c (zW zI (ze a (zW zI (b+(1:Int))).toNat)) (zW zI (b+2)) 0)) else zd (zW zI (b+1)) a.size (bif ze a (zW zI (b+(1:Int))).toNat=0 then c 0 0 14 else zd (zW zI (b+1)) a.size (zd (zW zI (b+2)) a.size (c (zW zI (zW zI (256*zW zI (ze a (zW zI (b+(1:Int))).toNat))+zW zI (ze a (zW zI (b+(2:Int))).toNat))) (zW zI (b+3)) 0))))
def Q91(a:ByteArray)(b:Int):Option Zt1:=
 zy4 a b (fun a0 a1 a2=>some (a0,a1,a2))
end Groat

namespace Groat
open Go.IntKind renaming wrap→zW,i64→zI,u8→zU
open Go Go.Ref
def z16z{R:Type}(a:Zt12)(b c:Int)(d:Zt12→Int→Int→Int→Option R):Option R:=
 d a b c 0
def zy7{R:Type}(a:Zt12)(b c d:Int)(e:Bool→Option R)(f:Zt12→Int→Int→Int→Option R)(g:Option R):Option R:=
 bif d<b then zd d (List.length a) (bif(List.getD a d.toNat (0,bs [],())).1=c then e true else f a b c (zW zI (d+1))) else g
def z1k2{R:Type}(a:Bool)(b:Bool→Option R):Option R:=
 b a
def z1k3{R:Type}(a:Bool→Option R):Option R:=
 a false
def ze8:Nat→Zt12→Int→Int→Int→Option (Sum Bool Unit)
 |0,_,_,_,_=>none
 |k+1,v0,v1,v2,v3=>zy7 v0 v1 v2 v3 (fun a0=>some (.inl a0)) (fun a0 a1 a2 a3=>ze8 k a0 a1 a2 a3) (some (.inr ()))
def Q93(a:Zt12)(b c:Int):Option Bool:=
 z16z a b c (fun a0 a1 a2 a3=>(ze8 FUEL a0 a1 a2 a3).bind fun e=>Sum.elim (fun(we:Bool)=>z1k2 we (fun a0=>some a0)) (fun(we:Unit)=>z1k3 (fun a0=>some a0)) e)
def zy5{R:Type}(a:ByteArray)(b:ByteArray→Zt12→Int→Option R):Option R:=
 b a [] 0
def zy6{R:Type}(a:ByteArray)(b:Zt12)(c:Int)(d:Zt12→Int→Int→Zt12→Option R)(e:ByteArray→Zt12→Int→Option R)(f:Zt12→Option R):Option R:=
 bif c<(a.size:Int) then(Q90 a c).bind fun r1=>bif !decide (r1.2.2=0) then d [] r1.2.2 c b else(Q91 a r1.2.1).bind fun r2=>bif !decide (r2.2.2=0) then d [] r2.2.2 r1.2.1 b else bif zW zI ((a.size:Int)-r2.2.1)<r2.1 then d [] 2 (a.size:Int) b else(Q93 b ((List.length b):Int) r1.1).bind fun r3=>bif r3 then d [] 10 c b else bif 0≤zW zI (r2.2.1+r2.1) then bif zW zI (r2.2.1+r2.1)≤(a.size:Int) then bif 0≤r2.2.1 then bif r2.2.1≤(((zW zI (r2.2.1+r2.1)).toNat:Nat):Int) then bif(List.length b+List.length ([(r1.1,a.extract r2.2.1.toNat (zW zI (r2.2.1+r2.1)).toNat,())]:List Zt9))*24≤140737488355328 then e a (b++([(r1.1,a.extract r2.2.1.toNat (zW zI (r2.2.1+r2.1)).toNat,())]:List Zt9)) (zW zI (r2.2.1+r2.1)) else none else none else none else none else none else f b
def z1k0{R:Type}(a:Zt12)(b c:Int)(d:Zt12)(e:Zt12→Int→Int→Option R):Option R:=
 e a b c
def z1k1{R:Type}(a:Zt12)(b:Zt12→Int→Int→Option R):Option R:=
 b a 0 0
def za4:Nat→ByteArray→Zt12→Int→Option (Sum Zt21 Zt12)
 |0,_,_,_=>none
 |k+1,v0,v1,v2=>zy6 v0 v1 v2 (fun a0 a1 a2 a3=>some (.inl (a0,a1,a2,a3))) (fun a0 a1 a2=>za4 k a0 a1 a2) (fun a0=>some (.inr a0))
def Q92(a:ByteArray):Option (Sum Zt16 Zt16):=
 zy5 a (fun a0 a1 a2=>(za4 FUEL a0 a1 a2).bind fun e=>Sum.elim (fun(we:Zt21)=>z1k0 we.1 we.2.1 we.2.2.1 we.2.2.2 (fun a0 a1 a2=>some (.inl (a0,a1,a2)))) (fun(we:Zt12)=>z1k1 we (fun a0 a1 a2=>some (.inr (a0,a1,a2)))) e)
end Groat

namespace Groat
open Go.IntKind renaming wrap→zW,i64→zI,u8→zU
open Go Go.Ref
def z170{R:Type}(a:Zt13)(b:Int→Option R):Option R:=
 bif a.1<2 then b 1 else bif 128<a.1 then b 1 else bif a.2.1<1 then b 6 else bif 6<a.2.1 then b 6 else bif a.2.2.1<1 then b 3 else bif 3<a.2.2.1 then b 3 else bif a.2.2.1=2 then bif a.2.2.2.1<1 then b 5 else bif a.2.2.2.2.1<a.2.2.2.1 then b 5 else bif 99<a.2.2.2.2.1 then b 5 else bif a.2.2.1=1 then bif !decide (a.2.2.2.1=a.2.2.2.2.1) then b 5 else bif a.2.2.1=1 then bif a.2.1=6 then b 13 else b 0 else b 0 else bif a.2.2.1=1 then bif a.2.1=6 then b 13 else b 0 else b 0 else bif a.2.2.2.1<1 then b 5 else bif a.2.2.2.2.1<a.2.2.2.1 then b 5 else bif 999<a.2.2.2.2.1 then b 5 else bif a.2.2.1=1 then bif !decide (a.2.2.2.1=a.2.2.2.2.1) then b 5 else bif a.2.2.1=1 then bif a.2.1=6 then b 13 else b 0 else b 0 else bif a.2.2.1=1 then bif a.2.1=6 then b 13 else b 0 else b 0
def Q94(a:Zt13):Option Int:=
 z170 a (fun a0=>some a0)
def zob{R:Type}(a:Zt13)(b:ByteArray)(c:Int→Option R):Option R:=
 (Q94 a).bind fun r1=>bif !decide (r1=0) then c 1 else bif(b.size:Int)<a.2.2.2.1 then c 5 else bif a.2.2.2.2.1<(b.size:Int) then c 5 else(Q73 a.2.1 b).bind fun r2=>bif 0≤r2 then c 6 else bif a.2.1=6 then(Q92 b).bind fun r3=>Sum.elim (fun(wr3:Zt16)=>bif !decide (wr3.2.1=0) then c 13 else c 0) (fun(wr3:Zt16)=>bif !decide (wr3.2.1=0) then c 13 else c 0) r3 else c 0
def Q95(a:Zt13)(b:ByteArray):Option Int:=
 zob a b (fun a0=>some a0)
def zoc{R:Type}(a b:Zt13)(c:Bool→Option R):Option R:=
 (Q94 a).bind fun r1=>bif !decide (r1=0) then c false else(Q94 b).bind fun r2=>bif !decide (r2=0) then c false else bif b.2.2.2.1<a.2.2.2.1 then c false else bif a.2.2.2.2.1<b.2.2.2.2.1 then c false else bif a.2.1=5 then c true else bif a.2.1=6 then c (decide (a.2.1=b.2.1)) else bif b.2.1=6 then c (decide (a.2.1=b.2.1)) else(Q75 a.2.1 b.2.1).bind fun r3=>c r3
def Q96(a b:Zt13):Option Bool:=
 zoc a b (fun a0=>some a0)
end Groat

namespace Groat
open Go.IntKind renaming wrap→zW,i64→zI,u8→zU
open Go Go.Ref
def zfw{R:Type}(a b:Zt18)(c:Bool→Option R)(d:Int→Zt18→Zt18→Option R):Option R:=
 bif !decide (a.1=b.1) then c false else bif !decide (a.2.1=b.2.1) then c false else bif !decide (((List.length a.2.2.1):Int)=((List.length b.2.2.1):Int)) then c false else d 0 a b
def zq1{R:Type}(a:Int)(b c:Zt18)(d:Bool→Option R)(e:Int→Zt18→Zt18→Option R)(f:Option R):Option R:=
 bif a<((List.length b.2.2.1):Int) then zd a (List.length b.2.2.1) (zd a (List.length c.2.2.1) (bif !(decide ((List.getD b.2.2.1 a.toNat (0,0,0,0,0,())).1=(List.getD c.2.2.1 a.toNat (0,0,0,0,0,())).1)&&(decide ((List.getD b.2.2.1 a.toNat (0,0,0,0,0,())).2.1=(List.getD c.2.2.1 a.toNat (0,0,0,0,0,())).2.1)&&(decide ((List.getD b.2.2.1 a.toNat (0,0,0,0,0,())).2.2.1=(List.getD c.2.2.1 a.toNat (0,0,0,0,0,())).2.2.1)&&(decide ((List.getD b.2.2.1 a.toNat (0,0,0,0,0,())).2.2.2.1=(List.getD c.2.2.1 a.toNat (0,0,0,0,0,())).2.2.2.1)&&(decide ((List.getD b.2.2.1 a.toNat (0,0,0,0,0,())).2.2.2.2.1=(List.getD c.2.2.1 a.toNat (0,0,0,0,0,())).2.2.2.2.1)&&true))))) then d false else e (zW zI (a+1)) b c)) else f
def zfx{R:Type}(a:Bool)(b:Bool→Option R):Option R:=
 b a
def zfy{R:Type}(a:Bool→Option R):Option R:=
 a true
def z91:Nat→Int→Zt18→Zt18→Option (Sum Bool Unit)
 |0,_,_,_=>none
 |k+1,v0,v1,v2=>zq1 v0 v1 v2 (fun a0=>some (.inl a0)) (fun a0 a1 a2=>z91 k a0 a1 a2) (some (.inr ()))
def Q104(a b:Zt18):Option Bool:=
 zfw a b (fun a0=>some a0) (fun a0 a1 a2=>(z91 FUEL a0 a1 a2).bind fun e=>Sum.elim (fun(we:Bool)=>zfx we (fun a0=>some a0)) (fun(we:Unit)=>zfy (fun a0=>some a0)) e)
def zfu{R:Type}(a:Zt18)(b:Zt18→Option R):Option R:=
 bif(List.length ([]:List Zt13)+List.length a.2.2.1)*40≤140737488355328 then b (a.1,a.2.1,[]++a.2.2.1,()) else none
def Q101(a:Zt18):Option Zt18:=
 zfu a (fun a0=>some a0)
end Groat

namespace Groat
open Go.IntKind renaming wrap→zW,i64→zI,u8→zU
open Go Go.Ref
def zq6{R:Type}(a:Zt3→Option R):Option R:=
 a ([([2,1,2,12,19,1,2,12,19]:List Int),([3,1,1,6,6,1,1,6,6]:List Int),([4,1,1,12,12,1,1,12,12]:List Int),([7,1,1,10,10,1,1,10,10]:List Int),([11,1,1,6,6,1,1,6,6]:List Int),([12,1,1,6,6,1,1,12,12]:List Int),([13,1,1,4,4,0,0,0,0]:List Int),([14,1,1,4,4,1,1,4,4]:List Int),([18,1,1,4,4,0,0,0,0]:List Int),([22,1,1,3,3,3,1,12,12]:List Int),([23,1,1,3,3,1,1,3,3]:List Int),([26,0,0,0,0,1,1,4,4]:List Int),([32,1,2,1,11,1,2,1,11]:List Int),([35,4,2,1,37,4,2,1,37]:List Int),([37,3,1,12,12,3,1,12,12]:List Int),([38,3,1,6,6,3,1,6,6]:List Int),([39,3,1,2,2,1,1,3,3]:List Int),([41,4,1,8,8,4,1,8,8]:List Int),([42,4,1,15,15,4,1,15,15]:List Int),([43,4,1,40,40,4,2,1,99]:List Int),([48,4,3,1,999,4,3,1,999]:List Int),([49,1,1,3,3,1,1,3,3]:List Int),([52,5,1,8,8,5,1,8,8]:List Int),([55,6,3,1,255,6,3,1,255]:List Int),([64,5,1,8,8,5,1,8,8]:List Int),([70,1,1,3,3,1,1,3,3]:List Int),([90,1,1,42,42,0,0,0,0]:List Int),([102,4,2,1,28,4,2,1,28]:List Int),([128,5,1,8,8,5,1,8,8]:List Int)]:List (List Int))
def Q107:Option Zt3:=
 zq6 (fun a0=>some a0)
def zq3{R:Type}(a:Int)(b:Int→Zt3→Int→Zt18→Zt18→Option R):Option R:=
 Q107.bind fun r1=>b a r1 0 (0,0,[],()) (zW zI (a+1),a,[],())
def zq4{R:Type}(a:Int)(b:Zt3)(c:Int)(d e:Zt18)(f:Int→Zt3→Int→Zt18→Zt18→Option R)(g:Zt18→Zt18→Option R):Option R:=
 bif c<((List.length b):Int) then zd c (List.length b) (bif 0≤zW zI (5+zW zI (4*a)) then bif zW zI (5+zW zI (4*a))≤(((List.length (List.getD b c.toNat ([]:List Int))):Nat):Int) then bif 0≤zW zI (1+zW zI (4*a)) then bif zW zI (1+zW zI (4*a))≤(((zW zI (5+zW zI (4*a))).toNat:Nat):Int) then zd 0 (List.length (List.drop (zW zI ((1:Int)+zW zI ((4:Int)*a))).toNat (List.take (zW zI ((5:Int)+zW zI ((4:Int)*a))).toNat (List.getD b c.toNat ([]:List Int))))) (bif 0<List.getD (List.drop (zW zI (1+zW zI (4*a))).toNat (List.take (zW zI (5+zW zI (4*a))).toNat (List.getD b c.toNat []))) ((0:Int)).toNat 0 then zd c (List.length b) (zd 0 (List.length (List.getD b c.toNat ([]:List Int))) (zd 0 (List.length (List.drop (zW zI ((1:Int)+zW zI ((4:Int)*a))).toNat (List.take (zW zI ((5:Int)+zW zI ((4:Int)*a))).toNat (List.getD b c.toNat ([]:List Int))))) (zd 1 (List.length (List.drop (zW zI ((1:Int)+zW zI ((4:Int)*a))).toNat (List.take (zW zI ((5:Int)+zW zI ((4:Int)*a))).toNat (List.getD b c.toNat ([]:List Int))))) (zd 2 (List.length (List.drop (zW zI ((1:Int)+zW zI ((4:Int)*a))).toNat (List.take (zW zI ((5:Int)+zW zI ((4:Int)*a))).toNat (List.getD b c.toNat ([]:List Int))))) (zd 3 (List.length (List.drop (zW zI ((1:Int)+zW zI ((4:Int)*a))).toNat (List.take (zW zI ((5:Int)+zW zI ((4:Int)*a))).toNat (List.getD b c.toNat ([]:List Int))))) (bif(List.length e.2.2.1+List.length ([(List.getD (List.getD b c.toNat ([]:List Int)) ((0:Int)).toNat (0:Int),List.getD (List.drop (zW zI ((1:Int)+zW zI ((4:Int)*a))).toNat (List.take (zW zI ((5:Int)+zW zI ((4:Int)*a))).toNat (List.getD b c.toNat ([]:List Int)))) ((0:Int)).toNat (0:Int),List.getD (List.drop (zW zI ((1:Int)+zW zI ((4:Int)*a))).toNat (List.take (zW zI ((5:Int)+zW zI ((4:Int)*a))).toNat (List.getD b c.toNat ([]:List Int)))) ((1:Int)).toNat (0:Int),List.getD (List.drop (zW zI ((1:Int)+zW zI ((4:Int)*a))).toNat (List.take (zW zI ((5:Int)+zW zI ((4:Int)*a))).toNat (List.getD b c.toNat ([]:List Int)))) ((2:Int)).toNat (0:Int),List.getD (List.drop (zW zI ((1:Int)+zW zI ((4:Int)*a))).toNat (List.take (zW zI ((5:Int)+zW zI ((4:Int)*a))).toNat (List.getD b c.toNat ([]:List Int)))) ((3:Int)).toNat (0:Int),())]:List Zt13))*40≤140737488355328 then f a b (zW zI (c+1)) d (e.1,e.2.1,e.2.2.1++([(List.getD (List.getD b c.toNat []) ((0:Int)).toNat 0,List.getD (List.drop (zW zI (1+zW zI (4*a))).toNat (List.take (zW zI (5+zW zI (4*a))).toNat (List.getD b c.toNat []))) ((0:Int)).toNat 0,List.getD (List.drop (zW zI (1+zW zI (4*a))).toNat (List.take (zW zI (5+zW zI (4*a))).toNat (List.getD b c.toNat []))) ((1:Int)).toNat 0,List.getD (List.drop (zW zI (1+zW zI (4*a))).toNat (List.take (zW zI (5+zW zI (4*a))).toNat (List.getD b c.toNat []))) ((2:Int)).toNat 0,List.getD (List.drop (zW zI (1+zW zI (4*a))).toNat (List.take (zW zI (5+zW zI (4*a))).toNat (List.getD b c.toNat []))) ((3:Int)).toNat 0,())]:List Zt13),()) else none)))))) else f a b (zW zI (c+1)) d e) else none else none else none else none) else g d e
def zq5{R:Type}(a b:Zt18)(c:Zt18→Option R):Option R:=
 c b
def zg0:Nat→Int→Zt3→Int→Zt18→Zt18→Option (Zt18×Zt18)
 |0,_,_,_,_,_=>none
 |k+1,v0,v1,v2,v3,v4=>zq4 v0 v1 v2 v3 v4 (fun a0 a1 a2 a3 a4=>zg0 k a0 a1 a2 a3 a4) (fun a0 a1=>some (a0,a1))
def Q106(a:Int):Option Zt18:=
 zq3 a (fun a0 a1 a2 a3 a4=>(zg0 FUEL a0 a1 a2 a3 a4).bind fun e=>zq5 e.1 e.2 (fun a0=>some a0))
def zq2{R:Type}(a:(List Int)→Option R):Option R:=
 a ([2,3,4,7,11,12,14,23,32,35,37,38,41,42,49,52,55,64,70,102,128]:List Int)
def Q105:Option (List Int):=
 zq2 (fun a0=>some a0)
end Groat

namespace Groat
open Go.IntKind renaming wrap→zW,i64→zI,u8→zU
open Go Go.Ref
def zil{R:Type}(a:Zt18)(b:Int)(c:Int→Zt15→Int→Int→Zt13→Option R):Option R:=
 c b a.2.2.1 ((List.length a.2.2.1):Int) 0 (0,0,0,0,0,())
def zsn{R:Type}(a:Int)(b:Zt15)(c d:Int)(e:Zt13)(f:Bool→Zt13→Option R)(g:Int→Zt15→Int→Int→Zt13→Option R)(h:Zt13→Option R):Option R:=
 bif d<c then zd d (List.length b) (bif(List.getD b d.toNat (0,0,0,0,0,())).1=a then f true (List.getD b d.toNat (0,0,0,0,0,())) else g a b c (zW zI (d+1)) e) else h e
def zso{R:Type}(a:Bool)(b:Zt13)(c:Zt13→Bool→Option R):Option R:=
 c b a
def zsp{R:Type}(a:Zt13)(b:Zt13→Bool→Option R):Option R:=
 b (0,0,0,0,0,()) false
def z9r:Nat→Int→Zt15→Int→Int→Zt13→Option (Sum (Bool×Zt13) Zt13)
 |0,_,_,_,_,_=>none
 |k+1,v0,v1,v2,v3,v4=>zsn v0 v1 v2 v3 v4 (fun a0 a1=>some (.inl (a0,a1))) (fun a0 a1 a2 a3 a4=>z9r k a0 a1 a2 a3 a4) (fun a0=>some (.inr a0))
def Q211(a:Zt18)(b:Int):Option (Zt13×Bool):=
 zil a b (fun a0 a1 a2 a3 a4=>(z9r FUEL a0 a1 a2 a3 a4).bind fun e=>Sum.elim (fun(we:(Bool×Zt13))=>zso we.1 we.2 (fun a0 a1=>some (a0,a1))) (fun(we:Zt13)=>zsp we (fun a0 a1=>some (a0,a1))) e)
def z77{R:Type}(a:Zt18)(b:Int→Int→Option R)(c:Zt15→Int→Int→Zt18→Option R):Option R:=
 bif !decide (a.1=1) then bif !decide (a.1=2) then b 1 (-1:Int) else bif a.2.1<0 then b 7 (-1:Int) else bif 9<a.2.1 then b 7 (-1:Int) else c a.2.2.1 ((List.length a.2.2.1):Int) 0 a else bif a.2.1<0 then b 7 (-1:Int) else bif 9<a.2.1 then b 7 (-1:Int) else c a.2.2.1 ((List.length a.2.2.1):Int) 0 a
theorem zxo{R S:Type}(F:R→Option S)(a)(b)(c):(z77 a b c).bind F=z77 a (fun a0 a1=>(b a0 a1).bind F) (fun a0 a1 a2 a3=>(c a0 a1 a2 a3).bind F):=by
 simp only[z77,nn_]
def z9q{R:Type}(a:Zt15)(b c:Int)(d:Zt18)(e:Int→Int→Option R)(f:Zt15→Int→Int→Zt18→Option R)(g:Option R):Option R:=
 bif c<b then zd c (List.length a) ((Q218 (List.getD a c.toNat (0,0,0,0,0,()))).bind fun r1=>bif !decide (r1=0) then e r1 c else bif 0<c then zd (zW zI (c-1)) (List.length d.2.2.1) (bif(List.getD a c.toNat (0,0,0,0,0,())).1≤(List.getD d.2.2.1 (zW zI (c-(1:Int))).toNat (0,0,0,0,0,())).1 then e 11 c else f a b (zW zI (c+1)) d) else f a b (zW zI (c+1)) d) else g
def zii{R:Type}(a b:Int)(c:Int→Int→Option R):Option R:=
 c a b
def zij{R:Type}(a:Int→Int→Option R):Option R:=
 a 0 0
def z54:Nat→Zt15→Int→Int→Zt18→Option (Sum (Int×Int) Unit)
 |0,_,_,_,_=>none
 |k+1,v0,v1,v2,v3=>z9q v0 v1 v2 v3 (fun a0 a1=>some (.inl (a0,a1))) (fun a0 a1 a2 a3=>z54 k a0 a1 a2 a3) (some (.inr ()))
def Q210(a:Zt18):Option (Int×Int):=
 z77 a (fun a0 a1=>some (a0,a1)) (fun a0 a1 a2 a3=>(z54 FUEL a0 a1 a2 a3).bind fun e=>Sum.elim (fun(we:(Int×Int))=>zii we.1 we.2 (fun a0 a1=>some (a0,a1))) (fun(we:Unit)=>zij (fun a0 a1=>some (a0,a1))) e)
end Groat

namespace Groat
open Go.IntKind renaming wrap→zW,i64→zI,u8→zU
open Go Go.Ref
def zq9{R:Type}(a:Zt14)(b:Zt14→Zt14→Int→Option R):Option R:=
 b a [] 0
def zqa{R:Type}(a b:Zt14)(c:Int)(d:Zt14→Zt14→Int→Option R)(e:Zt14→Option R):Option R:=
 bif c<((List.length a):Int) then zd c (List.length a) (zd c (List.length a) (bif(List.length b+List.length ([((List.getD a c.toNat (bs [],bs [],())).2.1,(List.getD a c.toNat (bs [],bs [],())).1,())]:List Zt11))*32≤140737488355328 then d a (b++([((List.getD a c.toNat (bs [],bs [],())).2.1,(List.getD a c.toNat (bs [],bs [],())).1,())]:List Zt11)) (zW zI (c+1)) else none)) else e b
def zqb{R:Type}(a:Zt14)(b:Zt14→Option R):Option R:=
 b a
def zg7:Nat→Zt14→Zt14→Int→Option Zt14
 |0,_,_,_=>none
 |k+1,v0,v1,v2=>zqa v0 v1 v2 (fun a0 a1 a2=>zg7 k a0 a1 a2) (fun a0=>some a0)
def Q123(a:Zt14):Option Zt14:=
 zq9 a (fun a0 a1 a2=>(zg7 FUEL a0 a1 a2).bind fun e=>zqb e (fun a0=>some a0))
def zg1{R:Type}(a:Zt14)(b:Zt14→Option R):Option R:=
 bif(List.length ([]:List Zt11)+List.length a)*32≤140737488355328 then b ([]++a) else none
def Q121(a:Zt14):Option Zt14:=
 zg1 a (fun a0=>some a0)
def zg3{R:Type}(a b:Zt14)(c:Bool→Option R)(d:Zt14→Zt14→Int→Option R):Option R:=
 bif !decide (((List.length a):Int)=((List.length b):Int)) then c false else d a b 0
def zq8{R:Type}(a b:Zt14)(c:Int)(d:Bool→Option R)(e:Zt14→Zt14→Int→Option R)(f:Option R):Option R:=
 bif c<((List.length a):Int) then zd c (List.length a) (zd c (List.length b) (bif !(decide ((List.getD a c.toNat (bs [],bs [],())).1=(List.getD b c.toNat (bs [],bs [],())).1)&&(decide ((List.getD a c.toNat (bs [],bs [],())).2.1=(List.getD b c.toNat (bs [],bs [],())).2.1)&&true)) then d false else e a b (zW zI (c+1)))) else f
def zg4{R:Type}(a:Bool)(b:Bool→Option R):Option R:=
 b a
def zg5{R:Type}(a:Bool→Option R):Option R:=
 a true
def z92:Nat→Zt14→Zt14→Int→Option (Sum Bool Unit)
 |0,_,_,_=>none
 |k+1,v0,v1,v2=>zq8 v0 v1 v2 (fun a0=>some (.inl a0)) (fun a0 a1 a2=>z92 k a0 a1 a2) (some (.inr ()))
def Q122(a b:Zt14):Option Bool:=
 zg3 a b (fun a0=>some a0) (fun a0 a1 a2=>(z92 FUEL a0 a1 a2).bind fun e=>Sum.elim (fun(we:Bool)=>zg4 we (fun a0=>some a0)) (fun(we:Unit)=>zg5 (fun a0=>some a0)) e)
end Groat

namespace Groat
open Go.IntKind renaming wrap→zW,i64→zI,u8→zU
open Go Go.Ref
end Groat

namespace Groat
open Go.IntKind renaming wrap→zW,i64→zI,u8→zU
open Go Go.Ref
def zga{R:Type}(a:Zt20)(b:Bool→Option R)(c:Int→Zt20→Option R):Option R:=
 bif 1200<(a.2.2.2.1.size:Int) then b true else bif 300<((List.length a.2.2.2.2.1):Int) then b true else c 0 a
def z93{R:Type}(a:Int)(b:Zt20)(c:Bool→Option R)(d:Int→Zt20→Option R)(e:Option R):Option R:=
 bif a<((List.length b.2.2.2.2.1):Int) then zd a (List.length b.2.2.2.2.1) (bif 1200<(((List.getD b.2.2.2.2.1 a.toNat (bs [],bs [],())).1).size:Int) then c true else zd a (List.length b.2.2.2.2.1) (bif 1200<(((List.getD b.2.2.2.2.1 a.toNat (bs [],bs [],())).2.1).size:Int) then c true else d (zW zI (a+1)) b)) else e
def zqd{R:Type}(a:Bool)(b:Bool→Option R):Option R:=
 b a
def zqe{R:Type}(a:Bool→Option R):Option R:=
 a false
def z4b:Nat→Int→Zt20→Option (Sum Bool Unit)
 |0,_,_=>none
 |k+1,v0,v1=>z93 v0 v1 (fun a0=>some (.inl a0)) (fun a0 a1=>z4b k a0 a1) (some (.inr ()))
def Q128(a:Zt20):Option Bool:=
 zga a (fun a0=>some a0) (fun a0 a1=>(z4b FUEL a0 a1).bind fun e=>Sum.elim (fun(we:Bool)=>zqd we (fun a0=>some a0)) (fun(we:Unit)=>zqe (fun a0=>some a0)) e)
def zg8{R:Type}(a:Zt20)(b:Zt20→Option R):Option R:=
 (Q121 a.2.2.2.2.1).bind fun r1=>b (a.1,a.2.1,a.2.2.1,a.2.2.2.1,r1,())
def Q127(a:Zt20):Option Zt20:=
 zg8 a (fun a0=>some a0)
end Groat

namespace Groat
open Go.IntKind renaming wrap→zW,i64→zI,u8→zU
open Go Go.Ref
end Groat

namespace Groat
open Go.IntKind renaming wrap→zW,i64→zI,u8→zU
open Go Go.Ref
end Groat

namespace Groat
open Go.IntKind renaming wrap→zW,i64→zI,u8→zU
open Go Go.Ref
def zgf{R:Type}(a:Zt24)(b:Bool→Option R)(c:Int→Zt24→Option R):Option R:=
 bif 300<((List.length a.1):Int) then b true else bif 300<((List.length a.2.1):Int) then b true else c 0 a
def z96{R:Type}(a:Int)(b:Zt24)(c:Bool→Zt24→Option R)(d:Int→Zt24→Option R)(e:Zt24→Option R):Option R:=
 bif a<((List.length b.1):Int) then zd a (List.length b.1) (bif 100<(((List.getD b.1 a.toNat (bs [],bs [],())).1).size:Int) then c true b else zd a (List.length b.1) (bif 100<(((List.getD b.1 a.toNat (bs [],bs [],())).2.1).size:Int) then c true b else d (zW zI (a+1)) b)) else e b
def zqj{R:Type}(a:Bool)(b:Zt24)(c:Bool→Option R):Option R:=
 c a
def zgg{R:Type}(a:Zt24)(b:Int→Zt24→Option R):Option R:=
 b 0 a
def zqk{R:Type}(a:Int)(b:Zt24)(c:Bool→Option R)(d:Int→Zt24→Option R)(e:Option R):Option R:=
 bif a<((List.length b.2.1):Int) then zd a (List.length b.2.1) ((Q128 (List.getD b.2.1 a.toNat (0,0,0,bs [],[],()))).bind fun r1=>bif r1 then c true else d (zW zI (a+1)) b) else e
def zql{R:Type}(a:Bool)(b:Bool→Option R):Option R:=
 b a
def zqm{R:Type}(a:Bool→Option R):Option R:=
 a false
def z4c:Nat→Int→Zt24→Option (Sum (Bool×Zt24) Zt24)
 |0,_,_=>none
 |k+1,v0,v1=>z96 v0 v1 (fun a0 a1=>some (.inl (a0,a1))) (fun a0 a1=>z4c k a0 a1) (fun a0=>some (.inr a0))
def z95:Nat→Int→Zt24→Option (Sum Bool Unit)
 |0,_,_=>none
 |k+1,v0,v1=>zqk v0 v1 (fun a0=>some (.inl a0)) (fun a0 a1=>z95 k a0 a1) (some (.inr ()))
def Q131(a:Zt24):Option Bool:=
 zgf a (fun a0=>some a0) (fun a0 a1=>(z4c FUEL a0 a1).bind fun e=>Sum.elim (fun(we:(Bool×Zt24))=>zqj we.1 we.2 (fun a0=>some a0)) (fun(we:Zt24)=>zgg we (fun a0 a1=>(z95 FUEL a0 a1).bind fun e=>Sum.elim (fun(we:Bool)=>zql we (fun a0=>some a0)) (fun(we:Unit)=>zqm (fun a0=>some a0)) e)) e)
def zgc{R:Type}(a:Zt24)(b:Int→Zt24→Zt24→Zt24→Option R):Option R:=
 (Q121 a.1).bind fun r1=>b 0 a ([],[],()) (r1,[],())
def zqf{R:Type}(a:Int)(b c d:Zt24)(e:Int→Zt24→Zt24→Zt24→Option R)(f:Zt24→Zt24→Option R):Option R:=
 bif a<((List.length b.2.1):Int) then zd a (List.length b.2.1) ((Q127 (List.getD b.2.1 a.toNat (0,0,0,bs [],[],()))).bind fun r2=>bif(List.length d.2.1+List.length ([r2]:List Zt20))*64≤140737488355328 then e (zW zI (a+1)) b c (d.1,d.2.1++([r2]:List Zt20),()) else none) else f c d
def zqg{R:Type}(a b:Zt24)(c:Zt24→Option R):Option R:=
 c b
def z94:Nat→Int→Zt24→Zt24→Zt24→Option (Zt24×Zt24)
 |0,_,_,_,_=>none
 |k+1,v0,v1,v2,v3=>zqf v0 v1 v2 v3 (fun a0 a1 a2 a3=>z94 k a0 a1 a2 a3) (fun a0 a1=>some (a0,a1))
def Q130(a:Zt24):Option Zt24:=
 zgc a (fun a0 a1 a2 a3=>(z94 FUEL a0 a1 a2 a3).bind fun e=>zqg e.1 e.2 (fun a0=>some a0))
end Groat

namespace Groat
open Go.IntKind renaming wrap→zW,i64→zI,u8→zU
open Go Go.Ref
def zgi{R:Type}(a b:Zt24)(c:Bool→Option R)(d:Int→Zt24→Zt24→Option R):Option R:=
 (Q122 a.1 b.1).bind fun r1=>bif !r1 then c false else bif !decide (((List.length a.2.1):Int)=((List.length b.2.1):Int)) then c false else d 0 a b
def zgj{R:Type}(a:Int)(b c:Zt24)(d:Bool→Option R)(e:Int→Zt24→Zt24→Option R)(f:Option R):Option R:=
 bif a<((List.length b.2.1):Int) then zd a (List.length b.2.1) (zd a (List.length c.2.1) (bif !decide ((List.getD b.2.1 a.toNat (0,0,0,bs [],[],())).1=(List.getD c.2.1 a.toNat (0,0,0,bs [],[],())).1) then d false else bif !decide ((List.getD b.2.1 a.toNat (0,0,0,bs [],[],())).2.1=(List.getD c.2.1 a.toNat (0,0,0,bs [],[],())).2.1) then d false else bif !decide ((List.getD b.2.1 a.toNat (0,0,0,bs [],[],())).2.2.1=(List.getD c.2.1 a.toNat (0,0,0,bs [],[],())).2.2.1) then d false else bif !decide ((List.getD b.2.1 a.toNat (0,0,0,bs [],[],())).2.2.2.1=(List.getD c.2.1 a.toNat (0,0,0,bs [],[],())).2.2.2.1) then d false else(Q122 (List.getD b.2.1 a.toNat (0,0,0,bs [],[],())).2.2.2.2.1 (List.getD c.2.1 a.toNat (0,0,0,bs [],[],())).2.2.2.2.1).bind fun r2=>bif !r2 then d false else e (zW zI (a+1)) b c)) else f
def zqo{R:Type}(a:Bool)(b:Bool→Option R):Option R:=
 b a
def zqp{R:Type}(a:Bool→Option R):Option R:=
 a true
def z5r:Nat→Int→Zt24→Zt24→Option (Sum Bool Unit)
 |0,_,_,_=>none
 |k+1,v0,v1,v2=>zgj v0 v1 v2 (fun a0=>some (.inl a0)) (fun a0 a1 a2=>z5r k a0 a1 a2) (some (.inr ()))
def Q137(a b:Zt24):Option Bool:=
 zgi a b (fun a0=>some a0) (fun a0 a1 a2=>(z5r FUEL a0 a1 a2).bind fun e=>Sum.elim (fun(we:Bool)=>zqo we (fun a0=>some a0)) (fun(we:Unit)=>zqp (fun a0=>some a0)) e)
end Groat

namespace Groat
open Go.IntKind renaming wrap→zW,i64→zI,u8→zU
open Go Go.Ref
end Groat

namespace Groat
open Go.IntKind renaming wrap→zW,i64→zI,u8→zU
open Go Go.Ref
def zgm{R:Type}(a:Zt26)(b:Bool→Option R)(c:Int→Zt26→Option R):Option R:=
 bif 200<((List.length a.1.2.2.1):Int) then b true else bif 300<((List.length a.2.2.1):Int) then b true else bif 300<((List.length a.2.2.2.1):Int) then b true else c 0 a
def zqr{R:Type}(a:Int)(b:Zt26)(c:Bool→Option R)(d:Int→Zt26→Option R)(e:Option R):Option R:=
 bif a<((List.length b.2.2.2.1):Int) then zd a (List.length b.2.2.2.1) (bif 1200<(((List.getD b.2.2.2.1 a.toNat (0,bs [],())).2.1).size:Int) then c true else d (zW zI (a+1)) b) else e
def zqs{R:Type}(a:Bool)(b:Bool→Option R):Option R:=
 b a
def zqt{R:Type}(a:Bool→Option R):Option R:=
 a false
def z97:Nat→Int→Zt26→Option (Sum Bool Unit)
 |0,_,_=>none
 |k+1,v0,v1=>zqr v0 v1 (fun a0=>some (.inl a0)) (fun a0 a1=>z97 k a0 a1) (some (.inr ()))
def Q143(a:Zt26):Option Bool:=
 zgm a (fun a0=>some a0) (fun a0 a1=>(z97 FUEL a0 a1).bind fun e=>Sum.elim (fun(we:Bool)=>zqs we (fun a0=>some a0)) (fun(we:Unit)=>zqt (fun a0=>some a0)) e)
def zgk{R:Type}(a:Zt26)(b:Zt26→Option R):Option R:=
 (Q101 a.1).bind fun r1=>bif(List.length ([]:List Int)+List.length a.2.2.1)*8≤140737488355328 then bif(List.length ([]:List Zt9)+List.length a.2.2.2.1)*24≤140737488355328 then b (r1,a.2.1,[]++a.2.2.1,[]++a.2.2.2.1,()) else none else none
def Q142(a:Zt26):Option Zt26:=
 zgk a (fun a0=>some a0)
end Groat

namespace Groat
open Go.IntKind renaming wrap→zW,i64→zI,u8→zU
open Go Go.Ref
end Groat

namespace Groat
open Go.IntKind renaming wrap→zW,i64→zI,u8→zU
open Go Go.Ref
end Groat

namespace Groat
open Go.IntKind renaming wrap→zW,i64→zI,u8→zU
open Go Go.Ref
end Groat

namespace Groat
open Go.IntKind renaming wrap→zW,i64→zI,u8→zU
open Go Go.Ref
end Groat

namespace Groat
open Go.IntKind renaming wrap→zW,i64→zI,u8→zU
open Go Go.Ref
end Groat

namespace Groat
open Go.IntKind renaming wrap→zW,i64→zI,u8→zU
open Go Go.Ref
end Groat

namespace Groat
open Go.IntKind renaming wrap→zW,i64→zI,u8→zU
open Go Go.Ref
end Groat

namespace Groat
open Go.IntKind renaming wrap→zW,i64→zI,u8→zU
open Go Go.Ref
def zr7{R:Type}(a:(List ByteArray))(b:(List ByteArray)→Zt14→Int→Option R):Option R:=
 b a [] 0
def zr8{R:Type}(a:(List ByteArray))(b:Zt14)(c:Int)(d:(List ByteArray)→Zt14→Int→Option R)(e:Zt14→Option R):Option R:=
 bif c<((List.length a):Int) then zd c (List.length a) (zd (zW zI (c+1)) (List.length a) (bif(List.length b+List.length ([(List.getD a c.toNat (bs []),List.getD a (zW zI (c+(1:Int))).toNat (bs []),())]:List Zt11))*32≤140737488355328 then d a (b++([(List.getD a c.toNat (bs []),List.getD a (zW zI (c+(1:Int))).toNat (bs []),())]:List Zt11)) (zW zI (c+2)) else none)) else e b
def zr9{R:Type}(a:Zt14)(b:Zt14→Option R):Option R:=
 b a
def zgz:Nat→(List ByteArray)→Zt14→Int→Option Zt14
 |0,_,_,_=>none
 |k+1,v0,v1,v2=>zr8 v0 v1 v2 (fun a0 a1 a2=>zgz k a0 a1 a2) (fun a0=>some a0)
def Q157(a:(List ByteArray)):Option Zt14:=
 zr7 a (fun a0 a1 a2=>(zgz FUEL a0 a1 a2).bind fun e=>zr9 e (fun a0=>some a0))
def zr4{R:Type}(a:Zt22→(List Int)→Int→Option R):Option R:=
 Q105.bind fun r1=>a [] r1 0
def zr5{R:Type}(a:Zt22)(b:(List Int))(c:Int)(d:Zt22→(List Int)→Int→Option R)(e:Zt22→Option R):Option R:=
 bif c<((List.length b):Int) then zd c (List.length b) (bif List.getD b c.toNat 0=12 then zd c (List.length b) (zd c (List.length b) (bif(List.length a+List.length ([((4:Int),List.getD b c.toNat (0:Int),List.getD b c.toNat (0:Int),bs [],([]:List Zt11),())]:List Zt20))*64≤140737488355328 then d (a++([(4,List.getD b c.toNat 0,List.getD b c.toNat 0,bs [],[],())]:List Zt20)) b (zW zI (c+1)) else none)) else zd c (List.length b) (zd c (List.length b) (bif(List.length a+List.length ([((1:Int),List.getD b c.toNat (0:Int),List.getD b c.toNat (0:Int),bs [],([]:List Zt11),())]:List Zt20))*64≤140737488355328 then d (a++([(1,List.getD b c.toNat 0,List.getD b c.toNat 0,bs [],[],())]:List Zt20)) b (zW zI (c+1)) else none))) else e a
def zr6{R:Type}(a:Zt22)(b:Zt22→Option R):Option R:=
 b a
def zgx:Nat→Zt22→(List Int)→Int→Option Zt22
 |0,_,_,_=>none
 |k+1,v0,v1,v2=>zr5 v0 v1 v2 (fun a0 a1 a2=>zgx k a0 a1 a2) (fun a0=>some a0)
def Q156:Option Zt22:=
 zr4 (fun a0 a1 a2=>(zgx FUEL a0 a1 a2).bind fun e=>zr6 e (fun a0=>some a0))
def zr3{R:Type}(a b c:ByteArray)(d:Zt12→Option R):Option R:=
 d ([(0,a,()),(2,b,()),(3,b,()),(12,b,()),(9,b,()),(15,c,())]:List Zt9)
def Q155(a b c:ByteArray):Option Zt12:=
 zr3 a b c (fun a0=>some a0)
def zqu{R:Type}(a:Zt29→Option R):Option R:=
 (Q157 ([(bs [48,49,48,48]),bs [49,49,48,48],bs [48,49,49,48],bs [49,49,49,48],bs [48,50,48,48],bs [49,50,48,48],bs [48,50,49,48],bs [49,50,49,48],bs [48,50,50,48],bs [49,50,50,48],bs [48,50,51,48],bs [49,50,51,48],bs [48,52,48,48],bs [49,52,48,48],bs [48,52,49,48],bs [49,52,49,48],bs [48,52,50,48],bs [49,52,50,48],bs [48,52,51,48],bs [49,52,51,48],bs [48,56,48,48],bs [49,56,48,52],bs [48,56,49,48],(bs [49,56,49,52])]:List ByteArray)).bind fun r1=>(Q157 ([(bs [48,53,49]),bs [53,49,48,49,48,49,53,49,49,51,52,52],bs [48,50,49],bs [50,49,48,49,48,49,50,49,49,51,52,52],bs [48,49,50],(bs [49,48,48,49,52,48,49,48,48,49,49,48])]:List ByteArray)).bind fun r2=>(Q157 ([(bs [48,48]),bs [48,48,48],bs [48,53],bs [49,48,48],bs [49,52],bs [49,49,49],bs [53,49],bs [49,49,54],bs [53,52],bs [49,48,49],bs [57,49],bs [57,48,55],bs [57,54],(bs [57,48,57])]:List ByteArray)).bind fun r3=>Q156.bind fun r4=>bif(List.length r4+List.length ([((2:Int),(13:Int),(0:Int),bs [],([]:List Zt11),()),((2:Int),(18:Int),(0:Int),bs [],([]:List Zt11),()),((2:Int),(90:Int),(0:Int),bs [],([]:List Zt11),()),((5:Int),(22:Int),(22:Int),bs [],r2,()),((5:Int),(39:Int),(39:Int),bs [],r3,()),((1:Int),(43:Int),(43:Int),bs [],([]:List Zt11),()),((1:Int),(48:Int),(48:Int),bs [],([]:List Zt11),()),((3:Int),(0:Int),(26:Int),bs [53,57,57,57],([]:List Zt11),())]:List Zt20))*64≤140737488355328 then Q156.bind fun r5=>(Q123 r2).bind fun r6=>(Q123 r3).bind fun r7=>bif(List.length r5+List.length ([((2:Int),(26:Int),(0:Int),bs [],([]:List Zt11),()),((2:Int),(43:Int),(0:Int),bs [],([]:List Zt11),()),((5:Int),(22:Int),(22:Int),bs [],r6,()),((5:Int),(39:Int),(39:Int),bs [],r7,()),((1:Int),(48:Int),(48:Int),bs [],([]:List Zt11),())]:List Zt20))*64≤140737488355328 then(Q106 (0:Int)).bind fun r8=>(Q155 (bs [57,54]) (bs [51,48]) (bs [49,50])).bind fun r9=>zd 0 2 ((Q106 (1:Int)).bind fun r10=>(Q123 r1).bind fun r11=>bif(List.length ([]:List Int)+List.length ([(2:Int),(3:Int),(4:Int),(7:Int),(11:Int),(12:Int),(32:Int),(37:Int),(41:Int),(42:Int),(70:Int)]:List Int))*8≤140737488355328 then(Q155 (bs [57,48,57]) (bs [57,48,52]) (bs [57,48,50])).bind fun r12=>zd 1 2 (a (List.set (List.set (List.replicate 2 ((0,0,[],()),([],[],()),[],[],())) ((0:Int)).toNat (r8,(r1,r4++([(2,13,0,bs [],[],()),(2,18,0,bs [],[],()),(2,90,0,bs [],[],()),(5,22,22,bs [],r2,()),(5,39,39,bs [],r3,()),(1,43,43,bs [],[],()),(1,48,48,bs [],[],()),(3,0,26,bs [53,57,57,57],[],())]:List Zt20),()),([2,3,4,7,11,12,32,37,41,42,70]:List Int),r9,())) ((1:Int)).toNat (r10,(r11,r5++([(2,26,0,bs [],[],()),(2,43,0,bs [],[],()),(5,22,22,bs [],r6,()),(5,39,39,bs [],r7,()),(1,48,48,bs [],[],())]:List Zt20),()),[]++([2,3,4,7,11,12,32,37,41,42,70]:List Int),r12,()),4096,())) else none) else none else none
def Q145:Option Zt29:=
 zqu (fun a0=>some a0)
def zgp{R:Type}(a:Zt29)(b:Bool→Option R):Option R:=
 zd 0 2 ((Q143 (List.getD a.1 ((0:Int)).toNat ((0,0,[],()),([],[],()),[],[],()))).bind fun r1=>bif r1 then b true else zd 1 2 ((Q143 (List.getD a.1 ((1:Int)).toNat ((0,0,[],()),([],[],()),[],[],()))).bind fun r2=>bif r2 then b true else zd 0 2 ((Q131 (List.getD a.1 ((0:Int)).toNat ((0,0,[],()),([],[],()),[],[],())).2.1).bind fun r3=>bif r3 then b true else zd 1 2 ((Q131 (List.getD a.1 ((1:Int)).toNat ((0,0,[],()),([],[],()),[],[],())).2.1).bind fun r4=>b r4))))
def Q148(a:Zt29):Option Bool:=
 zgp a (fun a0=>some a0)
def zgo{R:Type}(a:Zt29)(b:Int→Zt29→Zt29→Option R):Option R:=
 b 0 a (List.replicate 2 ((0,0,[],()),([],[],()),[],[],()),0,())
def z71{R:Type}(a:Int)(b c:Zt29)(d:Int→Zt29→Zt29→Option R)(e:Zt29→Zt29→Option R):Option R:=
 bif a<2 then zd a 2 ((Q130 (List.getD b.1 a.toNat ((0,0,[],()),([],[],()),[],[],())).2.1).bind fun r1=>zd a 2 ((Q142 (List.getD b.1 a.toNat ((0,0,[],()),([],[],()),[],[],()))).bind fun r2=>zd a 2 (zd a 2 (d (zW zI (a+1)) (List.set (List.set b.1 a.toNat r2) a.toNat ((List.getD (List.set b.1 a.toNat r2) a.toNat ((0,0,[],()),([],[],()),[],[],())).1,r1,(List.getD (List.set b.1 a.toNat r2) a.toNat ((0,0,[],()),([],[],()),[],[],())).2.2.1,(List.getD (List.set b.1 a.toNat r2) a.toNat ((0,0,[],()),([],[],()),[],[],())).2.2.2.1,()),b.2.1,()) c)))) else e b c
def zqv{R:Type}(a b:Zt29)(c:Zt29→Option R):Option R:=
 c a
def z5s:Nat→Int→Zt29→Zt29→Option (Zt29×Zt29)
 |0,_,_,_=>none
 |k+1,v0,v1,v2=>z71 v0 v1 v2 (fun a0 a1 a2=>z5s k a0 a1 a2) (fun a0 a1=>some (a0,a1))
def Q147(a:Zt29):Option Zt29:=
 zgo a (fun a0 a1 a2=>(z5s FUEL a0 a1 a2).bind fun e=>zqv e.1 e.2 (fun a0=>some a0))
def zgt{R:Type}(a b:Zt29)(c:Bool→Option R)(d:Int→Zt29→Zt29→Option R):Option R:=
 bif !decide (a.2.1=b.2.1) then c false else d 0 a b
def z98{R:Type}(a:Int)(b c:Zt29)(d:Bool→Option R)(e:Int→Int→Zt29→Zt29→Zt26→Zt26→Option R)(f:Option R):Option R:=
 bif a<2 then zd a 2 (zd a 2 ((Q104 (List.getD b.1 a.toNat ((0,0,[],()),([],[],()),[],[],())).1 (List.getD c.1 a.toNat ((0,0,[],()),([],[],()),[],[],())).1).bind fun r1=>bif !r1 then d false else(Q137 (List.getD b.1 a.toNat ((0,0,[],()),([],[],()),[],[],())).2.1 (List.getD c.1 a.toNat ((0,0,[],()),([],[],()),[],[],())).2.1).bind fun r2=>bif !r2 then d false else bif !decide (((List.length (List.getD b.1 a.toNat (((0:Int),(0:Int),([]:List Zt13),()),(([]:List Zt11),([]:List Zt20),()),([]:List Int),([]:List Zt9),())).2.2.1):Int)=((List.length (List.getD c.1 a.toNat (((0:Int),(0:Int),([]:List Zt13),()),(([]:List Zt11),([]:List Zt20),()),([]:List Int),([]:List Zt9),())).2.2.1):Int)) then d false else bif !decide (((List.length (List.getD b.1 a.toNat (((0:Int),(0:Int),([]:List Zt13),()),(([]:List Zt11),([]:List Zt20),()),([]:List Int),([]:List Zt9),())).2.2.2.1):Int)=((List.length (List.getD c.1 a.toNat (((0:Int),(0:Int),([]:List Zt13),()),(([]:List Zt11),([]:List Zt20),()),([]:List Int),([]:List Zt9),())).2.2.2.1):Int)) then d false else e a 0 b c (List.getD b.1 a.toNat ((0,0,[],()),([],[],()),[],[],())) (List.getD c.1 a.toNat ((0,0,[],()),([],[],()),[],[],())))) else f
def zqz{R:Type}(a:Bool)(b:Bool→Option R):Option R:=
 b a
def zr0{R:Type}(a:Bool→Option R):Option R:=
 a true
def z99{R:Type}(a b:Int)(c d:Zt29)(e f:Zt26)(g:Bool→Int→Zt29→Zt29→Zt26→Zt26→Option R)(h:Int→Int→Zt29→Zt29→Zt26→Zt26→Option R)(i:Int→Zt29→Zt29→Zt26→Zt26→Option R):Option R:=
 bif b<((List.length e.2.2.1):Int) then zd b (List.length e.2.2.1) (zd b (List.length f.2.2.1) (bif !decide (List.getD e.2.2.1 b.toNat 0=List.getD f.2.2.1 b.toNat 0) then g false a c d e f else h a (zW zI (b+1)) c d e f)) else i a c d e f
def zr1{R:Type}(a:Bool)(b:Int)(c d:Zt29)(e f:Zt26)(g:Bool→Option R):Option R:=
 g a
def zgu{R:Type}(a:Int)(b c:Zt29)(d e:Zt26)(f:Int→Int→Zt29→Zt29→Zt26→Zt26→Option R):Option R:=
 f a 0 b c d e
def z9a{R:Type}(a b:Int)(c d:Zt29)(e f:Zt26)(g:Bool→Int→Zt29→Zt29→Option R)(h:Int→Int→Zt29→Zt29→Zt26→Zt26→Option R)(i:Int→Zt29→Zt29→Option R):Option R:=
 bif b<((List.length e.2.2.2.1):Int) then zd b (List.length e.2.2.2.1) (zd b (List.length f.2.2.2.1) (bif !(decide ((List.getD e.2.2.2.1 b.toNat (0,bs [],())).1=(List.getD f.2.2.2.1 b.toNat (0,bs [],())).1)&&(decide ((List.getD e.2.2.2.1 b.toNat (0,bs [],())).2.1=(List.getD f.2.2.2.1 b.toNat (0,bs [],())).2.1)&&true)) then g false a c d else h a (zW zI (b+1)) c d e f)) else i a c d
def zr2{R:Type}(a:Bool)(b:Int)(c d:Zt29)(e:Bool→Option R):Option R:=
 e a
def zgv{R:Type}(a:Int)(b c:Zt29)(d:Int→Zt29→Zt29→Option R):Option R:=
 d (zW zI (a+1)) b c
def z5t:Nat→Int→Int→Zt29→Zt29→Zt26→Zt26→Option (Sum (Bool×Int×Zt29×Zt29×Zt26×Zt26) (Int×Zt29×Zt29×Zt26×Zt26))
 |0,_,_,_,_,_,_=>none
 |k+1,v0,v1,v2,v3,v4,v5=>z99 v0 v1 v2 v3 v4 v5 (fun a0 a1 a2 a3 a4 a5=>some (.inl (a0,a1,a2,a3,a4,a5))) (fun a0 a1 a2 a3 a4 a5=>z5t k a0 a1 a2 a3 a4 a5) (fun a0 a1 a2 a3 a4=>some (.inr (a0,a1,a2,a3,a4)))
def z5u:Nat→Int→Int→Zt29→Zt29→Zt26→Zt26→Option (Sum (Bool×Int×Zt29×Zt29) (Int×Zt29×Zt29))
 |0,_,_,_,_,_,_=>none
 |k+1,v0,v1,v2,v3,v4,v5=>z9a v0 v1 v2 v3 v4 v5 (fun a0 a1 a2 a3=>some (.inl (a0,a1,a2,a3))) (fun a0 a1 a2 a3 a4 a5=>z5u k a0 a1 a2 a3 a4 a5) (fun a0 a1 a2=>some (.inr (a0,a1,a2)))
def z50:Nat→Int→Zt29→Zt29→Option (Sum Bool Unit)
 |0,_,_,_=>none
 |k+1,v0,v1,v2=>z98 v0 v1 v2 (fun a0=>some (.inl a0)) (fun a0 a1 a2 a3 a4 a5=>(z5t FUEL a0 a1 a2 a3 a4 a5).bind fun e=>Sum.elim (fun(we:(Bool×Int×Zt29×Zt29×Zt26×Zt26))=>zr1 we.1 we.2.1 we.2.2.1 we.2.2.2.1 we.2.2.2.2.1 we.2.2.2.2.2 (fun a0=>some (.inl a0))) (fun(we:(Int×Zt29×Zt29×Zt26×Zt26))=>zgu we.1 we.2.1 we.2.2.1 we.2.2.2.1 we.2.2.2.2 (fun a0 a1 a2 a3 a4 a5=>(z5u FUEL a0 a1 a2 a3 a4 a5).bind fun e=>Sum.elim (fun(we:(Bool×Int×Zt29×Zt29))=>zr2 we.1 we.2.1 we.2.2.1 we.2.2.2 (fun a0=>some (.inl a0))) (fun(we:(Int×Zt29×Zt29))=>zgv we.1 we.2.1 we.2.2 (fun a0 a1 a2=>z50 k a0 a1 a2)) e)) e) (some (.inr ()))
def Q152(a b:Zt29):Option Bool:=
 zgt a b (fun a0=>some a0) (fun a0 a1 a2=>(z50 FUEL a0 a1 a2).bind fun e=>Sum.elim (fun(we:Bool)=>zqz we (fun a0=>some a0)) (fun(we:Unit)=>zr0 (fun a0=>some a0)) e)
end Groat

namespace Groat
open Go.IntKind renaming wrap→zW,i64→zI,u8→zU
open Go Go.Ref
def zhm{R:Type}(a:ByteArray)(b:Bool→Option R):Option R:=
 bif(a.size:Int)=4 then(Q28 a).bind fun r1=>b r1 else b false
def Q180(a:ByteArray):Option Bool:=
 zhm a (fun a0=>some a0)
def zhn{R:Type}(a:ByteArray)(b:Int→Bool→Option R):Option R:=
 (Q180 a).bind fun r1=>bif !r1 then b 0 false else zd 0 a.size (b (zW zI (zW zU (ze a ((0:Int)).toNat-48))) true)
def Q181(a:ByteArray):Option (Int×Bool):=
 zhn a (fun a0 a1=>some (a0,a1))
def zhk{R:Type}(a:ByteArray)(b:Bool→Option R):Option R:=
 (Q180 a).bind fun r1=>bif r1 then zd 2 a.size (bif ze a ((2:Int)).toNat=48 then b true else zd 2 a.size (b (decide (ze a ((2:Int)).toNat=50)))) else b false
def Q178(a:ByteArray):Option Bool:=
 zhk a (fun a0=>some a0)
def zhl{R:Type}(a:ByteArray)(b:ByteArray→Bool→Option R):Option R:=
 (Q178 a).bind fun r1=>bif !r1 then b (bs []) false else bif 2≤(a.size:Int) then zd 2 a.size (bif(a.extract 0 ((2:Int)).toNat).size+(strOf ([(zW zU (ze a ((2:Int)).toNat+1))]:List Int)).size≤9223372036854775807 then bif 3≤(a.size:Int) then bif(a.extract 0 ((2:Int)).toNat++strOf ([(zW zU (ze a ((2:Int)).toNat+1))]:List Int)).size+(a.extract ((3:Int)).toNat a.size).size≤9223372036854775807 then b ((a.extract 0 ((2:Int)).toNat++strOf ([(zW zU (ze a ((2:Int)).toNat+1))]:List Int))++a.extract ((3:Int)).toNat a.size) true else none else none else none) else none
def Q179(a:ByteArray):Option Zt5:=
 zhl a (fun a0 a1=>some (a0,a1))
end Groat

namespace Groat
open Go.IntKind renaming wrap→zW,i64→zI,u8→zU
open Go Go.Ref
def zhe{R:Type}(a:Zt17)(b:Int)(c:Int→Zt12→Int→Int→Option R):Option R:=
 c b a.2.1 ((List.length a.2.1):Int) 0
def zrq{R:Type}(a:Int)(b:Zt12)(c d:Int)(e:ByteArray→Bool→Option R)(f:Int→Zt12→Int→Int→Option R)(g:Option R):Option R:=
 bif d<c then zd d (List.length b) (bif(List.getD b d.toNat (0,bs [],())).1=a then e (List.getD b d.toNat (0,bs [],())).2.1 true else f a b c (zW zI (d+1))) else g
def zrr{R:Type}(a:ByteArray)(b:Bool)(c:ByteArray→Bool→Option R):Option R:=
 c a b
def zrs{R:Type}(a:ByteArray→Bool→Option R):Option R:=
 a (bs []) false
def z9g:Nat→Int→Zt12→Int→Int→Option (Sum Zt5 Unit)
 |0,_,_,_,_=>none
 |k+1,v0,v1,v2,v3=>zrq v0 v1 v2 v3 (fun a0 a1=>some (.inl (a0,a1))) (fun a0 a1 a2 a3=>z9g k a0 a1 a2 a3) (some (.inr ()))
def Q173(a:Zt17)(b:Int):Option Zt5:=
 zhe a b (fun a0 a1 a2 a3=>(z9g FUEL a0 a1 a2 a3).bind fun e=>Sum.elim (fun(we:Zt5)=>zrr we.1 we.2 (fun a0 a1=>some (a0,a1))) (fun(we:Unit)=>zrs (fun a0 a1=>some (a0,a1))) e)
def zhj{R:Type}(a:Zt17)(b:Int)(c:Int→Zt12→Int→Int→Zt17→Zt17→Option R):Option R:=
 c b a.2.1 ((List.length a.2.1):Int) 0 (bs [],[],()) (a.1,[],())
def zrw{R:Type}(a:Int)(b:Zt12)(c d:Int)(e f:Zt17)(g:Int→Zt12→Int→Int→Zt17→Zt17→Option R)(h:Zt17→Zt17→Option R):Option R:=
 bif d<c then zd d (List.length b) (bif !decide ((List.getD b d.toNat (0,bs [],())).1=a) then bif(List.length f.2.1+List.length ([(List.getD b d.toNat ((0:Int),bs [],()))]:List Zt9))*24≤140737488355328 then g a b c (zW zI (d+1)) e (f.1,f.2.1++([(List.getD b d.toNat (0,bs [],()))]:List Zt9),()) else none else g a b c (zW zI (d+1)) e f) else h e f
def zrx{R:Type}(a b:Zt17)(c:Zt17→Option R):Option R:=
 c b
def z9i:Nat→Int→Zt12→Int→Int→Zt17→Zt17→Option (Zt17×Zt17)
 |0,_,_,_,_,_,_=>none
 |k+1,v0,v1,v2,v3,v4,v5=>zrw v0 v1 v2 v3 v4 v5 (fun a0 a1 a2 a3 a4 a5=>z9i k a0 a1 a2 a3 a4 a5) (fun a0 a1=>some (a0,a1))
def Q177(a:Zt17)(b:Int):Option Zt17:=
 zhj a b (fun a0 a1 a2 a3 a4 a5=>(z9i FUEL a0 a1 a2 a3 a4 a5).bind fun e=>zrx e.1 e.2 (fun a0=>some a0))
def zrv{R:Type}(a:Zt9)(b:Int)(c:Bool→Int→Option R):Option R:=
 c (decide (b<a.1)) b
def Q176(a:Zt9)(b:Int):Option (Bool×Int):=
 zrv a b (fun a0 a1=>some (a0,a1))
def zir{R:Type}(a:Zt12)(b:Int)(c:Zt12→Int→Int→Int→Option R):Option R:=
 c a ((List.length a):Int) 0 b
def zsv{R:Type}(a:Zt12)(b c d:Int)(e:Int→Int→Option R)(f:Zt12→Int→Int→Int→Option R)(g:Int→Option R):Option R:=
 bif c<b then zd c (List.length a) ((Q176 (List.getD a c.toNat (0,bs [],())) d).bind fun r1=>bif r1.1 then e c r1.2 else f a b (zW zI (c+1)) r1.2) else g d
def zsw{R:Type}(a b:Int)(c:Int→Int→Option R):Option R:=
 c a b
def zsx{R:Type}(a:Int)(b:Int→Int→Option R):Option R:=
 b (-1:Int) a
def z9t:Nat→Zt12→Int→Int→Int→Option (Sum (Int×Int) Int)
 |0,_,_,_,_=>none
 |k+1,v0,v1,v2,v3=>zsv v0 v1 v2 v3 (fun a0 a1=>some (.inl (a0,a1))) (fun a0 a1 a2 a3=>z9t k a0 a1 a2 a3) (fun a0=>some (.inr a0))
def Q216(a:Zt12)(b:Int):Option (Int×Int):=
 zir a b (fun a0 a1 a2 a3=>(z9t FUEL a0 a1 a2 a3).bind fun e=>Sum.elim (fun(we:(Int×Int))=>zsw we.1 we.2 (fun a0 a1=>some (a0,a1))) (fun(we:Int)=>zsx we (fun a0 a1=>some (a0,a1))) e)
def zhh{R:Type}(a:Zt17)(b:Int)(c:ByteArray)(d:Zt17→Option R):Option R:=
 (Q177 a b).bind fun r1=>(Q216 r1.2.1 b).bind fun r2=>bif r2.1<0 then bif zW zI (((List.length r1.2.1):Int)+1)=zW zI (((List.length r1.2.1):Int)+1) then bif 0≤zW zI (((List.length r1.2.1):Int)+1) then bif zW zI (((List.length r1.2.1):Int)+1)*24≤140737488355328 then bif 0≤((List.length r1.2.1):Int) then bif((List.length r1.2.1):Int)≤(((List.length r1.2.1):Nat):Int) then bif Nat.beq (zW zI (((List.length r1.2.1):Int)+(1:Int))).toNat (List.length (List.replicate (zW zI (((List.length r1.2.1):Int)+(1:Int))).toNat ((0:Int),bs [],()))) then zd ((List.length r1.2.1):Int) (zW zI (((List.length r1.2.1):Int)+(1:Int))).toNat (bif Nat.ble ((((List.length r1.2.1):Int)).toNat+1) (List.length (putL (List.replicate (zW zI (((List.length r1.2.1):Int)+(1:Int))).toNat ((0:Int),bs [],())) (List.take (zW zI (((List.length r1.2.1):Int)+(1:Int))).toNat (List.drop 0 (List.take (((List.length r1.2.1):Int)).toNat r1.2.1))) 0)) then bif 0≤zW zI (((List.length r1.2.1):Int)+1) then bif zW zI (((List.length r1.2.1):Int)+1)≤(((zW zI (((List.length r1.2.1):Int)+(1:Int))).toNat:Nat):Int) then bif 0≤((List.length r1.2.1):Int) then bif((List.length r1.2.1):Int)≤(((List.length r1.2.1):Nat):Int) then bif Nat.beq (zW zI (((List.length r1.2.1):Int)+(1:Int))).toNat (List.length (List.set (putL (List.replicate (zW zI (((List.length r1.2.1):Int)+(1:Int))).toNat ((0:Int),bs [],())) (List.take (zW zI (((List.length r1.2.1):Int)+(1:Int))).toNat (List.drop 0 (List.take (((List.length r1.2.1):Int)).toNat r1.2.1))) 0) (((List.length r1.2.1):Int)).toNat (r2.2,c,()))) then bif Nat.ble (zW zI (((List.length r1.2.1):Int)+(1:Int))).toNat (zW zI (((List.length r1.2.1):Int)+(1:Int))).toNat then bif Nat.beq (zW zI (((List.length r1.2.1):Int)+(1:Int))).toNat (List.length (putL (List.set (putL (List.replicate (zW zI (((List.length r1.2.1):Int)+(1:Int))).toNat ((0:Int),bs [],())) (List.take (zW zI (((List.length r1.2.1):Int)+(1:Int))).toNat (List.drop 0 (List.take (((List.length r1.2.1):Int)).toNat r1.2.1))) 0) (((List.length r1.2.1):Int)).toNat (r2.2,c,())) (List.take ((zW zI (((List.length r1.2.1):Int)+(1:Int))).toNat-(zW zI (((List.length r1.2.1):Int)+(1:Int))).toNat) (List.drop (((List.length r1.2.1):Int)).toNat (List.take (List.length r1.2.1) r1.2.1))) (zW zI (((List.length r1.2.1):Int)+(1:Int))).toNat)) then d (a.1,putL (List.set (putL (List.replicate (zW zI (((List.length r1.2.1):Int)+(1:Int))).toNat (0,bs [],())) (List.take (zW zI (((List.length r1.2.1):Int)+(1:Int))).toNat (List.drop 0 (List.take (((List.length r1.2.1):Int)).toNat r1.2.1))) 0) (((List.length r1.2.1):Int)).toNat (r2.2,c,())) (List.take ((zW zI (((List.length r1.2.1):Int)+(1:Int))).toNat-(zW zI (((List.length r1.2.1):Int)+(1:Int))).toNat) (List.drop (((List.length r1.2.1):Int)).toNat (List.take (List.length r1.2.1) r1.2.1))) (zW zI (((List.length r1.2.1):Int)+(1:Int))).toNat,()) else none else none else none else none else none else none else none else none) else none else none else none else none else none else none else bif zW zI (((List.length r1.2.1):Int)+1)=zW zI (((List.length r1.2.1):Int)+1) then bif 0≤zW zI (((List.length r1.2.1):Int)+1) then bif zW zI (((List.length r1.2.1):Int)+1)*24≤140737488355328 then bif 0≤r2.1 then bif r2.1≤(((List.length r1.2.1):Nat):Int) then bif Nat.beq (zW zI (((List.length r1.2.1):Int)+(1:Int))).toNat (List.length (List.replicate (zW zI (((List.length r1.2.1):Int)+(1:Int))).toNat ((0:Int),bs [],()))) then zd r2.1 (zW zI (((List.length r1.2.1):Int)+(1:Int))).toNat (bif Nat.ble (r2.1.toNat+1) (List.length (putL (List.replicate (zW zI (((List.length r1.2.1):Int)+(1:Int))).toNat ((0:Int),bs [],())) (List.take (zW zI (((List.length r1.2.1):Int)+(1:Int))).toNat (List.drop 0 (List.take r2.1.toNat r1.2.1))) 0)) then bif 0≤zW zI (r2.1+1) then bif zW zI (r2.1+1)≤(((zW zI (((List.length r1.2.1):Int)+(1:Int))).toNat:Nat):Int) then bif 0≤r2.1 then bif r2.1≤(((List.length r1.2.1):Nat):Int) then bif Nat.beq (zW zI (((List.length r1.2.1):Int)+(1:Int))).toNat (List.length (List.set (putL (List.replicate (zW zI (((List.length r1.2.1):Int)+(1:Int))).toNat ((0:Int),bs [],())) (List.take (zW zI (((List.length r1.2.1):Int)+(1:Int))).toNat (List.drop 0 (List.take r2.1.toNat r1.2.1))) 0) r2.1.toNat (r2.2,c,()))) then bif Nat.ble (zW zI (r2.1+(1:Int))).toNat (zW zI (((List.length r1.2.1):Int)+(1:Int))).toNat then bif Nat.beq (zW zI (((List.length r1.2.1):Int)+(1:Int))).toNat (List.length (putL (List.set (putL (List.replicate (zW zI (((List.length r1.2.1):Int)+(1:Int))).toNat ((0:Int),bs [],())) (List.take (zW zI (((List.length r1.2.1):Int)+(1:Int))).toNat (List.drop 0 (List.take r2.1.toNat r1.2.1))) 0) r2.1.toNat (r2.2,c,())) (List.take ((zW zI (((List.length r1.2.1):Int)+(1:Int))).toNat-(zW zI (r2.1+(1:Int))).toNat) (List.drop r2.1.toNat (List.take (List.length r1.2.1) r1.2.1))) (zW zI (r2.1+(1:Int))).toNat)) then d (a.1,putL (List.set (putL (List.replicate (zW zI (((List.length r1.2.1):Int)+(1:Int))).toNat (0,bs [],())) (List.take (zW zI (((List.length r1.2.1):Int)+(1:Int))).toNat (List.drop 0 (List.take r2.1.toNat r1.2.1))) 0) r2.1.toNat (r2.2,c,())) (List.take ((zW zI (((List.length r1.2.1):Int)+(1:Int))).toNat-(zW zI (r2.1+(1:Int))).toNat) (List.drop r2.1.toNat (List.take (List.length r1.2.1) r1.2.1))) (zW zI (r2.1+(1:Int))).toNat,()) else none else none else none else none else none else none else none else none) else none else none else none else none else none else none
def Q175(a:Zt17)(b:Int)(c:ByteArray):Option Zt17:=
 zhh a b c (fun a0=>some a0)
def zhc{R:Type}(a:Zt18)(b:Zt17)(c:Zt6→Option R)(d:Int→Zt12→Int→Int→Zt18→Zt6→Option R):Option R:=
 (Q210 a).bind fun r1=>bif !decide (r1.1=0) then c (1,(-1:Int),()) else(Q181 b.1).bind fun r2=>bif !r2.2 then c (7,0,()) else bif !decide (r2.1=a.2.1) then c (7,0,()) else d 0 b.2.1 ((List.length b.2.1):Int) 0 a (0,0,())
def zrm{R:Type}(a:Int)(b:Zt12)(c d:Int)(e:Zt18)(f:Zt6)(g:Zt6→Option R)(h:Int→Zt12→Int→Int→Zt18→Zt6→Option R)(i:Zt6→Option R):Option R:=
 bif d<c then zd d (List.length b) (bif(List.getD b d.toNat (0,bs [],())).1≤a then g (11,(List.getD b d.toNat (0,bs [],())).1,()) else(Q211 e (List.getD b d.toNat (0,bs [],())).1).bind fun r3=>bif !r3.2 then g (9,(List.getD b d.toNat (0,bs [],())).1,()) else(Q219 r3.1 (List.getD b d.toNat (0,bs [],())).2.1).bind fun r4=>bif !decide (r4=0) then g (r4,(List.getD b d.toNat (0,bs [],())).1,()) else h (List.getD b d.toNat (0,bs [],())).1 b c (zW zI (d+1)) e f) else i f
def zrn{R:Type}(a:Zt6)(b:Zt6→Option R):Option R:=
 b a
def zro{R:Type}(a:Zt6)(b:Zt6→Option R):Option R:=
 b (0,0,())
def z9f:Nat→Int→Zt12→Int→Int→Zt18→Zt6→Option (Sum Zt6 Zt6)
 |0,_,_,_,_,_,_=>none
 |k+1,v0,v1,v2,v3,v4,v5=>zrm v0 v1 v2 v3 v4 v5 (fun a0=>some (.inl a0)) (fun a0 a1 a2 a3 a4 a5=>z9f k a0 a1 a2 a3 a4 a5) (fun a0=>some (.inr a0))
def Q172(a:Zt18)(b:Zt17):Option Zt6:=
 zhc a b (fun a0=>some a0) (fun a0 a1 a2 a3 a4 a5=>(z9f FUEL a0 a1 a2 a3 a4 a5).bind fun e=>Sum.elim (fun(we:Zt6)=>zrn we (fun a0=>some a0)) (fun(we:Zt6)=>zro we (fun a0=>some a0)) e)
def zhg{R:Type}(a:Zt17)(b:Zt12→Int→Int→Zt6→Zt6→Option R):Option R:=
 b a.2.1 ((List.length a.2.1):Int) 0 (0,0,()) (0,0,())
def zrt{R:Type}(a:Zt12)(b c:Int)(d e:Zt6)(f:Zt12→Int→Int→Zt6→Zt6→Option R)(g:Zt6→Zt6→Option R):Option R:=
 bif c<b then zd c (List.length a) ((Q40 e (List.getD a c.toNat (0,bs [],())).1).bind fun r1=>f a b (zW zI (c+1)) d r1) else g d e
def zru{R:Type}(a b:Zt6)(c:Zt6→Option R):Option R:=
 c b
def z9h:Nat→Zt12→Int→Int→Zt6→Zt6→Option (Zt6×Zt6)
 |0,_,_,_,_,_=>none
 |k+1,v0,v1,v2,v3,v4=>zrt v0 v1 v2 v3 v4 (fun a0 a1 a2 a3 a4=>z9h k a0 a1 a2 a3 a4) (fun a0 a1=>some (a0,a1))
def Q174(a:Zt17):Option Zt6:=
 zhg a (fun a0 a1 a2 a3 a4=>(z9h FUEL a0 a1 a2 a3 a4).bind fun e=>zru e.1 e.2 (fun a0=>some a0))
end Groat

namespace Groat
open Go.IntKind renaming wrap→zW,i64→zI,u8→zU
open Go Go.Ref
def zid{R:Type}(a:Zt20)(b c:Zt18)(d:Zt13→Zt13→Int→Option R):Option R:=
 (Q211 b a.2.1).bind fun r1=>(Q211 c a.2.2.1).bind fun r2=>bif a.1=3 then bif a.1=2 then bif !decide (a.2.1=0) then d r1.1 r2.1 9 else bif !decide (a.2.2.1=0) then d r1.1 r2.1 9 else d r1.1 r2.1 0 else bif !decide (a.2.1=0) then d r1.1 r2.1 9 else bif !r2.2 then d r1.1 r2.1 9 else d r1.1 r2.1 0 else bif a.1=2 then bif !r1.2 then d r1.1 r2.1 9 else bif !decide (a.2.2.1=0) then d r1.1 r2.1 9 else d r1.1 r2.1 0 else bif !r1.2 then d r1.1 r2.1 9 else bif !r2.2 then d r1.1 r2.1 9 else d r1.1 r2.1 0
def Q207(a:Zt20)(b c:Zt18):Option (Zt13×Zt13×Int):=
 zid a b c (fun a0 a1 a2=>some (a0,a1,a2))
def zie{R:Type}(a:Zt13)(b:Bool→Option R):Option R:=
 bif a.2.1=1 then b (decide (a.2.2.1=1)) else b false
def Q208(a:Zt13):Option Bool:=
 zie a (fun a0=>some a0)
def zig{R:Type}(a:Zt14)(b c:Zt13)(d:Int→Option R)(e:Zt14→Int→Int→Zt13→Zt13→Option R):Option R:=
 (Q22 a).bind fun r1=>bif !decide (r1.1=0) then d 15 else bif((List.length a):Int)=0 then d 15 else e a ((List.length a):Int) 0 b c
def zsi{R:Type}(a:Zt14)(b c:Int)(d e:Zt13)(f:Int→Option R)(g:Zt14→Int→Int→Zt13→Zt13→Option R)(h:Option R):Option R:=
 bif c<b then zd c (List.length a) ((Q219 d (List.getD a c.toNat (bs [],bs [],())).1).bind fun r2=>bif !decide (r2=0) then f r2 else(Q219 e (List.getD a c.toNat (bs [],bs [],())).2.1).bind fun r3=>bif !decide (r3=0) then f r3 else g a b (zW zI (c+1)) d e) else h
def zsj{R:Type}(a:Int)(b:Int→Option R):Option R:=
 b a
def zsk{R:Type}(a:Int→Option R):Option R:=
 a 0
def z9p:Nat→Zt14→Int→Int→Zt13→Zt13→Option (Sum Int Unit)
 |0,_,_,_,_,_=>none
 |k+1,v0,v1,v2,v3,v4=>zsi v0 v1 v2 v3 v4 (fun a0=>some (.inl a0)) (fun a0 a1 a2 a3 a4=>z9p k a0 a1 a2 a3 a4) (some (.inr ()))
def Q209(a:Zt14)(b c:Zt13):Option Int:=
 zig a b c (fun a0=>some a0) (fun a0 a1 a2 a3 a4=>(z9p FUEL a0 a1 a2 a3 a4).bind fun e=>Sum.elim (fun(we:Int)=>zsj we (fun a0=>some a0)) (fun(we:Unit)=>zsk (fun a0=>some a0)) e)
def zic{R:Type}(a:Zt20)(b c:Zt18)(d:Int→Option R):Option R:=
 bif a.1<1 then d 1 else bif 5<a.1 then d 1 else(Q207 a b c).bind fun r1=>bif !decide (r1.2.2=0) then d r1.2.2 else bif !decide (a.2.2.2.1=bs []) then bif !decide (a.1=3) then d 3 else bif 0<((List.length a.2.2.2.2.1):Int) then bif !decide (a.1=5) then d 3 else bif a.1=1 then(Q220 r1.2.1 r1.1).bind fun r2=>bif !r2 then d 6 else d 0 else bif a.1=3 then(Q219 r1.2.1 a.2.2.2.1).bind fun r3=>d r3 else bif a.1=4 then(Q208 r1.1).bind fun r4=>bif !r4 then d 6 else(Q208 r1.2.1).bind fun r5=>bif !r5 then d 6 else d 0 else bif a.1=5 then(Q209 a.2.2.2.2.1 r1.1 r1.2.1).bind fun r6=>d r6 else d 0 else bif a.1=1 then(Q220 r1.2.1 r1.1).bind fun r7=>bif !r7 then d 6 else d 0 else bif a.1=3 then(Q219 r1.2.1 a.2.2.2.1).bind fun r8=>d r8 else bif a.1=4 then(Q208 r1.1).bind fun r9=>bif !r9 then d 6 else(Q208 r1.2.1).bind fun r10=>bif !r10 then d 6 else d 0 else bif a.1=5 then(Q209 a.2.2.2.2.1 r1.1 r1.2.1).bind fun r11=>d r11 else d 0 else bif 0<((List.length a.2.2.2.2.1):Int) then bif !decide (a.1=5) then d 3 else bif a.1=1 then(Q220 r1.2.1 r1.1).bind fun r12=>bif !r12 then d 6 else d 0 else bif a.1=3 then(Q219 r1.2.1 a.2.2.2.1).bind fun r13=>d r13 else bif a.1=4 then(Q208 r1.1).bind fun r14=>bif !r14 then d 6 else(Q208 r1.2.1).bind fun r15=>bif !r15 then d 6 else d 0 else bif a.1=5 then(Q209 a.2.2.2.2.1 r1.1 r1.2.1).bind fun r16=>d r16 else d 0 else bif a.1=1 then(Q220 r1.2.1 r1.1).bind fun r17=>bif !r17 then d 6 else d 0 else bif a.1=3 then(Q219 r1.2.1 a.2.2.2.1).bind fun r18=>d r18 else bif a.1=4 then(Q208 r1.1).bind fun r19=>bif !r19 then d 6 else(Q208 r1.2.1).bind fun r20=>bif !r20 then d 6 else d 0 else bif a.1=5 then(Q209 a.2.2.2.2.1 r1.1 r1.2.1).bind fun r21=>d r21 else d 0
def Q206(a:Zt20)(b c:Zt18):Option Int:=
 zic a b c (fun a0=>some a0)
def zib{R:Type}(a:Zt20)(b:Zt18)(c:ByteArray)(d:Zt9→Int→Option R):Option R:=
 bif a.1=1 then d (a.2.2.1,c,()) 0 else bif a.1=2 then d (0,bs [],()) 0 else bif a.1=3 then d (a.2.2.1,a.2.2.2.1,()) 0 else bif a.1=4 then(Q211 b a.2.2.1).bind fun r1=>bif !r1.2 then d (0,bs [],()) 9 else(Q30 c r1.1.2.2.2.1).bind fun r2=>bif !r2.2 then d (0,bs [],()) 5 else d (a.2.2.1,r2.1,()) 0 else bif a.1=5 then(Q20 a.2.2.2.2.1 c).bind fun r3=>bif !r3.2 then d (0,bs [],()) 15 else d (a.2.2.1,r3.1,()) 0 else d (0,bs [],()) 1
def Q205(a:Zt20)(b:Zt18)(c:ByteArray):Option (Zt9×Int):=
 zib a b c (fun a0 a1=>some (a0,a1))
end Groat

namespace Groat
open Go.IntKind renaming wrap→zW,i64→zI,u8→zU
open Go Go.Ref
def zjy{R:Type}(a:Zt11)(b c:Zt18)(d:Bool→Option R):Option R:=
 (Q181 a.1).bind fun r1=>(Q181 a.2.1).bind fun r2=>bif r1.2 then bif r2.2 then bif r1.1=b.2.1 then bif r2.1=c.2.1 then(Q178 a.1).bind fun r3=>(Q178 a.2.1).bind fun r4=>d (r3==r4) else d false else d false else d false else d false
def Q245(a:Zt11)(b c:Zt18):Option Bool:=
 zjy a b c (fun a0=>some a0)
def zjm{R:Type}(a:Zt24)(b c:Zt18)(d:Zt19→Int→Int→Zt24→Zt18→Zt18→Option R):Option R:=
 d ([b,c]:List Zt18) ((List.length ([b,c]:List Zt18)):Int) 0 a b c
def zjn{R:Type}(a:Zt19)(b c:Int)(d:Zt24)(e f:Zt18)(g:Int→Int→Int→Zt24→Zt18→Zt18→Option R)(h:Zt19→Int→Int→Zt24→Zt18→Zt18→Option R)(i:Zt24→Zt18→Zt18→Option R):Option R:=
 bif c<b then zd c (List.length a) ((Q210 (List.getD a c.toNat (0,0,[],()))).bind fun r1=>bif !decide (r1.1=0) then g 1 1 c d e f else h a b (zW zI (c+1)) d e f) else i d e f
def zte{R:Type}(a b c:Int)(d:Zt24)(e f:Zt18)(g:Int→Int→Int→Option R):Option R:=
 g a b c
def zjo{R:Type}(a:Zt24)(b c:Zt18)(d:Int→Int→Int→Option R)(e:Zt14→Int→Int→Zt24→Zt18→Zt18→Zt10→Option R):Option R:=
 bif 256<((List.length a.1):Int) then d 5 2 256 else e a.1 ((List.length a.1):Int) 0 a b c []
def ztf{R:Type}(a:Zt14)(b c:Int)(d:Zt24)(e f:Zt18)(g:Zt10)(h:Int→Int→Int→Zt24→Zt18→Zt18→Option R)(i:Zt14→Int→Int→Zt24→Zt18→Zt18→Zt10→Option R)(j:Zt24→Zt18→Zt18→Option R):Option R:=
 bif c<b then zd c (List.length a) ((Q245 (List.getD a c.toNat (bs [],bs [],())) e f).bind fun r2=>bif !r2 then h 7 2 c d e f else bif mget (eqK .str) false g (List.getD a c.toNat (bs [],bs [],())).1 then h 10 2 c d e f else bif mhas (eqK .str) g (List.getD a c.toNat (bs [],bs [],())).1 then none else i a b (zW zI (c+1)) d e f (g++ [((List.getD a c.toNat (bs [],bs [],())).1,true)])) else j d e f
def ztg{R:Type}(a b c:Int)(d:Zt24)(e f:Zt18)(g:Int→Int→Int→Option R):Option R:=
 g a b c
def zjp{R:Type}(a:Zt24)(b c:Zt18)(d:Int→Int→Int→Option R)(e:Zt22→Int→Int→Zt18→Zt18→Zt6→Zt6→Option R):Option R:=
 bif 256<((List.length a.2.1):Int) then d 5 3 256 else e a.2.1 ((List.length a.2.1):Int) 0 b c (0,0,()) (0,0,())
def zth{R:Type}(a:Zt22)(b c:Int)(d e:Zt18)(f g:Zt6)(h:Int→Int→Int→Option R)(i:Zt22→Int→Int→Zt18→Zt18→Zt6→Zt6→Option R)(j:Option R):Option R:=
 bif c<b then zd c (List.length a) ((Q206 (List.getD a c.toNat (0,0,0,bs [],[],())) d e).bind fun r3=>bif !decide (r3=0) then h r3 3 c else(Q33 ([(List.getD a c.toNat (0,0,0,bs [],[],())).2.1]:List Int)).bind fun r4=>(Q33 ([(List.getD a c.toNat (0,0,0,bs [],[],())).2.2.1]:List Int)).bind fun r5=>(Q34 f r4).bind fun r6=>bif !(decide (r6.1=0)&&(decide (r6.2.1=0)&&true)) then h 10 3 c else(Q34 g r5).bind fun r7=>bif !(decide (r7.1=0)&&(decide (r7.2.1=0)&&true)) then h 10 3 c else(Q35 f r4).bind fun r8=>(Q35 g r5).bind fun r9=>i a b (zW zI (c+1)) d e r8 r9) else j
def zti{R:Type}(a b c:Int)(d:Int→Int→Int→Option R):Option R:=
 d a b c
def ztj{R:Type}(a:Int→Int→Int→Option R):Option R:=
 a 0 0 0
def z7b:Nat→Zt19→Int→Int→Zt24→Zt18→Zt18→Option (Sum Zt30 Zt28)
 |0,_,_,_,_,_,_=>none
 |k+1,v0,v1,v2,v3,v4,v5=>zjn v0 v1 v2 v3 v4 v5 (fun a0 a1 a2 a3 a4 a5=>some (.inl (a0,a1,a2,a3,a4,a5))) (fun a0 a1 a2 a3 a4 a5=>z7b k a0 a1 a2 a3 a4 a5) (fun a0 a1 a2=>some (.inr (a0,a1,a2)))
def z7c:Nat→Zt14→Int→Int→Zt24→Zt18→Zt18→Zt10→Option (Sum Zt30 Zt28)
 |0,_,_,_,_,_,_,_=>none
 |k+1,v0,v1,v2,v3,v4,v5,v6=>ztf v0 v1 v2 v3 v4 v5 v6 (fun a0 a1 a2 a3 a4 a5=>some (.inl (a0,a1,a2,a3,a4,a5))) (fun a0 a1 a2 a3 a4 a5 a6=>z7c k a0 a1 a2 a3 a4 a5 a6) (fun a0 a1 a2=>some (.inr (a0,a1,a2)))
def z9x:Nat→Zt22→Int→Int→Zt18→Zt18→Zt6→Zt6→Option (Sum Zt1 Unit)
 |0,_,_,_,_,_,_,_=>none
 |k+1,v0,v1,v2,v3,v4,v5,v6=>zth v0 v1 v2 v3 v4 v5 v6 (fun a0 a1 a2=>some (.inl (a0,a1,a2))) (fun a0 a1 a2 a3 a4 a5 a6=>z9x k a0 a1 a2 a3 a4 a5 a6) (some (.inr ()))
def Q241(a:Zt24)(b c:Zt18):Option Zt1:=
 zjm a b c (fun a0 a1 a2 a3 a4 a5=>(z7b FUEL a0 a1 a2 a3 a4 a5).bind fun e=>Sum.elim (fun(we:Zt30)=>zte we.1 we.2.1 we.2.2.1 we.2.2.2.1 we.2.2.2.2.1 we.2.2.2.2.2 (fun a0 a1 a2=>some (a0,a1,a2))) (fun(we:Zt28)=>zjo we.1 we.2.1 we.2.2 (fun a0 a1 a2=>some (a0,a1,a2)) (fun a0 a1 a2 a3 a4 a5 a6=>(z7c FUEL a0 a1 a2 a3 a4 a5 a6).bind fun e=>Sum.elim (fun(we:Zt30)=>ztg we.1 we.2.1 we.2.2.1 we.2.2.2.1 we.2.2.2.2.1 we.2.2.2.2.2 (fun a0 a1 a2=>some (a0,a1,a2))) (fun(we:Zt28)=>zjp we.1 we.2.1 we.2.2 (fun a0 a1 a2=>some (a0,a1,a2)) (fun a0 a1 a2 a3 a4 a5 a6=>(z9x FUEL a0 a1 a2 a3 a4 a5 a6).bind fun e=>Sum.elim (fun(we:Zt1)=>zti we.1 we.2.1 we.2.2 (fun a0 a1 a2=>some (a0,a1,a2))) (fun(we:Unit)=>ztj (fun a0 a1 a2=>some (a0,a1,a2))) e)) e)) e)
def zjx{R:Type}(a:Zt24)(b:ByteArray)(c:ByteArray→Zt14→Int→Int→Option R):Option R:=
 c b a.1 ((List.length a.1):Int) 0
def ztu{R:Type}(a:ByteArray)(b:Zt14)(c d:Int)(e:ByteArray→Bool→Option R)(f:ByteArray→Zt14→Int→Int→Option R)(g:Option R):Option R:=
 bif d<c then zd d (List.length b) (bif(List.getD b d.toNat (bs [],bs [],())).1=a then e (List.getD b d.toNat (bs [],bs [],())).2.1 true else f a b c (zW zI (d+1))) else g
def ztv{R:Type}(a:ByteArray)(b:Bool)(c:ByteArray→Bool→Option R):Option R:=
 c a b
def ztw{R:Type}(a:ByteArray→Bool→Option R):Option R:=
 a (bs []) false
def za1:Nat→ByteArray→Zt14→Int→Int→Option (Sum Zt5 Unit)
 |0,_,_,_,_=>none
 |k+1,v0,v1,v2,v3=>ztu v0 v1 v2 v3 (fun a0 a1=>some (.inl (a0,a1))) (fun a0 a1 a2 a3=>za1 k a0 a1 a2 a3) (some (.inr ()))
def Q244(a:Zt24)(b:ByteArray):Option Zt5:=
 zjx a b (fun a0 a1 a2 a3=>(za1 FUEL a0 a1 a2 a3).bind fun e=>Sum.elim (fun(we:Zt5)=>ztv we.1 we.2 (fun a0 a1=>some (a0,a1))) (fun(we:Unit)=>ztw (fun a0 a1=>some (a0,a1))) e)
def zjv{R:Type}(a:Zt24)(b:Int)(c:Int→Zt22→Int→Int→Zt20→Option R):Option R:=
 c b a.2.1 ((List.length a.2.1):Int) 0 (0,0,0,bs [],[],())
def ztq{R:Type}(a:Int)(b:Zt22)(c d:Int)(e:Zt20)(f:Bool→Zt20→Option R)(g:Int→Zt22→Int→Int→Zt20→Option R)(h:Zt20→Option R):Option R:=
 bif d<c then zd d (List.length b) (bif(List.getD b d.toNat (0,0,0,bs [],[],())).2.1=a then f true (List.getD b d.toNat (0,0,0,bs [],[],())) else g a b c (zW zI (d+1)) e) else h e
def ztr{R:Type}(a:Bool)(b:Zt20)(c:Zt20→Bool→Option R):Option R:=
 c b a
def zts{R:Type}(a:Zt20)(b:Zt20→Bool→Option R):Option R:=
 b (0,0,0,bs [],[],()) false
def za0:Nat→Int→Zt22→Int→Int→Zt20→Option (Sum (Bool×Zt20) Zt20)
 |0,_,_,_,_,_=>none
 |k+1,v0,v1,v2,v3,v4=>ztq v0 v1 v2 v3 v4 (fun a0 a1=>some (.inl (a0,a1))) (fun a0 a1 a2 a3 a4=>za0 k a0 a1 a2 a3 a4) (fun a0=>some (.inr a0))
def Q243(a:Zt24)(b:Int):Option (Zt20×Bool):=
 zjv a b (fun a0 a1 a2 a3 a4=>(za0 FUEL a0 a1 a2 a3 a4).bind fun e=>Sum.elim (fun(we:(Bool×Zt20))=>ztr we.1 we.2 (fun a0 a1=>some (a0,a1))) (fun(we:Zt20)=>zts we (fun a0 a1=>some (a0,a1))) e)
def zjs{R:Type}(a:Zt24)(b c:Zt18)(d:Zt17)(e:Zt17→Zt6→Option R)(f:Zt22→Int→Int→Zt24→Zt18→Zt17→Zt17→Zt6→Zt17→Option R):Option R:=
 (Q241 a b c).bind fun r1=>bif !decide (r1.1=0) then e (bs [],[],()) (1,(-1:Int),()) else(Q172 b d).bind fun r2=>bif !decide (r2.1=0) then e (bs [],[],()) r2 else(Q244 a d.1).bind fun r3=>bif !r3.2 then e (bs [],[],()) (7,0,()) else f a.2.1 ((List.length a.2.1):Int) 0 a c d (bs [],[],()) (0,0,()) (r3.1,[],())
def ztl{R:Type}(a:Zt22)(b c:Int)(d:Zt24)(e:Zt18)(f g:Zt17)(h:Zt6)(i:Zt17)(j:Zt22→Int→Int→Zt24→Zt18→Zt17→Zt17→Zt6→Zt17→Option R)(l:Zt24→Zt18→Zt17→Zt17→Zt6→Zt17→Option R):Option R:=
 bif c<b then zd c (List.length a) (bif(List.getD a c.toNat (0,0,0,bs [],[],())).1=3 then(Q175 i (List.getD a c.toNat (0,0,0,bs [],[],())).2.2.1 (List.getD a c.toNat (0,0,0,bs [],[],())).2.2.2.1).bind fun r4=>j a b (zW zI (c+1)) d e f g h r4 else j a b (zW zI (c+1)) d e f g h i) else l d e f g h i
def zjt{R:Type}(a:Zt24)(b:Zt18)(c d:Zt17)(e:Zt6)(f:Zt17)(g:Zt12→Int→Int→Zt24→Zt18→Zt17→Zt6→Zt17→Option R):Option R:=
 g c.2.1 ((List.length c.2.1):Int) 0 a b d e f
def ztm{R:Type}(a:Zt12)(b c:Int)(d:Zt24)(e:Zt18)(f:Zt17)(g:Zt6)(h:Zt17)(i:Zt17→Zt6→Zt17→Option R)(j:Zt12→Int→Int→Zt24→Zt18→Zt17→Zt6→Zt17→Option R)(l:Zt17→Zt6→Zt17→Option R):Option R:=
 bif c<b then zd c (List.length a) ((Q243 d (List.getD a c.toNat (0,bs [],())).1).bind fun r5=>bif !r5.2 then i (bs [],[],()) (9,(List.getD a c.toNat (0,bs [],())).1,()) h else(Q205 r5.1 e (List.getD a c.toNat (0,bs [],())).2.1).bind fun r6=>bif !decide (r6.2=0) then i (bs [],[],()) (r6.2,(List.getD a c.toNat (0,bs [],())).1,()) h else bif !decide (r6.1.1=0) then(Q175 h r6.1.1 r6.1.2.1).bind fun r7=>j a b (zW zI (c+1)) d e f g r7 else j a b (zW zI (c+1)) d e f g h) else l f g h
def ztn{R:Type}(a:Zt17)(b:Zt6)(c:Zt17)(d:Zt17→Zt6→Option R):Option R:=
 d a b
def zto{R:Type}(a:Zt17)(b:Zt6)(c:Zt17)(d:Zt17→Zt6→Option R):Option R:=
 d c (0,0,())
def z9y:Nat→Zt22→Int→Int→Zt24→Zt18→Zt17→Zt17→Zt6→Zt17→Option (Zt24×Zt18×Zt17×Zt17×Zt6×Zt17)
 |0,_,_,_,_,_,_,_,_,_=>none
 |k+1,v0,v1,v2,v3,v4,v5,v6,v7,v8=>ztl v0 v1 v2 v3 v4 v5 v6 v7 v8 (fun a0 a1 a2 a3 a4 a5 a6 a7 a8=>z9y k a0 a1 a2 a3 a4 a5 a6 a7 a8) (fun a0 a1 a2 a3 a4 a5=>some (a0,a1,a2,a3,a4,a5))
def z9z:Nat→Zt12→Int→Int→Zt24→Zt18→Zt17→Zt6→Zt17→Option (Sum Zt23 Zt23)
 |0,_,_,_,_,_,_,_,_=>none
 |k+1,v0,v1,v2,v3,v4,v5,v6,v7=>ztm v0 v1 v2 v3 v4 v5 v6 v7 (fun a0 a1 a2=>some (.inl (a0,a1,a2))) (fun a0 a1 a2 a3 a4 a5 a6 a7=>z9z k a0 a1 a2 a3 a4 a5 a6 a7) (fun a0 a1 a2=>some (.inr (a0,a1,a2)))
def Q242(a:Zt24)(b c:Zt18)(d:Zt17):Option (Zt17×Zt6):=
 zjs a b c d (fun a0 a1=>some (a0,a1)) (fun a0 a1 a2 a3 a4 a5 a6 a7 a8=>(z9y FUEL a0 a1 a2 a3 a4 a5 a6 a7 a8).bind fun e=>zjt e.1 e.2.1 e.2.2.1 e.2.2.2.1 e.2.2.2.2.1 e.2.2.2.2.2 (fun a0 a1 a2 a3 a4 a5 a6 a7=>(z9z FUEL a0 a1 a2 a3 a4 a5 a6 a7).bind fun e=>Sum.elim (fun(we:Zt23)=>ztn we.1 we.2.1 we.2.2 (fun a0 a1=>some (a0,a1))) (fun(we:Zt23)=>zto we.1 we.2.1 we.2.2 (fun a0 a1=>some (a0,a1))) e))
end Groat

namespace Groat
open Go.IntKind renaming wrap→zW,i64→zI,u8→zU
open Go Go.Ref
def zh9{R:Type}(a:Zt20)(b c:Zt18)(d:Bool→Option R):Option R:=
 (Q211 b a.2.1).bind fun r1=>(Q211 c a.2.2.1).bind fun r2=>bif a.1=1 then(Q220 r1.1 r2.1).bind fun r3=>bif r3 then(Q220 r2.1 r1.1).bind fun r4=>d r4 else d false else bif a.1=4 then d (decide (r1.1.2.2.2.1≤r2.1.2.2.2.1)) else bif a.1=5 then(Q21 a.2.2.2.2.1).bind fun r5=>d r5 else d false
def Q165(a:Zt20)(b c:Zt18):Option Bool:=
 zh9 a b c (fun a0=>some a0)
def zh6{R:Type}(a:Zt24)(b c:Zt18)(d:Bool→Option R)(e:Zt22→Int→Int→Zt18→Zt18→Option R):Option R:=
 (Q241 a b c).bind fun r1=>bif !decide (r1.1=0) then d false else(Q21 a.1).bind fun r2=>bif !r2 then d false else e a.2.1 ((List.length a.2.1):Int) 0 b c
def zrf{R:Type}(a:Zt22)(b c:Int)(d e:Zt18)(f:Bool→Option R)(g:Zt22→Int→Int→Zt18→Zt18→Option R)(h:Option R):Option R:=
 bif c<b then zd c (List.length a) ((Q165 (List.getD a c.toNat (0,0,0,bs [],[],())) d e).bind fun r3=>bif !r3 then f false else g a b (zW zI (c+1)) d e) else h
def zrg{R:Type}(a:Bool)(b:Bool→Option R):Option R:=
 b a
def zrh{R:Type}(a:Bool→Option R):Option R:=
 a true
def z9d:Nat→Zt22→Int→Int→Zt18→Zt18→Option (Sum Bool Unit)
 |0,_,_,_,_,_=>none
 |k+1,v0,v1,v2,v3,v4=>zrf v0 v1 v2 v3 v4 (fun a0=>some (.inl a0)) (fun a0 a1 a2 a3 a4=>z9d k a0 a1 a2 a3 a4) (some (.inr ()))
def Q163(a:Zt24)(b c:Zt18):Option Bool:=
 zh6 a b c (fun a0=>some a0) (fun a0 a1 a2 a3 a4=>(z9d FUEL a0 a1 a2 a3 a4).bind fun e=>Sum.elim (fun(we:Bool)=>zrg we (fun a0=>some a0)) (fun(we:Unit)=>zrh (fun a0=>some a0)) e)
def zh8{R:Type}(a:Zt24)(b:Zt22→Int→Int→Zt24→Zt24→Option R):Option R:=
 (Q23 a.1).bind fun r1=>b a.2.1 ((List.length a.2.1):Int) 0 ([],[],()) (r1,[],())
def zri{R:Type}(a:Zt22)(b c:Int)(d e:Zt24)(f:Zt22→Int→Int→Zt24→Zt24→Option R)(g:Zt24→Zt24→Option R):Option R:=
 bif c<b then zd c (List.length a) ((Q23 (List.getD a c.toNat (0,0,0,bs [],[],())).2.2.2.2.1).bind fun r2=>bif(List.length e.2.1+List.length ([((List.getD a c.toNat ((0:Int),(0:Int),(0:Int),bs [],([]:List Zt11),())).1,(List.getD a c.toNat ((0:Int),(0:Int),(0:Int),bs [],([]:List Zt11),())).2.2.1,(List.getD a c.toNat ((0:Int),(0:Int),(0:Int),bs [],([]:List Zt11),())).2.1,(List.getD a c.toNat ((0:Int),(0:Int),(0:Int),bs [],([]:List Zt11),())).2.2.2.1,r2,())]:List Zt20))*64≤140737488355328 then f a b (zW zI (c+1)) d (e.1,e.2.1++([((List.getD a c.toNat (0,0,0,bs [],[],())).1,(List.getD a c.toNat (0,0,0,bs [],[],())).2.2.1,(List.getD a c.toNat (0,0,0,bs [],[],())).2.1,(List.getD a c.toNat (0,0,0,bs [],[],())).2.2.2.1,r2,())]:List Zt20),()) else none) else g d e
def zrj{R:Type}(a b:Zt24)(c:Zt24→Option R):Option R:=
 c b
def z9e:Nat→Zt22→Int→Int→Zt24→Zt24→Option (Zt24×Zt24)
 |0,_,_,_,_,_=>none
 |k+1,v0,v1,v2,v3,v4=>zri v0 v1 v2 v3 v4 (fun a0 a1 a2 a3 a4=>z9e k a0 a1 a2 a3 a4) (fun a0 a1=>some (a0,a1))
def Q164(a:Zt24):Option Zt24:=
 zh8 a (fun a0 a1 a2 a3 a4=>(z9e FUEL a0 a1 a2 a3 a4).bind fun e=>zrj e.1 e.2 (fun a0=>some a0))
end Groat

namespace Groat
open Go.IntKind renaming wrap→zW,i64→zI,u8→zU
open Go Go.Ref
def zit{R:Type}(a:(List Int))(b:Int)(c:(List Int)→Int→Int→Int→Option R):Option R:=
 c a b ((List.length a):Int) 0
def zsz{R:Type}(a:(List Int))(b c d:Int)(e:Int→Option R)(f:(List Int)→Int→Int→Int→Option R)(g:Option R):Option R:=
 bif d<c then zd d (List.length a) (bif b=List.getD a d.toNat 0 then e d else f a b c (zW zI (d+1))) else g
def zt0{R:Type}(a:Int)(b:Int→Option R):Option R:=
 b a
def zt1{R:Type}(a:Int→Option R):Option R:=
 a (-1:Int)
def z9u:Nat→(List Int)→Int→Int→Int→Option (Sum Int Unit)
 |0,_,_,_,_=>none
 |k+1,v0,v1,v2,v3=>zsz v0 v1 v2 v3 (fun a0=>some (.inl a0)) (fun a0 a1 a2 a3=>z9u k a0 a1 a2 a3) (some (.inr ()))
def Q217(a:(List Int))(b:Int):Option Int:=
 zit a b (fun a0 a1 a2 a3=>(z9u FUEL a0 a1 a2 a3).bind fun e=>Sum.elim (fun(we:Int)=>zt0 we (fun a0=>some a0)) (fun(we:Unit)=>zt1 (fun a0=>some a0)) e)
def zin{R:Type}(a:(List Int))(b:Int)(c:Bool→Option R):Option R:=
 (Q217 a b).bind fun r1=>c (decide (0≤r1))
def Q214(a:(List Int))(b:Int):Option Bool:=
 zin a b (fun a0=>some a0)
end Groat

namespace Groat
open Go.IntKind renaming wrap→zW,i64→zI,u8→zU
open Go Go.Ref
def zi6{R:Type}(a:Zt26)(b:Int)(c:Int→Option R):Option R:=
 zd b (List.length a.2.2.1) ((Q211 a.1 (List.getD a.2.2.1 b.toNat (0:Int))).bind fun r1=>bif !r1.2 then c 9 else bif List.getD a.2.2.1 b.toNat 0=39 then c 1 else bif 0≤b then bif b≤(((List.length a.2.2.1):Nat):Int) then(Q214 (List.drop 0 (List.take b.toNat a.2.2.1)) (List.getD a.2.2.1 b.toNat (0:Int))).bind fun r2=>bif r2 then c 10 else c 0 else none else none)
def Q192(a:Zt26)(b:Int):Option Int:=
 zi6 a b (fun a0=>some a0)
def zi5{R:Type}(a b:Zt9)(c:Bool→Zt9→Option R):Option R:=
 c (decide (a.1=b.1)) b
def Q191(a b:Zt9):Option (Bool×Zt9):=
 zi5 a b (fun a0 a1=>some (a0,a1))
def zip{R:Type}(a:Zt12)(b:Zt9)(c:Zt12→Int→Int→Zt9→Option R):Option R:=
 c a ((List.length a):Int) 0 b
def zsr{R:Type}(a:Zt12)(b c:Int)(d:Zt9)(e:Int→Zt9→Option R)(f:Zt12→Int→Int→Zt9→Option R)(g:Zt9→Option R):Option R:=
 bif c<b then zd c (List.length a) ((Q191 (List.getD a c.toNat (0,bs [],())) d).bind fun r1=>bif r1.1 then e c r1.2 else f a b (zW zI (c+1)) r1.2) else g d
def zss{R:Type}(a:Int)(b:Zt9)(c:Int→Zt9→Option R):Option R:=
 c a b
def zst{R:Type}(a:Zt9)(b:Int→Zt9→Option R):Option R:=
 b (-1:Int) a
def z9s:Nat→Zt12→Int→Int→Zt9→Option (Sum (Int×Zt9) Zt9)
 |0,_,_,_,_=>none
 |k+1,v0,v1,v2,v3=>zsr v0 v1 v2 v3 (fun a0 a1=>some (.inl (a0,a1))) (fun a0 a1 a2 a3=>z9s k a0 a1 a2 a3) (fun a0=>some (.inr a0))
def Q215(a:Zt12)(b:Zt9):Option (Int×Zt9):=
 zip a b (fun a0 a1 a2 a3=>(z9s FUEL a0 a1 a2 a3).bind fun e=>Sum.elim (fun(we:(Int×Zt9))=>zss we.1 we.2 (fun a0 a1=>some (a0,a1))) (fun(we:Zt9)=>zst we (fun a0 a1=>some (a0,a1))) e)
def zim{R:Type}(a:Zt12)(b:Zt9)(c:Bool→Zt9→Option R):Option R:=
 (Q215 a b).bind fun r1=>c (decide (0≤r1.1)) r1.2
def Q213(a:Zt12)(b:Zt9):Option (Bool×Zt9):=
 zim a b (fun a0 a1=>some (a0,a1))
def zi4{R:Type}(a:Zt26)(b:Int)(c:Zt13)(d:Int→Option R):Option R:=
 zd b (List.length a.2.2.2.1) (bif(List.getD a.2.2.2.1 b.toNat (0,bs [],())).1<0 then d 1 else bif 16<(List.getD a.2.2.2.1 b.toNat (0,bs [],())).1 then d 1 else bif 0≤b then bif b≤(((List.length a.2.2.2.1):Nat):Int) then(Q213 (List.drop 0 (List.take b.toNat a.2.2.2.1)) (List.getD a.2.2.2.1 b.toNat (0,bs [],()))).bind fun r1=>bif r1.1 then d 10 else(Q219 c r1.2.2.1).bind fun r2=>d r2 else none else none)
def Q190(a:Zt26)(b:Int)(c:Zt13):Option Int:=
 zi4 a b c (fun a0=>some a0)
def zhx{R:Type}(a:Zt26)(b:Int→Int→Int→Option R)(c:Int→Int→Zt26→Zt13→Option R):Option R:=
 (Q210 a.1).bind fun r1=>bif !decide (r1.1=0) then b 1 1 0 else(Q211 a.1 (39:Int)).bind fun r2=>bif !r2.2 then b 9 1 1 else c ((List.length a.2.2.1):Int) 0 a r2.1
def z9m{R:Type}(a b:Int)(c:Zt26)(d:Zt13)(e:Int→Int→Int→Zt26→Zt13→Option R)(f:Int→Int→Zt26→Zt13→Option R)(g:Zt26→Zt13→Option R):Option R:=
 bif b<a then(Q192 c b).bind fun r3=>bif !decide (r3=0) then e r3 2 b c d else f a (zW zI (b+1)) c d else g c d
def zs4{R:Type}(a b c:Int)(d:Zt26)(e:Zt13)(f:Int→Int→Int→Option R):Option R:=
 f a b c
def zhy{R:Type}(a:Zt26)(b:Zt13)(c:Bool→Zt12→Int→Int→Zt26→Zt13→Option R):Option R:=
 c false a.2.2.2.1 ((List.length a.2.2.2.1):Int) 0 a b
def z9n{R:Type}(a:Bool)(b:Zt12)(c d:Int)(e:Zt26)(f:Zt13)(g:Int→Int→Int→Bool→Zt26→Option R)(h:Bool→Zt12→Int→Int→Zt26→Zt13→Option R)(i:Bool→Zt26→Option R):Option R:=
 bif d<c then zd d (List.length b) ((Q190 e d f).bind fun r4=>bif !decide (r4=0) then g r4 3 d a e else bif a then h true b c (zW zI (d+1)) e f else h (decide ((List.getD b d.toNat (0,bs [],())).1=0)) b c (zW zI (d+1)) e f) else i a e
def zs5{R:Type}(a b c:Int)(d:Bool)(e:Zt26)(f:Int→Int→Int→Option R):Option R:=
 f a b c
def zhz{R:Type}(a:Bool)(b:Zt26)(c:Int→Int→Int→Option R):Option R:=
 bif !a then c 15 3 ((List.length b.2.2.2.1):Int) else c 0 0 0
def z5x:Nat→Int→Int→Zt26→Zt13→Option (Sum (Int×Int×Int×Zt26×Zt13) (Zt26×Zt13))
 |0,_,_,_,_=>none
 |k+1,v0,v1,v2,v3=>z9m v0 v1 v2 v3 (fun a0 a1 a2 a3 a4=>some (.inl (a0,a1,a2,a3,a4))) (fun a0 a1 a2 a3=>z5x k a0 a1 a2 a3) (fun a0 a1=>some (.inr (a0,a1)))
def z5y:Nat→Bool→Zt12→Int→Int→Zt26→Zt13→Option (Sum (Int×Int×Int×Bool×Zt26) (Bool×Zt26))
 |0,_,_,_,_,_,_=>none
 |k+1,v0,v1,v2,v3,v4,v5=>z9n v0 v1 v2 v3 v4 v5 (fun a0 a1 a2 a3 a4=>some (.inl (a0,a1,a2,a3,a4))) (fun a0 a1 a2 a3 a4 a5=>z5y k a0 a1 a2 a3 a4 a5) (fun a0 a1=>some (.inr (a0,a1)))
def Q188(a:Zt26):Option Zt1:=
 zhx a (fun a0 a1 a2=>some (a0,a1,a2)) (fun a0 a1 a2 a3=>(z5x FUEL a0 a1 a2 a3).bind fun e=>Sum.elim (fun(we:(Int×Int×Int×Zt26×Zt13))=>zs4 we.1 we.2.1 we.2.2.1 we.2.2.2.1 we.2.2.2.2 (fun a0 a1 a2=>some (a0,a1,a2))) (fun(we:(Zt26×Zt13))=>zhy we.1 we.2 (fun a0 a1 a2 a3 a4 a5=>(z5y FUEL a0 a1 a2 a3 a4 a5).bind fun e=>Sum.elim (fun(we:(Int×Int×Int×Bool×Zt26))=>zs5 we.1 we.2.1 we.2.2.1 we.2.2.2.1 we.2.2.2.2 (fun a0 a1 a2=>some (a0,a1,a2))) (fun(we:(Bool×Zt26))=>zhz we.1 we.2 (fun a0 a1 a2=>some (a0,a1,a2))) e)) e)
def zi2{R:Type}(a:Zt26)(b:Int)(c:(List Int)→Int→Int→Zt26→Option R):Option R:=
 c ([b,0]:List Int) ((List.length ([b,(0:Int)]:List Int)):Int) 0 a
def z9o{R:Type}(a:(List Int))(b c:Int)(d:Zt26)(e:Int→(List Int)→Int→Int→Zt12→Int→Int→Zt26→Option R)(f:Option R):Option R:=
 bif c<b then zd c (List.length a) (e (List.getD a c.toNat 0) a b c d.2.2.2.1 ((List.length d.2.2.2.1):Int) 0 d) else f
def zs8{R:Type}(a:ByteArray→Option R):Option R:=
 a (bs [])
def zs9{R:Type}(a:Int)(b:(List Int))(c d:Int)(e:Zt12)(f g:Int)(h:Zt26)(i:ByteArray→(List Int)→Int→Int→Zt26→Option R)(j:Int→(List Int)→Int→Int→Zt12→Int→Int→Zt26→Option R)(l:(List Int)→Int→Int→Zt26→Option R):Option R:=
 bif g<f then zd g (List.length e) (bif(List.getD e g.toNat (0,bs [],())).1=a then i (List.getD e g.toNat (0,bs [],())).2.1 b c d h else j a b c d e f (zW zI (g+1)) h) else l b c d h
def zsa{R:Type}(a:ByteArray)(b:(List Int))(c d:Int)(e:Zt26)(f:ByteArray→Option R):Option R:=
 f a
def zi3{R:Type}(a:(List Int))(b c:Int)(d:Zt26)(e:(List Int)→Int→Int→Zt26→Option R):Option R:=
 e a b (zW zI (c+1)) d
def zsb{R:Type}(a:ByteArray)(b:ByteArray→Option R):Option R:=
 b a
def z73:Nat→Int→(List Int)→Int→Int→Zt12→Int→Int→Zt26→Option (Sum (ByteArray×(List Int)×Int×Int×Zt26) ((List Int)×Int×Int×Zt26))
 |0,_,_,_,_,_,_,_,_=>none
 |k+1,v0,v1,v2,v3,v4,v5,v6,v7=>zs9 v0 v1 v2 v3 v4 v5 v6 v7 (fun a0 a1 a2 a3 a4=>some (.inl (a0,a1,a2,a3,a4))) (fun a0 a1 a2 a3 a4 a5 a6 a7=>z73 k a0 a1 a2 a3 a4 a5 a6 a7) (fun a0 a1 a2 a3=>some (.inr (a0,a1,a2,a3)))
def z52:Nat→(List Int)→Int→Int→Zt26→Option (Sum Unit ByteArray)
 |0,_,_,_,_=>none
 |k+1,v0,v1,v2,v3=>z9o v0 v1 v2 v3 (fun a0 a1 a2 a3 a4 a5 a6 a7=>(z73 FUEL a0 a1 a2 a3 a4 a5 a6 a7).bind fun e=>Sum.elim (fun(we:(ByteArray×(List Int)×Int×Int×Zt26))=>zsa we.1 we.2.1 we.2.2.1 we.2.2.2.1 we.2.2.2.2 (fun a0=>some (.inr a0))) (fun(we:((List Int)×Int×Int×Zt26))=>zi3 we.1 we.2.1 we.2.2.1 we.2.2.2 (fun a0 a1 a2 a3=>z52 k a0 a1 a2 a3)) e) (some (.inl ()))
def Q189(a:Zt26)(b:Int):Option ByteArray:=
 zi2 a b (fun a0 a1 a2 a3=>(z52 FUEL a0 a1 a2 a3).bind fun e=>Sum.elim (fun(we:Unit)=>zs8 (fun a0=>some a0)) (fun(we:ByteArray)=>zsb we (fun a0=>some a0)) e)
def zht{R:Type}(a:Zt26)(b:Zt17)(c:Zt6)(d:Zt17→Bool→Option R)(e:(List Int)→Int→Int→Zt26→Zt17→Zt6→Zt17→Zt17→Option R):Option R:=
 (Q179 b.1).bind fun r1=>bif !r1.2 then d (bs [],[],()) false else e a.2.2.1 ((List.length a.2.2.1):Int) 0 a b c (bs [],[],()) (r1.1,[],())
def zs1{R:Type}(a:(List Int))(b c:Int)(d:Zt26)(e:Zt17)(f:Zt6)(g h:Zt17)(i:(List Int)→Int→Int→Zt26→Zt17→Zt6→Zt17→Zt17→Option R)(j:Zt26→Zt6→Zt17→Zt17→Option R):Option R:=
 bif c<b then zd c (List.length a) ((Q173 e (List.getD a c.toNat (0:Int))).bind fun r2=>bif r2.2 then(Q175 h (List.getD a c.toNat 0) r2.1).bind fun r3=>i a b (zW zI (c+1)) d e f g r3 else i a b (zW zI (c+1)) d e f g h) else j d f g h
def zhu{R:Type}(a:Zt26)(b:Zt6)(c d:Zt17)(e:Zt17→Bool→Option R):Option R:=
 (Q189 a b.1).bind fun r4=>(Q175 d 39 r4).bind fun r5=>e r5 true
def z9l:Nat→(List Int)→Int→Int→Zt26→Zt17→Zt6→Zt17→Zt17→Option (Zt26×Zt6×Zt17×Zt17)
 |0,_,_,_,_,_,_,_,_=>none
 |k+1,v0,v1,v2,v3,v4,v5,v6,v7=>zs1 v0 v1 v2 v3 v4 v5 v6 v7 (fun a0 a1 a2 a3 a4 a5 a6 a7=>z9l k a0 a1 a2 a3 a4 a5 a6 a7) (fun a0 a1 a2 a3=>some (a0,a1,a2,a3))
def Q187(a:Zt26)(b:Zt17)(c:Zt6):Option (Zt17×Bool):=
 zht a b c (fun a0 a1=>some (a0,a1)) (fun a0 a1 a2 a3 a4 a5 a6 a7=>(z9l FUEL a0 a1 a2 a3 a4 a5 a6 a7).bind fun e=>zhu e.1 e.2.1 e.2.2.1 e.2.2.2 (fun a0 a1=>some (a0,a1)))
end Groat

namespace Groat
open Go.IntKind renaming wrap→zW,i64→zI,u8→zU
open Go Go.Ref
def zj0{R:Type}(a:Zt18)(b:ByteArray)(c:ByteArray→Int→Int→Option R):Option R:=
 bif a.1=2 then(Q2 (4:Int)).bind fun r1=>bif(b.size:Int)<r1 then c (bs []) 0 2 else bif 0≤r1 then bif r1≤(b.size:Int) then bif a.1=2 then(Q0 (b.extract 0 r1.toNat) (4:Int)).bind fun r2=>(Q181 r2.1).bind fun r3=>bif !r3.2 then c (bs []) 0 7 else bif !decide (r3.1=a.2.1) then c (bs []) 0 7 else c r2.1 r1 0 else(Q181 (b.extract 0 r1.toNat)).bind fun r4=>bif !r4.2 then c (bs []) 0 7 else bif !decide (r4.1=a.2.1) then c (bs []) 0 7 else c (b.extract 0 r1.toNat) r1 0 else none else none else bif(b.size:Int)<4 then c (bs []) 0 2 else bif 4≤(b.size:Int) then bif a.1=2 then(Q0 (b.extract 0 ((4:Int)).toNat) (4:Int)).bind fun r5=>(Q181 r5.1).bind fun r6=>bif !r6.2 then c (bs []) 0 7 else bif !decide (r6.1=a.2.1) then c (bs []) 0 7 else c r5.1 4 0 else(Q181 (b.extract 0 ((4:Int)).toNat)).bind fun r7=>bif !r7.2 then c (bs []) 0 7 else bif !decide (r7.1=a.2.1) then c (bs []) 0 7 else c (b.extract 0 ((4:Int)).toNat) 4 0 else none
def Q223(a:Zt18)(b:ByteArray):Option Zt8:=
 zj0 a b (fun a0 a1 a2=>some (a0,a1,a2))
def ziz{R:Type}(a:Zt18)(b:ByteArray)(c:Zt17→Zt6→Option R)(d:ByteArray→Int→Int→Zt18→Zt17→Zt6→Zt17→Zt6→Option R):Option R:=
 (Q210 a).bind fun r1=>bif !decide (r1.1=0) then c (bs [],[],()) (1,(-1:Int),()) else(Q223 a b).bind fun r2=>bif !decide (r2.2.2=0) then c (bs [],[],()) (r2.2.2,0,()) else(Q5 a.1 b r2.2.1).bind fun r3=>bif !decide (r3.2.2=0) then c (r2.1,[],()) (r3.2.2,1,()) else(Q39 r3.1 (0:Int)).bind fun r4=>d b r3.2.1 r4 a (bs [],[],()) (0,0,()) (r2.1,[],()) r3.1
def z9v{R:Type}(a:ByteArray)(b c:Int)(d:Zt18)(e:Zt17)(f:Zt6)(g:Zt17)(h:Zt6)(i:ByteArray→Int→Zt17→Zt6→Zt17→Option R)(j:ByteArray→Int→Int→Zt18→Zt17→Zt6→Zt17→Zt6→Option R)(l:ByteArray→Int→Zt17→Zt6→Zt17→Option R):Option R:=
 bif !decide (c=0) then(Q211 d c).bind fun r5=>bif !r5.2 then i a b g (9,c,()) g else(Q11 d.1 r5.1 a b).bind fun r6=>bif !decide (r6.2.2=0) then i a b g (r6.2.2,c,()) g else bif(List.length g.2.1+List.length ([(c,r6.1,())]:List Zt9))*24≤140737488355328 then(Q39 h c).bind fun r7=>j a r6.2.1 r7 d e f (g.1,g.2.1++([(c,r6.1,())]:List Zt9),()) h else none else l a b e f g
def zt3{R:Type}(a:ByteArray)(b:Int)(c:Zt17)(d:Zt6)(e:Zt17)(f:Zt17→Zt6→Option R):Option R:=
 f c d
def zt4{R:Type}(a:ByteArray)(b:Int)(c:Zt17)(d:Zt6)(e:Zt17)(f:Zt17→Zt6→Option R):Option R:=
 bif b<(a.size:Int) then f e (12,129,()) else f e (0,0,())
def z60:Nat→ByteArray→Int→Int→Zt18→Zt17→Zt6→Zt17→Zt6→Option (Sum Zt25 Zt25)
 |0,_,_,_,_,_,_,_,_=>none
 |k+1,v0,v1,v2,v3,v4,v5,v6,v7=>z9v v0 v1 v2 v3 v4 v5 v6 v7 (fun a0 a1 a2 a3 a4=>some (.inl (a0,a1,a2,a3,a4))) (fun a0 a1 a2 a3 a4 a5 a6 a7=>z60 k a0 a1 a2 a3 a4 a5 a6 a7) (fun a0 a1 a2 a3 a4=>some (.inr (a0,a1,a2,a3,a4)))
def Q222(a:Zt18)(b:ByteArray):Option (Zt17×Zt6):=
 ziz a b (fun a0 a1=>some (a0,a1)) (fun a0 a1 a2 a3 a4 a5 a6 a7=>(z60 FUEL a0 a1 a2 a3 a4 a5 a6 a7).bind fun e=>Sum.elim (fun(we:Zt25)=>zt3 we.1 we.2.1 we.2.2.1 we.2.2.2.1 we.2.2.2.2 (fun a0 a1=>some (a0,a1))) (fun(we:Zt25)=>zt4 we.1 we.2.1 we.2.2.1 we.2.2.2.1 we.2.2.2.2 (fun a0 a1=>some (a0,a1))) e)
end Groat

namespace Groat
open Go.IntKind renaming wrap→zW,i64→zI,u8→zU
open Go Go.Ref
def zji{R:Type}(a:Int)(b:ByteArray)(c:ByteArray→Bool→Option R):Option R:=
 (Q180 b).bind fun r1=>bif !r1 then c (bs []) false else bif a=1 then c b true else bif a=2 then(Q1 b).bind fun r2=>c r2.1 r2.2 else c (bs []) false
def Q240(a:Int)(b:ByteArray):Option Zt5:=
 zji a b (fun a0 a1=>some (a0,a1))
def zjh{R:Type}(a b:ByteArray)(c:ByteArray→Option R):Option R:=
 (z1t b a).bind fun r1=>c r1.2
def Q239(a b:ByteArray):Option ByteArray:=
 zjh a b (fun a0=>some a0)
def zjg{R:Type}(a:Zt18)(b:Zt17)(c:ByteArray→Zt6→Option R)(d:Zt12→Int→Int→Zt18→Zt6→ByteArray→Option R):Option R:=
 (Q172 a b).bind fun r1=>bif !decide (r1.1=0) then c (bs []) r1 else(Q240 a.1 b.1).bind fun r2=>(Q239 r2.1 (bs [])).bind fun r3=>(Q174 b).bind fun r4=>(Q6 a.1 r4).bind fun r5=>(Q239 r5.1 r3).bind fun r6=>d b.2.1 ((List.length b.2.1):Int) 0 a (0,0,()) r6
def zt9{R:Type}(a:Zt12)(b c:Int)(d:Zt18)(e:Zt6)(f:ByteArray)(g:Zt12→Int→Int→Zt18→Zt6→ByteArray→Option R)(h:Zt6→ByteArray→Option R):Option R:=
 bif c<b then zd c (List.length a) ((Q211 d (List.getD a c.toNat (0,bs [],())).1).bind fun r7=>(Q12 d.1 r7.1 (List.getD a c.toNat (0,bs [],())).2.1).bind fun r8=>(Q239 r8.1 f).bind fun r9=>g a b (zW zI (c+1)) d e r9) else h e f
def zta{R:Type}(a:Zt6)(b:ByteArray)(c:ByteArray→Zt6→Option R):Option R:=
 (z4t b).bind fun r10=>c r10.1 (0,0,())
def z9w:Nat→Zt12→Int→Int→Zt18→Zt6→ByteArray→Option (Zt6×ByteArray)
 |0,_,_,_,_,_,_=>none
 |k+1,v0,v1,v2,v3,v4,v5=>zt9 v0 v1 v2 v3 v4 v5 (fun a0 a1 a2 a3 a4 a5=>z9w k a0 a1 a2 a3 a4 a5) (fun a0 a1=>some (a0,a1))
def Q238(a:Zt18)(b:Zt17):Option (ByteArray×Zt6):=
 zjg a b (fun a0 a1=>some (a0,a1)) (fun a0 a1 a2 a3 a4 a5=>(z9w FUEL a0 a1 a2 a3 a4 a5).bind fun e=>zta e.1 e.2 (fun a0 a1=>some (a0,a1)))
end Groat

namespace Groat
open Go.IntKind renaming wrap→zW,i64→zI,u8→zU
open Go Go.Ref
end Groat

namespace Groat
open Go.IntKind renaming wrap→zW,i64→zI,u8→zU
open Go Go.Ref
def zi8{R:Type}(a:Zt29)(b:Int→Int→Int→Option R)(c:Zt27→Int→Zt29→Option R):Option R:=
 bif a.2.1<1 then b 5 2 0 else bif 65535<a.2.1 then b 5 2 0 else c a.1 0 a
def z74{R:Type}(a:Zt27)(b:Int)(c:Zt29)(d:Int→Int→Int→Option R)(e:Zt27→Int→Zt29→Option R)(f:Option R):Option R:=
 bif b<2 then zd b 2 ((Q188 (List.getD a b.toNat ((0,0,[],()),([],[],()),[],[],()))).bind fun r1=>bif !decide (r1.1=0) then d r1.1 b 1 else zd (zW zI (1-b)) 2 ((Q241 (List.getD a b.toNat ((0,0,[],()),([],[],()),[],[],())).2.1 (List.getD a b.toNat ((0,0,[],()),([],[],()),[],[],())).1 (List.getD c.1 (zW zI (1-b)).toNat ((0,0,[],()),([],[],()),[],[],())).1).bind fun r2=>bif !decide (r2.1=0) then d r2.1 b 2 else e a (zW zI (b+1)) c)) else f
def zsd{R:Type}(a b c:Int)(d:Int→Int→Int→Option R):Option R:=
 d a b c
def zse{R:Type}(a:Int→Int→Int→Option R):Option R:=
 a 0 0 0
def z5z:Nat→Zt27→Int→Zt29→Option (Sum Zt1 Unit)
 |0,_,_,_=>none
 |k+1,v0,v1,v2=>z74 v0 v1 v2 (fun a0 a1 a2=>some (.inl (a0,a1,a2))) (fun a0 a1 a2=>z5z k a0 a1 a2) (some (.inr ()))
def Q194(a:Zt29):Option Zt1:=
 zi8 a (fun a0 a1 a2=>some (a0,a1,a2)) (fun a0 a1 a2=>(z5z FUEL a0 a1 a2).bind fun e=>Sum.elim (fun(we:Zt1)=>zsd we.1 we.2.1 we.2.2 (fun a0 a1 a2=>some (a0,a1,a2))) (fun(we:Unit)=>zse (fun a0 a1 a2=>some (a0,a1,a2))) e)
def zia{R:Type}(a:Zt17)(b:Zt6)(c:Zt26)(d:Zt29)(e:Int→ByteArray→Option R):Option R:=
 (Q187 c a b).bind fun r1=>bif !r1.2 then e 3 (bs []) else(Q238 c.1 r1.1).bind fun r2=>bif r2.1=bs [] then e 3 (bs []) else bif d.2.1<(r2.1.size:Int) then e 3 (bs []) else e 2 r2.1
def Q198(a:Zt17)(b:Zt6)(c:Zt26)(d:Zt29):Option Zt4:=
 zia a b c d (fun a0 a1=>some (a0,a1))
def zi9{R:Type}(a:Zt29)(b:Int)(c:ByteArray)(d:Int→ByteArray→Option R):Option R:=
 (Q194 a).bind fun r1=>bif !decide (r1.1=0) then d 0 (bs []) else bif b<0 then d 0 (bs []) else bif 1<b then d 0 (bs []) else zd b 2 (zd (zW zI (1-b)) 2 ((Q222 (List.getD a.1 b.toNat ((0,0,[],()),([],[],()),[],[],())).1 c).bind fun r2=>bif !decide (r2.2.1=0) then(Q198 r2.1 r2.2 (List.getD a.1 b.toNat ((0,0,[],()),([],[],()),[],[],())) a).bind fun r3=>d r3.1 r3.2 else(Q242 (List.getD a.1 b.toNat ((0,0,[],()),([],[],()),[],[],())).2.1 (List.getD a.1 b.toNat ((0,0,[],()),([],[],()),[],[],())).1 (List.getD a.1 (zW zI (1-b)).toNat ((0,0,[],()),([],[],()),[],[],())).1 r2.1).bind fun r4=>bif !decide (r4.2.1=0) then(Q198 r2.1 r4.2 (List.getD a.1 b.toNat ((0,0,[],()),([],[],()),[],[],())) a).bind fun r5=>d r5.1 r5.2 else(Q238 (List.getD a.1 (zW zI (1-b)).toNat ((0,0,[],()),([],[],()),[],[],())).1 r4.1).bind fun r6=>bif a.2.1<(r6.1.size:Int) then(Q198 r2.1 (5,129,()) (List.getD a.1 b.toNat ((0,0,[],()),([],[],()),[],[],())) a).bind fun r7=>d r7.1 r7.2 else d 1 r6.1))
def Q197(a:Zt29)(b:Int)(c:ByteArray):Option Zt4:=
 zi9 a b c (fun a0 a1=>some (a0,a1))
def zsf{R:Type}(a:Zt29)(b:Zt29→Option R):Option R:=
 zd 1 2 (zd 0 2 (zd 0 2 (zd 1 2 (b (List.set (List.set a.1 ((0:Int)).toNat (List.getD a.1 ((1:Int)).toNat ((0,0,[],()),([],[],()),[],[],()))) ((1:Int)).toNat (List.getD a.1 ((0:Int)).toNat ((0,0,[],()),([],[],()),[],[],())),a.2.1,())))))
def Q196(a:Zt29):Option Zt29:=
 zsf a (fun a0=>some a0)
end Groat

namespace Groat
open Go.IntKind renaming wrap→zW,i64→zI,u8→zU
open Go Go.Ref
def zy1{R:Type}(a:Bool→Option R):Option R:=
 Q145.bind fun r1=>(Q197 r1 0 (bs [48,56,48,48,48,48,50,48,48,48,48,48,48,48,48,48,48,48,48,48,48,48,48,48,48,49])).bind fun r2=>(Q197 r1 0 (bs [48,56,48,48,48,48,50,48,48,48,48,48,48,48,48,48,48,48,48,48,48,48,48,48,48])).bind fun r3=>(Q197 r1 0 (bs [48,56,49,48,120])).bind fun r4=>(Q194 r1).bind fun r5=>bif r2.1=1 then bif r2.2=bs [24,4,0,32,0,64,0,0,0,0,0,0,1,89,153] then bif r3.1=2 then bif r3.2=bs [48,56,49,48,48,48,48,48,48,48,48,48,48,50,48,48,48,48,48,48,51,48] then bif r4.1=3 then bif r4.2=bs [] then bif r5.1=0 then bif r5.2.1=0 then a (decide (r5.2.2=0)) else a false else a false else a false else a false else a false else a false else a false else a false
def Q61:Option Bool:=
 zy1 (fun a0=>some a0)
def zoa{R:Type}(a:Zt29)(b:ByteArray)(c:Bool→Option R):Option R:=
 Q61.bind fun r1=>bif !r1 then Q61.bind fun r2=>c r2 else(Q148 a).bind fun r3=>bif r3 then Q61.bind fun r4=>c r4 else bif 3000<(b.size:Int) then Q61.bind fun r5=>c r5 else(Q147 a).bind fun r6=>(Q196 r6).bind fun r7=>(Q196 r7).bind fun r8=>(Q152 r8 a).bind fun r9=>bif !r9 then c false else zd 0 2 (zd 1 2 ((Q163 (List.getD a.1 ((0:Int)).toNat ((0,0,[],()),([],[],()),[],[],())).2.1 (List.getD a.1 ((0:Int)).toNat ((0,0,[],()),([],[],()),[],[],())).1 (List.getD a.1 ((1:Int)).toNat ((0,0,[],()),([],[],()),[],[],())).1).bind fun r10=>bif !r10 then c true else(Q147 a).bind fun r11=>(Q164 (List.getD a.1 ((0:Int)).toNat ((0,0,[],()),([],[],()),[],[],())).2.1).bind fun r12=>zd 1 2 ((Q197 (List.set r11.1 ((1:Int)).toNat ((List.getD r11.1 ((1:Int)).toNat ((0,0,[],()),([],[],()),[],[],())).1,r12,(List.getD r11.1 ((1:Int)).toNat ((0,0,[],()),([],[],()),[],[],())).2.2.1,(List.getD r11.1 ((1:Int)).toNat ((0,0,[],()),([],[],()),[],[],())).2.2.2.1,()),r11.2.1,()) 0 b).bind fun r13=>bif !decide (r13.1=1) then c true else bif r11.2.1<(b.size:Int) then c true else(Q196 (List.set r11.1 ((1:Int)).toNat ((List.getD r11.1 ((1:Int)).toNat ((0,0,[],()),([],[],()),[],[],())).1,r12,(List.getD r11.1 ((1:Int)).toNat ((0,0,[],()),([],[],()),[],[],())).2.2.1,(List.getD r11.1 ((1:Int)).toNat ((0,0,[],()),([],[],()),[],[],())).2.2.2.1,()),r11.2.1,())).bind fun r14=>(Q197 r14 0 r13.2).bind fun r15=>bif r15.1=1 then c (decide (r15.2=b)) else c false)))
def Q58(a:Zt29)(b:ByteArray):Option Bool:=
 zoa a b (fun a0=>some a0)
end Groat

namespace Groat
open Go.IntKind renaming wrap→zW,i64→zI,u8→zU
theorem zT{p:Prop}[Decidable p](h:p):decide p=true:=_root_.decide_eq_true h
theorem zF{p:Prop}[Decidable p](h:¬p):decide p=false:=_root_.decide_eq_false h
theorem zC{α:Type}{a b:α}:(bif true then a else b)=a:=rfl
theorem zD{α:Type}{a b:α}:(bif false then a else b)=b:=rfl
open Go Go.Ref
theorem z14:FUEL=18446744073709551616:=by unfold FUEL;rfl
theorem zh:maxLen=9223372036854775807:=rfl
theorem zi{x:Int}(h1: -9223372036854775808≤x)(h2:x≤9223372036854775807):zW zI x=x:=z10k h1 h2
theorem z4k{n:Nat}(h:n≤9223372036854775807):zW zI (n:Int)=n:=z10k (by omega) (by omega)
theorem z18{j:Nat}(h:j<9223372036854775807):zW zI ((j:Int)+1)=((j+1:Nat):Int):=by
 rw[z10k (by omega) (by omega)];rfl
theorem z12u(x:Int):IntKind.u64.wrap x=x % 18446744073709551616:=by
 simp [IntKind.wrap,IntKind.signed,IntKind.bits]
theorem z1kl(x:Int):zW zU x=x % 256:=by
 simp [IntKind.wrap,IntKind.signed,IntKind.bits]
theorem z1kk{x:Int}(h1:0≤x)(h2:x<18446744073709551616):IntKind.u64.wrap x=x:=by rw[z12u];omega
theorem u8_id{x:Int}(h1:0≤x)(h2:x<256):zW zU x=x:=by rw[z1kl];omega
theorem zj{R:Type}{j n:Nat}{x:Option R}(h:j<n):zd (j:Int) n x=x:=z1ai h
theorem zr{R:Type}{i:Int}{n:Nat}{x:Option R}(h0:0≤i)(h:i<n):zd i n x=x:=by
 unfold zd
 rw[zT h0,zT h];rfl
theorem z1h2{R:Type}{p:Prop}[Decidable p](x y:R):(bif decide p then x else y)=if p then x else y:=by
 by_cases h:p<;>simp [h]
def bl(s:ByteArray):List Int:=s.data.toList.map fun b=>(b.toNat:Int)
theorem z5f{a b:ByteArray}(h:bl a=bl b):a=b:=by
 apply ByteArray.ext
 apply Array.ext'
 unfold bl at h
 have:Function.Injective (fun b:UInt8=>(b.toNat:Int)):=fun x y hxy=>UInt8.toNat_inj.1 (Int.ofNat.inj hxy)
 exact(List.map_inj_right (fun x y h=>this h)).1 h
theorem bl_eq{a b:ByteArray}:a=b↔bl a=bl b:=⟨fun h=>by rw[h],z5f⟩
theorem zg(s:ByteArray):(bl s).length=s.size:=by unfold bl;rw[List.length_map];rfl
theorem z3l(a b:ByteArray):bl (a++b)=bl a++bl b:=by simp [bl,ByteArray.data_append]
theorem z1y(s:ByteArray)(i j:Nat):bl (s.extract i j)=((bl s).take j).drop i:=by
 unfold bl
 rw[ByteArray.data_extract,Array.toList_extract,List.extract_eq_drop_take',List.map_drop,List.map_take]
theorem z22(s:ByteArray)(i:Nat):ze s i=(bl s).getD i 0:=by
 unfold ze bl
 split
 ·rename_i h
  have h':i<s.data.toList.length:=h
  rw[List.getD_eq_getElem?_getD,List.getElem?_map,List.getElem?_eq_getElem h']
  rfl
 ·rename_i h
  have h':s.data.toList.length≤i:=Nat.le_of_not_lt h
  rw[List.getD_eq_getElem?_getD,List.getElem?_eq_none (by simpa using h')]
  rfl
def zn(n:Int):Prop:=0≤n∧n<256
theorem z1p{s:ByteArray}{x:Int}(h:x∈bl s):zn x:=by
 unfold bl at h
 obtain⟨b,_,rfl⟩:=List.mem_map.1 h
 have:=b.toNat_lt
 unfold zn
 omega
theorem z21{xs:List Int}(h:∀x∈xs,zn x):bl (strOf xs)=xs:=by
 simp only[bl,strOf,List.map_map]
 conv=>rhs;rw[←List.map_id xs]
 apply List.map_congr_left
 intro x hx
 have:=h x hx
 unfold zn at this
 simp only[Function.comp,id]
 rw[UInt8.toNat_ofNat_of_lt' (by show x.toNat<256;omega)]
 omega
theorem z3f(s:ByteArray):strOf (bl s)=s:=z5f (z21 fun x hx=>z1p hx)
theorem bl_bs{l:List Nat}(h:∀x∈l,x<256):bl (bs l)=l.map (fun n:Nat=>(n:Int)):=by
 simp only[bl,bs,List.map_map]
 apply List.map_congr_left
 intro x hx
 have:=h x hx
 simp only[Function.comp]
 rw[UInt8.toNat_ofNat_of_lt' (by show x<256;omega)]
theorem zyj:bl (bs [])=[]:=rfl
theorem zau{s:ByteArray}:s=bs []↔bl s=[]:=by rw[bl_eq,zyj]
theorem z1z(xs:List Int):(strOf xs).size=xs.length:=by rw[←zg];unfold bl strOf;simp
section
variable {α σ ρ:Type}
end
end Groat
namespace Groat
open Go.IntKind renaming wrap→zW,i64→zI,u8→zU
open Go Go.Ref
section
variable {α σ ρ:Type}
def runI(g:Int→α→σ→(σ→Option ρ)→Option ρ)(fin:σ→Option ρ):List α→Int→σ→Option ρ
 | [],_,s=>fin s
 |x::r,i,s=>g i x s fun s'=>runI g fin r (i+1) s'
theorem z18z(d:α)(xs:List α)(hlen:xs.length≤9223372036854775807)(g:Int→α→σ→(σ→Option ρ)→Option ρ)(fin:σ→Option ρ)(L:Nat→Int→σ→Option ρ)
 (step:∀k (i:Int) s,L (k+1) i s=bif decide (i<(xs.length:Int)) then zd i xs.length (g i (xs.getD i.toNat d) s fun s'=>L k (zW zI (i+1)) s') else fin s):
 ∀(m j k:Nat) (s:σ),j+m=xs.length→m<k→L k j s=runI g fin (xs.drop j) j s
 |0,j,k,s,hj,hk=>by
  obtain⟨k,rfl⟩:∃k',k=k'+1:=⟨k-1,by omega⟩
  rw[step,zF (by omega),List.drop_eq_nil_of_le (by omega)];rfl
 |m+1,j,k,s,hj,hk=>by
  obtain⟨k,rfl⟩:∃k',k=k'+1:=⟨k-1,by omega⟩
  have hlt:j<xs.length:=by omega
  rw[step,zT (by omega),zC,zj hlt,List.drop_eq_getElem_cons hlt,runI]
  have hx:xs.getD ((j:Int)).toNat d=xs[j]:=by rw[Int.toNat_natCast,List.getD_eq_getElem?_getD,List.getElem?_eq_getElem hlt];rfl
  rw[hx]
  congr 1
  funext s'
  rw[z18 (by omega),z18z d xs hlen g fin L step m (j+1) k s' (by omega) (by omega)]
  rfl
theorem loopI(d:α)(xs:List α)(hlen:xs.length≤maxLen)(g:Int→α→σ→(σ→Option ρ)→Option ρ)(fin:σ→Option ρ)(L:Nat→Int→σ→Option ρ)
 (step:∀k (i:Int) s,L (k+1) i s=bif decide (i<(xs.length:Int)) then zd i xs.length (g i (xs.getD i.toNat d) s fun s'=>L k (zW zI (i+1)) s') else fin s) (s:σ):L FUEL 0 s=runI g fin xs 0 s:=by
 rw[zh] at hlen
 have:=z18z d xs hlen g fin L step xs.length 0 FUEL s (by omega) (by rw[z14];omega)
 rw[List.drop_zero] at this
 exact this
theorem z190(d:α)(xs:List α)(hlen:xs.length≤9223372036854775807)(g:Int→α→σ→(σ→Option ρ)→Option ρ)(fin:σ→Option ρ)(L:Nat→Int→σ→Option ρ)
 (step:∀k (i:Int) s,0≤i→i<(xs.length:Int)→L (k+1) i s=g i (xs.getD i.toNat d) s fun s'=>L k (zW zI (i+1)) s') (stop:∀k s,L (k+1) (xs.length:Int) s=fin s):
 ∀(m j k:Nat) (s:σ),j+m=xs.length→m<k→L k j s=runI g fin (xs.drop j) j s
 |0,j,k,s,hj,hk=>by
  obtain⟨k,rfl⟩:∃k',k=k'+1:=⟨k-1,by omega⟩
  have:j=xs.length:=by omega
  subst this
  rw[stop,List.drop_length];rfl
 |m+1,j,k,s,hj,hk=>by
  obtain⟨k,rfl⟩:∃k',k=k'+1:=⟨k-1,by omega⟩
  have hlt:j<xs.length:=by omega
  rw[step k j s (by omega) (by omega),List.drop_eq_getElem_cons hlt,runI]
  have hx:xs.getD ((j:Int)).toNat d=xs[j]:=by rw[Int.toNat_natCast,List.getD_eq_getElem?_getD,List.getElem?_eq_getElem hlt];rfl
  rw[hx]
  congr 1
  funext s'
  rw[z18 (by omega),z190 d xs hlen g fin L step stop m (j+1) k s' (by omega) (by omega)]
  rfl
theorem loopJ(d:α)(xs:List α)(hlen:xs.length≤maxLen)(g:Int→α→σ→(σ→Option ρ)→Option ρ)(fin:σ→Option ρ)(L:Nat→Int→σ→Option ρ)
 (step:∀k (i:Int) s,0≤i→i<(xs.length:Int)→L (k+1) i s=g i (xs.getD i.toNat d) s fun s'=>L k (zW zI (i+1)) s') (stop:∀k s,L (k+1) (xs.length:Int) s=fin s) (s:σ):L FUEL 0 s=runI g fin xs 0 s:=by
 rw[zh] at hlen
 have:=z190 d xs hlen g fin L step stop xs.length 0 FUEL s (by omega) (by rw[z14];omega)
 rw[List.drop_zero] at this
 exact this
end
end Groat

namespace Groat
open Go.IntKind renaming wrap→zW,i64→zI,u8→zU
open Go Go.Ref
theorem z34(n a:Nat)(h:a<2^n):(BitVec.ofInt n (a:Int)).toNat=a:=by
 rw[BitVec.toNat_ofInt]
 have h2:((a:Int)% ((2^n:Nat):Int))=((a % 2^n:Nat):Int):=by rfl
 rw[h2,Int.toNat_natCast,Nat.mod_eq_of_lt h]
theorem z7j{a:Nat}(h:a<18446744073709551616):IntKind.u64.wrap (a:Int)=a:=z1kk (by omega) (by omega)
theorem and64{a b:Nat}(ha:a<18446744073709551616)(hb:b<18446744073709551616):ibits .and .u64 a b=((a&&&b:Nat):Int):=by
 simp only[ibits,BitVec.toNat_and,z34 IntKind.u64.bits a ha,z34 IntKind.u64.bits b hb]
 exact z7j (Nat.lt_of_le_of_lt Nat.and_le_left ha)
theorem or64{a b:Nat}(ha:a<18446744073709551616)(hb:b<18446744073709551616):ibits .or .u64 a b=((a|||b:Nat):Int):=by
 simp only[ibits,BitVec.toNat_or,z34 IntKind.u64.bits a ha,z34 IntKind.u64.bits b hb]
 exact z7j (Nat.or_lt_two_pow (n:=64) ha hb)
theorem z1cl{a b:Nat}(ha:a<18446744073709551616)(hb:b<18446744073709551616):ibits .andNot .u64 a b=((a&&&(18446744073709551615-b):Nat):Int):=by
 simp only[ibits,BitVec.toNat_and,BitVec.toNat_not,z34 IntKind.u64.bits a ha,z34 IntKind.u64.bits b hb]
 have:2^IntKind.u64.bits-1-b=18446744073709551615-b:=rfl
 rw[this]
 exact z7j (Nat.lt_of_le_of_lt Nat.and_le_left ha)
theorem z1gz{a b:Nat}(ha:a<9223372036854775808)(hb:b<9223372036854775808):ibits .and .i64 a b=((a&&&b:Nat):Int):=by
 simp only[ibits,BitVec.toNat_and,z34 IntKind.i64.bits a (Nat.lt_trans ha (by decide)),z34 IntKind.i64.bits b (Nat.lt_trans hb (by decide))]
 have:=Nat.lt_of_le_of_lt (Nat.and_le_left (n:=a) (m:=b)) ha
 exact z4k (by omega)
theorem z7x(a:Nat)(k:Nat)(hk:k≤64):Int.fdiv (a:Int) (2^min ((k:Int)).toNat 64)=((a/2^k:Nat):Int):=by
 rw[Int.fdiv_eq_ediv_of_nonneg _ (Int.pow_nonneg (by decide)),Int.toNat_natCast,Nat.min_eq_left hk]
 rfl
section
variable {c0 c1 c2 c3 c4 c5 c6 c7:Nat}
end
def zw(x:Nat):Nat:=if x=0 then 0 else x.log2+1
theorem z69(x:Nat):x<2^zw x∧(x≠0→2^(zw x-1)≤x∧1≤zw x):=by
 unfold zw
 split
 ·simp_all
 ·rename_i h
  exact⟨Nat.lt_log2_self,fun _=>⟨by simpa using Nat.log2_self_le h,by omega⟩⟩
theorem zx2{x L:Nat}(h1:x<2^L)(h2:L≠0→2^(L-1)≤x):zw x=L:=by
 obtain⟨g1,g2⟩:=z69 x
 by_cases hx:x=0
 ·subst hx
  by_cases hL:L=0
  ·rw[hL];rfl
  ·have:=h2 hL
   have:=Nat.two_pow_pos (L-1)
   omega
 ·obtain⟨g3,g4⟩:=g2 hx
  rcases Nat.lt_trichotomy (zw x) L with h|h|h
  ·have:=h2 (by omega)
   have:2^zw x≤2^(L-1):=Nat.pow_le_pow_right (by decide) (by omega)
   omega
  ·exact h
  ·have:2^L≤2^(zw x-1):=Nat.pow_le_pow_right (by decide) (by omega)
   omega
theorem z7t{x k:Nat}(h:2^k≤x):zw x=zw (x/2^k)+k:=by
 have hp:=Nat.two_pow_pos k
 have hq:x/2^k≠0:=by
  have:=Nat.div_pos h hp
  omega
 obtain⟨g1,g2⟩:=z69 (x/2^k)
 obtain⟨g3,g4⟩:=g2 hq
 apply zx2
 ·rw[Nat.pow_add]
  exact(Nat.div_lt_iff_lt_mul hp).1 g1
 ·intro _
  have:zw (x/2^k)+k-1=(zw (x/2^k)-1)+k:=by omega
  rw[this,Nat.pow_add]
  exact(Nat.le_div_iff_mul_le hp).1 g3
def z24:List Nat:=[0,1,2,2,3,3,3,3,4,4,4,4,4,4,4,4,5,5,5,5,5,5,5,5,5,5,5,5,5,5,5,5]++List.replicate 32 6++List.replicate 64 7++List.replicate 128 8
theorem z1en:∀c:Fin 256,z24.getD c.1 0=zw c.1:=by decide+kernel
def len64(x:Int):Option Int:=
 let t:Int→Int→Option Int:=fun n x=>zd (zW zU x) (bs z24).size (some (zW zI (n+zW zI (ze (bs z24) (zW zU x).toNat))))
 let c:Int→Int→Option Int:=fun n x=>bif decide ((256:Int)≤x) then t (zW zI (n+8)) (Int.fdiv x (2^min ((8:Int)).toNat 64)) else t n x
 let b:Int→Int→Option Int:=fun n x=>bif decide ((65536:Int)≤x) then c (zW zI (n+16)) (Int.fdiv x (2^min ((16:Int)).toNat 64)) else c n x
 bif decide ((4294967296:Int)≤x) then b 32 (Int.fdiv x (2^min ((32:Int)).toNat 64)) else b 0 x
theorem zzi(x:Int):Q167 x=len64 x:=by kernel_rfl
theorem z18x(c:Nat)(h:c<256):ze (bs z24) c=((zw c:Nat):Int):=by
 rw[z22,bl_bs (by decide+kernel),←z1en ⟨c,h⟩,List.getD_eq_getElem?_getD,List.getElem?_map,List.getD_eq_getElem?_getD]
 cases z24[c]? <;>rfl
theorem zv5{x k:Nat}(h:x<2^k):zw x≤k:=by
 by_cases hx:x=0
 ·subst hx;simp [zw]
 ·obtain⟨g3,g4⟩:=(z69 x).2 hx
  rcases Nat.lt_or_ge k (zw x) with h1|h1
  ·have:2^k≤2^(zw x-1):=Nat.pow_le_pow_right (by decide) (by omega)
   omega
  ·exact h1
theorem z1ap(x:Nat)(hx:x<18446744073709551616):Q167 x=some ((zw x:Nat):Int):=by
 rw[zzi]
 unfold len64
 simp only
 have ht:∀(n:Nat) (c:Nat),n≤100→c<256→zd (zW zU (c:Int)) (bs z24).size (some (zW zI ((n:Int)+zW zI (ze (bs z24) (zW zU (c:Int)).toNat))))=some (((n+zw c:Nat):Int)):=by
  intro n c hn hc
  have hl:(bs z24).size=256:=by rw[←zg,bl_bs (by decide+kernel)];rfl
  have hb:=zv5 (k:=8) hc
  rw[u8_id (by omega) (by omega),hl,zj hc,Int.toNat_natCast,z18x c hc,z4k (by omega),zi (by omega) (by omega)]
  rfl
 have f8:∀a:Nat,Int.fdiv (a:Int) (2^min ((8:Int)).toNat 64)=((a/2^8:Nat):Int):=fun a=>z7x a 8 (by omega)
 have f16:∀a:Nat,Int.fdiv (a:Int) (2^min ((16:Int)).toNat 64)=((a/2^16:Nat):Int):=fun a=>z7x a 16 (by omega)
 have f32:∀a:Nat,Int.fdiv (a:Int) (2^min ((32:Int)).toNat 64)=((a/2^32:Nat):Int):=fun a=>z7x a 32 (by omega)
 have hc:∀(n:Nat) (y:Nat),n≤48→y<65536→(bif decide ((256:Int)≤(y:Int)) then zd (zW zU (Int.fdiv (y:Int) (2^min ((8:Int)).toNat 64))) (bs z24).size (some (zW zI (zW zI ((n:Int)+8)+zW zI (ze (bs z24) (zW zU (Int.fdiv (y:Int) (2^min ((8:Int)).toNat 64))).toNat)))) else zd (zW zU (y:Int)) (bs z24).size (some (zW zI ((n:Int)+zW zI (ze (bs z24) (zW zU (y:Int)).toNat)))))=some (((n+zw y:Nat):Int)):=by
  intro n y hn hy
  by_cases h:256≤y
  ·rw[zT (by omega),zC,f8,zi (x:=(n:Int)+8) (by omega) (by omega)]
   have:=ht (n+8) (y/2^8) (by omega) (by omega)
   rw[show((n:Int)+8)=((n+8:Nat):Int) from rfl,this,z7t (k:=8) h]
   congr 2;omega
  ·rw[zF (by omega),zD]
   exact ht n y (by omega) (by omega)
 have hb:∀(n:Nat) (y:Nat),n≤32→y<4294967296→(bif decide ((65536:Int)≤(y:Int)) then(bif decide ((256:Int)≤Int.fdiv (y:Int) (2^min ((16:Int)).toNat 64)) then zd (zW zU (Int.fdiv (Int.fdiv (y:Int) (2^min ((16:Int)).toNat 64)) (2^min ((8:Int)).toNat 64))) (bs z24).size (some (zW zI (zW zI (zW zI ((n:Int)+16)+8)+zW zI (ze (bs z24) (zW zU (Int.fdiv (Int.fdiv (y:Int) (2^min ((16:Int)).toNat 64)) (2^min ((8:Int)).toNat 64))).toNat)))) else zd (zW zU (Int.fdiv (y:Int) (2^min ((16:Int)).toNat 64))) (bs z24).size (some (zW zI (zW zI ((n:Int)+16)+zW zI (ze (bs z24) (zW zU (Int.fdiv (y:Int) (2^min ((16:Int)).toNat 64))).toNat))))) else
  (bif decide ((256:Int)≤(y:Int)) then zd (zW zU (Int.fdiv (y:Int) (2^min ((8:Int)).toNat 64))) (bs z24).size (some (zW zI (zW zI ((n:Int)+8)+zW zI (ze (bs z24) (zW zU (Int.fdiv (y:Int) (2^min ((8:Int)).toNat 64))).toNat)))) else zd (zW zU (y:Int)) (bs z24).size (some (zW zI ((n:Int)+zW zI (ze (bs z24) (zW zU (y:Int)).toNat))))))=some (((n+zw y:Nat):Int)):=by
  intro n y hn hy
  by_cases h:65536≤y
  ·rw[zT (by omega),zC,f16,zi (x:=(n:Int)+16) (by omega) (by omega)]
   have:=hc (n+16) (y/2^16) (by omega) (by omega)
   rw[show((n:Int)+16)=((n+16:Nat):Int) from rfl,this,z7t (k:=16) h]
   congr 2;omega
  ·rw[zF (by omega),zD]
   exact hc n y (by omega) (by omega)
 by_cases h:4294967296≤x
 ·rw[zT (by omega),zC,f32]
  have:=hb 32 (x/2^32) (by omega) (by omega)
  rw[show((32:Nat):Int)=32 from rfl] at this
  rw[this,z7t (k:=32) h]
  congr 2;omega
 ·rw[zF (by omega),zD]
  have:=hb 0 x (by omega) (by omega)
  rw[show((0:Nat):Int)=0 from rfl] at this
  rw[this]
  congr 2;omega
theorem z88(x:Nat)(hx:x<18446744073709551616):Q166 x=some (((64-zw x:Nat)):Int):=by
 unfold Q166 zha
 have:=zv5 (k:=64) hx
 rw[z1ap x hx,zc,zi (by omega) (by omega)]
 congr 1;omega
end Groat

namespace Groat
open Go.IntKind renaming wrap→zW,i64→zI,u8→zU
open Go Go.Ref
abbrev FSet:=Int×Int×Unit
abbrev B64:Nat:=18446744073709551616
def hasN(h l:Nat)(n:Int):Bool:=
 if 1≤n∧n≤64 then h.testBit (64-n).toNat else if 65≤n∧n≤128 then l.testBit (128-n).toNat else false
def bitH(n:Int):Nat:=if 1≤n∧n≤64 then 2^(64-n).toNat else 0
def bitL(n:Int):Nat:=if 65≤n∧n≤128 then 2^(128-n).toNat else 0
theorem zm1{k:Nat}(h:k<64):2^k<B64:=Nat.pow_lt_pow_right (by decide) h
theorem zk0(n:Int):bitH n<B64:=by
 unfold bitH;split
 ·exact zm1 (by omega)
 ·decide
theorem zk1(n:Int):bitL n<B64:=by
 unfold bitL;split
 ·exact zm1 (by omega)
 ·decide
theorem z12q{k:Nat}(h:k<64):IntKind.u64.wrap ((1:Int)*2^min k 64)=((2^k:Nat):Int):=by
 rw[Nat.min_eq_left (by omega),Int.one_mul]
 have:=zm1 h
 have e:((2:Int)^k)=((2^k:Nat):Int):=by simp
 rw[e]
 exact z7j this
theorem z17m(n:Int):Q42 n=some ((bitH n:Int),(bitL n:Int),()):=by
 unfold Q42 zo9 bitH bitL
 by_cases h1:n<1
 ·rw[zT h1,if_neg (by omega),if_neg (by omega)];rfl
 rw[zF h1,zD]
 by_cases h2:128<n
 ·rw[zT h2,if_neg (by omega),if_neg (by omega)];rfl
 rw[zF h2,zD]
 by_cases h3:n≤64
 ·rw[zT h3,zC,zi (by omega) (by omega),zF (by omega),zD,z12q (by omega),if_pos (by omega),if_neg (by omega)];rfl
 ·rw[zF h3,zD,zi (by omega) (by omega),zF (by omega),zD,z12q (by omega),if_neg (by omega),if_pos (by omega)];rfl
theorem z7r(h k:Nat):(h&&&2^k=0)↔h.testBit k=false:=by
 constructor
 ·intro e
  have:=congrArg (fun x=>x.testBit k) e
  simpa [Nat.testBit_and,Nat.testBit_two_pow] using this
 ·intro e
  apply Nat.eq_of_testBit_eq
  intro i
  rw[Nat.testBit_and,Nat.testBit_two_pow]
  by_cases hi:k=i
  ·subst hi;simp [e]
  ·simp [hi]
theorem z1i3(h l:Nat)(hh:h<B64)(hl:l<B64)(n:Int):Q37 ((h:Int),(l:Int),()) n=some (hasN h l n):=by
 unfold Q37 zo6 Q34 ze6
 rw[z17m,zc,and64 hh (zk0 n),and64 hl (zk1 n),zc]
 congr 1
 simp only[Bool.and_true]
 have e:∀a:Nat,decide ((a:Int)=0)=decide (a=0):=fun a=>decide_eq_decide.2 (by omega)
 rw[e,e]
 unfold bitH bitL hasN
 by_cases h1:1≤n∧n≤64
 ·rw[if_pos h1,if_pos h1,if_neg (by omega)]
  have:=z7r h (64-n).toNat
  cases hb:h.testBit (64-n).toNat with
  |false=>simp [this.2 hb]
  |true=>simp;intro hz;exact absurd (this.1 hz) (by simp [hb])
 ·rw[if_neg h1,if_neg h1]
  by_cases h2:65≤n∧n≤128
  ·rw[if_pos h2,if_pos h2]
   have:=z7r l (128-n).toNat
   cases hb:l.testBit (128-n).toNat with
   |false=>simp [this.2 hb]
   |true=>simp;intro hz;exact absurd (this.1 hz) (by simp [hb])
  ·rw[if_neg h2,if_neg h2];simp
theorem zbn(h l h' l':Nat)(hh:h<B64)(hl:l<B64)(hh':h'<B64)(hl':l'<B64):Q35 ((h:Int),(l:Int),()) ((h':Int),(l':Int),())=some (((h|||h':Nat):Int),((l|||l':Nat):Int),()):=by
 unfold Q35 zo5
 rw[or64 hh hh',or64 hl hl']
theorem z11e(h l h' l':Nat)(hh:h<B64)(hl:l<B64)(hh':h'<B64)(hl':l'<B64):Q34 ((h:Int),(l:Int),()) ((h':Int),(l':Int),())=some (((h&&&h':Nat):Int),((l&&&l':Nat):Int),()):=by
 unfold Q34 ze6
 rw[and64 hh hh',and64 hl hl']
theorem z11w(h l:Nat)(hh:h<B64)(hl:l<B64)(n:Int):Q40 ((h:Int),(l:Int),()) n=some (((h|||bitH n:Nat):Int),((l|||bitL n:Nat):Int),()):=by
 unfold Q40 zo8
 rw[z17m,zc,zbn h l _ _ hh hl (zk0 n) (zk1 n)];rfl
theorem or_lt{a b:Nat}(ha:a<B64)(hb:b<B64):a|||b<B64:=Nat.or_lt_two_pow (n:=64) ha hb
theorem z176{a b:Nat}(ha:a<B64):a&&&b<B64:=Nat.lt_of_le_of_lt Nat.and_le_left ha
theorem z1kb(h l h' l':Nat)(n:Int):hasN (h|||h') (l|||l') n=(hasN h l n||hasN h' l' n):=by
 unfold hasN;split
 ·rw[Nat.testBit_or]
 ·split
  ·rw[Nat.testBit_or]
  ·rfl
theorem z125(h l h' l':Nat)(n:Int):hasN (h&&&h') (l&&&l') n=(hasN h l n&&hasN h' l' n):=by
 unfold hasN;split
 ·rw[Nat.testBit_and]
 ·split
  ·rw[Nat.testBit_and]
  ·rfl
def inR(n:Int):Bool:=decide (1≤n∧n≤128)
theorem z1hn(m n:Int):hasN (bitH m) (bitL m) n=(decide (m=n)&&inR n):=by
 unfold hasN bitH bitL inR
 by_cases h1:1≤n∧n≤64
 ·rw[if_pos h1]
  by_cases h2:1≤m∧m≤64
  ·rw[if_pos h2,Nat.testBit_two_pow,zT (p:=1≤n∧n≤128) (by omega),Bool.and_true]
   exact decide_eq_decide.2 (by omega)
  ·rw[if_neg h2,zF (by omega:¬m=n)];simp
 ·rw[if_neg h1]
  by_cases h3:65≤n∧n≤128
  ·rw[if_pos h3]
   by_cases h2:65≤m∧m≤128
   ·rw[if_pos h2,Nat.testBit_two_pow,zT (p:=1≤n∧n≤128) (by omega),Bool.and_true]
    exact decide_eq_decide.2 (by omega)
   ·rw[if_neg h2,zF (by omega:¬m=n)];simp
  ·rw[if_neg h3,zF (p:=1≤n∧n≤128) (by omega),Bool.and_false]
theorem z1dl(h l:Nat)(m n:Int):hasN (h|||bitH m) (l|||bitL m) n=(hasN h l n||(decide (m=n)&&inR n)):=by rw[z1kb,z1hn]
theorem zf2{h l:Nat}{n:Int}(hh:hasN h l n=true):1≤n∧n≤128:=by
 unfold hasN at hh
 split at hh
 ·omega
 ·split at hh
  ·omega
  ·cases hh
theorem z12o{h l h' l':Nat}(hh:h<B64)(hl:l<B64)(hh':h'<B64)(hl':l'<B64)(e:∀n:Int,1≤n→n≤128→hasN h l n=hasN h' l' n):h=h'∧l=l':=by
 constructor
 ·apply Nat.eq_of_testBit_eq
  intro i
  by_cases hi:i<64
  ·have:=e (64-i) (by omega) (by omega)
   unfold hasN at this
   rw[if_pos (by omega),if_pos (by omega)] at this
   have e2:(64-(64-(i:Int))).toNat=i:=by omega
   rwa [e2] at this
  ·rw[Nat.testBit_lt_two_pow (Nat.lt_of_lt_of_le hh (Nat.pow_le_pow_right (n:=2) (by decide) (by omega:64≤i))),Nat.testBit_lt_two_pow (Nat.lt_of_lt_of_le hh' (Nat.pow_le_pow_right (n:=2) (by decide) (by omega:64≤i)))]
 ·apply Nat.eq_of_testBit_eq
  intro i
  by_cases hi:i<64
  ·have:=e (128-i) (by omega) (by omega)
   unfold hasN at this
   have h1:¬(1≤128-(i:Int)∧128-(i:Int)≤64):=by omega
   have h2:65≤128-(i:Int)∧128-(i:Int)≤128:=by omega
   rw[if_neg h1,if_pos h2,if_neg h1,if_pos h2] at this
   have e2:(128-(128-(i:Int))).toNat=i:=by omega
   rwa [e2] at this
  ·rw[Nat.testBit_lt_two_pow (Nat.lt_of_lt_of_le hl (Nat.pow_le_pow_right (n:=2) (by decide) (by omega:64≤i))),Nat.testBit_lt_two_pow (Nat.lt_of_lt_of_le hl' (Nat.pow_le_pow_right (n:=2) (by decide) (by omega:64≤i)))]
def setH(l:List Int):Nat:=l.foldl (fun a n=>a|||bitH n) 0
def setL(l:List Int):Nat:=l.foldl (fun a n=>a|||bitL n) 0
theorem zoy(f:Int→Nat)(hf:∀n,f n<B64)(l:List Int):∀a,a<B64→l.foldl (fun a n=>a|||f n) a<B64:=by
 induction l with
 |nil=>intro a h;exact h
 |cons x r ih=>intro a h;exact ih _ (or_lt h (hf x))
theorem z2u(l:List Int):setH l<B64:=zoy _ zk0 l 0 (by decide)
theorem z2v(l:List Int):setL l<B64:=zoy _ zk1 l 0 (by decide)
theorem z1dk(l:List Int):∀(a b:Nat) (n:Int),hasN (l.foldl (fun a n=>a|||bitH n) a) (l.foldl (fun a n=>a|||bitL n) b) n=(hasN a b n||(decide (n∈l)&&inR n)):=by
 induction l with
 |nil=>intro a b n;simp
 |cons x r ih=>
  intro a b n
  rw[List.foldl_cons,List.foldl_cons,ih,z1dl]
  by_cases h1:x=n
  ·subst h1;cases inR x<;>simp
  ·have:n≠x:=fun e=>h1 e.symm
   simp [h1,this]
theorem z66(l:List Int)(n:Int):hasN (setH l) (setL l) n=(decide (n∈l)&&inR n):=by
 unfold setH setL
 rw[z1dk]
 have:hasN 0 0 n=false:=by unfold hasN;simp
 rw[this];simp
theorem z1hq(xs:List Int)(hx:xs.length≤9223372036854775807)(b0:FSet):∀(n j k:Nat) (a b:Nat),j+n=xs.length→n<k→a<B64→b<B64→
 z6d k xs (xs.length:Int) j b0 ((a:Int),(b:Int),())=some (b0,((((xs.drop j).foldl (fun a n=>a|||bitH n) a:Nat):Int),(((xs.drop j).foldl (fun a n=>a|||bitL n) b:Nat):Int),())):=by
 intro n
 induction n with
 |zero=>
  intro j k a b hj hk ha hb
  obtain⟨k,rfl⟩:∃k',k=k'+1:=⟨k-1,by omega⟩
  rw[z6d,ze5,zF (by omega),List.drop_eq_nil_of_le (by omega)];rfl
 |succ n ih=>
  intro j k a b hj hk ha hb
  obtain⟨k,rfl⟩:∃k',k=k'+1:=⟨k-1,by omega⟩
  have hlt:j<xs.length:=by omega
  have hx':xs.getD ((j:Int)).toNat 0=xs[j]:=by rw[Int.toNat_natCast,List.getD_eq_getElem?_getD,List.getElem?_eq_getElem hlt];rfl
  rw[z6d,ze5,zT (by omega),zC,zj hlt,hx',z11w a b ha hb,zc,z18 (by omega),ih (j+1) k _ _ (by omega) (by omega) (or_lt ha (zk0 _)) (or_lt hb (zk1 _)),List.drop_eq_getElem_cons hlt]
  rfl
theorem Of_eq(xs:List Int)(hx:xs.length≤maxLen):Q33 xs=some ((setH xs:Int),(setL xs:Int),()):=by
 rw[zh] at hx
 unfold Q33 zo3
 have:=z1hq xs hx (0,0,()) xs.length 0 FUEL 0 0 (by omega) (by rw[z14];omega) (by decide) (by decide)
 simp only[zo4]
 have e:z6d FUEL xs (xs.length:Int) 0 (0,0,()) (0,0,())=_:=this
 rw[e];rfl
def nums:List Int:=(List.range 128).map fun k:Nat=>((k+1:Nat):Int)
theorem z1e0(n:Int):n∈nums↔1≤n∧n≤128:=by
 unfold nums
 constructor
 ·intro h
  obtain⟨k,hk,rfl⟩:=List.mem_map.1 h
  have:=List.mem_range.1 hk
  omega
 ·intro h
  exact List.mem_map.2 ⟨(n-1).toNat,List.mem_range.2 (by omega),by omega⟩
theorem z11a:nums.Pairwise (· < ·):=by
 unfold nums
 exact List.Pairwise.map _ (fun a b h=>by omega) List.pairwise_lt_range
def elems(h l:Nat):List Int:=nums.filter (hasN h l)
theorem z3n(h l:Nat)(n:Int):n∈elems h l↔hasN h l n=true:=by
 unfold elems
 rw[List.mem_filter,z1e0]
 exact⟨fun h=>h.2,fun h=>⟨zf2 h,h⟩⟩
theorem z5i(h l:Nat):(elems h l).Pairwise (· < ·):=z11a.filter _
def nextN(h l:Nat)(n:Int):Int:=((elems h l).filter fun m=>decide (n<m)).headD 0
def zmb(h l:Nat)(n r:Int):Prop:=(r=0∧∀m,n<m→hasN h l m=false)∨(n<r∧hasN h l r=true∧∀m,n<m→m<r→hasN h l m=false)
theorem z1e1(h l:Nat)(n:Int):zmb h l n (nextN h l n):=by
 unfold nextN
 cases hf:(elems h l).filter fun m=>decide (n<m) with
 |nil=>
  left
  refine⟨rfl,fun m hm=> ?_⟩
  cases hb:hasN h l m with
  |false=>rfl
  |true=>
   have:m∈(elems h l).filter fun m=>decide (n<m):=List.mem_filter.2 ⟨(z3n h l m).2 hb,by simpa using hm⟩
   rw[hf] at this;cases this
 |cons x r=>
  right
  have hx:x∈(elems h l).filter fun m=>decide (n<m):=by rw[hf];simp
  obtain⟨h1,h2⟩:=List.mem_filter.1 hx
  refine⟨by simpa using h2,(z3n h l x).1 h1,fun m hm hmx=> ?_⟩
  cases hb:hasN h l m with
  |false=>rfl
  |true=>
   have hmem:m∈(elems h l).filter fun m=>decide (n<m):=List.mem_filter.2 ⟨(z3n h l m).2 hb,by simpa using hm⟩
   have hs:=(z5i h l).filter (fun m=>decide (n<m))
   rw[hf] at hmem hs
   rcases List.mem_cons.1 hmem with e|e
   ·simp only[List.headD_cons] at hmx;omega
   ·have:=(List.pairwise_cons.1 hs).1 m e
    simp only[List.headD_cons] at hmx;omega
theorem zx9{h l:Nat}{n r q:Int}(h1:zmb h l n r)(h2:zmb h l n q):r=q:=by
 rcases h1 with⟨e,a⟩|⟨e,a,b⟩<;>rcases h2 with⟨e',a'⟩|⟨e',a',b'⟩
 ·rw[e,e']
 ·rw[a q e'] at a';cases a'
 ·rw[a' r e] at a;cases a
 ·rcases Int.lt_trichotomy r q with h|h|h
  ·rw[b' r e h] at a;cases a
  ·exact h
  ·rw[b q e' h] at a';cases a'
theorem zx1(x n:Nat)(hx:x<B64)(hn:n≤64):
 (x*2^n % B64=0∧∀i,i<64-n→x.testBit i=false)∨
 (x*2^n % B64≠0∧zw (x*2^n % B64)≤64∧n<zw (x*2^n % B64)∧x.testBit (zw (x*2^n % B64)-1-n)=true∧∀i,zw (x*2^n % B64)-1-n<i→i<64-n→x.testBit i=false):=by
 have hb:∀i,(x*2^n % B64).testBit i=(decide (i<64)&&(decide (n≤i)&&x.testBit (i-n))):=by
  intro i
  rw[show B64=2^64 from rfl,Nat.testBit_mod_two_pow,Nat.testBit_mul_two_pow]
 generalize x*2^n % B64=r at hb
 have hr:∀i,i<64-n→x.testBit i=r.testBit (i+n):=by
  intro i hi
  rw[hb,zT (by omega),zT (by omega),Nat.add_sub_cancel];rfl
 by_cases h0:r=0
 ·left
  refine⟨h0,fun i hi=> ?_⟩
  rw[hr i hi,h0];simp
 ·right
  obtain⟨g1,g2⟩:=z69 r
  obtain⟨g3,g4⟩:=g2 h0
  have htop:r.testBit (zw r-1)=true:=by
   rw[Nat.testBit_eq_decide_div_mod_eq]
   have hp:=Nat.two_pow_pos (zw r-1)
   have:r/2^(zw r-1)=1:=by
    apply Nat.div_eq_of_lt_le
    ·omega
    ·have:2^zw r=2*2^(zw r-1):=by
      rw[←Nat.pow_succ'];congr 1;omega
     omega
   rw[this];rfl
  have hlt:=htop
  rw[hb] at hlt
  simp only[Bool.and_eq_true,decide_eq_true_eq] at hlt
  refine⟨h0,by omega,by omega,?_,fun i h1 h2=> ?_⟩
  ·exact hlt.2.2
  ·rw[hr i h2]
   exact Nat.testBit_lt_two_pow (Nat.lt_of_lt_of_le g1 (Nat.pow_le_pow_right (by decide) (by omega)))
theorem z12p(x n:Nat)(hn:n≤64):IntKind.u64.wrap ((x:Int)*2^min ((n:Int)).toNat 64)=((x*2^n % B64:Nat):Int):=by
 rw[z12u,Int.toNat_natCast,Nat.min_eq_left hn]
 have e:((x:Int)*2^n)=((x*2^n:Nat):Int):=by simp
 rw[e];rfl
theorem z11f(h l:Nat)(hh:h<B64)(hl:l<B64)(n:Int)(hn1: -9223372036854775808≤n)(hn2:n≤9223372036854775807):Q39 ((h:Int),(l:Int),()) n=some (nextN h l n):=by
 have goal:∀r,zmb h l n r→some r=some (nextN h l n):=fun r hr=>by rw[zx9 hr (z1e1 h l n)]
 unfold Q39 zo7
 obtain⟨m,hm,hmn⟩:∃m:Nat,(if n<(0:Int) then(0:Int) else n)=(m:Int)∧(n≤(m:Int)∧(0≤n→n=m)∧(n<0→m=0)):=by
  by_cases h0:n<0
  ·exact⟨0,by rw[if_pos h0];rfl,by omega,by omega,by omega⟩
  ·exact⟨n.toNat,by rw[if_neg h0];omega,by omega,by omega,by omega⟩
 have hlow:∀k:Int,k≤0→hasN h l k=false:=fun k hk=>by unfold hasN;rw[if_neg (by omega),if_neg (by omega)]
 have low:∀(sft base:Nat),sft≤64→(sft<64→base=64+sft)→(sft=64→128≤base)→(m:Int)≤base→base≤9223372036854775807→(∀k,n<k→k≤base→k≤128→hasN h l k=false)→
  (bif !(decide (IntKind.u64.wrap ((l:Int)*2^min ((sft:Int)).toNat 64)=0)) then(Q166 (IntKind.u64.wrap ((l:Int)*2^min ((sft:Int)).toNat 64))).bind (fun r=>some (zW zI (zW zI ((base:Int)+r)+1))) else some 0)=some (nextN h l n):=by
  intro sft base h1 h2 h2' h3 hbig h4
  rw[z12p l sft h1]
  have hlt:l*2^sft % B64<B64:=Nat.mod_lt _ (by decide)
  rcases zx1 l sft hl h1 with⟨e,w⟩|⟨e,w1,w2,w3,w4⟩
  ·rw[e,zT (by rfl)]
   refine goal 0 (.inl ⟨rfl,fun k hk=> ?_⟩)
   by_cases hk2:k≤base∧k≤128
   ·exact h4 k hk hk2.1 hk2.2
   ·unfold hasN
    by_cases hk3:65≤k∧k≤128
    ·rw[if_neg (by omega),if_pos hk3]
     exact w _ (by omega)
    ·by_cases hk4:1≤k∧k≤64
     ·omega
     ·rw[if_neg hk4,if_neg hk3]
  ·have hs64:sft<64:=by omega
   have hbase:=h2 hs64
   rw[zF (by omega)]
   simp only[Bool.not_false,zC]
   rw[z88 _ hlt,zc,zi (x:=(base:Int)+_) (by omega) (by omega),zi (by omega) (by omega)]
   refine goal _ (.inr ⟨by omega,?_,fun k hk1 hk2=> ?_⟩)
   ·unfold hasN
    rw[if_neg (by omega),if_pos (by omega)]
    have:(128-((base:Int)+((64-zw (l*2^sft % B64):Nat):Int)+1)).toNat=zw (l*2^sft % B64)-1-sft:=by omega
    rw[this];exact w3
   ·by_cases hk3:k≤base
    ·exact h4 k hk1 hk3 (by omega)
    ·unfold hasN
     rw[if_neg (by omega),if_pos (by omega)]
     exact w4 _ (by omega) (by omega)
 simp only[hm]
 by_cases c1:m<64
 ·rw[zT (by omega),zC,zF (by omega),zD,z12p h m (by omega)]
  have hlt:h*2^m % B64<B64:=Nat.mod_lt _ (by decide)
  rcases zx1 h m hh (by omega) with⟨e,w⟩|⟨e,w1,w2,w3,w4⟩
  ·rw[e,zT (by rfl)]
   have:=low 0 64 (by omega) (by omega) (by omega) (by omega) (by omega) (fun k hk1 hk2 _=>by
    by_cases hk3:1≤k
    ·unfold hasN
     rw[if_pos (by omega)]
     exact w _ (by omega)
    ·exact hlow k (by omega))
   exact this
  ·rw[zF (by omega)]
   simp only[Bool.not_false,zC]
   rw[z88 _ hlt,zc,zi (x:=(m:Int)+_) (by omega) (by omega),zi (by omega) (by omega)]
   refine goal _ (.inr ⟨by omega,?_,fun k hk1 hk2=> ?_⟩)
   ·unfold hasN
    rw[if_pos (by omega)]
    have:(64-((m:Int)+((64-zw (h*2^m % B64):Nat):Int)+1)).toNat=zw (h*2^m % B64)-1-m:=by omega
    rw[this];exact w3
   ·by_cases hk3:1≤k
    ·unfold hasN
     rw[if_pos (by omega)]
     exact w4 _ (by omega) (by omega)
    ·exact hlow k (by omega)
 ·rw[zF (by omega),zD,zi (x:=(m:Int)-64) (by omega) (by omega)]
  have hsub:((m:Int)-64)=((m-64:Nat):Int):=by omega
  obtain⟨sft,hs,hs1⟩:∃sft:Nat,(if(64:Int)<(m:Int)-64 then(64:Int) else(m:Int)-64)=(sft:Int)∧sft≤64∧(sft<64→m=64+sft)∧(sft=64→128≤m):=by
   by_cases h0:(64:Int)<(m:Int)-64
   ·exact⟨64,by rw[if_pos h0];rfl,by omega,by omega,by omega⟩
   ·exact⟨m-64,by rw[if_neg h0];omega,by omega,by omega,by omega⟩
  simp only[hs]
  rw[zF (by omega),zD]
  exact low sft m hs1.1 hs1.2.1 hs1.2.2 (by omega) (by omega) (fun k hk1 hk2 _=>by omega)
end Groat

namespace Groat
open Go.IntKind renaming wrap→zW,i64→zI,u8→zU
open Go Go.Ref
theorem zwe(n a:Nat)(h:a<2^n):(BitVec.ofInt n (a:Int)).toNat=a:=by
 rw[BitVec.toNat_ofInt]
 have h2:((a:Int)% ((2^n:Nat):Int))=((a % 2^n:Nat):Int):=by rfl
 rw[h2,Int.toNat_natCast,Nat.mod_eq_of_lt h]
theorem zza{k:IntKind}{a b:Nat}(ha:a<2^k.bits)(hb:b<2^k.bits):ibits .or k a b=k.wrap ((a|||b:Nat):Int):=by
 simp only[ibits,BitVec.toNat_or,zwe _ _ ha,zwe _ _ hb]
theorem zzs{x y:Int}(hx:zn x)(hy:zn y):ibits .or .i64 (zW zI (zW zI x*2^min (8:Int).toNat 64)) (zW zI y)=x*256+y:=by
 unfold zn at hx hy
 obtain⟨x,rfl⟩:=Int.eq_ofNat_of_zero_le hx.1
 obtain⟨y,rfl⟩:=Int.eq_ofNat_of_zero_le hy.1
 rw[z4k (by omega),z4k (by omega)]
 have h1:((x:Int)*(2:Int)^min (8:Int).toNat 64)=((x<<<8:Nat):Int):=by
  rw[Nat.shiftLeft_eq];rfl
 have h3:x<<<8=x*256:=by rw[Nat.shiftLeft_eq]
 rw[h1,z4k (by omega),zza (by simp only[IntKind.bits];omega) (by simp only[IntKind.bits];omega),←Nat.shiftLeft_add_eq_or_of_lt (by omega:y<2^8),h3,z4k (by omega)]
 omega
theorem z18m{b:List Int}(hb:∀x∈b,zn x)(i:Nat):zn (b.getD i 0):=by
 rw[List.getD_eq_getElem?_getD]
 cases h:b[i]? with
 |none=>exact⟨by simp,by simp⟩
 |some x=>exact hb x (List.mem_of_getElem? h)
abbrev Fr:=Int×Bool×List Int×Unit
end Groat

namespace Groat
open Go.IntKind renaming wrap→zW,i64→zI,u8→zU
open Go Go.Ref
section
variable {α:Type} [DecidableEq α]
theorem zpn(d:α)(eq:α→α→Bool)(heq:∀x y,eq x y=true↔x=y)(a b:List α)(hl:a.length=b.length)(h:a.length≤9223372036854775807)(L:Nat→Int→Option (Sum Bool Unit))
 (step:∀k (i:Int),L (k+1) i=bif decide (i<(a.length:Int)) then zd i a.length (zd i b.length (bif !(eq (a.getD i.toNat d) (b.getD i.toNat d)) then some (.inl false) else L k (zW zI (i+1)))) else some (.inr ())):
 ∀(m j k:Nat),j+m=a.length→m<k→L k j=some (if a.drop j=b.drop j then .inr () else .inl false)
 |0,j,k,hj,hk=>by
  obtain⟨k,rfl⟩:∃k',k=k'+1:=⟨k-1,by omega⟩
  rw[step,zF (by omega),List.drop_eq_nil_of_le (by omega),List.drop_eq_nil_of_le (by omega)]
  simp
 |m+1,j,k,hj,hk=>by
  obtain⟨k,rfl⟩:∃k',k=k'+1:=⟨k-1,by omega⟩
  have ha:j<a.length:=by omega
  have hb:j<b.length:=by omega
  rw[step,zT (by omega),zC,zj ha,zj hb,z18 (by omega),zpn d eq heq a b hl h L step m (j+1) k (by omega) (by omega),List.drop_eq_getElem_cons ha,List.drop_eq_getElem_cons hb,Int.toNat_natCast]
  have h1:a.getD j d=a[j]:=by rw[List.getD_eq_getElem?_getD,List.getElem?_eq_getElem ha];rfl
  have h2:b.getD j d=b[j]:=by rw[List.getD_eq_getElem?_getD,List.getElem?_eq_getElem hb];rfl
  rw[h1,h2]
  by_cases e:a[j]=b[j]
  ·rw[(heq _ _).2 e,e]
   simp only[List.cons.injEq,true_and,Bool.not_true,zD]
  ·have:eq a[j] b[j]=false:=by
    cases hh:eq a[j] b[j] with
    |false=>rfl
    |true=>exact absurd ((heq _ _).1 hh) e
   rw[this]
   simp only[List.cons.injEq,e,false_and,if_false,Bool.not_false,zC]
theorem zfj(d:α)(eq:α→α→Bool)(heq:∀x y,eq x y=true↔x=y)(a b:List α)(hl:a.length=b.length)(h:a.length≤maxLen)(L:Nat→Int→Option (Sum Bool Unit))
 (step:∀k (i:Int),L (k+1) i=bif decide (i<(a.length:Int)) then zd i a.length (zd i b.length (bif !(eq (a.getD i.toNat d) (b.getD i.toNat d)) then some (.inl false) else L k (zW zI (i+1)))) else some (.inr ())):
 L FUEL 0=some (if a=b then .inr () else .inl false):=by
 have:=zpn d eq heq a b hl (by rw[zh] at h;exact h) L step a.length 0 FUEL (by omega) (by rw[z14];rw[zh] at h;omega)
 simpa using this
end
end Groat

namespace Groat
open Go.IntKind renaming wrap→zW,i64→zI,u8→zU
open Go Go.Ref
theorem z1e6:nums.length=128:=by unfold nums;simp
end Groat

namespace Groat
open Go.IntKind renaming wrap→zW,i64→zI,u8→zU
open Go Go.Ref
abbrev Spec:=Int×Int×Int×Int×Int×Unit
abbrev zf:=Int×Int×List Spec×Unit
abbrev spec0:Spec:=(0,0,0,0,0,())
theorem zkb(c:Int):Q19 c=some (if c=1 then 1 else if c=2 then 2 else if c=3 then 3 else if c=4 then 7 else if c=5 then 15 else if c=6 then 15 else 0):=by
 unfold Q19 zn7
 simp only[z1h2]
 repeat' split
 all_goals rfl
theorem zl3(c:Int):Q16 c=some (decide (1≤c∧c≤6)):=by
 unfold Q16 zmy
 rw[zkb,zc]
 congr 1
 by_cases h1:c=1
 ·subst h1;rfl
 by_cases h2:c=2
 ·subst h2;rfl
 by_cases h3:c=3
 ·subst h3;rfl
 by_cases h4:c=4
 ·subst h4;rfl
 by_cases h5:c=5
 ·subst h5;rfl
 by_cases h6:c=6
 ·subst h6;rfl
 rw[if_neg h1,if_neg h2,if_neg h3,if_neg h4,if_neg h5,if_neg h6,zF (p:=1≤c∧c≤6) (by omega)]
 rfl
theorem Most2:Q183 2=some 99:=by kernel_rfl
theorem Most3:Q183 3=some 999:=by kernel_rfl
def specC(s:Spec):Int:=
 if s.1<2∨128<s.1 then 1 else if s.2.1<1∨6<s.2.1 then 6 else if s.2.2.1<1∨3<s.2.2.1 then 3
 else if s.2.2.2.1<1∨s.2.2.2.2.1<s.2.2.2.1∨(s.2.2.1=2∧99<s.2.2.2.2.1)∨999<s.2.2.2.2.1∨(s.2.2.1=1∧¬s.2.2.2.1=s.2.2.2.2.1) then 5
 else if s.2.2.1=1∧s.2.1=6 then 13 else 0
theorem z48(s:Spec):Q218 s=some (specC s):=by
 obtain⟨no,c,f,mn,mx,u⟩:=s
 unfold Q218 ziu specC
 simp only[zl3,zc]
 by_cases h1:no<2∨128<no
 ·rw[if_pos h1]
  rcases h1 with h|h
  ·rw[zT h];rfl
  ·rw[zT h];cases decide (no<2)<;>rfl
 rw[if_neg h1,zF (by omega),zF (by omega)]
 by_cases h2:c<1∨6<c
 ·rw[if_pos h2,zF (p:=1≤c∧c≤6) (by omega)];rfl
 rw[if_neg h2,zT (p:=1≤c∧c≤6) (by omega)]
 simp only[zD,Bool.not_true]
 by_cases h3:f<1∨3<f
 ·rw[if_pos h3]
  rcases h3 with h|h
  ·rw[zT h];rfl
  ·rw[zT h];cases decide (f<1)<;>rfl
 rw[if_neg h3,zF (by omega),zF (by omega)]
 simp only[zD]
 by_cases h4:mn<1∨mx<mn∨999<mx
 ·rw[if_pos (by omega)]
  by_cases a:mn<1
  ·rw[zT a];rfl
  rw[zF a]
  by_cases b:mx<mn
  ·rw[zT b];rfl
  rw[zF b,zT (by omega)];rfl
 rw[zF (by omega),zF (by omega),zF (by omega)]
 simp only[zD]
 by_cases f1:f=1
 ·rw[zT f1]
  simp only[zC,Bool.not_true,zD]
  by_cases e:mn=mx
  ·rw[zT e,if_neg (by omega)]
   by_cases e6:c=6
   ·rw[zT e6,if_pos (by omega)];rfl
   ·rw[zF e6,if_neg (by omega)];rfl
  ·rw[zF e,if_pos (by omega)];rfl
 ·rw[zF f1]
  simp only[zD,Bool.not_false,zC]
  by_cases f2:f=2
  ·subst f2
   rw[Most2,zc]
   by_cases h:99<mx
   ·rw[zT h,if_pos (by omega)];rfl
   ·rw[zF h,if_neg (by omega),if_neg (by omega)];rfl
  ·have f3:f=3:=by omega
   subst f3
   rw[Most3,zc,zF (by omega),if_neg (by omega),if_neg (by omega)];rfl
theorem z1r(s:Spec):Q94 s=some (specC s):=by
 obtain⟨no,c,f,mn,mx,u⟩:=s
 unfold Q94 z170 specC
 simp only
 by_cases h1:no<2∨128<no
 ·rw[if_pos h1]
  rcases h1 with h|h
  ·rw[zT h];rfl
  ·rw[zT h];cases decide (no<2)<;>rfl
 rw[if_neg h1,zF (by omega),zF (by omega)]
 by_cases h2:c<1∨6<c
 ·rw[if_pos h2]
  rcases h2 with h|h
  ·rw[zT h];rfl
  ·rw[zT h];cases decide (c<1)<;>rfl
 rw[if_neg h2,zF (by omega),zF (by omega)]
 by_cases h3:f<1∨3<f
 ·rw[if_pos h3]
  rcases h3 with h|h
  ·rw[zT h];rfl
  ·rw[zT h];cases decide (f<1)<;>rfl
 rw[if_neg h3,zF (by omega),zF (by omega)]
 simp only[zD]
 by_cases f1:f=1
 ·rw[zT f1,zF (by omega:¬f=2)]
  simp only[zC,zD]
  by_cases a:mn<1
  ·rw[zT a,if_pos (by omega)];rfl
  rw[zF a]
  by_cases b:mx<mn
  ·rw[zT b,if_pos (by omega)];rfl
  rw[zF b]
  by_cases d:999<mx
  ·rw[zT d,if_pos (by omega)];rfl
  rw[zF d]
  by_cases e:mn=mx
  ·rw[zT e,if_neg (by omega)]
   by_cases e6:c=6
   ·rw[zT e6,if_pos (by omega)];rfl
   ·rw[zF e6,if_neg (by omega)];rfl
  ·rw[zF e,if_pos (by omega)];rfl
 ·rw[zF f1]
  simp only[zD]
  by_cases f2:f=2
  ·rw[zT f2]
   simp only[zC]
   by_cases a:mn<1
   ·rw[zT a,if_pos (by omega)];rfl
   rw[zF a]
   by_cases b:mx<mn
   ·rw[zT b,if_pos (by omega)];rfl
   rw[zF b]
   by_cases d:99<mx
   ·rw[zT d,if_pos (by omega)];rfl
   rw[zF d,if_neg (by omega),if_neg (by omega)];rfl
  ·rw[zF f2]
   simp only[zD]
   by_cases a:mn<1
   ·rw[zT a,if_pos (by omega)];rfl
   rw[zF a]
   by_cases b:mx<mn
   ·rw[zT b,if_pos (by omega)];rfl
   rw[zF b]
   by_cases d:999<mx
   ·rw[zT d,if_pos (by omega)];rfl
   rw[zF d,if_neg (by omega),if_neg (by omega)];rfl
def z1k:List Spec→Int→Int→Int×Int
 | [],_,_=>(0,0)
 |x::r,i,last=>if specC x≠0 then(specC x,i) else if x.1≤last then(11,i) else z1k r (i+1) x.1
def z1a(s:zf):Int×Int:=
 if¬(s.1=1∨s.1=2) then(1,-1) else if s.2.1<0∨9<s.2.1 then(7,-1) else z1k s.2.2.1 0 0
theorem zbg{x:Spec}(h:specC x=0):2≤x.1∧x.1≤128:=by
 unfold specC at h
 split at h
 ·cases h
 ·omega
def excC(e:Sum (Int×Int) Unit):Option (Int×Int):=Sum.elim (fun we=>some (we.1,we.2)) (fun _=>some (0,0)) e
theorem z18k(l:List Spec):∀(i:Int) (last:Int),excC (if(z1k l i last).1=0 then .inr () else .inl (z1k l i last))=some (z1k l i last):=by
 intro i last
 by_cases h:(z1k l i last).1=0
 ·rw[if_pos h]
  have:z1k l i last=(0,0):=by
   induction l generalizing i last with
   |nil=>rfl
   |cons x r ih=>
    unfold z1k at h⊢
    split
    ·rename_i h1;rw[if_pos h1] at h;exact absurd h h1
    ·rename_i h1
     rw[if_neg h1] at h
     split
     ·rename_i h2;rw[if_pos h2] at h;cases h
     ·rename_i h2;rw[if_neg h2] at h;exact ih _ _ h
  rw[this];rfl
 ·rw[if_neg h];rfl
theorem z18n{l:List Spec}{j:Nat}(h:j<l.length):l.getD ((j:Int)).toNat ((0:Int),(0:Int),(0:Int),(0:Int),(0:Int),())=l[j]:=by
 rw[Int.toNat_natCast,List.getD_eq_getElem?_getD,List.getElem?_eq_getElem h];rfl
theorem check_loop(s:zf)(hl:s.2.2.1.length≤9223372036854775807):∀(m j k:Nat) (last:Int),j+m=s.2.2.1.length→m<k→(j=0→last=0)→(∀h:0<j,last=(s.2.2.1.getD (j-1) spec0).1)→
 z54 k s.2.2.1 (s.2.2.1.length:Int) j s=some (if(z1k (s.2.2.1.drop j) j last).1=0 then .inr () else .inl (z1k (s.2.2.1.drop j) j last)):=by
 intro m
 induction m with
 |zero=>
  intro j k last hj hk h0 h1
  obtain⟨k,rfl⟩:∃k',k=k'+1:=⟨k-1,by omega⟩
  rw[z54,z9q,zF (by omega),List.drop_eq_nil_of_le (by omega)];rfl
 |succ m ih=>
  intro j k last hj hk h0 h1
  obtain⟨k,rfl⟩:∃k',k=k'+1:=⟨k-1,by omega⟩
  have hlt:j<s.2.2.1.length:=by omega
  have ihj:=ih (j+1) k (s.2.2.1[j]).1 (by omega) (by omega) (by omega) (fun _=>by
   rw[Nat.add_sub_cancel,List.getD_eq_getElem?_getD,List.getElem?_eq_getElem hlt];rfl)
  rw[z54,z9q,zT (by omega),zC,zj hlt,z18n hlt,z48,zc,z18 (by omega),List.drop_eq_getElem_cons hlt]
  rw[show((j+1:Nat):Int)=(j:Int)+1 from rfl] at ihj⊢
  by_cases hc:specC s.2.2.1[j]=0
  ·rw[zT hc]
   simp only[Bool.not_true,zD]
   have hno:=zbg hc
   by_cases hz:j=0
   ·have hlast:=h0 hz
    have e:z1k (s.2.2.1[j]::s.2.2.1.drop (j+1)) j last=z1k (s.2.2.1.drop (j+1)) ((j:Int)+1) (s.2.2.1[j]).1:=by
     rw[z1k,if_neg (fun h=>h hc),if_neg (by omega)]
    rw[zF (by omega),zD,e]
    exact ihj
   ·have hlast:=h1 (by omega)
    have hi:zW zI ((j:Int)-1)=((j-1:Nat):Int):=by rw[zi (by omega) (by omega)];omega
    rw[zT (by omega),zC,hi,zj (by omega),Int.toNat_natCast]
    by_cases hn:(s.2.2.1[j]).1≤last
    ·have e:z1k (s.2.2.1[j]::s.2.2.1.drop (j+1)) j last=(11,(j:Int)):=by
      rw[z1k,if_neg (fun h=>h hc),if_pos hn]
     rw[e,zT (by rw[←hlast];exact hn)];rfl
    ·have e:z1k (s.2.2.1[j]::s.2.2.1.drop (j+1)) j last=z1k (s.2.2.1.drop (j+1)) ((j:Int)+1) (s.2.2.1[j]).1:=by
      rw[z1k,if_neg (fun h=>h hc),if_neg hn]
     rw[e,zF (by rw[←hlast];exact hn)]
     exact ihj
  ·have e:z1k (s.2.2.1[j]::s.2.2.1.drop (j+1)) j last=(specC s.2.2.1[j],(j:Int)):=by
    rw[z1k,if_pos hc]
   rw[zF hc,e,if_neg hc];rfl
theorem z7k(s:zf)(hl:s.2.2.1.length≤maxLen):Q210 s=some (z1a s):=by
 rw[zh] at hl
 unfold Q210 z77 z1a
 have hx:=z18k s.2.2.1 0 0
 have hl0:=check_loop s hl s.2.2.1.length 0 FUEL 0 (by omega) (by rw[z14];omega) (fun _=>rfl) (fun h=>absurd h (by omega))
 rw[List.drop_zero,show((0:Nat):Int)=0 from rfl] at hl0
 have hloop:(z54 FUEL s.2.2.1 (s.2.2.1.length:Int) 0 s).bind (fun e=>Sum.elim (fun(we:Int×Int)=>zii we.1 we.2 fun a0 a1=>some (a0,a1)) (fun(we:Unit)=>zij fun a0 a1=>some (a0,a1)) e)=some (z1k s.2.2.1 0 0):=by
  rw[hl0,zc];exact hx
 dsimp only
 rw[hloop]
 by_cases h1:s.1=1
 ·rw[zT h1,if_neg (by omega)]
  by_cases h2:s.2.1<0
  ·rw[zT h2,if_pos (.inl h2)];rfl
  ·rw[zF h2]
   by_cases h3:9<s.2.1
   ·rw[zT h3,if_pos (.inr h3)];rfl
   ·rw[zF h3,if_neg (by omega)];rfl
 ·rw[zF h1]
  by_cases h0:s.1=2
  ·rw[zT h0,if_neg (by omega)]
   by_cases h2:s.2.1<0
   ·rw[zT h2,if_pos (.inl h2)];rfl
   ·rw[zF h2]
    by_cases h3:9<s.2.1
    ·rw[zT h3,if_pos (.inr h3)];rfl
    ·rw[zF h3,if_neg (by omega)];rfl
  ·rw[zF h0,if_pos (by omega)];rfl
def findS(l:List Spec)(no:Int):Option Spec:=l.find? fun x=>decide (x.1=no)
theorem z1f2(s:zf)(no:Int)(hl:s.2.2.1.length≤maxLen):Q211 s no=some (match findS s.2.2.1 no with|some x=>(x,true)|none=>(spec0,false)):=by
 unfold Q211 zil findS
 dsimp only
 have h:=loopI spec0 s.2.2.1 hl (fun i x (_:Unit) K=>bif decide (x.1=no) then some (Sum.inl (true,x)) else K ()) (fun _=>some (.inr spec0)) (fun k i _=>z9r k no s.2.2.1 (s.2.2.1.length:Int) i spec0) (fun k i _=>rfl) ()
 rw[h,]
 clear h hl
 generalize(0:Int)=i
 generalize s.2.2.1=l
 induction l generalizing i with
 |nil=>rfl
 |cons x r ih=>
  rw[runI,List.find?_cons]
  cases hx:decide (x.1=no) with
  |true=>rfl
  |false=>exact ih (i+1)
theorem zvy(n:Int):hasN 0 0 n=false:=by unfold hasN;simp
def eqS(x y:Spec):Bool:=decide (x.1=y.1)&&(decide (x.2.1=y.2.1)&&(decide (x.2.2.1=y.2.2.1)&&(decide (x.2.2.2.1=y.2.2.2.1)&&(decide (x.2.2.2.2.1=y.2.2.2.2.1)&&true))))
theorem z1hi(x y:Spec):eqS x y=true↔x=y:=by
 obtain⟨a,b,c,d,e,u⟩:=x
 obtain⟨a',b',c',d',e',u'⟩:=y
 simp [eqS]
theorem zbe{a b:zf}:a=b↔a.1=b.1∧a.2.1=b.2.1∧a.2.2.1=b.2.2.1:=by
 obtain⟨x,y,z,u⟩:=a
 obtain⟨x',y',z',u'⟩:=b
 simp
instance:DecidableEq zf:=fun a b=>decidable_of_iff _ zbe.symm
theorem z171(a b:zf)(h:a.2.2.1.length≤maxLen):Q104 a b=some (decide (a=b)):=by
 unfold Q104 zfw
 dsimp only
 by_cases h1:a.1=b.1
 ·rw[zT h1]
  by_cases h2:a.2.1=b.2.1
  ·rw[zT h2]
   by_cases hl:a.2.2.1.length=b.2.2.1.length
   ·rw[zT (by omega)]
    simp only[Bool.not_true,zD]
    rw[zfj spec0 eqS z1hi a.2.2.1 b.2.2.1 hl h (fun k i=>z91 k i a b) (fun k i=>rfl)]
    by_cases e:a.2.2.1=b.2.2.1
    ·simp [zbe,h1,h2,e,zfy]
    ·simp [zbe,h1,h2,e,zfx]
   ·rw[zF (by omega)]
    have:¬a=b:=fun e=>hl (by rw[e])
    simp [this]
  ·have:¬a=b:=fun e=>h2 (by rw[e])
   rw[zF h2,zF this];rfl
 ·have:¬a=b:=fun e=>h1 (by rw[e])
  rw[zF h1,zF this];rfl
theorem z14b(s:zf)(h:s.2.2.1.length≤1000000):Q101 s=some s:=by
 unfold Q101 zfu
 rw[zT (by simp;omega)];rfl
def z6z(l:List Spec)(last:Int):Prop:=(∀x∈l,specC x=0)∧(l.Pairwise fun x y=>x.1<y.1)∧∀x∈l,last<x.1
theorem z19x(l:List Spec):∀(i last:Int),(z1k l i last).1=0↔z6z l last:=by
 induction l with
 |nil=>intro i last;simp [z1k,z6z]
 |cons x r ih=>
  intro i last
  unfold z1k
  by_cases hc:specC x=0
  ·rw[if_neg (fun h=>h hc)]
   by_cases hn:x.1≤last
   ·rw[if_pos hn]
    constructor
    ·intro h;cases h
    ·intro⟨_,_,h3⟩;have:=h3 x (by simp);omega
   ·rw[if_neg hn,ih]
    constructor
    ·intro⟨h1,h2,h3⟩
     refine⟨fun y hy=> ?_,List.pairwise_cons.2 ⟨h3,h2⟩,fun y hy=> ?_⟩
     ·rcases List.mem_cons.1 hy with rfl|hy
      ·exact hc
      ·exact h1 y hy
     ·rcases List.mem_cons.1 hy with rfl|hy
      ·omega
      ·have:=h3 y hy;omega
    ·intro⟨h1,h2,h3⟩
     obtain⟨h4,h5⟩:=List.pairwise_cons.1 h2
     exact⟨fun y hy=>h1 y (by simp [hy]),h5,h4⟩
  ·rw[if_pos hc]
   constructor
   ·intro h;exact absurd h hc
   ·intro⟨h1,_,_⟩;exact absurd (h1 x (by simp)) hc
def Okay(s:zf):Prop:=(s.1=1∨s.1=2)∧0≤s.2.1∧s.2.1≤9∧z6z s.2.2.1 0
theorem z2b(s:zf):(z1a s).1=0↔Okay s:=by
 unfold z1a Okay
 by_cases h1:s.1=1∨s.1=2
 ·rw[if_neg (fun h=>h h1)]
  by_cases h2:s.2.1<0∨9<s.2.1
  ·rw[if_pos h2]
   constructor
   ·intro h;cases h
   ·intro⟨_,a,b,_⟩;omega
  ·rw[if_neg h2,z19x]
   constructor
   ·intro h;exact⟨h1,by omega,by omega,h⟩
   ·intro⟨_,_,_,h⟩;exact h
 ·rw[if_pos h1]
  constructor
  ·intro h;cases h
  ·intro⟨a,_⟩;exact absurd a h1
theorem z6z.filter{l:List Spec}{last:Int}(h:z6z l last)(p:Spec→Bool):z6z (l.filter p) last:=
 ⟨fun x hx=>h.1 x (List.mem_filter.1 hx).1,h.2.1.filter p,fun x hx=>h.2.2 x (List.mem_filter.1 hx).1⟩
end Groat

namespace Groat
open Go.IntKind renaming wrap→zW,i64→zI,u8→zU
open Go Go.Ref
abbrev Pair:=ByteArray×ByteArray×Unit
def pair0:Pair:=(bs [],bs [],())
instance memDec (a:ByteArray) (l:List ByteArray):Decidable (a∈l):=decidable_of_iff (l.any (fun x=>decide (a=x))=true) (by
 rw[List.any_eq_true]
 exact⟨fun⟨x,hx,h⟩=>of_decide_eq_true h▸hx,fun h=>⟨a,h,zT rfl⟩⟩)
def exI(r:Int):Sum Int Unit:=if r= -1 then .inr () else .inl r
theorem z122(j:Nat):exI (j:Int)= .inl (j:Int):=if_neg (by omega)
def seenM{K:Type}(l:List K):List (K×Bool):=l.map fun k=>(k,true)
theorem z8d{K:Type}[DecidableEq K](eq:K→K→Bool)(heq:∀x y,eq x y=decide (x=y))(k:K):∀l:List K,mget eq false (seenM l) k=true↔k∈l
 | []=>by simp [seenM,mget]
 |x::l=>by
  simp only[seenM,List.map_cons,mget,heq]
  by_cases h:k=x
  ·rw[zT h,zC];exact⟨fun _=>by rw[h];exact List.mem_cons_self,fun _=>rfl⟩
  ·rw[zF h,zD]
   have:=z8d eq heq k l
   simp only[seenM] at this
   rw[this]
   exact⟨fun h'=>List.mem_cons_of_mem _ h',fun h'=>(List.mem_cons.1 h').resolve_left h⟩
theorem z8e{K:Type}[DecidableEq K](eq:K→K→Bool)(heq:∀x y,eq x y=decide (x=y))(k:K):∀l:List K,mhas eq (seenM l) k=true↔k∈l
 | []=>by simp [seenM,mhas]
 |x::l=>by
  simp only[seenM,List.map_cons,mhas,heq]
  by_cases h:k=x
  ·rw[zT h,zC];exact⟨fun _=>by rw[h];exact List.mem_cons_self,fun _=>rfl⟩
  ·rw[zF h,zD]
   have:=z8e eq heq k l
   simp only[seenM] at this
   rw[this]
   exact⟨fun h'=>List.mem_cons_of_mem _ h',fun h'=>(List.mem_cons.1 h').resolve_left h⟩
theorem z58{b:Bool}{p:Prop}(h:b=true↔p)(hp:¬p):b=false:=by cases b with
 |false=>rfl
 |true=>exact absurd (h.1 rfl) hp
theorem z84{K:Type}(l:List K)(k:K):seenM l++ [(k,true)]=seenM (l++ [k]):=by simp [seenM]
def dupP:List ByteArray→List Pair→Int→Option Int
 |_,[],_=>none
 |seen,p::r,i=>if p.1∈seen then some i else dupP (seen++ [p.1]) r (i+1)
def z3v(l:List Pair):Int×Int:=if 256<l.length then(5,256) else match dupP [] l 0 with
 |some i=>(10,i)
 |none=>(0,0)
def dupR(o:Option Int):Option (Sum (Int×Int) Unit):=some (match o with
 |some i=> .inl (10,i)
 |none=> .inr ())
theorem zu4(l:List Pair):∀(i:Int) (seen:List ByteArray),
 runI (fun i (x:Pair) (s:List Zt5) K=>bif mget (eqK .str) false s x.1 then some (Sum.inl ((10:Int),i)) else bif mhas (eqK .str) s x.1 then none else K (s++ [(x.1,true)])) (fun _=>some (Sum.inr ())) l i (seenM seen)=dupR (dupP seen l i):=by
 induction l with
 |nil=>intro i seen;rfl
 |cons p r ih=>
  intro i seen
  simp only[runI,dupP]
  have e1:=z8d (eqK .str) (fun _ _=>rfl) p.1 seen
  have e2:=z8e (eqK .str) (fun _ _=>rfl) p.1 seen
  by_cases h:p.1∈seen
  ·rw[e1.2 h,if_pos h];rfl
  ·rw[z58 e1 h,z58 e2 h,if_neg h,zD,zD,z84]
   exact ih (i+1) (seen++ [p.1])
theorem z6o(l:List Pair)(h:l.length≤maxLen):Q22 l=some (z3v l):=by
 unfold Q22 znl z3v
 dsimp only
 by_cases hl:256<l.length
 ·rw[zT (by omega),zC,if_pos hl]
 ·rw[zF (by omega),zD,if_neg hl]
  have:=loopI pair0 l h (fun i (x:Pair) (s:List Zt5) K=>bif mget (eqK .str) false s x.1 then some (Sum.inl ((10:Int),i)) else bif mhas (eqK .str) s x.1 then none else K (s++ [(x.1,true)])) (fun _=>some (Sum.inr ()))
   (fun k i s=>zdm k l (l.length:Int) i s) (fun k i s=>rfl) []
  rw[this]
  have h2:=zu4 l 0 []
  rw[show seenM ([]:List ByteArray)=[] from rfl] at h2
  rw[h2]
  unfold dupR
  cases dupP [] l 0<;>rfl
def zo(l:List Pair)(f:ByteArray):ByteArray×Bool:=match l.find? fun p=>decide (p.1=f) with
 |some p=>(p.2.1,true)
 |none=>(bs [],false)
theorem zaa(f:ByteArray)(l:List Pair):∀(i:Int),runI (fun i (x:Pair) (s:Unit) K=>bif decide (x.1=f) then some (Sum.inl (x.2.1,true)) else K s) (fun _=>some (Sum.inr ())) l i ()=some (match l.find? fun p=>decide (p.1=f) with
 |some p=> .inl (p.2.1,true)
 |none=> .inr ()):=by
 induction l with
 |nil=>intro i;rfl
 |cons p r ih=>
  intro i
  simp only[runI,List.find?_cons]
  by_cases h:p.1=f
  ·rw[zT h];rfl
  ·rw[zF h,zD];exact ih (i+1)
theorem zx3(l:List Pair)(f:ByteArray)(h:l.length≤maxLen):Q20 l f=some (zo l f):=by
 unfold Q20 zna zo
 dsimp only
 have:=loopI pair0 l h (fun i (x:Pair) (s:Unit) K=>bif decide (x.1=f) then some (Sum.inl (x.2.1,true)) else K s) (fun _=>some (Sum.inr ()))
  (fun k i s=>zd7 k f l (l.length:Int) i) (fun k i s=>rfl) ()
 rw[this,zaa]
 cases l.find? fun p=>decide (p.1=f)<;>rfl
def turnP(l:List Pair):List Pair:=l.map fun p=>(p.2.1,p.1,())
theorem z8i(l:List Pair):(turnP l).length=l.length:=by simp [turnP]
theorem z1et(l:List Pair)(fin:List Pair→Option (List Pair))(hf:∀s,fin s=some s):∀(i:Int) (o:List Pair),o.length+l.length≤1099511627776→
 runI (fun i (x:Pair) (s:List Pair) K=>bif decide ((s.length+(List.length ([(x.2.1,x.1,())]:List Pair)))*32≤140737488355328) then K (s++ [(x.2.1,x.1,())]) else none) fin l i o=some (o++turnP l):=by
 induction l with
 |nil=>intro i o _;simp only[runI,hf];simp [turnP]
 |cons p r ih=>
  intro i o h
  simp only[List.length_cons] at h
  simp only[runI]
  rw[zT (by simp;omega),zC,ih (i+1) _ (by simp;omega)]
  simp [turnP]
theorem z7u(l:List Pair)(h:l.length≤1000000):Q23 l=some (turnP l):=by
 unfold Q23 znp
 dsimp only
 have:=loopI pair0 l (by rw[zh];omega) (fun i (x:Pair) (s:List Pair) K=>bif decide ((s.length+(List.length ([(x.2.1,x.1,())]:List Pair)))*32≤140737488355328) then K (s++ [(x.2.1,x.1,())]) else none) (fun s=>some s)
  (fun k i s=>zdq k s l (l.length:Int) i) (fun k i s=>rfl) []
 rw[zT (by omega),zC,zT (by omega),zC]
 rw[this,z1et l _ (fun _=>rfl) 0 [] (by simp;omega),List.nil_append,Option.bind_some]
 rfl
def bij(l:List Pair):Bool:=decide ((z3v l).1=0∧(z3v (turnP l)).1=0)
theorem zki(l:List Pair)(h:l.length≤1000000):Q21 l=some (bij l):=by
 unfold Q21 zng
 dsimp only
 rw[z6o l (by rw[zh];omega),Option.bind_some,z7u l h,Option.bind_some,z6o _ (by rw[z8i,zh];omega),Option.bind_some]
 unfold bij
 by_cases h1:(z3v l).1=0
 ·rw[zT h1,zC];congr 1;exact decide_eq_decide.2 ⟨fun h2=>⟨h1,h2⟩,fun h2=>h2.2⟩
 ·rw[zF h1,zD];congr 1;symm;exact zF fun h2=>h1 h2.1
def eqP(x y:Pair):Bool:=decide (x.1=y.1)&&(decide (x.2.1=y.2.1)&&true)
theorem z1hh(x y:Pair):eqP x y=true↔x=y:=by
 obtain⟨a,b,u⟩:=x
 obtain⟨c,d,v⟩:=y
 simp [eqP]
theorem zut(a b:List Pair)(h:a.length≤maxLen):Q122 a b=some (decide (a=b)):=by
 unfold Q122 zg3
 dsimp only
 by_cases hl:a.length=b.length
 ·rw[zT (by omega)]
  simp only[Bool.not_true,zD]
  rw[zfj pair0 eqP z1hh a b hl h (fun k i=>z92 k a b i) (fun k i=>rfl)]
  by_cases he:a=b<;>simp [he,zg4,zg5]
 ·rw[zF (by omega)]
  rw[zF (fun e=>hl (by rw[e]))]
  rfl
theorem zup(l:List Pair)(h:l.length≤1000000):Q121 l=some l:=by
 unfold Q121 zg1
 rw[zT (by simp;omega),zC,List.nil_append]
end Groat

namespace Groat
open Go.IntKind renaming wrap→zW,i64→zI,u8→zU
open Go Go.Ref
def isC(c b:Int):Bool:=
 if c=1 then decide (48≤b∧b≤57)
 else if c=2 then decide (65≤b∧b≤90∨97≤b∧b≤122)
 else if c=3 then decide (48≤b∧b≤57∨65≤b∧b≤90∨97≤b∧b≤122)
 else if c=4 then decide (32≤b∧b≤126)
 else decide (c=5∨c=6)
def setsV(c:Int):Int:=if c=1 then 1 else if c=2 then 2 else if c=3 then 3 else if c=4 then 7 else if c=5 then 15 else if c=6 then 15 else 0
theorem z1kc:∀c:Fin 7,∀b:Fin 256,Q74 (c.1:Int) (b.1:Int)=some (isC (c.1:Int) (b.1:Int)):=by decide+kernel
theorem z19b:∀c:Fin 7,∀b:Fin 256,(Q18 (b.1:Int)).map (fun r=>decide (ibits .and .i64 (setsV (c.1:Int)) r=0))=some (!isC (c.1:Int) (b.1:Int)):=by decide+kernel
theorem zv9(c:Int):(∃k:Fin 7,c=(k.1:Int))∨(c≠1∧c≠2∧c≠3∧c≠4∧c≠5∧c≠6):=by
 by_cases h:0≤c∧c≤6
 ·exact .inl ⟨⟨c.toNat,by omega⟩,by simp;omega⟩
 ·exact .inr ⟨by omega,by omega,by omega,by omega,by omega,by omega⟩
theorem z1i{b:Int}(h:zn b):∃k:Fin 256,b=(k.1:Int):=by
 unfold zn at h
 exact⟨⟨b.toNat,by omega⟩,by simp;omega⟩
theorem z1f4(c:Int){b:Int}(hb:zn b):Q74 c b=some (isC c b):=by
 obtain⟨b,rfl⟩:=z1i hb
 rcases zv9 c with⟨k,rfl⟩|⟨h1,h2,h3,h4,h5,h6⟩
 ·exact z1kc k b
 ·unfold Q74 z16w isC
  simp only[h1,h2,h3,h4,h5,h6,decide_false,zD,if_false,or_self,Bool.cond_self]
theorem z19a(c:Int){b:Int}(hb:zn b):∃r,Q18 b=some r∧decide (ibits .and .i64 (setsV c) r=0)= !isC c b:=by
 obtain⟨b,rfl⟩:=z1i hb
 rcases zv9 c with⟨k,rfl⟩|⟨h1,h2,h3,h4,h5,h6⟩
 ·have:=z19b k b
  cases hc:Q18 (b.1:Int) with
  |none=>rw[hc] at this;cases this
  |some r=>rw[hc] at this;exact⟨r,rfl,by simpa using this⟩
 ·have:=z19b 0 b
  cases hc:Q18 (b.1:Int) with
  |none=>rw[hc] at this;cases this
  |some r=>
   rw[hc] at this
   refine⟨r,rfl,?_⟩
   have e1:setsV c=setsV ((0:Fin 7).1:Int):=by unfold setsV;simp [h1,h2,h3,h4,h5,h6]
   have e2:isC c (b.1:Int)=isC ((0:Fin 7).1:Int) (b.1:Int):=by unfold isC;simp [h1,h2,h3,h4,h5,h6]
   rw[e1,e2]
   simpa using this
def z31(c:Int):List Int→Int→Int
 | [],_=> -1
 |b::r,i=>if isC c b=true then z31 c r (i+1) else i
theorem zkl(c:Int):∀(l:List Int) (i:Int),0≤i→(0≤z31 c l i↔¬l.all (isC c)=true)
 | [],i,_=>by simp [z31]
 |b::r,i,hi=>by
  simp only[z31,List.all_cons]
  cases h:isC c b with
  |true=>rw[if_pos rfl,zkl c r (i+1) (by omega),Bool.true_and]
  |false=>simp [hi]
theorem zox(c:Int)(s:ByteArray)(hs:s.size≤9223372036854775807):∀(n j k:Nat),j+n=s.size→n<k→z7m k s (setsV c) (j:Int)=some (exI (z31 c ((bl s).drop j) j))
 |n,j,0,_,hk=>by omega
 |0,j,k+1,hj,hk=>by
  unfold z7m zci
  rw[zF (by omega),List.drop_eq_nil_of_le (by rw[zg];omega)];rfl
 |n+1,j,k+1,hj,hk=>by
  have hlt:j<s.size:=by omega
  have hl:j<(bl s).length:=by rw[zg];exact hlt
  have hb:zn ((bl s)[j]):=z1p (List.getElem_mem hl)
  have hg:(bl s).getD j 0=(bl s)[j]:=by rw[List.getD_eq_getElem?_getD,List.getElem?_eq_getElem hl];rfl
  unfold z7m zci
  rw[zT (by omega),zC,zj hlt,Int.toNat_natCast,z22,hg,List.drop_eq_getElem_cons hl]
  obtain⟨r,h1,h2⟩:=z19a c hb
  rw[h1,Option.bind_some,h2]
  simp only[z31]
  cases h:isC c (bl s)[j] with
  |true=>rw[if_pos rfl,Bool.not_true,zD,z18 (by omega),zox c s hs n (j+1) k (by omega) (by omega)];rfl
  |false=>rw[if_neg (by simp),Bool.not_false,zC,z122]
theorem z1ao(c:Int)(s:ByteArray)(h:s.size≤maxLen):Q15 c s=some (z31 c (bl s) 0):=by
 rw[zh] at h
 unfold Q15 zmu
 dsimp only
 rw[zkb,Option.bind_some]
 have:=zox c s h s.size 0 FUEL (by omega) (by rw[z14];omega)
 rw[show((0:Nat):Int)=(0:Int) from rfl,List.drop_zero] at this
 rw[show(if c=1 then 1 else if c=2 then 2 else if c=3 then 3 else if c=4 then 7 else if c=5 then 15 else if c=6 then 15 else 0:Int)=setsV c from rfl,this,Option.bind_some]
 unfold exI
 by_cases h:z31 c (bl s) 0= -1
 ·rw[if_pos h,h];rfl
 ·rw[if_neg h];rfl
theorem zez(c:Int)(s:ByteArray)(hs:s.size≤9223372036854775807):∀(n j k:Nat),j+n=s.size→n<k→ze7 k c s (j:Int)=some (exI (z31 c ((bl s).drop j) j))
 |n,j,0,_,hk=>by omega
 |0,j,k+1,hj,hk=>by
  unfold ze7 zy2
  rw[zF (by omega),List.drop_eq_nil_of_le (by rw[zg];omega)];rfl
 |n+1,j,k+1,hj,hk=>by
  have hlt:j<s.size:=by omega
  have hl:j<(bl s).length:=by rw[zg];exact hlt
  have hb:zn ((bl s)[j]):=z1p (List.getElem_mem hl)
  have hg:(bl s).getD j 0=(bl s)[j]:=by rw[List.getD_eq_getElem?_getD,List.getElem?_eq_getElem hl];rfl
  unfold ze7 zy2
  rw[zT (by omega),zC,zj hlt,Int.toNat_natCast,z22,hg,List.drop_eq_getElem_cons hl,z1f4 c hb,Option.bind_some]
  simp only[z31]
  cases h:isC c (bl s)[j] with
  |true=>rw[if_pos rfl,Bool.not_true,zD,z18 (by omega),zez c s hs n (j+1) k (by omega) (by omega)];rfl
  |false=>rw[if_neg (by simp),Bool.not_false,zC,z122]
theorem zam(c:Int)(s:ByteArray)(h:s.size≤maxLen):Q73 c s=some (z31 c (bl s) 0):=by
 rw[zh] at h
 unfold Q73 z16v
 dsimp only
 have:=zez c s h s.size 0 FUEL (by omega) (by rw[z14];omega)
 rw[show((0:Nat):Int)=(0:Int) from rfl,List.drop_zero] at this
 rw[this,Option.bind_some]
 unfold exI
 by_cases h:z31 c (bl s) 0= -1
 ·rw[if_pos h,h];rfl
 ·rw[if_neg h];rfl
def z5p(a b:Int):Bool:=decide (1≤a∧a≤6∧1≤b∧b≤6)&&decide (ibits .andNot .i64 (setsV b) (setsV a)=0)
theorem z1cg(a b:Int):Q17 a b=some (z5p a b):=by
 unfold Q17 zn3 z5p
 rw[zl3,Option.bind_some]
 by_cases ha:1≤a∧a≤6
 ·rw[zT ha,zC,zl3,Option.bind_some]
  by_cases hb:1≤b∧b≤6
  ·rw[zT hb,zC,zkb,Option.bind_some,zkb,Option.bind_some,zT (show 1≤a∧a≤6∧1≤b∧b≤6 from⟨ha.1,ha.2,hb.1,hb.2⟩),Bool.true_and]
   rfl
  ·rw[zF hb,zD,zF (fun h=>hb h.2.2)];rfl
 ·rw[zF ha,zD,zF (fun h=>ha ⟨h.1,h.2.1⟩)];rfl
theorem z1ah:∀a b:Fin 7,Q75 (a.1:Int) (b.1:Int)=some (z5p (a.1:Int) (b.1:Int)):=by decide+kernel
theorem zp6{c:Int}(h:1≤c∧c≤6):∃k:Fin 7,c=(k.1:Int):=⟨⟨c.toNat,by omega⟩,by simp;omega⟩
theorem zap(a b:Int):Q75 a b=some (z5p a b):=by
 by_cases h:(1≤a∧a≤6)∧(1≤b∧b≤6)
 ·obtain⟨k,rfl⟩:=zp6 h.1
  obtain⟨m,rfl⟩:=zp6 h.2
  exact z1ah k m
 ·unfold Q75 z16y z5p
  rw[show decide (1≤a∧a≤6∧1≤b∧b≤6)=false from zF (fun h'=>h ⟨⟨h'.1,h'.2.1⟩,h'.2.2⟩),Bool.false_and]
  by_cases h1:a<1
  ·rw[zT h1];rfl
  ·by_cases h2:(6:Int)<a
   ·rw[zF h1,zT h2];rfl
   ·by_cases h3:b<1
    ·rw[zF h1,zF h2,zT h3];rfl
    ·have h4:(6:Int)<b:=by omega
     rw[zF h1,zF h2,zF h3,zT h4];rfl
end Groat

namespace Groat
open Go.IntKind renaming wrap→zW,i64→zI,u8→zU
open Go Go.Ref
theorem z1w(s:ByteArray)(i:Nat):zn (ze s i):=by
 rw[z22]
 exact z18m (fun x hx=>z1p hx) i
theorem zvu:∀b:Fin 256,Q231 (b.1:Int)=some (decide (Q89 (b.1:Int)≠some 0)):=by decide+kernel
theorem zb6:∀b:Fin 256,Q89 (b.1:Int)=some 0∨(Q89 (b.1:Int)=some 1∧decide (ibits .and .i64 (b.1:Int) 31=31)=false)∨(Q89 (b.1:Int)=some 2∧decide (ibits .and .i64 (b.1:Int) 31=31)=true):=by decide+kernel
theorem z1k4(x y:Nat)(hx:x<256)(hy:y<256):ibits .and .i64 (((x:Int)*256)+(y:Int)) 255=(y:Int):=by
 have:((x:Int)*256+(y:Int))=((x*256+y:Nat):Int):=by omega
 rw[this,show(255:Int)=((255:Nat):Int) from rfl,z1gz (by omega) (by omega)]
 congr 1
 rw[show(255:Nat)=2^8-1 from rfl,Nat.and_two_pow_sub_one_eq_mod]
 omega
theorem shr8(x y:Nat)(hx:x<256)(hy:y<256):Int.fdiv ((x:Int)*256+(y:Int)) (2^min ((8:Int)).toNat 64)=(x:Int):=by
 have:((x:Int)*256+(y:Int))=((x*256+y:Nat):Int):=by omega
 rw[this,show(8:Int)=((8:Nat):Int) from rfl,z7x _ 8 (by omega)]
 congr 1
 omega
theorem z19p(x:Fin 256)(hx:Q89 (x.1:Int)=some 2)(y:Fin 256):Q230 ((x.1:Int)*256+(y.1:Int))=some (decide (1≤(y.1:Int)∧(y.1:Int)≤127)):=by
 have hx0:x.1≠0:=fun e=>by
  have:x=0:=Fin.ext e
  subst this
  revert hx
  decide+kernel
 have h31:decide (ibits .and .i64 (x.1:Int) 31=31)=true:=by
  rcases zb6 x with h|⟨h,_⟩|⟨_,h⟩
  ·rw[h] at hx;cases hx
  ·rw[h] at hx;cases hx
  ·exact h
 have hf:Q231 (x.1:Int)=some true:=by rw[zvu x,hx];rfl
 unfold Q230 zjb
 rw[shr8 x.1 y.1 x.2 y.2,z1k4 x.1 y.1 x.2 y.2,zF (by have:=x.2;have:=y.2;omega),zD,zT (by have:=x.2;have:=y.2;omega),zC,hf,Option.bind_some,zC,h31,zC]
 by_cases h1:(1:Int)≤(y.1:Int)
 ·rw[zT h1,zC]
  congr 1
  exact decide_eq_decide.2 ⟨fun h=>⟨h1,h⟩,fun h=>h.2⟩
 ·rw[zF h1,zD]
  congr 1
  exact(zF fun h=>h1 h.1).symm
theorem z1a2(s:ByteArray)(hs:s.size≤9223372036854775000)(a:Int):Q229 s a=Q90 s a:=by
 unfold Q229 zja Q90 zy3
 by_cases h1:a<0
 ·rw[zT h1];rfl
 rw[zF h1,zD,zD]
 by_cases h2:(s.size:Int)<a
 ·rw[zT h2];rfl
 rw[zF h2,zD,zD]
 by_cases h3:a=(s.size:Int)
 ·rw[zT h3];rfl
 have wa:∀{R:Type} (x:Option R),zd a s.size x=x:=fun x=>zr (by omega) (by omega)
 rw[zF h3,zD,zD]
 simp only[wa]
 obtain⟨x,hx⟩:=z1i (z1w s a.toNat)
 obtain⟨y,hy⟩:=z1i (z1w s (zW zI (a+1)).toNat)
 have hx2:=x.2
 have hy2:=y.2
 have ob:=zzs (z1w s a.toNat) (z1w s (zW zI (a+1)).toNat)
 rw[hx,hy] at ob
 have w1:zW zI (a+1)=a+1:=zi (by omega) (by omega)
 have w2:zW zI (x.1:Int)=(x.1:Int):=zi (by omega) (by omega)
 have w3:zW zI (y.1:Int)=(y.1:Int):=zi (by omega) (by omega)
 have w4:zW zI ((s.size:Int)-a)=(s.size:Int)-a:=zi (by omega) (by omega)
 rw[hx,hy,w2,zvu x,Option.bind_some]
 rw[w2] at ob
 rcases zb6 x with h|⟨h,h31⟩|⟨h,h31⟩
 ·rw[h];rfl
 ·rw[h,Option.bind_some,h31];rfl
 ·rw[h,Option.bind_some,h31,ob,z19p x h y,Option.bind_some,w1,w4,w3]
  by_cases h4:a+1=(s.size:Int)
  ·rw[zT h4,zT (by omega:(s.size:Int)-a<2)];rfl
  ·have w5:zW zI (256*(x.1:Int))=256*(x.1:Int):=zi (by omega) (by omega)
   have w6:zW zI (256*(x.1:Int)+(y.1:Int))=(x.1:Int)*256+(y.1:Int):=by rw[zi (by omega) (by omega)];omega
   rw[zF h4,zF (by omega:¬(s.size:Int)-a<2),w5,w6]
   have wb:∀{R:Type} (x:Option R),zd (a+1) s.size x=x:=fun x=>zr (by omega) (by omega)
   simp only[wb]
   by_cases h5:(y.1:Int)=0
   ·rw[zT h5,zF (by omega:¬(1≤(y.1:Int)∧(y.1:Int)≤127))];rfl
   ·by_cases h6:(127:Int)<(y.1:Int)
    ·rw[zF h5,zT h6,zF (by omega:¬(1≤(y.1:Int)∧(y.1:Int)≤127))];rfl
    ·rw[zF h5,zF h6,zT (by omega:1≤(y.1:Int)∧(y.1:Int)≤127)];rfl
end Groat

namespace Groat
open Go.IntKind renaming wrap→zW,i64→zI,u8→zU
open Go Go.Ref
def hexD(b:Int):Int:=if 48≤b∧b≤57 then b-48 else if 65≤b∧b≤70 then b-55 else-1
def hexL(d:Int):Int:=if d<10 then 48+d else 55+d
def hexP:List Int→List Int
 | []=>[]
 |x::r=>hexL (x/16)::hexL (x % 16)::hexP r
def hexG:List Int→List Int
 |a::b::r=>(16*hexD a+hexD b)::hexG r
 |_=>[]
def badX:List Int→Int→Option Int
 | [],_=>none
 |a::r,i=>if hexD a<0 then some i else badX r (i+1)
def z28(s:ByteArray):ByteArray×Int×Bool:=match badX (bl s) 0 with
 |some i=>(bs [],i,false)
 |none=>if s.size % 2=1 then(bs [],(s.size:Int),false) else(strOf (hexG (bl s)),0,true)
def z3i(s:ByteArray):ByteArray:=strOf (hexP (bl s))
abbrev LET:ByteArray:=bs [48,49,50,51,52,53,54,55,56,57,65,66,67,68,69,70]
theorem z1k8:∀b:Fin 256,Q158 (b.1:Int)=some (if hexD (b.1:Int)<0 then((0:Int),false) else(hexD (b.1:Int),true)):=by decide+kernel
theorem z1dn:∀b:Fin 256,hexD (b.1:Int)<16∧(hexD (b.1:Int)<0∨0≤hexD (b.1:Int)):=by decide+kernel
theorem zk9:∀b:Fin 256,Int.fdiv (b.1:Int) (2^min ((4:Int)).toNat 8)=((b.1/16:Nat):Int)∧ibits .and .u8 (b.1:Int) (15:Int)=((b.1 % 16:Nat):Int)∧zW zU (Int.tdiv (b.1:Int) (16:Int))=((b.1/16:Nat):Int)∧Int.tmod (b.1:Int) (16:Int)=((b.1 % 16:Nat):Int):=by decide+kernel
theorem z12d:∀d:Fin 16,ze LET d.1=hexL (d.1:Int):=by decide+kernel
theorem z1dm:∀a b:Fin 16,zW zU (ibits .or .i64 (zW zI ((a.1:Int)*2^min ((4:Int)).toNat 64)) (b.1:Int))=16*(a.1:Int)+(b.1:Int)∧zW zU (zW zI (zW zI ((16:Int)*(a.1:Int))+(b.1:Int)))=16*(a.1:Int)+(b.1:Int):=by decide+kernel
theorem hexB{x y:Int}(h1:0≤x)(h2:x<16)(h3:0≤y)(h4:y<16):zW zU (ibits .or .i64 (zW zI (x*2^min ((4:Int)).toNat 64)) y)=16*x+y∧zW zU (zW zI (zW zI ((16:Int)*x)+y))=16*x+y:=by
 have:=z1dm ⟨x.toNat,by omega⟩ ⟨y.toNat,by omega⟩
 simpa [Int.toNat_of_nonneg h1,Int.toNat_of_nonneg h3] using this
theorem zua{b:Int}(h:zn b):hexD b<16:=by
 obtain⟨k,rfl⟩:=z1i h
 exact(z1dn k).1
theorem z1d7{b:Int}(h:zn b):Q158 b=some (if hexD b<0 then((0:Int),false) else(hexD b,true)):=by
 obtain⟨k,rfl⟩:=z1i h
 exact z1k8 k
theorem zxf:LET.size=16:=by decide
theorem nib{b:Int}(h:zn b):∃k:Fin 256,b=(k.1:Int)∧ze LET (b.toNat/16)=hexL (b/16)∧ze LET (b.toNat % 16)=hexL (b % 16):=by
 obtain⟨k,rfl⟩:=z1i h
 have h1:=z12d ⟨k.1/16,by omega⟩
 have h2:=z12d ⟨k.1 % 16,by omega⟩
 exact⟨k,rfl,by simpa using h1,by simpa using h2⟩
theorem zaf{s:ByteArray}{j:Nat}(h:j<(bl s).length):ze s j=(bl s)[j]:=by rw[z22,List.getD_eq_getElem?_getD,List.getElem?_eq_getElem h];rfl
theorem zkq(s:ByteArray)(hs:s.size≤1099511627776):∀(n j k:Nat) (o:List Int),j+n=s.size→n<k→o.length+2*n≤35184372088832→z5w k s o (j:Int)=some (o++hexP ((bl s).drop j))
 |n,j,0,o,_,hk,_=>by omega
 |0,j,k+1,o,hj,hk,_=>by
  unfold z5w z9c
  rw[zF (by omega),zD,List.drop_eq_nil_of_le (by rw[zg];omega),hexP,List.append_nil]
 |n+1,j,k+1,o,hj,hk,ho=>by
  have hlt:j<s.size:=by omega
  have hl:j<(bl s).length:=by rw[zg];exact hlt
  obtain⟨b,hb,n1,n2⟩:=nib (z1p (List.getElem_mem hl))
  have hb2:=b.2
  unfold z5w z9c
  rw[zT (by omega),zC]
  simp only[Int.toNat_natCast,zaf hl,hb,(zk9 b).1,(zk9 b).2.1]
  rw[zj hlt,zj (by rw[zxf];omega),zj hlt,zj (by rw[zxf];omega),zT (by simp only[List.length_cons,List.length_nil];omega),zC]
  rw[hb] at n1 n2
  simp only[Int.toNat_natCast] at n1 n2
  rw[n1,n2,z18 (by omega),zkq s hs n (j+1) k _ (by omega) (by omega) (by rw[List.length_append];simp only[List.length_cons,List.length_nil];omega),List.drop_eq_getElem_cons hl,hb,hexP,List.append_assoc]
  rfl
theorem zp3(s:ByteArray)(hs:s.size≤1099511627776):Q160 s=some (z3i s):=by
 unfold Q160 zh4
 rw[zi (by omega) (by omega),zT (by omega),zC,zT (by omega),zC]
 have:=zkq s hs s.size 0 FUEL [] (by omega) (by rw[z14];omega) (by simp;omega)
 rw[show((0:Nat):Int)=0 from rfl,List.drop_zero,List.nil_append] at this
 dsimp only
 rw[this];rfl
def getX:List Int→Nat→List Int→Int→Sum Int (List Int)
 | [],_,o,_=> .inr o
 |a::r,i,o,high=>if hexD a<0 then .inl i else if i % 2=0 then getX r (i+1) o (hexD a) else getX r (i+1) (o++ [16*high+hexD a]) high
theorem z124:∀(l:List Int) (i:Nat) (o:List Int) (high:Int),i % 2=0→getX l i o high=(match badX l i with
 |some q=> .inl q
 |none=> .inr (o++hexG l))
 | [],i,o,high,h=>by simp [getX,badX,hexG]
 | [a],i,o,high,h=>by
   rw[getX,badX]
   by_cases ha:hexD a<0
   ·rw[if_pos ha,if_pos ha]
   ·rw[if_neg ha,if_neg ha,if_pos h]
    simp [getX,badX,hexG]
 |a::b::r,i,o,high,h=>by
  rw[getX,badX]
  by_cases ha:hexD a<0
  ·rw[if_pos ha,if_pos ha]
  ·rw[if_neg ha,if_neg ha,if_pos h,getX,badX]
   by_cases hb:hexD b<0
   ·rw[if_pos hb,if_pos hb];rfl
   ·rw[if_neg hb,if_neg hb,if_neg (by omega),z124 r (i+1+1) _ _ (by omega),hexG,List.append_assoc]
    have:((i:Int)+1+1)=((i+1+1:Nat):Int):=by omega
    rw[this];rfl
theorem z67(j:Nat):Int.tmod (j:Int) (2:Int)=((j % 2:Nat):Int):=rfl
theorem z8v(s:ByteArray)(hs:s.size≤1099511627776):∀(n j k:Nat) (o:List Int) (high:Int),j+n=s.size→n<k→o.length+n≤35184372088832→0≤high∧high<16→∃o',z5v k s o high (j:Int)=some (match getX ((bl s).drop j) j o high with
 | .inl i=> .inl (s,bs [],i,false,o')
 | .inr r=> .inr (s,r))
 |n,j,0,o,high,_,hk,_,_=>by omega
 |0,j,k+1,o,high,hj,hk,_,_=>by
  unfold z5v z9b
  rw[zF (by omega),zD,List.drop_eq_nil_of_le (by rw[zg];omega)]
  exact⟨o,rfl⟩
 |n+1,j,k+1,o,high,hj,hk,ho,hh=>by
  have hlt:j<s.size:=by omega
  have hl:j<(bl s).length:=by rw[zg];exact hlt
  have hb:=z1p (List.getElem_mem hl)
  have h16:=zua hb
  unfold z5v z9b
  rw[zT (by omega),zC,zj hlt,Int.toNat_natCast,zaf hl,z1d7 hb,zc,List.drop_eq_getElem_cons hl,getX]
  by_cases ha:hexD (bl s)[j]<0
  ·rw[if_pos ha,if_pos ha]
   exact⟨o,rfl⟩
  ·rw[if_neg ha,if_neg ha]
   dsimp only
   rw[Bool.not_true,zD,z67]
   by_cases hp:j % 2=0
   ·rw[if_pos hp,zT (by omega),zC,z18 (by omega)]
    exact z8v s hs n (j+1) k o _ (by omega) (by omega) (by omega) (by omega)
   ·rw[if_neg hp,zF (by omega),zD,zT (by simp only[List.length_singleton];omega),zC,z18 (by omega),(hexB hh.1 hh.2 (by omega) h16).1]
    exact z8v s hs n (j+1) k _ high (by omega) (by omega) (by rw[List.length_append,List.length_singleton];omega) hh
theorem zp2(s:ByteArray)(hs:s.size≤1099511627776):Q159 s=some (z28 s):=by
 unfold Q159 zh1 z28
 have e:Int.tdiv (s.size:Int) 2=((s.size/2:Nat):Int):=rfl
 rw[e,zi (by omega) (by omega),zT (by omega),zC,zT (by omega),zC]
 obtain⟨o',h⟩:=z8v s hs s.size 0 FUEL [] 0 (by omega) (by rw[z14];omega) (by simp;omega) (by omega)
 rw[show((0:Nat):Int)=0 from rfl,List.drop_zero,z124 _ 0 _ _ rfl,List.nil_append,show((0:Nat):Int)=0 from rfl] at h
 dsimp only
 rw[h,zc]
 cases badX (bl s) 0 with
 |some i=>rfl
 |none=>
  dsimp only
  rw[Sum.elim_inr]
  unfold zh2
  dsimp only
  rw[z67]
  by_cases hp:s.size % 2=1
  ·rw[if_pos hp,zF (by omega)];rfl
  ·rw[if_neg hp,zT (by omega)];rfl
theorem z17e{l:List Int}:∀{i:Int},badX l i=none→∀a∈l,0≤hexD a:=by
 induction l with
 |nil=>intro i _ a ha;cases ha
 |cons b r ih=>
  intro i h a ha
  rw[badX] at h
  by_cases hb:hexD b<0
  ·rw[if_pos hb] at h;cases h
  ·rw[if_neg hb] at h
   rcases List.mem_cons.1 ha with rfl|ha
   ·omega
   ·exact ih h a ha
theorem z1dp:∀d:Fin 16,hexD (hexL (d.1:Int))=(d.1:Int)∧zn (hexL (d.1:Int)):=by
 have:∀d:Fin 16,hexD (hexL (d.1:Int))=(d.1:Int)∧0≤hexL (d.1:Int)∧hexL (d.1:Int)<256:=by decide+kernel
 exact this
theorem z7f{d:Int}(h:0≤d)(h2:d<16):hexD (hexL d)=d∧zn (hexL d):=by
 have:=z1dp ⟨d.toNat,by omega⟩
 simpa [Int.toNat_of_nonneg h] using this
theorem zw0:∀{l:List Int},(∀x∈l,zn x)→∀y∈hexP l,zn y
 | [],_,y,hy=>by cases hy
 |x::r,h,y,hy=>by
  have hx:=h x List.mem_cons_self
  unfold zn at hx
  rw[hexP] at hy
  rcases List.mem_cons.1 hy with rfl|hy
  ·exact(z7f (by omega) (by omega)).2
  ·rcases List.mem_cons.1 hy with rfl|hy
   ·exact(z7f (by omega) (by omega)).2
   ·exact zw0 (fun z hz=>h z (List.mem_cons_of_mem _ hz)) y hy
theorem zz8:∀l:List Int,(hexP l).length=2*l.length
 | []=>rfl
 |x::r=>by rw[hexP,List.length_cons,List.length_cons,zz8 r,List.length_cons];omega
theorem zw1:∀{l:List Int} {i:Int},(∀x∈l,zn x)→badX (hexP l) i=none
 | [],i,_=>rfl
 |x::r,i,h=>by
  have hx:=h x List.mem_cons_self
  unfold zn at hx
  rw[hexP,badX,if_neg (by rw[(z7f (by omega) (by omega)).1];omega),badX,if_neg (by rw[(z7f (by omega) (by omega)).1];omega)]
  exact zw1 fun z hz=>h z (List.mem_cons_of_mem _ hz)
theorem hexGP:∀{l:List Int},(∀x∈l,zn x)→hexG (hexP l)=l
 | [],_=>by simp [hexP,hexG]
 |x::r,h=>by
  have hx:=h x List.mem_cons_self
  unfold zn at hx
  rw[hexP,hexG,(z7f (by omega) (by omega)).1,(z7f (by omega) (by omega)).1,hexGP fun z hz=>h z (List.mem_cons_of_mem _ hz)]
  congr 1
  omega
theorem zw2(s:ByteArray):bl (z3i s)=hexP (bl s):=z21 (zw0 fun x hx=>z1p hx)
theorem z4q(s:ByteArray):(z3i s).size=2*s.size:=by rw[←zg,zw2,zz8,zg]
theorem zz9(s:ByteArray):z28 (z3i s)=(s,0,true):=by
 unfold z28
 rw[zw2,zw1 (fun x hx=>z1p hx),hexGP (fun x hx=>z1p hx),z3f,z4q]
 dsimp only
 rw[if_neg (by omega)]
theorem z1do:∀b:Fin 256,0≤hexD (b.1:Int)→hexL (hexD (b.1:Int))=(b.1:Int):=by decide+kernel
theorem zvz{b:Int}(h:zn b)(h0:0≤hexD b):hexL (hexD b)=b:=by
 obtain⟨k,rfl⟩:=z1i h
 exact z1do k h0
theorem hexPG:∀{l:List Int},l.length % 2=0→(∀x∈l,zn x∧0≤hexD x)→hexP (hexG l)=l∧∀y∈hexG l,zn y
 | [],_,_=>⟨by simp [hexP,hexG],fun y hy=>by simp [hexG] at hy⟩
 | [a],h,_=>by simp at h
 |a::b::r,h,hx=>by
  obtain⟨a1,a2⟩:=hx a (by simp)
  obtain⟨b1,b2⟩:=hx b (by simp)
  have a3:=zua a1
  have b3:=zua b1
  obtain⟨i1,i2⟩:=hexPG (l:=r) (by simp only[List.length_cons] at h;omega) fun y hy=>hx y (by simp [hy])
  rw[hexG,hexP]
  refine⟨?_,fun y hy=> ?_⟩
  ·rw[show(16*hexD a+hexD b)/16=hexD a by omega,show(16*hexD a+hexD b)% 16=hexD b by omega,zvz a1 a2,zvz b1 b2,i1]
  ·rcases List.mem_cons.1 hy with rfl|hy
   ·unfold zn;omega
   ·exact i2 y hy
theorem zf3{s t:ByteArray}{i:Int}(h:z28 s=(t,i,true)):z3i t=s∧s.size=2*t.size:=by
 unfold z28 at h
 cases hb:badX (bl s) 0 with
 |some q=>rw[hb] at h;cases h
 |none=>
  rw[hb] at h
  dsimp only at h
  by_cases hp:s.size % 2=1
  ·rw[if_pos hp] at h;cases h
  ·rw[if_neg hp] at h
   have ht:t=strOf (hexG (bl s)):=(congrArg Prod.fst h).symm
   obtain⟨e1,e2⟩:=hexPG (l:=bl s) (by rw[zg];omega) fun x hx=>⟨z1p hx,z17e hb x hx⟩
   have e3:z3i t=s:=by
    unfold z3i
    rw[ht,z21 e2,e1,z3f]
   exact⟨e3,by rw[←e3,z4q]⟩
end Groat

namespace Groat
open Go.IntKind renaming wrap→zW,i64→zI,u8→zU
open Go Go.Ref
def isDig(b:Int):Bool:=decide (48≤b∧b≤57)
def allD(l:List Int):Bool:=l.all isDig
theorem zuv(b:Int)(l:List Int):allD (b::l)=(isDig b&&allD l):=rfl
theorem z12b{b:Int}(h:48≤b∧b≤57):isDig b=true:=zT h
theorem zuc{b:Int}(h:¬(48≤b∧b≤57)):isDig b=false:=zF h
theorem z17n{s:ByteArray}{j:Nat}(h:j<s.size):(bl s).getD j 0=((s[j]'h).toNat:Int):=by
 rw[←z22]
 unfold ze
 rw[dif_pos h]
theorem z121{s:ByteArray}{j:Nat}(h:j<s.size):(bl s).drop j=((s[j]'h).toNat:Int)::(bl s).drop (j+1):=by
 have h':j<(bl s).length:=by rw[zg];exact h
 rw[List.drop_eq_getElem_cons h']
 congr 1
 have:=z17n h
 rw[List.getD_eq_getElem?_getD,List.getElem?_eq_getElem h'] at this
 exact this
theorem z10x(s:ByteArray)(pos:Nat)(h:pos<s.size)(ha:128≤(s[pos]'h).toNat):128≤(Utf8.decode s pos).1:=by
 have e:s.get! (pos+0)=s[pos]'h:=by
  show s.get! pos=_
  simp [ByteArray.get!,getElem!_pos,h]
  rfl
 unfold Utf8.decode
 simp only[e]
 rw[if_neg (by omega)]
 have hre:128≤Utf8.runeError:=by unfold Utf8.runeError;omega
 split
 ·split
  ·assumption
  ·exact hre
 ·split
  ·split
   ·rename_i hc
    simp only[Bool.and_eq_true,decide_eq_true_eq] at hc
    have:=hc.1
    simp only
    omega
   ·exact hre
  ·split
   ·split
    ·rename_i hc
     simp only[Bool.and_eq_true,decide_eq_true_eq] at hc
     have:=hc.1
     simp only
     omega
    ·exact hre
   ·exact hre
theorem zy9(s:ByteArray):∀(n j k:Nat),s.size-j≤n→j≤s.size→n<k→za2 k (s,j)=some (bif allD ((bl s).drop j) then .inr () else .inl false)
 |n,j,0,_,_,hk=>by omega
 |n,j,k+1,hn,hj,hk=>by
  unfold za2 znu
  dsimp only
  by_cases hlt:j<s.size
  ·rw[zT hlt,zC,z121 hlt,zuv]
   by_cases h1:(s[j]'hlt).toNat<128
   ·rw[decode_ascii s j hlt h1]
    dsimp only
    by_cases h2:((s[j]'hlt).toNat:Int)<48
    ·rw[zT h2,zC,zuc (by omega)];rfl
    ·rw[zF h2,zD]
     by_cases h3:(57:Int)<((s[j]'hlt).toNat:Int)
     ·rw[zT h3,zC,zuc (by omega)];rfl
     ·obtain⟨n,rfl⟩:∃n',n=n'+1:=⟨n-1,by omega⟩
      rw[zF h3,zD,z12b (by omega),Bool.true_and,zy9 s n (j+1) k (by omega) (by omega) (by omega)]
   ·have hd:=z10x s j hlt (by omega)
    rw[zF (by omega:¬((Utf8.decode s j).1:Int)<48),zD,zT (by omega:(57:Int)<((Utf8.decode s j).1:Int)),zC,zuc (by omega)];rfl
  ·rw[zF hlt,zD,List.drop_eq_nil_of_le (by rw[zg];omega)];rfl
theorem zm9(s:ByteArray)(h:s.size≤maxLen):Q28 s=some (allD (bl s)):=by
 unfold Q28 znt
 dsimp only
 rw[zh] at h
 rw[zy9 s s.size 0 FUEL (by omega) (by omega) (by rw[z14];omega),List.drop_zero]
 cases allD (bl s)<;>rfl
def valD(l:List Int)(n:Int):Int:=l.foldl (fun n b=>10*n+(b-48)) n
theorem zpw:∀(l:List Int) (n:Int) (k:Nat),allD l=true→0≤n→n<((10^k:Nat):Int)→l.length+k≤18→0≤valD l n∧valD l n<((10^(l.length+k):Nat):Int)
 | [],n,k,_,h1,h2,_=>by simpa [valD] using⟨h1,h2⟩
 |b::l,n,k,hd,h1,h2,hl=>by
  simp only[allD,List.all_cons,Bool.and_eq_true,isDig,decide_eq_true_eq] at hd
  have hp:((10^(k+1):Nat):Int)=10*((10^k:Nat):Int):=by rw[Nat.pow_succ];omega
  have:=zpw l (10*n+(b-48)) (k+1) hd.2 (by omega) (by rw[hp];omega) (by simp at hl;omega)
  simp only[valD,List.foldl_cons,List.length_cons] at this⊢
  rw[show l.length+1+k=l.length+(k+1) by omega]
  exact this
theorem pow10{k m:Nat}(h:k≤m):10^k≤10^m:=Nat.pow_le_pow_right (by decide) h
theorem z1kg(k:Nat):((10^(k+1):Nat):Int)=10*((10^k:Nat):Int):=by rw[Nat.pow_succ];omega
theorem pow17:(10:Nat)^17=100000000000000000:=by decide
theorem zz5(s:ByteArray)(hs:s.size≤18)(hd:allD (bl s)=true):∀(n j k:Nat) (t:Int),s.size-j≤n→j≤s.size→n<k→0≤t→t<((10^j:Nat):Int)→za3 k t (s,j)=some (valD ((bl s).drop j) t)
 |n,j,0,t,_,_,hk,_,_=>by omega
 |n,j,k+1,t,hn,hj,hk,h0,h1=>by
  unfold za3 znx
  dsimp only
  by_cases hlt:j<s.size
  ·have hj':isDig ((s[j]'hlt).toNat:Int)=true:=by
    have:=List.all_eq_true.1 hd ((bl s).getD j 0) (by
     rw[List.getD_eq_getElem?_getD,List.getElem?_eq_getElem (by rw[zg];exact hlt)]
     exact List.getElem_mem _)
    rw[z17n hlt] at this
    exact this
   simp only[isDig,decide_eq_true_eq] at hj'
   rw[zT hlt,zC,decode_ascii s j hlt (by omega),z121 hlt]
   dsimp only
   have hp1:=z1kg j
   have w32:IntKind.i32.wrap (((s[j]'hlt).toNat:Int)-48)=((s[j]'hlt).toNat:Int)-48:=by
    simp [IntKind.wrap,IntKind.signed,IntKind.bits];omega
   obtain⟨n,rfl⟩:∃n',n=n'+1:=⟨n-1,by omega⟩
   have ht:t<100000000000000000:=by
    have:=pow10 (show j≤17 by omega)
    rw[pow17] at this
    omega
   have a1:zW zI (10*t)=10*t:=zi (by omega) (by omega)
   have a2:zW zI (((s[j]'hlt).toNat:Int)-48)=((s[j]'hlt).toNat:Int)-48:=zi (by omega) (by omega)
   rw[w32,a1,a2,zi (by omega) (by omega),zz5 s hs hd n (j+1) k _ (by omega) (by omega) (by omega) (by omega) (by omega)]
   rfl
  ·rw[zF hlt,zD,List.drop_eq_nil_of_le (by rw[zg];omega)];rfl
def getD'(l:List Int):Int×Bool:=if 1≤l.length∧l.length≤18∧allD l=true then(valD l 0,true) else(0,false)
theorem z14f(s:ByteArray)(h:s.size≤maxLen):Q29 s=some (getD' (bl s)):=by
 unfold Q29 znw getD'
 dsimp only
 rw[zg]
 by_cases h0:s=bs []
 ·rw[zT h0,zC,if_neg]
  rw[h0]
  intro hh
  have:(bs []).size=0:=rfl
  omega
 ·have hz:s.size≠0:=fun e=>h0 (zau.2 (List.eq_nil_of_length_eq_zero (by rw[zg];exact e)))
  rw[zF h0,zD]
  by_cases h1:(18:Int)<(s.size:Int)
  ·rw[zT h1,zC,if_neg (by omega)]
  ·rw[zF h1,zD,zm9 s h,Option.bind_some]
   cases hd:allD (bl s) with
   |false=>rw[if_neg (by simp)];rfl
   |true=>
    rw[if_pos ⟨by omega,by omega,rfl⟩]
    simp only[Bool.not_true,zD]
    rw[zz5 s (by omega) hd s.size 0 FUEL 0 (by omega) (by omega) (by rw[z14];omega) (by omega) (by decide),List.drop_zero,Option.bind_some]
    rfl
end Groat

namespace Groat
open Go.IntKind renaming wrap→zW,i64→zI,u8→zU
open Go Go.Ref
def dgs:Nat→Nat→List Int
 |0,_=>[]
 |w+1,n=>dgs w (n/10)++ [((48+n % 10:Nat):Int)]
theorem z5h:∀w n,(dgs w n).length=w
 |0,_=>rfl
 |w+1,n=>by rw[dgs,List.length_append,z5h w];rfl
theorem zk2:∀w n,allD (dgs w n)=true
 |0,_=>rfl
 |w+1,n=>by
  rw[dgs,allD,List.all_append,Bool.and_eq_true]
  refine⟨zk2 w _,?_⟩
  rw[List.all_cons,List.all_nil,Bool.and_true]
  exact z12b (by omega)
theorem z7w{l:List Int}(h:allD l=true):∀x∈l,zn x:=fun x hx=>by
 have:=List.all_eq_true.1 h x hx
 simp only[isDig,decide_eq_true_eq] at this
 unfold zn;omega
theorem z107(a b:List Int):strOf (a++b)=strOf a++strOf b:=by
 apply ByteArray.ext
 simp [strOf,ByteArray.data_append]
theorem z1kj(n:Nat):Int.tmod (n:Int) 10=((n % 10:Nat):Int):=by rw[Int.tmod_eq_emod_of_nonneg (by omega)];omega
theorem z1ki(n:Nat):Int.tdiv (n:Int) 10=((n/10:Nat):Int):=by rw[Int.tdiv_eq_ediv_of_nonneg (by omega)];omega
theorem z1d6(n:Nat):zW zU (zW zI ((48:Int)+((n % 10:Nat):Int)))=((48+n % 10:Nat):Int):=by
 rw[zi (by omega) (by omega),u8_id (by omega) (by omega)];omega
theorem zu5(n w:Nat):n/10/10^w=n/10^(w+1):=by rw[Nat.div_div_eq_div_mul,Nat.pow_succ,Nat.mul_comm]
theorem set_rep(x:Int)(tail:List Int):∀j,(List.replicate (j+1) (0:Int)++tail).set j x=List.replicate j 0++x::tail
 |0=>rfl
 |j+1=>by
  show(0:Int)::((List.replicate (j+1) (0:Int)++tail).set j x)=0::(List.replicate j 0++x::tail)
  rw[set_rep x tail j]
theorem zzv(nt nt2:Nat)(hnt:nt≤18):∀(j k n:Nat) (tail:List Int),nt=j+tail.length→n≤9223372036854775807→j<k→
 z7q k (n:Int) nt ((j:Int)-1) nt2 (List.replicate j 0++tail)=some (((n/10^j:Nat):Int),nt,nt2,dgs j n++tail)
 |j,0,n,tail,_,_,hk=>by omega
 |0,k+1,n,tail,h,hn,hk=>by
  unfold z7q ze4
  dsimp only
  rw[zF (by omega),zD]
  simp [dgs]
 |j+1,k+1,n,tail,h,hn,hk=>by
  unfold z7q ze4
  dsimp only
  have e:(((j+1:Nat):Int)-1)=(j:Int):=by omega
  rw[e,zT (by omega:(0:Int)≤(j:Int)),zC,zj (by omega),Int.toNat_natCast,z1kj,z1ki,z1d6]
  have hb:Nat.ble (j+1) (List.replicate (j+1) (0:Int)++tail).length=true:=Nat.ble_eq_true_of_le (by simp)
  rw[hb,zC,z4k (by omega),zi (by omega) (by omega)]
  rw[set_rep,zzv nt nt2 hnt j k (n/10) _ (by simp;omega) (by omega) (by omega),zu5]
  simp [dgs]
def putD(n w:Int):ByteArray×Bool:=bif decide (0≤n∧1≤w∧w≤18∧n.toNat/10^w.toNat=0) then(strOf (dgs w.toNat n.toNat),true) else(bs [],false)
theorem zpk{n w:Int}(h:0≤n∧1≤w∧w≤18∧n.toNat/10^w.toNat=0):putD n w=(strOf (dgs w.toNat n.toNat),true):=by unfold putD;rw[zT h];rfl
theorem zfe{n w:Int}(h:¬(0≤n∧1≤w∧w≤18∧n.toNat/10^w.toNat=0)):putD n w=(bs [],false):=by unfold putD;rw[zF h];rfl
theorem z1i5(n w:Int)(hn:n≤9223372036854775807):Q31 n w=some (putD n w):=by
 unfold Q31 zo0
 dsimp only
 by_cases h1:n<0
 ·rw[zT h1,zC,zfe (by omega)]
 rw[zF h1,zD]
 by_cases h2:w<1
 ·rw[zT h2,zC,zfe (by omega)]
 rw[zF h2,zD]
 by_cases h3:(18:Int)<w
 ·rw[zT h3,zC,zfe (by omega)]
 rw[zF h3,zD,zT (rfl:w=w),zC,zT (by omega:(0:Int)≤w),zC,zT (by omega:w*1≤140737488355328),zC]
 obtain⟨m,rfl⟩:∃m:Nat,n=m:=⟨n.toNat,by omega⟩
 obtain⟨v,rfl⟩:∃v:Nat,w=v:=⟨w.toNat,by omega⟩
 simp only[Int.toNat_natCast]
 have:=zzv v v (by omega) v FUEL m [] (by simp) (by omega) (by rw[z14];omega)
 simp only[List.append_nil] at this
 rw[zi (by omega) (by omega),this,zc]
 unfold zo1
 dsimp only
 by_cases h4:(0:Int)<((m/10^v:Nat):Int)
 ·rw[zT h4,zC,zfe (by simp only[Int.toNat_natCast];generalize m/10^v=q at h4⊢;omega)]
 ·rw[zF h4,zD,z5h,Nat.beq_refl,zC,zpk (by simp only[Int.toNat_natCast];generalize m/10^v=q at h4⊢;omega)]
  simp only[Int.toNat_natCast]
theorem zl2(l r:List Int)(n:Int):valD (l++r) n=valD r (valD l n):=by unfold valD;rw[List.foldl_append]
theorem z10h:∀w n,n/10^w=0→valD (dgs w n) 0=(n:Int)
 |0,n,h=>by simp at h;subst h;rfl
 |w+1,n,h=>by
  rw[dgs,zl2,z10h w (n/10) (by rw[zu5];exact h)]
  simp only[valD,List.foldl_cons,List.foldl_nil]
  omega
theorem zyq:∀(w n:Nat) (l:List Int),allD l=true→w=l.length→valD l 0=(n:Int)→dgs w n=l∧n/10^w=0
 |0,n,l,hd,hw,hv=>by
  obtain rfl:=List.eq_nil_of_length_eq_zero hw.symm
  have:(0:Int)=n:=hv
  obtain rfl:n=0:=by omega
  exact⟨rfl,rfl⟩
 |w+1,n,l,hd,hw,hv=>by
  have hne:l≠ []:=by intro e;subst e;simp at hw
  obtain⟨r,b,rfl⟩:∃r b,l=r++ [b]:=⟨l.dropLast,l.getLast hne,(List.dropLast_concat_getLast hne).symm⟩
  rw[allD,List.all_append,Bool.and_eq_true,List.all_cons,List.all_nil,Bool.and_true] at hd
  have hb:=hd.2
  simp only[isDig,decide_eq_true_eq] at hb
  rw[zl2] at hv
  have hv':10*valD r 0+(b-48)=n:=hv
  obtain⟨i1,i2⟩:=zyq w (n/10) r hd.1 (by simpa using hw) (by omega)
  refine⟨?_,by rw[←zu5];exact i2⟩
  rw[dgs,i1]
  congr 2
  omega
end Groat

namespace Groat
open Go.IntKind renaming wrap→zW,i64→zI,u8→zU
open Go Go.Ref
def allZ(l:List Int):Bool:=l.all fun b=>decide (b=48)
theorem z89(b:Int)(l:List Int):allZ (b::l)=(decide (b=48)&&allZ l):=rfl
theorem z8l(a b:List Int):allZ (a++b)=(allZ a&&allZ b):=List.all_append ..
theorem z137(s:ByteArray)(x:Int)(l:List Int)(h:bl s=x::l):ze s 0=x:=by rw[z22,h];rfl
theorem trimR(k:Nat):∀(s:ByteArray),s.size<k→s.size≤9223372036854775807→∃r,z79 k s 48=some r∧allZ (bl r)=allZ (bl s)∧(allZ (bl s)=true→bl r=[])∧r.size≤s.size:=by
 induction k with
 |zero=>intro s h;omega
 |succ k ih=>
  intro s h hs
  unfold z79 zj8
  dsimp only
  by_cases h0:(0:Int)<(s.size:Int)
  ·have hm:zW zI ((s.size:Int)-1)=((s.size-1:Nat):Int):=by rw[zi (by omega) (by omega)];omega
   rw[zT h0,zC,hm,zj (by omega),Int.toNat_natCast]
   have hl:(bl s).length=s.size:=zg s
   have hne:bl s≠ []:=by intro e;rw[e] at hl;simp at hl;omega
   obtain⟨r,b,hb⟩:∃r b,bl s=r++ [b]:=⟨(bl s).dropLast,(bl s).getLast hne,(List.dropLast_concat_getLast hne).symm⟩
   have hr:r.length=s.size-1:=by rw[hb] at hl;simp at hl;omega
   have hx:ze s (s.size-1)=b:=by
    rw[z22,hb,←hr,List.getD_eq_getElem?_getD];simp
   rw[hx]
   by_cases hz:b=48
   ·rw[zT hz,zC,zT (by omega:(0:Int)≤((s.size-1:Nat):Int)),zC,zT (by omega:((s.size-1:Nat):Int)≤((s.size:Nat):Int)),zC]
    have he:bl (s.extract 0 (s.size-1))=r:=by rw[z1y,hb,List.drop_zero,←hr,List.take_left'];rfl
    have hsz:(s.extract 0 (s.size-1)).size=s.size-1:=by rw[←zg,he,hr]
    obtain⟨q,q1,q2,q3,q4⟩:=ih (s.extract 0 (s.size-1)) (by omega) (by omega)
    refine⟨q,q1,?_,fun ha=>q3 ?_,by omega⟩
    ·rw[q2,he,hb,z8l,z89,zT hz];simp [allZ]
    ·rw[hb,z8l,Bool.and_eq_true] at ha
     rw[he];exact ha.1
   ·rw[zF hz,zD]
    refine⟨s,rfl,rfl,fun ha=> ?_,Nat.le_refl _⟩
    rw[hb,z8l,z89,zF hz] at ha
    simp at ha
  ·rw[zF h0,zD]
   refine⟨s,rfl,rfl,fun _=>List.eq_nil_of_length_eq_zero (by rw[zg];omega),Nat.le_refl _⟩
theorem drop1{s:ByteArray}{x:Int}{l:List Int}(h:bl s=x::l):bl (s.extract 1 s.size)=l:=by
 rw[z1y,←zg,List.take_length,h];rfl
theorem trimL(k:Nat):∀(s:ByteArray),s.size<k→s.size≤9223372036854775807→∃r,z78 k s 48=some r∧((bl r=[])↔allZ (bl s)=true):=by
 induction k with
 |zero=>intro s h;omega
 |succ k ih=>
  intro s h hs
  unfold z78 zj4
  dsimp only
  have hl:(bl s).length=s.size:=zg s
  by_cases h0:(0:Int)<(s.size:Int)
  ·rw[zT h0,zC,zr (by omega) h0]
   cases hb:bl s with
   |nil=>rw[hb] at hl;simp at hl;omega
   |cons x l=>
    rw[show((0:Int)).toNat=0 from rfl,show((1:Int)).toNat=1 from rfl,z137 s x l hb]
    by_cases hz:x=48
    ·rw[zT hz,zC,zT (by omega:(1:Int)≤((s.size:Nat):Int)),zC]
     have he:=drop1 hb
     have hsz:(s.extract 1 s.size).size=s.size-1:=by rw[←zg,he,←hl,hb];simp
     obtain⟨q,q1,q2⟩:=ih (s.extract 1 s.size) (by omega) (by omega)
     refine⟨q,q1,q2.trans ?_⟩
     rw[he,z89,zT hz];simp
    ·rw[zF hz,zD]
     refine⟨s,rfl,?_⟩
     rw[hb,z89,zF hz];simp
  ·rw[zF h0,zD]
   have:bl s=[]:=List.eq_nil_of_length_eq_zero (by omega)
   refine⟨s,rfl,?_⟩
   rw[this];simp [allZ]
theorem z1gx(s:ByteArray)(h:s.size≤9223372036854775807):∃r,Q225 s (bs [48])=some r∧(r=bs []↔allZ (bl s)=true):=by
 unfold Q225 zj1
 by_cases h0:s=bs []
 ·rw[zT h0,zC]
  refine⟨s,rfl,?_⟩
  rw[h0];simp [zyj,allZ]
 rw[zF h0,zD,zF (show¬bs [48]=bs [] from fun e=>absurd (congrArg ByteArray.size e) (by decide)),zD,zT (by rfl:(((bs [48]).size:Nat):Int)=1),zC]
 have hb:ze (bs [48]) ((0:Int)).toNat=48:=by rw[z22];rfl
 have hw {R:Type} (x:Option R):zd (0:Int) (bs [48]).size x=x:=zr (by omega) (by decide)
 rw[hw,hb,zT (by decide:(48:Int)<128),zC,hw]
 unfold Q228 zj7
 dsimp only
 obtain⟨r,r1,r2,r3,r4⟩:=trimR FUEL s (by rw[z14];omega) h
 rw[r1,zc]
 unfold zj9
 rw[zc,hw]
 unfold Q227 zj3
 dsimp only
 obtain⟨q,q1,q2⟩:=trimL FUEL r (by rw[z14];omega) (by omega)
 rw[q1,zc]
 unfold zj5
 rw[zc]
 refine⟨q,rfl,?_⟩
 rw[zau,q2,r2]
theorem zfg:∀(c:Nat),bl ⟨(Go.Lib.repeatL (bs [48]).data.toList c).toArray⟩=List.replicate c 48
 |0=>rfl
 |c+1=>by
  rw[List.replicate_succ,←zfg c]
  simp only[bl,Go.Lib.repeatL,List.map_append]
  rfl
def padD(s:ByteArray)(w:Int):ByteArray×Bool:=
 bif decide (1≤s.size∧s.size≤999∧allD (bl s)=true∧1≤w∧w≤999) then
  (bif decide ((s.size:Int)≤w) then(strOf (List.replicate (w-s.size).toNat 48++bl s),true)
   else bif allZ ((bl s).take (s.size-w.toNat)) then(strOf ((bl s).drop (s.size-w.toNat)),true) else(bs [],false))
 else(bs [],false)
theorem zak{s:ByteArray}{w:Int}(h:¬(1≤s.size∧s.size≤999∧allD (bl s)=true∧1≤w∧w≤999)):padD s w=(bs [],false):=by unfold padD;rw[zF h];rfl
theorem zpg{s:ByteArray}{w:Int}(h:1≤s.size∧s.size≤999∧allD (bl s)=true∧1≤w∧w≤999):padD s w=(bif decide ((s.size:Int)≤w) then(strOf (List.replicate (w-s.size).toNat 48++bl s),true)
 else bif allZ ((bl s).take (s.size-w.toNat)) then(strOf ((bl s).drop (s.size-w.toNat)),true) else(bs [],false)):=by unfold padD;rw[zT h];rfl
theorem z1i4(s:ByteArray)(w:Int)(h:s.size≤maxLen):Q30 s w=some (padD s w):=by
 unfold Q30 zny
 dsimp only
 by_cases h0:s=bs []
 ·rw[zT h0,zC,zak]
  intro hh
  rw[h0] at hh
  exact absurd hh.1 (by decide)
 have hz:s.size≠0:=fun e=>h0 (zau.2 (List.eq_nil_of_length_eq_zero (by rw[zg];exact e)))
 rw[zF h0,zD]
 by_cases h1:(999:Int)<(s.size:Int)
 ·rw[zT h1,zC,zak (by omega)]
 rw[zF h1,zD,zm9 s h,zc]
 cases hd:allD (bl s) with
 |false=>rw[zak (by rw[hd];simp)];rfl
 |true=>
  rw[Bool.not_true,zD]
  by_cases h2:w<1
  ·rw[zT h2,zC,zak (by omega)]
  rw[zF h2,zD]
  by_cases h3:(999:Int)<w
  ·rw[zT h3,zC,zak (by omega)]
  rw[zF h3,zD,zpg ⟨by omega,by omega,hd,by omega,by omega⟩]
  obtain⟨v,rfl⟩:∃v:Nat,w=v:=⟨w.toNat,by omega⟩
  by_cases h4:(s.size:Int)≤(v:Int)
  ·rw[zT h4,zC,zC]
   obtain⟨c,hc⟩:∃c:Nat,(v:Int)-(s.size:Int)=(c:Int):=⟨v-s.size,by omega⟩
   rw[hc,z4k (by omega)]
   have hR:strings_Repeat (bs [48]) (c:Int)=some ⟨(Go.Lib.repeatL (bs [48]).data.toList c).toArray⟩:=by
    unfold strings_Repeat
    rw[zT (by omega:(0:Int)≤(c:Int)),zT (by omega:(c:Int)≤9223372036854775807),zT (by rw[show(((bs [48]).size:Nat):Int)=1 from rfl];omega),Int.toNat_natCast]
    rfl
   rw[hR,zc]
   have hsz:((⟨(Go.Lib.repeatL (bs [48]).data.toList c).toArray⟩:ByteArray)).size=c:=by rw[←zg,zfg,List.length_replicate]
   rw[hsz,zT (by omega),zC,Int.toNat_natCast]
   congr 2
   apply z5f
   rw[z3l,zfg,z21]
   intro x hx
   rcases List.mem_append.1 hx with hx|hx
   ·rw[(List.mem_replicate.1 hx).2];unfold zn;omega
   ·exact z1p hx
  ·rw[zF h4,zD,zD]
   obtain⟨c,hc⟩:∃c:Nat,(s.size:Int)-(v:Int)=(c:Int):=⟨s.size-v,by omega⟩
   have hcv:s.size-((v:Int)).toNat=c:=by omega
   rw[hc,z4k (by omega),zT (by omega:(0:Int)≤(c:Int)),zC,zT (by omega:(c:Int)≤((s.size:Nat):Int)),zC,Int.toNat_natCast,hcv]
   have hx:bl (s.extract 0 c)=(bl s).take c:=by rw[z1y,List.drop_zero]
   have hxs:(s.extract 0 c).size=c:=by rw[←zg,hx,List.length_take,zg];omega
   obtain⟨r,r1,r2⟩:=z1gx (s.extract 0 c) (by omega)
   rw[r1,zc]
   rw[hx] at r2
   cases ha:allZ ((bl s).take c) with
   |true=>
    rw[zT (r2.2 ha),Bool.not_true,zD,zC,zC]
    congr 2
    apply z5f
    rw[z1y,←zg,List.take_length,z21]
    exact fun x hx=>z1p (List.mem_of_mem_drop hx)
   |false=>
    rw[zF (fun e=>by rw[r2.1 e] at ha;cases ha),Bool.not_false,zC];rfl
end Groat

namespace Groat
open Go.IntKind renaming wrap→zW,i64→zI,u8→zU
open Go Go.Ref
def bcdP:List Int→List Int
 |a::b::r=>(16*(a-48)+(b-48))::bcdP r
 |_=>[]
def z30(s:ByteArray):ByteArray×Bool:=
 bif decide (s.size≤999∧allD (bl s)=true) then(strOf (bcdP (if s.size % 2=1 then 48::bl s else bl s)),true) else(bs [],false)
def bcdE(odd:Bool):List Int→Nat→Option (Int×Int)
 | [],_=>none
 |x::r,i=>if i=0∧odd=true∧x/16≠0 then some (4,0) else if 9<x/16∨9<x % 16 then some (3,i) else bcdE odd r (i+1)
def bcdN:List Int→List Int
 | []=>[]
 |x::r=>(48+x/16)::(48+x % 16)::bcdN r
def z1m(b:ByteArray)(n:Int):ByteArray×Int×Int:=
 if n<0∨999<n then(bs [],1,0) else if(b.size:Int)<(n+1)/2 then(bs [],2,(b.size:Int)) else
 match bcdE (decide (n % 2=1)) ((bl b).take ((n+1)/2).toNat) 0 with
 |some e=>(bs [],e.1,e.2)
 |none=>(strOf ((bcdN ((bl b).take ((n+1)/2).toNat)).drop (n % 2).toNat),0,0)
theorem z1co:∀a b:Fin 10,ibits .or .u8 (zW zU ((zW zU ((48+(a.1:Int))-48))*2^min ((4:Int)).toNat 8)) (zW zU ((48+(b.1:Int))-48))=16*(a.1:Int)+(b.1:Int):=by decide+kernel
theorem z120{x:Int}(h:isDig x=true):∃k:Fin 10,x=48+(k.1:Int):=by
 unfold isDig at h
 simp only[Bool.and_eq_true,decide_eq_true_eq] at h
 exact⟨⟨(x-48).toNat,by omega⟩,by simp;omega⟩
theorem bcdB{x y:Int}(hx:isDig x=true)(hy:isDig y=true):ibits .or .u8 (zW zU ((zW zU (x-48))*2^min ((4:Int)).toNat 8)) (zW zU (y-48))=16*(x-48)+(y-48):=by
 obtain⟨a,rfl⟩:=z120 hx
 obtain⟨b,rfl⟩:=z120 hy
 have:=z1co a b
 rw[this];omega
theorem z8n(s:ByteArray)(hs:s.size≤1099511627776)(hev:s.size % 2=0)(hd:allD (bl s)=true):∀(n j k:Nat) (o:List Int),j+2*n=s.size→n<k→o.length+n≤35184372088832→Q1_l0 k s o (j:Int)=some (o++bcdP ((bl s).drop j))
 |n,j,0,o,_,hk,_=>by omega
 |0,j,k+1,o,hj,hk,_=>by
  unfold Q1_l0 Q1_s1
  rw[zF (by omega),zD,List.drop_eq_nil_of_le (by rw[zg];omega),bcdP,List.append_nil]
  exact fun _ _ _ h=>by cases h
 |n+1,j,k+1,o,hj,hk,ho=>by
  have hlt:j<s.size:=by omega
  have hlt1:j+1<s.size:=by omega
  have hl:j<(bl s).length:=by rw[zg];exact hlt
  have hl1:j+1<(bl s).length:=by rw[zg];exact hlt1
  have d1:=List.all_eq_true.1 hd _ (List.getElem_mem hl)
  have d2:=List.all_eq_true.1 hd _ (List.getElem_mem hl1)
  have e:zW zI ((j:Int)+2)=((j+2:Nat):Int):=by rw[zi (by omega) (by omega)];omega
  unfold Q1_l0 Q1_s1
  rw[zT (by omega),zC,zj hlt,z18 (by omega),zj hlt1,Int.toNat_natCast,Int.toNat_natCast,zaf hl,zaf hl1,bcdB d1 d2,zT (by simp only[List.length_singleton];omega),zC,e]
  dsimp only
  rw[z8n s hs hev hd n (j+2) k _ (by omega) (by omega) (by rw[List.length_append,List.length_singleton];omega),List.drop_eq_getElem_cons hl,List.drop_eq_getElem_cons hl1,bcdP,List.append_assoc]
  rfl
theorem bs48:bl (bs [48])=[48]:=by decide
theorem zec(s:ByteArray)(hs:s.size≤maxLen):Q1 s=some (z30 s):=by
 unfold Q1 Q1_s0 z30
 by_cases h1:(999:Int)<(s.size:Int)
 ·rw[zT h1,zC,zF (by omega)];rfl
 ·rw[zF h1,zD,zm9 s hs,zc]
  cases hd:allD (bl s) with
  |false=>rw[zF (p:=s.size≤999∧false=true) (fun h=>by cases h.2)];rfl
  |true=>
   rw[Bool.not_true,zD,zT (⟨by omega,rfl⟩:s.size≤999∧true=true),zC,z67]
   by_cases hp:s.size % 2=1
   ·have hsz:(bs [48]++s).size=s.size+1:=by rw[ByteArray.size_append];show 1+s.size=_;omega
    have hb:bl (bs [48]++s)=48::bl s:=by rw[z3l,bs48];rfl
    rw[if_pos hp,zF (by omega),Bool.not_false,zC,zT (by show 1+s.size≤_;omega),zC,hsz]
    have e:Int.tdiv ((s.size+1:Nat):Int) 2=(((s.size+1)/2:Nat):Int):=rfl
    rw[e,zi (by omega) (by omega),zT (by omega),zC,zT (by omega),zC]
    have:=z8n (bs [48]++s) (by omega) (by omega) (by rw[hb];show(isDig 48&&allD (bl s))=true;rw[hd];rfl) ((s.size+1)/2) 0 FUEL [] (by omega) (by rw[z14];omega) (by simp;omega)
    rw[show((0:Nat):Int)=0 from rfl,List.drop_zero,List.nil_append,hb] at this
    dsimp only
    rw[this];rfl
   ·rw[if_neg hp,zT (by omega),Bool.not_true,zD]
    have e:Int.tdiv ((s.size:Nat):Int) 2=((s.size/2:Nat):Int):=rfl
    rw[e,zi (by omega) (by omega),zT (by omega),zC,zT (by omega),zC]
    have:=z8n s (by omega) (by omega) hd (s.size/2) 0 FUEL [] (by omega) (by rw[z14];omega) (by simp;omega)
    rw[show((0:Nat):Int)=0 from rfl,List.drop_zero,List.nil_append] at this
    dsimp only
    rw[this];rfl
theorem z5e(n:Int)(h0:0≤n)(h1:n≤999):Q2 n=some ((n+1)/2):=by
 unfold Q2 Q2_s0
 obtain⟨m,rfl⟩:∃m:Nat,n=m:=⟨n.toNat,by omega⟩
 by_cases h:(m:Int)<1
 ·rw[zT h,zC]
  congr 1
  omega
 ·rw[zF h,zD,z67]
  have e:Int.tdiv (m:Int) 2=((m/2:Nat):Int):=rfl
  have e2:zW zI ((m/2:Nat):Int)=((m/2:Nat):Int):=zi (by omega) (by omega)
  rw[e,e2,zi (by omega) (by omega)]
  congr 1
  omega
theorem z1e2:∀d:Fin 16,d.1≤9→zW zU ((48:Int)+(d.1:Int))=48+(d.1:Int):=by decide+kernel
theorem nib8{d:Nat}(h:d≤9):zW zU ((48:Int)+(d:Int))=48+(d:Int):=z1e2 ⟨d,by omega⟩ h
theorem zkf(b:ByteArray)(hb0:b.size≤1099511627776)(nn:Nat)(hn:nn≤999)(m:Nat)(hm:m≤b.size):∀(n j k:Nat) (o:List Int),j+n=m→n<k→o.length+2*n≤35184372088832→∃o',Q0_l0 k b (nn:Int) o (m:Int) (j:Int)=some (match bcdE (decide (nn % 2=1)) (((bl b).take m).drop j) j with
 |some e=> .inl ((nn:Int),bs [],e.1,e.2,o')
 |none=> .inr ((nn:Int),o++bcdN (((bl b).take m).drop j)))
 |n,j,0,o,_,hk,_=>by omega
 |0,j,k+1,o,hj,hk,_=>by
  unfold Q0_l0 Q0_s1
  rw[zF (by omega),zD,List.drop_eq_nil_of_le (by rw[List.length_take,zg];omega)]
  exact⟨o,by simp [bcdE,bcdN]⟩
 |n+1,j,k+1,o,hj,hk,ho=>by
  have hlt:j<b.size:=by omega
  have hl:j<(bl b).length:=by rw[zg];exact hlt
  have hl2:j<((bl b).take m).length:=by rw[List.length_take];omega
  obtain⟨x,hx,_,_⟩:=nib (z1p (List.getElem_mem hl))
  have hx2:=x.2
  have ih:=zkf b hb0 nn hn m hm n (j+1) k (o++ [48+((x.1/16:Nat):Int),48+((x.1 % 16:Nat):Int)]) (by omega) (by omega) (by rw[List.length_append];simp only[List.length_cons,List.length_nil];omega)
  have hw:∀{R:Type} (z:Option R),zd (j:Int) b.size z=z:=fun z=>zj hlt
  have hdr:((bl b).take m).drop j=(x.1:Int)::((bl b).take m).drop (j+1):=by rw[List.drop_eq_getElem_cons hl2,List.getElem_take,hx]
  rw[hdr,bcdE,bcdN]
  unfold Q0_l0 Q0_s1
  simp only[hw,Int.toNat_natCast,zaf hl,hx,(zk9 x).1,(zk9 x).2.1,z67]
  rw[zT (by omega:(j:Int)<(m:Int)),zC]
  have e16:(x.1:Int)/16=((x.1/16:Nat):Int):=by omega
  have e17:(x.1:Int)% 16=((x.1 % 16:Nat):Int):=by omega
  rw[e16,e17]
  have plain:∀(Z:Option (Sum (Int×ByteArray×Int×Int×List Int) (Int×List Int))),Z=(bif decide ((9:Int)<((x.1/16:Nat):Int)) then some (.inl ((nn:Int),bs [],(3:Int),(j:Int),o)) else bif decide ((9:Int)<((x.1 % 16:Nat):Int)) then some (.inl ((nn:Int),bs [],(3:Int),(j:Int),o)) else(bif decide ((o.length+(List.length ([zW zU (48+((x.1/16:Nat):Int)),zW zU (48+((x.1 % 16:Nat):Int))]:List Int)))*1≤140737488355328) then Q0_l0 k b (nn:Int) (o++ [zW zU (48+((x.1/16:Nat):Int)),zW zU (48+((x.1 % 16:Nat):Int))]) (m:Int) (zW zI ((j:Int)+1)) else none))→
   ∃o',Z=some (match(if 9<((x.1/16:Nat):Int)∨9<((x.1 % 16:Nat):Int) then some ((3:Int),(j:Int)) else bcdE (decide (nn % 2=1)) (((bl b).take m).drop (j+1)) (j+1)) with
    |some e=> .inl ((nn:Int),bs [],e.1,e.2,o')
    |none=> .inr ((nn:Int),o++(48+((x.1/16:Nat):Int))::(48+((x.1 % 16:Nat):Int))::bcdN (((bl b).take m).drop (j+1)))):=fun Z hZ=>by
   rw[hZ]
   by_cases c1:(9:Int)<((x.1/16:Nat):Int)
   ·rw[zT c1,if_pos (.inl c1)]
    exact⟨o,rfl⟩
   ·by_cases c2:(9:Int)<((x.1 % 16:Nat):Int)
    ·rw[zF c1,zD,zT c2,if_pos (.inr c2)]
     exact⟨o,rfl⟩
    ·rw[zF c1,zD,zF c2,zD,if_neg (fun h=>h.elim c1 c2),nib8 (by omega),nib8 (by omega),zT (by simp only[List.length_cons,List.length_nil];omega),zC,z18 (by omega)]
     obtain⟨o',h⟩:=ih
     refine⟨o',h.trans ?_⟩
     rw[List.append_assoc]
     rfl
  by_cases j0:j=0
  ·subst j0
   rw[zT (by omega:((0:Nat):Int)=0),zC]
   by_cases hp:nn % 2=1
   ·rw[zT hp,zF (by omega:¬((nn % 2:Nat):Int)=0),Bool.not_false,zC]
    by_cases hz:x.1/16=0
    ·rw[if_neg (by omega),zT (by omega),Bool.not_true,zD]
     have:=plain _ rfl
     rw[zT hp] at this
     exact this
    ·rw[if_pos (by simp;omega),zF (by omega),Bool.not_false,zC]
     exact⟨o,rfl⟩
   ·rw[zF hp,zT (by omega:((nn % 2:Nat):Int)=0),Bool.not_true,zD,if_neg (by simp)]
    have:=plain _ rfl
    rw[zF hp] at this
    exact this
  ·rw[zF (by omega:¬(j:Int)=0),zD,if_neg (by omega)]
   exact plain _ rfl
theorem zeb(b:ByteArray)(n:Int)(hb:b.size≤1099511627776):Q0 b n=some (z1m b n):=by
 unfold Q0 Q0_s0 z1m
 by_cases h0:n<0
 ·rw[zT h0,if_pos (.inl h0)];rfl
 ·rw[zF h0,zD]
  by_cases h1:999<n
  ·rw[zT h1,if_pos (.inr h1)];rfl
  ·rw[zF h1,zD,if_neg (fun h=>h.elim h0 h1),z5e n (by omega) (by omega),zc]
   by_cases h2:(b.size:Int)<(n+1)/2
   ·rw[zT h2,if_pos h2];rfl
   ·rw[zF h2,zD,if_neg h2,zi (by omega) (by omega),zT (by omega),zC,zT (by omega),zC,zc]
    obtain⟨nn,rfl⟩:∃nn:Nat,n=nn:=⟨n.toNat,by omega⟩
    have em:((nn:Int)+1)/2=(((nn+1)/2:Nat):Int):=by omega
    have ep:((nn:Int)% 2).toNat=nn % 2:=by omega
    have eo:decide ((nn:Int)% 2=1)=decide (nn % 2=1):=decide_eq_decide.2 (by omega)
    rw[em,Int.toNat_natCast,eo,ep]
    obtain⟨o',h⟩:=zkf b hb nn (by omega) ((nn+1)/2) (by omega) ((nn+1)/2) 0 FUEL [] (by omega) (by rw[z14];omega) (by simp;omega)
    rw[show((0:Nat):Int)=0 from rfl,List.drop_zero,List.nil_append] at h
    dsimp only
    rw[h,zc]
    cases bcdE (decide (nn % 2=1)) ((bl b).take ((nn+1)/2)) 0 with
    |some e=>rfl
    |none=>
     dsimp only
     rw[Sum.elim_inr]
     unfold Q0_s3
     dsimp only
     rw[z67,zT (by omega),zC]
     have hlen:∀l:List Int,(bcdN l).length=2*l.length:=fun l=>by
      induction l with
      |nil=>rfl
      |cons x r ih=>rw[bcdN,List.length_cons,List.length_cons,ih,List.length_cons];omega
     rw[zT (by rw[hlen,List.length_take,zg];omega),zC,Int.toNat_natCast,List.take_length]
end Groat

namespace Groat
open Go.IntKind renaming wrap→zW,i64→zI,u8→zU
open Go Go.Ref
end Groat

namespace Groat
open Go.IntKind renaming wrap→zW,i64→zI,u8→zU
open Go Go.Ref
theorem z2a{a:Int}{l:List Int}:allD (a::l)=true↔isDig a=true∧allD l=true:=by
 rw[zuv,Bool.and_eq_true]
theorem z2q{a:Int}:isDig a=true↔48≤a∧a≤57:=by
 unfold isDig
 rw[decide_eq_true_eq]
theorem zli:∀l:List Int,(bcdP l).length=l.length/2
 | []=>rfl
 | [a]=>by simp [bcdP]
 |a::b::r=>by rw[bcdP,List.length_cons,zli r,List.length_cons,List.length_cons];omega
theorem zlh:∀l:List Int,(bcdN l).length=2*l.length
 | []=>rfl
 |x::r=>by rw[bcdN,List.length_cons,List.length_cons,zlh r,List.length_cons];omega
theorem zv3:∀{l:List Int},allD l=true→∀y∈bcdP l,zn y
 | [],_,y,hy=>by simp [bcdP] at hy
 | [a],_,y,hy=>by simp [bcdP] at hy
 |a::b::r,h,y,hy=>by
  obtain⟨h1,h2⟩:=z2a.1 h
  obtain⟨h2,h3⟩:=z2a.1 h2
  rw[z2q] at h1 h2
  rw[bcdP] at hy
  rcases List.mem_cons.1 hy with rfl|hy
  ·unfold zn;omega
  ·exact zv3 h3 y hy
theorem bcdNP:∀{l:List Int},l.length % 2=0→allD l=true→bcdN (bcdP l)=l
 | [],_,_=>by simp [bcdP,bcdN]
 | [a],h,_=>by simp at h
 |a::b::r,h,hd=>by
  obtain⟨h1,h2⟩:=z2a.1 hd
  obtain⟨h2,h3⟩:=z2a.1 h2
  rw[z2q] at h1 h2
  rw[bcdP,bcdN,bcdNP (by simp only[List.length_cons] at h;omega) h3,show 48+(16*(a-48)+(b-48))/16=a by omega,show 48+(16*(a-48)+(b-48))% 16=b by omega]
theorem bcdEP(odd:Bool):∀{l:List Int} {i:Nat},l.length % 2=0→allD l=true→(i=0→odd=true→l.getD 0 48=48)→bcdE odd (bcdP l) i=none
 | [],_,_,_,_=>by simp [bcdP,bcdE]
 | [a],_,h,_,_=>by simp at h
 |a::b::r,i,h,hd,ho=>by
  obtain⟨h1,h2⟩:=z2a.1 hd
  obtain⟨h2,h3⟩:=z2a.1 h2
  rw[z2q] at h1 h2
  rw[bcdP,bcdE,if_neg,if_neg (by omega)]
  ·exact bcdEP odd (by simp only[List.length_cons] at h;omega) h3 fun hi=>by omega
  ·rintro⟨e1,e2,e3⟩
   have:a=48:=ho e1 e2
   omega
def bcdX(s:ByteArray):List Int:=if s.size % 2=1 then 48::bl s else bl s
theorem zv4(s:ByteArray):(bcdX s).length % 2=0:=by
 unfold bcdX
 split
 ·rw[List.length_cons,zg];omega
 ·rw[zg];omega
theorem zyh(s:ByteArray):(bcdX s).length/2=(s.size+1)/2:=by
 unfold bcdX
 split
 ·rw[List.length_cons,zg]
 ·rw[zg];omega
theorem zlj{s:ByteArray}(h:allD (bl s)=true):allD (bcdX s)=true:=by
 unfold bcdX
 split
 ·exact z2a.2 ⟨rfl,h⟩
 ·exact h
theorem zee{s:ByteArray}(h:s.size≤999)(hd:allD (bl s)=true):z30 s=(strOf (bcdP (bcdX s)),true):=by
 unfold z30 bcdX
 rw[zT ⟨h,hd⟩,zC]
theorem z4o{s:ByteArray}(h:s.size≤999)(hd:allD (bl s)=true):(z30 s).1.size=(s.size+1)/2:=by
 rw[zee h hd]
 show(strOf _).size=_
 rw[z1z,zli,zyh]
theorem zlk{s:ByteArray}(h:s.size≤999)(hd:allD (bl s)=true):z1m (z30 s).1 (s.size:Int)=(s,0,0):=by
 have hsz:=z4o h hd
 have hb:bl (z30 s).1=bcdP (bcdX s):=by rw[zee h hd];exact z21 (zv3 (zlj hd))
 unfold z1m
 rw[if_neg (by omega),if_neg (by rw[hsz];omega),hb,List.take_of_length_le (by rw[zli,zyh];omega),bcdEP _ (zv4 s) (zlj hd),bcdNP (zv4 s) (zlj hd)]
 ·dsimp only
  by_cases hp:s.size % 2=1
  ·rw[show((s.size:Int)% 2).toNat=1 by omega]
   unfold bcdX
   rw[if_pos hp,List.drop_succ_cons,List.drop_zero,z3f]
  ·rw[show((s.size:Int)% 2).toNat=0 by omega]
   unfold bcdX
   rw[if_neg hp,List.drop_zero,z3f]
 ·intro _ ho
  have ho:=of_decide_eq_true ho
  unfold bcdX
  rw[if_pos (by omega)];rfl
theorem zv2{odd:Bool}:∀{l:List Int} {i:Nat},bcdE odd l i=none→(∀x∈l,x/16≤9∧x % 16≤9)∧(i=0→odd=true→l.getD 0 0/16=0)
 | [],i,_=>⟨fun x hx=>(by cases hx),fun _ _=>rfl⟩
 |a::r,i,h=>by
  rw[bcdE] at h
  by_cases h1:i=0∧odd=true∧a/16≠0
  ·rw[if_pos h1] at h;cases h
  ·rw[if_neg h1] at h
   by_cases h2:9<a/16∨9<a % 16
   ·rw[if_pos h2] at h;cases h
   ·rw[if_neg h2] at h
    refine⟨fun x hx=> ?_,fun hi ho=> ?_⟩
    ·rcases List.mem_cons.1 hx with rfl|hx
     ·omega
     ·exact(zv2 h).1 x hx
    ·show a/16=0
     by_cases h3:a/16=0
     ·exact h3
     ·exact absurd ⟨hi,ho,h3⟩ h1
theorem bcdPN:∀{l:List Int},(∀x∈l,zn x)→bcdP (bcdN l)=l
 | [],_=>by simp [bcdN,bcdP]
 |x::r,h=>by
  have hx:=h x List.mem_cons_self
  unfold zn at hx
  rw[bcdN,bcdP,bcdPN fun y hy=>h y (List.mem_cons_of_mem _ hy),show 16*(48+x/16-48)+(48+x % 16-48)=x by omega]
theorem zyg:∀{l:List Int},(∀x∈l,zn x)→(∀x∈l,x/16≤9∧x % 16≤9)→allD (bcdN l)=true
 | [],_,_=>rfl
 |x::r,h,h9=>by
  have hx:=h x List.mem_cons_self
  have hy:=h9 x List.mem_cons_self
  unfold zn at hx
  rw[bcdN]
  exact z2a.2 ⟨z2q.2 (by omega),z2a.2 ⟨z2q.2 (by omega),zyg (fun y hy=>h y (List.mem_cons_of_mem _ hy)) fun y hy=>h9 y (List.mem_cons_of_mem _ hy)⟩⟩
theorem zvi{l:List Int}(h:allD l=true):∀x∈l,zn x:=fun x hx=>by
 have:=z2q.1 (List.all_eq_true.1 h x hx)
 unfold zn;omega
theorem zef{b t:ByteArray}{n i:Int}(h:z1m b n=(t,0,i))(hb:(b.size:Int)=(n+1)/2):z30 t=(b,true)∧(t.size:Int)=n∧allD (bl t)=true:=by
 unfold z1m at h
 by_cases h0:n<0∨999<n
 ·rw[if_pos h0] at h;cases h
 ·rw[if_neg h0,if_neg (by omega),←hb,Int.toNat_natCast,List.take_of_length_le (by rw[zg];exact Nat.le_refl _)] at h
  cases he:bcdE (decide (n % 2=1)) (bl b) 0 with
  |some e=>
   rw[he] at h
   dsimp only at h
   injection h with _ h
   injection h with h _
   exfalso
   have key:∀{l:List Int} {i:Nat} {odd:Bool} {e:Int×Int},bcdE odd l i=some e→e.1≠0:=by
    intro l
    induction l with
    |nil=>intro i odd e h;cases h
    |cons a r ih=>
     intro i odd e h
     rw[bcdE] at h
     split at h
     ·cases h;decide
     ·split at h
      ·cases h;simp
      ·exact ih h
   exact key he h
  |none=>
   rw[he] at h
   dsimp only at h
   obtain⟨g1,g2⟩:=zv2 he
   have hby:∀x∈bl b,zn x:=fun x hx=>z1p hx
   have hall:=zyg hby g1
   have ht:t=strOf ((bcdN (bl b)).drop (n % 2).toNat):=(congrArg Prod.fst h).symm
   have hdall:allD ((bcdN (bl b)).drop (n % 2).toNat)=true:=List.all_eq_true.2 fun x hx=>List.all_eq_true.1 hall x (List.mem_of_mem_drop hx)
   have hbt:bl t=(bcdN (bl b)).drop (n % 2).toNat:=by rw[ht];exact z21 (zvi hdall)
   have hts:t.size=2*b.size-(n % 2).toNat:=by rw[←zg,hbt,List.length_drop,zlh,zg]
   have hX:bcdX t=bcdN (bl b):=by
    unfold bcdX
    by_cases hp:n % 2=1
    ·rw[if_pos (by omega),hbt,show(n % 2).toNat=1 by omega]
     have h1:=g2 rfl (by rw[zT hp])
     cases hl:bl b with
     |nil=>
      have h9:b.size=0:=by rw[←zg,hl];rfl
      omega
     |cons x r=>
      rw[hl] at h1
      have h1:x/16=0:=h1
      rw[bcdN,List.drop_succ_cons,List.drop_zero,h1];rfl
    ·rw[if_neg (by omega),hbt,show(n % 2).toNat=0 by omega,List.drop_zero]
   have hd:allD (bl t)=true:=by rw[hbt];exact hdall
   refine⟨?_,by omega,hd⟩
   rw[zee (by omega) hd,hX,bcdPN hby,z3f]
end Groat

namespace Groat
open Go.IntKind renaming wrap→zW,i64→zI,u8→zU
open Go Go.Ref
def preOk(style form:Int):Bool:=decide ((style=1∨style=2)∧(form=2∨form=3))
def preS(style form:Int):Nat:=if style=2 then(form.toNat+1)/2 else form.toNat
def z29(style form n:Int):ByteArray×Int:=
 bif preOk style form then(bif(putD n form).2 then(if style=2 then(z30 (putD n form).1).1 else(putD n form).1,0) else(bs [],5)) else(bs [],1)
def preT(style form:Int)(s:ByteArray):Option Int:=
 if style=2 then(if(z1m s form).2.1=0 then(if(getD' (bl (z1m s form).1)).2=true then some (getD' (bl (z1m s form).1)).1 else none) else none) else if(getD' (bl s)).2=true then some (getD' (bl s)).1 else none
def z1s(style form:Int)(b:ByteArray)(at_:Int):Int×Int×Int:=
 bif preOk style form&&decide (0≤at_∧at_≤b.size) then(if b.size<at_.toNat+preS style form then(0,0,2) else
  match preT style form (b.extract at_.toNat (at_.toNat+preS style form)) with
  |some n=>(n,((at_.toNat+preS style form:Nat):Int),0)
  |none=>(0,0,3)) else(0,0,1)
theorem zwi(n w:Int):(putD n w).1.size≤18:=by
 by_cases h:0≤n∧1≤w∧w≤18∧n.toNat/10^w.toNat=0
 ·rw[zpk h];show(strOf _).size≤18;rw[z1z,z5h];omega
 ·rw[zfe h];decide
theorem z19j(style form n:Int)(hn:n≤9223372036854775807):Q184 style form n=some (z29 style form n):=by
 unfold Q184 zhr Q185 z9j Q186 z9k z29 preOk
 by_cases h1:style=1<;>by_cases h2:style=2<;>by_cases h3:form=2<;>by_cases h4:form=3<;>(try(exfalso;omega))<;>simp [h1,h2,h3,h4,z1i5 _ _ hn]
 all_goals
  cases hp:(putD n _).2<;>simp [hp]
 all_goals
  rw[zec _ (by have:=zwi n;simp only[maxLen];first|(have:=this 2;omega)|(have:=this 3;omega))]
  rfl
theorem z4v{b:ByteArray}{i n:Nat}(h:i+n≤b.size):(b.extract i (i+n)).size=n:=by rw[ByteArray.size_extract];omega
theorem z8m{b t:ByteArray}{n e i:Int}(h:z1m b n=(t,e,i)):t.size≤1998:=by
 unfold z1m at h
 split at h
 ·cases h;decide
 ·split at h
  ·cases h;decide
  ·split at h
   ·cases h;decide
   ·cases h
    rw[z1z,List.length_drop,zlh,List.length_take]
    omega
theorem z19h(style form:Int)(b:ByteArray)(at_:Int)(hb:b.size≤1099511627776):Q182 style form b at_=some (z1s style form b at_):=by
 unfold Q182 zho Q185 z9j Q186 z9k z1s preOk
 by_cases hat:0≤at_∧at_≤b.size
 ·obtain⟨m,rfl⟩:∃m:Nat,at_=m:=⟨at_.toNat,by omega⟩
  have hm:m≤b.size:=by omega
  have w0:zW zI ((b.size:Int)-(m:Int))=(b.size:Int)-m:=zi (by omega) (by omega)
  have w1:∀k:Nat,k≤3→zW zI ((m:Int)+(k:Int))=((m+k:Nat):Int):=fun k hk=>by rw[zi (by omega) (by omega)];omega
  have z1:=z5e 2 (by decide) (by decide)
  have z2:=z5e 3 (by decide) (by decide)
  have v1:=w1 1 (by decide)
  have v2:=w1 2 (by decide)
  have v3:=w1 3 (by decide)
  rw[show((1:Nat):Int)=1 from rfl] at v1
  rw[show((2:Nat):Int)=2 from rfl] at v2
  rw[show((3:Nat):Int)=3 from rfl] at v3
  have t2:((m:Int)+2).toNat=m+2:=by omega
  have t3:((m:Int)+3).toNat=m+3:=by omega
  have a1:¬(m:Int)<0:=by omega
  have a2:¬(b.size:Int)<m:=by omega
  have a3:0≤((m:Int)):=by omega
  have a4:(m:Int)≤b.size:=by omega
  by_cases h1:style=1<;>by_cases h2:style=2<;>by_cases h3:form=2<;>by_cases h4:form=3<;>(try(exfalso;omega))<;>simp [h1,h2,h3,h4,a1,a2,w0,z1,z2,v1,v2,v3,preS]
  all_goals
   rw[zT hm,zC]
   split
   ·rename_i hc
    rw[zT (by omega),zC]
   ·rename_i hc
    rw[zF (by omega),zD,zT (by omega),zC,zT (by omega),zC,zT (by omega),zC]
    try rw[t2]
    try rw[t3]
    first
     |(rw[z14f _ (by rw[ByteArray.size_extract];simp only[maxLen];omega),zc]
       unfold preT
       rw[if_neg (by decide)]
       cases(getD' _).2<;>rfl)
     |(rw[zeb _ _ (by rw[ByteArray.size_extract];omega),zc]
       unfold preT
       rw[if_pos rfl]
       generalize hg:z1m _ _=gg
       obtain⟨t,e,i⟩:=gg
       dsimp only
       by_cases he:e=0
       ·rw[zT he,zC,if_pos he,z14f _ (by have:=z8m hg;simp only[maxLen];omega),zc]
        cases(getD' _).2<;>rfl
       ·rw[zF he,if_neg he];rfl)
 ·rw[zF (p:=0≤at_∧at_≤(b.size:Int)) hat,Bool.and_false,zD]
  by_cases h1:style=1<;>by_cases h2:style=2<;>by_cases h3:form=2<;>by_cases h4:form=3<;>(try(exfalso;omega))<;>by_cases h5:at_<0<;>by_cases h6:(b.size:Int)<at_<;>(try(exfalso;omega))<;>simp [h1,h2,h3,h4,h5,h6]
end Groat

namespace Groat
open Go.IntKind renaming wrap→zW,i64→zI,u8→zU
open Go Go.Ref
theorem zu0(n:Int):Q4 n=some (if n<0∨65535<n then 0 else if 255<n then 3 else if 127<n then 2 else 1):=by
 unfold Q4 Q4_s0
 by_cases h1:n<0
 ·rw[zT h1,if_pos (.inl h1)];rfl
 by_cases h2:(65535:Int)<n
 ·rw[zF h1,zT h2,if_pos (.inr h2)];rfl
 rw[zF h1,zF h2,if_neg (by omega)]
 by_cases h3:(255:Int)<n
 ·rw[zT h3,if_pos h3];rfl
 by_cases h4:(127:Int)<n
 ·rw[zF h3,zT h4,if_neg h3,if_pos h4];rfl
 ·rw[zF h3,zF h4,if_neg h3,if_neg h4];rfl
theorem fuel3:∃k,FUEL=k+1+1+1:=⟨FUEL-3,by rw[z14]⟩
theorem z12g{y:Int}(hy:zn y):ibits .or .i64 (zW zI (0*2^min (8:Int).toNat 64)) (zW zI y)=y:=by
 obtain⟨k,rfl⟩:=z1i hy
 clear hy
 revert k
 decide+kernel
theorem z17h(s:ByteArray)(hs:s.size≤9223372036854775000)(a:Int):Q3 s a=Q91 s a:=by
 unfold Q3 Q3_s0 Q91 zy4
 by_cases h1:a<0
 ·rw[zT h1];rfl
 rw[zF h1,zD,zD]
 by_cases h2:(s.size:Int)<a
 ·rw[zT h2];rfl
 rw[zF h2,zD,zD]
 by_cases h3:a=(s.size:Int)
 ·rw[zT h3];rfl
 have wa:∀{R:Type} (x:Option R),zd a s.size x=x:=fun x=>zr (by omega) (by omega)
 rw[zF h3,zD,zD]
 simp only[wa]
 obtain⟨x,hx⟩:=z1i (z1w s a.toNat)
 have hx2:=x.2
 have w1:zW zI (a+1)=a+1:=zi (by omega) (by omega)
 have w2:zW zI (x.1:Int)=(x.1:Int):=zi (by omega) (by omega)
 have w4:zW zI ((s.size:Int)-a)=(s.size:Int)-a:=zi (by omega) (by omega)
 have w5:zW zI ((s.size:Int)-(a+1))=(s.size:Int)-(a+1):=zi (by omega) (by omega)
 have w6:zW zI ((x.1:Int)-128)=(x.1:Int)-128:=zi (by omega) (by omega)
 have w7:zW zI ((x.1:Int)-127)=(x.1:Int)-127:=zi (by omega) (by omega)
 obtain⟨k,hk⟩:=fuel3
 simp only[hx,w2,w1,w4,w5,w6,w7,hk]
 by_cases h4:(127:Int)<(x.1:Int)
 ·rw[zT h4,zC,zF (by omega:¬(x.1:Int)<128),zD]
  by_cases h5:(x.1:Int)=129
  ·have wn:zW zI (0+1)=1:=rfl
   simp only[h5]
   by_cases h6:(s.size:Int)-a<2
   ·have e1:((s.size:Int)-(a+1)<129-128):=by omega
    have e2:((s.size:Int)-a<129-127):=by omega
    rw[zT e1,zT e2];rfl
   ·have e1:¬((s.size:Int)-(a+1)<129-128):=by omega
    have e2:¬((s.size:Int)-a<129-127):=by omega
    have wb:∀{R:Type} (x:Option R),zd (a+1) s.size x=x:=fun x=>zr (by omega) (by omega)
    have wc:∀{R:Type} (x:Option R),zd (zW zI (a+1+0)) s.size x=x:=fun x=>by rw[Int.add_zero,w1];exact wb x
    obtain⟨y,hy⟩:=z1i (z1w s (a+1).toNat)
    have hy2:=y.2
    have w3:zW zI (y.1:Int)=(y.1:Int):=zi (by omega) (by omega)
    have oz:=z12g (y:=(y.1:Int)) ⟨by omega,by omega⟩
    rw[w3] at oz
    rw[zF e1,zF e2]
    have l1:Q3_l0 (k+1+1+1) s (a+1) 0 (129-128) (129-128) 0=some (a+1,(y.1:Int),129-128):=by
     simp only[Q3_l0,Q3_s1]
     rw[show decide ((0:Int)<129-128)=true from rfl,zC,wc,wn,show decide ((1:Int)<129-128)=false from rfl,zD,Int.add_zero,w1,hy,w3,oz]
    simp only[wb,hy,w3]
    show(Q3_l0 (k+1+1+1) s (a+1) 0 (129-128) (129-128) 0).bind _=_
    rw[l1,Option.bind_some]
    unfold Q3_s2
    dsimp only
    rw[zu0,Option.bind_some]
    by_cases h7:(y.1:Int)<128
    ·rw[if_neg (by omega),if_neg (by omega),if_neg (by omega),zT h7];rfl
    ·rw[if_neg (by omega),if_neg (by omega),if_pos (by omega),zF h7]
     have:zW zI (a+1+(129-128))=zW zI (a+2):=by congr 1;omega
     simp only[this]
     rfl
  ·by_cases h6:(x.1:Int)=130
   ·have wn:zW zI (0+1)=1:=rfl
    have wm:zW zI (1+1)=2:=rfl
    simp only[h6]
    by_cases h7:(s.size:Int)-a<3
    ·have e1:((s.size:Int)-(a+1)<130-128):=by omega
     have e2:((s.size:Int)-a<130-127):=by omega
     rw[zT e1,zT e2];rfl
    ·have e1:¬((s.size:Int)-(a+1)<130-128):=by omega
     have e2:¬((s.size:Int)-a<130-127):=by omega
     have wb:∀{R:Type} (x:Option R),zd (a+1) s.size x=x:=fun x=>zr (by omega) (by omega)
     have w8:zW zI (a+2)=a+2:=zi (by omega) (by omega)
     have w9:zW zI (a+1+1)=a+2:=by rw[zi (by omega) (by omega)];omega
     have wd:∀{R:Type} (x:Option R),zd (a+2) s.size x=x:=fun x=>zr (by omega) (by omega)
     obtain⟨y,hy⟩:=z1i (z1w s (a+1).toNat)
     obtain⟨z,hz⟩:=z1i (z1w s (a+2).toNat)
     have hy2:=y.2
     have hz2:=z.2
     have w3:zW zI (y.1:Int)=(y.1:Int):=zi (by omega) (by omega)
     have w3':zW zI (z.1:Int)=(z.1:Int):=zi (by omega) (by omega)
     have oz:=z12g (y:=(y.1:Int)) ⟨by omega,by omega⟩
     have ob:=zzs (x:=(y.1:Int)) (y:=(z.1:Int)) ⟨by omega,by omega⟩ ⟨by omega,by omega⟩
     rw[w3] at oz
     rw[w3,w3'] at ob
     rw[zF e1,zF e2]
     have l1:Q3_l0 (k+1+1+1) s (a+1) 0 (130-128) (130-128) 0=some (a+1,(y.1:Int)*256+(z.1:Int),130-128):=by
      simp only[Q3_l0,Q3_s1]
      rw[show decide ((0:Int)<130-128)=true from rfl,zC,wn,wm,show decide ((1:Int)<130-128)=true from rfl,zC,show decide ((2:Int)<130-128)=false from rfl,zD,Int.add_zero,w1,wb,w9,wd,hy,hz,w3,w3',oz,ob]
     have w5':zW zI (256*(y.1:Int))=256*(y.1:Int):=zi (by omega) (by omega)
     have w6':zW zI (256*(y.1:Int)+(z.1:Int))=(y.1:Int)*256+(z.1:Int):=by rw[zi (by omega) (by omega)];omega
     simp only[wb,w8,wd,hy,hz,w3,w3',w5',w6']
     show(Q3_l0 (k+1+1+1) s (a+1) 0 (130-128) (130-128) 0).bind _=_
     rw[l1,Option.bind_some]
     unfold Q3_s2
     dsimp only
     rw[zu0,Option.bind_some]
     by_cases h8:(y.1:Int)=0
     ·rw[if_neg (by omega),if_neg (by omega),zT h8]
      by_cases h9:(127:Int)<(y.1:Int)*256+(z.1:Int)
      ·rw[if_pos h9];rfl
      ·rw[if_neg h9];rfl
     ·rw[if_neg (by omega),if_pos (by omega),zF h8]
      have:zW zI (a+1+(130-128))=zW zI (a+3):=by congr 1;omega
      simp only[this]
      rfl
   ·rw[zF h5,zF h6]
    by_cases h7:(x.1:Int)=128
    ·rw[zT h7];rfl
    ·rw[zF h7,zT (by omega:(130:Int)<(x.1:Int))];rfl
 ·rw[zF h4,zD,zT (by omega:(x.1:Int)<128),zC,zF (by omega:¬(s.size:Int)-(a+1)<0),zD]
  have l1:Q3_l0 (k+1+1+1) s (a+1) (x.1:Int) 0 0 0=some (a+1,(x.1:Int),0):=by
   simp only[Q3_l0,Q3_s1]
   rw[show decide ((0:Int)<0)=false from rfl,zD]
  show(Q3_l0 (k+1+1+1) s (a+1) (x.1:Int) 0 0 0).bind _=_
  rw[l1,Option.bind_some]
  unfold Q3_s2
  dsimp only
  rw[zu0,Option.bind_some,if_neg (by omega),if_neg (by omega),if_neg (by omega),Int.add_zero,w1]
  rfl
end Groat

namespace Groat
open Go.IntKind renaming wrap→zW,i64→zI,u8→zU
open Go Go.Ref
abbrev Val:=Int×ByteArray×Unit
theorem zp0(l:List Val)(hl:l.length≤9223372036854775807)(t:Int):∀(m j k:Nat),j+m=l.length→m<k→ze8 k l (l.length:Int) t (j:Int)=some (if t∈(l.drop j).map (fun v=>v.1) then .inl true else .inr ())
 |m,j,0,_,hk=>by omega
 |0,j,k+1,hj,hk=>by
  unfold ze8 zy7
  rw[zF (by omega),List.drop_eq_nil_of_le (by omega)];rfl
 |m+1,j,k+1,hj,hk=>by
  have hlt:j<l.length:=by omega
  have hg:∀d,l.getD j d=l[j]:=fun d=>by rw[List.getD_eq_getElem?_getD,List.getElem?_eq_getElem hlt];rfl
  unfold ze8 zy7
  rw[zT (by omega),zC,zj hlt,Int.toNat_natCast,hg,List.drop_eq_getElem_cons hlt,List.map_cons]
  by_cases h:l[j].1=t
  ·rw[zT h,if_pos (by rw[h];exact List.mem_cons_self)];rfl
  ·rw[zF h,zD,z18 (by omega)]
   dsimp only
   rw[zp0 l hl t m (j+1) k (by omega) (by omega)]
   by_cases h2:t∈(l.drop (j+1)).map (fun v=>v.1)
   ·rw[if_pos h2,if_pos (List.mem_cons_of_mem _ h2)]
   ·rw[if_neg h2,if_neg (fun h3=>(List.mem_cons.1 h3).elim (fun e=>h e.symm) h2)]
theorem zz6(l:List Val)(hl:l.length≤maxLen)(t:Int):Q93 l (l.length:Int) t=some (decide (t∈l.map fun v=>v.1)):=by
 rw[zh] at hl
 unfold Q93 z16z
 dsimp only
 have:=zp0 l hl t l.length 0 FUEL (by omega) (by rw[z14];omega)
 rw[show((0:Nat):Int)=(0:Int) from rfl,List.drop_zero] at this
 rw[this,Option.bind_some]
 by_cases h:t∈l.map fun v=>v.1
 ·rw[if_pos h,zT h];rfl
 ·rw[if_neg h,zF h];rfl
theorem z10c(b:ByteArray)(hb:b.size≤9223372036854775000):∀(k:Nat) (t5:List Val) (t7:Int),t5.length≤5864062014805→z7a k b t5 t7 (seenM (t5.map fun v=>v.1))=za4 k b t5 t7
 |0,_,_,_=>rfl
 |k+1,t5,t7,hl=>by
  unfold z7a zje za4 zy6
  rw[z1a2 b hb]
  generalize decide (t7<(b.size:Int))=c0
  cases c0 with
  |false=>rfl
  |true=>
   simp only[zC]
   cases Q90 b t7 with
   |none=>rfl
   |some r1=>
    simp only[Option.bind_some]
    generalize(!decide (r1.2.2=0))=c1
    cases c1 with
    |true=>rfl
    |false=>
     simp only[zD]
     rw[z17h b hb]
     cases Q91 b r1.2.1 with
     |none=>rfl
     |some r2=>
      simp only[Option.bind_some]
      generalize(!decide (r2.2.2=0))=c2
      cases c2 with
      |true=>rfl
      |false=>
       simp only[zD]
       generalize decide (zW zI ((b.size:Int)-r2.2.1)<r2.1)=c3
       cases c3 with
       |true=>rfl
       |false=>
        simp only[zD]
        rw[zz6 t5 (by rw[zh];omega),Option.bind_some]
        have e1:=z8d (eqK (.int .i64)) (fun _ _=>rfl) r1.1 (t5.map fun v=>v.1)
        have e2:=z8e (eqK (.int .i64)) (fun _ _=>rfl) r1.1 (t5.map fun v=>v.1)
        by_cases hm:r1.1∈t5.map fun v=>v.1
        ·rw[e1.2 hm,zT hm];rfl
        ·rw[z58 e1 hm,z58 e2 hm,zF hm]
         simp only[zD]
         rw[z84]
         have hs:(t5.map fun v=>v.1)++ [r1.1]=(t5++ [((r1.1,(b.extract r2.2.1.toNat (zW zI (r2.2.1+r2.1)).toNat),()):Val)]).map fun v=>v.1:=by simp
         rw[hs]
         by_cases hn:(t5.length+1)*24≤140737488355328
         ·rw[z10c b hb k _ _ (by simp;omega)]
         ·have:decide ((t5.length+(List.length ([(r1.1,(b.extract r2.2.1.toNat (zW zI (r2.2.1+r2.1)).toNat),())]:List Val)))*24≤140737488355328)=false:=zF (by simp;omega)
          simp only[this,zD]
theorem z1a5(b:ByteArray)(hb:b.size≤9223372036854775000):Q232 b=Q92 b:=by
 unfold Q232 zjd Q92 zy5
 dsimp only
 have:=z10c b hb FUEL [] 0 (by simp)
 rw[show seenM (([]:List Val).map fun v=>v.1)=[] from rfl] at this
 rw[this]
 rfl
theorem z1cf(s:Spec)(x:ByteArray)(hx:x.size≤9223372036854775000):Q219 s x=Q95 s x:=by
 unfold Q219 ziv Q95 zob
 rw[z48,z1r,z1ao _ _ (by rw[zh];omega),zam _ _ (by rw[zh];omega),z1a5 x hx]
theorem z102(a b:Spec):Q220 a b=Q96 a b:=by
 unfold Q220 ziw Q96 zoc Q221 zix
 rw[z48,z1r,z48,z1r,z1cg,zap]
 simp only[Option.bind_some]
 by_cases h1:specC a=0
 ·by_cases h2:specC b=0
  ·simp only[h1,h2,decide_true,zC,Bool.not_true,zD]
   by_cases h3:a.2.2.2.1≤b.2.2.2.1
   ·rw[zT h3,zF (by omega:¬b.2.2.2.1<a.2.2.2.1)]
    by_cases h4:b.2.2.2.2.1≤a.2.2.2.2.1
    ·rw[zT h4,zF (by omega:¬a.2.2.2.2.1<b.2.2.2.2.1)]
     simp only[zC,zD]
     by_cases h5:a.2.1=5
     ·simp [h5]
     ·by_cases h6:a.2.1=6
      ·simp [h6]
      ·by_cases h7:b.2.1=6
       ·simp [h5,h6,h7]
       ·simp [h5,h6,h7]
    ·rw[zF h4,zT (by omega:a.2.2.2.2.1<b.2.2.2.2.1)];rfl
   ·rw[zF h3,zT (by omega:b.2.2.2.1<a.2.2.2.1)];rfl
  ·simp [h1,h2]
 ·simp [h1]
end Groat

namespace Groat
open Go.IntKind renaming wrap→zW,i64→zI,u8→zU
open Go Go.Ref
theorem z1a3(s:ByteArray)(hs:s.size≤9223372036854775000)(a:Int)(h0:0≤a)(h1:a<s.size):∃r,Q90 s a=some r∧(r.2.2=0→a<r.2.1∧r.2.1≤s.size):=by
 unfold Q90 zy3
 have wa:∀{R:Type} (x:Option R),zd a s.size x=x:=fun x=>zr (by omega) (by omega)
 rw[zF (by omega:¬a<0),zF (by omega:¬(s.size:Int)<a),zF (by omega:¬a=(s.size:Int))]
 simp only[zD,wa]
 obtain⟨x,hx⟩:=z1i (z1w s a.toNat)
 have w1:zW zI (a+1)=a+1:=zi (by omega) (by omega)
 have w4:zW zI ((s.size:Int)-a)=(s.size:Int)-a:=zi (by omega) (by omega)
 rw[hx,w1,w4]
 rcases zb6 x with h|⟨h,h31⟩|⟨h,h31⟩
 ·rw[h];exact⟨_,rfl,fun h=>by cases h⟩
 ·rw[h]
  exact⟨_,rfl,fun _=>⟨by show a<a+1;omega,by show a+1≤_;omega⟩⟩
 ·rw[h,Option.bind_some]
  simp only[show decide ((2:Int)=0)=false from rfl,show decide ((2:Int)=1)=false from rfl,zD]
  by_cases h4:(s.size:Int)-a<2
  ·rw[zT h4];exact⟨_,rfl,fun h=>by cases h⟩
  ·have wb:∀{R:Type} (x:Option R),zd (a+1) s.size x=x:=fun x=>zr (by omega) (by omega)
   have w2:zW zI (a+2)=a+2:=zi (by omega) (by omega)
   rw[zF h4]
   simp only[zD,wb]
   generalize decide (ze s (a+1).toNat=0)=c1
   generalize decide ((127:Int)<ze s (a+1).toNat)=c2
   cases c1
   ·cases c2
    ·exact⟨_,rfl,fun _=>⟨by show a<zW zI (a+2);rw[w2];omega,by show zW zI (a+2)≤_;rw[w2];omega⟩⟩
    ·exact⟨_,rfl,fun h=>by cases h⟩
   ·exact⟨_,rfl,fun h=>by cases h⟩
theorem z17i(s:ByteArray)(hs:s.size≤9223372036854775000)(a:Int)(h0:0≤a)(h1:a≤s.size):∃r,Q91 s a=some r∧(r.2.2=0→a<r.2.1∧r.2.1≤s.size∧0≤r.1∧r.1≤65535):=by
 unfold Q91 zy4
 rw[zF (by omega:¬a<0),zF (by omega:¬(s.size:Int)<a)]
 simp only[zD]
 by_cases he:a=(s.size:Int)
 ·rw[zT he];exact⟨_,rfl,fun h=>by cases h⟩
 have wa:∀{R:Type} (x:Option R),zd a s.size x=x:=fun x=>zr (by omega) (by omega)
 rw[zF he]
 simp only[zD,wa]
 obtain⟨x,hx⟩:=z1i (z1w s a.toNat)
 have hx2:=x.2
 have w1:zW zI (a+1)=a+1:=zi (by omega) (by omega)
 have w2:zW zI (x.1:Int)=(x.1:Int):=zi (by omega) (by omega)
 have w4:zW zI ((s.size:Int)-a)=(s.size:Int)-a:=zi (by omega) (by omega)
 have w7:zW zI ((x.1:Int)-127)=(x.1:Int)-127:=zi (by omega) (by omega)
 simp only[hx,w2,w1,w4,w7]
 by_cases h4:(x.1:Int)<128
 ·rw[zT h4]
  exact⟨_,rfl,fun _=>⟨by show a<a+1;omega,by show a+1≤_;omega,by show(0:Int)≤(x.1:Int);omega,by show(x.1:Int)≤65535;omega⟩⟩
 rw[zF h4]
 have h08:∀i,zn (ze s i):=z1w s
 by_cases h5:(x.1:Int)=129
 ·have wb:(s.size:Int)-a<(x.1:Int)-127∨∀{R:Type} (x:Option R),zd (a+1) s.size x=x:=by
   by_cases h:(s.size:Int)-a<(x.1:Int)-127
   ·exact .inl h
   ·exact .inr fun x=>zr (by omega) (by omega)
  rw[zT h5]
  simp only[Bool.not_true,zD,zC]
  by_cases h6:(s.size:Int)-a<(x.1:Int)-127
  ·rw[zT h6];exact⟨_,rfl,fun h=>by cases h⟩
  ·have wb:∀{R:Type} (x:Option R),zd (a+1) s.size x=x:=fun x=>zr (by omega) (by omega)
   have w8:zW zI (a+2)=a+2:=zi (by omega) (by omega)
   obtain⟨y,hy⟩:=z1i (h08 (a+1).toNat)
   have hy2:=y.2
   have w3:zW zI (y.1:Int)=(y.1:Int):=zi (by omega) (by omega)
   rw[zF h6]
   simp only[zD,wb,hy,w3,w8]
   generalize decide ((y.1:Int)<128)=c
   cases c
   ·exact⟨_,rfl,fun _=>⟨by show a<a+2;omega,by show a+2≤_;omega,by show(0:Int)≤(y.1:Int);omega,by show(y.1:Int)≤65535;omega⟩⟩
   ·exact⟨_,rfl,fun h=>by cases h⟩
 ·rw[zF h5]
  simp only[Bool.not_false,zD,zC]
  by_cases h9:(x.1:Int)=130
  ·rw[zT h9]
   simp only[Bool.not_true,zD]
   by_cases h6:(s.size:Int)-a<(x.1:Int)-127
   ·rw[zT h6];exact⟨_,rfl,fun h=>by cases h⟩
   ·have wb:∀{R:Type} (x:Option R),zd (a+1) s.size x=x:=fun x=>zr (by omega) (by omega)
    have w8:zW zI (a+2)=a+2:=zi (by omega) (by omega)
    have w9:zW zI (a+3)=a+3:=zi (by omega) (by omega)
    have wd:∀{R:Type} (x:Option R),zd (a+2) s.size x=x:=fun x=>zr (by omega) (by omega)
    obtain⟨y,hy⟩:=z1i (h08 (a+1).toNat)
    obtain⟨z,hz⟩:=z1i (h08 (a+2).toNat)
    have hy2:=y.2
    have hz2:=z.2
    have w3:zW zI (y.1:Int)=(y.1:Int):=zi (by omega) (by omega)
    have w3':zW zI (z.1:Int)=(z.1:Int):=zi (by omega) (by omega)
    have w5':zW zI (256*(y.1:Int))=256*(y.1:Int):=zi (by omega) (by omega)
    have w6':zW zI (256*(y.1:Int)+(z.1:Int))=256*(y.1:Int)+(z.1:Int):=zi (by omega) (by omega)
    rw[zF h6]
    simp only[zD,wb,w8,wd,hy,hz,w3,w3',w5',w6',w9]
    generalize decide ((y.1:Int)=0)=c
    cases c
    ·exact⟨_,rfl,fun _=>⟨by show a<a+3;omega,by show a+3≤_;omega,by show(0:Int)≤256*(y.1:Int)+(z.1:Int);omega,by show 256*(y.1:Int)+(z.1:Int)≤65535;omega⟩⟩
    ·exact⟨_,rfl,fun h=>by cases h⟩
  ·rw[zF h9];exact⟨_,rfl,fun h=>by cases h⟩
theorem z87(b:ByteArray)(hb:b.size≤1099511627776):∀(n:Nat) (k:Nat) (t5:List Val) (a:Int),0≤a→a≤b.size→(b.size:Int)-a≤n→n<k→t5.length+n≤2199023255552→∃r,za4 k b t5 a=some r
 |n,0,_,_,_,_,_,h,_=>by omega
 |n,k+1,t5,a,h0,h1,h2,h3,h4=>by
  unfold za4 zy6
  by_cases hlt:a<(b.size:Int)
  ·obtain⟨r1,e1,p1⟩:=z1a3 b (by omega) a h0 hlt
   rw[zT hlt,e1,Option.bind_some,zC]
   by_cases z1:r1.2.2=0
   ·obtain⟨q1,q2⟩:=p1 z1
    obtain⟨r2,e2,p2⟩:=z17i b (by omega) r1.2.1 (by omega) q2
    simp only[z1,decide_true,Bool.not_true,zD]
    rw[e2,Option.bind_some]
    by_cases z2:r2.2.2=0
    ·obtain⟨u1,u2,u3,u4⟩:=p2 z2
     simp only[z2,decide_true,Bool.not_true,zD]
     have w1:zW zI ((b.size:Int)-r2.2.1)=(b.size:Int)-r2.2.1:=zi (by omega) (by omega)
     have w2:zW zI (r2.2.1+r2.1)=r2.2.1+r2.1:=zi (by omega) (by omega)
     rw[w1,w2]
     by_cases z3:(b.size:Int)-r2.2.1<r2.1
     ·rw[zT z3];exact⟨_,rfl⟩
     ·rw[zF z3,zD,zz6 t5 (by rw[zh];omega),Option.bind_some]
      generalize decide (r1.1∈t5.map fun v=>v.1)=c
      cases c with
      |true=>exact⟨_,rfl⟩
      |false=>
       rw[zD,zT (by omega:0≤r2.2.1+r2.1),zT (by omega:r2.2.1+r2.1≤(((b.size:Nat):Int))),zT (by omega:0≤r2.2.1),zT (by omega:r2.2.1≤(((r2.2.1+r2.1).toNat:Nat):Int)),zT (by simp;omega)]
       simp only[zC]
       obtain⟨n,rfl⟩:∃n',n=n'+1:=⟨n-1,by omega⟩
       exact z87 b hb n k _ _ (by omega) (by omega) (by omega) (by omega) (by simp;omega)
    ·simp only[z2,decide_false,Bool.not_false,zC];exact⟨_,rfl⟩
   ·simp only[z1,decide_false,Bool.not_false,zC];exact⟨_,rfl⟩
  ·rw[zF hlt];exact⟨_,rfl⟩
theorem zl1(b:ByteArray)(hb:b.size≤1099511627776):∃r,Q92 b=some r:=by
 unfold Q92 zy5
 dsimp only
 obtain⟨r,hr⟩:=z87 b hb b.size FUEL [] 0 (by omega) (by omega) (by omega) (by rw[z14];omega) (by simp;omega)
 rw[hr,Option.bind_some]
 cases r<;>exact⟨_,rfl⟩
@[irreducible] def valC (s:Spec) (x:ByteArray):Int:=(Q95 s x).getD 0
theorem zod(s:Spec)(x:ByteArray)(hx:x.size≤1099511627776):Q95 s x=some (valC s x):=by
 have:∃v,Q95 s x=some v:=by
  unfold Q95 zob
  rw[z1r,Option.bind_some,zam _ _ (by rw[zh];omega),Option.bind_some]
  obtain⟨r,hr⟩:=zl1 x hx
  rw[hr,Option.bind_some]
  generalize(!decide (specC s=0))=c1
  generalize decide ((x.size:Int)<s.2.2.2.1)=c2
  generalize decide (s.2.2.2.2.1<(x.size:Int))=c3
  generalize decide ((0:Int)≤z31 s.2.1 (bl x) 0)=c4
  generalize decide (s.2.1=6)=c5
  cases c1<;>cases c2<;>cases c3<;>cases c4<;>cases c5<;>first|exact⟨_,rfl⟩|skip
  cases r with
  |inl r=>simp only[zD,zC,Sum.elim_inl];cases(!decide (r.2.1=0))<;>exact⟨_,rfl⟩
  |inr r=>simp only[zD,zC,Sum.elim_inr];cases(!decide (r.2.1=0))<;>exact⟨_,rfl⟩
 obtain⟨v,hv⟩:=this
 unfold valC
 rw[hv];rfl
theorem z2z(s:Spec)(x:ByteArray)(hx:x.size≤1099511627776):Q219 s x=some (valC s x):=by
 rw[z1cf s x (by omega),zod s x hx]
@[irreducible] def widS (a b:Spec):Bool:=(Q96 a b).getD false
theorem zoe(a b:Spec):Q96 a b=some (widS a b):=by
 have:∃v,Q96 a b=some v:=by
  unfold Q96 zoc
  rw[z1r,z1r,zap]
  simp only[Option.bind_some]
  generalize(!decide (specC a=0))=c1
  generalize(!decide (specC b=0))=c2
  generalize decide (b.2.2.2.1<a.2.2.2.1)=c3
  generalize decide (a.2.2.2.2.1<b.2.2.2.2.1)=c4
  generalize decide (a.2.1=5)=c5
  generalize decide (a.2.1=6)=c6
  generalize decide (b.2.1=6)=c7
  cases c1<;>cases c2<;>cases c3<;>cases c4<;>cases c5<;>cases c6<;>cases c7<;>exact⟨_,rfl⟩
 obtain⟨v,hv⟩:=this
 unfold widS
 rw[hv];rfl
theorem ze9(a b:Spec):Q220 a b=some (widS a b):=by rw[z102,zoe]
end Groat

namespace Groat
open Go.IntKind renaming wrap→zW,i64→zI,u8→zU
open Go Go.Ref
abbrev Rule:=Int×Int×Int×ByteArray×List Pair×Unit
def getS(s:zf)(no:Int):Spec:=(findS s.2.2.1 no).getD spec0
def hasS(s:zf)(no:Int):Bool:=(findS s.2.2.1 no).isSome
theorem z36(s:zf)(no:Int)(hl:s.2.2.1.length≤maxLen):Q211 s no=some (getS s no,hasS s no):=by
 rw[z1f2 s no hl]
 unfold getS hasS
 cases findS s.2.2.1 no<;>rfl
def endsE(r:Rule)(a b:zf):Bool:=
 (bif decide (r.1=3) then !decide (r.2.1=0) else !hasS a r.2.1)||(bif decide (r.1=2) then !decide (r.2.2.1=0) else !hasS b r.2.2.1)
def textE(r:Rule):Bool:=(!decide (r.2.2.2.1=bs [])&& !decide (r.1=3))||(decide (0<(r.2.2.2.2.1.length:Int))&& !decide (r.1=5))
def padS(s:Spec):Bool:=decide (s.2.1=1)&&decide (s.2.2.1=1)
def valsC:List Pair→Spec→Spec→Int
 | [],_,_=>0
 |p::r,x,y=>bif !decide (valC x p.1=0) then valC x p.1 else bif !decide (valC y p.2.1=0) then valC y p.2.1 else valsC r x y
def zfr(l:List Pair)(x y:Spec):Int:=bif(!decide ((z3v l).1=0)||decide ((l.length:Int)=0)) then 15 else valsC l x y
def kindC(r:Rule)(x y:Spec):Int:=
 bif decide (r.1=1) then(bif widS y x then 0 else 6) else bif decide (r.1=3) then valC y r.2.2.2.1 else bif decide (r.1=4) then(bif padS x&&padS y then 0 else 6) else bif decide (r.1=5) then zfr r.2.2.2.2.1 x y else 0
def ruleC(r:Rule)(a b:zf):Int:=
 bif decide (r.1<1)||decide (5<r.1) then 1 else bif endsE r a b then 9 else bif textE r then 3 else kindC r (getS a r.2.1) (getS b r.2.2.1)
structure PairsOk(l:List Pair):Prop where
 len:l.length≤1000000
 sz:∀p∈l,p.1.size≤1099511627776∧p.2.1.size≤1099511627776
structure RuleOk(r:Rule):Prop where
 text:r.2.2.2.1.size≤1099511627776
 pairs:PairsOk r.2.2.2.2.1
theorem z1hg(r:Rule)(a b:zf)(ha:a.2.2.1.length≤maxLen)(hb:b.2.2.1.length≤maxLen):Q207 r a b=some (getS a r.2.1,getS b r.2.2.1,bif endsE r a b then 9 else 0):=by
 unfold Q207 zid endsE
 rw[z36 a _ ha,z36 b _ hb]
 simp only[Option.bind_some]
 generalize decide (r.1=3)=k3
 generalize decide (r.1=2)=k2
 generalize decide (r.2.1=0)=z1
 generalize decide (r.2.2.1=0)=z2
 generalize hasS a r.2.1=h1
 generalize hasS b r.2.2.1=h2
 cases k3<;>cases k2<;>cases z1<;>cases z2<;>cases h1<;>cases h2<;>rfl
theorem z19e(s:Spec):Q208 s=some (padS s):=by
 unfold Q208 zie padS
 generalize decide (s.2.1=1)=c1
 generalize decide (s.2.2.1=1)=c2
 cases c1<;>cases c2<;>rfl
def vres(v:Int):Sum Int Unit:=if v=0 then .inr () else .inl v
theorem zwq(x y:Spec):∀(l:List Pair) (i:Int),(∀p∈l,p.1.size≤1099511627776∧p.2.1.size≤1099511627776)→
 runI (fun i (p:Pair) (s:Unit) K=>((Q219 x p.1).bind fun r2=>(bif(!decide (r2=0)) then some (Sum.inl r2) else((Q219 y p.2.1).bind fun r3=>(bif(!decide (r3=0)) then some (Sum.inl r3) else K s))))) (fun _=>some (Sum.inr ())) l i ()=some (vres (valsC l x y))
 | [],i,_=>rfl
 |p::r,i,h=>by
  obtain⟨h1,h2⟩:=h p List.mem_cons_self
  simp only[runI,valsC]
  rw[z2z x p.1 h1,Option.bind_some]
  by_cases z1:valC x p.1=0
  ·rw[zT z1]
   simp only[Bool.not_true,zD]
   rw[z2z y p.2.1 h2,Option.bind_some]
   by_cases z2:valC y p.2.1=0
   ·rw[zT z2]
    simp only[Bool.not_true,zD]
    exact zwq x y r (i+1) fun q hq=>h q (List.mem_cons_of_mem _ hq)
   ·rw[zF z2]
    simp only[Bool.not_false,zC,vres,if_neg z2]
  ·rw[zF z1]
   simp only[Bool.not_false,zC,vres,if_neg z1]
theorem z1eo(l:List Pair)(x y:Spec)(h:PairsOk l):Q209 l x y=some (zfr l x y):=by
 have hl:=h.len
 unfold Q209 zig zfr
 dsimp only
 rw[z6o l (by rw[zh];omega),Option.bind_some]
 cases(!decide ((z3v l).1=0)) with
 |true=>rfl
 |false=>
  cases decide ((l.length:Int)=0) with
  |true=>rfl
  |false=>
   simp only[zD,Bool.or_false]
   have:=loopI pair0 l (by rw[zh];omega) (fun i (p:Pair) (s:Unit) K=>((Q219 x p.1).bind fun r2=>(bif(!decide (r2=0)) then some (Sum.inl r2) else((Q219 y p.2.1).bind fun r3=>(bif(!decide (r3=0)) then some (Sum.inl r3) else K s))))) (fun _=>some (Sum.inr ()))
    (fun k i s=>z9p k l (l.length:Int) i x y) (fun k i s=>rfl) ()
   rw[this,zwq x y l 0 h.sz,Option.bind_some]
   unfold vres
   by_cases z:valsC l x y=0
   ·rw[if_pos z,z];rfl
   ·rw[if_neg z];rfl
theorem zzz(r:Rule)(a b:zf)(h:RuleOk r)(ha:a.2.2.1.length≤maxLen)(hb:b.2.2.1.length≤maxLen):Q206 r a b=some (ruleC r a b):=by
 unfold Q206 zic ruleC kindC textE
 rw[z1hg r a b ha hb]
 simp only[Option.bind_some,ze9,z2z _ _ h.text,z19e,z1eo _ _ _ h.pairs]
 generalize endsE r a b=e
 generalize decide (r.1<1)=c1
 generalize decide ((5:Int)<r.1)=c2
 generalize decide (r.2.2.2.1=bs [])=t
 generalize decide ((0:Int)<(r.2.2.2.2.1.length:Int))=p
 generalize decide (r.1=1)=k1
 generalize decide (r.1=3)=k3
 generalize decide (r.1=4)=k4
 generalize decide (r.1=5)=k5
 generalize padS (getS a r.2.1)=p1
 generalize padS (getS b r.2.2.1)=p2
 generalize widS (getS b r.2.2.1) (getS a r.2.1)=w
 cases c1<;>cases c2<;>first|rfl|skip
 cases e<;>first|rfl|skip
 cases t<;>cases p<;>cases k3<;>cases k5<;>first|rfl|skip
 all_goals(cases k1<;>cases k4<;>cases p1<;>cases p2<;>cases w<;>rfl)
end Groat

namespace Groat
open Go.IntKind renaming wrap→zW,i64→zI,u8→zU
open Go Go.Ref
end Groat

namespace Groat
open Go.IntKind renaming wrap→zW,i64→zI,u8→zU
open Go Go.Ref
@[irreducible] def tlvE (x:ByteArray):Int:=((Q92 x).map fun r=>Sum.elim (fun(w:Zt12×Int×Int)=>w.2.1) (fun(w:Zt12×Int×Int)=>w.2.1) r).getD 0
theorem z4a(s:Spec)(x:ByteArray)(hx:x.size≤1099511627776):valC s x=0↔specC s=0∧s.2.2.2.1≤(x.size:Int)∧(x.size:Int)≤s.2.2.2.2.1∧(bl x).all (isC s.2.1)=true∧(s.2.1=6→tlvE x=0):=by
 have h:=zod s x hx
 unfold Q95 zob at h
 rw[z1r,Option.bind_some,zam _ _ (by rw[zh];omega),Option.bind_some] at h
 obtain⟨r,hr⟩:=zl1 x hx
 have ht:tlvE x=Sum.elim (fun(w:Zt12×Int×Int)=>w.2.1) (fun(w:Zt12×Int×Int)=>w.2.1) r:=by unfold tlvE;rw[hr];rfl
 rw[hr,Option.bind_some] at h
 by_cases c1:specC s=0
 ·rw[zT c1,Bool.not_true,zD] at h
  by_cases c2:(x.size:Int)<s.2.2.2.1
  ·rw[zT c2,zC] at h
   have:=Option.some.inj h
   exact⟨fun e=>by omega,fun e=>by omega⟩
  rw[zF c2,zD] at h
  by_cases c3:s.2.2.2.2.1<(x.size:Int)
  ·rw[zT c3,zC] at h
   have:=Option.some.inj h
   exact⟨fun e=>by omega,fun e=>by omega⟩
  rw[zF c3,zD] at h
  have hf:=zkl s.2.1 (bl x) 0 (Int.le_refl _)
  by_cases c4:(0:Int)≤z31 s.2.1 (bl x) 0
  ·rw[zT c4,zC] at h
   have:=Option.some.inj h
   exact⟨fun e=>by omega,fun e=>absurd e.2.2.2.1 (hf.1 c4)⟩
  rw[zF c4,zD] at h
  have hall:(bl x).all (isC s.2.1)=true:=by
   cases hq:(bl x).all (isC s.2.1) with
   |true=>rfl
   |false=>exact absurd (hf.2 (by rw[hq];decide)) c4
  by_cases c5:s.2.1=6
  ·rw[zT c5,zC] at h
   have key:(bif(!decide (tlvE x=0)) then some (13:Int) else some 0)=some (valC s x):=by
    rw[←h]
    cases r with
    |inl r=>rw[Sum.elim_inl] at ht⊢;rw[←ht]
    |inr r=>rw[Sum.elim_inr] at ht⊢;rw[←ht]
   by_cases c6:tlvE x=0
   ·rw[zT c6] at key
    have:=Option.some.inj key
    exact⟨fun _=>⟨c1,by omega,by omega,hall,fun _=>c6⟩,fun _=>this.symm⟩
   ·rw[zF c6] at key
    have:=Option.some.inj key
    exact⟨fun e=>by omega,fun e=>absurd (e.2.2.2.2 c5) c6⟩
  ·rw[zF c5,zD] at h
   have:=Option.some.inj h
   exact⟨fun _=>⟨c1,by omega,by omega,hall,fun e=>absurd e c5⟩,fun _=>this.symm⟩
 ·rw[zF c1,Bool.not_false,zC] at h
  have:=Option.some.inj h
  exact⟨fun e=>by omega,fun e=>absurd e.1 c1⟩
theorem z1ey(a b:Spec):widS a b=true↔specC a=0∧specC b=0∧a.2.2.2.1≤b.2.2.2.1∧b.2.2.2.2.1≤a.2.2.2.2.1∧(a.2.1=5∨(a.2.1=6∧b.2.1=6)∨(a.2.1≠5∧a.2.1≠6∧b.2.1≠6∧z5p a.2.1 b.2.1=true)):=by
 have h:=zoe a b
 unfold Q96 zoc at h
 rw[z1r,z1r,zap] at h
 simp only[Option.bind_some] at h
 by_cases c1:specC a=0
 ·rw[zT c1,Bool.not_true,zD] at h
  by_cases c2:specC b=0
  ·rw[zT c2,Bool.not_true,zD] at h
   by_cases c3:b.2.2.2.1<a.2.2.2.1
   ·rw[zT c3,zC] at h
    have:=Option.some.inj h
    exact⟨fun e=>(by rw[e] at this;cases this),fun e=>by omega⟩
   rw[zF c3,zD] at h
   by_cases c4:a.2.2.2.2.1<b.2.2.2.2.1
   ·rw[zT c4,zC] at h
    have:=Option.some.inj h
    exact⟨fun e=>(by rw[e] at this;cases this),fun e=>by omega⟩
   rw[zF c4,zD] at h
   by_cases c5:a.2.1=5
   ·rw[zT c5,zC] at h
    have:=Option.some.inj h
    exact⟨fun _=>⟨c1,c2,by omega,by omega,.inl c5⟩,fun _=>this.symm⟩
   rw[zF c5,zD] at h
   by_cases c6:a.2.1=6
   ·rw[zT c6,zC] at h
    have:=Option.some.inj h
    rw[←this,decide_eq_true_eq]
    exact⟨fun e=>⟨c1,c2,by omega,by omega,.inr (.inl ⟨c6,by omega⟩)⟩,fun e=>by omega⟩
   rw[zF c6,zD] at h
   by_cases c7:b.2.1=6
   ·rw[zT c7,zC] at h
    have:=Option.some.inj h
    rw[←this,decide_eq_true_eq]
    exact⟨fun e=>by omega,fun e=>by omega⟩
   rw[zF c7,zD] at h
   have:=Option.some.inj h
   rw[←this]
   refine⟨fun e=>⟨c1,c2,by omega,by omega,.inr (.inr ⟨c5,c6,c7,e⟩)⟩,fun e=> ?_⟩
   rcases e.2.2.2.2 with e|e|e
   ·exact absurd e c5
   ·exact absurd e.1 c6
   ·exact e.2.2.2
  ·rw[zF c2,Bool.not_false,zC] at h
   have:=Option.some.inj h
   exact⟨fun e=>(by rw[e] at this;cases this),fun e=>absurd e.2.1 c2⟩
 ·rw[zF c1,Bool.not_false,zC] at h
  have:=Option.some.inj h
  exact⟨fun e=>(by rw[e] at this;cases this),fun e=>absurd e.1 c1⟩
theorem z6b{s:Spec}(h:specC s=0):(2≤s.1∧s.1≤128)∧(1≤s.2.1∧s.2.1≤6)∧(1≤s.2.2.1∧s.2.2.1≤3)∧(1≤s.2.2.2.1∧s.2.2.2.1≤s.2.2.2.2.1∧s.2.2.2.2.1≤999)∧(s.2.2.1=1→s.2.2.2.1=s.2.2.2.2.1)∧¬(s.2.2.1=1∧s.2.1=6):=by
 unfold specC at h
 split at h
 ·omega
 split at h
 ·omega
 split at h
 ·omega
 split at h
 ·omega
 split at h
 ·omega
 ·omega
theorem z1i2:∀a b:Fin 7,z5p (a.1:Int) (b.1:Int)=true→a.1≠5→a.1≠6→b.1≠6→(a.1=b.1∨(a.1=3∧(b.1=1∨b.1=2))∨(a.1=4∧(b.1=1∨b.1=2∨b.1=3))):=by decide+kernel
theorem z1ag{a b:Int}(h:z5p a b=true)(h5:a≠5)(h6:a≠6)(h7:b≠6):a=b∨(a=3∧(b=1∨b=2))∨(a=4∧(b=1∨b=2∨b=3)):=by
 have hr:1≤a∧a≤6∧1≤b∧b≤6:=by
  unfold z5p at h
  rw[Bool.and_eq_true,decide_eq_true_eq] at h
  exact h.1
 obtain⟨x,rfl⟩:=zp6 ⟨hr.1,hr.2.1⟩
 obtain⟨y,rfl⟩:=zp6 ⟨hr.2.2.1,hr.2.2.2⟩
 have:=z1i2 x y h (by omega) (by omega) (by omega)
 omega
theorem z1dt{a b x:Int}(h:a=b∨(a=3∧(b=1∨b=2))∨(a=4∧(b=1∨b=2∨b=3)))(hx:isC b x=true):isC a x=true:=by
 rcases h with rfl|⟨rfl,rfl|rfl⟩|⟨rfl,rfl|rfl|rfl⟩
 ·exact hx
 all_goals
  simp [isC] at hx⊢
  omega
theorem z1ds(x:Int):isC 5 x=true:=by simp [isC]
theorem z149{y x:Spec}{t:ByteArray}(ht:t.size≤1099511627776)(hw:widS y x=true)(hv:valC x t=0):valC y t=0:=by
 obtain⟨w1,w2,w3,w4,w5⟩:=(z1ey y x).1 hw
 obtain⟨v1,v2,v3,v4,v5⟩:=(z4a x t ht).1 hv
 refine(z4a y t ht).2 ⟨w1,by omega,by omega,?_,?_⟩
 ·rcases w5 with e|e|e
  ·rw[e,List.all_eq_true];exact fun b _=>z1ds b
  ·rw[e.1,←e.2];exact v4
  ·rw[List.all_eq_true] at v4⊢
   exact fun b hb=>z1dt (z1ag e.2.2.2 e.1 e.2.1 e.2.2.1) (v4 b hb)
 ·intro e6
  rcases w5 with e|e|e
  ·omega
  ·exact v5 e.2
  ·exact absurd e6 e.2.1
theorem z1ho:isC 1=isDig:=by funext b;simp [isC,isDig]
theorem zu1(l:List Int):l.all (isC 1)=allD l:=by rw[z1ho];rfl
theorem z12j{t:ByteArray}{w:Int}(h:(padD t w).2=true):1≤w∧w≤999∧(((padD t w).1).size:Int)=w∧allD (bl (padD t w).1)=true:=by
 by_cases hc:1≤t.size∧t.size≤999∧allD (bl t)=true∧1≤w∧w≤999
 ·rw[zpg hc] at h⊢
  by_cases h4:(t.size:Int)≤w
  ·rw[zT h4,zC]
   have hd:allD (List.replicate (w-t.size).toNat 48++bl t)=true:=by
    have e:allD (List.replicate (w-t.size).toNat 48++bl t)=(allD (List.replicate (w-t.size).toNat 48)&&allD (bl t)):=List.all_append ..
    have e2:allD (List.replicate (w-t.size).toNat 48)=true:=by
     rw[allD,List.all_eq_true]
     intro x hx
     rw[(List.mem_replicate.1 hx).2];rfl
    rw[e,e2,hc.2.2.1];rfl
   refine⟨hc.2.2.2.1,hc.2.2.2.2,?_,?_⟩
   ·rw[z1z,List.length_append,List.length_replicate,zg];omega
   ·rw[z21 (z7w hd)];exact hd
  ·rw[zF h4,zD] at h⊢
   cases hz:allZ ((bl t).take (t.size-w.toNat)) with
   |false=>rw[hz] at h;cases h
   |true=>
    rw[zC]
    have hd:allD ((bl t).drop (t.size-w.toNat))=true:=by
     rw[allD,List.all_eq_true]
     intro x hx
     exact List.all_eq_true.1 hc.2.2.1 x (List.mem_of_mem_drop hx)
    refine⟨hc.2.2.2.1,hc.2.2.2.2,?_,?_⟩
    ·rw[z1z,List.length_drop,zg];omega
    ·rw[z21 (z7w hd)];exact hd
 ·rw[zak hc] at h;cases h
theorem zph{s:Spec}(h:padS s=true):s.2.1=1∧s.2.2.1=1:=by
 unfold padS at h
 rw[Bool.and_eq_true,decide_eq_true_eq,decide_eq_true_eq] at h
 exact h
abbrev val0:Val:=(0,bs [],())
def zm(r:Rule)(b:zf)(t:ByteArray):Val×Int:=
 bif decide (r.1=1) then((r.2.2.1,t,()),0) else bif decide (r.1=2) then(val0,0) else bif decide (r.1=3) then((r.2.2.1,r.2.2.2.1,()),0)
 else bif decide (r.1=4) then(bif !hasS b r.2.2.1 then(val0,9) else bif !(padD t (getS b r.2.2.1).2.2.2.1).2 then(val0,5) else((r.2.2.1,(padD t (getS b r.2.2.1).2.2.2.1).1,()),0))
 else bif decide (r.1=5) then(bif !(zo r.2.2.2.2.1 t).2 then(val0,15) else((r.2.2.1,(zo r.2.2.2.2.1 t).1,()),0)) else(val0,1)
theorem zzy(r:Rule)(b:zf)(t:ByteArray)(hp:r.2.2.2.2.1.length≤maxLen)(hb:b.2.2.1.length≤maxLen)(ht:t.size≤maxLen):Q205 r b t=some (zm r b t):=by
 unfold Q205 zib zm
 rw[z36 b _ hb,Option.bind_some,z1i4 t _ ht,Option.bind_some,zx3 _ _ hp,Option.bind_some]
 generalize decide (r.1=1)=k1
 generalize decide (r.1=2)=k2
 generalize decide (r.1=3)=k3
 generalize decide (r.1=4)=k4
 generalize decide (r.1=5)=k5
 generalize hasS b r.2.2.1=h
 generalize padD t (getS b r.2.2.1).2.2.2.1=p
 generalize zo r.2.2.2.2.1 t=q
 obtain⟨p1,p2⟩:=p
 obtain⟨q1,q2⟩:=q
 cases k1<;>cases k2<;>cases k3<;>cases k4<;>cases k5<;>cases h<;>cases p2<;>cases q2<;>rfl
theorem zb7{s:zf}{no:Int}(h:hasS s no=true):getS s no∈s.2.2.1∧(getS s no).1=no:=by
 unfold hasS at h
 unfold getS
 cases hf:findS s.2.2.1 no with
 |none=>rw[hf] at h;cases h
 |some x=>
  unfold findS at hf
  exact⟨List.mem_of_find?_eq_some hf,by simpa using List.find?_some hf⟩
theorem z6k{s:zf}(h:Okay s){no:Int}(hh:hasS s no=true):specC (getS s no)=0:=h.2.2.2.1 _ (zb7 hh).1
theorem z6r{l:List Pair}{t:ByteArray}(h:(zo l t).2=true):∃p∈l,p.1=t∧(zo l t).1=p.2.1:=by
 unfold zo at h⊢
 cases hf:l.find? fun p=>decide (p.1=t) with
 |none=>rw[hf] at h;cases h
 |some p=>exact⟨p,List.mem_of_find?_eq_some hf,by simpa using List.find?_some hf,rfl⟩
theorem zwy:∀{l:List Pair} {x y:Spec},valsC l x y=0→∀p∈l,valC x p.1=0∧valC y p.2.1=0
 | [],x,y,h,p,hp=>by cases hp
 |q::l,x,y,h,p,hp=>by
  unfold valsC at h
  by_cases h1:valC x q.1=0
  ·rw[zT h1,Bool.not_true,zD] at h
   by_cases h2:valC y q.2.1=0
   ·rw[zT h2,Bool.not_true,zD] at h
    rcases List.mem_cons.1 hp with rfl|hp
    ·exact⟨h1,h2⟩
    ·exact zwy h p hp
   ·rw[zF h2,Bool.not_false,zC] at h;exact absurd h h2
  ·rw[zF h1,Bool.not_false,zC] at h;exact absurd h h1
theorem z6x{r:Rule}{a b:zf}(h:ruleC r a b=0):(1≤r.1∧r.1≤5)∧endsE r a b=false∧textE r=false∧kindC r (getS a r.2.1) (getS b r.2.2.1)=0:=by
 unfold ruleC at h
 by_cases c1:r.1<1
 ·rw[zT c1] at h;cases h
 by_cases c2:5<r.1
 ·rw[zT c2,Bool.or_true] at h;cases h
 rw[zF c1,zF c2,Bool.or_false,zD] at h
 cases he:endsE r a b with
 |true=>rw[he] at h;cases h
 |false=>
  rw[he,zD] at h
  cases ht:textE r with
  |true=>rw[ht] at h;cases h
  |false=>rw[ht,zD] at h;exact⟨by omega,rfl,rfl,h⟩
theorem zet{r:Rule}{a b:zf}(h:endsE r a b=false):(r.1=3→r.2.1=0)∧(r.1≠3→hasS a r.2.1=true)∧(r.1=2→r.2.2.1=0)∧(r.1≠2→hasS b r.2.2.1=true):=by
 unfold endsE at h
 rw[Bool.or_eq_false_iff] at h
 obtain⟨h1,h2⟩:=h
 refine⟨fun e=> ?_,fun e=> ?_,fun e=> ?_,fun e=> ?_⟩
 ·rw[zT e,zC] at h1;simpa using h1
 ·rw[zF e,zD] at h1;simpa using h1
 ·rw[zT e,zC] at h2;simpa using h2
 ·rw[zF e,zD] at h2;simpa using h2
theorem z10u{r:Rule}{a b:zf}{t:ByteArray}(ht:t.size≤1099511627776)(hr:RuleOk r)(hc:ruleC r a b=0)(hb:Okay b)(hv:hasS a r.2.1=true→valC (getS a r.2.1) t=0):
 ((zm r b t).2≠0→((r.1=4∧(zm r b t).2=5)∨(r.1=5∧(zm r b t).2=15))∧(zm r b t).1=val0)∧
 ((zm r b t).2=0→(r.1=2→(zm r b t).1=val0)∧(r.1≠2→(zm r b t).1.1=r.2.2.1∧hasS b r.2.2.1=true∧valC (getS b r.2.2.1) (zm r b t).1.2.1=0)):=by
 obtain⟨c1,c2,c3,c4⟩:=z6x hc
 obtain⟨e1,e2,e3,e4⟩:=zet c2
 unfold kindC at c4
 have hk:r.1=1∨r.1=2∨r.1=3∨r.1=4∨r.1=5:=by omega
 unfold zm
 rcases hk with k|k|k|k|k
 ·rw[zT k,zC] at c4⊢
  refine⟨fun h=>absurd rfl h,fun _=>⟨fun e=>by omega,fun _=>⟨rfl,e4 (by omega),?_⟩⟩⟩
  cases hw:widS (getS b r.2.2.1) (getS a r.2.1) with
  |false=>rw[hw] at c4;cases c4
  |true=>exact z149 ht hw (hv (e2 (by omega)))
 ·rw[zF (by omega:¬r.1=1),zT k,zD,zC]
  exact⟨fun h=>absurd rfl h,fun _=>⟨fun _=>rfl,fun e=>absurd k e⟩⟩
 ·rw[zF (by omega:¬r.1=1),zT k,zD,zC] at c4
  rw[zF (by omega:¬r.1=1),zF (by omega:¬r.1=2),zT k,zD,zD,zC]
  exact⟨fun h=>absurd rfl h,fun _=>⟨fun e=>by omega,fun _=>⟨rfl,e4 (by omega),c4⟩⟩⟩
 ·rw[zF (by omega:¬r.1=1),zF (by omega:¬r.1=3),zT k,zD,zD,zC] at c4
  rw[zF (by omega:¬r.1=1),zF (by omega:¬r.1=2),zF (by omega:¬r.1=3),zT k,zD,zD,zD,zC,e4 (by omega),Bool.not_true,zD]
  have hy:=z6k hb (e4 (by omega))
  have hpd:padS (getS b r.2.2.1)=true:=by
   cases hp:(padS (getS a r.2.1)&&padS (getS b r.2.2.1)) with
   |false=>rw[hp] at c4;cases c4
   |true=>exact(Bool.and_eq_true_iff.1 hp).2
  obtain⟨y1,y2⟩:=zph hpd
  obtain⟨_,_,_,f4,f5,_⟩:=z6b hy
  cases hp:(padD t (getS b r.2.2.1).2.2.2.1).2 with
  |false=>exact⟨fun _=>⟨.inl ⟨k,rfl⟩,rfl⟩,fun e=>by cases e⟩
  |true=>
   obtain⟨p1,p2,p3,p4⟩:=z12j hp
   rw[Bool.not_true,zD]
   refine⟨fun h=>absurd rfl h,fun _=>⟨fun e=>by omega,fun _=>⟨rfl,rfl,?_⟩⟩⟩
   have:=f5 y2
   refine(z4a _ _ (by show(padD t (getS b r.2.2.1).2.2.2.1).1.size≤1099511627776;omega)).2 ⟨hy,?_,?_,?_,fun e=>by omega⟩
   ·show _≤((padD t (getS b r.2.2.1).2.2.2.1).1.size:Int);omega
   ·show((padD t (getS b r.2.2.1).2.2.2.1).1.size:Int)≤_;omega
   ·rw[y1,zu1];exact p4
 ·rw[zF (by omega:¬r.1=1),zF (by omega:¬r.1=3),zF (by omega:¬r.1=4),zT k,zD,zD,zD,zC] at c4
  rw[zF (by omega:¬r.1=1),zF (by omega:¬r.1=2),zF (by omega:¬r.1=3),zF (by omega:¬r.1=4),zT k,zD,zD,zD,zD,zC]
  unfold zfr at c4
  cases hp:(zo r.2.2.2.2.1 t).2 with
  |false=>exact⟨fun _=>⟨.inr ⟨k,rfl⟩,rfl⟩,fun e=>by cases e⟩
  |true=>
   rw[Bool.not_true,zD]
   refine⟨fun h=>absurd rfl h,fun _=>⟨fun e=>by omega,fun _=>⟨rfl,e4 (by omega),?_⟩⟩⟩
   obtain⟨p,hm,_,hq⟩:=z6r hp
   show valC _ (zo r.2.2.2.2.1 t).1=0
   rw[hq]
   cases hz:(!decide ((z3v r.2.2.2.2.1).1=0)||decide ((r.2.2.2.2.1.length:Int)=0)) with
   |true=>rw[hz] at c4;cases c4
   |false=>rw[hz,zD] at c4;exact(zwy c4 p hm).2
end Groat

set_option profiler true
set_option profiler.threshold 2000
namespace Groat
open Go.IntKind renaming wrap→zW,i64→zI,u8→zU
open Go Go.Ref
def howC(style c:Int):Int:=if style=2∧c=1 then 1 else if style=1∧(c=5∨c=6) then 2 else 0
def sizC(h:Int)(n:Nat):Nat:=if h=1 then(n+1)/2 else if h=2 then 2*n else n
def conG(h:Int)(t:ByteArray)(n:Int):Sum Int ByteArray:=if h=1 then(if(z1m t n).2.1=0 then .inr (z1m t n).1 else .inl (z1m t n).2.1) else if h=2 then(if(z28 t).2.2=true then .inr (z28 t).1 else .inl 3) else .inr t
def cellV(s:Spec)(z:Int):Sum Int ByteArray→ByteArray×Int×Int
 | .inl e=>(bs [],0,e)
 | .inr t=>if valC s t=0 then(t,z,0) else(bs [],0,valC s t)
def z2i(h:Int)(s:Spec)(b:ByteArray)(n a:Nat):ByteArray×Int×Int:=
 if b.size<a+sizC h n then(bs [],0,2) else cellV s ((a+sizC h n:Nat):Int) (conG h (b.extract a (a+sizC h n)) n)
def zol(style:Int)(s:Spec)(b:ByteArray)(at_:Int):Sum Int (Nat×Nat):=
 if s.2.2.1=1 then .inr (s.2.2.2.1.toNat,at_.toNat) else if¬(z1s style s.2.2.1 b at_).2.2=0 then .inl (z1s style s.2.2.1 b at_).2.2 else
  if(z1s style s.2.2.1 b at_).1<s.2.2.2.1∨s.2.2.2.2.1<(z1s style s.2.2.1 b at_).1 then .inl 5 else .inr ((z1s style s.2.2.1 b at_).1.toNat,(z1s style s.2.2.1 b at_).2.1.toNat)
def cellW(h:Int)(s:Spec)(b:ByteArray):Sum Int (Nat×Nat)→ByteArray×Int×Int
 | .inl e=>(bs [],0,e)
 | .inr q=>z2i h s b q.1 q.2
def z23(style:Int)(s:Spec)(b:ByteArray)(at_:Int):ByteArray×Int×Int:=
 if(style=1∨style=2)∧specC s=0∧0≤at_∧at_≤b.size then cellW (howC style s.2.1) s b (zol style s b at_) else(bs [],0,1)
theorem zp4(style c:Int):Q13 style c=some (howC style c):=by
 unfold Q13 zmn howC
 by_cases h1:style=1<;>by_cases h2:style=2<;>by_cases h3:c=1<;>by_cases h4:c=5<;>by_cases h5:c=6<;>(try(exfalso;omega))<;>simp [h1,h2,h3,h4,h5]
theorem zf4(style c:Int):howC style c=0∨howC style c=1∨howC style c=2:=by
 unfold howC
 split
 ·exact .inr (.inl rfl)
 ·split
  ·exact .inr (.inr rfl)
  ·exact .inl rfl
theorem z7i{s:Spec}(h:specC s=0):1≤s.2.1∧s.2.1≤6∧1≤s.2.2.1∧s.2.2.1≤3∧1≤s.2.2.2.1∧s.2.2.2.1≤s.2.2.2.2.1∧s.2.2.2.2.1≤999∧(s.2.2.1=2→s.2.2.2.2.1≤99)∧(s.2.2.1=1→s.2.2.2.1=s.2.2.2.2.1):=by
 unfold specC at h
 split at h
 ·cases h
 split at h
 ·cases h
 split at h
 ·cases h
 split at h
 ·cases h
 refine⟨by omega,by omega,by omega,by omega,by omega,by omega,by omega,fun e=>by omega,fun e=>by omega⟩
theorem zz7:∀l:List Int,(hexG l).length≤l.length
 | []=>by simp [hexG]
 | [a]=>by simp [hexG]
 |a::b::r=>by rw[hexG,List.length_cons,List.length_cons,List.length_cons];have:=zz7 r;omega
theorem z115(s:ByteArray):(z28 s).1.size≤s.size:=by
 unfold z28
 split
 ·exact Nat.zero_le _
 ·split
  ·exact Nat.zero_le _
  ·rw[z1z,←zg];exact zz7 _
theorem z19i{style form:Int}{b:ByteArray}{at_:Int}(h:(z1s style form b at_).2.2=0):0≤(z1s style form b at_).2.1∧(z1s style form b at_).2.1≤b.size:=by
 unfold z1s at h⊢
 cases hk:(preOk style form&&decide (0≤at_∧at_≤(b.size:Int))) with
 |false=>rw[hk] at h;cases h
 |true=>
  rw[hk] at h
  simp only[zC] at h⊢
  split
  ·exact⟨Int.le_refl _,Int.natCast_nonneg _⟩
  ·rename_i hs
   split
   ·dsimp only;exact⟨by omega,by omega⟩
   ·exact⟨Int.le_refl _,Int.natCast_nonneg _⟩
def cellB(style_0:Int)(s_1:Spec)(b_2:ByteArray)(n a:Int):Option Zt8:=
 let K:ByteArray→Int→Int→Option Zt8:=fun a0 a1 a2=>some (a0,a1,a2)
 ((Q13 style_0 s_1.2.1).bind fun r4=>(bif(decide (r4=(1:Int))) then((Q2 n).bind fun r5=>(bif(decide ((zW zI (((b_2).size:Int)-a))<r5)) then(K (bs []) (0:Int) (2:Int)) else(bif(decide ((0:Int)≤(zW zI (a+r5)))) then(bif(decide ((zW zI (a+r5))≤(((b_2).size:Nat):Int))) then(bif(decide ((0:Int)≤a)) then(bif(decide (a≤((((zW zI (a+r5))).toNat:Nat):Int))) then((Q13 style_0 s_1.2.1).bind fun r6=>(bif(decide (r6=(1:Int))) then((Q0 ((b_2).extract (a).toNat ((zW zI (a+r5))).toNat) n).bind fun r7=>(bif(!(decide (r7.2.1=(0:Int)))) then(K (bs []) (0:Int) r7.2.1) else((Q219 s_1 r7.1).bind fun r8=>(bif(!(decide (r8=(0:Int)))) then(K (bs []) (0:Int) r8) else(K r7.1 (zW zI (a+r5)) (0:Int)))))) else(bif(decide (r6=(2:Int))) then((Q159 ((b_2).extract (a).toNat ((zW zI (a+r5))).toNat)).bind fun r9=>(bif(!r9.2.2) then(K (bs []) (0:Int) (3:Int)) else((Q219 s_1 r9.1).bind fun r10=>(bif(!(decide (r10=(0:Int)))) then(K (bs []) (0:Int) r10) else(K r9.1 (zW zI (a+r5)) (0:Int)))))) else((Q219 s_1 ((b_2).extract (a).toNat ((zW zI (a+r5))).toNat)).bind fun r11=>(bif(!(decide (r11=(0:Int)))) then(K (bs []) (0:Int) r11) else(K ((b_2).extract (a).toNat ((zW zI (a+r5))).toNat) (zW zI (a+r5)) (0:Int))))))) else none) else none) else none) else none))) else(bif(decide (r4=(2:Int))) then(bif(decide ((zW zI (((b_2).size:Int)-a))<(zW zI ((2:Int)*n)))) then(K (bs []) (0:Int) (2:Int)) else(bif(decide ((0:Int)≤(zW zI (a+(zW zI ((2:Int)*n)))))) then(bif(decide ((zW zI (a+(zW zI ((2:Int)*n))))≤(((b_2).size:Nat):Int))) then(bif(decide ((0:Int)≤a)) then(bif(decide (a≤((((zW zI (a+(zW zI ((2:Int)*n))))).toNat:Nat):Int))) then((Q13 style_0 s_1.2.1).bind fun r12=>(bif(decide (r12=(1:Int))) then((Q0 ((b_2).extract (a).toNat ((zW zI (a+(zW zI ((2:Int)*n))))).toNat) n).bind fun r13=>(bif(!(decide (r13.2.1=(0:Int)))) then(K (bs []) (0:Int) r13.2.1) else((Q219 s_1 r13.1).bind fun r14=>(bif(!(decide (r14=(0:Int)))) then(K (bs []) (0:Int) r14) else(K r13.1 (zW zI (a+(zW zI ((2:Int)*n)))) (0:Int)))))) else(bif(decide (r12=(2:Int))) then((Q159 ((b_2).extract (a).toNat ((zW zI (a+(zW zI ((2:Int)*n))))).toNat)).bind fun r15=>(bif(!r15.2.2) then(K (bs []) (0:Int) (3:Int)) else((Q219 s_1 r15.1).bind fun r16=>(bif(!(decide (r16=(0:Int)))) then(K (bs []) (0:Int) r16) else(K r15.1 (zW zI (a+(zW zI ((2:Int)*n)))) (0:Int)))))) else((Q219 s_1 ((b_2).extract (a).toNat ((zW zI (a+(zW zI ((2:Int)*n))))).toNat)).bind fun r17=>(bif(!(decide (r17=(0:Int)))) then(K (bs []) (0:Int) r17) else(K ((b_2).extract (a).toNat ((zW zI (a+(zW zI ((2:Int)*n))))).toNat) (zW zI (a+(zW zI ((2:Int)*n)))) (0:Int))))))) else none) else none) else none) else none)) else(bif(decide ((zW zI (((b_2).size:Int)-a))<n)) then(K (bs []) (0:Int) (2:Int)) else(bif(decide ((0:Int)≤(zW zI (a+n)))) then(bif(decide ((zW zI (a+n))≤(((b_2).size:Nat):Int))) then(bif(decide ((0:Int)≤a)) then(bif(decide (a≤((((zW zI (a+n))).toNat:Nat):Int))) then((Q13 style_0 s_1.2.1).bind fun r18=>(bif(decide (r18=(1:Int))) then((Q0 ((b_2).extract (a).toNat ((zW zI (a+n))).toNat) n).bind fun r19=>(bif(!(decide (r19.2.1=(0:Int)))) then(K (bs []) (0:Int) r19.2.1) else((Q219 s_1 r19.1).bind fun r20=>(bif(!(decide (r20=(0:Int)))) then(K (bs []) (0:Int) r20) else(K r19.1 (zW zI (a+n)) (0:Int)))))) else(bif(decide (r18=(2:Int))) then((Q159 ((b_2).extract (a).toNat ((zW zI (a+n))).toNat)).bind fun r21=>(bif(!r21.2.2) then(K (bs []) (0:Int) (3:Int)) else((Q219 s_1 r21.1).bind fun r22=>(bif(!(decide (r22=(0:Int)))) then(K (bs []) (0:Int) r22) else(K r21.1 (zW zI (a+n)) (0:Int)))))) else((Q219 s_1 ((b_2).extract (a).toNat ((zW zI (a+n))).toNat)).bind fun r23=>(bif(!(decide (r23=(0:Int)))) then(K (bs []) (0:Int) r23) else(K ((b_2).extract (a).toNat ((zW zI (a+n))).toNat) (zW zI (a+n)) (0:Int))))))) else none) else none) else none) else none)))))
theorem z1h6(style:Int)(s:Spec)(b:ByteArray)(n a:Nat)(hb:b.size≤1099511627776)(hn:n≤999)(ha:a≤b.size)(hh:howC style s.2.1=0):cellB style s b n a=some (z2i (howC style s.2.1) s b n a):=by
 unfold cellB
 simp only[zp4,zc]
 have w0:zW zI ((b.size:Int)-(a:Int))=(b.size:Int)-a:=zi (by omega) (by omega)
 have w1:∀z:Nat,z≤2000→zW zI ((a:Int)+(z:Int))=((a+z:Nat):Int):=fun z hz=>by rw[zi (by omega) (by omega)];omega
 have hx:∀z:Nat,((a+z:Nat):Int).toNat=a+z:=fun z=>Int.toNat_natCast _
 have hes:∀z:Nat,(b.extract a (a+z)).size≤1099511627776:=fun z=>by rw[ByteArray.size_extract];omega
 rw[hh]
 simp only[Int.reduceEq,decide_true,decide_false,zC,zD,w0,w1 n (by omega),hx,Int.toNat_natCast]
 unfold z2i sizC conG
 simp only[show¬((0:Int)=1) from by decide,show¬((0:Int)=2) from by decide,if_false]
 split
 ·rename_i hc
  rw[zT (by omega),zC]
 ·rename_i hc
  rw[zF (by omega),zD,zT (by omega),zC,zT (by omega),zC,zT (by omega),zC,zT (by omega),zC,z2z _ _ (hes n),zc]
  unfold cellV
  by_cases hv:valC s (b.extract a (a+n))=0
  ·simp only[hv,decide_true,Bool.not_true,zD,if_true]
  ·simp only[hv,decide_false,Bool.not_false,zC,if_false]
theorem z1h7(style:Int)(s:Spec)(b:ByteArray)(n a:Nat)(hb:b.size≤1099511627776)(hn:n≤999)(ha:a≤b.size)(hh:howC style s.2.1=1):cellB style s b n a=some (z2i (howC style s.2.1) s b n a):=by
 unfold cellB
 simp only[zp4,zc]
 have w0:zW zI ((b.size:Int)-(a:Int))=(b.size:Int)-a:=zi (by omega) (by omega)
 have w1:∀z:Nat,z≤2000→zW zI ((a:Int)+(z:Int))=((a+z:Nat):Int):=fun z hz=>by rw[zi (by omega) (by omega)];omega
 have hx:∀z:Nat,((a+z:Nat):Int).toNat=a+z:=fun z=>Int.toNat_natCast _
 have hes:∀z:Nat,(b.extract a (a+z)).size≤1099511627776:=fun z=>by rw[ByteArray.size_extract];omega
 rw[hh]
 have ez:((n:Int)+1)/2=(((n+1)/2:Nat):Int):=by omega
 simp only[Int.reduceEq,decide_true,decide_false,zC,zD,z5e (n:Int) (by omega) (by omega),zc,ez]
 simp only[w0,w1 ((n+1)/2) (by omega),hx,Int.toNat_natCast,Int.reduceEq,decide_true,decide_false,zC,zD]
 unfold z2i sizC conG
 simp only[if_true]
 split
 ·rename_i hc
  rw[zT (by omega),zC]
 ·rename_i hc
  rw[zF (by omega),zD,zT (by omega),zC,zT (by omega),zC,zT (by omega),zC,zT (by omega),zC,zeb _ _ (hes _),zc]
  generalize hg:z1m (b.extract a (a+(n+1)/2)) (n:Int)=g
  obtain⟨t,e,i⟩:=g
  have hts:=z8m hg
  dsimp only
  by_cases he:e=0
  ·rw[zT he,Bool.not_true,zD,if_pos he,z2z _ _ (by omega),zc]
   unfold cellV
   by_cases hv:valC s t=0
   ·simp only[hv,decide_true,Bool.not_true,zD,if_true]
   ·simp only[hv,decide_false,Bool.not_false,zC,if_false]
  ·rw[zF he,Bool.not_false,zC,if_neg he];rfl
theorem z1h8(style:Int)(s:Spec)(b:ByteArray)(n a:Nat)(hb:b.size≤1099511627776)(hn:n≤999)(ha:a≤b.size)(hh:howC style s.2.1=2):cellB style s b n a=some (z2i (howC style s.2.1) s b n a):=by
 unfold cellB
 simp only[zp4,zc]
 have w0:zW zI ((b.size:Int)-(a:Int))=(b.size:Int)-a:=zi (by omega) (by omega)
 have w1:∀z:Nat,z≤2000→zW zI ((a:Int)+(z:Int))=((a+z:Nat):Int):=fun z hz=>by rw[zi (by omega) (by omega)];omega
 have hx:∀z:Nat,((a+z:Nat):Int).toNat=a+z:=fun z=>Int.toNat_natCast _
 have hes:∀z:Nat,(b.extract a (a+z)).size≤1099511627776:=fun z=>by rw[ByteArray.size_extract];omega
 rw[hh]
 have ez:zW zI ((2:Int)*(n:Int))=((2*n:Nat):Int):=by rw[zi (by omega) (by omega)];omega
 simp only[Int.reduceEq,decide_true,decide_false,zD,zC]
 rw[ez]
 simp only[w0,w1 (2*n) (by omega),hx,Int.toNat_natCast,Int.reduceEq,decide_true,decide_false,zC,zD]
 unfold z2i sizC conG
 simp only[show¬((2:Int)=1) from by decide,if_false,if_true]
 split
 ·rename_i hc
  rw[zT (by omega),zC]
 ·rename_i hc
  rw[zF (by omega),zD,zT (by omega),zC,zT (by omega),zC,zT (by omega),zC,zT (by omega),zC,zp2 _ (hes _),zc]
  have hts:=z115 (b.extract a (a+2*n))
  have h3:=hes (2*n)
  generalize z28 (b.extract a (a+2*n))=g at hts
  obtain⟨t,i,ok⟩:=g
  dsimp only at hts⊢
  cases ok with
  |true=>
   rw[Bool.not_true,zD,if_pos rfl,z2z _ _ (by omega),zc]
   unfold cellV
   by_cases hv:valC s t=0
   ·simp only[hv,decide_true,Bool.not_true,zD,if_true]
   ·simp only[hv,decide_false,Bool.not_false,zC,if_false]
  |false=>rw[Bool.not_false,zC,if_neg (by decide)];rfl
theorem zyn(style:Int)(s:Spec)(b:ByteArray)(n a:Nat)(hb:b.size≤1099511627776)(hn:n≤999)(ha:a≤b.size):cellB style s b n a=some (z2i (howC style s.2.1) s b n a):=by
 rcases zf4 style s.2.1 with hh|hh|hh
 ·exact z1h6 style s b n a hb hn ha hh
 ·exact z1h7 style s b n a hb hn ha hh
 ·exact z1h8 style s b n a hb hn ha hh
theorem z138(style:Int)(s:Spec)(b:ByteArray)(at_:Int)(hb:b.size≤1099511627776):Q11 style s b at_=some (z23 style s b at_):=by
 have hk:Q14 style=some (decide (style=1∨style=2)):=by
  unfold Q14 zc8
  by_cases h1:style=1
  ·rw[zT (p:=style=1∨style=2) (.inl h1),zT h1];rfl
  ·rw[zF h1,zD]
   by_cases h2:style=2
   ·rw[zT (p:=style=1∨style=2) (.inr h2),zT h2]
   ·rw[zF (p:=style=1∨style=2) (fun h=>h.elim h1 h2),zF h2]
 unfold Q11 zmg z23
 rw[hk,zc]
 by_cases h1:style=1∨style=2
 case neg=>rw[zF h1,if_neg (fun h=>h1 h.1)];rfl
 rw[zT h1,Bool.not_true,zD,z48,zc]
 by_cases h2:specC s=0
 case neg=>rw[zF h2,if_neg (fun h=>h2 h.2.1)];rfl
 rw[zT h2,Bool.not_true,zD]
 by_cases h3:at_<0
 ·rw[zT h3,if_neg (fun h=>by omega)];rfl
 rw[zF h3,zD]
 by_cases h4:(b.size:Int)<at_
 ·rw[zT h4,if_neg (fun h=>by omega)];rfl
 rw[zF h4,zD,if_pos ⟨h1,h2,by omega,by omega⟩]
 obtain⟨k1,k2,k3,k4,k5,k6,k7,k8,k9⟩:=z7i h2
 obtain⟨m,rfl⟩:∃m:Nat,at_=m:=⟨at_.toNat,by omega⟩
 unfold zol
 by_cases h5:s.2.2.1=1
 ·rw[zT h5,Bool.not_true,zD,if_pos h5]
  have:=zyn style s b s.2.2.2.1.toNat m hb (by omega) (by omega)
  rw[Int.toNat_of_nonneg (by omega)] at this
  exact this
 ·rw[zF h5,Bool.not_false,zC,if_neg h5,z19h _ _ _ _ hb,zc]
  by_cases h6:(z1s style s.2.2.1 b m).2.2=0
  case neg=>rw[zF h6,if_pos h6];rfl
  rw[zT h6,Bool.not_true,zD,if_neg (fun h=>h h6)]
  have hp:=z19i h6
  by_cases h7:(z1s style s.2.2.1 b m).1<s.2.2.2.1
  ·rw[zT h7,if_pos (.inl h7)];rfl
  rw[zF h7,zD]
  by_cases h8:s.2.2.2.2.1<(z1s style s.2.2.1 b m).1
  ·rw[zT h8,if_pos (.inr h8)];rfl
  rw[zF h8,zD,if_neg (fun h=>h.elim h7 h8)]
  have:=zyn style s b (z1s style s.2.2.1 b m).1.toNat (z1s style s.2.2.1 b m).2.1.toNat hb (by omega) (by omega)
  rw[Int.toNat_of_nonneg (by omega),Int.toNat_of_nonneg (by omega)] at this
  exact this
end Groat

namespace Groat
open Go.IntKind renaming wrap→zW,i64→zI,u8→zU
open Go Go.Ref
theorem how_1{style c:Int}(h:howC style c=1):style=2∧c=1:=by
 unfold howC at h
 split at h
 ·assumption
 ·split at h<;>cases h
def conC(h:Int)(t:ByteArray):ByteArray:=if h=1 then(z30 t).1 else if h=2 then z3i t else t
def preC(style form:Int)(n:Nat):ByteArray:=if form=1 then bs [] else(z29 style form n).1
def z2g(style:Int)(s:Spec)(t:ByteArray):ByteArray×Int:=
 if¬(style=1∨style=2) then(bs [],1) else if¬valC s t=0 then(bs [],valC s t) else(preC style s.2.2.1 t.size++conC (howC style s.2.1) t,0)
theorem zed(t:ByteArray):(z30 t).1.size≤500:=by
 by_cases h:t.size≤999∧allD (bl t)=true
 ·rw[z4o h.1 h.2];omega
 ·unfold z30;rw[zF h];exact Nat.zero_le _
theorem zwh(style form:Int)(n:Nat):(preC style form n).size≤500:=by
 unfold preC z29
 split
 ·exact Nat.zero_le _
 ·cases preOk style form with
  |false=>exact Nat.zero_le _
  |true=>
   cases(putD (n:Int) form).2 with
   |false=>exact Nat.zero_le _
   |true=>
    show(if style=2 then _ else _:ByteArray).size≤500
    split
    ·exact zed _
    ·have:=zwi (n:Int) form;omega
theorem zvb(h:Int)(t:ByteArray):(conC h t).size≤2*t.size+500:=by
 unfold conC
 split
 ·have:=zed t;omega
 ·split
  ·rw[z4q];omega
  ·omega
theorem zoj(x:ByteArray):bs []++x=x:=by
 apply ByteArray.ext
 simp [ByteArray.data_append,bs]
theorem z139(style:Int)(s:Spec)(t:ByteArray)(ht:t.size≤1099511627776):Q12 style s t=some (z2g style s t):=by
 unfold Q12 zmk Q14 zc8 z2g
 have hcs:=zvb (howC style s.2.1) t
 have hps:=zwh style s.2.2.1 t.size
 have main:style=1∨style=2→(Q219 s t).bind (fun r2=>(bif(!(decide (r2=(0:Int)))) then some (bs [],r2) else(bif(!(decide (s.2.2.1=(1:Int)))) then((Q184 style s.2.2.1 ((t).size:Int)).bind fun r3=>((Q13 style s.2.1).bind fun r4=>(bif(decide (r4=(1:Int))) then((Q1 t).bind fun r5=>(bif decide ((r3.1).size+(r5.1).size≤9223372036854775807) then some (r3.1++r5.1,(0:Int)) else none)) else(bif(decide (r4=(2:Int))) then((Q160 t).bind fun r6=>(bif decide ((r3.1).size+(r6).size≤9223372036854775807) then some (r3.1++r6,(0:Int)) else none)) else(bif decide ((r3.1).size+(t).size≤9223372036854775807) then some (r3.1++t,(0:Int)) else none))))) else((Q13 style s.2.1).bind fun r7=>(bif(decide (r7=(1:Int))) then((Q1 t).bind fun r8=>(bif decide (((bs [])).size+(r8.1).size≤9223372036854775807) then some ((bs [])++r8.1,(0:Int)) else none)) else(bif(decide (r7=(2:Int))) then((Q160 t).bind fun r9=>(bif decide (((bs [])).size+(r9).size≤9223372036854775807) then some ((bs [])++r9,(0:Int)) else none)) else(bif decide (((bs [])).size+(t).size≤9223372036854775807) then some ((bs [])++t,(0:Int)) else none)))))))=some (if¬valC s t=0 then(bs [],valC s t) else(preC style s.2.2.1 t.size++conC (howC style s.2.1) t,0)):=fun hs=>by
  rw[z2z s t ht,zc]
  by_cases hv:valC s t=0
  case neg=>rw[zF hv,if_pos hv];rfl
  rw[zT hv,Bool.not_true,zD,if_neg (fun h=>h hv)]
  simp only[zp4,zc,z19j _ _ _ (show(t.size:Int)≤9223372036854775807 by omega),zec t (by simp only[maxLen];omega),zp3 t ht]
  have hz:(bs []).size=0:=rfl
  by_cases h1:s.2.2.1=1
  ·rw[zT h1,Bool.not_true,zD]
   unfold preC
   rw[if_pos h1]
   unfold conC at hcs⊢
   rcases zf4 style s.2.1 with hh|hh|hh<;>rw[hh] at hcs⊢ <;>simp only[Int.reduceEq,decide_true,decide_false,zC,zD,if_true,if_false] at hcs⊢
   all_goals rw[zT (by omega),zC]
  ·rw[zF h1,Bool.not_false,zC]
   unfold preC at hps⊢
   rw[if_neg h1] at hps⊢
   unfold conC at hcs⊢
   rcases zf4 style s.2.1 with hh|hh|hh<;>rw[hh] at hcs⊢ <;>simp only[Int.reduceEq,decide_true,decide_false,zC,zD,if_true,if_false] at hcs⊢
   all_goals rw[zT (by omega),zC]
 by_cases h1:style=1
 ·rw[zT h1,zC,zc,Bool.not_true,zD,if_neg (fun h=>h (.inl h1))]
  exact main (.inl h1)
 ·rw[zF h1,zD,zc]
  by_cases h2:style=2
  ·rw[zT h2,Bool.not_true,zD,if_neg (fun h=>h (.inr h2))]
   exact main (.inr h2)
  ·rw[zF h2,if_pos (fun h=>h.elim h1 h2)];rfl
end Groat

