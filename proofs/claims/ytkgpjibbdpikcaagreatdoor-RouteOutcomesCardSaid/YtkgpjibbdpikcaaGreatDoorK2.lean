/- No condition. -/
import Derived.Test.YtkgpjibbdpikcaaGreatDoorK1
import Derived.KernelRfl
import Derived.Laws.RangeString
set_option linter.unusedVariables false
set_option linter.unusedSimpArgs false
set_option maxRecDepth 100000
namespace Groat
open Go.IntKind renaming wrap→zW,i64→zI,u8→zU
open Go Go.Ref
def zx0{R:Type}(a:ByteArray)(b:Int)(c:ByteArray→Int→Int→Option R)(d:ByteArray→Int→ByteArray→Int→Option R):Option R:=
 bif b<0 then c (bs []) 1 0 else bif 999<b then c (bs []) 1 0 else bif(a.size:Int)<zW zI (Int.tdiv (zW zI (b+1)) 2) then c (bs []) 2 (a.size:Int) else d a (zW zI (Int.tdiv (zW zI (b+1)) 2)) (bs []) (zW zI (zW zI (2*zW zI (Int.tdiv (zW zI (b+1)) 2))-b))
def z9x{R:Type}(a:ByteArray)(b:Int)(c:ByteArray)(d:Int)(e:ByteArray→Int→Int→ByteArray→Option R)(f:ByteArray→Int→ByteArray→Int→Option R)(g:ByteArray→Option R):Option R:=
 bif d<zW zI (2*b) then bif d=1 then bif c=bs [] then zd 0 a.size (bif !decide (zW zU (Int.tdiv (ze a ((0:Int)).toNat) 16)=0) then e (bs []) 4 0 c else zd (zW zI (Int.tdiv d 2)) a.size (bif Int.tmod d 2=1 then zd (zW zI (Int.tdiv d 2)) a.size (bif 9<Int.tmod (ze a (zW zI (Int.tdiv d (2:Int))).toNat) 16 then e (bs []) 3 (zW zI (Int.tdiv d 2)) c else bif c.size+(strOf ([(zW zU (48+Int.tmod (ze a (zW zI (Int.tdiv d (2:Int))).toNat) 16))]:List Int)).size≤9223372036854775807 then f a b (c++strOf ([(zW zU (48+Int.tmod (ze a (zW zI (Int.tdiv d (2:Int))).toNat) 16))]:List Int)) (zW zI (d+1)) else none) else bif 9<zW zU (Int.tdiv (ze a (zW zI (Int.tdiv d (2:Int))).toNat) 16) then e (bs []) 3 (zW zI (Int.tdiv d 2)) c else bif c.size+(strOf ([(zW zU (48+zW zU (Int.tdiv (ze a (zW zI (Int.tdiv d (2:Int))).toNat) 16)))]:List Int)).size≤9223372036854775807 then f a b (c++strOf ([(zW zU (48+zW zU (Int.tdiv (ze a (zW zI (Int.tdiv d (2:Int))).toNat) 16)))]:List Int)) (zW zI (d+1)) else none)) else zd (zW zI (Int.tdiv d 2)) a.size (bif Int.tmod d 2=1 then zd (zW zI (Int.tdiv d 2)) a.size (bif 9<Int.tmod (ze a (zW zI (Int.tdiv d (2:Int))).toNat) 16 then e (bs []) 3 (zW zI (Int.tdiv d 2)) c else bif c.size+(strOf ([(zW zU (48+Int.tmod (ze a (zW zI (Int.tdiv d (2:Int))).toNat) 16))]:List Int)).size≤9223372036854775807 then f a b (c++strOf ([(zW zU (48+Int.tmod (ze a (zW zI (Int.tdiv d (2:Int))).toNat) 16))]:List Int)) (zW zI (d+1)) else none) else bif 9<zW zU (Int.tdiv (ze a (zW zI (Int.tdiv d (2:Int))).toNat) 16) then e (bs []) 3 (zW zI (Int.tdiv d 2)) c else bif c.size+(strOf ([(zW zU (48+zW zU (Int.tdiv (ze a (zW zI (Int.tdiv d (2:Int))).toNat) 16)))]:List Int)).size≤9223372036854775807 then f a b (c++strOf ([(zW zU (48+zW zU (Int.tdiv (ze a (zW zI (Int.tdiv d (2:Int))).toNat) 16)))]:List Int)) (zW zI (d+1)) else none) else zd (zW zI (Int.tdiv d 2)) a.size (bif Int.tmod d 2=1 then zd (zW zI (Int.tdiv d 2)) a.size (bif 9<Int.tmod (ze a (zW zI (Int.tdiv d (2:Int))).toNat) 16 then e (bs []) 3 (zW zI (Int.tdiv d 2)) c else bif c.size+(strOf ([(zW zU (48+Int.tmod (ze a (zW zI (Int.tdiv d (2:Int))).toNat) 16))]:List Int)).size≤9223372036854775807 then f a b (c++strOf ([(zW zU (48+Int.tmod (ze a (zW zI (Int.tdiv d (2:Int))).toNat) 16))]:List Int)) (zW zI (d+1)) else none) else bif 9<zW zU (Int.tdiv (ze a (zW zI (Int.tdiv d (2:Int))).toNat) 16) then e (bs []) 3 (zW zI (Int.tdiv d 2)) c else bif c.size+(strOf ([(zW zU (48+zW zU (Int.tdiv (ze a (zW zI (Int.tdiv d (2:Int))).toNat) 16)))]:List Int)).size≤9223372036854775807 then f a b (c++strOf ([(zW zU (48+zW zU (Int.tdiv (ze a (zW zI (Int.tdiv d (2:Int))).toNat) 16)))]:List Int)) (zW zI (d+1)) else none) else g c
def z19v{R:Type}(a:ByteArray)(b c:Int)(d:ByteArray)(e:ByteArray→Int→Int→Option R):Option R:=
 e a b c
def zih{R:Type}(a:ByteArray)(b:ByteArray→Int→Int→Option R):Option R:=
 b a 0 0
def z2y:Nat→ByteArray→Int→ByteArray→Int→Option (Sum (ByteArray×Int×Int×ByteArray) ByteArray)
 |0,_,_,_,_=>none
 |k+1,v0,v1,v2,v3=>z9x v0 v1 v2 v3 (fun a0 a1 a2 a3=>some (.inl (a0,a1,a2,a3))) (fun a0 a1 a2 a3=>z2y k a0 a1 a2 a3) (fun a0=>some (.inr a0))
def Q77(a:ByteArray)(b:Int):Option Zt8:=
 zx0 a b (fun a0 a1 a2=>some (a0,a1,a2)) (fun a0 a1 a2 a3=>(z2y FUEL a0 a1 a2 a3).bind fun e=>Sum.elim (fun(we:(ByteArray×Int×Int×ByteArray))=>z19v we.1 we.2.1 we.2.2.1 we.2.2.2 (fun a0 a1 a2=>some (a0,a1,a2))) (fun(we:ByteArray)=>zih we (fun a0 a1 a2=>some (a0,a1,a2))) e)
def zd5{R:Type}(a:ByteArray)(b:ByteArray→Bool→Option R)(c:ByteArray→(List Int)→Int→Int→Option R):Option R:=
 bif 999<(a.size:Int) then b (bs []) false else(Q68 a).bind fun r1=>bif !r1 then b (bs []) false else bif Int.tmod (a.size:Int) 2=1 then bif(List.length ([]:List Int)+List.length ([(0:Int)]:List Int))*1≤140737488355328 then c a ([]++([0]:List Int)) (Int.tmod (a.size:Int) 2) 0 else none else c a [] (Int.tmod (a.size:Int) 2) 0
theorem z1da{R S:Type}(F:R→Option S)(a)(b)(c):(zd5 a b c).bind F=zd5 a (fun a0 a1=>(b a0 a1).bind F) (fun a0 a1 a2 a3=>(c a0 a1 a2 a3).bind F):=by
 simp only[zd5,nn_]
def zd6{R:Type}(a:ByteArray)(b:(List Int))(c d:Int)(e:ByteArray→(List Int)→Int→Int→Option R)(f:(List Int)→Option R):Option R:=
 bif d<(a.size:Int) then zd d a.size (bif c=0 then bif(List.length b+List.length ([(zW zU ((16:Int)*zW zU (ze a d.toNat-(48:Int))))]:List Int))*1≤140737488355328 then e a (b++([(zW zU (16*zW zU (ze a d.toNat-48)))]:List Int)) (zW zI (1-c)) (zW zI (d+1)) else none else zd (zW zI ((List.length b:Int)-1)) (List.length b) (e a (List.set b (zW zI ((List.length b:Int)-(1:Int))).toNat (zW zU (List.getD b (zW zI ((List.length b:Int)-(1:Int))).toNat 0+zW zU (ze a d.toNat-48)))) (zW zI (1-c)) (zW zI (d+1)))) else f b
def z19w{R:Type}(a:(List Int))(b:ByteArray→Bool→Option R):Option R:=
 b (strOf a) true
def z69:Nat→ByteArray→(List Int)→Int→Int→Option (List Int)
 |0,_,_,_,_=>none
 |k+1,v0,v1,v2,v3=>zd6 v0 v1 v2 v3 (fun a0 a1 a2 a3=>z69 k a0 a1 a2 a3) (fun a0=>some a0)
def Q78(a:ByteArray):Option Zt5:=
 zd5 a (fun a0 a1=>some (a0,a1)) (fun a0 a1 a2 a3=>(z69 FUEL a0 a1 a2 a3).bind fun e=>z19w e (fun a0 a1=>some (a0,a1)))
end Groat

namespace Groat
open Go.IntKind renaming wrap→zW,i64→zI,u8→zU
open Go Go.Ref
def z19k{R:Type}(a:ByteArray→Option R):Option R:=
 a (bs [48,49,50,51,52,53,54,55,56,57,65,66,67,68,69,70])
def Q73:Option ByteArray:=
 z19k (fun a0=>some a0)
def z19q{R:Type}(a:Int)(b:Int→Int→Option R):Option R:=
 b a 0
def z19r{R:Type}(a b:Int)(c:Int→Option R)(d:Int→Int→Option R)(e:Option R):Option R:=
 bif b<16 then Q73.bind fun r1=>zd b r1.size (bif ze r1 b.toNat=a then c b else d a (zW zI (b+1))) else e
def z19s{R:Type}(a:Int)(b:Int→Option R):Option R:=
 b a
def z19t{R:Type}(a:Int→Option R):Option R:=
 a (-1:Int)
def zwy:Nat→Int→Int→Option (Sum Int Unit)
 |0,_,_=>none
 |k+1,v0,v1=>z19r v0 v1 (fun a0=>some (.inl a0)) (fun a0 a1=>zwy k a0 a1) (some (.inr ()))
def Q76(a:Int):Option Int:=
 z19q a (fun a0 a1=>(zwy FUEL a0 a1).bind fun e=>Sum.elim (fun(we:Int)=>z19s we (fun a0=>some a0)) (fun(we:Unit)=>z19t (fun a0=>some a0)) e)
def zwt{R:Type}(a:ByteArray)(b:ByteArray→Int→Option R):Option R:=
 b a 0
def zie{R:Type}(a:ByteArray)(b:Int)(c:ByteArray→ByteArray→Int→Bool→Option R)(d:ByteArray→Int→Option R)(e:ByteArray→Option R):Option R:=
 bif b<(a.size:Int) then zd b a.size ((Q76 (ze a b.toNat)).bind fun r1=>bif r1<0 then c a (bs []) b false else d a (zW zI (b+1))) else e a
def z19m{R:Type}(a b:ByteArray)(c:Int)(d:Bool)(e:ByteArray→Int→Bool→Option R):Option R:=
 e b c d
def zwu{R:Type}(a:ByteArray)(b:ByteArray→Int→Bool→Option R)(c:ByteArray→(List Int)→Int→Option R):Option R:=
 bif Int.tmod (a.size:Int) 2=1 then b (bs []) (a.size:Int) false else c a [] 0
def zif{R:Type}(a:ByteArray)(b:(List Int))(c:Int)(d:ByteArray→(List Int)→Int→Option R)(e:(List Int)→Option R):Option R:=
 bif c<(a.size:Int) then zd c a.size ((Q76 (ze a c.toNat)).bind fun r2=>zd (zW zI (c+1)) a.size ((Q76 (ze a (zW zI (c+(1:Int))).toNat)).bind fun r3=>bif(List.length b+List.length ([(zW zU (zW zI (zW zI ((16:Int)*r2)+r3)))]:List Int))*1≤140737488355328 then d a (b++([(zW zU (zW zI (zW zI (16*r2)+r3)))]:List Int)) (zW zI (c+2)) else none)) else e b
def z19n{R:Type}(a:(List Int))(b:ByteArray→Int→Bool→Option R):Option R:=
 b (strOf a) 0 true
def z9u:Nat→ByteArray→Int→Option (Sum (ByteArray×ByteArray×Int×Bool) ByteArray)
 |0,_,_=>none
 |k+1,v0,v1=>zie v0 v1 (fun a0 a1 a2 a3=>some (.inl (a0,a1,a2,a3))) (fun a0 a1=>z9u k a0 a1) (fun a0=>some (.inr a0))
def z9v:Nat→ByteArray→(List Int)→Int→Option (List Int)
 |0,_,_,_=>none
 |k+1,v0,v1,v2=>zif v0 v1 v2 (fun a0 a1 a2=>z9v k a0 a1 a2) (fun a0=>some a0)
def Q74(a:ByteArray):Option (ByteArray×Int×Bool):=
 zwt a (fun a0 a1=>(z9u FUEL a0 a1).bind fun e=>Sum.elim (fun(we:(ByteArray×ByteArray×Int×Bool))=>z19m we.1 we.2.1 we.2.2.1 we.2.2.2 (fun a0 a1 a2=>some (a0,a1,a2))) (fun(we:ByteArray)=>zwu we (fun a0 a1 a2=>some (a0,a1,a2)) (fun a0 a1 a2=>(z9v FUEL a0 a1 a2).bind fun e=>z19n e (fun a0 a1 a2=>some (a0,a1,a2)))) e)
def zww{R:Type}(a:ByteArray)(b:ByteArray→(List Int)→Int→Option R):Option R:=
 b a [] 0
def zig{R:Type}(a:ByteArray)(b:(List Int))(c:Int)(d:ByteArray→(List Int)→Int→Option R)(e:(List Int)→Option R):Option R:=
 bif c<(a.size:Int) then Q73.bind fun r1=>zd c a.size (zd (zW zU (Int.tdiv (ze a c.toNat) 16)) r1.size (Q73.bind fun r2=>zd c a.size (zd (Int.tmod (ze a c.toNat) 16) r2.size (bif(List.length b+List.length ([(ze r1 (zW zU (Int.tdiv (ze a c.toNat) (16:Int))).toNat),(ze r2 (Int.tmod (ze a c.toNat) (16:Int)).toNat)]:List Int))*1≤140737488355328 then d a (b++([(ze r1 (zW zU (Int.tdiv (ze a c.toNat) (16:Int))).toNat),(ze r2 (Int.tmod (ze a c.toNat) (16:Int)).toNat)]:List Int)) (zW zI (c+1)) else none)))) else e b
def z19o{R:Type}(a:(List Int))(b:ByteArray→Option R):Option R:=
 b (strOf a)
def z9w:Nat→ByteArray→(List Int)→Int→Option (List Int)
 |0,_,_,_=>none
 |k+1,v0,v1,v2=>zig v0 v1 v2 (fun a0 a1 a2=>z9w k a0 a1 a2) (fun a0=>some a0)
def Q75(a:ByteArray):Option ByteArray:=
 zww a (fun a0 a1 a2=>(z9w FUEL a0 a1 a2).bind fun e=>z19o e (fun a0=>some a0))
end Groat

namespace Groat
open Go.IntKind renaming wrap→zW,i64→zI,u8→zU
open Go Go.Ref
def zd8{R:Type}(a:Int)(b:ByteArray)(c d:Int)(e:(List Int)→Int→Option R)(f:Int→ByteArray→(List Int)→Int→Option R):Option R:=
 bif a=1 then bif zW zI ((b.size:Int)-c)<16 then e [] 2 else bif 0≤zW zI (c+16) then bif zW zI (c+16)≤(b.size:Int) then bif 0≤c then bif c≤(((zW zI (c+(16:Int))).toNat:Nat):Int) then bif a=1 then(Q74 (b.extract c.toNat (zW zI (c+(16:Int))).toNat)).bind fun r1=>bif !r1.2.2 then e [] 3 else f d r1.1 [] 0 else f d (b.extract c.toNat (zW zI (c+(16:Int))).toNat) [] 0 else none else none else none else none else bif zW zI ((b.size:Int)-c)<8 then e [] 2 else bif 0≤zW zI (c+8) then bif zW zI (c+8)≤(b.size:Int) then bif 0≤c then bif c≤(((zW zI (c+(8:Int))).toNat:Nat):Int) then bif a=1 then(Q74 (b.extract c.toNat (zW zI (c+(8:Int))).toNat)).bind fun r2=>bif !r2.2.2 then e [] 3 else f d r2.1 [] 0 else f d (b.extract c.toNat (zW zI (c+(8:Int))).toNat) [] 0 else none else none else none else none
theorem z1dc{R S:Type}(F:R→Option S)(a)(b)(c)(d)(e)(f):(zd8 a b c d e f).bind F=zd8 a b c d (fun a0 a1=>(e a0 a1).bind F) (fun a0 a1 a2 a3=>(f a0 a1 a2 a3).bind F):=by
 simp only[zd8,nn_]
def zio{R:Type}(a:Int)(b:ByteArray)(c:(List Int))(d:Int)(e:Int→ByteArray→(List Int)→Int→Int→Int→Int→Option R)(f:(List Int)→Option R):Option R:=
 bif d<8 then zd d b.size (e a b c d (ze b d.toNat) 128 0) else f c
def zxi{R:Type}(a:(List Int))(b:(List Int)→Int→Option R):Option R:=
 b a 0
def zip{R:Type}(a:Int)(b:ByteArray)(c:(List Int))(d e f g:Int)(h:Int→ByteArray→(List Int)→Int→Int→Int→Int→Option R)(i:Int→ByteArray→(List Int)→Int→Option R):Option R:=
 bif g<8 then bif f≤e then bif(List.length c+List.length ([(zW zI (zW zI (a+zW zI ((8:Int)*d))+g))]:List Int))*8≤140737488355328 then h a b (c++([(zW zI (zW zI (a+zW zI (8*d))+g))]:List Int)) d (zW zU (e-f)) (zW zU (Int.tdiv f 2)) (zW zI (g+1)) else none else h a b c d e (zW zU (Int.tdiv f 2)) (zW zI (g+1)) else i a b c d
def zxj{R:Type}(a:Int)(b:ByteArray)(c:(List Int))(d:Int)(e:Int→ByteArray→(List Int)→Int→Option R):Option R:=
 e a b c (zW zI (d+1))
def za2:Nat→Int→ByteArray→(List Int)→Int→Int→Int→Int→Option (Int×ByteArray×(List Int)×Int)
 |0,_,_,_,_,_,_,_=>none
 |k+1,v0,v1,v2,v3,v4,v5,v6=>zip v0 v1 v2 v3 v4 v5 v6 (fun a0 a1 a2 a3 a4 a5 a6=>za2 k a0 a1 a2 a3 a4 a5 a6) (fun a0 a1 a2 a3=>some (a0,a1,a2,a3))
def z7v:Nat→Int→ByteArray→(List Int)→Int→Option (List Int)
 |0,_,_,_,_=>none
 |k+1,v0,v1,v2,v3=>zio v0 v1 v2 v3 (fun a0 a1 a2 a3 a4 a5 a6=>(za2 FUEL a0 a1 a2 a3 a4 a5 a6).bind fun e=>zxj e.1 e.2.1 e.2.2.1 e.2.2.2 (fun a0 a1 a2 a3=>z7v k a0 a1 a2 a3)) (fun a0=>some a0)
def Q91(a:Int)(b:ByteArray)(c d:Int):Option ((List Int)×Int):=
 zd8 a b c d (fun a0 a1=>some (a0,a1)) (fun a0 a1 a2 a3=>(z7v FUEL a0 a1 a2 a3).bind fun e=>zxi e (fun a0 a1=>some (a0,a1)))
def zxa{R:Type}(a:Int)(b:ByteArray)(c:Int)(d:(List Int)→Int→Int→Option R):Option R:=
 bif !decide (a=1) then bif !decide (a=2) then d [] 0 1 else bif c<0 then d [] 0 1 else bif(b.size:Int)<c then d [] 0 1 else bif a=1 then(Q91 a b c (1:Int)).bind fun r1=>bif !decide (r1.2=0) then d [] 0 r1.2 else bif((List.length r1.1):Int)=0 then d r1.1 (zW zI (c+16)) 0 else zd 0 (List.length r1.1) (bif !decide (List.getD r1.1 ((0:Int)).toNat 0=1) then d r1.1 (zW zI (c+16)) 0 else(Q91 a b (zW zI (c+16)) (65:Int)).bind fun r2=>bif !decide (r2.2=0) then d [] 0 r2.2 else bif((List.length r2.1):Int)=0 then d [] 0 8 else bif 1≤(((List.length r1.1):Nat):Int) then bif(List.length ([]:List Int)+List.length (List.drop ((1:Int)).toNat (List.take (List.length r1.1) r1.1)))*8≤140737488355328 then bif(List.length (([]:List Int)++List.drop ((1:Int)).toNat (List.take (List.length r1.1) r1.1))+List.length r2.1)*8≤140737488355328 then d (([]++List.drop ((1:Int)).toNat (List.take (List.length r1.1) r1.1))++r2.1) (zW zI (c+zW zI (2*16))) 0 else none else none else none) else(Q91 a b c (1:Int)).bind fun r3=>bif !decide (r3.2=0) then d [] 0 r3.2 else bif((List.length r3.1):Int)=0 then d r3.1 (zW zI (c+8)) 0 else zd 0 (List.length r3.1) (bif !decide (List.getD r3.1 ((0:Int)).toNat 0=1) then d r3.1 (zW zI (c+8)) 0 else(Q91 a b (zW zI (c+8)) (65:Int)).bind fun r4=>bif !decide (r4.2=0) then d [] 0 r4.2 else bif((List.length r4.1):Int)=0 then d [] 0 8 else bif 1≤(((List.length r3.1):Nat):Int) then bif(List.length ([]:List Int)+List.length (List.drop ((1:Int)).toNat (List.take (List.length r3.1) r3.1)))*8≤140737488355328 then bif(List.length (([]:List Int)++List.drop ((1:Int)).toNat (List.take (List.length r3.1) r3.1))+List.length r4.1)*8≤140737488355328 then d (([]++List.drop ((1:Int)).toNat (List.take (List.length r3.1) r3.1))++r4.1) (zW zI (c+zW zI (2*8))) 0 else none else none else none) else bif c<0 then d [] 0 1 else bif(b.size:Int)<c then d [] 0 1 else bif a=1 then(Q91 a b c (1:Int)).bind fun r5=>bif !decide (r5.2=0) then d [] 0 r5.2 else bif((List.length r5.1):Int)=0 then d r5.1 (zW zI (c+16)) 0 else zd 0 (List.length r5.1) (bif !decide (List.getD r5.1 ((0:Int)).toNat 0=1) then d r5.1 (zW zI (c+16)) 0 else(Q91 a b (zW zI (c+16)) (65:Int)).bind fun r6=>bif !decide (r6.2=0) then d [] 0 r6.2 else bif((List.length r6.1):Int)=0 then d [] 0 8 else bif 1≤(((List.length r5.1):Nat):Int) then bif(List.length ([]:List Int)+List.length (List.drop ((1:Int)).toNat (List.take (List.length r5.1) r5.1)))*8≤140737488355328 then bif(List.length (([]:List Int)++List.drop ((1:Int)).toNat (List.take (List.length r5.1) r5.1))+List.length r6.1)*8≤140737488355328 then d (([]++List.drop ((1:Int)).toNat (List.take (List.length r5.1) r5.1))++r6.1) (zW zI (c+zW zI (2*16))) 0 else none else none else none) else(Q91 a b c (1:Int)).bind fun r7=>bif !decide (r7.2=0) then d [] 0 r7.2 else bif((List.length r7.1):Int)=0 then d r7.1 (zW zI (c+8)) 0 else zd 0 (List.length r7.1) (bif !decide (List.getD r7.1 ((0:Int)).toNat 0=1) then d r7.1 (zW zI (c+8)) 0 else(Q91 a b (zW zI (c+8)) (65:Int)).bind fun r8=>bif !decide (r8.2=0) then d [] 0 r8.2 else bif((List.length r8.1):Int)=0 then d [] 0 8 else bif 1≤(((List.length r7.1):Nat):Int) then bif(List.length ([]:List Int)+List.length (List.drop ((1:Int)).toNat (List.take (List.length r7.1) r7.1)))*8≤140737488355328 then bif(List.length (([]:List Int)++List.drop ((1:Int)).toNat (List.take (List.length r7.1) r7.1))+List.length r8.1)*8≤140737488355328 then d (([]++List.drop ((1:Int)).toNat (List.take (List.length r7.1) r7.1))++r8.1) (zW zI (c+zW zI (2*8))) 0 else none else none else none)
def Q88(a:Int)(b:ByteArray)(c:Int):Option ((List Int)×Int×Int):=
 zxa a b c (fun a0 a1 a2=>some (a0,a1,a2))
def zxe{R:Type}(a:(List Int))(b:Int)(c:(List Int)→Int→(List Int)→Int→Option R):Option R:=
 c a b [] 0
def zim{R:Type}(a:(List Int))(b:Int)(c:(List Int))(d:Int)(e:(List Int)→Int→(List Int)→Int→Int→Int→Option R)(f:(List Int)→Option R):Option R:=
 bif d<8 then e a b c d 0 0 else f c
def z1a7{R:Type}(a:(List Int))(b:ByteArray→Option R):Option R:=
 b (strOf a)
def zin{R:Type}(a:(List Int))(b:Int)(c:(List Int))(d e f:Int)(g:(List Int)→Int→(List Int)→Int→Int→Int→Option R)(h:(List Int)→Int→(List Int)→Int→Int→Option R):Option R:=
 bif f<8 then(Q84 a (zW zI (zW zI (b+zW zI (8*d))+f))).bind fun r1=>bif r1 then g a b c d (zW zU (zW zU (e*2)+1)) (zW zI (f+1)) else g a b c d (zW zU (e*2)) (zW zI (f+1)) else h a b c d e
def zxf{R:Type}(a:(List Int))(b:Int)(c:(List Int))(d e:Int)(f:(List Int)→Int→(List Int)→Int→Option R):Option R:=
 bif(List.length c+List.length ([e]:List Int))*1≤140737488355328 then f a b (c++([e]:List Int)) (zW zI (d+1)) else none
def za1:Nat→(List Int)→Int→(List Int)→Int→Int→Int→Option ((List Int)×Int×(List Int)×Int×Int)
 |0,_,_,_,_,_,_=>none
 |k+1,v0,v1,v2,v3,v4,v5=>zin v0 v1 v2 v3 v4 v5 (fun a0 a1 a2 a3 a4 a5=>za1 k a0 a1 a2 a3 a4 a5) (fun a0 a1 a2 a3 a4=>some (a0,a1,a2,a3,a4))
def za0:Nat→(List Int)→Int→(List Int)→Int→Option (List Int)
 |0,_,_,_,_=>none
 |k+1,v0,v1,v2,v3=>zim v0 v1 v2 v3 (fun a0 a1 a2 a3 a4 a5=>(za1 FUEL a0 a1 a2 a3 a4 a5).bind fun e=>zxf e.1 e.2.1 e.2.2.1 e.2.2.2.1 e.2.2.2.2 (fun a0 a1 a2 a3=>za0 k a0 a1 a2 a3)) (fun a0=>some a0)
def Q90(a:(List Int))(b:Int):Option ByteArray:=
 zxe a b (fun a0 a1 a2 a3=>(za0 FUEL a0 a1 a2 a3).bind fun e=>z1a7 e (fun a0=>some a0))
def zd7{R:Type}(a:Int)(b:(List Int))(c:ByteArray→Bool→Option R)(d:Int→(List Int)→Bool→Int→Option R):Option R:=
 bif !decide (a=1) then bif !decide (a=2) then c (bs []) false else(Q84 b (1:Int)).bind fun r1=>bif r1 then c (bs []) false else d a b false 65 else(Q84 b (1:Int)).bind fun r2=>bif r2 then c (bs []) false else d a b false 65
theorem z1db{R S:Type}(F:R→Option S)(a)(b)(c)(d):(zd7 a b c d).bind F=zd7 a b (fun a0 a1=>(c a0 a1).bind F) (fun a0 a1 a2 a3=>(d a0 a1 a2 a3).bind F):=by
 simp only[zd7,nn_]
def zik{R:Type}(a:Int)(b:(List Int))(c:Bool)(d:Int)(e:Int→(List Int)→Bool→Int→Option R)(f:Int→(List Int)→Bool→Option R):Option R:=
 bif d≤128 then bif c then e a b true (zW zI (d+1)) else(Q84 b d).bind fun r3=>e a b r3 (zW zI (d+1)) else f a b c
def zil{R:Type}(a:Int)(b:(List Int))(c:Bool)(d:ByteArray→Bool→Option R):Option R:=
 (Q90 b (1:Int)).bind fun r4=>bif c then bif(List.length ([(1:Int)]:List Int)+List.length b)*8≤140737488355328 then(Q90 (([1]:List Int)++b) (1:Int)).bind fun r5=>(Q90 b (65:Int)).bind fun r6=>bif r5.size+r6.size≤9223372036854775807 then bif a=1 then(Q75 (r5++r6)).bind fun r7=>d r7 true else d (r5++r6) true else none else none else bif a=1 then(Q75 r4).bind fun r8=>d r8 true else d r4 true
def z7u:Nat→Int→(List Int)→Bool→Int→Option (Int×(List Int)×Bool)
 |0,_,_,_,_=>none
 |k+1,v0,v1,v2,v3=>zik v0 v1 v2 v3 (fun a0 a1 a2 a3=>z7u k a0 a1 a2 a3) (fun a0 a1 a2=>some (a0,a1,a2))
def Q89(a:Int)(b:(List Int)):Option Zt5:=
 zd7 a b (fun a0 a1=>some (a0,a1)) (fun a0 a1 a2 a3=>(z7u FUEL a0 a1 a2 a3).bind fun e=>zil e.1 e.2.1 e.2.2 (fun a0 a1=>some (a0,a1)))
end Groat

namespace Groat
open Go.IntKind renaming wrap→zW,i64→zI,u8→zU
open Go Go.Ref
def ziq{R:Type}(a:Int)(b:Int→Option R):Option R:=
 bif a=2 then b a else bif a=3 then b a else b 0
def Q94(a:Int):Option Int:=
 ziq a (fun a0=>some a0)
def zxk{R:Type}(a b:Int)(c:ByteArray)(d:Int)(e:Int→Int→Int→Option R):Option R:=
 bif !decide (a=1) then bif !decide (a=2) then e 0 0 1 else(Q94 b).bind fun r1=>bif r1=0 then e 0 0 1 else bif d<0 then e 0 0 1 else bif(c.size:Int)<d then e 0 0 1 else bif a=2 then bif zW zI ((c.size:Int)-d)<zW zI (b-1) then e 0 0 2 else bif 0≤zW zI (d+zW zI (b-1)) then bif zW zI (d+zW zI (b-1))≤(c.size:Int) then bif 0≤d then bif d≤(((zW zI (d+zW zI (b-(1:Int)))).toNat:Nat):Int) then bif a=2 then(Q77 (c.extract d.toNat (zW zI (d+zW zI (b-(1:Int)))).toNat) b).bind fun r2=>bif !decide (r2.2.1=0) then e 0 0 3 else(Q70 r2.1).bind fun r3=>bif !r3.2 then e 0 0 3 else e r3.1 (zW zI (d+zW zI (b-1))) 0 else(Q70 (c.extract d.toNat (zW zI (d+zW zI (b-(1:Int)))).toNat)).bind fun r4=>bif !r4.2 then e 0 0 3 else e r4.1 (zW zI (d+zW zI (b-1))) 0 else none else none else none else none else bif zW zI ((c.size:Int)-d)<b then e 0 0 2 else bif 0≤zW zI (d+b) then bif zW zI (d+b)≤(c.size:Int) then bif 0≤d then bif d≤(((zW zI (d+b)).toNat:Nat):Int) then bif a=2 then(Q77 (c.extract d.toNat (zW zI (d+b)).toNat) b).bind fun r5=>bif !decide (r5.2.1=0) then e 0 0 3 else(Q70 r5.1).bind fun r6=>bif !r6.2 then e 0 0 3 else e r6.1 (zW zI (d+b)) 0 else(Q70 (c.extract d.toNat (zW zI (d+b)).toNat)).bind fun r7=>bif !r7.2 then e 0 0 3 else e r7.1 (zW zI (d+b)) 0 else none else none else none else none else(Q94 b).bind fun r8=>bif r8=0 then e 0 0 1 else bif d<0 then e 0 0 1 else bif(c.size:Int)<d then e 0 0 1 else bif a=2 then bif zW zI ((c.size:Int)-d)<zW zI (b-1) then e 0 0 2 else bif 0≤zW zI (d+zW zI (b-1)) then bif zW zI (d+zW zI (b-1))≤(c.size:Int) then bif 0≤d then bif d≤(((zW zI (d+zW zI (b-(1:Int)))).toNat:Nat):Int) then bif a=2 then(Q77 (c.extract d.toNat (zW zI (d+zW zI (b-(1:Int)))).toNat) b).bind fun r9=>bif !decide (r9.2.1=0) then e 0 0 3 else(Q70 r9.1).bind fun r10=>bif !r10.2 then e 0 0 3 else e r10.1 (zW zI (d+zW zI (b-1))) 0 else(Q70 (c.extract d.toNat (zW zI (d+zW zI (b-(1:Int)))).toNat)).bind fun r11=>bif !r11.2 then e 0 0 3 else e r11.1 (zW zI (d+zW zI (b-1))) 0 else none else none else none else none else bif zW zI ((c.size:Int)-d)<b then e 0 0 2 else bif 0≤zW zI (d+b) then bif zW zI (d+b)≤(c.size:Int) then bif 0≤d then bif d≤(((zW zI (d+b)).toNat:Nat):Int) then bif a=2 then(Q77 (c.extract d.toNat (zW zI (d+b)).toNat) b).bind fun r12=>bif !decide (r12.2.1=0) then e 0 0 3 else(Q70 r12.1).bind fun r13=>bif !r13.2 then e 0 0 3 else e r13.1 (zW zI (d+b)) 0 else(Q70 (c.extract d.toNat (zW zI (d+b)).toNat)).bind fun r14=>bif !r14.2 then e 0 0 3 else e r14.1 (zW zI (d+b)) 0 else none else none else none else none
def Q92(a b:Int)(c:ByteArray)(d:Int):Option Zt1:=
 zxk a b c d (fun a0 a1 a2=>some (a0,a1,a2))
def zxl{R:Type}(a b c:Int)(d:ByteArray→Int→Option R):Option R:=
 bif !decide (a=1) then bif !decide (a=2) then d (bs []) 1 else(Q94 b).bind fun r1=>bif r1=0 then d (bs []) 1 else(Q72 c b).bind fun r2=>bif !r2.2 then d (bs []) 5 else bif a=2 then(Q78 r2.1).bind fun r3=>d r3.1 0 else d r2.1 0 else(Q94 b).bind fun r4=>bif r4=0 then d (bs []) 1 else(Q72 c b).bind fun r5=>bif !r5.2 then d (bs []) 5 else bif a=2 then(Q78 r5.1).bind fun r6=>d r6.1 0 else d r5.1 0
def Q93(a b c:Int):Option Zt2:=
 zxl a b c (fun a0 a1=>some (a0,a1))
end Groat

namespace Groat
open Go.IntKind renaming wrap→zW,i64→zI,u8→zU
open Go Go.Ref
def zx4{R:Type}(a b:Int)(c:Bool→Option R):Option R:=
 bif 48≤b then bif 65≤b then bif b≤90 then bif a=1 then c (decide (b≤57)) else bif a=2 then c true else bif a=3 then bif b≤57 then c true else c true else bif a=4 then bif 32≤b then c (decide (b≤126)) else c false else bif a=5 then c true else c (decide (a=6)) else bif 97≤b then bif a=1 then c (decide (b≤57)) else bif a=2 then c (decide (b≤122)) else bif a=3 then bif b≤57 then c true else c (decide (b≤122)) else bif a=4 then bif 32≤b then c (decide (b≤126)) else c false else bif a=5 then c true else c (decide (a=6)) else bif a=1 then c (decide (b≤57)) else bif a=2 then c false else bif a=3 then bif b≤57 then c true else c false else bif a=4 then bif 32≤b then c (decide (b≤126)) else c false else bif a=5 then c true else c (decide (a=6)) else bif 97≤b then bif a=1 then c (decide (b≤57)) else bif a=2 then c (decide (b≤122)) else bif a=3 then bif b≤57 then c true else c (decide (b≤122)) else bif a=4 then bif 32≤b then c (decide (b≤126)) else c false else bif a=5 then c true else c (decide (a=6)) else bif a=1 then c (decide (b≤57)) else bif a=2 then c false else bif a=3 then bif b≤57 then c true else c false else bif a=4 then bif 32≤b then c (decide (b≤126)) else c false else bif a=5 then c true else c (decide (a=6)) else bif 65≤b then bif b≤90 then bif a=1 then c false else bif a=2 then c true else bif a=3 then c true else bif a=4 then bif 32≤b then c (decide (b≤126)) else c false else bif a=5 then c true else c (decide (a=6)) else bif 97≤b then bif a=1 then c false else bif a=2 then c (decide (b≤122)) else bif a=3 then c (decide (b≤122)) else bif a=4 then bif 32≤b then c (decide (b≤126)) else c false else bif a=5 then c true else c (decide (a=6)) else bif a=1 then c false else bif a=2 then c false else bif a=3 then c false else bif a=4 then bif 32≤b then c (decide (b≤126)) else c false else bif a=5 then c true else c (decide (a=6)) else bif 97≤b then bif a=1 then c false else bif a=2 then c (decide (b≤122)) else bif a=3 then c (decide (b≤122)) else bif a=4 then bif 32≤b then c (decide (b≤126)) else c false else bif a=5 then c true else c (decide (a=6)) else bif a=1 then c false else bif a=2 then c false else bif a=3 then c false else bif a=4 then bif 32≤b then c (decide (b≤126)) else c false else bif a=5 then c true else c (decide (a=6))
def Q80(a b:Int):Option Bool:=
 zx4 a b (fun a0=>some a0)
def zx3{R:Type}(a:Int)(b:ByteArray)(c:Int→ByteArray→Int→Option R):Option R:=
 c a b 0
def zii{R:Type}(a:Int)(b:ByteArray)(c:Int)(d:Int→Option R)(e:Int→ByteArray→Int→Option R)(f:Option R):Option R:=
 bif c<(b.size:Int) then zd c b.size ((Q80 a (ze b c.toNat)).bind fun r1=>bif !r1 then d c else e a b (zW zI (c+1))) else f
def z19y{R:Type}(a:Int)(b:Int→Option R):Option R:=
 b a
def z19z{R:Type}(a:Int→Option R):Option R:=
 a (-1:Int)
def z9y:Nat→Int→ByteArray→Int→Option (Sum Int Unit)
 |0,_,_,_=>none
 |k+1,v0,v1,v2=>zii v0 v1 v2 (fun a0=>some (.inl a0)) (fun a0 a1 a2=>z9y k a0 a1 a2) (some (.inr ()))
def Q79(a:Int)(b:ByteArray):Option Int:=
 zx3 a b (fun a0 a1 a2=>(z9y FUEL a0 a1 a2).bind fun e=>Sum.elim (fun(we:Int)=>z19y we (fun a0=>some a0)) (fun(we:Unit)=>z19z (fun a0=>some a0)) e)
def zx7{R:Type}(a b:Int)(c:Bool→Option R)(d:Int→Int→Int→Option R):Option R:=
 bif a<1 then c false else bif 6<a then c false else bif b<1 then c false else bif 6<b then c false else d a b 0
def z1a1{R:Type}(a b c:Int)(d:Bool→Option R)(e:Int→Int→Int→Option R)(f:Option R):Option R:=
 bif c<256 then(Q80 b (zW zU c)).bind fun r1=>bif r1 then(Q80 a (zW zU c)).bind fun r2=>bif !r2 then d false else e a b (zW zI (c+1)) else e a b (zW zI (c+1)) else f
def z1a2{R:Type}(a:Bool)(b:Bool→Option R):Option R:=
 b a
def z1a3{R:Type}(a:Bool→Option R):Option R:=
 a true
def zx6:Nat→Int→Int→Int→Option (Sum Bool Unit)
 |0,_,_,_=>none
 |k+1,v0,v1,v2=>z1a1 v0 v1 v2 (fun a0=>some (.inl a0)) (fun a0 a1 a2=>zx6 k a0 a1 a2) (some (.inr ()))
def Q81(a b:Int):Option Bool:=
 zx7 a b (fun a0=>some a0) (fun a0 a1 a2=>(zx6 FUEL a0 a1 a2).bind fun e=>Sum.elim (fun(we:Bool)=>z1a2 we (fun a0=>some a0)) (fun(we:Unit)=>z1a3 (fun a0=>some a0)) e)
end Groat

namespace Groat
open Go.IntKind renaming wrap→zW,i64→zI,u8→zU
open Go Go.Ref
def z1a8{R:Type}(a:Int)(b:Int→Option R):Option R:=
 bif a=0 then b 0 else bif Int.tmod (zW zU (Int.tdiv a 32)) 2=1 then b 0 else bif Int.tmod a 32=31 then b 2 else b 1
def Q95(a:Int):Option Int:=
 z1a8 a (fun a0=>some a0)
def zir{R:Type}(a:ByteArray)(b:Int)(c:Int→Int→Int→Option R):Option R:=
 bif b<0 then c 0 0 1 else bif(a.size:Int)<b then c 0 0 1 else bif b=(a.size:Int) then c 0 0 2 else zd b a.size ((Q95 (ze a b.toNat)).bind fun r1=>bif r1=0 then c 0 0 13 else bif r1=1 then zd b a.size (c (zW zI (ze a b.toNat)) (zW zI (b+1)) 0) else bif zW zI ((a.size:Int)-b)<2 then c 0 0 2 else zd (zW zI (b+1)) a.size (bif ze a (zW zI (b+(1:Int))).toNat=0 then c 0 0 13 else zd (zW zI (b+1)) a.size (bif 127<ze a (zW zI (b+(1:Int))).toNat then c 0 0 13 else zd b a.size (zd (zW zI (b+1)) a.size (c (zW zI (zW zI (256*zW zI (ze a b.toNat))+zW zI (ze a (zW zI (b+(1:Int))).toNat))) (zW zI (b+2)) 0)))))
def Q96(a:ByteArray)(b:Int):Option Zt1:=
 zir a b (fun a0 a1 a2=>some (a0,a1,a2))
end Groat

namespace Groat
open Go.IntKind renaming wrap→zW,i64→zI,u8→zU
open Go Go.Ref
def zis{R:Type}(a:ByteArray)(b:Int)(c:Int→Int→Int→Option R):Option R:=
 bif b<0 then c 0 0 1 else bif(a.size:Int)<b then c 0 0 1 else bif b=(a.size:Int) then c 0 0 2 else zd b a.size (bif zW zI (ze a b.toNat)<128 then c (zW zI (ze a b.toNat)) (zW zI (b+1)) 0 else bif !decide (zW zI (ze a b.toNat)=129) then bif !decide (zW zI (ze a b.toNat)=130) then c 0 0 14 else bif zW zI ((a.size:Int)-b)<zW zI (zW zI (ze a b.toNat)-127) then c 0 0 2 else bif zW zI (ze a b.toNat)=129 then zd (zW zI (b+1)) a.size (bif ze a (zW zI (b+(1:Int))).toNat<128 then c 0 0 14 else zd (zW zI (b+1)) a.size (c (zW zI (ze a (zW zI (b+(1:Int))).toNat)) (zW zI (b+2)) 0)) else zd (zW zI (b+1)) a.size (bif ze a (zW zI (b+(1:Int))).toNat=0 then c 0 0 14 else zd (zW zI (b+1)) a.size (zd (zW zI (b+2)) a.size (c (zW zI (zW zI (256*zW zI (ze a (zW zI (b+(1:Int))).toNat))+zW zI (ze a (zW zI (b+(2:Int))).toNat))) (zW zI (b+3)) 0))) else bif zW zI ((a.size:Int)-b)<zW zI (zW zI (ze a b.toNat)-127) then c 0 0 2 else bif zW zI (ze a b.toNat)=129 then zd (zW zI (b+1)) a.size (bif ze a (zW zI (b+(1:Int))).toNat<128 then c 0 0 14 else zd (zW zI (b+1)) a.size (c (zW zI (ze a (zW zI (b+(1:Int))).toNat)) (zW zI (b+2)) 0)) else zd (zW zI (b+1)) a.size (bif ze a (zW zI (b+(1:Int))).toNat=0 then c 0 0 14 else zd (zW zI (b+1)) a.size (zd (zW zI (b+2)) a.size (c (zW zI (zW zI (256*zW zI (ze a (zW zI (b+(1:Int))).toNat))+zW zI (ze a (zW zI (b+(2:Int))).toNat))) (zW zI (b+3)) 0))))
def Q97(a:ByteArray)(b:Int):Option Zt1:=
 zis a b (fun a0 a1 a2=>some (a0,a1,a2))
end Groat

namespace Groat
open Go.IntKind renaming wrap→zW,i64→zI,u8→zU
open Go Go.Ref
def zxo{R:Type}(a:Zt13)(b c:Int)(d:Zt13→Int→Int→Int→Option R):Option R:=
 d a b c 0
def ziv{R:Type}(a:Zt13)(b c d:Int)(e:Bool→Option R)(f:Zt13→Int→Int→Int→Option R)(g:Option R):Option R:=
 bif d<b then zd d (List.length a) (bif(List.getD a d.toNat (0,bs [],())).1=c then e true else f a b c (zW zI (d+1))) else g
def z1ad{R:Type}(a:Bool)(b:Bool→Option R):Option R:=
 b a
def z1ae{R:Type}(a:Bool→Option R):Option R:=
 a false
def za3:Nat→Zt13→Int→Int→Int→Option (Sum Bool Unit)
 |0,_,_,_,_=>none
 |k+1,v0,v1,v2,v3=>ziv v0 v1 v2 v3 (fun a0=>some (.inl a0)) (fun a0 a1 a2 a3=>za3 k a0 a1 a2 a3) (some (.inr ()))
def Q99(a:Zt13)(b c:Int):Option Bool:=
 zxo a b c (fun a0 a1 a2 a3=>(za3 FUEL a0 a1 a2 a3).bind fun e=>Sum.elim (fun(we:Bool)=>z1ad we (fun a0=>some a0)) (fun(we:Unit)=>z1ae (fun a0=>some a0)) e)
def zit{R:Type}(a:ByteArray)(b:ByteArray→Zt13→Int→Option R):Option R:=
 b a [] 0
def ziu{R:Type}(a:ByteArray)(b:Zt13)(c:Int)(d:Zt13→Int→Int→Zt13→Option R)(e:ByteArray→Zt13→Int→Option R)(f:Zt13→Option R):Option R:=
 bif c<(a.size:Int) then(Q96 a c).bind fun r1=>bif !decide (r1.2.2=0) then d [] r1.2.2 c b else(Q97 a r1.2.1).bind fun r2=>bif !decide (r2.2.2=0) then d [] r2.2.2 r1.2.1 b else bif zW zI ((a.size:Int)-r2.2.1)<r2.1 then d [] 2 (a.size:Int) b else(Q99 b ((List.length b):Int) r1.1).bind fun r3=>bif r3 then d [] 10 c b else bif 0≤zW zI (r2.2.1+r2.1) then bif zW zI (r2.2.1+r2.1)≤(a.size:Int) then bif 0≤r2.2.1 then bif r2.2.1≤(((zW zI (r2.2.1+r2.1)).toNat:Nat):Int) then bif(List.length b+List.length ([(r1.1,a.extract r2.2.1.toNat (zW zI (r2.2.1+r2.1)).toNat,())]:List Zt9))*24≤140737488355328 then e a (b++([(r1.1,a.extract r2.2.1.toNat (zW zI (r2.2.1+r2.1)).toNat,())]:List Zt9)) (zW zI (r2.2.1+r2.1)) else none else none else none else none else none else f b
def z1aa{R:Type}(a:Zt13)(b c:Int)(d:Zt13)(e:Zt13→Int→Int→Option R):Option R:=
 e a b c
def z1ab{R:Type}(a:Zt13)(b:Zt13→Int→Int→Option R):Option R:=
 b a 0 0
def z7w:Nat→ByteArray→Zt13→Int→Option (Sum Zt23 Zt13)
 |0,_,_,_=>none
 |k+1,v0,v1,v2=>ziu v0 v1 v2 (fun a0 a1 a2 a3=>some (.inl (a0,a1,a2,a3))) (fun a0 a1 a2=>z7w k a0 a1 a2) (fun a0=>some (.inr a0))
def Q98(a:ByteArray):Option (Sum Zt18 Zt18):=
 zit a (fun a0 a1 a2=>(z7w FUEL a0 a1 a2).bind fun e=>Sum.elim (fun(we:Zt23)=>z1aa we.1 we.2.1 we.2.2.1 we.2.2.2 (fun a0 a1 a2=>some (.inl (a0,a1,a2)))) (fun(we:Zt13)=>z1ab we (fun a0 a1 a2=>some (.inr (a0,a1,a2)))) e)
end Groat

namespace Groat
open Go.IntKind renaming wrap→zW,i64→zI,u8→zU
open Go Go.Ref
def zkp{R:Type}(a:Zt15)(b:Int→Option R):Option R:=
 bif a.1<2 then b 1 else bif 128<a.1 then b 1 else bif a.2.1<1 then b 6 else bif 6<a.2.1 then b 6 else bif a.2.2.1<1 then b 3 else bif 3<a.2.2.1 then b 3 else bif a.2.2.1=2 then bif a.2.2.2.1<1 then b 5 else bif a.2.2.2.2.1<a.2.2.2.1 then b 5 else bif 99<a.2.2.2.2.1 then b 5 else bif a.2.2.1=1 then bif !decide (a.2.2.2.1=a.2.2.2.2.1) then b 5 else bif a.2.2.1=1 then bif a.2.1=6 then b 13 else b 0 else b 0 else bif a.2.2.1=1 then bif a.2.1=6 then b 13 else b 0 else b 0 else bif a.2.2.2.1<1 then b 5 else bif a.2.2.2.2.1<a.2.2.2.1 then b 5 else bif 999<a.2.2.2.2.1 then b 5 else bif a.2.2.1=1 then bif !decide (a.2.2.2.1=a.2.2.2.2.1) then b 5 else bif a.2.2.1=1 then bif a.2.1=6 then b 13 else b 0 else b 0 else bif a.2.2.1=1 then bif a.2.1=6 then b 13 else b 0 else b 0
def Q100(a:Zt15):Option Int:=
 zkp a (fun a0=>some a0)
def z8o{R:Type}(a:Zt15)(b:ByteArray)(c:Int→Option R):Option R:=
 (Q100 a).bind fun r1=>bif !decide (r1=0) then c 1 else bif(b.size:Int)<a.2.2.2.1 then c 5 else bif a.2.2.2.2.1<(b.size:Int) then c 5 else(Q79 a.2.1 b).bind fun r2=>bif 0≤r2 then c 6 else bif a.2.1=6 then(Q98 b).bind fun r3=>Sum.elim (fun(wr3:Zt18)=>bif !decide (wr3.2.1=0) then c 13 else c 0) (fun(wr3:Zt18)=>bif !decide (wr3.2.1=0) then c 13 else c 0) r3 else c 0
def Q101(a:Zt15)(b:ByteArray):Option Int:=
 z8o a b (fun a0=>some a0)
def z8p{R:Type}(a b:Zt15)(c:Bool→Option R):Option R:=
 (Q100 a).bind fun r1=>bif !decide (r1=0) then c false else(Q100 b).bind fun r2=>bif !decide (r2=0) then c false else bif b.2.2.2.1<a.2.2.2.1 then c false else bif a.2.2.2.2.1<b.2.2.2.2.1 then c false else bif a.2.1=5 then c true else bif a.2.1=6 then c (decide (a.2.1=b.2.1)) else bif b.2.1=6 then c (decide (a.2.1=b.2.1)) else(Q81 a.2.1 b.2.1).bind fun r3=>c r3
def Q102(a b:Zt15):Option Bool:=
 z8p a b (fun a0=>some a0)
end Groat

namespace Groat
open Go.IntKind renaming wrap→zW,i64→zI,u8→zU
open Go Go.Ref
def z8u{R:Type}(a:Int)(b:Zt15)(c:ByteArray)(d:Int)(e:Int→ByteArray→Int→Bool→Zt15→Option R):Option R:=
 bif !decide (a=1) then bif !decide (a=2) then e a c d true b else(Q100 b).bind fun r1=>bif !decide (r1=0) then e a c d true b else bif d<0 then e a c d true b else e a c d (decide ((c.size:Int)<d)) b else(Q100 b).bind fun r2=>bif !decide (r2=0) then e a c d true b else bif d<0 then e a c d true b else e a c d (decide ((c.size:Int)<d)) b
theorem z18d{R S:Type}(F:R→Option S)(a)(b)(c)(d)(e):(z8u a b c d e).bind F=z8u a b c d (fun a0 a1 a2 a3 a4=>(e a0 a1 a2 a3 a4).bind F):=by
 simp only[z8u,nn_]
def zkr{R:Type}(a:Int)(b:ByteArray)(c:Int)(d:Bool)(e:Zt15)(f:ByteArray→Int→Int→Option R)(g:Int→ByteArray→Int→Zt15→Option R):Option R:=
 bif d then f (bs []) 0 1 else g a b c e
def zks{R:Type}(a:Int)(b:ByteArray)(c:Int)(d:Zt15)(e:ByteArray→Int→Int→Option R)(f g:Int→ByteArray→Int→Int→Zt15→Option R):Option R:=
 bif !decide (d.2.2.1=1) then(Q92 a d.2.2.1 b c).bind fun r3=>bif !decide (r3.2.2=0) then e (bs []) 0 r3.2.2 else f a b r3.1 r3.2.1 d else g a b c d.2.2.2.2.1 d
def z8v{R:Type}(a:Int)(b:ByteArray)(c d:Int)(e:Zt15)(f:Int→ByteArray→Int→Int→Bool→Zt15→Option R):Option R:=
 bif c<e.2.2.2.1 then f a b c d true e else f a b c d (decide (e.2.2.2.2.1<c)) e
theorem z18e{R S:Type}(F:R→Option S)(a)(b)(c)(d)(e)(f):(z8v a b c d e f).bind F=z8v a b c d e (fun a0 a1 a2 a3 a4 a5=>(f a0 a1 a2 a3 a4 a5).bind F):=by
 simp only[z8v,nn_]
def z4p{R:Type}(a:Int)(b:ByteArray)(c d:Int)(e:Zt15)(f:Int→ByteArray→Int→Int→Int→Bool→Zt15→Option R):Option R:=
 bif a=2 then f a b c d d (decide (e.2.1=1)) e else f a b c d d false e
theorem z18f{R S:Type}(F:R→Option S)(a)(b)(c)(d)(e)(f):(z4p a b c d e f).bind F=z4p a b c d e (fun a0 a1 a2 a3 a4 a5 a6=>(f a0 a1 a2 a3 a4 a5 a6).bind F):=by
 simp only[z4p,nn_]
def zkt{R:Type}(a:Int)(b:ByteArray)(c d:Int)(e:Bool)(f:Zt15)(g:ByteArray→Int→Int→Option R)(h:Int→ByteArray→Int→Int→Zt15→Option R):Option R:=
 bif e then g (bs []) 0 5 else h a b c d f
def z4q{R:Type}(a:Int)(b:ByteArray)(c d e:Int)(f:Bool)(g:Zt15)(h:Int→ByteArray→Int→Int→Int→Zt15→Option R):Option R:=
 bif f then h a b c d (zW zI (Int.tdiv (zW zI (d+1)) 2)) g else h a b c d e g
theorem z18g{R S:Type}(F:R→Option S)(a)(b)(c)(d)(e)(f)(g)(h):(z4q a b c d e f g h).bind F=z4q a b c d e f g (fun a0 a1 a2 a3 a4 a5=>(h a0 a1 a2 a3 a4 a5).bind F):=by
 simp only[z4q,nn_]
def zku{R:Type}(a:Int)(b:ByteArray)(c d:Int)(e:Zt15)(f:Int→ByteArray→Int→Int→Zt15→Option R):Option R:=
 f a b d c e
def z4r{R:Type}(a:Int)(b:ByteArray)(c d e:Int)(f:Zt15)(g:Int→ByteArray→Int→Int→Int→Bool→Zt15→Option R):Option R:=
 bif a=1 then g a b c d e (decide (5≤f.2.1)) f else g a b c d e false f
theorem z18h{R S:Type}(F:R→Option S)(a)(b)(c)(d)(e)(f)(g):(z4r a b c d e f g).bind F=z4r a b c d e f (fun a0 a1 a2 a3 a4 a5 a6=>(g a0 a1 a2 a3 a4 a5 a6).bind F):=by
 simp only[z4r,nn_]
def z4s{R:Type}(a:Int)(b:ByteArray)(c d e:Int)(f:Bool)(g:Zt15)(h:Int→ByteArray→Int→Int→Int→Zt15→Option R):Option R:=
 bif f then h a b c d (zW zI (d+d)) g else h a b c d e g
theorem z18i{R S:Type}(F:R→Option S)(a)(b)(c)(d)(e)(f)(g)(h):(z4s a b c d e f g h).bind F=z4s a b c d e f g (fun a0 a1 a2 a3 a4 a5=>(h a0 a1 a2 a3 a4 a5).bind F):=by
 simp only[z4s,nn_]
def z5n{R:Type}(a:Int)(b:ByteArray)(c d e:Int)(f:Zt15)(g:ByteArray→Int→Int→Option R)(h:Int→ByteArray→Int→Int→Int→Zt15→Option R):Option R:=
 bif zW zI ((b.size:Int)-c)<e then g (bs []) 0 2 else h a b c d e f
def z3w{R:Type}(a:Int)(b:ByteArray)(c d e:Int)(f:Zt15)(g:Int→Int→Int→Int→ByteArray→Bool→Zt15→Option R):Option R:=
 bif 0≤zW zI (c+e) then bif zW zI (c+e)≤(b.size:Int) then bif 0≤c then bif c≤(((zW zI (c+e)).toNat:Nat):Int) then bif a=2 then g a c d e (b.extract c.toNat (zW zI (c+e)).toNat) (decide (f.2.1=1)) f else g a c d e (b.extract c.toNat (zW zI (c+e)).toNat) false f else none else none else none else none
theorem z17k{R S:Type}(F:R→Option S)(a)(b)(c)(d)(e)(f)(g):(z3w a b c d e f g).bind F=z3w a b c d e f (fun a0 a1 a2 a3 a4 a5 a6=>(g a0 a1 a2 a3 a4 a5 a6).bind F):=by
 simp only[z3w,nn_]
def z5o{R:Type}(a b c d:Int)(e:ByteArray)(f:Bool)(g:Zt15)(h:ByteArray→Int→Int→Option R)(i j:Int→Int→Int→ByteArray→Zt15→Option R):Option R:=
 bif f then(Q77 e c).bind fun r4=>bif !decide (r4.2.1=0) then h (bs []) 0 r4.2.1 else i a b d r4.1 g else j a b d e g
def z5p{R:Type}(a b c:Int)(d:ByteArray)(e:Zt15)(f:Int→Int→Int→ByteArray→Zt15→Option R):Option R:=
 f a b c d e
def z3x{R:Type}(a b c:Int)(d:ByteArray)(e:Zt15)(f:Int→Int→ByteArray→Bool→Zt15→Option R):Option R:=
 bif a=1 then f b c d (decide (5≤e.2.1)) e else f b c d false e
theorem z17l{R S:Type}(F:R→Option S)(a)(b)(c)(d)(e)(f):(z3x a b c d e f).bind F=z3x a b c d e (fun a0 a1 a2 a3 a4=>(f a0 a1 a2 a3 a4).bind F):=by
 simp only[z3x,nn_]
def z5q{R:Type}(a b:Int)(c:ByteArray)(d:Bool)(e:Zt15)(f:ByteArray→Int→Int→Option R)(g h:Int→Int→ByteArray→Zt15→Option R):Option R:=
 bif d then(Q74 c).bind fun r5=>bif !r5.2.2 then f (bs []) 0 3 else g a b r5.1 e else h a b c e
def z5r{R:Type}(a b:Int)(c:ByteArray)(d:Zt15)(e:Int→Int→ByteArray→Zt15→Option R):Option R:=
 e a b c d
def z5s{R:Type}(a b:Int)(c:ByteArray)(d:Zt15)(e:ByteArray→Int→Int→Option R)(f:Int→Int→ByteArray→Option R):Option R:=
 (Q101 d c).bind fun r6=>bif !decide (r6=0) then e (bs []) 0 r6 else f a b c
def z5t{R:Type}(a b:Int)(c:ByteArray)(d:ByteArray→Int→Int→Option R):Option R:=
 d c (zW zI (a+b)) 0
def z6t(a b:Int)(c:ByteArray):Option Zt8:=
 z5t a b c (fun a0 a1 a2=>some (a0,a1,a2))
def z5m(a b:Int)(c:ByteArray)(d:Zt15):Option Zt8:=
 z5s a b c d (fun a0 a1 a2=>some (a0,a1,a2)) (fun a0 a1 a2=>z6t a0 a1 a2)
def z6s(a b:Int)(c:ByteArray)(d:Zt15):Option Zt8:=
 z5r a b c d (fun a0 a1 a2 a3=>z5m a0 a1 a2 a3)
def z6r(a b:Int)(c:ByteArray)(d:Bool)(e:Zt15):Option Zt8:=
 z5q a b c d e (fun a0 a1 a2=>some (a0,a1,a2)) (fun a0 a1 a2 a3=>z6s a0 a1 a2 a3) (fun a0 a1 a2 a3=>z5m a0 a1 a2 a3)
def z5l(a b c:Int)(d:ByteArray)(e:Zt15):Option Zt8:=
 z3x a b c d e (fun a0 a1 a2 a3 a4=>z6r a0 a1 a2 a3 a4)
def z6q(a b c:Int)(d:ByteArray)(e:Zt15):Option Zt8:=
 z5p a b c d e (fun a0 a1 a2 a3 a4=>z5l a0 a1 a2 a3 a4)
def z6p(a b c d:Int)(e:ByteArray)(f:Bool)(g:Zt15):Option Zt8:=
 z5o a b c d e f g (fun a0 a1 a2=>some (a0,a1,a2)) (fun a0 a1 a2 a3 a4=>z6q a0 a1 a2 a3 a4) (fun a0 a1 a2 a3 a4=>z5l a0 a1 a2 a3 a4)
def z6o(a:Int)(b:ByteArray)(c d e:Int)(f:Zt15):Option Zt8:=
 z3w a b c d e f (fun a0 a1 a2 a3 a4 a5 a6=>z6p a0 a1 a2 a3 a4 a5 a6)
def z8t(a:Int)(b:ByteArray)(c d e:Int)(f:Zt15):Option Zt8:=
 z5n a b c d e f (fun a0 a1 a2=>some (a0,a1,a2)) (fun a0 a1 a2 a3 a4 a5=>z6o a0 a1 a2 a3 a4 a5)
def z8s(a:Int)(b:ByteArray)(c d e:Int)(f:Bool)(g:Zt15):Option Zt8:=
 z4s a b c d e f g (fun a0 a1 a2 a3 a4 a5=>z8t a0 a1 a2 a3 a4 a5)
def z8r(a:Int)(b:ByteArray)(c d e:Int)(f:Zt15):Option Zt8:=
 z4r a b c d e f (fun a0 a1 a2 a3 a4 a5 a6=>z8s a0 a1 a2 a3 a4 a5 a6)
def z8q(a:Int)(b:ByteArray)(c d e:Int)(f:Bool)(g:Zt15):Option Zt8:=
 z4q a b c d e f g (fun a0 a1 a2 a3 a4 a5=>z8r a0 a1 a2 a3 a4 a5)
def z3l(a:Int)(b:ByteArray)(c d:Int)(e:Zt15):Option Zt8:=
 z4p a b c d e (fun a0 a1 a2 a3 a4 a5 a6=>z8q a0 a1 a2 a3 a4 a5 a6)
def zzf(a:Int)(b:ByteArray)(c d:Int)(e:Zt15):Option Zt8:=
 zku a b c d e (fun a0 a1 a2 a3 a4=>z3l a0 a1 a2 a3 a4)
def zze(a:Int)(b:ByteArray)(c d:Int)(e:Bool)(f:Zt15):Option Zt8:=
 zkt a b c d e f (fun a0 a1 a2=>some (a0,a1,a2)) (fun a0 a1 a2 a3 a4=>zzf a0 a1 a2 a3 a4)
def zzd(a:Int)(b:ByteArray)(c d:Int)(e:Zt15):Option Zt8:=
 z8v a b c d e (fun a0 a1 a2 a3 a4 a5=>zze a0 a1 a2 a3 a4 a5)
def zkq(a:Int)(b:ByteArray)(c:Int)(d:Zt15):Option Zt8:=
 zks a b c d (fun a0 a1 a2=>some (a0,a1,a2)) (fun a0 a1 a2 a3 a4=>zzd a0 a1 a2 a3 a4) (fun a0 a1 a2 a3 a4=>z3l a0 a1 a2 a3 a4)
def zzc(a:Int)(b:ByteArray)(c:Int)(d:Bool)(e:Zt15):Option Zt8:=
 zkr a b c d e (fun a0 a1 a2=>some (a0,a1,a2)) (fun a0 a1 a2 a3=>zkq a0 a1 a2 a3)
def Q103(a:Int)(b:Zt15)(c:ByteArray)(d:Int):Option Zt8:=
 z8u a b c d (fun a0 a1 a2 a3 a4=>zzc a0 a1 a2 a3 a4)
def zkw{R:Type}(a b:Int)(c:ByteArray)(d:ByteArray→Option R):Option R:=
 bif a=2 then bif b=1 then(Q78 c).bind fun r1=>d r1.1 else bif a=1 then bif 5≤b then(Q75 c).bind fun r2=>d r2 else d c else d c else bif a=1 then bif 5≤b then(Q75 c).bind fun r3=>d r3 else d c else d c
def Q105(a b:Int)(c:ByteArray):Option ByteArray:=
 zkw a b c (fun a0=>some a0)
def zkv{R:Type}(a:Int)(b:Zt15)(c:ByteArray)(d:ByteArray→Int→Option R):Option R:=
 bif !decide (a=1) then bif !decide (a=2) then d (bs []) 1 else(Q101 b c).bind fun r1=>bif !decide (r1=0) then d (bs []) r1 else bif !decide (b.2.2.1=1) then(Q93 a b.2.2.1 (c.size:Int)).bind fun r2=>(Q105 a b.2.1 c).bind fun r3=>bif r2.1.size+r3.size≤9223372036854775807 then d (r2.1++r3) 0 else none else(Q105 a b.2.1 c).bind fun r4=>bif(bs []).size+r4.size≤9223372036854775807 then d (bs []++r4) 0 else none else(Q101 b c).bind fun r5=>bif !decide (r5=0) then d (bs []) r5 else bif !decide (b.2.2.1=1) then(Q93 a b.2.2.1 (c.size:Int)).bind fun r6=>(Q105 a b.2.1 c).bind fun r7=>bif r6.1.size+r7.size≤9223372036854775807 then d (r6.1++r7) 0 else none else(Q105 a b.2.1 c).bind fun r8=>bif(bs []).size+r8.size≤9223372036854775807 then d (bs []++r8) 0 else none
def Q104(a:Int)(b:Zt15)(c:ByteArray):Option Zt2:=
 zkv a b c (fun a0 a1=>some (a0,a1))
end Groat

namespace Groat
open Go.IntKind renaming wrap→zW,i64→zI,u8→zU
open Go Go.Ref
def zl0{R:Type}(a:Zt20)(b:Zt20→Option R):Option R:=
 bif(List.length ([]:List Zt15)+List.length a.2.2.1)*40≤140737488355328 then b (a.1,a.2.1,[]++a.2.2.1,()) else none
def Q107(a:Zt20):Option Zt20:=
 zl0 a (fun a0=>some a0)
def z8w{R:Type}(a:Zt20)(b:Int→Int→Option R)(c:Int→Int→Zt20→Option R):Option R:=
 bif !decide (a.1=1) then bif !decide (a.1=2) then b 1 (-1:Int) else bif a.2.1<0 then b 7 (-1:Int) else bif 9<a.2.1 then b 7 (-1:Int) else c 0 0 a else bif a.2.1<0 then b 7 (-1:Int) else bif 9<a.2.1 then b 7 (-1:Int) else c 0 0 a
theorem z18j{R S:Type}(F:R→Option S)(a)(b)(c):(z8w a b c).bind F=z8w a (fun a0 a1=>(b a0 a1).bind F) (fun a0 a1 a2=>(c a0 a1 a2).bind F):=by
 simp only[z8w,nn_]
def zbh{R:Type}(a b:Int)(c:Zt20)(d:Int→Int→Option R)(e:Int→Int→Zt20→Option R)(f:Option R):Option R:=
 bif b<((List.length c.2.2.1):Int) then zd b (List.length c.2.2.1) ((Q100 (List.getD c.2.2.1 b.toNat (0,0,0,0,0,()))).bind fun r1=>bif !decide (r1=0) then d r1 b else zd b (List.length c.2.2.1) (bif(List.getD c.2.2.1 b.toNat (0,0,0,0,0,())).1≤a then d 11 b else zd b (List.length c.2.2.1) (e (List.getD c.2.2.1 b.toNat (0,0,0,0,0,())).1 (zW zI (b+1)) c))) else f
def zky{R:Type}(a b:Int)(c:Int→Int→Option R):Option R:=
 c a b
def zkz{R:Type}(a:Int→Int→Option R):Option R:=
 a 0 0
def z4t:Nat→Int→Int→Zt20→Option (Sum (Int×Int) Unit)
 |0,_,_,_=>none
 |k+1,v0,v1,v2=>zbh v0 v1 v2 (fun a0 a1=>some (.inl (a0,a1))) (fun a0 a1 a2=>z4t k a0 a1 a2) (some (.inr ()))
def Q106(a:Zt20):Option (Int×Int):=
 z8w a (fun a0 a1=>some (a0,a1)) (fun a0 a1 a2=>(z4t FUEL a0 a1 a2).bind fun e=>Sum.elim (fun(we:(Int×Int))=>zky we.1 we.2 (fun a0 a1=>some (a0,a1))) (fun(we:Unit)=>zkz (fun a0 a1=>some (a0,a1))) e)
def zl3{R:Type}(a:Zt20)(b:Bool→Option R):Option R:=
 (Q106 a).bind fun r1=>b (decide (r1.1=0))
def Q109(a:Zt20):Option Bool:=
 zl3 a (fun a0=>some a0)
def zl2{R:Type}(a:Zt20)(b:Int)(c:Int→Int→Zt20→Option R):Option R:=
 c b 0 a
def zzi{R:Type}(a b:Int)(c:Zt20)(d:Int→Option R)(e:Int→Int→Zt20→Option R)(f:Option R):Option R:=
 bif b<((List.length c.2.2.1):Int) then zd b (List.length c.2.2.1) (bif(List.getD c.2.2.1 b.toNat (0,0,0,0,0,())).1=a then d b else e a (zW zI (b+1)) c) else f
def zzj{R:Type}(a:Int)(b:Int→Option R):Option R:=
 b a
def zzk{R:Type}(a:Int→Option R):Option R:=
 a (-1:Int)
def zbi:Nat→Int→Int→Zt20→Option (Sum Int Unit)
 |0,_,_,_=>none
 |k+1,v0,v1,v2=>zzi v0 v1 v2 (fun a0=>some (.inl a0)) (fun a0 a1 a2=>zbi k a0 a1 a2) (some (.inr ()))
def Q108(a:Zt20)(b:Int):Option Int:=
 zl2 a b (fun a0 a1 a2=>(zbi FUEL a0 a1 a2).bind fun e=>Sum.elim (fun(we:Int)=>zzj we (fun a0=>some a0)) (fun(we:Unit)=>zzk (fun a0=>some a0)) e)
end Groat

namespace Groat
open Go.IntKind renaming wrap→zW,i64→zI,u8→zU
open Go Go.Ref
def zlc{R:Type}(a:Zt19)(b:Int)(c:Int→Int→Zt19→Option R):Option R:=
 c b 0 a
def zld{R:Type}(a b:Int)(c:Zt19)(d:Int→Option R)(e:Int→Int→Zt19→Option R)(f:Option R):Option R:=
 bif b<((List.length c.2.1):Int) then zd b (List.length c.2.1) (bif(List.getD c.2.1 b.toNat (0,bs [],())).1=a then d b else e a (zW zI (b+1)) c) else f
def zzu{R:Type}(a:Int)(b:Int→Option R):Option R:=
 b a
def zzv{R:Type}(a:Int→Option R):Option R:=
 a (-1:Int)
def z6u:Nat→Int→Int→Zt19→Option (Sum Int Unit)
 |0,_,_,_=>none
 |k+1,v0,v1,v2=>zld v0 v1 v2 (fun a0=>some (.inl a0)) (fun a0 a1 a2=>z6u k a0 a1 a2) (some (.inr ()))
def Q118(a:Zt19)(b:Int):Option Int:=
 zlc a b (fun a0 a1 a2=>(z6u FUEL a0 a1 a2).bind fun e=>Sum.elim (fun(we:Int)=>zzu we (fun a0=>some a0)) (fun(we:Unit)=>zzv (fun a0=>some a0)) e)
def zlk{R:Type}(a:Zt19)(b:Int)(c:Int→Int→Zt19→Zt19→Zt19→Option R):Option R:=
 c b 0 a (bs [],[],()) (a.1,[],())
def zbm{R:Type}(a b:Int)(c d e:Zt19)(f:Int→Int→Zt19→Zt19→Zt19→Option R)(g:Zt19→Zt19→Option R):Option R:=
 bif b<((List.length c.2.1):Int) then zd b (List.length c.2.1) (bif !decide ((List.getD c.2.1 b.toNat (0,bs [],())).1=a) then zd b (List.length c.2.1) (bif(List.length e.2.1+List.length ([(List.getD c.2.1 b.toNat ((0:Int),bs [],()))]:List Zt9))*24≤140737488355328 then f a (zW zI (b+1)) c d (e.1,e.2.1++([(List.getD c.2.1 b.toNat (0,bs [],()))]:List Zt9),()) else none) else f a (zW zI (b+1)) c d e) else g d e
def zzy{R:Type}(a b:Zt19)(c:Zt19→Option R):Option R:=
 c b
def z4v:Nat→Int→Int→Zt19→Zt19→Zt19→Option (Zt19×Zt19)
 |0,_,_,_,_,_=>none
 |k+1,v0,v1,v2,v3,v4=>zbm v0 v1 v2 v3 v4 (fun a0 a1 a2 a3 a4=>z4v k a0 a1 a2 a3 a4) (fun a0 a1=>some (a0,a1))
def Q121(a:Zt19)(b:Int):Option Zt19:=
 zlk a b (fun a0 a1 a2 a3 a4=>(z4v FUEL a0 a1 a2 a3 a4).bind fun e=>zzy e.1 e.2 (fun a0=>some a0))
def zlh{R:Type}(a:Zt19)(b:Int)(c:ByteArray)(d:Int→ByteArray→Bool→Int→Zt19→Zt19→Zt19→Option R):Option R:=
 (Q121 a b).bind fun r1=>d b c false 0 (bs [],[],()) (a.1,[],()) r1
def zbl{R:Type}(a:Int)(b:ByteArray)(c:Bool)(d:Int)(e f g:Zt19)(h:Int→ByteArray→Bool→Int→Zt19→Zt19→Zt19→Option R)(i:Int→ByteArray→Bool→Zt19→Zt19→Option R):Option R:=
 bif d<((List.length g.2.1):Int) then bif !c then zd d (List.length g.2.1) (bif a<(List.getD g.2.1 d.toNat (0,bs [],())).1 then bif(List.length f.2.1+List.length ([(a,b,())]:List Zt9))*24≤140737488355328 then zd d (List.length g.2.1) (bif(List.length (f.2.1++([(a,b,())]:List Zt9))+List.length ([(List.getD g.2.1 d.toNat ((0:Int),bs [],()))]:List Zt9))*24≤140737488355328 then h a b true (zW zI (d+1)) e (f.1,(f.2.1++([(a,b,())]:List Zt9))++([(List.getD g.2.1 d.toNat (0,bs [],()))]:List Zt9),()) g else none) else none else zd d (List.length g.2.1) (bif(List.length f.2.1+List.length ([(List.getD g.2.1 d.toNat ((0:Int),bs [],()))]:List Zt9))*24≤140737488355328 then h a b c (zW zI (d+1)) e (f.1,f.2.1++([(List.getD g.2.1 d.toNat (0,bs [],()))]:List Zt9),()) g else none)) else zd d (List.length g.2.1) (bif(List.length f.2.1+List.length ([(List.getD g.2.1 d.toNat ((0:Int),bs [],()))]:List Zt9))*24≤140737488355328 then h a b c (zW zI (d+1)) e (f.1,f.2.1++([(List.getD g.2.1 d.toNat (0,bs [],()))]:List Zt9),()) g else none) else i a b c e f
def zli{R:Type}(a:Int)(b:ByteArray)(c:Bool)(d e:Zt19)(f:Zt19→Option R):Option R:=
 bif !c then bif(List.length e.2.1+List.length ([(a,b,())]:List Zt9))*24≤140737488355328 then f (e.1,e.2.1++([(a,b,())]:List Zt9),()) else none else f e
def z4u:Nat→Int→ByteArray→Bool→Int→Zt19→Zt19→Zt19→Option (Int×ByteArray×Bool×Zt19×Zt19)
 |0,_,_,_,_,_,_,_=>none
 |k+1,v0,v1,v2,v3,v4,v5,v6=>zbl v0 v1 v2 v3 v4 v5 v6 (fun a0 a1 a2 a3 a4 a5 a6=>z4u k a0 a1 a2 a3 a4 a5 a6) (fun a0 a1 a2 a3 a4=>some (a0,a1,a2,a3,a4))
def Q120(a:Zt19)(b:Int)(c:ByteArray):Option Zt19:=
 zlh a b c (fun a0 a1 a2 a3 a4 a5 a6=>(z4u FUEL a0 a1 a2 a3 a4 a5 a6).bind fun e=>zli e.1 e.2.1 e.2.2.1 e.2.2.2.1 e.2.2.2.2 (fun a0=>some a0))
def zlf{R:Type}(a:Zt19)(b:(List Int)→Int→Zt19→Option R):Option R:=
 b [] 0 a
def zzw{R:Type}(a:(List Int))(b:Int)(c:Zt19)(d:(List Int)→Int→Zt19→Option R)(e:(List Int)→Option R):Option R:=
 bif b<((List.length c.2.1):Int) then zd b (List.length c.2.1) (bif(List.length a+List.length ([(List.getD c.2.1 b.toNat ((0:Int),bs [],())).1]:List Int))*8≤140737488355328 then d (a++([(List.getD c.2.1 b.toNat (0,bs [],())).1]:List Int)) (zW zI (b+1)) c else none) else e a
def zzx{R:Type}(a:(List Int))(b:(List Int)→Option R):Option R:=
 b a
def zbk:Nat→(List Int)→Int→Zt19→Option (List Int)
 |0,_,_,_=>none
 |k+1,v0,v1,v2=>zzw v0 v1 v2 (fun a0 a1 a2=>zbk k a0 a1 a2) (fun a0=>some a0)
def Q119(a:Zt19):Option (List Int):=
 zlf a (fun a0 a1 a2=>(zbk FUEL a0 a1 a2).bind fun e=>zzx e (fun a0=>some a0))
def zla{R:Type}(a:Zt20)(b:Zt19)(c:Zt6→Option R)(d:Int→Int→Zt20→Zt19→Zt6→Option R):Option R:=
 (Q109 a).bind fun r1=>bif !r1 then c (1,(-1:Int),()) else(Q116 b.1).bind fun r2=>bif !r2 then c (7,0,()) else zd 0 b.1.size (bif !decide (zW zI (zW zI (ze b.1 ((0:Int)).toNat)-48)=a.2.1) then c (7,0,()) else d 0 0 a b (0,0,()))
def zbj{R:Type}(a b:Int)(c:Zt20)(d:Zt19)(e:Zt6)(f:Zt6→Option R)(g:Int→Int→Zt20→Zt19→Zt6→Option R)(h:Zt6→Option R):Option R:=
 bif b<((List.length d.2.1):Int) then zd b (List.length d.2.1) (bif(List.getD d.2.1 b.toNat (0,bs [],())).1≤a then f (11,(List.getD d.2.1 b.toNat (0,bs [],())).1,()) else(Q108 c (List.getD d.2.1 b.toNat (0,bs [],())).1).bind fun r3=>bif r3<0 then f (9,(List.getD d.2.1 b.toNat (0,bs [],())).1,()) else zd r3 (List.length c.2.2.1) (zd b (List.length d.2.1) ((Q101 (List.getD c.2.2.1 r3.toNat (0,0,0,0,0,())) (List.getD d.2.1 b.toNat (0,bs [],())).2.1).bind fun r4=>bif !decide (r4=0) then f (r4,(List.getD d.2.1 b.toNat (0,bs [],())).1,()) else g (List.getD d.2.1 b.toNat (0,bs [],())).1 (zW zI (b+1)) c d e))) else h e
def zzr{R:Type}(a:Zt6)(b:Zt6→Option R):Option R:=
 b a
def zzs{R:Type}(a:Zt6)(b:Zt6→Option R):Option R:=
 b (0,0,())
def z48:Nat→Int→Int→Zt20→Zt19→Zt6→Option (Sum Zt6 Zt6)
 |0,_,_,_,_,_=>none
 |k+1,v0,v1,v2,v3,v4=>zbj v0 v1 v2 v3 v4 (fun a0=>some (.inl a0)) (fun a0 a1 a2 a3 a4=>z48 k a0 a1 a2 a3 a4) (fun a0=>some (.inr a0))
def Q117(a:Zt20)(b:Zt19):Option Zt6:=
 zla a b (fun a0=>some a0) (fun a0 a1 a2 a3 a4=>(z48 FUEL a0 a1 a2 a3 a4).bind fun e=>Sum.elim (fun(we:Zt6)=>zzr we (fun a0=>some a0)) (fun(we:Zt6)=>zzs we (fun a0=>some a0)) e)
end Groat

namespace Groat
open Go.IntKind renaming wrap→zW,i64→zI,u8→zU
open Go Go.Ref
def zln{R:Type}(a:Int)(b:ByteArray)(c:ByteArray→Option R):Option R:=
 bif a=1 then c b else(Q78 b).bind fun r1=>c r1.1
def Q123(a:Int)(b:ByteArray):Option ByteArray:=
 zln a b (fun a0=>some a0)
def zlm{R:Type}(a:Zt20)(b:Zt19)(c:ByteArray→Int→Zt20→Zt19→Option R):Option R:=
 (Q119 b).bind fun r1=>(Q89 a.1 r1).bind fun r2=>(Q123 a.1 b.1).bind fun r3=>bif r3.size+r2.1.size≤9223372036854775807 then c (r3++r2.1) 0 a b else none
def zbn{R:Type}(a:ByteArray)(b:Int)(c:Zt20)(d:Zt19)(e:ByteArray→Int→Zt20→Zt19→Option R)(f:ByteArray→Option R):Option R:=
 bif b<((List.length d.2.1):Int) then zd b (List.length d.2.1) ((Q108 c (List.getD d.2.1 b.toNat (0,bs [],())).1).bind fun r4=>zd r4 (List.length c.2.2.1) (zd b (List.length d.2.1) ((Q104 c.1 (List.getD c.2.2.1 r4.toNat (0,0,0,0,0,())) (List.getD d.2.1 b.toNat (0,bs [],())).2.1).bind fun r5=>bif a.size+r5.1.size≤9223372036854775807 then e (a++r5.1) (zW zI (b+1)) c d else none))) else f a
def zzz{R:Type}(a:ByteArray)(b:ByteArray→Option R):Option R:=
 b a
def z4w:Nat→ByteArray→Int→Zt20→Zt19→Option ByteArray
 |0,_,_,_,_=>none
 |k+1,v0,v1,v2,v3=>zbn v0 v1 v2 v3 (fun a0 a1 a2 a3=>z4w k a0 a1 a2 a3) (fun a0=>some a0)
def Q122(a:Zt20)(b:Zt19):Option ByteArray:=
 zlm a b (fun a0 a1 a2 a3=>(z4w FUEL a0 a1 a2 a3).bind fun e=>zzz e (fun a0=>some a0))
end Groat

namespace Groat
open Go.IntKind renaming wrap→zW,i64→zI,u8→zU
open Go Go.Ref
def zzl{R:Type}(a:(List Int)→Option R):Option R:=
 a ([2,3,4,7,11,12,14,23,32,35,37,38,41,42,49,52,55,64,70,102,128]:List Int)
def Q111:Option (List Int):=
 zzl (fun a0=>some a0)
def zzp{R:Type}(a:Zt4→Option R):Option R:=
 a ([([2,1,2,12,19,1,2,12,19]:List Int),([3,1,1,6,6,1,1,6,6]:List Int),([4,1,1,12,12,1,1,12,12]:List Int),([7,1,1,10,10,1,1,10,10]:List Int),([11,1,1,6,6,1,1,6,6]:List Int),([12,1,1,6,6,1,1,12,12]:List Int),([13,1,1,4,4,0,0,0,0]:List Int),([14,1,1,4,4,1,1,4,4]:List Int),([18,1,1,4,4,0,0,0,0]:List Int),([22,1,1,3,3,3,1,12,12]:List Int),([23,1,1,3,3,1,1,3,3]:List Int),([26,0,0,0,0,1,1,4,4]:List Int),([32,1,2,1,11,1,2,1,11]:List Int),([35,4,2,1,37,4,2,1,37]:List Int),([37,3,1,12,12,3,1,12,12]:List Int),([38,3,1,6,6,3,1,6,6]:List Int),([39,3,1,2,2,1,1,3,3]:List Int),([41,4,1,8,8,4,1,8,8]:List Int),([42,4,1,15,15,4,1,15,15]:List Int),([43,4,1,40,40,4,2,1,99]:List Int),([48,4,3,1,999,4,3,1,999]:List Int),([49,1,1,3,3,1,1,3,3]:List Int),([52,5,1,8,8,5,1,8,8]:List Int),([55,6,3,1,255,6,3,1,255]:List Int),([64,5,1,8,8,5,1,8,8]:List Int),([70,1,1,3,3,1,1,3,3]:List Int),([90,1,1,42,42,0,0,0,0]:List Int),([102,4,2,1,28,4,2,1,28]:List Int),([128,5,1,8,8,5,1,8,8]:List Int)]:List (List Int))
def Q113:Option Zt4:=
 zzp (fun a0=>some a0)
def zzm{R:Type}(a:Int)(b:Int→Zt4→Int→Zt20→Zt20→Option R):Option R:=
 Q113.bind fun r1=>b a r1 0 (0,0,[],()) (zW zI (a+1),a,[],())
def zzn{R:Type}(a:Int)(b:Zt4)(c:Int)(d e:Zt20)(f:Int→Zt4→Int→Zt20→Zt20→Option R)(g:Zt20→Zt20→Option R):Option R:=
 bif c<((List.length b):Int) then zd c (List.length b) (bif 0≤zW zI (5+zW zI (4*a)) then bif zW zI (5+zW zI (4*a))≤(((List.length (List.getD b c.toNat ([]:List Int))):Nat):Int) then bif 0≤zW zI (1+zW zI (4*a)) then bif zW zI (1+zW zI (4*a))≤(((zW zI (5+zW zI (4*a))).toNat:Nat):Int) then zd 0 (List.length (List.drop (zW zI ((1:Int)+zW zI ((4:Int)*a))).toNat (List.take (zW zI ((5:Int)+zW zI ((4:Int)*a))).toNat (List.getD b c.toNat ([]:List Int))))) (bif 0<List.getD (List.drop (zW zI (1+zW zI (4*a))).toNat (List.take (zW zI (5+zW zI (4*a))).toNat (List.getD b c.toNat []))) ((0:Int)).toNat 0 then zd c (List.length b) (zd 0 (List.length (List.getD b c.toNat ([]:List Int))) (zd 0 (List.length (List.drop (zW zI ((1:Int)+zW zI ((4:Int)*a))).toNat (List.take (zW zI ((5:Int)+zW zI ((4:Int)*a))).toNat (List.getD b c.toNat ([]:List Int))))) (zd 1 (List.length (List.drop (zW zI ((1:Int)+zW zI ((4:Int)*a))).toNat (List.take (zW zI ((5:Int)+zW zI ((4:Int)*a))).toNat (List.getD b c.toNat ([]:List Int))))) (zd 2 (List.length (List.drop (zW zI ((1:Int)+zW zI ((4:Int)*a))).toNat (List.take (zW zI ((5:Int)+zW zI ((4:Int)*a))).toNat (List.getD b c.toNat ([]:List Int))))) (zd 3 (List.length (List.drop (zW zI ((1:Int)+zW zI ((4:Int)*a))).toNat (List.take (zW zI ((5:Int)+zW zI ((4:Int)*a))).toNat (List.getD b c.toNat ([]:List Int))))) (bif(List.length e.2.2.1+List.length ([(List.getD (List.getD b c.toNat ([]:List Int)) ((0:Int)).toNat (0:Int),List.getD (List.drop (zW zI ((1:Int)+zW zI ((4:Int)*a))).toNat (List.take (zW zI ((5:Int)+zW zI ((4:Int)*a))).toNat (List.getD b c.toNat ([]:List Int)))) ((0:Int)).toNat (0:Int),List.getD (List.drop (zW zI ((1:Int)+zW zI ((4:Int)*a))).toNat (List.take (zW zI ((5:Int)+zW zI ((4:Int)*a))).toNat (List.getD b c.toNat ([]:List Int)))) ((1:Int)).toNat (0:Int),List.getD (List.drop (zW zI ((1:Int)+zW zI ((4:Int)*a))).toNat (List.take (zW zI ((5:Int)+zW zI ((4:Int)*a))).toNat (List.getD b c.toNat ([]:List Int)))) ((2:Int)).toNat (0:Int),List.getD (List.drop (zW zI ((1:Int)+zW zI ((4:Int)*a))).toNat (List.take (zW zI ((5:Int)+zW zI ((4:Int)*a))).toNat (List.getD b c.toNat ([]:List Int)))) ((3:Int)).toNat (0:Int),())]:List Zt15))*40≤140737488355328 then f a b (zW zI (c+1)) d (e.1,e.2.1,e.2.2.1++([(List.getD (List.getD b c.toNat []) ((0:Int)).toNat 0,List.getD (List.drop (zW zI (1+zW zI (4*a))).toNat (List.take (zW zI (5+zW zI (4*a))).toNat (List.getD b c.toNat []))) ((0:Int)).toNat 0,List.getD (List.drop (zW zI (1+zW zI (4*a))).toNat (List.take (zW zI (5+zW zI (4*a))).toNat (List.getD b c.toNat []))) ((1:Int)).toNat 0,List.getD (List.drop (zW zI (1+zW zI (4*a))).toNat (List.take (zW zI (5+zW zI (4*a))).toNat (List.getD b c.toNat []))) ((2:Int)).toNat 0,List.getD (List.drop (zW zI (1+zW zI (4*a))).toNat (List.take (zW zI (5+zW zI (4*a))).toNat (List.getD b c.toNat []))) ((3:Int)).toNat 0,())]:List Zt15),()) else none)))))) else f a b (zW zI (c+1)) d e) else none else none else none else none) else g d e
def zzo{R:Type}(a b:Zt20)(c:Zt20→Option R):Option R:=
 c b
def zl5:Nat→Int→Zt4→Int→Zt20→Zt20→Option (Zt20×Zt20)
 |0,_,_,_,_,_=>none
 |k+1,v0,v1,v2,v3,v4=>zzn v0 v1 v2 v3 v4 (fun a0 a1 a2 a3 a4=>zl5 k a0 a1 a2 a3 a4) (fun a0 a1=>some (a0,a1))
def Q112(a:Int):Option Zt20:=
 zzm a (fun a0 a1 a2 a3 a4=>(zl5 FUEL a0 a1 a2 a3 a4).bind fun e=>zzo e.1 e.2 (fun a0=>some a0))
end Groat

namespace Groat
open Go.IntKind renaming wrap→zW,i64→zI,u8→zU
open Go Go.Ref
def z8x{R:Type}(a:Zt20)(b:ByteArray)(c:Zt19→Zt6→Option R)(d:ByteArray→(List Int)→Int→Int→Zt20→Zt19→Zt6→Zt19→Option R):Option R:=
 (Q109 a).bind fun r1=>bif !r1 then c (bs [],[],()) (1,(-1:Int),()) else bif a.1=2 then bif(b.size:Int)<2 then c (bs [],[],()) (2,0,()) else bif 2≤(b.size:Int) then bif a.1=2 then(Q77 (b.extract 0 ((2:Int)).toNat) (4:Int)).bind fun r2=>(Q116 r2.1).bind fun r3=>bif !r3 then c (bs [],[],()) (7,0,()) else zd 0 r2.1.size (bif !decide (zW zI (zW zI (ze r2.1 ((0:Int)).toNat)-48)=a.2.1) then c (bs [],[],()) (7,0,()) else(Q88 a.1 b (2:Int)).bind fun r4=>bif !decide (r4.2.2=0) then c (r2.1,[],()) (r4.2.2,1,()) else d b r4.1 r4.2.1 0 a (bs [],[],()) (0,0,()) (r2.1,[],())) else(Q116 (b.extract 0 ((2:Int)).toNat)).bind fun r5=>bif !r5 then c (bs [],[],()) (7,0,()) else zd 0 (b.extract 0 ((2:Int)).toNat).size (bif !decide (zW zI (zW zI (ze (b.extract 0 ((2:Int)).toNat) ((0:Int)).toNat)-48)=a.2.1) then c (bs [],[],()) (7,0,()) else(Q88 a.1 b (2:Int)).bind fun r6=>bif !decide (r6.2.2=0) then c (b.extract 0 ((2:Int)).toNat,[],()) (r6.2.2,1,()) else d b r6.1 r6.2.1 0 a (bs [],[],()) (0,0,()) (b.extract 0 ((2:Int)).toNat,[],())) else none else bif(b.size:Int)<4 then c (bs [],[],()) (2,0,()) else bif 4≤(b.size:Int) then bif a.1=2 then(Q77 (b.extract 0 ((4:Int)).toNat) (4:Int)).bind fun r7=>(Q116 r7.1).bind fun r8=>bif !r8 then c (bs [],[],()) (7,0,()) else zd 0 r7.1.size (bif !decide (zW zI (zW zI (ze r7.1 ((0:Int)).toNat)-48)=a.2.1) then c (bs [],[],()) (7,0,()) else(Q88 a.1 b (4:Int)).bind fun r9=>bif !decide (r9.2.2=0) then c (r7.1,[],()) (r9.2.2,1,()) else d b r9.1 r9.2.1 0 a (bs [],[],()) (0,0,()) (r7.1,[],())) else(Q116 (b.extract 0 ((4:Int)).toNat)).bind fun r10=>bif !r10 then c (bs [],[],()) (7,0,()) else zd 0 (b.extract 0 ((4:Int)).toNat).size (bif !decide (zW zI (zW zI (ze (b.extract 0 ((4:Int)).toNat) ((0:Int)).toNat)-48)=a.2.1) then c (bs [],[],()) (7,0,()) else(Q88 a.1 b (4:Int)).bind fun r11=>bif !decide (r11.2.2=0) then c (b.extract 0 ((4:Int)).toNat,[],()) (r11.2.2,1,()) else d b r11.1 r11.2.1 0 a (bs [],[],()) (0,0,()) (b.extract 0 ((4:Int)).toNat,[],())) else none
theorem z18k{R S:Type}(F:R→Option S)(a)(b)(c)(d):(z8x a b c d).bind F=z8x a b (fun a0 a1=>(c a0 a1).bind F) (fun a0 a1 a2 a3 a4 a5 a6 a7=>(d a0 a1 a2 a3 a4 a5 a6 a7).bind F):=by
 simp only[z8x,nn_]
def zbo{R:Type}(a:ByteArray)(b:(List Int))(c d:Int)(e:Zt20)(f:Zt19)(g:Zt6)(h:Zt19)(i:ByteArray→Int→Zt19→Zt6→Zt19→Option R)(j:ByteArray→(List Int)→Int→Int→Zt20→Zt19→Zt6→Zt19→Option R)(l:ByteArray→Int→Zt19→Zt6→Zt19→Option R):Option R:=
 bif d<((List.length b):Int) then zd d (List.length b) ((Q108 e (List.getD b d.toNat (0:Int))).bind fun r12=>bif r12<0 then zd d (List.length b) (i a c h (9,List.getD b d.toNat 0,()) h) else zd r12 (List.length e.2.2.1) ((Q103 e.1 (List.getD e.2.2.1 r12.toNat (0,0,0,0,0,())) a c).bind fun r13=>bif !decide (r13.2.2=0) then zd d (List.length b) (i a c h (r13.2.2,List.getD b d.toNat 0,()) h) else zd d (List.length b) (bif(List.length h.2.1+List.length ([(List.getD b d.toNat (0:Int),r13.1,())]:List Zt9))*24≤140737488355328 then j a b r13.2.1 (zW zI (d+1)) e f g (h.1,h.2.1++([(List.getD b d.toNat 0,r13.1,())]:List Zt9),()) else none))) else l a c f g h
def z101{R:Type}(a:ByteArray)(b:Int)(c:Zt19)(d:Zt6)(e:Zt19)(f:Zt19→Zt6→Option R):Option R:=
 f c d
def z102{R:Type}(a:ByteArray)(b:Int)(c:Zt19)(d:Zt6)(e:Zt19)(f:Zt19→Zt6→Option R):Option R:=
 bif b<(a.size:Int) then f e (12,129,()) else f e (0,0,())
def z5w:Nat→ByteArray→(List Int)→Int→Int→Zt20→Zt19→Zt6→Zt19→Option (Sum Zt27 Zt27)
 |0,_,_,_,_,_,_,_,_=>none
 |k+1,v0,v1,v2,v3,v4,v5,v6,v7=>zbo v0 v1 v2 v3 v4 v5 v6 v7 (fun a0 a1 a2 a3 a4=>some (.inl (a0,a1,a2,a3,a4))) (fun a0 a1 a2 a3 a4 a5 a6 a7=>z5w k a0 a1 a2 a3 a4 a5 a6 a7) (fun a0 a1 a2 a3 a4=>some (.inr (a0,a1,a2,a3,a4)))
def Q124(a:Zt20)(b:ByteArray):Option (Zt19×Zt6):=
 z8x a b (fun a0 a1=>some (a0,a1)) (fun a0 a1 a2 a3 a4 a5 a6 a7=>(z5w FUEL a0 a1 a2 a3 a4 a5 a6 a7).bind fun e=>Sum.elim (fun(we:Zt27)=>z101 we.1 we.2.1 we.2.2.1 we.2.2.2.1 we.2.2.2.2 (fun a0 a1=>some (a0,a1))) (fun(we:Zt27)=>z102 we.1 we.2.1 we.2.2.1 we.2.2.2.1 we.2.2.2.2 (fun a0 a1=>some (a0,a1))) e)
end Groat

namespace Groat
open Go.IntKind renaming wrap→zW,i64→zI,u8→zU
open Go Go.Ref
def z106{R:Type}(a:Zt16)(b:Zt16→Zt16→Int→Option R):Option R:=
 b a [] 0
def z107{R:Type}(a b:Zt16)(c:Int)(d:Zt16→Zt16→Int→Option R)(e:Zt16→Option R):Option R:=
 bif c<((List.length a):Int) then zd c (List.length a) (zd c (List.length a) (bif(List.length b+List.length ([((List.getD a c.toNat (bs [],bs [],())).2.1,(List.getD a c.toNat (bs [],bs [],())).1,())]:List Zt11))*32≤140737488355328 then d a (b++([((List.getD a c.toNat (bs [],bs [],())).2.1,(List.getD a c.toNat (bs [],bs [],())).1,())]:List Zt11)) (zW zI (c+1)) else none)) else e b
def z108{R:Type}(a:Zt16)(b:Zt16→Option R):Option R:=
 b a
def zlu:Nat→Zt16→Zt16→Int→Option Zt16
 |0,_,_,_=>none
 |k+1,v0,v1,v2=>z107 v0 v1 v2 (fun a0 a1 a2=>zlu k a0 a1 a2) (fun a0=>some a0)
def Q129(a:Zt16):Option Zt16:=
 z106 a (fun a0 a1 a2=>(zlu FUEL a0 a1 a2).bind fun e=>z108 e (fun a0=>some a0))
def zls{R:Type}(a:Zt16)(b:Zt16→Option R):Option R:=
 bif(List.length ([]:List Zt11)+List.length a)*32≤140737488355328 then b ([]++a) else none
def Q127(a:Zt16):Option Zt16:=
 zls a (fun a0=>some a0)
def zlw{R:Type}(a:Zt16)(b:Int)(c:ByteArray)(d:Zt16→Int→ByteArray→Int→Option R):Option R:=
 d a b c 0
def zbq{R:Type}(a:Zt16)(b:Int)(c:ByteArray)(d:Int)(e:Int→Option R)(f:Zt16→Int→ByteArray→Int→Option R)(g:Option R):Option R:=
 bif d<b then zd d (List.length a) (bif(List.getD a d.toNat (bs [],bs [],())).1=c then e d else f a b c (zW zI (d+1))) else g
def z10b{R:Type}(a:Int)(b:Int→Option R):Option R:=
 b a
def z10c{R:Type}(a:Int→Option R):Option R:=
 a (-1:Int)
def z6w:Nat→Zt16→Int→ByteArray→Int→Option (Sum Int Unit)
 |0,_,_,_,_=>none
 |k+1,v0,v1,v2,v3=>zbq v0 v1 v2 v3 (fun a0=>some (.inl a0)) (fun a0 a1 a2 a3=>z6w k a0 a1 a2 a3) (some (.inr ()))
def Q130(a:Zt16)(b:Int)(c:ByteArray):Option Int:=
 zlw a b c (fun a0 a1 a2 a3=>(z6w FUEL a0 a1 a2 a3).bind fun e=>Sum.elim (fun(we:Int)=>z10b we (fun a0=>some a0)) (fun(we:Unit)=>z10c (fun a0=>some a0)) e)
def zlp{R:Type}(a:Zt16)(b:ByteArray)(c:ByteArray→Bool→Option R):Option R:=
 (Q130 a ((List.length a):Int) b).bind fun r1=>bif r1<0 then c (bs []) false else zd r1 (List.length a) (c (List.getD a r1.toNat (bs [],bs [],())).2.1 true)
def Q125(a:Zt16)(b:ByteArray):Option Zt5:=
 zlp a b (fun a0 a1=>some (a0,a1))
def zlr{R:Type}(a:Zt16)(b:Int→Int→Option R)(c:Zt16→Int→Option R):Option R:=
 bif 256<((List.length a):Int) then b 5 256 else c a 0
def zbp{R:Type}(a:Zt16)(b:Int)(c:Int→Int→Option R)(d:Zt16→Int→Option R)(e:Option R):Option R:=
 bif b<((List.length a):Int) then zd b (List.length a) ((Q130 a b (List.getD a b.toNat (bs [],bs [],())).1).bind fun r1=>bif 0≤r1 then c 10 b else d a (zW zI (b+1))) else e
def z104{R:Type}(a b:Int)(c:Int→Int→Option R):Option R:=
 c a b
def z105{R:Type}(a:Int→Int→Option R):Option R:=
 a 0 0
def z6v:Nat→Zt16→Int→Option (Sum (Int×Int) Unit)
 |0,_,_=>none
 |k+1,v0,v1=>zbp v0 v1 (fun a0 a1=>some (.inl (a0,a1))) (fun a0 a1=>z6v k a0 a1) (some (.inr ()))
def Q126(a:Zt16):Option (Int×Int):=
 zlr a (fun a0 a1=>some (a0,a1)) (fun a0 a1=>(z6v FUEL a0 a1).bind fun e=>Sum.elim (fun(we:(Int×Int))=>z104 we.1 we.2 (fun a0 a1=>some (a0,a1))) (fun(we:Unit)=>z105 (fun a0 a1=>some (a0,a1))) e)
end Groat

namespace Groat
open Go.IntKind renaming wrap→zW,i64→zI,u8→zU
open Go Go.Ref
def zm4{R:Type}(a:Zt22)(b:Bool→Option R)(c:Int→Zt22→Option R):Option R:=
 bif 1200<(a.2.2.2.1.size:Int) then b true else bif 300<((List.length a.2.2.2.2.1):Int) then b true else c 0 a
def zbt{R:Type}(a:Int)(b:Zt22)(c:Bool→Option R)(d:Int→Zt22→Option R)(e:Option R):Option R:=
 bif a<((List.length b.2.2.2.2.1):Int) then zd a (List.length b.2.2.2.2.1) (bif 1200<(((List.getD b.2.2.2.2.1 a.toNat (bs [],bs [],())).1).size:Int) then c true else zd a (List.length b.2.2.2.2.1) (bif 1200<(((List.getD b.2.2.2.2.1 a.toNat (bs [],bs [],())).2.1).size:Int) then c true else d (zW zI (a+1)) b)) else e
def z10o{R:Type}(a:Bool)(b:Bool→Option R):Option R:=
 b a
def z10p{R:Type}(a:Bool→Option R):Option R:=
 a false
def z4x:Nat→Int→Zt22→Option (Sum Bool Unit)
 |0,_,_=>none
 |k+1,v0,v1=>zbt v0 v1 (fun a0=>some (.inl a0)) (fun a0 a1=>z4x k a0 a1) (some (.inr ()))
def Q134(a:Zt22):Option Bool:=
 zm4 a (fun a0=>some a0) (fun a0 a1=>(z4x FUEL a0 a1).bind fun e=>Sum.elim (fun(we:Bool)=>z10o we (fun a0=>some a0)) (fun(we:Unit)=>z10p (fun a0=>some a0)) e)
def zm2{R:Type}(a:Zt22)(b:Zt22→Option R):Option R:=
 (Q127 a.2.2.2.2.1).bind fun r1=>b (a.1,a.2.1,a.2.2.1,a.2.2.2.1,r1,())
def Q133(a:Zt22):Option Zt22:=
 zm2 a (fun a0=>some a0)
def z8y{R:Type}(a:Zt22)(b c:Zt20)(d:Bool→Zt22→Zt20→Zt20→Option R):Option R:=
 bif a.1<1 then d true a b c else d (decide (5<a.1)) a b c
theorem z18q{R S:Type}(F:R→Option S)(a)(b)(c)(d):(z8y a b c d).bind F=z8y a b c (fun a0 a1 a2 a3=>(d a0 a1 a2 a3).bind F):=by
 simp only[z8y,nn_]
def z10i{R:Type}(a:Bool)(b:Zt22)(c d:Zt20)(e:Int→Option R)(f:Zt22→Zt20→Zt20→Option R):Option R:=
 bif a then e 1 else f b c d
def z8z{R:Type}(a:Zt22)(b c:Zt20)(d:Int→Int→Bool→Zt22→Zt20→Zt20→Option R):Option R:=
 (Q108 b a.2.1).bind fun r1=>(Q108 c a.2.2.1).bind fun r2=>bif a.1=3 then bif !decide (a.2.1=0) then d r1 r2 true a b c else bif !decide (a.1=3) then d r1 r2 (decide (r1<0)) a b c else d r1 r2 false a b c else bif !decide (a.1=3) then d r1 r2 (decide (r1<0)) a b c else d r1 r2 false a b c
theorem z18r{R S:Type}(F:R→Option S)(a)(b)(c)(d):(z8z a b c d).bind F=z8z a b c (fun a0 a1 a2 a3 a4 a5=>(d a0 a1 a2 a3 a4 a5).bind F):=by
 simp only[z8z,nn_]
def z10j{R:Type}(a b:Int)(c:Bool)(d:Zt22)(e f:Zt20)(g:Int→Option R)(h:Int→Int→Zt22→Zt20→Zt20→Option R):Option R:=
 bif c then g 9 else h a b d e f
def z90{R:Type}(a b:Int)(c:Zt22)(d e:Zt20)(f:Int→Int→Bool→Zt22→Zt20→Zt20→Option R):Option R:=
 bif c.1=2 then bif !decide (c.2.2.1=0) then f a b true c d e else bif !decide (c.1=2) then f a b (decide (b<0)) c d e else f a b false c d e else bif !decide (c.1=2) then f a b (decide (b<0)) c d e else f a b false c d e
theorem z18s{R S:Type}(F:R→Option S)(a)(b)(c)(d)(e)(f):(z90 a b c d e f).bind F=z90 a b c d e (fun a0 a1 a2 a3 a4 a5=>(f a0 a1 a2 a3 a4 a5).bind F):=by
 simp only[z90,nn_]
def z10k{R:Type}(a b:Int)(c:Bool)(d:Zt22)(e f:Zt20)(g:Int→Option R)(h:Int→Int→Zt22→Zt20→Zt20→Option R):Option R:=
 bif c then g 9 else h a b d e f
def z91{R:Type}(a b:Int)(c:Zt22)(d e:Zt20)(f:Int→Int→Bool→Zt22→Zt20→Zt20→Option R):Option R:=
 bif !decide (c.2.2.2.1=bs []) then bif !decide (c.1=3) then f a b true c d e else bif 0<((List.length c.2.2.2.2.1):Int) then f a b (!decide (c.1=5)) c d e else f a b false c d e else bif 0<((List.length c.2.2.2.2.1):Int) then f a b (!decide (c.1=5)) c d e else f a b false c d e
theorem z18t{R S:Type}(F:R→Option S)(a)(b)(c)(d)(e)(f):(z91 a b c d e f).bind F=z91 a b c d e (fun a0 a1 a2 a3 a4 a5=>(f a0 a1 a2 a3 a4 a5).bind F):=by
 simp only[z91,nn_]
def z10l{R:Type}(a b:Int)(c:Bool)(d:Zt22)(e f:Zt20)(g:Int→Option R)(h:Int→Int→Zt22→Zt20→Zt20→Option R):Option R:=
 bif c then g 3 else h a b d e f
def z92{R:Type}(a b:Int)(c:Zt22)(d e:Zt20)(f:Int→Option R)(g:Option R)(h:Bool→Option R)(i:Int→Int→Bool→Zt22→Zt20→Zt20→Option R):Option R:=
 bif c.1=1 then zd b (List.length e.2.2.1) (zd a (List.length d.2.2.1) ((Q102 (List.getD e.2.2.1 b.toNat (0,0,0,0,0,())) (List.getD d.2.2.1 a.toNat (0,0,0,0,0,()))).bind fun r3=>bif !r3 then f 6 else g)) else bif c.1=3 then zd b (List.length e.2.2.1) ((Q101 (List.getD e.2.2.1 b.toNat (0,0,0,0,0,())) c.2.2.2.1).bind fun r4=>f r4) else bif c.1=4 then zd a (List.length d.2.2.1) (zd b (List.length e.2.2.1) (bif !decide ((List.getD d.2.2.1 a.toNat (0,0,0,0,0,())).2.1=1) then h true else bif !decide ((List.getD d.2.2.1 a.toNat (0,0,0,0,0,())).2.2.1=1) then h true else bif !decide ((List.getD e.2.2.1 b.toNat (0,0,0,0,0,())).2.1=1) then h true else h (!decide ((List.getD e.2.2.1 b.toNat (0,0,0,0,0,())).2.2.1=1)))) else bif c.1=5 then(Q126 c.2.2.2.2.1).bind fun r5=>bif !decide (r5.1=0) then i a b true c d e else i a b (decide (((List.length c.2.2.2.2.1):Int)=0)) c d e else g
theorem z18u{R S:Type}(F:R→Option S)(a)(b)(c)(d)(e)(f)(g)(h)(i):(z92 a b c d e f g h i).bind F=z92 a b c d e (fun a0=>(f a0).bind F) ((g).bind F) (fun a0=>(h a0).bind F) (fun a0 a1 a2 a3 a4 a5=>(i a0 a1 a2 a3 a4 a5).bind F):=by
 simp only[z92,nn_]
def z10m{R:Type}(a:Int→Option R):Option R:=
 a 0
def zrx{R:Type}(a:Bool)(b:Int→Option R)(c:Option R):Option R:=
 bif a then b 6 else c
def zry{R:Type}(a b:Int)(c:Bool)(d:Zt22)(e f:Zt20)(g:Int→Option R)(h:Int→Int→Zt22→Zt20→Zt20→Option R):Option R:=
 bif c then g 15 else h a b d e f
def zdv{R:Type}(a b:Int)(c:Zt22)(d e:Zt20)(f:Int→Int→Int→Zt22→Zt20→Zt20→Option R):Option R:=
 f a b 0 c d e
def z9l{R:Type}(a b c:Int)(d:Zt22)(e f:Zt20)(g:Int→Int→Int→Zt22→Zt20→Zt20→Option R)(h:Option R):Option R:=
 bif c<((List.length d.2.2.2.2.1):Int) then g a b c d e f else h
def zdw{R:Type}(a b c:Int)(d:Zt22)(e f:Zt20)(g:Int→Option R)(h:Int→Int→Int→Zt22→Zt20→Zt20→Option R):Option R:=
 zd a (List.length e.2.2.1) (zd c (List.length d.2.2.2.2.1) ((Q101 (List.getD e.2.2.1 a.toNat (0,0,0,0,0,())) (List.getD d.2.2.2.2.1 c.toNat (bs [],bs [],())).1).bind fun r6=>bif !decide (r6=0) then g r6 else h a b c d e f))
def zrz{R:Type}(a:Option R):Option R:=
 a
def zs0{R:Type}(a:Int)(b:Int→Option R):Option R:=
 b a
def zdx{R:Type}(a b c:Int)(d:Zt22)(e f:Zt20)(g:Int→Option R)(h:Int→Int→Int→Zt22→Zt20→Zt20→Option R):Option R:=
 zd b (List.length f.2.2.1) (zd c (List.length d.2.2.2.2.1) ((Q101 (List.getD f.2.2.1 b.toNat (0,0,0,0,0,())) (List.getD d.2.2.2.2.1 c.toNat (bs [],bs [],())).2.1).bind fun r7=>bif !decide (r7=0) then g r7 else h a b c d e f))
def zdy{R:Type}(a b c:Int)(d:Zt22)(e f:Zt20)(g:Int→Int→Int→Zt22→Zt20→Zt20→Option R):Option R:=
 g a b (zW zI (c+1)) d e f
def z49:Nat→Int→Int→Int→Zt22→Zt20→Zt20→Option (Sum Unit Int)
 |0,_,_,_,_,_,_=>none
 |k+1,v0,v1,v2,v3,v4,v5=>z9l v0 v1 v2 v3 v4 v5 (fun a0 a1 a2 a3 a4 a5=>zdw a0 a1 a2 a3 a4 a5 (fun a0=>some (.inr a0)) (fun a0 a1 a2 a3 a4 a5=>zdx a0 a1 a2 a3 a4 a5 (fun a0=>some (.inr a0)) (fun a0 a1 a2 a3 a4 a5=>zdy a0 a1 a2 a3 a4 a5 (fun a0 a1 a2 a3 a4 a5=>z49 k a0 a1 a2 a3 a4 a5)))) (some (.inl ()))
def zm1:Option Int:=
 z10m (fun a0=>some a0)
def z10h(a:Bool):Option Int:=
 zrx a (fun a0=>some a0) zm1
def z9k(a b:Int)(c:Zt22)(d f:Zt20):Option Int:=
 zdv a b c d f (fun a0 a1 a2 a3 a4 a5=>(z49 FUEL a0 a1 a2 a3 a4 a5).bind fun e=>Sum.elim (fun(we:Unit)=>zrz zm1) (fun(we:Int)=>zs0 we (fun a0=>some a0)) e)
def zrw(a b:Int)(c:Bool)(d:Zt22)(e f:Zt20):Option Int:=
 zry a b c d e f (fun a0=>some a0) (fun a0 a1 a2 a3 a4=>z9k a0 a1 a2 a3 a4)
def zbs(a b:Int)(c:Zt22)(d e:Zt20):Option Int:=
 z92 a b c d e (fun a0=>some a0) zm1 (fun a0=>z10h a0) (fun a0 a1 a2 a3 a4 a5=>zrw a0 a1 a2 a3 a4 a5)
def z10g(a b:Int)(c:Bool)(d:Zt22)(e f:Zt20):Option Int:=
 z10l a b c d e f (fun a0=>some a0) (fun a0 a1 a2 a3 a4=>zbs a0 a1 a2 a3 a4)
def z6x(a b:Int)(c:Zt22)(d e:Zt20):Option Int:=
 z91 a b c d e (fun a0 a1 a2 a3 a4 a5=>z10g a0 a1 a2 a3 a4 a5)
def z10f(a b:Int)(c:Bool)(d:Zt22)(e f:Zt20):Option Int:=
 z10k a b c d e f (fun a0=>some a0) (fun a0 a1 a2 a3 a4=>z6x a0 a1 a2 a3 a4)
def zbr(a b:Int)(c:Zt22)(d e:Zt20):Option Int:=
 z90 a b c d e (fun a0 a1 a2 a3 a4 a5=>z10f a0 a1 a2 a3 a4 a5)
def z5x(a b:Int)(c:Bool)(d:Zt22)(e f:Zt20):Option Int:=
 z10j a b c d e f (fun a0=>some a0) (fun a0 a1 a2 a3 a4=>zbr a0 a1 a2 a3 a4)
def zm0(a:Zt22)(b c:Zt20):Option Int:=
 z8z a b c (fun a0 a1 a2 a3 a4 a5=>z5x a0 a1 a2 a3 a4 a5)
def z10e(a:Bool)(b:Zt22)(c d:Zt20):Option Int:=
 z10i a b c d (fun a0=>some a0) (fun a0 a1 a2=>zm0 a0 a1 a2)
def Q132(a:Zt22)(b c:Zt20):Option Int:=
 z8y a b c (fun a0 a1 a2 a3=>z10e a0 a1 a2 a3)
def zlx{R:Type}(a:Zt22)(b:Zt20)(c:ByteArray)(d:Zt9→Int→Option R):Option R:=
 bif a.1=1 then d (a.2.2.1,c,()) 0 else bif a.1=2 then d (0,bs [],()) 0 else bif a.1=3 then d (a.2.2.1,a.2.2.2.1,()) 0 else bif a.1=4 then(Q108 b a.2.2.1).bind fun r1=>bif r1<0 then d (0,bs [],()) 9 else zd r1 (List.length b.2.2.1) ((Q71 c (List.getD b.2.2.1 r1.toNat (0,0,0,0,0,())).2.2.2.1).bind fun r2=>bif !r2.2 then d (0,bs [],()) 5 else d (a.2.2.1,r2.1,()) 0) else bif a.1=5 then(Q125 a.2.2.2.2.1 c).bind fun r3=>bif !r3.2 then d (0,bs [],()) 15 else d (a.2.2.1,r3.1,()) 0 else d (0,bs [],()) 1
def Q131(a:Zt22)(b:Zt20)(c:ByteArray):Option (Zt9×Int):=
 zlx a b c (fun a0 a1=>some (a0,a1))
end Groat

namespace Groat
open Go.IntKind renaming wrap→zW,i64→zI,u8→zU
open Go Go.Ref
def zmf{R:Type}(a:Zt26)(b:Bool→Option R)(c:Int→Zt26→Option R):Option R:=
 bif 300<((List.length a.1):Int) then b true else bif 300<((List.length a.2.1):Int) then b true else c 0 a
def zbz{R:Type}(a:Int)(b:Zt26)(c:Bool→Zt26→Option R)(d:Int→Zt26→Option R)(e:Zt26→Option R):Option R:=
 bif a<((List.length b.1):Int) then zd a (List.length b.1) (bif 100<(((List.getD b.1 a.toNat (bs [],bs [],())).1).size:Int) then c true b else zd a (List.length b.1) (bif 100<(((List.getD b.1 a.toNat (bs [],bs [],())).2.1).size:Int) then c true b else d (zW zI (a+1)) b)) else e b
def z111{R:Type}(a:Bool)(b:Zt26)(c:Bool→Option R):Option R:=
 c a
def zmg{R:Type}(a:Zt26)(b:Int→Zt26→Option R):Option R:=
 b 0 a
def z112{R:Type}(a:Int)(b:Zt26)(c:Bool→Option R)(d:Int→Zt26→Option R)(e:Option R):Option R:=
 bif a<((List.length b.2.1):Int) then zd a (List.length b.2.1) ((Q134 (List.getD b.2.1 a.toNat (0,0,0,bs [],[],()))).bind fun r1=>bif r1 then c true else d (zW zI (a+1)) b) else e
def z113{R:Type}(a:Bool)(b:Bool→Option R):Option R:=
 b a
def z114{R:Type}(a:Bool→Option R):Option R:=
 a false
def z4y:Nat→Int→Zt26→Option (Sum (Bool×Zt26) Zt26)
 |0,_,_=>none
 |k+1,v0,v1=>zbz v0 v1 (fun a0 a1=>some (.inl (a0,a1))) (fun a0 a1=>z4y k a0 a1) (fun a0=>some (.inr a0))
def zby:Nat→Int→Zt26→Option (Sum Bool Unit)
 |0,_,_=>none
 |k+1,v0,v1=>z112 v0 v1 (fun a0=>some (.inl a0)) (fun a0 a1=>zby k a0 a1) (some (.inr ()))
def Q137(a:Zt26):Option Bool:=
 zmf a (fun a0=>some a0) (fun a0 a1=>(z4y FUEL a0 a1).bind fun e=>Sum.elim (fun(we:(Bool×Zt26))=>z111 we.1 we.2 (fun a0=>some a0)) (fun(we:Zt26)=>zmg we (fun a0 a1=>(zby FUEL a0 a1).bind fun e=>Sum.elim (fun(we:Bool)=>z113 we (fun a0=>some a0)) (fun(we:Unit)=>z114 (fun a0=>some a0)) e)) e)
def zmc{R:Type}(a:Zt26)(b:Int→Zt26→Zt26→Zt26→Option R):Option R:=
 (Q127 a.1).bind fun r1=>b 0 a ([],[],()) (r1,[],())
def z10x{R:Type}(a:Int)(b c d:Zt26)(e:Int→Zt26→Zt26→Zt26→Option R)(f:Zt26→Zt26→Option R):Option R:=
 bif a<((List.length b.2.1):Int) then zd a (List.length b.2.1) ((Q133 (List.getD b.2.1 a.toNat (0,0,0,bs [],[],()))).bind fun r2=>bif(List.length d.2.1+List.length ([r2]:List Zt22))*64≤140737488355328 then e (zW zI (a+1)) b c (d.1,d.2.1++([r2]:List Zt22),()) else none) else f c d
def z10y{R:Type}(a b:Zt26)(c:Zt26→Option R):Option R:=
 c b
def zbx:Nat→Int→Zt26→Zt26→Zt26→Option (Zt26×Zt26)
 |0,_,_,_,_=>none
 |k+1,v0,v1,v2,v3=>z10x v0 v1 v2 v3 (fun a0 a1 a2 a3=>zbx k a0 a1 a2 a3) (fun a0 a1=>some (a0,a1))
def Q136(a:Zt26):Option Zt26:=
 zmc a (fun a0 a1 a2 a3=>(zbx FUEL a0 a1 a2 a3).bind fun e=>z10y e.1 e.2 (fun a0=>some a0))
def zmt{R:Type}(a:ByteArray)(b:Int)(c:Bool→Option R):Option R:=
 (Q116 a).bind fun r1=>bif r1 then zd 0 a.size (c (decide (zW zI (zW zI (ze a ((0:Int)).toNat)-48)=b))) else c false
def Q142(a:ByteArray)(b:Int):Option Bool:=
 zmt a b (fun a0=>some a0)
def zms{R:Type}(a b:Zt22)(c:Bool→Option R):Option R:=
 bif !decide (a.2.1=0) then bif a.2.1=b.2.1 then c true else bif !decide (a.2.2.1=0) then c (decide (a.2.2.1=b.2.2.1)) else c false else bif !decide (a.2.2.1=0) then c (decide (a.2.2.1=b.2.2.1)) else c false
def Q141(a b:Zt22):Option Bool:=
 zms a b (fun a0=>some a0)
def zm8{R:Type}(a:Zt26)(b c:Zt20)(d:Int→Int→Int→Option R)(e:Int→Zt26→Zt20→Zt20→Option R):Option R:=
 (Q109 b).bind fun r1=>bif !r1 then d 1 1 0 else(Q109 c).bind fun r2=>bif !r2 then d 1 1 1 else bif 256<((List.length a.1):Int) then d 5 2 256 else e 0 a b c
def zbu{R:Type}(a:Int)(b:Zt26)(c d:Zt20)(e:Int→Int→Int→Zt26→Zt20→Zt20→Option R)(f:Int→Zt26→Zt20→Zt20→Option R)(g:Zt26→Zt20→Zt20→Option R):Option R:=
 bif a<((List.length b.1):Int) then zd a (List.length b.1) ((Q142 (List.getD b.1 a.toNat (bs [],bs [],())).1 c.2.1).bind fun r3=>bif !r3 then e 7 2 a b c d else(Q142 (List.getD b.1 a.toNat (bs [],bs [],())).2.1 d.2.1).bind fun r4=>bif !r4 then e 7 2 a b c d else(Q114 (List.getD b.1 a.toNat (bs [],bs [],())).1).bind fun r5=>(Q114 (List.getD b.1 a.toNat (bs [],bs [],())).2.1).bind fun r6=>bif !(r5==r6) then e 7 2 a b c d else bif 0≤a then bif a≤(((List.length b.1):Nat):Int) then(Q125 (List.drop 0 (List.take a.toNat b.1)) (List.getD b.1 a.toNat (bs [],bs [],())).1).bind fun r7=>bif r7.2 then e 10 2 a b c d else f (zW zI (a+1)) b c d else none else none) else g b c d
def z10t{R:Type}(a b c:Int)(d:Zt26)(e f:Zt20)(g:Int→Int→Int→Option R):Option R:=
 g a b c
def zm9{R:Type}(a:Zt26)(b c:Zt20)(d:Int→Int→Int→Option R)(e:Int→Zt26→Zt20→Zt20→Option R):Option R:=
 bif 256<((List.length a.2.1):Int) then d 5 3 256 else e 0 a b c
def zbv{R:Type}(a:Int)(b:Zt26)(c d:Zt20)(e:Int→Int→Int→Option R)(f:Int→Int→Zt26→Zt20→Zt20→Option R)(g:Option R):Option R:=
 bif a<((List.length b.2.1):Int) then zd a (List.length b.2.1) ((Q132 (List.getD b.2.1 a.toNat (0,0,0,bs [],[],())) c d).bind fun r8=>bif !decide (r8=0) then e r8 3 a else f a 0 b c d) else g
def z10u{R:Type}(a b c:Int)(d:Int→Int→Int→Option R):Option R:=
 d a b c
def z10v{R:Type}(a:Int→Int→Int→Option R):Option R:=
 a 0 0 0
def zbw{R:Type}(a b:Int)(c:Zt26)(d e:Zt20)(f:Int→Int→Int→Int→Zt26→Zt20→Zt20→Option R)(g:Int→Int→Zt26→Zt20→Zt20→Option R)(h:Int→Zt26→Zt20→Zt20→Option R):Option R:=
 bif b<a then zd b (List.length c.2.1) (zd a (List.length c.2.1) ((Q141 (List.getD c.2.1 b.toNat (0,0,0,bs [],[],())) (List.getD c.2.1 a.toNat (0,0,0,bs [],[],()))).bind fun r9=>bif r9 then f 10 3 a a c d e else g a (zW zI (b+1)) c d e)) else h a c d e
def z10w{R:Type}(a b c d:Int)(e:Zt26)(f g:Zt20)(h:Int→Int→Int→Option R):Option R:=
 h a b c
def zma{R:Type}(a:Int)(b:Zt26)(c d:Zt20)(e:Int→Zt26→Zt20→Zt20→Option R):Option R:=
 e (zW zI (a+1)) b c d
def z6y:Nat→Int→Zt26→Zt20→Zt20→Option (Sum Zt33 Zt31)
 |0,_,_,_,_=>none
 |k+1,v0,v1,v2,v3=>zbu v0 v1 v2 v3 (fun a0 a1 a2 a3 a4 a5=>some (.inl (a0,a1,a2,a3,a4,a5))) (fun a0 a1 a2 a3=>z6y k a0 a1 a2 a3) (fun a0 a1 a2=>some (.inr (a0,a1,a2)))
def z71:Nat→Int→Int→Zt26→Zt20→Zt20→Option (Sum (Int×Int×Int×Int×Zt26×Zt20×Zt20) (Int×Zt26×Zt20×Zt20))
 |0,_,_,_,_,_=>none
 |k+1,v0,v1,v2,v3,v4=>zbw v0 v1 v2 v3 v4 (fun a0 a1 a2 a3 a4 a5 a6=>some (.inl (a0,a1,a2,a3,a4,a5,a6))) (fun a0 a1 a2 a3 a4=>z71 k a0 a1 a2 a3 a4) (fun a0 a1 a2 a3=>some (.inr (a0,a1,a2,a3)))
def z6z:Nat→Int→Zt26→Zt20→Zt20→Option (Sum Zt1 Unit)
 |0,_,_,_,_=>none
 |k+1,v0,v1,v2,v3=>zbv v0 v1 v2 v3 (fun a0 a1 a2=>some (.inl (a0,a1,a2))) (fun a0 a1 a2 a3 a4=>(z71 FUEL a0 a1 a2 a3 a4).bind fun e=>Sum.elim (fun(we:(Int×Int×Int×Int×Zt26×Zt20×Zt20))=>z10w we.1 we.2.1 we.2.2.1 we.2.2.2.1 we.2.2.2.2.1 we.2.2.2.2.2.1 we.2.2.2.2.2.2 (fun a0 a1 a2=>some (.inl (a0,a1,a2)))) (fun(we:(Int×Zt26×Zt20×Zt20))=>zma we.1 we.2.1 we.2.2.1 we.2.2.2 (fun a0 a1 a2 a3=>z6z k a0 a1 a2 a3)) e) (some (.inr ()))
def Q135(a:Zt26)(b c:Zt20):Option Zt1:=
 zm8 a b c (fun a0 a1 a2=>some (a0,a1,a2)) (fun a0 a1 a2 a3=>(z6y FUEL a0 a1 a2 a3).bind fun e=>Sum.elim (fun(we:Zt33)=>z10t we.1 we.2.1 we.2.2.1 we.2.2.2.1 we.2.2.2.2.1 we.2.2.2.2.2 (fun a0 a1 a2=>some (a0,a1,a2))) (fun(we:Zt31)=>zm9 we.1 we.2.1 we.2.2 (fun a0 a1 a2=>some (a0,a1,a2)) (fun a0 a1 a2 a3=>(z6z FUEL a0 a1 a2 a3).bind fun e=>Sum.elim (fun(we:Zt1)=>z10u we.1 we.2.1 we.2.2 (fun a0 a1 a2=>some (a0,a1,a2))) (fun(we:Unit)=>z10v (fun a0 a1 a2=>some (a0,a1,a2))) e)) e)
def zmh{R:Type}(a:Zt26)(b c:Zt20)(d:Bool→Option R):Option R:=
 (Q135 a b c).bind fun r1=>d (decide (r1.1=0))
def Q138(a:Zt26)(b c:Zt20):Option Bool:=
 zmh a b c (fun a0=>some a0)
def zmr{R:Type}(a:Zt26)(b:Int)(c:Int→Int→Zt26→Option R):Option R:=
 c b 0 a
def z119{R:Type}(a b:Int)(c:Zt26)(d:Int→Option R)(e:Int→Int→Zt26→Option R)(f:Option R):Option R:=
 bif b<((List.length c.2.1):Int) then zd b (List.length c.2.1) (bif(List.getD c.2.1 b.toNat (0,0,0,bs [],[],())).2.1=a then d b else e a (zW zI (b+1)) c) else f
def z11a{R:Type}(a:Int)(b:Int→Option R):Option R:=
 b a
def z11b{R:Type}(a:Int→Option R):Option R:=
 a (-1:Int)
def zc4:Nat→Int→Int→Zt26→Option (Sum Int Unit)
 |0,_,_,_=>none
 |k+1,v0,v1,v2=>z119 v0 v1 v2 (fun a0=>some (.inl a0)) (fun a0 a1 a2=>zc4 k a0 a1 a2) (some (.inr ()))
def Q140(a:Zt26)(b:Int):Option Int:=
 zmr a b (fun a0 a1 a2=>(zc4 FUEL a0 a1 a2).bind fun e=>Sum.elim (fun(we:Int)=>z11a we (fun a0=>some a0)) (fun(we:Unit)=>z11b (fun a0=>some a0)) e)
def zmm{R:Type}(a:Zt26)(b c:Zt20)(d:Zt19)(e:Zt19→Zt6→Option R)(f:ByteArray→Zt13→Int→Zt26→Zt20→Zt19→Zt19→Zt6→Zt19→Option R):Option R:=
 (Q138 a b c).bind fun r1=>bif !r1 then e (bs [],[],()) (1,(-1:Int),()) else(Q117 b d).bind fun r2=>bif !decide (r2.1=0) then e (bs [],[],()) r2 else(Q125 a.1 d.1).bind fun r3=>bif !r3.2 then e (bs [],[],()) (7,0,()) else f r3.1 [] 0 a c d (bs [],[],()) (0,0,()) (bs [],[],())
def zc0{R:Type}(a:ByteArray)(b:Zt13)(c:Int)(d:Zt26)(e:Zt20)(f g:Zt19)(h:Zt6)(i:Zt19)(j:ByteArray→Zt13→Zt26→Zt19→Zt6→Option R)(l:ByteArray→Zt13→Int→Zt26→Zt20→Zt19→Zt19→Zt6→Zt19→Option R)(m:ByteArray→Zt13→Zt26→Zt19→Zt6→Option R):Option R:=
 bif c<((List.length f.2.1):Int) then zd c (List.length f.2.1) ((Q140 d (List.getD f.2.1 c.toNat (0,bs [],())).1).bind fun r4=>bif r4<0 then zd c (List.length f.2.1) (j a b d i (9,(List.getD f.2.1 c.toNat (0,bs [],())).1,())) else zd r4 (List.length d.2.1) (zd c (List.length f.2.1) ((Q131 (List.getD d.2.1 r4.toNat (0,0,0,bs [],[],())) e (List.getD f.2.1 c.toNat (0,bs [],())).2.1).bind fun r5=>bif !decide (r5.2=0) then zd c (List.length f.2.1) (j a b d i (r5.2,(List.getD f.2.1 c.toNat (0,bs [],())).1,())) else bif(List.length b+List.length ([r5.1]:List Zt9))*24≤140737488355328 then l a (b++([r5.1]:List Zt9)) (zW zI (c+1)) d e f g h i else none))) else m a b d g h
def z116{R:Type}(a:ByteArray)(b:Zt13)(c:Zt26)(d:Zt19)(e:Zt6)(f:Zt19→Zt6→Option R):Option R:=
 f d e
def zmn{R:Type}(a:ByteArray)(b:Zt13)(c:Zt26)(d:Zt19)(e:Zt6)(f:ByteArray→Zt13→Int→Zt26→Zt19→Zt6→Option R):Option R:=
 f a b 0 c d e
def zc1{R:Type}(a:ByteArray)(b:Zt13)(c:Int)(d:Zt26)(e:Zt19)(f:Zt6)(g:ByteArray→Zt13→Int→Zt26→Zt19→Zt6→Option R)(h:ByteArray→Zt13→Zt19→Zt6→Option R):Option R:=
 bif c<((List.length d.2.1):Int) then zd c (List.length d.2.1) (bif(List.getD d.2.1 c.toNat (0,0,0,bs [],[],())).1=3 then zd c (List.length d.2.1) (zd c (List.length d.2.1) (bif(List.length b+List.length ([((List.getD d.2.1 c.toNat ((0:Int),(0:Int),(0:Int),bs [],([]:List Zt11),())).2.2.1,(List.getD d.2.1 c.toNat ((0:Int),(0:Int),(0:Int),bs [],([]:List Zt11),())).2.2.2.1,())]:List Zt9))*24≤140737488355328 then g a (b++([((List.getD d.2.1 c.toNat (0,0,0,bs [],[],())).2.2.1,(List.getD d.2.1 c.toNat (0,0,0,bs [],[],())).2.2.2.1,())]:List Zt9)) (zW zI (c+1)) d e f else none)) else g a b (zW zI (c+1)) d e f) else h a b e f
def zmo{R:Type}(a:ByteArray)(b:Zt13)(c:Zt19)(d:Zt6)(e:Zt13→Int→Zt19→Zt6→Zt19→Option R):Option R:=
 e b 2 c d (a,[],())
def zc2{R:Type}(a:Zt13)(b:Int)(c:Zt19)(d:Zt6)(e:Zt19)(f:Zt13→Int→Int→Zt19→Zt6→Zt19→Option R)(g:Zt19→Zt6→Zt19→Option R):Option R:=
 bif b≤128 then f a b 0 c d e else g c d e
def z117{R:Type}(a:Zt19)(b:Zt6)(c:Zt19)(d:Zt19→Zt6→Option R):Option R:=
 d c (0,0,())
def zc3{R:Type}(a:Zt13)(b c:Int)(d:Zt19)(e:Zt6)(f:Zt19)(g:Zt13→Int→Int→Zt19→Zt6→Zt19→Option R)(h:Zt13→Int→Zt19→Zt6→Zt19→Option R):Option R:=
 bif c<((List.length a):Int) then zd c (List.length a) (bif(List.getD a c.toNat (0,bs [],())).1=b then zd c (List.length a) (bif(List.length f.2.1+List.length ([(List.getD a c.toNat ((0:Int),bs [],()))]:List Zt9))*24≤140737488355328 then g a b (zW zI (c+1)) d e (f.1,f.2.1++([(List.getD a c.toNat (0,bs [],()))]:List Zt9),()) else none) else g a b (zW zI (c+1)) d e f) else h a b d e f
def zmp{R:Type}(a:Zt13)(b:Int)(c:Zt19)(d:Zt6)(e:Zt19)(f:Zt13→Int→Zt19→Zt6→Zt19→Option R):Option R:=
 f a (zW zI (b+1)) c d e
def z4z:Nat→ByteArray→Zt13→Int→Zt26→Zt20→Zt19→Zt19→Zt6→Zt19→Option (Sum Zt29 Zt29)
 |0,_,_,_,_,_,_,_,_,_=>none
 |k+1,v0,v1,v2,v3,v4,v5,v6,v7,v8=>zc0 v0 v1 v2 v3 v4 v5 v6 v7 v8 (fun a0 a1 a2 a3 a4=>some (.inl (a0,a1,a2,a3,a4))) (fun a0 a1 a2 a3 a4 a5 a6 a7 a8=>z4z k a0 a1 a2 a3 a4 a5 a6 a7 a8) (fun a0 a1 a2 a3 a4=>some (.inr (a0,a1,a2,a3,a4)))
def z50:Nat→ByteArray→Zt13→Int→Zt26→Zt19→Zt6→Option (ByteArray×Zt13×Zt19×Zt6)
 |0,_,_,_,_,_,_=>none
 |k+1,v0,v1,v2,v3,v4,v5=>zc1 v0 v1 v2 v3 v4 v5 (fun a0 a1 a2 a3 a4 a5=>z50 k a0 a1 a2 a3 a4 a5) (fun a0 a1 a2 a3=>some (a0,a1,a2,a3))
def z4a:Nat→Zt13→Int→Int→Zt19→Zt6→Zt19→Option (Zt13×Int×Zt19×Zt6×Zt19)
 |0,_,_,_,_,_,_=>none
 |k+1,v0,v1,v2,v3,v4,v5=>zc3 v0 v1 v2 v3 v4 v5 (fun a0 a1 a2 a3 a4 a5=>z4a k a0 a1 a2 a3 a4 a5) (fun a0 a1 a2 a3 a4=>some (a0,a1,a2,a3,a4))
def z73:Nat→Zt13→Int→Zt19→Zt6→Zt19→Option Zt25
 |0,_,_,_,_,_=>none
 |k+1,v0,v1,v2,v3,v4=>zc2 v0 v1 v2 v3 v4 (fun a0 a1 a2 a3 a4 a5=>(z4a FUEL a0 a1 a2 a3 a4 a5).bind fun e=>zmp e.1 e.2.1 e.2.2.1 e.2.2.2.1 e.2.2.2.2 (fun a0 a1 a2 a3 a4=>z73 k a0 a1 a2 a3 a4)) (fun a0 a1 a2=>some (a0,a1,a2))
def Q139(a:Zt26)(b c:Zt20)(d:Zt19):Option (Zt19×Zt6):=
 zmm a b c d (fun a0 a1=>some (a0,a1)) (fun a0 a1 a2 a3 a4 a5 a6 a7 a8=>(z4z FUEL a0 a1 a2 a3 a4 a5 a6 a7 a8).bind fun e=>Sum.elim (fun(we:Zt29)=>z116 we.1 we.2.1 we.2.2.1 we.2.2.2.1 we.2.2.2.2 (fun a0 a1=>some (a0,a1))) (fun(we:Zt29)=>zmn we.1 we.2.1 we.2.2.1 we.2.2.2.1 we.2.2.2.2 (fun a0 a1 a2 a3 a4 a5=>(z50 FUEL a0 a1 a2 a3 a4 a5).bind fun e=>zmo e.1 e.2.1 e.2.2.1 e.2.2.2 (fun a0 a1 a2 a3 a4=>(z73 FUEL a0 a1 a2 a3 a4).bind fun e=>z117 e.1 e.2.1 e.2.2 (fun a0 a1=>some (a0,a1))))) e)
end Groat

namespace Groat
open Go.IntKind renaming wrap→zW,i64→zI,u8→zU
open Go Go.Ref
def zn5{R:Type}(a:Zt28)(b:Bool→Option R)(c:Int→Zt28→Option R):Option R:=
 bif 200<((List.length a.1.2.2.1):Int) then b true else bif 300<((List.length a.2.2.1):Int) then b true else bif 300<((List.length a.2.2.2.1):Int) then b true else c 0 a
def z11h{R:Type}(a:Int)(b:Zt28)(c:Bool→Option R)(d:Int→Zt28→Option R)(e:Option R):Option R:=
 bif a<((List.length b.2.2.2.1):Int) then zd a (List.length b.2.2.2.1) (bif 1200<(((List.getD b.2.2.2.1 a.toNat (0,bs [],())).2.1).size:Int) then c true else d (zW zI (a+1)) b) else e
def z11i{R:Type}(a:Bool)(b:Bool→Option R):Option R:=
 b a
def z11j{R:Type}(a:Bool→Option R):Option R:=
 a false
def zc8:Nat→Int→Zt28→Option (Sum Bool Unit)
 |0,_,_=>none
 |k+1,v0,v1=>z11h v0 v1 (fun a0=>some (.inl a0)) (fun a0 a1=>zc8 k a0 a1) (some (.inr ()))
def Q149(a:Zt28):Option Bool:=
 zn5 a (fun a0=>some a0) (fun a0 a1=>(zc8 FUEL a0 a1).bind fun e=>Sum.elim (fun(we:Bool)=>z11i we (fun a0=>some a0)) (fun(we:Unit)=>z11j (fun a0=>some a0)) e)
def zn3{R:Type}(a:Zt28)(b:Zt28→Option R):Option R:=
 (Q107 a.1).bind fun r1=>bif(List.length ([]:List Int)+List.length a.2.2.1)*8≤140737488355328 then bif(List.length ([]:List Zt9)+List.length a.2.2.2.1)*24≤140737488355328 then b (r1,a.2.1,[]++a.2.2.1,[]++a.2.2.2.1,()) else none else none
def Q148(a:Zt28):Option Zt28:=
 zn3 a (fun a0=>some a0)
def zc9{R:Type}(a:Zt13)(b c:Int)(d:Zt13→Int→Int→Int→Option R):Option R:=
 d a b c 0
def z79{R:Type}(a:Zt13)(b c d:Int)(e:Int→Option R)(f:Zt13→Int→Int→Int→Option R)(g:Option R):Option R:=
 bif d<b then zd d (List.length a) (bif(List.getD a d.toNat (0,bs [],())).1=c then e d else f a b c (zW zI (d+1))) else g
def z11l{R:Type}(a:Int)(b:Int→Option R):Option R:=
 b a
def z11m{R:Type}(a:Int→Option R):Option R:=
 a (-1:Int)
def z4b:Nat→Zt13→Int→Int→Int→Option (Sum Int Unit)
 |0,_,_,_,_=>none
 |k+1,v0,v1,v2,v3=>z79 v0 v1 v2 v3 (fun a0=>some (.inl a0)) (fun a0 a1 a2 a3=>z4b k a0 a1 a2 a3) (some (.inr ()))
def Q150(a:Zt13)(b c:Int):Option Int:=
 zc9 a b c (fun a0 a1 a2 a3=>(z4b FUEL a0 a1 a2 a3).bind fun e=>Sum.elim (fun(we:Int)=>z11l we (fun a0=>some a0)) (fun(we:Unit)=>z11m (fun a0=>some a0)) e)
def zmz{R:Type}(a:Zt28)(b:Int→Int→Int→Option R)(c:Int→Int→Zt28→Option R):Option R:=
 (Q109 a.1).bind fun r1=>bif !r1 then b 1 1 0 else(Q108 a.1 (39:Int)).bind fun r2=>bif r2<0 then b 9 1 1 else c r2 0 a
def zc6{R:Type}(a b:Int)(c:Zt28)(d:Int→Int→Int→Int→Zt28→Option R)(e:Int→Int→Zt28→Option R)(f:Int→Zt28→Option R):Option R:=
 bif b<((List.length c.2.2.1):Int) then zd b (List.length c.2.2.1) ((Q108 c.1 (List.getD c.2.2.1 b.toNat (0:Int))).bind fun r3=>bif r3<0 then d 9 2 b a c else zd b (List.length c.2.2.1) (bif List.getD c.2.2.1 b.toNat 0=39 then d 1 2 b a c else bif 0≤b then bif b≤(((List.length c.2.2.1):Nat):Int) then zd b (List.length c.2.2.1) ((Q84 (List.drop 0 (List.take b.toNat c.2.2.1)) (List.getD c.2.2.1 b.toNat (0:Int))).bind fun r4=>bif r4 then d 10 2 b a c else e a (zW zI (b+1)) c) else none else none)) else f a c
def z11e{R:Type}(a b c d:Int)(e:Zt28)(f:Int→Int→Int→Option R):Option R:=
 f a b c
def zn0{R:Type}(a:Int)(b:Zt28)(c:Int→Int→Zt28→Option R):Option R:=
 c a 0 b
def zc7{R:Type}(a b:Int)(c:Zt28)(d:Int→Int→Int→Zt28→Option R)(e:Int→Int→Zt28→Option R)(f:Zt28→Option R):Option R:=
 bif b<((List.length c.2.2.2.1):Int) then zd b (List.length c.2.2.2.1) (bif(List.getD c.2.2.2.1 b.toNat (0,bs [],())).1<0 then d 1 3 b c else zd b (List.length c.2.2.2.1) (bif 16<(List.getD c.2.2.2.1 b.toNat (0,bs [],())).1 then d 1 3 b c else zd b (List.length c.2.2.2.1) ((Q150 c.2.2.2.1 b (List.getD c.2.2.2.1 b.toNat (0,bs [],())).1).bind fun r5=>bif 0≤r5 then d 10 3 b c else zd a (List.length c.1.2.2.1) (zd b (List.length c.2.2.2.1) ((Q101 (List.getD c.1.2.2.1 a.toNat (0,0,0,0,0,())) (List.getD c.2.2.2.1 b.toNat (0,bs [],())).2.1).bind fun r6=>bif !decide (r6=0) then d r6 3 b c else e a (zW zI (b+1)) c))))) else f c
def z11f{R:Type}(a b c:Int)(d:Zt28)(e:Int→Int→Int→Option R):Option R:=
 e a b c
def zn1{R:Type}(a:Zt28)(b:Int→Int→Int→Option R):Option R:=
 (Q150 a.2.2.2.1 ((List.length a.2.2.2.1):Int) (0:Int)).bind fun r7=>bif r7<0 then b 15 3 ((List.length a.2.2.2.1):Int) else b 0 0 0
def z77:Nat→Int→Int→Zt28→Option (Sum (Int×Int×Int×Int×Zt28) (Int×Zt28))
 |0,_,_,_=>none
 |k+1,v0,v1,v2=>zc6 v0 v1 v2 (fun a0 a1 a2 a3 a4=>some (.inl (a0,a1,a2,a3,a4))) (fun a0 a1 a2=>z77 k a0 a1 a2) (fun a0 a1=>some (.inr (a0,a1)))
def z78:Nat→Int→Int→Zt28→Option (Sum (Int×Int×Int×Zt28) Zt28)
 |0,_,_,_=>none
 |k+1,v0,v1,v2=>zc7 v0 v1 v2 (fun a0 a1 a2 a3=>some (.inl (a0,a1,a2,a3))) (fun a0 a1 a2=>z78 k a0 a1 a2) (fun a0=>some (.inr a0))
def Q146(a:Zt28):Option Zt1:=
 zmz a (fun a0 a1 a2=>some (a0,a1,a2)) (fun a0 a1 a2=>(z77 FUEL a0 a1 a2).bind fun e=>Sum.elim (fun(we:(Int×Int×Int×Int×Zt28))=>z11e we.1 we.2.1 we.2.2.1 we.2.2.2.1 we.2.2.2.2 (fun a0 a1 a2=>some (a0,a1,a2))) (fun(we:(Int×Zt28))=>zn0 we.1 we.2 (fun a0 a1 a2=>(z78 FUEL a0 a1 a2).bind fun e=>Sum.elim (fun(we:(Int×Int×Int×Zt28))=>z11f we.1 we.2.1 we.2.2.1 we.2.2.2 (fun a0 a1 a2=>some (a0,a1,a2))) (fun(we:Zt28)=>zn1 we (fun a0 a1 a2=>some (a0,a1,a2))) e)) e)
def zn2{R:Type}(a:Zt28)(b:Int)(c:ByteArray→Option R):Option R:=
 (Q150 a.2.2.2.1 ((List.length a.2.2.2.1):Int) b).bind fun r1=>bif r1<0 then(Q150 a.2.2.2.1 ((List.length a.2.2.2.1):Int) (0:Int)).bind fun r2=>bif r2<0 then c (bs []) else zd r2 (List.length a.2.2.2.1) (c (List.getD a.2.2.2.1 r2.toNat (0,bs [],())).2.1) else bif r1<0 then c (bs []) else zd r1 (List.length a.2.2.2.1) (c (List.getD a.2.2.2.1 r1.toNat (0,bs [],())).2.1)
def Q147(a:Zt28)(b:Int):Option ByteArray:=
 zn2 a b (fun a0=>some a0)
def zmv{R:Type}(a:Zt28)(b:Zt19)(c:Zt6)(d:Zt19→Bool→Option R)(e:Int→Zt28→Zt19→Zt6→Zt19→Zt19→Option R):Option R:=
 (Q114 b.1).bind fun r1=>bif !r1 then d (bs [],[],()) false else(Q115 b.1).bind fun r2=>e 0 a b c (bs [],[],()) (r2,[],())
def zc5{R:Type}(a:Int)(b:Zt28)(c:Zt19)(d:Zt6)(e f:Zt19)(g:Int→Zt28→Zt19→Zt6→Zt19→Zt19→Option R)(h:Zt28→Zt6→Zt19→Zt19→Option R):Option R:=
 bif a<((List.length b.2.2.1):Int) then zd a (List.length b.2.2.1) ((Q118 c (List.getD b.2.2.1 a.toNat (0:Int))).bind fun r3=>bif 0≤r3 then zd a (List.length b.2.2.1) (zd r3 (List.length c.2.1) ((Q120 f (List.getD b.2.2.1 a.toNat 0) (List.getD c.2.1 r3.toNat (0,bs [],())).2.1).bind fun r4=>g (zW zI (a+1)) b c d e r4)) else g (zW zI (a+1)) b c d e f) else h b d e f
def zmw{R:Type}(a:Zt28)(b:Zt6)(c d:Zt19)(e:Zt19→Bool→Option R):Option R:=
 (Q147 a b.1).bind fun r5=>(Q120 d 39 r5).bind fun r6=>e r6 true
def z74:Nat→Int→Zt28→Zt19→Zt6→Zt19→Zt19→Option (Zt28×Zt6×Zt19×Zt19)
 |0,_,_,_,_,_,_=>none
 |k+1,v0,v1,v2,v3,v4,v5=>zc5 v0 v1 v2 v3 v4 v5 (fun a0 a1 a2 a3 a4 a5=>z74 k a0 a1 a2 a3 a4 a5) (fun a0 a1 a2 a3=>some (a0,a1,a2,a3))
def Q145(a:Zt28)(b:Zt19)(c:Zt6):Option (Zt19×Bool):=
 zmv a b c (fun a0 a1=>some (a0,a1)) (fun a0 a1 a2 a3 a4 a5=>(z74 FUEL a0 a1 a2 a3 a4 a5).bind fun e=>zmw e.1 e.2.1 e.2.2.1 e.2.2.2 (fun a0 a1=>some (a0,a1)))
end Groat

namespace Groat
open Go.IntKind renaming wrap→zW,i64→zI,u8→zU
open Go Go.Ref
end Groat

namespace Groat
open Go.IntKind renaming wrap→zW,i64→zI,u8→zU
open Go Go.Ref
def z11w{R:Type}(a:(List ByteArray))(b:(List ByteArray)→Zt16→Int→Option R):Option R:=
 b a [] 0
def z11x{R:Type}(a:(List ByteArray))(b:Zt16)(c:Int)(d:(List ByteArray)→Zt16→Int→Option R)(e:Zt16→Option R):Option R:=
 bif c<((List.length a):Int) then zd c (List.length a) (zd (zW zI (c+1)) (List.length a) (bif(List.length b+List.length ([(List.getD a c.toNat (bs []),List.getD a (zW zI (c+(1:Int))).toNat (bs []),())]:List Zt11))*32≤140737488355328 then d a (b++([(List.getD a c.toNat (bs []),List.getD a (zW zI (c+(1:Int))).toNat (bs []),())]:List Zt11)) (zW zI (c+2)) else none)) else e b
def z11y{R:Type}(a:Zt16)(b:Zt16→Option R):Option R:=
 b a
def zni:Nat→(List ByteArray)→Zt16→Int→Option Zt16
 |0,_,_,_=>none
 |k+1,v0,v1,v2=>z11x v0 v1 v2 (fun a0 a1 a2=>zni k a0 a1 a2) (fun a0=>some a0)
def Q163(a:(List ByteArray)):Option Zt16:=
 z11w a (fun a0 a1 a2=>(zni FUEL a0 a1 a2).bind fun e=>z11y e (fun a0=>some a0))
def z11t{R:Type}(a:Zt24→(List Int)→Int→Option R):Option R:=
 Q111.bind fun r1=>a [] r1 0
def z11u{R:Type}(a:Zt24)(b:(List Int))(c:Int)(d:Zt24→(List Int)→Int→Option R)(e:Zt24→Option R):Option R:=
 bif c<((List.length b):Int) then zd c (List.length b) (bif List.getD b c.toNat 0=12 then zd c (List.length b) (zd c (List.length b) (bif(List.length a+List.length ([((4:Int),List.getD b c.toNat (0:Int),List.getD b c.toNat (0:Int),bs [],([]:List Zt11),())]:List Zt22))*64≤140737488355328 then d (a++([(4,List.getD b c.toNat 0,List.getD b c.toNat 0,bs [],[],())]:List Zt22)) b (zW zI (c+1)) else none)) else zd c (List.length b) (zd c (List.length b) (bif(List.length a+List.length ([((1:Int),List.getD b c.toNat (0:Int),List.getD b c.toNat (0:Int),bs [],([]:List Zt11),())]:List Zt22))*64≤140737488355328 then d (a++([(1,List.getD b c.toNat 0,List.getD b c.toNat 0,bs [],[],())]:List Zt22)) b (zW zI (c+1)) else none))) else e a
def z11v{R:Type}(a:Zt24)(b:Zt24→Option R):Option R:=
 b a
def zng:Nat→Zt24→(List Int)→Int→Option Zt24
 |0,_,_,_=>none
 |k+1,v0,v1,v2=>z11u v0 v1 v2 (fun a0 a1 a2=>zng k a0 a1 a2) (fun a0=>some a0)
def Q162:Option Zt24:=
 z11t (fun a0 a1 a2=>(zng FUEL a0 a1 a2).bind fun e=>z11v e (fun a0=>some a0))
def z11s{R:Type}(a b c:ByteArray)(d:Zt13→Option R):Option R:=
 d ([(0,a,()),(2,b,()),(3,b,()),(12,b,()),(9,b,()),(15,c,())]:List Zt9)
def Q161(a b c:ByteArray):Option Zt13:=
 z11s a b c (fun a0=>some a0)
def z11n{R:Type}(a:Zt32→Option R):Option R:=
 (Q163 ([(bs [48,49,48,48]),bs [49,49,48,48],bs [48,49,49,48],bs [49,49,49,48],bs [48,50,48,48],bs [49,50,48,48],bs [48,50,49,48],bs [49,50,49,48],bs [48,50,50,48],bs [49,50,50,48],bs [48,50,51,48],bs [49,50,51,48],bs [48,52,48,48],bs [49,52,48,48],bs [48,52,49,48],bs [49,52,49,48],bs [48,52,50,48],bs [49,52,50,48],bs [48,52,51,48],bs [49,52,51,48],bs [48,56,48,48],bs [49,56,48,52],bs [48,56,49,48],(bs [49,56,49,52])]:List ByteArray)).bind fun r1=>(Q163 ([(bs [48,53,49]),bs [53,49,48,49,48,49,53,49,49,51,52,52],bs [48,50,49],bs [50,49,48,49,48,49,50,49,49,51,52,52],bs [48,49,50],(bs [49,48,48,49,52,48,49,48,48,49,49,48])]:List ByteArray)).bind fun r2=>(Q163 ([(bs [48,48]),bs [48,48,48],bs [48,53],bs [49,48,48],bs [49,52],bs [49,49,49],bs [53,49],bs [49,49,54],bs [53,52],bs [49,48,49],bs [57,49],bs [57,48,55],bs [57,54],(bs [57,48,57])]:List ByteArray)).bind fun r3=>Q162.bind fun r4=>bif(List.length r4+List.length ([((2:Int),(13:Int),(0:Int),bs [],([]:List Zt11),()),((2:Int),(18:Int),(0:Int),bs [],([]:List Zt11),()),((2:Int),(90:Int),(0:Int),bs [],([]:List Zt11),()),((5:Int),(22:Int),(22:Int),bs [],r2,()),((5:Int),(39:Int),(39:Int),bs [],r3,()),((1:Int),(43:Int),(43:Int),bs [],([]:List Zt11),()),((1:Int),(48:Int),(48:Int),bs [],([]:List Zt11),()),((3:Int),(0:Int),(26:Int),bs [53,57,57,57],([]:List Zt11),())]:List Zt22))*64≤140737488355328 then Q162.bind fun r5=>(Q129 r2).bind fun r6=>(Q129 r3).bind fun r7=>bif(List.length r5+List.length ([((2:Int),(26:Int),(0:Int),bs [],([]:List Zt11),()),((2:Int),(43:Int),(0:Int),bs [],([]:List Zt11),()),((5:Int),(22:Int),(22:Int),bs [],r6,()),((5:Int),(39:Int),(39:Int),bs [],r7,()),((1:Int),(48:Int),(48:Int),bs [],([]:List Zt11),())]:List Zt22))*64≤140737488355328 then(Q112 (0:Int)).bind fun r8=>(Q161 (bs [57,54]) (bs [51,48]) (bs [49,50])).bind fun r9=>zd 0 2 ((Q112 (1:Int)).bind fun r10=>(Q129 r1).bind fun r11=>bif(List.length ([]:List Int)+List.length ([(2:Int),(3:Int),(4:Int),(7:Int),(11:Int),(12:Int),(32:Int),(37:Int),(41:Int),(42:Int),(70:Int)]:List Int))*8≤140737488355328 then(Q161 (bs [57,48,57]) (bs [57,48,52]) (bs [57,48,50])).bind fun r12=>zd 1 2 (a (List.set (List.set (List.replicate 2 ((0,0,[],()),([],[],()),[],[],())) ((0:Int)).toNat (r8,(r1,r4++([(2,13,0,bs [],[],()),(2,18,0,bs [],[],()),(2,90,0,bs [],[],()),(5,22,22,bs [],r2,()),(5,39,39,bs [],r3,()),(1,43,43,bs [],[],()),(1,48,48,bs [],[],()),(3,0,26,bs [53,57,57,57],[],())]:List Zt22),()),([2,3,4,7,11,12,32,37,41,42,70]:List Int),r9,())) ((1:Int)).toNat (r10,(r11,r5++([(2,26,0,bs [],[],()),(2,43,0,bs [],[],()),(5,22,22,bs [],r6,()),(5,39,39,bs [],r7,()),(1,48,48,bs [],[],())]:List Zt22),()),[]++([2,3,4,7,11,12,32,37,41,42,70]:List Int),r12,()),4096,())) else none) else none else none
def Q151:Option Zt32:=
 z11n (fun a0=>some a0)
def znb{R:Type}(a:Zt32)(b:Bool→Option R):Option R:=
 zd 0 2 ((Q149 (List.getD a.1 ((0:Int)).toNat ((0,0,[],()),([],[],()),[],[],()))).bind fun r1=>bif r1 then b true else zd 1 2 ((Q149 (List.getD a.1 ((1:Int)).toNat ((0,0,[],()),([],[],()),[],[],()))).bind fun r2=>bif r2 then b true else zd 0 2 ((Q137 (List.getD a.1 ((0:Int)).toNat ((0,0,[],()),([],[],()),[],[],())).2.1).bind fun r3=>bif r3 then b true else zd 1 2 ((Q137 (List.getD a.1 ((1:Int)).toNat ((0,0,[],()),([],[],()),[],[],())).2.1).bind fun r4=>b r4))))
def Q154(a:Zt32):Option Bool:=
 znb a (fun a0=>some a0)
def zna{R:Type}(a:Zt32)(b:Int→Zt32→Zt32→Option R):Option R:=
 b 0 a (List.replicate 2 ((0,0,[],()),([],[],()),[],[],()),0,())
def z94{R:Type}(a:Int)(b c:Zt32)(d:Int→Zt32→Zt32→Option R)(e:Zt32→Zt32→Option R):Option R:=
 bif a<2 then zd a 2 ((Q136 (List.getD b.1 a.toNat ((0,0,[],()),([],[],()),[],[],())).2.1).bind fun r1=>zd a 2 ((Q148 (List.getD b.1 a.toNat ((0,0,[],()),([],[],()),[],[],()))).bind fun r2=>zd a 2 (zd a 2 (d (zW zI (a+1)) (List.set (List.set b.1 a.toNat r2) a.toNat ((List.getD (List.set b.1 a.toNat r2) a.toNat ((0,0,[],()),([],[],()),[],[],())).1,r1,(List.getD (List.set b.1 a.toNat r2) a.toNat ((0,0,[],()),([],[],()),[],[],())).2.2.1,(List.getD (List.set b.1 a.toNat r2) a.toNat ((0,0,[],()),([],[],()),[],[],())).2.2.2.1,()),b.2.1,()) c)))) else e b c
def z11r{R:Type}(a b:Zt32)(c:Zt32→Option R):Option R:=
 c a
def z7b:Nat→Int→Zt32→Zt32→Option (Zt32×Zt32)
 |0,_,_,_=>none
 |k+1,v0,v1,v2=>z94 v0 v1 v2 (fun a0 a1 a2=>z7b k a0 a1 a2) (fun a0 a1=>some (a0,a1))
def Q153(a:Zt32):Option Zt32:=
 zna a (fun a0 a1 a2=>(z7b FUEL a0 a1 a2).bind fun e=>z11r e.1 e.2 (fun a0=>some a0))
def zn8{R:Type}(a:Zt32)(b:Int→Int→Int→Option R)(c:Int→Zt32→Option R):Option R:=
 bif a.2.1<1 then b 5 2 0 else bif 65535<a.2.1 then b 5 2 0 else c 0 a
def z93{R:Type}(a:Int)(b:Zt32)(c:Int→Int→Int→Option R)(d:Int→Zt32→Option R)(e:Option R):Option R:=
 bif a<2 then zd a 2 ((Q146 (List.getD b.1 a.toNat ((0,0,[],()),([],[],()),[],[],()))).bind fun r1=>bif !decide (r1.1=0) then c r1.1 a 1 else zd a 2 (zd a 2 (zd (zW zI (1-a)) 2 ((Q135 (List.getD b.1 a.toNat ((0,0,[],()),([],[],()),[],[],())).2.1 (List.getD b.1 a.toNat ((0,0,[],()),([],[],()),[],[],())).1 (List.getD b.1 (zW zI (1-a)).toNat ((0,0,[],()),([],[],()),[],[],())).1).bind fun r2=>bif !decide (r2.1=0) then c r2.1 a 2 else d (zW zI (a+1)) b)))) else e
def z11p{R:Type}(a b c:Int)(d:Int→Int→Int→Option R):Option R:=
 d a b c
def z11q{R:Type}(a:Int→Int→Int→Option R):Option R:=
 a 0 0 0
def z7a:Nat→Int→Zt32→Option (Sum Zt1 Unit)
 |0,_,_=>none
 |k+1,v0,v1=>z93 v0 v1 (fun a0 a1 a2=>some (.inl (a0,a1,a2))) (fun a0 a1=>z7a k a0 a1) (some (.inr ()))
def Q152(a:Zt32):Option Zt1:=
 zn8 a (fun a0 a1 a2=>some (a0,a1,a2)) (fun a0 a1=>(z7a FUEL a0 a1).bind fun e=>Sum.elim (fun(we:Zt1)=>z11p we.1 we.2.1 we.2.2 (fun a0 a1 a2=>some (a0,a1,a2))) (fun(we:Unit)=>z11q (fun a0 a1 a2=>some (a0,a1,a2))) e)
def znd{R:Type}(a:Zt32)(b:Bool→Option R):Option R:=
 (Q152 a).bind fun r1=>b (decide (r1.1=0))
def Q157(a:Zt32):Option Bool:=
 znd a (fun a0=>some a0)
def zne{R:Type}(a:Zt32)(b:Int)(c:Zt19)(d:Zt6)(e:Int→ByteArray→Option R):Option R:=
 zd b 2 ((Q145 (List.getD a.1 b.toNat ((0,0,[],()),([],[],()),[],[],())) c d).bind fun r1=>bif !r1.2 then e 3 (bs []) else(Q122 (List.getD a.1 b.toNat ((0,0,[],()),([],[],()),[],[],())).1 r1.1).bind fun r2=>bif a.2.1<(r2.size:Int) then e 3 (bs []) else e 2 r2)
def Q160(a:Zt32)(b:Int)(c:Zt19)(d:Zt6):Option Zt3:=
 zne a b c d (fun a0 a1=>some (a0,a1))
def znc{R:Type}(a:Zt32)(b:Int)(c:ByteArray)(d:Int→ByteArray→Option R):Option R:=
 zd b 2 (zd (zW zI (1-b)) 2 ((Q124 (List.getD a.1 b.toNat ((0,0,[],()),([],[],()),[],[],())).1 c).bind fun r1=>bif !decide (r1.2.1=0) then(Q160 a b r1.1 r1.2).bind fun r2=>d r2.1 r2.2 else(Q139 (List.getD a.1 b.toNat ((0,0,[],()),([],[],()),[],[],())).2.1 (List.getD a.1 b.toNat ((0,0,[],()),([],[],()),[],[],())).1 (List.getD a.1 (zW zI (1-b)).toNat ((0,0,[],()),([],[],()),[],[],())).1 r1.1).bind fun r3=>bif !decide (r3.2.1=0) then(Q160 a b r1.1 r3.2).bind fun r4=>d r4.1 r4.2 else(Q122 (List.getD a.1 (zW zI (1-b)).toNat ((0,0,[],()),([],[],()),[],[],())).1 r3.1).bind fun r5=>bif a.2.1<(r5.size:Int) then(Q160 a b r1.1 (5,129,())).bind fun r6=>d r6.1 r6.2 else d 1 r5))
def Q156(a:Zt32)(b:Int)(c:ByteArray):Option Zt3:=
 znc a b c (fun a0 a1=>some (a0,a1))
end Groat

namespace Groat
open Go.IntKind renaming wrap→zW,i64→zI,u8→zU
open Go Go.Ref
def z97{R:Type}(a:Zt20)(b:Int→Int→Option R)(c:Zt17→Int→Int→Zt20→Option R):Option R:=
 bif !decide (a.1=1) then bif !decide (a.1=2) then b 1 (-1:Int) else bif a.2.1<0 then b 7 (-1:Int) else bif 9<a.2.1 then b 7 (-1:Int) else c a.2.2.1 ((List.length a.2.2.1):Int) 0 a else bif a.2.1<0 then b 7 (-1:Int) else bif 9<a.2.1 then b 7 (-1:Int) else c a.2.2.1 ((List.length a.2.2.1):Int) 0 a
theorem z193{R S:Type}(F:R→Option S)(a)(b)(c):(z97 a b c).bind F=z97 a (fun a0 a1=>(b a0 a1).bind F) (fun a0 a1 a2 a3=>(c a0 a1 a2 a3).bind F):=by
 simp only[z97,nn_]
def zcn{R:Type}(a:Zt17)(b c:Int)(d:Zt20)(e:Int→Int→Option R)(f:Zt17→Int→Int→Zt20→Option R)(g:Option R):Option R:=
 bif c<b then zd c (List.length a) ((Q228 (List.getD a c.toNat (0,0,0,0,0,()))).bind fun r1=>bif !decide (r1=0) then e r1 c else bif 0<c then zd (zW zI (c-1)) (List.length d.2.2.1) (bif(List.getD a c.toNat (0,0,0,0,0,())).1≤(List.getD d.2.2.1 (zW zI (c-(1:Int))).toNat (0,0,0,0,0,())).1 then e 11 c else f a b (zW zI (c+1)) d) else f a b (zW zI (c+1)) d) else g
def zow{R:Type}(a b:Int)(c:Int→Int→Option R):Option R:=
 c a b
def zox{R:Type}(a:Int→Int→Option R):Option R:=
 a 0 0
def z5z:Nat→Zt17→Int→Int→Zt20→Option (Sum (Int×Int) Unit)
 |0,_,_,_,_=>none
 |k+1,v0,v1,v2,v3=>zcn v0 v1 v2 v3 (fun a0 a1=>some (.inl (a0,a1))) (fun a0 a1 a2 a3=>z5z k a0 a1 a2 a3) (some (.inr ()))
def Q221(a:Zt20):Option (Int×Int):=
 z97 a (fun a0 a1=>some (a0,a1)) (fun a0 a1 a2 a3=>(z5z FUEL a0 a1 a2 a3).bind fun e=>Sum.elim (fun(we:(Int×Int))=>zow we.1 we.2 (fun a0 a1=>some (a0,a1))) (fun(we:Unit)=>zox (fun a0 a1=>some (a0,a1))) e)
def zoz{R:Type}(a:Zt20)(b:Int)(c:Int→Zt17→Int→Int→Zt15→Option R):Option R:=
 c b a.2.2.1 ((List.length a.2.2.1):Int) 0 (0,0,0,0,0,())
def z136{R:Type}(a:Int)(b:Zt17)(c d:Int)(e:Zt15)(f:Bool→Zt15→Option R)(g:Int→Zt17→Int→Int→Zt15→Option R)(h:Zt15→Option R):Option R:=
 bif d<c then zd d (List.length b) (bif(List.getD b d.toNat (0,0,0,0,0,())).1=a then f true (List.getD b d.toNat (0,0,0,0,0,())) else g a b c (zW zI (d+1)) e) else h e
def z137{R:Type}(a:Bool)(b:Zt15)(c:Zt15→Bool→Option R):Option R:=
 c b a
def z138{R:Type}(a:Zt15)(b:Zt15→Bool→Option R):Option R:=
 b (0,0,0,0,0,()) false
def zco:Nat→Int→Zt17→Int→Int→Zt15→Option (Sum (Bool×Zt15) Zt15)
 |0,_,_,_,_,_=>none
 |k+1,v0,v1,v2,v3,v4=>z136 v0 v1 v2 v3 v4 (fun a0 a1=>some (.inl (a0,a1))) (fun a0 a1 a2 a3 a4=>zco k a0 a1 a2 a3 a4) (fun a0=>some (.inr a0))
def Q222(a:Zt20)(b:Int):Option (Zt15×Bool):=
 zoz a b (fun a0 a1 a2 a3 a4=>(zco FUEL a0 a1 a2 a3 a4).bind fun e=>Sum.elim (fun(we:(Bool×Zt15))=>z137 we.1 we.2 (fun a0 a1=>some (a0,a1))) (fun(we:Zt15)=>z138 we (fun a0 a1=>some (a0,a1))) e)
end Groat

namespace Groat
open Go.IntKind renaming wrap→zW,i64→zI,u8→zU
open Go Go.Ref
def zo0{R:Type}(a:ByteArray)(b:Bool→Option R):Option R:=
 bif(a.size:Int)=4 then(Q28 a).bind fun r1=>b r1 else b false
def Q191(a:ByteArray):Option Bool:=
 zo0 a (fun a0=>some a0)
def zo1{R:Type}(a:ByteArray)(b:Int→Bool→Option R):Option R:=
 (Q191 a).bind fun r1=>bif !r1 then b 0 false else zd 0 a.size (b (zW zI (zW zU (ze a ((0:Int)).toNat-48))) true)
def Q192(a:ByteArray):Option (Int×Bool):=
 zo1 a (fun a0 a1=>some (a0,a1))
def zny{R:Type}(a:ByteArray)(b:Bool→Option R):Option R:=
 (Q191 a).bind fun r1=>bif r1 then zd 2 a.size (bif ze a ((2:Int)).toNat=48 then b true else zd 2 a.size (b (decide (ze a ((2:Int)).toNat=50)))) else b false
def Q189(a:ByteArray):Option Bool:=
 zny a (fun a0=>some a0)
def znz{R:Type}(a:ByteArray)(b:ByteArray→Bool→Option R):Option R:=
 (Q189 a).bind fun r1=>bif !r1 then b (bs []) false else bif 2≤(a.size:Int) then zd 2 a.size (bif(a.extract 0 ((2:Int)).toNat).size+(strOf ([(zW zU (ze a ((2:Int)).toNat+1))]:List Int)).size≤9223372036854775807 then bif 3≤(a.size:Int) then bif(a.extract 0 ((2:Int)).toNat++strOf ([(zW zU (ze a ((2:Int)).toNat+1))]:List Int)).size+(a.extract ((3:Int)).toNat a.size).size≤9223372036854775807 then b ((a.extract 0 ((2:Int)).toNat++strOf ([(zW zU (ze a ((2:Int)).toNat+1))]:List Int))++a.extract ((3:Int)).toNat a.size) true else none else none else none) else none
def Q190(a:ByteArray):Option Zt5:=
 znz a (fun a0 a1=>some (a0,a1))
end Groat

namespace Groat
open Go.IntKind renaming wrap→zW,i64→zI,u8→zU
open Go Go.Ref
def zns{R:Type}(a:Zt19)(b:Int)(c:Int→Zt13→Int→Int→Option R):Option R:=
 c b a.2.1 ((List.length a.2.1):Int) 0
def z12a{R:Type}(a:Int)(b:Zt13)(c d:Int)(e:ByteArray→Bool→Option R)(f:Int→Zt13→Int→Int→Option R)(g:Option R):Option R:=
 bif d<c then zd d (List.length b) (bif(List.getD b d.toNat (0,bs [],())).1=a then e (List.getD b d.toNat (0,bs [],())).2.1 true else f a b c (zW zI (d+1))) else g
def z12b{R:Type}(a:ByteArray)(b:Bool)(c:ByteArray→Bool→Option R):Option R:=
 c a b
def z12c{R:Type}(a:ByteArray→Bool→Option R):Option R:=
 a (bs []) false
def zcd:Nat→Int→Zt13→Int→Int→Option (Sum Zt5 Unit)
 |0,_,_,_,_=>none
 |k+1,v0,v1,v2,v3=>z12a v0 v1 v2 v3 (fun a0 a1=>some (.inl (a0,a1))) (fun a0 a1 a2 a3=>zcd k a0 a1 a2 a3) (some (.inr ()))
def Q184(a:Zt19)(b:Int):Option Zt5:=
 zns a b (fun a0 a1 a2 a3=>(zcd FUEL a0 a1 a2 a3).bind fun e=>Sum.elim (fun(we:Zt5)=>z12b we.1 we.2 (fun a0 a1=>some (a0,a1))) (fun(we:Unit)=>z12c (fun a0 a1=>some (a0,a1))) e)
def znx{R:Type}(a:Zt19)(b:Int)(c:Int→Zt13→Int→Int→Zt19→Zt19→Option R):Option R:=
 c b a.2.1 ((List.length a.2.1):Int) 0 (bs [],[],()) (a.1,[],())
def z12g{R:Type}(a:Int)(b:Zt13)(c d:Int)(e f:Zt19)(g:Int→Zt13→Int→Int→Zt19→Zt19→Option R)(h:Zt19→Zt19→Option R):Option R:=
 bif d<c then zd d (List.length b) (bif !decide ((List.getD b d.toNat (0,bs [],())).1=a) then bif(List.length f.2.1+List.length ([(List.getD b d.toNat ((0:Int),bs [],()))]:List Zt9))*24≤140737488355328 then g a b c (zW zI (d+1)) e (f.1,f.2.1++([(List.getD b d.toNat (0,bs [],()))]:List Zt9),()) else none else g a b c (zW zI (d+1)) e f) else h e f
def z12h{R:Type}(a b:Zt19)(c:Zt19→Option R):Option R:=
 c b
def zcf:Nat→Int→Zt13→Int→Int→Zt19→Zt19→Option (Zt19×Zt19)
 |0,_,_,_,_,_,_=>none
 |k+1,v0,v1,v2,v3,v4,v5=>z12g v0 v1 v2 v3 v4 v5 (fun a0 a1 a2 a3 a4 a5=>zcf k a0 a1 a2 a3 a4 a5) (fun a0 a1=>some (a0,a1))
def Q188(a:Zt19)(b:Int):Option Zt19:=
 znx a b (fun a0 a1 a2 a3 a4 a5=>(zcf FUEL a0 a1 a2 a3 a4 a5).bind fun e=>z12h e.1 e.2 (fun a0=>some a0))
def z12f{R:Type}(a:Zt9)(b:Int)(c:Bool→Int→Option R):Option R:=
 c (decide (b<a.1)) b
def Q187(a:Zt9)(b:Int):Option (Bool×Int):=
 z12f a b (fun a0 a1=>some (a0,a1))
def zp5{R:Type}(a:Zt13)(b:Int)(c:Zt13→Int→Int→Int→Option R):Option R:=
 c a ((List.length a):Int) 0 b
def z13e{R:Type}(a:Zt13)(b c d:Int)(e:Int→Int→Option R)(f:Zt13→Int→Int→Int→Option R)(g:Int→Option R):Option R:=
 bif c<b then zd c (List.length a) ((Q187 (List.getD a c.toNat (0,bs [],())) d).bind fun r1=>bif r1.1 then e c r1.2 else f a b (zW zI (c+1)) r1.2) else g d
def z13f{R:Type}(a b:Int)(c:Int→Int→Option R):Option R:=
 c a b
def z13g{R:Type}(a:Int)(b:Int→Int→Option R):Option R:=
 b (-1:Int) a
def zcq:Nat→Zt13→Int→Int→Int→Option (Sum (Int×Int) Int)
 |0,_,_,_,_=>none
 |k+1,v0,v1,v2,v3=>z13e v0 v1 v2 v3 (fun a0 a1=>some (.inl (a0,a1))) (fun a0 a1 a2 a3=>zcq k a0 a1 a2 a3) (fun a0=>some (.inr a0))
def Q226(a:Zt13)(b:Int):Option (Int×Int):=
 zp5 a b (fun a0 a1 a2 a3=>(zcq FUEL a0 a1 a2 a3).bind fun e=>Sum.elim (fun(we:(Int×Int))=>z13f we.1 we.2 (fun a0 a1=>some (a0,a1))) (fun(we:Int)=>z13g we (fun a0 a1=>some (a0,a1))) e)
def znv{R:Type}(a:Zt19)(b:Int)(c:ByteArray)(d:Zt19→Option R):Option R:=
 (Q188 a b).bind fun r1=>(Q226 r1.2.1 b).bind fun r2=>bif r2.1<0 then bif zW zI (((List.length r1.2.1):Int)+1)=zW zI (((List.length r1.2.1):Int)+1) then bif 0≤zW zI (((List.length r1.2.1):Int)+1) then bif zW zI (((List.length r1.2.1):Int)+1)*24≤140737488355328 then bif 0≤((List.length r1.2.1):Int) then bif((List.length r1.2.1):Int)≤(((List.length r1.2.1):Nat):Int) then bif Nat.beq (zW zI (((List.length r1.2.1):Int)+(1:Int))).toNat (List.length (List.replicate (zW zI (((List.length r1.2.1):Int)+(1:Int))).toNat ((0:Int),bs [],()))) then zd ((List.length r1.2.1):Int) (zW zI (((List.length r1.2.1):Int)+(1:Int))).toNat (bif Nat.ble ((((List.length r1.2.1):Int)).toNat+1) (List.length (putL (List.replicate (zW zI (((List.length r1.2.1):Int)+(1:Int))).toNat ((0:Int),bs [],())) (List.take (zW zI (((List.length r1.2.1):Int)+(1:Int))).toNat (List.drop 0 (List.take (((List.length r1.2.1):Int)).toNat r1.2.1))) 0)) then bif 0≤zW zI (((List.length r1.2.1):Int)+1) then bif zW zI (((List.length r1.2.1):Int)+1)≤(((zW zI (((List.length r1.2.1):Int)+(1:Int))).toNat:Nat):Int) then bif 0≤((List.length r1.2.1):Int) then bif((List.length r1.2.1):Int)≤(((List.length r1.2.1):Nat):Int) then bif Nat.beq (zW zI (((List.length r1.2.1):Int)+(1:Int))).toNat (List.length (List.set (putL (List.replicate (zW zI (((List.length r1.2.1):Int)+(1:Int))).toNat ((0:Int),bs [],())) (List.take (zW zI (((List.length r1.2.1):Int)+(1:Int))).toNat (List.drop 0 (List.take (((List.length r1.2.1):Int)).toNat r1.2.1))) 0) (((List.length r1.2.1):Int)).toNat (r2.2,c,()))) then bif Nat.ble (zW zI (((List.length r1.2.1):Int)+(1:Int))).toNat (zW zI (((List.length r1.2.1):Int)+(1:Int))).toNat then bif Nat.beq (zW zI (((List.length r1.2.1):Int)+(1:Int))).toNat (List.length (putL (List.set (putL (List.replicate (zW zI (((List.length r1.2.1):Int)+(1:Int))).toNat ((0:Int),bs [],())) (List.take (zW zI (((List.length r1.2.1):Int)+(1:Int))).toNat (List.drop 0 (List.take (((List.length r1.2.1):Int)).toNat r1.2.1))) 0) (((List.length r1.2.1):Int)).toNat (r2.2,c,())) (List.take ((zW zI (((List.length r1.2.1):Int)+(1:Int))).toNat-(zW zI (((List.length r1.2.1):Int)+(1:Int))).toNat) (List.drop (((List.length r1.2.1):Int)).toNat (List.take (List.length r1.2.1) r1.2.1))) (zW zI (((List.length r1.2.1):Int)+(1:Int))).toNat)) then d (a.1,putL (List.set (putL (List.replicate (zW zI (((List.length r1.2.1):Int)+(1:Int))).toNat (0,bs [],())) (List.take (zW zI (((List.length r1.2.1):Int)+(1:Int))).toNat (List.drop 0 (List.take (((List.length r1.2.1):Int)).toNat r1.2.1))) 0) (((List.length r1.2.1):Int)).toNat (r2.2,c,())) (List.take ((zW zI (((List.length r1.2.1):Int)+(1:Int))).toNat-(zW zI (((List.length r1.2.1):Int)+(1:Int))).toNat) (List.drop (((List.length r1.2.1):Int)).toNat (List.take (List.length r1.2.1) r1.2.1))) (zW zI (((List.length r1.2.1):Int)+(1:Int))).toNat,()) else none else none else none else none else none else none else none else none) else none else none else none else none else none else none else bif zW zI (((List.length r1.2.1):Int)+1)=zW zI (((List.length r1.2.1):Int)+1) then bif 0≤zW zI (((List.length r1.2.1):Int)+1) then bif zW zI (((List.length r1.2.1):Int)+1)*24≤140737488355328 then bif 0≤r2.1 then bif r2.1≤(((List.length r1.2.1):Nat):Int) then bif Nat.beq (zW zI (((List.length r1.2.1):Int)+(1:Int))).toNat (List.length (List.replicate (zW zI (((List.length r1.2.1):Int)+(1:Int))).toNat ((0:Int),bs [],()))) then zd r2.1 (zW zI (((List.length r1.2.1):Int)+(1:Int))).toNat (bif Nat.ble (r2.1.toNat+1) (List.length (putL (List.replicate (zW zI (((List.length r1.2.1):Int)+(1:Int))).toNat ((0:Int),bs [],())) (List.take (zW zI (((List.length r1.2.1):Int)+(1:Int))).toNat (List.drop 0 (List.take r2.1.toNat r1.2.1))) 0)) then bif 0≤zW zI (r2.1+1) then bif zW zI (r2.1+1)≤(((zW zI (((List.length r1.2.1):Int)+(1:Int))).toNat:Nat):Int) then bif 0≤r2.1 then bif r2.1≤(((List.length r1.2.1):Nat):Int) then bif Nat.beq (zW zI (((List.length r1.2.1):Int)+(1:Int))).toNat (List.length (List.set (putL (List.replicate (zW zI (((List.length r1.2.1):Int)+(1:Int))).toNat ((0:Int),bs [],())) (List.take (zW zI (((List.length r1.2.1):Int)+(1:Int))).toNat (List.drop 0 (List.take r2.1.toNat r1.2.1))) 0) r2.1.toNat (r2.2,c,()))) then bif Nat.ble (zW zI (r2.1+(1:Int))).toNat (zW zI (((List.length r1.2.1):Int)+(1:Int))).toNat then bif Nat.beq (zW zI (((List.length r1.2.1):Int)+(1:Int))).toNat (List.length (putL (List.set (putL (List.replicate (zW zI (((List.length r1.2.1):Int)+(1:Int))).toNat ((0:Int),bs [],())) (List.take (zW zI (((List.length r1.2.1):Int)+(1:Int))).toNat (List.drop 0 (List.take r2.1.toNat r1.2.1))) 0) r2.1.toNat (r2.2,c,())) (List.take ((zW zI (((List.length r1.2.1):Int)+(1:Int))).toNat-(zW zI (r2.1+(1:Int))).toNat) (List.drop r2.1.toNat (List.take (List.length r1.2.1) r1.2.1))) (zW zI (r2.1+(1:Int))).toNat)) then d (a.1,putL (List.set (putL (List.replicate (zW zI (((List.length r1.2.1):Int)+(1:Int))).toNat (0,bs [],())) (List.take (zW zI (((List.length r1.2.1):Int)+(1:Int))).toNat (List.drop 0 (List.take r2.1.toNat r1.2.1))) 0) r2.1.toNat (r2.2,c,())) (List.take ((zW zI (((List.length r1.2.1):Int)+(1:Int))).toNat-(zW zI (r2.1+(1:Int))).toNat) (List.drop r2.1.toNat (List.take (List.length r1.2.1) r1.2.1))) (zW zI (r2.1+(1:Int))).toNat,()) else none else none else none else none else none else none else none else none) else none else none else none else none else none else none
def Q186(a:Zt19)(b:Int)(c:ByteArray):Option Zt19:=
 znv a b c (fun a0=>some a0)
def znq{R:Type}(a:Zt20)(b:Zt19)(c:Zt6→Option R)(d:Int→Zt13→Int→Int→Zt20→Zt6→Option R):Option R:=
 (Q221 a).bind fun r1=>bif !decide (r1.1=0) then c (1,(-1:Int),()) else(Q192 b.1).bind fun r2=>bif !r2.2 then c (7,0,()) else bif !decide (r2.1=a.2.1) then c (7,0,()) else d 0 b.2.1 ((List.length b.2.1):Int) 0 a (0,0,())
def z125{R:Type}(a:Int)(b:Zt13)(c d:Int)(e:Zt20)(f:Zt6)(g:Zt6→Option R)(h:Int→Zt13→Int→Int→Zt20→Zt6→Option R)(i:Zt6→Option R):Option R:=
 bif d<c then zd d (List.length b) (bif(List.getD b d.toNat (0,bs [],())).1≤a then g (11,(List.getD b d.toNat (0,bs [],())).1,()) else(Q222 e (List.getD b d.toNat (0,bs [],())).1).bind fun r3=>bif !r3.2 then g (9,(List.getD b d.toNat (0,bs [],())).1,()) else(Q229 r3.1 (List.getD b d.toNat (0,bs [],())).2.1).bind fun r4=>bif !decide (r4=0) then g (r4,(List.getD b d.toNat (0,bs [],())).1,()) else h (List.getD b d.toNat (0,bs [],())).1 b c (zW zI (d+1)) e f) else i f
def z126{R:Type}(a:Zt6)(b:Zt6→Option R):Option R:=
 b a
def z128{R:Type}(a:Zt6)(b:Zt6→Option R):Option R:=
 b (0,0,())
def zcc:Nat→Int→Zt13→Int→Int→Zt20→Zt6→Option (Sum Zt6 Zt6)
 |0,_,_,_,_,_,_=>none
 |k+1,v0,v1,v2,v3,v4,v5=>z125 v0 v1 v2 v3 v4 v5 (fun a0=>some (.inl a0)) (fun a0 a1 a2 a3 a4 a5=>zcc k a0 a1 a2 a3 a4 a5) (fun a0=>some (.inr a0))
def Q183(a:Zt20)(b:Zt19):Option Zt6:=
 znq a b (fun a0=>some a0) (fun a0 a1 a2 a3 a4 a5=>(zcc FUEL a0 a1 a2 a3 a4 a5).bind fun e=>Sum.elim (fun(we:Zt6)=>z126 we (fun a0=>some a0)) (fun(we:Zt6)=>z128 we (fun a0=>some a0)) e)
def znu{R:Type}(a:Zt19)(b:Zt13→Int→Int→Zt6→Zt6→Option R):Option R:=
 b a.2.1 ((List.length a.2.1):Int) 0 (0,0,()) (0,0,())
def z12d{R:Type}(a:Zt13)(b c:Int)(d e:Zt6)(f:Zt13→Int→Int→Zt6→Zt6→Option R)(g:Zt6→Zt6→Option R):Option R:=
 bif c<b then zd c (List.length a) ((Q40 e (List.getD a c.toNat (0,bs [],())).1).bind fun r1=>f a b (zW zI (c+1)) d r1) else g d e
def z12e{R:Type}(a b:Zt6)(c:Zt6→Option R):Option R:=
 c b
def zce:Nat→Zt13→Int→Int→Zt6→Zt6→Option (Zt6×Zt6)
 |0,_,_,_,_,_=>none
 |k+1,v0,v1,v2,v3,v4=>z12d v0 v1 v2 v3 v4 (fun a0 a1 a2 a3 a4=>zce k a0 a1 a2 a3 a4) (fun a0 a1=>some (a0,a1))
def Q185(a:Zt19):Option Zt6:=
 znu a (fun a0 a1 a2 a3 a4=>(zce FUEL a0 a1 a2 a3 a4).bind fun e=>z12e e.1 e.2 (fun a0=>some a0))
end Groat

namespace Groat
open Go.IntKind renaming wrap→zW,i64→zI,u8→zU
open Go Go.Ref
def zor{R:Type}(a:Zt22)(b c:Zt20)(d:Zt15→Zt15→Int→Option R):Option R:=
 (Q222 b a.2.1).bind fun r1=>(Q222 c a.2.2.1).bind fun r2=>bif a.1=3 then bif a.1=2 then bif !decide (a.2.1=0) then d r1.1 r2.1 9 else bif !decide (a.2.2.1=0) then d r1.1 r2.1 9 else d r1.1 r2.1 0 else bif !decide (a.2.1=0) then d r1.1 r2.1 9 else bif !r2.2 then d r1.1 r2.1 9 else d r1.1 r2.1 0 else bif a.1=2 then bif !r1.2 then d r1.1 r2.1 9 else bif !decide (a.2.2.1=0) then d r1.1 r2.1 9 else d r1.1 r2.1 0 else bif !r1.2 then d r1.1 r2.1 9 else bif !r2.2 then d r1.1 r2.1 9 else d r1.1 r2.1 0
def Q218(a:Zt22)(b c:Zt20):Option (Zt15×Zt15×Int):=
 zor a b c (fun a0 a1 a2=>some (a0,a1,a2))
def zos{R:Type}(a:Zt15)(b:Bool→Option R):Option R:=
 bif a.2.1=1 then b (decide (a.2.2.1=1)) else b false
def Q219(a:Zt15):Option Bool:=
 zos a (fun a0=>some a0)
def zou{R:Type}(a:Zt16)(b c:Zt15)(d:Int→Option R)(e:Zt16→Int→Int→Zt15→Zt15→Option R):Option R:=
 (Q22 a).bind fun r1=>bif !decide (r1.1=0) then d 15 else bif((List.length a):Int)=0 then d 15 else e a ((List.length a):Int) 0 b c
def z131{R:Type}(a:Zt16)(b c:Int)(d e:Zt15)(f:Int→Option R)(g:Zt16→Int→Int→Zt15→Zt15→Option R)(h:Option R):Option R:=
 bif c<b then zd c (List.length a) ((Q229 d (List.getD a c.toNat (bs [],bs [],())).1).bind fun r2=>bif !decide (r2=0) then f r2 else(Q229 e (List.getD a c.toNat (bs [],bs [],())).2.1).bind fun r3=>bif !decide (r3=0) then f r3 else g a b (zW zI (c+1)) d e) else h
def z132{R:Type}(a:Int)(b:Int→Option R):Option R:=
 b a
def z133{R:Type}(a:Int→Option R):Option R:=
 a 0
def zcm:Nat→Zt16→Int→Int→Zt15→Zt15→Option (Sum Int Unit)
 |0,_,_,_,_,_=>none
 |k+1,v0,v1,v2,v3,v4=>z131 v0 v1 v2 v3 v4 (fun a0=>some (.inl a0)) (fun a0 a1 a2 a3 a4=>zcm k a0 a1 a2 a3 a4) (some (.inr ()))
def Q220(a:Zt16)(b c:Zt15):Option Int:=
 zou a b c (fun a0=>some a0) (fun a0 a1 a2 a3 a4=>(zcm FUEL a0 a1 a2 a3 a4).bind fun e=>Sum.elim (fun(we:Int)=>z132 we (fun a0=>some a0)) (fun(we:Unit)=>z133 (fun a0=>some a0)) e)
def zoq{R:Type}(a:Zt22)(b c:Zt20)(d:Int→Option R):Option R:=
 bif a.1<1 then d 1 else bif 5<a.1 then d 1 else(Q218 a b c).bind fun r1=>bif !decide (r1.2.2=0) then d r1.2.2 else bif !decide (a.2.2.2.1=bs []) then bif !decide (a.1=3) then d 3 else bif 0<((List.length a.2.2.2.2.1):Int) then bif !decide (a.1=5) then d 3 else bif a.1=1 then(Q230 r1.2.1 r1.1).bind fun r2=>bif !r2 then d 6 else d 0 else bif a.1=3 then(Q229 r1.2.1 a.2.2.2.1).bind fun r3=>d r3 else bif a.1=4 then(Q219 r1.1).bind fun r4=>bif !r4 then d 6 else(Q219 r1.2.1).bind fun r5=>bif !r5 then d 6 else d 0 else bif a.1=5 then(Q220 a.2.2.2.2.1 r1.1 r1.2.1).bind fun r6=>d r6 else d 0 else bif a.1=1 then(Q230 r1.2.1 r1.1).bind fun r7=>bif !r7 then d 6 else d 0 else bif a.1=3 then(Q229 r1.2.1 a.2.2.2.1).bind fun r8=>d r8 else bif a.1=4 then(Q219 r1.1).bind fun r9=>bif !r9 then d 6 else(Q219 r1.2.1).bind fun r10=>bif !r10 then d 6 else d 0 else bif a.1=5 then(Q220 a.2.2.2.2.1 r1.1 r1.2.1).bind fun r11=>d r11 else d 0 else bif 0<((List.length a.2.2.2.2.1):Int) then bif !decide (a.1=5) then d 3 else bif a.1=1 then(Q230 r1.2.1 r1.1).bind fun r12=>bif !r12 then d 6 else d 0 else bif a.1=3 then(Q229 r1.2.1 a.2.2.2.1).bind fun r13=>d r13 else bif a.1=4 then(Q219 r1.1).bind fun r14=>bif !r14 then d 6 else(Q219 r1.2.1).bind fun r15=>bif !r15 then d 6 else d 0 else bif a.1=5 then(Q220 a.2.2.2.2.1 r1.1 r1.2.1).bind fun r16=>d r16 else d 0 else bif a.1=1 then(Q230 r1.2.1 r1.1).bind fun r17=>bif !r17 then d 6 else d 0 else bif a.1=3 then(Q229 r1.2.1 a.2.2.2.1).bind fun r18=>d r18 else bif a.1=4 then(Q219 r1.1).bind fun r19=>bif !r19 then d 6 else(Q219 r1.2.1).bind fun r20=>bif !r20 then d 6 else d 0 else bif a.1=5 then(Q220 a.2.2.2.2.1 r1.1 r1.2.1).bind fun r21=>d r21 else d 0
def Q217(a:Zt22)(b c:Zt20):Option Int:=
 zoq a b c (fun a0=>some a0)
def zop{R:Type}(a:Zt22)(b:Zt20)(c:ByteArray)(d:Zt9→Int→Option R):Option R:=
 bif a.1=1 then d (a.2.2.1,c,()) 0 else bif a.1=2 then d (0,bs [],()) 0 else bif a.1=3 then d (a.2.2.1,a.2.2.2.1,()) 0 else bif a.1=4 then(Q222 b a.2.2.1).bind fun r1=>bif !r1.2 then d (0,bs [],()) 9 else(Q30 c r1.1.2.2.2.1).bind fun r2=>bif !r2.2 then d (0,bs [],()) 5 else d (a.2.2.1,r2.1,()) 0 else bif a.1=5 then(Q20 a.2.2.2.2.1 c).bind fun r3=>bif !r3.2 then d (0,bs [],()) 15 else d (a.2.2.1,r3.1,()) 0 else d (0,bs [],()) 1
def Q216(a:Zt22)(b:Zt20)(c:ByteArray):Option (Zt9×Int):=
 zop a b c (fun a0 a1=>some (a0,a1))
end Groat

namespace Groat
open Go.IntKind renaming wrap→zW,i64→zI,u8→zU
open Go Go.Ref
def zqc{R:Type}(a:Zt11)(b c:Zt20)(d:Bool→Option R):Option R:=
 (Q192 a.1).bind fun r1=>(Q192 a.2.1).bind fun r2=>bif r1.2 then bif r2.2 then bif r1.1=b.2.1 then bif r2.1=c.2.1 then(Q189 a.1).bind fun r3=>(Q189 a.2.1).bind fun r4=>d (r3==r4) else d false else d false else d false else d false
def Q255(a:Zt11)(b c:Zt20):Option Bool:=
 zqc a b c (fun a0=>some a0)
def zq0{R:Type}(a:Zt26)(b c:Zt20)(d:Zt21→Int→Int→Zt26→Zt20→Zt20→Option R):Option R:=
 d ([b,c]:List Zt20) ((List.length ([b,c]:List Zt20)):Int) 0 a b c
def zq1{R:Type}(a:Zt21)(b c:Int)(d:Zt26)(e f:Zt20)(g:Int→Int→Int→Zt26→Zt20→Zt20→Option R)(h:Zt21→Int→Int→Zt26→Zt20→Zt20→Option R)(i:Zt26→Zt20→Zt20→Option R):Option R:=
 bif c<b then zd c (List.length a) ((Q221 (List.getD a c.toNat (0,0,[],()))).bind fun r1=>bif !decide (r1.1=0) then g 1 1 c d e f else h a b (zW zI (c+1)) d e f) else i d e f
def z13x{R:Type}(a b c:Int)(d:Zt26)(e f:Zt20)(g:Int→Int→Int→Option R):Option R:=
 g a b c
def zq2{R:Type}(a:Zt26)(b c:Zt20)(d:Int→Int→Int→Option R)(e:Zt16→Int→Int→Zt26→Zt20→Zt20→Zt10→Option R):Option R:=
 bif 256<((List.length a.1):Int) then d 5 2 256 else e a.1 ((List.length a.1):Int) 0 a b c []
def z13y{R:Type}(a:Zt16)(b c:Int)(d:Zt26)(e f:Zt20)(g:Zt10)(h:Int→Int→Int→Zt26→Zt20→Zt20→Option R)(i:Zt16→Int→Int→Zt26→Zt20→Zt20→Zt10→Option R)(j:Zt26→Zt20→Zt20→Option R):Option R:=
 bif c<b then zd c (List.length a) ((Q255 (List.getD a c.toNat (bs [],bs [],())) e f).bind fun r2=>bif !r2 then h 7 2 c d e f else bif mget (eqK .str) false g (List.getD a c.toNat (bs [],bs [],())).1 then h 10 2 c d e f else bif mhas (eqK .str) g (List.getD a c.toNat (bs [],bs [],())).1 then none else i a b (zW zI (c+1)) d e f (g++ [((List.getD a c.toNat (bs [],bs [],())).1,true)])) else j d e f
def z13z{R:Type}(a b c:Int)(d:Zt26)(e f:Zt20)(g:Int→Int→Int→Option R):Option R:=
 g a b c
def zq3{R:Type}(a:Zt26)(b c:Zt20)(d:Int→Int→Int→Option R)(e:Zt24→Int→Int→Zt20→Zt20→Zt6→Zt6→Option R):Option R:=
 bif 256<((List.length a.2.1):Int) then d 5 3 256 else e a.2.1 ((List.length a.2.1):Int) 0 b c (0,0,()) (0,0,())
def z140{R:Type}(a:Zt24)(b c:Int)(d e:Zt20)(f g:Zt6)(h:Int→Int→Int→Option R)(i:Zt24→Int→Int→Zt20→Zt20→Zt6→Zt6→Option R)(j:Option R):Option R:=
 bif c<b then zd c (List.length a) ((Q217 (List.getD a c.toNat (0,0,0,bs [],[],())) d e).bind fun r3=>bif !decide (r3=0) then h r3 3 c else(Q33 ([(List.getD a c.toNat (0,0,0,bs [],[],())).2.1]:List Int)).bind fun r4=>(Q33 ([(List.getD a c.toNat (0,0,0,bs [],[],())).2.2.1]:List Int)).bind fun r5=>(Q34 f r4).bind fun r6=>bif !(decide (r6.1=0)&&(decide (r6.2.1=0)&&true)) then h 10 3 c else(Q34 g r5).bind fun r7=>bif !(decide (r7.1=0)&&(decide (r7.2.1=0)&&true)) then h 10 3 c else(Q35 f r4).bind fun r8=>(Q35 g r5).bind fun r9=>i a b (zW zI (c+1)) d e r8 r9) else j
def z141{R:Type}(a b c:Int)(d:Int→Int→Int→Option R):Option R:=
 d a b c
def z142{R:Type}(a:Int→Int→Int→Option R):Option R:=
 a 0 0 0
def z9b:Nat→Zt21→Int→Int→Zt26→Zt20→Zt20→Option (Sum Zt33 Zt31)
 |0,_,_,_,_,_,_=>none
 |k+1,v0,v1,v2,v3,v4,v5=>zq1 v0 v1 v2 v3 v4 v5 (fun a0 a1 a2 a3 a4 a5=>some (.inl (a0,a1,a2,a3,a4,a5))) (fun a0 a1 a2 a3 a4 a5=>z9b k a0 a1 a2 a3 a4 a5) (fun a0 a1 a2=>some (.inr (a0,a1,a2)))
def z9c:Nat→Zt16→Int→Int→Zt26→Zt20→Zt20→Zt10→Option (Sum Zt33 Zt31)
 |0,_,_,_,_,_,_,_=>none
 |k+1,v0,v1,v2,v3,v4,v5,v6=>z13y v0 v1 v2 v3 v4 v5 v6 (fun a0 a1 a2 a3 a4 a5=>some (.inl (a0,a1,a2,a3,a4,a5))) (fun a0 a1 a2 a3 a4 a5 a6=>z9c k a0 a1 a2 a3 a4 a5 a6) (fun a0 a1 a2=>some (.inr (a0,a1,a2)))
def zcu:Nat→Zt24→Int→Int→Zt20→Zt20→Zt6→Zt6→Option (Sum Zt1 Unit)
 |0,_,_,_,_,_,_,_=>none
 |k+1,v0,v1,v2,v3,v4,v5,v6=>z140 v0 v1 v2 v3 v4 v5 v6 (fun a0 a1 a2=>some (.inl (a0,a1,a2))) (fun a0 a1 a2 a3 a4 a5 a6=>zcu k a0 a1 a2 a3 a4 a5 a6) (some (.inr ()))
def Q251(a:Zt26)(b c:Zt20):Option Zt1:=
 zq0 a b c (fun a0 a1 a2 a3 a4 a5=>(z9b FUEL a0 a1 a2 a3 a4 a5).bind fun e=>Sum.elim (fun(we:Zt33)=>z13x we.1 we.2.1 we.2.2.1 we.2.2.2.1 we.2.2.2.2.1 we.2.2.2.2.2 (fun a0 a1 a2=>some (a0,a1,a2))) (fun(we:Zt31)=>zq2 we.1 we.2.1 we.2.2 (fun a0 a1 a2=>some (a0,a1,a2)) (fun a0 a1 a2 a3 a4 a5 a6=>(z9c FUEL a0 a1 a2 a3 a4 a5 a6).bind fun e=>Sum.elim (fun(we:Zt33)=>z13z we.1 we.2.1 we.2.2.1 we.2.2.2.1 we.2.2.2.2.1 we.2.2.2.2.2 (fun a0 a1 a2=>some (a0,a1,a2))) (fun(we:Zt31)=>zq3 we.1 we.2.1 we.2.2 (fun a0 a1 a2=>some (a0,a1,a2)) (fun a0 a1 a2 a3 a4 a5 a6=>(zcu FUEL a0 a1 a2 a3 a4 a5 a6).bind fun e=>Sum.elim (fun(we:Zt1)=>z141 we.1 we.2.1 we.2.2 (fun a0 a1 a2=>some (a0,a1,a2))) (fun(we:Unit)=>z142 (fun a0 a1 a2=>some (a0,a1,a2))) e)) e)) e)
def zqb{R:Type}(a:Zt26)(b:ByteArray)(c:ByteArray→Zt16→Int→Int→Option R):Option R:=
 c b a.1 ((List.length a.1):Int) 0
def z14f{R:Type}(a:ByteArray)(b:Zt16)(c d:Int)(e:ByteArray→Bool→Option R)(f:ByteArray→Zt16→Int→Int→Option R)(g:Option R):Option R:=
 bif d<c then zd d (List.length b) (bif(List.getD b d.toNat (bs [],bs [],())).1=a then e (List.getD b d.toNat (bs [],bs [],())).2.1 true else f a b c (zW zI (d+1))) else g
def z14g{R:Type}(a:ByteArray)(b:Bool)(c:ByteArray→Bool→Option R):Option R:=
 c a b
def z14h{R:Type}(a:ByteArray→Bool→Option R):Option R:=
 a (bs []) false
def zcy:Nat→ByteArray→Zt16→Int→Int→Option (Sum Zt5 Unit)
 |0,_,_,_,_=>none
 |k+1,v0,v1,v2,v3=>z14f v0 v1 v2 v3 (fun a0 a1=>some (.inl (a0,a1))) (fun a0 a1 a2 a3=>zcy k a0 a1 a2 a3) (some (.inr ()))
def Q254(a:Zt26)(b:ByteArray):Option Zt5:=
 zqb a b (fun a0 a1 a2 a3=>(zcy FUEL a0 a1 a2 a3).bind fun e=>Sum.elim (fun(we:Zt5)=>z14g we.1 we.2 (fun a0 a1=>some (a0,a1))) (fun(we:Unit)=>z14h (fun a0 a1=>some (a0,a1))) e)
def zq9{R:Type}(a:Zt26)(b:Int)(c:Int→Zt24→Int→Int→Zt22→Option R):Option R:=
 c b a.2.1 ((List.length a.2.1):Int) 0 (0,0,0,bs [],[],())
def z14b{R:Type}(a:Int)(b:Zt24)(c d:Int)(e:Zt22)(f:Bool→Zt22→Option R)(g:Int→Zt24→Int→Int→Zt22→Option R)(h:Zt22→Option R):Option R:=
 bif d<c then zd d (List.length b) (bif(List.getD b d.toNat (0,0,0,bs [],[],())).2.1=a then f true (List.getD b d.toNat (0,0,0,bs [],[],())) else g a b c (zW zI (d+1)) e) else h e
def z14c{R:Type}(a:Bool)(b:Zt22)(c:Zt22→Bool→Option R):Option R:=
 c b a
def z14d{R:Type}(a:Zt22)(b:Zt22→Bool→Option R):Option R:=
 b (0,0,0,bs [],[],()) false
def zcx:Nat→Int→Zt24→Int→Int→Zt22→Option (Sum (Bool×Zt22) Zt22)
 |0,_,_,_,_,_=>none
 |k+1,v0,v1,v2,v3,v4=>z14b v0 v1 v2 v3 v4 (fun a0 a1=>some (.inl (a0,a1))) (fun a0 a1 a2 a3 a4=>zcx k a0 a1 a2 a3 a4) (fun a0=>some (.inr a0))
def Q253(a:Zt26)(b:Int):Option (Zt22×Bool):=
 zq9 a b (fun a0 a1 a2 a3 a4=>(zcx FUEL a0 a1 a2 a3 a4).bind fun e=>Sum.elim (fun(we:(Bool×Zt22))=>z14c we.1 we.2 (fun a0 a1=>some (a0,a1))) (fun(we:Zt22)=>z14d we (fun a0 a1=>some (a0,a1))) e)
def zq6{R:Type}(a:Zt26)(b c:Zt20)(d:Zt19)(e:Zt19→Zt6→Option R)(f:Zt24→Int→Int→Zt26→Zt20→Zt19→Zt19→Zt6→Zt19→Option R):Option R:=
 (Q251 a b c).bind fun r1=>bif !decide (r1.1=0) then e (bs [],[],()) (1,(-1:Int),()) else(Q183 b d).bind fun r2=>bif !decide (r2.1=0) then e (bs [],[],()) r2 else(Q254 a d.1).bind fun r3=>bif !r3.2 then e (bs [],[],()) (7,0,()) else f a.2.1 ((List.length a.2.1):Int) 0 a c d (bs [],[],()) (0,0,()) (r3.1,[],())
def z144{R:Type}(a:Zt24)(b c:Int)(d:Zt26)(e:Zt20)(f g:Zt19)(h:Zt6)(i:Zt19)(j:Zt24→Int→Int→Zt26→Zt20→Zt19→Zt19→Zt6→Zt19→Option R)(l:Zt26→Zt20→Zt19→Zt19→Zt6→Zt19→Option R):Option R:=
 bif c<b then zd c (List.length a) (bif(List.getD a c.toNat (0,0,0,bs [],[],())).1=3 then(Q186 i (List.getD a c.toNat (0,0,0,bs [],[],())).2.2.1 (List.getD a c.toNat (0,0,0,bs [],[],())).2.2.2.1).bind fun r4=>j a b (zW zI (c+1)) d e f g h r4 else j a b (zW zI (c+1)) d e f g h i) else l d e f g h i
def zq7{R:Type}(a:Zt26)(b:Zt20)(c d:Zt19)(e:Zt6)(f:Zt19)(g:Zt13→Int→Int→Zt26→Zt20→Zt19→Zt6→Zt19→Option R):Option R:=
 g c.2.1 ((List.length c.2.1):Int) 0 a b d e f
def z145{R:Type}(a:Zt13)(b c:Int)(d:Zt26)(e:Zt20)(f:Zt19)(g:Zt6)(h:Zt19)(i:Zt19→Zt6→Zt19→Option R)(j:Zt13→Int→Int→Zt26→Zt20→Zt19→Zt6→Zt19→Option R)(l:Zt19→Zt6→Zt19→Option R):Option R:=
 bif c<b then zd c (List.length a) ((Q253 d (List.getD a c.toNat (0,bs [],())).1).bind fun r5=>bif !r5.2 then i (bs [],[],()) (9,(List.getD a c.toNat (0,bs [],())).1,()) h else(Q216 r5.1 e (List.getD a c.toNat (0,bs [],())).2.1).bind fun r6=>bif !decide (r6.2=0) then i (bs [],[],()) (r6.2,(List.getD a c.toNat (0,bs [],())).1,()) h else bif !decide (r6.1.1=0) then(Q186 h r6.1.1 r6.1.2.1).bind fun r7=>j a b (zW zI (c+1)) d e f g r7 else j a b (zW zI (c+1)) d e f g h) else l f g h
def z147{R:Type}(a:Zt19)(b:Zt6)(c:Zt19)(d:Zt19→Zt6→Option R):Option R:=
 d a b
def z149{R:Type}(a:Zt19)(b:Zt6)(c:Zt19)(d:Zt19→Zt6→Option R):Option R:=
 d c (0,0,())
def zcv:Nat→Zt24→Int→Int→Zt26→Zt20→Zt19→Zt19→Zt6→Zt19→Option (Zt26×Zt20×Zt19×Zt19×Zt6×Zt19)
 |0,_,_,_,_,_,_,_,_,_=>none
 |k+1,v0,v1,v2,v3,v4,v5,v6,v7,v8=>z144 v0 v1 v2 v3 v4 v5 v6 v7 v8 (fun a0 a1 a2 a3 a4 a5 a6 a7 a8=>zcv k a0 a1 a2 a3 a4 a5 a6 a7 a8) (fun a0 a1 a2 a3 a4 a5=>some (a0,a1,a2,a3,a4,a5))
def zcw:Nat→Zt13→Int→Int→Zt26→Zt20→Zt19→Zt6→Zt19→Option (Sum Zt25 Zt25)
 |0,_,_,_,_,_,_,_,_=>none
 |k+1,v0,v1,v2,v3,v4,v5,v6,v7=>z145 v0 v1 v2 v3 v4 v5 v6 v7 (fun a0 a1 a2=>some (.inl (a0,a1,a2))) (fun a0 a1 a2 a3 a4 a5 a6 a7=>zcw k a0 a1 a2 a3 a4 a5 a6 a7) (fun a0 a1 a2=>some (.inr (a0,a1,a2)))
def Q252(a:Zt26)(b c:Zt20)(d:Zt19):Option (Zt19×Zt6):=
 zq6 a b c d (fun a0 a1=>some (a0,a1)) (fun a0 a1 a2 a3 a4 a5 a6 a7 a8=>(zcv FUEL a0 a1 a2 a3 a4 a5 a6 a7 a8).bind fun e=>zq7 e.1 e.2.1 e.2.2.1 e.2.2.2.1 e.2.2.2.2.1 e.2.2.2.2.2 (fun a0 a1 a2 a3 a4 a5 a6 a7=>(zcw FUEL a0 a1 a2 a3 a4 a5 a6 a7).bind fun e=>Sum.elim (fun(we:Zt25)=>z147 we.1 we.2.1 we.2.2 (fun a0 a1=>some (a0,a1))) (fun(we:Zt25)=>z149 we.1 we.2.1 we.2.2 (fun a0 a1=>some (a0,a1))) e))
end Groat

namespace Groat
open Go.IntKind renaming wrap→zW,i64→zI,u8→zU
open Go Go.Ref
def zp7{R:Type}(a:(List Int))(b:Int)(c:(List Int)→Int→Int→Int→Option R):Option R:=
 c a b ((List.length a):Int) 0
def z13i{R:Type}(a:(List Int))(b c d:Int)(e:Int→Option R)(f:(List Int)→Int→Int→Int→Option R)(g:Option R):Option R:=
 bif d<c then zd d (List.length a) (bif b=List.getD a d.toNat 0 then e d else f a b c (zW zI (d+1))) else g
def z13j{R:Type}(a:Int)(b:Int→Option R):Option R:=
 b a
def z13k{R:Type}(a:Int→Option R):Option R:=
 a (-1:Int)
def zcr:Nat→(List Int)→Int→Int→Int→Option (Sum Int Unit)
 |0,_,_,_,_=>none
 |k+1,v0,v1,v2,v3=>z13i v0 v1 v2 v3 (fun a0=>some (.inl a0)) (fun a0 a1 a2 a3=>zcr k a0 a1 a2 a3) (some (.inr ()))
def Q227(a:(List Int))(b:Int):Option Int:=
 zp7 a b (fun a0 a1 a2 a3=>(zcr FUEL a0 a1 a2 a3).bind fun e=>Sum.elim (fun(we:Int)=>z13j we (fun a0=>some a0)) (fun(we:Unit)=>z13k (fun a0=>some a0)) e)
def zp1{R:Type}(a:(List Int))(b:Int)(c:Bool→Option R):Option R:=
 (Q227 a b).bind fun r1=>c (decide (0≤r1))
def Q224(a:(List Int))(b:Int):Option Bool:=
 zp1 a b (fun a0=>some a0)
end Groat

namespace Groat
open Go.IntKind renaming wrap→zW,i64→zI,u8→zU
open Go Go.Ref
def zok{R:Type}(a:Zt28)(b:Int)(c:Int→Option R):Option R:=
 zd b (List.length a.2.2.1) ((Q222 a.1 (List.getD a.2.2.1 b.toNat (0:Int))).bind fun r1=>bif !r1.2 then c 9 else bif List.getD a.2.2.1 b.toNat 0=39 then c 1 else bif 0≤b then bif b≤(((List.length a.2.2.1):Nat):Int) then(Q224 (List.drop 0 (List.take b.toNat a.2.2.1)) (List.getD a.2.2.1 b.toNat (0:Int))).bind fun r2=>bif r2 then c 10 else c 0 else none else none)
def Q203(a:Zt28)(b:Int):Option Int:=
 zok a b (fun a0=>some a0)
def zoj{R:Type}(a b:Zt9)(c:Bool→Zt9→Option R):Option R:=
 c (decide (a.1=b.1)) b
def Q202(a b:Zt9):Option (Bool×Zt9):=
 zoj a b (fun a0 a1=>some (a0,a1))
def zp3{R:Type}(a:Zt13)(b:Zt9)(c:Zt13→Int→Int→Zt9→Option R):Option R:=
 c a ((List.length a):Int) 0 b
def z13a{R:Type}(a:Zt13)(b c:Int)(d:Zt9)(e:Int→Zt9→Option R)(f:Zt13→Int→Int→Zt9→Option R)(g:Zt9→Option R):Option R:=
 bif c<b then zd c (List.length a) ((Q202 (List.getD a c.toNat (0,bs [],())) d).bind fun r1=>bif r1.1 then e c r1.2 else f a b (zW zI (c+1)) r1.2) else g d
def z13b{R:Type}(a:Int)(b:Zt9)(c:Int→Zt9→Option R):Option R:=
 c a b
def z13c{R:Type}(a:Zt9)(b:Int→Zt9→Option R):Option R:=
 b (-1:Int) a
def zcp:Nat→Zt13→Int→Int→Zt9→Option (Sum (Int×Zt9) Zt9)
 |0,_,_,_,_=>none
 |k+1,v0,v1,v2,v3=>z13a v0 v1 v2 v3 (fun a0 a1=>some (.inl (a0,a1))) (fun a0 a1 a2 a3=>zcp k a0 a1 a2 a3) (fun a0=>some (.inr a0))
def Q225(a:Zt13)(b:Zt9):Option (Int×Zt9):=
 zp3 a b (fun a0 a1 a2 a3=>(zcp FUEL a0 a1 a2 a3).bind fun e=>Sum.elim (fun(we:(Int×Zt9))=>z13b we.1 we.2 (fun a0 a1=>some (a0,a1))) (fun(we:Zt9)=>z13c we (fun a0 a1=>some (a0,a1))) e)
def zp0{R:Type}(a:Zt13)(b:Zt9)(c:Bool→Zt9→Option R):Option R:=
 (Q225 a b).bind fun r1=>c (decide (0≤r1.1)) r1.2
def Q223(a:Zt13)(b:Zt9):Option (Bool×Zt9):=
 zp0 a b (fun a0 a1=>some (a0,a1))
def zoi{R:Type}(a:Zt28)(b:Int)(c:Zt15)(d:Int→Option R):Option R:=
 zd b (List.length a.2.2.2.1) (bif(List.getD a.2.2.2.1 b.toNat (0,bs [],())).1<0 then d 1 else bif 16<(List.getD a.2.2.2.1 b.toNat (0,bs [],())).1 then d 1 else bif 0≤b then bif b≤(((List.length a.2.2.2.1):Nat):Int) then(Q223 (List.drop 0 (List.take b.toNat a.2.2.2.1)) (List.getD a.2.2.2.1 b.toNat (0,bs [],()))).bind fun r1=>bif r1.1 then d 10 else(Q229 c r1.2.2.1).bind fun r2=>d r2 else none else none)
def Q201(a:Zt28)(b:Int)(c:Zt15):Option Int:=
 zoi a b c (fun a0=>some a0)
def zob{R:Type}(a:Zt28)(b:Int→Int→Int→Option R)(c:Int→Int→Zt28→Zt15→Option R):Option R:=
 (Q221 a.1).bind fun r1=>bif !decide (r1.1=0) then b 1 1 0 else(Q222 a.1 (39:Int)).bind fun r2=>bif !r2.2 then b 9 1 1 else c ((List.length a.2.2.1):Int) 0 a r2.1
def zcj{R:Type}(a b:Int)(c:Zt28)(d:Zt15)(e:Int→Int→Int→Zt28→Zt15→Option R)(f:Int→Int→Zt28→Zt15→Option R)(g:Zt28→Zt15→Option R):Option R:=
 bif b<a then(Q203 c b).bind fun r3=>bif !decide (r3=0) then e r3 2 b c d else f a (zW zI (b+1)) c d else g c d
def z12o{R:Type}(a b c:Int)(d:Zt28)(e:Zt15)(f:Int→Int→Int→Option R):Option R:=
 f a b c
def zoc{R:Type}(a:Zt28)(b:Zt15)(c:Bool→Zt13→Int→Int→Zt28→Zt15→Option R):Option R:=
 c false a.2.2.2.1 ((List.length a.2.2.2.1):Int) 0 a b
def zck{R:Type}(a:Bool)(b:Zt13)(c d:Int)(e:Zt28)(f:Zt15)(g:Int→Int→Int→Bool→Zt28→Option R)(h:Bool→Zt13→Int→Int→Zt28→Zt15→Option R)(i:Bool→Zt28→Option R):Option R:=
 bif d<c then zd d (List.length b) ((Q201 e d f).bind fun r4=>bif !decide (r4=0) then g r4 3 d a e else bif a then h true b c (zW zI (d+1)) e f else h (decide ((List.getD b d.toNat (0,bs [],())).1=0)) b c (zW zI (d+1)) e f) else i a e
def z12p{R:Type}(a b c:Int)(d:Bool)(e:Zt28)(f:Int→Int→Int→Option R):Option R:=
 f a b c
def zod{R:Type}(a:Bool)(b:Zt28)(c:Int→Int→Int→Option R):Option R:=
 bif !a then c 15 3 ((List.length b.2.2.2.1):Int) else c 0 0 0
def z7e:Nat→Int→Int→Zt28→Zt15→Option (Sum (Int×Int×Int×Zt28×Zt15) (Zt28×Zt15))
 |0,_,_,_,_=>none
 |k+1,v0,v1,v2,v3=>zcj v0 v1 v2 v3 (fun a0 a1 a2 a3 a4=>some (.inl (a0,a1,a2,a3,a4))) (fun a0 a1 a2 a3=>z7e k a0 a1 a2 a3) (fun a0 a1=>some (.inr (a0,a1)))
def z7f:Nat→Bool→Zt13→Int→Int→Zt28→Zt15→Option (Sum (Int×Int×Int×Bool×Zt28) (Bool×Zt28))
 |0,_,_,_,_,_,_=>none
 |k+1,v0,v1,v2,v3,v4,v5=>zck v0 v1 v2 v3 v4 v5 (fun a0 a1 a2 a3 a4=>some (.inl (a0,a1,a2,a3,a4))) (fun a0 a1 a2 a3 a4 a5=>z7f k a0 a1 a2 a3 a4 a5) (fun a0 a1=>some (.inr (a0,a1)))
def Q199(a:Zt28):Option Zt1:=
 zob a (fun a0 a1 a2=>some (a0,a1,a2)) (fun a0 a1 a2 a3=>(z7e FUEL a0 a1 a2 a3).bind fun e=>Sum.elim (fun(we:(Int×Int×Int×Zt28×Zt15))=>z12o we.1 we.2.1 we.2.2.1 we.2.2.2.1 we.2.2.2.2 (fun a0 a1 a2=>some (a0,a1,a2))) (fun(we:(Zt28×Zt15))=>zoc we.1 we.2 (fun a0 a1 a2 a3 a4 a5=>(z7f FUEL a0 a1 a2 a3 a4 a5).bind fun e=>Sum.elim (fun(we:(Int×Int×Int×Bool×Zt28))=>z12p we.1 we.2.1 we.2.2.1 we.2.2.2.1 we.2.2.2.2 (fun a0 a1 a2=>some (a0,a1,a2))) (fun(we:(Bool×Zt28))=>zod we.1 we.2 (fun a0 a1 a2=>some (a0,a1,a2))) e)) e)
def zog{R:Type}(a:Zt28)(b:Int)(c:(List Int)→Int→Int→Zt28→Option R):Option R:=
 c ([b,0]:List Int) ((List.length ([b,(0:Int)]:List Int)):Int) 0 a
def zcl{R:Type}(a:(List Int))(b c:Int)(d:Zt28)(e:Int→(List Int)→Int→Int→Zt13→Int→Int→Zt28→Option R)(f:Option R):Option R:=
 bif c<b then zd c (List.length a) (e (List.getD a c.toNat 0) a b c d.2.2.2.1 ((List.length d.2.2.2.1):Int) 0 d) else f
def z12t{R:Type}(a:ByteArray→Option R):Option R:=
 a (bs [])
def z12u{R:Type}(a:Int)(b:(List Int))(c d:Int)(e:Zt13)(f g:Int)(h:Zt28)(i:ByteArray→(List Int)→Int→Int→Zt28→Option R)(j:Int→(List Int)→Int→Int→Zt13→Int→Int→Zt28→Option R)(l:(List Int)→Int→Int→Zt28→Option R):Option R:=
 bif g<f then zd g (List.length e) (bif(List.getD e g.toNat (0,bs [],())).1=a then i (List.getD e g.toNat (0,bs [],())).2.1 b c d h else j a b c d e f (zW zI (g+1)) h) else l b c d h
def z12v{R:Type}(a:ByteArray)(b:(List Int))(c d:Int)(e:Zt28)(f:ByteArray→Option R):Option R:=
 f a
def zoh{R:Type}(a:(List Int))(b c:Int)(d:Zt28)(e:(List Int)→Int→Int→Zt28→Option R):Option R:=
 e a b (zW zI (c+1)) d
def z12w{R:Type}(a:ByteArray)(b:ByteArray→Option R):Option R:=
 b a
def z95:Nat→Int→(List Int)→Int→Int→Zt13→Int→Int→Zt28→Option (Sum (ByteArray×(List Int)×Int×Int×Zt28) ((List Int)×Int×Int×Zt28))
 |0,_,_,_,_,_,_,_,_=>none
 |k+1,v0,v1,v2,v3,v4,v5,v6,v7=>z12u v0 v1 v2 v3 v4 v5 v6 v7 (fun a0 a1 a2 a3 a4=>some (.inl (a0,a1,a2,a3,a4))) (fun a0 a1 a2 a3 a4 a5 a6 a7=>z95 k a0 a1 a2 a3 a4 a5 a6 a7) (fun a0 a1 a2 a3=>some (.inr (a0,a1,a2,a3)))
def z5y:Nat→(List Int)→Int→Int→Zt28→Option (Sum Unit ByteArray)
 |0,_,_,_,_=>none
 |k+1,v0,v1,v2,v3=>zcl v0 v1 v2 v3 (fun a0 a1 a2 a3 a4 a5 a6 a7=>(z95 FUEL a0 a1 a2 a3 a4 a5 a6 a7).bind fun e=>Sum.elim (fun(we:(ByteArray×(List Int)×Int×Int×Zt28))=>z12v we.1 we.2.1 we.2.2.1 we.2.2.2.1 we.2.2.2.2 (fun a0=>some (.inr a0))) (fun(we:((List Int)×Int×Int×Zt28))=>zoh we.1 we.2.1 we.2.2.1 we.2.2.2 (fun a0 a1 a2 a3=>z5y k a0 a1 a2 a3)) e) (some (.inl ()))
def Q200(a:Zt28)(b:Int):Option ByteArray:=
 zog a b (fun a0 a1 a2 a3=>(z5y FUEL a0 a1 a2 a3).bind fun e=>Sum.elim (fun(we:Unit)=>z12t (fun a0=>some a0)) (fun(we:ByteArray)=>z12w we (fun a0=>some a0)) e)
def zo7{R:Type}(a:Zt28)(b:Zt19)(c:Zt6)(d:Zt19→Bool→Option R)(e:(List Int)→Int→Int→Zt28→Zt19→Zt6→Zt19→Zt19→Option R):Option R:=
 (Q190 b.1).bind fun r1=>bif !r1.2 then d (bs [],[],()) false else e a.2.2.1 ((List.length a.2.2.1):Int) 0 a b c (bs [],[],()) (r1.1,[],())
def z12l{R:Type}(a:(List Int))(b c:Int)(d:Zt28)(e:Zt19)(f:Zt6)(g h:Zt19)(i:(List Int)→Int→Int→Zt28→Zt19→Zt6→Zt19→Zt19→Option R)(j:Zt28→Zt6→Zt19→Zt19→Option R):Option R:=
 bif c<b then zd c (List.length a) ((Q184 e (List.getD a c.toNat (0:Int))).bind fun r2=>bif r2.2 then(Q186 h (List.getD a c.toNat 0) r2.1).bind fun r3=>i a b (zW zI (c+1)) d e f g r3 else i a b (zW zI (c+1)) d e f g h) else j d f g h
def zo8{R:Type}(a:Zt28)(b:Zt6)(c d:Zt19)(e:Zt19→Bool→Option R):Option R:=
 (Q200 a b.1).bind fun r4=>(Q186 d 39 r4).bind fun r5=>e r5 true
def zci:Nat→(List Int)→Int→Int→Zt28→Zt19→Zt6→Zt19→Zt19→Option (Zt28×Zt6×Zt19×Zt19)
 |0,_,_,_,_,_,_,_,_=>none
 |k+1,v0,v1,v2,v3,v4,v5,v6,v7=>z12l v0 v1 v2 v3 v4 v5 v6 v7 (fun a0 a1 a2 a3 a4 a5 a6 a7=>zci k a0 a1 a2 a3 a4 a5 a6 a7) (fun a0 a1 a2 a3=>some (a0,a1,a2,a3))
def Q198(a:Zt28)(b:Zt19)(c:Zt6):Option (Zt19×Bool):=
 zo7 a b c (fun a0 a1=>some (a0,a1)) (fun a0 a1 a2 a3 a4 a5 a6 a7=>(zci FUEL a0 a1 a2 a3 a4 a5 a6 a7).bind fun e=>zo8 e.1 e.2.1 e.2.2.1 e.2.2.2 (fun a0 a1=>some (a0,a1)))
end Groat

namespace Groat
open Go.IntKind renaming wrap→zW,i64→zI,u8→zU
open Go Go.Ref
def zpe{R:Type}(a:Zt20)(b:ByteArray)(c:ByteArray→Int→Int→Option R):Option R:=
 bif a.1=2 then(Q2 (4:Int)).bind fun r1=>bif(b.size:Int)<r1 then c (bs []) 0 2 else bif 0≤r1 then bif r1≤(b.size:Int) then bif a.1=2 then(Q0 (b.extract 0 r1.toNat) (4:Int)).bind fun r2=>(Q192 r2.1).bind fun r3=>bif !r3.2 then c (bs []) 0 7 else bif !decide (r3.1=a.2.1) then c (bs []) 0 7 else c r2.1 r1 0 else(Q192 (b.extract 0 r1.toNat)).bind fun r4=>bif !r4.2 then c (bs []) 0 7 else bif !decide (r4.1=a.2.1) then c (bs []) 0 7 else c (b.extract 0 r1.toNat) r1 0 else none else none else bif(b.size:Int)<4 then c (bs []) 0 2 else bif 4≤(b.size:Int) then bif a.1=2 then(Q0 (b.extract 0 ((4:Int)).toNat) (4:Int)).bind fun r5=>(Q192 r5.1).bind fun r6=>bif !r6.2 then c (bs []) 0 7 else bif !decide (r6.1=a.2.1) then c (bs []) 0 7 else c r5.1 4 0 else(Q192 (b.extract 0 ((4:Int)).toNat)).bind fun r7=>bif !r7.2 then c (bs []) 0 7 else bif !decide (r7.1=a.2.1) then c (bs []) 0 7 else c (b.extract 0 ((4:Int)).toNat) 4 0 else none
def Q233(a:Zt20)(b:ByteArray):Option Zt8:=
 zpe a b (fun a0 a1 a2=>some (a0,a1,a2))
def zpd{R:Type}(a:Zt20)(b:ByteArray)(c:Zt19→Zt6→Option R)(d:ByteArray→Int→Int→Zt20→Zt19→Zt6→Zt19→Zt6→Option R):Option R:=
 (Q221 a).bind fun r1=>bif !decide (r1.1=0) then c (bs [],[],()) (1,(-1:Int),()) else(Q233 a b).bind fun r2=>bif !decide (r2.2.2=0) then c (bs [],[],()) (r2.2.2,0,()) else(Q5 a.1 b r2.2.1).bind fun r3=>bif !decide (r3.2.2=0) then c (r2.1,[],()) (r3.2.2,1,()) else(Q39 r3.1 (0:Int)).bind fun r4=>d b r3.2.1 r4 a (bs [],[],()) (0,0,()) (r2.1,[],()) r3.1
def zcs{R:Type}(a:ByteArray)(b c:Int)(d:Zt20)(e:Zt19)(f:Zt6)(g:Zt19)(h:Zt6)(i:ByteArray→Int→Zt19→Zt6→Zt19→Option R)(j:ByteArray→Int→Int→Zt20→Zt19→Zt6→Zt19→Zt6→Option R)(l:ByteArray→Int→Zt19→Zt6→Zt19→Option R):Option R:=
 bif !decide (c=0) then(Q222 d c).bind fun r5=>bif !r5.2 then i a b g (9,c,()) g else(Q11 d.1 r5.1 a b).bind fun r6=>bif !decide (r6.2.2=0) then i a b g (r6.2.2,c,()) g else bif(List.length g.2.1+List.length ([(c,r6.1,())]:List Zt9))*24≤140737488355328 then(Q39 h c).bind fun r7=>j a r6.2.1 r7 d e f (g.1,g.2.1++([(c,r6.1,())]:List Zt9),()) h else none else l a b e f g
def z13m{R:Type}(a:ByteArray)(b:Int)(c:Zt19)(d:Zt6)(e:Zt19)(f:Zt19→Zt6→Option R):Option R:=
 f c d
def z13n{R:Type}(a:ByteArray)(b:Int)(c:Zt19)(d:Zt6)(e:Zt19)(f:Zt19→Zt6→Option R):Option R:=
 bif b<(a.size:Int) then f e (12,129,()) else f e (0,0,())
def z7h:Nat→ByteArray→Int→Int→Zt20→Zt19→Zt6→Zt19→Zt6→Option (Sum Zt27 Zt27)
 |0,_,_,_,_,_,_,_,_=>none
 |k+1,v0,v1,v2,v3,v4,v5,v6,v7=>zcs v0 v1 v2 v3 v4 v5 v6 v7 (fun a0 a1 a2 a3 a4=>some (.inl (a0,a1,a2,a3,a4))) (fun a0 a1 a2 a3 a4 a5 a6 a7=>z7h k a0 a1 a2 a3 a4 a5 a6 a7) (fun a0 a1 a2 a3 a4=>some (.inr (a0,a1,a2,a3,a4)))
def Q232(a:Zt20)(b:ByteArray):Option (Zt19×Zt6):=
 zpd a b (fun a0 a1=>some (a0,a1)) (fun a0 a1 a2 a3 a4 a5 a6 a7=>(z7h FUEL a0 a1 a2 a3 a4 a5 a6 a7).bind fun e=>Sum.elim (fun(we:Zt27)=>z13m we.1 we.2.1 we.2.2.1 we.2.2.2.1 we.2.2.2.2 (fun a0 a1=>some (a0,a1))) (fun(we:Zt27)=>z13n we.1 we.2.1 we.2.2.1 we.2.2.2.1 we.2.2.2.2 (fun a0 a1=>some (a0,a1))) e)
end Groat

namespace Groat
open Go.IntKind renaming wrap→zW,i64→zI,u8→zU
open Go Go.Ref
def zpw{R:Type}(a:Int)(b:ByteArray)(c:ByteArray→Bool→Option R):Option R:=
 (Q191 b).bind fun r1=>bif !r1 then c (bs []) false else bif a=1 then c b true else bif a=2 then(Q1 b).bind fun r2=>c r2.1 r2.2 else c (bs []) false
def Q250(a:Int)(b:ByteArray):Option Zt5:=
 zpw a b (fun a0 a1=>some (a0,a1))
def zpv{R:Type}(a b:ByteArray)(c:ByteArray→Option R):Option R:=
 (z1w b a).bind fun r1=>c r1.2
def Q249(a b:ByteArray):Option ByteArray:=
 zpv a b (fun a0=>some a0)
def zpu{R:Type}(a:Zt20)(b:Zt19)(c:ByteArray→Zt6→Option R)(d:Zt13→Int→Int→Zt20→Zt6→ByteArray→Option R):Option R:=
 (Q183 a b).bind fun r1=>bif !decide (r1.1=0) then c (bs []) r1 else(Q250 a.1 b.1).bind fun r2=>(Q249 r2.1 (bs [])).bind fun r3=>(Q185 b).bind fun r4=>(Q6 a.1 r4).bind fun r5=>(Q249 r5.1 r3).bind fun r6=>d b.2.1 ((List.length b.2.1):Int) 0 a (0,0,()) r6
def z13s{R:Type}(a:Zt13)(b c:Int)(d:Zt20)(e:Zt6)(f:ByteArray)(g:Zt13→Int→Int→Zt20→Zt6→ByteArray→Option R)(h:Zt6→ByteArray→Option R):Option R:=
 bif c<b then zd c (List.length a) ((Q222 d (List.getD a c.toNat (0,bs [],())).1).bind fun r7=>(Q12 d.1 r7.1 (List.getD a c.toNat (0,bs [],())).2.1).bind fun r8=>(Q249 r8.1 f).bind fun r9=>g a b (zW zI (c+1)) d e r9) else h e f
def z13t{R:Type}(a:Zt6)(b:ByteArray)(c:ByteArray→Zt6→Option R):Option R:=
 (z5k b).bind fun r10=>c r10.1 (0,0,())
def zct:Nat→Zt13→Int→Int→Zt20→Zt6→ByteArray→Option (Zt6×ByteArray)
 |0,_,_,_,_,_,_=>none
 |k+1,v0,v1,v2,v3,v4,v5=>z13s v0 v1 v2 v3 v4 v5 (fun a0 a1 a2 a3 a4 a5=>zct k a0 a1 a2 a3 a4 a5) (fun a0 a1=>some (a0,a1))
def Q248(a:Zt20)(b:Zt19):Option (ByteArray×Zt6):=
 zpu a b (fun a0 a1=>some (a0,a1)) (fun a0 a1 a2 a3 a4 a5=>(zct FUEL a0 a1 a2 a3 a4 a5).bind fun e=>z13t e.1 e.2 (fun a0 a1=>some (a0,a1)))
end Groat

namespace Groat
open Go.IntKind renaming wrap→zW,i64→zI,u8→zU
open Go Go.Ref
end Groat

namespace Groat
open Go.IntKind renaming wrap→zW,i64→zI,u8→zU
open Go Go.Ref
end Groat

namespace Groat
open Go.IntKind renaming wrap→zW,i64→zI,u8→zU
open Go Go.Ref
def zom{R:Type}(a:Zt32)(b:Int→Int→Int→Option R)(c:Zt30→Int→Zt32→Option R):Option R:=
 bif a.2.1<1 then b 5 2 0 else bif 65535<a.2.1 then b 5 2 0 else c a.1 0 a
def z96{R:Type}(a:Zt30)(b:Int)(c:Zt32)(d:Int→Int→Int→Option R)(e:Zt30→Int→Zt32→Option R)(f:Option R):Option R:=
 bif b<2 then zd b 2 ((Q199 (List.getD a b.toNat ((0,0,[],()),([],[],()),[],[],()))).bind fun r1=>bif !decide (r1.1=0) then d r1.1 b 1 else zd (zW zI (1-b)) 2 ((Q251 (List.getD a b.toNat ((0,0,[],()),([],[],()),[],[],())).2.1 (List.getD a b.toNat ((0,0,[],()),([],[],()),[],[],())).1 (List.getD c.1 (zW zI (1-b)).toNat ((0,0,[],()),([],[],()),[],[],())).1).bind fun r2=>bif !decide (r2.1=0) then d r2.1 b 2 else e a (zW zI (b+1)) c)) else f
def z12y{R:Type}(a b c:Int)(d:Int→Int→Int→Option R):Option R:=
 d a b c
def z12z{R:Type}(a:Int→Int→Int→Option R):Option R:=
 a 0 0 0
def z7g:Nat→Zt30→Int→Zt32→Option (Sum Zt1 Unit)
 |0,_,_,_=>none
 |k+1,v0,v1,v2=>z96 v0 v1 v2 (fun a0 a1 a2=>some (.inl (a0,a1,a2))) (fun a0 a1 a2=>z7g k a0 a1 a2) (some (.inr ()))
def Q205(a:Zt32):Option Zt1:=
 zom a (fun a0 a1 a2=>some (a0,a1,a2)) (fun a0 a1 a2=>(z7g FUEL a0 a1 a2).bind fun e=>Sum.elim (fun(we:Zt1)=>z12y we.1 we.2.1 we.2.2 (fun a0 a1 a2=>some (a0,a1,a2))) (fun(we:Unit)=>z12z (fun a0 a1 a2=>some (a0,a1,a2))) e)
def zoo{R:Type}(a:Zt19)(b:Zt6)(c:Zt28)(d:Zt32)(e:Int→ByteArray→Option R):Option R:=
 (Q198 c a b).bind fun r1=>bif !r1.2 then e 3 (bs []) else(Q248 c.1 r1.1).bind fun r2=>bif r2.1=bs [] then e 3 (bs []) else bif d.2.1<(r2.1.size:Int) then e 3 (bs []) else e 2 r2.1
def Q209(a:Zt19)(b:Zt6)(c:Zt28)(d:Zt32):Option Zt3:=
 zoo a b c d (fun a0 a1=>some (a0,a1))
def zon{R:Type}(a:Zt32)(b:Int)(c:ByteArray)(d:Int→ByteArray→Option R):Option R:=
 (Q205 a).bind fun r1=>bif !decide (r1.1=0) then d 0 (bs []) else bif b<0 then d 0 (bs []) else bif 1<b then d 0 (bs []) else zd b 2 (zd (zW zI (1-b)) 2 ((Q232 (List.getD a.1 b.toNat ((0,0,[],()),([],[],()),[],[],())).1 c).bind fun r2=>bif !decide (r2.2.1=0) then(Q209 r2.1 r2.2 (List.getD a.1 b.toNat ((0,0,[],()),([],[],()),[],[],())) a).bind fun r3=>d r3.1 r3.2 else(Q252 (List.getD a.1 b.toNat ((0,0,[],()),([],[],()),[],[],())).2.1 (List.getD a.1 b.toNat ((0,0,[],()),([],[],()),[],[],())).1 (List.getD a.1 (zW zI (1-b)).toNat ((0,0,[],()),([],[],()),[],[],())).1 r2.1).bind fun r4=>bif !decide (r4.2.1=0) then(Q209 r2.1 r4.2 (List.getD a.1 b.toNat ((0,0,[],()),([],[],()),[],[],())) a).bind fun r5=>d r5.1 r5.2 else(Q248 (List.getD a.1 (zW zI (1-b)).toNat ((0,0,[],()),([],[],()),[],[],())).1 r4.1).bind fun r6=>bif a.2.1<(r6.1.size:Int) then(Q209 r2.1 (5,129,()) (List.getD a.1 b.toNat ((0,0,[],()),([],[],()),[],[],())) a).bind fun r7=>d r7.1 r7.2 else d 1 r6.1))
def Q208(a:Zt32)(b:Int)(c:ByteArray):Option Zt3:=
 zon a b c (fun a0 a1=>some (a0,a1))
end Groat

namespace Groat
open Go.IntKind renaming wrap→zW,i64→zI,u8→zU
open Go Go.Ref
def z19e{R:Type}(a:Bool→Option R):Option R:=
 Q151.bind fun r1=>(Q208 r1 0 (bs [48,56,48,48,48,48,50,48,48,48,48,48,48,48,48,48,48,48,48,48,48,48,48,48,48,49])).bind fun r2=>(Q208 r1 0 (bs [48,56,48,48,48,48,50,48,48,48,48,48,48,48,48,48,48,48,48,48,48,48,48,48,48])).bind fun r3=>(Q208 r1 0 (bs [48,56,49,48,120])).bind fun r4=>(Q205 r1).bind fun r5=>bif r2.1=1 then bif r2.2=bs [24,4,0,32,0,64,0,0,0,0,0,0,1,89,153] then bif r3.1=2 then bif r3.2=bs [48,56,49,48,48,48,48,48,48,48,48,48,48,50,48,48,48,48,48,48,51,48] then bif r4.1=3 then bif r4.2=bs [] then bif r5.1=0 then bif r5.2.1=0 then a (decide (r5.2.2=0)) else a false else a false else a false else a false else a false else a false else a false else a false
def Q60:Option Bool:=
 z19e (fun a0=>some a0)
def zw8{R:Type}(a:Zt32)(b:Int)(c:ByteArray)(d:Bool→Option R):Option R:=
 Q60.bind fun r1=>bif !r1 then Q60.bind fun r2=>d r2 else(Q154 a).bind fun r3=>bif r3 then Q60.bind fun r4=>d r4 else bif 3000<(c.size:Int) then Q60.bind fun r5=>d r5 else(Q153 a).bind fun r6=>(Q208 r6 b c).bind fun r7=>(Q157 a).bind fun r8=>bif !r8 then bif r7.1=0 then d (decide (r7.2=bs [])) else d false else bif b<0 then bif r7.1=0 then d (decide (r7.2=bs [])) else d false else bif 1<b then bif r7.1=0 then d (decide (r7.2=bs [])) else d false else(Q156 a b c).bind fun r9=>bif r7.1=r9.1 then d (decide (r7.2=r9.2)) else d false
def Q58(a:Zt32)(b:Int)(c:ByteArray):Option Bool:=
 zw8 a b c (fun a0=>some a0)
end Groat

namespace Groat
open Go.IntKind renaming wrap→zW,i64→zI,u8→zU
open Go Go.Ref
end Groat

namespace Groat
open Go.IntKind renaming wrap→zW,i64→zI,u8→zU
open Go Go.Ref
end Groat

namespace Groat
open Go.IntKind renaming wrap→zW,i64→zI,u8→zU
theorem zT{p:Prop}[Decidable p](h:p):decide p=true:=_root_.decide_eq_true h
theorem zF{p:Prop}[Decidable p](h:¬p):decide p=false:=_root_.decide_eq_false h
theorem zC{α:Type}{a b:α}:(bif true then a else b)=a:=rfl
theorem zD{α:Type}{a b:α}:(bif false then a else b)=b:=rfl
open Go Go.Ref
theorem zn:FUEL=18446744073709551616:=by unfold FUEL;rfl
theorem zj:maxLen=9223372036854775807:=rfl
theorem zi{x:Int}(h1: -9223372036854775808≤x)(h2:x≤9223372036854775807):zW zI x=x:=z1d3 h1 h2
theorem z4c{n:Nat}(h:n≤9223372036854775807):zW zI (n:Int)=n:=z1d3 (by omega) (by omega)
theorem zo{j:Nat}(h:j<9223372036854775807):zW zI ((j:Int)+1)=((j+1:Nat):Int):=by
 rw[z1d3 (by omega) (by omega)];rfl
theorem z1g3(x:Int):IntKind.u64.wrap x=x % 18446744073709551616:=by
 simp [IntKind.wrap,IntKind.signed,IntKind.bits]
theorem z22h(x:Int):zW zU x=x % 256:=by
 simp [IntKind.wrap,IntKind.signed,IntKind.bits]
theorem z22g{x:Int}(h1:0≤x)(h2:x<18446744073709551616):IntKind.u64.wrap x=x:=by rw[z1g3];omega
theorem u8_id{x:Int}(h1:0≤x)(h2:x<256):zW zU x=x:=by rw[z22h];omega
theorem zh{R:Type}{j n:Nat}{x:Option R}(h:j<n):zd (j:Int) n x=x:=z1p1 h
theorem zl{R:Type}{i:Int}{n:Nat}{x:Option R}(h0:0≤i)(h:i<n):zd i n x=x:=by
 unfold zd
 rw[zT h0,zT h];rfl
theorem z1yb{R:Type}{p:Prop}[Decidable p](x y:R):(bif decide p then x else y)=if p then x else y:=by
 by_cases h:p<;>simp [h]
def bl(s:ByteArray):List Int:=s.data.toList.map fun b=>(b.toNat:Int)
theorem z5f{a b:ByteArray}(h:bl a=bl b):a=b:=by
 apply ByteArray.ext
 apply Array.ext'
 unfold bl at h
 have:Function.Injective (fun b:UInt8=>(b.toNat:Int)):=fun x y hxy=>UInt8.toNat_inj.1 (Int.ofNat.inj hxy)
 exact(List.map_inj_right (fun x y h=>this h)).1 h
theorem bl_eq{a b:ByteArray}:a=b↔bl a=bl b:=⟨fun h=>by rw[h],z5f⟩
theorem zg(s:ByteArray):(bl s).length=s.size:=by unfold bl;rw[List.length_map];rfl
theorem z29(a b:ByteArray):bl (a++b)=bl a++bl b:=by simp [bl,ByteArray.data_append]
theorem z2c(s:ByteArray)(i j:Nat):bl (s.extract i j)=((bl s).take j).drop i:=by
 unfold bl
 rw[ByteArray.data_extract,Array.toList_extract,List.extract_eq_drop_take',List.map_drop,List.map_take]
theorem z1h(s:ByteArray)(i:Nat):ze s i=(bl s).getD i 0:=by
 unfold ze bl
 split
 ·rename_i h
  have h':i<s.data.toList.length:=h
  rw[List.getD_eq_getElem?_getD,List.getElem?_map,List.getElem?_eq_getElem h']
  rfl
 ·rename_i h
  have h':s.data.toList.length≤i:=Nat.le_of_not_lt h
  rw[List.getD_eq_getElem?_getD,List.getElem?_eq_none (by simpa using h')]
  rfl
def zq(n:Int):Prop:=0≤n∧n<256
theorem z1a{s:ByteArray}{x:Int}(h:x∈bl s):zq x:=by
 unfold bl at h
 obtain⟨b,_,rfl⟩:=List.mem_map.1 h
 have:=b.toNat_lt
 unfold zq
 omega
theorem z2j{xs:List Int}(h:∀x∈xs,zq x):bl (strOf xs)=xs:=by
 simp only[bl,strOf,List.map_map]
 conv=>rhs;rw[←List.map_id xs]
 apply List.map_congr_left
 intro x hx
 have:=h x hx
 unfold zq at this
 simp only[Function.comp,id]
 rw[UInt8.toNat_ofNat_of_lt' (by show x.toNat<256;omega)]
 omega
theorem z43(s:ByteArray):strOf (bl s)=s:=z5f (z2j fun x hx=>z1a hx)
theorem bl_bs{l:List Nat}(h:∀x∈l,x<256):bl (bs l)=l.map (fun n:Nat=>(n:Int)):=by
 simp only[bl,bs,List.map_map]
 apply List.map_congr_left
 intro x hx
 have:=h x hx
 simp only[Function.comp]
 rw[UInt8.toNat_ofNat_of_lt' (by show x<256;omega)]
theorem zth:bl (bs [])=[]:=rfl
theorem ze8{s:ByteArray}:s=bs []↔bl s=[]:=by rw[bl_eq,zth]
theorem z1d(xs:List Int):(strOf xs).size=xs.length:=by rw[←zg];unfold bl strOf;simp
section
variable {α σ ρ:Type}
end
end Groat
namespace Groat
open Go.IntKind renaming wrap→zW,i64→zI,u8→zU
open Go Go.Ref
section
variable {α σ ρ:Type}
def runI(g:Int→α→σ→(σ→Option ρ)→Option ρ)(fin:σ→Option ρ):List α→Int→σ→Option ρ
 | [],_,s=>fin s
 |x::r,i,s=>g i x s fun s'=>runI g fin r (i+1) s'
theorem z1ni(d:α)(xs:List α)(hlen:xs.length≤9223372036854775807)(g:Int→α→σ→(σ→Option ρ)→Option ρ)(fin:σ→Option ρ)(L:Nat→Int→σ→Option ρ)
 (step:∀k (i:Int) s,L (k+1) i s=bif decide (i<(xs.length:Int)) then zd i xs.length (g i (xs.getD i.toNat d) s fun s'=>L k (zW zI (i+1)) s') else fin s):
 ∀(m j k:Nat) (s:σ),j+m=xs.length→m<k→L k j s=runI g fin (xs.drop j) j s
 |0,j,k,s,hj,hk=>by
  obtain⟨k,rfl⟩:∃k',k=k'+1:=⟨k-1,by omega⟩
  rw[step,zF (by omega),List.drop_eq_nil_of_le (by omega)];rfl
 |m+1,j,k,s,hj,hk=>by
  obtain⟨k,rfl⟩:∃k',k=k'+1:=⟨k-1,by omega⟩
  have hlt:j<xs.length:=by omega
  rw[step,zT (by omega),zC,zh hlt,List.drop_eq_getElem_cons hlt,runI]
  have hx:xs.getD ((j:Int)).toNat d=xs[j]:=by rw[Int.toNat_natCast,List.getD_eq_getElem?_getD,List.getElem?_eq_getElem hlt];rfl
  rw[hx]
  congr 1
  funext s'
  rw[zo (by omega),z1ni d xs hlen g fin L step m (j+1) k s' (by omega) (by omega)]
  rfl
theorem loopI(d:α)(xs:List α)(hlen:xs.length≤maxLen)(g:Int→α→σ→(σ→Option ρ)→Option ρ)(fin:σ→Option ρ)(L:Nat→Int→σ→Option ρ)
 (step:∀k (i:Int) s,L (k+1) i s=bif decide (i<(xs.length:Int)) then zd i xs.length (g i (xs.getD i.toNat d) s fun s'=>L k (zW zI (i+1)) s') else fin s) (s:σ):L FUEL 0 s=runI g fin xs 0 s:=by
 rw[zj] at hlen
 have:=z1ni d xs hlen g fin L step xs.length 0 FUEL s (by omega) (by rw[zn];omega)
 rw[List.drop_zero] at this
 exact this
theorem z1nj(d:α)(xs:List α)(hlen:xs.length≤9223372036854775807)(g:Int→α→σ→(σ→Option ρ)→Option ρ)(fin:σ→Option ρ)(L:Nat→Int→σ→Option ρ)
 (step:∀k (i:Int) s,0≤i→i<(xs.length:Int)→L (k+1) i s=g i (xs.getD i.toNat d) s fun s'=>L k (zW zI (i+1)) s') (stop:∀k s,L (k+1) (xs.length:Int) s=fin s):
 ∀(m j k:Nat) (s:σ),j+m=xs.length→m<k→L k j s=runI g fin (xs.drop j) j s
 |0,j,k,s,hj,hk=>by
  obtain⟨k,rfl⟩:∃k',k=k'+1:=⟨k-1,by omega⟩
  have:j=xs.length:=by omega
  subst this
  rw[stop,List.drop_length];rfl
 |m+1,j,k,s,hj,hk=>by
  obtain⟨k,rfl⟩:∃k',k=k'+1:=⟨k-1,by omega⟩
  have hlt:j<xs.length:=by omega
  rw[step k j s (by omega) (by omega),List.drop_eq_getElem_cons hlt,runI]
  have hx:xs.getD ((j:Int)).toNat d=xs[j]:=by rw[Int.toNat_natCast,List.getD_eq_getElem?_getD,List.getElem?_eq_getElem hlt];rfl
  rw[hx]
  congr 1
  funext s'
  rw[zo (by omega),z1nj d xs hlen g fin L step stop m (j+1) k s' (by omega) (by omega)]
  rfl
theorem loopJ(d:α)(xs:List α)(hlen:xs.length≤maxLen)(g:Int→α→σ→(σ→Option ρ)→Option ρ)(fin:σ→Option ρ)(L:Nat→Int→σ→Option ρ)
 (step:∀k (i:Int) s,0≤i→i<(xs.length:Int)→L (k+1) i s=g i (xs.getD i.toNat d) s fun s'=>L k (zW zI (i+1)) s') (stop:∀k s,L (k+1) (xs.length:Int) s=fin s) (s:σ):L FUEL 0 s=runI g fin xs 0 s:=by
 rw[zj] at hlen
 have:=z1nj d xs hlen g fin L step stop xs.length 0 FUEL s (by omega) (by rw[zn];omega)
 rw[List.drop_zero] at this
 exact this
end
end Groat

namespace Groat
open Go.IntKind renaming wrap→zW,i64→zI,u8→zU
open Go Go.Ref
theorem z3c(n a:Nat)(h:a<2^n):(BitVec.ofInt n (a:Int)).toNat=a:=by
 rw[BitVec.toNat_ofInt]
 have h2:((a:Int)% ((2^n:Nat):Int))=((a % 2^n:Nat):Int):=by rfl
 rw[h2,Int.toNat_natCast,Nat.mod_eq_of_lt h]
theorem z9i{a:Nat}(h:a<18446744073709551616):IntKind.u64.wrap (a:Int)=a:=z22g (by omega) (by omega)
theorem and64{a b:Nat}(ha:a<18446744073709551616)(hb:b<18446744073709551616):ibits .and .u64 a b=((a&&&b:Nat):Int):=by
 simp only[ibits,BitVec.toNat_and,z3c IntKind.u64.bits a ha,z3c IntKind.u64.bits b hb]
 exact z9i (Nat.lt_of_le_of_lt Nat.and_le_left ha)
theorem or64{a b:Nat}(ha:a<18446744073709551616)(hb:b<18446744073709551616):ibits .or .u64 a b=((a|||b:Nat):Int):=by
 simp only[ibits,BitVec.toNat_or,z3c IntKind.u64.bits a ha,z3c IntKind.u64.bits b hb]
 exact z9i (Nat.or_lt_two_pow (n:=64) ha hb)
theorem z1t8{a b:Nat}(ha:a<18446744073709551616)(hb:b<18446744073709551616):ibits .andNot .u64 a b=((a&&&(18446744073709551615-b):Nat):Int):=by
 simp only[ibits,BitVec.toNat_and,BitVec.toNat_not,z3c IntKind.u64.bits a ha,z3c IntKind.u64.bits b hb]
 have:2^IntKind.u64.bits-1-b=18446744073709551615-b:=rfl
 rw[this]
 exact z9i (Nat.lt_of_le_of_lt Nat.and_le_left ha)
theorem z1y8{a b:Nat}(ha:a<9223372036854775808)(hb:b<9223372036854775808):ibits .and .i64 a b=((a&&&b:Nat):Int):=by
 simp only[ibits,BitVec.toNat_and,z3c IntKind.i64.bits a (Nat.lt_trans ha (by decide)),z3c IntKind.i64.bits b (Nat.lt_trans hb (by decide))]
 have:=Nat.lt_of_le_of_lt (Nat.and_le_left (n:=a) (m:=b)) ha
 exact z4c (by omega)
theorem zad(a:Nat)(k:Nat)(hk:k≤64):Int.fdiv (a:Int) (2^min ((k:Int)).toNat 64)=((a/2^k:Nat):Int):=by
 rw[Int.fdiv_eq_ediv_of_nonneg _ (Int.pow_nonneg (by decide)),Int.toNat_natCast,Nat.min_eq_left hk]
 rfl
section
variable {c0 c1 c2 c3 c4 c5 c6 c7:Nat}
end
def z15(x:Nat):Nat:=if x=0 then 0 else x.log2+1
theorem z7q(x:Nat):x<2^z15 x∧(x≠0→2^(z15 x-1)≤x∧1≤z15 x):=by
 unfold z15
 split
 ·simp_all
 ·rename_i h
  exact⟨Nat.lt_log2_self,fun _=>⟨by simpa using Nat.log2_self_le h,by omega⟩⟩
theorem z17n{x L:Nat}(h1:x<2^L)(h2:L≠0→2^(L-1)≤x):z15 x=L:=by
 obtain⟨g1,g2⟩:=z7q x
 by_cases hx:x=0
 ·subst hx
  by_cases hL:L=0
  ·rw[hL];rfl
  ·have:=h2 hL
   have:=Nat.two_pow_pos (L-1)
   omega
 ·obtain⟨g3,g4⟩:=g2 hx
  rcases Nat.lt_trichotomy (z15 x) L with h|h|h
  ·have:=h2 (by omega)
   have:2^z15 x≤2^(L-1):=Nat.pow_le_pow_right (by decide) (by omega)
   omega
  ·exact h
  ·have:2^L≤2^(z15 x-1):=Nat.pow_le_pow_right (by decide) (by omega)
   omega
theorem za8{x k:Nat}(h:2^k≤x):z15 x=z15 (x/2^k)+k:=by
 have hp:=Nat.two_pow_pos k
 have hq:x/2^k≠0:=by
  have:=Nat.div_pos h hp
  omega
 obtain⟨g1,g2⟩:=z7q (x/2^k)
 obtain⟨g3,g4⟩:=g2 hq
 apply z17n
 ·rw[Nat.pow_add]
  exact(Nat.div_lt_iff_lt_mul hp).1 g1
 ·intro _
  have:z15 (x/2^k)+k-1=(z15 (x/2^k)-1)+k:=by omega
  rw[this,Nat.pow_add]
  exact(Nat.le_div_iff_mul_le hp).1 g3
def z24:List Nat:=[0,1,2,2,3,3,3,3,4,4,4,4,4,4,4,4,5,5,5,5,5,5,5,5,5,5,5,5,5,5,5,5]++List.replicate 32 6++List.replicate 64 7++List.replicate 128 8
theorem z1uu:∀c:Fin 256,z24.getD c.1 0=z15 c.1:=by decide+kernel
def len64(x:Int):Option Int:=
 let t:Int→Int→Option Int:=fun n x=>zd (zW zU x) (bs z24).size (some (zW zI (n+zW zI (ze (bs z24) (zW zU x).toNat))))
 let c:Int→Int→Option Int:=fun n x=>bif decide ((256:Int)≤x) then t (zW zI (n+8)) (Int.fdiv x (2^min ((8:Int)).toNat 64)) else t n x
 let b:Int→Int→Option Int:=fun n x=>bif decide ((65536:Int)≤x) then c (zW zI (n+16)) (Int.fdiv x (2^min ((16:Int)).toNat 64)) else c n x
 bif decide ((4294967296:Int)≤x) then b 32 (Int.fdiv x (2^min ((32:Int)).toNat 64)) else b 0 x
theorem z1bz(x:Int):Q178 x=len64 x:=by kernel_rfl
theorem z1ng(c:Nat)(h:c<256):ze (bs z24) c=((z15 c:Nat):Int):=by
 rw[z1h,bl_bs (by decide+kernel),←z1uu ⟨c,h⟩,List.getD_eq_getElem?_getD,List.getElem?_map,List.getD_eq_getElem?_getD]
 cases z24[c]? <;>rfl
theorem z15n{x k:Nat}(h:x<2^k):z15 x≤k:=by
 by_cases hx:x=0
 ·subst hx;simp [z15]
 ·obtain⟨g3,g4⟩:=(z7q x).2 hx
  rcases Nat.lt_or_ge k (z15 x) with h1|h1
  ·have:2^k≤2^(z15 x-1):=Nat.pow_le_pow_right (by decide) (by omega)
   omega
  ·exact h1
theorem z1pf(x:Nat)(hx:x<18446744073709551616):Q178 x=some ((z15 x:Nat):Int):=by
 rw[z1bz]
 unfold len64
 simp only
 have ht:∀(n:Nat) (c:Nat),n≤100→c<256→zd (zW zU (c:Int)) (bs z24).size (some (zW zI ((n:Int)+zW zI (ze (bs z24) (zW zU (c:Int)).toNat))))=some (((n+z15 c:Nat):Int)):=by
  intro n c hn hc
  have hl:(bs z24).size=256:=by rw[←zg,bl_bs (by decide+kernel)];rfl
  have hb:=z15n (k:=8) hc
  rw[u8_id (by omega) (by omega),hl,zh hc,Int.toNat_natCast,z1ng c hc,z4c (by omega),zi (by omega) (by omega)]
  rfl
 have f8:∀a:Nat,Int.fdiv (a:Int) (2^min ((8:Int)).toNat 64)=((a/2^8:Nat):Int):=fun a=>zad a 8 (by omega)
 have f16:∀a:Nat,Int.fdiv (a:Int) (2^min ((16:Int)).toNat 64)=((a/2^16:Nat):Int):=fun a=>zad a 16 (by omega)
 have f32:∀a:Nat,Int.fdiv (a:Int) (2^min ((32:Int)).toNat 64)=((a/2^32:Nat):Int):=fun a=>zad a 32 (by omega)
 have hc:∀(n:Nat) (y:Nat),n≤48→y<65536→(bif decide ((256:Int)≤(y:Int)) then zd (zW zU (Int.fdiv (y:Int) (2^min ((8:Int)).toNat 64))) (bs z24).size (some (zW zI (zW zI ((n:Int)+8)+zW zI (ze (bs z24) (zW zU (Int.fdiv (y:Int) (2^min ((8:Int)).toNat 64))).toNat)))) else zd (zW zU (y:Int)) (bs z24).size (some (zW zI ((n:Int)+zW zI (ze (bs z24) (zW zU (y:Int)).toNat)))))=some (((n+z15 y:Nat):Int)):=by
  intro n y hn hy
  by_cases h:256≤y
  ·rw[zT (by omega),zC,f8,zi (x:=(n:Int)+8) (by omega) (by omega)]
   have:=ht (n+8) (y/2^8) (by omega) (by omega)
   rw[show((n:Int)+8)=((n+8:Nat):Int) from rfl,this,za8 (k:=8) h]
   congr 2;omega
  ·rw[zF (by omega),zD]
   exact ht n y (by omega) (by omega)
 have hb:∀(n:Nat) (y:Nat),n≤32→y<4294967296→(bif decide ((65536:Int)≤(y:Int)) then(bif decide ((256:Int)≤Int.fdiv (y:Int) (2^min ((16:Int)).toNat 64)) then zd (zW zU (Int.fdiv (Int.fdiv (y:Int) (2^min ((16:Int)).toNat 64)) (2^min ((8:Int)).toNat 64))) (bs z24).size (some (zW zI (zW zI (zW zI ((n:Int)+16)+8)+zW zI (ze (bs z24) (zW zU (Int.fdiv (Int.fdiv (y:Int) (2^min ((16:Int)).toNat 64)) (2^min ((8:Int)).toNat 64))).toNat)))) else zd (zW zU (Int.fdiv (y:Int) (2^min ((16:Int)).toNat 64))) (bs z24).size (some (zW zI (zW zI ((n:Int)+16)+zW zI (ze (bs z24) (zW zU (Int.fdiv (y:Int) (2^min ((16:Int)).toNat 64))).toNat))))) else
  (bif decide ((256:Int)≤(y:Int)) then zd (zW zU (Int.fdiv (y:Int) (2^min ((8:Int)).toNat 64))) (bs z24).size (some (zW zI (zW zI ((n:Int)+8)+zW zI (ze (bs z24) (zW zU (Int.fdiv (y:Int) (2^min ((8:Int)).toNat 64))).toNat)))) else zd (zW zU (y:Int)) (bs z24).size (some (zW zI ((n:Int)+zW zI (ze (bs z24) (zW zU (y:Int)).toNat))))))=some (((n+z15 y:Nat):Int)):=by
  intro n y hn hy
  by_cases h:65536≤y
  ·rw[zT (by omega),zC,f16,zi (x:=(n:Int)+16) (by omega) (by omega)]
   have:=hc (n+16) (y/2^16) (by omega) (by omega)
   rw[show((n:Int)+16)=((n+16:Nat):Int) from rfl,this,za8 (k:=16) h]
   congr 2;omega
  ·rw[zF (by omega),zD]
   exact hc n y (by omega) (by omega)
 by_cases h:4294967296≤x
 ·rw[zT (by omega),zC,f32]
  have:=hb 32 (x/2^32) (by omega) (by omega)
  rw[show((32:Nat):Int)=32 from rfl] at this
  rw[this,za8 (k:=32) h]
  congr 2;omega
 ·rw[zF (by omega),zD]
  have:=hb 0 x (by omega) (by omega)
  rw[show((0:Nat):Int)=0 from rfl] at this
  rw[this]
  congr 2;omega
theorem zap(x:Nat)(hx:x<18446744073709551616):Q177 x=some (((64-z15 x:Nat)):Int):=by
 unfold Q177 zno
 have:=z15n (k:=64) hx
 rw[z1pf x hx,zc,zi (by omega) (by omega)]
 congr 1;omega
end Groat

namespace Groat
open Go.IntKind renaming wrap→zW,i64→zI,u8→zU
open Go Go.Ref
abbrev FSet:=Int×Int×Unit
abbrev B64:Nat:=18446744073709551616
def hasN(h l:Nat)(n:Int):Bool:=
 if 1≤n∧n≤64 then h.testBit (64-n).toNat else if 65≤n∧n≤128 then l.testBit (128-n).toNat else false
def bitH(n:Int):Nat:=if 1≤n∧n≤64 then 2^(64-n).toNat else 0
def bitL(n:Int):Nat:=if 65≤n∧n≤128 then 2^(128-n).toNat else 0
theorem zts{k:Nat}(h:k<64):2^k<B64:=Nat.pow_lt_pow_right (by decide) h
theorem zqe(n:Int):bitH n<B64:=by
 unfold bitH;split
 ·exact zts (by omega)
 ·decide
theorem zqf(n:Int):bitL n<B64:=by
 unfold bitL;split
 ·exact zts (by omega)
 ·decide
theorem z1fx{k:Nat}(h:k<64):IntKind.u64.wrap ((1:Int)*2^min k 64)=((2^k:Nat):Int):=by
 rw[Nat.min_eq_left (by omega),Int.one_mul]
 have:=zts h
 have e:((2:Int)^k)=((2^k:Nat):Int):=by simp
 rw[e]
 exact z9i this
theorem z1m9(n:Int):Q42 n=some ((bitH n:Int),(bitL n:Int),()):=by
 unfold Q42 zw7 bitH bitL
 by_cases h1:n<1
 ·rw[zT h1,if_neg (by omega),if_neg (by omega)];rfl
 rw[zF h1,zD]
 by_cases h2:128<n
 ·rw[zT h2,if_neg (by omega),if_neg (by omega)];rfl
 rw[zF h2,zD]
 by_cases h3:n≤64
 ·rw[zT h3,zC,zi (by omega) (by omega),zF (by omega),zD,z1fx (by omega),if_pos (by omega),if_neg (by omega)];rfl
 ·rw[zF h3,zD,zi (by omega) (by omega),zF (by omega),zD,z1fx (by omega),if_neg (by omega),if_pos (by omega)];rfl
theorem za5(h k:Nat):(h&&&2^k=0)↔h.testBit k=false:=by
 constructor
 ·intro e
  have:=congrArg (fun x=>x.testBit k) e
  simpa [Nat.testBit_and,Nat.testBit_two_pow] using this
 ·intro e
  apply Nat.eq_of_testBit_eq
  intro i
  rw[Nat.testBit_and,Nat.testBit_two_pow]
  by_cases hi:k=i
  ·subst hi;simp [e]
  ·simp [hi]
theorem z1zd(h l:Nat)(hh:h<B64)(hl:l<B64)(n:Int):Q37 ((h:Int),(l:Int),()) n=some (hasN h l n):=by
 unfold Q37 zw4 Q34 zic
 rw[z1m9,zc,and64 hh (zqe n),and64 hl (zqf n),zc]
 congr 1
 simp only[Bool.and_true]
 have e:∀a:Nat,decide ((a:Int)=0)=decide (a=0):=fun a=>decide_eq_decide.2 (by omega)
 rw[e,e]
 unfold bitH bitL hasN
 by_cases h1:1≤n∧n≤64
 ·rw[if_pos h1,if_pos h1,if_neg (by omega)]
  have:=za5 h (64-n).toNat
  cases hb:h.testBit (64-n).toNat with
  |false=>simp [this.2 hb]
  |true=>simp;intro hz;exact absurd (this.1 hz) (by simp [hb])
 ·rw[if_neg h1,if_neg h1]
  by_cases h2:65≤n∧n≤128
  ·rw[if_pos h2,if_pos h2]
   have:=za5 l (128-n).toNat
   cases hb:l.testBit (128-n).toNat with
   |false=>simp [this.2 hb]
   |true=>simp;intro hz;exact absurd (this.1 hz) (by simp [hb])
  ·rw[if_neg h2,if_neg h2];simp
theorem zf5(h l h' l':Nat)(hh:h<B64)(hl:l<B64)(hh':h'<B64)(hl':l'<B64):Q35 ((h:Int),(l:Int),()) ((h':Int),(l':Int),())=some (((h|||h':Nat):Int),((l|||l':Nat):Int),()):=by
 unfold Q35 zw3
 rw[or64 hh hh',or64 hl hl']
theorem z1dz(h l h' l':Nat)(hh:h<B64)(hl:l<B64)(hh':h'<B64)(hl':l'<B64):Q34 ((h:Int),(l:Int),()) ((h':Int),(l':Int),())=some (((h&&&h':Nat):Int),((l&&&l':Nat):Int),()):=by
 unfold Q34 zic
 rw[and64 hh hh',and64 hl hl']
theorem z1f6(h l:Nat)(hh:h<B64)(hl:l<B64)(n:Int):Q40 ((h:Int),(l:Int),()) n=some (((h|||bitH n:Nat):Int),((l|||bitL n:Nat):Int),()):=by
 unfold Q40 zw6
 rw[z1m9,zc,zf5 h l _ _ hh hl (zqe n) (zqf n)];rfl
theorem or_lt{a b:Nat}(ha:a<B64)(hb:b<B64):a|||b<B64:=Nat.or_lt_two_pow (n:=64) ha hb
theorem z1ly{a b:Nat}(ha:a<B64):a&&&b<B64:=Nat.lt_of_le_of_lt Nat.and_le_left ha
theorem z22b(h l h' l':Nat)(n:Int):hasN (h|||h') (l|||l') n=(hasN h l n||hasN h' l' n):=by
 unfold hasN;split
 ·rw[Nat.testBit_or]
 ·split
  ·rw[Nat.testBit_or]
  ·rfl
theorem z1fe(h l h' l':Nat)(n:Int):hasN (h&&&h') (l&&&l') n=(hasN h l n&&hasN h' l' n):=by
 unfold hasN;split
 ·rw[Nat.testBit_and]
 ·split
  ·rw[Nat.testBit_and]
  ·rfl
def inR(n:Int):Bool:=decide (1≤n∧n≤128)
theorem z1yt(m n:Int):hasN (bitH m) (bitL m) n=(decide (m=n)&&inR n):=by
 unfold hasN bitH bitL inR
 by_cases h1:1≤n∧n≤64
 ·rw[if_pos h1]
  by_cases h2:1≤m∧m≤64
  ·rw[if_pos h2,Nat.testBit_two_pow,zT (p:=1≤n∧n≤128) (by omega),Bool.and_true]
   exact decide_eq_decide.2 (by omega)
  ·rw[if_neg h2,zF (by omega:¬m=n)];simp
 ·rw[if_neg h1]
  by_cases h3:65≤n∧n≤128
  ·rw[if_pos h3]
   by_cases h2:65≤m∧m≤128
   ·rw[if_pos h2,Nat.testBit_two_pow,zT (p:=1≤n∧n≤128) (by omega),Bool.and_true]
    exact decide_eq_decide.2 (by omega)
   ·rw[if_neg h2,zF (by omega:¬m=n)];simp
  ·rw[if_neg h3,zF (p:=1≤n∧n≤128) (by omega),Bool.and_false]
theorem z1bl(h l:Nat)(m n:Int):hasN (h|||bitH m) (l|||bitL m) n=(hasN h l n||(decide (m=n)&&inR n)):=by rw[z22b,z1yt]
theorem zjv{h l:Nat}{n:Int}(hh:hasN h l n=true):1≤n∧n≤128:=by
 unfold hasN at hh
 split at hh
 ·omega
 ·split at hh
  ·omega
  ·cases hh
theorem zqq{h l h' l':Nat}(hh:h<B64)(hl:l<B64)(hh':h'<B64)(hl':l'<B64)(e:∀n:Int,1≤n→n≤128→hasN h l n=hasN h' l' n):h=h'∧l=l':=by
 constructor
 ·apply Nat.eq_of_testBit_eq
  intro i
  by_cases hi:i<64
  ·have:=e (64-i) (by omega) (by omega)
   unfold hasN at this
   rw[if_pos (by omega),if_pos (by omega)] at this
   have e2:(64-(64-(i:Int))).toNat=i:=by omega
   rwa [e2] at this
  ·rw[Nat.testBit_lt_two_pow (Nat.lt_of_lt_of_le hh (Nat.pow_le_pow_right (n:=2) (by decide) (by omega:64≤i))),Nat.testBit_lt_two_pow (Nat.lt_of_lt_of_le hh' (Nat.pow_le_pow_right (n:=2) (by decide) (by omega:64≤i)))]
 ·apply Nat.eq_of_testBit_eq
  intro i
  by_cases hi:i<64
  ·have:=e (128-i) (by omega) (by omega)
   unfold hasN at this
   have h1:¬(1≤128-(i:Int)∧128-(i:Int)≤64):=by omega
   have h2:65≤128-(i:Int)∧128-(i:Int)≤128:=by omega
   rw[if_neg h1,if_pos h2,if_neg h1,if_pos h2] at this
   have e2:(128-(128-(i:Int))).toNat=i:=by omega
   rwa [e2] at this
  ·rw[Nat.testBit_lt_two_pow (Nat.lt_of_lt_of_le hl (Nat.pow_le_pow_right (n:=2) (by decide) (by omega:64≤i))),Nat.testBit_lt_two_pow (Nat.lt_of_lt_of_le hl' (Nat.pow_le_pow_right (n:=2) (by decide) (by omega:64≤i)))]
def setH(l:List Int):Nat:=l.foldl (fun a n=>a|||bitH n) 0
def setL(l:List Int):Nat:=l.foldl (fun a n=>a|||bitL n) 0
theorem zya(f:Int→Nat)(hf:∀n,f n<B64)(l:List Int):∀a,a<B64→l.foldl (fun a n=>a|||f n) a<B64:=by
 induction l with
 |nil=>intro a h;exact h
 |cons x r ih=>intro a h;exact ih _ (or_lt h (hf x))
theorem z26(l:List Int):setH l<B64:=zya _ zqe l 0 (by decide)
theorem z2b(l:List Int):setL l<B64:=zya _ zqf l 0 (by decide)
theorem z1u1(l:List Int):∀(a b:Nat) (n:Int),hasN (l.foldl (fun a n=>a|||bitH n) a) (l.foldl (fun a n=>a|||bitL n) b) n=(hasN a b n||(decide (n∈l)&&inR n)):=by
 induction l with
 |nil=>intro a b n;simp
 |cons x r ih=>
  intro a b n
  rw[List.foldl_cons,List.foldl_cons,ih,z1bl]
  by_cases h1:x=n
  ·subst h1;cases inR x<;>simp
  ·have:n≠x:=fun e=>h1 e.symm
   simp [h1,this]
theorem z4e(l:List Int)(n:Int):hasN (setH l) (setL l) n=(decide (n∈l)&&inR n):=by
 unfold setH setL
 rw[z1u1]
 have:hasN 0 0 n=false:=by unfold hasN;simp
 rw[this];simp
theorem z1yy(xs:List Int)(hx:xs.length≤9223372036854775807)(b0:FSet):∀(n j k:Nat) (a b:Nat),j+n=xs.length→n<k→a<B64→b<B64→
 z7t k xs (xs.length:Int) j b0 ((a:Int),(b:Int),())=some (b0,((((xs.drop j).foldl (fun a n=>a|||bitH n) a:Nat):Int),(((xs.drop j).foldl (fun a n=>a|||bitL n) b:Nat):Int),())):=by
 intro n
 induction n with
 |zero=>
  intro j k a b hj hk ha hb
  obtain⟨k,rfl⟩:∃k',k=k'+1:=⟨k-1,by omega⟩
  rw[z7t,zib,zF (by omega),List.drop_eq_nil_of_le (by omega)];rfl
 |succ n ih=>
  intro j k a b hj hk ha hb
  obtain⟨k,rfl⟩:∃k',k=k'+1:=⟨k-1,by omega⟩
  have hlt:j<xs.length:=by omega
  have hx':xs.getD ((j:Int)).toNat 0=xs[j]:=by rw[Int.toNat_natCast,List.getD_eq_getElem?_getD,List.getElem?_eq_getElem hlt];rfl
  rw[z7t,zib,zT (by omega),zC,zh hlt,hx',z1f6 a b ha hb,zc,zo (by omega),ih (j+1) k _ _ (by omega) (by omega) (or_lt ha (zqe _)) (or_lt hb (zqf _)),List.drop_eq_getElem_cons hlt]
  rfl
theorem Of_eq(xs:List Int)(hx:xs.length≤maxLen):Q33 xs=some ((setH xs:Int),(setL xs:Int),()):=by
 rw[zj] at hx
 unfold Q33 zw1
 have:=z1yy xs hx (0,0,()) xs.length 0 FUEL 0 0 (by omega) (by rw[zn];omega) (by decide) (by decide)
 simp only[zw2]
 have e:z7t FUEL xs (xs.length:Int) 0 (0,0,()) (0,0,())=_:=this
 rw[e];rfl
def nums:List Int:=(List.range 128).map fun k:Nat=>((k+1:Nat):Int)
theorem z1uf(n:Int):n∈nums↔1≤n∧n≤128:=by
 unfold nums
 constructor
 ·intro h
  obtain⟨k,hk,rfl⟩:=List.mem_map.1 h
  have:=List.mem_range.1 hk
  omega
 ·intro h
  exact List.mem_map.2 ⟨(n-1).toNat,List.mem_range.2 (by omega),by omega⟩
theorem z1dt:nums.Pairwise (· < ·):=by
 unfold nums
 exact List.Pairwise.map _ (fun a b h=>by omega) List.pairwise_lt_range
def elems(h l:Nat):List Int:=nums.filter (hasN h l)
theorem z83(h l:Nat)(n:Int):n∈elems h l↔hasN h l n=true:=by
 unfold elems
 rw[List.mem_filter,z1uf]
 exact⟨fun h=>h.2,fun h=>⟨zjv h,h⟩⟩
theorem zjj(h l:Nat):(elems h l).Pairwise (· < ·):=z1dt.filter _
def nextN(h l:Nat)(n:Int):Int:=((elems h l).filter fun m=>decide (n<m)).headD 0
def zu3(h l:Nat)(n r:Int):Prop:=(r=0∧∀m,n<m→hasN h l m=false)∨(n<r∧hasN h l r=true∧∀m,n<m→m<r→hasN h l m=false)
theorem z1ug(h l:Nat)(n:Int):zu3 h l n (nextN h l n):=by
 unfold nextN
 cases hf:(elems h l).filter fun m=>decide (n<m) with
 |nil=>
  left
  refine⟨rfl,fun m hm=> ?_⟩
  cases hb:hasN h l m with
  |false=>rfl
  |true=>
   have:m∈(elems h l).filter fun m=>decide (n<m):=List.mem_filter.2 ⟨(z83 h l m).2 hb,by simpa using hm⟩
   rw[hf] at this;cases this
 |cons x r=>
  right
  have hx:x∈(elems h l).filter fun m=>decide (n<m):=by rw[hf];simp
  obtain⟨h1,h2⟩:=List.mem_filter.1 hx
  refine⟨by simpa using h2,(z83 h l x).1 h1,fun m hm hmx=> ?_⟩
  cases hb:hasN h l m with
  |false=>rfl
  |true=>
   have hmem:m∈(elems h l).filter fun m=>decide (n<m):=List.mem_filter.2 ⟨(z83 h l m).2 hb,by simpa using hm⟩
   have hs:=(zjj h l).filter (fun m=>decide (n<m))
   rw[hf] at hmem hs
   rcases List.mem_cons.1 hmem with e|e
   ·simp only[List.headD_cons] at hmx;omega
   ·have:=(List.pairwise_cons.1 hs).1 m e
    simp only[List.headD_cons] at hmx;omega
theorem z17w{h l:Nat}{n r q:Int}(h1:zu3 h l n r)(h2:zu3 h l n q):r=q:=by
 rcases h1 with⟨e,a⟩|⟨e,a,b⟩<;>rcases h2 with⟨e',a'⟩|⟨e',a',b'⟩
 ·rw[e,e']
 ·rw[a q e'] at a';cases a'
 ·rw[a' r e] at a;cases a
 ·rcases Int.lt_trichotomy r q with h|h|h
  ·rw[b' r e h] at a;cases a
  ·exact h
  ·rw[b q e' h] at a';cases a'
theorem z17j(x n:Nat)(hx:x<B64)(hn:n≤64):
 (x*2^n % B64=0∧∀i,i<64-n→x.testBit i=false)∨
 (x*2^n % B64≠0∧z15 (x*2^n % B64)≤64∧n<z15 (x*2^n % B64)∧x.testBit (z15 (x*2^n % B64)-1-n)=true∧∀i,z15 (x*2^n % B64)-1-n<i→i<64-n→x.testBit i=false):=by
 have hb:∀i,(x*2^n % B64).testBit i=(decide (i<64)&&(decide (n≤i)&&x.testBit (i-n))):=by
  intro i
  rw[show B64=2^64 from rfl,Nat.testBit_mod_two_pow,Nat.testBit_mul_two_pow]
 generalize x*2^n % B64=r at hb
 have hr:∀i,i<64-n→x.testBit i=r.testBit (i+n):=by
  intro i hi
  rw[hb,zT (by omega),zT (by omega),Nat.add_sub_cancel];rfl
 by_cases h0:r=0
 ·left
  refine⟨h0,fun i hi=> ?_⟩
  rw[hr i hi,h0];simp
 ·right
  obtain⟨g1,g2⟩:=z7q r
  obtain⟨g3,g4⟩:=g2 h0
  have htop:r.testBit (z15 r-1)=true:=by
   rw[Nat.testBit_eq_decide_div_mod_eq]
   have hp:=Nat.two_pow_pos (z15 r-1)
   have:r/2^(z15 r-1)=1:=by
    apply Nat.div_eq_of_lt_le
    ·omega
    ·have:2^z15 r=2*2^(z15 r-1):=by
      rw[←Nat.pow_succ'];congr 1;omega
     omega
   rw[this];rfl
  have hlt:=htop
  rw[hb] at hlt
  simp only[Bool.and_eq_true,decide_eq_true_eq] at hlt
  refine⟨h0,by omega,by omega,?_,fun i h1 h2=> ?_⟩
  ·exact hlt.2.2
  ·rw[hr i h2]
   exact Nat.testBit_lt_two_pow (Nat.lt_of_lt_of_le g1 (Nat.pow_le_pow_right (by decide) (by omega)))
theorem z1fw(x n:Nat)(hn:n≤64):IntKind.u64.wrap ((x:Int)*2^min ((n:Int)).toNat 64)=((x*2^n % B64:Nat):Int):=by
 rw[z1g3,Int.toNat_natCast,Nat.min_eq_left hn]
 have e:((x:Int)*2^n)=((x*2^n:Nat):Int):=by simp
 rw[e];rfl
theorem z1e0(h l:Nat)(hh:h<B64)(hl:l<B64)(n:Int)(hn1: -9223372036854775808≤n)(hn2:n≤9223372036854775807):Q39 ((h:Int),(l:Int),()) n=some (nextN h l n):=by
 have goal:∀r,zu3 h l n r→some r=some (nextN h l n):=fun r hr=>by rw[z17w hr (z1ug h l n)]
 unfold Q39 zw5
 obtain⟨m,hm,hmn⟩:∃m:Nat,(if n<(0:Int) then(0:Int) else n)=(m:Int)∧(n≤(m:Int)∧(0≤n→n=m)∧(n<0→m=0)):=by
  by_cases h0:n<0
  ·exact⟨0,by rw[if_pos h0];rfl,by omega,by omega,by omega⟩
  ·exact⟨n.toNat,by rw[if_neg h0];omega,by omega,by omega,by omega⟩
 have hlow:∀k:Int,k≤0→hasN h l k=false:=fun k hk=>by unfold hasN;rw[if_neg (by omega),if_neg (by omega)]
 have low:∀(sft base:Nat),sft≤64→(sft<64→base=64+sft)→(sft=64→128≤base)→(m:Int)≤base→base≤9223372036854775807→(∀k,n<k→k≤base→k≤128→hasN h l k=false)→
  (bif !(decide (IntKind.u64.wrap ((l:Int)*2^min ((sft:Int)).toNat 64)=0)) then(Q177 (IntKind.u64.wrap ((l:Int)*2^min ((sft:Int)).toNat 64))).bind (fun r=>some (zW zI (zW zI ((base:Int)+r)+1))) else some 0)=some (nextN h l n):=by
  intro sft base h1 h2 h2' h3 hbig h4
  rw[z1fw l sft h1]
  have hlt:l*2^sft % B64<B64:=Nat.mod_lt _ (by decide)
  rcases z17j l sft hl h1 with⟨e,w⟩|⟨e,w1,w2,w3,w4⟩
  ·rw[e,zT (by rfl)]
   refine goal 0 (.inl ⟨rfl,fun k hk=> ?_⟩)
   by_cases hk2:k≤base∧k≤128
   ·exact h4 k hk hk2.1 hk2.2
   ·unfold hasN
    by_cases hk3:65≤k∧k≤128
    ·rw[if_neg (by omega),if_pos hk3]
     exact w _ (by omega)
    ·by_cases hk4:1≤k∧k≤64
     ·omega
     ·rw[if_neg hk4,if_neg hk3]
  ·have hs64:sft<64:=by omega
   have hbase:=h2 hs64
   rw[zF (by omega)]
   simp only[Bool.not_false,zC]
   rw[zap _ hlt,zc,zi (x:=(base:Int)+_) (by omega) (by omega),zi (by omega) (by omega)]
   refine goal _ (.inr ⟨by omega,?_,fun k hk1 hk2=> ?_⟩)
   ·unfold hasN
    rw[if_neg (by omega),if_pos (by omega)]
    have:(128-((base:Int)+((64-z15 (l*2^sft % B64):Nat):Int)+1)).toNat=z15 (l*2^sft % B64)-1-sft:=by omega
    rw[this];exact w3
   ·by_cases hk3:k≤base
    ·exact h4 k hk1 hk3 (by omega)
    ·unfold hasN
     rw[if_neg (by omega),if_pos (by omega)]
     exact w4 _ (by omega) (by omega)
 simp only[hm]
 by_cases c1:m<64
 ·rw[zT (by omega),zC,zF (by omega),zD,z1fw h m (by omega)]
  have hlt:h*2^m % B64<B64:=Nat.mod_lt _ (by decide)
  rcases z17j h m hh (by omega) with⟨e,w⟩|⟨e,w1,w2,w3,w4⟩
  ·rw[e,zT (by rfl)]
   have:=low 0 64 (by omega) (by omega) (by omega) (by omega) (by omega) (fun k hk1 hk2 _=>by
    by_cases hk3:1≤k
    ·unfold hasN
     rw[if_pos (by omega)]
     exact w _ (by omega)
    ·exact hlow k (by omega))
   exact this
  ·rw[zF (by omega)]
   simp only[Bool.not_false,zC]
   rw[zap _ hlt,zc,zi (x:=(m:Int)+_) (by omega) (by omega),zi (by omega) (by omega)]
   refine goal _ (.inr ⟨by omega,?_,fun k hk1 hk2=> ?_⟩)
   ·unfold hasN
    rw[if_pos (by omega)]
    have:(64-((m:Int)+((64-z15 (h*2^m % B64):Nat):Int)+1)).toNat=z15 (h*2^m % B64)-1-m:=by omega
    rw[this];exact w3
   ·by_cases hk3:1≤k
    ·unfold hasN
     rw[if_pos (by omega)]
     exact w4 _ (by omega) (by omega)
    ·exact hlow k (by omega)
 ·rw[zF (by omega),zD,zi (x:=(m:Int)-64) (by omega) (by omega)]
  have hsub:((m:Int)-64)=((m-64:Nat):Int):=by omega
  obtain⟨sft,hs,hs1⟩:∃sft:Nat,(if(64:Int)<(m:Int)-64 then(64:Int) else(m:Int)-64)=(sft:Int)∧sft≤64∧(sft<64→m=64+sft)∧(sft=64→128≤m):=by
   by_cases h0:(64:Int)<(m:Int)-64
   ·exact⟨64,by rw[if_pos h0];rfl,by omega,by omega,by omega⟩
   ·exact⟨m-64,by rw[if_neg h0];omega,by omega,by omega,by omega⟩
  simp only[hs]
  rw[zF (by omega),zD]
  exact low sft m hs1.1 hs1.2.1 hs1.2.2 (by omega) (by omega) (fun k hk1 hk2 _=>by omega)
end Groat

namespace Groat
open Go.IntKind renaming wrap→zW,i64→zI,u8→zU
open Go Go.Ref
theorem z16v(n a:Nat)(h:a<2^n):(BitVec.ofInt n (a:Int)).toNat=a:=by
 rw[BitVec.toNat_ofInt]
 have h2:((a:Int)% ((2^n:Nat):Int))=((a % 2^n:Nat):Int):=by rfl
 rw[h2,Int.toNat_natCast,Nat.mod_eq_of_lt h]
theorem z1bo{k:IntKind}{a b:Nat}(ha:a<2^k.bits)(hb:b<2^k.bits):ibits .or k a b=k.wrap ((a|||b:Nat):Int):=by
 simp only[ibits,BitVec.toNat_or,z16v _ _ ha,z16v _ _ hb]
theorem z1ca{x y:Int}(hx:zq x)(hy:zq y):ibits .or .i64 (zW zI (zW zI x*2^min (8:Int).toNat 64)) (zW zI y)=x*256+y:=by
 unfold zq at hx hy
 obtain⟨x,rfl⟩:=Int.eq_ofNat_of_zero_le hx.1
 obtain⟨y,rfl⟩:=Int.eq_ofNat_of_zero_le hy.1
 rw[z4c (by omega),z4c (by omega)]
 have h1:((x:Int)*(2:Int)^min (8:Int).toNat 64)=((x<<<8:Nat):Int):=by
  rw[Nat.shiftLeft_eq];rfl
 have h3:x<<<8=x*256:=by rw[Nat.shiftLeft_eq]
 rw[h1,z4c (by omega),z1bo (by simp only[IntKind.bits];omega) (by simp only[IntKind.bits];omega),←Nat.shiftLeft_add_eq_or_of_lt (by omega:y<2^8),h3,z4c (by omega)]
 omega
theorem z1n4{b:List Int}(hb:∀x∈b,zq x)(i:Nat):zq (b.getD i 0):=by
 rw[List.getD_eq_getElem?_getD]
 cases h:b[i]? with
 |none=>exact⟨by simp,by simp⟩
 |some x=>exact hb x (List.mem_of_getElem? h)
abbrev Fr:=Int×Bool×List Int×Unit
end Groat

namespace Groat
open Go.IntKind renaming wrap→zW,i64→zI,u8→zU
open Go Go.Ref
section
variable {α:Type} [DecidableEq α]
end
end Groat

namespace Groat
open Go.IntKind renaming wrap→zW,i64→zI,u8→zU
open Go Go.Ref
theorem z1bh{l:List Int}{j:Nat}(h:j<l.length):l.getD ((j:Int)).toNat 0=l[j]:=by
 rw[Int.toNat_natCast,List.getD_eq_getElem?_getD,List.getElem?_eq_getElem h];rfl
theorem z1nd(l:List Int)(n:Int)(hl:l.length≤maxLen):∀(m j k:Nat),j+m=l.length→m<k→
 z9z k l n j=some (if n∈l.drop j then .inl true else .inr ()):=by
 intro m
 rw[zj] at hl
 induction m with
 |zero=>
  intro j k hj hk
  obtain⟨k,rfl⟩:∃k',k=k'+1:=⟨k-1,by omega⟩
  rw[z9z,zij,zF (by omega),List.drop_eq_nil_of_le (by omega)];simp
 |succ m ih=>
  intro j k hj hk
  obtain⟨k,rfl⟩:∃k',k=k'+1:=⟨k-1,by omega⟩
  have hlt:j<l.length:=by omega
  rw[z9z,zij,zT (by omega),zC,zh hlt,z1bh hlt,zo (by omega),List.drop_eq_getElem_cons hlt]
  by_cases h:l[j]=n
  ·rw[zT h,if_pos (by rw[h];simp)];rfl
  ·rw[zF h,zD,ih (j+1) k (by omega) (by omega)]
   have:n≠l[j]:=fun e=>h e.symm
   simp only[List.mem_cons,this,false_or]
theorem zko(l:List Int)(n:Int)(hl:l.length≤maxLen):Q84 l n=some (decide (n∈l)):=by
 unfold Q84 zx9
 dsimp only
 have:=z1nd l n hl l.length 0 FUEL (by omega) (by rw[zn];rw[zj] at hl;omega)
 rw[show((0:Nat):Int)=0 from rfl,List.drop_zero] at this
 rw[this,zc]
 by_cases h:n∈l
 ·rw[if_pos h,zT h];rfl
 ·rw[if_neg h,zF h];rfl
theorem z1ul:nums.length=128:=by unfold nums;simp
def wordV(l:List Int)(base:Nat):Nat→Nat
 |0=>0
 |m+1=>2*wordV l base m+(if((base+m+1:Nat):Int)∈l then 1 else 0)
theorem zf0(l:List Int)(base m:Nat):wordV l base (m+1)=2*wordV l base m+(if((base+m+1:Nat):Int)∈l then 1 else 0):=rfl
theorem zao(l:List Int)(base:Nat):∀m,wordV l base m<2^m
 |0=>by simp [wordV]
 |m+1=>by
  have:=zao l base m
  rw[wordV,Nat.pow_succ]
  split<;>omega
theorem zkn(l:List Int)(base:Nat):∀m i,i<m→(wordV l base m).testBit i=decide (((base+m-i:Nat):Int)∈l)
 |0,i,h=>absurd h (Nat.not_lt_zero i)
 |m+1,0,h=>by
  rw[wordV,Nat.testBit_zero,Nat.sub_zero]
  have e:base+(m+1)=base+m+1:=by omega
  rw[e]
  by_cases hm:((base+m+1:Nat):Int)∈l
  ·rw[if_pos hm,zT hm]
   exact zT (by omega)
  ·rw[if_neg hm,zF hm]
   exact zF (by omega)
 |m+1,i+1,h=>by
  rw[wordV,Nat.testBit_succ]
  have e:(2*wordV l base m+(if((base+m+1:Nat):Int)∈l then 1 else 0))/2=wordV l base m:=by split<;>omega
  rw[e,zkn l base m i (by omega)]
  have e2:base+(m+1)-(i+1)=base+m-i:=by omega
  rw[e2]
theorem z1v5(l:List Int)(n:Int):hasN (wordV l 0 64) (wordV l 64 64) n=(decide (n∈l)&&inR n):=by
 unfold hasN inR
 by_cases h1:1≤n∧n≤64
 ·rw[if_pos h1,zkn l 0 64 _ (by omega),zT (p:=1≤n∧n≤128) (by omega),Bool.and_true]
  have:((0+64-(64-n).toNat:Nat):Int)=n:=by omega
  rw[this]
 ·rw[if_neg h1]
  by_cases h2:65≤n∧n≤128
  ·rw[if_pos h2,zkn l 64 64 _ (by omega),zT (p:=1≤n∧n≤128) (by omega),Bool.and_true]
   have:((64+64-(128-n).toNat:Nat):Int)=n:=by omega
   rw[this]
  ·rw[if_neg h2,zF (p:=1≤n∧n≤128) (by omega),Bool.and_false]
theorem zty(l:List Int):wordV l 0 64=setH l∧wordV l 64 64=setL l:=
 zqq (zao l 0 64) (zao l 64 64) (z26 l) (z2b l) (fun n _ _=>by rw[z1v5,z4e])
end Groat

namespace Groat
open Go.IntKind renaming wrap→zW,i64→zI,u8→zU
open Go Go.Ref
abbrev Spec:=Int×Int×Int×Int×Int×Unit
abbrev zf:=Int×Int×List Spec×Unit
abbrev spec0:Spec:=(0,0,0,0,0,())
theorem zqr(c:Int):Q19 c=some (if c=1 then 1 else if c=2 then 2 else if c=3 then 3 else if c=4 then 7 else if c=5 then 15 else if c=6 then 15 else 0):=by
 unfold Q19 zv7
 simp only[z1yb]
 repeat' split
 all_goals rfl
theorem zrs(c:Int):Q16 c=some (decide (1≤c∧c≤6)):=by
 unfold Q16 zux
 rw[zqr,zc]
 congr 1
 by_cases h1:c=1
 ·subst h1;rfl
 by_cases h2:c=2
 ·subst h2;rfl
 by_cases h3:c=3
 ·subst h3;rfl
 by_cases h4:c=4
 ·subst h4;rfl
 by_cases h5:c=5
 ·subst h5;rfl
 by_cases h6:c=6
 ·subst h6;rfl
 rw[if_neg h1,if_neg h2,if_neg h3,if_neg h4,if_neg h5,if_neg h6,zF (p:=1≤c∧c≤6) (by omega)]
 rfl
theorem Most2:Q194 2=some 99:=by kernel_rfl
theorem Most3:Q194 3=some 999:=by kernel_rfl
def specC(s:Spec):Int:=
 if s.1<2∨128<s.1 then 1 else if s.2.1<1∨6<s.2.1 then 6 else if s.2.2.1<1∨3<s.2.2.1 then 3
 else if s.2.2.2.1<1∨s.2.2.2.2.1<s.2.2.2.1∨(s.2.2.1=2∧99<s.2.2.2.2.1)∨999<s.2.2.2.2.1∨(s.2.2.1=1∧¬s.2.2.2.1=s.2.2.2.2.1) then 5
 else if s.2.2.1=1∧s.2.1=6 then 13 else 0
theorem z4o(s:Spec):Q228 s=some (specC s):=by
 obtain⟨no,c,f,mn,mx,u⟩:=s
 unfold Q228 zp8 specC
 simp only[zrs,zc]
 by_cases h1:no<2∨128<no
 ·rw[if_pos h1]
  rcases h1 with h|h
  ·rw[zT h];rfl
  ·rw[zT h];cases decide (no<2)<;>rfl
 rw[if_neg h1,zF (by omega),zF (by omega)]
 by_cases h2:c<1∨6<c
 ·rw[if_pos h2,zF (p:=1≤c∧c≤6) (by omega)];rfl
 rw[if_neg h2,zT (p:=1≤c∧c≤6) (by omega)]
 simp only[zD,Bool.not_true]
 by_cases h3:f<1∨3<f
 ·rw[if_pos h3]
  rcases h3 with h|h
  ·rw[zT h];rfl
  ·rw[zT h];cases decide (f<1)<;>rfl
 rw[if_neg h3,zF (by omega),zF (by omega)]
 simp only[zD]
 by_cases h4:mn<1∨mx<mn∨999<mx
 ·rw[if_pos (by omega)]
  by_cases a:mn<1
  ·rw[zT a];rfl
  rw[zF a]
  by_cases b:mx<mn
  ·rw[zT b];rfl
  rw[zF b,zT (by omega)];rfl
 rw[zF (by omega),zF (by omega),zF (by omega)]
 simp only[zD]
 by_cases f1:f=1
 ·rw[zT f1]
  simp only[zC,Bool.not_true,zD]
  by_cases e:mn=mx
  ·rw[zT e,if_neg (by omega)]
   by_cases e6:c=6
   ·rw[zT e6,if_pos (by omega)];rfl
   ·rw[zF e6,if_neg (by omega)];rfl
  ·rw[zF e,if_pos (by omega)];rfl
 ·rw[zF f1]
  simp only[zD,Bool.not_false,zC]
  by_cases f2:f=2
  ·subst f2
   rw[Most2,zc]
   by_cases h:99<mx
   ·rw[zT h,if_pos (by omega)];rfl
   ·rw[zF h,if_neg (by omega),if_neg (by omega)];rfl
  ·have f3:f=3:=by omega
   subst f3
   rw[Most3,zc,zF (by omega),if_neg (by omega),if_neg (by omega)];rfl
theorem z1k(s:Spec):Q100 s=some (specC s):=by
 obtain⟨no,c,f,mn,mx,u⟩:=s
 unfold Q100 zkp specC
 simp only
 by_cases h1:no<2∨128<no
 ·rw[if_pos h1]
  rcases h1 with h|h
  ·rw[zT h];rfl
  ·rw[zT h];cases decide (no<2)<;>rfl
 rw[if_neg h1,zF (by omega),zF (by omega)]
 by_cases h2:c<1∨6<c
 ·rw[if_pos h2]
  rcases h2 with h|h
  ·rw[zT h];rfl
  ·rw[zT h];cases decide (c<1)<;>rfl
 rw[if_neg h2,zF (by omega),zF (by omega)]
 by_cases h3:f<1∨3<f
 ·rw[if_pos h3]
  rcases h3 with h|h
  ·rw[zT h];rfl
  ·rw[zT h];cases decide (f<1)<;>rfl
 rw[if_neg h3,zF (by omega),zF (by omega)]
 simp only[zD]
 by_cases f1:f=1
 ·rw[zT f1,zF (by omega:¬f=2)]
  simp only[zC,zD]
  by_cases a:mn<1
  ·rw[zT a,if_pos (by omega)];rfl
  rw[zF a]
  by_cases b:mx<mn
  ·rw[zT b,if_pos (by omega)];rfl
  rw[zF b]
  by_cases d:999<mx
  ·rw[zT d,if_pos (by omega)];rfl
  rw[zF d]
  by_cases e:mn=mx
  ·rw[zT e,if_neg (by omega)]
   by_cases e6:c=6
   ·rw[zT e6,if_pos (by omega)];rfl
   ·rw[zF e6,if_neg (by omega)];rfl
  ·rw[zF e,if_pos (by omega)];rfl
 ·rw[zF f1]
  simp only[zD]
  by_cases f2:f=2
  ·rw[zT f2]
   simp only[zC]
   by_cases a:mn<1
   ·rw[zT a,if_pos (by omega)];rfl
   rw[zF a]
   by_cases b:mx<mn
   ·rw[zT b,if_pos (by omega)];rfl
   rw[zF b]
   by_cases d:99<mx
   ·rw[zT d,if_pos (by omega)];rfl
   rw[zF d,if_neg (by omega),if_neg (by omega)];rfl
  ·rw[zF f2]
   simp only[zD]
   by_cases a:mn<1
   ·rw[zT a,if_pos (by omega)];rfl
   rw[zF a]
   by_cases b:mx<mn
   ·rw[zT b,if_pos (by omega)];rfl
   rw[zF b]
   by_cases d:999<mx
   ·rw[zT d,if_pos (by omega)];rfl
   rw[zF d,if_neg (by omega),if_neg (by omega)];rfl
def z1e:List Spec→Int→Int→Int×Int
 | [],_,_=>(0,0)
 |x::r,i,last=>if specC x≠0 then(specC x,i) else if x.1≤last then(11,i) else z1e r (i+1) x.1
def z14(s:zf):Int×Int:=
 if¬(s.1=1∨s.1=2) then(1,-1) else if s.2.1<0∨9<s.2.1 then(7,-1) else z1e s.2.2.1 0 0
theorem zeu{x:Spec}(h:specC x=0):2≤x.1∧x.1≤128:=by
 unfold specC at h
 split at h
 ·cases h
 ·omega
def excC(e:Sum (Int×Int) Unit):Option (Int×Int):=Sum.elim (fun we=>some (we.1,we.2)) (fun _=>some (0,0)) e
theorem z168(l:List Spec):∀(i:Int) (last:Int),excC (if(z1e l i last).1=0 then .inr () else .inl (z1e l i last))=some (z1e l i last):=by
 intro i last
 by_cases h:(z1e l i last).1=0
 ·rw[if_pos h]
  have:z1e l i last=(0,0):=by
   induction l generalizing i last with
   |nil=>rfl
   |cons x r ih=>
    unfold z1e at h⊢
    split
    ·rename_i h1;rw[if_pos h1] at h;exact absurd h h1
    ·rename_i h1
     rw[if_neg h1] at h
     split
     ·rename_i h2;rw[if_pos h2] at h;cases h
     ·rename_i h2;rw[if_neg h2] at h;exact ih _ _ h
  rw[this];rfl
 ·rw[if_neg h];rfl
theorem z1ay(s:zf)(hl:s.2.2.1.length≤maxLen):z4t FUEL 0 0 s=some (if(z1e s.2.2.1 0 0).1=0 then .inr () else .inl (z1e s.2.2.1 0 0)):=by
 have h:=loopJ spec0 s.2.2.1 hl (fun i x (last:Int) K=>if specC x≠0 then some (.inl (specC x,i)) else if x.1≤last then some (.inl (11,i)) else K x.1) (fun _=>some (.inr ())) (fun k i last=>z4t k last i s)
  (fun k i last h0 h1=>by
    rw[z4t,zbh,zT h1]
    simp only[zC,zl h0 h1,z1k,zc]
    by_cases hc:specC (s.2.2.1.getD i.toNat spec0)=0
    ·rw[zT hc,if_neg (fun h=>h hc)]
     simp only[Bool.not_true,zD]
     by_cases hn:(s.2.2.1.getD i.toNat spec0).1≤last
     ·rw[zT hn,if_pos hn];rfl
     ·rw[zF hn,if_neg hn];rfl
    ·rw[zF hc,if_pos hc];rfl)
  (fun k last=>by rw[z4t,zbh,zF (by omega)];rfl) 0
 rw[h]
 clear h hl
 generalize s.2.2.1=l
 suffices∀(i last:Int),runI (fun i (x:Spec) (last:Int) K=>if specC x≠0 then some (Sum.inl (specC x,i)) else if x.1≤last then some (.inl (11,i)) else K x.1) (fun _=>some (.inr ())) l i last=some (if(z1e l i last).1=0 then(.inr ():Sum (Int×Int) Unit) else .inl (z1e l i last)) from this 0 0
 induction l with
 |nil=>intro i last;rfl
 |cons x r ih=>
  intro i last
  rw[runI,z1e]
  by_cases hc:specC x≠0
  ·rw[if_pos hc,if_pos hc,if_neg hc]
  ·rw[if_neg hc,if_neg hc]
   by_cases hn:x.1≤last
   ·rw[if_pos hn,if_pos hn];rfl
   ·rw[if_neg hn,if_neg hn];exact ih _ _
theorem z1g8(s:zf)(hl:s.2.2.1.length≤maxLen):Q106 s=some (z14 s):=by
 unfold Q106 z8w z14
 have hx:=z168 s.2.2.1 0 0
 have hloop:(z4t FUEL 0 0 s).bind (fun e=>Sum.elim (fun(we:Int×Int)=>zky we.1 we.2 fun a0 a1=>some (a0,a1)) (fun(we:Unit)=>zkz fun a0 a1=>some (a0,a1)) e)=some (z1e s.2.2.1 0 0):=by
  rw[z1ay s hl,zc];exact hx
 dsimp only
 rw[hloop]
 by_cases h1:s.1=1
 ·rw[zT h1,if_neg (by omega)]
  by_cases h2:s.2.1<0
  ·rw[zT h2,if_pos (.inl h2)];rfl
  ·rw[zF h2]
   by_cases h3:9<s.2.1
   ·rw[zT h3,if_pos (.inr h3)];rfl
   ·rw[zF h3,if_neg (by omega)];rfl
 ·rw[zF h1]
  by_cases h0:s.1=2
  ·rw[zT h0,if_neg (by omega)]
   by_cases h2:s.2.1<0
   ·rw[zT h2,if_pos (.inl h2)];rfl
   ·rw[zF h2]
    by_cases h3:9<s.2.1
    ·rw[zT h3,if_pos (.inr h3)];rfl
    ·rw[zF h3,if_neg (by omega)];rfl
  ·rw[zF h0,if_pos (by omega)];rfl
theorem z1n6{l:List Spec}{j:Nat}(h:j<l.length):l.getD ((j:Int)).toNat ((0:Int),(0:Int),(0:Int),(0:Int),(0:Int),())=l[j]:=by
 rw[Int.toNat_natCast,List.getD_eq_getElem?_getD,List.getElem?_eq_getElem h];rfl
theorem z1gr(s:zf)(hl:s.2.2.1.length≤9223372036854775807):∀(m j k:Nat) (last:Int),j+m=s.2.2.1.length→m<k→(j=0→last=0)→(∀h:0<j,last=(s.2.2.1.getD (j-1) spec0).1)→
 z5z k s.2.2.1 (s.2.2.1.length:Int) j s=some (if(z1e (s.2.2.1.drop j) j last).1=0 then .inr () else .inl (z1e (s.2.2.1.drop j) j last)):=by
 intro m
 induction m with
 |zero=>
  intro j k last hj hk h0 h1
  obtain⟨k,rfl⟩:∃k',k=k'+1:=⟨k-1,by omega⟩
  rw[z5z,zcn,zF (by omega),List.drop_eq_nil_of_le (by omega)];rfl
 |succ m ih=>
  intro j k last hj hk h0 h1
  obtain⟨k,rfl⟩:∃k',k=k'+1:=⟨k-1,by omega⟩
  have hlt:j<s.2.2.1.length:=by omega
  have ihj:=ih (j+1) k (s.2.2.1[j]).1 (by omega) (by omega) (by omega) (fun _=>by
   rw[Nat.add_sub_cancel,List.getD_eq_getElem?_getD,List.getElem?_eq_getElem hlt];rfl)
  rw[z5z,zcn,zT (by omega),zC,zh hlt,z1n6 hlt,z4o,zc,zo (by omega),List.drop_eq_getElem_cons hlt]
  rw[show((j+1:Nat):Int)=(j:Int)+1 from rfl] at ihj⊢
  by_cases hc:specC s.2.2.1[j]=0
  ·rw[zT hc]
   simp only[Bool.not_true,zD]
   have hno:=zeu hc
   by_cases hz:j=0
   ·have hlast:=h0 hz
    have e:z1e (s.2.2.1[j]::s.2.2.1.drop (j+1)) j last=z1e (s.2.2.1.drop (j+1)) ((j:Int)+1) (s.2.2.1[j]).1:=by
     rw[z1e,if_neg (fun h=>h hc),if_neg (by omega)]
    rw[zF (by omega),zD,e]
    exact ihj
   ·have hlast:=h1 (by omega)
    have hi:zW zI ((j:Int)-1)=((j-1:Nat):Int):=by rw[zi (by omega) (by omega)];omega
    rw[zT (by omega),zC,hi,zh (by omega),Int.toNat_natCast]
    by_cases hn:(s.2.2.1[j]).1≤last
    ·have e:z1e (s.2.2.1[j]::s.2.2.1.drop (j+1)) j last=(11,(j:Int)):=by
      rw[z1e,if_neg (fun h=>h hc),if_pos hn]
     rw[e,zT (by rw[←hlast];exact hn)];rfl
    ·have e:z1e (s.2.2.1[j]::s.2.2.1.drop (j+1)) j last=z1e (s.2.2.1.drop (j+1)) ((j:Int)+1) (s.2.2.1[j]).1:=by
      rw[z1e,if_neg (fun h=>h hc),if_neg hn]
     rw[e,zF (by rw[←hlast];exact hn)]
     exact ihj
  ·have e:z1e (s.2.2.1[j]::s.2.2.1.drop (j+1)) j last=(specC s.2.2.1[j],(j:Int)):=by
    rw[z1e,if_pos hc]
   rw[zF hc,e,if_neg hc];rfl
theorem z9j(s:zf)(hl:s.2.2.1.length≤maxLen):Q221 s=some (z14 s):=by
 rw[zj] at hl
 unfold Q221 z97 z14
 have hx:=z168 s.2.2.1 0 0
 have hl0:=z1gr s hl s.2.2.1.length 0 FUEL 0 (by omega) (by rw[zn];omega) (fun _=>rfl) (fun h=>absurd h (by omega))
 rw[List.drop_zero,show((0:Nat):Int)=0 from rfl] at hl0
 have hloop:(z5z FUEL s.2.2.1 (s.2.2.1.length:Int) 0 s).bind (fun e=>Sum.elim (fun(we:Int×Int)=>zow we.1 we.2 fun a0 a1=>some (a0,a1)) (fun(we:Unit)=>zox fun a0 a1=>some (a0,a1)) e)=some (z1e s.2.2.1 0 0):=by
  rw[hl0,zc];exact hx
 dsimp only
 rw[hloop]
 by_cases h1:s.1=1
 ·rw[zT h1,if_neg (by omega)]
  by_cases h2:s.2.1<0
  ·rw[zT h2,if_pos (.inl h2)];rfl
  ·rw[zF h2]
   by_cases h3:9<s.2.1
   ·rw[zT h3,if_pos (.inr h3)];rfl
   ·rw[zF h3,if_neg (by omega)];rfl
 ·rw[zF h1]
  by_cases h0:s.1=2
  ·rw[zT h0,if_neg (by omega)]
   by_cases h2:s.2.1<0
   ·rw[zT h2,if_pos (.inl h2)];rfl
   ·rw[zF h2]
    by_cases h3:9<s.2.1
    ·rw[zT h3,if_pos (.inr h3)];rfl
    ·rw[zF h3,if_neg (by omega)];rfl
  ·rw[zF h0,if_pos (by omega)];rfl
def findS(l:List Spec)(no:Int):Option Spec:=l.find? fun x=>decide (x.1=no)
def idxS:List Spec→Int→Int→Int
 | [],_,_=> -1
 |x::r,no,i=>if x.1=no then i else idxS r no (i+1)
theorem z1v9(s:zf)(no:Int)(hl:s.2.2.1.length≤maxLen):Q222 s no=some (match findS s.2.2.1 no with|some x=>(x,true)|none=>(spec0,false)):=by
 unfold Q222 zoz findS
 dsimp only
 have h:=loopI spec0 s.2.2.1 hl (fun i x (_:Unit) K=>bif decide (x.1=no) then some (Sum.inl (true,x)) else K ()) (fun _=>some (.inr spec0)) (fun k i _=>zco k no s.2.2.1 (s.2.2.1.length:Int) i spec0) (fun k i _=>rfl) ()
 rw[h,]
 clear h hl
 generalize(0:Int)=i
 generalize s.2.2.1=l
 induction l generalizing i with
 |nil=>rfl
 |cons x r ih=>
  rw[runI,List.find?_cons]
  cases hx:decide (x.1=no) with
  |true=>rfl
  |false=>exact ih (i+1)
theorem z1ha(l:List Spec)(no:Int):∀i:Int,0≤i→(idxS l no i= -1∧findS l no=none)∨(i≤idxS l no i∧idxS l no i<i+l.length∧∃x,findS l no=some x∧l.getD (idxS l no i-i).toNat spec0=x):=by
 induction l with
 |nil=>intro i hi;left;exact⟨rfl,rfl⟩
 |cons x r ih=>
  intro i hi
  unfold idxS findS
  by_cases h:x.1=no
  ·right
   rw[if_pos h,List.find?_cons,zT h]
   refine⟨by omega,by simp;omega,x,rfl,by simp⟩
  ·rw[if_neg h,List.find?_cons,zF h]
   rcases ih (i+1) (by omega) with⟨h1,h2⟩|⟨h1,h2,y,h3,h4⟩
   ·left;exact⟨h1,h2⟩
   ·right
    refine⟨by omega,by simp;omega,y,h3,?_⟩
    have:(idxS r no (i+1)-i).toNat=(idxS r no (i+1)-(i+1)).toNat+1:=by omega
    rw[this]
    simpa using h4
theorem z3t(s:zf)(no:Int)(hl:s.2.2.1.length≤maxLen):Q108 s no=some (idxS s.2.2.1 no 0):=by
 unfold Q108 zl2
 dsimp only
 have h:=loopI spec0 s.2.2.1 hl (fun i x (_:Unit) K=>bif decide (x.1=no) then some (Sum.inl i) else K ()) (fun _=>some (.inr ())) (fun k i _=>zbi k no i s) (fun k i _=>rfl) ()
 rw[h]
 clear h hl
 generalize(0:Int)=i
 generalize s.2.2.1=l
 induction l generalizing i with
 |nil=>rfl
 |cons x r ih=>
  rw[runI,idxS]
  by_cases hx:x.1=no
  ·rw[zT hx,if_pos hx];rfl
  ·rw[zF hx,if_neg hx];exact ih (i+1)
theorem z16g(n:Int):hasN 0 0 n=false:=by unfold hasN;simp
theorem z1hk{a b:zf}:a=b↔a.1=b.1∧a.2.1=b.2.1∧a.2.2.1=b.2.2.1:=by
 obtain⟨x,y,z,u⟩:=a
 obtain⟨x',y',z',u'⟩:=b
 simp
instance:DecidableEq zf:=fun a b=>decidable_of_iff _ z1hk.symm
theorem z1hu(s:zf)(h:s.2.2.1.length≤1000000):Q107 s=some s:=by
 unfold Q107 zl0
 rw[zT (by simp;omega)];rfl
def z8n(l:List Spec)(last:Int):Prop:=(∀x∈l,specC x=0)∧(l.Pairwise fun x y=>x.1<y.1)∧∀x∈l,last<x.1
theorem z1od(l:List Spec):∀(i last:Int),(z1e l i last).1=0↔z8n l last:=by
 induction l with
 |nil=>intro i last;simp [z1e,z8n]
 |cons x r ih=>
  intro i last
  unfold z1e
  by_cases hc:specC x=0
  ·rw[if_neg (fun h=>h hc)]
   by_cases hn:x.1≤last
   ·rw[if_pos hn]
    constructor
    ·intro h;cases h
    ·intro⟨_,_,h3⟩;have:=h3 x (by simp);omega
   ·rw[if_neg hn,ih]
    constructor
    ·intro⟨h1,h2,h3⟩
     refine⟨fun y hy=> ?_,List.pairwise_cons.2 ⟨h3,h2⟩,fun y hy=> ?_⟩
     ·rcases List.mem_cons.1 hy with rfl|hy
      ·exact hc
      ·exact h1 y hy
     ·rcases List.mem_cons.1 hy with rfl|hy
      ·omega
      ·have:=h3 y hy;omega
    ·intro⟨h1,h2,h3⟩
     obtain⟨h4,h5⟩:=List.pairwise_cons.1 h2
     exact⟨fun y hy=>h1 y (by simp [hy]),h5,h4⟩
  ·rw[if_pos hc]
   constructor
   ·intro h;exact absurd h hc
   ·intro⟨h1,_,_⟩;exact absurd (h1 x (by simp)) hc
def Okay(s:zf):Prop:=(s.1=1∨s.1=2)∧0≤s.2.1∧s.2.1≤9∧z8n s.2.2.1 0
theorem z2p(s:zf):(z14 s).1=0↔Okay s:=by
 unfold z14 Okay
 by_cases h1:s.1=1∨s.1=2
 ·rw[if_neg (fun h=>h h1)]
  by_cases h2:s.2.1<0∨9<s.2.1
  ·rw[if_pos h2]
   constructor
   ·intro h;cases h
   ·intro⟨_,a,b,_⟩;omega
  ·rw[if_neg h2,z1od]
   constructor
   ·intro h;exact⟨h1,by omega,by omega,h⟩
   ·intro⟨_,_,_,h⟩;exact h
 ·rw[if_pos h1]
  constructor
  ·intro h;cases h
  ·intro⟨a,_⟩;exact absurd a h1
theorem z8n.filter{l:List Spec}{last:Int}(h:z8n l last)(p:Spec→Bool):z8n (l.filter p) last:=
 ⟨fun x hx=>h.1 x (List.mem_filter.1 hx).1,h.2.1.filter p,fun x hx=>h.2.2 x (List.mem_filter.1 hx).1⟩
theorem z6a(s:zf)(hl:s.2.2.1.length≤maxLen):Q109 s=some (decide ((z14 s).1=0)):=by
 unfold Q109 zl3
 rw[z1g8 s hl,zc]
end Groat

namespace Groat
open Go.IntKind renaming wrap→zW,i64→zI,u8→zU
open Go Go.Ref
abbrev Pair:=ByteArray×ByteArray×Unit
def pair0:Pair:=(bs [],bs [],())
instance memDec (a:ByteArray) (l:List ByteArray):Decidable (a∈l):=decidable_of_iff (l.any (fun x=>decide (a=x))=true) (by
 rw[List.any_eq_true]
 exact⟨fun⟨x,hx,h⟩=>of_decide_eq_true h▸hx,fun h=>⟨a,h,zT rfl⟩⟩)
def exI(r:Int):Sum Int Unit:=if r= -1 then .inr () else .inl r
theorem z14u(j:Nat):exI (j:Int)= .inl (j:Int):=if_neg (by omega)
def seenM{K:Type}(l:List K):List (K×Bool):=l.map fun k=>(k,true)
theorem zav{K:Type}[DecidableEq K](eq:K→K→Bool)(heq:∀x y,eq x y=decide (x=y))(k:K):∀l:List K,mget eq false (seenM l) k=true↔k∈l
 | []=>by simp [seenM,mget]
 |x::l=>by
  simp only[seenM,List.map_cons,mget,heq]
  by_cases h:k=x
  ·rw[zT h,zC];exact⟨fun _=>by rw[h];exact List.mem_cons_self,fun _=>rfl⟩
  ·rw[zF h,zD]
   have:=zav eq heq k l
   simp only[seenM] at this
   rw[this]
   exact⟨fun h'=>List.mem_cons_of_mem _ h',fun h'=>(List.mem_cons.1 h').resolve_left h⟩
theorem zaw{K:Type}[DecidableEq K](eq:K→K→Bool)(heq:∀x y,eq x y=decide (x=y))(k:K):∀l:List K,mhas eq (seenM l) k=true↔k∈l
 | []=>by simp [seenM,mhas]
 |x::l=>by
  simp only[seenM,List.map_cons,mhas,heq]
  by_cases h:k=x
  ·rw[zT h,zC];exact⟨fun _=>by rw[h];exact List.mem_cons_self,fun _=>rfl⟩
  ·rw[zF h,zD]
   have:=zaw eq heq k l
   simp only[seenM] at this
   rw[this]
   exact⟨fun h'=>List.mem_cons_of_mem _ h',fun h'=>(List.mem_cons.1 h').resolve_left h⟩
theorem z4k{b:Bool}{p:Prop}(h:b=true↔p)(hp:¬p):b=false:=by cases b with
 |false=>rfl
 |true=>exact absurd (h.1 rfl) hp
theorem zaj{K:Type}(l:List K)(k:K):seenM l++ [(k,true)]=seenM (l++ [k]):=by simp [seenM]
def dupP:List ByteArray→List Pair→Int→Option Int
 |_,[],_=>none
 |seen,p::r,i=>if p.1∈seen then some i else dupP (seen++ [p.1]) r (i+1)
def z88(l:List Pair):Int×Int:=if 256<l.length then(5,256) else match dupP [] l 0 with
 |some i=>(10,i)
 |none=>(0,0)
def dupR(o:Option Int):Option (Sum (Int×Int) Unit):=some (match o with
 |some i=> .inl (10,i)
 |none=> .inr ())
theorem z14p(l:List Pair):∀(i:Int) (seen:List ByteArray),
 runI (fun i (x:Pair) (s:List Zt5) K=>bif mget (eqK .str) false s x.1 then some (Sum.inl ((10:Int),i)) else bif mhas (eqK .str) s x.1 then none else K (s++ [(x.1,true)])) (fun _=>some (Sum.inr ())) l i (seenM seen)=dupR (dupP seen l i):=by
 induction l with
 |nil=>intro i seen;rfl
 |cons p r ih=>
  intro i seen
  simp only[runI,dupP]
  have e1:=zav (eqK .str) (fun _ _=>rfl) p.1 seen
  have e2:=zaw (eqK .str) (fun _ _=>rfl) p.1 seen
  by_cases h:p.1∈seen
  ·rw[e1.2 h,if_pos h];rfl
  ·rw[z4k e1 h,z4k e2 h,if_neg h,zD,zD,zaj]
   exact ih (i+1) (seen++ [p.1])
theorem z17p(l:List Pair)(h:l.length≤maxLen):Q22 l=some (z88 l):=by
 unfold Q22 zvi z88
 dsimp only
 by_cases hl:256<l.length
 ·rw[zT (by omega),zC,if_pos hl]
 ·rw[zF (by omega),zD,if_neg hl]
  have:=loopI pair0 l h (fun i (x:Pair) (s:List Zt5) K=>bif mget (eqK .str) false s x.1 then some (Sum.inl ((10:Int),i)) else bif mhas (eqK .str) s x.1 then none else K (s++ [(x.1,true)])) (fun _=>some (Sum.inr ()))
   (fun k i s=>zhp k l (l.length:Int) i s) (fun k i s=>rfl) []
  rw[this]
  have h2:=z14p l 0 []
  rw[show seenM ([]:List ByteArray)=[] from rfl] at h2
  rw[h2]
  unfold dupR
  cases dupP [] l 0<;>rfl
def idxP:List Pair→ByteArray→Int→Int
 | [],_,_=> -1
 |p::r,f,i=>if p.1=f then i else idxP r f (i+1)
theorem zr4(l:List Pair)(hl:l.length≤9223372036854775807)(n:Nat)(hn:n≤l.length)(f:ByteArray):∀(m j k:Nat),j+m=n→m<k→z6w k l (n:Int) f (j:Int)=some (exI (idxP ((l.take n).drop j) f j))
 |m,j,0,_,hk=>by omega
 |0,j,k+1,hj,hk=>by
  have:j=n:=by omega
  subst this
  unfold z6w zbq
  rw[zF (by omega),List.drop_eq_nil_of_le (by rw[List.length_take];omega)]
  rfl
 |m+1,j,k+1,hj,hk=>by
  have hlt:j<l.length:=by omega
  unfold z6w zbq
  rw[zT (by omega),zC,zh hlt,Int.toNat_natCast]
  have hd:(l.take n).drop j=l[j]::(l.take n).drop (j+1):=by
   rw[List.drop_eq_getElem_cons (by simp;omega)]
   congr 1
   rw[List.getElem_take]
  have hg:∀d,l.getD j d=l[j]:=fun d=>by rw[List.getD_eq_getElem?_getD,List.getElem?_eq_getElem hlt];rfl
  rw[hd]
  simp only[hg,idxP]
  by_cases h:l[j].1=f
  ·rw[zT h,if_pos h,z14u];rfl
  ·rw[zF h,if_neg h,zD,zo (by omega),zr4 l hl n hn f m (j+1) k (by omega) (by omega)]
   rfl
theorem z16a(l:List Pair)(hl:l.length≤maxLen)(n:Nat)(hn:n≤l.length)(f:ByteArray):Q130 l (n:Int) f=some (idxP (l.take n) f 0):=by
 rw[zj] at hl
 unfold Q130 zlw
 dsimp only
 have:=zr4 l hl n hn f n 0 FUEL (by omega) (by rw[zn];omega)
 rw[show((0:Nat):Int)=(0:Int) from rfl,List.drop_zero] at this
 rw[this,Option.bind_some]
 unfold exI
 by_cases h:idxP (l.take n) f 0= -1
 ·rw[if_pos h,h];rfl
 ·rw[if_neg h];rfl
theorem z16k(f:ByteArray):∀(l:List Pair) (i:Int),0≤i→(0≤idxP l f i↔f∈l.map fun p=>p.1)
 | [],i,_=>by simp [idxP]
 |p::r,i,hi=>by
  simp only[idxP,List.map_cons,List.mem_cons]
  by_cases h:p.1=f
  ·rw[if_pos h];exact⟨fun _=> .inl h.symm,fun _=>hi⟩
  ·rw[if_neg h,z16k f r (i+1) (by omega)]
   exact⟨.inr,fun h'=>h'.resolve_left (fun e=>h e.symm)⟩
theorem zj8(l:List Pair)(hl:l.length≤256):∀(m j k:Nat),j+m=l.length→m<k→z6v k l (j:Int)=dupR (dupP ((l.take j).map fun p=>p.1) (l.drop j) j)
 |m,j,0,_,hk=>by omega
 |0,j,k+1,hj,hk=>by
  unfold z6v zbp
  rw[zF (by omega),List.drop_eq_nil_of_le (by omega)]
  rfl
 |m+1,j,k+1,hj,hk=>by
  have hlt:j<l.length:=by omega
  unfold z6v zbp
  have hg:∀d,l.getD j d=l[j]:=fun d=>by rw[List.getD_eq_getElem?_getD,List.getElem?_eq_getElem hlt];rfl
  rw[zT (by omega),zC,zh hlt,Int.toNat_natCast,hg,z16a l (by rw[zj];omega) j (by omega),Option.bind_some,List.drop_eq_getElem_cons hlt]
  simp only[dupP]
  have hm:=z16k l[j].1 (l.take j) 0 (Int.le_refl _)
  by_cases h:l[j].1∈(l.take j).map fun p=>p.1
  ·rw[zT (hm.2 h),if_pos h];rfl
  ·rw[zF (fun h'=>h (hm.1 h')),if_neg h,zD,zo (by omega),zj8 l hl m (j+1) k (by omega) (by omega)]
   congr 2
   rw[List.take_add_one,List.getElem?_eq_getElem hlt,List.map_append]
   rfl
theorem z1ga(l:List Pair)(h:l.length≤maxLen):Q126 l=some (z88 l):=by
 unfold Q126 zlr z88
 dsimp only
 by_cases hl:256<l.length
 ·rw[zT (by omega),zC,if_pos hl]
 ·rw[zF (by omega),zD,if_neg hl]
  have:=zj8 l (by omega) l.length 0 FUEL (by omega) (by rw[zn];omega)
  rw[show((0:Nat):Int)=(0:Int) from rfl,List.take_zero,List.drop_zero] at this
  rw[this]
  unfold dupR
  simp only[List.map_nil]
  cases dupP [] l 0<;>rfl
def zp(l:List Pair)(f:ByteArray):ByteArray×Bool:=match l.find? fun p=>decide (p.1=f) with
 |some p=>(p.2.1,true)
 |none=>(bs [],false)
theorem zdf(f:ByteArray)(l:List Pair):∀(i:Int),runI (fun i (x:Pair) (s:Unit) K=>bif decide (x.1=f) then some (Sum.inl (x.2.1,true)) else K s) (fun _=>some (Sum.inr ())) l i ()=some (match l.find? fun p=>decide (p.1=f) with
 |some p=> .inl (p.2.1,true)
 |none=> .inr ()):=by
 induction l with
 |nil=>intro i;rfl
 |cons p r ih=>
  intro i
  simp only[runI,List.find?_cons]
  by_cases h:p.1=f
  ·rw[zT h];rfl
  ·rw[zF h,zD];exact ih (i+1)
theorem z17o(l:List Pair)(f:ByteArray)(h:l.length≤maxLen):Q20 l f=some (zp l f):=by
 unfold Q20 zva zp
 dsimp only
 have:=loopI pair0 l h (fun i (x:Pair) (s:Unit) K=>bif decide (x.1=f) then some (Sum.inl (x.2.1,true)) else K s) (fun _=>some (Sum.inr ()))
  (fun k i s=>zhc k f l (l.length:Int) i) (fun k i s=>rfl) ()
 rw[this,zdf]
 cases l.find? fun p=>decide (p.1=f)<;>rfl
theorem z16j(f:ByteArray):∀(l:List Pair) (i:Int),0≤i→(idxP l f i= -1∧l.find? (fun p=>decide (p.1=f))=none)∨(i≤idxP l f i∧idxP l f i<i+l.length∧∃p,l.find? (fun p=>decide (p.1=f))=some p∧∀d,l.getD (idxP l f i-i).toNat d=p)
 | [],i,_=> .inl ⟨rfl,rfl⟩
 |p::r,i,hi=>by
  simp only[idxP,List.find?_cons,List.length_cons]
  by_cases h:p.1=f
  ·rw[if_pos h,zT h]
   exact .inr ⟨Int.le_refl _,by omega,p,rfl,fun d=>by simp⟩
  ·rw[if_neg h,zF h]
   rcases z16j f r (i+1) (by omega) with⟨h1,h2⟩|⟨h1,h2,q,h3,h4⟩
   ·exact .inl ⟨h1,h2⟩
   ·refine .inr ⟨by omega,by omega,q,h3,fun d=> ?_⟩
    have:=h4 d
    rw[show(idxP r f (i+1)-i).toNat=(idxP r f (i+1)-(i+1)).toNat+1 by omega,List.getD_cons_succ]
    exact this
theorem zdp(l:List Pair)(f:ByteArray)(h:l.length≤maxLen):Q125 l f=some (zp l f):=by
 unfold Q125 zlp zp
 dsimp only
 rw[z16a l h l.length (Nat.le_refl _),List.take_length,Option.bind_some]
 rcases z16j f l 0 (Int.le_refl _) with⟨h1,h2⟩|⟨h1,h2,p,h3,h4⟩
 ·rw[h1,h2];rfl
 ·rw[zF (by omega),zD,zl h1 (by omega),h3]
  have:=h4 ((bs []),(bs []),())
  rw[Int.sub_zero] at this
  rw[this]
def turnP(l:List Pair):List Pair:=l.map fun p=>(p.2.1,p.1,())
theorem z1oq(l:List Pair):(turnP l).length=l.length:=by simp [turnP]
theorem z156(l:List Pair)(h:l.length≤1000000):Q127 l=some l:=by
 unfold Q127 zls
 rw[zT (by simp;omega),zC,List.nil_append]
end Groat

namespace Groat
open Go.IntKind renaming wrap→zW,i64→zI,u8→zU
open Go Go.Ref
def isC(c b:Int):Bool:=
 if c=1 then decide (48≤b∧b≤57)
 else if c=2 then decide (65≤b∧b≤90∨97≤b∧b≤122)
 else if c=3 then decide (48≤b∧b≤57∨65≤b∧b≤90∨97≤b∧b≤122)
 else if c=4 then decide (32≤b∧b≤126)
 else decide (c=5∨c=6)
def setsV(c:Int):Int:=if c=1 then 1 else if c=2 then 2 else if c=3 then 3 else if c=4 then 7 else if c=5 then 15 else if c=6 then 15 else 0
theorem z22c:∀c:Fin 7,∀b:Fin 256,Q80 (c.1:Int) (b.1:Int)=some (isC (c.1:Int) (b.1:Int)):=by decide+kernel
theorem z1nv:∀c:Fin 7,∀b:Fin 256,(Q18 (b.1:Int)).map (fun r=>decide (ibits .and .i64 (setsV (c.1:Int)) r=0))=some (!isC (c.1:Int) (b.1:Int)):=by decide+kernel
theorem z15t(c:Int):(∃k:Fin 7,c=(k.1:Int))∨(c≠1∧c≠2∧c≠3∧c≠4∧c≠5∧c≠6):=by
 by_cases h:0≤c∧c≤6
 ·exact .inl ⟨⟨c.toNat,by omega⟩,by simp;omega⟩
 ·exact .inr ⟨by omega,by omega,by omega,by omega,by omega,by omega⟩
theorem z1n{b:Int}(h:zq b):∃k:Fin 256,b=(k.1:Int):=by
 unfold zq at h
 exact⟨⟨b.toNat,by omega⟩,by simp;omega⟩
theorem z1vc(c:Int){b:Int}(hb:zq b):Q80 c b=some (isC c b):=by
 obtain⟨b,rfl⟩:=z1n hb
 rcases z15t c with⟨k,rfl⟩|⟨h1,h2,h3,h4,h5,h6⟩
 ·exact z22c k b
 ·unfold Q80 zx4 isC
  simp only[h1,h2,h3,h4,h5,h6,decide_false,zD,if_false,or_self,Bool.cond_self]
theorem z1nu(c:Int){b:Int}(hb:zq b):∃r,Q18 b=some r∧decide (ibits .and .i64 (setsV c) r=0)= !isC c b:=by
 obtain⟨b,rfl⟩:=z1n hb
 rcases z15t c with⟨k,rfl⟩|⟨h1,h2,h3,h4,h5,h6⟩
 ·have:=z1nv k b
  cases hc:Q18 (b.1:Int) with
  |none=>rw[hc] at this;cases this
  |some r=>rw[hc] at this;exact⟨r,rfl,by simpa using this⟩
 ·have:=z1nv 0 b
  cases hc:Q18 (b.1:Int) with
  |none=>rw[hc] at this;cases this
  |some r=>
   rw[hc] at this
   refine⟨r,rfl,?_⟩
   have e1:setsV c=setsV ((0:Fin 7).1:Int):=by unfold setsV;simp [h1,h2,h3,h4,h5,h6]
   have e2:isC c (b.1:Int)=isC ((0:Fin 7).1:Int) (b.1:Int):=by unfold isC;simp [h1,h2,h3,h4,h5,h6]
   rw[e1,e2]
   simpa using this
def z39(c:Int):List Int→Int→Int
 | [],_=> -1
 |b::r,i=>if isC c b=true then z39 c r (i+1) else i
theorem zr6(c:Int):∀(l:List Int) (i:Int),0≤i→(0≤z39 c l i↔¬l.all (isC c)=true)
 | [],i,_=>by simp [z39]
 |b::r,i,hi=>by
  simp only[z39,List.all_cons]
  cases h:isC c b with
  |true=>rw[if_pos rfl,zr6 c r (i+1) (by omega),Bool.true_and]
  |false=>simp [hi]
theorem zy9(c:Int)(s:ByteArray)(hs:s.size≤9223372036854775807):∀(n j k:Nat),j+n=s.size→n<k→z9o k s (setsV c) (j:Int)=some (exI (z39 c ((bl s).drop j) j))
 |n,j,0,_,hk=>by omega
 |0,j,k+1,hj,hk=>by
  unfold z9o zgo
  rw[zF (by omega),List.drop_eq_nil_of_le (by rw[zg];omega)];rfl
 |n+1,j,k+1,hj,hk=>by
  have hlt:j<s.size:=by omega
  have hl:j<(bl s).length:=by rw[zg];exact hlt
  have hb:zq ((bl s)[j]):=z1a (List.getElem_mem hl)
  have hg:(bl s).getD j 0=(bl s)[j]:=by rw[List.getD_eq_getElem?_getD,List.getElem?_eq_getElem hl];rfl
  unfold z9o zgo
  rw[zT (by omega),zC,zh hlt,Int.toNat_natCast,z1h,hg,List.drop_eq_getElem_cons hl]
  obtain⟨r,h1,h2⟩:=z1nu c hb
  rw[h1,Option.bind_some,h2]
  simp only[z39]
  cases h:isC c (bl s)[j] with
  |true=>rw[if_pos rfl,Bool.not_true,zD,zo (by omega),zy9 c s hs n (j+1) k (by omega) (by omega)];rfl
  |false=>rw[if_neg (by simp),Bool.not_false,zC,z14u]
theorem z1p8(c:Int)(s:ByteArray)(h:s.size≤maxLen):Q15 c s=some (z39 c (bl s) 0):=by
 rw[zj] at h
 unfold Q15 zuu
 dsimp only
 rw[zqr,Option.bind_some]
 have:=zy9 c s h s.size 0 FUEL (by omega) (by rw[zn];omega)
 rw[show((0:Nat):Int)=(0:Int) from rfl,List.drop_zero] at this
 rw[show(if c=1 then 1 else if c=2 then 2 else if c=3 then 3 else if c=4 then 7 else if c=5 then 15 else if c=6 then 15 else 0:Int)=setsV c from rfl,this,Option.bind_some]
 unfold exI
 by_cases h:z39 c (bl s) 0= -1
 ·rw[if_pos h,h];rfl
 ·rw[if_neg h];rfl
theorem zjr(c:Int)(s:ByteArray)(hs:s.size≤9223372036854775807):∀(n j k:Nat),j+n=s.size→n<k→z9y k c s (j:Int)=some (exI (z39 c ((bl s).drop j) j))
 |n,j,0,_,hk=>by omega
 |0,j,k+1,hj,hk=>by
  unfold z9y zii
  rw[zF (by omega),List.drop_eq_nil_of_le (by rw[zg];omega)];rfl
 |n+1,j,k+1,hj,hk=>by
  have hlt:j<s.size:=by omega
  have hl:j<(bl s).length:=by rw[zg];exact hlt
  have hb:zq ((bl s)[j]):=z1a (List.getElem_mem hl)
  have hg:(bl s).getD j 0=(bl s)[j]:=by rw[List.getD_eq_getElem?_getD,List.getElem?_eq_getElem hl];rfl
  unfold z9y zii
  rw[zT (by omega),zC,zh hlt,Int.toNat_natCast,z1h,hg,List.drop_eq_getElem_cons hl,z1vc c hb,Option.bind_some]
  simp only[z39]
  cases h:isC c (bl s)[j] with
  |true=>rw[if_pos rfl,Bool.not_true,zD,zo (by omega),zjr c s hs n (j+1) k (by omega) (by omega)];rfl
  |false=>rw[if_neg (by simp),Bool.not_false,zC,z14u]
theorem zdr(c:Int)(s:ByteArray)(h:s.size≤maxLen):Q79 c s=some (z39 c (bl s) 0):=by
 rw[zj] at h
 unfold Q79 zx3
 dsimp only
 have:=zjr c s h s.size 0 FUEL (by omega) (by rw[zn];omega)
 rw[show((0:Nat):Int)=(0:Int) from rfl,List.drop_zero] at this
 rw[this,Option.bind_some]
 unfold exI
 by_cases h:z39 c (bl s) 0= -1
 ·rw[if_pos h,h];rfl
 ·rw[if_neg h];rfl
def z6m(a b:Int):Bool:=decide (1≤a∧a≤6∧1≤b∧b≤6)&&decide (ibits .andNot .i64 (setsV b) (setsV a)=0)
theorem z1t5(a b:Int):Q17 a b=some (z6m a b):=by
 unfold Q17 zv0 z6m
 rw[zrs,Option.bind_some]
 by_cases ha:1≤a∧a≤6
 ·rw[zT ha,zC,zrs,Option.bind_some]
  by_cases hb:1≤b∧b≤6
  ·rw[zT hb,zC,zqr,Option.bind_some,zqr,Option.bind_some,zT (show 1≤a∧a≤6∧1≤b∧b≤6 from⟨ha.1,ha.2,hb.1,hb.2⟩),Bool.true_and]
   rfl
  ·rw[zF hb,zD,zF (fun h=>hb h.2.2)];rfl
 ·rw[zF ha,zD,zF (fun h=>ha ⟨h.1,h.2.1⟩)];rfl
theorem z1p0:∀a b:Fin 7,Q81 (a.1:Int) (b.1:Int)=some (z6m (a.1:Int) (b.1:Int)):=by decide+kernel
theorem zyk{c:Int}(h:1≤c∧c≤6):∃k:Fin 7,c=(k.1:Int):=⟨⟨c.toNat,by omega⟩,by simp;omega⟩
theorem ze1(a b:Int):Q81 a b=some (z6m a b):=by
 by_cases h:(1≤a∧a≤6)∧(1≤b∧b≤6)
 ·obtain⟨k,rfl⟩:=zyk h.1
  obtain⟨m,rfl⟩:=zyk h.2
  exact z1p0 k m
 ·unfold Q81 zx7 z6m
  rw[show decide (1≤a∧a≤6∧1≤b∧b≤6)=false from zF (fun h'=>h ⟨⟨h'.1,h'.2.1⟩,h'.2.2⟩),Bool.false_and]
  by_cases h1:a<1
  ·rw[zT h1];rfl
  ·by_cases h2:(6:Int)<a
   ·rw[zF h1,zT h2];rfl
   ·by_cases h3:b<1
    ·rw[zF h1,zF h2,zT h3];rfl
    ·have h4:(6:Int)<b:=by omega
     rw[zF h1,zF h2,zF h3,zT h4];rfl
end Groat

namespace Groat
open Go.IntKind renaming wrap→zW,i64→zI,u8→zU
open Go Go.Ref
theorem z1y(s:ByteArray)(i:Nat):zq (ze s i):=by
 rw[z1h]
 exact z1n4 (fun x hx=>z1a hx) i
theorem z16c:∀b:Fin 256,Q241 (b.1:Int)=some (decide (Q95 (b.1:Int)≠some 0)):=by decide+kernel
theorem zek:∀b:Fin 256,Q95 (b.1:Int)=some 0∨(Q95 (b.1:Int)=some 1∧decide (ibits .and .i64 (b.1:Int) 31=31)=false)∨(Q95 (b.1:Int)=some 2∧decide (ibits .and .i64 (b.1:Int) 31=31)=true):=by decide+kernel
theorem z225(x y:Nat)(hx:x<256)(hy:y<256):ibits .and .i64 (((x:Int)*256)+(y:Int)) 255=(y:Int):=by
 have:((x:Int)*256+(y:Int))=((x*256+y:Nat):Int):=by omega
 rw[this,show(255:Int)=((255:Nat):Int) from rfl,z1y8 (by omega) (by omega)]
 congr 1
 rw[show(255:Nat)=2^8-1 from rfl,Nat.and_two_pow_sub_one_eq_mod]
 omega
theorem shr8(x y:Nat)(hx:x<256)(hy:y<256):Int.fdiv ((x:Int)*256+(y:Int)) (2^min ((8:Int)).toNat 64)=(x:Int):=by
 have:((x:Int)*256+(y:Int))=((x*256+y:Nat):Int):=by omega
 rw[this,show(8:Int)=((8:Nat):Int) from rfl,zad _ 8 (by omega)]
 congr 1
 omega
theorem z1o7(x:Fin 256)(hx:Q95 (x.1:Int)=some 2)(y:Fin 256):Q240 ((x.1:Int)*256+(y.1:Int))=some (decide (1≤(y.1:Int)∧(y.1:Int)≤127)):=by
 have hx0:x.1≠0:=fun e=>by
  have:x=0:=Fin.ext e
  subst this
  revert hx
  decide+kernel
 have h31:decide (ibits .and .i64 (x.1:Int) 31=31)=true:=by
  rcases zek x with h|⟨h,_⟩|⟨_,h⟩
  ·rw[h] at hx;cases hx
  ·rw[h] at hx;cases hx
  ·exact h
 have hf:Q241 (x.1:Int)=some true:=by rw[z16c x,hx];rfl
 unfold Q240 zpp
 rw[shr8 x.1 y.1 x.2 y.2,z225 x.1 y.1 x.2 y.2,zF (by have:=x.2;have:=y.2;omega),zD,zT (by have:=x.2;have:=y.2;omega),zC,hf,Option.bind_some,zC,h31,zC]
 by_cases h1:(1:Int)≤(y.1:Int)
 ·rw[zT h1,zC]
  congr 1
  exact decide_eq_decide.2 ⟨fun h=>⟨h1,h⟩,fun h=>h.2⟩
 ·rw[zF h1,zD]
  congr 1
  exact(zF fun h=>h1 h.1).symm
theorem z1oj(s:ByteArray)(hs:s.size≤9223372036854775000)(a:Int):Q239 s a=Q96 s a:=by
 unfold Q239 zpo Q96 zir
 by_cases h1:a<0
 ·rw[zT h1];rfl
 rw[zF h1,zD,zD]
 by_cases h2:(s.size:Int)<a
 ·rw[zT h2];rfl
 rw[zF h2,zD,zD]
 by_cases h3:a=(s.size:Int)
 ·rw[zT h3];rfl
 have wa:∀{R:Type} (x:Option R),zd a s.size x=x:=fun x=>zl (by omega) (by omega)
 rw[zF h3,zD,zD]
 simp only[wa]
 obtain⟨x,hx⟩:=z1n (z1y s a.toNat)
 obtain⟨y,hy⟩:=z1n (z1y s (zW zI (a+1)).toNat)
 have hx2:=x.2
 have hy2:=y.2
 have ob:=z1ca (z1y s a.toNat) (z1y s (zW zI (a+1)).toNat)
 rw[hx,hy] at ob
 have w1:zW zI (a+1)=a+1:=zi (by omega) (by omega)
 have w2:zW zI (x.1:Int)=(x.1:Int):=zi (by omega) (by omega)
 have w3:zW zI (y.1:Int)=(y.1:Int):=zi (by omega) (by omega)
 have w4:zW zI ((s.size:Int)-a)=(s.size:Int)-a:=zi (by omega) (by omega)
 rw[hx,hy,w2,z16c x,Option.bind_some]
 rw[w2] at ob
 rcases zek x with h|⟨h,h31⟩|⟨h,h31⟩
 ·rw[h];rfl
 ·rw[h,Option.bind_some,h31];rfl
 ·rw[h,Option.bind_some,h31,ob,z1o7 x h y,Option.bind_some,w1,w4,w3]
  by_cases h4:a+1=(s.size:Int)
  ·rw[zT h4,zT (by omega:(s.size:Int)-a<2)];rfl
  ·have w5:zW zI (256*(x.1:Int))=256*(x.1:Int):=zi (by omega) (by omega)
   have w6:zW zI (256*(x.1:Int)+(y.1:Int))=(x.1:Int)*256+(y.1:Int):=by rw[zi (by omega) (by omega)];omega
   rw[zF h4,zF (by omega:¬(s.size:Int)-a<2),w5,w6]
   have wb:∀{R:Type} (x:Option R),zd (a+1) s.size x=x:=fun x=>zl (by omega) (by omega)
   simp only[wb]
   by_cases h5:(y.1:Int)=0
   ·rw[zT h5,zF (by omega:¬(1≤(y.1:Int)∧(y.1:Int)≤127))];rfl
   ·by_cases h6:(127:Int)<(y.1:Int)
    ·rw[zF h5,zT h6,zF (by omega:¬(1≤(y.1:Int)∧(y.1:Int)≤127))];rfl
    ·rw[zF h5,zF h6,zT (by omega:1≤(y.1:Int)∧(y.1:Int)≤127)];rfl
end Groat

namespace Groat
open Go.IntKind renaming wrap→zW,i64→zI,u8→zU
open Go Go.Ref
def hexD(b:Int):Int:=if 48≤b∧b≤57 then b-48 else if 65≤b∧b≤70 then b-55 else-1
def hexL(d:Int):Int:=if d<10 then 48+d else 55+d
def hexP:List Int→List Int
 | []=>[]
 |x::r=>hexL (x/16)::hexL (x % 16)::hexP r
def hexG:List Int→List Int
 |a::b::r=>(16*hexD a+hexD b)::hexG r
 |_=>[]
def badX:List Int→Int→Option Int
 | [],_=>none
 |a::r,i=>if hexD a<0 then some i else badX r (i+1)
def z22(s:ByteArray):ByteArray×Int×Bool:=match badX (bl s) 0 with
 |some i=>(bs [],i,false)
 |none=>if s.size % 2=1 then(bs [],(s.size:Int),false) else(strOf (hexG (bl s)),0,true)
def z3p(s:ByteArray):ByteArray:=strOf (hexP (bl s))
abbrev LET:ByteArray:=bs [48,49,50,51,52,53,54,55,56,57,65,66,67,68,69,70]
theorem z229:∀b:Fin 256,Q169 (b.1:Int)=some (if hexD (b.1:Int)<0 then((0:Int),false) else(hexD (b.1:Int),true)):=by decide+kernel
theorem z22i:∀b:Fin 256,Q76 (b.1:Int)=some (hexD (b.1:Int)):=by decide+kernel
theorem z1u3:∀b:Fin 256,hexD (b.1:Int)<16∧(hexD (b.1:Int)<0∨0≤hexD (b.1:Int)):=by decide+kernel
theorem z35:∀b:Fin 256,Int.fdiv (b.1:Int) (2^min ((4:Int)).toNat 8)=((b.1/16:Nat):Int)∧ibits .and .u8 (b.1:Int) (15:Int)=((b.1 % 16:Nat):Int)∧zW zU (Int.tdiv (b.1:Int) (16:Int))=((b.1/16:Nat):Int)∧Int.tmod (b.1:Int) (16:Int)=((b.1 % 16:Nat):Int):=by decide+kernel
theorem z1fj:∀d:Fin 16,ze LET d.1=hexL (d.1:Int):=by decide+kernel
theorem z1u2:∀a b:Fin 16,zW zU (ibits .or .i64 (zW zI ((a.1:Int)*2^min ((4:Int)).toNat 64)) (b.1:Int))=16*(a.1:Int)+(b.1:Int)∧zW zU (zW zI (zW zI ((16:Int)*(a.1:Int))+(b.1:Int)))=16*(a.1:Int)+(b.1:Int):=by decide+kernel
theorem hexB{x y:Int}(h1:0≤x)(h2:x<16)(h3:0≤y)(h4:y<16):zW zU (ibits .or .i64 (zW zI (x*2^min ((4:Int)).toNat 64)) y)=16*x+y∧zW zU (zW zI (zW zI ((16:Int)*x)+y))=16*x+y:=by
 have:=z1u2 ⟨x.toNat,by omega⟩ ⟨y.toNat,by omega⟩
 simpa [Int.toNat_of_nonneg h1,Int.toNat_of_nonneg h3] using this
theorem zdl{b:Int}(h:zq b):hexD b<16:=by
 obtain⟨k,rfl⟩:=z1n h
 exact(z1u3 k).1
theorem z1tq{b:Int}(h:zq b):Q169 b=some (if hexD b<0 then((0:Int),false) else(hexD b,true)):=by
 obtain⟨k,rfl⟩:=z1n h
 exact z229 k
theorem ztz{b:Int}(h:zq b):Q76 b=some (hexD b):=by
 obtain⟨k,rfl⟩:=z1n h
 exact z22i k
theorem zdt:LET.size=16:=by decide
theorem nib{b:Int}(h:zq b):∃k:Fin 256,b=(k.1:Int)∧ze LET (b.toNat/16)=hexL (b/16)∧ze LET (b.toNat % 16)=hexL (b % 16):=by
 obtain⟨k,rfl⟩:=z1n h
 have h1:=z1fj ⟨k.1/16,by omega⟩
 have h2:=z1fj ⟨k.1 % 16,by omega⟩
 exact⟨k,rfl,by simpa using h1,by simpa using h2⟩
theorem z2x{s:ByteArray}{j:Nat}(h:j<(bl s).length):ze s j=(bl s)[j]:=by rw[z1h,List.getD_eq_getElem?_getD,List.getElem?_eq_getElem h];rfl
theorem zrc(s:ByteArray)(hs:s.size≤1099511627776):∀(n j k:Nat) (o:List Int),j+n=s.size→n<k→o.length+2*n≤35184372088832→z7d k s o (j:Int)=some (o++hexP ((bl s).drop j))
 |n,j,0,o,_,hk,_=>by omega
 |0,j,k+1,o,hj,hk,_=>by
  unfold z7d zcb
  rw[zF (by omega),zD,List.drop_eq_nil_of_le (by rw[zg];omega),hexP,List.append_nil]
 |n+1,j,k+1,o,hj,hk,ho=>by
  have hlt:j<s.size:=by omega
  have hl:j<(bl s).length:=by rw[zg];exact hlt
  obtain⟨b,hb,n1,n2⟩:=nib (z1a (List.getElem_mem hl))
  have hb2:=b.2
  unfold z7d zcb
  rw[zT (by omega),zC]
  simp only[Int.toNat_natCast,z2x hl,hb,(z35 b).1,(z35 b).2.1]
  rw[zh hlt,zh (by rw[zdt];omega),zh hlt,zh (by rw[zdt];omega),zT (by simp only[List.length_cons,List.length_nil];omega),zC]
  rw[hb] at n1 n2
  simp only[Int.toNat_natCast] at n1 n2
  rw[n1,n2,zo (by omega),zrc s hs n (j+1) k _ (by omega) (by omega) (by rw[List.length_append];simp only[List.length_cons,List.length_nil];omega),List.drop_eq_getElem_cons hl,hb,hexP,List.append_assoc]
  rfl
theorem zyh(s:ByteArray)(hs:s.size≤1099511627776):Q171 s=some (z3p s):=by
 unfold Q171 znn
 rw[zi (by omega) (by omega),zT (by omega),zC,zT (by omega),zC]
 have:=zrc s hs s.size 0 FUEL [] (by omega) (by rw[zn];omega) (by simp;omega)
 rw[show((0:Nat):Int)=0 from rfl,List.drop_zero,List.nil_append] at this
 dsimp only
 rw[this];rfl
theorem zyt(s:ByteArray)(hs:s.size≤1099511627776):∀(n j k:Nat) (o:List Int),j+n=s.size→n<k→o.length+2*n≤35184372088832→z9w k s o (j:Int)=some (o++hexP ((bl s).drop j))
 |n,j,0,o,_,hk,_=>by omega
 |0,j,k+1,o,hj,hk,_=>by
  unfold z9w zig
  rw[zF (by omega),zD,List.drop_eq_nil_of_le (by rw[zg];omega),hexP,List.append_nil]
 |n+1,j,k+1,o,hj,hk,ho=>by
  have hlt:j<s.size:=by omega
  have hl:j<(bl s).length:=by rw[zg];exact hlt
  obtain⟨b,hb,n1,n2⟩:=nib (z1a (List.getElem_mem hl))
  have hb2:=b.2
  have hD:Q73=some LET:=rfl
  unfold z9w zig
  rw[zT (by omega),zC]
  simp only[hD,zc,Int.toNat_natCast,z2x hl,hb,(z35 b).2.2.1,(z35 b).2.2.2]
  rw[zh hlt,zh (by rw[zdt];omega),zh hlt,zh (by rw[zdt];omega),zT (by simp only[List.length_cons,List.length_nil];omega),zC]
  rw[hb] at n1 n2
  simp only[Int.toNat_natCast] at n1 n2
  rw[n1,n2,zo (by omega),zyt s hs n (j+1) k _ (by omega) (by omega) (by rw[List.length_append];simp only[List.length_cons,List.length_nil];omega),List.drop_eq_getElem_cons hl,hb,hexP,List.append_assoc]
  rfl
theorem z186(s:ByteArray)(hs:s.size≤1099511627776):Q75 s=some (z3p s):=by
 unfold Q75 zww
 have:=zyt s hs s.size 0 FUEL [] (by omega) (by rw[zn];omega) (by simp;omega)
 rw[show((0:Nat):Int)=0 from rfl,List.drop_zero,List.nil_append] at this
 dsimp only
 rw[this];rfl
def getX:List Int→Nat→List Int→Int→Sum Int (List Int)
 | [],_,o,_=> .inr o
 |a::r,i,o,high=>if hexD a<0 then .inl i else if i % 2=0 then getX r (i+1) o (hexD a) else getX r (i+1) (o++ [16*high+hexD a]) high
theorem z1fd:∀(l:List Int) (i:Nat) (o:List Int) (high:Int),i % 2=0→getX l i o high=(match badX l i with
 |some q=> .inl q
 |none=> .inr (o++hexG l))
 | [],i,o,high,h=>by simp [getX,badX,hexG]
 | [a],i,o,high,h=>by
   rw[getX,badX]
   by_cases ha:hexD a<0
   ·rw[if_pos ha,if_pos ha]
   ·rw[if_neg ha,if_neg ha,if_pos h]
    simp [getX,badX,hexG]
 |a::b::r,i,o,high,h=>by
  rw[getX,badX]
  by_cases ha:hexD a<0
  ·rw[if_pos ha,if_pos ha]
  ·rw[if_neg ha,if_neg ha,if_pos h,getX,badX]
   by_cases hb:hexD b<0
   ·rw[if_pos hb,if_pos hb];rfl
   ·rw[if_neg hb,if_neg hb,if_neg (by omega),z1fd r (i+1+1) _ _ (by omega),hexG,List.append_assoc]
    have:((i:Int)+1+1)=((i+1+1:Nat):Int):=by omega
    rw[this];rfl
theorem z3j(j:Nat):Int.tmod (j:Int) (2:Int)=((j % 2:Nat):Int):=rfl
theorem zbd(s:ByteArray)(hs:s.size≤1099511627776):∀(n j k:Nat) (o:List Int) (high:Int),j+n=s.size→n<k→o.length+n≤35184372088832→0≤high∧high<16→∃o',z7c k s o high (j:Int)=some (match getX ((bl s).drop j) j o high with
 | .inl i=> .inl (s,bs [],i,false,o')
 | .inr r=> .inr (s,r))
 |n,j,0,o,high,_,hk,_,_=>by omega
 |0,j,k+1,o,high,hj,hk,_,_=>by
  unfold z7c zca
  rw[zF (by omega),zD,List.drop_eq_nil_of_le (by rw[zg];omega)]
  exact⟨o,rfl⟩
 |n+1,j,k+1,o,high,hj,hk,ho,hh=>by
  have hlt:j<s.size:=by omega
  have hl:j<(bl s).length:=by rw[zg];exact hlt
  have hb:=z1a (List.getElem_mem hl)
  have h16:=zdl hb
  unfold z7c zca
  rw[zT (by omega),zC,zh hlt,Int.toNat_natCast,z2x hl,z1tq hb,zc,List.drop_eq_getElem_cons hl,getX]
  by_cases ha:hexD (bl s)[j]<0
  ·rw[if_pos ha,if_pos ha]
   exact⟨o,rfl⟩
  ·rw[if_neg ha,if_neg ha]
   dsimp only
   rw[Bool.not_true,zD,z3j]
   by_cases hp:j % 2=0
   ·rw[if_pos hp,zT (by omega),zC,zo (by omega)]
    exact zbd s hs n (j+1) k o _ (by omega) (by omega) (by omega) (by omega)
   ·rw[if_neg hp,zF (by omega),zD,zT (by simp only[List.length_singleton];omega),zC,zo (by omega),(hexB hh.1 hh.2 (by omega) h16).1]
    exact zbd s hs n (j+1) k _ high (by omega) (by omega) (by rw[List.length_append,List.length_singleton];omega) hh
theorem zyg(s:ByteArray)(hs:s.size≤1099511627776):Q170 s=some (z22 s):=by
 unfold Q170 znk z22
 have e:Int.tdiv (s.size:Int) 2=((s.size/2:Nat):Int):=rfl
 rw[e,zi (by omega) (by omega),zT (by omega),zC,zT (by omega),zC]
 obtain⟨o',h⟩:=zbd s hs s.size 0 FUEL [] 0 (by omega) (by rw[zn];omega) (by simp;omega) (by omega)
 rw[show((0:Nat):Int)=0 from rfl,List.drop_zero,z1fd _ 0 _ _ rfl,List.nil_append,show((0:Nat):Int)=0 from rfl] at h
 dsimp only
 rw[h,zc]
 cases badX (bl s) 0 with
 |some i=>rfl
 |none=>
  dsimp only
  rw[Sum.elim_inr]
  unfold znl
  dsimp only
  rw[z3j]
  by_cases hp:s.size % 2=1
  ·rw[if_pos hp,zF (by omega)];rfl
  ·rw[if_neg hp,zT (by omega)];rfl
theorem zxt(s:ByteArray)(hs:s.size≤1099511627776):∀(n j k:Nat),j+n=s.size→n<k→z9u k s (j:Int)=some (match badX ((bl s).drop j) j with
 |some i=> .inl (s,bs [],i,false)
 |none=> .inr s)
 |n,j,0,_,hk=>by omega
 |0,j,k+1,hj,hk=>by
  unfold z9u zie
  rw[zF (by omega),zD,List.drop_eq_nil_of_le (by rw[zg];omega)];rfl
 |n+1,j,k+1,hj,hk=>by
  have hlt:j<s.size:=by omega
  have hl:j<(bl s).length:=by rw[zg];exact hlt
  have hb:=z1a (List.getElem_mem hl)
  unfold z9u zie
  rw[zT (by omega),zC,zh hlt,Int.toNat_natCast,z2x hl,ztz hb,zc,List.drop_eq_getElem_cons hl,badX]
  by_cases ha:hexD (bl s)[j]<0
  ·rw[if_pos ha,zT ha];rfl
  ·rw[if_neg ha,zF ha,zD]
   dsimp only
   rw[zo (by omega)]
   exact zxt s hs n (j+1) k (by omega) (by omega)
theorem z15i{l:List Int}:∀{i:Int},badX l i=none→∀a∈l,0≤hexD a:=by
 induction l with
 |nil=>intro i _ a ha;cases ha
 |cons b r ih=>
  intro i h a ha
  rw[badX] at h
  by_cases hb:hexD b<0
  ·rw[if_pos hb] at h;cases h
  ·rw[if_neg hb] at h
   rcases List.mem_cons.1 ha with rfl|ha
   ·omega
   ·exact ih h a ha
theorem zyd(s:ByteArray)(hs:s.size≤1099511627776)(hev:s.size % 2=0)(hok:∀a∈bl s,0≤hexD a):∀(n j k:Nat) (o:List Int),j+2*n=s.size→n<k→o.length+n≤35184372088832→z9v k s o (j:Int)=some (o++hexG ((bl s).drop j))
 |n,j,0,o,_,hk,_=>by omega
 |0,j,k+1,o,hj,hk,_=>by
  unfold z9v zif
  rw[zF (by omega),zD,List.drop_eq_nil_of_le (by rw[zg];omega),hexG,List.append_nil]
  exact fun _ _ _ h=>by cases h
 |n+1,j,k+1,o,hj,hk,ho=>by
  have hlt:j<s.size:=by omega
  have hlt1:j+1<s.size:=by omega
  have hl:j<(bl s).length:=by rw[zg];exact hlt
  have hl1:j+1<(bl s).length:=by rw[zg];exact hlt1
  have m1:=List.getElem_mem hl
  have m2:=List.getElem_mem hl1
  unfold z9v zif
  rw[zT (by omega),zC,zh hlt,Int.toNat_natCast,z2x hl,ztz (z1a m1),zc,zo (by omega),zh hlt1,Int.toNat_natCast,z2x hl1,ztz (z1a m2),zc]
  rw[(hexB (hok _ m1) (zdl (z1a m1)) (hok _ m2) (zdl (z1a m2))).2,zT (by simp only[List.length_singleton];omega),zC]
  have e:zW zI ((j:Int)+2)=((j+2:Nat):Int):=by rw[zi (by omega) (by omega)];omega
  rw[e]
  dsimp only
  rw[zyd s hs hev hok n (j+2) k _ (by omega) (by omega) (by rw[List.length_append,List.length_singleton];omega),List.drop_eq_getElem_cons hl,List.drop_eq_getElem_cons hl1,hexG,List.append_assoc]
  rfl
theorem z183(s:ByteArray)(hs:s.size≤1099511627776):Q74 s=some (z22 s):=by
 unfold Q74 zwt z22
 have h:=zxt s hs s.size 0 FUEL (by omega) (by rw[zn];omega)
 rw[show((0:Nat):Int)=0 from rfl,List.drop_zero] at h
 dsimp only
 rw[h,zc]
 cases hb:badX (bl s) 0 with
 |some i=>rfl
 |none=>
  dsimp only
  rw[Sum.elim_inr]
  unfold zwu
  rw[z3j]
  by_cases hp:s.size % 2=1
  ·rw[if_pos hp,zT (by omega)];rfl
  ·rw[if_neg hp,zF (by omega),zD]
   have:=zyd s hs (by omega) (z15i hb) (s.size/2) 0 FUEL [] (by omega) (by rw[zn];omega) (by simp;omega)
   rw[show((0:Nat):Int)=0 from rfl,List.drop_zero,List.nil_append] at this
   dsimp only
   rw[this];rfl
theorem z1u5:∀d:Fin 16,hexD (hexL (d.1:Int))=(d.1:Int)∧zq (hexL (d.1:Int)):=by
 have:∀d:Fin 16,hexD (hexL (d.1:Int))=(d.1:Int)∧0≤hexL (d.1:Int)∧hexL (d.1:Int)<256:=by decide+kernel
 exact this
theorem z1fg{d:Int}(h:0≤d)(h2:d<16):hexD (hexL d)=d∧zq (hexL d):=by
 have:=z1u5 ⟨d.toNat,by omega⟩
 simpa [Int.toNat_of_nonneg h] using this
theorem z16i:∀{l:List Int},(∀x∈l,zq x)→∀y∈hexP l,zq y
 | [],_,y,hy=>by cases hy
 |x::r,h,y,hy=>by
  have hx:=h x List.mem_cons_self
  unfold zq at hx
  rw[hexP] at hy
  rcases List.mem_cons.1 hy with rfl|hy
  ·exact(z1fg (by omega) (by omega)).2
  ·rcases List.mem_cons.1 hy with rfl|hy
   ·exact(z1fg (by omega) (by omega)).2
   ·exact z16i (fun z hz=>h z (List.mem_cons_of_mem _ hz)) y hy
theorem z1bn:∀l:List Int,(hexP l).length=2*l.length
 | []=>rfl
 |x::r=>by rw[hexP,List.length_cons,List.length_cons,z1bn r,List.length_cons];omega
theorem z1nc(s:ByteArray):bl (z3p s)=hexP (bl s):=z2j (z16i fun x hx=>z1a hx)
theorem zbe(s:ByteArray):(z3p s).size=2*s.size:=by rw[←zg,z1nc,z1bn,zg]
theorem z1u4:∀b:Fin 256,0≤hexD (b.1:Int)→hexL (hexD (b.1:Int))=(b.1:Int):=by decide+kernel
theorem z16h{b:Int}(h:zq b)(h0:0≤hexD b):hexL (hexD b)=b:=by
 obtain⟨k,rfl⟩:=z1n h
 exact z1u4 k h0
theorem hexPG:∀{l:List Int},l.length % 2=0→(∀x∈l,zq x∧0≤hexD x)→hexP (hexG l)=l∧∀y∈hexG l,zq y
 | [],_,_=>⟨by simp [hexP,hexG],fun y hy=>by simp [hexG] at hy⟩
 | [a],h,_=>by simp at h
 |a::b::r,h,hx=>by
  obtain⟨a1,a2⟩:=hx a (by simp)
  obtain⟨b1,b2⟩:=hx b (by simp)
  have a3:=zdl a1
  have b3:=zdl b1
  obtain⟨i1,i2⟩:=hexPG (l:=r) (by simp only[List.length_cons] at h;omega) fun y hy=>hx y (by simp [hy])
  rw[hexG,hexP]
  refine⟨?_,fun y hy=> ?_⟩
  ·rw[show(16*hexD a+hexD b)/16=hexD a by omega,show(16*hexD a+hexD b)% 16=hexD b by omega,z16h a1 a2,z16h b1 b2,i1]
  ·rcases List.mem_cons.1 hy with rfl|hy
   ·unfold zq;omega
   ·exact i2 y hy
theorem zjw{s t:ByteArray}{i:Int}(h:z22 s=(t,i,true)):z3p t=s∧s.size=2*t.size:=by
 unfold z22 at h
 cases hb:badX (bl s) 0 with
 |some q=>rw[hb] at h;cases h
 |none=>
  rw[hb] at h
  dsimp only at h
  by_cases hp:s.size % 2=1
  ·rw[if_pos hp] at h;cases h
  ·rw[if_neg hp] at h
   have ht:t=strOf (hexG (bl s)):=(congrArg Prod.fst h).symm
   obtain⟨e1,e2⟩:=hexPG (l:=bl s) (by rw[zg];omega) fun x hx=>⟨z1a hx,z15i hb x hx⟩
   have e3:z3p t=s:=by
    unfold z3p
    rw[ht,z2j e2,e1,z43]
   exact⟨e3,by rw[←e3,zbe]⟩
end Groat

namespace Groat
open Go.IntKind renaming wrap→zW,i64→zI,u8→zU
open Go Go.Ref
def isDig(b:Int):Bool:=decide (48≤b∧b≤57)
def allD(l:List Int):Bool:=l.all isDig
theorem ziw(b:Int)(l:List Int):allD (b::l)=(isDig b&&allD l):=rfl
theorem z1yw{b:Int}(h:48≤b∧b≤57):isDig b=true:=zT h
theorem z14v{b:Int}(h:¬(48≤b∧b≤57)):isDig b=false:=zF h
theorem zj2{s:ByteArray}{j:Nat}(h:j<s.size):(bl s).getD j 0=((s[j]'h).toNat:Int):=by
 rw[←z1h]
 unfold ze
 rw[dif_pos h]
theorem zqh{s:ByteArray}{j:Nat}(h:j<s.size):(bl s).drop j=((s[j]'h).toNat:Int)::(bl s).drop (j+1):=by
 have h':j<(bl s).length:=by rw[zg];exact h
 rw[List.drop_eq_getElem_cons h']
 congr 1
 have:=zj2 h
 rw[List.getD_eq_getElem?_getD,List.getElem?_eq_getElem h'] at this
 exact this
theorem z1dj(s:ByteArray)(pos:Nat)(h:pos<s.size)(ha:128≤(s[pos]'h).toNat):128≤(Utf8.decode s pos).1:=by
 have e:s.get! (pos+0)=s[pos]'h:=by
  show s.get! pos=_
  simp [ByteArray.get!,getElem!_pos,h]
  rfl
 unfold Utf8.decode
 simp only[e]
 rw[if_neg (by omega)]
 have hre:128≤Utf8.runeError:=by unfold Utf8.runeError;omega
 split
 ·split
  ·assumption
  ·exact hre
 ·split
  ·split
   ·rename_i hc
    simp only[Bool.and_eq_true,decide_eq_true_eq] at hc
    have:=hc.1
    simp only
    omega
   ·exact hre
  ·split
   ·split
    ·rename_i hc
     simp only[Bool.and_eq_true,decide_eq_true_eq] at hc
     have:=hc.1
     simp only
     omega
    ·exact hre
   ·exact hre
theorem z1ag(s:ByteArray):∀(n j k:Nat),s.size-j≤n→j≤s.size→n<k→zcz k (s,j)=some (bif allD ((bl s).drop j) then .inr () else .inl false)
 |n,j,0,_,_,hk=>by omega
 |n,j,k+1,hn,hj,hk=>by
  unfold zcz zvs
  dsimp only
  by_cases hlt:j<s.size
  ·rw[zT hlt,zC,zqh hlt,ziw]
   by_cases h1:(s[j]'hlt).toNat<128
   ·rw[decode_ascii s j hlt h1]
    dsimp only
    by_cases h2:((s[j]'hlt).toNat:Int)<48
    ·rw[zT h2,zC,z14v (by omega)];rfl
    ·rw[zF h2,zD]
     by_cases h3:(57:Int)<((s[j]'hlt).toNat:Int)
     ·rw[zT h3,zC,z14v (by omega)];rfl
     ·obtain⟨n,rfl⟩:∃n',n=n'+1:=⟨n-1,by omega⟩
      rw[zF h3,zD,z1yw (by omega),Bool.true_and,z1ag s n (j+1) k (by omega) (by omega) (by omega)]
   ·have hd:=z1dj s j hlt (by omega)
    rw[zF (by omega:¬((Utf8.decode s j).1:Int)<48),zD,zT (by omega:(57:Int)<((Utf8.decode s j).1:Int)),zC,z14v (by omega)];rfl
  ·rw[zF hlt,zD,List.drop_eq_nil_of_le (by rw[zg];omega)];rfl
theorem zu0(s:ByteArray)(h:s.size≤maxLen):Q28 s=some (allD (bl s)):=by
 unfold Q28 zvr
 dsimp only
 rw[zj] at h
 rw[z1ag s s.size 0 FUEL (by omega) (by omega) (by rw[zn];omega),List.drop_zero]
 cases allD (bl s)<;>rfl
theorem z1gd(b:Int):Q69 b=some (isDig b):=by
 unfold Q69 zwc isDig
 by_cases h:(48:Int)≤b
 ·rw[zT h,zC];congr 1;apply decide_eq_decide.2;omega
 ·rw[zF h,zD];congr 1;symm;apply zF;omega
theorem zxq(s:ByteArray)(hs:s.size≤9223372036854775807):∀(n j k:Nat),s.size-j≤n→j≤s.size→n<k→zd1 k s (j:Int)=some (bif allD ((bl s).drop j) then .inr () else .inl false)
 |n,j,0,_,_,hk=>by omega
 |n,j,k+1,hn,hj,hk=>by
  unfold zd1 zwb
  dsimp only
  by_cases hlt:j<s.size
  ·rw[zT (by omega),zC,zh hlt,z1gd,Int.toNat_natCast,z1h,zj2 hlt,zqh hlt,ziw]
   rw[Option.bind_some]
   cases h1:isDig ((s[j]'hlt).toNat:Int) with
   |false=>rfl
   |true=>
    obtain⟨n,rfl⟩:∃n',n=n'+1:=⟨n-1,by omega⟩
    simp only[Bool.not_true,zD,Bool.true_and]
    rw[zo (by omega),zxq s hs n (j+1) k (by omega) (by omega) (by omega)]
  ·rw[zF (by omega),zD,List.drop_eq_nil_of_le (by rw[zg];omega)];rfl
theorem zdo(s:ByteArray)(h:s.size≤maxLen):Q68 s=some (allD (bl s)):=by
 unfold Q68 zwa
 dsimp only
 rw[zj] at h
 have:=zxq s h s.size 0 FUEL (by omega) (by omega) (by rw[zn];omega)
 rw[show((0:Nat):Int)=(0:Int) from rfl] at this
 rw[this,List.drop_zero]
 cases allD (bl s)<;>rfl
def valD(l:List Int)(n:Int):Int:=l.foldl (fun n b=>10*n+(b-48)) n
theorem zz6:∀(l:List Int) (n:Int) (k:Nat),allD l=true→0≤n→n<((10^k:Nat):Int)→l.length+k≤18→0≤valD l n∧valD l n<((10^(l.length+k):Nat):Int)
 | [],n,k,_,h1,h2,_=>by simpa [valD] using⟨h1,h2⟩
 |b::l,n,k,hd,h1,h2,hl=>by
  simp only[allD,List.all_cons,Bool.and_eq_true,isDig,decide_eq_true_eq] at hd
  have hp:((10^(k+1):Nat):Int)=10*((10^k:Nat):Int):=by rw[Nat.pow_succ];omega
  have:=zz6 l (10*n+(b-48)) (k+1) hd.2 (by omega) (by rw[hp];omega) (by simp at hl;omega)
  simp only[valD,List.foldl_cons,List.length_cons] at this⊢
  rw[show l.length+1+k=l.length+(k+1) by omega]
  exact this
theorem pow10{k m:Nat}(h:k≤m):10^k≤10^m:=Nat.pow_le_pow_right (by decide) h
theorem z1nz(k:Nat):((10^(k+1):Nat):Int)=10*((10^k:Nat):Int):=by rw[Nat.pow_succ];omega
theorem pow17:(10:Nat)^17=100000000000000000:=by decide
theorem z1bj(s:ByteArray)(hs:s.size≤18)(hd:allD (bl s)=true):∀(n j k:Nat) (t:Int),s.size-j≤n→j≤s.size→n<k→0≤t→t<((10^j:Nat):Int)→zd0 k t (s,j)=some (valD ((bl s).drop j) t)
 |n,j,0,t,_,_,hk,_,_=>by omega
 |n,j,k+1,t,hn,hj,hk,h0,h1=>by
  unfold zd0 zvv
  dsimp only
  by_cases hlt:j<s.size
  ·have hj':isDig ((s[j]'hlt).toNat:Int)=true:=by
    have:=List.all_eq_true.1 hd ((bl s).getD j 0) (by
     rw[List.getD_eq_getElem?_getD,List.getElem?_eq_getElem (by rw[zg];exact hlt)]
     exact List.getElem_mem _)
    rw[zj2 hlt] at this
    exact this
   simp only[isDig,decide_eq_true_eq] at hj'
   rw[zT hlt,zC,decode_ascii s j hlt (by omega),zqh hlt]
   dsimp only
   have hp1:=z1nz j
   have w32:IntKind.i32.wrap (((s[j]'hlt).toNat:Int)-48)=((s[j]'hlt).toNat:Int)-48:=by
    simp [IntKind.wrap,IntKind.signed,IntKind.bits];omega
   obtain⟨n,rfl⟩:∃n',n=n'+1:=⟨n-1,by omega⟩
   have ht:t<100000000000000000:=by
    have:=pow10 (show j≤17 by omega)
    rw[pow17] at this
    omega
   have a1:zW zI (10*t)=10*t:=zi (by omega) (by omega)
   have a2:zW zI (((s[j]'hlt).toNat:Int)-48)=((s[j]'hlt).toNat:Int)-48:=zi (by omega) (by omega)
   rw[w32,a1,a2,zi (by omega) (by omega),z1bj s hs hd n (j+1) k _ (by omega) (by omega) (by omega) (by omega) (by omega)]
   rfl
  ·rw[zF hlt,zD,List.drop_eq_nil_of_le (by rw[zg];omega)];rfl
def getD'(l:List Int):Int×Bool:=if 1≤l.length∧l.length≤18∧allD l=true then(valD l 0,true) else(0,false)
theorem z1i0(s:ByteArray)(h:s.size≤maxLen):Q29 s=some (getD' (bl s)):=by
 unfold Q29 zvu getD'
 dsimp only
 rw[zg]
 by_cases h0:s=bs []
 ·rw[zT h0,zC,if_neg]
  rw[h0]
  intro hh
  have:(bs []).size=0:=rfl
  omega
 ·have hz:s.size≠0:=fun e=>h0 (ze8.2 (List.eq_nil_of_length_eq_zero (by rw[zg];exact e)))
  rw[zF h0,zD]
  by_cases h1:(18:Int)<(s.size:Int)
  ·rw[zT h1,zC,if_neg (by omega)]
  ·rw[zF h1,zD,zu0 s h,Option.bind_some]
   cases hd:allD (bl s) with
   |false=>rw[if_neg (by simp)];rfl
   |true=>
    rw[if_pos ⟨by omega,by omega,rfl⟩]
    simp only[Bool.not_true,zD]
    rw[z1bj s (by omega) hd s.size 0 FUEL 0 (by omega) (by omega) (by rw[zn];omega) (by omega) (by decide),List.drop_zero,Option.bind_some]
    rfl
theorem zyc(s:ByteArray)(hs:s.size≤18)(hd:allD (bl s)=true):∀(n j k:Nat) (t:Int),s.size-j≤n→j≤s.size→n<k→0≤t→t<((10^j:Nat):Int)→zd2 k s t (j:Int)=some (valD ((bl s).drop j) t)
 |n,j,0,t,_,_,hk,_,_=>by omega
 |n,j,k+1,t,hn,hj,hk,h0,h1=>by
  unfold zd2 zwf
  dsimp only
  by_cases hlt:j<s.size
  ·have hj':isDig ((s[j]'hlt).toNat:Int)=true:=by
    have:=List.all_eq_true.1 hd ((bl s).getD j 0) (by
     rw[List.getD_eq_getElem?_getD,List.getElem?_eq_getElem (by rw[zg];exact hlt)]
     exact List.getElem_mem _)
    rw[zj2 hlt] at this
    exact this
   simp only[isDig,decide_eq_true_eq] at hj'
   rw[zT (by omega),zC,zh hlt,Int.toNat_natCast,z1h,zj2 hlt,zqh hlt]
   have hp1:=z1nz j
   obtain⟨n,rfl⟩:∃n',n=n'+1:=⟨n-1,by omega⟩
   have ht:t<100000000000000000:=by
    have:=pow10 (show j≤17 by omega)
    rw[pow17] at this
    omega
   have a1:zW zI (10*t)=10*t:=zi (by omega) (by omega)
   have a2:zW zI ((s[j]'hlt).toNat:Int)=((s[j]'hlt).toNat:Int):=zi (by omega) (by omega)
   have a3:zW zI (10*t+((s[j]'hlt).toNat:Int))=10*t+((s[j]'hlt).toNat:Int):=zi (by omega) (by omega)
   rw[a1,a2,a3,zi (by omega) (by omega),zo (by omega),zyc s hs hd n (j+1) k _ (by omega) (by omega) (by omega) (by omega) (by omega)]
   simp only[valD,List.foldl_cons]
   congr 2
   omega
  ·rw[zF (by omega),zD,List.drop_eq_nil_of_le (by rw[zg];omega)];rfl
theorem zds(s:ByteArray)(h:s.size≤maxLen):Q70 s=some (getD' (bl s)):=by
 unfold Q70 zwe getD'
 dsimp only
 rw[zg]
 by_cases h0:(s.size:Int)<1
 ·rw[zT h0,zC,if_neg (by omega)]
 ·rw[zF h0,zD]
  by_cases h1:(18:Int)<(s.size:Int)
  ·rw[zT h1,zC,if_neg (by omega)]
  ·rw[zF h1,zD,zdo s h,Option.bind_some]
   cases hd:allD (bl s) with
   |false=>rw[if_neg (by simp)];rfl
   |true=>
    rw[if_pos ⟨by omega,by omega,rfl⟩]
    simp only[Bool.not_true,zD]
    have:=zyc s (by omega) hd s.size 0 FUEL 0 (by omega) (by omega) (by rw[zn];omega) (by omega) (by decide)
    rw[show((0:Nat):Int)=(0:Int) from rfl] at this
    rw[this,List.drop_zero,Option.bind_some]
    rfl
end Groat

namespace Groat
open Go.IntKind renaming wrap→zW,i64→zI,u8→zU
open Go Go.Ref
def dgs:Nat→Nat→List Int
 |0,_=>[]
 |w+1,n=>dgs w (n/10)++ [((48+n % 10:Nat):Int)]
theorem zeh:∀w n,(dgs w n).length=w
 |0,_=>rfl
 |w+1,n=>by rw[dgs,List.length_append,zeh w];rfl
theorem z1b2{l:List Int}(h:allD l=true):∀x∈l,zq x:=fun x hx=>by
 have:=List.all_eq_true.1 h x hx
 simp only[isDig,decide_eq_true_eq] at this
 unfold zq;omega
theorem z6k(a b:List Int):strOf (a++b)=strOf a++strOf b:=by
 apply ByteArray.ext
 simp [strOf,ByteArray.data_append]
theorem z1op(n:Nat):Int.tmod (n:Int) 10=((n % 10:Nat):Int):=by rw[Int.tmod_eq_emod_of_nonneg (by omega)];omega
theorem z1on(n:Nat):Int.tdiv (n:Int) 10=((n/10:Nat):Int):=by rw[Int.tdiv_eq_ediv_of_nonneg (by omega)];omega
theorem z1b3(n:Nat):zW zU (zW zI ((48:Int)+((n % 10:Nat):Int)))=((48+n % 10:Nat):Int):=by
 rw[zi (by omega) (by omega),u8_id (by omega) (by omega)];omega
theorem z14q(n w:Nat):n/10/10^w=n/10^(w+1):=by rw[Nat.div_div_eq_div_mul,Nat.pow_succ,Nat.mul_comm]
theorem set_rep(x:Int)(tail:List Int):∀j,(List.replicate (j+1) (0:Int)++tail).set j x=List.replicate j 0++x::tail
 |0=>rfl
 |j+1=>by
  show(0:Int)::((List.replicate (j+1) (0:Int)++tail).set j x)=0::(List.replicate j 0++x::tail)
  rw[set_rep x tail j]
theorem z1ci(nt nt2:Nat)(hnt:nt≤18):∀(j k n:Nat) (tail:List Int),nt=j+tail.length→n≤9223372036854775807→j<k→
 z9s k (n:Int) nt ((j:Int)-1) nt2 (List.replicate j 0++tail)=some (((n/10^j:Nat):Int),nt,nt2,dgs j n++tail)
 |j,0,n,tail,_,_,hk=>by omega
 |0,k+1,n,tail,h,hn,hk=>by
  unfold z9s zia
  dsimp only
  rw[zF (by omega),zD]
  simp [dgs]
 |j+1,k+1,n,tail,h,hn,hk=>by
  unfold z9s zia
  dsimp only
  have e:(((j+1:Nat):Int)-1)=(j:Int):=by omega
  rw[e,zT (by omega:(0:Int)≤(j:Int)),zC,zh (by omega),Int.toNat_natCast,z1op,z1on,z1b3]
  have hb:Nat.ble (j+1) (List.replicate (j+1) (0:Int)++tail).length=true:=Nat.ble_eq_true_of_le (by simp)
  rw[hb,zC,z4c (by omega),zi (by omega) (by omega)]
  rw[set_rep,z1ci nt nt2 hnt j k (n/10) _ (by simp;omega) (by omega) (by omega),z14q]
  simp [dgs]
def putD(n w:Int):ByteArray×Bool:=bif decide (0≤n∧1≤w∧w≤18∧n.toNat/10^w.toNat=0) then(strOf (dgs w.toNat n.toNat),true) else(bs [],false)
theorem zk7{n w:Int}(h:0≤n∧1≤w∧w≤18∧n.toNat/10^w.toNat=0):putD n w=(strOf (dgs w.toNat n.toNat),true):=by unfold putD;rw[zT h];rfl
theorem z6j{n w:Int}(h:¬(0≤n∧1≤w∧w≤18∧n.toNat/10^w.toNat=0)):putD n w=(bs [],false):=by unfold putD;rw[zF h];rfl
theorem z1zf(n w:Int)(hn:n≤9223372036854775807):Q31 n w=some (putD n w):=by
 unfold Q31 zvy
 dsimp only
 by_cases h1:n<0
 ·rw[zT h1,zC,z6j (by omega)]
 rw[zF h1,zD]
 by_cases h2:w<1
 ·rw[zT h2,zC,z6j (by omega)]
 rw[zF h2,zD]
 by_cases h3:(18:Int)<w
 ·rw[zT h3,zC,z6j (by omega)]
 rw[zF h3,zD,zT (rfl:w=w),zC,zT (by omega:(0:Int)≤w),zC,zT (by omega:w*1≤140737488355328),zC]
 obtain⟨m,rfl⟩:∃m:Nat,n=m:=⟨n.toNat,by omega⟩
 obtain⟨v,rfl⟩:∃v:Nat,w=v:=⟨w.toNat,by omega⟩
 simp only[Int.toNat_natCast]
 have:=z1ci v v (by omega) v FUEL m [] (by simp) (by omega) (by rw[zn];omega)
 simp only[List.append_nil] at this
 rw[zi (by omega) (by omega),this,zc]
 unfold zvz
 dsimp only
 by_cases h4:(0:Int)<((m/10^v:Nat):Int)
 ·rw[zT h4,zC,z6j (by simp only[Int.toNat_natCast];generalize m/10^v=q at h4⊢;omega)]
 ·rw[zF h4,zD,zeh,Nat.beq_refl,zC,zk7 (by simp only[Int.toNat_natCast];generalize m/10^v=q at h4⊢;omega)]
  simp only[Int.toNat_natCast]
theorem zys(w:Nat)(hw:w≤18):∀(j k n i:Nat) (s:ByteArray),i+j=w→s.size=i→n≤9223372036854775807→j<k→
 z9t k (n:Int) (w:Int) s (i:Int)=some (((n/10^j:Nat):Int),strOf (dgs j n)++s)
 |j,0,n,i,s,_,_,_,hk=>by omega
 |0,k+1,n,i,s,h,hs,hn,hk=>by
  unfold z9t zid
  dsimp only
  rw[zF (by omega),zD]
  have:strOf (dgs 0 n)++s=s:=by apply z5f;rw[z29];rfl
  rw[this];simp
 |j+1,k+1,n,i,s,h,hs,hn,hk=>by
  unfold z9t zid
  dsimp only
  rw[zT (by omega:(i:Int)<(w:Int)),zC,z1op,z1on,z1b3,z1d]
  rw[zT (by simp only[List.length_singleton];omega),zC,z4c (by omega),zo (by omega),zys w hw j k (n/10) (i+1) _ (by omega) (by rw[ByteArray.size_append,z1d];simp;omega) (by omega) (by omega),z14q,dgs,z6k,ByteArray.append_assoc]
theorem z185(n w:Int)(hn:n≤9223372036854775807):Q72 n w=some (putD n w):=by
 unfold Q72 zwp
 dsimp only
 by_cases h1:n<0
 ·rw[zT h1,zC,z6j (by omega)]
 rw[zF h1,zD]
 by_cases h2:w<1
 ·rw[zT h2,zC,z6j (by omega)]
 rw[zF h2,zD]
 by_cases h3:(18:Int)<w
 ·rw[zT h3,zC,z6j (by omega)]
 rw[zF h3,zD]
 obtain⟨m,rfl⟩:∃m:Nat,n=m:=⟨n.toNat,by omega⟩
 obtain⟨v,rfl⟩:∃v:Nat,w=v:=⟨w.toNat,by omega⟩
 have:=zys v (by omega) v FUEL m 0 (bs []) (by omega) rfl (by omega) (by rw[zn];omega)
 rw[show((0:Nat):Int)=(0:Int) from rfl] at this
 rw[this,zc]
 unfold zwq
 dsimp only
 have e:strOf (dgs v m)++bs []=strOf (dgs v m):=by apply z5f;rw[z29,zth,List.append_nil]
 by_cases h4:((m/10^v:Nat):Int)=0
 ·rw[zT h4,Bool.not_true,zD,zk7 (by simp only[Int.toNat_natCast];generalize m/10^v=q at h4⊢;omega),e]
  simp only[Int.toNat_natCast]
 ·rw[zF h4,Bool.not_false,zC,z6j (by simp only[Int.toNat_natCast];generalize m/10^v=q at h4⊢;omega)]
theorem z1dx(l r:List Int)(n:Int):valD (l++r) n=valD r (valD l n):=by unfold valD;rw[List.foldl_append]
theorem ztk:∀(w n:Nat) (l:List Int),allD l=true→w=l.length→valD l 0=(n:Int)→dgs w n=l∧n/10^w=0
 |0,n,l,hd,hw,hv=>by
  obtain rfl:=List.eq_nil_of_length_eq_zero hw.symm
  have:(0:Int)=n:=hv
  obtain rfl:n=0:=by omega
  exact⟨rfl,rfl⟩
 |w+1,n,l,hd,hw,hv=>by
  have hne:l≠ []:=by intro e;subst e;simp at hw
  obtain⟨r,b,rfl⟩:∃r b,l=r++ [b]:=⟨l.dropLast,l.getLast hne,(List.dropLast_concat_getLast hne).symm⟩
  rw[allD,List.all_append,Bool.and_eq_true,List.all_cons,List.all_nil,Bool.and_true] at hd
  have hb:=hd.2
  simp only[isDig,decide_eq_true_eq] at hb
  rw[z1dx] at hv
  have hv':10*valD r 0+(b-48)=n:=hv
  obtain⟨i1,i2⟩:=ztk w (n/10) r hd.1 (by simpa using hw) (by omega)
  refine⟨?_,by rw[←z14q];exact i2⟩
  rw[dgs,i1]
  congr 2
  omega
end Groat

namespace Groat
open Go.IntKind renaming wrap→zW,i64→zI,u8→zU
open Go Go.Ref
def allZ(l:List Int):Bool:=l.all fun b=>decide (b=48)
theorem z7x(b:Int)(l:List Int):allZ (b::l)=(decide (b=48)&&allZ l):=rfl
theorem zb2(a b:List Int):allZ (a++b)=(allZ a&&allZ b):=List.all_append ..
theorem zxu(s:ByteArray)(x:Int)(l:List Int)(h:bl s=x::l):ze s 0=x:=by rw[z1h,h];rfl
theorem trimR(k:Nat):∀(s:ByteArray),s.size<k→s.size≤9223372036854775807→∃r,z99 k s 48=some r∧allZ (bl r)=allZ (bl s)∧(allZ (bl s)=true→bl r=[])∧r.size≤s.size:=by
 induction k with
 |zero=>intro s h;omega
 |succ k ih=>
  intro s h hs
  unfold z99 zpm
  dsimp only
  by_cases h0:(0:Int)<(s.size:Int)
  ·have hm:zW zI ((s.size:Int)-1)=((s.size-1:Nat):Int):=by rw[zi (by omega) (by omega)];omega
   rw[zT h0,zC,hm,zh (by omega),Int.toNat_natCast]
   have hl:(bl s).length=s.size:=zg s
   have hne:bl s≠ []:=by intro e;rw[e] at hl;simp at hl;omega
   obtain⟨r,b,hb⟩:∃r b,bl s=r++ [b]:=⟨(bl s).dropLast,(bl s).getLast hne,(List.dropLast_concat_getLast hne).symm⟩
   have hr:r.length=s.size-1:=by rw[hb] at hl;simp at hl;omega
   have hx:ze s (s.size-1)=b:=by
    rw[z1h,hb,←hr,List.getD_eq_getElem?_getD];simp
   rw[hx]
   by_cases hz:b=48
   ·rw[zT hz,zC,zT (by omega:(0:Int)≤((s.size-1:Nat):Int)),zC,zT (by omega:((s.size-1:Nat):Int)≤((s.size:Nat):Int)),zC]
    have he:bl (s.extract 0 (s.size-1))=r:=by rw[z2c,hb,List.drop_zero,←hr,List.take_left'];rfl
    have hsz:(s.extract 0 (s.size-1)).size=s.size-1:=by rw[←zg,he,hr]
    obtain⟨q,q1,q2,q3,q4⟩:=ih (s.extract 0 (s.size-1)) (by omega) (by omega)
    refine⟨q,q1,?_,fun ha=>q3 ?_,by omega⟩
    ·rw[q2,he,hb,zb2,z7x,zT hz];simp [allZ]
    ·rw[hb,zb2,Bool.and_eq_true] at ha
     rw[he];exact ha.1
   ·rw[zF hz,zD]
    refine⟨s,rfl,rfl,fun ha=> ?_,Nat.le_refl _⟩
    rw[hb,zb2,z7x,zF hz] at ha
    simp at ha
  ·rw[zF h0,zD]
   refine⟨s,rfl,rfl,fun _=>List.eq_nil_of_length_eq_zero (by rw[zg];omega),Nat.le_refl _⟩
theorem drop1{s:ByteArray}{x:Int}{l:List Int}(h:bl s=x::l):bl (s.extract 1 s.size)=l:=by
 rw[z2c,←zg,List.take_length,h];rfl
theorem trimL(k:Nat):∀(s:ByteArray),s.size<k→s.size≤9223372036854775807→∃r,z98 k s 48=some r∧((bl r=[])↔allZ (bl s)=true):=by
 induction k with
 |zero=>intro s h;omega
 |succ k ih=>
  intro s h hs
  unfold z98 zpi
  dsimp only
  have hl:(bl s).length=s.size:=zg s
  by_cases h0:(0:Int)<(s.size:Int)
  ·rw[zT h0,zC,zl (by omega) h0]
   cases hb:bl s with
   |nil=>rw[hb] at hl;simp at hl;omega
   |cons x l=>
    rw[show((0:Int)).toNat=0 from rfl,show((1:Int)).toNat=1 from rfl,zxu s x l hb]
    by_cases hz:x=48
    ·rw[zT hz,zC,zT (by omega:(1:Int)≤((s.size:Nat):Int)),zC]
     have he:=drop1 hb
     have hsz:(s.extract 1 s.size).size=s.size-1:=by rw[←zg,he,←hl,hb];simp
     obtain⟨q,q1,q2⟩:=ih (s.extract 1 s.size) (by omega) (by omega)
     refine⟨q,q1,q2.trans ?_⟩
     rw[he,z7x,zT hz];simp
    ·rw[zF hz,zD]
     refine⟨s,rfl,?_⟩
     rw[hb,z7x,zF hz];simp
  ·rw[zF h0,zD]
   have:bl s=[]:=List.eq_nil_of_length_eq_zero (by omega)
   refine⟨s,rfl,?_⟩
   rw[this];simp [allZ]
theorem z1y6(s:ByteArray)(h:s.size≤9223372036854775807):∃r,Q235 s (bs [48])=some r∧(r=bs []↔allZ (bl s)=true):=by
 unfold Q235 zpf
 by_cases h0:s=bs []
 ·rw[zT h0,zC]
  refine⟨s,rfl,?_⟩
  rw[h0];simp [zth,allZ]
 rw[zF h0,zD,zF (show¬bs [48]=bs [] from fun e=>absurd (congrArg ByteArray.size e) (by decide)),zD,zT (by rfl:(((bs [48]).size:Nat):Int)=1),zC]
 have hb:ze (bs [48]) ((0:Int)).toNat=48:=by rw[z1h];rfl
 have hw {R:Type} (x:Option R):zd (0:Int) (bs [48]).size x=x:=zl (by omega) (by decide)
 rw[hw,hb,zT (by decide:(48:Int)<128),zC,hw]
 unfold Q238 zpl
 dsimp only
 obtain⟨r,r1,r2,r3,r4⟩:=trimR FUEL s (by rw[zn];omega) h
 rw[r1,zc]
 unfold zpn
 rw[zc,hw]
 unfold Q237 zph
 dsimp only
 obtain⟨q,q1,q2⟩:=trimL FUEL r (by rw[zn];omega) (by omega)
 rw[q1,zc]
 unfold zpj
 rw[zc]
 refine⟨q,rfl,?_⟩
 rw[ze8,q2,r2]
theorem zk9:∀(c:Nat),bl ⟨(Go.Lib.repeatL (bs [48]).data.toList c).toArray⟩=List.replicate c 48
 |0=>rfl
 |c+1=>by
  rw[List.replicate_succ,←zk9 c]
  simp only[bl,Go.Lib.repeatL,List.map_append]
  rfl
def padD(s:ByteArray)(w:Int):ByteArray×Bool:=
 bif decide (1≤s.size∧s.size≤999∧allD (bl s)=true∧1≤w∧w≤999) then
  (bif decide ((s.size:Int)≤w) then(strOf (List.replicate (w-s.size).toNat 48++bl s),true)
   else bif allZ ((bl s).take (s.size-w.toNat)) then(strOf ((bl s).drop (s.size-w.toNat)),true) else(bs [],false))
 else(bs [],false)
theorem z4l{s:ByteArray}{w:Int}(h:¬(1≤s.size∧s.size≤999∧allD (bl s)=true∧1≤w∧w≤999)):padD s w=(bs [],false):=by unfold padD;rw[zF h];rfl
theorem z1ce{s:ByteArray}{w:Int}(h:1≤s.size∧s.size≤999∧allD (bl s)=true∧1≤w∧w≤999):padD s w=(bif decide ((s.size:Int)≤w) then(strOf (List.replicate (w-s.size).toNat 48++bl s),true)
 else bif allZ ((bl s).take (s.size-w.toNat)) then(strOf ((bl s).drop (s.size-w.toNat)),true) else(bs [],false)):=by unfold padD;rw[zT h];rfl
theorem z1ze(s:ByteArray)(w:Int)(h:s.size≤maxLen):Q30 s w=some (padD s w):=by
 unfold Q30 zvw
 dsimp only
 by_cases h0:s=bs []
 ·rw[zT h0,zC,z4l]
  intro hh
  rw[h0] at hh
  exact absurd hh.1 (by decide)
 have hz:s.size≠0:=fun e=>h0 (ze8.2 (List.eq_nil_of_length_eq_zero (by rw[zg];exact e)))
 rw[zF h0,zD]
 by_cases h1:(999:Int)<(s.size:Int)
 ·rw[zT h1,zC,z4l (by omega)]
 rw[zF h1,zD,zu0 s h,zc]
 cases hd:allD (bl s) with
 |false=>rw[z4l (by rw[hd];simp)];rfl
 |true=>
  rw[Bool.not_true,zD]
  by_cases h2:w<1
  ·rw[zT h2,zC,z4l (by omega)]
  rw[zF h2,zD]
  by_cases h3:(999:Int)<w
  ·rw[zT h3,zC,z4l (by omega)]
  rw[zF h3,zD,z1ce ⟨by omega,by omega,hd,by omega,by omega⟩]
  obtain⟨v,rfl⟩:∃v:Nat,w=v:=⟨w.toNat,by omega⟩
  by_cases h4:(s.size:Int)≤(v:Int)
  ·rw[zT h4,zC,zC]
   obtain⟨c,hc⟩:∃c:Nat,(v:Int)-(s.size:Int)=(c:Int):=⟨v-s.size,by omega⟩
   rw[hc,z4c (by omega)]
   have hR:strings_Repeat (bs [48]) (c:Int)=some ⟨(Go.Lib.repeatL (bs [48]).data.toList c).toArray⟩:=by
    unfold strings_Repeat
    rw[zT (by omega:(0:Int)≤(c:Int)),zT (by omega:(c:Int)≤9223372036854775807),zT (by rw[show(((bs [48]).size:Nat):Int)=1 from rfl];omega),Int.toNat_natCast]
    rfl
   rw[hR,zc]
   have hsz:((⟨(Go.Lib.repeatL (bs [48]).data.toList c).toArray⟩:ByteArray)).size=c:=by rw[←zg,zk9,List.length_replicate]
   rw[hsz,zT (by omega),zC,Int.toNat_natCast]
   congr 2
   apply z5f
   rw[z29,zk9,z2j]
   intro x hx
   rcases List.mem_append.1 hx with hx|hx
   ·rw[(List.mem_replicate.1 hx).2];unfold zq;omega
   ·exact z1a hx
  ·rw[zF h4,zD,zD]
   obtain⟨c,hc⟩:∃c:Nat,(s.size:Int)-(v:Int)=(c:Int):=⟨s.size-v,by omega⟩
   have hcv:s.size-((v:Int)).toNat=c:=by omega
   rw[hc,z4c (by omega),zT (by omega:(0:Int)≤(c:Int)),zC,zT (by omega:(c:Int)≤((s.size:Nat):Int)),zC,Int.toNat_natCast,hcv]
   have hx:bl (s.extract 0 c)=(bl s).take c:=by rw[z2c,List.drop_zero]
   have hxs:(s.extract 0 c).size=c:=by rw[←zg,hx,List.length_take,zg];omega
   obtain⟨r,r1,r2⟩:=z1y6 (s.extract 0 c) (by omega)
   rw[r1,zc]
   rw[hx] at r2
   cases ha:allZ ((bl s).take c) with
   |true=>
    rw[zT (r2.2 ha),Bool.not_true,zD,zC,zC]
    congr 2
    apply z5f
    rw[z2c,←zg,List.take_length,z2j]
    exact fun x hx=>z1a (List.mem_of_mem_drop hx)
   |false=>
    rw[zF (fun e=>by rw[r2.1 e] at ha;cases ha),Bool.not_false,zC];rfl
theorem z1cc(v:Nat)(hv:v≤999):∀(n k:Nat) (s:ByteArray),v-s.size≤n→n<k→s.size≤999→zd3 k s (v:Int)=some (strOf (List.replicate (v-s.size) 48++bl s),(v:Int))
 |n,0,s,_,hk,_=>by omega
 |n,k+1,s,hn,hk,hs=>by
  unfold zd3 zwj
  dsimp only
  by_cases h:(s.size:Int)<(v:Int)
  ·have h48:(bs [48]).size=1:=rfl
   rw[zT h,zC,zT (by omega),zC]
   obtain⟨n,rfl⟩:∃n',n=n'+1:=⟨n-1,by omega⟩
   have hsz:(bs [48]++s).size=s.size+1:=by rw[ByteArray.size_append];omega
   rw[z1cc v hv n k _ (by omega) (by omega) (by omega),hsz,z29]
   obtain⟨m,hm⟩:∃m,v-s.size=m+1:=⟨v-s.size-1,by omega⟩
   rw[show v-(s.size+1)=m by omega,hm,List.replicate_succ',List.append_assoc]
   rfl
  ·rw[zF h,zD,show v-s.size=0 by omega,List.replicate_zero,List.nil_append,z43]
def fin01(e:Sum Zt12 ByteArray):Option Zt5:=
 Sum.elim (fun(we:Zt12)=>zwm we.1 we.2.1 we.2.2 (fun a0 a1=>some (a0,a1))) (fun(we:ByteArray)=>zwn we (fun a0 a1=>some (a0,a1))) e
theorem z1cd(v:Nat):∀(n k:Nat) (s:ByteArray),s.size-v≤n→n<k→s.size≤999→(zd4 k s (v:Int)).bind fin01=some (bif allZ ((bl s).take (s.size-v)) then(strOf ((bl s).drop (s.size-v)),true) else(bs [],false))
 |n,0,s,_,hk,_=>by omega
 |n,k+1,s,hn,hk,hs=>by
  unfold zd4 zwl
  dsimp only
  have hl:(bl s).length=s.size:=zg s
  by_cases h:(v:Int)<(s.size:Int)
  ·rw[zT h,zC,zl (by omega) (by omega)]
   cases hb:bl s with
   |nil=>rw[hb] at hl;simp at hl;omega
   |cons x l=>
    have hm:s.size-v=(s.size-1-v)+1:=by omega
    rw[show((0:Int)).toNat=0 from rfl,show((1:Int)).toNat=1 from rfl,zxu s x l hb,hm,List.take_succ_cons,z7x,List.drop_succ_cons]
    by_cases hz:x=48
    ·rw[zT hz,Bool.not_true,zD,zT (by omega:(1:Int)≤((s.size:Nat):Int)),zC,Bool.true_and]
     have he:=drop1 hb
     have hsz:(s.extract 1 s.size).size=s.size-1:=by rw[←zg,he,←hl,hb];simp
     obtain⟨n,rfl⟩:∃n',n=n'+1:=⟨n-1,by omega⟩
     rw[z1cd v n k _ (by omega) (by omega) (by omega),he,hsz]
    ·rw[zF hz,Bool.not_false,zC,Bool.false_and];rfl
  ·rw[zF h,zD,show s.size-v=0 by omega,List.take_zero,List.drop_zero,z43];rfl
theorem z1pg(s:ByteArray)(w:Int)(h:s.size≤maxLen):Q71 s w=some (padD s w):=by
 unfold Q71 zwi
 dsimp only
 by_cases h0:(s.size:Int)<1
 ·rw[zT h0,zC,z4l (by omega)]
 rw[zF h0,zD]
 by_cases h1:(999:Int)<(s.size:Int)
 ·rw[zT h1,zC,z4l (by omega)]
 rw[zF h1,zD,zdo s h,zc]
 cases hd:allD (bl s) with
 |false=>rw[z4l (by rw[hd];simp)];rfl
 |true=>
  rw[Bool.not_true,zD]
  by_cases h2:w<1
  ·rw[zT h2,zC,z4l (by omega)]
  rw[zF h2,zD]
  by_cases h3:(999:Int)<w
  ·rw[zT h3,zC,z4l (by omega)]
  rw[zF h3,zD,z1ce ⟨by omega,by omega,hd,by omega,by omega⟩]
  obtain⟨v,rfl⟩:∃v:Nat,w=v:=⟨w.toNat,by omega⟩
  rw[z1cc v (by omega) 999 FUEL s (by omega) (by rw[zn];omega) (by omega),zc]
  unfold zwk
  dsimp only
  have hbl:bl (strOf (List.replicate (v-s.size) 48++bl s))=List.replicate (v-s.size) 48++bl s:=by
   rw[z2j]
   intro x hx
   rcases List.mem_append.1 hx with hx|hx
   ·rw[(List.mem_replicate.1 hx).2];unfold zq;omega
   ·exact z1a hx
  have hsz:(strOf (List.replicate (v-s.size) 48++bl s)).size=v-s.size+s.size:=by rw[←zg,hbl,List.length_append,List.length_replicate,zg]
  have:=z1cd v 999 FUEL (strOf (List.replicate (v-s.size) 48++bl s)) (by omega) (by rw[zn];omega) (by omega)
  refine this.trans ?_
  rw[hsz,hbl]
  congr 1
  by_cases h4:(s.size:Int)≤(v:Int)
  ·rw[zT h4,zC,show v-s.size+s.size-v=0 by omega,List.take_zero,List.drop_zero,show((v:Int)-(s.size:Int)).toNat=v-s.size by omega];rfl
  ·rw[zF h4,zD,show v-s.size=0 by omega,Nat.zero_add,List.replicate_zero,List.nil_append,show((v:Int)).toNat=v by omega]
end Groat

namespace Groat
open Go.IntKind renaming wrap→zW,i64→zI,u8→zU
open Go Go.Ref
def bcdP:List Int→List Int
 |a::b::r=>(16*(a-48)+(b-48))::bcdP r
 |_=>[]
def z2m(s:ByteArray):ByteArray×Bool:=
 bif decide (s.size≤999∧allD (bl s)=true) then(strOf (bcdP (if s.size % 2=1 then 48::bl s else bl s)),true) else(bs [],false)
def bcdE(odd:Bool):List Int→Nat→Option (Int×Int)
 | [],_=>none
 |x::r,i=>if i=0∧odd=true∧x/16≠0 then some (4,0) else if 9<x/16∨9<x % 16 then some (3,i) else bcdE odd r (i+1)
def bcdN:List Int→List Int
 | []=>[]
 |x::r=>(48+x/16)::(48+x % 16)::bcdN r
def z1l(b:ByteArray)(n:Int):ByteArray×Int×Int:=
 if n<0∨999<n then(bs [],1,0) else if(b.size:Int)<(n+1)/2 then(bs [],2,(b.size:Int)) else
 match bcdE (decide (n % 2=1)) ((bl b).take ((n+1)/2).toNat) 0 with
 |some e=>(bs [],e.1,e.2)
 |none=>(strOf ((bcdN ((bl b).take ((n+1)/2).toNat)).drop (n % 2).toNat),0,0)
theorem z1tb:∀a b:Fin 10,ibits .or .u8 (zW zU ((zW zU ((48+(a.1:Int))-48))*2^min ((4:Int)).toNat 8)) (zW zU ((48+(b.1:Int))-48))=16*(a.1:Int)+(b.1:Int):=by decide+kernel
theorem z1fa{x:Int}(h:isDig x=true):∃k:Fin 10,x=48+(k.1:Int):=by
 unfold isDig at h
 simp only[Bool.and_eq_true,decide_eq_true_eq] at h
 exact⟨⟨(x-48).toNat,by omega⟩,by simp;omega⟩
theorem bcdB{x y:Int}(hx:isDig x=true)(hy:isDig y=true):ibits .or .u8 (zW zU ((zW zU (x-48))*2^min ((4:Int)).toNat 8)) (zW zU (y-48))=16*(x-48)+(y-48):=by
 obtain⟨a,rfl⟩:=z1fa hx
 obtain⟨b,rfl⟩:=z1fa hy
 have:=z1tb a b
 rw[this];omega
theorem zb3(s:ByteArray)(hs:s.size≤1099511627776)(hev:s.size % 2=0)(hd:allD (bl s)=true):∀(n j k:Nat) (o:List Int),j+2*n=s.size→n<k→o.length+n≤35184372088832→Q1_l0 k s o (j:Int)=some (o++bcdP ((bl s).drop j))
 |n,j,0,o,_,hk,_=>by omega
 |0,j,k+1,o,hj,hk,_=>by
  unfold Q1_l0 Q1_s1
  rw[zF (by omega),zD,List.drop_eq_nil_of_le (by rw[zg];omega),bcdP,List.append_nil]
  exact fun _ _ _ h=>by cases h
 |n+1,j,k+1,o,hj,hk,ho=>by
  have hlt:j<s.size:=by omega
  have hlt1:j+1<s.size:=by omega
  have hl:j<(bl s).length:=by rw[zg];exact hlt
  have hl1:j+1<(bl s).length:=by rw[zg];exact hlt1
  have d1:=List.all_eq_true.1 hd _ (List.getElem_mem hl)
  have d2:=List.all_eq_true.1 hd _ (List.getElem_mem hl1)
  have e:zW zI ((j:Int)+2)=((j+2:Nat):Int):=by rw[zi (by omega) (by omega)];omega
  unfold Q1_l0 Q1_s1
  rw[zT (by omega),zC,zh hlt,zo (by omega),zh hlt1,Int.toNat_natCast,Int.toNat_natCast,z2x hl,z2x hl1,bcdB d1 d2,zT (by simp only[List.length_singleton];omega),zC,e]
  dsimp only
  rw[zb3 s hs hev hd n (j+2) k _ (by omega) (by omega) (by rw[List.length_append,List.length_singleton];omega),List.drop_eq_getElem_cons hl,List.drop_eq_getElem_cons hl1,bcdP,List.append_assoc]
  rfl
theorem bs48:bl (bs [48])=[48]:=by decide
theorem ziz(s:ByteArray)(hs:s.size≤maxLen):Q1 s=some (z2m s):=by
 unfold Q1 Q1_s0 z2m
 by_cases h1:(999:Int)<(s.size:Int)
 ·rw[zT h1,zC,zF (by omega)];rfl
 ·rw[zF h1,zD,zu0 s hs,zc]
  cases hd:allD (bl s) with
  |false=>rw[zF (p:=s.size≤999∧false=true) (fun h=>by cases h.2)];rfl
  |true=>
   rw[Bool.not_true,zD,zT (⟨by omega,rfl⟩:s.size≤999∧true=true),zC,z3j]
   by_cases hp:s.size % 2=1
   ·have hsz:(bs [48]++s).size=s.size+1:=by rw[ByteArray.size_append];show 1+s.size=_;omega
    have hb:bl (bs [48]++s)=48::bl s:=by rw[z29,bs48];rfl
    rw[if_pos hp,zF (by omega),Bool.not_false,zC,zT (by show 1+s.size≤_;omega),zC,hsz]
    have e:Int.tdiv ((s.size+1:Nat):Int) 2=(((s.size+1)/2:Nat):Int):=rfl
    rw[e,zi (by omega) (by omega),zT (by omega),zC,zT (by omega),zC]
    have:=zb3 (bs [48]++s) (by omega) (by omega) (by rw[hb];show(isDig 48&&allD (bl s))=true;rw[hd];rfl) ((s.size+1)/2) 0 FUEL [] (by omega) (by rw[zn];omega) (by simp;omega)
    rw[show((0:Nat):Int)=0 from rfl,List.drop_zero,List.nil_append,hb] at this
    dsimp only
    rw[this];rfl
   ·rw[if_neg hp,zT (by omega),Bool.not_true,zD]
    have e:Int.tdiv ((s.size:Nat):Int) 2=((s.size/2:Nat):Int):=rfl
    rw[e,zi (by omega) (by omega),zT (by omega),zC,zT (by omega),zC]
    have:=zb3 s (by omega) (by omega) hd (s.size/2) 0 FUEL [] (by omega) (by rw[zn];omega) (by simp;omega)
    rw[show((0:Nat):Int)=0 from rfl,List.drop_zero,List.nil_append] at this
    dsimp only
    rw[this];rfl
theorem z6c(n:Int)(h0:0≤n)(h1:n≤999):Q2 n=some ((n+1)/2):=by
 unfold Q2 Q2_s0
 obtain⟨m,rfl⟩:∃m:Nat,n=m:=⟨n.toNat,by omega⟩
 by_cases h:(m:Int)<1
 ·rw[zT h,zC]
  congr 1
  omega
 ·rw[zF h,zD,z3j]
  have e:Int.tdiv (m:Int) 2=((m/2:Nat):Int):=rfl
  have e2:zW zI ((m/2:Nat):Int)=((m/2:Nat):Int):=zi (by omega) (by omega)
  rw[e,e2,zi (by omega) (by omega)]
  congr 1
  omega
theorem z1uh:∀d:Fin 16,d.1≤9→zW zU ((48:Int)+(d.1:Int))=48+(d.1:Int):=by decide+kernel
theorem nib8{d:Nat}(h:d≤9):zW zU ((48:Int)+(d:Int))=48+(d:Int):=z1uh ⟨d,by omega⟩ h
theorem zqu(b:ByteArray)(hb0:b.size≤1099511627776)(nn:Nat)(hn:nn≤999)(m:Nat)(hm:m≤b.size):∀(n j k:Nat) (o:List Int),j+n=m→n<k→o.length+2*n≤35184372088832→∃o',Q0_l0 k b (nn:Int) o (m:Int) (j:Int)=some (match bcdE (decide (nn % 2=1)) (((bl b).take m).drop j) j with
 |some e=> .inl ((nn:Int),bs [],e.1,e.2,o')
 |none=> .inr ((nn:Int),o++bcdN (((bl b).take m).drop j)))
 |n,j,0,o,_,hk,_=>by omega
 |0,j,k+1,o,hj,hk,_=>by
  unfold Q0_l0 Q0_s1
  rw[zF (by omega),zD,List.drop_eq_nil_of_le (by rw[List.length_take,zg];omega)]
  exact⟨o,by simp [bcdE,bcdN]⟩
 |n+1,j,k+1,o,hj,hk,ho=>by
  have hlt:j<b.size:=by omega
  have hl:j<(bl b).length:=by rw[zg];exact hlt
  have hl2:j<((bl b).take m).length:=by rw[List.length_take];omega
  obtain⟨x,hx,_,_⟩:=nib (z1a (List.getElem_mem hl))
  have hx2:=x.2
  have ih:=zqu b hb0 nn hn m hm n (j+1) k (o++ [48+((x.1/16:Nat):Int),48+((x.1 % 16:Nat):Int)]) (by omega) (by omega) (by rw[List.length_append];simp only[List.length_cons,List.length_nil];omega)
  have hw:∀{R:Type} (z:Option R),zd (j:Int) b.size z=z:=fun z=>zh hlt
  have hdr:((bl b).take m).drop j=(x.1:Int)::((bl b).take m).drop (j+1):=by rw[List.drop_eq_getElem_cons hl2,List.getElem_take,hx]
  rw[hdr,bcdE,bcdN]
  unfold Q0_l0 Q0_s1
  simp only[hw,Int.toNat_natCast,z2x hl,hx,(z35 x).1,(z35 x).2.1,z3j]
  rw[zT (by omega:(j:Int)<(m:Int)),zC]
  have e16:(x.1:Int)/16=((x.1/16:Nat):Int):=by omega
  have e17:(x.1:Int)% 16=((x.1 % 16:Nat):Int):=by omega
  rw[e16,e17]
  have plain:∀(Z:Option (Sum (Int×ByteArray×Int×Int×List Int) (Int×List Int))),Z=(bif decide ((9:Int)<((x.1/16:Nat):Int)) then some (.inl ((nn:Int),bs [],(3:Int),(j:Int),o)) else bif decide ((9:Int)<((x.1 % 16:Nat):Int)) then some (.inl ((nn:Int),bs [],(3:Int),(j:Int),o)) else(bif decide ((o.length+(List.length ([zW zU (48+((x.1/16:Nat):Int)),zW zU (48+((x.1 % 16:Nat):Int))]:List Int)))*1≤140737488355328) then Q0_l0 k b (nn:Int) (o++ [zW zU (48+((x.1/16:Nat):Int)),zW zU (48+((x.1 % 16:Nat):Int))]) (m:Int) (zW zI ((j:Int)+1)) else none))→
   ∃o',Z=some (match(if 9<((x.1/16:Nat):Int)∨9<((x.1 % 16:Nat):Int) then some ((3:Int),(j:Int)) else bcdE (decide (nn % 2=1)) (((bl b).take m).drop (j+1)) (j+1)) with
    |some e=> .inl ((nn:Int),bs [],e.1,e.2,o')
    |none=> .inr ((nn:Int),o++(48+((x.1/16:Nat):Int))::(48+((x.1 % 16:Nat):Int))::bcdN (((bl b).take m).drop (j+1)))):=fun Z hZ=>by
   rw[hZ]
   by_cases c1:(9:Int)<((x.1/16:Nat):Int)
   ·rw[zT c1,if_pos (.inl c1)]
    exact⟨o,rfl⟩
   ·by_cases c2:(9:Int)<((x.1 % 16:Nat):Int)
    ·rw[zF c1,zD,zT c2,if_pos (.inr c2)]
     exact⟨o,rfl⟩
    ·rw[zF c1,zD,zF c2,zD,if_neg (fun h=>h.elim c1 c2),nib8 (by omega),nib8 (by omega),zT (by simp only[List.length_cons,List.length_nil];omega),zC,zo (by omega)]
     obtain⟨o',h⟩:=ih
     refine⟨o',h.trans ?_⟩
     rw[List.append_assoc]
     rfl
  by_cases j0:j=0
  ·subst j0
   rw[zT (by omega:((0:Nat):Int)=0),zC]
   by_cases hp:nn % 2=1
   ·rw[zT hp,zF (by omega:¬((nn % 2:Nat):Int)=0),Bool.not_false,zC]
    by_cases hz:x.1/16=0
    ·rw[if_neg (by omega),zT (by omega),Bool.not_true,zD]
     have:=plain _ rfl
     rw[zT hp] at this
     exact this
    ·rw[if_pos (by simp;omega),zF (by omega),Bool.not_false,zC]
     exact⟨o,rfl⟩
   ·rw[zF hp,zT (by omega:((nn % 2:Nat):Int)=0),Bool.not_true,zD,if_neg (by simp)]
    have:=plain _ rfl
    rw[zF hp] at this
    exact this
  ·rw[zF (by omega:¬(j:Int)=0),zD,if_neg (by omega)]
   exact plain _ rfl
theorem ziy(b:ByteArray)(n:Int)(hb:b.size≤1099511627776):Q0 b n=some (z1l b n):=by
 unfold Q0 Q0_s0 z1l
 by_cases h0:n<0
 ·rw[zT h0,if_pos (.inl h0)];rfl
 ·rw[zF h0,zD]
  by_cases h1:999<n
  ·rw[zT h1,if_pos (.inr h1)];rfl
  ·rw[zF h1,zD,if_neg (fun h=>h.elim h0 h1),z6c n (by omega) (by omega),zc]
   by_cases h2:(b.size:Int)<(n+1)/2
   ·rw[zT h2,if_pos h2];rfl
   ·rw[zF h2,zD,if_neg h2,zi (by omega) (by omega),zT (by omega),zC,zT (by omega),zC,zc]
    obtain⟨nn,rfl⟩:∃nn:Nat,n=nn:=⟨n.toNat,by omega⟩
    have em:((nn:Int)+1)/2=(((nn+1)/2:Nat):Int):=by omega
    have ep:((nn:Int)% 2).toNat=nn % 2:=by omega
    have eo:decide ((nn:Int)% 2=1)=decide (nn % 2=1):=decide_eq_decide.2 (by omega)
    rw[em,Int.toNat_natCast,eo,ep]
    obtain⟨o',h⟩:=zqu b hb nn (by omega) ((nn+1)/2) (by omega) ((nn+1)/2) 0 FUEL [] (by omega) (by rw[zn];omega) (by simp;omega)
    rw[show((0:Nat):Int)=0 from rfl,List.drop_zero,List.nil_append] at h
    dsimp only
    rw[h,zc]
    cases bcdE (decide (nn % 2=1)) ((bl b).take ((nn+1)/2)) 0 with
    |some e=>rfl
    |none=>
     dsimp only
     rw[Sum.elim_inr]
     unfold Q0_s3
     dsimp only
     rw[z3j,zT (by omega),zC]
     have hlen:∀l:List Int,(bcdN l).length=2*l.length:=fun l=>by
      induction l with
      |nil=>rfl
      |cons x r ih=>rw[bcdN,List.length_cons,List.length_cons,ih,List.length_cons];omega
     rw[zT (by rw[hlen,List.length_take,zg];omega),zC,Int.toNat_natCast,List.take_length]
end Groat

