/- No condition. -/
import Derived.Test.YtpjkbbihjoflnaaGreatDoorK2
import Derived.KernelRfl
import Derived.Laws.RangeString
set_option linter.unusedVariables false
set_option linter.unusedSimpArgs false
set_option maxRecDepth 100000
namespace bm
open Go.IntKind renaming wrap->zW,i64->zI,u8->zU
open Go Go.Ref
def Et{R:Type}(a:Bool->Option R):Option R:=
 BQ.bind fun r1=>(yD r1).bind fun r2=>Sum.elim (fun(xZ:Int)=>(yD (List.replicate 2 ((0,0,[],()),([],[],()),[],[],()),0,())).bind fun r3=>Sum.elim (fun(sB:Int)=>bif !decide (xZ=0) then a false else a false) (fun(sB:(Int×(aA×(Option ap×Option ap)×Int)))=>bif !decide (xZ=0) then a false else a false) r3) (fun(xZ:(Int×(aA×(Option ap×Option ap)×Int)))=>(yD (List.replicate 2 ((0,0,[],()),([],[],()),[],[],()),0,())).bind fun r4=>Sum.elim (fun(wr4:Int)=>bif !decide (xZ.1=0) then a false else(yC xZ.2 ([(0,bs [0],()),(1,bs [0,1,65],()),(0,bs [0],())]:List bd)).bind fun r5=>bif wr4=1 then(nY r5.1 ([(1,3,bs [],1,()),(0,4,bs [],1,())]:List lV)).bind fun r6=>bif r6 then(R7 r5.2).bind fun r7=>bif r7.1=1 then(Gj r7.2 (0:Int)).bind fun r8=>bif r8.1 then(Gj r8.2 (1:Int)).bind fun r9=>bif !r9.1 then(vl r9.2 (1:Int)).bind fun kS=>a (decide (kS.1=0)) else a false else a false else a false else a false else a false) (fun(wr4:(Int×(aA×(Option ap×Option ap)×Int)))=>bif !decide (xZ.1=0) then a false else(yC xZ.2 ([(0,bs [0],()),(1,bs [0,1,65],()),(0,bs [0],())]:List bd)).bind fun lE=>bif wr4.1=1 then(nY lE.1 ([(1,3,bs [],1,()),(0,4,bs [],1,())]:List lV)).bind fun nK=>bif nK then(R7 lE.2).bind fun mj=>bif mj.1=1 then(Gj mj.2 (0:Int)).bind fun su=>bif su.1 then(Gj su.2 (1:Int)).bind fun qy=>bif !qy.1 then(vl qy.2 (1:Int)).bind fun uO=>a (decide (uO.1=0)) else a false else a false else a false else a false else a false) r4) r2
def nD:Option Bool:=
 Et (fun a0=>some a0)
def Yk{R:Type}(a:aA)(b:ak)(c:Int)(d:Option R)(e:Bool->(aA×(Option ap×Option ap)×Int)->Option R):Option R:=
 (mI a).bind fun r1=>bif r1 then d else(lP b c).bind fun r2=>bif r2 then d else(sY a).bind fun r3=>bif !r3 then d else(sX a).bind fun r4=>(yD r4).bind fun r5=>Sum.elim (fun(Lv:Int)=>bif Lv=0 then d else d) (fun(Lv:(Int×(aA×(Option ap×Option ap)×Int)))=>bif Lv.1=0 then e true Lv.2 else e false Lv.2) r5
def yE(a:aA)(b:ak)(c:Int):Option (Sum Unit (Bool×(aA×(Option ap×Option ap)×Int))):=
 Yk a b c (some (.inl ())) (fun a0 a1=>some (.inr (a0,a1)))
def Yj{R:Type}(a:aA)(b:ak)(c:Bool->Option R):Option R:=
 (yE a b (2500:Int)).bind fun r1=>Sum.elim (fun(SL:Unit)=>(yE a [] (0:Int)).bind fun r2=>Sum.elim (fun(xZ:Unit)=>nD.bind fun r3=>bif !r3 then nD.bind fun r4=>c r4 else nD.bind fun r5=>c r5) (fun(xZ:(Bool×(aA×(Option ap×Option ap)×Int)))=>nD.bind fun r6=>bif !r6 then nD.bind fun r7=>c r7 else nD.bind fun r8=>c r8) r2) (fun(SL:(Bool×(aA×(Option ap×Option ap)×Int)))=>(yE a [] (0:Int)).bind fun r9=>Sum.elim (fun(wr9:Unit)=>nD.bind fun kS=>bif !kS then nD.bind fun lE=>c lE else bif !SL.1 then nD.bind fun nK=>c nK else nD.bind fun mj=>c mj) (fun(wr9:(Bool×(aA×(Option ap×Option ap)×Int)))=>nD.bind fun su=>bif !su then nD.bind fun qy=>c qy else bif !SL.1 then nD.bind fun uO=>c uO else(s7 a.2.1 b).bind fun xQ=>(yC SL.2 b).bind fun vB=>(yC wr9.2 xQ).bind fun qz=>(nY vB.1 qz.1).bind fun xR=>bif xR then(vl vB.2 (0:Int)).bind fun sw=>(vl qz.2 (0:Int)).bind fun A9=>bif sw.1=A9.1 then(vl sw.2 (1:Int)).bind fun CZ=>(vl A9.2 (1:Int)).bind fun SD=>c (decide (CZ.1=SD.1)) else c false else c false) r9) r1
def ID(a:aA)(b:ak):Option Bool:=
 Yj a b (fun a0=>some a0)
end bm

namespace bm
open Go.IntKind renaming wrap->zW,i64->zI,u8->zU
theorem zT{p:Prop}[Decidable p](h:p):decide p=true:=_root_.decide_eq_true h
theorem zF{p:Prop}[Decidable p](h:¬p):decide p=false:=_root_.decide_eq_false h
theorem zC{α:Type}{a b:α}:(bif true then a else b)=a:=rfl
theorem zD{α:Type}{a b:α}:(bif false then a else b)=b:=rfl
open Go Go.Ref
theorem zu:ag=18446744073709551616:=by unfold ag;rfl
theorem zi:maxLen=9223372036854775807:=rfl
theorem zj{x:Int}(h1: -9223372036854775808<=x)(h2:x<=9223372036854775807):zW zI x=x:=E8 h1 h2
theorem yh{n:Nat}(h:n<=9223372036854775807):zW zI (n:Int)=n:=E8 (by omega) (by omega)
theorem zr{j:Nat}(h:j<9223372036854775807):zW zI ((j:Int)+1)=((j+1:Nat):Int):=by
 rw[E8 (by omega) (by omega)];rfl
theorem Pc(x:Int):IntKind.u64.wrap x=x % 18446744073709551616:=by
 simp [IntKind.wrap,IntKind.signed,IntKind.bits]
theorem E7(x:Int):zW zU x=x % 256:=by
 simp [IntKind.wrap,IntKind.signed,IntKind.bits]
theorem aoY{x:Int}(h1:0<=x)(h2:x<18446744073709551616):IntKind.u64.wrap x=x:=by rw[Pc];omega
theorem uZ{x:Int}(h1:0<=x)(h2:x<256):zW zU x=x:=by rw[E7];omega
theorem zh{R:Type}{j n:Nat}{x:Option R}(h:j<n):zd (j:Int) n x=x:=ahP h
theorem zn{R:Type}{i:Int}{n:Nat}{x:Option R}(h0:0<=i)(h:i<n):zd i n x=x:=by
 unfold zd
 rw[zT h0,zT h];rfl
theorem amK{R:Type}{p:Prop}[Decidable p](x y:R):(bif decide p then x else y)=if p then x else y:=by
 by_cases h:p<;>simp [h]
def bl(s:ByteArray):List Int:=s.data.toList.map fun b=>(b.toNat:Int)
theorem BI{a b:ByteArray}(h:bl a=bl b):a=b:=by
 apply ByteArray.ext
 apply Array.ext'
 unfold bl at h
 have:Function.Injective (fun b:UInt8=>(b.toNat:Int)):=fun x y AX=>UInt8.toNat_inj.1 (Int.ofNat.inj AX)
 exact(List.map_inj_right (fun x y h=>this h)).1 h
theorem J4{a b:ByteArray}:a=b↔bl a=bl b:=⟨fun h=>by rw[h],BI⟩
theorem zf(s:ByteArray):(bl s).length=s.size:=by unfold bl;rw[List.length_map];rfl
theorem qI(a b:ByteArray):bl (a++b)=bl a++bl b:=by simp [bl,ByteArray.data_append]
theorem qG(s:ByteArray)(i j:Nat):bl (s.extract i j)=((bl s).take j).drop i:=by
 unfold bl
 rw[ByteArray.data_extract,Array.toList_extract,List.extract_eq_drop_take',List.map_drop,List.map_take]
theorem lK(s:ByteArray)(i:Nat):ze s i=(bl s).getD i 0:=by
 unfold ze bl
 split
 ·rename_i h
  have h':i<s.data.toList.length:=h
  rw[List.getD_eq_getElem?_getD,List.getElem?_map,List.getElem?_eq_getElem h']
  rfl
 ·rename_i h
  have h':s.data.toList.length<=i:=Nat.le_of_not_lt h
  rw[List.getD_eq_getElem?_getD,List.getElem?_eq_none (by simpa using h')]
  rfl
def zm(n:Int):Prop:=0<=n/\n<256
theorem jI{s:ByteArray}{x:Int}(h:x∈bl s):zm x:=by
 unfold bl at h
 obtain⟨b,_,rfl⟩:=List.mem_map.1 h
 have:=b.toNat_lt
 unfold zm
 omega
theorem sD{xs:List Int}(h:∀x∈xs,zm x):bl (strOf xs)=xs:=by
 simp only[bl,strOf,List.map_map]
 conv=>rhs;rw[<-List.map_id xs]
 apply List.map_congr_left
 intro x hx
 have:=h x hx
 unfold zm at this
 simp only[Function.comp,id]
 rw[UInt8.toNat_ofNat_of_lt' (by show x.toNat<256;omega)]
 omega
theorem Fx(s:ByteArray):strOf (bl s)=s:=BI (sD fun x hx=>jI hx)
theorem Aq{l:List Nat}(h:∀x∈l,x<256):bl (bs l)=l.map (fun n:Nat=>(n:Int)):=by
 simp only[bl,bs,List.map_map]
 apply List.map_congr_left
 intro x hx
 have:=h x hx
 simp only[Function.comp]
 rw[UInt8.toNat_ofNat_of_lt' (by show x<256;omega)]
theorem M9:bl (bs [])=[]:=rfl
theorem zdt{s:ByteArray}:s=bs []↔bl s=[]:=by rw[J4,M9]
theorem vG(xs:List Int):(strOf xs).size=xs.length:=by rw[<-zf];unfold bl strOf;simp
section
variable {α σ ρ:Type}
end
end bm
namespace bm
open Go.IntKind renaming wrap->zW,i64->zI,u8->zU
open Go Go.Ref
section
variable {α σ ρ:Type}
def bk(g:Int->α->σ->(σ->Option ρ)->Option ρ)(fin:σ->Option ρ):List α->Int->σ->Option ρ
 | [],_,s=>fin s
 |x::r,i,s=>g i x s fun s'=>bk g fin r (i+1) s'
theorem PF(d:α)(xs:List α)(hlen:xs.length<=9223372036854775807)(g:Int->α->σ->(σ->Option ρ)->Option ρ)(fin:σ->Option ρ)(L:Nat->Int->σ->Option ρ)
 (step:∀k (i:Int) s,L (k+1) i s=bif decide (i<(xs.length:Int)) then zd i xs.length (g i (xs.getD i.toNat d) s fun s'=>L k (zW zI (i+1)) s') else fin s):
 ∀(m j k:Nat) (s:σ),j+m=xs.length->m<k->L k j s=bk g fin (xs.drop j) j s
 |0,j,k,s,hj,hk=>by
  obtain⟨k,rfl⟩:∃k',k=k'+1:=⟨k-1,by omega⟩
  rw[step,zF (by omega),List.drop_eq_nil_of_le (by omega)];rfl
 |m+1,j,k,s,hj,hk=>by
  obtain⟨k,rfl⟩:∃k',k=k'+1:=⟨k-1,by omega⟩
  have aq:j<xs.length:=by omega
  rw[step,zT (by omega),zC,zh aq,List.drop_eq_getElem_cons aq,bk]
  have hx:xs.getD ((j:Int)).toNat d=xs[j]:=by rw[Int.toNat_natCast,List.getD_eq_getElem?_getD,List.getElem?_eq_getElem aq];rfl
  rw[hx]
  congr 1
  funext s'
  rw[zr (by omega),PF d xs hlen g fin L step m (j+1) k s' (by omega) (by omega)]
  rfl
theorem cw(d:α)(xs:List α)(hlen:xs.length<=maxLen)(g:Int->α->σ->(σ->Option ρ)->Option ρ)(fin:σ->Option ρ)(L:Nat->Int->σ->Option ρ)
 (step:∀k (i:Int) s,L (k+1) i s=bif decide (i<(xs.length:Int)) then zd i xs.length (g i (xs.getD i.toNat d) s fun s'=>L k (zW zI (i+1)) s') else fin s) (s:σ):L ag 0 s=bk g fin xs 0 s:=by
 rw[zi] at hlen
 have:=PF d xs hlen g fin L step xs.length 0 ag s (by omega) (by rw[zu];omega)
 rw[List.drop_zero] at this
 exact this
theorem PG(d:α)(xs:List α)(hlen:xs.length<=9223372036854775807)(g:Int->α->σ->(σ->Option ρ)->Option ρ)(fin:σ->Option ρ)(L:Nat->Int->σ->Option ρ)
 (step:∀k (i:Int) s,0<=i->i<(xs.length:Int)->L (k+1) i s=g i (xs.getD i.toNat d) s fun s'=>L k (zW zI (i+1)) s') (stop:∀k s,L (k+1) (xs.length:Int) s=fin s):
 ∀(m j k:Nat) (s:σ),j+m=xs.length->m<k->L k j s=bk g fin (xs.drop j) j s
 |0,j,k,s,hj,hk=>by
  obtain⟨k,rfl⟩:∃k',k=k'+1:=⟨k-1,by omega⟩
  have:j=xs.length:=by omega
  subst this
  rw[stop,List.drop_length];rfl
 |m+1,j,k,s,hj,hk=>by
  obtain⟨k,rfl⟩:∃k',k=k'+1:=⟨k-1,by omega⟩
  have aq:j<xs.length:=by omega
  rw[step k j s (by omega) (by omega),List.drop_eq_getElem_cons aq,bk]
  have hx:xs.getD ((j:Int)).toNat d=xs[j]:=by rw[Int.toNat_natCast,List.getD_eq_getElem?_getD,List.getElem?_eq_getElem aq];rfl
  rw[hx]
  congr 1
  funext s'
  rw[zr (by omega),PG d xs hlen g fin L step stop m (j+1) k s' (by omega) (by omega)]
  rfl
theorem ly(d:α)(xs:List α)(hlen:xs.length<=maxLen)(g:Int->α->σ->(σ->Option ρ)->Option ρ)(fin:σ->Option ρ)(L:Nat->Int->σ->Option ρ)
 (step:∀k (i:Int) s,0<=i->i<(xs.length:Int)->L (k+1) i s=g i (xs.getD i.toNat d) s fun s'=>L k (zW zI (i+1)) s') (stop:∀k s,L (k+1) (xs.length:Int) s=fin s) (s:σ):L ag 0 s=bk g fin xs 0 s:=by
 rw[zi] at hlen
 have:=PG d xs hlen g fin L step stop xs.length 0 ag s (by omega) (by rw[zu];omega)
 rw[List.drop_zero] at this
 exact this
end
end bm

namespace bm
open Go.IntKind renaming wrap->zW,i64->zI,u8->zU
open Go Go.Ref
theorem Bn(n a:Nat)(h:a<2^n):(BitVec.ofInt n (a:Int)).toNat=a:=by
 rw[BitVec.toNat_ofInt]
 have h2:((a:Int)% ((2^n:Nat):Int))=((a % 2^n:Nat):Int):=by rfl
 rw[h2,Int.toNat_natCast,Nat.mod_eq_of_lt h]
theorem z93{a:Nat}(h:a<18446744073709551616):IntKind.u64.wrap (a:Int)=a:=aoY (by omega) (by omega)
theorem mU{a b:Nat}(ha:a<18446744073709551616)(hb:b<18446744073709551616):aQ .and .u64 a b=((a&&&b:Nat):Int):=by
 simp only[aQ,BitVec.toNat_and,Bn IntKind.u64.bits a ha,Bn IntKind.u64.bits b hb]
 exact z93 (Nat.lt_of_le_of_lt Nat.and_le_left ha)
theorem xL{a b:Nat}(ha:a<18446744073709551616)(hb:b<18446744073709551616):aQ .or .u64 a b=((a|||b:Nat):Int):=by
 simp only[aQ,BitVec.toNat_or,Bn IntKind.u64.bits a ha,Bn IntKind.u64.bits b hb]
 exact z93 (Nat.or_lt_two_pow (n:=64) ha hb)
theorem ajI{a b:Nat}(ha:a<18446744073709551616)(hb:b<18446744073709551616):aQ .andNot .u64 a b=((a&&&(18446744073709551615-b):Nat):Int):=by
 simp only[aQ,BitVec.toNat_and,BitVec.toNat_not,Bn IntKind.u64.bits a ha,Bn IntKind.u64.bits b hb]
 have:2^IntKind.u64.bits-1-b=18446744073709551615-b:=rfl
 rw[this]
 exact z93 (Nat.lt_of_le_of_lt Nat.and_le_left ha)
theorem amH{a b:Nat}(ha:a<9223372036854775808)(hb:b<9223372036854775808):aQ .and .i64 a b=((a&&&b:Nat):Int):=by
 simp only[aQ,BitVec.toNat_and,Bn IntKind.i64.bits a (Nat.lt_trans ha (by decide)),Bn IntKind.i64.bits b (Nat.lt_trans hb (by decide))]
 have:=Nat.lt_of_le_of_lt (Nat.and_le_left (n:=a) (m:=b)) ha
 exact yh (by omega)
theorem Qg(a:Nat)(k:Nat)(hk:k<=64):Int.fdiv (a:Int) (2^min ((k:Int)).toNat 64)=((a/2^k:Nat):Int):=by
 rw[Int.fdiv_eq_ediv_of_nonneg _ (Int.pow_nonneg (by decide)),Int.toNat_natCast,Nat.min_eq_left hk]
 rfl
section
variable {c0 c1 c2 c3 c4 c5 c6 c7:Nat}
end
def fQ(x:Nat):Nat:=if x=0 then 0 else x.log2+1
theorem SP(x:Nat):x<2^fQ x/\(x≠0->2^(fQ x-1)<=x/\1<=fQ x):=by
 unfold fQ
 split
 ·simp_all
 ·rename_i h
  exact⟨Nat.lt_log2_self,fun _=>⟨by simpa using Nat.log2_self_le h,by omega⟩⟩
theorem abQ{x L:Nat}(h1:x<2^L)(h2:L≠0->2^(L-1)<=x):fQ x=L:=by
 obtain⟨g1,g2⟩:=SP x
 by_cases hx:x=0
 ·subst hx
  by_cases hL:L=0
  ·rw[hL];rfl
  ·have:=h2 hL
   have:=Nat.two_pow_pos (L-1)
   omega
 ·obtain⟨g3,g4⟩:=g2 hx
  rcases Nat.lt_trichotomy (fQ x) L with h|h|h
  ·have:=h2 (by omega)
   have:2^fQ x<=2^(L-1):=Nat.pow_le_pow_right (by decide) (by omega)
   omega
  ·exact h
  ·have:2^L<=2^(fQ x-1):=Nat.pow_le_pow_right (by decide) (by omega)
   omega
theorem z9o{x k:Nat}(h:2^k<=x):fQ x=fQ (x/2^k)+k:=by
 have hp:=Nat.two_pow_pos k
 have hq:x/2^k≠0:=by
  have:=Nat.div_pos h hp
  omega
 obtain⟨g1,g2⟩:=SP (x/2^k)
 obtain⟨g3,g4⟩:=g2 hq
 apply abQ
 ·rw[Nat.pow_add]
  exact(Nat.div_lt_iff_lt_mul hp).1 g1
 ·intro _
  have:fQ (x/2^k)+k-1=(fQ (x/2^k)-1)+k:=by omega
  rw[this,Nat.pow_add]
  exact(Nat.le_div_iff_mul_le hp).1 g3
def z28:List Nat:=[0,1,2,2,3,3,3,3,4,4,4,4,4,4,4,4,5,5,5,5,5,5,5,5,5,5,5,5,5,5,5,5]++List.replicate 32 6++List.replicate 64 7++List.replicate 128 8
theorem akX:∀c:Fin 256,z28.getD c.1 0=fQ c.1:=by decide+kernel
def A3(x:Int):Option Int:=
 let t:Int->Int->Option Int:=fun n x=>zd (zW zU x) (bs z28).size (some (zW zI (n+zW zI (ze (bs z28) (zW zU x).toNat))))
 let c:Int->Int->Option Int:=fun n x=>bif decide ((256:Int)<=x) then t (zW zI (n+8)) (Int.fdiv x (2^min ((8:Int)).toNat 64)) else t n x
 let b:Int->Int->Option Int:=fun n x=>bif decide ((65536:Int)<=x) then c (zW zI (n+16)) (Int.fdiv x (2^min ((16:Int)).toNat 64)) else c n x
 bif decide ((4294967296:Int)<=x) then b 32 (Int.fdiv x (2^min ((32:Int)).toNat 64)) else b 0 x
theorem aco(x:Int):s9 x=A3 x:=by kernel_rfl
theorem agR(c:Nat)(h:c<256):ze (bs z28) c=((fQ c:Nat):Int):=by
 rw[lK,Aq (by decide+kernel),<-akX ⟨c,h⟩,List.getD_eq_getElem?_getD,List.getElem?_map,List.getD_eq_getElem?_getD]
 cases z28[c]? <;>rfl
theorem LI{x k:Nat}(h:x<2^k):fQ x<=k:=by
 by_cases hx:x=0
 ·subst hx;simp [fQ]
 ·obtain⟨g3,g4⟩:=(SP x).2 hx
  rcases Nat.lt_or_ge k (fQ x) with h1|h1
  ·have:2^k<=2^(fQ x-1):=Nat.pow_le_pow_right (by decide) (by omega)
   omega
  ·exact h1
theorem ahX(x:Nat)(hx:x<18446744073709551616):s9 x=some ((fQ x:Nat):Int):=by
 rw[aco]
 unfold A3
 simp only
 have ht:∀(n:Nat) (c:Nat),n<=100->c<256->zd (zW zU (c:Int)) (bs z28).size (some (zW zI ((n:Int)+zW zI (ze (bs z28) (zW zU (c:Int)).toNat))))=some (((n+fQ c:Nat):Int)):=by
  intro n c hn hc
  have hl:(bs z28).size=256:=by rw[<-zf,Aq (by decide+kernel)];rfl
  have hb:=LI (k:=8) hc
  rw[uZ (by omega) (by omega),hl,zh hc,Int.toNat_natCast,agR c hc,yh (by omega),zj (by omega) (by omega)]
  rfl
 have f8:∀a:Nat,Int.fdiv (a:Int) (2^min ((8:Int)).toNat 64)=((a/2^8:Nat):Int):=fun a=>Qg a 8 (by omega)
 have f16:∀a:Nat,Int.fdiv (a:Int) (2^min ((16:Int)).toNat 64)=((a/2^16:Nat):Int):=fun a=>Qg a 16 (by omega)
 have f32:∀a:Nat,Int.fdiv (a:Int) (2^min ((32:Int)).toNat 64)=((a/2^32:Nat):Int):=fun a=>Qg a 32 (by omega)
 have hc:∀(n:Nat) (y:Nat),n<=48->y<65536->(bif decide ((256:Int)<=(y:Int)) then zd (zW zU (Int.fdiv (y:Int) (2^min ((8:Int)).toNat 64))) (bs z28).size (some (zW zI (zW zI ((n:Int)+8)+zW zI (ze (bs z28) (zW zU (Int.fdiv (y:Int) (2^min ((8:Int)).toNat 64))).toNat)))) else zd (zW zU (y:Int)) (bs z28).size (some (zW zI ((n:Int)+zW zI (ze (bs z28) (zW zU (y:Int)).toNat)))))=some (((n+fQ y:Nat):Int)):=by
  intro n y hn hy
  by_cases h:256<=y
  ·rw[zT (by omega),zC,f8,zj (x:=(n:Int)+8) (by omega) (by omega)]
   have:=ht (n+8) (y/2^8) (by omega) (by omega)
   rw[show((n:Int)+8)=((n+8:Nat):Int) from rfl,this,z9o (k:=8) h]
   congr 2;omega
  ·rw[zF (by omega),zD]
   exact ht n y (by omega) (by omega)
 have hb:∀(n:Nat) (y:Nat),n<=32->y<4294967296->(bif decide ((65536:Int)<=(y:Int)) then(bif decide ((256:Int)<=Int.fdiv (y:Int) (2^min ((16:Int)).toNat 64)) then zd (zW zU (Int.fdiv (Int.fdiv (y:Int) (2^min ((16:Int)).toNat 64)) (2^min ((8:Int)).toNat 64))) (bs z28).size (some (zW zI (zW zI (zW zI ((n:Int)+16)+8)+zW zI (ze (bs z28) (zW zU (Int.fdiv (Int.fdiv (y:Int) (2^min ((16:Int)).toNat 64)) (2^min ((8:Int)).toNat 64))).toNat)))) else zd (zW zU (Int.fdiv (y:Int) (2^min ((16:Int)).toNat 64))) (bs z28).size (some (zW zI (zW zI ((n:Int)+16)+zW zI (ze (bs z28) (zW zU (Int.fdiv (y:Int) (2^min ((16:Int)).toNat 64))).toNat))))) else
  (bif decide ((256:Int)<=(y:Int)) then zd (zW zU (Int.fdiv (y:Int) (2^min ((8:Int)).toNat 64))) (bs z28).size (some (zW zI (zW zI ((n:Int)+8)+zW zI (ze (bs z28) (zW zU (Int.fdiv (y:Int) (2^min ((8:Int)).toNat 64))).toNat)))) else zd (zW zU (y:Int)) (bs z28).size (some (zW zI ((n:Int)+zW zI (ze (bs z28) (zW zU (y:Int)).toNat))))))=some (((n+fQ y:Nat):Int)):=by
  intro n y hn hy
  by_cases h:65536<=y
  ·rw[zT (by omega),zC,f16,zj (x:=(n:Int)+16) (by omega) (by omega)]
   have:=hc (n+16) (y/2^16) (by omega) (by omega)
   rw[show((n:Int)+16)=((n+16:Nat):Int) from rfl,this,z9o (k:=16) h]
   congr 2;omega
  ·rw[zF (by omega),zD]
   exact hc n y (by omega) (by omega)
 by_cases h:4294967296<=x
 ·rw[zT (by omega),zC,f32]
  have:=hb 32 (x/2^32) (by omega) (by omega)
  rw[show((32:Nat):Int)=32 from rfl] at this
  rw[this,z9o (k:=32) h]
  congr 2;omega
 ·rw[zF (by omega),zD]
  have:=hb 0 x (by omega) (by omega)
  rw[show((0:Nat):Int)=0 from rfl] at this
  rw[this]
  congr 2;omega
theorem zaa(x:Nat)(hx:x<18446744073709551616):mJ x=some (((64-fQ x:Nat)):Int):=by
 unfold mJ US
 have:=LI (k:=64) hx
 rw[ahX x hx,zc,zj (by omega) (by omega)]
 congr 1;omega
end bm

namespace bm
open Go.IntKind renaming wrap->zW,i64->zI,u8->zU
open Go Go.Ref
abbrev vS:=Int×Int×Unit
abbrev dh:Nat:=18446744073709551616
def b8(h l:Nat)(n:Int):Bool:=
 if 1<=n/\n<=64 then h.testBit (64-n).toNat else if 65<=n/\n<=128 then l.testBit (128-n).toNat else false
def iM(n:Int):Nat:=if 1<=n/\n<=64 then 2^(64-n).toNat else 0
def iN(n:Int):Nat:=if 65<=n/\n<=128 then 2^(128-n).toNat else 0
theorem zr6{k:Nat}(h:k<64):2^k<dh:=Nat.pow_lt_pow_right (by decide) h
theorem Wu(n:Int):iM n<dh:=by
 unfold iM;split
 ·exact zr6 (by omega)
 ·decide
theorem Wv(n:Int):iN n<dh:=by
 unfold iN;split
 ·exact zr6 (by omega)
 ·decide
theorem O7{k:Nat}(h:k<64):IntKind.u64.wrap ((1:Int)*2^min k 64)=((2^k:Nat):Int):=by
 rw[Nat.min_eq_left (by omega),Int.one_mul]
 have:=zr6 h
 have e:((2:Int)^k)=((2^k:Nat):Int):=by simp
 rw[e]
 exact z93 this
theorem Px(n:Int):Gi n=some ((iM n:Int),(iN n:Int),()):=by
 unfold Gi XX iM iN
 by_cases h1:n<1
 ·rw[zT h1,if_neg (by omega),if_neg (by omega)];rfl
 rw[zF h1,zD]
 by_cases h2:128<n
 ·rw[zT h2,if_neg (by omega),if_neg (by omega)];rfl
 rw[zF h2,zD]
 by_cases h3:n<=64
 ·rw[zT h3,zC,zj (by omega) (by omega),zF (by omega),zD,O7 (by omega),if_pos (by omega),if_neg (by omega)];rfl
 ·rw[zF h3,zD,zj (by omega) (by omega),zF (by omega),zD,O7 (by omega),if_neg (by omega),if_pos (by omega)];rfl
theorem z9l(h k:Nat):(h&&&2^k=0)↔h.testBit k=false:=by
 constructor
 ·intro e
  have:=congrArg (fun x=>x.testBit k) e
  simpa [Nat.testBit_and,Nat.testBit_two_pow] using this
 ·intro e
  apply Nat.eq_of_testBit_eq
  intro i
  rw[Nat.testBit_and,Nat.testBit_two_pow]
  by_cases hi:k=i
  ·subst hi;simp [e]
  ·simp [hi]
theorem anr(h l:Nat)(hh:h<dh)(hl:l<dh)(n:Int):Ii ((h:Int),(l:Int),()) n=some (b8 h l n):=by
 unfold Ii XU si RA
 rw[Px,zc,mU hh (Wu n),mU hl (Wv n),zc]
 congr 1
 simp only[Bool.and_true]
 have e:∀a:Nat,decide ((a:Int)=0)=decide (a=0):=fun a=>decide_eq_decide.2 (by omega)
 rw[e,e]
 unfold iM iN b8
 by_cases h1:1<=n/\n<=64
 ·rw[if_pos h1,if_pos h1,if_neg (by omega)]
  have:=z9l h (64-n).toNat
  cases hb:h.testBit (64-n).toNat with
  |false=>simp [this.2 hb]
  |true=>simp;intro hz;exact absurd (this.1 hz) (by simp [hb])
 ·rw[if_neg h1,if_neg h1]
  by_cases h2:65<=n/\n<=128
  ·rw[if_pos h2,if_pos h2]
   have:=z9l l (128-n).toNat
   cases hb:l.testBit (128-n).toNat with
   |false=>simp [this.2 hb]
   |true=>simp;intro hz;exact absurd (this.1 hz) (by simp [hb])
  ·rw[if_neg h2,if_neg h2];simp
theorem zeg(h l h' l':Nat)(hh:h<dh)(hl:l<dh)(Cv:h'<dh)(kM:l'<dh):tL ((h:Int),(l:Int),()) ((h':Int),(l':Int),())=some (((h|||h':Nat):Int),((l|||l':Nat):Int),()):=by
 unfold tL XT
 rw[xL hh Cv,xL hl kM]
theorem N3(h l h' l':Nat)(hh:h<dh)(hl:l<dh)(Cv:h'<dh)(kM:l'<dh):si ((h:Int),(l:Int),()) ((h':Int),(l':Int),())=some (((h&&&h':Nat):Int),((l&&&l':Nat):Int),()):=by
 unfold si RA
 rw[mU hh Cv,mU hl kM]
theorem OA(h l:Nat)(hh:h<dh)(hl:l<dh)(n:Int):yA ((h:Int),(l:Int),()) n=some (((h|||iM n:Nat):Int),((l|||iN n:Nat):Int),()):=by
 unfold yA XW
 rw[Px,zc,zeg h l _ _ hh hl (Wu n) (Wv n)];rfl
theorem uK{a b:Nat}(ha:a<dh)(hb:b<dh):a|||b<dh:=Nat.or_lt_two_pow (n:=64) ha hb
theorem Pt{a b:Nat}(ha:a<dh):a&&&b<dh:=Nat.lt_of_le_of_lt Nat.and_le_left ha
theorem aoS(h l h' l':Nat)(n:Int):b8 (h|||h') (l|||l') n=(b8 h l n||b8 h' l' n):=by
 unfold b8;split
 ·rw[Nat.testBit_or]
 ·split
  ·rw[Nat.testBit_or]
  ·rfl
theorem ON(h l h' l':Nat)(n:Int):b8 (h&&&h') (l&&&l') n=(b8 h l n&&b8 h' l' n):=by
 unfold b8;split
 ·rw[Nat.testBit_and]
 ·split
  ·rw[Nat.testBit_and]
  ·rfl
def jM(n:Int):Bool:=decide (1<=n/\n<=128)
theorem am3(m n:Int):b8 (iM m) (iN m) n=(decide (m=n)&&jM n):=by
 unfold b8 iM iN jM
 by_cases h1:1<=n/\n<=64
 ·rw[if_pos h1]
  by_cases h2:1<=m/\m<=64
  ·rw[if_pos h2,Nat.testBit_two_pow,zT (p:=1<=n/\n<=128) (by omega),Bool.and_true]
   exact decide_eq_decide.2 (by omega)
  ·rw[if_neg h2,zF (by omega:¬m=n)];simp
 ·rw[if_neg h1]
  by_cases h3:65<=n/\n<=128
  ·rw[if_pos h3]
   by_cases h2:65<=m/\m<=128
   ·rw[if_pos h2,Nat.testBit_two_pow,zT (p:=1<=n/\n<=128) (by omega),Bool.and_true]
    exact decide_eq_decide.2 (by omega)
   ·rw[if_neg h2,zF (by omega:¬m=n)];simp
  ·rw[if_neg h3,zF (p:=1<=n/\n<=128) (by omega),Bool.and_false]
theorem akj(h l:Nat)(m n:Int):b8 (h|||iM m) (l|||iN m) n=(b8 h l n||(decide (m=n)&&jM n)):=by rw[aoS,am3]
theorem zil{h l:Nat}{n:Int}(hh:b8 h l n=true):1<=n/\n<=128:=by
 unfold b8 at hh
 split at hh
 ·omega
 ·split at hh
  ·omega
  ·cases hh
theorem ank{h l h' l':Nat}(hh:h<dh)(hl:l<dh)(Cv:h'<dh)(kM:l'<dh)(e:∀n:Int,1<=n->n<=128->b8 h l n=b8 h' l' n):h=h'/\l=l':=by
 constructor
 ·apply Nat.eq_of_testBit_eq
  intro i
  by_cases hi:i<64
  ·have:=e (64-i) (by omega) (by omega)
   unfold b8 at this
   rw[if_pos (by omega),if_pos (by omega)] at this
   have e2:(64-(64-(i:Int))).toNat=i:=by omega
   rwa [e2] at this
  ·rw[Nat.testBit_lt_two_pow (Nat.lt_of_lt_of_le hh (Nat.pow_le_pow_right (n:=2) (by decide) (by omega:64<=i))),Nat.testBit_lt_two_pow (Nat.lt_of_lt_of_le Cv (Nat.pow_le_pow_right (n:=2) (by decide) (by omega:64<=i)))]
 ·apply Nat.eq_of_testBit_eq
  intro i
  by_cases hi:i<64
  ·have:=e (128-i) (by omega) (by omega)
   unfold b8 at this
   have h1:¬(1<=128-(i:Int)/\128-(i:Int)<=64):=by omega
   have h2:65<=128-(i:Int)/\128-(i:Int)<=128:=by omega
   rw[if_neg h1,if_pos h2,if_neg h1,if_pos h2] at this
   have e2:(128-(128-(i:Int))).toNat=i:=by omega
   rwa [e2] at this
  ·rw[Nat.testBit_lt_two_pow (Nat.lt_of_lt_of_le hl (Nat.pow_le_pow_right (n:=2) (by decide) (by omega:64<=i))),Nat.testBit_lt_two_pow (Nat.lt_of_lt_of_le kM (Nat.pow_le_pow_right (n:=2) (by decide) (by omega:64<=i)))]
def dK(l:List Int):Nat:=l.foldl (fun a n=>a|||iM n) 0
def dL(l:List Int):Nat:=l.foldl (fun a n=>a|||iN n) 0
theorem zvg(f:Int->Nat)(hf:∀n,f n<dh)(l:List Int):∀a,a<dh->l.foldl (fun a n=>a|||f n) a<dh:=by
 induction l with
 |nil=>intro a h;exact h
 |cons x r ih=>intro a h;exact ih _ (uK h (hf x))
theorem vh(l:List Int):dK l<dh:=zvg _ Wu l 0 (by decide)
theorem vi(l:List Int):dL l<dh:=zvg _ Wv l 0 (by decide)
theorem ake(l:List Int):∀(a b:Nat) (n:Int),b8 (l.foldl (fun a n=>a|||iM n) a) (l.foldl (fun a n=>a|||iN n) b) n=(b8 a b n||(decide (n∈l)&&jM n)):=by
 induction l with
 |nil=>intro a b n;simp
 |cons x r ih=>
  intro a b n
  rw[List.foldl_cons,List.foldl_cons,ih,akj]
  by_cases h1:x=n
  ·subst h1;cases jM x<;>simp
  ·have:n≠x:=fun e=>h1 e.symm
   simp [h1,this]
theorem WD(l:List Int)(n:Int):b8 (dK l) (dL l) n=(decide (n∈l)&&jM n):=by
 unfold dK dL
 rw[ake]
 have:b8 0 0 n=false:=by unfold b8;simp
 rw[this];simp
theorem ana(xs:List Int)(hx:xs.length<=9223372036854775807)(b0:vS):∀(n j k:Nat) (a b:Nat),j+n=xs.length->n<k->a<dh->b<dh->
 BG k xs (xs.length:Int) j b0 ((a:Int),(b:Int),())=some (b0,((((xs.drop j).foldl (fun a n=>a|||iM n) a:Nat):Int),(((xs.drop j).foldl (fun a n=>a|||iN n) b:Nat):Int),())):=by
 intro n
 induction n with
 |zero=>
  intro j k a b hj hk ha hb
  obtain⟨k,rfl⟩:∃k',k=k'+1:=⟨k-1,by omega⟩
  rw[BG,Rz,zF (by omega),List.drop_eq_nil_of_le (by omega)];rfl
 |succ n ih=>
  intro j k a b hj hk ha hb
  obtain⟨k,rfl⟩:∃k',k=k'+1:=⟨k-1,by omega⟩
  have aq:j<xs.length:=by omega
  have KU:xs.getD ((j:Int)).toNat 0=xs[j]:=by rw[Int.toNat_natCast,List.getD_eq_getElem?_getD,List.getElem?_eq_getElem aq];rfl
  rw[BG,Rz,zT (by omega),zC,zh aq,KU,OA a b ha hb,zc,zr (by omega),ih (j+1) k _ _ (by omega) (by omega) (uK ha (Wu _)) (uK hb (Wv _)),List.drop_eq_getElem_cons aq]
  rfl
theorem yu(xs:List Int)(hx:xs.length<=maxLen):vk xs=some ((dK xs:Int),(dL xs:Int),()):=by
 rw[zi] at hx
 unfold vk XR
 have:=ana xs hx (0,0,()) xs.length 0 ag 0 0 (by omega) (by rw[zu];omega) (by decide) (by decide)
 simp only[XS]
 have e:BG ag xs (xs.length:Int) 0 (0,0,()) (0,0,())=_:=this
 rw[e];rfl
def oN:List Int:=(List.range 128).map fun k:Nat=>((k+1:Nat):Int)
theorem aky(n:Int):n∈oN↔1<=n/\n<=128:=by
 unfold oN
 constructor
 ·intro h
  obtain⟨k,hk,rfl⟩:=List.mem_map.1 h
  have:=List.mem_range.1 hk
  omega
 ·intro h
  exact List.mem_map.2 ⟨(n-1).toNat,List.mem_range.2 (by omega),by omega⟩
theorem acZ:oN.Pairwise (· < ·):=by
 unfold oN
 exact List.Pairwise.map _ (fun a b h=>by omega) List.pairwise_lt_range
def elems(h l:Nat):List Int:=oN.filter (b8 h l)
theorem P9(h l:Nat)(n:Int):n∈elems h l↔b8 h l n=true:=by
 unfold elems
 rw[List.mem_filter,aky]
 exact⟨fun h=>h.2,fun h=>⟨zil h,h⟩⟩
theorem zic(h l:Nat):(elems h l).Pairwise (· < ·):=acZ.filter _
def iC(h l:Nat)(n:Int):Int:=((elems h l).filter fun m=>decide (n<m)).headD 0
def WM(h l:Nat)(n r:Int):Prop:=(r=0/\∀m,n<m->b8 h l m=false)\/(n<r/\b8 h l r=true/\∀m,n<m->m<r->b8 h l m=false)
theorem akD(h l:Nat)(n:Int):WM h l n (iC h l n):=by
 unfold iC
 cases hf:(elems h l).filter fun m=>decide (n<m) with
 |nil=>
  left
  refine⟨rfl,fun m hm=> ?_⟩
  cases hb:b8 h l m with
  |false=>rfl
  |true=>
   have:m∈(elems h l).filter fun m=>decide (n<m):=List.mem_filter.2 ⟨(P9 h l m).2 hb,by simpa using hm⟩
   rw[hf] at this;cases this
 |cons x r=>
  right
  have hx:x∈(elems h l).filter fun m=>decide (n<m):=by rw[hf];simp
  obtain⟨h1,h2⟩:=List.mem_filter.1 hx
  refine⟨by simpa using h2,(P9 h l x).1 h1,fun m hm hmx=> ?_⟩
  cases hb:b8 h l m with
  |false=>rfl
  |true=>
   have cE:m∈(elems h l).filter fun m=>decide (n<m):=List.mem_filter.2 ⟨(P9 h l m).2 hb,by simpa using hm⟩
   have hs:=(zic h l).filter (fun m=>decide (n<m))
   rw[hf] at cE hs
   rcases List.mem_cons.1 cE with e|e
   ·simp only[List.headD_cons] at hmx;omega
   ·have:=(List.pairwise_cons.1 hs).1 m e
    simp only[List.headD_cons] at hmx;omega
theorem abY{h l:Nat}{n r q:Int}(h1:WM h l n r)(h2:WM h l n q):r=q:=by
 rcases h1 with⟨e,a⟩|⟨e,a,b⟩<;>rcases h2 with⟨e',a'⟩|⟨e',a',b'⟩
 ·rw[e,e']
 ·rw[a q e'] at a';cases a'
 ·rw[a' r e] at a;cases a
 ·rcases Int.lt_trichotomy r q with h|h|h
  ·rw[b' r e h] at a;cases a
  ·exact h
  ·rw[b q e' h] at a';cases a'
theorem MU(x n:Nat)(hx:x<dh)(hn:n<=64):
 (x*2^n % dh=0/\∀i,i<64-n->x.testBit i=false)\/
 (x*2^n % dh≠0/\fQ (x*2^n % dh)<=64/\n<fQ (x*2^n % dh)/\x.testBit (fQ (x*2^n % dh)-1-n)=true/\∀i,fQ (x*2^n % dh)-1-n<i->i<64-n->x.testBit i=false):=by
 have hb:∀i,(x*2^n % dh).testBit i=(decide (i<64)&&(decide (n<=i)&&x.testBit (i-n))):=by
  intro i
  rw[show dh=2^64 from rfl,Nat.testBit_mod_two_pow,Nat.testBit_mul_two_pow]
 generalize x*2^n % dh=r at hb
 have hr:∀i,i<64-n->x.testBit i=r.testBit (i+n):=by
  intro i hi
  rw[hb,zT (by omega),zT (by omega),Nat.add_sub_cancel];rfl
 by_cases h0:r=0
 ·left
  refine⟨h0,fun i hi=> ?_⟩
  rw[hr i hi,h0];simp
 ·right
  obtain⟨g1,g2⟩:=SP r
  obtain⟨g3,g4⟩:=g2 h0
  have aaj:r.testBit (fQ r-1)=true:=by
   rw[Nat.testBit_eq_decide_div_mod_eq]
   have hp:=Nat.two_pow_pos (fQ r-1)
   have:r/2^(fQ r-1)=1:=by
    apply Nat.div_eq_of_lt_le
    ·omega
    ·have:2^fQ r=2*2^(fQ r-1):=by
      rw[<-Nat.pow_succ'];congr 1;omega
     omega
   rw[this];rfl
  have aq:=aaj
  rw[hb] at aq
  simp only[Bool.and_eq_true,decide_eq_true_eq] at aq
  refine⟨h0,by omega,by omega,?_,fun i h1 h2=> ?_⟩
  ·exact aq.2.2
  ·rw[hr i h2]
   exact Nat.testBit_lt_two_pow (Nat.lt_of_lt_of_le g1 (Nat.pow_le_pow_right (by decide) (by omega)))
theorem O6(x n:Nat)(hn:n<=64):IntKind.u64.wrap ((x:Int)*2^min ((n:Int)).toNat 64)=((x*2^n % dh:Nat):Int):=by
 rw[Pc,Int.toNat_natCast,Nat.min_eq_left hn]
 have e:((x:Int)*2^n)=((x*2^n:Nat):Int):=by simp
 rw[e];rfl
theorem N4(h l:Nat)(hh:h<dh)(hl:l<dh)(n:Int)(hn1: -9223372036854775808<=n)(hn2:n<=9223372036854775807):Gh ((h:Int),(l:Int),()) n=some (iC h l n):=by
 have goal:∀r,WM h l n r->some r=some (iC h l n):=fun r hr=>by rw[abY hr (akD h l n)]
 unfold Gh XV
 obtain⟨m,hm,hmn⟩:∃m:Nat,(if n<(0:Int) then(0:Int) else n)=(m:Int)/\(n<=(m:Int)/\(0<=n->n=m)/\(n<0->m=0)):=by
  by_cases h0:n<0
  ·exact⟨0,by rw[if_pos h0];rfl,by omega,by omega,by omega⟩
  ·exact⟨n.toNat,by rw[if_neg h0];omega,by omega,by omega,by omega⟩
 have l8:∀k:Int,k<=0->b8 h l k=false:=fun k hk=>by unfold b8;rw[if_neg (by omega),if_neg (by omega)]
 have low:∀(kF base:Nat),kF<=64->(kF<64->base=64+kF)->(kF=64->128<=base)->(m:Int)<=base->base<=9223372036854775807->(∀k,n<k->k<=base->k<=128->b8 h l k=false)->
  (bif !(decide (IntKind.u64.wrap ((l:Int)*2^min ((kF:Int)).toNat 64)=0)) then(mJ (IntKind.u64.wrap ((l:Int)*2^min ((kF:Int)).toNat 64))).bind (fun r=>some (zW zI (zW zI ((base:Int)+r)+1))) else some 0)=some (iC h l n):=by
  intro kF base h1 h2 h2' h3 ao6 h4
  rw[O6 l kF h1]
  have aq:l*2^kF % dh<dh:=Nat.mod_lt _ (by decide)
  rcases MU l kF hl h1 with⟨e,w⟩|⟨e,w1,w2,w3,w4⟩
  ·rw[e,zT (by rfl)]
   refine goal 0 (.inl ⟨rfl,fun k hk=> ?_⟩)
   by_cases Cz:k<=base/\k<=128
   ·exact h4 k hk Cz.1 Cz.2
   ·unfold b8
    by_cases GF:65<=k/\k<=128
    ·rw[if_neg (by omega),if_pos GF]
     exact w _ (by omega)
    ·by_cases hk4:1<=k/\k<=64
     ·omega
     ·rw[if_neg hk4,if_neg GF]
  ·have aag:kF<64:=by omega
   have ao1:=h2 aag
   rw[zF (by omega)]
   simp only[Bool.not_false,zC]
   rw[zaa _ aq,zc,zj (x:=(base:Int)+_) (by omega) (by omega),zj (by omega) (by omega)]
   refine goal _ (.inr ⟨by omega,?_,fun k Sm Cz=> ?_⟩)
   ·unfold b8
    rw[if_neg (by omega),if_pos (by omega)]
    have:(128-((base:Int)+((64-fQ (l*2^kF % dh):Nat):Int)+1)).toNat=fQ (l*2^kF % dh)-1-kF:=by omega
    rw[this];exact w3
   ·by_cases GF:k<=base
    ·exact h4 k Sm GF (by omega)
    ·unfold b8
     rw[if_neg (by omega),if_pos (by omega)]
     exact w4 _ (by omega) (by omega)
 simp only[hm]
 by_cases c1:m<64
 ·rw[zT (by omega),zC,zF (by omega),zD,O6 h m (by omega)]
  have aq:h*2^m % dh<dh:=Nat.mod_lt _ (by decide)
  rcases MU h m hh (by omega) with⟨e,w⟩|⟨e,w1,w2,w3,w4⟩
  ·rw[e,zT (by rfl)]
   have:=low 0 64 (by omega) (by omega) (by omega) (by omega) (by omega) (fun k Sm Cz _=>by
    by_cases GF:1<=k
    ·unfold b8
     rw[if_pos (by omega)]
     exact w _ (by omega)
    ·exact l8 k (by omega))
   exact this
  ·rw[zF (by omega)]
   simp only[Bool.not_false,zC]
   rw[zaa _ aq,zc,zj (x:=(m:Int)+_) (by omega) (by omega),zj (by omega) (by omega)]
   refine goal _ (.inr ⟨by omega,?_,fun k Sm Cz=> ?_⟩)
   ·unfold b8
    rw[if_pos (by omega)]
    have:(64-((m:Int)+((64-fQ (h*2^m % dh):Nat):Int)+1)).toNat=fQ (h*2^m % dh)-1-m:=by omega
    rw[this];exact w3
   ·by_cases GF:1<=k
    ·unfold b8
     rw[if_pos (by omega)]
     exact w4 _ (by omega) (by omega)
    ·exact l8 k (by omega)
 ·rw[zF (by omega),zD,zj (x:=(m:Int)-64) (by omega) (by omega)]
  have xD:((m:Int)-64)=((m-64:Nat):Int):=by omega
  obtain⟨kF,hs,CH⟩:∃kF:Nat,(if(64:Int)<(m:Int)-64 then(64:Int) else(m:Int)-64)=(kF:Int)/\kF<=64/\(kF<64->m=64+kF)/\(kF=64->128<=m):=by
   by_cases h0:(64:Int)<(m:Int)-64
   ·exact⟨64,by rw[if_pos h0];rfl,by omega,by omega,by omega⟩
   ·exact⟨m-64,by rw[if_neg h0];omega,by omega,by omega,by omega⟩
  simp only[hs]
  rw[zF (by omega),zD]
  exact low kF m CH.1 CH.2.1 CH.2.2 (by omega) (by omega) (fun k Sm Cz _=>by omega)
theorem Mz(n a:Nat)(h:a<2^n):(BitVec.ofInt n (a:Int)).toNat=a:=by
 rw[BitVec.toNat_ofInt]
 have h2:((a:Int)% ((2^n:Nat):Int))=((a % 2^n:Nat):Int):=by rfl
 rw[h2,Int.toNat_natCast,Nat.mod_eq_of_lt h]
theorem acm{k:IntKind}{a b:Nat}(ha:a<2^k.bits)(hb:b<2^k.bits):aQ .or k a b=k.wrap ((a|||b:Nat):Int):=by
 simp only[aQ,BitVec.toNat_or,Mz _ _ ha,Mz _ _ hb]
def cG(b:List Int):Int:=if b.length<2 then 0 else b.getD 0 0*256+b.getD 1 0
theorem zr5{x y:Int}(hx:zm x)(hy:zm y):aQ .or .i64 (zW zI (zW zI x*2^min (8:Int).toNat 64)) (zW zI y)=x*256+y:=by
 unfold zm at hx hy
 obtain⟨x,rfl⟩:=Int.eq_ofNat_of_zero_le hx.1
 obtain⟨y,rfl⟩:=Int.eq_ofNat_of_zero_le hy.1
 rw[yh (by omega),yh (by omega)]
 have h1:((x:Int)*(2:Int)^min (8:Int).toNat 64)=((x<<<8:Nat):Int):=by
  rw[Nat.shiftLeft_eq];rfl
 have h3:x<<<8=x*256:=by rw[Nat.shiftLeft_eq]
 rw[h1,yh (by omega),acm (by simp only[IntKind.bits];omega) (by simp only[IntKind.bits];omega),<-Nat.shiftLeft_add_eq_or_of_lt (by omega:y<2^8),h3,yh (by omega)]
 omega
theorem Fj{b:List Int}(hb:∀x∈b,zm x)(i:Nat):zm (b.getD i 0):=by
 rw[List.getD_eq_getElem?_getD]
 cases h:b[i]? with
 |none=>exact⟨by simp,by simp⟩
 |some x=>exact hb x (List.mem_of_getElem? h)
theorem G6{b:List Int}(hb:∀x∈b,zm x):0<=cG b/\cG b<=65535:=by
 unfold cG
 have h0:=Fj hb 0
 have h1:=Fj hb 1
 unfold zm at h0 h1
 split<;>omega
abbrev Fr:=Int×Bool×List Int×Unit
theorem anl(m:Int)(d:Bool)(b:List Int)(hb:∀x∈b,zm x):Iq (m,d,b,())=some (cG b,(m,d,b,())):=by
 unfold Iq X4 cG
 simp only
 by_cases h:b.length<2
 ·rw[zT (by omega:((b.length:Int)<2)),if_pos h];rfl
 ·rw[zF (by omega:¬((b.length:Int)<2)),if_neg h,zD,zn (by omega) (by omega),zn (by omega) (by omega)]
  exact congrArg some (Prod.ext (zr5 (Fj hb 0) (Fj hb 1)) rfl)
def aN(m:Int)(st:Bool×List Int×List ByteArray)(c:Int):Bool×List Int×List ByteArray:=
 if st.1=true then st
 else if(st.2.1++ [c]).length=2/\(cG (st.2.1++ [c])=0\/m<cG (st.2.1++ [c])) then(true,[],st.2.2)
 else if((st.2.1++ [c]).length:Int)=2+cG (st.2.1++ [c])/\0<cG (st.2.1++ [c]) then(false,[],st.2.2++ [strOf ((st.2.1++ [c]).drop 2)])
 else(false,st.2.1++ [c],st.2.2)
theorem G2(m:Int)(l:List Int)(b:List Int)(o:List ByteArray):l.foldl (aN m) (true,b,o)=(true,b,o):=by
 induction l with
 |nil=>rfl
 |cons c r ih=>rw[List.foldl_cons];have:aN m (true,b,o) c=(true,b,o):=by simp [aN]
               rw[this,ih]
def Rj(m:Int)(d:Bool)(r:Bool×List Int×List ByteArray):Sum (List ByteArray×Bool×List ByteArray×Fr) (List ByteArray×Fr):=
 if r.1=true/\d=false then .inl (r.2.2,true,r.2.2,(m,true,[],())) else .inr (r.2.2,(m,r.1,r.2.1,()))
theorem adI(m:Int)(l:List Int):∀(d:Bool) (b:List Int) (o:List ByteArray),d=false->(l.foldl (aN m) (d,b,o)).1=true->(l.foldl (aN m) (d,b,o)).2.1=[]:=by
 induction l with
 |nil=>intro d b o hd h;subst hd;cases h
 |cons c r ih=>
  intro d b o hd h
  subst hd
  rw[List.foldl_cons] at h⊢
  generalize bP:aN m (false,b,o) c=st at h⊢
  obtain⟨d',b',o'⟩:=st
  cases d' with
  |false=>exact ih false b' o' rfl h
  |true=>
   rw[G2]
   unfold aN at bP
   simp only[Bool.false_eq_true,if_false] at bP
   split at bP
   ·cases bP;rfl
   ·split at bP<;>cases bP
theorem L7(s:ByteArray)(m:Int):∀(n j k:Nat) (o:List ByteArray) (d:Bool) (b:List Int),j+n=(bl s).length->n<k->(∀x∈b,zm x)->b.length+n<=4398046511104->o.length+n<=4398046511104->(bl s).length<=4398046511104->
 F7 k s o j (m,d,b,())=some (Rj m d (((bl s).drop j).foldl (aN m) (d,b,o)))
 |0,j,k,o,d,b,hj,hk,hb,h1,h2,h3=>by
  obtain⟨k,rfl⟩:∃k',k=k'+1:=⟨k-1,by omega⟩
  rw[F7,RB]
  have aq:¬((j:Int)<(s.size:Int)):=by rw[<-zf];omega
  rw[zF aq,List.drop_eq_nil_of_le (by omega)]
  cases d<;>rfl
 |n+1,j,k,o,d,b,hj,hk,hb,h1,h2,h3=>by
  obtain⟨k,rfl⟩:∃k',k=k'+1:=⟨k-1,by omega⟩
  rw[F7,RB]
  have aq:j<(bl s).length:=by omega
  have gi:((j:Int)<(s.size:Int)):=by rw[<-zf];omega
  rw[zT gi,zC,List.drop_eq_getElem_cons aq,List.foldl_cons]
  cases d with
  |true=>
   have hs:aN m (true,b,o) (bl s)[j]=(true,b,o):=by simp [aN]
   rw[hs,G2]
   simp [Rj]
  |false=>
   have hc:ze s ((j:Int)).toNat=(bl s)[j]:=by
    rw[lK,Int.toNat_natCast,List.getD_eq_getElem?_getD,List.getElem?_eq_getElem aq];rfl
   have hbc:zm (bl s)[j]:=jI (List.getElem_mem aq)
   generalize hcv:(bl s)[j]=c at hc hbc
   rw[hc]
   have ub:∀x∈b++ [c],zm x:=fun x hx=>by
    rcases List.mem_append.1 hx with h|h
    ·exact hb x h
    ·simp at h;subst h;exact hbc
   have dm:=anl m false (b++ [c]) ub
   have hr:=G6 ub
   have hw:zW zI ((2:Int)+cG (b++ [c]))=2+cG (b++ [c]):=zj (by omega) (by omega)
   have hjw:zW zI ((j:Int)+1)=((j+1:Nat):Int):=zr (by omega)
   have hl:(b++ [c]).length=b.length+1:=by simp
   rw[zh (by rw[<-zf];exact aq)]
   simp only[Bool.not_false,zC]
   rw[zT (by simp;omega),zC,dm]
   simp only[zc,hw,hjw]
   generalize hn:cG (b++ [c])=z at hr hw
   have ih:=fun o d b=>L7 s m n (j+1) k o d b (by omega) (by omega)
   have Sj:aN m (false,b,o) c=if(b++ [c]).length=2/\(z=0\/m<z) then(true,[],o) else if((b++ [c]).length:Int)=2+z/\0<z then(false,[],o++ [strOf ((b++ [c]).drop 2)]) else(false,b++ [c],o):=by
    unfold aN;simp only[Bool.false_eq_true,if_false,hn]
   have dead:∀(l:List Int),Rj m false (l.foldl (aN m) (true,[],o))= .inl (o,true,o,(m,true,[],())):=fun l=>by rw[G2];simp [Rj]
   have Cx:=ih o false (b++ [c]) ub (by rw[hl];omega) (by omega) h3
   have ZM:=ih (o++ [strOf ((b++ [c]).drop 2)]) false [] (by simp) (by simp;omega) (by simp;omega) h3
   have Kl:List.drop ((2:Int)).toNat (List.take (b++ [c]).length (b++ [c]))=(b++ [c]).drop 2:=by rw[List.take_length];rfl
   simp only[Kl]
   have ZW:∀(x:Option (Sum (List ByteArray×Bool×List ByteArray×Fr) (List ByteArray×Fr))),(bif decide (((o.length+ [strOf ((b++ [c]).drop 2)].length)*16:Nat)<=140737488355328) then x else none)=x:=fun x=>by
    rw[zT (by simp;omega)];rfl
   by_cases c1:(b++ [c]).length=2
   ·by_cases c2:z=0
    ·rw[Sj,if_pos ⟨c1,.inl c2⟩,dead]
     simp [c1,c2]
    ·by_cases c3:m<z
     ·rw[Sj,if_pos ⟨c1,.inr c3⟩,dead]
      simp [c1,c2,c3]
     ·rw[Sj,if_neg (by simp [c2,c3])]
      have c4:¬(((b++ [c]).length:Int)=2+z):=by omega
      rw[if_neg (fun h=>c4 h.1),<-Cx]
      have J6:(((b++ [c]).length:Int)=2):=by omega
      rw[zT J6,zF c2,zF c3,zF c4]
      rfl
   ·have J6:¬(((b++ [c]).length:Int)=2):=by omega
    rw[Sj,if_neg (fun h=>c1 h.1),zF J6]
    by_cases c4:((b++ [c]).length:Int)=2+z
    ·by_cases c5:0<z
     ·rw[if_pos ⟨c4,c5⟩,<-ZM,zT c4,zT c5,zT (by omega:(2:Int)<=(((b++ [c]).length:Nat):Int))]
      simp only[zC,zD]
      rw[ZW]
     ·rw[if_neg (fun h=>c5 h.2),<-Cx,zT c4,zF c5]
      rfl
    ·rw[if_neg (fun h=>c4 h.1),<-Cx,zF c4]
     rfl
def feed(f:Fr)(s:List Int):List ByteArray×Bool×Fr:=
 ((s.foldl (aN f.1) (f.2.1,f.2.2.1,[])).2.2,decide ((s.foldl (aN f.1) (f.2.1,f.2.2.1,[])).1=true/\f.2.1=false),(f.1,(s.foldl (aN f.1) (f.2.1,f.2.2.1,[])).1,(s.foldl (aN f.1) (f.2.1,f.2.2.1,[])).2.1,()))
theorem amZ(f:Fr)(s:ByteArray)(hb:∀x∈f.2.2.1,zm x)(h1:f.2.2.1.length+s.size<=4398046511104):BU f s=some (feed f (bl s)):=by
 obtain⟨m,d,b,u⟩:=f
 cases u
 unfold BU XZ
 simp only at hb h1⊢
 have:=L7 s m (bl s).length 0 ag [] d b (by omega) (by rw[zu,zf];omega) hb (by rw[zf];omega) (by simp;rw[zf];omega) (by rw[zf];omega)
 rw[show((0:Nat):Int)=0 from rfl] at this
 rw[this,zc,List.drop_zero]
 unfold Rj feed
 simp only
 split
 ·rename_i h
  obtain⟨h4,h5⟩:=h
  subst h5
  have h3:=adI m (bl s) false b [] rfl h4
  simp [Sum.elim_inl,X2,h3,h4]
 ·rename_i h
  simp only[Sum.elim_inr,X3]
  rw[zF h]
section
variable {α:Type} [DecidableEq α]
theorem zwb(d:α)(eq:α->α->Bool)(heq:∀x y,eq x y=true↔x=y)(a b:List α)(hl:a.length=b.length)(h:a.length<=9223372036854775807)(L:Nat->Int->Option (Sum Bool Unit))
 (step:∀k (i:Int),L (k+1) i=bif decide (i<(a.length:Int)) then zd i a.length (zd i b.length (bif !(eq (a.getD i.toNat d) (b.getD i.toNat d)) then some (.inl false) else L k (zW zI (i+1)))) else some (.inr ())):
 ∀(m j k:Nat),j+m=a.length->m<k->L k j=some (if a.drop j=b.drop j then .inr () else .inl false)
 |0,j,k,hj,hk=>by
  obtain⟨k,rfl⟩:∃k',k=k'+1:=⟨k-1,by omega⟩
  rw[step,zF (by omega),List.drop_eq_nil_of_le (by omega),List.drop_eq_nil_of_le (by omega)]
  simp
 |m+1,j,k,hj,hk=>by
  obtain⟨k,rfl⟩:∃k',k=k'+1:=⟨k-1,by omega⟩
  have ha:j<a.length:=by omega
  have hb:j<b.length:=by omega
  rw[step,zT (by omega),zC,zh ha,zh hb,zr (by omega),zwb d eq heq a b hl h L step m (j+1) k (by omega) (by omega),List.drop_eq_getElem_cons ha,List.drop_eq_getElem_cons hb,Int.toNat_natCast]
  have h1:a.getD j d=a[j]:=by rw[List.getD_eq_getElem?_getD,List.getElem?_eq_getElem ha];rfl
  have h2:b.getD j d=b[j]:=by rw[List.getD_eq_getElem?_getD,List.getElem?_eq_getElem hb];rfl
  rw[h1,h2]
  by_cases e:a[j]=b[j]
  ·rw[(heq _ _).2 e,e]
   simp only[List.cons.injEq,true_and,Bool.not_true,zD]
  ·have:eq a[j] b[j]=false:=by
    cases hh:eq a[j] b[j] with
    |false=>rfl
    |true=>exact absurd ((heq _ _).1 hh) e
   rw[this]
   simp only[List.cons.injEq,e,false_and,if_false,Bool.not_false,zC]
theorem aho(d:α)(eq:α->α->Bool)(heq:∀x y,eq x y=true↔x=y)(a b:List α)(hl:a.length=b.length)(h:a.length<=maxLen)(L:Nat->Int->Option (Sum Bool Unit))
 (step:∀k (i:Int),L (k+1) i=bif decide (i<(a.length:Int)) then zd i a.length (zd i b.length (bif !(eq (a.getD i.toNat d) (b.getD i.toNat d)) then some (.inl false) else L k (zW zI (i+1)))) else some (.inr ())):
 L ag 0=some (if a=b then .inr () else .inl false):=by
 have:=zwb d eq heq a b hl (by rw[zi] at h;exact h) L step a.length 0 ag (by omega) (by rw[zu];rw[zi] at h;omega)
 simpa using this
end
def cT(m:Int)(pos:Int)(l:List Int):List ByteArray×List Int×List Int×Int:=
 if h:l.length<2 then([],l,[],-1)
 else if cG l=0\/m<cG l then([],[],[],pos+2)
 else if(l.length:Int)-2<cG l then([],l,[],-1)
 else
  let r:=cT m (pos+2+cG l) (l.drop (2+(cG l).toNat))
  (strOf ((l.drop 2).take (cG l).toNat)::r.1,r.2.1,(pos+2+cG l)::r.2.2.1,r.2.2.2)
termination_by l.length
decreasing_by simp only[List.length_drop];omega
def RY(e:Sum (ByteArray×(List ByteArray)×Int×(List Int)×Int×(List ByteArray)×(List Int)×Int) (ByteArray×(List ByteArray)×(List Int)×Int)):Option ((List ByteArray)×Int×(List Int)×Int):=
 Sum.elim (fun we=>some (we.2.1,we.2.2.1,we.2.2.2.1,we.2.2.2.2.1)) (fun we=>some (we.2.1,zW zI ((we.1.size:Int)-we.2.2.2),we.2.2.1,-1)) e
theorem L0(l:List Int)(j i:Nat):(l.drop j).getD i 0=l.getD (j+i) 0:=by
 simp [List.getD_eq_getElem?_getD,List.getElem?_drop]
theorem akT(m:Int)(s:ByteArray)(hs:(bl s).length<=1099511627776):∀(n j k:Nat) (o:List ByteArray) (e:List Int),(bl s).length-j<=n->j<=(bl s).length->n<k->o.length+n<=2199023255552->e.length+n<=2199023255552->
 (Hj k m s o e j).bind RY=some (o++(cT m j ((bl s).drop j)).1,((cT m j ((bl s).drop j)).2.1.length:Int),e++(cT m j ((bl s).drop j)).2.2.1,(cT m j ((bl s).drop j)).2.2.2):=by
 intro n
 induction n using Nat.strongRecOn with
 |_ n ih=>
 intro j k o e hn hj hk ho he
 obtain⟨k,rfl⟩:∃k',k=k'+1:=⟨k-1,by omega⟩
 rw[Hj,UA]
 have dm:s.size=(bl s).length:=(zf s).symm
 generalize hl:(bl s).drop j=l
 have GG:l.length=(bl s).length-j:=by rw[<-hl,List.length_drop]
 have xD:zW zI ((s.size:Int)-(j:Int))=((l.length:Nat):Int):=by
  rw[dm,GG,zj (by omega) (by omega)];omega
 rw[xD,cT]
 by_cases c0:l.length<2
 ·rw[zF (by omega:¬((2:Int)<=(l.length:Int))),dif_pos c0]
  simp only[zD,zc,RY,Sum.elim_inr]
  rw[xD]
  simp
 rw[zT (by omega:((2:Int)<=(l.length:Int))),zC,dif_neg c0]
 have hx:ze s ((j:Int)).toNat=l.getD 0 0:=by rw[lK,<-hl,L0];simp
 have hj1:zW zI ((j:Int)+1)=((j+1:Nat):Int):=zr (by omega)
 have hj2:zW zI ((j:Int)+2)=((j+2:Nat):Int):=by rw[zj (by omega) (by omega)];omega
 have hy:ze s (((j+1:Nat):Int)).toNat=l.getD 1 0:=by rw[lK,<-hl,L0];simp
 have Sn:∀x∈l,zm x:=fun x hx=>jI (List.mem_of_mem_drop (by rw[hl];exact hx))
 have bx:=Fj Sn 0
 have b_y:=Fj Sn 1
 have hz:=G6 Sn
 have hzz:cG l=l.getD 0 0*256+l.getD 1 0:=by unfold cG;rw[if_neg c0]
 unfold zm at bx b_y
 have w1:zW zI (l.getD 0 0)=l.getD 0 0:=zj (by omega) (by omega)
 have w2:zW zI (l.getD 1 0)=l.getD 1 0:=zj (by omega) (by omega)
 have w3:zW zI (l.getD 0 0*256)=l.getD 0 0*256:=zj (by omega) (by omega)
 have w4:zW zI (l.getD 0 0*256+l.getD 1 0)=cG l:=by rw[<-hzz];exact zj (by omega) (by omega)
 generalize cG l=z at*
 have w5:zW zI (((j+2:Nat):Int)+z)=((j+2+z.toNat:Nat):Int):=by rw[zj (by omega) (by omega)];omega
 have w6:zW zI (((l.length:Nat):Int)-2)=(l.length:Int)-2:=zj (by omega) (by omega)
 simp only[hj1,hj2,hx,hy,w1,w2,w3,w4,w5,w6]
 rw[zh (by omega),zh (by omega)]
 by_cases c1:z=0
 ·rw[zT c1,if_pos (.inl c1)]
  simp [RY]
 rw[zF c1,zD]
 by_cases c2:m<z
 ·rw[zT c2,if_pos (.inr c2)]
  simp [RY]
 rw[zF c2,if_neg (by simp [c1,c2]),zD]
 by_cases c3:(l.length:Int)-2<z
 ·rw[zT c3,if_pos c3]
  simp [RY,xD]
 rw[zF c3,if_neg c3]
 simp only[zD]
 rw[zT (by omega:(0:Int)<=((j+2+z.toNat:Nat):Int)),zT (by omega:((j+2+z.toNat:Nat):Int)<=((s.size:Nat):Int)),zT (by omega:(0:Int)<=((j+2:Nat):Int))]
 simp only[zC,Int.toNat_natCast]
 rw[zT (by omega:((j+2:Nat):Int)<=((j+2+z.toNat:Nat):Int)),zT (by simp;omega),zT (by simp;omega)]
 simp only[zC]
 have bP:s.extract (j+2) (j+2+z.toNat)=strOf ((l.drop 2).take z.toNat):=by
  apply BI
  rw[sD (fun x hx=>Sn x (List.mem_of_mem_drop (List.mem_of_mem_take hx))),qG,<-hl,List.drop_drop,List.drop_take]
  congr 1
  omega
 have:=ih (n-(2+z.toNat)) (by omega) (j+2+z.toNat) k (o++ [s.extract (j+2) (j+2+z.toNat)]) (e++ [((j+2+z.toNat:Nat):Int)]) (by omega) (by omega) (by omega) (by simp;omega) (by simp;omega)
 rw[this,bP]
 have hd:(bl s).drop (j+2+z.toNat)=l.drop (2+z.toNat):=by rw[<-hl,List.drop_drop];congr 1;omega
 rw[hd]
 have hp:((j+2+z.toNat:Nat):Int)=(j:Int)+2+z:=by omega
 rw[hp]
 simp
theorem zr7(m:Int)(s:ByteArray)(hs:s.size<=1099511627776):s4 m s=some ((cT m 0 (bl s)).1,((cT m 0 (bl s)).2.1.length:Int),(cT m 0 (bl s)).2.2.1,(cT m 0 (bl s)).2.2.2):=by
 have:=akT m s (by rw[zf];exact hs) (bl s).length 0 ag [] [] (by omega) (by omega) (by rw[zu,zf];omega) (by simp;rw[zf];omega) (by simp;rw[zf];omega)
 unfold s4 Uz
 rw[show((0:Nat):Int)=0 from rfl] at this
 simp only[List.drop_zero,List.nil_append] at this
 exact this
end bm

namespace bm
open Go.IntKind renaming wrap->zW,i64->zI,u8->zU
open Go Go.Ref
theorem akh{l:List Int}{j:Nat}(h:j<l.length):l.getD ((j:Int)).toNat 0=l[j]:=by
 rw[Int.toNat_natCast,List.getD_eq_getElem?_getD,List.getElem?_eq_getElem h];rfl
theorem agP(l:List Int)(n:Int)(hl:l.length<=maxLen):∀(m j k:Nat),j+m=l.length->m<k->
 Ga k l n j=some (if n∈l.drop j then .inl true else .inr ()):=by
 intro m
 rw[zi] at hl
 induction m with
 |zero=>
  intro j k hj hk
  obtain⟨k,rfl⟩:∃k',k=k'+1:=⟨k-1,by omega⟩
  rw[Ga,RG,zF (by omega),List.drop_eq_nil_of_le (by omega)];simp
 |succ m ih=>
  intro j k hj hk
  obtain⟨k,rfl⟩:∃k',k=k'+1:=⟨k-1,by omega⟩
  have aq:j<l.length:=by omega
  rw[Ga,RG,zT (by omega),zC,zh aq,akh aq,zr (by omega),List.drop_eq_getElem_cons aq]
  by_cases h:l[j]=n
  ·rw[zT h,if_pos (by rw[h];simp)];rfl
  ·rw[zF h,zD,ih (j+1) k (by omega) (by omega)]
   have:n≠l[j]:=fun e=>h e.symm
   simp only[List.mem_cons,this,false_or]
theorem ale(l:List Int)(n:Int)(hl:l.length<=maxLen):IP l n=some (decide (n∈l)):=by
 unfold IP Yz
 dsimp only
 have:=agP l n hl l.length 0 ag (by omega) (by rw[zu];rw[zi] at hl;omega)
 rw[show((0:Nat):Int)=0 from rfl,List.drop_zero] at this
 rw[this,zc]
 by_cases h:n∈l
 ·rw[if_pos h,zT h];rfl
 ·rw[if_neg h,zF h];rfl
theorem akI:oN.length=128:=by unfold oN;simp
abbrev Spec:=Int×Int×Int×Int×Int×Unit
abbrev zg:=Int×Int×List Spec×Unit
abbrev de:Spec:=(0,0,0,0,0,())
theorem WE(c:Int):yw c=some (if c=1 then 1 else if c=2 then 2 else if c=3 then 3 else if c=4 then 7 else if c=5 then 15 else if c=6 then 15 else 0):=by
 unfold yw Xp
 simp only[amK]
 repeat' split
 all_goals rfl
theorem zpe(c:Int):BS c=some (decide (1<=c/\c<=6)):=by
 unfold BS Xg
 rw[WE,zc]
 congr 1
 by_cases h1:c=1
 ·subst h1;rfl
 by_cases h2:c=2
 ·subst h2;rfl
 by_cases h3:c=3
 ·subst h3;rfl
 by_cases h4:c=4
 ·subst h4;rfl
 by_cases h5:c=5
 ·subst h5;rfl
 by_cases h6:c=6
 ·subst h6;rfl
 rw[if_neg h1,if_neg h2,if_neg h3,if_neg h4,if_neg h5,if_neg h6,zF (p:=1<=c/\c<=6) (by omega)]
 rfl
theorem HQ:qV 2=some 99:=by kernel_rfl
theorem HR:qV 3=some 999:=by kernel_rfl
def bM(s:Spec):Int:=
 if s.1<2\/128<s.1 then 1 else if s.2.1<1\/6<s.2.1 then 6 else if s.2.2.1<1\/3<s.2.2.1 then 3
 else if s.2.2.2.1<1\/s.2.2.2.2.1<s.2.2.2.1\/(s.2.2.1=2/\99<s.2.2.2.2.1)\/999<s.2.2.2.2.1\/(s.2.2.1=1/\¬s.2.2.2.1=s.2.2.2.2.1) then 5
 else if s.2.2.1=1/\s.2.1=6 then 13 else 0
theorem PS(s:Spec):lQ s=some (bM s):=by
 obtain⟨no,c,f,mn,mx,u⟩:=s
 unfold lQ VN bM
 simp only[zpe,zc]
 by_cases h1:no<2\/128<no
 ·rw[if_pos h1]
  rcases h1 with h|h
  ·rw[zT h];rfl
  ·rw[zT h];cases decide (no<2)<;>rfl
 rw[if_neg h1,zF (by omega),zF (by omega)]
 by_cases h2:c<1\/6<c
 ·rw[if_pos h2,zF (p:=1<=c/\c<=6) (by omega)];rfl
 rw[if_neg h2,zT (p:=1<=c/\c<=6) (by omega)]
 simp only[zD,Bool.not_true]
 by_cases h3:f<1\/3<f
 ·rw[if_pos h3]
  rcases h3 with h|h
  ·rw[zT h];rfl
  ·rw[zT h];cases decide (f<1)<;>rfl
 rw[if_neg h3,zF (by omega),zF (by omega)]
 simp only[zD]
 by_cases h4:mn<1\/mx<mn\/999<mx
 ·rw[if_pos (by omega)]
  by_cases a:mn<1
  ·rw[zT a];rfl
  rw[zF a]
  by_cases b:mx<mn
  ·rw[zT b];rfl
  rw[zF b,zT (by omega)];rfl
 rw[zF (by omega),zF (by omega),zF (by omega)]
 simp only[zD]
 by_cases f1:f=1
 ·rw[zT f1]
  simp only[zC,Bool.not_true,zD]
  by_cases e:mn=mx
  ·rw[zT e,if_neg (by omega)]
   by_cases e6:c=6
   ·rw[zT e6,if_pos (by omega)];rfl
   ·rw[zF e6,if_neg (by omega)];rfl
  ·rw[zF e,if_pos (by omega)];rfl
 ·rw[zF f1]
  simp only[zD,Bool.not_false,zC]
  by_cases f2:f=2
  ·subst f2
   rw[HQ,zc]
   by_cases h:99<mx
   ·rw[zT h,if_pos (by omega)];rfl
   ·rw[zF h,if_neg (by omega),if_neg (by omega)];rfl
  ·have f3:f=3:=by omega
   subst f3
   rw[HR,zc,zF (by omega),if_neg (by omega),if_neg (by omega)];rfl
theorem vE(s:Spec):yL s=some (bM s):=by
 obtain⟨no,c,f,mn,mx,u⟩:=s
 unfold yL YD bM
 simp only
 by_cases h1:no<2\/128<no
 ·rw[if_pos h1]
  rcases h1 with h|h
  ·rw[zT h];rfl
  ·rw[zT h];cases decide (no<2)<;>rfl
 rw[if_neg h1,zF (by omega),zF (by omega)]
 by_cases h2:c<1\/6<c
 ·rw[if_pos h2]
  rcases h2 with h|h
  ·rw[zT h];rfl
  ·rw[zT h];cases decide (c<1)<;>rfl
 rw[if_neg h2,zF (by omega),zF (by omega)]
 by_cases h3:f<1\/3<f
 ·rw[if_pos h3]
  rcases h3 with h|h
  ·rw[zT h];rfl
  ·rw[zT h];cases decide (f<1)<;>rfl
 rw[if_neg h3,zF (by omega),zF (by omega)]
 simp only[zD]
 by_cases f1:f=1
 ·rw[zT f1,zF (by omega:¬f=2)]
  simp only[zC,zD]
  by_cases a:mn<1
  ·rw[zT a,if_pos (by omega)];rfl
  rw[zF a]
  by_cases b:mx<mn
  ·rw[zT b,if_pos (by omega)];rfl
  rw[zF b]
  by_cases d:999<mx
  ·rw[zT d,if_pos (by omega)];rfl
  rw[zF d]
  by_cases e:mn=mx
  ·rw[zT e,if_neg (by omega)]
   by_cases e6:c=6
   ·rw[zT e6,if_pos (by omega)];rfl
   ·rw[zF e6,if_neg (by omega)];rfl
  ·rw[zF e,if_pos (by omega)];rfl
 ·rw[zF f1]
  simp only[zD]
  by_cases f2:f=2
  ·rw[zT f2]
   simp only[zC]
   by_cases a:mn<1
   ·rw[zT a,if_pos (by omega)];rfl
   rw[zF a]
   by_cases b:mx<mn
   ·rw[zT b,if_pos (by omega)];rfl
   rw[zF b]
   by_cases d:99<mx
   ·rw[zT d,if_pos (by omega)];rfl
   rw[zF d,if_neg (by omega),if_neg (by omega)];rfl
  ·rw[zF f2]
   simp only[zD]
   by_cases a:mn<1
   ·rw[zT a,if_pos (by omega)];rfl
   rw[zF a]
   by_cases b:mx<mn
   ·rw[zT b,if_pos (by omega)];rfl
   rw[zF b]
   by_cases d:999<mx
   ·rw[zT d,if_pos (by omega)];rfl
   rw[zF d,if_neg (by omega),if_neg (by omega)];rfl
def hP:List Spec->Int->Int->Int×Int
 | [],_,_=>(0,0)
 |x::r,i,last=>if bM x≠0 then(bM x,i) else if x.1<=last then(11,i) else hP r (i+1) x.1
def hM(s:zg):Int×Int:=
 if¬(s.1=1\/s.1=2) then(1,-1) else if s.2.1<0\/9<s.2.1 then(7,-1) else hP s.2.2.1 0 0
theorem TG{x:Spec}(h:bM x=0):2<=x.1/\x.1<=128:=by
 unfold bM at h
 split at h
 ·cases h
 ·omega
def Zo(e:Sum (Int×Int) Unit):Option (Int×Int):=Sum.elim (fun we=>some (we.1,we.2)) (fun _=>some (0,0)) e
theorem L6(l:List Spec):∀(i:Int) (last:Int),Zo (if(hP l i last).1=0 then .inr () else .inl (hP l i last))=some (hP l i last):=by
 intro i last
 by_cases h:(hP l i last).1=0
 ·rw[if_pos h]
  have:hP l i last=(0,0):=by
   induction l generalizing i last with
   |nil=>rfl
   |cons x r ih=>
    unfold hP at h⊢
    split
    ·rename_i h1;rw[if_pos h1] at h;exact absurd h h1
    ·rename_i h1
     rw[if_neg h1] at h
     split
     ·rename_i h2;rw[if_pos h2] at h;cases h
     ·rename_i h2;rw[if_neg h2] at h;exact ih _ _ h
  rw[this];rfl
 ·rw[if_neg h];rfl
theorem ab9(s:zg)(hl:s.2.2.1.length<=maxLen):yi ag 0 0 s=some (if(hP s.2.2.1 0 0).1=0 then .inr () else .inl (hP s.2.2.1 0 0)):=by
 have h:=ly de s.2.2.1 hl (fun i x (last:Int) K=>if bM x≠0 then some (.inl (bM x,i)) else if x.1<=last then some (.inl (11,i)) else K x.1) (fun _=>some (.inr ())) (fun k i last=>yi k last i s)
  (fun k i last h0 h1=>by
    rw[yi,RM,zT h1]
    simp only[zC,zn h0 h1,vE,zc]
    by_cases hc:bM (s.2.2.1.getD i.toNat de)=0
    ·rw[zT hc,if_neg (fun h=>h hc)]
     simp only[Bool.not_true,zD]
     by_cases hn:(s.2.2.1.getD i.toNat de).1<=last
     ·rw[zT hn,if_pos hn];rfl
     ·rw[zF hn,if_neg hn];rfl
    ·rw[zF hc,if_pos hc];rfl)
  (fun k last=>by rw[yi,RM,zF (by omega)];rfl) 0
 rw[h]
 clear h hl
 generalize s.2.2.1=l
 suffices∀(i last:Int),bk (fun i (x:Spec) (last:Int) K=>if bM x≠0 then some (Sum.inl (bM x,i)) else if x.1<=last then some (.inl (11,i)) else K x.1) (fun _=>some (.inr ())) l i last=some (if(hP l i last).1=0 then(.inr ():Sum (Int×Int) Unit) else .inl (hP l i last)) from this 0 0
 induction l with
 |nil=>intro i last;rfl
 |cons x r ih=>
  intro i last
  rw[bk,hP]
  by_cases hc:bM x≠0
  ·rw[if_pos hc,if_pos hc,if_neg hc]
  ·rw[if_neg hc,if_neg hc]
   by_cases hn:x.1<=last
   ·rw[if_pos hn,if_pos hn];rfl
   ·rw[if_neg hn,if_neg hn];exact ih _ _
theorem ac5(s:zg)(hl:s.2.2.1.length<=maxLen):I2 s=some (hM s):=by
 unfold I2 HH hM
 have hx:=L6 s.2.2.1 0 0
 have um:(yi ag 0 0 s).bind (fun e=>Sum.elim (fun(we:Int×Int)=>YF we.1 we.2 fun a0 a1=>some (a0,a1)) (fun(we:Unit)=>YG fun a0 a1=>some (a0,a1)) e)=some (hP s.2.2.1 0 0):=by
  rw[ab9 s hl,zc];exact hx
 dsimp only
 rw[um]
 by_cases h1:s.1=1
 ·rw[zT h1,if_neg (by omega)]
  by_cases h2:s.2.1<0
  ·rw[zT h2,if_pos (.inl h2)];rfl
  ·rw[zF h2]
   by_cases h3:9<s.2.1
   ·rw[zT h3,if_pos (.inr h3)];rfl
   ·rw[zF h3,if_neg (by omega)];rfl
 ·rw[zF h1]
  by_cases h0:s.1=2
  ·rw[zT h0,if_neg (by omega)]
   by_cases h2:s.2.1<0
   ·rw[zT h2,if_pos (.inl h2)];rfl
   ·rw[zF h2]
    by_cases h3:9<s.2.1
    ·rw[zT h3,if_pos (.inr h3)];rfl
    ·rw[zF h3,if_neg (by omega)];rfl
  ·rw[zF h0,if_pos (by omega)];rfl
theorem agM{l:List Spec}{j:Nat}(h:j<l.length):l.getD ((j:Int)).toNat ((0:Int),(0:Int),(0:Int),(0:Int),(0:Int),())=l[j]:=by
 rw[Int.toNat_natCast,List.getD_eq_getElem?_getD,List.getElem?_eq_getElem h];rfl
theorem gV(s:zg)(hl:s.2.2.1.length<=9223372036854775807):∀(m j k:Nat) (last:Int),j+m=s.2.2.1.length->m<k->(j=0->last=0)->(∀h:0<j,last=(s.2.2.1.getD (j-1) de).1)->
 BB k s.2.2.1 (s.2.2.1.length:Int) j s=some (if(hP (s.2.2.1.drop j) j last).1=0 then .inr () else .inl (hP (s.2.2.1.drop j) j last)):=by
 intro m
 induction m with
 |zero=>
  intro j k last hj hk h0 h1
  obtain⟨k,rfl⟩:∃k',k=k'+1:=⟨k-1,by omega⟩
  rw[BB,QV,zF (by omega),List.drop_eq_nil_of_le (by omega)];rfl
 |succ m ih=>
  intro j k last hj hk h0 h1
  obtain⟨k,rfl⟩:∃k',k=k'+1:=⟨k-1,by omega⟩
  have aq:j<s.2.2.1.length:=by omega
  have ihj:=ih (j+1) k (s.2.2.1[j]).1 (by omega) (by omega) (by omega) (fun _=>by
   rw[Nat.add_sub_cancel,List.getD_eq_getElem?_getD,List.getElem?_eq_getElem aq];rfl)
  rw[BB,QV,zT (by omega),zC,zh aq,agM aq,PS,zc,zr (by omega),List.drop_eq_getElem_cons aq]
  rw[show((j+1:Nat):Int)=(j:Int)+1 from rfl] at ihj⊢
  by_cases hc:bM s.2.2.1[j]=0
  ·rw[zT hc]
   simp only[Bool.not_true,zD]
   have nJ:=TG hc
   by_cases hz:j=0
   ·have m8:=h0 hz
    have e:hP (s.2.2.1[j]::s.2.2.1.drop (j+1)) j last=hP (s.2.2.1.drop (j+1)) ((j:Int)+1) (s.2.2.1[j]).1:=by
     rw[hP,if_neg (fun h=>h hc),if_neg (by omega)]
    rw[zF (by omega),zD,e]
    exact ihj
   ·have m8:=h1 (by omega)
    have hi:zW zI ((j:Int)-1)=((j-1:Nat):Int):=by rw[zj (by omega) (by omega)];omega
    rw[zT (by omega),zC,hi,zh (by omega),Int.toNat_natCast]
    by_cases hn:(s.2.2.1[j]).1<=last
    ·have e:hP (s.2.2.1[j]::s.2.2.1.drop (j+1)) j last=(11,(j:Int)):=by
      rw[hP,if_neg (fun h=>h hc),if_pos hn]
     rw[e,zT (by rw[<-m8];exact hn)];rfl
    ·have e:hP (s.2.2.1[j]::s.2.2.1.drop (j+1)) j last=hP (s.2.2.1.drop (j+1)) ((j:Int)+1) (s.2.2.1[j]).1:=by
      rw[hP,if_neg (fun h=>h hc),if_neg hn]
     rw[e,zF (by rw[<-m8];exact hn)]
     exact ihj
  ·have e:hP (s.2.2.1[j]::s.2.2.1.drop (j+1)) j last=(bM s.2.2.1[j],(j:Int)):=by
    rw[hP,if_pos hc]
   rw[zF hc,e,if_neg hc];rfl
theorem Qb(s:zg)(hl:s.2.2.1.length<=maxLen):mL s=some (hM s):=by
 rw[zi] at hl
 unfold mL Ho hM
 have hx:=L6 s.2.2.1 0 0
 have CA:=gV s hl s.2.2.1.length 0 ag 0 (by omega) (by rw[zu];omega) (fun _=>rfl) (fun h=>absurd h (by omega))
 rw[List.drop_zero,show((0:Nat):Int)=0 from rfl] at CA
 have um:(BB ag s.2.2.1 (s.2.2.1.length:Int) 0 s).bind (fun e=>Sum.elim (fun(we:Int×Int)=>VB we.1 we.2 fun a0 a1=>some (a0,a1)) (fun(we:Unit)=>VC fun a0 a1=>some (a0,a1)) e)=some (hP s.2.2.1 0 0):=by
  rw[CA,zc];exact hx
 dsimp only
 rw[um]
 by_cases h1:s.1=1
 ·rw[zT h1,if_neg (by omega)]
  by_cases h2:s.2.1<0
  ·rw[zT h2,if_pos (.inl h2)];rfl
  ·rw[zF h2]
   by_cases h3:9<s.2.1
   ·rw[zT h3,if_pos (.inr h3)];rfl
   ·rw[zF h3,if_neg (by omega)];rfl
 ·rw[zF h1]
  by_cases h0:s.1=2
  ·rw[zT h0,if_neg (by omega)]
   by_cases h2:s.2.1<0
   ·rw[zT h2,if_pos (.inl h2)];rfl
   ·rw[zF h2]
    by_cases h3:9<s.2.1
    ·rw[zT h3,if_pos (.inr h3)];rfl
    ·rw[zF h3,if_neg (by omega)];rfl
  ·rw[zF h0,if_pos (by omega)];rfl
def gf(l:List Spec)(no:Int):Option Spec:=l.find? fun x=>decide (x.1=no)
def ff:List Spec->Int->Int->Int
 | [],_,_=> -1
 |x::r,no,i=>if x.1=no then i else ff r no (i+1)
theorem alc(s:zg)(no:Int)(hl:s.2.2.1.length<=maxLen):fS s no=some (match gf s.2.2.1 no with|some x=>(x,true)|none=>(de,false)):=by
 unfold fS VE gf
 dsimp only
 have h:=cw de s.2.2.1 hl (fun i x (_:Unit) K=>bif decide (x.1=no) then some (Sum.inl (true,x)) else K ()) (fun _=>some (.inr de)) (fun k i _=>QW k no s.2.2.1 (s.2.2.1.length:Int) i de) (fun k i _=>rfl) ()
 rw[h,]
 clear h hl
 generalize(0:Int)=i
 generalize s.2.2.1=l
 induction l generalizing i with
 |nil=>rfl
 |cons x r ih=>
  rw[bk,List.find?_cons]
  cases hx:decide (x.1=no) with
  |true=>rfl
  |false=>exact ih (i+1)
theorem adM(l:List Spec)(no:Int):∀i:Int,0<=i->(ff l no i= -1/\gf l no=none)\/(i<=ff l no i/\ff l no i<i+l.length/\∃x,gf l no=some x/\l.getD (ff l no i-i).toNat de=x):=by
 induction l with
 |nil=>intro i hi;left;exact⟨rfl,rfl⟩
 |cons x r ih=>
  intro i hi
  unfold ff gf
  by_cases h:x.1=no
  ·right
   rw[if_pos h,List.find?_cons,zT h]
   refine⟨by omega,by simp;omega,x,rfl,by simp⟩
  ·rw[if_neg h,List.find?_cons,zF h]
   rcases ih (i+1) (by omega) with⟨h1,h2⟩|⟨h1,h2,y,h3,h4⟩
   ·left;exact⟨h1,h2⟩
   ·right
    refine⟨by omega,by simp;omega,y,h3,?_⟩
    have:(ff r no (i+1)-i).toNat=(ff r no (i+1)-(i+1)).toNat+1:=by omega
    rw[this]
    simpa using h4
theorem S7(s:zg)(no:Int)(hl:s.2.2.1.length<=maxLen):yN s no=some (ff s.2.2.1 no 0):=by
 unfold yN YJ
 dsimp only
 have h:=cw de s.2.2.1 hl (fun i x (_:Unit) K=>bif decide (x.1=no) then some (Sum.inl i) else K ()) (fun _=>some (.inr ())) (fun k i _=>RN k no i s) (fun k i _=>rfl) ()
 rw[h]
 clear h hl
 generalize(0:Int)=i
 generalize s.2.2.1=l
 induction l generalizing i with
 |nil=>rfl
 |cons x r ih=>
  rw[bk,ff]
  by_cases hx:x.1=no
  ·rw[zT hx,if_pos hx];rfl
  ·rw[zF hx,if_neg hx];exact ih (i+1)
theorem Mf(n:Int):b8 0 0 n=false:=by unfold b8;simp
theorem ad1{a b:zg}:a=b↔a.1=b.1/\a.2.1=b.2.1/\a.2.2.1=b.2.2.1:=by
 obtain⟨x,y,z,u⟩:=a
 obtain⟨x',y',z',u'⟩:=b
 simp
instance:DecidableEq zg:=fun a b=>decidable_of_iff _ ad1.symm
theorem aeg(s:zg)(h:s.2.2.1.length<=1000000):I3 s=some s:=by
 unfold I3 YH
 rw[zT (by simp;omega)];rfl
def Hb(l:List Spec)(last:Int):Prop:=(∀x∈l,bM x=0)/\(l.Pairwise fun x y=>x.1<y.1)/\∀x∈l,last<x.1
theorem ahs(l:List Spec):∀(i last:Int),(hP l i last).1=0↔Hb l last:=by
 induction l with
 |nil=>intro i last;simp [hP,Hb]
 |cons x r ih=>
  intro i last
  unfold hP
  by_cases hc:bM x=0
  ·rw[if_neg (fun h=>h hc)]
   by_cases hn:x.1<=last
   ·rw[if_pos hn]
    constructor
    ·intro h;cases h
    ·intro⟨_,_,h3⟩;have:=h3 x (by simp);omega
   ·rw[if_neg hn,ih]
    constructor
    ·intro⟨h1,h2,h3⟩
     refine⟨fun y hy=> ?_,List.pairwise_cons.2 ⟨h3,h2⟩,fun y hy=> ?_⟩
     ·rcases List.mem_cons.1 hy with rfl|hy
      ·exact hc
      ·exact h1 y hy
     ·rcases List.mem_cons.1 hy with rfl|hy
      ·omega
      ·have:=h3 y hy;omega
    ·intro⟨h1,h2,h3⟩
     obtain⟨h4,h5⟩:=List.pairwise_cons.1 h2
     exact⟨fun y hy=>h1 y (by simp [hy]),h5,h4⟩
  ·rw[if_pos hc]
   constructor
   ·intro h;exact absurd h hc
   ·intro⟨h1,_,_⟩;exact absurd (h1 x (by simp)) hc
def iL(s:zg):Prop:=(s.1=1\/s.1=2)/\0<=s.2.1/\s.2.1<=9/\Hb s.2.2.1 0
theorem Bp(s:zg):(hM s).1=0↔iL s:=by
 unfold hM iL
 by_cases h1:s.1=1\/s.1=2
 ·rw[if_neg (fun h=>h h1)]
  by_cases h2:s.2.1<0\/9<s.2.1
  ·rw[if_pos h2]
   constructor
   ·intro h;cases h
   ·intro⟨_,a,b,_⟩;omega
  ·rw[if_neg h2,ahs]
   constructor
   ·intro h;exact⟨h1,by omega,by omega,h⟩
   ·intro⟨_,_,_,h⟩;exact h
 ·rw[if_pos h1]
  constructor
  ·intro h;cases h
  ·intro⟨a,_⟩;exact absurd a h1
theorem Hb.filter{l:List Spec}{last:Int}(h:Hb l last)(p:Spec->Bool):Hb (l.filter p) last:=
 ⟨fun x hx=>h.1 x (List.mem_filter.1 hx).1,h.2.1.filter p,fun x hx=>h.2.2 x (List.mem_filter.1 hx).1⟩
theorem zdm(s:zg)(hl:s.2.2.1.length<=maxLen):BX s=some (decide ((hM s).1=0)):=by
 unfold BX YK
 rw[ac5 s hl,zc]
abbrev bA:=ByteArray×ByteArray×Unit
def jm:bA:=(bs [],bs [],())
instance aap (a:ByteArray) (l:List ByteArray):Decidable (a∈l):=decidable_of_iff (l.any (fun x=>decide (a=x))=true) (by
 rw[List.any_eq_true]
 exact⟨fun⟨x,hx,h⟩=>of_decide_eq_true h▸hx,fun h=>⟨a,h,zT rfl⟩⟩)
def Ce(r:Int):Sum Int Unit:=if r= -1 then .inr () else .inl r
theorem DL(j:Nat):Ce (j:Int)= .inl (j:Int):=if_neg (by omega)
def dQ{K:Type}(l:List K):List (K×Bool):=l.map fun k=>(k,true)
theorem Tk{K:Type}[DecidableEq K](eq:K->K->Bool)(heq:∀x y,eq x y=decide (x=y))(k:K):∀l:List K,fg eq false (dQ l) k=true↔k∈l
 | []=>by simp [dQ,fg]
 |x::l=>by
  simp only[dQ,List.map_cons,fg,heq]
  by_cases h:k=x
  ·rw[zT h,zC];exact⟨fun _=>by rw[h];exact List.mem_cons_self,fun _=>rfl⟩
  ·rw[zF h,zD]
   have:=Tk eq heq k l
   simp only[dQ] at this
   rw[this]
   exact⟨fun h'=>List.mem_cons_of_mem _ h',fun h'=>(List.mem_cons.1 h').resolve_left h⟩
theorem Tl{K:Type}[DecidableEq K](eq:K->K->Bool)(heq:∀x y,eq x y=decide (x=y))(k:K):∀l:List K,fh eq (dQ l) k=true↔k∈l
 | []=>by simp [dQ,fh]
 |x::l=>by
  simp only[dQ,List.map_cons,fh,heq]
  by_cases h:k=x
  ·rw[zT h,zC];exact⟨fun _=>by rw[h];exact List.mem_cons_self,fun _=>rfl⟩
  ·rw[zF h,zD]
   have:=Tl eq heq k l
   simp only[dQ] at this
   rw[this]
   exact⟨fun h'=>List.mem_cons_of_mem _ h',fun h'=>(List.mem_cons.1 h').resolve_left h⟩
theorem Fm{b:Bool}{p:Prop}(h:b=true↔p)(hp:¬p):b=false:=by cases b with
 |false=>rfl
 |true=>exact absurd (h.1 rfl) hp
theorem za0{K:Type}(l:List K)(k:K):dQ l++ [(k,true)]=dQ (l++ [k]):=by simp [dQ]
def jz:List ByteArray->List bA->Int->Option Int
 |_,[],_=>none
 |seen,p::r,i=>if p.1∈seen then some i else jz (seen++ [p.1]) r (i+1)
def BN(l:List bA):Int×Int:=if 256<l.length then(5,256) else match jz [] l 0 with
 |some i=>(10,i)
 |none=>(0,0)
def xj(o:Option Int):Option (Sum (Int×Int) Unit):=some (match o with
 |some i=> .inl (10,i)
 |none=> .inr ())
theorem abN(l:List bA):∀(i:Int) (seen:List ByteArray),
 bk (fun i (x:bA) (s:List jK) K=>bif fg (gd .str) false s x.1 then some (Sum.inl ((10:Int),i)) else bif fh (gd .str) s x.1 then none else K (s++ [(x.1,true)])) (fun _=>some (Sum.inr ())) l i (dQ seen)=xj (jz seen l i):=by
 induction l with
 |nil=>intro i seen;rfl
 |cons p r ih=>
  intro i seen
  simp only[bk,jz]
  have e1:=Tk (gd .str) (fun _ _=>rfl) p.1 seen
  have e2:=Tl (gd .str) (fun _ _=>rfl) p.1 seen
  by_cases h:p.1∈seen
  ·rw[e1.2 h,if_pos h];rfl
  ·rw[Fm e1 h,Fm e2 h,if_neg h,zD,zD,za0]
   exact ih (i+1) (seen++ [p.1])
theorem abS(l:List bA)(h:l.length<=maxLen):H8 l=some (BN l):=by
 unfold H8 XB BN
 dsimp only
 by_cases hl:256<l.length
 ·rw[zT (by omega),zC,if_pos hl]
 ·rw[zF (by omega),zD,if_neg hl]
  have:=cw jm l h (fun i (x:bA) (s:List jK) K=>bif fg (gd .str) false s x.1 then some (Sum.inl ((10:Int),i)) else bif fh (gd .str) s x.1 then none else K (s++ [(x.1,true)])) (fun _=>some (Sum.inr ()))
   (fun k i s=>Rx k l (l.length:Int) i s) (fun k i s=>rfl) []
  rw[this]
  have h2:=abN l 0 []
  rw[show dQ ([]:List ByteArray)=[] from rfl] at h2
  rw[h2]
  unfold xj
  cases jz [] l 0<;>rfl
def hD:List bA->ByteArray->Int->Int
 | [],_,_=> -1
 |p::r,f,i=>if p.1=f then i else hD r f (i+1)
theorem zoo(l:List bA)(hl:l.length<=9223372036854775807)(n:Nat)(hn:n<=l.length)(f:ByteArray):∀(m j k:Nat),j+m=n->m<k->Fz k l (n:Int) f (j:Int)=some (Ce (hD ((l.take n).drop j) f j))
 |m,j,0,_,hk=>by omega
 |0,j,k+1,hj,hk=>by
  have:j=n:=by omega
  subst this
  unfold Fz Qp
  rw[zF (by omega),List.drop_eq_nil_of_le (by rw[List.length_take];omega)]
  rfl
 |m+1,j,k+1,hj,hk=>by
  have aq:j<l.length:=by omega
  unfold Fz Qp
  rw[zT (by omega),zC,zh aq,Int.toNat_natCast]
  have hd:(l.take n).drop j=l[j]::(l.take n).drop (j+1):=by
   rw[List.drop_eq_getElem_cons (by simp;omega)]
   congr 1
   rw[List.getElem_take]
  have hg:∀d,l.getD j d=l[j]:=fun d=>by rw[List.getD_eq_getElem?_getD,List.getElem?_eq_getElem aq];rfl
  rw[hd]
  simp only[hg,hD]
  by_cases h:l[j].1=f
  ·rw[zT h,if_pos h,DL];rfl
  ·rw[zF h,if_neg h,zD,zr (by omega),zoo l hl n hn f m (j+1) k (by omega) (by omega)]
   rfl
theorem Ma(l:List bA)(hl:l.length<=maxLen)(n:Nat)(hn:n<=l.length)(f:ByteArray):qQ l (n:Int) f=some (hD (l.take n) f 0):=by
 rw[zi] at hl
 unfold qQ TQ
 dsimp only
 have:=zoo l hl n hn f n 0 ag (by omega) (by rw[zu];omega)
 rw[show((0:Nat):Int)=(0:Int) from rfl,List.drop_zero] at this
 rw[this,Option.bind_some]
 unfold Ce
 by_cases h:hD (l.take n) f 0= -1
 ·rw[if_pos h,h];rfl
 ·rw[if_neg h];rfl
theorem z139(f:ByteArray):∀(l:List bA) (i:Int),0<=i->(0<=hD l f i↔f∈l.map fun p=>p.1)
 | [],i,_=>by simp [hD]
 |p::r,i,hi=>by
  simp only[hD,List.map_cons,List.mem_cons]
  by_cases h:p.1=f
  ·rw[if_pos h];exact⟨fun _=> .inl h.symm,fun _=>hi⟩
  ·rw[if_neg h,z139 f r (i+1) (by omega)]
   exact⟨.inr,fun h'=>h'.resolve_left (fun e=>h e.symm)⟩
theorem zi3(l:List bA)(hl:l.length<=256):∀(m j k:Nat),j+m=l.length->m<k->Fy k l (j:Int)=xj (jz ((l.take j).map fun p=>p.1) (l.drop j) j)
 |m,j,0,_,hk=>by omega
 |0,j,k+1,hj,hk=>by
  unfold Fy Qo
  rw[zF (by omega),List.drop_eq_nil_of_le (by omega)]
  rfl
 |m+1,j,k+1,hj,hk=>by
  have aq:j<l.length:=by omega
  unfold Fy Qo
  have hg:∀d,l.getD j d=l[j]:=fun d=>by rw[List.getD_eq_getElem?_getD,List.getElem?_eq_getElem aq];rfl
  rw[zT (by omega),zC,zh aq,Int.toNat_natCast,hg,Ma l (by rw[zi];omega) j (by omega),Option.bind_some,List.drop_eq_getElem_cons aq]
  simp only[jz]
  have hm:=z139 l[j].1 (l.take j) 0 (Int.le_refl _)
  by_cases h:l[j].1∈(l.take j).map fun p=>p.1
  ·rw[zT (hm.2 h),if_pos h];rfl
  ·rw[zF (fun h'=>h (hm.1 h')),if_neg h,zD,zr (by omega),zi3 l hl m (j+1) k (by omega) (by omega)]
   congr 2
   rw[List.take_add_one,List.getElem?_eq_getElem aq,List.map_append]
   rfl
theorem ac6(l:List bA)(h:l.length<=maxLen):sO l=some (BN l):=by
 unfold sO TL BN
 dsimp only
 by_cases hl:256<l.length
 ·rw[zT (by omega),zC,if_pos hl]
 ·rw[zF (by omega),zD,if_neg hl]
  have:=zi3 l (by omega) l.length 0 ag (by omega) (by rw[zu];omega)
  rw[show((0:Nat):Int)=(0:Int) from rfl,List.take_zero,List.drop_zero] at this
  rw[this]
  unfold xj
  simp only[List.map_nil]
  cases jz [] l 0<;>rfl
def zx(l:List bA)(f:ByteArray):ByteArray×Bool:=match l.find? fun p=>decide (p.1=f) with
 |some p=>(p.2.1,true)
 |none=>(bs [],false)
theorem zcx(f:ByteArray)(l:List bA):∀(i:Int),bk (fun i (x:bA) (s:Unit) K=>bif decide (x.1=f) then some (Sum.inl (x.2.1,true)) else K s) (fun _=>some (Sum.inr ())) l i ()=some (match l.find? fun p=>decide (p.1=f) with
 |some p=> .inl (p.2.1,true)
 |none=> .inr ()):=by
 induction l with
 |nil=>intro i;rfl
 |cons p r ih=>
  intro i
  simp only[bk,List.find?_cons]
  by_cases h:p.1=f
  ·rw[zT h];rfl
  ·rw[zF h,zD];exact ih (i+1)
theorem abR(l:List bA)(f:ByteArray)(h:l.length<=maxLen):H7 l f=some (zx l f):=by
 unfold H7 Xw zx
 dsimp only
 have:=cw jm l h (fun i (x:bA) (s:Unit) K=>bif decide (x.1=f) then some (Sum.inl (x.2.1,true)) else K s) (fun _=>some (Sum.inr ()))
  (fun k i s=>Rw k f l (l.length:Int) i) (fun k i s=>rfl) ()
 rw[this,zcx]
 cases l.find? fun p=>decide (p.1=f)<;>rfl
theorem z138(f:ByteArray):∀(l:List bA) (i:Int),0<=i->(hD l f i= -1/\l.find? (fun p=>decide (p.1=f))=none)\/(i<=hD l f i/\hD l f i<i+l.length/\∃p,l.find? (fun p=>decide (p.1=f))=some p/\∀d,l.getD (hD l f i-i).toNat d=p)
 | [],i,_=> .inl ⟨rfl,rfl⟩
 |p::r,i,hi=>by
  simp only[hD,List.find?_cons,List.length_cons]
  by_cases h:p.1=f
  ·rw[if_pos h,zT h]
   exact .inr ⟨Int.le_refl _,by omega,p,rfl,fun d=>by simp⟩
  ·rw[if_neg h,zF h]
   rcases z138 f r (i+1) (by omega) with⟨h1,h2⟩|⟨h1,h2,q,h3,h4⟩
   ·exact .inl ⟨h1,h2⟩
   ·refine .inr ⟨by omega,by omega,q,h3,fun d=> ?_⟩
    have:=h4 d
    rw[show(hD r f (i+1)-i).toNat=(hD r f (i+1)-(i+1)).toNat+1 by omega,List.getD_cons_succ]
    exact this
theorem ac4(l:List bA)(f:ByteArray)(h:l.length<=maxLen):sN l f=some (zx l f):=by
 unfold sN TJ zx
 dsimp only
 rw[Ma l h l.length (Nat.le_refl _),List.take_length,Option.bind_some]
 rcases z138 f l 0 (Int.le_refl _) with⟨h1,h2⟩|⟨h1,h2,p,h3,h4⟩
 ·rw[h1,h2];rfl
 ·rw[zF (by omega),zD,zn h1 (by omega),h3]
  have:=h4 ((bs []),(bs []),())
  rw[Int.sub_zero] at this
  rw[this]
def lI(l:List bA):List bA:=l.map fun p=>(p.2.1,p.1,())
theorem ahC(l:List bA):(lI l).length=l.length:=by simp [lI]
theorem Lw(l:List bA)(h:l.length<=1000000):qP l=some l:=by
 unfold qP TM
 rw[zT (by simp;omega),zC,List.nil_append]
def jN(c b:Int):Bool:=
 if c=1 then decide (48<=b/\b<=57)
 else if c=2 then decide (65<=b/\b<=90\/97<=b/\b<=122)
 else if c=3 then decide (48<=b/\b<=57\/65<=b/\b<=90\/97<=b/\b<=122)
 else if c=4 then decide (32<=b/\b<=126)
 else decide (c=5\/c=6)
def iG(c:Int):Int:=if c=1 then 1 else if c=2 then 2 else if c=3 then 3 else if c=4 then 7 else if c=5 then 15 else if c=6 then 15 else 0
theorem aoT:∀c:Fin 7,∀b:Fin 256,yF (c.1:Int) (b.1:Int)=some (jN (c.1:Int) (b.1:Int)):=by decide+kernel
theorem PH:∀c:Fin 7,∀b:Fin 256,(BT (b.1:Int)).map (fun r=>decide (aQ .and .i64 (iG (c.1:Int)) r=0))=some (!jN (c.1:Int) (b.1:Int)):=by decide+kernel
theorem LM(c:Int):(∃k:Fin 7,c=(k.1:Int))\/(c≠1/\c≠2/\c≠3/\c≠4/\c≠5/\c≠6):=by
 by_cases h:0<=c/\c<=6
 ·exact .inl ⟨⟨c.toNat,by omega⟩,by simp;omega⟩
 ·exact .inr ⟨by omega,by omega,by omega,by omega,by omega,by omega⟩
theorem mC{b:Int}(h:zm b):∃k:Fin 256,b=(k.1:Int):=by
 unfold zm at h
 exact⟨⟨b.toNat,by omega⟩,by simp;omega⟩
theorem alf(c:Int){b:Int}(hb:zm b):yF c b=some (jN c b):=by
 obtain⟨b,rfl⟩:=mC hb
 rcases LM c with⟨k,rfl⟩|⟨h1,h2,h3,h4,h5,h6⟩
 ·exact aoT k b
 ·unfold yF Yu jN
  simp only[h1,h2,h3,h4,h5,h6,decide_false,zD,if_false,or_self,Bool.cond_self]
theorem ag7(c:Int){b:Int}(hb:zm b):∃r,BT b=some r/\decide (aQ .and .i64 (iG c) r=0)= !jN c b:=by
 obtain⟨b,rfl⟩:=mC hb
 rcases LM c with⟨k,rfl⟩|⟨h1,h2,h3,h4,h5,h6⟩
 ·have:=PH k b
  cases hc:BT (b.1:Int) with
  |none=>rw[hc] at this;cases this
  |some r=>rw[hc] at this;exact⟨r,rfl,by simpa using this⟩
 ·have:=PH 0 b
  cases hc:BT (b.1:Int) with
  |none=>rw[hc] at this;cases this
  |some r=>
   rw[hc] at this
   refine⟨r,rfl,?_⟩
   have e1:iG c=iG ((0:Fin 7).1:Int):=by unfold iG;simp [h1,h2,h3,h4,h5,h6]
   have e2:jN c (b.1:Int)=jN ((0:Fin 7).1:Int) (b.1:Int):=by unfold jN;simp [h1,h2,h3,h4,h5,h6]
   rw[e1,e2]
   simpa using this
def qN(c:Int):List Int->Int->Int
 | [],_=> -1
 |b::r,i=>if jN c b=true then qN c r (i+1) else i
theorem zor(c:Int):∀(l:List Int) (i:Int),0<=i->(0<=qN c l i↔¬l.all (jN c)=true)
 | [],i,_=>by simp [qN]
 |b::r,i,hi=>by
  simp only[qN,List.all_cons]
  cases h:jN c b with
  |true=>rw[if_pos rfl,zor c r (i+1) (by omega),Bool.true_and]
  |false=>simp [hi]
theorem zvf(c:Int)(s:ByteArray)(hs:s.size<=9223372036854775807):∀(n j k:Nat),j+n=s.size->n<k->F2 k s (iG c) (j:Int)=some (Ce (qN c ((bl s).drop j) j))
 |n,j,0,_,hk=>by omega
 |0,j,k+1,hj,hk=>by
  unfold F2 Rv
  rw[zF (by omega),List.drop_eq_nil_of_le (by rw[zf];omega)];rfl
 |n+1,j,k+1,hj,hk=>by
  have aq:j<s.size:=by omega
  have hl:j<(bl s).length:=by rw[zf];exact aq
  have hb:zm ((bl s)[j]):=jI (List.getElem_mem hl)
  have hg:(bl s).getD j 0=(bl s)[j]:=by rw[List.getD_eq_getElem?_getD,List.getElem?_eq_getElem hl];rfl
  unfold F2 Rv
  rw[zT (by omega),zC,zh aq,Int.toNat_natCast,lK,hg,List.drop_eq_getElem_cons hl]
  obtain⟨r,h1,h2⟩:=ag7 c hb
  rw[h1,Option.bind_some,h2]
  simp only[qN]
  cases h:jN c (bl s)[j] with
  |true=>rw[if_pos rfl,Bool.not_true,zD,zr (by omega),zvf c s hs n (j+1) k (by omega) (by omega)];rfl
  |false=>rw[if_neg (by simp),Bool.not_false,zC,DL]
theorem ahV(c:Int)(s:ByteArray)(h:s.size<=maxLen):HZ c s=some (qN c (bl s) 0):=by
 rw[zi] at h
 unfold HZ Xc
 dsimp only
 rw[WE,Option.bind_some]
 have:=zvf c s h s.size 0 ag (by omega) (by rw[zu];omega)
 rw[show((0:Nat):Int)=(0:Int) from rfl,List.drop_zero] at this
 rw[show(if c=1 then 1 else if c=2 then 2 else if c=3 then 3 else if c=4 then 7 else if c=5 then 15 else if c=6 then 15 else 0:Int)=iG c from rfl,this,Option.bind_some]
 unfold Ce
 by_cases h:qN c (bl s) 0= -1
 ·rw[if_pos h,h];rfl
 ·rw[if_neg h];rfl
theorem zij(c:Int)(s:ByteArray)(hs:s.size<=9223372036854775807):∀(n j k:Nat),j+n=s.size->n<k->F9 k c s (j:Int)=some (Ce (qN c ((bl s).drop j) j))
 |n,j,0,_,hk=>by omega
 |0,j,k+1,hj,hk=>by
  unfold F9 RF
  rw[zF (by omega),List.drop_eq_nil_of_le (by rw[zf];omega)];rfl
 |n+1,j,k+1,hj,hk=>by
  have aq:j<s.size:=by omega
  have hl:j<(bl s).length:=by rw[zf];exact aq
  have hb:zm ((bl s)[j]):=jI (List.getElem_mem hl)
  have hg:(bl s).getD j 0=(bl s)[j]:=by rw[List.getD_eq_getElem?_getD,List.getElem?_eq_getElem hl];rfl
  unfold F9 RF
  rw[zT (by omega),zC,zh aq,Int.toNat_natCast,lK,hg,List.drop_eq_getElem_cons hl,alf c hb,Option.bind_some]
  simp only[qN]
  cases h:jN c (bl s)[j] with
  |true=>rw[if_pos rfl,Bool.not_true,zD,zr (by omega),zij c s hs n (j+1) k (by omega) (by omega)];rfl
  |false=>rw[if_neg (by simp),Bool.not_false,zC,DL]
theorem zdf(c:Int)(s:ByteArray)(h:s.size<=maxLen):IL c s=some (qN c (bl s) 0):=by
 rw[zi] at h
 unfold IL Yt
 dsimp only
 have:=zij c s h s.size 0 ag (by omega) (by rw[zu];omega)
 rw[show((0:Nat):Int)=(0:Int) from rfl,List.drop_zero] at this
 rw[this,Option.bind_some]
 unfold Ce
 by_cases h:qN c (bl s) 0= -1
 ·rw[if_pos h,h];rfl
 ·rw[if_neg h];rfl
def yr(a b:Int):Bool:=decide (1<=a/\a<=6/\1<=b/\b<=6)&&decide (aQ .andNot .i64 (iG b) (iG a)=0)
theorem ajF(a b:Int):H2 a b=some (yr a b):=by
 unfold H2 Xj yr
 rw[zpe,Option.bind_some]
 by_cases ha:1<=a/\a<=6
 ·rw[zT ha,zC,zpe,Option.bind_some]
  by_cases hb:1<=b/\b<=6
  ·rw[zT hb,zC,WE,Option.bind_some,WE,Option.bind_some,zT (show 1<=a/\a<=6/\1<=b/\b<=6 from⟨ha.1,ha.2,hb.1,hb.2⟩),Bool.true_and]
   rfl
  ·rw[zF hb,zD,zF (fun h=>hb h.2.2)];rfl
 ·rw[zF ha,zD,zF (fun h=>ha ⟨h.1,h.2.1⟩)];rfl
theorem ahO:∀a b:Fin 7,Gn (a.1:Int) (b.1:Int)=some (yr (a.1:Int) (b.1:Int)):=by decide+kernel
theorem YT{c:Int}(h:1<=c/\c<=6):∃k:Fin 7,c=(k.1:Int):=⟨⟨c.toNat,by omega⟩,by simp;omega⟩
theorem zdn(a b:Int):Gn a b=some (yr a b):=by
 by_cases h:(1<=a/\a<=6)/\(1<=b/\b<=6)
 ·obtain⟨k,rfl⟩:=YT h.1
  obtain⟨m,rfl⟩:=YT h.2
  exact ahO k m
 ·unfold Gn Yx yr
  rw[show decide (1<=a/\a<=6/\1<=b/\b<=6)=false from zF (fun h'=>h ⟨⟨h'.1,h'.2.1⟩,h'.2.2⟩),Bool.false_and]
  by_cases h1:a<1
  ·rw[zT h1];rfl
  ·by_cases h2:(6:Int)<a
   ·rw[zF h1,zT h2];rfl
   ·by_cases h3:b<1
    ·rw[zF h1,zF h2,zT h3];rfl
    ·have h4:(6:Int)<b:=by omega
     rw[zF h1,zF h2,zF h3,zT h4];rfl
theorem u7(s:ByteArray)(i:Nat):zm (ze s i):=by
 rw[lK]
 exact Fj (fun x hx=>jI hx) i
theorem z130:∀b:Fin 256,n7 (b.1:Int)=some (decide (yH (b.1:Int)≠some 0)):=by decide+kernel
theorem ze2:∀b:Fin 256,yH (b.1:Int)=some 0\/(yH (b.1:Int)=some 1/\decide (aQ .and .i64 (b.1:Int) 31=31)=false)\/(yH (b.1:Int)=some 2/\decide (aQ .and .i64 (b.1:Int) 31=31)=true):=by decide+kernel
theorem aoI(x y:Nat)(hx:x<256)(hy:y<256):aQ .and .i64 (((x:Int)*256)+(y:Int)) 255=(y:Int):=by
 have:((x:Int)*256+(y:Int))=((x*256+y:Nat):Int):=by omega
 rw[this,show(255:Int)=((255:Nat):Int) from rfl,amH (by omega) (by omega)]
 congr 1
 rw[show(255:Nat)=2^8-1 from rfl,Nat.and_two_pow_sub_one_eq_mod]
 omega
theorem abM(x y:Nat)(hx:x<256)(hy:y<256):Int.fdiv ((x:Int)*256+(y:Int)) (2^min ((8:Int)).toNat 64)=(x:Int):=by
 have:((x:Int)*256+(y:Int))=((x*256+y:Nat):Int):=by omega
 rw[this,show(8:Int)=((8:Nat):Int) from rfl,Qg _ 8 (by omega)]
 congr 1
 omega
theorem ahl(x:Fin 256)(hx:yH (x.1:Int)=some 2)(y:Fin 256):tG ((x.1:Int)*256+(y.1:Int))=some (decide (1<=(y.1:Int)/\(y.1:Int)<=127)):=by
 have hx0:x.1≠0:=fun e=>by
  have:x=0:=Fin.ext e
  subst this
  revert hx
  decide+kernel
 have Cg:decide (aQ .and .i64 (x.1:Int) 31=31)=true:=by
  rcases ze2 x with h|⟨h,_⟩|⟨_,h⟩
  ·rw[h] at hx;cases hx
  ·rw[h] at hx;cases hx
  ·exact h
 have hf:n7 (x.1:Int)=some true:=by rw[z130 x,hx];rfl
 unfold tG V4
 rw[abM x.1 y.1 x.2 y.2,aoI x.1 y.1 x.2 y.2,zF (by have:=x.2;have:=y.2;omega),zD,zT (by have:=x.2;have:=y.2;omega),zC,hf,Option.bind_some,zC,Cg,zC]
 by_cases h1:(1:Int)<=(y.1:Int)
 ·rw[zT h1,zC]
  congr 1
  exact decide_eq_decide.2 ⟨fun h=>⟨h1,h⟩,fun h=>h.2⟩
 ·rw[zF h1,zD]
  congr 1
  exact(zF fun h=>h1 h.1).symm
theorem ahx(s:ByteArray)(hs:s.size<=9223372036854775000)(a:Int):tF s a=yI s a:=by
 unfold tF V3 yI RH
 by_cases h1:a<0
 ·rw[zT h1];rfl
 rw[zF h1,zD,zD]
 by_cases h2:(s.size:Int)<a
 ·rw[zT h2];rfl
 rw[zF h2,zD,zD]
 by_cases h3:a=(s.size:Int)
 ·rw[zT h3];rfl
 have wa:∀{R:Type} (x:Option R),zd a s.size x=x:=fun x=>zn (by omega) (by omega)
 rw[zF h3,zD,zD]
 simp only[wa]
 obtain⟨x,hx⟩:=mC (u7 s a.toNat)
 obtain⟨y,hy⟩:=mC (u7 s (zW zI (a+1)).toNat)
 have AV:=x.2
 have Sy:=y.2
 have ob:=zr5 (u7 s a.toNat) (u7 s (zW zI (a+1)).toNat)
 rw[hx,hy] at ob
 have w1:zW zI (a+1)=a+1:=zj (by omega) (by omega)
 have w2:zW zI (x.1:Int)=(x.1:Int):=zj (by omega) (by omega)
 have w3:zW zI (y.1:Int)=(y.1:Int):=zj (by omega) (by omega)
 have w4:zW zI ((s.size:Int)-a)=(s.size:Int)-a:=zj (by omega) (by omega)
 rw[hx,hy,w2,z130 x,Option.bind_some]
 rw[w2] at ob
 rcases ze2 x with h|⟨h,Cg⟩|⟨h,Cg⟩
 ·rw[h];rfl
 ·rw[h,Option.bind_some,Cg];rfl
 ·rw[h,Option.bind_some,Cg,ob,ahl x h y,Option.bind_some,w1,w4,w3]
  by_cases h4:a+1=(s.size:Int)
  ·rw[zT h4,zT (by omega:(s.size:Int)-a<2)];rfl
  ·have w5:zW zI (256*(x.1:Int))=256*(x.1:Int):=zj (by omega) (by omega)
   have w6:zW zI (256*(x.1:Int)+(y.1:Int))=(x.1:Int)*256+(y.1:Int):=by rw[zj (by omega) (by omega)];omega
   rw[zF h4,zF (by omega:¬(s.size:Int)-a<2),w5,w6]
   have wb:∀{R:Type} (x:Option R),zd (a+1) s.size x=x:=fun x=>zn (by omega) (by omega)
   simp only[wb]
   by_cases h5:(y.1:Int)=0
   ·rw[zT h5,zF (by omega:¬(1<=(y.1:Int)/\(y.1:Int)<=127))];rfl
   ·by_cases h6:(127:Int)<(y.1:Int)
    ·rw[zF h5,zT h6,zF (by omega:¬(1<=(y.1:Int)/\(y.1:Int)<=127))];rfl
    ·rw[zF h5,zF h6,zT (by omega:1<=(y.1:Int)/\(y.1:Int)<=127)];rfl
def cN(b:Int):Int:=if 48<=b/\b<=57 then b-48 else if 65<=b/\b<=70 then b-55 else-1
def iv(d:Int):Int:=if d<10 then 48+d else 55+d
def fJ:List Int->List Int
 | []=>[]
 |x::r=>iv (x/16)::iv (x % 16)::fJ r
def gH:List Int->List Int
 |a::b::r=>(16*cN a+cN b)::gH r
 |_=>[]
def jy:List Int->Int->Option Int
 | [],_=>none
 |a::r,i=>if cN a<0 then some i else jy r (i+1)
def nQ(s:ByteArray):ByteArray×Int×Bool:=match jy (bl s) 0 with
 |some i=>(bs [],i,false)
 |none=>if s.size % 2=1 then(bs [],(s.size:Int),false) else(strOf (gH (bl s)),0,true)
def sJ(s:ByteArray):ByteArray:=strOf (fJ (bl s))
abbrev R4:ByteArray:=bs [48,49,50,51,52,53,54,55,56,57,65,66,67,68,69,70]
theorem aoM:∀b:Fin 256,s8 (b.1:Int)=some (if cN (b.1:Int)<0 then((0:Int),false) else(cN (b.1:Int),true)):=by decide+kernel
theorem akl:∀b:Fin 256,cN (b.1:Int)<16/\(cN (b.1:Int)<0\/0<=cN (b.1:Int)):=by decide+kernel
theorem WC:∀b:Fin 256,Int.fdiv (b.1:Int) (2^min ((4:Int)).toNat 8)=((b.1/16:Nat):Int)/\aQ .and .u8 (b.1:Int) (15:Int)=((b.1 % 16:Nat):Int)/\zW zU (Int.tdiv (b.1:Int) (16:Int))=((b.1/16:Nat):Int)/\Int.tmod (b.1:Int) (16:Int)=((b.1 % 16:Nat):Int):=by decide+kernel
theorem OT:∀d:Fin 16,ze R4 d.1=iv (d.1:Int):=by decide+kernel
theorem akk:∀a b:Fin 16,zW zU (aQ .or .i64 (zW zI ((a.1:Int)*2^min ((4:Int)).toNat 64)) (b.1:Int))=16*(a.1:Int)+(b.1:Int)/\zW zU (zW zI (zW zI ((16:Int)*(a.1:Int))+(b.1:Int)))=16*(a.1:Int)+(b.1:Int):=by decide+kernel
theorem ZI{x y:Int}(h1:0<=x)(h2:x<16)(h3:0<=y)(h4:y<16):zW zU (aQ .or .i64 (zW zI (x*2^min ((4:Int)).toNat 64)) y)=16*x+y/\zW zU (zW zI (zW zI ((16:Int)*x)+y))=16*x+y:=by
 have:=akk ⟨x.toNat,by omega⟩ ⟨y.toNat,by omega⟩
 simpa [Int.toNat_of_nonneg h1,Int.toNat_of_nonneg h3] using this
theorem DM{b:Int}(h:zm b):cN b<16:=by
 obtain⟨k,rfl⟩:=mC h
 exact(akl k).1
theorem aj3{b:Int}(h:zm b):s8 b=some (if cN b<0 then((0:Int),false) else(cN b,true)):=by
 obtain⟨k,rfl⟩:=mC h
 exact aoM k
theorem MX:R4.size=16:=by decide
theorem nib{b:Int}(h:zm b):∃k:Fin 256,b=(k.1:Int)/\ze R4 (b.toNat/16)=iv (b/16)/\ze R4 (b.toNat % 16)=iv (b % 16):=by
 obtain⟨k,rfl⟩:=mC h
 have h1:=OT ⟨k.1/16,by omega⟩
 have h2:=OT ⟨k.1 % 16,by omega⟩
 exact⟨k,rfl,by simpa using h1,by simpa using h2⟩
theorem Rl{s:ByteArray}{j:Nat}(h:j<(bl s).length):ze s j=(bl s)[j]:=by rw[lK,List.getD_eq_getElem?_getD,List.getElem?_eq_getElem h];rfl
theorem zow(s:ByteArray)(hs:s.size<=1099511627776):∀(n j k:Nat) (o:List Int),j+n=s.size->n<k->o.length+2*n<=35184372088832->FM k s o (j:Int)=some (o++fJ ((bl s).drop j))
 |n,j,0,o,_,hk,_=>by omega
 |0,j,k+1,o,hj,hk,_=>by
  unfold FM QJ
  rw[zF (by omega),zD,List.drop_eq_nil_of_le (by rw[zf];omega),fJ,List.append_nil]
 |n+1,j,k+1,o,hj,hk,ho=>by
  have aq:j<s.size:=by omega
  have hl:j<(bl s).length:=by rw[zf];exact aq
  obtain⟨b,hb,n1,n2⟩:=nib (jI (List.getElem_mem hl))
  have kc:=b.2
  unfold FM QJ
  rw[zT (by omega),zC]
  simp only[Int.toNat_natCast,Rl hl,hb,(WC b).1,(WC b).2.1]
  rw[zh aq,zh (by rw[MX];omega),zh aq,zh (by rw[MX];omega),zT (by simp only[List.length_cons,List.length_nil];omega),zC]
  rw[hb] at n1 n2
  simp only[Int.toNat_natCast] at n1 n2
  rw[n1,n2,zr (by omega),zow s hs n (j+1) k _ (by omega) (by omega) (by rw[List.length_append];simp only[List.length_cons,List.length_nil];omega),List.drop_eq_getElem_cons hl,hb,fJ,List.append_assoc]
  rfl
theorem zvm(s:ByteArray)(hs:s.size<=1099511627776):jT s=some (sJ s):=by
 unfold jT UR
 rw[zj (by omega) (by omega),zT (by omega),zC,zT (by omega),zC]
 have:=zow s hs s.size 0 ag [] (by omega) (by rw[zu];omega) (by simp;omega)
 rw[show((0:Nat):Int)=0 from rfl,List.drop_zero,List.nil_append] at this
 dsimp only
 rw[this];rfl
def kL:List Int->Nat->List Int->Int->Sum Int (List Int)
 | [],_,o,_=> .inr o
 |a::r,i,o,high=>if cN a<0 then .inl i else if i % 2=0 then kL r (i+1) o (cN a) else kL r (i+1) (o++ [16*high+cN a]) high
theorem OM:∀(l:List Int) (i:Nat) (o:List Int) (high:Int),i % 2=0->kL l i o high=(match jy l i with
 |some q=> .inl q
 |none=> .inr (o++gH l))
 | [],i,o,high,h=>by simp [kL,jy,gH]
 | [a],i,o,high,h=>by
   rw[kL,jy]
   by_cases ha:cN a<0
   ·rw[if_pos ha,if_pos ha]
   ·rw[if_neg ha,if_neg ha,if_pos h]
    simp [kL,jy,gH]
 |a::b::r,i,o,high,h=>by
  rw[kL,jy]
  by_cases ha:cN a<0
  ·rw[if_pos ha,if_pos ha]
  ·rw[if_neg ha,if_neg ha,if_pos h,kL,jy]
   by_cases hb:cN b<0
   ·rw[if_pos hb,if_pos hb];rfl
   ·rw[if_neg hb,if_neg hb,if_neg (by omega),OM r (i+1+1) _ _ (by omega),gH,List.append_assoc]
    have:((i:Int)+1+1)=((i+1+1:Nat):Int):=by omega
    rw[this];rfl
theorem G9(j:Nat):Int.tmod (j:Int) (2:Int)=((j % 2:Nat):Int):=rfl
theorem zb4(s:ByteArray)(hs:s.size<=1099511627776):∀(n j k:Nat) (o:List Int) (high:Int),j+n=s.size->n<k->o.length+n<=35184372088832->0<=high/\high<16->∃o',FL k s o high (j:Int)=some (match kL ((bl s).drop j) j o high with
 | .inl i=> .inl (s,bs [],i,false,o')
 | .inr r=> .inr (s,r))
 |n,j,0,o,high,_,hk,_,_=>by omega
 |0,j,k+1,o,high,hj,hk,_,_=>by
  unfold FL QI
  rw[zF (by omega),zD,List.drop_eq_nil_of_le (by rw[zf];omega)]
  exact⟨o,rfl⟩
 |n+1,j,k+1,o,high,hj,hk,ho,hh=>by
  have aq:j<s.size:=by omega
  have hl:j<(bl s).length:=by rw[zf];exact aq
  have hb:=jI (List.getElem_mem hl)
  have h16:=DM hb
  unfold FL QI
  rw[zT (by omega),zC,zh aq,Int.toNat_natCast,Rl hl,aj3 hb,zc,List.drop_eq_getElem_cons hl,kL]
  by_cases ha:cN (bl s)[j]<0
  ·rw[if_pos ha,if_pos ha]
   exact⟨o,rfl⟩
  ·rw[if_neg ha,if_neg ha]
   dsimp only
   rw[Bool.not_true,zD,G9]
   by_cases hp:j % 2=0
   ·rw[if_pos hp,zT (by omega),zC,zr (by omega)]
    exact zb4 s hs n (j+1) k o _ (by omega) (by omega) (by omega) (by omega)
   ·rw[if_neg hp,zF (by omega),zD,zT (by simp only[List.length_singleton];omega),zC,zr (by omega),(ZI hh.1 hh.2 (by omega) h16).1]
    exact zb4 s hs n (j+1) k _ high (by omega) (by omega) (by rw[List.length_append,List.length_singleton];omega) hh
theorem zvl(s:ByteArray)(hs:s.size<=1099511627776):gQ s=some (nQ s):=by
 unfold gQ UO nQ
 have e:Int.tdiv (s.size:Int) 2=((s.size/2:Nat):Int):=rfl
 rw[e,zj (by omega) (by omega),zT (by omega),zC,zT (by omega),zC]
 obtain⟨o',h⟩:=zb4 s hs s.size 0 ag [] 0 (by omega) (by rw[zu];omega) (by simp;omega) (by omega)
 rw[show((0:Nat):Int)=0 from rfl,List.drop_zero,OM _ 0 _ _ rfl,List.nil_append,show((0:Nat):Int)=0 from rfl] at h
 dsimp only
 rw[h,zc]
 cases jy (bl s) 0 with
 |some i=>rfl
 |none=>
  dsimp only
  rw[Sum.elim_inr]
  unfold UP
  dsimp only
  rw[G9]
  by_cases hp:s.size % 2=1
  ·rw[if_pos hp,zF (by omega)];rfl
  ·rw[if_neg hp,zT (by omega)];rfl
theorem af7{l:List Int}:∀{i:Int},jy l i=none->∀a∈l,0<=cN a:=by
 induction l with
 |nil=>intro i _ a ha;cases ha
 |cons b r ih=>
  intro i h a ha
  rw[jy] at h
  by_cases hb:cN b<0
  ·rw[if_pos hb] at h;cases h
  ·rw[if_neg hb] at h
   rcases List.mem_cons.1 ha with rfl|ha
   ·omega
   ·exact ih h a ha
theorem akn:∀d:Fin 16,cN (iv (d.1:Int))=(d.1:Int)/\zm (iv (d.1:Int)):=by
 have:∀d:Fin 16,cN (iv (d.1:Int))=(d.1:Int)/\0<=iv (d.1:Int)/\iv (d.1:Int)<256:=by decide+kernel
 exact this
theorem OP{d:Int}(h:0<=d)(h2:d<16):cN (iv d)=d/\zm (iv d):=by
 have:=akn ⟨d.toNat,by omega⟩
 simpa [Int.toNat_of_nonneg h] using this
theorem Mh:∀{l:List Int},(∀x∈l,zm x)->∀y∈fJ l,zm y
 | [],_,y,hy=>by cases hy
 |x::r,h,y,hy=>by
  have hx:=h x List.mem_cons_self
  unfold zm at hx
  rw[fJ] at hy
  rcases List.mem_cons.1 hy with rfl|hy
  ·exact(OP (by omega) (by omega)).2
  ·rcases List.mem_cons.1 hy with rfl|hy
   ·exact(OP (by omega) (by omega)).2
   ·exact Mh (fun z hz=>h z (List.mem_cons_of_mem _ hz)) y hy
theorem Nu:∀l:List Int,(fJ l).length=2*l.length
 | []=>rfl
 |x::r=>by rw[fJ,List.length_cons,List.length_cons,Nu r,List.length_cons];omega
theorem agO(s:ByteArray):bl (sJ s)=fJ (bl s):=sD (Mh fun x hx=>jI hx)
theorem zb5(s:ByteArray):(sJ s).size=2*s.size:=by rw[<-zf,agO,Nu,zf]
theorem akm:∀b:Fin 256,0<=cN (b.1:Int)->iv (cN (b.1:Int))=(b.1:Int):=by decide+kernel
theorem Mg{b:Int}(h:zm b)(h0:0<=cN b):iv (cN b)=b:=by
 obtain⟨k,rfl⟩:=mC h
 exact akm k h0
theorem AB:∀{l:List Int},l.length % 2=0->(∀x∈l,zm x/\0<=cN x)->fJ (gH l)=l/\∀y∈gH l,zm y
 | [],_,_=>⟨by simp [fJ,gH],fun y hy=>by simp [gH] at hy⟩
 | [a],h,_=>by simp at h
 |a::b::r,h,hx=>by
  obtain⟨a1,a2⟩:=hx a (by simp)
  obtain⟨b1,b2⟩:=hx b (by simp)
  have a3:=DM a1
  have b3:=DM b1
  obtain⟨i1,i2⟩:=AB (l:=r) (by simp only[List.length_cons] at h;omega) fun y hy=>hx y (by simp [hy])
  rw[gH,fJ]
  refine⟨?_,fun y hy=> ?_⟩
  ·rw[show(16*cN a+cN b)/16=cN a by omega,show(16*cN a+cN b)% 16=cN b by omega,Mg a1 a2,Mg b1 b2,i1]
  ·rcases List.mem_cons.1 hy with rfl|hy
   ·unfold zm;omega
   ·exact i2 y hy
theorem zim{s t:ByteArray}{i:Int}(h:nQ s=(t,i,true)):sJ t=s/\s.size=2*t.size:=by
 unfold nQ at h
 cases hb:jy (bl s) 0 with
 |some q=>rw[hb] at h;cases h
 |none=>
  rw[hb] at h
  dsimp only at h
  by_cases hp:s.size % 2=1
  ·rw[if_pos hp] at h;cases h
  ·rw[if_neg hp] at h
   have ht:t=strOf (gH (bl s)):=(congrArg Prod.fst h).symm
   obtain⟨e1,e2⟩:=AB (l:=bl s) (by rw[zf];omega) fun x hx=>⟨jI hx,af7 hb x hx⟩
   have e3:sJ t=s:=by
    unfold sJ
    rw[ht,sD e2,e1,Fx]
   exact⟨e3,by rw[<-e3,zb5]⟩
def cI(b:Int):Bool:=decide (48<=b/\b<=57)
def bE(l:List Int):Bool:=l.all cI
theorem zhp(b:Int)(l:List Int):bE (b::l)=(cI b&&bE l):=rfl
theorem am6{b:Int}(h:48<=b/\b<=57):cI b=true:=zT h
theorem DO{b:Int}(h:¬(48<=b/\b<=57)):cI b=false:=zF h
theorem RO{s:ByteArray}{j:Nat}(h:j<s.size):(bl s).getD j 0=((s[j]'h).toNat:Int):=by
 rw[<-lK]
 unfold ze
 rw[dif_pos h]
theorem Ww{s:ByteArray}{j:Nat}(h:j<s.size):(bl s).drop j=((s[j]'h).toNat:Int)::(bl s).drop (j+1):=by
 have h':j<(bl s).length:=by rw[zf];exact h
 rw[List.drop_eq_getElem_cons h']
 congr 1
 have:=RO h
 rw[List.getD_eq_getElem?_getD,List.getElem?_eq_getElem h'] at this
 exact this
theorem acF(s:ByteArray)(pos:Nat)(h:pos<s.size)(ha:128<=(s[pos]'h).toNat):128<=(Utf8.decode s pos).1:=by
 have e:s.get! (pos+0)=s[pos]'h:=by
  show s.get! pos=_
  simp [ByteArray.get!,getElem!_pos,h]
  rfl
 unfold Utf8.decode
 simp only[e]
 rw[if_neg (by omega)]
 have Ss:128<=Utf8.runeError:=by unfold Utf8.runeError;omega
 split
 ·split
  ·assumption
  ·exact Ss
 ·split
  ·split
   ·rename_i hc
    simp only[Bool.and_eq_true,decide_eq_true_eq] at hc
    have:=hc.1
    simp only
    omega
   ·exact Ss
  ·split
   ·split
    ·rename_i hc
     simp only[Bool.and_eq_true,decide_eq_true_eq] at hc
     have:=hc.1
     simp only
     omega
    ·exact Ss
   ·exact Ss
theorem M5(s:ByteArray):∀(n j k:Nat),s.size-j<=n->j<=s.size->n<k->Hz k (s,j)=some (bif bE ((bl s).drop j) then .inr () else .inl false)
 |n,j,0,_,_,hk=>by omega
 |n,j,k+1,hn,hj,hk=>by
  unfold Hz XH
  dsimp only
  by_cases aq:j<s.size
  ·rw[zT aq,zC,Ww aq,zhp]
   by_cases h1:(s[j]'aq).toNat<128
   ·rw[decode_ascii s j aq h1]
    dsimp only
    by_cases h2:((s[j]'aq).toNat:Int)<48
    ·rw[zT h2,zC,DO (by omega)];rfl
    ·rw[zF h2,zD]
     by_cases h3:(57:Int)<((s[j]'aq).toNat:Int)
     ·rw[zT h3,zC,DO (by omega)];rfl
     ·obtain⟨n,rfl⟩:∃n',n=n'+1:=⟨n-1,by omega⟩
      rw[zF h3,zD,am6 (by omega),Bool.true_and,M5 s n (j+1) k (by omega) (by omega) (by omega)]
   ·have hd:=acF s j aq (by omega)
    rw[zF (by omega:¬((Utf8.decode s j).1:Int)<48),zD,zT (by omega:(57:Int)<((Utf8.decode s j).1:Int)),zC,DO (by omega)];rfl
  ·rw[zF aq,zD,List.drop_eq_nil_of_le (by rw[zf];omega)];rfl
theorem WL(s:ByteArray)(h:s.size<=maxLen):yy s=some (bE (bl s)):=by
 unfold yy XG
 dsimp only
 rw[zi] at h
 rw[M5 s s.size 0 ag (by omega) (by omega) (by rw[zu];omega),List.drop_zero]
 cases bE (bl s)<;>rfl
theorem ac9(b:Int):II b=some (cI b):=by
 unfold II Yo cI
 by_cases h:(48:Int)<=b
 ·rw[zT h,zC];congr 1;apply decide_eq_decide.2;omega
 ·rw[zF h,zD];congr 1;symm;apply zF;omega
theorem zuz(s:ByteArray)(hs:s.size<=9223372036854775807):∀(n j k:Nat),s.size-j<=n->j<=s.size->n<k->HD k s (j:Int)=some (bif bE ((bl s).drop j) then .inr () else .inl false)
 |n,j,0,_,_,hk=>by omega
 |n,j,k+1,hn,hj,hk=>by
  unfold HD Yn
  dsimp only
  by_cases aq:j<s.size
  ·rw[zT (by omega),zC,zh aq,ac9,Int.toNat_natCast,lK,RO aq,Ww aq,zhp]
   rw[Option.bind_some]
   cases h1:cI ((s[j]'aq).toNat:Int) with
   |false=>rfl
   |true=>
    obtain⟨n,rfl⟩:∃n',n=n'+1:=⟨n-1,by omega⟩
    simp only[Bool.not_true,zD,Bool.true_and]
    rw[zr (by omega),zuz s hs n (j+1) k (by omega) (by omega) (by omega)]
  ·rw[zF (by omega),zD,List.drop_eq_nil_of_le (by rw[zf];omega)];rfl
theorem MV(s:ByteArray)(h:s.size<=maxLen):Gm s=some (bE (bl s)):=by
 unfold Gm Ym
 dsimp only
 rw[zi] at h
 have:=zuz s h s.size 0 ag (by omega) (by omega) (by rw[zu];omega)
 rw[show((0:Nat):Int)=(0:Int) from rfl] at this
 rw[this,List.drop_zero]
 cases bE (bl s)<;>rfl
def fA(l:List Int)(n:Int):Int:=l.foldl (fun n b=>10*n+(b-48)) n
theorem zwj:∀(l:List Int) (n:Int) (k:Nat),bE l=true->0<=n->n<((10^k:Nat):Int)->l.length+k<=18->0<=fA l n/\fA l n<((10^(l.length+k):Nat):Int)
 | [],n,k,_,h1,h2,_=>by simpa [fA] using⟨h1,h2⟩
 |b::l,n,k,hd,h1,h2,hl=>by
  simp only[bE,List.all_cons,Bool.and_eq_true,cI,decide_eq_true_eq] at hd
  have hp:((10^(k+1):Nat):Int)=10*((10^k:Nat):Int):=by rw[Nat.pow_succ];omega
  have:=zwj l (10*n+(b-48)) (k+1) hd.2 (by omega) (by rw[hp];omega) (by simp at hl;omega)
  simp only[fA,List.foldl_cons,List.length_cons] at this⊢
  rw[show l.length+1+k=l.length+(k+1) by omega]
  exact this
theorem A6{k m:Nat}(h:k<=m):10^k<=10^m:=Nat.pow_le_pow_right (by decide) h
theorem PK(k:Nat):((10^(k+1):Nat):Int)=10*((10^k:Nat):Int):=by rw[Nat.pow_succ];omega
theorem A7:(10:Nat)^17=100000000000000000:=by decide
theorem Nr(s:ByteArray)(hs:s.size<=18)(hd:bE (bl s)=true):∀(n j k:Nat) (t:Int),s.size-j<=n->j<=s.size->n<k->0<=t->t<((10^j:Nat):Int)->HA k t (s,j)=some (fA ((bl s).drop j) t)
 |n,j,0,t,_,_,hk,_,_=>by omega
 |n,j,k+1,t,hn,hj,hk,h0,h1=>by
  unfold HA XK
  dsimp only
  by_cases aq:j<s.size
  ·have Cy:cI ((s[j]'aq).toNat:Int)=true:=by
    have:=List.all_eq_true.1 hd ((bl s).getD j 0) (by
     rw[List.getD_eq_getElem?_getD,List.getElem?_eq_getElem (by rw[zf];exact aq)]
     exact List.getElem_mem _)
    rw[RO aq] at this
    exact this
   simp only[cI,decide_eq_true_eq] at Cy
   rw[zT aq,zC,decode_ascii s j aq (by omega),Ww aq]
   dsimp only
   have KG:=PK j
   have w32:IntKind.i32.wrap (((s[j]'aq).toNat:Int)-48)=((s[j]'aq).toNat:Int)-48:=by
    simp [IntKind.wrap,IntKind.signed,IntKind.bits];omega
   obtain⟨n,rfl⟩:∃n',n=n'+1:=⟨n-1,by omega⟩
   have ht:t<100000000000000000:=by
    have:=A6 (show j<=17 by omega)
    rw[A7] at this
    omega
   have a1:zW zI (10*t)=10*t:=zj (by omega) (by omega)
   have a2:zW zI (((s[j]'aq).toNat:Int)-48)=((s[j]'aq).toNat:Int)-48:=zj (by omega) (by omega)
   rw[w32,a1,a2,zj (by omega) (by omega),Nr s hs hd n (j+1) k _ (by omega) (by omega) (by omega) (by omega) (by omega)]
   rfl
  ·rw[zF aq,zD,List.drop_eq_nil_of_le (by rw[zf];omega)];rfl
def eg(l:List Int):Int×Bool:=if 1<=l.length/\l.length<=18/\bE l=true then(fA l 0,true) else(0,false)
theorem Pf(s:ByteArray)(h:s.size<=maxLen):yz s=some (eg (bl s)):=by
 unfold yz XJ eg
 dsimp only
 rw[zf]
 by_cases h0:s=bs []
 ·rw[zT h0,zC,if_neg]
  rw[h0]
  intro hh
  have:(bs []).size=0:=rfl
  omega
 ·have hz:s.size≠0:=fun e=>h0 (zdt.2 (List.eq_nil_of_length_eq_zero (by rw[zf];exact e)))
  rw[zF h0,zD]
  by_cases h1:(18:Int)<(s.size:Int)
  ·rw[zT h1,zC,if_neg (by omega)]
  ·rw[zF h1,zD,WL s h,Option.bind_some]
   cases hd:bE (bl s) with
   |false=>rw[if_neg (by simp)];rfl
   |true=>
    rw[if_pos ⟨by omega,by omega,rfl⟩]
    simp only[Bool.not_true,zD]
    rw[Nr s (by omega) hd s.size 0 ag 0 (by omega) (by omega) (by rw[zu];omega) (by omega) (by decide),List.drop_zero,Option.bind_some]
    rfl
theorem zvh(s:ByteArray)(hs:s.size<=18)(hd:bE (bl s)=true):∀(n j k:Nat) (t:Int),s.size-j<=n->j<=s.size->n<k->0<=t->t<((10^j:Nat):Int)->HE k s t (j:Int)=some (fA ((bl s).drop j) t)
 |n,j,0,t,_,_,hk,_,_=>by omega
 |n,j,k+1,t,hn,hj,hk,h0,h1=>by
  unfold HE Yr
  dsimp only
  by_cases aq:j<s.size
  ·have Cy:cI ((s[j]'aq).toNat:Int)=true:=by
    have:=List.all_eq_true.1 hd ((bl s).getD j 0) (by
     rw[List.getD_eq_getElem?_getD,List.getElem?_eq_getElem (by rw[zf];exact aq)]
     exact List.getElem_mem _)
    rw[RO aq] at this
    exact this
   simp only[cI,decide_eq_true_eq] at Cy
   rw[zT (by omega),zC,zh aq,Int.toNat_natCast,lK,RO aq,Ww aq]
   have KG:=PK j
   obtain⟨n,rfl⟩:∃n',n=n'+1:=⟨n-1,by omega⟩
   have ht:t<100000000000000000:=by
    have:=A6 (show j<=17 by omega)
    rw[A7] at this
    omega
   have a1:zW zI (10*t)=10*t:=zj (by omega) (by omega)
   have a2:zW zI ((s[j]'aq).toNat:Int)=((s[j]'aq).toNat:Int):=zj (by omega) (by omega)
   have a3:zW zI (10*t+((s[j]'aq).toNat:Int))=10*t+((s[j]'aq).toNat:Int):=zj (by omega) (by omega)
   rw[a1,a2,a3,zj (by omega) (by omega),zr (by omega),zvh s hs hd n (j+1) k _ (by omega) (by omega) (by omega) (by omega) (by omega)]
   simp only[fA,List.foldl_cons]
   congr 2
   omega
  ·rw[zF (by omega),zD,List.drop_eq_nil_of_le (by rw[zf];omega)];rfl
theorem ahW(s:ByteArray)(h:s.size<=maxLen):IK s=some (eg (bl s)):=by
 unfold IK Yq eg
 dsimp only
 rw[zf]
 by_cases h0:(s.size:Int)<1
 ·rw[zT h0,zC,if_neg (by omega)]
 ·rw[zF h0,zD]
  by_cases h1:(18:Int)<(s.size:Int)
  ·rw[zT h1,zC,if_neg (by omega)]
  ·rw[zF h1,zD,MV s h,Option.bind_some]
   cases hd:bE (bl s) with
   |false=>rw[if_neg (by simp)];rfl
   |true=>
    rw[if_pos ⟨by omega,by omega,rfl⟩]
    simp only[Bool.not_true,zD]
    have:=zvh s (by omega) hd s.size 0 ag 0 (by omega) (by omega) (by rw[zu];omega) (by omega) (by decide)
    rw[show((0:Nat):Int)=(0:Int) from rfl] at this
    rw[this,List.drop_zero,Option.bind_some]
    rfl
def vp:Nat->Nat->List Int
 |0,_=>[]
 |w+1,n=>vp w (n/10)++ [((48+n % 10:Nat):Int)]
theorem ze0:∀w n,(vp w n).length=w
 |0,_=>rfl
 |w+1,n=>by rw[vp,List.length_append,ze0 w];rfl
theorem Ng{l:List Int}(h:bE l=true):∀x∈l,zm x:=fun x hx=>by
 have:=List.all_eq_true.1 h x hx
 simp only[cI,decide_eq_true_eq] at this
 unfold zm;omega
theorem acu(a b:List Int):strOf (a++b)=strOf a++strOf b:=by
 apply ByteArray.ext
 simp [strOf,ByteArray.data_append]
theorem aoX(n:Nat):Int.tmod (n:Int) 10=((n % 10:Nat):Int):=by rw[Int.tmod_eq_emod_of_nonneg (by omega)];omega
theorem aoW(n:Nat):Int.tdiv (n:Int) 10=((n/10:Nat):Int):=by rw[Int.tdiv_eq_ediv_of_nonneg (by omega)];omega
theorem aj2(n:Nat):zW zU (zW zI ((48:Int)+((n % 10:Nat):Int)))=((48+n % 10:Nat):Int):=by
 rw[zj (by omega) (by omega),uZ (by omega) (by omega)];omega
theorem OI(n w:Nat):n/10/10^w=n/10^(w+1):=by rw[Nat.div_div_eq_div_mul,Nat.pow_succ,Nat.mul_comm]
theorem fy(x:Int)(tail:List Int):∀j,(List.replicate (j+1) (0:Int)++tail).set j x=List.replicate j 0++x::tail
 |0=>rfl
 |j+1=>by
  show(0:Int)::((List.replicate (j+1) (0:Int)++tail).set j x)=0::(List.replicate j 0++x::tail)
  rw[fy x tail j]
theorem NN(nt nt2:Nat)(hnt:nt<=18):∀(j k n:Nat) (tail:List Int),nt=j+tail.length->n<=9223372036854775807->j<k->
 F6 k (n:Int) nt ((j:Int)-1) nt2 (List.replicate j 0++tail)=some (((n/10^j:Nat):Int),nt,nt2,vp j n++tail)
 |j,0,n,tail,_,_,hk=>by omega
 |0,k+1,n,tail,h,hn,hk=>by
  unfold F6 Ry
  dsimp only
  rw[zF (by omega),zD]
  simp [vp]
 |j+1,k+1,n,tail,h,hn,hk=>by
  unfold F6 Ry
  dsimp only
  have e:(((j+1:Nat):Int)-1)=(j:Int):=by omega
  rw[e,zT (by omega:(0:Int)<=(j:Int)),zC,zh (by omega),Int.toNat_natCast,aoX,aoW,aj2]
  have hb:Nat.ble (j+1) (List.replicate (j+1) (0:Int)++tail).length=true:=Nat.ble_eq_true_of_le (by simp)
  rw[hb,zC,yh (by omega),zj (by omega) (by omega)]
  rw[fy,NN nt nt2 hnt j k (n/10) _ (by simp;omega) (by omega) (by omega),OI]
  simp [vp]
def jG(n w:Int):ByteArray×Bool:=bif decide (0<=n/\1<=w/\w<=18/\n.toNat/10^w.toNat=0) then(strOf (vp w.toNat n.toNat),true) else(bs [],false)
theorem E3{n w:Int}(h:0<=n/\1<=w/\w<=18/\n.toNat/10^w.toNat=0):jG n w=(strOf (vp w.toNat n.toNat),true):=by unfold jG;rw[zT h];rfl
theorem RX{n w:Int}(h:¬(0<=n/\1<=w/\w<=18/\n.toNat/10^w.toNat=0)):jG n w=(bs [],false):=by unfold jG;rw[zF h];rfl
theorem ant(n w:Int)(hn:n<=9223372036854775807):Ib n w=some (jG n w):=by
 unfold Ib XO
 dsimp only
 by_cases h1:n<0
 ·rw[zT h1,zC,RX (by omega)]
 rw[zF h1,zD]
 by_cases h2:w<1
 ·rw[zT h2,zC,RX (by omega)]
 rw[zF h2,zD]
 by_cases h3:(18:Int)<w
 ·rw[zT h3,zC,RX (by omega)]
 rw[zF h3,zD,zT (rfl:w=w),zC,zT (by omega:(0:Int)<=w),zC,zT (by omega:w*1<=140737488355328),zC]
 obtain⟨m,rfl⟩:∃m:Nat,n=m:=⟨n.toNat,by omega⟩
 obtain⟨v,rfl⟩:∃v:Nat,w=v:=⟨w.toNat,by omega⟩
 simp only[Int.toNat_natCast]
 have:=NN v v (by omega) v ag m [] (by simp) (by omega) (by rw[zu];omega)
 simp only[List.append_nil] at this
 rw[zj (by omega) (by omega),this,zc]
 unfold XP
 dsimp only
 by_cases h4:(0:Int)<((m/10^v:Nat):Int)
 ·rw[zT h4,zC,RX (by simp only[Int.toNat_natCast];generalize m/10^v=q at h4⊢;omega)]
 ·rw[zF h4,zD,ze0,Nat.beq_refl,zC,E3 (by simp only[Int.toNat_natCast];generalize m/10^v=q at h4⊢;omega)]
  simp only[Int.toNat_natCast]
theorem ac2(l r:List Int)(n:Int):fA (l++r) n=fA r (fA l n):=by unfold fA;rw[List.foldl_append]
theorem Nf:∀(w n:Nat) (l:List Int),bE l=true->w=l.length->fA l 0=(n:Int)->vp w n=l/\n/10^w=0
 |0,n,l,hd,hw,hv=>by
  obtain rfl:=List.eq_nil_of_length_eq_zero hw.symm
  have:(0:Int)=n:=hv
  obtain rfl:n=0:=by omega
  exact⟨rfl,rfl⟩
 |w+1,n,l,hd,hw,hv=>by
  have bJ:l≠ []:=by intro e;subst e;simp at hw
  obtain⟨r,b,rfl⟩:∃r b,l=r++ [b]:=⟨l.dropLast,l.getLast bJ,(List.dropLast_concat_getLast bJ).symm⟩
  rw[bE,List.all_append,Bool.and_eq_true,List.all_cons,List.all_nil,Bool.and_true] at hd
  have hb:=hd.2
  simp only[cI,decide_eq_true_eq] at hb
  rw[ac2] at hv
  have jh:10*fA r 0+(b-48)=n:=hv
  obtain⟨i1,i2⟩:=Nf w (n/10) r hd.1 (by simpa using hw) (by omega)
  refine⟨?_,by rw[<-OI];exact i2⟩
  rw[vp,i1]
  congr 2
  omega
def fT(l:List Int):Bool:=l.all fun b=>decide (b=48)
theorem Tb(b:Int)(l:List Int):fT (b::l)=(decide (b=48)&&fT l):=rfl
theorem zat(a b:List Int):fT (a++b)=(fT a&&fT b):=List.all_append ..
theorem adq(s:ByteArray)(x:Int)(l:List Int)(h:bl s=x::l):ze s 0=x:=by rw[lK,h];rfl
theorem Lr(k:Nat):∀(s:ByteArray),s.size<k->s.size<=9223372036854775807->∃r,Hq k s 48=some r/\fT (bl r)=fT (bl s)/\(fT (bl s)=true->bl r=[])/\r.size<=s.size:=by
 induction k with
 |zero=>intro s h;omega
 |succ k ih=>
  intro s h hs
  unfold Hq V1
  dsimp only
  by_cases h0:(0:Int)<(s.size:Int)
  ·have hm:zW zI ((s.size:Int)-1)=((s.size-1:Nat):Int):=by rw[zj (by omega) (by omega)];omega
   rw[zT h0,zC,hm,zh (by omega),Int.toNat_natCast]
   have hl:(bl s).length=s.size:=zf s
   have bJ:bl s≠ []:=by intro e;rw[e] at hl;simp at hl;omega
   obtain⟨r,b,hb⟩:∃r b,bl s=r++ [b]:=⟨(bl s).dropLast,(bl s).getLast bJ,(List.dropLast_concat_getLast bJ).symm⟩
   have hr:r.length=s.size-1:=by rw[hb] at hl;simp at hl;omega
   have hx:ze s (s.size-1)=b:=by
    rw[lK,hb,<-hr,List.getD_eq_getElem?_getD];simp
   rw[hx]
   by_cases hz:b=48
   ·rw[zT hz,zC,zT (by omega:(0:Int)<=((s.size-1:Nat):Int)),zC,zT (by omega:((s.size-1:Nat):Int)<=((s.size:Nat):Int)),zC]
    have he:bl (s.extract 0 (s.size-1))=r:=by rw[qG,hb,List.drop_zero,<-hr,List.take_left'];rfl
    have dm:(s.extract 0 (s.size-1)).size=s.size-1:=by rw[<-zf,he,hr]
    obtain⟨q,q1,q2,q3,q4⟩:=ih (s.extract 0 (s.size-1)) (by omega) (by omega)
    refine⟨q,q1,?_,fun ha=>q3 ?_,by omega⟩
    ·rw[q2,he,hb,zat,Tb,zT hz];simp [fT]
    ·rw[hb,zat,Bool.and_eq_true] at ha
     rw[he];exact ha.1
   ·rw[zF hz,zD]
    refine⟨s,rfl,rfl,fun ha=> ?_,Nat.le_refl _⟩
    rw[hb,zat,Tb,zF hz] at ha
    simp at ha
  ·rw[zF h0,zD]
   refine⟨s,rfl,rfl,fun _=>List.eq_nil_of_length_eq_zero (by rw[zf];omega),Nat.le_refl _⟩
theorem Ka{s:ByteArray}{x:Int}{l:List Int}(h:bl s=x::l):bl (s.extract 1 s.size)=l:=by
 rw[qG,<-zf,List.take_length,h];rfl
theorem Lq(k:Nat):∀(s:ByteArray),s.size<k->s.size<=9223372036854775807->∃r,Hp k s 48=some r/\((bl r=[])↔fT (bl s)=true):=by
 induction k with
 |zero=>intro s h;omega
 |succ k ih=>
  intro s h hs
  unfold Hp VX
  dsimp only
  have hl:(bl s).length=s.size:=zf s
  by_cases h0:(0:Int)<(s.size:Int)
  ·rw[zT h0,zC,zn (by omega) h0]
   cases hb:bl s with
   |nil=>rw[hb] at hl;simp at hl;omega
   |cons x l=>
    rw[show((0:Int)).toNat=0 from rfl,show((1:Int)).toNat=1 from rfl,adq s x l hb]
    by_cases hz:x=48
    ·rw[zT hz,zC,zT (by omega:(1:Int)<=((s.size:Nat):Int)),zC]
     have he:=Ka hb
     have dm:(s.extract 1 s.size).size=s.size-1:=by rw[<-zf,he,<-hl,hb];simp
     obtain⟨q,q1,q2⟩:=ih (s.extract 1 s.size) (by omega) (by omega)
     refine⟨q,q1,q2.trans ?_⟩
     rw[he,Tb,zT hz];simp
    ·rw[zF hz,zD]
     refine⟨s,rfl,?_⟩
     rw[hb,Tb,zF hz];simp
  ·rw[zF h0,zD]
   have:bl s=[]:=List.eq_nil_of_length_eq_zero (by omega)
   refine⟨s,rfl,?_⟩
   rw[this];simp [fT]
theorem amF(s:ByteArray)(h:s.size<=9223372036854775807):∃r,tE s (bs [48])=some r/\(r=bs []↔fT (bl s)=true):=by
 unfold tE VU
 by_cases h0:s=bs []
 ·rw[zT h0,zC]
  refine⟨s,rfl,?_⟩
  rw[h0];simp [M9,fT]
 rw[zF h0,zD,zF (show¬bs [48]=bs [] from fun e=>absurd (congrArg ByteArray.size e) (by decide)),zD,zT (by rfl:(((bs [48]).size:Nat):Int)=1),zC]
 have hb:ze (bs [48]) ((0:Int)).toNat=48:=by rw[lK];rfl
 have hw {R:Type} (x:Option R):zd (0:Int) (bs [48]).size x=x:=zn (by omega) (by decide)
 rw[hw,hb,zT (by decide:(48:Int)<128),zC,hw]
 unfold wl V0
 dsimp only
 obtain⟨r,r1,r2,r3,r4⟩:=Lr ag s (by rw[zu];omega) h
 rw[r1,zc]
 unfold V2
 rw[zc,hw]
 unfold wh VW
 dsimp only
 obtain⟨q,q1,q2⟩:=Lq ag r (by rw[zu];omega) (by omega)
 rw[q1,zc]
 unfold VY
 rw[zc]
 refine⟨q,rfl,?_⟩
 rw[zdt,q2,r2]
theorem ziv:∀(c:Nat),bl ⟨(Go.Lib.repeatL (bs [48]).data.toList c).toArray⟩=List.replicate c 48
 |0=>rfl
 |c+1=>by
  rw[List.replicate_succ,<-ziv c]
  simp only[bl,Go.Lib.repeatL,List.map_append]
  rfl
def fL(s:ByteArray)(w:Int):ByteArray×Bool:=
 bif decide (1<=s.size/\s.size<=999/\bE (bl s)=true/\1<=w/\w<=999) then
  (bif decide ((s.size:Int)<=w) then(strOf (List.replicate (w-s.size).toNat 48++bl s),true)
   else bif fT ((bl s).take (s.size-w.toNat)) then(strOf ((bl s).drop (s.size-w.toNat)),true) else(bs [],false))
 else(bs [],false)
theorem HN{s:ByteArray}{w:Int}(h:¬(1<=s.size/\s.size<=999/\bE (bl s)=true/\1<=w/\w<=999)):fL s w=(bs [],false):=by unfold fL;rw[zF h];rfl
theorem PJ{s:ByteArray}{w:Int}(h:1<=s.size/\s.size<=999/\bE (bl s)=true/\1<=w/\w<=999):fL s w=(bif decide ((s.size:Int)<=w) then(strOf (List.replicate (w-s.size).toNat 48++bl s),true)
 else bif fT ((bl s).take (s.size-w.toNat)) then(strOf ((bl s).drop (s.size-w.toNat)),true) else(bs [],false)):=by unfold fL;rw[zT h];rfl
theorem ans(s:ByteArray)(w:Int)(h:s.size<=maxLen):H9 s w=some (fL s w):=by
 unfold H9 XL
 dsimp only
 by_cases h0:s=bs []
 ·rw[zT h0,zC,HN]
  intro hh
  rw[h0] at hh
  exact absurd hh.1 (by decide)
 have hz:s.size≠0:=fun e=>h0 (zdt.2 (List.eq_nil_of_length_eq_zero (by rw[zf];exact e)))
 rw[zF h0,zD]
 by_cases h1:(999:Int)<(s.size:Int)
 ·rw[zT h1,zC,HN (by omega)]
 rw[zF h1,zD,WL s h,zc]
 cases hd:bE (bl s) with
 |false=>rw[HN (by rw[hd];simp)];rfl
 |true=>
  rw[Bool.not_true,zD]
  by_cases h2:w<1
  ·rw[zT h2,zC,HN (by omega)]
  rw[zF h2,zD]
  by_cases h3:(999:Int)<w
  ·rw[zT h3,zC,HN (by omega)]
  rw[zF h3,zD,PJ ⟨by omega,by omega,hd,by omega,by omega⟩]
  obtain⟨v,rfl⟩:∃v:Nat,w=v:=⟨w.toNat,by omega⟩
  by_cases h4:(s.size:Int)<=(v:Int)
  ·rw[zT h4,zC,zC]
   obtain⟨c,hc⟩:∃c:Nat,(v:Int)-(s.size:Int)=(c:Int):=⟨v-s.size,by omega⟩
   rw[hc,yh (by omega)]
   have hR:strings_Repeat (bs [48]) (c:Int)=some ⟨(Go.Lib.repeatL (bs [48]).data.toList c).toArray⟩:=by
    unfold strings_Repeat
    rw[zT (by omega:(0:Int)<=(c:Int)),zT (by omega:(c:Int)<=9223372036854775807),zT (by rw[show(((bs [48]).size:Nat):Int)=1 from rfl];omega),Int.toNat_natCast]
    rfl
   rw[hR,zc]
   have dm:((⟨(Go.Lib.repeatL (bs [48]).data.toList c).toArray⟩:ByteArray)).size=c:=by rw[<-zf,ziv,List.length_replicate]
   rw[dm,zT (by omega),zC,Int.toNat_natCast]
   congr 2
   apply BI
   rw[qI,ziv,sD]
   intro x hx
   rcases List.mem_append.1 hx with hx|hx
   ·rw[(List.mem_replicate.1 hx).2];unfold zm;omega
   ·exact jI hx
  ·rw[zF h4,zD,zD]
   obtain⟨c,hc⟩:∃c:Nat,(s.size:Int)-(v:Int)=(c:Int):=⟨s.size-v,by omega⟩
   have hcv:s.size-((v:Int)).toNat=c:=by omega
   rw[hc,yh (by omega),zT (by omega:(0:Int)<=(c:Int)),zC,zT (by omega:(c:Int)<=((s.size:Nat):Int)),zC,Int.toNat_natCast,hcv]
   have hx:bl (s.extract 0 c)=(bl s).take c:=by rw[qG,List.drop_zero]
   have ss:(s.extract 0 c).size=c:=by rw[<-zf,hx,List.length_take,zf];omega
   obtain⟨r,r1,r2⟩:=amF (s.extract 0 c) (by omega)
   rw[r1,zc]
   rw[hx] at r2
   cases ha:fT ((bl s).take c) with
   |true=>
    rw[zT (r2.2 ha),Bool.not_true,zD,zC,zC]
    congr 2
    apply BI
    rw[qG,<-zf,List.take_length,sD]
    exact fun x hx=>jI (List.mem_of_mem_drop hx)
   |false=>
    rw[zF (fun e=>by rw[r2.1 e] at ha;cases ha),Bool.not_false,zC];rfl
def ea:List Int->List Int
 |a::b::r=>(16*(a-48)+(b-48))::ea r
 |_=>[]
def qM(s:ByteArray):ByteArray×Bool:=
 bif decide (s.size<=999/\bE (bl s)=true) then(strOf (ea (if s.size % 2=1 then 48::bl s else bl s)),true) else(bs [],false)
def gT(odd:Bool):List Int->Nat->Option (Int×Int)
 | [],_=>none
 |x::r,i=>if i=0/\odd=true/\x/16≠0 then some (4,0) else if 9<x/16\/9<x % 16 then some (3,i) else gT odd r (i+1)
def dZ:List Int->List Int
 | []=>[]
 |x::r=>(48+x/16)::(48+x % 16)::dZ r
def kV(b:ByteArray)(n:Int):ByteArray×Int×Int:=
 if n<0\/999<n then(bs [],1,0) else if(b.size:Int)<(n+1)/2 then(bs [],2,(b.size:Int)) else
 match gT (decide (n % 2=1)) ((bl b).take ((n+1)/2).toNat) 0 with
 |some e=>(bs [],e.1,e.2)
 |none=>(strOf ((dZ ((bl b).take ((n+1)/2).toNat)).drop (n % 2).toNat),0,0)
theorem ajL:∀a b:Fin 10,aQ .or .u8 (zW zU ((zW zU ((48+(a.1:Int))-48))*2^min ((4:Int)).toNat 8)) (zW zU ((48+(b.1:Int))-48))=16*(a.1:Int)+(b.1:Int):=by decide+kernel
theorem OH{x:Int}(h:cI x=true):∃k:Fin 10,x=48+(k.1:Int):=by
 unfold cI at h
 simp only[Bool.and_eq_true,decide_eq_true_eq] at h
 exact⟨⟨(x-48).toNat,by omega⟩,by simp;omega⟩
theorem Ze{x y:Int}(hx:cI x=true)(hy:cI y=true):aQ .or .u8 (zW zU ((zW zU (x-48))*2^min ((4:Int)).toNat 8)) (zW zU (y-48))=16*(x-48)+(y-48):=by
 obtain⟨a,rfl⟩:=OH hx
 obtain⟨b,rfl⟩:=OH hy
 have:=ajL a b
 rw[this];omega
theorem zav(s:ByteArray)(hs:s.size<=1099511627776)(hev:s.size % 2=0)(hd:bE (bl s)=true):∀(n j k:Nat) (o:List Int),j+2*n=s.size->n<k->o.length+n<=35184372088832->jV k s o (j:Int)=some (o++ea ((bl s).drop j))
 |n,j,0,o,_,hk,_=>by omega
 |0,j,k+1,o,hj,hk,_=>by
  unfold jV mM
  rw[zF (by omega),zD,List.drop_eq_nil_of_le (by rw[zf];omega),ea,List.append_nil]
  exact fun _ _ _ h=>by cases h
 |n+1,j,k+1,o,hj,hk,ho=>by
  have aq:j<s.size:=by omega
  have xv:j+1<s.size:=by omega
  have hl:j<(bl s).length:=by rw[zf];exact aq
  have vw:j+1<(bl s).length:=by rw[zf];exact xv
  have d1:=List.all_eq_true.1 hd _ (List.getElem_mem hl)
  have d2:=List.all_eq_true.1 hd _ (List.getElem_mem vw)
  have e:zW zI ((j:Int)+2)=((j+2:Nat):Int):=by rw[zj (by omega) (by omega)];omega
  unfold jV mM
  rw[zT (by omega),zC,zh aq,zr (by omega),zh xv,Int.toNat_natCast,Int.toNat_natCast,Rl hl,Rl vw,Ze d1 d2,zT (by simp only[List.length_singleton];omega),zC,e]
  dsimp only
  rw[zav s hs hev hd n (j+2) k _ (by omega) (by omega) (by rw[List.length_append,List.length_singleton];omega),List.drop_eq_getElem_cons hl,List.drop_eq_getElem_cons vw,ea,List.append_assoc]
  rfl
theorem Zg:bl (bs [48])=[48]:=by decide
theorem zhw(s:ByteArray)(hs:s.size<=maxLen):Q1 s=some (qM s):=by
 unfold Q1 kY qM
 by_cases h1:(999:Int)<(s.size:Int)
 ·rw[zT h1,zC,zF (by omega)];rfl
 ·rw[zF h1,zD,WL s hs,zc]
  cases hd:bE (bl s) with
  |false=>rw[zF (p:=s.size<=999/\false=true) (fun h=>by cases h.2)];rfl
  |true=>
   rw[Bool.not_true,zD,zT (⟨by omega,rfl⟩:s.size<=999/\true=true),zC,G9]
   by_cases hp:s.size % 2=1
   ·have dm:(bs [48]++s).size=s.size+1:=by rw[ByteArray.size_append];show 1+s.size=_;omega
    have hb:bl (bs [48]++s)=48::bl s:=by rw[qI,Zg];rfl
    rw[if_pos hp,zF (by omega),Bool.not_false,zC,zT (by show 1+s.size<=_;omega),zC,dm]
    have e:Int.tdiv ((s.size+1:Nat):Int) 2=(((s.size+1)/2:Nat):Int):=rfl
    rw[e,zj (by omega) (by omega),zT (by omega),zC,zT (by omega),zC]
    have:=zav (bs [48]++s) (by omega) (by omega) (by rw[hb];show(cI 48&&bE (bl s))=true;rw[hd];rfl) ((s.size+1)/2) 0 ag [] (by omega) (by rw[zu];omega) (by simp;omega)
    rw[show((0:Nat):Int)=0 from rfl,List.drop_zero,List.nil_append,hb] at this
    dsimp only
    rw[this];rfl
   ·rw[if_neg hp,zT (by omega),Bool.not_true,zD]
    have e:Int.tdiv ((s.size:Nat):Int) 2=((s.size/2:Nat):Int):=rfl
    rw[e,zj (by omega) (by omega),zT (by omega),zC,zT (by omega),zC]
    have:=zav s (by omega) (by omega) hd (s.size/2) 0 ag [] (by omega) (by rw[zu];omega) (by simp;omega)
    rw[show((0:Nat):Int)=0 from rfl,List.drop_zero,List.nil_append] at this
    dsimp only
    rw[this];rfl
theorem PW(n:Int)(h0:0<=n)(h1:n<=999):Q2 n=some ((n+1)/2):=by
 unfold Q2 pj
 obtain⟨m,rfl⟩:∃m:Nat,n=m:=⟨n.toNat,by omega⟩
 by_cases h:(m:Int)<1
 ·rw[zT h,zC]
  congr 1
  omega
 ·rw[zF h,zD,G9]
  have e:Int.tdiv (m:Int) 2=((m/2:Nat):Int):=rfl
  have e2:zW zI ((m/2:Nat):Int)=((m/2:Nat):Int):=zj (by omega) (by omega)
  rw[e,e2,zj (by omega) (by omega)]
  congr 1
  omega
theorem akE:∀d:Fin 16,d.1<=9->zW zU ((48:Int)+(d.1:Int))=48+(d.1:Int):=by decide+kernel
theorem K6{d:Nat}(h:d<=9):zW zU ((48:Int)+(d:Int))=48+(d:Int):=akE ⟨d,by omega⟩ h
theorem zoi(b:ByteArray)(hb0:b.size<=1099511627776)(nn:Nat)(hn:nn<=999)(m:Nat)(hm:m<=b.size):∀(n j k:Nat) (o:List Int),j+n=m->n<k->o.length+2*n<=35184372088832->∃o',jb k b (nn:Int) o (m:Int) (j:Int)=some (match gT (decide (nn % 2=1)) (((bl b).take m).drop j) j with
 |some e=> .inl ((nn:Int),bs [],e.1,e.2,o')
 |none=> .inr ((nn:Int),o++dZ (((bl b).take m).drop j)))
 |n,j,0,o,_,hk,_=>by omega
 |0,j,k+1,o,hj,hk,_=>by
  unfold jb mG
  rw[zF (by omega),zD,List.drop_eq_nil_of_le (by rw[List.length_take,zf];omega)]
  exact⟨o,by simp [gT,dZ]⟩
 |n+1,j,k+1,o,hj,hk,ho=>by
  have aq:j<b.size:=by omega
  have hl:j<(bl b).length:=by rw[zf];exact aq
  have hl2:j<((bl b).take m).length:=by rw[List.length_take];omega
  obtain⟨x,hx,_,_⟩:=nib (jI (List.getElem_mem hl))
  have AV:=x.2
  have ih:=zoi b hb0 nn hn m hm n (j+1) k (o++ [48+((x.1/16:Nat):Int),48+((x.1 % 16:Nat):Int)]) (by omega) (by omega) (by rw[List.length_append];simp only[List.length_cons,List.length_nil];omega)
  have hw:∀{R:Type} (z:Option R),zd (j:Int) b.size z=z:=fun z=>zh aq
  have iP:((bl b).take m).drop j=(x.1:Int)::((bl b).take m).drop (j+1):=by rw[List.drop_eq_getElem_cons hl2,List.getElem_take,hx]
  rw[iP,gT,dZ]
  unfold jb mG
  simp only[hw,Int.toNat_natCast,Rl hl,hx,(WC x).1,(WC x).2.1,G9]
  rw[zT (by omega:(j:Int)<(m:Int)),zC]
  have e16:(x.1:Int)/16=((x.1/16:Nat):Int):=by omega
  have e17:(x.1:Int)% 16=((x.1 % 16:Nat):Int):=by omega
  rw[e16,e17]
  have plain:∀(Z:Option (Sum (Int×ByteArray×Int×Int×List Int) (Int×List Int))),Z=(bif decide ((9:Int)<((x.1/16:Nat):Int)) then some (.inl ((nn:Int),bs [],(3:Int),(j:Int),o)) else bif decide ((9:Int)<((x.1 % 16:Nat):Int)) then some (.inl ((nn:Int),bs [],(3:Int),(j:Int),o)) else(bif decide ((o.length+(List.length ([zW zU (48+((x.1/16:Nat):Int)),zW zU (48+((x.1 % 16:Nat):Int))]:List Int)))*1<=140737488355328) then jb k b (nn:Int) (o++ [zW zU (48+((x.1/16:Nat):Int)),zW zU (48+((x.1 % 16:Nat):Int))]) (m:Int) (zW zI ((j:Int)+1)) else none))->
   ∃o',Z=some (match(if 9<((x.1/16:Nat):Int)\/9<((x.1 % 16:Nat):Int) then some ((3:Int),(j:Int)) else gT (decide (nn % 2=1)) (((bl b).take m).drop (j+1)) (j+1)) with
    |some e=> .inl ((nn:Int),bs [],e.1,e.2,o')
    |none=> .inr ((nn:Int),o++(48+((x.1/16:Nat):Int))::(48+((x.1 % 16:Nat):Int))::dZ (((bl b).take m).drop (j+1)))):=fun Z hZ=>by
   rw[hZ]
   by_cases c1:(9:Int)<((x.1/16:Nat):Int)
   ·rw[zT c1,if_pos (.inl c1)]
    exact⟨o,rfl⟩
   ·by_cases c2:(9:Int)<((x.1 % 16:Nat):Int)
    ·rw[zF c1,zD,zT c2,if_pos (.inr c2)]
     exact⟨o,rfl⟩
    ·rw[zF c1,zD,zF c2,zD,if_neg (fun h=>h.elim c1 c2),K6 (by omega),K6 (by omega),zT (by simp only[List.length_cons,List.length_nil];omega),zC,zr (by omega)]
     obtain⟨o',h⟩:=ih
     refine⟨o',h.trans ?_⟩
     rw[List.append_assoc]
     rfl
  by_cases j0:j=0
  ·subst j0
   rw[zT (by omega:((0:Nat):Int)=0),zC]
   by_cases hp:nn % 2=1
   ·rw[zT hp,zF (by omega:¬((nn % 2:Nat):Int)=0),Bool.not_false,zC]
    by_cases hz:x.1/16=0
    ·rw[if_neg (by omega),zT (by omega),Bool.not_true,zD]
     have:=plain _ rfl
     rw[zT hp] at this
     exact this
    ·rw[if_pos (by simp;omega),zF (by omega),Bool.not_false,zC]
     exact⟨o,rfl⟩
   ·rw[zF hp,zT (by omega:((nn % 2:Nat):Int)=0),Bool.not_true,zD,if_neg (by simp)]
    have:=plain _ rfl
    rw[zF hp] at this
    exact this
  ·rw[zF (by omega:¬(j:Int)=0),zD,if_neg (by omega)]
   exact plain _ rfl
theorem zhv(b:ByteArray)(n:Int)(hb:b.size<=1099511627776):Q0 b n=some (kV b n):=by
 unfold Q0 oV kV
 by_cases h0:n<0
 ·rw[zT h0,if_pos (.inl h0)];rfl
 ·rw[zF h0,zD]
  by_cases h1:999<n
  ·rw[zT h1,if_pos (.inr h1)];rfl
  ·rw[zF h1,zD,if_neg (fun h=>h.elim h0 h1),PW n (by omega) (by omega),zc]
   by_cases h2:(b.size:Int)<(n+1)/2
   ·rw[zT h2,if_pos h2];rfl
   ·rw[zF h2,zD,if_neg h2,zj (by omega) (by omega),zT (by omega),zC,zT (by omega),zC,zc]
    obtain⟨nn,rfl⟩:∃nn:Nat,n=nn:=⟨n.toNat,by omega⟩
    have em:((nn:Int)+1)/2=(((nn+1)/2:Nat):Int):=by omega
    have ep:((nn:Int)% 2).toNat=nn % 2:=by omega
    have eo:decide ((nn:Int)% 2=1)=decide (nn % 2=1):=decide_eq_decide.2 (by omega)
    rw[em,Int.toNat_natCast,eo,ep]
    obtain⟨o',h⟩:=zoi b hb nn (by omega) ((nn+1)/2) (by omega) ((nn+1)/2) 0 ag [] (by omega) (by rw[zu];omega) (by simp;omega)
    rw[show((0:Nat):Int)=0 from rfl,List.drop_zero,List.nil_append] at h
    dsimp only
    rw[h,zc]
    cases gT (decide (nn % 2=1)) ((bl b).take ((nn+1)/2)) 0 with
    |some e=>rfl
    |none=>
     dsimp only
     rw[Sum.elim_inr]
     unfold oW
     dsimp only
     rw[G9,zT (by omega),zC]
     have hlen:∀l:List Int,(dZ l).length=2*l.length:=fun l=>by
      induction l with
      |nil=>rfl
      |cons x r ih=>rw[dZ,List.length_cons,List.length_cons,ih,List.length_cons];omega
     rw[zT (by rw[hlen,List.length_take,zf];omega),zC,Int.toNat_natCast,List.take_length]
theorem rU{a:Int}{l:List Int}:bE (a::l)=true↔cI a=true/\bE l=true:=by
 rw[zhp,Bool.and_eq_true]
theorem z31{a:Int}:cI a=true↔48<=a/\a<=57:=by
 unfold cI
 rw[decide_eq_true_eq]
theorem zqn:∀l:List Int,(ea l).length=l.length/2
 | []=>rfl
 | [a]=>by simp [ea]
 |a::b::r=>by rw[ea,List.length_cons,zqn r,List.length_cons,List.length_cons];omega
theorem zqm:∀l:List Int,(dZ l).length=2*l.length
 | []=>rfl
 |x::r=>by rw[dZ,List.length_cons,List.length_cons,zqm r,List.length_cons];omega
theorem LF:∀{l:List Int},bE l=true->∀y∈ea l,zm y
 | [],_,y,hy=>by simp [ea] at hy
 | [a],_,y,hy=>by simp [ea] at hy
 |a::b::r,h,y,hy=>by
  obtain⟨h1,h2⟩:=rU.1 h
  obtain⟨h2,h3⟩:=rU.1 h2
  rw[z31] at h1 h2
  rw[ea] at hy
  rcases List.mem_cons.1 hy with rfl|hy
  ·unfold zm;omega
  ·exact LF h3 y hy
theorem Ao:∀{l:List Int},l.length % 2=0->bE l=true->dZ (ea l)=l
 | [],_,_=>by simp [ea,dZ]
 | [a],h,_=>by simp at h
 |a::b::r,h,hd=>by
  obtain⟨h1,h2⟩:=rU.1 hd
  obtain⟨h2,h3⟩:=rU.1 h2
  rw[z31] at h1 h2
  rw[ea,dZ,Ao (by simp only[List.length_cons] at h;omega) h3,show 48+(16*(a-48)+(b-48))/16=a by omega,show 48+(16*(a-48)+(b-48))% 16=b by omega]
theorem An(odd:Bool):∀{l:List Int} {i:Nat},l.length % 2=0->bE l=true->(i=0->odd=true->l.getD 0 48=48)->gT odd (ea l) i=none
 | [],_,_,_,_=>by simp [ea,gT]
 | [a],_,h,_,_=>by simp at h
 |a::b::r,i,h,hd,ho=>by
  obtain⟨h1,h2⟩:=rU.1 hd
  obtain⟨h2,h3⟩:=rU.1 h2
  rw[z31] at h1 h2
  rw[ea,gT,if_neg,if_neg (by omega)]
  ·exact An odd (by simp only[List.length_cons] at h;omega) h3 fun hi=>by omega
  ·rintro⟨e1,e2,e3⟩
   have:a=48:=ho e1 e2
   omega
def il(s:ByteArray):List Int:=if s.size % 2=1 then 48::bl s else bl s
theorem LG(s:ByteArray):(il s).length % 2=0:=by
 unfold il
 split
 ·rw[List.length_cons,zf];omega
 ·rw[zf];omega
theorem M8(s:ByteArray):(il s).length/2=(s.size+1)/2:=by
 unfold il
 split
 ·rw[List.length_cons,zf]
 ·rw[zf];omega
theorem zqo{s:ByteArray}(h:bE (bl s)=true):bE (il s)=true:=by
 unfold il
 split
 ·exact rU.2 ⟨rfl,h⟩
 ·exact h
theorem zhy{s:ByteArray}(h:s.size<=999)(hd:bE (bl s)=true):qM s=(strOf (ea (il s)),true):=by
 unfold qM il
 rw[zT ⟨h,hd⟩,zC]
theorem zaw{s:ByteArray}(h:s.size<=999)(hd:bE (bl s)=true):(qM s).1.size=(s.size+1)/2:=by
 rw[zhy h hd]
 show(strOf _).size=_
 rw[vG,zqn,M8]
theorem ajM{s:ByteArray}(h:s.size<=999)(hd:bE (bl s)=true):kV (qM s).1 (s.size:Int)=(s,0,0):=by
 have dm:=zaw h hd
 have hb:bl (qM s).1=ea (il s):=by rw[zhy h hd];exact sD (LF (zqo hd))
 unfold kV
 rw[if_neg (by omega),if_neg (by rw[dm];omega),hb,List.take_of_length_le (by rw[zqn,M8];omega),An _ (LG s) (zqo hd),Ao (LG s) (zqo hd)]
 ·dsimp only
  by_cases hp:s.size % 2=1
  ·rw[show((s.size:Int)% 2).toNat=1 by omega]
   unfold il
   rw[if_pos hp,List.drop_succ_cons,List.drop_zero,Fx]
  ·rw[show((s.size:Int)% 2).toNat=0 by omega]
   unfold il
   rw[if_neg hp,List.drop_zero,Fx]
 ·intro _ ho
  have ho:=of_decide_eq_true ho
  unfold il
  rw[if_pos (by omega)];rfl
theorem LD{odd:Bool}:∀{l:List Int} {i:Nat},gT odd l i=none->(∀x∈l,x/16<=9/\x % 16<=9)/\(i=0->odd=true->l.getD 0 0/16=0)
 | [],i,_=>⟨fun x hx=>(by cases hx),fun _ _=>rfl⟩
 |a::r,i,h=>by
  rw[gT] at h
  by_cases h1:i=0/\odd=true/\a/16≠0
  ·rw[if_pos h1] at h;cases h
  ·rw[if_neg h1] at h
   by_cases h2:9<a/16\/9<a % 16
   ·rw[if_pos h2] at h;cases h
   ·rw[if_neg h2] at h
    refine⟨fun x hx=> ?_,fun hi ho=> ?_⟩
    ·rcases List.mem_cons.1 hx with rfl|hx
     ·omega
     ·exact(LD h).1 x hx
    ·show a/16=0
     by_cases h3:a/16=0
     ·exact h3
     ·exact absurd ⟨hi,ho,h3⟩ h1
theorem Ap:∀{l:List Int},(∀x∈l,zm x)->ea (dZ l)=l
 | [],_=>by simp [dZ,ea]
 |x::r,h=>by
  have hx:=h x List.mem_cons_self
  unfold zm at hx
  rw[dZ,ea,Ap fun y hy=>h y (List.mem_cons_of_mem _ hy),show 16*(48+x/16-48)+(48+x % 16-48)=x by omega]
theorem z173:∀{l:List Int},(∀x∈l,zm x)->(∀x∈l,x/16<=9/\x % 16<=9)->bE (dZ l)=true
 | [],_,_=>rfl
 |x::r,h,h9=>by
  have hx:=h x List.mem_cons_self
  have hy:=h9 x List.mem_cons_self
  unfold zm at hx
  rw[dZ]
  exact rU.2 ⟨z31.2 (by omega),rU.2 ⟨z31.2 (by omega),z173 (fun y hy=>h y (List.mem_cons_of_mem _ hy)) fun y hy=>h9 y (List.mem_cons_of_mem _ hy)⟩⟩
theorem LV{l:List Int}(h:bE l=true):∀x∈l,zm x:=fun x hx=>by
 have:=z31.1 (List.all_eq_true.1 h x hx)
 unfold zm;omega
theorem z124{b t:ByteArray}{n i:Int}(h:kV b n=(t,0,i))(hb:(b.size:Int)=(n+1)/2):qM t=(b,true)/\(t.size:Int)=n/\bE (bl t)=true:=by
 unfold kV at h
 by_cases h0:n<0\/999<n
 ·rw[if_pos h0] at h;cases h
 ·rw[if_neg h0,if_neg (by omega),<-hb,Int.toNat_natCast,List.take_of_length_le (by rw[zf];exact Nat.le_refl _)] at h
  cases he:gT (decide (n % 2=1)) (bl b) 0 with
  |some e=>
   rw[he] at h
   dsimp only at h
   injection h with _ h
   injection h with h _
   exfalso
   have key:∀{l:List Int} {i:Nat} {odd:Bool} {e:Int×Int},gT odd l i=some e->e.1≠0:=by
    intro l
    induction l with
    |nil=>intro i odd e h;cases h
    |cons a r ih=>
     intro i odd e h
     rw[gT] at h
     split at h
     ·cases h;decide
     ·split at h
      ·cases h;simp
      ·exact ih h
   exact key he h
  |none=>
   rw[he] at h
   dsimp only at h
   obtain⟨g1,g2⟩:=LD he
   have nG:∀x∈bl b,zm x:=fun x hx=>jI hx
   have cR:=z173 nG g1
   have ht:t=strOf ((dZ (bl b)).drop (n % 2).toNat):=(congrArg Prod.fst h).symm
   have Az:bE ((dZ (bl b)).drop (n % 2).toNat)=true:=List.all_eq_true.2 fun x hx=>List.all_eq_true.1 cR x (List.mem_of_mem_drop hx)
   have dn:bl t=(dZ (bl b)).drop (n % 2).toNat:=by rw[ht];exact sD (LV Az)
   have kD:t.size=2*b.size-(n % 2).toNat:=by rw[<-zf,dn,List.length_drop,zqm,zf]
   have hX:il t=dZ (bl b):=by
    unfold il
    by_cases hp:n % 2=1
    ·rw[if_pos (by omega),dn,show(n % 2).toNat=1 by omega]
     have h1:=g2 rfl (by rw[zT hp])
     cases hl:bl b with
     |nil=>
      have h9:b.size=0:=by rw[<-zf,hl];rfl
      omega
     |cons x r=>
      rw[hl] at h1
      have h1:x/16=0:=h1
      rw[dZ,List.drop_succ_cons,List.drop_zero,h1];rfl
    ·rw[if_neg (by omega),dn,show(n % 2).toNat=0 by omega,List.drop_zero]
   have hd:bE (bl t)=true:=by rw[dn];exact Az
   refine⟨?_,by omega,hd⟩
   rw[zhy (by omega) hd,hX,Ap nG,Fx]
def gx(ae form:Int):Bool:=decide ((ae=1\/ae=2)/\(form=2\/form=3))
def kR(ae form:Int):Nat:=if ae=2 then(form.toNat+1)/2 else form.toNat
def Ge(ae form n:Int):ByteArray×Int:=
 bif gx ae form then(bif(jG n form).2 then(if ae=2 then(qM (jG n form).1).1 else(jG n form).1,0) else(bs [],5)) else(bs [],1)
def uN(ae form:Int)(s:ByteArray):Option Int:=
 if ae=2 then(if(kV s form).2.1=0 then(if(eg (bl (kV s form).1)).2=true then some (eg (bl (kV s form).1)).1 else none) else none) else if(eg (bl s)).2=true then some (eg (bl s)).1 else none
def lM(ae form:Int)(b:ByteArray)(at_:Int):Int×Int×Int:=
 bif gx ae form&&decide (0<=at_/\at_<=b.size) then(if b.size<at_.toNat+kR ae form then(0,0,2) else
  match uN ae form (b.extract at_.toNat (at_.toNat+kR ae form)) with
  |some n=>(n,((at_.toNat+kR ae form:Nat):Int),0)
  |none=>(0,0,3)) else(0,0,1)
theorem MF(n w:Int):(jG n w).1.size<=18:=by
 by_cases h:0<=n/\1<=w/\w<=18/\n.toNat/10^w.toNat=0
 ·rw[E3 h];show(strOf _).size<=18;rw[vG,ze0];omega
 ·rw[RX h];decide
theorem ahh(ae form n:Int)(hn:n<=9223372036854775807):qW ae form n=some (Ge ae form n):=by
 unfold qW Va qX QO jU QP Ge gx
 by_cases h1:ae=1<;>by_cases h2:ae=2<;>by_cases h3:form=2<;>by_cases h4:form=3<;>(try(exfalso;omega))<;>simp [h1,h2,h3,h4,ant _ _ hn]
 all_goals
  cases hp:(jG n _).2<;>simp [hp]
 all_goals
  rw[zhw _ (by have:=MF n;simp only[maxLen];first|(have:=this 2;omega)|(have:=this 3;omega))]
  rfl
theorem Fs{b:ByteArray}{i n:Nat}(h:i+n<=b.size):(b.extract i (i+n)).size=n:=by rw[ByteArray.size_extract];omega
theorem zau{b t:ByteArray}{n e i:Int}(h:kV b n=(t,e,i)):t.size<=1998:=by
 unfold kV at h
 split at h
 ·cases h;decide
 ·split at h
  ·cases h;decide
  ·split at h
   ·cases h;decide
   ·cases h
    rw[vG,List.length_drop,zqm,List.length_take]
    omega
theorem ahe(ae form:Int)(b:ByteArray)(at_:Int)(hb:b.size<=1099511627776):tg ae form b at_=some (lM ae form b at_):=by
 unfold tg U7 qX QO jU QP lM gx
 by_cases ci:0<=at_/\at_<=b.size
 ·obtain⟨m,rfl⟩:∃m:Nat,at_=m:=⟨at_.toNat,by omega⟩
  have hm:m<=b.size:=by omega
  have w0:zW zI ((b.size:Int)-(m:Int))=(b.size:Int)-m:=zj (by omega) (by omega)
  have w1:∀k:Nat,k<=3->zW zI ((m:Int)+(k:Int))=((m+k:Nat):Int):=fun k hk=>by rw[zj (by omega) (by omega)];omega
  have z1:=PW 2 (by decide) (by decide)
  have z2:=PW 3 (by decide) (by decide)
  have v1:=w1 1 (by decide)
  have v2:=w1 2 (by decide)
  have v3:=w1 3 (by decide)
  rw[show((1:Nat):Int)=1 from rfl] at v1
  rw[show((2:Nat):Int)=2 from rfl] at v2
  rw[show((3:Nat):Int)=3 from rfl] at v3
  have t2:((m:Int)+2).toNat=m+2:=by omega
  have t3:((m:Int)+3).toNat=m+3:=by omega
  have a1:¬(m:Int)<0:=by omega
  have a2:¬(b.size:Int)<m:=by omega
  have a3:0<=((m:Int)):=by omega
  have a4:(m:Int)<=b.size:=by omega
  by_cases h1:ae=1<;>by_cases h2:ae=2<;>by_cases h3:form=2<;>by_cases h4:form=3<;>(try(exfalso;omega))<;>simp [h1,h2,h3,h4,a1,a2,w0,z1,z2,v1,v2,v3,kR]
  all_goals
   rw[zT hm,zC]
   split
   ·rename_i hc
    rw[zT (by omega),zC]
   ·rename_i hc
    rw[zF (by omega),zD,zT (by omega),zC,zT (by omega),zC,zT (by omega),zC]
    try rw[t2]
    try rw[t3]
    first
     |(rw[Pf _ (by rw[ByteArray.size_extract];simp only[maxLen];omega),zc]
       unfold uN
       rw[if_neg (by decide)]
       cases(eg _).2<;>rfl)
     |(rw[zhv _ _ (by rw[ByteArray.size_extract];omega),zc]
       unfold uN
       rw[if_pos rfl]
       generalize hg:kV _ _=gg
       obtain⟨t,e,i⟩:=gg
       dsimp only
       by_cases he:e=0
       ·rw[zT he,zC,if_pos he,Pf _ (by have:=zau hg;simp only[maxLen];omega),zc]
        cases(eg _).2<;>rfl
       ·rw[zF he,if_neg he];rfl)
 ·rw[zF (p:=0<=at_/\at_<=(b.size:Int)) ci,Bool.and_false,zD]
  by_cases h1:ae=1<;>by_cases h2:ae=2<;>by_cases h3:form=2<;>by_cases h4:form=3<;>(try(exfalso;omega))<;>by_cases h5:at_<0<;>by_cases h6:(b.size:Int)<at_<;>(try(exfalso;omega))<;>simp [h1,h2,h3,h4,h5,h6]
theorem DI(n:Int):Q4 n=some (if n<0\/65535<n then 0 else if 255<n then 3 else if 127<n then 2 else 1):=by
 unfold Q4 pw
 by_cases h1:n<0
 ·rw[zT h1,if_pos (.inl h1)];rfl
 by_cases h2:(65535:Int)<n
 ·rw[zF h1,zT h2,if_pos (.inr h2)];rfl
 rw[zF h1,zF h2,if_neg (by omega)]
 by_cases h3:(255:Int)<n
 ·rw[zT h3,if_pos h3];rfl
 by_cases h4:(127:Int)<n
 ·rw[zF h3,zT h4,if_neg h3,if_pos h4];rfl
 ·rw[zF h3,zF h4,if_neg h3,if_neg h4];rfl
theorem Av:∃k,ag=k+1+1+1:=⟨ag-3,by rw[zu]⟩
theorem OY{y:Int}(hy:zm y):aQ .or .i64 (zW zI (0*2^min (8:Int).toNat 64)) (zW zI y)=y:=by
 obtain⟨k,rfl⟩:=mC hy
 clear hy
 revert k
 decide+kernel
theorem af8(s:ByteArray)(hs:s.size<=9223372036854775000)(a:Int):Q3 s a=yJ s a:=by
 unfold Q3 kZ yJ RI
 by_cases h1:a<0
 ·rw[zT h1];rfl
 rw[zF h1,zD,zD]
 by_cases h2:(s.size:Int)<a
 ·rw[zT h2];rfl
 rw[zF h2,zD,zD]
 by_cases h3:a=(s.size:Int)
 ·rw[zT h3];rfl
 have wa:∀{R:Type} (x:Option R),zd a s.size x=x:=fun x=>zn (by omega) (by omega)
 rw[zF h3,zD,zD]
 simp only[wa]
 obtain⟨x,hx⟩:=mC (u7 s a.toNat)
 have AV:=x.2
 have w1:zW zI (a+1)=a+1:=zj (by omega) (by omega)
 have w2:zW zI (x.1:Int)=(x.1:Int):=zj (by omega) (by omega)
 have w4:zW zI ((s.size:Int)-a)=(s.size:Int)-a:=zj (by omega) (by omega)
 have w5:zW zI ((s.size:Int)-(a+1))=(s.size:Int)-(a+1):=zj (by omega) (by omega)
 have w6:zW zI ((x.1:Int)-128)=(x.1:Int)-128:=zj (by omega) (by omega)
 have w7:zW zI ((x.1:Int)-127)=(x.1:Int)-127:=zj (by omega) (by omega)
 obtain⟨k,hk⟩:=Av
 simp only[hx,w2,w1,w4,w5,w6,w7,hk]
 by_cases h4:(127:Int)<(x.1:Int)
 ·rw[zT h4,zC,zF (by omega:¬(x.1:Int)<128),zD]
  by_cases h5:(x.1:Int)=129
  ·have wn:zW zI (0+1)=1:=rfl
   simp only[h5]
   by_cases h6:(s.size:Int)-a<2
   ·have e1:((s.size:Int)-(a+1)<129-128):=by omega
    have e2:((s.size:Int)-a<129-127):=by omega
    rw[zT e1,zT e2];rfl
   ·have e1:¬((s.size:Int)-(a+1)<129-128):=by omega
    have e2:¬((s.size:Int)-a<129-127):=by omega
    have wb:∀{R:Type} (x:Option R),zd (a+1) s.size x=x:=fun x=>zn (by omega) (by omega)
    have wc:∀{R:Type} (x:Option R),zd (zW zI (a+1+0)) s.size x=x:=fun x=>by rw[Int.add_zero,w1];exact wb x
    obtain⟨y,hy⟩:=mC (u7 s (a+1).toNat)
    have Sy:=y.2
    have w3:zW zI (y.1:Int)=(y.1:Int):=zj (by omega) (by omega)
    have oz:=OY (y:=(y.1:Int)) ⟨by omega,by omega⟩
    rw[w3] at oz
    rw[zF e1,zF e2]
    have l1:eV (k+1+1+1) s (a+1) 0 (129-128) (129-128) 0=some (a+1,(y.1:Int),129-128):=by
     simp only[eV,ld]
     rw[show decide ((0:Int)<129-128)=true from rfl,zC,wc,wn,show decide ((1:Int)<129-128)=false from rfl,zD,Int.add_zero,w1,hy,w3,oz]
    simp only[wb,hy,w3]
    show(eV (k+1+1+1) s (a+1) 0 (129-128) (129-128) 0).bind _=_
    rw[l1,Option.bind_some]
    unfold lf
    dsimp only
    rw[DI,Option.bind_some]
    by_cases h7:(y.1:Int)<128
    ·rw[if_neg (by omega),if_neg (by omega),if_neg (by omega),zT h7];rfl
    ·rw[if_neg (by omega),if_neg (by omega),if_pos (by omega),zF h7]
     have:zW zI (a+1+(129-128))=zW zI (a+2):=by congr 1;omega
     simp only[this]
     rfl
  ·by_cases h6:(x.1:Int)=130
   ·have wn:zW zI (0+1)=1:=rfl
    have wm:zW zI (1+1)=2:=rfl
    simp only[h6]
    by_cases h7:(s.size:Int)-a<3
    ·have e1:((s.size:Int)-(a+1)<130-128):=by omega
     have e2:((s.size:Int)-a<130-127):=by omega
     rw[zT e1,zT e2];rfl
    ·have e1:¬((s.size:Int)-(a+1)<130-128):=by omega
     have e2:¬((s.size:Int)-a<130-127):=by omega
     have wb:∀{R:Type} (x:Option R),zd (a+1) s.size x=x:=fun x=>zn (by omega) (by omega)
     have w8:zW zI (a+2)=a+2:=zj (by omega) (by omega)
     have w9:zW zI (a+1+1)=a+2:=by rw[zj (by omega) (by omega)];omega
     have wd:∀{R:Type} (x:Option R),zd (a+2) s.size x=x:=fun x=>zn (by omega) (by omega)
     obtain⟨y,hy⟩:=mC (u7 s (a+1).toNat)
     obtain⟨z,hz⟩:=mC (u7 s (a+2).toNat)
     have Sy:=y.2
     have hz2:=z.2
     have w3:zW zI (y.1:Int)=(y.1:Int):=zj (by omega) (by omega)
     have Lu:zW zI (z.1:Int)=(z.1:Int):=zj (by omega) (by omega)
     have oz:=OY (y:=(y.1:Int)) ⟨by omega,by omega⟩
     have ob:=zr5 (x:=(y.1:Int)) (y:=(z.1:Int)) ⟨by omega,by omega⟩ ⟨by omega,by omega⟩
     rw[w3] at oz
     rw[w3,Lu] at ob
     rw[zF e1,zF e2]
     have l1:eV (k+1+1+1) s (a+1) 0 (130-128) (130-128) 0=some (a+1,(y.1:Int)*256+(z.1:Int),130-128):=by
      simp only[eV,ld]
      rw[show decide ((0:Int)<130-128)=true from rfl,zC,wn,wm,show decide ((1:Int)<130-128)=true from rfl,zC,show decide ((2:Int)<130-128)=false from rfl,zD,Int.add_zero,w1,wb,w9,wd,hy,hz,w3,Lu,oz,ob]
     have w5':zW zI (256*(y.1:Int))=256*(y.1:Int):=zj (by omega) (by omega)
     have w6':zW zI (256*(y.1:Int)+(z.1:Int))=(y.1:Int)*256+(z.1:Int):=by rw[zj (by omega) (by omega)];omega
     simp only[wb,w8,wd,hy,hz,w3,Lu,w5',w6']
     show(eV (k+1+1+1) s (a+1) 0 (130-128) (130-128) 0).bind _=_
     rw[l1,Option.bind_some]
     unfold lf
     dsimp only
     rw[DI,Option.bind_some]
     by_cases h8:(y.1:Int)=0
     ·rw[if_neg (by omega),if_neg (by omega),zT h8]
      by_cases h9:(127:Int)<(y.1:Int)*256+(z.1:Int)
      ·rw[if_pos h9];rfl
      ·rw[if_neg h9];rfl
     ·rw[if_neg (by omega),if_pos (by omega),zF h8]
      have:zW zI (a+1+(130-128))=zW zI (a+3):=by congr 1;omega
      simp only[this]
      rfl
   ·rw[zF h5,zF h6]
    by_cases h7:(x.1:Int)=128
    ·rw[zT h7];rfl
    ·rw[zF h7,zT (by omega:(130:Int)<(x.1:Int))];rfl
 ·rw[zF h4,zD,zT (by omega:(x.1:Int)<128),zC,zF (by omega:¬(s.size:Int)-(a+1)<0),zD]
  have l1:eV (k+1+1+1) s (a+1) (x.1:Int) 0 0 0=some (a+1,(x.1:Int),0):=by
   simp only[eV,ld]
   rw[show decide ((0:Int)<0)=false from rfl,zD]
  show(eV (k+1+1+1) s (a+1) (x.1:Int) 0 0 0).bind _=_
  rw[l1,Option.bind_some]
  unfold lf
  dsimp only
  rw[DI,Option.bind_some,if_neg (by omega),if_neg (by omega),if_neg (by omega),Int.add_zero,w1]
  rfl
abbrev bh:=Int×ByteArray×Unit
theorem zvj(l:List bh)(hl:l.length<=9223372036854775807)(t:Int):∀(m j k:Nat),j+m=l.length->m<k->Gb k l (l.length:Int) t (j:Int)=some (if t∈(l.drop j).map (fun v=>v.1) then .inl true else .inr ())
 |m,j,0,_,hk=>by omega
 |0,j,k+1,hj,hk=>by
  unfold Gb RL
  rw[zF (by omega),List.drop_eq_nil_of_le (by omega)];rfl
 |m+1,j,k+1,hj,hk=>by
  have aq:j<l.length:=by omega
  have hg:∀d,l.getD j d=l[j]:=fun d=>by rw[List.getD_eq_getElem?_getD,List.getElem?_eq_getElem aq];rfl
  unfold Gb RL
  rw[zT (by omega),zC,zh aq,Int.toNat_natCast,hg,List.drop_eq_getElem_cons aq,List.map_cons]
  by_cases h:l[j].1=t
  ·rw[zT h,if_pos (by rw[h];exact List.mem_cons_self)];rfl
  ·rw[zF h,zD,zr (by omega)]
   dsimp only
   rw[zvj l hl t m (j+1) k (by omega) (by omega)]
   by_cases h2:t∈(l.drop (j+1)).map (fun v=>v.1)
   ·rw[if_pos h2,if_pos (List.mem_cons_of_mem _ h2)]
   ·rw[if_neg h2,if_neg (fun h3=>(List.mem_cons.1 h3).elim (fun e=>h e.symm) h2)]
theorem Ns(l:List bh)(hl:l.length<=maxLen)(t:Int):IX l (l.length:Int) t=some (decide (t∈l.map fun v=>v.1)):=by
 rw[zi] at hl
 unfold IX YC
 dsimp only
 have:=zvj l hl t l.length 0 ag (by omega) (by rw[zu];omega)
 rw[show((0:Nat):Int)=(0:Int) from rfl,List.drop_zero] at this
 rw[this,Option.bind_some]
 by_cases h:t∈l.map fun v=>v.1
 ·rw[if_pos h,zT h];rfl
 ·rw[if_neg h,zF h];rfl
theorem NU(b:ByteArray)(hb:b.size<=9223372036854775000):∀(k:Nat) (t5:List bh) (t7:Int),t5.length<=5864062014805->Hr k b t5 t7 (dQ (t5.map fun v=>v.1))=BH k b t5 t7
 |0,_,_,_=>rfl
 |k+1,t5,t7,hl=>by
  unfold Hr V7 BH RK
  rw[ahx b hb]
  generalize decide (t7<(b.size:Int))=c0
  cases c0 with
  |false=>rfl
  |true=>
   simp only[zC]
   cases yI b t7 with
   |none=>rfl
   |some r1=>
    simp only[Option.bind_some]
    generalize(!decide (r1.2.2=0))=c1
    cases c1 with
    |true=>rfl
    |false=>
     simp only[zD]
     rw[af8 b hb]
     cases yJ b r1.2.1 with
     |none=>rfl
     |some r2=>
      simp only[Option.bind_some]
      generalize(!decide (r2.2.2=0))=c2
      cases c2 with
      |true=>rfl
      |false=>
       simp only[zD]
       generalize decide (zW zI ((b.size:Int)-r2.2.1)<r2.1)=c3
       cases c3 with
       |true=>rfl
       |false=>
        simp only[zD]
        rw[Ns t5 (by rw[zi];omega),Option.bind_some]
        have e1:=Tk (gd (.int .i64)) (fun _ _=>rfl) r1.1 (t5.map fun v=>v.1)
        have e2:=Tl (gd (.int .i64)) (fun _ _=>rfl) r1.1 (t5.map fun v=>v.1)
        by_cases hm:r1.1∈t5.map fun v=>v.1
        ·rw[e1.2 hm,zT hm];rfl
        ·rw[Fm e1 hm,Fm e2 hm,zF hm]
         simp only[zD]
         rw[za0]
         have hs:(t5.map fun v=>v.1)++ [r1.1]=(t5++ [((r1.1,(b.extract r2.2.1.toNat (zW zI (r2.2.1+r2.1)).toNat),()):bh)]).map fun v=>v.1:=by simp
         rw[hs]
         by_cases hn:(t5.length+1)*24<=140737488355328
         ·rw[NU b hb k _ _ (by simp;omega)]
         ·have:decide ((t5.length+(List.length ([(r1.1,(b.extract r2.2.1.toNat (zW zI (r2.2.1+r2.1)).toNat),())]:List bh)))*24<=140737488355328)=false:=zF (by simp;omega)
          simp only[this,zD]
theorem ahA(b:ByteArray)(hb:b.size<=9223372036854775000):tH b=yK b:=by
 unfold tH V6 yK RJ
 dsimp only
 have:=NU b hb ag [] 0 (by simp)
 rw[show dQ (([]:List bh).map fun v=>v.1)=[] from rfl] at this
 rw[this]
 rfl
theorem ajE(s:Spec)(x:ByteArray)(hx:x.size<=9223372036854775000):bX s x=mO s x:=by
 unfold bX VO mO HF
 rw[PS,vE,ahV _ _ (by rw[zi];omega),zdf _ _ (by rw[zi];omega),ahA x hx]
theorem z194(a b:Spec):lR a b=vm a b:=by
 unfold lR VP vm HG wg VQ
 rw[PS,vE,PS,vE,ajF,zdn]
 simp only[Option.bind_some]
 by_cases h1:bM a=0
 ·by_cases h2:bM b=0
  ·simp only[h1,h2,decide_true,zC,Bool.not_true,zD]
   by_cases h3:a.2.2.2.1<=b.2.2.2.1
   ·rw[zT h3,zF (by omega:¬b.2.2.2.1<a.2.2.2.1)]
    by_cases h4:b.2.2.2.2.1<=a.2.2.2.2.1
    ·rw[zT h4,zF (by omega:¬a.2.2.2.2.1<b.2.2.2.2.1)]
     simp only[zC,zD]
     by_cases h5:a.2.1=5
     ·simp [h5]
     ·by_cases h6:a.2.1=6
      ·simp [h6]
      ·by_cases h7:b.2.1=6
       ·simp [h5,h6,h7]
       ·simp [h5,h6,h7]
    ·rw[zF h4,zT (by omega:a.2.2.2.2.1<b.2.2.2.2.1)];rfl
   ·rw[zF h3,zT (by omega:b.2.2.2.1<a.2.2.2.1)];rfl
  ·simp [h1,h2]
 ·simp [h1]
theorem ahy(s:ByteArray)(hs:s.size<=9223372036854775000)(a:Int)(h0:0<=a)(h1:a<s.size):∃r,yI s a=some r/\(r.2.2=0->a<r.2.1/\r.2.1<=s.size):=by
 unfold yI RH
 have wa:∀{R:Type} (x:Option R),zd a s.size x=x:=fun x=>zn (by omega) (by omega)
 rw[zF (by omega:¬a<0),zF (by omega:¬(s.size:Int)<a),zF (by omega:¬a=(s.size:Int))]
 simp only[zD,wa]
 obtain⟨x,hx⟩:=mC (u7 s a.toNat)
 have w1:zW zI (a+1)=a+1:=zj (by omega) (by omega)
 have w4:zW zI ((s.size:Int)-a)=(s.size:Int)-a:=zj (by omega) (by omega)
 rw[hx,w1,w4]
 rcases ze2 x with h|⟨h,Cg⟩|⟨h,Cg⟩
 ·rw[h];exact⟨_,rfl,fun h=>by cases h⟩
 ·rw[h]
  exact⟨_,rfl,fun _=>⟨by show a<a+1;omega,by show a+1<=_;omega⟩⟩
 ·rw[h,Option.bind_some]
  simp only[show decide ((2:Int)=0)=false from rfl,show decide ((2:Int)=1)=false from rfl,zD]
  by_cases h4:(s.size:Int)-a<2
  ·rw[zT h4];exact⟨_,rfl,fun h=>by cases h⟩
  ·have wb:∀{R:Type} (x:Option R),zd (a+1) s.size x=x:=fun x=>zn (by omega) (by omega)
   have w2:zW zI (a+2)=a+2:=zj (by omega) (by omega)
   rw[zF h4]
   simp only[zD,wb]
   generalize decide (ze s (a+1).toNat=0)=c1
   generalize decide ((127:Int)<ze s (a+1).toNat)=c2
   cases c1
   ·cases c2
    ·exact⟨_,rfl,fun _=>⟨by show a<zW zI (a+2);rw[w2];omega,by show zW zI (a+2)<=_;rw[w2];omega⟩⟩
    ·exact⟨_,rfl,fun h=>by cases h⟩
   ·exact⟨_,rfl,fun h=>by cases h⟩
theorem af9(s:ByteArray)(hs:s.size<=9223372036854775000)(a:Int)(h0:0<=a)(h1:a<=s.size):∃r,yJ s a=some r/\(r.2.2=0->a<r.2.1/\r.2.1<=s.size/\0<=r.1/\r.1<=65535):=by
 unfold yJ RI
 rw[zF (by omega:¬a<0),zF (by omega:¬(s.size:Int)<a)]
 simp only[zD]
 by_cases he:a=(s.size:Int)
 ·rw[zT he];exact⟨_,rfl,fun h=>by cases h⟩
 have wa:∀{R:Type} (x:Option R),zd a s.size x=x:=fun x=>zn (by omega) (by omega)
 rw[zF he]
 simp only[zD,wa]
 obtain⟨x,hx⟩:=mC (u7 s a.toNat)
 have AV:=x.2
 have w1:zW zI (a+1)=a+1:=zj (by omega) (by omega)
 have w2:zW zI (x.1:Int)=(x.1:Int):=zj (by omega) (by omega)
 have w4:zW zI ((s.size:Int)-a)=(s.size:Int)-a:=zj (by omega) (by omega)
 have w7:zW zI ((x.1:Int)-127)=(x.1:Int)-127:=zj (by omega) (by omega)
 simp only[hx,w2,w1,w4,w7]
 by_cases h4:(x.1:Int)<128
 ·rw[zT h4]
  exact⟨_,rfl,fun _=>⟨by show a<a+1;omega,by show a+1<=_;omega,by show(0:Int)<=(x.1:Int);omega,by show(x.1:Int)<=65535;omega⟩⟩
 rw[zF h4]
 have Zu:∀i,zm (ze s i):=u7 s
 by_cases h5:(x.1:Int)=129
 ·have wb:(s.size:Int)-a<(x.1:Int)-127\/∀{R:Type} (x:Option R),zd (a+1) s.size x=x:=by
   by_cases h:(s.size:Int)-a<(x.1:Int)-127
   ·exact .inl h
   ·exact .inr fun x=>zn (by omega) (by omega)
  rw[zT h5]
  simp only[Bool.not_true,zD,zC]
  by_cases h6:(s.size:Int)-a<(x.1:Int)-127
  ·rw[zT h6];exact⟨_,rfl,fun h=>by cases h⟩
  ·have wb:∀{R:Type} (x:Option R),zd (a+1) s.size x=x:=fun x=>zn (by omega) (by omega)
   have w8:zW zI (a+2)=a+2:=zj (by omega) (by omega)
   obtain⟨y,hy⟩:=mC (Zu (a+1).toNat)
   have Sy:=y.2
   have w3:zW zI (y.1:Int)=(y.1:Int):=zj (by omega) (by omega)
   rw[zF h6]
   simp only[zD,wb,hy,w3,w8]
   generalize decide ((y.1:Int)<128)=c
   cases c
   ·exact⟨_,rfl,fun _=>⟨by show a<a+2;omega,by show a+2<=_;omega,by show(0:Int)<=(y.1:Int);omega,by show(y.1:Int)<=65535;omega⟩⟩
   ·exact⟨_,rfl,fun h=>by cases h⟩
 ·rw[zF h5]
  simp only[Bool.not_false,zD,zC]
  by_cases h9:(x.1:Int)=130
  ·rw[zT h9]
   simp only[Bool.not_true,zD]
   by_cases h6:(s.size:Int)-a<(x.1:Int)-127
   ·rw[zT h6];exact⟨_,rfl,fun h=>by cases h⟩
   ·have wb:∀{R:Type} (x:Option R),zd (a+1) s.size x=x:=fun x=>zn (by omega) (by omega)
    have w8:zW zI (a+2)=a+2:=zj (by omega) (by omega)
    have w9:zW zI (a+3)=a+3:=zj (by omega) (by omega)
    have wd:∀{R:Type} (x:Option R),zd (a+2) s.size x=x:=fun x=>zn (by omega) (by omega)
    obtain⟨y,hy⟩:=mC (Zu (a+1).toNat)
    obtain⟨z,hz⟩:=mC (Zu (a+2).toNat)
    have Sy:=y.2
    have hz2:=z.2
    have w3:zW zI (y.1:Int)=(y.1:Int):=zj (by omega) (by omega)
    have Lu:zW zI (z.1:Int)=(z.1:Int):=zj (by omega) (by omega)
    have w5':zW zI (256*(y.1:Int))=256*(y.1:Int):=zj (by omega) (by omega)
    have w6':zW zI (256*(y.1:Int)+(z.1:Int))=256*(y.1:Int)+(z.1:Int):=zj (by omega) (by omega)
    rw[zF h6]
    simp only[zD,wb,w8,wd,hy,hz,w3,Lu,w5',w6',w9]
    generalize decide ((y.1:Int)=0)=c
    cases c
    ·exact⟨_,rfl,fun _=>⟨by show a<a+3;omega,by show a+3<=_;omega,by show(0:Int)<=256*(y.1:Int)+(z.1:Int);omega,by show 256*(y.1:Int)+(z.1:Int)<=65535;omega⟩⟩
    ·exact⟨_,rfl,fun h=>by cases h⟩
  ·rw[zF h9];exact⟨_,rfl,fun h=>by cases h⟩
theorem za6(b:ByteArray)(hb:b.size<=1099511627776):∀(n:Nat) (k:Nat) (t5:List bh) (a:Int),0<=a->a<=b.size->(b.size:Int)-a<=n->n<k->t5.length+n<=2199023255552->∃r,BH k b t5 a=some r
 |n,0,_,_,_,_,_,h,_=>by omega
 |n,k+1,t5,a,h0,h1,h2,h3,h4=>by
  unfold BH RK
  by_cases aq:a<(b.size:Int)
  ·obtain⟨r1,e1,p1⟩:=ahy b (by omega) a h0 aq
   rw[zT aq,e1,Option.bind_some,zC]
   by_cases z1:r1.2.2=0
   ·obtain⟨q1,q2⟩:=p1 z1
    obtain⟨r2,e2,p2⟩:=af9 b (by omega) r1.2.1 (by omega) q2
    simp only[z1,decide_true,Bool.not_true,zD]
    rw[e2,Option.bind_some]
    by_cases z2:r2.2.2=0
    ·obtain⟨u1,u2,u3,u4⟩:=p2 z2
     simp only[z2,decide_true,Bool.not_true,zD]
     have w1:zW zI ((b.size:Int)-r2.2.1)=(b.size:Int)-r2.2.1:=zj (by omega) (by omega)
     have w2:zW zI (r2.2.1+r2.1)=r2.2.1+r2.1:=zj (by omega) (by omega)
     rw[w1,w2]
     by_cases z3:(b.size:Int)-r2.2.1<r2.1
     ·rw[zT z3];exact⟨_,rfl⟩
     ·rw[zF z3,zD,Ns t5 (by rw[zi];omega),Option.bind_some]
      generalize decide (r1.1∈t5.map fun v=>v.1)=c
      cases c with
      |true=>exact⟨_,rfl⟩
      |false=>
       rw[zD,zT (by omega:0<=r2.2.1+r2.1),zT (by omega:r2.2.1+r2.1<=(((b.size:Nat):Int))),zT (by omega:0<=r2.2.1),zT (by omega:r2.2.1<=(((r2.2.1+r2.1).toNat:Nat):Int)),zT (by simp;omega)]
       simp only[zC]
       obtain⟨n,rfl⟩:∃n',n=n'+1:=⟨n-1,by omega⟩
       exact za6 b hb n k _ _ (by omega) (by omega) (by omega) (by omega) (by simp;omega)
    ·simp only[z2,decide_false,Bool.not_false,zC];exact⟨_,rfl⟩
   ·simp only[z1,decide_false,Bool.not_false,zC];exact⟨_,rfl⟩
  ·rw[zF aq];exact⟨_,rfl⟩
theorem zpd(b:ByteArray)(hb:b.size<=1099511627776):∃r,yK b=some r:=by
 unfold yK RJ
 dsimp only
 obtain⟨r,hr⟩:=za6 b hb b.size ag [] 0 (by omega) (by omega) (by omega) (by rw[zu];omega) (by simp;omega)
 rw[hr,Option.bind_some]
 cases r<;>exact⟨_,rfl⟩
@[irreducible] def bI (s:Spec) (x:ByteArray):Int:=(mO s x).getD 0
theorem GU(s:Spec)(x:ByteArray)(hx:x.size<=1099511627776):mO s x=some (bI s x):=by
 have:∃v,mO s x=some v:=by
  unfold mO HF
  rw[vE,Option.bind_some,zdf _ _ (by rw[zi];omega),Option.bind_some]
  obtain⟨r,hr⟩:=zpd x hx
  rw[hr,Option.bind_some]
  generalize(!decide (bM s=0))=c1
  generalize decide ((x.size:Int)<s.2.2.2.1)=c2
  generalize decide (s.2.2.2.2.1<(x.size:Int))=c3
  generalize decide ((0:Int)<=qN s.2.1 (bl x) 0)=c4
  generalize decide (s.2.1=6)=c5
  cases c1<;>cases c2<;>cases c3<;>cases c4<;>cases c5<;>first|exact⟨_,rfl⟩|skip
  cases r with
  |inl r=>simp only[zD,zC,Sum.elim_inl];cases(!decide (r.2.1=0))<;>exact⟨_,rfl⟩
  |inr r=>simp only[zD,zC,Sum.elim_inr];cases(!decide (r.2.1=0))<;>exact⟨_,rfl⟩
 obtain⟨v,hv⟩:=this
 unfold bI
 rw[hv];rfl
theorem x9(s:Spec)(x:ByteArray)(hx:x.size<=1099511627776):bX s x=some (bI s x):=by
 rw[ajE s x (by omega),GU s x hx]
@[irreducible] def mu (a b:Spec):Bool:=(vm a b).getD false
theorem zdo(a b:Spec):vm a b=some (mu a b):=by
 have:∃v,vm a b=some v:=by
  unfold vm HG
  rw[vE,vE,zdn]
  simp only[Option.bind_some]
  generalize(!decide (bM a=0))=c1
  generalize(!decide (bM b=0))=c2
  generalize decide (b.2.2.2.1<a.2.2.2.1)=c3
  generalize decide (a.2.2.2.2.1<b.2.2.2.2.1)=c4
  generalize decide (a.2.1=5)=c5
  generalize decide (a.2.1=6)=c6
  generalize decide (b.2.1=6)=c7
  cases c1<;>cases c2<;>cases c3<;>cases c4<;>cases c5<;>cases c6<;>cases c7<;>exact⟨_,rfl⟩
 obtain⟨v,hv⟩:=this
 unfold mu
 rw[hv];rfl
theorem afZ(a b:Spec):lR a b=some (mu a b):=by rw[z194,zdo]
abbrev aV:=Int×Int×Int×ByteArray×List bA×Unit
def aY(s:zg)(no:Int):Spec:=(gf s.2.2.1 no).getD de
def bq(s:zg)(no:Int):Bool:=(gf s.2.2.1 no).isSome
theorem Br(s:zg)(no:Int)(hl:s.2.2.1.length<=maxLen):fS s no=some (aY s no,bq s no):=by
 rw[alc s no hl]
 unfold aY bq
 cases gf s.2.2.1 no<;>rfl
theorem Th(s:zg)(no:Int):(ff s.2.2.1 no 0= -1/\bq s no=false/\aY s no=de)\/(0<=ff s.2.2.1 no 0/\ff s.2.2.1 no 0<s.2.2.1.length/\bq s no=true/\s.2.2.1.getD (ff s.2.2.1 no 0).toNat de=aY s no):=by
 unfold bq aY
 rcases adM s.2.2.1 no 0 (Int.le_refl _) with⟨h1,h2⟩|⟨h1,h2,x,h3,h4⟩
 ·left;rw[h2];exact⟨h1,rfl,rfl⟩
 ·right;rw[h3];rw[Int.sub_zero] at h4;exact⟨h1,by omega,rfl,h4⟩
def dB(r:aV)(a b:zg):Bool:=
 (bif decide (r.1=3) then !decide (r.2.1=0) else !bq a r.2.1)||(bif decide (r.1=2) then !decide (r.2.2.1=0) else !bq b r.2.2.1)
def jq(r:aV):Bool:=(!decide (r.2.2.2.1=bs [])&& !decide (r.1=3))||(decide (0<(r.2.2.2.2.1.length:Int))&& !decide (r.1=5))
def jF(s:Spec):Bool:=decide (s.2.1=1)&&decide (s.2.2.1=1)
def fH:List bA->Spec->Spec->Int
 | [],_,_=>0
 |p::r,x,y=>bif !decide (bI x p.1=0) then bI x p.1 else bif !decide (bI y p.2.1=0) then bI y p.2.1 else fH r x y
def R3(l:List bA)(x y:Spec):Int:=bif(!decide ((BN l).1=0)||decide ((l.length:Int)=0)) then 15 else fH l x y
def kl(r:aV)(x y:Spec):Int:=
 bif decide (r.1=1) then(bif mu y x then 0 else 6) else bif decide (r.1=3) then bI y r.2.2.2.1 else bif decide (r.1=4) then(bif jF x&&jF y then 0 else 6) else bif decide (r.1=5) then R3 r.2.2.2.2.1 x y else 0
def dD(r:aV)(a b:zg):Int:=
 bif decide (r.1<1)||decide (5<r.1) then 1 else bif dB r a b then 9 else bif jq r then 3 else kl r (aY a r.2.1) (aY b r.2.2.1)
structure eI(l:List bA):Prop where
 len:l.length<=1000000
 sz:∀p∈l,p.1.size<=1099511627776/\p.2.1.size<=1099511627776
structure dX(r:aV):Prop where
 text:r.2.2.2.1.size<=1099511627776
 fk:eI r.2.2.2.2.1
theorem amW(r:aV)(a b:zg)(ha:a.2.2.1.length<=maxLen)(hb:b.2.2.1.length<=maxLen):tv r a b=some (aY a r.2.1,aY b r.2.2.1,bif dB r a b then 9 else 0):=by
 unfold tv Vw dB
 rw[Br a _ ha,Br b _ hb]
 simp only[Option.bind_some]
 generalize decide (r.1=3)=k3
 generalize decide (r.1=2)=k2
 generalize decide (r.2.1=0)=z1
 generalize decide (r.2.2.1=0)=z2
 generalize bq a r.2.1=h1
 generalize bq b r.2.2.1=h2
 cases k3<;>cases k2<;>cases z1<;>cases z2<;>cases h1<;>cases h2<;>rfl
theorem aha(s:Spec):jv s=some (jF s):=by
 unfold jv Vx jF
 generalize decide (s.2.1=1)=c1
 generalize decide (s.2.2.1=1)=c2
 cases c1<;>cases c2<;>rfl
def xY(v:Int):Sum Int Unit:=if v=0 then .inr () else .inl v
theorem MN(x y:Spec):∀(l:List bA) (i:Int),(∀p∈l,p.1.size<=1099511627776/\p.2.1.size<=1099511627776)->
 bk (fun i (p:bA) (s:Unit) K=>((bX x p.1).bind fun r2=>(bif(!decide (r2=0)) then some (Sum.inl r2) else((bX y p.2.1).bind fun r3=>(bif(!decide (r3=0)) then some (Sum.inl r3) else K s))))) (fun _=>some (Sum.inr ())) l i ()=some (xY (fH l x y))
 | [],i,_=>rfl
 |p::r,i,h=>by
  obtain⟨h1,h2⟩:=h p List.mem_cons_self
  simp only[bk,fH]
  rw[x9 x p.1 h1,Option.bind_some]
  by_cases z1:bI x p.1=0
  ·rw[zT z1]
   simp only[Bool.not_true,zD]
   rw[x9 y p.2.1 h2,Option.bind_some]
   by_cases z2:bI y p.2.1=0
   ·rw[zT z2]
    simp only[Bool.not_true,zD]
    exact MN x y r (i+1) fun q hq=>h q (List.mem_cons_of_mem _ hq)
   ·rw[zF z2]
    simp only[Bool.not_false,zC,xY,if_neg z2]
  ·rw[zF z1]
   simp only[Bool.not_false,zC,xY,if_neg z1]
theorem akY(l:List bA)(x y:Spec)(h:eI l):mK l x y=some (R3 l x y):=by
 have hl:=h.len
 unfold mK Vz R3
 dsimp only
 rw[abS l (by rw[zi];omega),Option.bind_some]
 cases(!decide ((BN l).1=0)) with
 |true=>rfl
 |false=>
  cases decide ((l.length:Int)=0) with
  |true=>rfl
  |false=>
   simp only[zD,Bool.or_false]
   have:=cw jm l (by rw[zi];omega) (fun i (p:bA) (s:Unit) K=>((bX x p.1).bind fun r2=>(bif(!decide (r2=0)) then some (Sum.inl r2) else((bX y p.2.1).bind fun r3=>(bif(!decide (r3=0)) then some (Sum.inl r3) else K s))))) (fun _=>some (Sum.inr ()))
    (fun k i s=>QU k l (l.length:Int) i x y) (fun k i s=>rfl) ()
   rw[this,MN x y l 0 h.sz,Option.bind_some]
   unfold xY
   by_cases z:fH l x y=0
   ·rw[if_pos z,z];rfl
   ·rw[if_neg z];rfl
theorem acq(r:aV)(a b:zg)(h:dX r)(ha:a.2.2.1.length<=maxLen)(hb:b.2.2.1.length<=maxLen):n6 r a b=some (dD r a b):=by
 unfold n6 Vv dD kl jq
 rw[amW r a b ha hb]
 simp only[Option.bind_some,afZ,x9 _ _ h.text,aha,akY _ _ _ h.fk]
 generalize dB r a b=e
 generalize decide (r.1<1)=c1
 generalize decide ((5:Int)<r.1)=c2
 generalize decide (r.2.2.2.1=bs [])=t
 generalize decide ((0:Int)<(r.2.2.2.2.1.length:Int))=p
 generalize decide (r.1=1)=k1
 generalize decide (r.1=3)=k3
 generalize decide (r.1=4)=k4
 generalize decide (r.1=5)=k5
 generalize jF (aY a r.2.1)=p1
 generalize jF (aY b r.2.2.1)=p2
 generalize mu (aY b r.2.2.1) (aY a r.2.1)=w
 cases c1<;>cases c2<;>first|rfl|skip
 cases e<;>first|rfl|skip
 cases t<;>cases p<;>cases k3<;>cases k5<;>first|rfl|skip
 all_goals(cases k1<;>cases k4<;>cases p1<;>cases p2<;>cases w<;>rfl)
def nz(v:Int):Sum Unit Int:=if v=0 then .inl () else .inr v
theorem zwk(x y:Spec):∀(l:List bA) (i:Int),(∀p∈l,p.1.size<=1099511627776/\p.2.1.size<=1099511627776)->
 bk (fun i (p:bA) (s:Unit) K=>((mO x p.1).bind fun r2=>(bif(!decide (r2=0)) then some (Sum.inr r2) else((mO y p.2.1).bind fun r3=>(bif(!decide (r3=0)) then some (Sum.inr r3) else K s))))) (fun _=>some (Sum.inl ())) l i ()=some (nz (fH l x y))
 | [],i,_=>rfl
 |p::r,i,h=>by
  obtain⟨h1,h2⟩:=h p List.mem_cons_self
  simp only[bk,fH]
  rw[GU x p.1 h1,Option.bind_some]
  by_cases z1:bI x p.1=0
  ·rw[zT z1]
   simp only[Bool.not_true,zD]
   rw[GU y p.2.1 h2,Option.bind_some]
   by_cases z2:bI y p.2.1=0
   ·rw[zT z2]
    simp only[Bool.not_true,zD]
    exact zwk x y r (i+1) fun q hq=>h q (List.mem_cons_of_mem _ hq)
   ·rw[zF z2]
    simp only[Bool.not_false,zC,nz,if_neg z2]
  ·rw[zF z1]
   simp only[Bool.not_false,zC,nz,if_neg z1]
theorem aca(r:aV)(a b:zg)(h:dX r)(i k:Int)(Cw:0<=i)(hi:i<a.2.2.1.length)(AG:0<=k)(hk:k<b.2.2.1.length):
 vM ag i k 0 r a b=some (nz (fH r.2.2.2.2.1 (a.2.2.1.getD i.toNat de) (b.2.2.1.getD k.toNat de))):=by
 have hl:=h.fk.len
 have:=ly jm r.2.2.2.2.1 (by rw[zi];omega) (fun j (p:bA) (s:Unit) K=>((mO (a.2.2.1.getD i.toNat de) p.1).bind fun r2=>(bif(!decide (r2=0)) then some (Sum.inr r2) else((mO (b.2.2.1.getD k.toNat de) p.2.1).bind fun r3=>(bif(!decide (r3=0)) then some (Sum.inr r3) else K s))))) (fun _=>some (Sum.inl ()))
  (fun f j s=>vM f i k j r a b) (fun f j s h0 h1=>by
    show vM (f+1) i k j r a b=_
    conv=>lhs;unfold vM Qd Tu Tv Tw
    have wi:∀{R:Type} (x:Option R),zd i a.2.2.1.length x=x:=fun x=>zn Cw hi
    have wk:∀{R:Type} (x:Option R),zd k b.2.2.1.length x=x:=fun x=>zn AG hk
    have wj:∀{R:Type} (x:Option R),zd j r.2.2.2.2.1.length x=x:=fun x=>zn h0 h1
    rw[zT h1]
    simp only[zC,wi,wk,wj]
    rfl) (fun f s=>by
    show vM (f+1) i k r.2.2.2.2.1.length r a b=_
    conv=>lhs;unfold vM Qd
    rw[zF (by omega),zD]) ()
 rw[this]
 exact zwk _ _ _ 0 h.fk.sz
theorem ac7(r:aV)(a b:zg)(h:dX r)(ha:a.2.2.1.length<=maxLen)(hb:b.2.2.1.length<=maxLen):sQ r a b=some (dD r a b):=by
 unfold sQ Hc
 have h0:∀t,zwx t r a b=bif t then some 1 else TT r a b:=fun t=>by cases t<;>rfl
 simp only[h0]
 unfold dD
 by_cases c1:r.1<1
 ·rw[zT c1];rfl
 by_cases c2:(5:Int)<r.1
 ·rw[zF c1,zT c2];rfl
 rw[zF c1,zF c2]
 simp only[zD,Bool.or_false]
 have e2:∀i k t,Bw i k t r a b=bif t then some 9 else Qq i k r a b:=fun i k t=>by cases t<;>rfl
 have e4:∀i k t,zwy i k t r a b=bif t then some 9 else FA i k r a b:=fun i k t=>by cases t<;>rfl
 have e6:∀i k t,zwz i k t r a b=bif t then some 3 else Qr i k r a b:=fun i k t=>by cases t<;>rfl
 have e9:∀t,zx0 t=some (bif t then 6 else 0):=fun t=>by cases t<;>rfl
 have hi:=Th a r.2.1
 have hk:=Th b r.2.2.1
 have ei:decide (ff a.2.2.1 r.2.1 0<0)= !bq a r.2.1:=by
  rcases hi with⟨h1,h2,_⟩|⟨h1,_,h2,_⟩
  ·rw[h1,h2];rfl
  ·rw[h2,zF (by omega)];rfl
 have ek:decide (ff b.2.2.1 r.2.2.1 0<0)= !bq b r.2.2.1:=by
  rcases hk with⟨h1,h2,_⟩|⟨h1,_,h2,_⟩
  ·rw[h1,h2];rfl
  ·rw[h2,zF (by omega)];rfl
 unfold TT Hd
 rw[S7 a _ ha,Option.bind_some,S7 b _ hb,Option.bind_some]
 generalize Kr:ff a.2.2.1 r.2.1 0=i at*
 generalize hkk:ff b.2.2.1 r.2.2.1 0=k at*
 have s3:Qq i k r a b=bif(bif decide (r.1=2) then !decide (r.2.2.1=0) else !bq b r.2.2.1) then some 9 else FA i k r a b:=by
  unfold Qq He
  simp only[e4,ek]
  generalize decide (r.1=2)=k2
  generalize decide (r.2.2.1=0)=z
  generalize bq b r.2.2.1=hh
  cases k2<;>cases z<;>cases hh<;>rfl
 have s1:(bif decide (r.1=3) then bif !decide (r.2.1=0) then Bw i k true r a b else bif !decide (r.1=3) then Bw i k (decide (i<0)) r a b else Bw i k false r a b
  else bif !decide (r.1=3) then Bw i k (decide (i<0)) r a b else Bw i k false r a b)=bif dB r a b then some 9 else FA i k r a b:=by
  simp only[e2,s3,ei]
  unfold dB
  generalize decide (r.1=3)=k3
  generalize decide (r.2.1=0)=z
  generalize bq a r.2.1=hh
  generalize(bif decide (r.1=2) then !decide (r.2.2.1=0) else !bq b r.2.2.1)=w
  cases k3<;>cases z<;>cases hh<;>cases w<;>rfl
 have s5:FA i k r a b=bif jq r then some 3 else Qr i k r a b:=by
  unfold FA Hf jq
  simp only[e6]
  generalize decide (r.2.2.2.1=bs [])=t
  generalize decide ((0:Int)<(r.2.2.2.2.1.length:Int))=p
  generalize decide (r.1=3)=k3
  generalize decide (r.1=5)=k5
  cases t<;>cases p<;>cases k3<;>cases k5<;>rfl
 refine Eq.trans s1 ?_
 cases hE:dB r a b with
 |true=>rfl
 |false=>
  rw[zD,zD,s5]
  cases jq r with
  |true=>rfl
  |false=>
   rw[zD,zD]
   unfold Qr Hg kl
   have g1:r.1=1\/r.1=4\/r.1=5->bq a r.2.1=true:=fun hr=>by
    unfold dB at hE
    rw[zF (by omega:¬r.1=3)] at hE
    cases hh:bq a r.2.1 with
    |true=>rfl
    |false=>rw[hh] at hE;simp at hE
   have g2:r.1≠2->bq b r.2.2.1=true:=fun hr=>by
    unfold dB at hE
    rw[zF hr] at hE
    cases hh:bq b r.2.2.1 with
    |true=>rfl
    |false=>rw[hh] at hE;simp at hE
   have hA:bq a r.2.1=true->0<=i/\i<a.2.2.1.length/\a.2.2.1.getD i.toNat de=aY a r.2.1:=fun hh=>by
    rcases hi with⟨_,h2,_⟩|⟨h1,h2,_,h3⟩
    ·rw[h2] at hh;cases hh
    ·exact⟨h1,h2,h3⟩
   have hB:bq b r.2.2.1=true->0<=k/\k<b.2.2.1.length/\b.2.2.1.getD k.toNat de=aY b r.2.2.1:=fun hh=>by
    rcases hk with⟨_,h2,_⟩|⟨h1,h2,_,h3⟩
    ·rw[h2] at hh;cases hh
    ·exact⟨h1,h2,h3⟩
   by_cases k1:r.1=1
   ·obtain⟨a1,a2,a3⟩:=hA (g1 (.inl k1))
    obtain⟨b1,b2,b3⟩:=hB (g2 (by omega))
    rw[zT k1,zC,zC,zn b1 b2,zn a1 a2,a3,b3,zdo,Option.bind_some]
    cases mu (aY b r.2.2.1) (aY a r.2.1)<;>rfl
   rw[zF k1,zD,zD]
   by_cases k3:r.1=3
   ·obtain⟨b1,b2,b3⟩:=hB (g2 (by omega))
    rw[zT k3,zC,zC,zn b1 b2,b3,GU _ _ h.text];rfl
   rw[zF k3,zD,zD]
   by_cases k4:r.1=4
   ·obtain⟨a1,a2,a3⟩:=hA (g1 (.inr (.inl k4)))
    obtain⟨b1,b2,b3⟩:=hB (g2 (by omega))
    rw[zT k4,zC,zC,zn a1 a2,zn b1 b2]
    simp only[a3,b3,e9]
    unfold jF
    generalize decide ((aY a r.2.1).2.1=1)=d1
    generalize decide ((aY a r.2.1).2.2.1=1)=d2
    generalize decide ((aY b r.2.2.1).2.1=1)=d3
    generalize decide ((aY b r.2.2.1).2.2.1=1)=d4
    cases d1<;>cases d2<;>cases d3<;>cases d4<;>rfl
   rw[zF k4,zD,zD]
   by_cases k5:r.1=5
   ·obtain⟨a1,a2,a3⟩:=hA (g1 (.inr (.inr k5)))
    obtain⟨b1,b2,b3⟩:=hB (g2 (by omega))
    have Gr:∀t,zpf i k t r a b=bif t then some 15 else Qc i k r a b:=fun t=>by cases t<;>rfl
    have Gs:Qc i k r a b=some (fH r.2.2.2.2.1 (aY a r.2.1) (aY b r.2.2.1)):=by
     unfold Qc Tt
     dsimp only
     rw[aca r a b h i k a1 a2 b1 b2,Option.bind_some,a3,b3]
     unfold nz
     by_cases z:fH r.2.2.2.2.1 (aY a r.2.1) (aY b r.2.2.1)=0
     ·rw[if_pos z,z];rfl
     ·rw[if_neg z];rfl
    have hl:=h.fk.len
    rw[zT k5,zC,zC,ac6 _ (by rw[zi];omega),Option.bind_some]
    simp only[Gr,Gs]
    unfold R3
    generalize(!decide ((BN r.2.2.2.2.1).1=0))=d1
    generalize decide ((r.2.2.2.2.1.length:Int)=0)=d2
    cases d1<;>cases d2<;>rfl
   ·rw[zF k5];rfl
@[irreducible] def uU (x:ByteArray):Int:=((yK x).map fun r=>Sum.elim (fun(w:ak×Int×Int)=>w.2.1) (fun(w:ak×Int×Int)=>w.2.1) r).getD 0
theorem Qn(s:Spec)(x:ByteArray)(hx:x.size<=1099511627776):bI s x=0↔bM s=0/\s.2.2.2.1<=(x.size:Int)/\(x.size:Int)<=s.2.2.2.2.1/\(bl x).all (jN s.2.1)=true/\(s.2.1=6->uU x=0):=by
 have h:=GU s x hx
 unfold mO HF at h
 rw[vE,Option.bind_some,zdf _ _ (by rw[zi];omega),Option.bind_some] at h
 obtain⟨r,hr⟩:=zpd x hx
 have ht:uU x=Sum.elim (fun(w:ak×Int×Int)=>w.2.1) (fun(w:ak×Int×Int)=>w.2.1) r:=by unfold uU;rw[hr];rfl
 rw[hr,Option.bind_some] at h
 by_cases c1:bM s=0
 ·rw[zT c1,Bool.not_true,zD] at h
  by_cases c2:(x.size:Int)<s.2.2.2.1
  ·rw[zT c2,zC] at h
   have:=Option.some.inj h
   exact⟨fun e=>by omega,fun e=>by omega⟩
  rw[zF c2,zD] at h
  by_cases c3:s.2.2.2.2.1<(x.size:Int)
  ·rw[zT c3,zC] at h
   have:=Option.some.inj h
   exact⟨fun e=>by omega,fun e=>by omega⟩
  rw[zF c3,zD] at h
  have hf:=zor s.2.1 (bl x) 0 (Int.le_refl _)
  by_cases c4:(0:Int)<=qN s.2.1 (bl x) 0
  ·rw[zT c4,zC] at h
   have:=Option.some.inj h
   exact⟨fun e=>by omega,fun e=>absurd e.2.2.2.1 (hf.1 c4)⟩
  rw[zF c4,zD] at h
  have cR:(bl x).all (jN s.2.1)=true:=by
   cases hq:(bl x).all (jN s.2.1) with
   |true=>rfl
   |false=>exact absurd (hf.2 (by rw[hq];decide)) c4
  by_cases c5:s.2.1=6
  ·rw[zT c5,zC] at h
   have key:(bif(!decide (uU x=0)) then some (13:Int) else some 0)=some (bI s x):=by
    rw[<-h]
    cases r with
    |inl r=>rw[Sum.elim_inl] at ht⊢;rw[<-ht]
    |inr r=>rw[Sum.elim_inr] at ht⊢;rw[<-ht]
   by_cases c6:uU x=0
   ·rw[zT c6] at key
    have:=Option.some.inj key
    exact⟨fun _=>⟨c1,by omega,by omega,cR,fun _=>c6⟩,fun _=>this.symm⟩
   ·rw[zF c6] at key
    have:=Option.some.inj key
    exact⟨fun e=>by omega,fun e=>absurd (e.2.2.2.2 c5) c6⟩
  ·rw[zF c5,zD] at h
   have:=Option.some.inj h
   exact⟨fun _=>⟨c1,by omega,by omega,cR,fun e=>absurd e c5⟩,fun _=>this.symm⟩
 ·rw[zF c1,Bool.not_false,zC] at h
  have:=Option.some.inj h
  exact⟨fun e=>by omega,fun e=>absurd e.1 c1⟩
theorem ak7(a b:Spec):mu a b=true↔bM a=0/\bM b=0/\a.2.2.2.1<=b.2.2.2.1/\b.2.2.2.2.1<=a.2.2.2.2.1/\(a.2.1=5\/(a.2.1=6/\b.2.1=6)\/(a.2.1≠5/\a.2.1≠6/\b.2.1≠6/\yr a.2.1 b.2.1=true)):=by
 have h:=zdo a b
 unfold vm HG at h
 rw[vE,vE,zdn] at h
 simp only[Option.bind_some] at h
 by_cases c1:bM a=0
 ·rw[zT c1,Bool.not_true,zD] at h
  by_cases c2:bM b=0
  ·rw[zT c2,Bool.not_true,zD] at h
   by_cases c3:b.2.2.2.1<a.2.2.2.1
   ·rw[zT c3,zC] at h
    have:=Option.some.inj h
    exact⟨fun e=>(by rw[e] at this;cases this),fun e=>by omega⟩
   rw[zF c3,zD] at h
   by_cases c4:a.2.2.2.2.1<b.2.2.2.2.1
   ·rw[zT c4,zC] at h
    have:=Option.some.inj h
    exact⟨fun e=>(by rw[e] at this;cases this),fun e=>by omega⟩
   rw[zF c4,zD] at h
   by_cases c5:a.2.1=5
   ·rw[zT c5,zC] at h
    have:=Option.some.inj h
    exact⟨fun _=>⟨c1,c2,by omega,by omega,.inl c5⟩,fun _=>this.symm⟩
   rw[zF c5,zD] at h
   by_cases c6:a.2.1=6
   ·rw[zT c6,zC] at h
    have:=Option.some.inj h
    rw[<-this,decide_eq_true_eq]
    exact⟨fun e=>⟨c1,c2,by omega,by omega,.inr (.inl ⟨c6,by omega⟩)⟩,fun e=>by omega⟩
   rw[zF c6,zD] at h
   by_cases c7:b.2.1=6
   ·rw[zT c7,zC] at h
    have:=Option.some.inj h
    rw[<-this,decide_eq_true_eq]
    exact⟨fun e=>by omega,fun e=>by omega⟩
   rw[zF c7,zD] at h
   have:=Option.some.inj h
   rw[<-this]
   refine⟨fun e=>⟨c1,c2,by omega,by omega,.inr (.inr ⟨c5,c6,c7,e⟩)⟩,fun e=> ?_⟩
   rcases e.2.2.2.2 with e|e|e
   ·exact absurd e c5
   ·exact absurd e.1 c6
   ·exact e.2.2.2
  ·rw[zF c2,Bool.not_false,zC] at h
   have:=Option.some.inj h
   exact⟨fun e=>(by rw[e] at this;cases this),fun e=>absurd e.2.1 c2⟩
 ·rw[zF c1,Bool.not_false,zC] at h
  have:=Option.some.inj h
  exact⟨fun e=>(by rw[e] at this;cases this),fun e=>absurd e.1 c1⟩
theorem zpa{s:Spec}(h:bM s=0):(2<=s.1/\s.1<=128)/\(1<=s.2.1/\s.2.1<=6)/\(1<=s.2.2.1/\s.2.2.1<=3)/\(1<=s.2.2.2.1/\s.2.2.2.1<=s.2.2.2.2.1/\s.2.2.2.2.1<=999)/\(s.2.2.1=1->s.2.2.2.1=s.2.2.2.2.1)/\¬(s.2.2.1=1/\s.2.1=6):=by
 unfold bM at h
 split at h
 ·omega
 split at h
 ·omega
 split at h
 ·omega
 split at h
 ·omega
 split at h
 ·omega
 ·omega
theorem anq:∀a b:Fin 7,yr (a.1:Int) (b.1:Int)=true->a.1≠5->a.1≠6->b.1≠6->(a.1=b.1\/(a.1=3/\(b.1=1\/b.1=2))\/(a.1=4/\(b.1=1\/b.1=2\/b.1=3))):=by decide+kernel
theorem ahN{a b:Int}(h:yr a b=true)(h5:a≠5)(h6:a≠6)(h7:b≠6):a=b\/(a=3/\(b=1\/b=2))\/(a=4/\(b=1\/b=2\/b=3)):=by
 have hr:1<=a/\a<=6/\1<=b/\b<=6:=by
  unfold yr at h
  rw[Bool.and_eq_true,decide_eq_true_eq] at h
  exact h.1
 obtain⟨x,rfl⟩:=YT ⟨hr.1,hr.2.1⟩
 obtain⟨y,rfl⟩:=YT ⟨hr.2.2.1,hr.2.2.2⟩
 have:=anq x y h (by omega) (by omega) (by omega)
 omega
theorem akq{a b x:Int}(h:a=b\/(a=3/\(b=1\/b=2))\/(a=4/\(b=1\/b=2\/b=3)))(hx:jN b x=true):jN a x=true:=by
 rcases h with rfl|⟨rfl,rfl|rfl⟩|⟨rfl,rfl|rfl|rfl⟩
 ·exact hx
 all_goals
  simp [jN] at hx⊢
  omega
theorem akp(x:Int):jN 5 x=true:=by simp [jN]
theorem aee{y x:Spec}{t:ByteArray}(ht:t.size<=1099511627776)(hw:mu y x=true)(hv:bI x t=0):bI y t=0:=by
 obtain⟨w1,w2,w3,w4,w5⟩:=(ak7 y x).1 hw
 obtain⟨v1,v2,v3,v4,v5⟩:=(Qn x t ht).1 hv
 refine(Qn y t ht).2 ⟨w1,by omega,by omega,?_,?_⟩
 ·rcases w5 with e|e|e
  ·rw[e,List.all_eq_true];exact fun b _=>akp b
  ·rw[e.1,<-e.2];exact v4
  ·rw[List.all_eq_true] at v4⊢
   exact fun b hb=>akq (ahN e.2.2.2 e.1 e.2.1 e.2.2.1) (v4 b hb)
 ·intro e6
  rcases w5 with e|e|e
  ·omega
  ·exact v5 e.2
  ·exact absurd e6 e.2.1
theorem am5:jN 1=cI:=by funext b;simp [jN,cI]
theorem amG(l:List Int):l.all (jN 1)=bE l:=by rw[am5];rfl
theorem O2{t:ByteArray}{w:Int}(h:(fL t w).2=true):1<=w/\w<=999/\(((fL t w).1).size:Int)=w/\bE (bl (fL t w).1)=true:=by
 by_cases hc:1<=t.size/\t.size<=999/\bE (bl t)=true/\1<=w/\w<=999
 ·rw[PJ hc] at h⊢
  by_cases h4:(t.size:Int)<=w
  ·rw[zT h4,zC]
   have hd:bE (List.replicate (w-t.size).toNat 48++bl t)=true:=by
    have e:bE (List.replicate (w-t.size).toNat 48++bl t)=(bE (List.replicate (w-t.size).toNat 48)&&bE (bl t)):=List.all_append ..
    have e2:bE (List.replicate (w-t.size).toNat 48)=true:=by
     rw[bE,List.all_eq_true]
     intro x hx
     rw[(List.mem_replicate.1 hx).2];rfl
    rw[e,e2,hc.2.2.1];rfl
   refine⟨hc.2.2.2.1,hc.2.2.2.2,?_,?_⟩
   ·rw[vG,List.length_append,List.length_replicate,zf];omega
   ·rw[sD (Ng hd)];exact hd
  ·rw[zF h4,zD] at h⊢
   cases hz:fT ((bl t).take (t.size-w.toNat)) with
   |false=>rw[hz] at h;cases h
   |true=>
    rw[zC]
    have hd:bE ((bl t).drop (t.size-w.toNat))=true:=by
     rw[bE,List.all_eq_true]
     intro x hx
     exact List.all_eq_true.1 hc.2.2.1 x (List.mem_of_mem_drop hx)
    refine⟨hc.2.2.2.1,hc.2.2.2.2,?_,?_⟩
    ·rw[vG,List.length_drop,zf];omega
    ·rw[sD (Ng hd)];exact hd
 ·rw[HN hc] at h;cases h
theorem adV{s:Spec}(h:jF s=true):s.2.1=1/\s.2.2.1=1:=by
 unfold jF at h
 rw[Bool.and_eq_true,decide_eq_true_eq,decide_eq_true_eq] at h
 exact h
abbrev oQ:bh:=(0,bs [],())
def gC(r:aV)(b:zg)(t:ByteArray):bh×Int:=
 bif decide (r.1=1) then((r.2.2.1,t,()),0) else bif decide (r.1=2) then(oQ,0) else bif decide (r.1=3) then((r.2.2.1,r.2.2.2.1,()),0)
 else bif decide (r.1=4) then(bif !bq b r.2.2.1 then(oQ,9) else bif !(fL t (aY b r.2.2.1).2.2.2.1).2 then(oQ,5) else((r.2.2.1,(fL t (aY b r.2.2.1).2.2.2.1).1,()),0))
 else bif decide (r.1=5) then(bif !(zx r.2.2.2.2.1 t).2 then(oQ,15) else((r.2.2.1,(zx r.2.2.2.2.1 t).1,()),0)) else(oQ,1)
theorem acp(r:aV)(b:zg)(t:ByteArray)(hp:r.2.2.2.2.1.length<=maxLen)(hb:b.2.2.1.length<=maxLen)(ht:t.size<=maxLen):n5 r b t=some (gC r b t):=by
 unfold n5 Vu gC
 rw[Br b _ hb,Option.bind_some,ans t _ ht,Option.bind_some,abR _ _ hp,Option.bind_some]
 generalize decide (r.1=1)=k1
 generalize decide (r.1=2)=k2
 generalize decide (r.1=3)=k3
 generalize decide (r.1=4)=k4
 generalize decide (r.1=5)=k5
 generalize bq b r.2.2.1=h
 generalize fL t (aY b r.2.2.1).2.2.2.1=p
 generalize zx r.2.2.2.2.1 t=q
 obtain⟨p1,p2⟩:=p
 obtain⟨q1,q2⟩:=q
 cases k1<;>cases k2<;>cases k3<;>cases k4<;>cases k5<;>cases h<;>cases p2<;>cases q2<;>rfl
theorem TC{s:zg}{no:Int}(h:bq s no=true):aY s no∈s.2.2.1/\(aY s no).1=no:=by
 unfold bq at h
 unfold aY
 cases hf:gf s.2.2.1 no with
 |none=>rw[hf] at h;cases h
 |some x=>
  unfold gf at hf
  exact⟨List.mem_of_find?_eq_some hf,by simpa using List.find?_some hf⟩
theorem Tn{s:zg}(h:iL s){no:Int}(hh:bq s no=true):bM (aY s no)=0:=h.2.2.2.1 _ (TC hh).1
theorem zdq{l:List bA}{t:ByteArray}(h:(zx l t).2=true):∃p∈l,p.1=t/\(zx l t).1=p.2.1:=by
 unfold zx at h⊢
 cases hf:l.find? fun p=>decide (p.1=t) with
 |none=>rw[hf] at h;cases h
 |some p=>exact⟨p,List.mem_of_find?_eq_some hf,by simpa using List.find?_some hf,rfl⟩
theorem MR:∀{l:List bA} {x y:Spec},fH l x y=0->∀p∈l,bI x p.1=0/\bI y p.2.1=0
 | [],x,y,h,p,hp=>by cases hp
 |q::l,x,y,h,p,hp=>by
  unfold fH at h
  by_cases h1:bI x q.1=0
  ·rw[zT h1,Bool.not_true,zD] at h
   by_cases h2:bI y q.2.1=0
   ·rw[zT h2,Bool.not_true,zD] at h
    rcases List.mem_cons.1 hp with rfl|hp
    ·exact⟨h1,h2⟩
    ·exact MR h p hp
   ·rw[zF h2,Bool.not_false,zC] at h;exact absurd h h2
  ·rw[zF h1,Bool.not_false,zC] at h;exact absurd h h1
theorem S3{r:aV}{a b:zg}(h:dD r a b=0):(1<=r.1/\r.1<=5)/\dB r a b=false/\jq r=false/\kl r (aY a r.2.1) (aY b r.2.2.1)=0:=by
 unfold dD at h
 by_cases c1:r.1<1
 ·rw[zT c1] at h;cases h
 by_cases c2:5<r.1
 ·rw[zT c2,Bool.or_true] at h;cases h
 rw[zF c1,zF c2,Bool.or_false,zD] at h
 cases he:dB r a b with
 |true=>rw[he] at h;cases h
 |false=>
  rw[he,zD] at h
  cases ht:jq r with
  |true=>rw[ht] at h;cases h
  |false=>rw[ht,zD] at h;exact⟨by omega,rfl,rfl,h⟩
theorem zie{r:aV}{a b:zg}(h:dB r a b=false):(r.1=3->r.2.1=0)/\(r.1≠3->bq a r.2.1=true)/\(r.1=2->r.2.2.1=0)/\(r.1≠2->bq b r.2.2.1=true):=by
 unfold dB at h
 rw[Bool.or_eq_false_iff] at h
 obtain⟨h1,h2⟩:=h
 refine⟨fun e=> ?_,fun e=> ?_,fun e=> ?_,fun e=> ?_⟩
 ·rw[zT e,zC] at h1;simpa using h1
 ·rw[zF e,zD] at h1;simpa using h1
 ·rw[zT e,zC] at h2;simpa using h2
 ·rw[zF e,zD] at h2;simpa using h2
theorem acB{r:aV}{a b:zg}{t:ByteArray}(ht:t.size<=1099511627776)(hr:dX r)(hc:dD r a b=0)(hb:iL b)(hv:bq a r.2.1=true->bI (aY a r.2.1) t=0):
 ((gC r b t).2≠0->((r.1=4/\(gC r b t).2=5)\/(r.1=5/\(gC r b t).2=15))/\(gC r b t).1=oQ)/\
 ((gC r b t).2=0->(r.1=2->(gC r b t).1=oQ)/\(r.1≠2->(gC r b t).1.1=r.2.2.1/\bq b r.2.2.1=true/\bI (aY b r.2.2.1) (gC r b t).1.2.1=0)):=by
 obtain⟨c1,c2,c3,c4⟩:=S3 hc
 obtain⟨e1,e2,e3,e4⟩:=zie c2
 unfold kl at c4
 have hk:r.1=1\/r.1=2\/r.1=3\/r.1=4\/r.1=5:=by omega
 unfold gC
 rcases hk with k|k|k|k|k
 ·rw[zT k,zC] at c4⊢
  refine⟨fun h=>absurd rfl h,fun _=>⟨fun e=>by omega,fun _=>⟨rfl,e4 (by omega),?_⟩⟩⟩
  cases hw:mu (aY b r.2.2.1) (aY a r.2.1) with
  |false=>rw[hw] at c4;cases c4
  |true=>exact aee ht hw (hv (e2 (by omega)))
 ·rw[zF (by omega:¬r.1=1),zT k,zD,zC]
  exact⟨fun h=>absurd rfl h,fun _=>⟨fun _=>rfl,fun e=>absurd k e⟩⟩
 ·rw[zF (by omega:¬r.1=1),zT k,zD,zC] at c4
  rw[zF (by omega:¬r.1=1),zF (by omega:¬r.1=2),zT k,zD,zD,zC]
  exact⟨fun h=>absurd rfl h,fun _=>⟨fun e=>by omega,fun _=>⟨rfl,e4 (by omega),c4⟩⟩⟩
 ·rw[zF (by omega:¬r.1=1),zF (by omega:¬r.1=3),zT k,zD,zD,zC] at c4
  rw[zF (by omega:¬r.1=1),zF (by omega:¬r.1=2),zF (by omega:¬r.1=3),zT k,zD,zD,zD,zC,e4 (by omega),Bool.not_true,zD]
  have hy:=Tn hb (e4 (by omega))
  have hpd:jF (aY b r.2.2.1)=true:=by
   cases hp:(jF (aY a r.2.1)&&jF (aY b r.2.2.1)) with
   |false=>rw[hp] at c4;cases c4
   |true=>exact(Bool.and_eq_true_iff.1 hp).2
  obtain⟨y1,y2⟩:=adV hpd
  obtain⟨_,_,_,f4,f5,_⟩:=zpa hy
  cases hp:(fL t (aY b r.2.2.1).2.2.2.1).2 with
  |false=>exact⟨fun _=>⟨.inl ⟨k,rfl⟩,rfl⟩,fun e=>by cases e⟩
  |true=>
   obtain⟨p1,p2,p3,p4⟩:=O2 hp
   rw[Bool.not_true,zD]
   refine⟨fun h=>absurd rfl h,fun _=>⟨fun e=>by omega,fun _=>⟨rfl,rfl,?_⟩⟩⟩
   have:=f5 y2
   refine(Qn _ _ (by show(fL t (aY b r.2.2.1).2.2.2.1).1.size<=1099511627776;omega)).2 ⟨hy,?_,?_,?_,fun e=>by omega⟩
   ·show _<=((fL t (aY b r.2.2.1).2.2.2.1).1.size:Int);omega
   ·show((fL t (aY b r.2.2.1).2.2.2.1).1.size:Int)<=_;omega
   ·rw[y1,amG];exact p4
 ·rw[zF (by omega:¬r.1=1),zF (by omega:¬r.1=3),zF (by omega:¬r.1=4),zT k,zD,zD,zD,zC] at c4
  rw[zF (by omega:¬r.1=1),zF (by omega:¬r.1=2),zF (by omega:¬r.1=3),zF (by omega:¬r.1=4),zT k,zD,zD,zD,zD,zC]
  unfold R3 at c4
  cases hp:(zx r.2.2.2.2.1 t).2 with
  |false=>exact⟨fun _=>⟨.inr ⟨k,rfl⟩,rfl⟩,fun e=>by cases e⟩
  |true=>
   rw[Bool.not_true,zD]
   refine⟨fun h=>absurd rfl h,fun _=>⟨fun e=>by omega,fun _=>⟨rfl,e4 (by omega),?_⟩⟩⟩
   obtain⟨p,hm,_,hq⟩:=zdq hp
   show bI _ (zx r.2.2.2.2.1 t).1=0
   rw[hq]
   cases hz:(!decide ((BN r.2.2.2.2.1).1=0)||decide ((r.2.2.2.2.1.length:Int)=0)) with
   |true=>rw[hz] at c4;cases c4
   |false=>rw[hz,zD] at c4;exact(MR c4 p hm).2
end bm

set_option profiler true
set_option profiler.threshold 2000
namespace bm
open Go.IntKind renaming wrap->zW,i64->zI,u8->zU
open Go Go.Ref
def df(ae c:Int):Int:=if ae=2/\c=1 then 1 else if ae=1/\(c=5\/c=6) then 2 else 0
def iW(h:Int)(n:Nat):Nat:=if h=1 then(n+1)/2 else if h=2 then 2*n else n
def mX(h:Int)(t:ByteArray)(n:Int):Sum Int ByteArray:=if h=1 then(if(kV t n).2.1=0 then .inr (kV t n).1 else .inl (kV t n).2.1) else if h=2 then(if(nQ t).2.2=true then .inr (nQ t).1 else .inl 3) else .inr t
def qu(s:Spec)(z:Int):Sum Int ByteArray->ByteArray×Int×Int
 | .inl e=>(bs [],0,e)
 | .inr t=>if bI s t=0 then(t,z,0) else(bs [],0,bI s t)
def vI(h:Int)(s:Spec)(b:ByteArray)(n a:Nat):ByteArray×Int×Int:=
 if b.size<a+iW h n then(bs [],0,2) else qu s ((a+iW h n:Nat):Int) (mX h (b.extract a (a+iW h n)) n)
def E1(ae:Int)(s:Spec)(b:ByteArray)(at_:Int):Sum Int (Nat×Nat):=
 if s.2.2.1=1 then .inr (s.2.2.2.1.toNat,at_.toNat) else if¬(lM ae s.2.2.1 b at_).2.2=0 then .inl (lM ae s.2.2.1 b at_).2.2 else
  if(lM ae s.2.2.1 b at_).1<s.2.2.2.1\/s.2.2.2.2.1<(lM ae s.2.2.1 b at_).1 then .inl 5 else .inr ((lM ae s.2.2.1 b at_).1.toNat,(lM ae s.2.2.1 b at_).2.1.toNat)
def Ar(h:Int)(s:Spec)(b:ByteArray):Sum Int (Nat×Nat)->ByteArray×Int×Int
 | .inl e=>(bs [],0,e)
 | .inr q=>vI h s b q.1 q.2
def qK(ae:Int)(s:Spec)(b:ByteArray)(at_:Int):ByteArray×Int×Int:=
 if(ae=1\/ae=2)/\bM s=0/\0<=at_/\at_<=b.size then Ar (df ae s.2.1) s b (E1 ae s b at_) else(bs [],0,1)
theorem YR(ae c:Int):kX ae c=some (df ae c):=by
 unfold kX W0 df
 by_cases h1:ae=1<;>by_cases h2:ae=2<;>by_cases h3:c=1<;>by_cases h4:c=5<;>by_cases h5:c=6<;>(try(exfalso;omega))<;>simp [h1,h2,h3,h4,h5]
theorem YS(ae c:Int):df ae c=0\/df ae c=1\/df ae c=2:=by
 unfold df
 split
 ·exact .inr (.inl rfl)
 ·split
  ·exact .inr (.inr rfl)
  ·exact .inl rfl
theorem WG{s:Spec}(h:bM s=0):1<=s.2.1/\s.2.1<=6/\1<=s.2.2.1/\s.2.2.1<=3/\1<=s.2.2.2.1/\s.2.2.2.1<=s.2.2.2.2.1/\s.2.2.2.2.1<=999/\(s.2.2.1=2->s.2.2.2.2.1<=99)/\(s.2.2.1=1->s.2.2.2.1=s.2.2.2.2.1):=by
 unfold bM at h
 split at h
 ·cases h
 split at h
 ·cases h
 split at h
 ·cases h
 split at h
 ·cases h
 refine⟨by omega,by omega,by omega,by omega,by omega,by omega,by omega,fun e=>by omega,fun e=>by omega⟩
theorem Nt:∀l:List Int,(gH l).length<=l.length
 | []=>by simp [gH]
 | [a]=>by simp [gH]
 |a::b::r=>by rw[gH,List.length_cons,List.length_cons,List.length_cons];have:=Nt r;omega
theorem acR(s:ByteArray):(nQ s).1.size<=s.size:=by
 unfold nQ
 split
 ·exact Nat.zero_le _
 ·split
  ·exact Nat.zero_le _
  ·rw[vG,<-zf];exact Nt _
theorem ahf{ae form:Int}{b:ByteArray}{at_:Int}(h:(lM ae form b at_).2.2=0):0<=(lM ae form b at_).2.1/\(lM ae form b at_).2.1<=b.size:=by
 unfold lM at h⊢
 cases hk:(gx ae form&&decide (0<=at_/\at_<=(b.size:Int))) with
 |false=>rw[hk] at h;cases h
 |true=>
  rw[hk] at h
  simp only[zC] at h⊢
  split
  ·exact⟨Int.le_refl _,Int.natCast_nonneg _⟩
  ·rename_i hs
   split
   ·dsimp only;exact⟨by omega,by omega⟩
   ·exact⟨Int.le_refl _,Int.natCast_nonneg _⟩
def j8(jO:Int)(jH:Spec)(mw:ByteArray)(n a:Int):Option J2:=
 let K:ByteArray->Int->Int->Option J2:=fun a0 a1 a2=>some (a0,a1,a2)
 ((kX jO jH.2.1).bind fun r4=>(bif(decide (r4=(1:Int))) then((Q2 n).bind fun r5=>(bif(decide ((zW zI (((mw).size:Int)-a))<r5)) then(K (bs []) (0:Int) (2:Int)) else(bif(decide ((0:Int)<=(zW zI (a+r5)))) then(bif(decide ((zW zI (a+r5))<=(((mw).size:Nat):Int))) then(bif(decide ((0:Int)<=a)) then(bif(decide (a<=((((zW zI (a+r5))).toNat:Nat):Int))) then((kX jO jH.2.1).bind fun r6=>(bif(decide (r6=(1:Int))) then((Q0 ((mw).extract (a).toNat ((zW zI (a+r5))).toNat) n).bind fun r7=>(bif(!(decide (r7.2.1=(0:Int)))) then(K (bs []) (0:Int) r7.2.1) else((bX jH r7.1).bind fun r8=>(bif(!(decide (r8=(0:Int)))) then(K (bs []) (0:Int) r8) else(K r7.1 (zW zI (a+r5)) (0:Int)))))) else(bif(decide (r6=(2:Int))) then((gQ ((mw).extract (a).toNat ((zW zI (a+r5))).toNat)).bind fun r9=>(bif(!r9.2.2) then(K (bs []) (0:Int) (3:Int)) else((bX jH r9.1).bind fun kS=>(bif(!(decide (kS=(0:Int)))) then(K (bs []) (0:Int) kS) else(K r9.1 (zW zI (a+r5)) (0:Int)))))) else((bX jH ((mw).extract (a).toNat ((zW zI (a+r5))).toNat)).bind fun lE=>(bif(!(decide (lE=(0:Int)))) then(K (bs []) (0:Int) lE) else(K ((mw).extract (a).toNat ((zW zI (a+r5))).toNat) (zW zI (a+r5)) (0:Int))))))) else none) else none) else none) else none))) else(bif(decide (r4=(2:Int))) then(bif(decide ((zW zI (((mw).size:Int)-a))<(zW zI ((2:Int)*n)))) then(K (bs []) (0:Int) (2:Int)) else(bif(decide ((0:Int)<=(zW zI (a+(zW zI ((2:Int)*n)))))) then(bif(decide ((zW zI (a+(zW zI ((2:Int)*n))))<=(((mw).size:Nat):Int))) then(bif(decide ((0:Int)<=a)) then(bif(decide (a<=((((zW zI (a+(zW zI ((2:Int)*n))))).toNat:Nat):Int))) then((kX jO jH.2.1).bind fun nK=>(bif(decide (nK=(1:Int))) then((Q0 ((mw).extract (a).toNat ((zW zI (a+(zW zI ((2:Int)*n))))).toNat) n).bind fun mj=>(bif(!(decide (mj.2.1=(0:Int)))) then(K (bs []) (0:Int) mj.2.1) else((bX jH mj.1).bind fun su=>(bif(!(decide (su=(0:Int)))) then(K (bs []) (0:Int) su) else(K mj.1 (zW zI (a+(zW zI ((2:Int)*n)))) (0:Int)))))) else(bif(decide (nK=(2:Int))) then((gQ ((mw).extract (a).toNat ((zW zI (a+(zW zI ((2:Int)*n))))).toNat)).bind fun qy=>(bif(!qy.2.2) then(K (bs []) (0:Int) (3:Int)) else((bX jH qy.1).bind fun uO=>(bif(!(decide (uO=(0:Int)))) then(K (bs []) (0:Int) uO) else(K qy.1 (zW zI (a+(zW zI ((2:Int)*n)))) (0:Int)))))) else((bX jH ((mw).extract (a).toNat ((zW zI (a+(zW zI ((2:Int)*n))))).toNat)).bind fun xQ=>(bif(!(decide (xQ=(0:Int)))) then(K (bs []) (0:Int) xQ) else(K ((mw).extract (a).toNat ((zW zI (a+(zW zI ((2:Int)*n))))).toNat) (zW zI (a+(zW zI ((2:Int)*n)))) (0:Int))))))) else none) else none) else none) else none)) else(bif(decide ((zW zI (((mw).size:Int)-a))<n)) then(K (bs []) (0:Int) (2:Int)) else(bif(decide ((0:Int)<=(zW zI (a+n)))) then(bif(decide ((zW zI (a+n))<=(((mw).size:Nat):Int))) then(bif(decide ((0:Int)<=a)) then(bif(decide (a<=((((zW zI (a+n))).toNat:Nat):Int))) then((kX jO jH.2.1).bind fun vB=>(bif(decide (vB=(1:Int))) then((Q0 ((mw).extract (a).toNat ((zW zI (a+n))).toNat) n).bind fun qz=>(bif(!(decide (qz.2.1=(0:Int)))) then(K (bs []) (0:Int) qz.2.1) else((bX jH qz.1).bind fun xR=>(bif(!(decide (xR=(0:Int)))) then(K (bs []) (0:Int) xR) else(K qz.1 (zW zI (a+n)) (0:Int)))))) else(bif(decide (vB=(2:Int))) then((gQ ((mw).extract (a).toNat ((zW zI (a+n))).toNat)).bind fun sw=>(bif(!sw.2.2) then(K (bs []) (0:Int) (3:Int)) else((bX jH sw.1).bind fun A9=>(bif(!(decide (A9=(0:Int)))) then(K (bs []) (0:Int) A9) else(K sw.1 (zW zI (a+n)) (0:Int)))))) else((bX jH ((mw).extract (a).toNat ((zW zI (a+n))).toNat)).bind fun CZ=>(bif(!(decide (CZ=(0:Int)))) then(K (bs []) (0:Int) CZ) else(K ((mw).extract (a).toNat ((zW zI (a+n))).toNat) (zW zI (a+n)) (0:Int))))))) else none) else none) else none) else none)))))
theorem amN(ae:Int)(s:Spec)(b:ByteArray)(n a:Nat)(hb:b.size<=1099511627776)(hn:n<=999)(ha:a<=b.size)(hh:df ae s.2.1=0):j8 ae s b n a=some (vI (df ae s.2.1) s b n a):=by
 unfold j8
 simp only[YR,zc]
 have w0:zW zI ((b.size:Int)-(a:Int))=(b.size:Int)-a:=zj (by omega) (by omega)
 have w1:∀z:Nat,z<=2000->zW zI ((a:Int)+(z:Int))=((a+z:Nat):Int):=fun z hz=>by rw[zj (by omega) (by omega)];omega
 have hx:∀z:Nat,((a+z:Nat):Int).toNat=a+z:=fun z=>Int.toNat_natCast _
 have Gx:∀z:Nat,(b.extract a (a+z)).size<=1099511627776:=fun z=>by rw[ByteArray.size_extract];omega
 rw[hh]
 simp only[Int.reduceEq,decide_true,decide_false,zC,zD,w0,w1 n (by omega),hx,Int.toNat_natCast]
 unfold vI iW mX
 simp only[show¬((0:Int)=1) from by decide,show¬((0:Int)=2) from by decide,if_false]
 split
 ·rename_i hc
  rw[zT (by omega),zC]
 ·rename_i hc
  rw[zF (by omega),zD,zT (by omega),zC,zT (by omega),zC,zT (by omega),zC,zT (by omega),zC,x9 _ _ (Gx n),zc]
  unfold qu
  by_cases hv:bI s (b.extract a (a+n))=0
  ·simp only[hv,decide_true,Bool.not_true,zD,if_true]
  ·simp only[hv,decide_false,Bool.not_false,zC,if_false]
theorem amO(ae:Int)(s:Spec)(b:ByteArray)(n a:Nat)(hb:b.size<=1099511627776)(hn:n<=999)(ha:a<=b.size)(hh:df ae s.2.1=1):j8 ae s b n a=some (vI (df ae s.2.1) s b n a):=by
 unfold j8
 simp only[YR,zc]
 have w0:zW zI ((b.size:Int)-(a:Int))=(b.size:Int)-a:=zj (by omega) (by omega)
 have w1:∀z:Nat,z<=2000->zW zI ((a:Int)+(z:Int))=((a+z:Nat):Int):=fun z hz=>by rw[zj (by omega) (by omega)];omega
 have hx:∀z:Nat,((a+z:Nat):Int).toNat=a+z:=fun z=>Int.toNat_natCast _
 have Gx:∀z:Nat,(b.extract a (a+z)).size<=1099511627776:=fun z=>by rw[ByteArray.size_extract];omega
 rw[hh]
 have ez:((n:Int)+1)/2=(((n+1)/2:Nat):Int):=by omega
 simp only[Int.reduceEq,decide_true,decide_false,zC,zD,PW (n:Int) (by omega) (by omega),zc,ez]
 simp only[w0,w1 ((n+1)/2) (by omega),hx,Int.toNat_natCast,Int.reduceEq,decide_true,decide_false,zC,zD]
 unfold vI iW mX
 simp only[if_true]
 split
 ·rename_i hc
  rw[zT (by omega),zC]
 ·rename_i hc
  rw[zF (by omega),zD,zT (by omega),zC,zT (by omega),zC,zT (by omega),zC,zT (by omega),zC,zhv _ _ (Gx _),zc]
  generalize hg:kV (b.extract a (a+(n+1)/2)) (n:Int)=g
  obtain⟨t,e,i⟩:=g
  have kD:=zau hg
  dsimp only
  by_cases he:e=0
  ·rw[zT he,Bool.not_true,zD,if_pos he,x9 _ _ (by omega),zc]
   unfold qu
   by_cases hv:bI s t=0
   ·simp only[hv,decide_true,Bool.not_true,zD,if_true]
   ·simp only[hv,decide_false,Bool.not_false,zC,if_false]
  ·rw[zF he,Bool.not_false,zC,if_neg he];rfl
theorem amP(ae:Int)(s:Spec)(b:ByteArray)(n a:Nat)(hb:b.size<=1099511627776)(hn:n<=999)(ha:a<=b.size)(hh:df ae s.2.1=2):j8 ae s b n a=some (vI (df ae s.2.1) s b n a):=by
 unfold j8
 simp only[YR,zc]
 have w0:zW zI ((b.size:Int)-(a:Int))=(b.size:Int)-a:=zj (by omega) (by omega)
 have w1:∀z:Nat,z<=2000->zW zI ((a:Int)+(z:Int))=((a+z:Nat):Int):=fun z hz=>by rw[zj (by omega) (by omega)];omega
 have hx:∀z:Nat,((a+z:Nat):Int).toNat=a+z:=fun z=>Int.toNat_natCast _
 have Gx:∀z:Nat,(b.extract a (a+z)).size<=1099511627776:=fun z=>by rw[ByteArray.size_extract];omega
 rw[hh]
 have ez:zW zI ((2:Int)*(n:Int))=((2*n:Nat):Int):=by rw[zj (by omega) (by omega)];omega
 simp only[Int.reduceEq,decide_true,decide_false,zD,zC]
 rw[ez]
 simp only[w0,w1 (2*n) (by omega),hx,Int.toNat_natCast,Int.reduceEq,decide_true,decide_false,zC,zD]
 unfold vI iW mX
 simp only[show¬((2:Int)=1) from by decide,if_false,if_true]
 split
 ·rename_i hc
  rw[zT (by omega),zC]
 ·rename_i hc
  rw[zF (by omega),zD,zT (by omega),zC,zT (by omega),zC,zT (by omega),zC,zT (by omega),zC,zvl _ (Gx _),zc]
  have kD:=acR (b.extract a (a+2*n))
  have h3:=Gx (2*n)
  generalize nQ (b.extract a (a+2*n))=g at kD
  obtain⟨t,i,ok⟩:=g
  dsimp only at kD⊢
  cases ok with
  |true=>
   rw[Bool.not_true,zD,if_pos rfl,x9 _ _ (by omega),zc]
   unfold qu
   by_cases hv:bI s t=0
   ·simp only[hv,decide_true,Bool.not_true,zD,if_true]
   ·simp only[hv,decide_false,Bool.not_false,zC,if_false]
  |false=>rw[Bool.not_false,zC,if_neg (by decide)];rfl
theorem Nc(ae:Int)(s:Spec)(b:ByteArray)(n a:Nat)(hb:b.size<=1099511627776)(hn:n<=999)(ha:a<=b.size):j8 ae s b n a=some (vI (df ae s.2.1) s b n a):=by
 rcases YS ae s.2.1 with hh|hh|hh
 ·exact amN ae s b n a hb hn ha hh
 ·exact amO ae s b n a hb hn ha hh
 ·exact amP ae s b n a hb hn ha hh
theorem ads(ae:Int)(s:Spec)(b:ByteArray)(at_:Int)(hb:b.size<=1099511627776):HU ae s b at_=some (qK ae s b at_):=by
 have hk:BR ae=some (decide (ae=1\/ae=2)):=by
  unfold BR Ru
  by_cases h1:ae=1
  ·rw[zT (p:=ae=1\/ae=2) (.inl h1),zT h1];rfl
  ·rw[zF h1,zD]
   by_cases h2:ae=2
   ·rw[zT (p:=ae=1\/ae=2) (.inr h2),zT h2]
   ·rw[zF (p:=ae=1\/ae=2) (fun h=>h.elim h1 h2),zF h2]
 unfold HU WT qK
 rw[hk,zc]
 by_cases h1:ae=1\/ae=2
 case neg=>rw[zF h1,if_neg (fun h=>h1 h.1)];rfl
 rw[zT h1,Bool.not_true,zD,PS,zc]
 by_cases h2:bM s=0
 case neg=>rw[zF h2,if_neg (fun h=>h2 h.2.1)];rfl
 rw[zT h2,Bool.not_true,zD]
 by_cases h3:at_<0
 ·rw[zT h3,if_neg (fun h=>by omega)];rfl
 rw[zF h3,zD]
 by_cases h4:(b.size:Int)<at_
 ·rw[zT h4,if_neg (fun h=>by omega)];rfl
 rw[zF h4,zD,if_pos ⟨h1,h2,by omega,by omega⟩]
 obtain⟨k1,k2,k3,k4,k5,k6,k7,k8,k9⟩:=WG h2
 obtain⟨m,rfl⟩:∃m:Nat,at_=m:=⟨at_.toNat,by omega⟩
 unfold E1
 by_cases h5:s.2.2.1=1
 ·rw[zT h5,Bool.not_true,zD,if_pos h5]
  have:=Nc ae s b s.2.2.2.1.toNat m hb (by omega) (by omega)
  rw[Int.toNat_of_nonneg (by omega)] at this
  exact this
 ·rw[zF h5,Bool.not_false,zC,if_neg h5,ahe _ _ _ _ hb,zc]
  by_cases h6:(lM ae s.2.2.1 b m).2.2=0
  case neg=>rw[zF h6,if_pos h6];rfl
  rw[zT h6,Bool.not_true,zD,if_neg (fun h=>h h6)]
  have hp:=ahf h6
  by_cases h7:(lM ae s.2.2.1 b m).1<s.2.2.2.1
  ·rw[zT h7,if_pos (.inl h7)];rfl
  rw[zF h7,zD]
  by_cases h8:s.2.2.2.2.1<(lM ae s.2.2.1 b m).1
  ·rw[zT h8,if_pos (.inr h8)];rfl
  rw[zF h8,zD,if_neg (fun h=>h.elim h7 h8)]
  have:=Nc ae s b (lM ae s.2.2.1 b m).1.toNat (lM ae s.2.2.1 b m).2.1.toNat hb (by omega) (by omega)
  rw[Int.toNat_of_nonneg (by omega),Int.toNat_of_nonneg (by omega)] at this
  exact this
def kJ(h:Int)(t:ByteArray):ByteArray:=if h=1 then(qM t).1 else if h=2 then sJ t else t
def kQ(ae form:Int)(n:Nat):ByteArray:=if form=1 then bs [] else(Ge ae form n).1
def BC(ae:Int)(s:Spec)(t:ByteArray):ByteArray×Int:=
 if¬(ae=1\/ae=2) then(bs [],1) else if¬bI s t=0 then(bs [],bI s t) else(kQ ae s.2.2.1 t.size++kJ (df ae s.2.1) t,0)
theorem zhx(t:ByteArray):(qM t).1.size<=500:=by
 by_cases h:t.size<=999/\bE (bl t)=true
 ·rw[zaw h.1 h.2];omega
 ·unfold qM;rw[zF h];exact Nat.zero_le _
theorem MD(ae form:Int)(n:Nat):(kQ ae form n).size<=500:=by
 unfold kQ Ge
 split
 ·exact Nat.zero_le _
 ·cases gx ae form with
  |false=>exact Nat.zero_le _
  |true=>
   cases(jG (n:Int) form).2 with
   |false=>exact Nat.zero_le _
   |true=>
    show(if ae=2 then _ else _:ByteArray).size<=500
    split
    ·exact zhx _
    ·have:=MF (n:Int) form;omega
theorem LO(h:Int)(t:ByteArray):(kJ h t).size<=2*t.size+500:=by
 unfold kJ
 split
 ·have:=zhx t;omega
 ·split
  ·rw[zb5];omega
  ·omega
theorem EY(x:ByteArray):bs []++x=x:=by
 apply ByteArray.ext
 simp [ByteArray.data_append,bs]
theorem adt(ae:Int)(s:Spec)(t:ByteArray)(ht:t.size<=1099511627776):BP ae s t=some (BC ae s t):=by
 unfold BP WV BR Ru BC
 have eF:=LO (df ae s.2.1) t
 have jf:=MD ae s.2.2.1 t.size
 have main:ae=1\/ae=2->(bX s t).bind (fun r2=>(bif(!(decide (r2=(0:Int)))) then some (bs [],r2) else(bif(!(decide (s.2.2.1=(1:Int)))) then((qW ae s.2.2.1 ((t).size:Int)).bind fun r3=>((kX ae s.2.1).bind fun r4=>(bif(decide (r4=(1:Int))) then((Q1 t).bind fun r5=>(bif decide ((r3.1).size+(r5.1).size<=9223372036854775807) then some (r3.1++r5.1,(0:Int)) else none)) else(bif(decide (r4=(2:Int))) then((jT t).bind fun r6=>(bif decide ((r3.1).size+(r6).size<=9223372036854775807) then some (r3.1++r6,(0:Int)) else none)) else(bif decide ((r3.1).size+(t).size<=9223372036854775807) then some (r3.1++t,(0:Int)) else none))))) else((kX ae s.2.1).bind fun r7=>(bif(decide (r7=(1:Int))) then((Q1 t).bind fun r8=>(bif decide (((bs [])).size+(r8.1).size<=9223372036854775807) then some ((bs [])++r8.1,(0:Int)) else none)) else(bif(decide (r7=(2:Int))) then((jT t).bind fun r9=>(bif decide (((bs [])).size+(r9).size<=9223372036854775807) then some ((bs [])++r9,(0:Int)) else none)) else(bif decide (((bs [])).size+(t).size<=9223372036854775807) then some ((bs [])++t,(0:Int)) else none)))))))=some (if¬bI s t=0 then(bs [],bI s t) else(kQ ae s.2.2.1 t.size++kJ (df ae s.2.1) t,0)):=fun hs=>by
  rw[x9 s t ht,zc]
  by_cases hv:bI s t=0
  case neg=>rw[zF hv,if_pos hv];rfl
  rw[zT hv,Bool.not_true,zD,if_neg (fun h=>h hv)]
  simp only[YR,zc,ahh _ _ _ (show(t.size:Int)<=9223372036854775807 by omega),zhw t (by simp only[maxLen];omega),zvm t ht]
  have hz:(bs []).size=0:=rfl
  by_cases h1:s.2.2.1=1
  ·rw[zT h1,Bool.not_true,zD]
   unfold kQ
   rw[if_pos h1]
   unfold kJ at eF⊢
   rcases YS ae s.2.1 with hh|hh|hh<;>rw[hh] at eF⊢ <;>simp only[Int.reduceEq,decide_true,decide_false,zC,zD,if_true,if_false] at eF⊢
   all_goals rw[zT (by omega),zC]
  ·rw[zF h1,Bool.not_false,zC]
   unfold kQ at jf⊢
   rw[if_neg h1] at jf⊢
   unfold kJ at eF⊢
   rcases YS ae s.2.1 with hh|hh|hh<;>rw[hh] at eF⊢ <;>simp only[Int.reduceEq,decide_true,decide_false,zC,zD,if_true,if_false] at eF⊢
   all_goals rw[zT (by omega),zC]
 by_cases h1:ae=1
 ·rw[zT h1,zC,zc,Bool.not_true,zD,if_neg (fun h=>h (.inl h1))]
  exact main (.inl h1)
 ·rw[zF h1,zD,zc]
  by_cases h2:ae=2
  ·rw[zT h2,Bool.not_true,zD,if_neg (fun h=>h (.inr h2))]
   exact main (.inr h2)
  ·rw[zF h2,if_pos (fun h=>h.elim h1 h2)];rfl
theorem amX(x p y:ByteArray):(x++p++y).extract x.size (x.size+p.size)=p:=by
 apply BI
 rw[qG,qI,qI,List.append_assoc,<-zf,<-zf,List.take_append,List.drop_append_of_le_length (by simp),]
 simp
theorem Bu(x y:ByteArray):(x++y).size=x.size+y.size:=ByteArray.size_append ..
theorem OK(b:ByteArray){i j k:Nat}(h:i<=j)(h2:j<=k):b.extract i j++b.extract j k=b.extract i k:=by
 apply BI
 rw[qI,qG,qG,qG]
 generalize bl b=l
 have e1:l.take j=(l.take k).take j:=by rw[List.take_take];congr 1;omega
 rw[e1]
 generalize l.take k=q
 rw[<-List.take_append_drop (j-i) (q.drop i),List.drop_take,List.drop_drop,show i+(j-i)=j by omega]
theorem z131{s:ByteArray}{n:Int}(h:eg (bl s)=(n,true)):jG n s.size=(s,true)/\0<=n:=by
 unfold eg at h
 split at h
 ·rename_i hc
  obtain⟨h1,h2,h3⟩:=hc
  have hv:fA (bl s) 0=n:=congrArg Prod.fst h
  have hn:=(zwj (bl s) 0 0 h3 (Int.le_refl _) (by simp) (by omega)).1
  rw[hv] at hn
  obtain⟨e1,e2⟩:=Nf (bl s).length n.toNat (bl s) h3 rfl (by rw[hv,Int.toNat_of_nonneg hn])
  rw[zf] at e1 e2 h1 h2
  refine⟨?_,hn⟩
  rw[E3 ⟨hn,by omega,by omega,by rw[Int.toNat_natCast];exact e2⟩,Int.toNat_natCast,e1,Fx]
 ·cases h
theorem ahg{ae form:Int}:gx ae form=true↔(ae=1\/ae=2)/\(form=2\/form=3):=by unfold gx;rw[decide_eq_true_eq]
theorem adX{ae form n:Int}{s:ByteArray}(hk:gx ae form=true)(h:uN ae form s=some n)(hs:s.size=kR ae form):Ge ae form n=(s,0)/\0<=n:=by
 have Cz:=ahg.1 hk
 unfold uN at h
 unfold kR at hs
 unfold Ge
 rw[hk,zC]
 by_cases h2:ae=2
 ·rw[if_pos h2] at h hs⊢
  generalize hg:kV s form=g at h
  obtain⟨t,e,i⟩:=g
  dsimp only at h
  split at h
  case isFalse=>cases h
  rename_i he
  subst he
  obtain⟨a1,a2,a3⟩:=z124 hg (by omega)
  split at h
  case isFalse=>cases h
  rename_i ho
  have hn:(eg (bl t)).1=n:=by simpa using h
  obtain⟨c1,c2⟩:=z131 (s:=t) (n:=n) (by rw[<-hn,<-ho])
  rw[a2] at c1
  rw[c1,zC]
  dsimp only
  rw[a1]
  exact⟨rfl,c2⟩
 ·rw[if_neg h2] at h hs⊢
  split at h
  case isFalse=>cases h
  rename_i ho
  have hn:(eg (bl s)).1=n:=by simpa using h
  obtain⟨c1,c2⟩:=z131 (s:=s) (n:=n) (by rw[<-hn,<-ho])
  rw[hs,Int.toNat_of_nonneg (by omega)] at c1
  rw[c1]
  exact⟨rfl,c2⟩
theorem ahi{ae form n z:Int}{b:ByteArray}{a:Nat}(h:lM ae form b a=(n,z,0)):gx ae form=true/\0<=n/\a<=b.size/\z=((a+kR ae form:Nat):Int)/\a+kR ae form<=b.size/\Ge ae form n=(b.extract a (a+kR ae form),0):=by
 unfold lM at h
 cases hk:(gx ae form&&decide (0<=(a:Int)/\(a:Int)<=(b.size:Int))) with
 |false=>rw[hk] at h;cases h
 |true=>
  rw[hk,zC,Int.toNat_natCast] at h
  rw[Bool.and_eq_true,decide_eq_true_eq] at hk
  split at h
  ·cases h
  ·rename_i hs
   split at h
   ·rename_i m hm
    cases h
    obtain⟨c1,c2⟩:=adX hk.1 hm (Fs (by omega))
    exact⟨hk.1,c2,by omega,rfl,by omega,c1⟩
   ·cases h
theorem agp{ae:Int}{s:Spec}{c t:ByteArray}{n:Nat}(hc:c.size=iW (df ae s.2.1) n)(hn:n<=999)(h:mX (df ae s.2.1) c n= .inr t):kJ (df ae s.2.1) t=c/\t.size=n:=by
 unfold mX at h
 unfold iW at hc
 unfold kJ
 rcases YS ae s.2.1 with hh|hh|hh<;>rw[hh] at h hc⊢ <;>simp only[Int.reduceEq,if_true,if_false] at h hc⊢
 ·injection h with h
  exact⟨h.symm,by rw[<-h];exact hc⟩
 ·split at h
  case isFalse=>cases h
  rename_i he
  generalize hg:kV c (n:Int)=g at h he
  obtain⟨t',e,i⟩:=g
  dsimp only at h he
  subst he
  injection h with h
  subst h
  obtain⟨a1,a2,a3⟩:=z124 hg (by omega)
  exact⟨by rw[a1],by omega⟩
 ·split at h
  case isFalse=>cases h
  rename_i he
  generalize hg:nQ c=g at h he
  obtain⟨t',i,ok⟩:=g
  dsimp only at h he
  subst he
  injection h with h
  subst h
  obtain⟨a1,a2⟩:=zim hg
  exact⟨a1,by omega⟩
theorem zv4{ae z:Int}{s:Spec}{b t:ByteArray}{a:Nat}(hb:b.size<=1099511627776)(h:qK ae s b a=(t,z,0)):(ae=1\/ae=2)/\bI s t=0/\(a:Int)<=z/\z<=b.size/\t.size<=999/\(BC ae s t).1=b.extract a z.toNat:=by
 unfold qK at h
 split at h
 case isFalse=>cases h
 rename_i hc
 obtain⟨hs,v1,ha0,ha1⟩:=hc
 obtain⟨k1,k2,k3,k4,k5,k6,k7,k8,k9⟩:=WG v1
 have body:∀(n p:Nat),n<=999->vI (df ae s.2.1) s b n p=(t,z,0)->bI s t=0/\z=((p+iW (df ae s.2.1) n:Nat):Int)/\p+iW (df ae s.2.1) n<=b.size/\t.size=n/\kJ (df ae s.2.1) t=b.extract p (p+iW (df ae s.2.1) n):=by
  intro n p hn h
  unfold vI at h
  split at h
  ·cases h
  ·rename_i aq
   cases hg:mX (df ae s.2.1) (b.extract p (p+iW (df ae s.2.1) n)) (n:Int) with
   |inl e=>
    rw[hg] at h
    replace h:(bs [],(0:Int),e)=(t,z,0):=h
    injection h with _ h
    injection h with _ h
    exfalso
    subst h
    unfold mX at hg
    split at hg
    ·split at hg
     ·cases hg
     ·rename_i bJ
      injection hg with hg
      exact bJ hg
    ·split at hg
     ·split at hg<;>cases hg
     ·cases hg
   |inr t'=>
    rw[hg] at h
    replace h:(if bI s t'=0 then(t',((p+iW (df ae s.2.1) n:Nat):Int),(0:Int)) else(bs [],0,bI s t'))=(t,z,0):=h
    split at h
    ·rename_i hv
     cases h
     obtain⟨c1,c2⟩:=agp (Fs (by omega)) hn hg
     exact⟨hv,rfl,by omega,c2,c1⟩
    ·rename_i hv
     injection h with _ h
     injection h with _ h
     exact absurd h hv
 have fin:bI s t=0->(BC ae s t).1=kQ ae s.2.2.1 t.size++kJ (df ae s.2.1) t:=fun hv=>by
  unfold BC
  rw[if_neg (fun h=>h hs),if_neg (fun h=>h hv)]
 unfold E1 at h
 by_cases hf:s.2.2.1=1
 ·rw[if_pos hf] at h
  obtain⟨b1,b2,b3,b4,b5⟩:=body _ _ (by omega) h
  rw[Int.toNat_natCast] at b2 b3 b5
  refine⟨hs,b1,by omega,by omega,by omega,?_⟩
  rw[fin b1,b5,b2,Int.toNat_natCast]
  unfold kQ
  rw[if_pos hf,EY]
 ·rw[if_neg hf] at h
  split at h
  ·rename_i he
   unfold Ar at h
   injection h with _ h
   injection h with _ h
   exact absurd h he
  ·rename_i he
   split at h
   ·cases h
   ·rename_i hr
    generalize hg:lM ae s.2.2.1 b (a:Int)=g at h he hr
    obtain⟨n,z',e⟩:=g
    dsimp only at h he hr
    have he:e=0:=by
     by_cases e0:e=0
     ·exact e0
     ·exact absurd e0 he
    subst he
    obtain⟨q1,q2,q3,q4,q5,q6⟩:=ahi hg
    obtain⟨b1,b2,b3,b4,b5⟩:=body _ _ (by omega) h
    dsimp only at b2 b3 b5
    subst q4
    rw[Int.toNat_natCast] at b2 b3 b5
    refine⟨hs,b1,by omega,by omega,by omega,?_⟩
    rw[fin b1,b5,b2,Int.toNat_natCast]
    have hpc:kQ ae s.2.2.1 t.size=b.extract a (a+kR ae s.2.2.1):=by
     unfold kQ
     rw[if_neg hf,b4,Int.toNat_of_nonneg q2,q6]
    rw[hpc,OK _ (by omega) (by omega)]
def oR(n:Nat)(l:List Int):Nat:=l.foldl (fun n c=>n*256+c.toNat) n
def ky(l:List Int):Nat:=oR 0 l
def lZ(x:Nat):List Int:=[((x/72057594037927936 % 256:Nat):Int),((x/281474976710656 % 256:Nat):Int),((x/1099511627776 % 256:Nat):Int),((x/4294967296 % 256:Nat):Int),((x/16777216 % 256:Nat):Int),((x/65536 % 256:Nat):Int),((x/256 % 256:Nat):Int),((x % 256:Nat):Int)]
theorem z116{x:Nat}(h:x<18446744073709551616):ky (lZ x)=x:=by
 simp only[ky,oR,lZ,List.foldl,Int.toNat_natCast]
 omega
theorem eight{l:List Int}(h:l.length=8):∃a b c d e f g i,l=[a,b,c,d,e,f,g,i]:=by
 match l,h with
 | [a,b,c,d,e,f,g,i],_=>exact⟨a,b,c,d,e,f,g,i,rfl⟩
def RR:Nat->Nat->List Int
 |0,_=>[]
 |m+1,x=>RR m (x/256)++ [((x % 256:Nat):Int)]
theorem ahK(l:List Int)(n:Nat)(c:Int):oR n (l++ [c])=oR n l*256+c.toNat:=by
 unfold oR;rw[List.foldl_append];rfl
theorem zv3:∀(m:Nat) (l:List Int),l.length=m->(∀y∈l,zm y)->RR m (ky l)=l/\ky l<256^m
 |0,l,h,_=>by
  have:=List.length_eq_zero_iff.1 h
  subst this
  exact⟨rfl,by decide⟩
 |m+1,l,h,hb=>by
  obtain⟨q,c,rfl⟩:∃q c,l=q++ [c]:=by
   rcases List.eq_nil_or_concat l with e|⟨q,c,e⟩
   ·rw[e] at h;cases h
   ·exact⟨q,c,by rw[e,List.concat_eq_append]⟩
  obtain⟨i1,i2⟩:=zv3 m q (by rw[List.length_append,List.length_singleton] at h;omega) fun y hy=>hb y (List.mem_append_left _ hy)
  have hc:=hb c (List.mem_append_right _ (by simp))
  unfold zm at hc
  unfold ky at i1 i2⊢
  rw[ahK]
  generalize oR 0 q=v at i1 i2
  refine⟨?_,by rw[Nat.pow_succ];omega⟩
  rw[RR,show(v*256+c.toNat)/256=v by omega,i1,show(v*256+c.toNat)% 256=c.toNat by omega,Int.toNat_of_nonneg hc.1]
theorem J5(x:Nat):lZ x=RR 8 x:=by
 simp only[RR,lZ,Nat.div_div_eq_div_mul,List.nil_append,List.cons_append]
theorem Rs{l:List Int}(h:l.length=8)(hb:∀y∈l,zm y):lZ (ky l)=l/\ky l<18446744073709551616:=by
 obtain⟨h1,h2⟩:=zv3 8 l h hb
 rw[J5]
 exact⟨h1,by rw[show(256:Nat)^8=18446744073709551616 from by decide] at h2;exact h2⟩
theorem Nb(x:Nat):∀y∈lZ x,zm y:=by
 intro y hy
 unfold lZ at hy
 simp only[List.mem_cons,List.not_mem_nil,or_false] at hy
 unfold zm
 omega
theorem OE(x:Nat):(lZ x).length=8:=rfl
theorem TA{x:Nat}(hx:x<18446744073709551616):lZ x=[0,0,0,0,0,0,0,0]↔x=0:=by
 constructor
 ·intro h
  have:=z116 hx
  rw[h] at this
  rw[<-this];rfl
 ·rintro rfl;rfl
theorem aoZ(n:Nat):zW zU (n:Int)=((n % 256:Nat):Int):=by
 simp [IntKind.wrap,IntKind.signed,IntKind.bits]
theorem Bi(k x:Nat)(j:Nat)(hj:j<8)(p q:List Int):ii (k+1) (x:Int) (j:Int) p q=ii k (x:Int) ((j+1:Nat):Int) p (q.set j ((x/2^(8*(7-j))% 256:Nat):Int)):=by
 have e1:zW zI ((7:Int)-(j:Int))=((7-j:Nat):Int):=by rw[zj (by omega) (by omega)];omega
 have e2:zW zI ((8:Int)*((7-j:Nat):Int))=((8*(7-j):Nat):Int):=by rw[zj (by omega) (by omega)];omega
 conv=>lhs;unfold ii mP
 rw[zT (by omega),zC,e1,e2,zF (by omega),zD,zh hj,Qg x _ (by omega),aoZ,zr (by omega),Int.toNat_natCast]
theorem agj(k x:Nat)(p q:List Int):ii (k+1) (x:Int) ((8:Nat):Int) p q=some (p,q):=by
 unfold ii mP
 rw[zF (by omega)];rfl
theorem zqv(x:Nat):Q8 (x:Int)=some (lZ x):=by
 obtain⟨k,hk⟩:∃k,ag=k+9:=⟨ag-9,by rw[zu]⟩
 unfold Q8 pM
 dsimp only
 rw[hk,show(0:Int)=((0:Nat):Int) from rfl,Bi _ x 0 (by decide),Bi _ x 1 (by decide),Bi _ x 2 (by decide),Bi _ x 3 (by decide),Bi _ x 4 (by decide),Bi _ x 5 (by decide),Bi _ x 6 (by decide),Bi _ x 7 (by decide),agj,zc]
 unfold pN lZ
 simp
theorem aoU{n c:Nat}(hc:c<256):n*256|||c=n*256+c:=by
 have:=Nat.two_pow_add_eq_or_of_lt (i:=8) (b:=c) hc n
 rw[show(2:Nat)^8=256 from rfl,Nat.mul_comm 256 n] at this
 exact this.symm
theorem LJ(l:List Int)(hl:l.length=8)(hb:∀y∈l,zm y):∀(m j k n:Nat),j+m=8->m<k->n<256^j->jX k (n:Int) l (j:Int)=some ((oR n (l.drop j):Nat):Int)
 |m,j,0,n,_,hk,_=>by omega
 |0,j,k+1,n,hj,hk,_=>by
  unfold jX mN
  rw[zF (by omega),zD,List.drop_eq_nil_of_le (by omega)];rfl
 |m+1,j,k+1,n,hj,hk,hn=>by
  have aq:j<l.length:=by omega
  have hc:=hb _ (List.getElem_mem aq)
  unfold zm at hc
  have hg:l.getD j 0=l[j]:=by rw[List.getD_eq_getElem?_getD,List.getElem?_eq_getElem aq];rfl
  have hp:(256:Nat)^j<=256^7:=Nat.pow_le_pow_right (by decide) (by omega)
  have hp7:(256:Nat)^7=72057594037927936:=by decide
  obtain⟨c,Cl⟩:∃c:Nat,l[j]=(c:Int):=⟨l[j].toNat,by omega⟩
  unfold jX mN
  rw[zT (by omega),zC,zh (by omega),Int.toNat_natCast,hg,Cl,zr (by omega)]
  have e1:IntKind.u64.wrap ((n:Int)*2^min ((8:Int)).toNat 64)=((n*256:Nat):Int):=by
   have:((n:Int)*2^min ((8:Int)).toNat 64)=((n*256:Nat):Int):=by
    rw[show min ((8:Int)).toNat 64=8 from rfl,show(2:Int)^8=256 from by decide];omega
   rw[this];exact z93 (by omega)
  rw[e1,z93 (by omega),xL (by omega) (by omega),aoU (by omega)]
  dsimp only
  have KC:n*256+c<256^(j+1):=by rw[Nat.pow_succ];omega
  rw[LJ l hl hb m (j+1) k _ (by omega) (by omega) KC,List.drop_eq_getElem_cons aq,Cl]
  rfl
theorem OB(l:List Int)(hl:l.length=8)(hb:∀y∈l,zm y):Q7 l=some ((ky l:Nat):Int):=by
 unfold Q7 pI
 have:=LJ l hl hb 8 0 ag 0 (by omega) (by rw[zu];omega) (by decide)
 rw[show((0:Nat):Int)=0 from rfl,List.drop_zero] at this
 dsimp only
 rw[this];rfl
def hJ(ae:Int):Nat:=if ae=1 then 16 else 8
def nE(ae:Int)(b:ByteArray)(a:Nat):Sum Int Nat:=
 if b.size<a+hJ ae then .inl 2 else if ae=1 then(if(nQ (b.extract a (a+hJ ae))).2.2=true then .inr (ky (bl (nQ (b.extract a (a+hJ ae))).1)) else .inl 3) else .inr (ky (bl (b.extract a (a+hJ ae))))
def uT(a:Nat)(ae:Int):Sum Int Nat->List Int×Int×Int
 | .inl e=>(List.replicate 8 0,0,e)
 | .inr x=>(lZ x,((a+hJ ae:Nat):Int),0)
theorem As{t:ByteArray}(h:t.size=8):bY (List.replicate 8 (0:Int)) (List.take 8 (nO t)) 0=lZ (ky (bl t)):=by
 have hl:(bl t).length=8:=by rw[zf];exact h
 rw[(Rs hl fun y hy=>jI hy).1]
 have dn:nO t=bl t:=rfl
 rw[dn]
 obtain⟨a,b,c,d,e,f,g,i,hq⟩:=eight hl
 rw[hq]
 rfl
theorem ud{s t:ByteArray}{i:Int}(h:nQ s=(t,i,true))(hs:s.size=16):t.size=8:=by have:=(zim h).2;omega
theorem Pb(ae:Int)(b:ByteArray)(a:Nat)(hb:b.size<=1099511627776)(ha:a<=b.size)(hs:ae=1\/ae=2):Gg ae b a=some (uT a ae (nE ae b a)):=by
 have w0:zW zI ((b.size:Int)-(a:Int))=(b.size:Int)-a:=zj (by omega) (by omega)
 have w8:zW zI ((a:Int)+8)=((a+8:Nat):Int):=by rw[zj (by omega) (by omega)];omega
 have w16:zW zI ((a:Int)+16)=((a+16:Nat):Int):=by rw[zj (by omega) (by omega)];omega
 have wm:zW zI ((8:Int)*2)=16:=by decide
 unfold Gg WN nE hJ
 rcases hs with rfl|rfl
 ·simp only[Int.reduceEq,decide_true,zC,wm,w0,w16,if_true,Int.toNat_natCast]
  split
  ·rename_i hc
   rw[zT (by omega)];rfl
  ·rename_i hc
   rw[zF (by omega),zD,zT (by omega),zC,zT (by omega),zC,zT (by omega),zC,zT (by omega),zC,zvl _ (by rw[ByteArray.size_extract];omega),zc]
   generalize hg:nQ (b.extract a (a+16))=g
   obtain⟨t,i,ok⟩:=g
   cases ok with
   |false=>rfl
   |true=>
    have ht:=ud hg (Fs (by omega))
    dsimp only
    rw[Bool.not_true,zD,if_pos rfl,As ht]
    rfl
 ·simp only[Int.reduceEq,decide_false,zD,w0,w8,if_false,Int.toNat_natCast]
  split
  ·rename_i hc
   rw[zT (by omega)];rfl
  ·rename_i hc
   rw[zF (by omega),zD,zT (by omega),zC,zT (by omega),zC,zT (by omega),zC,zT (by omega),zC,As (Fs (by omega))]
   rfl
theorem EX{ae:Int}{b:ByteArray}{a x:Nat}(hs:ae=1\/ae=2)(h:nE ae b a= .inr x):x<18446744073709551616/\a+hJ ae<=b.size:=by
 unfold nE hJ at h
 unfold hJ
 rcases hs with rfl|rfl
 ·simp only[if_true] at h⊢
  split at h
  ·cases h
  ·split at h
   case isFalse=>cases h
   rename_i hc ho
   injection h with h
   generalize hg:nQ (b.extract a (a+16))=g at h ho
   obtain⟨t,i,ok⟩:=g
   dsimp only at h ho
   subst ho
   have ht:=ud hg (Fs (by omega))
   rw[<-h]
   exact⟨(Rs (by rw[zf];exact ht) fun y hy=>jI hy).2,by omega⟩
 ·simp only[Int.reduceEq,if_false] at h⊢
  split at h
  ·cases h
  ·injection h with h
   rw[<-h]
   exact⟨(Rs (by rw[zf];exact Fs (by omega)) fun y hy=>jI hy).2,by omega⟩
def Sg(e:Int):Nat×Nat×Int×Int:=(0,0,0,e)
def cU(ae:Int)(b:ByteArray)(at_:Int):Nat×Nat×Int×Int:=
 if(ae=1\/ae=2)/\0<=at_/\at_<=b.size then
  match nE ae b at_.toNat with
  | .inl e=>Sg e
  | .inr x=>if x<9223372036854775808 then(x,0,((at_.toNat+hJ ae:Nat):Int),0) else
    match nE ae b (at_.toNat+hJ ae) with
    | .inl e=>Sg e
    | .inr y=>if y=0 then Sg 8 else(x-9223372036854775808,y,((at_.toNat+hJ ae+hJ ae:Nat):Int),0)
 else Sg 1
def bmR(r:Nat×Nat×Int×Int):vS×Int×Int:=(((r.1:Int),(r.2.1:Int),()),r.2.2.1,r.2.2.2)
theorem ann{x:Nat}(hx:x<18446744073709551616):decide (aQ .and .u64 (x:Int) (9223372036854775808:Int)=0)=decide (x<9223372036854775808):=by
 rw[show(9223372036854775808:Int)=((9223372036854775808:Nat):Int) from rfl,mU hx (by decide)]
 apply decide_eq_decide.2
 have h:=z9l x 63
 rw[show(2:Nat)^63=9223372036854775808 from by decide] at h
 constructor
 ·intro e
  have e:x&&&9223372036854775808=0:=by omega
  have:=h.1 e
  rcases Nat.lt_or_ge x 9223372036854775808 with h1|h1
  ·exact h1
  ·have h2:x.testBit 63=true:=by
    rw[Nat.testBit_eq_decide_div_mod_eq]
    exact zT (by omega)
   rw[h2] at this;cases this
 ·intro e
  have:x.testBit 63=false:=Nat.testBit_lt_two_pow (by rw[show(2:Nat)^63=9223372036854775808 from by decide];exact e)
  have:=h.2 this
  omega
theorem ano{x:Nat}(hx:x<18446744073709551616)(h:¬x<9223372036854775808):aQ .andNot .u64 (x:Int) (9223372036854775808:Int)=((x-9223372036854775808:Nat):Int):=by
 rw[show(9223372036854775808:Int)=((9223372036854775808:Nat):Int) from rfl,ajI hx (by decide)]
 have:x&&&(18446744073709551615-9223372036854775808)=x-9223372036854775808:=by
  have:=Nat.and_two_pow_sub_one_eq_mod x 63
  rw[show(2:Nat)^63-1=18446744073709551615-9223372036854775808 from by decide,show(2:Nat)^63=9223372036854775808 from by decide] at this
  omega
 rw[this]
theorem ajQ(ae:Int)(b:ByteArray)(at_:Int)(hb:b.size<=1099511627776):Q5 ae b at_=some (bmR (cU ae b at_)):=by
 have hk:Q9 ae=some (decide (ae=1\/ae=2)):=by
  unfold Q9 mQ
  by_cases h1:ae=1
  ·rw[zT (p:=ae=1\/ae=2) (.inl h1),zT h1];rfl
  ·rw[zF h1,zD]
   by_cases h2:ae=2
   ·rw[zT (p:=ae=1\/ae=2) (.inr h2),zT h2]
   ·rw[zF (p:=ae=1\/ae=2) (fun h=>h.elim h1 h2),zF h2]
 unfold Q5 pB cU
 rw[hk,zc]
 by_cases h1:ae=1\/ae=2
 case neg=>rw[zF h1,if_neg (fun h=>h1 h.1)];rfl
 rw[zT h1,Bool.not_true,zD]
 by_cases h3:at_<0
 ·rw[zT h3,if_neg (fun h=>by omega)];rfl
 rw[zF h3,zD]
 by_cases h4:(b.size:Int)<at_
 ·rw[zT h4,if_neg (fun h=>by omega)];rfl
 rw[zF h4,zD,if_pos ⟨h1,by omega,by omega⟩]
 obtain⟨m,rfl⟩:∃m:Nat,at_=m:=⟨at_.toNat,by omega⟩
 rw[Int.toNat_natCast,Pb ae b m hb (by omega) h1,zc]
 cases hT:nE ae b m with
 |inl e=>
  have he:¬e=0:=by
   unfold nE at hT
   split at hT
   ·cases hT;decide
   ·split at hT
    ·split at hT
     ·cases hT
     ·cases hT;decide
    ·cases hT
  show(bif(!(decide (e=0))) then _ else _)=_
  rw[zF he];rfl
 |inr x=>
  obtain⟨hx,dm⟩:=EX h1 hT
  show(bif(!(decide ((0:Int)=0))) then _ else(Q7 (lZ x)).bind _)=_
  rw[zT rfl,Bool.not_true,zD,OB _ (OE x) (Nb x),zc,z116 hx,ann hx]
  by_cases aq:x<9223372036854775808
  ·rw[zT aq,zC]
   dsimp only
   rw[if_pos aq];rfl
  ·rw[zF aq,zD]
   dsimp only[uT]
   rw[Pb ae b (m+hJ ae) hb (by omega) h1,zc,if_neg aq]
   cases hU:nE ae b (m+hJ ae) with
   |inl e=>
    have he:¬e=0:=by
     unfold nE at hU
     split at hU
     ·cases hU;decide
     ·split at hU
      ·split at hU
       ·cases hU
       ·cases hU;decide
      ·cases hU
    show(bif(!(decide (e=0))) then _ else _)=_
    rw[zF he];rfl
   |inr y=>
    obtain⟨hy,GK⟩:=EX h1 hU
    rw[show uT (m+hJ ae) ae (.inr y)=(lZ y,((m+hJ ae+hJ ae:Nat):Int),(0:Int)) from rfl]
    dsimp only
    rw[zT rfl,Bool.not_true,zD]
    by_cases hz:y=0
    ·rw[zT ((TA hy).2 hz),zC]
     rw[if_pos hz];rfl
    ·rw[zF (fun h=>hz ((TA hy).1 h)),zD,OB _ (OE y) (Nb y),zc,z116 hy,ano hx aq]
     rw[if_neg hz];rfl
def gG(ae:Int)(t:ByteArray):ByteArray:=if ae=1 then sJ t else t
def wB(x:Nat):ByteArray:=strOf (lZ x)
theorem FX(x:Nat):(wB x).size=8:=by unfold wB;rw[vG];rfl
theorem zid{ae:Int}(x:Nat):(gG ae (wB x)).size=hJ ae:=by
 unfold gG hJ
 split
 ·rw[zb5,FX]
 ·exact FX x
def fW(ae:Int)(h l:Nat):ByteArray×Int:=
 if(ae=1\/ae=2)/\h<9223372036854775808 then((if l=0 then gG ae (wB h) else gG ae (wB (h+9223372036854775808))++gG ae (wB l)),0) else(bs [],1)
theorem zov:∀a b:List Int,fJ (a++b)=fJ a++fJ b
 | [],b=>rfl
 |x::r,b=>by rw[List.cons_append,fJ,fJ,zov r b];rfl
theorem abX(a b:ByteArray):sJ (a++b)=sJ a++sJ b:=by
 unfold sJ
 rw[qI,zov,acu]
theorem acK(ae:Int)(a b:ByteArray):gG ae (a++b)=gG ae a++gG ae b:=by
 unfold gG
 split
 ·exact abX a b
 ·rfl
theorem am4{h l:Nat}(hh:h<dh):b8 h l 1= !decide (h<9223372036854775808):=by
 have e:b8 h l 1=h.testBit 63:=by
  unfold b8
  rw[if_pos (by decide)];rfl
 rw[e]
 rcases Nat.lt_or_ge h 9223372036854775808 with h1|h1
 ·rw[zT h1]
  exact Nat.testBit_lt_two_pow (by rw[show(2:Nat)^63=9223372036854775808 from by decide];exact h1)
 ·rw[zF (by omega),Nat.testBit_eq_decide_div_mod_eq]
  have hh:h<18446744073709551616:=hh
  exact zT (by omega)
theorem aoV{h:Nat}(hh:h<9223372036854775808):h|||9223372036854775808=h+9223372036854775808:=by
 have:=Nat.two_pow_add_eq_or_of_lt (i:=63) (b:=h) (by rw[show(2:Nat)^63=9223372036854775808 from by decide];exact hh) 1
 rw[show(2:Nat)^63=9223372036854775808 from by decide,Nat.mul_one] at this
 rw[Nat.or_comm,<-this,Nat.add_comm]
theorem OD(x:ByteArray):x++bs []=x:=by
 apply ByteArray.ext
 simp [ByteArray.data_append,bs]
theorem ajS(ae:Int)(h l:Nat)(hh:h<dh)(hl:l<dh):Q6 ae ((h:Int),(l:Int),())=some (fW ae h l):=by
 have hk:Q9 ae=some (decide (ae=1\/ae=2)):=by
  unfold Q9 mQ
  by_cases h1:ae=1
  ·rw[zT (p:=ae=1\/ae=2) (.inl h1),zT h1];rfl
  ·rw[zF h1,zD]
   by_cases h2:ae=2
   ·rw[zT (p:=ae=1\/ae=2) (.inr h2),zT h2]
   ·rw[zF (p:=ae=1\/ae=2) (fun h=>h.elim h1 h2),zF h2]
 unfold Q6 pD fW
 rw[hk,zc]
 by_cases h1:ae=1\/ae=2
 case neg=>rw[zF h1,if_neg (fun h=>h1 h.1)];rfl
 rw[zT h1,Bool.not_true,zD,anr h l hh hl,zc,am4 hh]
 by_cases h2:h<9223372036854775808
 case neg=>rw[zF h2,if_neg (fun h=>h2 h.2)];rfl
 rw[zT h2,Bool.not_true,zD,if_pos ⟨h1,h2⟩]
 have hH:R6 ((h:Int),(l:Int),())=some ((h:Int),(l:Int)):=rfl
 rw[hH,zc]
 dsimp only
 rw[zqv,zc]
 have z8:∀x:Nat,Nat.beq 8 (List.length (lZ x))=true:=fun x=>rfl
 have fin:∀t:ByteArray,t.size<=16->(bif decide (ae=1) then(jT t).bind fun r6=>some (r6,(0:Int)) else some (t,0))=some (gG ae t,0):=fun t ht=>by
  unfold gG
  by_cases hs:ae=1
  ·rw[zT hs,zC,zvm t (by omega),if_pos hs];rfl
  ·rw[zF hs,if_neg hs];rfl
 by_cases hz:l=0
 ·rw[zT ((TA hl).2 hz),if_pos hz,Bool.not_true,zD,zqv,zc,z8,zC]
  have dm:(strOf (lZ h)).size=8:=FX h
  rw[zT (by rw[dm];decide),zC,OD]
  exact fin (wB h) (by rw[FX];decide)
 ·have hor:aQ .or .u64 (h:Int) (9223372036854775808:Int)=((h+9223372036854775808:Nat):Int):=by
   rw[show(9223372036854775808:Int)=((9223372036854775808:Nat):Int) from rfl,xL hh (by decide),aoV h2]
  rw[zF (fun e=>hz ((TA hl).1 e)),if_neg hz,Bool.not_false,zC,z8,zC,hor,zqv,zc,z8,zC]
  have dm:∀x,(strOf (lZ x)).size=8:=fun x=>FX x
  rw[zT (by rw[dm,dm];decide),zC,<-acK]
  exact fin (wB _++wB l) (by rw[Bu,FX,FX];decide)
theorem amY(b:ByteArray){a:Nat}{ae:Int}(h:a+hJ ae<=b.size):(b.extract a (a+hJ ae)).size=hJ ae:=Fs h
theorem LK{ae:Int}{b:ByteArray}{a v:Nat}(hs:ae=1\/ae=2)(h:nE ae b a= .inr v):gG ae (wB v)=b.extract a (a+hJ ae)/\v<18446744073709551616/\a+hJ ae<=b.size:=by
 obtain⟨h1,h2⟩:=EX hs h
 refine⟨?_,h1,h2⟩
 have hz:=amY b h2
 unfold nE at h
 rw[if_neg (by omega)] at h
 unfold gG wB
 rcases hs with rfl|rfl
 ·rw[if_pos rfl] at h⊢
  split at h
  case isFalse=>cases h
  rename_i ho
  generalize hg:nQ (b.extract a (a+hJ 1))=g at h ho
  obtain⟨t,i,ok⟩:=g
  dsimp only at h ho
  subst ho
  injection h with h
  have ht:=ud hg hz
  obtain⟨e1,_⟩:=Rs (l:=bl t) (by rw[zf];exact ht) fun y hy=>jI hy
  rw[<-h,e1,Fx,(zim hg).1]
 ·rw[if_neg (by decide)] at h⊢
  injection h with h
  obtain⟨e1,_⟩:=Rs (l:=bl (b.extract a (a+hJ 2))) (by rw[zf];exact hz) fun y hy=>jI hy
  rw[<-h,e1,Fx]
theorem Na{ae:Int}{h l:Nat}(hs:ae=1\/ae=2)(hh:h<9223372036854775808):fW ae h l=((if l=0 then gG ae (wB h) else gG ae (wB (h+9223372036854775808))++gG ae (wB l)),0):=by
 unfold fW
 rw[if_pos ⟨hs,hh⟩]
theorem ajT{ae z:Int}{b:ByteArray}{a h l:Nat}(hg:cU ae b a=(h,l,z,0)):(ae=1\/ae=2)/\h<9223372036854775808/\l<18446744073709551616/\(a:Int)<=z/\z<=b.size/\(fW ae h l).1=b.extract a z.toNat:=by
 unfold cU at hg
 split at hg
 case isFalse=>cases hg
 rename_i hc
 obtain⟨hs,h0,h1⟩:=hc
 rw[Int.toNat_natCast] at hg
 cases hT:nE ae b a with
 |inl e=>
  exfalso
  rw[hT] at hg
  have he:e=0:=by
   have:=congrArg (fun r:Nat×Nat×Int×Int=>r.2.2.2) hg
   exact this
  subst he
  unfold nE at hT
  split at hT
  ·cases hT
  ·split at hT
   ·split at hT<;>cases hT
   ·cases hT
 |inr x=>
  rw[hT] at hg
  obtain⟨e1,e2,e3⟩:=LK hs hT
  dsimp only at hg
  split at hg
  ·rename_i aq
   injection hg with g1 g2
   injection g2 with g2 g3
   injection g3 with g3 _
   subst g1 g2 g3
   refine⟨hs,aq,by decide,by omega,by omega,?_⟩
   rw[Na hs aq,if_pos rfl,e1,Int.toNat_natCast]
  ·rename_i Sk
   cases hU:nE ae b (a+hJ ae) with
   |inl e=>
    exfalso
    rw[hU] at hg
    have he:e=0:=by
     have:=congrArg (fun r:Nat×Nat×Int×Int=>r.2.2.2) hg
     exact this
    subst he
    unfold nE at hU
    split at hU
    ·cases hU
    ·split at hU
     ·split at hU<;>cases hU
     ·cases hU
   |inr y=>
    rw[hU] at hg
    obtain⟨f1,f2,f3⟩:=LK hs hU
    dsimp only at hg
    split at hg
    ·exfalso
     have:=congrArg (fun r:Nat×Nat×Int×Int=>r.2.2.2) hg
     cases this
    ·rename_i hz
     injection hg with g1 g2
     injection g2 with g2 g3
     injection g3 with g3 _
     subst g1 g2 g3
     refine⟨hs,by omega,f2,by omega,by omega,?_⟩
     rw[Na hs (by omega),if_neg hz,show x-9223372036854775808+9223372036854775808=x by omega,e1,f1,Int.toNat_natCast]
     exact OK _ (by omega) (by omega)
end bm

set_option maxRecDepth 10000
namespace bm
open Go.IntKind renaming wrap->zW,i64->zI,u8->zU
open Go Go.Ref
theorem Pw{α:Type}{p:Prop}[Decidable p](h:p){x y:α}:(bif !decide p then x else y)=y:=by rw[zT h];rfl
theorem Pv{α:Type}{p:Prop}[Decidable p](h:¬p){x y:α}:(bif !decide p then x else y)=x:=by rw[zF h];rfl
def fR(m:ByteArray):Bool:=decide ((m.size:Int)=4)&&bE (bl m)
theorem rS{m:ByteArray}:fR m=true↔m.size=4/\bE (bl m)=true:=by
 unfold fR
 rw[Bool.and_eq_true,decide_eq_true_eq]
 constructor<;>intro h<;>exact⟨by omega,h.2⟩
theorem zb7(m:ByteArray)(h:m.size<=maxLen):n4 m=some (fR m):=by
 unfold n4 U5 fR
 cases decide ((m.size:Int)=4) with
 |false=>rfl
 |true=>rw[zC,WL m h];rfl
theorem adi(m:ByteArray)(h:m.size<=maxLen):sM m=some (fR m):=by
 unfold sM TI fR
 cases decide ((m.size:Int)=4) with
 |false=>rfl
 |true=>rw[zC,MV m h];rfl
theorem yl{m:ByteArray}(h:fR m=true)(i:Nat)(hi:i<4):48<=ze m i/\ze m i<=57:=by
 obtain⟨h1,h2⟩:=rS.1 h
 have hl:i<(bl m).length:=by rw[zf];omega
 have:=List.all_eq_true.1 h2 _ (List.getElem_mem hl)
 rw[lK,List.getD_eq_getElem?_getD,List.getElem?_eq_getElem hl]
 exact of_decide_eq_true this
def gB(m:ByteArray):Int:=bif fR m then ze m 0-48 else 0
def eH(m:ByteArray):Bool:=fR m&&(decide (ze m 2=48)||decide (ze m 2=50))
theorem SS(m:ByteArray)(h:m.size<=maxLen):ju m=some (gB m,fR m):=by
 unfold ju U6 gB
 rw[zb7 m h,Option.bind_some]
 cases hr:fR m with
 |false=>rfl
 |true=>
  obtain⟨h1,_⟩:=rS.1 hr
  have:=yl hr 0 (by omega)
  simp only[Bool.not_true,zD,zC]
  rw[zn (by omega) (by omega),show(0:Int).toNat=0 from rfl,uZ (by omega) (by omega),zj (by omega) (by omega)]
theorem zdl(m:ByteArray)(h:m.size<=maxLen):n3 m=some (eH m):=by
 unfold n3 U3 eH
 rw[zb7 m h,Option.bind_some]
 cases hr:fR m with
 |false=>rfl
 |true=>
  obtain⟨h1,_⟩:=rS.1 hr
  rw[zC,zn (by omega) (by omega),zn (by omega) (by omega),show(2:Int).toNat=2 from rfl]
  cases decide (ze m 2=48)<;>rfl
theorem zhn(m:ByteArray)(h:m.size<=maxLen):Gp m=some (eH m):=by
 unfold Gp YN eH
 rw[ahW m h,Option.bind_some]
 unfold eg
 by_cases h4:m.size=4
 ·cases hd:bE (bl m) with
  |false=>
   rw[if_neg (by simp)]
   have:fR m=false:=by unfold fR;rw[hd,Bool.and_false]
   rw[this];rfl
  |true=>
   have hr:fR m=true:=rS.2 ⟨h4,hd⟩
   rw[if_pos ⟨by rw[zf];omega,by rw[zf];omega,rfl⟩,hr]
   dsimp only
   rw[zC,zT (by omega),zC,Bool.true_and]
   have hl:(bl m).length=4:=by rw[zf,h4]
   obtain⟨d0,d1,d2,d3,hb⟩:∃d0 d1 d2 d3,bl m=[d0,d1,d2,d3]:=by
    match hm:bl m,hl with
    | [d0,d1,d2,d3],_=>exact⟨d0,d1,d2,d3,rfl⟩
   have h0:=yl hr 0 (by omega)
   have h1:=yl hr 1 (by omega)
   have h2:=yl hr 2 (by omega)
   have h3:=yl hr 3 (by omega)
   rw[lK,hb] at h0 h1 h2 h3
   rw[lK,hb]
   simp only[List.getD_cons_zero,List.getD_cons_succ] at h0 h1 h2 h3⊢
   have hv:fA [d0,d1,d2,d3] 0=1000*(d0-48)+100*(d1-48)+10*(d2-48)+(d3-48):=by
    simp only[fA,List.foldl_cons,List.foldl_nil];omega
   have hq:Int.tmod (zW zI (Int.tdiv (fA [d0,d1,d2,d3] 0) 10)) 10=d2-48:=by
    rw[hv,Int.tdiv_eq_ediv_of_nonneg (by omega),zj (by omega) (by omega),Int.tmod_eq_emod_of_nonneg (by omega)]
    omega
   rw[hq]
   by_cases e1:d2=48
   ·rw[zT e1,zT (by omega:d2-48=0)];rfl
   ·rw[zF e1,zF (by omega:¬d2-48=0),zD,Bool.false_or]
    congr 1
    exact decide_eq_decide.2 (by omega)
 ·have:fR m=false:=by
   unfold fR
   rw[zF (by omega),Bool.false_and]
  rw[this]
  cases(if 1<=(bl m).length/\(bl m).length<=18/\bE (bl m)=true then(fA (bl m) 0,true) else((0:Int),false)).2 with
  |false=>rfl
  |true=>rw[zC,zF (by omega)];rfl
def iI(m:ByteArray)(v:Int):Bool:=fR m&&decide (ze m 0-48=v)
theorem zjb(m:ByteArray)(v:Int)(h:m.size<=maxLen):qR m v=some (iI m v):=by
 unfold qR Ud iI
 rw[adi m h,Option.bind_some]
 cases hr:fR m with
 |false=>rfl
 |true=>
  obtain⟨h1,_⟩:=rS.1 hr
  have:=yl hr 0 (by omega)
  have w1:zW zI (ze m 0)=ze m 0:=zj (by omega) (by omega)
  rw[zC,zn (by omega) (by omega),show(0:Int).toNat=0 from rfl,w1,zj (by omega) (by omega)]
  rfl
def nT(p:bA)(a b:zg):Bool:=iI p.1 a.2.1&&(iI p.2.1 b.2.1&&(eH p.1==eH p.2.1))
theorem ak2(p:bA)(a b:zg)(h1:p.1.size<=maxLen)(h2:p.2.1.size<=maxLen):oc p a b=some (nT p a b):=by
 unfold oc Ws nT iI
 rw[SS _ h1,SS _ h2,zdl _ h1,zdl _ h2]
 simp only[Option.bind_some]
 unfold gB
 cases fR p.1 with
 |false=>rfl
 |true=>
  cases fR p.2.1 with
  |false=>simp
  |true=>
   simp only[zC,Bool.true_and]
   cases decide (ze p.1 0-48=a.2.1) with
   |false=>rfl
   |true=>
    cases decide (ze p.2.1 0-48=b.2.1) with
    |false=>rfl
    |true=>rfl
abbrev bK:=ByteArray×List bh×Unit
abbrev bZ:=Int×Int×Unit
abbrev nx:bh:=(0,bs [],())
abbrev kA:bZ:=(0,0,())
structure eU(m:bK):Prop where
 uJ:m.1.size<=9223372036854775807
 len:m.2.1.length<=1000000
 sA:∀v∈m.2.1,v.2.1.size<=1099511627776
def eZ(l:List bh)(no:Int):List bh:=l.filter fun v=> !decide (v.1=no)
theorem LY(l:List bh)(no:Int):(eZ l no).length<=l.length:=List.length_filter_le _ _
theorem zbb(no:Int)(fin:bK×bK->Option (bK×bK)):∀(l:List bh) (i:Int) (s:bK×bK),s.2.2.1.length+l.length<=1000000000->
 bk (fun i (x:bh) (s:bK×bK) K=>(bif(!(decide (x.1=no))) then(bif(decide ((s.2.2.1.length+(List.length ([x]:List bh)))*24<=140737488355328)) then K (s.1,(s.2.1,(s.2.2.1++([x]:List bh)),())) else none) else K s)) fin l i s=fin (s.1,(s.2.1,s.2.2.1++eZ l no,()))
 | [],i,s,_=>by
   show fin s=_
   simp [eZ]
 |x::r,i,s,h=>by
  simp only[List.length_cons] at h
  rw[bk]
  by_cases hx:x.1=no
  ·rw[zT hx,Bool.not_true,zD]
   refine(zbb no fin r (i+1) s (by omega)).trans ?_
   simp [eZ,hx]
  ·rw[zF hx,Bool.not_false,zC,zT (by simp only[List.length_singleton];omega),zC]
   refine(zbb no fin r (i+1) (s.1,(s.2.1,s.2.2.1++ [x],())) (by simp only[List.length_append,List.length_singleton];omega)).trans ?_
   simp [eZ,hx]
theorem acw(m:bK)(no:Int)(h:m.2.1.length<=1000000):te m no=some (m.1,eZ m.2.1 no,()):=by
 unfold te U2
 dsimp only
 have:=cw nx m.2.1 (by rw[zi];omega) (fun i (x:bh) (s:bK×bK) K=>(bif(!(decide (x.1=no))) then(bif(decide ((s.2.2.1.length+(List.length ([x]:List bh)))*24<=140737488355328)) then K (s.1,(s.2.1,(s.2.2.1++([x]:List bh)),())) else none) else K s)) (fun s=>some s)
  (fun k i s=>QN k no m.2.1 (m.2.1.length:Int) i s.1 s.2) (fun k i s=>rfl) ((bs [],[],()),(m.1,[],()))
 rw[this,zbb no _ _ _ _ (by simp;omega)]
 rfl
def cm(no:Int):List bh->Int->Int
 | [],_=> -1
 |x::r,i=>if no<x.1 then i else cm no r (i+1)
theorem z59(no:Int):∀(l:List bh) (i:Int),0<=i->(cm no l i= -1/\∀x∈l,x.1<=no)\/(i<=cm no l i/\cm no l i<i+l.length)
 | [],i,h=> .inl ⟨rfl,fun x hx=>by cases hx⟩
 |x::r,i,h=>by
  unfold cm
  by_cases hx:no<x.1
  ·rw[if_pos hx];right;simp only[List.length_cons];omega
  ·rw[if_neg hx]
   rcases z59 no r (i+1) (by omega) with⟨h1,h2⟩|h1
   ·left
    refine⟨h1,fun y hy=> ?_⟩
    rcases List.mem_cons.1 hy with rfl|hy
    ·omega
    ·exact h2 y hy
   ·right;simp only[List.length_cons];omega
def Zn(r no:Int):Sum (Int×Int) Int:=bif decide (r<0) then .inr no else .inl (r,no)
theorem Mj(no:Int):∀(l:List bh) (i:Int),0<=i->bk (fun i (x:bh) (s:Int) K=>((td x s).bind fun r1=>(bif r1.1 then some (Sum.inl (i,r1.2)) else K r1.2))) (fun s=>some (Sum.inr s)) l i no=some (Zn (cm no l i) no)
 | [],i,h=>rfl
 |x::r,i,h=>by
  rw[bk,cm]
  show(bif decide (no<x.1) then some (Sum.inl (i,no)) else bk _ _ r (i+1) no)=_
  by_cases hx:no<x.1
  ·rw[zT hx,zC,if_pos hx]
   unfold Zn
   rw[zF (by omega)];rfl
  ·rw[zF hx,zD,if_neg hx]
   exact Mj no r (i+1) (by omega)
theorem ade(l:List bh)(no:Int)(h:l.length<=1000000):tC l no=some (cm no l 0,no):=by
 unfold tC VK
 dsimp only
 have:=cw nx l (by rw[zi];omega) (fun i (x:bh) (s:Int) K=>((td x s).bind fun r1=>(bif r1.1 then some (Sum.inl (i,r1.2)) else K r1.2))) (fun s=>some (Sum.inr s))
  (fun k i s=>QY k l (l.length:Int) i s) (fun k i s=>rfl) no
 rw[this,Mj no l 0 (Int.le_refl _),zc]
 unfold Zn
 rcases z59 no l 0 (Int.le_refl _) with⟨h1,_⟩|h1
 ·rw[h1];rfl
 ·rw[zF (by omega)];rfl
theorem ahk(old:List bh)(at_:Nat)(v d:bh)(h:at_<=old.length):
 bY (List.set (bY (List.replicate (old.length+1) d) (List.take (old.length+1) (List.drop 0 (List.take at_ old))) 0) at_ v) (List.take (old.length+1-(at_+1)) (List.drop at_ (List.take old.length old))) (at_+1)=old.take at_++v::old.drop at_:=by
 have e1:List.take (old.length+1) (List.drop 0 (List.take at_ old))=old.take at_:=by
  rw[List.drop_zero,List.take_take,Nat.min_eq_right (by omega)]
 have e2:List.take (old.length+1-(at_+1)) (List.drop at_ (List.take old.length old))=old.drop at_:=by
  rw[List.take_length,List.take_of_length_le (by rw[List.length_drop];omega)]
 rw[e1,e2]
 have hl:(old.take at_).length=at_:=by rw[List.length_take];omega
 have e3:bY (List.replicate (old.length+1) d) (old.take at_) 0=old.take at_++List.replicate (old.length+1-at_) d:=by
  unfold bY
  rw[List.take_zero,List.nil_append,hl,Nat.zero_add,List.drop_replicate]
 obtain⟨n,hn⟩:∃n,old.length+1-at_=n+1:=⟨old.length-at_,by omega⟩
 have e4:List.set (old.take at_++List.replicate (old.length+1-at_) d) at_ v=old.take at_++v::List.replicate n d:=by
  rw[hn,List.replicate_succ,List.set_append,if_neg (by omega),hl,Nat.sub_self,List.set_cons_zero]
 rw[e3,e4]
 unfold bY
 have e5:(old.take at_++v::List.replicate n d).take (at_+1)=old.take at_++ [v]:=by
  rw[List.take_append,hl,show at_+1-at_=1 by omega,List.take_of_length_le (by omega)];rfl
 have e6:(old.take at_++v::List.replicate n d).drop (at_+1+(old.drop at_).length)=[]:=by
  apply List.drop_eq_nil_of_le
  rw[List.length_append,hl,List.length_cons,List.length_replicate,List.length_drop]
  omega
 rw[e5,e6,List.append_nil,List.append_assoc]
 rfl
theorem MT(q t:ByteArray)(no:Int)(old:List bh)(at_:Nat)(h:at_<=old.length)(hl:old.length<=1000000):
 (bif(decide ((zW zI (((List.length old):Int)+(1:Int)))=(zW zI (((List.length old):Int)+(1:Int))))) then(bif(decide ((0:Int)<=(zW zI (((List.length old):Int)+(1:Int))))) then(bif(decide ((zW zI (((List.length old):Int)+(1:Int)))*24<=140737488355328)) then(bif(decide ((0:Int)<=((at_:Nat):Int))) then(bif(decide (((at_:Nat):Int)<=(((List.length old):Nat):Int))) then(bif(Nat.beq ((zW zI (((List.length old):Int)+(1:Int)))).toNat (List.length (List.replicate ((zW zI (((List.length old):Int)+(1:Int)))).toNat ((0:Int),(bs []),())))) then(zd ((at_:Nat):Int) ((zW zI (((List.length old):Int)+(1:Int)))).toNat (bif(Nat.ble ((((at_:Nat):Int)).toNat+1) (List.length (bY (List.replicate ((zW zI (((List.length old):Int)+(1:Int)))).toNat ((0:Int),(bs []),())) (List.take ((zW zI (((List.length old):Int)+(1:Int)))).toNat (List.drop 0 (List.take (((at_:Nat):Int)).toNat old))) 0))) then(bif(decide ((0:Int)<=(zW zI (((at_:Nat):Int)+(1:Int))))) then(bif(decide ((zW zI (((at_:Nat):Int)+(1:Int)))<=((((zW zI (((List.length old):Int)+(1:Int)))).toNat:Nat):Int))) then(bif(decide ((0:Int)<=((at_:Nat):Int))) then(bif(decide (((at_:Nat):Int)<=(((List.length old):Nat):Int))) then(bif(Nat.beq ((zW zI (((List.length old):Int)+(1:Int)))).toNat (List.length (List.set (bY (List.replicate ((zW zI (((List.length old):Int)+(1:Int)))).toNat ((0:Int),(bs []),())) (List.take ((zW zI (((List.length old):Int)+(1:Int)))).toNat (List.drop 0 (List.take (((at_:Nat):Int)).toNat old))) 0) (((at_:Nat):Int)).toNat (no,t,())))) then(bif(Nat.ble ((zW zI (((at_:Nat):Int)+(1:Int)))).toNat ((zW zI (((List.length old):Int)+(1:Int)))).toNat) then(bif(Nat.beq ((zW zI (((List.length old):Int)+(1:Int)))).toNat (List.length (bY (List.set (bY (List.replicate ((zW zI (((List.length old):Int)+(1:Int)))).toNat ((0:Int),(bs []),())) (List.take ((zW zI (((List.length old):Int)+(1:Int)))).toNat (List.drop 0 (List.take (((at_:Nat):Int)).toNat old))) 0) (((at_:Nat):Int)).toNat (no,t,())) (List.take (((zW zI (((List.length old):Int)+(1:Int)))).toNat-((zW zI (((at_:Nat):Int)+(1:Int)))).toNat) (List.drop (((at_:Nat):Int)).toNat (List.take (List.length old) old))) ((zW zI (((at_:Nat):Int)+(1:Int)))).toNat))) then(some (q,(bY (List.set (bY (List.replicate ((zW zI (((List.length old):Int)+(1:Int)))).toNat ((0:Int),(bs []),())) (List.take ((zW zI (((List.length old):Int)+(1:Int)))).toNat (List.drop 0 (List.take (((at_:Nat):Int)).toNat old))) 0) (((at_:Nat):Int)).toNat (no,t,())) (List.take (((zW zI (((List.length old):Int)+(1:Int)))).toNat-((zW zI (((at_:Nat):Int)+(1:Int)))).toNat) (List.drop (((at_:Nat):Int)).toNat (List.take (List.length old) old))) ((zW zI (((at_:Nat):Int)+(1:Int)))).toNat),())) else none) else none) else none) else none) else none) else none) else none) else none)) else none) else none) else none) else none) else none) else none)=some (q,old.take at_++(no,t,())::old.drop at_,()):=by
 have w1:zW zI ((old.length:Int)+1)=((old.length+1:Nat):Int):=zr (by omega)
 have w2:zW zI ((at_:Int)+1)=((at_+1:Nat):Int):=zr (by omega)
 simp only[w1,w2,Int.toNat_natCast]
 have key:=ahk old at_ (no,t,()) ((0:Int),bs [],()) h
 have l1:(bY (List.replicate (old.length+1) ((0:Int),(bs []),())) (List.take (old.length+1) (List.drop 0 (List.take at_ old))) 0).length=old.length+1:=by
  unfold bY;simp;omega
 have l2:(old.take at_++(no,t,())::old.drop at_).length=old.length+1:=by
  rw[List.length_append,List.length_take,List.length_cons,List.length_drop];omega
 have d2:decide ((0:Int)<=((old.length+1:Nat):Int))=true:=zT (by omega)
 have d3:decide (((old.length+1:Nat):Int)*24<=140737488355328)=true:=zT (by omega)
 have d4:decide ((0:Int)<=(at_:Int))=true:=zT (by omega)
 have d5:decide ((at_:Int)<=(old.length:Int))=true:=zT (by omega)
 have d9:decide ((0:Int)<=((at_+1:Nat):Int))=true:=zT (by omega)
 have d10:decide (((at_+1:Nat):Int)<=((old.length+1:Nat):Int))=true:=zT (by omega)
 have b1:Nat.ble (at_+1) (old.length+1)=true:=Nat.ble_eq_true_of_le (by omega)
 have hw:∀{R:Type} (x:Option R),zd (at_:Int) (old.length+1) x=x:=fun x=>zh (by omega)
 simp only[decide_true,zC,d2,d3,d4,d5,List.length_replicate,Nat.beq_refl,hw,l1,b1,d9,d10,List.length_set,key,l2]
def mh(l:List bh)(no:Int)(t:ByteArray):List bh:=
 bif decide (cm no l 0<0) then l++ [(no,t,())] else l.take (cm no l 0).toNat++(no,t,())::l.drop (cm no l 0).toNat
def eC(m:bK)(no:Int)(t:ByteArray):bK:=(m.1,mh (eZ m.2.1 no) no t,())
theorem Ts(m:bK)(no:Int)(t:ByteArray)(h:m.2.1.length<=1000000):ig m no t=some (eC m no t):=by
 unfold ig U0 eC
 have hl:=LY m.2.1 no
 rw[acw m no h,zc]
 dsimp only
 generalize eZ m.2.1 no=old at*
 rw[ade old no (by omega),zc]
 dsimp only
 unfold mh
 rcases z59 no old 0 (Int.le_refl _) with⟨h1,_⟩|h1
 ·rw[h1,zT (by omega:(-1:Int)<0),zC,zC]
  refine(MT m.1 t no old old.length (Nat.le_refl _) (by omega)).trans ?_
  rw[List.take_length,List.drop_length]
 ·rw[zF (by omega:¬cm no old 0<0),zD,zD]
  obtain⟨n,hn⟩:∃n:Nat,cm no old 0=n:=⟨(cm no old 0).toNat,by omega⟩
  rw[hn]
  refine(MT m.1 t no old n (by omega) (by omega)).trans ?_
  rw[Int.toNat_natCast]
def sG(s:zg):List bh->Int->Option bZ
 | [],_=>none
 |x::r,last=>bif decide (x.1<=last) then some (11,x.1,()) else bif !bq s x.1 then some (9,x.1,()) else bif !decide (bI (aY s x.1) x.2.1=0) then some (bI (aY s x.1) x.2.1,x.1,()) else sG s r x.1
def OL(o:Option bZ):Option (Sum bZ bZ):=some (match o with
 |some f=> .inl f
 |none=> .inr kA)
theorem zvb(s:zg)(hs:s.2.2.1.length<=maxLen):∀(l:List bh) (i last:Int),(∀v∈l,v.2.1.size<=1099511627776)->
 bk (fun i (x:bh) (t9:Int) K=>(bif(decide (x.1<=t9)) then some (Sum.inl ((11:Int),x.1,())) else((fS s x.1).bind fun r3=>(bif(!r3.2) then some (Sum.inl ((9:Int),x.1,())) else((bX r3.1 x.2.1).bind fun r4=>(bif(!(decide (r4=(0:Int)))) then some (Sum.inl (r4,x.1,())) else K x.1)))))) (fun _=>some (Sum.inr kA)) l i last=OL (sG s l last)
 | [],i,last,_=>rfl
 |x::r,i,last,h=>by
  rw[bk,sG,Br s _ hs,zc]
  cases decide (x.1<=last) with
  |true=>rfl
  |false=>
   rw[zD,zD]
   dsimp only
   cases bq s x.1 with
   |false=>rfl
   |true=>
    rw[Bool.not_true,zD,zD,x9 _ _ (h x List.mem_cons_self),zc]
    cases decide (bI (aY s x.1) x.2.1=0) with
    |false=>rfl
    |true=>
     rw[Bool.not_true,zD,zD]
     exact zvb s hs r (i+1) x.1 (fun v hv=>h v (List.mem_cons_of_mem _ hv))
def gI(s:zg)(m:bK):bZ:=
 bif !decide ((hM s).1=0) then(1,-1,()) else bif !fR m.1 then(7,0,()) else bif !decide (gB m.1=s.2.1) then(7,0,()) else match sG s m.2.1 0 with
  |some f=>f
  |none=>kA
theorem zp2(s:zg)(m:bK)(hs:s.2.2.1.length<=maxLen)(h:eU m):qU s m=some (gI s m):=by
 unfold qU UU gI
 rw[Qb s hs,zc,SS m.1 (by rw[zi];exact h.uJ),zc]
 cases decide ((hM s).1=0) with
 |false=>rfl
 |true=>
  rw[Bool.not_true,zD,zD]
  dsimp only
  cases fR m.1 with
  |false=>rfl
  |true=>
   rw[Bool.not_true,zD,zD]
   cases decide (gB m.1=s.2.1) with
   |false=>rfl
   |true=>
    rw[Bool.not_true,zD,zD]
    have hl:=h.len
    have:=cw nx m.2.1 (by rw[zi];omega) (fun i (x:bh) (t9:Int) K=>(bif(decide (x.1<=t9)) then some (Sum.inl ((11:Int),x.1,())) else((fS s x.1).bind fun r3=>(bif(!r3.2) then some (Sum.inl ((9:Int),x.1,())) else((bX r3.1 x.2.1).bind fun r4=>(bif(!(decide (r4=(0:Int)))) then some (Sum.inl (r4,x.1,())) else K x.1)))))) (fun _=>some (Sum.inr kA))
     (fun k i t9=>QK k t9 m.2.1 (m.2.1.length:Int) i s kA) (fun k i t9=>rfl) 0
    rw[this,zvb s hs _ _ _ h.sA]
    unfold OL
    cases sG s m.2.1 0<;>rfl
theorem am9{a b:bK}:a=b↔a.1=b.1/\a.2.1=b.2.1:=⟨fun h=>by rw[h];exact⟨rfl,rfl⟩,fun h=>Prod.ext h.1 (Prod.ext h.2 rfl)⟩
abbrev Map:=List bA×List aV×Unit
structure dM(m:Map):Prop where
 np:eI m.1
 len:m.2.1.length<=1000000
 rules:∀r∈m.2.1,dX r
def eM(a b:zg):List ByteArray->List bA->Int->Option (Int×Int)
 |_,[],_=>none
 |seen,p::r,i=>if nT p a b=true then(if p.1∈seen then some (10,i) else eM a b (seen++ [p.1]) r (i+1)) else some (7,i)
abbrev Xr:=Sum (Int×Int×Int×Map×zg×zg) (Map×zg×zg)
def nq(m:Map)(a b:zg)(o:Option (Int×Int)):Option Xr:=some (match o with
 |some e=> .inl (e.1,2,e.2,m,a,b)
 |none=> .inr (m,a,b))
theorem NE(m:Map)(a b:zg):∀(l:List bA) (i:Int) (seen:List ByteArray),(∀p∈l,p.1.size<=1099511627776/\p.2.1.size<=1099511627776)->
 bk (fun i (x:bA) (s:List jK) K=>((oc x a b).bind fun r2=>(bif(!r2) then some (Sum.inl ((7:Int),(2:Int),i,m,a,b)) else(bif fg (gd .str) false s x.1 then some (Sum.inl ((10:Int),(2:Int),i,m,a,b)) else(bif fh (gd .str) s x.1 then none else K (s++ [(x.1,true)])))))) (fun _=>some (Sum.inr (m,a,b))) l i (dQ seen)=nq m a b (eM a b seen l i)
 | [],i,seen,_=>rfl
 |p::r,i,seen,h=>by
  obtain⟨h1,h2⟩:=h p List.mem_cons_self
  simp only[bk,eM]
  rw[ak2 p a b (by rw[zi];omega) (by rw[zi];omega),Option.bind_some]
  cases nT p a b with
  |false=>rw[if_neg (by simp)];rfl
  |true=>
   rw[if_pos rfl]
   simp only[Bool.not_true,zD]
   have e1:=Tk (gd .str) (fun _ _=>rfl) p.1 seen
   have e2:=Tl (gd .str) (fun _ _=>rfl) p.1 seen
   by_cases hm:p.1∈seen
   ·rw[e1.2 hm,if_pos hm];rfl
   ·rw[Fm e1 hm,Fm e2 hm,if_neg hm,zD,zD,za0]
    exact NE m a b r (i+1) (seen++ [p.1]) fun q hq=>h q (List.mem_cons_of_mem _ hq)
theorem agZ(m:Map)(a b:zg)(h:eI m.1):Ht ag m.1 (m.1.length:Int) 0 m a b []=nq m a b (eM a b [] m.1 0):=by
 have hl:=h.len
 have:=cw jm m.1 (by rw[zi];omega) (fun i (x:bA) (s:List jK) K=>((oc x a b).bind fun r2=>(bif(!r2) then some (Sum.inl ((7:Int),(2:Int),i,m,a,b)) else(bif fg (gd .str) false s x.1 then some (Sum.inl ((10:Int),(2:Int),i,m,a,b)) else(bif fh (gd .str) s x.1 then none else K (s++ [(x.1,true)])))))) (fun _=>some (Sum.inr (m,a,b)))
  (fun k i s=>Ht k m.1 (m.1.length:Int) i m a b s) (fun k i s=>rfl) []
 rw[this]
 exact NE m a b m.1 0 [] h.sz
theorem af3(f:ByteArray)(l:List bA):(zx l f).2=true↔f∈l.map fun p=>p.1:=by
 unfold zx
 induction l with
 |nil=>simp
 |cons p r ih=>
  rw[List.find?_cons,List.map_cons,List.mem_cons]
  by_cases h:p.1=f
  ·rw[zT h];exact⟨fun _=> .inl h.symm,fun _=>rfl⟩
  ·rw[zF h]
   exact ih.trans ⟨.inr,fun h'=>h'.resolve_left fun e=>h e.symm⟩
theorem zp3(m:Map)(a b:zg)(h:eI m.1):∀(n j k:Nat),j+n=m.1.length->n<k->FB k (j:Int) m a b=nq m a b (eM a b ((m.1.take j).map fun p=>p.1) (m.1.drop j) j)
 |n,j,0,_,hk=>by omega
 |0,j,k+1,hj,hk=>by
  unfold FB Qt
  rw[zF (by omega),show m.1.drop j=[] from List.drop_eq_nil_of_le (by omega)];rfl
 |n+1,j,k+1,hj,hk=>by
  have hl:=h.len
  have aq:j<m.1.length:=by omega
  obtain⟨h1,h2⟩:=h.sz _ (List.getElem_mem aq)
  have hg:∀d,m.1.getD j d=m.1[j]:=fun d=>by rw[List.getD_eq_getElem?_getD,List.getElem?_eq_getElem aq];rfl
  unfold FB Qt
  rw[zT (by omega),zC,zh aq,Int.toNat_natCast,hg,zjb _ _ (by rw[zi];omega),Option.bind_some,List.drop_eq_getElem_cons aq]
  simp only[eM]
  cases v1:iI m.1[j].1 a.2.1 with
  |false=>
   have:nT m.1[j] a b=false:=by unfold nT;rw[v1];rfl
   rw[this,if_neg (by simp)];rfl
  |true=>
   simp only[Bool.not_true,zD]
   rw[zjb _ _ (by rw[zi];omega),Option.bind_some]
   cases v2:iI m.1[j].2.1 b.2.1 with
   |false=>
    have:nT m.1[j] a b=false:=by unfold nT;rw[v1,v2];rfl
    rw[this,if_neg (by simp)];rfl
   |true=>
    simp only[Bool.not_true,zD]
    rw[zhn _ (by rw[zi];omega),Option.bind_some,zhn _ (by rw[zi];omega),Option.bind_some]
    cases v3:(eH m.1[j].1==eH m.1[j].2.1) with
    |false=>
     have:nT m.1[j] a b=false:=by unfold nT;rw[v1,v2,v3];rfl
     rw[this,if_neg (by simp)];rfl
    |true=>
     have:nT m.1[j] a b=true:=by unfold nT;rw[v1,v2,v3];rfl
     rw[this,if_pos rfl]
     simp only[Bool.not_true,zD]
     rw[zT (by omega:(0:Int)<=(j:Int)),zT (by omega:(j:Int)<=((m.1.length:Nat):Int)),zC,zC,List.drop_zero,ac4 _ _ (by rw[List.length_take,zi];omega),Option.bind_some]
     have hm:=af3 m.1[j].1 (m.1.take j)
     by_cases dp:m.1[j].1∈(m.1.take j).map fun p=>p.1
     ·rw[hm.2 dp,if_pos dp];rfl
     ·rw[Fm hm dp,if_neg dp,zD,zr (by omega),zp3 m a b h n (j+1) k (by omega) (by omega)]
      congr 2
      rw[List.take_add_one,List.getElem?_eq_getElem aq,List.map_append]
      rfl
def kB(x y:aV):Bool:=(!decide (x.2.1=0)&&decide (x.2.1=y.2.1))||(!decide (x.2.2.1=0)&&decide (x.2.2.1=y.2.2.1))
theorem ak1(x y:aV):sT x y=some (kB x y):=by
 unfold sT Uc kB
 generalize decide (x.2.1=0)=c1
 generalize decide (x.2.1=y.2.1)=c2
 generalize decide (x.2.2.1=0)=c3
 generalize decide (x.2.2.1=y.2.2.1)=c4
 cases c1<;>cases c2<;>cases c3<;>cases c4<;>rfl
def oT(a b:zg):List aV->List aV->Int->Option (Int×Int)
 |_,[],_=>none
 |prev,r::l,i=>if dD r a b=0 then(if prev.any (fun q=>kB q r)=true then some (10,i) else oT a b (prev++ [r]) l (i+1)) else some (dD r a b,i)
def YY(o:Option (Int×Int)):Option (Sum jw Unit):=some (match o with
 |some e=> .inl (e.1,3,e.2)
 |none=> .inr ())
def PO(m:Map)(a b:zg)(i:Int)(t:Bool):Sum (Int×Int×Int×Int×Map×zg×zg) (Int×Map×zg×zg):=bif t then .inl (10,3,i,i,m,a,b) else .inr (i,m,a,b)
theorem DX{m:Map}{j:Nat}(aq:j<m.2.1.length)(d:aV):m.2.1.getD j d=m.2.1[j]:=by
 rw[List.getD_eq_getElem?_getD,List.getElem?_eq_getElem aq];rfl
theorem zwi(m:Map)(a b:zg)(i:Nat)(hi:i<m.2.1.length)(hl:m.2.1.length<=1000000):∀(n j k:Nat),j+n=i->n<k->FD k (i:Int) (j:Int) m a b=some (PO m a b i (((m.2.1.take i).drop j).any fun q=>kB q m.2.1[i]))
 |n,j,0,_,hk=>by omega
 |0,j,k+1,hj,hk=>by
  have:j=i:=by omega
  subst this
  unfold FD Qv
  rw[zF (by omega),List.drop_eq_nil_of_le (by rw[List.length_take];omega)];rfl
 |n+1,j,k+1,hj,hk=>by
  have aq:j<m.2.1.length:=by omega
  unfold FD Qv
  have hd:(m.2.1.take i).drop j=m.2.1[j]::(m.2.1.take i).drop (j+1):=by
   rw[List.drop_eq_getElem_cons (by rw[List.length_take];omega)]
   congr 1
   rw[List.getElem_take]
  rw[zT (by omega),zC,zh aq,zh hi,Int.toNat_natCast,Int.toNat_natCast,DX aq,DX hi,ak1,Option.bind_some,hd,List.any_cons]
  cases kB m.2.1[j] m.2.1[i] with
  |true=>rfl
  |false=>
   rw[zD,zr (by omega)]
   dsimp only
   rw[zwi m a b i hi hl n (j+1) k (by omega) (by omega),Bool.false_or]
theorem zix(m:Map)(a b:zg)(h:dM m)(ha:a.2.2.1.length<=maxLen)(hb:b.2.2.1.length<=maxLen):∀(n j k:Nat),j+n=m.2.1.length->n<k->FC k (j:Int) m a b=YY (oT a b (m.2.1.take j) (m.2.1.drop j) j)
 |n,j,0,_,hk=>by omega
 |0,j,k+1,hj,hk=>by
  unfold FC Qu
  rw[zF (by omega),List.drop_eq_nil_of_le (by omega)];rfl
 |n+1,j,k+1,hj,hk=>by
  have hl:=h.len
  have aq:j<m.2.1.length:=by omega
  unfold FC Qu
  rw[zT (by omega),zC,zh aq,Int.toNat_natCast,DX aq,ac7 _ a b (h.rules _ (List.getElem_mem aq)) ha hb,Option.bind_some,List.drop_eq_getElem_cons aq]
  simp only[oT]
  by_cases z:dD m.2.1[j] a b=0
  ·rw[zT z,if_pos z]
   simp only[Bool.not_true,zD]
   have ht:=zwi m a b j aq hl j 0 ag (by omega) (by rw[zu];omega)
   rw[show((0:Nat):Int)=(0:Int) from rfl,List.drop_zero] at ht
   rw[ht,Option.bind_some]
   cases(m.2.1.take j).any fun q=>kB q m.2.1[j] with
   |true=>rw[if_pos rfl];rfl
   |false=>
    rw[if_neg (by simp)]
    unfold PO T5
    simp only[zD,Sum.elim_inr]
    rw[zr (by omega),zix m a b h ha hb n (j+1) k (by omega) (by omega)]
    congr 2
    rw[List.take_add_one,List.getElem?_eq_getElem aq]
    rfl
  ·rw[zF z,if_neg z];rfl
def dC(m:Map)(a b:zg):Int×Int×Int:=
 if(hM a).1=0 then(if(hM b).1=0 then(if 256<m.1.length then(5,2,256) else match eM a b [] m.1 0 with
  |some e=>(e.1,2,e.2)
  |none=>if 256<m.2.1.length then(5,3,256) else match oT a b [] m.2.1 0 with
   |some e=>(e.1,3,e.2)
   |none=>(0,0,0)) else(1,1,1)) else(1,1,0)
theorem zrk(m:Map)(a b:zg)(h:dM m)(ha:a.2.2.1.length<=maxLen)(hb:b.2.2.1.length<=maxLen):sR m a b=some (dC m a b):=by
 have h1:=h.np.len
 have h2:=h.len
 unfold sR T3 dC
 rw[zdm a ha,Option.bind_some]
 by_cases za:(hM a).1=0
 ·rw[zT za,if_pos za]
  simp only[Bool.not_true,zD]
  rw[zdm b hb,Option.bind_some]
  by_cases zb:(hM b).1=0
  ·rw[zT zb,if_pos zb]
   simp only[Bool.not_true,zD]
   by_cases hm:256<m.1.length
   ·rw[zT (by omega),if_pos hm];rfl
   ·rw[zF (by omega),if_neg hm,zD]
    have e1:=zp3 m a b h.np m.1.length 0 ag (by omega) (by rw[zu];omega)
    rw[show((0:Nat):Int)=(0:Int) from rfl,List.take_zero,List.drop_zero,List.map_nil] at e1
    rw[e1]
    unfold nq
    cases eM a b [] m.1 0 with
    |some e=>rfl
    |none=>
     simp only[Option.bind_some,Sum.elim_inr]
     unfold T4
     by_cases hr:256<m.2.1.length
     ·rw[zT (by omega),if_pos hr];rfl
     ·rw[zF (by omega),if_neg hr,zD]
      have e2:=zix m a b h ha hb m.2.1.length 0 ag (by omega) (by rw[zu];omega)
      rw[show((0:Nat):Int)=(0:Int) from rfl,List.take_zero,List.drop_zero] at e2
      dsimp only
      rw[e2]
      unfold YY
      cases oT a b [] m.2.1 0<;>rfl
  ·rw[zF zb,if_neg zb];rfl
 ·rw[zF za,if_neg za];rfl
theorem MJ(l:List Int)(f:Int):dK (l++ [f])=dK l|||dK [f]:=by simp [dK,List.foldl_append]
theorem z143(l:List Int)(f:Int):dL (l++ [f])=dL l|||dL [f]:=by simp [dL,List.foldl_append]
theorem LL(fs:List Int)(f:Int):(dK fs&&&dK [f]=0/\dL fs&&&dL [f]=0)↔¬(f∈fs/\jM f=true):=by
 constructor
 ·rintro⟨h1,h2⟩ ⟨h3,h4⟩
  have:=ON (dK fs) (dL fs) (dK [f]) (dL [f]) f
  rw[h1,h2,Mf,WD,WD,h4] at this
  simp [h3] at this
 ·intro h
  refine ank (Pt (vh fs)) (Pt (vi fs)) (by decide) (by decide) fun n _ _=> ?_
  rw[Mf,ON,WD,WD]
  by_cases e:n=f
  ·subst e
   cases hr:jM n with
   |false=>simp
   |true=>
    have:n∉fs:=fun hm=>h ⟨hm,hr⟩
    simp [this]
  ·simp [e]
theorem N2(x y:Nat):(decide (((x:Nat):Int)=0)&&(decide (((y:Nat):Int)=0)&&true))=decide (x=0/\y=0):=by
 rw[Bool.and_true,<-Bool.decide_and]
 exact decide_eq_decide.2 (by omega)
theorem zvk{s:zg}(h:iL s){no:Int}(hh:bq s no=true):jM no=true:=by
 unfold bq gf at hh
 obtain⟨x,hx⟩:=Option.isSome_iff_exists.1 hh
 have h1:=List.find?_some hx
 have h2:=List.mem_of_find?_eq_some hx
 have h3:=TG (h.2.2.2.1 x h2)
 have h4:x.1=no:=of_decide_eq_true h1
 unfold jM
 exact zT (by omega)
theorem adZ{r:aV}{a b:zg}(h:dD r a b=0):dB r a b=false:=by
 unfold dD at h
 cases hc:(decide (r.1<1)||decide ((5:Int)<r.1)) with
 |true=>rw[hc] at h;simp at h
 |false=>
  rw[hc] at h
  cases he:dB r a b with
  |false=>rfl
  |true=>rw[he] at h;simp at h
theorem akR{r:aV}{a b:zg}(ha:iL a)(hb:iL b)(h:dD r a b=0):(r.2.1≠0->jM r.2.1=true)/\(r.2.2.1≠0->jM r.2.2.1=true):=by
 have he:=adZ h
 unfold dB at he
 rw[Bool.or_eq_false_iff] at he
 refine⟨fun hz=> ?_,fun hz=> ?_⟩
 ·by_cases k:r.1=3
  ·rw[zT k,zF hz] at he;simp at he
  ·rw[zF k] at he
   exact zvk ha (by simpa using he.1)
 ·by_cases k:r.1=2
  ·rw[zT k,zF hz] at he;simp at he
  ·rw[zF k] at he
   exact zvk hb (by simpa using he.2)
def fD(l:List aV):List Int:=l.map fun q=>q.2.1
def rP(l:List aV):List Int:=l.map fun q=>q.2.2.1
theorem Nx:jM 0=false:=by decide
theorem ahE(prev:List aV)(r:aV)(h1:r.2.1≠0->jM r.2.1=true)(h2:r.2.2.1≠0->jM r.2.2.1=true):
 prev.any (fun q=>kB q r)=(!decide (¬(r.2.1∈fD prev/\jM r.2.1=true))|| !decide (¬(r.2.2.1∈rP prev/\jM r.2.2.1=true))):=by
 have e:prev.any (fun q=>kB q r)=true↔((r.2.1∈fD prev/\jM r.2.1=true)\/(r.2.2.1∈rP prev/\jM r.2.2.1=true)):=by
  rw[List.any_eq_true]
  unfold kB fD rP
  simp only[List.mem_map]
  constructor
  ·rintro⟨q,hq,h⟩
   simp only[Bool.or_eq_true,Bool.and_eq_true,Bool.not_eq_true',decide_eq_false_iff_not,decide_eq_true_eq] at h
   rcases h with⟨g1,g2⟩|⟨g1,g2⟩
   ·exact .inl ⟨⟨q,hq,g2⟩,h1 (by rw[<-g2];exact g1)⟩
   ·exact .inr ⟨⟨q,hq,g2⟩,h2 (by rw[<-g2];exact g1)⟩
  ·rintro(⟨⟨q,hq,g⟩,hr⟩|⟨⟨q,hq,g⟩,hr⟩)
   ·refine⟨q,hq,?_⟩
    have:q.2.1≠0:=fun e=>by rw[<-g,e,Nx] at hr;cases hr
    rw[zF this,zT g];rfl
   ·refine⟨q,hq,?_⟩
    have:q.2.2.1≠0:=fun e=>by rw[<-g,e,Nx] at hr;cases hr
    rw[zF this,zT g];simp
 cases hb:prev.any (fun q=>kB q r) with
 |true=>
  rcases e.1 hb with h|h
  ·rw[zF (fun hn=>hn h)];rfl
  ·rw[show decide (¬(r.2.2.1∈rP prev/\jM r.2.2.1=true))=false from zF (fun hn=>hn h)];simp
 |false=>
  have hn:=fun h=>(by rw[hb] at e;exact absurd (e.2 h) (by simp):False)
  rw[zT (show¬(r.2.1∈fD prev/\jM r.2.1=true) from fun h=>hn (.inl h)),zT (show¬(r.2.2.1∈rP prev/\jM r.2.2.1=true) from fun h=>hn (.inr h))];rfl
abbrev S2:=Int×Int×Unit
def Au(l:List Int):S2:=((dK l:Int),(dL l:Int),())
theorem z141(a b:zg)(ha:a.2.2.1.length<=maxLen)(hb:b.2.2.1.length<=maxLen)(oa:iL a)(ob:iL b):∀(l:List aV) (i:Int) (prev:List aV),(∀r∈l,dX r)->
 bk (fun i (x:aV) (s:S2×S2) K=>((n6 x a b).bind fun r3=>(bif(!decide (r3=0)) then some (Sum.inl (r3,(3:Int),i)) else((vk ([x.2.1]:List Int)).bind fun r4=>((vk ([x.2.2.1]:List Int)).bind fun r5=>((si s.1 r4).bind fun r6=>(bif(!(decide (r6.1=0)&&(decide (r6.2.1=0)&&true))) then some (Sum.inl ((10:Int),(3:Int),i)) else((si s.2 r5).bind fun r7=>(bif(!(decide (r7.1=0)&&(decide (r7.2.1=0)&&true))) then some (Sum.inl ((10:Int),(3:Int),i)) else((tL s.1 r4).bind fun r8=>((tL s.2 r5).bind fun r9=>K (r8,r9)))))))))))) (fun _=>some (Sum.inr ())) l i (Au (fD prev),Au (rP prev))=YY (oT a b prev l i)
 | [],i,prev,_=>rfl
 |r::l,i,prev,h=>by
  simp only[bk,oT]
  rw[acq r a b (h r List.mem_cons_self) ha hb,Option.bind_some]
  by_cases z:dD r a b=0
  ·rw[zT z,if_pos z]
   simp only[Bool.not_true,zD]
   obtain⟨i1,i2⟩:=akR oa ob z
   have ou:=ahE prev r i1 i2
   rw[yu _ (by simp [zi]),Option.bind_some,yu _ (by simp [zi]),Option.bind_some]
   unfold Au
   rw[N3 _ _ _ _ (vh _) (vi _) (vh _) (vi _),Option.bind_some]
   dsimp only
   rw[N2,decide_eq_decide.2 (LL (fD prev) r.2.1)]
   by_cases c1:¬(r.2.1∈fD prev/\jM r.2.1=true)
   ·rw[zT c1] at ou⊢
    simp only[Bool.not_true,zD]
    rw[N3 _ _ _ _ (vh _) (vi _) (vh _) (vi _),Option.bind_some]
    dsimp only
    rw[N2,decide_eq_decide.2 (LL (rP prev) r.2.2.1)]
    by_cases c2:¬(r.2.2.1∈rP prev/\jM r.2.2.1=true)
    ·rw[zT c2] at ou⊢
     rw[ou]
     simp only[Bool.not_true,zD,Bool.or_false]
     rw[if_neg (by simp),zeg _ _ _ _ (vh _) (vi _) (vh _) (vi _),Option.bind_some,zeg _ _ _ _ (vh _) (vi _) (vh _) (vi _),Option.bind_some]
     have:=z141 a b ha hb oa ob l (i+1) (prev++ [r]) (fun q hq=>h q (List.mem_cons_of_mem _ hq))
     rw[show fD (prev++ [r])=fD prev++ [r.2.1] by simp [fD],show rP (prev++ [r])=rP prev++ [r.2.2.1] by simp [rP]] at this
     unfold Au at this
     rw[MJ,z143,MJ,z143] at this
     exact this
    ·rw[zF c2] at ou⊢
     rw[ou];rfl
   ·rw[zF c1] at ou⊢
    rw[ou];rfl
  ·rw[zF z,if_neg z];rfl
theorem acr(m:Map)(a b:zg)(ha:a.2.2.1.length<=maxLen)(hb:b.2.2.1.length<=maxLen):Hs ag ([a,b]:List zg) ((List.length ([a,b]:List zg)):Int) 0 m a b=some (if(hM a).1=0 then(if(hM b).1=0 then .inr (m,a,b) else .inl (1,1,1,m,a,b)) else .inl (1,1,0,m,a,b)):=by
 obtain⟨k,hk⟩:=Av
 rw[hk]
 simp only[Hs,Wh]
 have w0:∀{R:Type} (x:Option R),zd 0 ([a,b]:List zg).length x=x:=fun x=>zn (by omega) (by simp)
 have w1:∀{R:Type} (x:Option R),zd 1 ([a,b]:List zg).length x=x:=fun x=>zn (by omega) (by simp)
 have e1:zW zI (0+1)=1:=rfl
 have e2:zW zI (1+1)=2:=rfl
 have d0:decide ((0:Int)<(([a,b]:List zg).length:Int))=true:=rfl
 have d1:decide ((1:Int)<(([a,b]:List zg).length:Int))=true:=rfl
 have d2:decide ((2:Int)<(([a,b]:List zg).length:Int))=false:=rfl
 rw[d0,zC,w0,show List.getD ([a,b]:List zg) (0:Int).toNat ((0:Int),(0:Int),([]:List Spec),())=a from rfl,Qb a ha,Option.bind_some]
 by_cases za:(hM a).1=0
 ·rw[zT za,if_pos za]
  simp only[Bool.not_true,zD]
  rw[e1,d1,zC,w1,show List.getD ([a,b]:List zg) (1:Int).toNat ((0:Int),(0:Int),([]:List Spec),())=b from rfl,Qb b hb,Option.bind_some]
  by_cases zb:(hM b).1=0
  ·rw[zT zb,if_pos zb]
   simp only[Bool.not_true,zD]
   rw[e2,d2,zD]
  ·rw[zF zb,if_neg zb];rfl
 ·rw[zF za,if_neg za];rfl
abbrev gO:aV:=(0,0,0,bs [],[],())
theorem z80(m:Map)(a b:zg)(h:dM m)(ha:a.2.2.1.length<=maxLen)(hb:b.2.2.1.length<=maxLen):q9 m a b=some (dC m a b):=by
 have h1:=h.np.len
 have h2:=h.len
 unfold q9 Wg dC
 dsimp only
 rw[acr m a b ha hb,Option.bind_some]
 by_cases za:(hM a).1=0
 ·rw[if_pos za,if_pos za]
  by_cases zb:(hM b).1=0
  ·rw[if_pos zb,if_pos zb]
   simp only[Sum.elim_inr]
   unfold Wi
   by_cases hm:256<m.1.length
   ·rw[zT (by omega),if_pos hm];rfl
   ·rw[zF (by omega),if_neg hm,zD]
    dsimp only
    rw[agZ m a b h.np]
    unfold nq
    cases eM a b [] m.1 0 with
    |some e=>rfl
    |none=>
     simp only[Option.bind_some,Sum.elim_inr]
     unfold Wj
     by_cases hr:256<m.2.1.length
     ·rw[zT (by omega),if_pos hr];rfl
     ·rw[zF (by omega),if_neg hr,zD]
      dsimp only
      have:=cw gO m.2.1 (by rw[zi];omega) (fun i (x:aV) (s:S2×S2) K=>((n6 x a b).bind fun r3=>(bif(!decide (r3=0)) then some (Sum.inl (r3,(3:Int),i)) else((vk ([x.2.1]:List Int)).bind fun r4=>((vk ([x.2.2.1]:List Int)).bind fun r5=>((si s.1 r4).bind fun r6=>(bif(!(decide (r6.1=0)&&(decide (r6.2.1=0)&&true))) then some (Sum.inl ((10:Int),(3:Int),i)) else((si s.2 r5).bind fun r7=>(bif(!(decide (r7.1=0)&&(decide (r7.2.1=0)&&true))) then some (Sum.inl ((10:Int),(3:Int),i)) else((tL s.1 r4).bind fun r8=>((tL s.2 r5).bind fun r9=>K (r8,r9)))))))))))) (fun _=>some (Sum.inr ()))
       (fun k i s=>Rc k m.2.1 (m.2.1.length:Int) i a b s.1 s.2) (fun k i s=>rfl) (Au (fD []),Au (rP []))
      have h3:=z141 a b ha hb ((Bp a).1 za) ((Bp b).1 zb) m.2.1 0 [] h.rules
      rw[h3] at this
      have h4:Au (fD [])=((0:Int),(0:Int),()):=rfl
      have h5:Au (rP [])=((0:Int),(0:Int),()):=rfl
      rw[h4,h5] at this
      rw[this]
      unfold YY
      cases oT a b [] m.2.1 0<;>rfl
  ·rw[if_neg zb,if_neg zb];rfl
 ·rw[if_neg za,if_neg za];rfl
instance SH:DecidableEq aV:=fun x y=>decidable_of_iff ((decide (x.1=y.1)&&(decide (x.2.1=y.2.1)&&(decide (x.2.2.1=y.2.2.1)&&(decide (x.2.2.2.1=y.2.2.2.1)&&decide (x.2.2.2.2.1=y.2.2.2.2.1)))))=true) (by obtain⟨a1,a2,a3,a4,a5,u⟩:=x;obtain⟨b1,b2,b3,b4,b5,v⟩:=y;simp)
instance aao:DecidableEq Map:=fun x y=>decidable_of_iff ((decide (x.1=y.1)&&decide (x.2.1=y.2.1))=true) (by obtain⟨a1,a2,u⟩:=x;obtain⟨b1,b2,v⟩:=y;simp)
def uW(r:aV):aV:=(r.1,r.2.2.1,r.2.1,r.2.2.2.1,lI r.2.2.2.2.1,())
def Ls(m:Map):Map:=(lI m.1,m.2.1.map uW,())
abbrev K5:Map:=([],[],())
theorem aeh(r:aV)(h:dX r):nW r=some r:=by
 unfold nW TV
 rw[Lw _ h.fk.len];rfl
theorem LQ:∀(l:List aV) (i:Int) (s:Map×Map),(∀r∈l,dX r)->s.2.2.1.length+l.length<=1099511627776->
 bk (fun i (x:aV) (s:Map×Map) K=>((nW x).bind fun r2=>(bif(decide ((s.2.2.1.length+(List.length ([r2]:List aV)))*64<=140737488355328)) then K (s.1,(s.2.1,(s.2.2.1++([r2]:List aV)),())) else none))) (fun s=>some s) l i s=some (s.1,(s.2.1,s.2.2.1++l,()))
 | [],i,s,_,_=>by simp only[bk,List.append_nil]
 |r::l,i,s,h,hl=>by
  simp only[List.length_cons] at hl
  simp only[bk]
  rw[aeh r (h r List.mem_cons_self),Option.bind_some,zT (by simp;omega),zC]
  have:=LQ l (i+1) (s.1,(s.2.1,(s.2.2.1++ [r]),())) (fun q hq=>h q (List.mem_cons_of_mem _ hq)) (by simp;omega)
  refine Eq.trans this ?_
  simp
theorem Lx(m:Map)(h:dM m):sS m=some m:=by
 have hl:=h.len
 unfold sS T7
 dsimp only
 rw[Lw _ h.np.len,Option.bind_some]
 have:=cw gO m.2.1 (by rw[zi];omega) (fun i (x:aV) (s:Map×Map) K=>((nW x).bind fun r2=>(bif(decide ((s.2.2.1.length+(List.length ([r2]:List aV)))*64<=140737488355328)) then K (s.1,(s.2.1,(s.2.2.1++([r2]:List aV)),())) else none))) (fun s=>some s)
  (fun k i s=>Qw k i m s.1 s.2) (fun k i s=>rfl) (K5,(m.1,[],()))
 rw[LQ _ _ _ h.rules (by simp;omega)] at this
 rw[this]
 rfl
structure ao0(r:aV)(a b:zg):Prop where
 lo:¬r.1<1
 hi:¬(5:Int)<r.1
 ends:dB r a b=false
 text:jq r=false
 kind:kl r (aY a r.2.1) (aY b r.2.2.1)=0
theorem z87{a b:zg}:∀{l:List bA} {seen:List ByteArray} {i:Int},eM a b seen l i=none↔(∀p∈l,nT p a b=true)/\jz seen l i=none
 | [],seen,i=>by simp [eM,jz]
 |p::r,seen,i=>by
  simp only[eM,jz,List.mem_cons,forall_eq_or_imp]
  cases ht:nT p a b with
  |false=>simp
  |true=>
   rw[if_pos rfl]
   by_cases hm:p.1∈seen
   ·simp [hm]
   ·rw[if_neg hm,if_neg hm,z87]
    simp
def Ha:List aV->List aV->Prop
 |_,[]=>True
 |prev,r::l=>prev.any (fun q=>kB q r)=false/\Ha (prev++ [r]) l
theorem SQ{a b:zg}:∀{l:List aV} {prev:List aV} {i:Int},oT a b prev l i=none↔(∀r∈l,dD r a b=0)/\Ha prev l
 | [],prev,i=>by simp [oT,Ha]
 |r::l,prev,i=>by
  simp only[oT,Ha,List.mem_cons,forall_eq_or_imp]
  by_cases z:dD r a b=0
  ·rw[if_pos z]
   cases hp:prev.any (fun q=>kB q r) with
   |true=>simp
   |false=>
    rw[if_neg (by simp),SQ]
    simp [z]
  ·rw[if_neg z];simp [z]
theorem zw2{a b:zg}:∀{l:List bA} {seen:List ByteArray} {i:Int} {e:Int×Int},eM a b seen l i=some e->e.1≠0
 |p::r,seen,i,e,h=>by
  simp only[eM] at h
  split at h
  ·split at h
   ·cases h;simp
   ·exact zw2 h
  ·cases h;simp
theorem zp8{a b:zg}:∀{l:List aV} {prev:List aV} {i:Int} {e:Int×Int},oT a b prev l i=some e->e.1≠0
 |r::l,prev,i,e,h=>by
  simp only[oT] at h
  split at h
  ·split at h
   ·cases h;simp
   ·exact zp8 h
  ·rename_i hz
   cases h;exact hz
structure eQ(m:Map)(a b:zg):Prop where
 sa:(hM a).1=0
 sb:(hM b).1=0
 K3:m.1.length<=256
 typed:∀p∈m.1,nT p a b=true
 dup:jz [] m.1 0=none
 K4:m.2.1.length<=256
 rules:∀r∈m.2.1,dD r a b=0
 uX:Ha [] m.2.1
theorem zr2{m:Map}{a b:zg}:(dC m a b).1=0↔eQ m a b:=by
 constructor
 ·intro h
  unfold dC at h
  split at h
  ·split at h
   ·rename_i h1 h2
    split at h
    ·cases h
    ·rename_i h3
     split at h
     ·rename_i e he
      exact absurd h (zw2 he)
     ·rename_i hm
      split at h
      ·cases h
      ·rename_i h4
       split at h
       ·rename_i e he
        exact absurd h (zp8 he)
       ·rename_i hr
        obtain⟨g1,g2⟩:=z87.1 hm
        obtain⟨g3,g4⟩:=SQ.1 hr
        exact⟨h1,h2,by omega,g1,g2,by omega,g3,g4⟩
   ·cases h
  ·cases h
 ·intro h
  unfold dC
  have e1:=z87.2 ⟨h.typed,h.dup⟩
  have e2:oT a b [] m.2.1 0=none:=SQ.2 ⟨h.rules,h.uX⟩
  have l1:=h.K3
  have l2:=h.K4
  rw[if_pos h.sa,if_pos h.sb,if_neg (by omega),e1]
  simp only
  rw[if_neg (by omega),e2]
theorem eQ.eq{m:Map}{a b:zg}(h:eQ m a b):dC m a b=(0,0,0):=by
 unfold dC
 have e1:=z87.2 ⟨h.typed,h.dup⟩
 have e2:oT a b [] m.2.1 0=none:=SQ.2 ⟨h.rules,h.uX⟩
 have l1:=h.K3
 have l2:=h.K4
 rw[if_pos h.sa,if_pos h.sb,if_neg (by omega),e1]
 simp only
 rw[if_neg (by omega),e2]
theorem eI.turn{l:List bA}(h:eI l):eI (lI l):=⟨by rw[ahC];exact h.len,fun p hp=>by
 unfold lI at hp
 obtain⟨q,hq,rfl⟩:=List.mem_map.1 hp
 exact⟨(h.sz q hq).2,(h.sz q hq).1⟩⟩
theorem dM.turn{m:Map}(h:dM m):dM (Ls m):=⟨h.np.turn,by show(m.2.1.map uW).length<=_;rw[List.length_map];exact h.len,fun r hr=>by
 obtain⟨q,hq,rfl⟩:=List.mem_map.1 (show r∈m.2.1.map uW from hr)
 exact⟨(h.rules q hq).text,(h.rules q hq).fk.turn⟩⟩
theorem ako(l:List bh)(no:Int)(t:ByteArray):(mh l no t).length=l.length+1:=by
 unfold mh
 rcases z59 no l 0 (Int.le_refl _) with⟨h1,_⟩|h1
 ·rw[h1,zT (by omega:(-1:Int)<0),zC,List.length_append];rfl
 ·rw[zF (by omega:¬cm no l 0<0),zD,List.length_append,List.length_take,List.length_cons,List.length_drop]
  omega
theorem Tq(m:bK)(no:Int)(t:ByteArray):(eC m no t).2.1.length<=m.2.1.length+1:=by
 show(mh (eZ m.2.1 no) no t).length<=_
 rw[ako]
 have:=LY m.2.1 no
 omega
theorem ald(m:Map)(t:ByteArray)(h:m.1.length<=maxLen):tK m t=some (zx m.1 t):=by
 unfold tK Wr
 dsimp only
 have:=cw jm m.1 h (fun i (x:bA) (s:Unit) K=>bif decide (x.1=t) then some (Sum.inl (x.2.1,true)) else K s) (fun _=>some (Sum.inr ()))
  (fun k i s=>Rg k t m.1 (m.1.length:Int) i) (fun k i s=>rfl) ()
 rw[this,zcx]
 unfold zx
 cases m.1.find? fun p=>decide (p.1=t)<;>rfl
def fa(m:Map)(no:Int):Option aV:=m.2.1.find? fun r=>decide (r.2.1=no)
def At(o:Option aV):Option (Sum (Bool×aV) aV):=some (match o with
 |some r=> .inl (true,r)
 |none=> .inr gO)
theorem Np(no:Int):∀(l:List aV) (i:Int),bk (fun i (x:aV) (s:Unit) K=>(bif(decide (x.2.1=no)) then some (Sum.inl (true,x)) else K s)) (fun _=>some (Sum.inr gO)) l i ()=At (l.find? fun r=>decide (r.2.1=no))
 | [],i=>rfl
 |x::r,i=>by
  rw[bk,List.find?_cons]
  cases hx:decide (x.2.1=no) with
  |true=>rfl
  |false=>rw[zD];exact Np no r (i+1)
theorem ahU(m:Map)(no:Int)(h:m.2.1.length<=maxLen):n9 m no=some (match fa m no with
 |some r=>(r,true)
 |none=>(gO,false)):=by
 unfold n9 Wp fa
 dsimp only
 have:=cw gO m.2.1 h (fun i (x:aV) (s:Unit) K=>(bif(decide (x.2.1=no)) then some (Sum.inl (true,x)) else K s)) (fun _=>some (Sum.inr gO))
  (fun k i s=>Rf k no m.2.1 (m.2.1.length:Int) i gO) (fun k i s=>rfl) ()
 rw[this,Np]
 unfold At
 cases m.2.1.find? fun r=>decide (r.2.1=no)<;>rfl
def rX:List aV->bK->bK
 | [],out=>out
 |r::l,out=>rX l (bif decide (r.1=3) then eC out r.2.2.1 r.2.2.2.1 else out)
theorem zay:∀(l:List aV) (out:bK),(rX l out).2.1.length<=out.2.1.length+l.length
 | [],out=>Nat.le_refl _
 |r::l,out=>by
  rw[rX,List.length_cons]
  cases decide (r.1=3) with
  |true=>rw[zC];have:=zay l (eC out r.2.2.1 r.2.2.2.1);have:=Tq out r.2.2.1 r.2.2.2.1;omega
  |false=>rw[zD];have:=zay l out;omega
theorem zdy{ρ:Type}(fin:bK->Option ρ):∀(l:List aV) (i:Int) (out:bK),out.2.1.length+l.length<=1000000->
 bk (fun i (x:aV) (s:bK) K=>(bif(decide (x.1=(3:Int))) then((ig s x.2.2.1 x.2.2.2.1).bind fun r4=>K r4) else K s)) fin l i out=fin (rX l out)
 | [],i,out,_=>rfl
 |r::l,i,out,h=>by
  simp only[List.length_cons] at h
  rw[bk,rX]
  cases decide (r.1=3) with
  |true=>
   rw[zC,zC,Ts out _ _ (by omega),zc]
   have:=Tq out r.2.2.1 r.2.2.2.1
   exact zdy fin l (i+1) _ (by omega)
  |false=>
   rw[zD,zD]
   exact zdy fin l (i+1) out (by omega)
def BE(m:Map)(b:zg):List bh->bK->Sum (bZ×bK) bK
 | [],out=> .inr out
 |v::r,out=>match fa m v.1 with
  |none=> .inl ((9,v.1,()),out)
  |some q=>bif !decide ((gC q b v.2.1).2=0) then .inl (((gC q b v.2.1).2,v.1,()),out) else BE m b r (bif !decide ((gC q b v.2.1).1.1=0) then eC out (gC q b v.2.1).1.1 (gC q b v.2.1).1.2.1 else out)
abbrev dy:bK:=(bs [],[],())
def Nk(o:Sum (bZ×bK) bK):Option (Sum (bK×bZ×bK) (bK×bZ×bK)):=some (match o with
 | .inl (f,out)=> .inl (dy,f,out)
 | .inr out=> .inr (dy,kA,out))
theorem G1{m:Map}{no:Int}{r:aV}(h:fa m no=some r):r∈m.2.1/\r.2.1=no:=⟨List.mem_of_find?_eq_some h,by simpa using List.find?_some h⟩
theorem zb3(m:Map)(b:zg)(hm:dM m)(hb:b.2.2.1.length<=maxLen):∀(l:List bh) (i:Int) (out:bK),out.2.1.length+l.length<=1000000->(∀v∈l,v.2.1.size<=1099511627776)->
 bk (fun i (x:bh) (s:bK) K=>((n9 m x.1).bind fun r5=>(bif(!r5.2) then some (Sum.inl (dy,((9:Int),x.1,()),s)) else((n5 r5.1 b x.2.1).bind fun r6=>(bif(!(decide (r6.2=(0:Int)))) then some (Sum.inl (dy,(r6.2,x.1,()),s)) else(bif(!(decide (r6.1.1=(0:Int)))) then((ig s r6.1.1 r6.1.2.1).bind fun r7=>K r7) else K s)))))) (fun s=>some (Sum.inr (dy,kA,s))) l i out=Nk (BE m b l out)
 | [],i,out,_,_=>rfl
 |v::r,i,out,h,ht=>by
  simp only[List.length_cons] at h
  have hl:=hm.len
  have hv:=ht v List.mem_cons_self
  rw[bk,ahU m v.1 (by rw[zi];omega),zc,BE]
  cases hf:fa m v.1 with
  |none=>rfl
  |some q=>
   dsimp only
   obtain⟨q1,_⟩:=G1 hf
   have qp:=(hm.rules q q1).fk.len
   rw[Bool.not_true,zD,acp q b v.2.1 (by rw[zi];omega) hb (by rw[zi];omega),zc]
   generalize gC q b v.2.1=y
   cases decide (y.2=0) with
   |false=>rfl
   |true=>
    rw[Bool.not_true,zD,zD]
    cases decide (y.1.1=0) with
    |true=>
     rw[Bool.not_true,zD,zD]
     exact zb3 m b hm hb r (i+1) out (by omega) (fun w hw=>ht w (List.mem_cons_of_mem _ hw))
    |false=>
     rw[Bool.not_false,zC,zC,Ts out _ _ (by omega),zc]
     have:=Tq out y.1.1 y.1.2.1
     exact zb3 m b hm hb r (i+1) _ (by omega) (fun w hw=>ht w (List.mem_cons_of_mem _ hw))
def sd(m:Map)(a b:zg)(x:bK):bK×bZ:=
 bif !decide ((dC m a b).1=0) then(dy,(1,-1,())) else bif !decide ((gI a x).1=0) then(dy,gI a x) else bif !(zx m.1 x.1).2 then(dy,(7,0,()))
 else match BE m b x.2.1 (rX m.2.1 ((zx m.1 x.1).1,[],())) with
  | .inl (f,_)=>(dy,f)
  | .inr out=>(out,kA)
theorem ab6(m:Map)(a b:zg)(x:bK)(hm:dM m)(hm2:m.2.1.length<=900000)(hx:eU x)(AV:x.2.1.length<=90000)(ha:a.2.2.1.length<=maxLen)(hb:b.2.2.1.length<=maxLen):re m a b x=some (sd m a b x):=by
 have hl:=hm.np.len
 unfold re Wm sd
 rw[z80 m a b hm ha hb,zc]
 cases decide ((dC m a b).1=0) with
 |false=>rfl
 |true=>
  rw[Bool.not_true,zD,zD,zp2 a x ha hx,zc]
  cases decide ((gI a x).1=0) with
  |false=>rfl
  |true=>
   rw[Bool.not_true,zD,zD,ald m x.1 (by rw[zi];omega),zc]
   cases(zx m.1 x.1).2 with
   |false=>rfl
   |true=>
    rw[Bool.not_true,zD,zD]
    dsimp only
    have h1:=cw gO m.2.1 (by rw[zi];omega) (fun i (x:aV) (s:bK) K=>(bif(decide (x.1=(3:Int))) then((ig s x.2.2.1 x.2.2.2.1).bind fun r4=>K r4) else K s)) (fun s=>some (m,b,x,dy,kA,s))
     (fun k i s=>Rd k m.2.1 (m.2.1.length:Int) i m b x dy kA s) (fun k i s=>rfl) ((zx m.1 x.1).1,[],())
    rw[h1,zdy _ _ _ _ (by simp;omega),zc]
    unfold Wn
    dsimp only
    have hc:=zay m.2.1 ((zx m.1 x.1).1,[],())
    have hc:(rX m.2.1 ((zx m.1 x.1).1,[],())).2.1.length<=m.2.1.length:=by simpa using hc
    have h2:=cw nx x.2.1 (by rw[zi];omega) (fun i (x:bh) (s:bK) K=>((n9 m x.1).bind fun r5=>(bif(!r5.2) then some (Sum.inl (dy,((9:Int),x.1,()),s)) else((n5 r5.1 b x.2.1).bind fun r6=>(bif(!(decide (r6.2=(0:Int)))) then some (Sum.inl (dy,(r6.2,x.1,()),s)) else(bif(!(decide (r6.1.1=(0:Int)))) then((ig s r6.1.1 r6.1.2.1).bind fun r7=>K r7) else K s)))))) (fun s=>some (Sum.inr (dy,kA,s)))
     (fun k i s=>Re k x.2.1 (x.2.1.length:Int) i m b dy kA s) (fun k i s=>rfl) (rX m.2.1 ((zx m.1 x.1).1,[],()))
    rw[h2,zb3 m b hm hb _ _ _ (by omega) hx.sA]
    unfold Nk
    cases BE m b x.2.1 (rX m.2.1 ((zx m.1 x.1).1,[],())) with
    |inl p=>obtain⟨f,o⟩:=p;rfl
    |inr o=>rfl
abbrev jY(l:List bh):Prop:=l.Pairwise fun x y=>x.1<y.1
def mg(no:Int)(t:ByteArray):List bh->List bh
 | []=>[(no,t,())]
 |x::r=>if no<x.1 then(no,t,())::x::r else x::mg no t r
theorem zox(no:Int):∀(l:List bh) (i d:Int),0<=i->0<=d->cm no l (i+d)=if cm no l i<0 then-1 else cm no l i+d
 | [],i,d,_,_=>by unfold cm;rw[if_pos (by omega)]
 |x::r,i,d,hi,hd=>by
  unfold cm
  by_cases hx:no<x.1
  ·rw[if_pos hx,if_pos hx,if_neg (by omega)]
  ·rw[if_neg hx,if_neg hx,show i+d+1=(i+1)+d by omega]
   exact zox no r (i+1) d (by omega) hd
theorem DN(no:Int)(t:ByteArray):∀l:List bh,mh l no t=mg no t l
 | []=>rfl
 |x::r=>by
  have ih:=DN no t r
  unfold mh at ih⊢
  unfold mg
  by_cases hx:no<x.1
  ·have:cm no (x::r) 0=0:=by unfold cm;rw[if_pos hx]
   rw[this,if_pos hx];rfl
  ·rw[if_neg hx,<-ih]
   have h0:cm no (x::r) 0=cm no r (0+1):=by
    show(if no<x.1 then(0:Int) else cm no r (0+1))=_
    rw[if_neg hx]
   rw[h0,zox no r 0 1 (by omega) (by omega)]
   rcases z59 no r 0 (Int.le_refl _) with⟨h1,_⟩|h1
   ·rw[h1,if_pos (by omega)];rfl
   ·rw[if_neg (by omega),zF (by omega:¬cm no r 0+1<0),zF (by omega:¬cm no r 0<0),zD,zD]
    have:(cm no r 0+1).toNat=(cm no r 0).toNat+1:=by omega
    rw[this];rfl
theorem zr1(no:Int)(t:ByteArray)(v:bh):∀l:List bh,v∈mg no t l↔v=(no,t,())\/v∈l
 | []=>by simp [mg]
 |x::r=>by
  unfold mg
  split
  ·simp
  ·rw[List.mem_cons,zr1 no t v r,List.mem_cons]
   constructor
   ·rintro(h|h|h)
    ·exact .inr (.inl h)
    ·exact .inl h
    ·exact .inr (.inr h)
   ·rintro(h|h|h)
    ·exact .inr (.inl h)
    ·exact .inl h
    ·exact .inr (.inr h)
theorem Ny(no:Int)(t:ByteArray):∀{l:List bh},jY l->(∀x∈l,x.1≠no)->jY (mg no t l)
 | [],_,_=>by simp [mg,jY]
 |x::r,h,hn=>by
  have hx:=hn x List.mem_cons_self
  rw[jY,List.pairwise_cons] at h
  unfold mg
  split
  ·rename_i aq
   refine List.pairwise_cons.2 ⟨fun y hy=> ?_,List.pairwise_cons.2 h⟩
   rcases List.mem_cons.1 hy with rfl|hy
   ·exact aq
   ·have:=h.1 y hy
    show no<y.1
    omega
  ·rename_i aq
   refine List.pairwise_cons.2 ⟨fun y hy=> ?_,Ny no t h.2 (fun z hz=>hn z (List.mem_cons_of_mem _ hz))⟩
   rcases(zr1 no t y r).1 hy with rfl|hy
   ·show x.1<no
    omega
   ·exact h.1 y hy
theorem LZ{l:List bh}{no:Int}{v:bh}:v∈eZ l no↔v∈l/\v.1≠no:=by
 unfold eZ
 rw[List.mem_filter]
 simp
theorem Tr(m:bK)(no:Int)(t:ByteArray)(v:bh):v∈(eC m no t).2.1↔v=(no,t,())\/(v∈m.2.1/\v.1≠no):=by
 show v∈mh (eZ m.2.1 no) no t↔_
 rw[DN,zr1,LZ]
theorem zjc{m:bK}(h:jY m.2.1)(no:Int)(t:ByteArray):jY (eC m no t).2.1:=by
 show jY (mh (eZ m.2.1 no) no t)
 rw[DN]
 exact Ny no t (h.filter _) (fun x hx=>(LZ.1 hx).2)
theorem O4:∀{l r:List bh},jY l->jY r->(∀v,v∈l↔v∈r)->l=r
 | [],[],_,_,_=>rfl
 | [],y::r,_,_,h=>by have:=(h y).2 List.mem_cons_self;cases this
 |x::l,[],_,_,h=>by have:=(h x).1 List.mem_cons_self;cases this
 |x::l,y::r,hl,hr,h=>by
  have kM:=List.pairwise_cons.1 hl
  have Z9:=List.pairwise_cons.1 hr
  have e:x=y:=by
   rcases List.mem_cons.1 ((h x).1 List.mem_cons_self) with e|e
   ·exact e
   ·rcases List.mem_cons.1 ((h y).2 List.mem_cons_self) with e2|e2
    ·exact e2.symm
    ·have a1:=Z9.1 x e
     have a2:=kM.1 y e2
     omega
  subst e
  congr 1
  refine O4 kM.2 Z9.2 fun v=>⟨fun hv=> ?_,fun hv=> ?_⟩
  ·rcases List.mem_cons.1 ((h v).1 (List.mem_cons_of_mem _ hv)) with e|e
   ·subst e;have:=kM.1 _ hv;omega
   ·exact e
  ·rcases List.mem_cons.1 ((h v).2 (List.mem_cons_of_mem _ hv)) with e|e
   ·subst e;have:=Z9.1 _ hv;omega
   ·exact e
def z49:List bh->bK->bK
 | [],out=>out
 |v::l,out=>z49 l (eC out v.1 v.2.1)
def jR(l:List bh):Prop:=l.Pairwise fun x y=>x.1≠y.1
theorem zp5:∀(l:List bh) (out:bK),(z49 l out).1=out.1
 | [],out=>rfl
 |v::l,out=>zp5 l _
theorem zw7:∀(l:List bh) {out:bK},jY out.2.1->jY (z49 l out).2.1
 | [],out,h=>h
 |v::l,out,h=>zw7 l (zjc h v.1 v.2.1)
theorem zw6:∀(l:List bh) (out:bK),jR l->(∀v∈l,∀w∈out.2.1,v.1≠w.1)->∀v,v∈(z49 l out).2.1↔v∈out.2.1\/v∈l
 | [],out,_,_,v=>by simp [z49]
 |x::l,out,ha,hd,v=>by
  have Ax:=List.pairwise_cons.1 ha
  have hx:(x.1,x.2.1,())=x:=rfl
  rw[z49,zw6 l _ Ax.2 (fun y hy w hw=> ?_) v,Tr,hx,List.mem_cons]
  ·constructor
   ·rintro((h|h)|h)
    ·exact .inr (.inl h)
    ·exact .inl h.1
    ·exact .inr (.inr h)
   ·rintro(h|h|h)
    ·exact .inl (.inr ⟨h,fun e=>hd x List.mem_cons_self v h e.symm⟩)
    ·exact .inl (.inl h)
    ·exact .inr h
  ·rcases(Tr out x.1 x.2.1 w).1 hw with e|e
   ·rw[e];exact fun h=>Ax.1 y hy h.symm
   ·exact hd y (List.mem_cons_of_mem _ hy) w e.1
theorem zed:∀(l r:List bh) (out:bK),z49 (l++r) out=z49 r (z49 l out)
 | [],r,out=>rfl
 |v::l,r,out=>zed l r _
def jQ(l:List aV):List bh:=(l.filter fun r=>decide (r.1=3)).map fun r=>(r.2.2.1,r.2.2.2.1,())
theorem zaz:∀(l:List aV) (out:bK),rX l out=z49 (jQ l) out
 | [],out=>rfl
 |r::l,out=>by
  rw[rX]
  unfold jQ
  rw[List.filter_cons]
  cases decide (r.1=3) with
  |true=>exact zaz l _
  |false=>exact zaz l _
def kz(m:Map)(b:zg):List bh->Sum bZ (List bh)
 | []=> .inr []
 |v::r=>match fa m v.1 with
  |none=> .inl (9,v.1,())
  |some q=>bif !decide ((gC q b v.2.1).2=0) then .inl ((gC q b v.2.1).2,v.1,()) else match kz m b r with
   | .inl f=> .inl f
   | .inr ys=> .inr ((gC q b v.2.1).1::ys)
def cA(l:List bh):List bh:=l.filter fun v=> !decide (v.1=0)
theorem zb2(m:Map)(b:zg):∀(l:List bh) (out:bK),(∃f o,BE m b l out= .inl (f,o)/\kz m b l= .inl f)\/(∃ys,BE m b l out= .inr (z49 (cA ys) out)/\kz m b l= .inr ys)
 | [],out=> .inr ⟨[],rfl,rfl⟩
 |v::r,out=>by
  rw[BE,kz]
  cases fa m v.1 with
  |none=>exact .inl ⟨_,_,rfl,rfl⟩
  |some q=>
   dsimp only
   generalize gC q b v.2.1=y
   cases decide (y.2=0) with
   |false=>exact .inl ⟨_,_,rfl,rfl⟩
   |true=>
    rw[Bool.not_true,zD,zD]
    cases hz:decide (y.1.1=0) with
    |true=>
     rw[Bool.not_true,zD]
     rcases zb2 m b r out with⟨f,o,h1,h2⟩|⟨ys,h1,h2⟩
     ·exact .inl ⟨f,o,h1,by rw[h2]⟩
     ·refine .inr ⟨y.1::ys,?_,by rw[h2]⟩
      rw[h1]
      have:cA (y.1::ys)=cA ys:=by unfold cA;rw[List.filter_cons,hz];rfl
      rw[this]
    |false=>
     rw[Bool.not_false,zC]
     rcases zb2 m b r (eC out y.1.1 y.1.2.1) with⟨f,o,h1,h2⟩|⟨ys,h1,h2⟩
     ·exact .inl ⟨f,o,h1,by rw[h2]⟩
     ·refine .inr ⟨y.1::ys,?_,by rw[h2]⟩
      rw[h1]
      have:cA (y.1::ys)=y.1::cA ys:=by unfold cA;rw[List.filter_cons,hz];rfl
      rw[this]
      rfl
theorem PT{m:Map}{b:zg}:∀{l ys:List bh},kz m b l= .inr ys->∀y∈ys,∃v∈l,∃q,fa m v.1=some q/\(gC q b v.2.1).2=0/\y=(gC q b v.2.1).1
 | [],ys,h,y,hy=>by cases h;cases hy
 |v::r,ys,h,y,hy=>by
  rw[kz] at h
  cases hf:fa m v.1 with
  |none=>rw[hf] at h;cases h
  |some q=>
   rw[hf] at h
   dsimp only at h
   cases hz:decide ((gC q b v.2.1).2=0) with
   |false=>rw[hz] at h;cases h
   |true=>
    rw[hz,Bool.not_true,zD] at h
    cases hr:kz m b r with
    |inl f=>rw[hr] at h;cases h
    |inr zs=>
     rw[hr] at h
     cases h
     rcases List.mem_cons.1 hy with rfl|hy
     ·exact⟨v,List.mem_cons_self,q,hf,of_decide_eq_true hz,rfl⟩
     ·obtain⟨w,hw,q',g⟩:=PT hr y hy
      exact⟨w,List.mem_cons_of_mem _ hw,q',g⟩
theorem aec(x y:aV):kB x y=kB y x:=by
 unfold kB
 have e1:(!decide (x.2.1=0)&&decide (x.2.1=y.2.1))=(!decide (y.2.1=0)&&decide (y.2.1=x.2.1)):=by
  by_cases h:x.2.1=y.2.1
  ·rw[h]
  ·rw[zF h,zF (show¬y.2.1=x.2.1 from fun e=>h e.symm),Bool.and_false,Bool.and_false]
 have e2:(!decide (x.2.2.1=0)&&decide (x.2.2.1=y.2.2.1))=(!decide (y.2.2.1=0)&&decide (y.2.2.1=x.2.2.1)):=by
  by_cases h:x.2.2.1=y.2.2.1
  ·rw[h]
  ·rw[zF h,zF (show¬y.2.2.1=x.2.2.1 from fun e=>h e.symm),Bool.and_false,Bool.and_false]
 rw[e1,e2]
theorem zis:∀{l prev:List aV},Ha prev l->l.Pairwise (fun x y=>kB x y=false)/\∀p∈prev,∀x∈l,kB p x=false
 | [],prev,h=>⟨List.Pairwise.nil,fun _ _ x hx=>by cases hx⟩
 |r::l,prev,h=>by
  obtain⟨h1,h2⟩:=h
  obtain⟨i1,i2⟩:=zis h2
  have hp:∀p∈prev,kB p r=false:=fun p hp=>by
   have:=List.any_eq_false.1 h1 p hp
   simpa using this
  refine⟨List.pairwise_cons.2 ⟨fun y hy=>i2 r (by simp) y hy,i1⟩,fun p hp' x hx=> ?_⟩
  rcases List.mem_cons.1 hx with rfl|hx
  ·exact hp p hp'
  ·exact i2 p (by simp [hp']) x hx
theorem zj9{x y:aV}(h:kB x y=false)(hx:x.2.2.1≠0):x.2.2.1≠y.2.2.1:=by
 intro e
 unfold kB at h
 rw[Bool.or_eq_false_iff] at h
 have:=h.2
 rw[zF hx,zT e] at this
 cases this
theorem NK{l:List aV}(h:l.Pairwise fun x y=>kB x y=false):∀x∈l,∀y∈l,x≠y->kB x y=false:=by
 induction l with
 |nil=>intro x hx;cases hx
 |cons r l ih=>
  obtain⟨h1,h2⟩:=List.pairwise_cons.1 h
  intro x hx y hy bJ
  rcases List.mem_cons.1 hx with e1|hx1
  ·rcases List.mem_cons.1 hy with e2|hy1
   ·exact absurd (e1.trans e2.symm) bJ
   ·rw[e1];exact h1 y hy1
  ·rcases List.mem_cons.1 hy with e2|hy1
   ·rw[aec,e2];exact h1 x hx1
   ·exact ih h2 x hx1 y hy1 bJ
end bm

