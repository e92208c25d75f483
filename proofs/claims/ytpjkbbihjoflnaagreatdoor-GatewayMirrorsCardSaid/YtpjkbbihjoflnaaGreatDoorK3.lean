/- No condition. -/
import Derived.Test.YtpjkbbihjoflnaaGreatDoorK2
import Derived.KernelRfl
import Derived.Laws.RangeString
set_option linter.unusedVariables false
set_option linter.unusedSimpArgs false
set_option maxRecDepth 100000
namespace bj
open Go.IntKind renaming wrap->zW,i64->zI,u8->zU
open Go Go.Ref
def z173{R:Type}(a:Bool->Option R):Option R:=
 wI.bind fun r1=>(yZ r1).bind fun r2=>Sum.elim (fun(Dt:Int)=>(yZ (List.replicate 2 ((0,0,[],()),([],[],()),[],[],()),0,())).bind fun r3=>Sum.elim (fun(s4:Int)=>bif !decide (Dt=0) then a false else a false) (fun(s4:(Int×(ar×(Option ah×Option ah)×Int)))=>bif !decide (Dt=0) then a false else a false) r3) (fun(Dt:(Int×(ar×(Option ah×Option ah)×Int)))=>(yZ (List.replicate 2 ((0,0,[],()),([],[],()),[],[],()),0,())).bind fun r4=>Sum.elim (fun(wr4:Int)=>bif !decide (Dt.1=0) then a false else(yY Dt.2 ([(0,bs [0],()),(1,bs [0,1,65],()),(0,bs [0],())]:List bd)).bind fun r5=>bif wr4=1 then(wL r5.1 ([(1,3,bs [],1,()),(0,4,bs [],1,())]:List mo)).bind fun r6=>bif r6 then(SZ r5.2).bind fun r7=>bif r7.1=1 then(Hi r7.2 (0:Int)).bind fun r8=>bif r8.1 then(Hi r8.2 (1:Int)).bind fun r9=>bif !r9.1 then(S0 r9.2 (1:Int)).bind fun kR=>a (decide (kR.1=0)) else a false else a false else a false else a false else a false) (fun(wr4:(Int×(ar×(Option ah×Option ah)×Int)))=>bif !decide (Dt.1=0) then a false else(yY Dt.2 ([(0,bs [0],()),(1,bs [0,1,65],()),(0,bs [0],())]:List bd)).bind fun lz=>bif wr4.1=1 then(wL lz.1 ([(1,3,bs [],1,()),(0,4,bs [],1,())]:List mo)).bind fun lj=>bif lj then(SZ lz.2).bind fun mP=>bif mP.1=1 then(Hi mP.2 (0:Int)).bind fun vU=>bif vU.1 then(Hi vU.2 (1:Int)).bind fun sZ=>bif !sZ.1 then(S0 sZ.2 (1:Int)).bind fun yi=>a (decide (yi.1=0)) else a false else a false else a false else a false else a false) r4) r2
def Hl:Option Bool:=
 z173 (fun a0=>some a0)
def Zd{R:Type}(a:ar)(b:ap)(c:Int)(d:Option R)(e:Bool->(ar×(Option ah×Option ah)×Int)->Option R):Option R:=
 (rG a).bind fun r1=>bif r1 then d else(rI b c).bind fun r2=>bif r2 then d else(oF a).bind fun r3=>bif !r3 then d else(tF a).bind fun r4=>(yZ r4).bind fun r5=>Sum.elim (fun(Mk:Int)=>bif Mk=0 then d else d) (fun(Mk:(Int×(ar×(Option ah×Option ah)×Int)))=>bif Mk.1=0 then e true Mk.2 else e false Mk.2) r5
def Ch(a:ar)(b:ap)(c:Int):Option (Sum Unit (Bool×(ar×(Option ah×Option ah)×Int))):=
 Zd a b c (some (.inl ())) (fun a0 a1=>some (.inr (a0,a1)))
def Zb{R:Type}(a:(List ByteArray))(b:Bool->Option R)(c:(List ByteArray)->ap->Bool->Bool->(List ByteArray)->Int->Int->ar->(ar×(Option ah×Option ah)×Int)->(ar×(Option ah×Option ah)×Int)->Option R):Option R:=
 Hl.bind fun r1=>bif !r1 then Hl.bind fun r2=>b r2 else(wK a (2500:Int)).bind fun r3=>bif r3 then Hl.bind fun r4=>b r4 else tG.bind fun r5=>(Ch r5 [] (0:Int)).bind fun r6=>Sum.elim (fun(Ml:Unit)=>zd 1 2 (zd 0 2 (zd 0 2 (zd 1 2 ((Ch (List.set (List.set r5.1 ((0:Int)).toNat (List.getD r5.1 ((1:Int)).toNat ((0,0,[],()),([],[],()),[],[],()))) ((1:Int)).toNat (List.getD r5.1 ((0:Int)).toNat ((0,0,[],()),([],[],()),[],[],())),r5.2.1,()) [] (0:Int)).bind fun r7=>Sum.elim (fun(wr7:Unit)=>b false) (fun(wr7:(Bool×(ar×(Option ah×Option ah)×Int)))=>b false) r7))))) (fun(Ml:(Bool×(ar×(Option ah×Option ah)×Int)))=>zd 1 2 (zd 0 2 (zd 0 2 (zd 1 2 ((Ch (List.set (List.set r5.1 ((0:Int)).toNat (List.getD r5.1 ((1:Int)).toNat ((0,0,[],()),([],[],()),[],[],()))) ((1:Int)).toNat (List.getD r5.1 ((0:Int)).toNat ((0,0,[],()),([],[],()),[],[],())),r5.2.1,()) [] (0:Int)).bind fun r8=>Sum.elim (fun(TD:Unit)=>bif !Ml.1 then b false else b false) (fun(TD:(Bool×(ar×(Option ah×Option ah)×Int)))=>bif !Ml.1 then b false else bif !TD.1 then b false else c a [] Ml.1 TD.1 a ((List.length a):Int) 0 (List.set (List.set r5.1 ((0:Int)).toNat (List.getD r5.1 ((1:Int)).toNat ((0,0,[],()),([],[],()),[],[],()))) ((1:Int)).toNat (List.getD r5.1 ((0:Int)).toNat ((0,0,[],()),([],[],()),[],[],())),r5.2.1,()) Ml.2 TD.2) r8))))) r6
def Fu{R:Type}(a:(List ByteArray))(b:ap)(c d:Bool)(e:(List ByteArray))(f g:Int)(h:ar)(i j:(ar×(Option ah×Option ah)×Int))(l:(List ByteArray)->ap->Bool->Bool->(List ByteArray)->Int->Int->ar->(ar×(Option ah×Option ah)×Int)->(ar×(Option ah×Option ah)×Int)->Option R)(m:(List ByteArray)->ap->Bool->Bool->ar->(ar×(Option ah×Option ah)×Int)->(ar×(Option ah×Option ah)×Int)->Option R):Option R:=
 bif g<f then zd g (List.length e) (bif(List.length b+List.length ([((0:Int),List.getD e g.toNat (bs []),())]:List bd))*24<=140737488355328 then l a (b++([(0,List.getD e g.toNat (bs []),())]:List bd)) c d e f (zW zI (g+1)) h i j else none) else m a b c d h i j
def Zc{R:Type}(a:(List ByteArray))(b:ap)(c d:Bool)(e:ar)(f g:(ar×(Option ah×Option ah)×Int))(h:Bool->Option R)(i:bY->Bool->(List ByteArray)->Int->Int->(ar×(Option ah×Option ah)×Int)->Option R):Option R:=
 (tK a).bind fun r9=>(tL e.2.1 r9).bind fun kR=>(yY f b).bind fun lz=>bif((List.length lz.1):Int)<((List.length kR.1):Int) then h false else i lz.1 d kR.1 ((List.length kR.1):Int) 0 g
def Sv{R:Type}(a:bY)(b:Bool)(c:(List ByteArray))(d e:Int)(f:(ar×(Option ah×Option ah)×Int))(g:bY->Bool->(List ByteArray)->Int->Int->(ar×(Option ah×Option ah)×Int)->Option R)(h:Bool->Option R)(i:Option R):Option R:=
 bif e<d then zd e (List.length c) (zd e (List.length a) (bif !decide ((List.getD a e.toNat (0,0,bs [],0,())).2.1=1) then g a b c d (zW zI (e+1)) f else zd e (List.length a) ((yY f ([(0,(List.getD a e.toNat (0,0,bs [],0,())).2.2.1,())]:List bd)).bind fun lj=>bif !decide (((List.length lj.1):Int)=1) then h false else zd 0 (List.length lj.1) ((rH (List.getD c e.toNat (bs []))).bind fun mP=>bif !(decide ((List.getD lj.1 ((0:Int)).toNat (0,0,bs [],0,())).1=1)&&(decide ((List.getD lj.1 ((0:Int)).toNat (0,0,bs [],0,())).2.1=1)&&(decide ((List.getD lj.1 ((0:Int)).toNat (0,0,bs [],0,())).2.2.1=mP)&&(decide ((List.getD lj.1 ((0:Int)).toNat (0,0,bs [],0,())).2.2.2.1=0)&&true)))) then h false else g a b c d (zW zI (e+1)) lj.2)))) else i
def z171{R:Type}(a:Bool)(b:Bool->Option R):Option R:=
 b a
def Fv{R:Type}(a:Bool->Option R):Option R:=
 a true
def Su:Nat->(List ByteArray)->ap->Bool->Bool->(List ByteArray)->Int->Int->ar->(ar×(Option ah×Option ah)×Int)->(ar×(Option ah×Option ah)×Int)->Option ((List ByteArray)×ap×Bool×Bool×ar×(ar×(Option ah×Option ah)×Int)×(ar×(Option ah×Option ah)×Int))
 |0,_,_,_,_,_,_,_,_,_,_=>none
 |k+1,v0,v1,v2,v3,v4,v5,v6,v7,v8,v9=>Fu v0 v1 v2 v3 v4 v5 v6 v7 v8 v9 (fun a0 a1 a2 a3 a4 a5 a6 a7 a8 a9=>Su k a0 a1 a2 a3 a4 a5 a6 a7 a8 a9) (fun a0 a1 a2 a3 a4 a5 a6=>some (a0,a1,a2,a3,a4,a5,a6))
def BZ:Nat->bY->Bool->(List ByteArray)->Int->Int->(ar×(Option ah×Option ah)×Int)->Option (Sum Bool Unit)
 |0,_,_,_,_,_,_=>none
 |k+1,v0,v1,v2,v3,v4,v5=>Sv v0 v1 v2 v3 v4 v5 (fun a0 a1 a2 a3 a4 a5=>BZ k a0 a1 a2 a3 a4 a5) (fun a0=>some (.inl a0)) (some (.inr ()))
def Jw(a:(List ByteArray)):Option Bool:=
 Zb a (fun a0=>some a0) (fun a0 a1 a2 a3 a4 a5 a6 a7 a8 a9=>(Su af a0 a1 a2 a3 a4 a5 a6 a7 a8 a9).bind fun e=>Zc e.1 e.2.1 e.2.2.1 e.2.2.2.1 e.2.2.2.2.1 e.2.2.2.2.2.1 e.2.2.2.2.2.2 (fun a0=>some a0) (fun a0 a1 a2 a3 a4 a5=>(BZ af a0 a1 a2 a3 a4 a5).bind fun e=>Sum.elim (fun(we:Bool)=>z171 we (fun a0=>some a0)) (fun(we:Unit)=>Fv (fun a0=>some a0)) e))
end bj

namespace bj
open Go.IntKind renaming wrap->zW,i64->zI,u8->zU
theorem zT{p:Prop}[Decidable p](h:p):decide p=true:=_root_.decide_eq_true h
theorem zF{p:Prop}[Decidable p](h:¬p):decide p=false:=_root_.decide_eq_false h
theorem zC{α:Type}{a b:α}:(bif true then a else b)=a:=rfl
theorem zD{α:Type}{a b:α}:(bif false then a else b)=b:=rfl
open Go Go.Ref
theorem zu:af=18446744073709551616:=by unfold af;rfl
theorem zh:maxLen=9223372036854775807:=rfl
theorem zj{x:Int}(h1: -9223372036854775808<=x)(h2:x<=9223372036854775807):zW zI x=x:=F8 h1 h2
theorem yG{n:Nat}(h:n<=9223372036854775807):zW zI (n:Int)=n:=F8 (by omega) (by omega)
theorem zv{j:Nat}(h:j<9223372036854775807):zW zI ((j:Int)+1)=((j+1:Nat):Int):=by
 rw[F8 (by omega) (by omega)];rfl
theorem P5(x:Int):IntKind.u64.wrap x=x % 18446744073709551616:=by
 simp [IntKind.wrap,IntKind.signed,IntKind.bits]
theorem SU(x:Int):zW zU x=x % 256:=by
 simp [IntKind.wrap,IntKind.signed,IntKind.bits]
theorem apS{x:Int}(h1:0<=x)(h2:x<18446744073709551616):IntKind.u64.wrap x=x:=by rw[P5];omega
theorem vC{x:Int}(h1:0<=x)(h2:x<256):zW zU x=x:=by rw[SU];omega
theorem zi{R:Type}{j n:Nat}{x:Option R}(h:j<n):zd (j:Int) n x=x:=aiu h
theorem zo{R:Type}{i:Int}{n:Nat}{x:Option R}(h0:0<=i)(h:i<n):zd i n x=x:=by
 unfold zd
 rw[zT h0,zT h];rfl
theorem anB{R:Type}{p:Prop}[Decidable p](x y:R):(bif decide p then x else y)=if p then x else y:=by
 by_cases h:p<;>simp [h]
def bl(s:ByteArray):List Int:=s.data.toList.map fun b=>(b.toNat:Int)
theorem wy{a b:ByteArray}(h:bl a=bl b):a=b:=by
 apply ByteArray.ext
 apply Array.ext'
 unfold bl at h
 have:Function.Injective (fun b:UInt8=>(b.toNat:Int)):=fun x y Bj=>UInt8.toNat_inj.1 (Int.ofNat.inj Bj)
 exact(List.map_inj_right (fun x y h=>this h)).1 h
theorem KS{a b:ByteArray}:a=b↔bl a=bl b:=⟨fun h=>by rw[h],wy⟩
theorem zg(s:ByteArray):(bl s).length=s.size:=by unfold bl;rw[List.length_map];rfl
theorem oi(a b:ByteArray):bl (a++b)=bl a++bl b:=by simp [bl,ByteArray.data_append]
theorem sD(s:ByteArray)(i j:Nat):bl (s.extract i j)=((bl s).take j).drop i:=by
 unfold bl
 rw[ByteArray.data_extract,Array.toList_extract,List.extract_eq_drop_take',List.map_drop,List.map_take]
theorem mc(s:ByteArray)(i:Nat):ze s i=(bl s).getD i 0:=by
 unfold ze bl
 split
 ·rename_i h
  have h':i<s.data.toList.length:=h
  rw[List.getD_eq_getElem?_getD,List.getElem?_map,List.getElem?_eq_getElem h']
  rfl
 ·rename_i h
  have h':s.data.toList.length<=i:=Nat.le_of_not_lt h
  rw[List.getD_eq_getElem?_getD,List.getElem?_eq_none (by simpa using h')]
  rfl
def zm(n:Int):Prop:=0<=n/\n<256
theorem j8{s:ByteArray}{x:Int}(h:x∈bl s):zm x:=by
 unfold bl at h
 obtain⟨b,_,rfl⟩:=List.mem_map.1 h
 have:=b.toNat_lt
 unfold zm
 omega
theorem z21{xs:List Int}(h:∀x∈xs,zm x):bl (strOf xs)=xs:=by
 simp only[bl,strOf,List.map_map]
 conv=>rhs;rw[<-List.map_id xs]
 apply List.map_congr_left
 intro x hx
 have:=h x hx
 unfold zm at this
 simp only[Function.comp,id]
 rw[UInt8.toNat_ofNat_of_lt' (by show x.toNat<256;omega)]
 omega
theorem vH(s:ByteArray):strOf (bl s)=s:=wy (z21 fun x hx=>j8 hx)
theorem AJ{l:List Nat}(h:∀x∈l,x<256):bl (bs l)=l.map (fun n:Nat=>(n:Int)):=by
 simp only[bl,bs,List.map_map]
 apply List.map_congr_left
 intro x hx
 have:=h x hx
 simp only[Function.comp]
 rw[UInt8.toNat_ofNat_of_lt' (by show x<256;omega)]
theorem zr1:bl (bs [])=[]:=rfl
theorem zdi{s:ByteArray}:s=bs []↔bl s=[]:=by rw[KS,zr1]
theorem n3(xs:List Int):(strOf xs).size=xs.length:=by rw[<-zg];unfold bl strOf;simp
section
variable {α σ ρ:Type}
end
end bj
namespace bj
open Go.IntKind renaming wrap->zW,i64->zI,u8->zU
open Go Go.Ref
section
variable {α σ ρ:Type}
def bB(g:Int->α->σ->(σ->Option ρ)->Option ρ)(fin:σ->Option ρ):List α->Int->σ->Option ρ
 | [],_,s=>fin s
 |x::r,i,s=>g i x s fun s'=>bB g fin r (i+1) s'
theorem Qx(d:α)(xs:List α)(hlen:xs.length<=9223372036854775807)(g:Int->α->σ->(σ->Option ρ)->Option ρ)(fin:σ->Option ρ)(L:Nat->Int->σ->Option ρ)
 (step:∀k (i:Int) s,L (k+1) i s=bif decide (i<(xs.length:Int)) then zd i xs.length (g i (xs.getD i.toNat d) s fun s'=>L k (zW zI (i+1)) s') else fin s):
 ∀(m j k:Nat) (s:σ),j+m=xs.length->m<k->L k j s=bB g fin (xs.drop j) j s
 |0,j,k,s,hj,hk=>by
  obtain⟨k,rfl⟩:∃k',k=k'+1:=⟨k-1,by omega⟩
  rw[step,zF (by omega),List.drop_eq_nil_of_le (by omega)];rfl
 |m+1,j,k,s,hj,hk=>by
  obtain⟨k,rfl⟩:∃k',k=k'+1:=⟨k-1,by omega⟩
  have al:j<xs.length:=by omega
  rw[step,zT (by omega),zC,zi al,List.drop_eq_getElem_cons al,bB]
  have hx:xs.getD ((j:Int)).toNat d=xs[j]:=by rw[Int.toNat_natCast,List.getD_eq_getElem?_getD,List.getElem?_eq_getElem al];rfl
  rw[hx]
  congr 1
  funext s'
  rw[zv (by omega),Qx d xs hlen g fin L step m (j+1) k s' (by omega) (by omega)]
  rfl
theorem cD(d:α)(xs:List α)(hlen:xs.length<=maxLen)(g:Int->α->σ->(σ->Option ρ)->Option ρ)(fin:σ->Option ρ)(L:Nat->Int->σ->Option ρ)
 (step:∀k (i:Int) s,L (k+1) i s=bif decide (i<(xs.length:Int)) then zd i xs.length (g i (xs.getD i.toNat d) s fun s'=>L k (zW zI (i+1)) s') else fin s) (s:σ):L af 0 s=bB g fin xs 0 s:=by
 rw[zh] at hlen
 have:=Qx d xs hlen g fin L step xs.length 0 af s (by omega) (by rw[zu];omega)
 rw[List.drop_zero] at this
 exact this
theorem Qy(d:α)(xs:List α)(hlen:xs.length<=9223372036854775807)(g:Int->α->σ->(σ->Option ρ)->Option ρ)(fin:σ->Option ρ)(L:Nat->Int->σ->Option ρ)
 (step:∀k (i:Int) s,0<=i->i<(xs.length:Int)->L (k+1) i s=g i (xs.getD i.toNat d) s fun s'=>L k (zW zI (i+1)) s') (stop:∀k s,L (k+1) (xs.length:Int) s=fin s):
 ∀(m j k:Nat) (s:σ),j+m=xs.length->m<k->L k j s=bB g fin (xs.drop j) j s
 |0,j,k,s,hj,hk=>by
  obtain⟨k,rfl⟩:∃k',k=k'+1:=⟨k-1,by omega⟩
  have:j=xs.length:=by omega
  subst this
  rw[stop,List.drop_length];rfl
 |m+1,j,k,s,hj,hk=>by
  obtain⟨k,rfl⟩:∃k',k=k'+1:=⟨k-1,by omega⟩
  have al:j<xs.length:=by omega
  rw[step k j s (by omega) (by omega),List.drop_eq_getElem_cons al,bB]
  have hx:xs.getD ((j:Int)).toNat d=xs[j]:=by rw[Int.toNat_natCast,List.getD_eq_getElem?_getD,List.getElem?_eq_getElem al];rfl
  rw[hx]
  congr 1
  funext s'
  rw[zv (by omega),Qy d xs hlen g fin L step stop m (j+1) k s' (by omega) (by omega)]
  rfl
theorem Bn(d:α)(xs:List α)(hlen:xs.length<=maxLen)(g:Int->α->σ->(σ->Option ρ)->Option ρ)(fin:σ->Option ρ)(L:Nat->Int->σ->Option ρ)
 (step:∀k (i:Int) s,0<=i->i<(xs.length:Int)->L (k+1) i s=g i (xs.getD i.toNat d) s fun s'=>L k (zW zI (i+1)) s') (stop:∀k s,L (k+1) (xs.length:Int) s=fin s) (s:σ):L af 0 s=bB g fin xs 0 s:=by
 rw[zh] at hlen
 have:=Qy d xs hlen g fin L step stop xs.length 0 af s (by omega) (by rw[zu];omega)
 rw[List.drop_zero] at this
 exact this
end
end bj

namespace bj
open Go.IntKind renaming wrap->zW,i64->zI,u8->zU
open Go Go.Ref
theorem BI(n a:Nat)(h:a<2^n):(BitVec.ofInt n (a:Int)).toNat=a:=by
 rw[BitVec.toNat_ofInt]
 have h2:((a:Int)% ((2^n:Nat):Int))=((a % 2^n:Nat):Int):=by rfl
 rw[h2,Int.toNat_natCast,Nat.mod_eq_of_lt h]
theorem Iq{a:Nat}(h:a<18446744073709551616):IntKind.u64.wrap (a:Int)=a:=apS (by omega) (by omega)
theorem nw{a b:Nat}(ha:a<18446744073709551616)(hb:b<18446744073709551616):aR .and .u64 a b=((a&&&b:Nat):Int):=by
 simp only[aR,BitVec.toNat_and,BI IntKind.u64.bits a ha,BI IntKind.u64.bits b hb]
 exact Iq (Nat.lt_of_le_of_lt Nat.and_le_left ha)
theorem yf{a b:Nat}(ha:a<18446744073709551616)(hb:b<18446744073709551616):aR .or .u64 a b=((a|||b:Nat):Int):=by
 simp only[aR,BitVec.toNat_or,BI IntKind.u64.bits a ha,BI IntKind.u64.bits b hb]
 exact Iq (Nat.or_lt_two_pow (n:=64) ha hb)
theorem akq{a b:Nat}(ha:a<18446744073709551616)(hb:b<18446744073709551616):aR .andNot .u64 a b=((a&&&(18446744073709551615-b):Nat):Int):=by
 simp only[aR,BitVec.toNat_and,BitVec.toNat_not,BI IntKind.u64.bits a ha,BI IntKind.u64.bits b hb]
 have:2^IntKind.u64.bits-1-b=18446744073709551615-b:=rfl
 rw[this]
 exact Iq (Nat.lt_of_le_of_lt Nat.and_le_left ha)
theorem anz{a b:Nat}(ha:a<9223372036854775808)(hb:b<9223372036854775808):aR .and .i64 a b=((a&&&b:Nat):Int):=by
 simp only[aR,BitVec.toNat_and,BI IntKind.i64.bits a (Nat.lt_trans ha (by decide)),BI IntKind.i64.bits b (Nat.lt_trans hb (by decide))]
 have:=Nat.lt_of_le_of_lt (Nat.and_le_left (n:=a) (m:=b)) ha
 exact yG (by omega)
theorem Rk(a:Nat)(k:Nat)(hk:k<=64):Int.fdiv (a:Int) (2^min ((k:Int)).toNat 64)=((a/2^k:Nat):Int):=by
 rw[Int.fdiv_eq_ediv_of_nonneg _ (Int.pow_nonneg (by decide)),Int.toNat_natCast,Nat.min_eq_left hk]
 rfl
section
variable {c0 c1 c2 c3 c4 c5 c6 c7:Nat}
end
def gl(x:Nat):Nat:=if x=0 then 0 else x.log2+1
theorem TH(x:Nat):x<2^gl x/\(x≠0->2^(gl x-1)<=x/\1<=gl x):=by
 unfold gl
 split
 ·simp_all
 ·rename_i h
  exact⟨Nat.lt_log2_self,fun _=>⟨by simpa using Nat.log2_self_le h,by omega⟩⟩
theorem acg{x L:Nat}(h1:x<2^L)(h2:L≠0->2^(L-1)<=x):gl x=L:=by
 obtain⟨g1,g2⟩:=TH x
 by_cases hx:x=0
 ·subst hx
  by_cases hL:L=0
  ·rw[hL];rfl
  ·have:=h2 hL
   have:=Nat.two_pow_pos (L-1)
   omega
 ·obtain⟨g3,g4⟩:=g2 hx
  rcases Nat.lt_trichotomy (gl x) L with h|h|h
  ·have:=h2 (by omega)
   have:2^gl x<=2^(L-1):=Nat.pow_le_pow_right (by decide) (by omega)
   omega
  ·exact h
  ·have:2^L<=2^(gl x-1):=Nat.pow_le_pow_right (by decide) (by omega)
   omega
theorem z9o{x k:Nat}(h:2^k<=x):gl x=gl (x/2^k)+k:=by
 have hp:=Nat.two_pow_pos k
 have hq:x/2^k≠0:=by
  have:=Nat.div_pos h hp
  omega
 obtain⟨g1,g2⟩:=TH (x/2^k)
 obtain⟨g3,g4⟩:=g2 hq
 apply acg
 ·rw[Nat.pow_add]
  exact(Nat.div_lt_iff_lt_mul hp).1 g1
 ·intro _
  have:gl (x/2^k)+k-1=(gl (x/2^k)-1)+k:=by omega
  rw[this,Nat.pow_add]
  exact(Nat.le_div_iff_mul_le hp).1 g3
def mf:List Nat:=[0,1,2,2,3,3,3,3,4,4,4,4,4,4,4,4,5,5,5,5,5,5,5,5,5,5,5,5,5,5,5,5]++List.replicate 32 6++List.replicate 64 7++List.replicate 128 8
theorem alN:∀c:Fin 256,mf.getD c.1 0=gl c.1:=by decide+kernel
def Bm(x:Int):Option Int:=
 let t:Int->Int->Option Int:=fun n x=>zd (zW zU x) (bs mf).size (some (zW zI (n+zW zI (ze (bs mf) (zW zU x).toNat))))
 let c:Int->Int->Option Int:=fun n x=>bif decide ((256:Int)<=x) then t (zW zI (n+8)) (Int.fdiv x (2^min ((8:Int)).toNat 64)) else t n x
 let b:Int->Int->Option Int:=fun n x=>bif decide ((65536:Int)<=x) then c (zW zI (n+16)) (Int.fdiv x (2^min ((16:Int)).toNat 64)) else c n x
 bif decide ((4294967296:Int)<=x) then b 32 (Int.fdiv x (2^min ((32:Int)).toNat 64)) else b 0 x
theorem acQ(x:Int):tN x=Bm x:=by kernel_rfl
theorem ahw(c:Nat)(h:c<256):ze (bs mf) c=((gl c:Nat):Int):=by
 rw[mc,AJ (by decide+kernel),<-alN ⟨c,h⟩,List.getD_eq_getElem?_getD,List.getElem?_map,List.getD_eq_getElem?_getD]
 cases mf[c]? <;>rfl
theorem Mu{x k:Nat}(h:x<2^k):gl x<=k:=by
 by_cases hx:x=0
 ·subst hx;simp [gl]
 ·obtain⟨g3,g4⟩:=(TH x).2 hx
  rcases Nat.lt_or_ge k (gl x) with h1|h1
  ·have:2^k<=2^(gl x-1):=Nat.pow_le_pow_right (by decide) (by omega)
   omega
  ·exact h1
theorem aiC(x:Nat)(hx:x<18446744073709551616):tN x=some ((gl x:Nat):Int):=by
 rw[acQ]
 unfold Bm
 simp only
 have ht:∀(n:Nat) (c:Nat),n<=100->c<256->zd (zW zU (c:Int)) (bs mf).size (some (zW zI ((n:Int)+zW zI (ze (bs mf) (zW zU (c:Int)).toNat))))=some (((n+gl c:Nat):Int)):=by
  intro n c hn hc
  have hl:(bs mf).size=256:=by rw[<-zg,AJ (by decide+kernel)];rfl
  have hb:=Mu (k:=8) hc
  rw[vC (by omega) (by omega),hl,zi hc,Int.toNat_natCast,ahw c hc,yG (by omega),zj (by omega) (by omega)]
  rfl
 have f8:∀a:Nat,Int.fdiv (a:Int) (2^min ((8:Int)).toNat 64)=((a/2^8:Nat):Int):=fun a=>Rk a 8 (by omega)
 have f16:∀a:Nat,Int.fdiv (a:Int) (2^min ((16:Int)).toNat 64)=((a/2^16:Nat):Int):=fun a=>Rk a 16 (by omega)
 have f32:∀a:Nat,Int.fdiv (a:Int) (2^min ((32:Int)).toNat 64)=((a/2^32:Nat):Int):=fun a=>Rk a 32 (by omega)
 have hc:∀(n:Nat) (y:Nat),n<=48->y<65536->(bif decide ((256:Int)<=(y:Int)) then zd (zW zU (Int.fdiv (y:Int) (2^min ((8:Int)).toNat 64))) (bs mf).size (some (zW zI (zW zI ((n:Int)+8)+zW zI (ze (bs mf) (zW zU (Int.fdiv (y:Int) (2^min ((8:Int)).toNat 64))).toNat)))) else zd (zW zU (y:Int)) (bs mf).size (some (zW zI ((n:Int)+zW zI (ze (bs mf) (zW zU (y:Int)).toNat)))))=some (((n+gl y:Nat):Int)):=by
  intro n y hn hy
  by_cases h:256<=y
  ·rw[zT (by omega),zC,f8,zj (x:=(n:Int)+8) (by omega) (by omega)]
   have:=ht (n+8) (y/2^8) (by omega) (by omega)
   rw[show((n:Int)+8)=((n+8:Nat):Int) from rfl,this,z9o (k:=8) h]
   congr 2;omega
  ·rw[zF (by omega),zD]
   exact ht n y (by omega) (by omega)
 have hb:∀(n:Nat) (y:Nat),n<=32->y<4294967296->(bif decide ((65536:Int)<=(y:Int)) then(bif decide ((256:Int)<=Int.fdiv (y:Int) (2^min ((16:Int)).toNat 64)) then zd (zW zU (Int.fdiv (Int.fdiv (y:Int) (2^min ((16:Int)).toNat 64)) (2^min ((8:Int)).toNat 64))) (bs mf).size (some (zW zI (zW zI (zW zI ((n:Int)+16)+8)+zW zI (ze (bs mf) (zW zU (Int.fdiv (Int.fdiv (y:Int) (2^min ((16:Int)).toNat 64)) (2^min ((8:Int)).toNat 64))).toNat)))) else zd (zW zU (Int.fdiv (y:Int) (2^min ((16:Int)).toNat 64))) (bs mf).size (some (zW zI (zW zI ((n:Int)+16)+zW zI (ze (bs mf) (zW zU (Int.fdiv (y:Int) (2^min ((16:Int)).toNat 64))).toNat))))) else
  (bif decide ((256:Int)<=(y:Int)) then zd (zW zU (Int.fdiv (y:Int) (2^min ((8:Int)).toNat 64))) (bs mf).size (some (zW zI (zW zI ((n:Int)+8)+zW zI (ze (bs mf) (zW zU (Int.fdiv (y:Int) (2^min ((8:Int)).toNat 64))).toNat)))) else zd (zW zU (y:Int)) (bs mf).size (some (zW zI ((n:Int)+zW zI (ze (bs mf) (zW zU (y:Int)).toNat))))))=some (((n+gl y:Nat):Int)):=by
  intro n y hn hy
  by_cases h:65536<=y
  ·rw[zT (by omega),zC,f16,zj (x:=(n:Int)+16) (by omega) (by omega)]
   have:=hc (n+16) (y/2^16) (by omega) (by omega)
   rw[show((n:Int)+16)=((n+16:Nat):Int) from rfl,this,z9o (k:=16) h]
   congr 2;omega
  ·rw[zF (by omega),zD]
   exact hc n y (by omega) (by omega)
 by_cases h:4294967296<=x
 ·rw[zT (by omega),zC,f32]
  have:=hb 32 (x/2^32) (by omega) (by omega)
  rw[show((32:Nat):Int)=32 from rfl] at this
  rw[this,z9o (k:=32) h]
  congr 2;omega
 ·rw[zF (by omega),zD]
  have:=hb 0 x (by omega) (by omega)
  rw[show((0:Nat):Int)=0 from rfl] at this
  rw[this]
  congr 2;omega
theorem za6(x:Nat)(hx:x<18446744073709551616):nh x=some (((64-gl x:Nat)):Int):=by
 unfold nh VI
 have:=Mu (k:=64) hx
 rw[aiC x hx,zc,zj (by omega) (by omega)]
 congr 1;omega
end bj

namespace bj
open Go.IntKind renaming wrap->zW,i64->zI,u8->zU
open Go Go.Ref
abbrev wD:=Int×Int×Unit
abbrev dj:Nat:=18446744073709551616
def b8(h l:Nat)(n:Int):Bool:=
 if 1<=n/\n<=64 then h.testBit (64-n).toNat else if 65<=n/\n<=128 then l.testBit (128-n).toNat else false
def js(n:Int):Nat:=if 1<=n/\n<=64 then 2^(64-n).toNat else 0
def jt(n:Int):Nat:=if 65<=n/\n<=128 then 2^(128-n).toNat else 0
theorem zrg{k:Nat}(h:k<64):2^k<dj:=Nat.pow_lt_pow_right (by decide) h
theorem Xn(n:Int):js n<dj:=by
 unfold js;split
 ·exact zrg (by omega)
 ·decide
theorem Xo(n:Int):jt n<dj:=by
 unfold jt;split
 ·exact zrg (by omega)
 ·decide
theorem P0{k:Nat}(h:k<64):IntKind.u64.wrap ((1:Int)*2^min k 64)=((2^k:Nat):Int):=by
 rw[Nat.min_eq_left (by omega),Int.one_mul]
 have:=zrg h
 have e:((2:Int)^k)=((2^k:Nat):Int):=by simp
 rw[e]
 exact Iq this
theorem Qs(n:Int):Hh n=some ((js n:Int),(jt n:Int),()):=by
 unfold Hh YQ js jt
 by_cases h1:n<1
 ·rw[zT h1,if_neg (by omega),if_neg (by omega)];rfl
 rw[zF h1,zD]
 by_cases h2:128<n
 ·rw[zT h2,if_neg (by omega),if_neg (by omega)];rfl
 rw[zF h2,zD]
 by_cases h3:n<=64
 ·rw[zT h3,zC,zj (by omega) (by omega),zF (by omega),zD,P0 (by omega),if_pos (by omega),if_neg (by omega)];rfl
 ·rw[zF h3,zD,zj (by omega) (by omega),zF (by omega),zD,P0 (by omega),if_neg (by omega),if_pos (by omega)];rfl
theorem z9l(h k:Nat):(h&&&2^k=0)↔h.testBit k=false:=by
 constructor
 ·intro e
  have:=congrArg (fun x=>x.testBit k) e
  simpa [Nat.testBit_and,Nat.testBit_two_pow] using this
 ·intro e
  apply Nat.eq_of_testBit_eq
  intro i
  rw[Nat.testBit_and,Nat.testBit_two_pow]
  by_cases hi:k=i
  ·subst hi;simp [e]
  ·simp [hi]
theorem aoe(h l:Nat)(hh:h<dj)(hl:l<dj)(n:Int):Jd ((h:Int),(l:Int),()) n=some (b8 h l n):=by
 unfold Jd YN sQ Sp
 rw[Qs,zc,nw hh (Xn n),nw hl (Xo n),zc]
 congr 1
 simp only[Bool.and_true]
 have e:∀a:Nat,decide ((a:Int)=0)=decide (a=0):=fun a=>decide_eq_decide.2 (by omega)
 rw[e,e]
 unfold js jt b8
 by_cases h1:1<=n/\n<=64
 ·rw[if_pos h1,if_pos h1,if_neg (by omega)]
  have:=z9l h (64-n).toNat
  cases hb:h.testBit (64-n).toNat with
  |false=>simp [this.2 hb]
  |true=>simp;intro hz;exact absurd (this.1 hz) (by simp [hb])
 ·rw[if_neg h1,if_neg h1]
  by_cases h2:65<=n/\n<=128
  ·rw[if_pos h2,if_pos h2]
   have:=z9l l (128-n).toNat
   cases hb:l.testBit (128-n).toNat with
   |false=>simp [this.2 hb]
   |true=>simp;intro hz;exact absurd (this.1 hz) (by simp [hb])
  ·rw[if_neg h2,if_neg h2];simp
theorem ze7(h l h' l':Nat)(hh:h<dj)(hl:l<dj)(CP:h'<dj)(kC:l'<dj):ur ((h:Int),(l:Int),()) ((h':Int),(l':Int),())=some (((h|||h':Nat):Int),((l|||l':Nat):Int),()):=by
 unfold ur YM
 rw[yf hh CP,yf hl kC]
theorem O0(h l h' l':Nat)(hh:h<dj)(hl:l<dj)(CP:h'<dj)(kC:l'<dj):sQ ((h:Int),(l:Int),()) ((h':Int),(l':Int),())=some (((h&&&h':Nat):Int),((l&&&l':Nat):Int),()):=by
 unfold sQ Sp
 rw[nw hh CP,nw hl kC]
theorem Pt(h l:Nat)(hh:h<dj)(hl:l<dj)(n:Int):yW ((h:Int),(l:Int),()) n=some (((h|||js n:Nat):Int),((l|||jt n:Nat):Int),()):=by
 unfold yW YP
 rw[Qs,zc,ze7 h l _ _ hh hl (Xn n) (Xo n)];rfl
theorem vm{a b:Nat}(ha:a<dj)(hb:b<dj):a|||b<dj:=Nat.or_lt_two_pow (n:=64) ha hb
theorem Ql{a b:Nat}(ha:a<dj):a&&&b<dj:=Nat.lt_of_le_of_lt Nat.and_le_left ha
theorem apI(h l h' l':Nat)(n:Int):b8 (h|||h') (l|||l') n=(b8 h l n||b8 h' l' n):=by
 unfold b8;split
 ·rw[Nat.testBit_or]
 ·split
  ·rw[Nat.testBit_or]
  ·rfl
theorem PC(h l h' l':Nat)(n:Int):b8 (h&&&h') (l&&&l') n=(b8 h l n&&b8 h' l' n):=by
 unfold b8;split
 ·rw[Nat.testBit_and]
 ·split
  ·rw[Nat.testBit_and]
  ·rfl
def jy(n:Int):Bool:=decide (1<=n/\n<=128)
theorem anV(m n:Int):b8 (js m) (jt m) n=(decide (m=n)&&jy n):=by
 unfold b8 js jt jy
 by_cases h1:1<=n/\n<=64
 ·rw[if_pos h1]
  by_cases h2:1<=m/\m<=64
  ·rw[if_pos h2,Nat.testBit_two_pow,zT (p:=1<=n/\n<=128) (by omega),Bool.and_true]
   exact decide_eq_decide.2 (by omega)
  ·rw[if_neg h2,zF (by omega:¬m=n)];simp
 ·rw[if_neg h1]
  by_cases h3:65<=n/\n<=128
  ·rw[if_pos h3]
   by_cases h2:65<=m/\m<=128
   ·rw[if_pos h2,Nat.testBit_two_pow,zT (p:=1<=n/\n<=128) (by omega),Bool.and_true]
    exact decide_eq_decide.2 (by omega)
   ·rw[if_neg h2,zF (by omega:¬m=n)];simp
  ·rw[if_neg h3,zF (p:=1<=n/\n<=128) (by omega),Bool.and_false]
theorem ak0(h l:Nat)(m n:Int):b8 (h|||js m) (l|||jt m) n=(b8 h l n||(decide (m=n)&&jy n)):=by rw[apI,anV]
theorem zig{h l:Nat}{n:Int}(hh:b8 h l n=true):1<=n/\n<=128:=by
 unfold b8 at hh
 split at hh
 ·omega
 ·split at hh
  ·omega
  ·cases hh
theorem PY{h l h' l':Nat}(hh:h<dj)(hl:l<dj)(CP:h'<dj)(kC:l'<dj)(e:∀n:Int,1<=n->n<=128->b8 h l n=b8 h' l' n):h=h'/\l=l':=by
 constructor
 ·apply Nat.eq_of_testBit_eq
  intro i
  by_cases hi:i<64
  ·have:=e (64-i) (by omega) (by omega)
   unfold b8 at this
   rw[if_pos (by omega),if_pos (by omega)] at this
   have e2:(64-(64-(i:Int))).toNat=i:=by omega
   rwa [e2] at this
  ·rw[Nat.testBit_lt_two_pow (Nat.lt_of_lt_of_le hh (Nat.pow_le_pow_right (n:=2) (by decide) (by omega:64<=i))),Nat.testBit_lt_two_pow (Nat.lt_of_lt_of_le CP (Nat.pow_le_pow_right (n:=2) (by decide) (by omega:64<=i)))]
 ·apply Nat.eq_of_testBit_eq
  intro i
  by_cases hi:i<64
  ·have:=e (128-i) (by omega) (by omega)
   unfold b8 at this
   have h1:¬(1<=128-(i:Int)/\128-(i:Int)<=64):=by omega
   have h2:65<=128-(i:Int)/\128-(i:Int)<=128:=by omega
   rw[if_neg h1,if_pos h2,if_neg h1,if_pos h2] at this
   have e2:(128-(128-(i:Int))).toNat=i:=by omega
   rwa [e2] at this
  ·rw[Nat.testBit_lt_two_pow (Nat.lt_of_lt_of_le hl (Nat.pow_le_pow_right (n:=2) (by decide) (by omega:64<=i))),Nat.testBit_lt_two_pow (Nat.lt_of_lt_of_le kC (Nat.pow_le_pow_right (n:=2) (by decide) (by omega:64<=i)))]
def cR(l:List Int):Nat:=l.foldl (fun a n=>a|||js n) 0
def cY(l:List Int):Nat:=l.foldl (fun a n=>a|||jt n) 0
theorem zvx(f:Int->Nat)(hf:∀n,f n<dj)(l:List Int):∀a,a<dj->l.foldl (fun a n=>a|||f n) a<dj:=by
 induction l with
 |nil=>intro a h;exact h
 |cons x r ih=>intro a h;exact ih _ (vm h (hf x))
theorem sJ(l:List Int):cR l<dj:=zvx _ Xn l 0 (by decide)
theorem sK(l:List Int):cY l<dj:=zvx _ Xo l 0 (by decide)
theorem akU(l:List Int):∀(a b:Nat) (n:Int),b8 (l.foldl (fun a n=>a|||js n) a) (l.foldl (fun a n=>a|||jt n) b) n=(b8 a b n||(decide (n∈l)&&jy n)):=by
 induction l with
 |nil=>intro a b n;simp
 |cons x r ih=>
  intro a b n
  rw[List.foldl_cons,List.foldl_cons,ih,ak0]
  by_cases h1:x=n
  ·subst h1;cases jy x<;>simp
  ·have:n≠x:=fun e=>h1 e.symm
   simp [h1,this]
theorem GZ(l:List Int)(n:Int):b8 (cR l) (cY l) n=(decide (n∈l)&&jy n):=by
 unfold cR cY
 rw[akU]
 have:b8 0 0 n=false:=by unfold b8;simp
 rw[this];simp
theorem an1(xs:List Int)(hx:xs.length<=9223372036854775807)(b0:wD):∀(n j k:Nat) (a b:Nat),j+n=xs.length->n<k->a<dj->b<dj->
 BX k xs (xs.length:Int) j b0 ((a:Int),(b:Int),())=some (b0,((((xs.drop j).foldl (fun a n=>a|||js n) a:Nat):Int),(((xs.drop j).foldl (fun a n=>a|||jt n) b:Nat):Int),())):=by
 intro n
 induction n with
 |zero=>
  intro j k a b hj hk ha hb
  obtain⟨k,rfl⟩:∃k',k=k'+1:=⟨k-1,by omega⟩
  rw[BX,Sn,zF (by omega),List.drop_eq_nil_of_le (by omega)];rfl
 |succ n ih=>
  intro j k a b hj hk ha hb
  obtain⟨k,rfl⟩:∃k',k=k'+1:=⟨k-1,by omega⟩
  have al:j<xs.length:=by omega
  have Bg:xs.getD ((j:Int)).toNat 0=xs[j]:=by rw[Int.toNat_natCast,List.getD_eq_getElem?_getD,List.getElem?_eq_getElem al];rfl
  rw[BX,Sn,zT (by omega),zC,zi al,Bg,Pt a b ha hb,zc,zv (by omega),ih (j+1) k _ _ (by omega) (by omega) (vm ha (Xn _)) (vm hb (Xo _)),List.drop_eq_getElem_cons al]
  rfl
theorem yR(xs:List Int)(hx:xs.length<=maxLen):vL xs=some ((cR xs:Int),(cY xs:Int),()):=by
 rw[zh] at hx
 unfold vL YK
 have:=an1 xs hx (0,0,()) xs.length 0 af 0 0 (by omega) (by rw[zu];omega) (by decide) (by decide)
 simp only[YL]
 have e:BX af xs (xs.length:Int) 0 (0,0,()) (0,0,())=_:=this
 rw[e];rfl
def pk:List Int:=(List.range 128).map fun k:Nat=>((k+1:Nat):Int)
theorem alg(n:Int):n∈pk↔1<=n/\n<=128:=by
 unfold pk
 constructor
 ·intro h
  obtain⟨k,hk,rfl⟩:=List.mem_map.1 h
  have:=List.mem_range.1 hk
  omega
 ·intro h
  exact List.mem_map.2 ⟨(n-1).toNat,List.mem_range.2 (by omega),by omega⟩
theorem adB:pk.Pairwise (· < ·):=by
 unfold pk
 exact List.Pairwise.map _ (fun a b h=>by omega) List.pairwise_lt_range
def elems(h l:Nat):List Int:=pk.filter (b8 h l)
theorem BL(h l:Nat)(n:Int):n∈elems h l↔b8 h l n=true:=by
 unfold elems
 rw[List.mem_filter,alg]
 exact⟨fun h=>h.2,fun h=>⟨zig h,h⟩⟩
theorem TG(h l:Nat):(elems h l).Pairwise (· < ·):=adB.filter _
def ji(h l:Nat)(n:Int):Int:=((elems h l).filter fun m=>decide (n<m)).headD 0
def XF(h l:Nat)(n r:Int):Prop:=(r=0/\∀m,n<m->b8 h l m=false)\/(n<r/\b8 h l r=true/\∀m,n<m->m<r->b8 h l m=false)
theorem aln(h l:Nat)(n:Int):XF h l n (ji h l n):=by
 unfold ji
 cases hf:(elems h l).filter fun m=>decide (n<m) with
 |nil=>
  left
  refine⟨rfl,fun m hm=> ?_⟩
  cases hb:b8 h l m with
  |false=>rfl
  |true=>
   have:m∈(elems h l).filter fun m=>decide (n<m):=List.mem_filter.2 ⟨(BL h l m).2 hb,by simpa using hm⟩
   rw[hf] at this;cases this
 |cons x r=>
  right
  have hx:x∈(elems h l).filter fun m=>decide (n<m):=by rw[hf];simp
  obtain⟨h1,h2⟩:=List.mem_filter.1 hx
  refine⟨by simpa using h2,(BL h l x).1 h1,fun m hm hmx=> ?_⟩
  cases hb:b8 h l m with
  |false=>rfl
  |true=>
   have cz:m∈(elems h l).filter fun m=>decide (n<m):=List.mem_filter.2 ⟨(BL h l m).2 hb,by simpa using hm⟩
   have hs:=(TG h l).filter (fun m=>decide (n<m))
   rw[hf] at cz hs
   rcases List.mem_cons.1 cz with e|e
   ·simp only[List.headD_cons] at hmx;omega
   ·have:=(List.pairwise_cons.1 hs).1 m e
    simp only[List.headD_cons] at hmx;omega
theorem acp{h l:Nat}{n r q:Int}(h1:XF h l n r)(h2:XF h l n q):r=q:=by
 rcases h1 with⟨e,a⟩|⟨e,a,b⟩<;>rcases h2 with⟨e',a'⟩|⟨e',a',b'⟩
 ·rw[e,e']
 ·rw[a q e'] at a';cases a'
 ·rw[a' r e] at a;cases a
 ·rcases Int.lt_trichotomy r q with h|h|h
  ·rw[b' r e h] at a;cases a
  ·exact h
  ·rw[b q e' h] at a';cases a'
theorem NH(x n:Nat)(hx:x<dj)(hn:n<=64):
 (x*2^n % dj=0/\∀i,i<64-n->x.testBit i=false)\/
 (x*2^n % dj≠0/\gl (x*2^n % dj)<=64/\n<gl (x*2^n % dj)/\x.testBit (gl (x*2^n % dj)-1-n)=true/\∀i,gl (x*2^n % dj)-1-n<i->i<64-n->x.testBit i=false):=by
 have hb:∀i,(x*2^n % dj).testBit i=(decide (i<64)&&(decide (n<=i)&&x.testBit (i-n))):=by
  intro i
  rw[show dj=2^64 from rfl,Nat.testBit_mod_two_pow,Nat.testBit_mul_two_pow]
 generalize x*2^n % dj=r at hb
 have hr:∀i,i<64-n->x.testBit i=r.testBit (i+n):=by
  intro i hi
  rw[hb,zT (by omega),zT (by omega),Nat.add_sub_cancel];rfl
 by_cases h0:r=0
 ·left
  refine⟨h0,fun i hi=> ?_⟩
  rw[hr i hi,h0];simp
 ·right
  obtain⟨g1,g2⟩:=TH r
  obtain⟨g3,g4⟩:=g2 h0
  have aaE:r.testBit (gl r-1)=true:=by
   rw[Nat.testBit_eq_decide_div_mod_eq]
   have hp:=Nat.two_pow_pos (gl r-1)
   have:r/2^(gl r-1)=1:=by
    apply Nat.div_eq_of_lt_le
    ·omega
    ·have:2^gl r=2*2^(gl r-1):=by
      rw[<-Nat.pow_succ'];congr 1;omega
     omega
   rw[this];rfl
  have al:=aaE
  rw[hb] at al
  simp only[Bool.and_eq_true,decide_eq_true_eq] at al
  refine⟨h0,by omega,by omega,?_,fun i h1 h2=> ?_⟩
  ·exact al.2.2
  ·rw[hr i h2]
   exact Nat.testBit_lt_two_pow (Nat.lt_of_lt_of_le g1 (Nat.pow_le_pow_right (by decide) (by omega)))
theorem PZ(x n:Nat)(hn:n<=64):IntKind.u64.wrap ((x:Int)*2^min ((n:Int)).toNat 64)=((x*2^n % dj:Nat):Int):=by
 rw[P5,Int.toNat_natCast,Nat.min_eq_left hn]
 have e:((x:Int)*2^n)=((x*2^n:Nat):Int):=by simp
 rw[e];rfl
theorem O1(h l:Nat)(hh:h<dj)(hl:l<dj)(n:Int)(hn1: -9223372036854775808<=n)(hn2:n<=9223372036854775807):Hg ((h:Int),(l:Int),()) n=some (ji h l n):=by
 have goal:∀r,XF h l n r->some r=some (ji h l n):=fun r hr=>by rw[acp hr (aln h l n)]
 unfold Hg YO
 obtain⟨m,hm,hmn⟩:∃m:Nat,(if n<(0:Int) then(0:Int) else n)=(m:Int)/\(n<=(m:Int)/\(0<=n->n=m)/\(n<0->m=0)):=by
  by_cases h0:n<0
  ·exact⟨0,by rw[if_pos h0];rfl,by omega,by omega,by omega⟩
  ·exact⟨n.toNat,by rw[if_neg h0];omega,by omega,by omega,by omega⟩
 have mH:∀k:Int,k<=0->b8 h l k=false:=fun k hk=>by unfold b8;rw[if_neg (by omega),if_neg (by omega)]
 have low:∀(ll base:Nat),ll<=64->(ll<64->base=64+ll)->(ll=64->128<=base)->(m:Int)<=base->base<=9223372036854775807->(∀k,n<k->k<=base->k<=128->b8 h l k=false)->
  (bif !(decide (IntKind.u64.wrap ((l:Int)*2^min ((ll:Int)).toNat 64)=0)) then(nh (IntKind.u64.wrap ((l:Int)*2^min ((ll:Int)).toNat 64))).bind (fun r=>some (zW zI (zW zI ((base:Int)+r)+1))) else some 0)=some (ji h l n):=by
  intro ll base h1 h2 h2' h3 apZ h4
  rw[PZ l ll h1]
  have al:l*2^ll % dj<dj:=Nat.mod_lt _ (by decide)
  rcases NH l ll hl h1 with⟨e,w⟩|⟨e,w1,w2,w3,w4⟩
  ·rw[e,zT (by rfl)]
   refine goal 0 (.inl ⟨rfl,fun k hk=> ?_⟩)
   by_cases A4:k<=base/\k<=128
   ·exact h4 k hk A4.1 A4.2
   ·unfold b8
    by_cases HA:65<=k/\k<=128
    ·rw[if_neg (by omega),if_pos HA]
     exact w _ (by omega)
    ·by_cases hk4:1<=k/\k<=64
     ·omega
     ·rw[if_neg hk4,if_neg HA]
  ·have aaB:ll<64:=by omega
   have apU:=h2 aaB
   rw[zF (by omega)]
   simp only[Bool.not_false,zC]
   rw[za6 _ al,zc,zj (x:=(base:Int)+_) (by omega) (by omega),zj (by omega) (by omega)]
   refine goal _ (.inr ⟨by omega,?_,fun k Tf A4=> ?_⟩)
   ·unfold b8
    rw[if_neg (by omega),if_pos (by omega)]
    have:(128-((base:Int)+((64-gl (l*2^ll % dj):Nat):Int)+1)).toNat=gl (l*2^ll % dj)-1-ll:=by omega
    rw[this];exact w3
   ·by_cases HA:k<=base
    ·exact h4 k Tf HA (by omega)
    ·unfold b8
     rw[if_neg (by omega),if_pos (by omega)]
     exact w4 _ (by omega) (by omega)
 simp only[hm]
 by_cases c1:m<64
 ·rw[zT (by omega),zC,zF (by omega),zD,PZ h m (by omega)]
  have al:h*2^m % dj<dj:=Nat.mod_lt _ (by decide)
  rcases NH h m hh (by omega) with⟨e,w⟩|⟨e,w1,w2,w3,w4⟩
  ·rw[e,zT (by rfl)]
   have:=low 0 64 (by omega) (by omega) (by omega) (by omega) (by omega) (fun k Tf A4 _=>by
    by_cases HA:1<=k
    ·unfold b8
     rw[if_pos (by omega)]
     exact w _ (by omega)
    ·exact mH k (by omega))
   exact this
  ·rw[zF (by omega)]
   simp only[Bool.not_false,zC]
   rw[za6 _ al,zc,zj (x:=(m:Int)+_) (by omega) (by omega),zj (by omega) (by omega)]
   refine goal _ (.inr ⟨by omega,?_,fun k Tf A4=> ?_⟩)
   ·unfold b8
    rw[if_pos (by omega)]
    have:(64-((m:Int)+((64-gl (h*2^m % dj):Nat):Int)+1)).toNat=gl (h*2^m % dj)-1-m:=by omega
    rw[this];exact w3
   ·by_cases HA:1<=k
    ·unfold b8
     rw[if_pos (by omega)]
     exact w4 _ (by omega) (by omega)
    ·exact mH k (by omega)
 ·rw[zF (by omega),zD,zj (x:=(m:Int)-64) (by omega) (by omega)]
  have x6:((m:Int)-64)=((m-64:Nat):Int):=by omega
  obtain⟨ll,hs,C1⟩:∃ll:Nat,(if(64:Int)<(m:Int)-64 then(64:Int) else(m:Int)-64)=(ll:Int)/\ll<=64/\(ll<64->m=64+ll)/\(ll=64->128<=m):=by
   by_cases h0:(64:Int)<(m:Int)-64
   ·exact⟨64,by rw[if_pos h0];rfl,by omega,by omega,by omega⟩
   ·exact⟨m-64,by rw[if_neg h0];omega,by omega,by omega,by omega⟩
  simp only[hs]
  rw[zF (by omega),zD]
  exact low ll m C1.1 C1.2.1 C1.2.2 (by omega) (by omega) (fun k Tf A4 _=>by omega)
theorem Nk(n a:Nat)(h:a<2^n):(BitVec.ofInt n (a:Int)).toNat=a:=by
 rw[BitVec.toNat_ofInt]
 have h2:((a:Int)% ((2^n:Nat):Int))=((a % 2^n:Nat):Int):=by rfl
 rw[h2,Int.toNat_natCast,Nat.mod_eq_of_lt h]
theorem acO{k:IntKind}{a b:Nat}(ha:a<2^k.bits)(hb:b<2^k.bits):aR .or k a b=k.wrap ((a|||b:Nat):Int):=by
 simp only[aR,BitVec.toNat_or,Nk _ _ ha,Nk _ _ hb]
def er(b:List Int):Int:=if b.length<2 then 0 else b.getD 0 0*256+b.getD 1 0
theorem zre{x y:Int}(hx:zm x)(hy:zm y):aR .or .i64 (zW zI (zW zI x*2^min (8:Int).toNat 64)) (zW zI y)=x*256+y:=by
 unfold zm at hx hy
 obtain⟨x,rfl⟩:=Int.eq_ofNat_of_zero_le hx.1
 obtain⟨y,rfl⟩:=Int.eq_ofNat_of_zero_le hy.1
 rw[yG (by omega),yG (by omega)]
 have h1:((x:Int)*(2:Int)^min (8:Int).toNat 64)=((x<<<8:Nat):Int):=by
  rw[Nat.shiftLeft_eq];rfl
 have h3:x<<<8=x*256:=by rw[Nat.shiftLeft_eq]
 rw[h1,yG (by omega),acO (by simp only[IntKind.bits];omega) (by simp only[IntKind.bits];omega),<-Nat.shiftLeft_add_eq_or_of_lt (by omega:y<2^8),h3,yG (by omega)]
 omega
theorem Gh{b:List Int}(hb:∀x∈b,zm x)(i:Nat):zm (b.getD i 0):=by
 rw[List.getD_eq_getElem?_getD]
 cases h:b[i]? with
 |none=>exact⟨by simp,by simp⟩
 |some x=>exact hb x (List.mem_of_getElem? h)
theorem Ud{b:List Int}(hb:∀x∈b,zm x):0<=er b/\er b<=65535:=by
 unfold er
 have h0:=Gh hb 0
 have h1:=Gh hb 1
 unfold zm at h0 h1
 split<;>omega
abbrev Fr:=Int×Bool×List Int×Unit
theorem an9(m:Int)(d:Bool)(b:List Int)(hb:∀x∈b,zm x):Jk (m,d,b,())=some (er b,(m,d,b,())):=by
 unfold Jk YV er
 simp only
 by_cases h:b.length<2
 ·rw[zT (by omega:((b.length:Int)<2)),if_pos h];rfl
 ·rw[zF (by omega:¬((b.length:Int)<2)),if_neg h,zD,zo (by omega) (by omega),zo (by omega) (by omega)]
  exact congrArg some (Prod.ext (zre (Gh hb 0) (Gh hb 1)) rfl)
def aL(m:Int)(st:Bool×List Int×List ByteArray)(c:Int):Bool×List Int×List ByteArray:=
 if st.1=true then st
 else if(st.2.1++ [c]).length=2/\(er (st.2.1++ [c])=0\/m<er (st.2.1++ [c])) then(true,[],st.2.2)
 else if((st.2.1++ [c]).length:Int)=2+er (st.2.1++ [c])/\0<er (st.2.1++ [c]) then(false,[],st.2.2++ [strOf ((st.2.1++ [c]).drop 2)])
 else(false,st.2.1++ [c],st.2.2)
theorem HS(m:Int)(l:List Int)(b:List Int)(o:List ByteArray):l.foldl (aL m) (true,b,o)=(true,b,o):=by
 induction l with
 |nil=>rfl
 |cons c r ih=>rw[List.foldl_cons];have:aL m (true,b,o) c=(true,b,o):=by simp [aL]
               rw[this,ih]
def R8(m:Int)(d:Bool)(r:Bool×List Int×List ByteArray):Sum (List ByteArray×Bool×List ByteArray×Fr) (List ByteArray×Fr):=
 if r.1=true/\d=false then .inl (r.2.2,true,r.2.2,(m,true,[],())) else .inr (r.2.2,(m,r.1,r.2.1,()))
theorem aed(m:Int)(l:List Int):∀(d:Bool) (b:List Int) (o:List ByteArray),d=false->(l.foldl (aL m) (d,b,o)).1=true->(l.foldl (aL m) (d,b,o)).2.1=[]:=by
 induction l with
 |nil=>intro d b o hd h;subst hd;cases h
 |cons c r ih=>
  intro d b o hd h
  subst hd
  rw[List.foldl_cons] at h⊢
  generalize bQ:aL m (false,b,o) c=st at h⊢
  obtain⟨d',b',o'⟩:=st
  cases d' with
  |false=>exact ih false b' o' rfl h
  |true=>
   rw[HS]
   unfold aL at bQ
   simp only[Bool.false_eq_true,if_false] at bQ
   split at bQ
   ·cases bQ;rfl
   ·split at bQ<;>cases bQ
theorem MT(s:ByteArray)(m:Int):∀(n j k:Nat) (o:List ByteArray) (d:Bool) (b:List Int),j+n=(bl s).length->n<k->(∀x∈b,zm x)->b.length+n<=4398046511104->o.length+n<=4398046511104->(bl s).length<=4398046511104->
 G8 k s o j (m,d,b,())=some (R8 m d (((bl s).drop j).foldl (aL m) (d,b,o)))
 |0,j,k,o,d,b,hj,hk,hb,h1,h2,h3=>by
  obtain⟨k,rfl⟩:∃k',k=k'+1:=⟨k-1,by omega⟩
  rw[G8,Sq]
  have al:¬((j:Int)<(s.size:Int)):=by rw[<-zg];omega
  rw[zF al,List.drop_eq_nil_of_le (by omega)]
  cases d<;>rfl
 |n+1,j,k,o,d,b,hj,hk,hb,h1,h2,h3=>by
  obtain⟨k,rfl⟩:∃k',k=k'+1:=⟨k-1,by omega⟩
  rw[G8,Sq]
  have al:j<(bl s).length:=by omega
  have gG:((j:Int)<(s.size:Int)):=by rw[<-zg];omega
  rw[zT gG,zC,List.drop_eq_getElem_cons al,List.foldl_cons]
  cases d with
  |true=>
   have hs:aL m (true,b,o) (bl s)[j]=(true,b,o):=by simp [aL]
   rw[hs,HS]
   simp [R8]
  |false=>
   have hc:ze s ((j:Int)).toNat=(bl s)[j]:=by
    rw[mc,Int.toNat_natCast,List.getD_eq_getElem?_getD,List.getElem?_eq_getElem al];rfl
   have hbc:zm (bl s)[j]:=j8 (List.getElem_mem al)
   generalize hcv:(bl s)[j]=c at hc hbc
   rw[hc]
   have si:∀x∈b++ [c],zm x:=fun x hx=>by
    rcases List.mem_append.1 hx with h|h
    ·exact hb x h
    ·simp at h;subst h;exact hbc
   have c9:=an9 m false (b++ [c]) si
   have hr:=Ud si
   have hw:zW zI ((2:Int)+er (b++ [c]))=2+er (b++ [c]):=zj (by omega) (by omega)
   have hjw:zW zI ((j:Int)+1)=((j+1:Nat):Int):=zv (by omega)
   have hl:(b++ [c]).length=b.length+1:=by simp
   rw[zi (by rw[<-zg];exact al)]
   simp only[Bool.not_false,zC]
   rw[zT (by simp;omega),zC,c9]
   simp only[zc,hw,hjw]
   generalize hn:er (b++ [c])=z at hr hw
   have ih:=fun o d b=>MT s m n (j+1) k o d b (by omega) (by omega)
   have Tc:aL m (false,b,o) c=if(b++ [c]).length=2/\(z=0\/m<z) then(true,[],o) else if((b++ [c]).length:Int)=2+z/\0<z then(false,[],o++ [strOf ((b++ [c]).drop 2)]) else(false,b++ [c],o):=by
    unfold aL;simp only[Bool.false_eq_true,if_false,hn]
   have dead:∀(l:List Int),R8 m false (l.foldl (aL m) (true,[],o))= .inl (o,true,o,(m,true,[],())):=fun l=>by rw[HS];simp [R8]
   have CS:=ih o false (b++ [c]) si (by rw[hl];omega) (by omega) h3
   have aam:=ih (o++ [strOf ((b++ [c]).drop 2)]) false [] (by simp) (by simp;omega) (by simp;omega) h3
   have Lb:List.drop ((2:Int)).toNat (List.take (b++ [c]).length (b++ [c]))=(b++ [c]).drop 2:=by rw[List.take_length];rfl
   simp only[Lb]
   have aaq:∀(x:Option (Sum (List ByteArray×Bool×List ByteArray×Fr) (List ByteArray×Fr))),(bif decide (((o.length+ [strOf ((b++ [c]).drop 2)].length)*16:Nat)<=140737488355328) then x else none)=x:=fun x=>by
    rw[zT (by simp;omega)];rfl
   by_cases c1:(b++ [c]).length=2
   ·by_cases c2:z=0
    ·rw[Tc,if_pos ⟨c1,.inl c2⟩,dead]
     simp [c1,c2]
    ·by_cases c3:m<z
     ·rw[Tc,if_pos ⟨c1,.inr c3⟩,dead]
      simp [c1,c2,c3]
     ·rw[Tc,if_neg (by simp [c2,c3])]
      have c4:¬(((b++ [c]).length:Int)=2+z):=by omega
      rw[if_neg (fun h=>c4 h.1),<-CS]
      have c1':(((b++ [c]).length:Int)=2):=by omega
      rw[zT c1',zF c2,zF c3,zF c4]
      rfl
   ·have c1':¬(((b++ [c]).length:Int)=2):=by omega
    rw[Tc,if_neg (fun h=>c1 h.1),zF c1']
    by_cases c4:((b++ [c]).length:Int)=2+z
    ·by_cases c5:0<z
     ·rw[if_pos ⟨c4,c5⟩,<-aam,zT c4,zT c5,zT (by omega:(2:Int)<=(((b++ [c]).length:Nat):Int))]
      simp only[zC,zD]
      rw[aaq]
     ·rw[if_neg (fun h=>c5 h.2),<-CS,zT c4,zF c5]
      rfl
    ·rw[if_neg (fun h=>c4 h.1),<-CS,zF c4]
     rfl
def feed(f:Fr)(s:List Int):List ByteArray×Bool×Fr:=
 ((s.foldl (aL f.1) (f.2.1,f.2.2.1,[])).2.2,decide ((s.foldl (aL f.1) (f.2.1,f.2.2.1,[])).1=true/\f.2.1=false),(f.1,(s.foldl (aL f.1) (f.2.1,f.2.2.1,[])).1,(s.foldl (aL f.1) (f.2.1,f.2.2.1,[])).2.1,()))
theorem anR(f:Fr)(s:ByteArray)(hb:∀x∈f.2.2.1,zm x)(h1:f.2.2.1.length+s.size<=4398046511104):Ce f s=some (feed f (bl s)):=by
 obtain⟨m,d,b,u⟩:=f
 cases u
 unfold Ce YS
 simp only at hb h1⊢
 have:=MT s m (bl s).length 0 af [] d b (by omega) (by rw[zu,zg];omega) hb (by rw[zg];omega) (by simp;rw[zg];omega) (by rw[zg];omega)
 rw[show((0:Nat):Int)=0 from rfl] at this
 rw[this,zc,List.drop_zero]
 unfold R8 feed
 simp only
 split
 ·rename_i h
  obtain⟨h4,h5⟩:=h
  subst h5
  have h3:=aed m (bl s) false b [] rfl h4
  simp [Sum.elim_inl,YT,h3,h4]
 ·rename_i h
  simp only[Sum.elim_inr,YU]
  rw[zF h]
section
variable {α:Type} [DecidableEq α]
end
def fK(m:Int)(pos:Int)(l:List Int):List ByteArray×List Int×List Int×Int:=
 if h:l.length<2 then([],l,[],-1)
 else if er l=0\/m<er l then([],[],[],pos+2)
 else if(l.length:Int)-2<er l then([],l,[],-1)
 else
  let r:=fK m (pos+2+er l) (l.drop (2+(er l).toNat))
  (strOf ((l.drop 2).take (er l).toNat)::r.1,r.2.1,(pos+2+er l)::r.2.2.1,r.2.2.2)
termination_by l.length
decreasing_by simp only[List.length_drop];omega
def SQ(e:Sum (ByteArray×(List ByteArray)×Int×(List Int)×Int×(List ByteArray)×(List Int)×Int) (ByteArray×(List ByteArray)×(List Int)×Int)):Option ((List ByteArray)×Int×(List Int)×Int):=
 Sum.elim (fun we=>some (we.2.1,we.2.2.1,we.2.2.2.1,we.2.2.2.2.1)) (fun we=>some (we.2.1,zW zI ((we.1.size:Int)-we.2.2.2),we.2.2.1,-1)) e
theorem MK(l:List Int)(j i:Nat):(l.drop j).getD i 0=l.getD (j+i) 0:=by
 simp [List.getD_eq_getElem?_getD,List.getElem?_drop]
theorem alK(m:Int)(s:ByteArray)(hs:(bl s).length<=1099511627776):∀(n j k:Nat) (o:List ByteArray) (e:List Int),(bl s).length-j<=n->j<=(bl s).length->n<k->o.length+n<=2199023255552->e.length+n<=2199023255552->
 (H8 k m s o e j).bind SQ=some (o++(fK m j ((bl s).drop j)).1,((fK m j ((bl s).drop j)).2.1.length:Int),e++(fK m j ((bl s).drop j)).2.2.1,(fK m j ((bl s).drop j)).2.2.2):=by
 intro n
 induction n using Nat.strongRecOn with
 |_ n ih=>
 intro j k o e hn hj hk ho he
 obtain⟨k,rfl⟩:∃k',k=k'+1:=⟨k-1,by omega⟩
 rw[H8,Vx]
 have c9:s.size=(bl s).length:=(zg s).symm
 generalize hl:(bl s).drop j=l
 have HB:l.length=(bl s).length-j:=by rw[<-hl,List.length_drop]
 have x6:zW zI ((s.size:Int)-(j:Int))=((l.length:Nat):Int):=by
  rw[c9,HB,zj (by omega) (by omega)];omega
 rw[x6,fK]
 by_cases c0:l.length<2
 ·rw[zF (by omega:¬((2:Int)<=(l.length:Int))),dif_pos c0]
  simp only[zD,zc,SQ,Sum.elim_inr]
  rw[x6]
  simp
 rw[zT (by omega:((2:Int)<=(l.length:Int))),zC,dif_neg c0]
 have hx:ze s ((j:Int)).toNat=l.getD 0 0:=by rw[mc,<-hl,MK];simp
 have hj1:zW zI ((j:Int)+1)=((j+1:Nat):Int):=zv (by omega)
 have hj2:zW zI ((j:Int)+2)=((j+2:Nat):Int):=by rw[zj (by omega) (by omega)];omega
 have hy:ze s (((j+1:Nat):Int)).toNat=l.getD 1 0:=by rw[mc,<-hl,MK];simp
 have Th:∀x∈l,zm x:=fun x hx=>j8 (List.mem_of_mem_drop (by rw[hl];exact hx))
 have bx:=Gh Th 0
 have b_y:=Gh Th 1
 have hz:=Ud Th
 have hzz:er l=l.getD 0 0*256+l.getD 1 0:=by unfold er;rw[if_neg c0]
 unfold zm at bx b_y
 have w1:zW zI (l.getD 0 0)=l.getD 0 0:=zj (by omega) (by omega)
 have w2:zW zI (l.getD 1 0)=l.getD 1 0:=zj (by omega) (by omega)
 have w3:zW zI (l.getD 0 0*256)=l.getD 0 0*256:=zj (by omega) (by omega)
 have w4:zW zI (l.getD 0 0*256+l.getD 1 0)=er l:=by rw[<-hzz];exact zj (by omega) (by omega)
 generalize er l=z at*
 have w5:zW zI (((j+2:Nat):Int)+z)=((j+2+z.toNat:Nat):Int):=by rw[zj (by omega) (by omega)];omega
 have w6:zW zI (((l.length:Nat):Int)-2)=(l.length:Int)-2:=zj (by omega) (by omega)
 simp only[hj1,hj2,hx,hy,w1,w2,w3,w4,w5,w6]
 rw[zi (by omega),zi (by omega)]
 by_cases c1:z=0
 ·rw[zT c1,if_pos (.inl c1)]
  simp [SQ]
 rw[zF c1,zD]
 by_cases c2:m<z
 ·rw[zT c2,if_pos (.inr c2)]
  simp [SQ]
 rw[zF c2,if_neg (by simp [c1,c2]),zD]
 by_cases c3:(l.length:Int)-2<z
 ·rw[zT c3,if_pos c3]
  simp [SQ,x6]
 rw[zF c3,if_neg c3]
 simp only[zD]
 rw[zT (by omega:(0:Int)<=((j+2+z.toNat:Nat):Int)),zT (by omega:((j+2+z.toNat:Nat):Int)<=((s.size:Nat):Int)),zT (by omega:(0:Int)<=((j+2:Nat):Int))]
 simp only[zC,Int.toNat_natCast]
 rw[zT (by omega:((j+2:Nat):Int)<=((j+2+z.toNat:Nat):Int)),zT (by simp;omega),zT (by simp;omega)]
 simp only[zC]
 have bQ:s.extract (j+2) (j+2+z.toNat)=strOf ((l.drop 2).take z.toNat):=by
  apply wy
  rw[z21 (fun x hx=>Th x (List.mem_of_mem_drop (List.mem_of_mem_take hx))),sD,<-hl,List.drop_drop,List.drop_take]
  congr 1
  omega
 have:=ih (n-(2+z.toNat)) (by omega) (j+2+z.toNat) k (o++ [s.extract (j+2) (j+2+z.toNat)]) (e++ [((j+2+z.toNat:Nat):Int)]) (by omega) (by omega) (by omega) (by simp;omega) (by simp;omega)
 rw[this,bQ]
 have hd:(bl s).drop (j+2+z.toNat)=l.drop (2+z.toNat):=by rw[<-hl,List.drop_drop];congr 1;omega
 rw[hd]
 have hp:((j+2+z.toNat:Nat):Int)=(j:Int)+2+z:=by omega
 rw[hp]
 simp
theorem zrh(m:Int)(s:ByteArray)(hs:s.size<=1099511627776):tL m s=some ((fK m 0 (bl s)).1,((fK m 0 (bl s)).2.1.length:Int),(fK m 0 (bl s)).2.2.1,(fK m 0 (bl s)).2.2.2):=by
 have:=alK m s (by rw[zg];exact hs) (bl s).length 0 af [] [] (by omega) (by omega) (by rw[zu,zg];omega) (by simp;rw[zg];omega) (by simp;rw[zg];omega)
 unfold tL Vw
 rw[show((0:Nat):Int)=0 from rfl] at this
 simp only[List.drop_zero,List.nil_append] at this
 exact this
end bj

namespace bj
open Go.IntKind renaming wrap->zW,i64->zI,u8->zU
open Go Go.Ref
theorem akY{l:List Int}{j:Nat}(h:j<l.length):l.getD ((j:Int)).toNat 0=l[j]:=by
 rw[Int.toNat_natCast,List.getD_eq_getElem?_getD,List.getElem?_eq_getElem h];rfl
theorem ahs(l:List Int)(n:Int)(hl:l.length<=maxLen):∀(m j k:Nat),j+m=l.length->m<k->
 Hb k l n j=some (if n∈l.drop j then .inl true else .inr ()):=by
 intro m
 rw[zh] at hl
 induction m with
 |zero=>
  intro j k hj hk
  obtain⟨k,rfl⟩:∃k',k=k'+1:=⟨k-1,by omega⟩
  rw[Hb,Sx,zF (by omega),List.drop_eq_nil_of_le (by omega)];simp
 |succ m ih=>
  intro j k hj hk
  obtain⟨k,rfl⟩:∃k',k=k'+1:=⟨k-1,by omega⟩
  have al:j<l.length:=by omega
  rw[Hb,Sx,zT (by omega),zC,zi al,akY al,zv (by omega),List.drop_eq_getElem_cons al]
  by_cases h:l[j]=n
  ·rw[zT h,if_pos (by rw[h];simp)];rfl
  ·rw[zF h,zD,ih (j+1) k (by omega) (by omega)]
   have:n≠l[j]:=fun e=>h e.symm
   simp only[List.mem_cons,this,false_or]
theorem al3(l:List Int)(n:Int)(hl:l.length<=maxLen):JE l n=some (decide (n∈l)):=by
 unfold JE Zs
 dsimp only
 have:=ahs l n hl l.length 0 af (by omega) (by rw[zu];rw[zh] at hl;omega)
 rw[show((0:Nat):Int)=0 from rfl,List.drop_zero] at this
 rw[this,zc]
 by_cases h:n∈l
 ·rw[if_pos h,zT h];rfl
 ·rw[if_neg h,zF h];rfl
theorem als:pk.length=128:=by unfold pk;simp
abbrev Spec:=Int×Int×Int×Int×Int×Unit
abbrev zf:=Int×Int×List Spec×Unit
abbrev di:Spec:=(0,0,0,0,0,())
theorem XB(c:Int):yS c=some (if c=1 then 1 else if c=2 then 2 else if c=3 then 3 else if c=4 then 7 else if c=5 then 15 else if c=6 then 15 else 0):=by
 unfold yS Yk
 simp only[anB]
 repeat' split
 all_goals rfl
theorem zpg(c:Int):Cc c=some (decide (1<=c/\c<=6)):=by
 unfold Cc Yb
 rw[XB,zc]
 congr 1
 by_cases h1:c=1
 ·subst h1;rfl
 by_cases h2:c=2
 ·subst h2;rfl
 by_cases h3:c=3
 ·subst h3;rfl
 by_cases h4:c=4
 ·subst h4;rfl
 by_cases h5:c=5
 ·subst h5;rfl
 by_cases h6:c=6
 ·subst h6;rfl
 rw[if_neg h1,if_neg h2,if_neg h3,if_neg h4,if_neg h5,if_neg h6,zF (p:=1<=c/\c<=6) (by omega)]
 rfl
theorem IJ:rK 2=some 99:=by kernel_rfl
theorem IK:rK 3=some 999:=by kernel_rfl
def bN(s:Spec):Int:=
 if s.1<2\/128<s.1 then 1 else if s.2.1<1\/6<s.2.1 then 6 else if s.2.2.1<1\/3<s.2.2.1 then 3
 else if s.2.2.2.1<1\/s.2.2.2.2.1<s.2.2.2.1\/(s.2.2.1=2/\99<s.2.2.2.2.1)\/999<s.2.2.2.2.1\/(s.2.2.1=1/\¬s.2.2.2.1=s.2.2.2.2.1) then 5
 else if s.2.2.1=1/\s.2.1=6 then 13 else 0
theorem QK(s:Spec):mi s=some (bN s):=by
 obtain⟨no,c,f,mn,mx,u⟩:=s
 unfold mi WD bN
 simp only[zpg,zc]
 by_cases h1:no<2\/128<no
 ·rw[if_pos h1]
  rcases h1 with h|h
  ·rw[zT h];rfl
  ·rw[zT h];cases decide (no<2)<;>rfl
 rw[if_neg h1,zF (by omega),zF (by omega)]
 by_cases h2:c<1\/6<c
 ·rw[if_pos h2,zF (p:=1<=c/\c<=6) (by omega)];rfl
 rw[if_neg h2,zT (p:=1<=c/\c<=6) (by omega)]
 simp only[zD,Bool.not_true]
 by_cases h3:f<1\/3<f
 ·rw[if_pos h3]
  rcases h3 with h|h
  ·rw[zT h];rfl
  ·rw[zT h];cases decide (f<1)<;>rfl
 rw[if_neg h3,zF (by omega),zF (by omega)]
 simp only[zD]
 by_cases h4:mn<1\/mx<mn\/999<mx
 ·rw[if_pos (by omega)]
  by_cases a:mn<1
  ·rw[zT a];rfl
  rw[zF a]
  by_cases b:mx<mn
  ·rw[zT b];rfl
  rw[zF b,zT (by omega)];rfl
 rw[zF (by omega),zF (by omega),zF (by omega)]
 simp only[zD]
 by_cases f1:f=1
 ·rw[zT f1]
  simp only[zC,Bool.not_true,zD]
  by_cases e:mn=mx
  ·rw[zT e,if_neg (by omega)]
   by_cases e6:c=6
   ·rw[zT e6,if_pos (by omega)];rfl
   ·rw[zF e6,if_neg (by omega)];rfl
  ·rw[zF e,if_pos (by omega)];rfl
 ·rw[zF f1]
  simp only[zD,Bool.not_false,zC]
  by_cases f2:f=2
  ·subst f2
   rw[IJ,zc]
   by_cases h:99<mx
   ·rw[zT h,if_pos (by omega)];rfl
   ·rw[zF h,if_neg (by omega),if_neg (by omega)];rfl
  ·have f3:f=3:=by omega
   subst f3
   rw[IK,zc,zF (by omega),if_neg (by omega),if_neg (by omega)];rfl
theorem vV(s:Spec):zK s=some (bN s):=by
 obtain⟨no,c,f,mn,mx,u⟩:=s
 unfold zK Zw bN
 simp only
 by_cases h1:no<2\/128<no
 ·rw[if_pos h1]
  rcases h1 with h|h
  ·rw[zT h];rfl
  ·rw[zT h];cases decide (no<2)<;>rfl
 rw[if_neg h1,zF (by omega),zF (by omega)]
 by_cases h2:c<1\/6<c
 ·rw[if_pos h2]
  rcases h2 with h|h
  ·rw[zT h];rfl
  ·rw[zT h];cases decide (c<1)<;>rfl
 rw[if_neg h2,zF (by omega),zF (by omega)]
 by_cases h3:f<1\/3<f
 ·rw[if_pos h3]
  rcases h3 with h|h
  ·rw[zT h];rfl
  ·rw[zT h];cases decide (f<1)<;>rfl
 rw[if_neg h3,zF (by omega),zF (by omega)]
 simp only[zD]
 by_cases f1:f=1
 ·rw[zT f1,zF (by omega:¬f=2)]
  simp only[zC,zD]
  by_cases a:mn<1
  ·rw[zT a,if_pos (by omega)];rfl
  rw[zF a]
  by_cases b:mx<mn
  ·rw[zT b,if_pos (by omega)];rfl
  rw[zF b]
  by_cases d:999<mx
  ·rw[zT d,if_pos (by omega)];rfl
  rw[zF d]
  by_cases e:mn=mx
  ·rw[zT e,if_neg (by omega)]
   by_cases e6:c=6
   ·rw[zT e6,if_pos (by omega)];rfl
   ·rw[zF e6,if_neg (by omega)];rfl
  ·rw[zF e,if_pos (by omega)];rfl
 ·rw[zF f1]
  simp only[zD]
  by_cases f2:f=2
  ·rw[zT f2]
   simp only[zC]
   by_cases a:mn<1
   ·rw[zT a,if_pos (by omega)];rfl
   rw[zF a]
   by_cases b:mx<mn
   ·rw[zT b,if_pos (by omega)];rfl
   rw[zF b]
   by_cases d:99<mx
   ·rw[zT d,if_pos (by omega)];rfl
   rw[zF d,if_neg (by omega),if_neg (by omega)];rfl
  ·rw[zF f2]
   simp only[zD]
   by_cases a:mn<1
   ·rw[zT a,if_pos (by omega)];rfl
   rw[zF a]
   by_cases b:mx<mn
   ·rw[zT b,if_pos (by omega)];rfl
   rw[zF b]
   by_cases d:999<mx
   ·rw[zT d,if_pos (by omega)];rfl
   rw[zF d,if_neg (by omega),if_neg (by omega)];rfl
def iP:List Spec->Int->Int->Int×Int
 | [],_,_=>(0,0)
 |x::r,i,last=>if bN x≠0 then(bN x,i) else if x.1<=last then(11,i) else iP r (i+1) x.1
def iM(s:zf):Int×Int:=
 if¬(s.1=1\/s.1=2) then(1,-1) else if s.2.1<0\/9<s.2.1 then(7,-1) else iP s.2.2.1 0 0
theorem Uv{x:Spec}(h:bN x=0):2<=x.1/\x.1<=128:=by
 unfold bN at h
 split at h
 ·cases h
 ·omega
def aae(e:Sum (Int×Int) Unit):Option (Int×Int):=Sum.elim (fun we=>some (we.1,we.2)) (fun _=>some (0,0)) e
theorem MS(l:List Spec):∀(i:Int) (last:Int),aae (if(iP l i last).1=0 then .inr () else .inl (iP l i last))=some (iP l i last):=by
 intro i last
 by_cases h:(iP l i last).1=0
 ·rw[if_pos h]
  have:iP l i last=(0,0):=by
   induction l generalizing i last with
   |nil=>rfl
   |cons x r ih=>
    unfold iP at h⊢
    split
    ·rename_i h1;rw[if_pos h1] at h;exact absurd h h1
    ·rename_i h1
     rw[if_neg h1] at h
     split
     ·rename_i h2;rw[if_pos h2] at h;cases h
     ·rename_i h2;rw[if_neg h2] at h;exact ih _ _ h
  rw[this];rfl
 ·rw[if_neg h];rfl
theorem acC(s:zf)(hl:s.2.2.1.length<=maxLen):yI af 0 0 s=some (if(iP s.2.2.1 0 0).1=0 then .inr () else .inl (iP s.2.2.1 0 0)):=by
 have h:=Bn di s.2.2.1 hl (fun i x (last:Int) K=>if bN x≠0 then some (.inl (bN x,i)) else if x.1<=last then some (.inl (11,i)) else K x.1) (fun _=>some (.inr ())) (fun k i last=>yI k last i s)
  (fun k i last h0 h1=>by
    rw[yI,SD,zT h1]
    simp only[zC,zo h0 h1,vV,zc]
    by_cases hc:bN (s.2.2.1.getD i.toNat di)=0
    ·rw[zT hc,if_neg (fun h=>h hc)]
     simp only[Bool.not_true,zD]
     by_cases hn:(s.2.2.1.getD i.toNat di).1<=last
     ·rw[zT hn,if_pos hn];rfl
     ·rw[zF hn,if_neg hn];rfl
    ·rw[zF hc,if_pos hc];rfl)
  (fun k last=>by rw[yI,SD,zF (by omega)];rfl) 0
 rw[h]
 clear h hl
 generalize s.2.2.1=l
 suffices∀(i last:Int),bB (fun i (x:Spec) (last:Int) K=>if bN x≠0 then some (Sum.inl (bN x,i)) else if x.1<=last then some (.inl (11,i)) else K x.1) (fun _=>some (.inr ())) l i last=some (if(iP l i last).1=0 then(.inr ():Sum (Int×Int) Unit) else .inl (iP l i last)) from this 0 0
 induction l with
 |nil=>intro i last;rfl
 |cons x r ih=>
  intro i last
  rw[bB,iP]
  by_cases hc:bN x≠0
  ·rw[if_pos hc,if_pos hc,if_neg hc]
  ·rw[if_neg hc,if_neg hc]
   by_cases hn:x.1<=last
   ·rw[if_pos hn,if_pos hn];rfl
   ·rw[if_neg hn,if_neg hn];exact ih _ _
theorem adF(s:zf)(hl:s.2.2.1.length<=maxLen):JO s=some (iM s):=by
 unfold JO IA iM
 have hx:=MS s.2.2.1 0 0
 have uP:(yI af 0 0 s).bind (fun e=>Sum.elim (fun(we:Int×Int)=>Zy we.1 we.2 fun a0 a1=>some (a0,a1)) (fun(we:Unit)=>Zz fun a0 a1=>some (a0,a1)) e)=some (iP s.2.2.1 0 0):=by
  rw[acC s hl,zc];exact hx
 dsimp only
 rw[uP]
 by_cases h1:s.1=1
 ·rw[zT h1,if_neg (by omega)]
  by_cases h2:s.2.1<0
  ·rw[zT h2,if_pos (.inl h2)];rfl
  ·rw[zF h2]
   by_cases h3:9<s.2.1
   ·rw[zT h3,if_pos (.inr h3)];rfl
   ·rw[zF h3,if_neg (by omega)];rfl
 ·rw[zF h1]
  by_cases h0:s.1=2
  ·rw[zT h0,if_neg (by omega)]
   by_cases h2:s.2.1<0
   ·rw[zT h2,if_pos (.inl h2)];rfl
   ·rw[zF h2]
    by_cases h3:9<s.2.1
    ·rw[zT h3,if_pos (.inr h3)];rfl
    ·rw[zF h3,if_neg (by omega)];rfl
  ·rw[zF h0,if_pos (by omega)];rfl
theorem ahr{l:List Spec}{j:Nat}(h:j<l.length):l.getD ((j:Int)).toNat ((0:Int),(0:Int),(0:Int),(0:Int),(0:Int),())=l[j]:=by
 rw[Int.toNat_natCast,List.getD_eq_getElem?_getD,List.getElem?_eq_getElem h];rfl
theorem iy(s:zf)(hl:s.2.2.1.length<=9223372036854775807):∀(m j k:Nat) (last:Int),j+m=s.2.2.1.length->m<k->(j=0->last=0)->(∀h:0<j,last=(s.2.2.1.getD (j-1) di).1)->
 BT k s.2.2.1 (s.2.2.1.length:Int) j s=some (if(iP (s.2.2.1.drop j) j last).1=0 then .inr () else .inl (iP (s.2.2.1.drop j) j last)):=by
 intro m
 induction m with
 |zero=>
  intro j k last hj hk h0 h1
  obtain⟨k,rfl⟩:∃k',k=k'+1:=⟨k-1,by omega⟩
  rw[BT,RQ,zF (by omega),List.drop_eq_nil_of_le (by omega)];rfl
 |succ m ih=>
  intro j k last hj hk h0 h1
  obtain⟨k,rfl⟩:∃k',k=k'+1:=⟨k-1,by omega⟩
  have al:j<s.2.2.1.length:=by omega
  have ihj:=ih (j+1) k (s.2.2.1[j]).1 (by omega) (by omega) (by omega) (fun _=>by
   rw[Nat.add_sub_cancel,List.getD_eq_getElem?_getD,List.getElem?_eq_getElem al];rfl)
  rw[BT,RQ,zT (by omega),zC,zi al,ahr al,QK,zc,zv (by omega),List.drop_eq_getElem_cons al]
  rw[show((j+1:Nat):Int)=(j:Int)+1 from rfl] at ihj⊢
  by_cases hc:bN s.2.2.1[j]=0
  ·rw[zT hc]
   simp only[Bool.not_true,zD]
   have og:=Uv hc
   by_cases hz:j=0
   ·have nG:=h0 hz
    have e:iP (s.2.2.1[j]::s.2.2.1.drop (j+1)) j last=iP (s.2.2.1.drop (j+1)) ((j:Int)+1) (s.2.2.1[j]).1:=by
     rw[iP,if_neg (fun h=>h hc),if_neg (by omega)]
    rw[zF (by omega),zD,e]
    exact ihj
   ·have nG:=h1 (by omega)
    have hi:zW zI ((j:Int)-1)=((j-1:Nat):Int):=by rw[zj (by omega) (by omega)];omega
    rw[zT (by omega),zC,hi,zi (by omega),Int.toNat_natCast]
    by_cases hn:(s.2.2.1[j]).1<=last
    ·have e:iP (s.2.2.1[j]::s.2.2.1.drop (j+1)) j last=(11,(j:Int)):=by
      rw[iP,if_neg (fun h=>h hc),if_pos hn]
     rw[e,zT (by rw[<-nG];exact hn)];rfl
    ·have e:iP (s.2.2.1[j]::s.2.2.1.drop (j+1)) j last=iP (s.2.2.1.drop (j+1)) ((j:Int)+1) (s.2.2.1[j]).1:=by
      rw[iP,if_neg (fun h=>h hc),if_neg hn]
     rw[e,zF (by rw[<-nG];exact hn)]
     exact ihj
  ·have e:iP (s.2.2.1[j]::s.2.2.1.drop (j+1)) j last=(bN s.2.2.1[j],(j:Int)):=by
    rw[iP,if_pos hc]
   rw[zF hc,e,if_neg hc];rfl
theorem Re(s:zf)(hl:s.2.2.1.length<=maxLen):nj s=some (iM s):=by
 rw[zh] at hl
 unfold nj Ib iM
 have hx:=MS s.2.2.1 0 0
 have Ll:=iy s hl s.2.2.1.length 0 af 0 (by omega) (by rw[zu];omega) (fun _=>rfl) (fun h=>absurd h (by omega))
 rw[List.drop_zero,show((0:Nat):Int)=0 from rfl] at Ll
 have uP:(BT af s.2.2.1 (s.2.2.1.length:Int) 0 s).bind (fun e=>Sum.elim (fun(we:Int×Int)=>Wr we.1 we.2 fun a0 a1=>some (a0,a1)) (fun(we:Unit)=>Ws fun a0 a1=>some (a0,a1)) e)=some (iP s.2.2.1 0 0):=by
  rw[Ll,zc];exact hx
 dsimp only
 rw[uP]
 by_cases h1:s.1=1
 ·rw[zT h1,if_neg (by omega)]
  by_cases h2:s.2.1<0
  ·rw[zT h2,if_pos (.inl h2)];rfl
  ·rw[zF h2]
   by_cases h3:9<s.2.1
   ·rw[zT h3,if_pos (.inr h3)];rfl
   ·rw[zF h3,if_neg (by omega)];rfl
 ·rw[zF h1]
  by_cases h0:s.1=2
  ·rw[zT h0,if_neg (by omega)]
   by_cases h2:s.2.1<0
   ·rw[zT h2,if_pos (.inl h2)];rfl
   ·rw[zF h2]
    by_cases h3:9<s.2.1
    ·rw[zT h3,if_pos (.inr h3)];rfl
    ·rw[zF h3,if_neg (by omega)];rfl
  ·rw[zF h0,if_pos (by omega)];rfl
def gE(l:List Spec)(no:Int):Option Spec:=l.find? fun x=>decide (x.1=no)
def fG:List Spec->Int->Int->Int
 | [],_,_=> -1
 |x::r,no,i=>if x.1=no then i else fG r no (i+1)
theorem al1(s:zf)(no:Int)(hl:s.2.2.1.length<=maxLen):gn s no=some (match gE s.2.2.1 no with|some x=>(x,true)|none=>(di,false)):=by
 unfold gn Wu gE
 dsimp only
 have h:=cD di s.2.2.1 hl (fun i x (_:Unit) K=>bif decide (x.1=no) then some (Sum.inl (true,x)) else K ()) (fun _=>some (.inr di)) (fun k i _=>RR k no s.2.2.1 (s.2.2.1.length:Int) i di) (fun k i _=>rfl) ()
 rw[h,]
 clear h hl
 generalize(0:Int)=i
 generalize s.2.2.1=l
 induction l generalizing i with
 |nil=>rfl
 |cons x r ih=>
  rw[bB,List.find?_cons]
  cases hx:decide (x.1=no) with
  |true=>rfl
  |false=>exact ih (i+1)
theorem aeg(l:List Spec)(no:Int):∀i:Int,0<=i->(fG l no i= -1/\gE l no=none)\/(i<=fG l no i/\fG l no i<i+l.length/\∃x,gE l no=some x/\l.getD (fG l no i-i).toNat di=x):=by
 induction l with
 |nil=>intro i hi;left;exact⟨rfl,rfl⟩
 |cons x r ih=>
  intro i hi
  unfold fG gE
  by_cases h:x.1=no
  ·right
   rw[if_pos h,List.find?_cons,zT h]
   refine⟨by omega,by simp;omega,x,rfl,by simp⟩
  ·rw[if_neg h,List.find?_cons,zF h]
   rcases ih (i+1) (by omega) with⟨h1,h2⟩|⟨h1,h2,y,h3,h4⟩
   ·left;exact⟨h1,h2⟩
   ·right
    refine⟨by omega,by simp;omega,y,h3,?_⟩
    have:(fG r no (i+1)-i).toNat=(fG r no (i+1)-(i+1)).toNat+1:=by omega
    rw[this]
    simpa using h4
theorem TV(s:zf)(no:Int)(hl:s.2.2.1.length<=maxLen):zM s no=some (fG s.2.2.1 no 0):=by
 unfold zM ZC
 dsimp only
 have h:=cD di s.2.2.1 hl (fun i x (_:Unit) K=>bif decide (x.1=no) then some (Sum.inl i) else K ()) (fun _=>some (.inr ())) (fun k i _=>SE k no i s) (fun k i _=>rfl) ()
 rw[h]
 clear h hl
 generalize(0:Int)=i
 generalize s.2.2.1=l
 induction l generalizing i with
 |nil=>rfl
 |cons x r ih=>
  rw[bB,fG]
  by_cases hx:x.1=no
  ·rw[zT hx,if_pos hx];rfl
  ·rw[zF hx,if_neg hx];exact ih (i+1)
theorem M0(n:Int):b8 0 0 n=false:=by unfold b8;simp
theorem aew{a b:zf}:a=b↔a.1=b.1/\a.2.1=b.2.1/\a.2.2.1=b.2.2.1:=by
 obtain⟨x,y,z,u⟩:=a
 obtain⟨x',y',z',u'⟩:=b
 simp
instance:DecidableEq zf:=fun a b=>decidable_of_iff _ aew.symm
theorem aeN(s:zf)(h:s.2.2.1.length<=1000000):JP s=some s:=by
 unfold JP ZA
 rw[zT (by simp;omega)];rfl
def HZ(l:List Spec)(last:Int):Prop:=(∀x∈l,bN x=0)/\(l.Pairwise fun x y=>x.1<y.1)/\∀x∈l,last<x.1
theorem aia(l:List Spec):∀(i last:Int),(iP l i last).1=0↔HZ l last:=by
 induction l with
 |nil=>intro i last;simp [iP,HZ]
 |cons x r ih=>
  intro i last
  unfold iP
  by_cases hc:bN x=0
  ·rw[if_neg (fun h=>h hc)]
   by_cases hn:x.1<=last
   ·rw[if_pos hn]
    constructor
    ·intro h;cases h
    ·intro⟨_,_,h3⟩;have:=h3 x (by simp);omega
   ·rw[if_neg hn,ih]
    constructor
    ·intro⟨h1,h2,h3⟩
     refine⟨fun y hy=> ?_,List.pairwise_cons.2 ⟨h3,h2⟩,fun y hy=> ?_⟩
     ·rcases List.mem_cons.1 hy with rfl|hy
      ·exact hc
      ·exact h1 y hy
     ·rcases List.mem_cons.1 hy with rfl|hy
      ·omega
      ·have:=h3 y hy;omega
    ·intro⟨h1,h2,h3⟩
     obtain⟨h4,h5⟩:=List.pairwise_cons.1 h2
     exact⟨fun y hy=>h1 y (by simp [hy]),h5,h4⟩
  ·rw[if_pos hc]
   constructor
   ·intro h;exact absurd h hc
   ·intro⟨h1,_,_⟩;exact absurd (h1 x (by simp)) hc
def gW(s:zf):Prop:=(s.1=1\/s.1=2)/\0<=s.2.1/\s.2.1<=9/\HZ s.2.2.1 0
theorem vX(s:zf):(iM s).1=0↔gW s:=by
 unfold iM gW
 by_cases h1:s.1=1\/s.1=2
 ·rw[if_neg (fun h=>h h1)]
  by_cases h2:s.2.1<0\/9<s.2.1
  ·rw[if_pos h2]
   constructor
   ·intro h;cases h
   ·intro⟨_,a,b,_⟩;omega
  ·rw[if_neg h2,aia]
   constructor
   ·intro h;exact⟨h1,by omega,by omega,h⟩
   ·intro⟨_,_,_,h⟩;exact h
 ·rw[if_pos h1]
  constructor
  ·intro h;cases h
  ·intro⟨a,_⟩;exact absurd a h1
theorem HZ.filter{l:List Spec}{last:Int}(h:HZ l last)(p:Spec->Bool):HZ (l.filter p) last:=
 ⟨fun x hx=>h.1 x (List.mem_filter.1 hx).1,h.2.1.filter p,fun x hx=>h.2.2 x (List.mem_filter.1 hx).1⟩
theorem zdc(s:zf)(hl:s.2.2.1.length<=maxLen):Ci s=some (decide ((iM s).1=0)):=by
 unfold Ci ZD
 rw[adF s hl,zc]
abbrev bq:=ByteArray×ByteArray×Unit
def l4:bq:=(bs [],bs [],())
instance aaK (a:ByteArray) (l:List ByteArray):Decidable (a∈l):=decidable_of_iff (l.any (fun x=>decide (a=x))=true) (by
 rw[List.any_eq_true]
 exact⟨fun⟨x,hx,h⟩=>of_decide_eq_true h▸hx,fun h=>⟨a,h,zT rfl⟩⟩)
def Cz(r:Int):Sum Int Unit:=if r= -1 then .inr () else .inl r
theorem EJ(j:Nat):Cz (j:Int)= .inl (j:Int):=if_neg (by omega)
def dW{K:Type}(l:List K):List (K×Bool):=l.map fun k=>(k,true)
theorem T9{K:Type}[DecidableEq K](eq:K->K->Bool)(heq:∀x y,eq x y=decide (x=y))(k:K):∀l:List K,fH eq false (dW l) k=true↔k∈l
 | []=>by simp [dW,fH]
 |x::l=>by
  simp only[dW,List.map_cons,fH,heq]
  by_cases h:k=x
  ·rw[zT h,zC];exact⟨fun _=>by rw[h];exact List.mem_cons_self,fun _=>rfl⟩
  ·rw[zF h,zD]
   have:=T9 eq heq k l
   simp only[dW] at this
   rw[this]
   exact⟨fun h'=>List.mem_cons_of_mem _ h',fun h'=>(List.mem_cons.1 h').resolve_left h⟩
theorem Ua{K:Type}[DecidableEq K](eq:K->K->Bool)(heq:∀x y,eq x y=decide (x=y))(k:K):∀l:List K,fI eq (dW l) k=true↔k∈l
 | []=>by simp [dW,fI]
 |x::l=>by
  simp only[dW,List.map_cons,fI,heq]
  by_cases h:k=x
  ·rw[zT h,zC];exact⟨fun _=>by rw[h];exact List.mem_cons_self,fun _=>rfl⟩
  ·rw[zF h,zD]
   have:=Ua eq heq k l
   simp only[dW] at this
   rw[this]
   exact⟨fun h'=>List.mem_cons_of_mem _ h',fun h'=>(List.mem_cons.1 h').resolve_left h⟩
theorem Gk{b:Bool}{p:Prop}(h:b=true↔p)(hp:¬p):b=false:=by cases b with
 |false=>rfl
 |true=>exact absurd (h.1 rfl) hp
theorem za1{K:Type}(l:List K)(k:K):dW l++ [(k,true)]=dW (l++ [k]):=by simp [dW]
def iA:List ByteArray->List bq->Int->Option Int
 |_,[],_=>none
 |seen,p::r,i=>if p.1∈seen then some i else iA (seen++ [p.1]) r (i+1)
def rB(l:List bq):Int×Int:=if 256<l.length then(5,256) else match iA [] l 0 with
 |some i=>(10,i)
 |none=>(0,0)
def xJ(o:Option Int):Option (Sum (Int×Int) Unit):=some (match o with
 |some i=> .inl (10,i)
 |none=> .inr ())
theorem acb(l:List bq):∀(i:Int) (seen:List ByteArray),
 bB (fun i (x:bq) (s:List kb) K=>bif fH (gD .str) false s x.1 then some (Sum.inl ((10:Int),i)) else bif fI (gD .str) s x.1 then none else K (s++ [(x.1,true)])) (fun _=>some (Sum.inr ())) l i (dW seen)=xJ (iA seen l i):=by
 induction l with
 |nil=>intro i seen;rfl
 |cons p r ih=>
  intro i seen
  simp only[bB,iA]
  have e1:=T9 (gD .str) (fun _ _=>rfl) p.1 seen
  have e2:=Ua (gD .str) (fun _ _=>rfl) p.1 seen
  by_cases h:p.1∈seen
  ·rw[e1.2 h,if_pos h];rfl
  ·rw[Gk e1 h,Gk e2 h,if_neg h,zD,zD,za1]
   exact ih (i+1) (seen++ [p.1])
theorem aci(l:List bq)(h:l.length<=maxLen):I5 l=some (rB l):=by
 unfold I5 Yv rB
 dsimp only
 by_cases hl:256<l.length
 ·rw[zT (by omega),zC,if_pos hl]
 ·rw[zF (by omega),zD,if_neg hl]
  have:=cD l4 l h (fun i (x:bq) (s:List kb) K=>bif fH (gD .str) false s x.1 then some (Sum.inl ((10:Int),i)) else bif fI (gD .str) s x.1 then none else K (s++ [(x.1,true)])) (fun _=>some (Sum.inr ()))
   (fun k i s=>Sl k l (l.length:Int) i s) (fun k i s=>rfl) []
  rw[this]
  have h2:=acb l 0 []
  rw[show dW ([]:List ByteArray)=[] from rfl] at h2
  rw[h2]
  unfold xJ
  cases iA [] l 0<;>rfl
def iG:List bq->ByteArray->Int->Int
 | [],_,_=> -1
 |p::r,f,i=>if p.1=f then i else iG r f (i+1)
theorem zor(l:List bq)(hl:l.length<=9223372036854775807)(n:Nat)(hn:n<=l.length)(f:ByteArray):∀(m j k:Nat),j+m=n->m<k->Gu k l (n:Int) f (j:Int)=some (Cz (iG ((l.take n).drop j) f j))
 |m,j,0,_,hk=>by omega
 |0,j,k+1,hj,hk=>by
  have:j=n:=by omega
  subst this
  unfold Gu Rr
  rw[zF (by omega),List.drop_eq_nil_of_le (by rw[List.length_take];omega)]
  rfl
 |m+1,j,k+1,hj,hk=>by
  have al:j<l.length:=by omega
  unfold Gu Rr
  rw[zT (by omega),zC,zi al,Int.toNat_natCast]
  have hd:(l.take n).drop j=l[j]::(l.take n).drop (j+1):=by
   rw[List.drop_eq_getElem_cons (by simp;omega)]
   congr 1
   rw[List.getElem_take]
  have hg:∀d,l.getD j d=l[j]:=fun d=>by rw[List.getD_eq_getElem?_getD,List.getElem?_eq_getElem al];rfl
  rw[hd]
  simp only[hg,iG]
  by_cases h:l[j].1=f
  ·rw[zT h,if_pos h,EJ];rfl
  ·rw[zF h,if_neg h,zD,zv (by omega),zor l hl n hn f m (j+1) k (by omega) (by omega)]
   rfl
theorem MW(l:List bq)(hl:l.length<=maxLen)(n:Nat)(hn:n<=l.length)(f:ByteArray):rD l (n:Int) f=some (iG (l.take n) f 0):=by
 rw[zh] at hl
 unfold rD UG
 dsimp only
 have:=zor l hl n hn f n 0 af (by omega) (by rw[zu];omega)
 rw[show((0:Nat):Int)=(0:Int) from rfl,List.drop_zero] at this
 rw[this,Option.bind_some]
 unfold Cz
 by_cases h:iG (l.take n) f 0= -1
 ·rw[if_pos h,h];rfl
 ·rw[if_neg h];rfl
theorem z145(f:ByteArray):∀(l:List bq) (i:Int),0<=i->(0<=iG l f i↔f∈l.map fun p=>p.1)
 | [],i,_=>by simp [iG]
 |p::r,i,hi=>by
  simp only[iG,List.map_cons,List.mem_cons]
  by_cases h:p.1=f
  ·rw[if_pos h];exact⟨fun _=> .inl h.symm,fun _=>hi⟩
  ·rw[if_neg h,z145 f r (i+1) (by omega)]
   exact⟨.inr,fun h'=>h'.resolve_left (fun e=>h e.symm)⟩
theorem zhz(l:List bq)(hl:l.length<=256):∀(m j k:Nat),j+m=l.length->m<k->Gt k l (j:Int)=xJ (iA ((l.take j).map fun p=>p.1) (l.drop j) j)
 |m,j,0,_,hk=>by omega
 |0,j,k+1,hj,hk=>by
  unfold Gt Rq
  rw[zF (by omega),List.drop_eq_nil_of_le (by omega)]
  rfl
 |m+1,j,k+1,hj,hk=>by
  have al:j<l.length:=by omega
  unfold Gt Rq
  have hg:∀d,l.getD j d=l[j]:=fun d=>by rw[List.getD_eq_getElem?_getD,List.getElem?_eq_getElem al];rfl
  rw[zT (by omega),zC,zi al,Int.toNat_natCast,hg,MW l (by rw[zh];omega) j (by omega),Option.bind_some,List.drop_eq_getElem_cons al]
  simp only[iA]
  have hm:=z145 l[j].1 (l.take j) 0 (Int.le_refl _)
  by_cases h:l[j].1∈(l.take j).map fun p=>p.1
  ·rw[zT (hm.2 h),if_pos h];rfl
  ·rw[zF (fun h'=>h (hm.1 h')),if_neg h,zD,zv (by omega),zhz l hl m (j+1) k (by omega) (by omega)]
   congr 2
   rw[List.take_add_one,List.getElem?_eq_getElem al,List.map_append]
   rfl
theorem adG(l:List bq)(h:l.length<=maxLen):tu l=some (rB l):=by
 unfold tu UB rB
 dsimp only
 by_cases hl:256<l.length
 ·rw[zT (by omega),zC,if_pos hl]
 ·rw[zF (by omega),zD,if_neg hl]
  have:=zhz l (by omega) l.length 0 af (by omega) (by rw[zu];omega)
  rw[show((0:Nat):Int)=(0:Int) from rfl,List.take_zero,List.drop_zero] at this
  rw[this]
  unfold xJ
  simp only[List.map_nil]
  cases iA [] l 0<;>rfl
def zq(l:List bq)(f:ByteArray):ByteArray×Bool:=match l.find? fun p=>decide (p.1=f) with
 |some p=>(p.2.1,true)
 |none=>(bs [],false)
theorem zco(f:ByteArray)(l:List bq):∀(i:Int),bB (fun i (x:bq) (s:Unit) K=>bif decide (x.1=f) then some (Sum.inl (x.2.1,true)) else K s) (fun _=>some (Sum.inr ())) l i ()=some (match l.find? fun p=>decide (p.1=f) with
 |some p=> .inl (p.2.1,true)
 |none=> .inr ()):=by
 induction l with
 |nil=>intro i;rfl
 |cons p r ih=>
  intro i
  simp only[bB,List.find?_cons]
  by_cases h:p.1=f
  ·rw[zT h];rfl
  ·rw[zF h,zD];exact ih (i+1)
theorem ach(l:List bq)(f:ByteArray)(h:l.length<=maxLen):I4 l f=some (zq l f):=by
 unfold I4 Yq zq
 dsimp only
 have:=cD l4 l h (fun i (x:bq) (s:Unit) K=>bif decide (x.1=f) then some (Sum.inl (x.2.1,true)) else K s) (fun _=>some (Sum.inr ()))
  (fun k i s=>Sk k f l (l.length:Int) i) (fun k i s=>rfl) ()
 rw[this,zco]
 cases l.find? fun p=>decide (p.1=f)<;>rfl
theorem M4(f:ByteArray):∀(l:List bq) (i:Int),0<=i->(iG l f i= -1/\l.find? (fun p=>decide (p.1=f))=none)\/(i<=iG l f i/\iG l f i<i+l.length/\∃p,l.find? (fun p=>decide (p.1=f))=some p/\∀d,l.getD (iG l f i-i).toNat d=p)
 | [],i,_=> .inl ⟨rfl,rfl⟩
 |p::r,i,hi=>by
  simp only[iG,List.find?_cons,List.length_cons]
  by_cases h:p.1=f
  ·rw[if_pos h,zT h]
   exact .inr ⟨Int.le_refl _,by omega,p,rfl,fun d=>by simp⟩
  ·rw[if_neg h,zF h]
   rcases M4 f r (i+1) (by omega) with⟨h1,h2⟩|⟨h1,h2,q,h3,h4⟩
   ·exact .inl ⟨h1,h2⟩
   ·refine .inr ⟨by omega,by omega,q,h3,fun d=> ?_⟩
    have:=h4 d
    rw[show(iG r f (i+1)-i).toNat=(iG r f (i+1)-(i+1)).toNat+1 by omega,List.getD_cons_succ]
    exact this
theorem adE(l:List bq)(f:ByteArray)(h:l.length<=maxLen):tn l f=some (zq l f):=by
 unfold tn Uz zq
 dsimp only
 rw[MW l h l.length (Nat.le_refl _),List.take_length,Option.bind_some]
 rcases M4 f l 0 (Int.le_refl _) with⟨h1,h2⟩|⟨h1,h2,p,h3,h4⟩
 ·rw[h1,h2];rfl
 ·rw[zF (by omega),zD,zo h1 (by omega),h3]
  have:=h4 ((bs []),(bs []),())
  rw[Int.sub_zero] at this
  rw[this]
def dX(l:List bq):List bq:=l.map fun p=>(p.2.1,p.1,())
theorem zja(l:List bq):(dX l).length=l.length:=by simp [dX]
def AH(l:List bq):Bool:=decide ((rB l).1=0/\(rB (dX l)).1=0)
theorem Mm(l:List bq)(h:l.length<=1000000):rC l=some l:=by
 unfold rC UC
 rw[zT (by simp;omega),zC,List.nil_append]
def kd(c b:Int):Bool:=
 if c=1 then decide (48<=b/\b<=57)
 else if c=2 then decide (65<=b/\b<=90\/97<=b/\b<=122)
 else if c=3 then decide (48<=b/\b<=57\/65<=b/\b<=90\/97<=b/\b<=122)
 else if c=4 then decide (32<=b/\b<=126)
 else decide (c=5\/c=6)
def jl(c:Int):Int:=if c=1 then 1 else if c=2 then 2 else if c=3 then 3 else if c=4 then 7 else if c=5 then 15 else if c=6 then 15 else 0
theorem apJ:∀c:Fin 7,∀b:Fin 256,zA (c.1:Int) (b.1:Int)=some (kd (c.1:Int) (b.1:Int)):=by decide+kernel
theorem Qz:∀c:Fin 7,∀b:Fin 256,(Cd (b.1:Int)).map (fun r=>decide (aR .and .i64 (jl (c.1:Int)) r=0))=some (!kd (c.1:Int) (b.1:Int)):=by decide+kernel
theorem My(c:Int):(∃k:Fin 7,c=(k.1:Int))\/(c≠1/\c≠2/\c≠3/\c≠4/\c≠5/\c≠6):=by
 by_cases h:0<=c/\c<=6
 ·exact .inl ⟨⟨c.toNat,by omega⟩,by simp;omega⟩
 ·exact .inr ⟨by omega,by omega,by omega,by omega,by omega,by omega⟩
theorem m6{b:Int}(h:zm b):∃k:Fin 256,b=(k.1:Int):=by
 unfold zm at h
 exact⟨⟨b.toNat,by omega⟩,by simp;omega⟩
theorem al4(c:Int){b:Int}(hb:zm b):zA c b=some (kd c b):=by
 obtain⟨b,rfl⟩:=m6 hb
 rcases My c with⟨k,rfl⟩|⟨h1,h2,h3,h4,h5,h6⟩
 ·exact apJ k b
 ·unfold zA Zn kd
  simp only[h1,h2,h3,h4,h5,h6,decide_false,zD,if_false,or_self,Bool.cond_self]
theorem ahO(c:Int){b:Int}(hb:zm b):∃r,Cd b=some r/\decide (aR .and .i64 (jl c) r=0)= !kd c b:=by
 obtain⟨b,rfl⟩:=m6 hb
 rcases My c with⟨k,rfl⟩|⟨h1,h2,h3,h4,h5,h6⟩
 ·have:=Qz k b
  cases hc:Cd (b.1:Int) with
  |none=>rw[hc] at this;cases this
  |some r=>rw[hc] at this;exact⟨r,rfl,by simpa using this⟩
 ·have:=Qz 0 b
  cases hc:Cd (b.1:Int) with
  |none=>rw[hc] at this;cases this
  |some r=>
   rw[hc] at this
   refine⟨r,rfl,?_⟩
   have e1:jl c=jl ((0:Fin 7).1:Int):=by unfold jl;simp [h1,h2,h3,h4,h5,h6]
   have e2:kd c (b.1:Int)=kd ((0:Fin 7).1:Int) (b.1:Int):=by unfold kd;simp [h1,h2,h3,h4,h5,h6]
   rw[e1,e2]
   simpa using this
def ru(c:Int):List Int->Int->Int
 | [],_=> -1
 |b::r,i=>if kd c b=true then ru c r (i+1) else i
theorem zou(c:Int):∀(l:List Int) (i:Int),0<=i->(0<=ru c l i↔¬l.all (kd c)=true)
 | [],i,_=>by simp [ru]
 |b::r,i,hi=>by
  simp only[ru,List.all_cons]
  cases h:kd c b with
  |true=>rw[if_pos rfl,zou c r (i+1) (by omega),Bool.true_and]
  |false=>simp [hi]
theorem zvw(c:Int)(s:ByteArray)(hs:s.size<=9223372036854775807):∀(n j k:Nat),j+n=s.size->n<k->G3 k s (jl c) (j:Int)=some (Cz (ru c ((bl s).drop j) j))
 |n,j,0,_,hk=>by omega
 |0,j,k+1,hj,hk=>by
  unfold G3 Sj
  rw[zF (by omega),List.drop_eq_nil_of_le (by rw[zg];omega)];rfl
 |n+1,j,k+1,hj,hk=>by
  have al:j<s.size:=by omega
  have hl:j<(bl s).length:=by rw[zg];exact al
  have hb:zm ((bl s)[j]):=j8 (List.getElem_mem hl)
  have hg:(bl s).getD j 0=(bl s)[j]:=by rw[List.getD_eq_getElem?_getD,List.getElem?_eq_getElem hl];rfl
  unfold G3 Sj
  rw[zT (by omega),zC,zi al,Int.toNat_natCast,mc,hg,List.drop_eq_getElem_cons hl]
  obtain⟨r,h1,h2⟩:=ahO c hb
  rw[h1,Option.bind_some,h2]
  simp only[ru]
  cases h:kd c (bl s)[j] with
  |true=>rw[if_pos rfl,Bool.not_true,zD,zv (by omega),zvw c s hs n (j+1) k (by omega) (by omega)];rfl
  |false=>rw[if_neg (by simp),Bool.not_false,zC,EJ]
theorem aiA(c:Int)(s:ByteArray)(h:s.size<=maxLen):IX c s=some (ru c (bl s) 0):=by
 rw[zh] at h
 unfold IX X7
 dsimp only
 rw[XB,Option.bind_some]
 have:=zvw c s h s.size 0 af (by omega) (by rw[zu];omega)
 rw[show((0:Nat):Int)=(0:Int) from rfl,List.drop_zero] at this
 rw[show(if c=1 then 1 else if c=2 then 2 else if c=3 then 3 else if c=4 then 7 else if c=5 then 15 else if c=6 then 15 else 0:Int)=jl c from rfl,this,Option.bind_some]
 unfold Cz
 by_cases h:ru c (bl s) 0= -1
 ·rw[if_pos h,h];rfl
 ·rw[if_neg h];rfl
theorem zie(c:Int)(s:ByteArray)(hs:s.size<=9223372036854775807):∀(n j k:Nat),j+n=s.size->n<k->Ha k c s (j:Int)=some (Cz (ru c ((bl s).drop j) j))
 |n,j,0,_,hk=>by omega
 |0,j,k+1,hj,hk=>by
  unfold Ha Sw
  rw[zF (by omega),List.drop_eq_nil_of_le (by rw[zg];omega)];rfl
 |n+1,j,k+1,hj,hk=>by
  have al:j<s.size:=by omega
  have hl:j<(bl s).length:=by rw[zg];exact al
  have hb:zm ((bl s)[j]):=j8 (List.getElem_mem hl)
  have hg:(bl s).getD j 0=(bl s)[j]:=by rw[List.getD_eq_getElem?_getD,List.getElem?_eq_getElem hl];rfl
  unfold Ha Sw
  rw[zT (by omega),zC,zi al,Int.toNat_natCast,mc,hg,List.drop_eq_getElem_cons hl,al4 c hb,Option.bind_some]
  simp only[ru]
  cases h:kd c (bl s)[j] with
  |true=>rw[if_pos rfl,Bool.not_true,zD,zv (by omega),zie c s hs n (j+1) k (by omega) (by omega)];rfl
  |false=>rw[if_neg (by simp),Bool.not_false,zC,EJ]
theorem zd5(c:Int)(s:ByteArray)(h:s.size<=maxLen):JC c s=some (ru c (bl s) 0):=by
 rw[zh] at h
 unfold JC Zm
 dsimp only
 have:=zie c s h s.size 0 af (by omega) (by rw[zu];omega)
 rw[show((0:Nat):Int)=(0:Int) from rfl,List.drop_zero] at this
 rw[this,Option.bind_some]
 unfold Cz
 by_cases h:ru c (bl s) 0= -1
 ·rw[if_pos h,h];rfl
 ·rw[if_neg h];rfl
def yP(a b:Int):Bool:=decide (1<=a/\a<=6/\1<=b/\b<=6)&&decide (aR .andNot .i64 (jl b) (jl a)=0)
theorem akl(a b:Int):IZ a b=some (yP a b):=by
 unfold IZ Ye yP
 rw[zpg,Option.bind_some]
 by_cases ha:1<=a/\a<=6
 ·rw[zT ha,zC,zpg,Option.bind_some]
  by_cases hb:1<=b/\b<=6
  ·rw[zT hb,zC,XB,Option.bind_some,XB,Option.bind_some,zT (show 1<=a/\a<=6/\1<=b/\b<=6 from⟨ha.1,ha.2,hb.1,hb.2⟩),Bool.true_and]
   rfl
  ·rw[zF hb,zD,zF (fun h=>hb h.2.2)];rfl
 ·rw[zF ha,zD,zF (fun h=>ha ⟨h.1,h.2.1⟩)];rfl
theorem ait:∀a b:Fin 7,Hn (a.1:Int) (b.1:Int)=some (yP (a.1:Int) (b.1:Int)):=by decide+kernel
theorem ZM{c:Int}(h:1<=c/\c<=6):∃k:Fin 7,c=(k.1:Int):=⟨⟨c.toNat,by omega⟩,by simp;omega⟩
theorem zdd(a b:Int):Hn a b=some (yP a b):=by
 by_cases h:(1<=a/\a<=6)/\(1<=b/\b<=6)
 ·obtain⟨k,rfl⟩:=ZM h.1
  obtain⟨m,rfl⟩:=ZM h.2
  exact ait k m
 ·unfold Hn Zq yP
  rw[show decide (1<=a/\a<=6/\1<=b/\b<=6)=false from zF (fun h'=>h ⟨⟨h'.1,h'.2.1⟩,h'.2.2⟩),Bool.false_and]
  by_cases h1:a<1
  ·rw[zT h1];rfl
  ·by_cases h2:(6:Int)<a
   ·rw[zF h1,zT h2];rfl
   ·by_cases h3:b<1
    ·rw[zF h1,zF h2,zT h3];rfl
    ·have h4:(6:Int)<b:=by omega
     rw[zF h1,zF h2,zF h3,zT h4];rfl
theorem z28(s:ByteArray)(i:Nat):zm (ze s i):=by
 rw[mc]
 exact Gh (fun x hx=>j8 hx) i
theorem MY:∀b:Fin 256,oL (b.1:Int)=some (decide (zE (b.1:Int)≠some 0)):=by decide+kernel
theorem zdt:∀b:Fin 256,zE (b.1:Int)=some 0\/(zE (b.1:Int)=some 1/\decide (aR .and .i64 (b.1:Int) 31=31)=false)\/(zE (b.1:Int)=some 2/\decide (aR .and .i64 (b.1:Int) 31=31)=true):=by decide+kernel
theorem apy(x y:Nat)(hx:x<256)(hy:y<256):aR .and .i64 (((x:Int)*256)+(y:Int)) 255=(y:Int):=by
 have:((x:Int)*256+(y:Int))=((x*256+y:Nat):Int):=by omega
 rw[this,show(255:Int)=((255:Nat):Int) from rfl,anz (by omega) (by omega)]
 congr 1
 rw[show(255:Nat)=2^8-1 from rfl,Nat.and_two_pow_sub_one_eq_mod]
 omega
theorem aca(x y:Nat)(hx:x<256)(hy:y<256):Int.fdiv ((x:Int)*256+(y:Int)) (2^min ((8:Int)).toNat 64)=(x:Int):=by
 have:((x:Int)*256+(y:Int))=((x*256+y:Nat):Int):=by omega
 rw[this,show(8:Int)=((8:Nat):Int) from rfl,Rk _ 8 (by omega)]
 congr 1
 omega
theorem ah2(x:Fin 256)(hx:zE (x.1:Int)=some 2)(y:Fin 256):uk ((x.1:Int)*256+(y.1:Int))=some (decide (1<=(y.1:Int)/\(y.1:Int)<=127)):=by
 have hx0:x.1≠0:=fun e=>by
  have:x=0:=Fin.ext e
  subst this
  revert hx
  decide+kernel
 have CB:decide (aR .and .i64 (x.1:Int) 31=31)=true:=by
  rcases zdt x with h|⟨h,_⟩|⟨_,h⟩
  ·rw[h] at hx;cases hx
  ·rw[h] at hx;cases hx
  ·exact h
 have hf:oL (x.1:Int)=some true:=by rw[MY x,hx];rfl
 unfold uk WW
 rw[aca x.1 y.1 x.2 y.2,apy x.1 y.1 x.2 y.2,zF (by have:=x.2;have:=y.2;omega),zD,zT (by have:=x.2;have:=y.2;omega),zC,hf,Option.bind_some,zC,CB,zC]
 by_cases h1:(1:Int)<=(y.1:Int)
 ·rw[zT h1,zC]
  congr 1
  exact decide_eq_decide.2 ⟨fun h=>⟨h1,h⟩,fun h=>h.2⟩
 ·rw[zF h1,zD]
  congr 1
  exact(zF fun h=>h1 h.1).symm
theorem aif(s:ByteArray)(hs:s.size<=9223372036854775000)(a:Int):ui s a=zG s a:=by
 unfold ui WV zG Sy
 by_cases h1:a<0
 ·rw[zT h1];rfl
 rw[zF h1,zD,zD]
 by_cases h2:(s.size:Int)<a
 ·rw[zT h2];rfl
 rw[zF h2,zD,zD]
 by_cases h3:a=(s.size:Int)
 ·rw[zT h3];rfl
 have wa:∀{R:Type} (x:Option R),zd a s.size x=x:=fun x=>zo (by omega) (by omega)
 rw[zF h3,zD,zD]
 simp only[wa]
 obtain⟨x,hx⟩:=m6 (z28 s a.toNat)
 obtain⟨y,hy⟩:=m6 (z28 s (zW zI (a+1)).toNat)
 have Bh:=x.2
 have Tq:=y.2
 have ob:=zre (z28 s a.toNat) (z28 s (zW zI (a+1)).toNat)
 rw[hx,hy] at ob
 have w1:zW zI (a+1)=a+1:=zj (by omega) (by omega)
 have w2:zW zI (x.1:Int)=(x.1:Int):=zj (by omega) (by omega)
 have w3:zW zI (y.1:Int)=(y.1:Int):=zj (by omega) (by omega)
 have w4:zW zI ((s.size:Int)-a)=(s.size:Int)-a:=zj (by omega) (by omega)
 rw[hx,hy,w2,MY x,Option.bind_some]
 rw[w2] at ob
 rcases zdt x with h|⟨h,CB⟩|⟨h,CB⟩
 ·rw[h];rfl
 ·rw[h,Option.bind_some,CB];rfl
 ·rw[h,Option.bind_some,CB,ob,ah2 x h y,Option.bind_some,w1,w4,w3]
  by_cases h4:a+1=(s.size:Int)
  ·rw[zT h4,zT (by omega:(s.size:Int)-a<2)];rfl
  ·have w5:zW zI (256*(x.1:Int))=256*(x.1:Int):=zj (by omega) (by omega)
   have w6:zW zI (256*(x.1:Int)+(y.1:Int))=(x.1:Int)*256+(y.1:Int):=by rw[zj (by omega) (by omega)];omega
   rw[zF h4,zF (by omega:¬(s.size:Int)-a<2),w5,w6]
   have wb:∀{R:Type} (x:Option R),zd (a+1) s.size x=x:=fun x=>zo (by omega) (by omega)
   simp only[wb]
   by_cases h5:(y.1:Int)=0
   ·rw[zT h5,zF (by omega:¬(1<=(y.1:Int)/\(y.1:Int)<=127))];rfl
   ·by_cases h6:(127:Int)<(y.1:Int)
    ·rw[zF h5,zT h6,zF (by omega:¬(1<=(y.1:Int)/\(y.1:Int)<=127))];rfl
    ·rw[zF h5,zF h6,zT (by omega:1<=(y.1:Int)/\(y.1:Int)<=127)];rfl
def cT(b:Int):Int:=if 48<=b/\b<=57 then b-48 else if 65<=b/\b<=70 then b-55 else-1
def ja(d:Int):Int:=if d<10 then 48+d else 55+d
def eH:List Int->List Int
 | []=>[]
 |x::r=>ja (x/16)::ja (x % 16)::eH r
def fN:List Int->List Int
 |a::b::r=>(16*cT a+cT b)::fN r
 |_=>[]
def iv:List Int->Int->Option Int
 | [],_=>none
 |a::r,i=>if cT a<0 then some i else iv r (i+1)
def na(s:ByteArray):ByteArray×Int×Bool:=match iv (bl s) 0 with
 |some i=>(bs [],i,false)
 |none=>if s.size % 2=1 then(bs [],(s.size:Int),false) else(strOf (fN (bl s)),0,true)
def sN(s:ByteArray):ByteArray:=strOf (eH (bl s))
abbrev SW:ByteArray:=bs [48,49,50,51,52,53,54,55,56,57,65,66,67,68,69,70]
theorem apC:∀b:Fin 256,tM (b.1:Int)=some (if cT (b.1:Int)<0 then((0:Int),false) else(cT (b.1:Int),true)):=by decide+kernel
theorem ak2:∀b:Fin 256,cT (b.1:Int)<16/\(cT (b.1:Int)<0\/0<=cT (b.1:Int)):=by decide+kernel
theorem XA:∀b:Fin 256,Int.fdiv (b.1:Int) (2^min ((4:Int)).toNat 8)=((b.1/16:Nat):Int)/\aR .and .u8 (b.1:Int) (15:Int)=((b.1 % 16:Nat):Int)/\zW zU (Int.tdiv (b.1:Int) (16:Int))=((b.1/16:Nat):Int)/\Int.tmod (b.1:Int) (16:Int)=((b.1 % 16:Nat):Int):=by decide+kernel
theorem PJ:∀d:Fin 16,ze SW d.1=ja (d.1:Int):=by decide+kernel
theorem ak1:∀a b:Fin 16,zW zU (aR .or .i64 (zW zI ((a.1:Int)*2^min ((4:Int)).toNat 64)) (b.1:Int))=16*(a.1:Int)+(b.1:Int)/\zW zU (zW zI (zW zI ((16:Int)*(a.1:Int))+(b.1:Int)))=16*(a.1:Int)+(b.1:Int):=by decide+kernel
theorem aal{x y:Int}(h1:0<=x)(h2:x<16)(h3:0<=y)(h4:y<16):zW zU (aR .or .i64 (zW zI (x*2^min ((4:Int)).toNat 64)) y)=16*x+y/\zW zU (zW zI (zW zI ((16:Int)*x)+y))=16*x+y:=by
 have:=ak1 ⟨x.toNat,by omega⟩ ⟨y.toNat,by omega⟩
 simpa [Int.toNat_of_nonneg h1,Int.toNat_of_nonneg h3] using this
theorem EK{b:Int}(h:zm b):cT b<16:=by
 obtain⟨k,rfl⟩:=m6 h
 exact(ak2 k).1
theorem akJ{b:Int}(h:zm b):tM b=some (if cT b<0 then((0:Int),false) else(cT b,true)):=by
 obtain⟨k,rfl⟩:=m6 h
 exact apC k
theorem NK:SW.size=16:=by decide
theorem nib{b:Int}(h:zm b):∃k:Fin 256,b=(k.1:Int)/\ze SW (b.toNat/16)=ja (b/16)/\ze SW (b.toNat % 16)=ja (b % 16):=by
 obtain⟨k,rfl⟩:=m6 h
 have h1:=PJ ⟨k.1/16,by omega⟩
 have h2:=PJ ⟨k.1 % 16,by omega⟩
 exact⟨k,rfl,by simpa using h1,by simpa using h2⟩
theorem Sa{s:ByteArray}{j:Nat}(h:j<(bl s).length):ze s j=(bl s)[j]:=by rw[mc,List.getD_eq_getElem?_getD,List.getElem?_eq_getElem h];rfl
theorem zoz(s:ByteArray)(hs:s.size<=1099511627776):∀(n j k:Nat) (o:List Int),j+n=s.size->n<k->o.length+2*n<=35184372088832->GL k s o (j:Int)=some (o++eH ((bl s).drop j))
 |n,j,0,o,_,hk,_=>by omega
 |0,j,k+1,o,hj,hk,_=>by
  unfold GL RE
  rw[zF (by omega),zD,List.drop_eq_nil_of_le (by rw[zg];omega),eH,List.append_nil]
 |n+1,j,k+1,o,hj,hk,ho=>by
  have al:j<s.size:=by omega
  have hl:j<(bl s).length:=by rw[zg];exact al
  obtain⟨b,hb,n1,n2⟩:=nib (j8 (List.getElem_mem hl))
  have mF:=b.2
  unfold GL RE
  rw[zT (by omega),zC]
  simp only[Int.toNat_natCast,Sa hl,hb,(XA b).1,(XA b).2.1]
  rw[zi al,zi (by rw[NK];omega),zi al,zi (by rw[NK];omega),zT (by simp only[List.length_cons,List.length_nil];omega),zC]
  rw[hb] at n1 n2
  simp only[Int.toNat_natCast] at n1 n2
  rw[n1,n2,zv (by omega),zoz s hs n (j+1) k _ (by omega) (by omega) (by rw[List.length_append];simp only[List.length_cons,List.length_nil];omega),List.drop_eq_getElem_cons hl,hb,eH,List.append_assoc]
  rfl
theorem zw3(s:ByteArray)(hs:s.size<=1099511627776):kj s=some (sN s):=by
 unfold kj VH
 rw[zj (by omega) (by omega),zT (by omega),zC,zT (by omega),zC]
 have:=zoz s hs s.size 0 af [] (by omega) (by rw[zu];omega) (by simp;omega)
 rw[show((0:Nat):Int)=0 from rfl,List.drop_zero,List.nil_append] at this
 dsimp only
 rw[this];rfl
def lr:List Int->Nat->List Int->Int->Sum Int (List Int)
 | [],_,o,_=> .inr o
 |a::r,i,o,high=>if cT a<0 then .inl i else if i % 2=0 then lr r (i+1) o (cT a) else lr r (i+1) (o++ [16*high+cT a]) high
theorem PB:∀(l:List Int) (i:Nat) (o:List Int) (high:Int),i % 2=0->lr l i o high=(match iv l i with
 |some q=> .inl q
 |none=> .inr (o++fN l))
 | [],i,o,high,h=>by simp [lr,iv,fN]
 | [a],i,o,high,h=>by
   rw[lr,iv]
   by_cases ha:cT a<0
   ·rw[if_pos ha,if_pos ha]
   ·rw[if_neg ha,if_neg ha,if_pos h]
    simp [lr,iv,fN]
 |a::b::r,i,o,high,h=>by
  rw[lr,iv]
  by_cases ha:cT a<0
  ·rw[if_pos ha,if_pos ha]
  ·rw[if_neg ha,if_neg ha,if_pos h,lr,iv]
   by_cases hb:cT b<0
   ·rw[if_pos hb,if_pos hb];rfl
   ·rw[if_neg hb,if_neg hb,if_neg (by omega),PB r (i+1+1) _ _ (by omega),fN,List.append_assoc]
    have:((i:Int)+1+1)=((i+1+1:Nat):Int):=by omega
    rw[this];rfl
theorem HY(j:Nat):Int.tmod (j:Int) (2:Int)=((j % 2:Nat):Int):=rfl
theorem zb0(s:ByteArray)(hs:s.size<=1099511627776):∀(n j k:Nat) (o:List Int) (high:Int),j+n=s.size->n<k->o.length+n<=35184372088832->0<=high/\high<16->∃o',GK k s o high (j:Int)=some (match lr ((bl s).drop j) j o high with
 | .inl i=> .inl (s,bs [],i,false,o')
 | .inr r=> .inr (s,r))
 |n,j,0,o,high,_,hk,_,_=>by omega
 |0,j,k+1,o,high,hj,hk,_,_=>by
  unfold GK RD
  rw[zF (by omega),zD,List.drop_eq_nil_of_le (by rw[zg];omega)]
  exact⟨o,rfl⟩
 |n+1,j,k+1,o,high,hj,hk,ho,hh=>by
  have al:j<s.size:=by omega
  have hl:j<(bl s).length:=by rw[zg];exact al
  have hb:=j8 (List.getElem_mem hl)
  have h16:=EK hb
  unfold GK RD
  rw[zT (by omega),zC,zi al,Int.toNat_natCast,Sa hl,akJ hb,zc,List.drop_eq_getElem_cons hl,lr]
  by_cases ha:cT (bl s)[j]<0
  ·rw[if_pos ha,if_pos ha]
   exact⟨o,rfl⟩
  ·rw[if_neg ha,if_neg ha]
   dsimp only
   rw[Bool.not_true,zD,HY]
   by_cases hp:j % 2=0
   ·rw[if_pos hp,zT (by omega),zC,zv (by omega)]
    exact zb0 s hs n (j+1) k o _ (by omega) (by omega) (by omega) (by omega)
   ·rw[if_neg hp,zF (by omega),zD,zT (by simp only[List.length_singleton];omega),zC,zv (by omega),(aal hh.1 hh.2 (by omega) h16).1]
    exact zb0 s hs n (j+1) k _ high (by omega) (by omega) (by rw[List.length_append,List.length_singleton];omega) hh
theorem zw2(s:ByteArray)(hs:s.size<=1099511627776):im s=some (na s):=by
 unfold im VE na
 have e:Int.tdiv (s.size:Int) 2=((s.size/2:Nat):Int):=rfl
 rw[e,zj (by omega) (by omega),zT (by omega),zC,zT (by omega),zC]
 obtain⟨o',h⟩:=zb0 s hs s.size 0 af [] 0 (by omega) (by rw[zu];omega) (by simp;omega) (by omega)
 rw[show((0:Nat):Int)=0 from rfl,List.drop_zero,PB _ 0 _ _ rfl,List.nil_append,show((0:Nat):Int)=0 from rfl] at h
 dsimp only
 rw[h,zc]
 cases iv (bl s) 0 with
 |some i=>rfl
 |none=>
  dsimp only
  rw[Sum.elim_inr]
  unfold VF
  dsimp only
  rw[HY]
  by_cases hp:s.size % 2=1
  ·rw[if_pos hp,zF (by omega)];rfl
  ·rw[if_neg hp,zT (by omega)];rfl
theorem agF{l:List Int}:∀{i:Int},iv l i=none->∀a∈l,0<=cT a:=by
 induction l with
 |nil=>intro i _ a ha;cases ha
 |cons b r ih=>
  intro i h a ha
  rw[iv] at h
  by_cases hb:cT b<0
  ·rw[if_pos hb] at h;cases h
  ·rw[if_neg hb] at h
   rcases List.mem_cons.1 ha with rfl|ha
   ·omega
   ·exact ih h a ha
theorem ak4:∀d:Fin 16,cT (ja (d.1:Int))=(d.1:Int)/\zm (ja (d.1:Int)):=by
 have:∀d:Fin 16,cT (ja (d.1:Int))=(d.1:Int)/\0<=ja (d.1:Int)/\ja (d.1:Int)<256:=by decide+kernel
 exact this
theorem z91{d:Int}(h:0<=d)(h2:d<16):cT (ja d)=d/\zm (ja d):=by
 have:=ak4 ⟨d.toNat,by omega⟩
 simpa [Int.toNat_of_nonneg h] using this
theorem z141:∀{l:List Int},(∀x∈l,zm x)->∀y∈eH l,zm y
 | [],_,y,hy=>by cases hy
 |x::r,h,y,hy=>by
  have hx:=h x List.mem_cons_self
  unfold zm at hx
  rw[eH] at hy
  rcases List.mem_cons.1 hy with rfl|hy
  ·exact(z91 (by omega) (by omega)).2
  ·rcases List.mem_cons.1 hy with rfl|hy
   ·exact(z91 (by omega) (by omega)).2
   ·exact z141 (fun z hz=>h z (List.mem_cons_of_mem _ hz)) y hy
theorem Og:∀l:List Int,(eH l).length=2*l.length
 | []=>rfl
 |x::r=>by rw[eH,List.length_cons,List.length_cons,Og r,List.length_cons];omega
theorem M3:∀{l:List Int} {i:Int},(∀x∈l,zm x)->iv (eH l) i=none
 | [],i,_=>rfl
 |x::r,i,h=>by
  have hx:=h x List.mem_cons_self
  unfold zm at hx
  rw[eH,iv,if_neg (by rw[(z91 (by omega) (by omega)).1];omega),iv,if_neg (by rw[(z91 (by omega) (by omega)).1];omega)]
  exact M3 fun z hz=>h z (List.mem_cons_of_mem _ hz)
theorem AV:∀{l:List Int},(∀x∈l,zm x)->fN (eH l)=l
 | [],_=>by simp [eH,fN]
 |x::r,h=>by
  have hx:=h x List.mem_cons_self
  unfold zm at hx
  rw[eH,fN,(z91 (by omega) (by omega)).1,(z91 (by omega) (by omega)).1,AV fun z hz=>h z (List.mem_cons_of_mem _ hz)]
  congr 1
  omega
theorem z143(s:ByteArray):bl (sN s)=eH (bl s):=z21 (z141 fun x hx=>j8 hx)
theorem QM(s:ByteArray):(sN s).size=2*s.size:=by rw[<-zg,z143,Og,zg]
theorem Oh(s:ByteArray):na (sN s)=(s,0,true):=by
 unfold na
 rw[z143,M3 (fun x hx=>j8 hx),AV (fun x hx=>j8 hx),vH,QM]
 dsimp only
 rw[if_neg (by omega)]
theorem ak3:∀b:Fin 256,0<=cT (b.1:Int)->ja (cT (b.1:Int))=(b.1:Int):=by decide+kernel
theorem M1{b:Int}(h:zm b)(h0:0<=cT b):ja (cT b)=b:=by
 obtain⟨k,rfl⟩:=m6 h
 exact ak3 k h0
theorem AW:∀{l:List Int},l.length % 2=0->(∀x∈l,zm x/\0<=cT x)->eH (fN l)=l/\∀y∈fN l,zm y
 | [],_,_=>⟨by simp [eH,fN],fun y hy=>by simp [fN] at hy⟩
 | [a],h,_=>by simp at h
 |a::b::r,h,hx=>by
  obtain⟨a1,a2⟩:=hx a (by simp)
  obtain⟨b1,b2⟩:=hx b (by simp)
  have a3:=EK a1
  have b3:=EK b1
  obtain⟨i1,i2⟩:=AW (l:=r) (by simp only[List.length_cons] at h;omega) fun y hy=>hx y (by simp [hy])
  rw[fN,eH]
  refine⟨?_,fun y hy=> ?_⟩
  ·rw[show(16*cT a+cT b)/16=cT a by omega,show(16*cT a+cT b)% 16=cT b by omega,M1 a1 a2,M1 b1 b2,i1]
  ·rcases List.mem_cons.1 hy with rfl|hy
   ·unfold zm;omega
   ·exact i2 y hy
theorem zih{s t:ByteArray}{i:Int}(h:na s=(t,i,true)):sN t=s/\s.size=2*t.size:=by
 unfold na at h
 cases hb:iv (bl s) 0 with
 |some q=>rw[hb] at h;cases h
 |none=>
  rw[hb] at h
  dsimp only at h
  by_cases hp:s.size % 2=1
  ·rw[if_pos hp] at h;cases h
  ·rw[if_neg hp] at h
   have ht:t=strOf (fN (bl s)):=(congrArg Prod.fst h).symm
   obtain⟨e1,e2⟩:=AW (l:=bl s) (by rw[zg];omega) fun x hx=>⟨j8 hx,agF hb x hx⟩
   have e3:sN t=s:=by
    unfold sN
    rw[ht,z21 e2,e1,vH]
   exact⟨e3,by rw[<-e3,QM]⟩
def cK(b:Int):Bool:=decide (48<=b/\b<=57)
def bk(l:List Int):Bool:=l.all cK
theorem zhj(b:Int)(l:List Int):bk (b::l)=(cK b&&bk l):=rfl
theorem PH{b:Int}(h:48<=b/\b<=57):cK b=true:=zT h
theorem EM{b:Int}(h:¬(48<=b/\b<=57)):cK b=false:=zF h
theorem SF{s:ByteArray}{j:Nat}(h:j<s.size):(bl s).getD j 0=((s[j]'h).toNat:Int):=by
 rw[<-mc]
 unfold ze
 rw[dif_pos h]
theorem Xq{s:ByteArray}{j:Nat}(h:j<s.size):(bl s).drop j=((s[j]'h).toNat:Int)::(bl s).drop (j+1):=by
 have h':j<(bl s).length:=by rw[zg];exact h
 rw[List.drop_eq_getElem_cons h']
 congr 1
 have:=SF h
 rw[List.getD_eq_getElem?_getD,List.getElem?_eq_getElem h'] at this
 exact this
theorem ade(s:ByteArray)(pos:Nat)(h:pos<s.size)(ha:128<=(s[pos]'h).toNat):128<=(Utf8.decode s pos).1:=by
 have e:s.get! (pos+0)=s[pos]'h:=by
  show s.get! pos=_
  simp [ByteArray.get!,getElem!_pos,h]
  rfl
 unfold Utf8.decode
 simp only[e]
 rw[if_neg (by omega)]
 have Tl:128<=Utf8.runeError:=by unfold Utf8.runeError;omega
 split
 ·split
  ·assumption
  ·exact Tl
 ·split
  ·split
   ·rename_i hc
    simp only[Bool.and_eq_true,decide_eq_true_eq] at hc
    have:=hc.1
    simp only
    omega
   ·exact Tl
  ·split
   ·split
    ·rename_i hc
     simp only[Bool.and_eq_true,decide_eq_true_eq] at hc
     have:=hc.1
     simp only
     omega
    ·exact Tl
   ·exact Tl
theorem z182(s:ByteArray):∀(n j k:Nat),s.size-j<=n->j<=s.size->n<k->Ir k (s,j)=some (bif bk ((bl s).drop j) then .inr () else .inl false)
 |n,j,0,_,_,hk=>by omega
 |n,j,k+1,hn,hj,hk=>by
  unfold Ir YB
  dsimp only
  by_cases al:j<s.size
  ·rw[zT al,zC,Xq al,zhj]
   by_cases h1:(s[j]'al).toNat<128
   ·rw[decode_ascii s j al h1]
    dsimp only
    by_cases h2:((s[j]'al).toNat:Int)<48
    ·rw[zT h2,zC,EM (by omega)];rfl
    ·rw[zF h2,zD]
     by_cases h3:(57:Int)<((s[j]'al).toNat:Int)
     ·rw[zT h3,zC,EM (by omega)];rfl
     ·obtain⟨n,rfl⟩:∃n',n=n'+1:=⟨n-1,by omega⟩
      rw[zF h3,zD,PH (by omega),Bool.true_and,z182 s n (j+1) k (by omega) (by omega) (by omega)]
   ·have hd:=ade s j al (by omega)
    rw[zF (by omega:¬((Utf8.decode s j).1:Int)<48),zD,zT (by omega:(57:Int)<((Utf8.decode s j).1:Int)),zC,EM (by omega)];rfl
  ·rw[zF al,zD,List.drop_eq_nil_of_le (by rw[zg];omega)];rfl
theorem XE(s:ByteArray)(h:s.size<=maxLen):yU s=some (bk (bl s)):=by
 unfold yU YA
 dsimp only
 rw[zh] at h
 rw[z182 s s.size 0 af (by omega) (by omega) (by rw[zu];omega),List.drop_zero]
 cases bk (bl s)<;>rfl
theorem adJ(b:Int):Jz b=some (cK b):=by
 unfold Jz Zh cK
 by_cases h:(48:Int)<=b
 ·rw[zT h,zC];congr 1;apply decide_eq_decide.2;omega
 ·rw[zF h,zD];congr 1;symm;apply zF;omega
theorem zvd(s:ByteArray)(hs:s.size<=9223372036854775807):∀(n j k:Nat),s.size-j<=n->j<=s.size->n<k->Iw k s (j:Int)=some (bif bk ((bl s).drop j) then .inr () else .inl false)
 |n,j,0,_,_,hk=>by omega
 |n,j,k+1,hn,hj,hk=>by
  unfold Iw Zg
  dsimp only
  by_cases al:j<s.size
  ·rw[zT (by omega),zC,zi al,adJ,Int.toNat_natCast,mc,SF al,Xq al,zhj]
   rw[Option.bind_some]
   cases h1:cK ((s[j]'al).toNat:Int) with
   |false=>rfl
   |true=>
    obtain⟨n,rfl⟩:∃n',n=n'+1:=⟨n-1,by omega⟩
    simp only[Bool.not_true,zD,Bool.true_and]
    rw[zv (by omega),zvd s hs n (j+1) k (by omega) (by omega) (by omega)]
  ·rw[zF (by omega),zD,List.drop_eq_nil_of_le (by rw[zg];omega)];rfl
theorem NI(s:ByteArray)(h:s.size<=maxLen):Hm s=some (bk (bl s)):=by
 unfold Hm Zf
 dsimp only
 rw[zh] at h
 have:=zvd s h s.size 0 af (by omega) (by omega) (by rw[zu];omega)
 rw[show((0:Nat):Int)=(0:Int) from rfl] at this
 rw[this,List.drop_zero]
 cases bk (bl s)<;>rfl
def fx(l:List Int)(n:Int):Int:=l.foldl (fun n b=>10*n+(b-48)) n
theorem zwz:∀(l:List Int) (n:Int) (k:Nat),bk l=true->0<=n->n<((10^k:Nat):Int)->l.length+k<=18->0<=fx l n/\fx l n<((10^(l.length+k):Nat):Int)
 | [],n,k,_,h1,h2,_=>by simpa [fx] using⟨h1,h2⟩
 |b::l,n,k,hd,h1,h2,hl=>by
  simp only[bk,List.all_cons,Bool.and_eq_true,cK,decide_eq_true_eq] at hd
  have hp:((10^(k+1):Nat):Int)=10*((10^k:Nat):Int):=by rw[Nat.pow_succ];omega
  have:=zwz l (10*n+(b-48)) (k+1) hd.2 (by omega) (by rw[hp];omega) (by simp at hl;omega)
  simp only[fx,List.foldl_cons,List.length_cons] at this⊢
  rw[show l.length+1+k=l.length+(k+1) by omega]
  exact this
theorem Br{k m:Nat}(h:k<=m):10^k<=10^m:=Nat.pow_le_pow_right (by decide) h
theorem QD(k:Nat):((10^(k+1):Nat):Int)=10*((10^k:Nat):Int):=by rw[Nat.pow_succ];omega
theorem Bs:(10:Nat)^17=100000000000000000:=by decide
theorem z196(s:ByteArray)(hs:s.size<=18)(hd:bk (bl s)=true):∀(n j k:Nat) (t:Int),s.size-j<=n->j<=s.size->n<k->0<=t->t<((10^j:Nat):Int)->Is k t (s,j)=some (fx ((bl s).drop j) t)
 |n,j,0,t,_,_,hk,_,_=>by omega
 |n,j,k+1,t,hn,hj,hk,h0,h1=>by
  unfold Is YE
  dsimp only
  by_cases al:j<s.size
  ·have Li:cK ((s[j]'al).toNat:Int)=true:=by
    have:=List.all_eq_true.1 hd ((bl s).getD j 0) (by
     rw[List.getD_eq_getElem?_getD,List.getElem?_eq_getElem (by rw[zg];exact al)]
     exact List.getElem_mem _)
    rw[SF al] at this
    exact this
   simp only[cK,decide_eq_true_eq] at Li
   rw[zT al,zC,decode_ascii s j al (by omega),Xq al]
   dsimp only
   have Ly:=QD j
   have w32:IntKind.i32.wrap (((s[j]'al).toNat:Int)-48)=((s[j]'al).toNat:Int)-48:=by
    simp [IntKind.wrap,IntKind.signed,IntKind.bits];omega
   obtain⟨n,rfl⟩:∃n',n=n'+1:=⟨n-1,by omega⟩
   have ht:t<100000000000000000:=by
    have:=Br (show j<=17 by omega)
    rw[Bs] at this
    omega
   have a1:zW zI (10*t)=10*t:=zj (by omega) (by omega)
   have a2:zW zI (((s[j]'al).toNat:Int)-48)=((s[j]'al).toNat:Int)-48:=zj (by omega) (by omega)
   rw[w32,a1,a2,zj (by omega) (by omega),z196 s hs hd n (j+1) k _ (by omega) (by omega) (by omega) (by omega) (by omega)]
   rfl
  ·rw[zF al,zD,List.drop_eq_nil_of_le (by rw[zg];omega)];rfl
def dM(l:List Int):Int×Bool:=if 1<=l.length/\l.length<=18/\bk l=true then(fx l 0,true) else(0,false)
theorem P8(s:ByteArray)(h:s.size<=maxLen):yV s=some (dM (bl s)):=by
 unfold yV YD dM
 dsimp only
 rw[zg]
 by_cases h0:s=bs []
 ·rw[zT h0,zC,if_neg]
  rw[h0]
  intro hh
  have:(bs []).size=0:=rfl
  omega
 ·have hz:s.size≠0:=fun e=>h0 (zdi.2 (List.eq_nil_of_length_eq_zero (by rw[zg];exact e)))
  rw[zF h0,zD]
  by_cases h1:(18:Int)<(s.size:Int)
  ·rw[zT h1,zC,if_neg (by omega)]
  ·rw[zF h1,zD,XE s h,Option.bind_some]
   cases hd:bk (bl s) with
   |false=>rw[if_neg (by simp)];rfl
   |true=>
    rw[if_pos ⟨by omega,by omega,rfl⟩]
    simp only[Bool.not_true,zD]
    rw[z196 s (by omega) hd s.size 0 af 0 (by omega) (by omega) (by rw[zu];omega) (by omega) (by decide),List.drop_zero,Option.bind_some]
    rfl
theorem zvz(s:ByteArray)(hs:s.size<=18)(hd:bk (bl s)=true):∀(n j k:Nat) (t:Int),s.size-j<=n->j<=s.size->n<k->0<=t->t<((10^j:Nat):Int)->Ix k s t (j:Int)=some (fx ((bl s).drop j) t)
 |n,j,0,t,_,_,hk,_,_=>by omega
 |n,j,k+1,t,hn,hj,hk,h0,h1=>by
  unfold Ix Zk
  dsimp only
  by_cases al:j<s.size
  ·have Li:cK ((s[j]'al).toNat:Int)=true:=by
    have:=List.all_eq_true.1 hd ((bl s).getD j 0) (by
     rw[List.getD_eq_getElem?_getD,List.getElem?_eq_getElem (by rw[zg];exact al)]
     exact List.getElem_mem _)
    rw[SF al] at this
    exact this
   simp only[cK,decide_eq_true_eq] at Li
   rw[zT (by omega),zC,zi al,Int.toNat_natCast,mc,SF al,Xq al]
   have Ly:=QD j
   obtain⟨n,rfl⟩:∃n',n=n'+1:=⟨n-1,by omega⟩
   have ht:t<100000000000000000:=by
    have:=Br (show j<=17 by omega)
    rw[Bs] at this
    omega
   have a1:zW zI (10*t)=10*t:=zj (by omega) (by omega)
   have a2:zW zI ((s[j]'al).toNat:Int)=((s[j]'al).toNat:Int):=zj (by omega) (by omega)
   have a3:zW zI (10*t+((s[j]'al).toNat:Int))=10*t+((s[j]'al).toNat:Int):=zj (by omega) (by omega)
   rw[a1,a2,a3,zj (by omega) (by omega),zv (by omega),zvz s hs hd n (j+1) k _ (by omega) (by omega) (by omega) (by omega) (by omega)]
   simp only[fx,List.foldl_cons]
   congr 2
   omega
  ·rw[zF (by omega),zD,List.drop_eq_nil_of_le (by rw[zg];omega)];rfl
theorem aiB(s:ByteArray)(h:s.size<=maxLen):JB s=some (dM (bl s)):=by
 unfold JB Zj dM
 dsimp only
 rw[zg]
 by_cases h0:(s.size:Int)<1
 ·rw[zT h0,zC,if_neg (by omega)]
 ·rw[zF h0,zD]
  by_cases h1:(18:Int)<(s.size:Int)
  ·rw[zT h1,zC,if_neg (by omega)]
  ·rw[zF h1,zD,NI s h,Option.bind_some]
   cases hd:bk (bl s) with
   |false=>rw[if_neg (by simp)];rfl
   |true=>
    rw[if_pos ⟨by omega,by omega,rfl⟩]
    simp only[Bool.not_true,zD]
    have:=zvz s (by omega) hd s.size 0 af 0 (by omega) (by omega) (by rw[zu];omega) (by omega) (by decide)
    rw[show((0:Nat):Int)=(0:Int) from rfl] at this
    rw[this,List.drop_zero,Option.bind_some]
    rfl
def n7:Nat->Nat->List Int
 |0,_=>[]
 |w+1,n=>n7 w (n/10)++ [((48+n % 10:Nat):Int)]
theorem QR:∀w n,(n7 w n).length=w
 |0,_=>rfl
 |w+1,n=>by rw[n7,List.length_append,QR w];rfl
theorem Xp:∀w n,bk (n7 w n)=true
 |0,_=>rfl
 |w+1,n=>by
  rw[n7,bk,List.all_append,Bool.and_eq_true]
  refine⟨Xp w _,?_⟩
  rw[List.all_cons,List.all_nil,Bool.and_true]
  exact PH (by omega)
theorem Rj{l:List Int}(h:bk l=true):∀x∈l,zm x:=fun x hx=>by
 have:=List.all_eq_true.1 h x hx
 simp only[cK,decide_eq_true_eq] at this
 unfold zm;omega
theorem ac1(a b:List Int):strOf (a++b)=strOf a++strOf b:=by
 apply ByteArray.ext
 simp [strOf,ByteArray.data_append]
theorem apR(n:Nat):Int.tmod (n:Int) 10=((n % 10:Nat):Int):=by rw[Int.tmod_eq_emod_of_nonneg (by omega)];omega
theorem apQ(n:Nat):Int.tdiv (n:Int) 10=((n/10:Nat):Int):=by rw[Int.tdiv_eq_ediv_of_nonneg (by omega)];omega
theorem akI(n:Nat):zW zU (zW zI ((48:Int)+((n % 10:Nat):Int)))=((48+n % 10:Nat):Int):=by
 rw[zj (by omega) (by omega),vC (by omega) (by omega)];omega
theorem EI(n w:Nat):n/10/10^w=n/10^(w+1):=by rw[Nat.div_div_eq_div_mul,Nat.pow_succ,Nat.mul_comm]
theorem fT(x:Int)(tail:List Int):∀j,(List.replicate (j+1) (0:Int)++tail).set j x=List.replicate j 0++x::tail
 |0=>rfl
 |j+1=>by
  show(0:Int)::((List.replicate (j+1) (0:Int)++tail).set j x)=0::(List.replicate j 0++x::tail)
  rw[fT x tail j]
theorem OH(nt nt2:Nat)(hnt:nt<=18):∀(j k n:Nat) (tail:List Int),nt=j+tail.length->n<=9223372036854775807->j<k->
 G7 k (n:Int) nt ((j:Int)-1) nt2 (List.replicate j 0++tail)=some (((n/10^j:Nat):Int),nt,nt2,n7 j n++tail)
 |j,0,n,tail,_,_,hk=>by omega
 |0,k+1,n,tail,h,hn,hk=>by
  unfold G7 Sm
  dsimp only
  rw[zF (by omega),zD]
  simp [n7]
 |j+1,k+1,n,tail,h,hn,hk=>by
  unfold G7 Sm
  dsimp only
  have e:(((j+1:Nat):Int)-1)=(j:Int):=by omega
  rw[e,zT (by omega:(0:Int)<=(j:Int)),zC,zi (by omega),Int.toNat_natCast,apR,apQ,akI]
  have hb:Nat.ble (j+1) (List.replicate (j+1) (0:Int)++tail).length=true:=Nat.ble_eq_true_of_le (by simp)
  rw[hb,zC,yG (by omega),zj (by omega) (by omega)]
  rw[fT,OH nt nt2 hnt j k (n/10) _ (by simp;omega) (by omega) (by omega),EI]
  simp [n7]
def gN(n w:Int):ByteArray×Bool:=bif decide (0<=n/\1<=w/\w<=18/\n.toNat/10^w.toNat=0) then(strOf (n7 w.toNat n.toNat),true) else(bs [],false)
theorem ZR{n w:Int}(h:0<=n/\1<=w/\w<=18/\n.toNat/10^w.toNat=0):gN n w=(strOf (n7 w.toNat n.toNat),true):=by unfold gN;rw[zT h];rfl
theorem SP{n w:Int}(h:¬(0<=n/\1<=w/\w<=18/\n.toNat/10^w.toNat=0)):gN n w=(bs [],false):=by unfold gN;rw[zF h];rfl
theorem aog(n w:Int)(hn:n<=9223372036854775807):I8 n w=some (gN n w):=by
 unfold I8 YH
 dsimp only
 by_cases h1:n<0
 ·rw[zT h1,zC,SP (by omega)]
 rw[zF h1,zD]
 by_cases h2:w<1
 ·rw[zT h2,zC,SP (by omega)]
 rw[zF h2,zD]
 by_cases h3:(18:Int)<w
 ·rw[zT h3,zC,SP (by omega)]
 rw[zF h3,zD,zT (rfl:w=w),zC,zT (by omega:(0:Int)<=w),zC,zT (by omega:w*1<=140737488355328),zC]
 obtain⟨m,rfl⟩:∃m:Nat,n=m:=⟨n.toNat,by omega⟩
 obtain⟨v,rfl⟩:∃v:Nat,w=v:=⟨w.toNat,by omega⟩
 simp only[Int.toNat_natCast]
 have:=OH v v (by omega) v af m [] (by simp) (by omega) (by rw[zu];omega)
 simp only[List.append_nil] at this
 rw[zj (by omega) (by omega),this,zc]
 unfold YI
 dsimp only
 by_cases h4:(0:Int)<((m/10^v:Nat):Int)
 ·rw[zT h4,zC,SP (by simp only[Int.toNat_natCast];generalize m/10^v=q at h4⊢;omega)]
 ·rw[zF h4,zD,QR,Nat.beq_refl,zC,ZR (by simp only[Int.toNat_natCast];generalize m/10^v=q at h4⊢;omega)]
  simp only[Int.toNat_natCast]
theorem zpf(l r:List Int)(n:Int):fx (l++r) n=fx r (fx l n):=by unfold fx;rw[List.foldl_append]
theorem OV:∀w n,n/10^w=0->fx (n7 w n) 0=(n:Int)
 |0,n,h=>by simp at h;subst h;rfl
 |w+1,n,h=>by
  rw[n7,zpf,OV w (n/10) (by rw[EI];exact h)]
  simp only[fx,List.foldl_cons,List.foldl_nil]
  omega
theorem N5:∀(w n:Nat) (l:List Int),bk l=true->w=l.length->fx l 0=(n:Int)->n7 w n=l/\n/10^w=0
 |0,n,l,hd,hw,hv=>by
  obtain rfl:=List.eq_nil_of_length_eq_zero hw.symm
  have:(0:Int)=n:=hv
  obtain rfl:n=0:=by omega
  exact⟨rfl,rfl⟩
 |w+1,n,l,hd,hw,hv=>by
  have bK:l≠ []:=by intro e;subst e;simp at hw
  obtain⟨r,b,rfl⟩:∃r b,l=r++ [b]:=⟨l.dropLast,l.getLast bK,(List.dropLast_concat_getLast bK).symm⟩
  rw[bk,List.all_append,Bool.and_eq_true,List.all_cons,List.all_nil,Bool.and_true] at hd
  have hb:=hd.2
  simp only[cK,decide_eq_true_eq] at hb
  rw[zpf] at hv
  have jK:10*fx r 0+(b-48)=n:=hv
  obtain⟨i1,i2⟩:=N5 w (n/10) r hd.1 (by simpa using hw) (by omega)
  refine⟨?_,by rw[<-EI];exact i2⟩
  rw[n7,i1]
  congr 2
  omega
def fL(l:List Int):Bool:=l.all fun b=>decide (b=48)
theorem TY(b:Int)(l:List Int):fL (b::l)=(decide (b=48)&&fL l):=rfl
theorem zaq(a b:List Int):fL (a++b)=(fL a&&fL b):=List.all_append ..
theorem adV(s:ByteArray)(x:Int)(l:List Int)(h:bl s=x::l):ze s 0=x:=by rw[mc,h];rfl
theorem Mg(k:Nat):∀(s:ByteArray),s.size<k->s.size<=9223372036854775807->∃r,Ie k s 48=some r/\fL (bl r)=fL (bl s)/\(fL (bl s)=true->bl r=[])/\r.size<=s.size:=by
 induction k with
 |zero=>intro s h;omega
 |succ k ih=>
  intro s h hs
  unfold Ie WT
  dsimp only
  by_cases h0:(0:Int)<(s.size:Int)
  ·have hm:zW zI ((s.size:Int)-1)=((s.size-1:Nat):Int):=by rw[zj (by omega) (by omega)];omega
   rw[zT h0,zC,hm,zi (by omega),Int.toNat_natCast]
   have hl:(bl s).length=s.size:=zg s
   have bK:bl s≠ []:=by intro e;rw[e] at hl;simp at hl;omega
   obtain⟨r,b,hb⟩:∃r b,bl s=r++ [b]:=⟨(bl s).dropLast,(bl s).getLast bK,(List.dropLast_concat_getLast bK).symm⟩
   have hr:r.length=s.size-1:=by rw[hb] at hl;simp at hl;omega
   have hx:ze s (s.size-1)=b:=by
    rw[mc,hb,<-hr,List.getD_eq_getElem?_getD];simp
   rw[hx]
   by_cases hz:b=48
   ·rw[zT hz,zC,zT (by omega:(0:Int)<=((s.size-1:Nat):Int)),zC,zT (by omega:((s.size-1:Nat):Int)<=((s.size:Nat):Int)),zC]
    have he:bl (s.extract 0 (s.size-1))=r:=by rw[sD,hb,List.drop_zero,<-hr,List.take_left'];rfl
    have c9:(s.extract 0 (s.size-1)).size=s.size-1:=by rw[<-zg,he,hr]
    obtain⟨q,q1,q2,q3,q4⟩:=ih (s.extract 0 (s.size-1)) (by omega) (by omega)
    refine⟨q,q1,?_,fun ha=>q3 ?_,by omega⟩
    ·rw[q2,he,hb,zaq,TY,zT hz];simp [fL]
    ·rw[hb,zaq,Bool.and_eq_true] at ha
     rw[he];exact ha.1
   ·rw[zF hz,zD]
    refine⟨s,rfl,rfl,fun ha=> ?_,Nat.le_refl _⟩
    rw[hb,zaq,TY,zF hz] at ha
    simp at ha
  ·rw[zF h0,zD]
   refine⟨s,rfl,rfl,fun _=>List.eq_nil_of_length_eq_zero (by rw[zg];omega),Nat.le_refl _⟩
theorem KY{s:ByteArray}{x:Int}{l:List Int}(h:bl s=x::l):bl (s.extract 1 s.size)=l:=by
 rw[sD,<-zg,List.take_length,h];rfl
theorem Mf(k:Nat):∀(s:ByteArray),s.size<k->s.size<=9223372036854775807->∃r,Ic k s 48=some r/\((bl r=[])↔fL (bl s)=true):=by
 induction k with
 |zero=>intro s h;omega
 |succ k ih=>
  intro s h hs
  unfold Ic WO
  dsimp only
  have hl:(bl s).length=s.size:=zg s
  by_cases h0:(0:Int)<(s.size:Int)
  ·rw[zT h0,zC,zo (by omega) h0]
   cases hb:bl s with
   |nil=>rw[hb] at hl;simp at hl;omega
   |cons x l=>
    rw[show((0:Int)).toNat=0 from rfl,show((1:Int)).toNat=1 from rfl,adV s x l hb]
    by_cases hz:x=48
    ·rw[zT hz,zC,zT (by omega:(1:Int)<=((s.size:Nat):Int)),zC]
     have he:=KY hb
     have c9:(s.extract 1 s.size).size=s.size-1:=by rw[<-zg,he,<-hl,hb];simp
     obtain⟨q,q1,q2⟩:=ih (s.extract 1 s.size) (by omega) (by omega)
     refine⟨q,q1,q2.trans ?_⟩
     rw[he,TY,zT hz];simp
    ·rw[zF hz,zD]
     refine⟨s,rfl,?_⟩
     rw[hb,TY,zF hz];simp
  ·rw[zF h0,zD]
   have:bl s=[]:=List.eq_nil_of_length_eq_zero (by omega)
   refine⟨s,rfl,?_⟩
   rw[this];simp [fL]
theorem anx(s:ByteArray)(h:s.size<=9223372036854775807):∃r,uh s (bs [48])=some r/\(r=bs []↔fL (bl s)=true):=by
 unfold uh WL
 by_cases h0:s=bs []
 ·rw[zT h0,zC]
  refine⟨s,rfl,?_⟩
  rw[h0];simp [zr1,fL]
 rw[zF h0,zD,zF (show¬bs [48]=bs [] from fun e=>absurd (congrArg ByteArray.size e) (by decide)),zD,zT (by rfl:(((bs [48]).size:Nat):Int)=1),zC]
 have hb:ze (bs [48]) ((0:Int)).toNat=48:=by rw[mc];rfl
 have hw {R:Type} (x:Option R):zd (0:Int) (bs [48]).size x=x:=zo (by omega) (by decide)
 rw[hw,hb,zT (by decide:(48:Int)<128),zC,hw]
 unfold wR WS
 dsimp only
 obtain⟨r,r1,r2,r3,r4⟩:=Mg af s (by rw[zu];omega) h
 rw[r1,zc]
 unfold WU
 rw[zc,hw]
 unfold wQ WN
 dsimp only
 obtain⟨q,q1,q2⟩:=Mf af r (by rw[zu];omega) (by omega)
 rw[q1,zc]
 unfold WQ
 rw[zc]
 refine⟨q,rfl,?_⟩
 rw[zdi,q2,r2]
theorem ziv:∀(c:Nat),bl ⟨(Go.Lib.repeatL (bs [48]).data.toList c).toArray⟩=List.replicate c 48
 |0=>rfl
 |c+1=>by
  rw[List.replicate_succ,<-ziv c]
  simp only[bl,Go.Lib.repeatL,List.map_append]
  rfl
def dm(s:ByteArray)(w:Int):ByteArray×Bool:=
 bif decide (1<=s.size/\s.size<=999/\bk (bl s)=true/\1<=w/\w<=999) then
  (bif decide ((s.size:Int)<=w) then(strOf (List.replicate (w-s.size).toNat 48++bl s),true)
   else bif fL ((bl s).take (s.size-w.toNat)) then(strOf ((bl s).drop (s.size-w.toNat)),true) else(bs [],false))
 else(bs [],false)
theorem IF{s:ByteArray}{w:Int}(h:¬(1<=s.size/\s.size<=999/\bk (bl s)=true/\1<=w/\w<=999)):dm s w=(bs [],false):=by unfold dm;rw[zF h];rfl
theorem ZQ{s:ByteArray}{w:Int}(h:1<=s.size/\s.size<=999/\bk (bl s)=true/\1<=w/\w<=999):dm s w=(bif decide ((s.size:Int)<=w) then(strOf (List.replicate (w-s.size).toNat 48++bl s),true)
 else bif fL ((bl s).take (s.size-w.toNat)) then(strOf ((bl s).drop (s.size-w.toNat)),true) else(bs [],false)):=by unfold dm;rw[zT h];rfl
theorem aof(s:ByteArray)(w:Int)(h:s.size<=maxLen):I6 s w=some (dm s w):=by
 unfold I6 YF
 dsimp only
 by_cases h0:s=bs []
 ·rw[zT h0,zC,IF]
  intro hh
  rw[h0] at hh
  exact absurd hh.1 (by decide)
 have hz:s.size≠0:=fun e=>h0 (zdi.2 (List.eq_nil_of_length_eq_zero (by rw[zg];exact e)))
 rw[zF h0,zD]
 by_cases h1:(999:Int)<(s.size:Int)
 ·rw[zT h1,zC,IF (by omega)]
 rw[zF h1,zD,XE s h,zc]
 cases hd:bk (bl s) with
 |false=>rw[IF (by rw[hd];simp)];rfl
 |true=>
  rw[Bool.not_true,zD]
  by_cases h2:w<1
  ·rw[zT h2,zC,IF (by omega)]
  rw[zF h2,zD]
  by_cases h3:(999:Int)<w
  ·rw[zT h3,zC,IF (by omega)]
  rw[zF h3,zD,ZQ ⟨by omega,by omega,hd,by omega,by omega⟩]
  obtain⟨v,rfl⟩:∃v:Nat,w=v:=⟨w.toNat,by omega⟩
  by_cases h4:(s.size:Int)<=(v:Int)
  ·rw[zT h4,zC,zC]
   obtain⟨c,hc⟩:∃c:Nat,(v:Int)-(s.size:Int)=(c:Int):=⟨v-s.size,by omega⟩
   rw[hc,yG (by omega)]
   have hR:strings_Repeat (bs [48]) (c:Int)=some ⟨(Go.Lib.repeatL (bs [48]).data.toList c).toArray⟩:=by
    unfold strings_Repeat
    rw[zT (by omega:(0:Int)<=(c:Int)),zT (by omega:(c:Int)<=9223372036854775807),zT (by rw[show(((bs [48]).size:Nat):Int)=1 from rfl];omega),Int.toNat_natCast]
    rfl
   rw[hR,zc]
   have c9:((⟨(Go.Lib.repeatL (bs [48]).data.toList c).toArray⟩:ByteArray)).size=c:=by rw[<-zg,ziv,List.length_replicate]
   rw[c9,zT (by omega),zC,Int.toNat_natCast]
   congr 2
   apply wy
   rw[oi,ziv,z21]
   intro x hx
   rcases List.mem_append.1 hx with hx|hx
   ·rw[(List.mem_replicate.1 hx).2];unfold zm;omega
   ·exact j8 hx
  ·rw[zF h4,zD,zD]
   obtain⟨c,hc⟩:∃c:Nat,(s.size:Int)-(v:Int)=(c:Int):=⟨s.size-v,by omega⟩
   have hcv:s.size-((v:Int)).toNat=c:=by omega
   rw[hc,yG (by omega),zT (by omega:(0:Int)<=(c:Int)),zC,zT (by omega:(c:Int)<=((s.size:Nat):Int)),zC,Int.toNat_natCast,hcv]
   have hx:bl (s.extract 0 c)=(bl s).take c:=by rw[sD,List.drop_zero]
   have sY:(s.extract 0 c).size=c:=by rw[<-zg,hx,List.length_take,zg];omega
   obtain⟨r,r1,r2⟩:=anx (s.extract 0 c) (by omega)
   rw[r1,zc]
   rw[hx] at r2
   cases ha:fL ((bl s).take c) with
   |true=>
    rw[zT (r2.2 ha),Bool.not_true,zD,zC,zC]
    congr 2
    apply wy
    rw[sD,<-zg,List.take_length,z21]
    exact fun x hx=>j8 (List.mem_of_mem_drop hx)
   |false=>
    rw[zF (fun e=>by rw[r2.1 e] at ha;cases ha),Bool.not_false,zC];rfl
def eF:List Int->List Int
 |a::b::r=>(16*(a-48)+(b-48))::eF r
 |_=>[]
def rl(s:ByteArray):ByteArray×Bool:=
 bif decide (s.size<=999/\bk (bl s)=true) then(strOf (eF (if s.size % 2=1 then 48::bl s else bl s)),true) else(bs [],false)
def iw(odd:Bool):List Int->Nat->Option (Int×Int)
 | [],_=>none
 |x::r,i=>if i=0/\odd=true/\x/16≠0 then some (4,0) else if 9<x/16\/9<x % 16 then some (3,i) else iw odd r (i+1)
def eE:List Int->List Int
 | []=>[]
 |x::r=>(48+x/16)::(48+x % 16)::eE r
def kZ(b:ByteArray)(n:Int):ByteArray×Int×Int:=
 if n<0\/999<n then(bs [],1,0) else if(b.size:Int)<(n+1)/2 then(bs [],2,(b.size:Int)) else
 match iw (decide (n % 2=1)) ((bl b).take ((n+1)/2).toNat) 0 with
 |some e=>(bs [],e.1,e.2)
 |none=>(strOf ((eE ((bl b).take ((n+1)/2).toNat)).drop (n % 2).toNat),0,0)
theorem akt:∀a b:Fin 10,aR .or .u8 (zW zU ((zW zU ((48+(a.1:Int))-48))*2^min ((4:Int)).toNat 8)) (zW zU ((48+(b.1:Int))-48))=16*(a.1:Int)+(b.1:Int):=by decide+kernel
theorem Pz{x:Int}(h:cK x=true):∃k:Fin 10,x=48+(k.1:Int):=by
 unfold cK at h
 simp only[Bool.and_eq_true,decide_eq_true_eq] at h
 exact⟨⟨(x-48).toNat,by omega⟩,by simp;omega⟩
theorem aac{x y:Int}(hx:cK x=true)(hy:cK y=true):aR .or .u8 (zW zU ((zW zU (x-48))*2^min ((4:Int)).toNat 8)) (zW zU (y-48))=16*(x-48)+(y-48):=by
 obtain⟨a,rfl⟩:=Pz hx
 obtain⟨b,rfl⟩:=Pz hy
 have:=akt a b
 rw[this];omega
theorem zas(s:ByteArray)(hs:s.size<=1099511627776)(hev:s.size % 2=0)(hd:bk (bl s)=true):∀(n j k:Nat) (o:List Int),j+2*n=s.size->n<k->o.length+n<=35184372088832->km k s o (j:Int)=some (o++eF ((bl s).drop j))
 |n,j,0,o,_,hk,_=>by omega
 |0,j,k+1,o,hj,hk,_=>by
  unfold km nk
  rw[zF (by omega),zD,List.drop_eq_nil_of_le (by rw[zg];omega),eF,List.append_nil]
  exact fun _ _ _ h=>by cases h
 |n+1,j,k+1,o,hj,hk,ho=>by
  have al:j<s.size:=by omega
  have xT:j+1<s.size:=by omega
  have hl:j<(bl s).length:=by rw[zg];exact al
  have A5:j+1<(bl s).length:=by rw[zg];exact xT
  have d1:=List.all_eq_true.1 hd _ (List.getElem_mem hl)
  have d2:=List.all_eq_true.1 hd _ (List.getElem_mem A5)
  have e:zW zI ((j:Int)+2)=((j+2:Nat):Int):=by rw[zj (by omega) (by omega)];omega
  unfold km nk
  rw[zT (by omega),zC,zi al,zv (by omega),zi xT,Int.toNat_natCast,Int.toNat_natCast,Sa hl,Sa A5,aac d1 d2,zT (by simp only[List.length_singleton];omega),zC,e]
  dsimp only
  rw[zas s hs hev hd n (j+2) k _ (by omega) (by omega) (by rw[List.length_append,List.length_singleton];omega),List.drop_eq_getElem_cons hl,List.drop_eq_getElem_cons A5,eF,List.append_assoc]
  rfl
theorem aad:bl (bs [48])=[48]:=by decide
theorem zhr(s:ByteArray)(hs:s.size<=maxLen):Q1 s=some (rl s):=by
 unfold Q1 lE rl
 by_cases h1:(999:Int)<(s.size:Int)
 ·rw[zT h1,zC,zF (by omega)];rfl
 ·rw[zF h1,zD,XE s hs,zc]
  cases hd:bk (bl s) with
  |false=>rw[zF (p:=s.size<=999/\false=true) (fun h=>by cases h.2)];rfl
  |true=>
   rw[Bool.not_true,zD,zT (⟨by omega,rfl⟩:s.size<=999/\true=true),zC,HY]
   by_cases hp:s.size % 2=1
   ·have c9:(bs [48]++s).size=s.size+1:=by rw[ByteArray.size_append];show 1+s.size=_;omega
    have hb:bl (bs [48]++s)=48::bl s:=by rw[oi,aad];rfl
    rw[if_pos hp,zF (by omega),Bool.not_false,zC,zT (by show 1+s.size<=_;omega),zC,c9]
    have e:Int.tdiv ((s.size+1:Nat):Int) 2=(((s.size+1)/2:Nat):Int):=rfl
    rw[e,zj (by omega) (by omega),zT (by omega),zC,zT (by omega),zC]
    have:=zas (bs [48]++s) (by omega) (by omega) (by rw[hb];show(cK 48&&bk (bl s))=true;rw[hd];rfl) ((s.size+1)/2) 0 af [] (by omega) (by rw[zu];omega) (by simp;omega)
    rw[show((0:Nat):Int)=0 from rfl,List.drop_zero,List.nil_append,hb] at this
    dsimp only
    rw[this];rfl
   ·rw[if_neg hp,zT (by omega),Bool.not_true,zD]
    have e:Int.tdiv ((s.size:Nat):Int) 2=((s.size/2:Nat):Int):=rfl
    rw[e,zj (by omega) (by omega),zT (by omega),zC,zT (by omega),zC]
    have:=zas s (by omega) (by omega) hd (s.size/2) 0 af [] (by omega) (by rw[zu];omega) (by simp;omega)
    rw[show((0:Nat):Int)=0 from rfl,List.drop_zero,List.nil_append] at this
    dsimp only
    rw[this];rfl
theorem QQ(n:Int)(h0:0<=n)(h1:n<=999):Q2 n=some ((n+1)/2):=by
 unfold Q2 pN
 obtain⟨m,rfl⟩:∃m:Nat,n=m:=⟨n.toNat,by omega⟩
 by_cases h:(m:Int)<1
 ·rw[zT h,zC]
  congr 1
  omega
 ·rw[zF h,zD,HY]
  have e:Int.tdiv (m:Int) 2=((m/2:Nat):Int):=rfl
  have e2:zW zI ((m/2:Nat):Int)=((m/2:Nat):Int):=zj (by omega) (by omega)
  rw[e,e2,zj (by omega) (by omega)]
  congr 1
  omega
theorem alo:∀d:Fin 16,d.1<=9->zW zU ((48:Int)+(d.1:Int))=48+(d.1:Int):=by decide+kernel
theorem LY{d:Nat}(h:d<=9):zW zU ((48:Int)+(d:Int))=48+(d:Int):=alo ⟨d,by omega⟩ h
theorem zol(b:ByteArray)(hb0:b.size<=1099511627776)(nn:Nat)(hn:nn<=999)(m:Nat)(hm:m<=b.size):∀(n j k:Nat) (o:List Int),j+n=m->n<k->o.length+2*n<=35184372088832->∃o',jF k b (nn:Int) o (m:Int) (j:Int)=some (match iw (decide (nn % 2=1)) (((bl b).take m).drop j) j with
 |some e=> .inl ((nn:Int),bs [],e.1,e.2,o')
 |none=> .inr ((nn:Int),o++eE (((bl b).take m).drop j)))
 |n,j,0,o,_,hk,_=>by omega
 |0,j,k+1,o,hj,hk,_=>by
  unfold jF ng
  rw[zF (by omega),zD,List.drop_eq_nil_of_le (by rw[List.length_take,zg];omega)]
  exact⟨o,by simp [iw,eE]⟩
 |n+1,j,k+1,o,hj,hk,ho=>by
  have al:j<b.size:=by omega
  have hl:j<(bl b).length:=by rw[zg];exact al
  have hl2:j<((bl b).take m).length:=by rw[List.length_take];omega
  obtain⟨x,hx,_,_⟩:=nib (j8 (List.getElem_mem hl))
  have Bh:=x.2
  have ih:=zol b hb0 nn hn m hm n (j+1) k (o++ [48+((x.1/16:Nat):Int),48+((x.1 % 16:Nat):Int)]) (by omega) (by omega) (by rw[List.length_append];simp only[List.length_cons,List.length_nil];omega)
  have hw:∀{R:Type} (z:Option R),zd (j:Int) b.size z=z:=fun z=>zi al
  have ju:((bl b).take m).drop j=(x.1:Int)::((bl b).take m).drop (j+1):=by rw[List.drop_eq_getElem_cons hl2,List.getElem_take,hx]
  rw[ju,iw,eE]
  unfold jF ng
  simp only[hw,Int.toNat_natCast,Sa hl,hx,(XA x).1,(XA x).2.1,HY]
  rw[zT (by omega:(j:Int)<(m:Int)),zC]
  have e16:(x.1:Int)/16=((x.1/16:Nat):Int):=by omega
  have e17:(x.1:Int)% 16=((x.1 % 16:Nat):Int):=by omega
  rw[e16,e17]
  have plain:∀(Z:Option (Sum (Int×ByteArray×Int×Int×List Int) (Int×List Int))),Z=(bif decide ((9:Int)<((x.1/16:Nat):Int)) then some (.inl ((nn:Int),bs [],(3:Int),(j:Int),o)) else bif decide ((9:Int)<((x.1 % 16:Nat):Int)) then some (.inl ((nn:Int),bs [],(3:Int),(j:Int),o)) else(bif decide ((o.length+(List.length ([zW zU (48+((x.1/16:Nat):Int)),zW zU (48+((x.1 % 16:Nat):Int))]:List Int)))*1<=140737488355328) then jF k b (nn:Int) (o++ [zW zU (48+((x.1/16:Nat):Int)),zW zU (48+((x.1 % 16:Nat):Int))]) (m:Int) (zW zI ((j:Int)+1)) else none))->
   ∃o',Z=some (match(if 9<((x.1/16:Nat):Int)\/9<((x.1 % 16:Nat):Int) then some ((3:Int),(j:Int)) else iw (decide (nn % 2=1)) (((bl b).take m).drop (j+1)) (j+1)) with
    |some e=> .inl ((nn:Int),bs [],e.1,e.2,o')
    |none=> .inr ((nn:Int),o++(48+((x.1/16:Nat):Int))::(48+((x.1 % 16:Nat):Int))::eE (((bl b).take m).drop (j+1)))):=fun Z hZ=>by
   rw[hZ]
   by_cases c1:(9:Int)<((x.1/16:Nat):Int)
   ·rw[zT c1,if_pos (.inl c1)]
    exact⟨o,rfl⟩
   ·by_cases c2:(9:Int)<((x.1 % 16:Nat):Int)
    ·rw[zF c1,zD,zT c2,if_pos (.inr c2)]
     exact⟨o,rfl⟩
    ·rw[zF c1,zD,zF c2,zD,if_neg (fun h=>h.elim c1 c2),LY (by omega),LY (by omega),zT (by simp only[List.length_cons,List.length_nil];omega),zC,zv (by omega)]
     obtain⟨o',h⟩:=ih
     refine⟨o',h.trans ?_⟩
     rw[List.append_assoc]
     rfl
  by_cases j0:j=0
  ·subst j0
   rw[zT (by omega:((0:Nat):Int)=0),zC]
   by_cases hp:nn % 2=1
   ·rw[zT hp,zF (by omega:¬((nn % 2:Nat):Int)=0),Bool.not_false,zC]
    by_cases hz:x.1/16=0
    ·rw[if_neg (by omega),zT (by omega),Bool.not_true,zD]
     have:=plain _ rfl
     rw[zT hp] at this
     exact this
    ·rw[if_pos (by simp;omega),zF (by omega),Bool.not_false,zC]
     exact⟨o,rfl⟩
   ·rw[zF hp,zT (by omega:((nn % 2:Nat):Int)=0),Bool.not_true,zD,if_neg (by simp)]
    have:=plain _ rfl
    rw[zF hp] at this
    exact this
  ·rw[zF (by omega:¬(j:Int)=0),zD,if_neg (by omega)]
   exact plain _ rfl
theorem zhq(b:ByteArray)(n:Int)(hb:b.size<=1099511627776):Q0 b n=some (kZ b n):=by
 unfold Q0 pD kZ
 by_cases h0:n<0
 ·rw[zT h0,if_pos (.inl h0)];rfl
 ·rw[zF h0,zD]
  by_cases h1:999<n
  ·rw[zT h1,if_pos (.inr h1)];rfl
  ·rw[zF h1,zD,if_neg (fun h=>h.elim h0 h1),QQ n (by omega) (by omega),zc]
   by_cases h2:(b.size:Int)<(n+1)/2
   ·rw[zT h2,if_pos h2];rfl
   ·rw[zF h2,zD,if_neg h2,zj (by omega) (by omega),zT (by omega),zC,zT (by omega),zC,zc]
    obtain⟨nn,rfl⟩:∃nn:Nat,n=nn:=⟨n.toNat,by omega⟩
    have em:((nn:Int)+1)/2=(((nn+1)/2:Nat):Int):=by omega
    have ep:((nn:Int)% 2).toNat=nn % 2:=by omega
    have eo:decide ((nn:Int)% 2=1)=decide (nn % 2=1):=decide_eq_decide.2 (by omega)
    rw[em,Int.toNat_natCast,eo,ep]
    obtain⟨o',h⟩:=zol b hb nn (by omega) ((nn+1)/2) (by omega) ((nn+1)/2) 0 af [] (by omega) (by rw[zu];omega) (by simp;omega)
    rw[show((0:Nat):Int)=0 from rfl,List.drop_zero,List.nil_append] at h
    dsimp only
    rw[h,zc]
    cases iw (decide (nn % 2=1)) ((bl b).take ((nn+1)/2)) 0 with
    |some e=>rfl
    |none=>
     dsimp only
     rw[Sum.elim_inr]
     unfold pE
     dsimp only
     rw[HY,zT (by omega),zC]
     have hlen:∀l:List Int,(eE l).length=2*l.length:=fun l=>by
      induction l with
      |nil=>rfl
      |cons x r ih=>rw[eE,List.length_cons,List.length_cons,ih,List.length_cons];omega
     rw[zT (by rw[hlen,List.length_take,zg];omega),zC,Int.toNat_natCast,List.take_length]
theorem sF{a:Int}{l:List Int}:bk (a::l)=true↔cK a=true/\bk l=true:=by
 rw[zhj,Bool.and_eq_true]
theorem vY{a:Int}:cK a=true↔48<=a/\a<=57:=by
 unfold cK
 rw[decide_eq_true_eq]
theorem zqt:∀l:List Int,(eF l).length=l.length/2
 | []=>rfl
 | [a]=>by simp [eF]
 |a::b::r=>by rw[eF,List.length_cons,zqt r,List.length_cons,List.length_cons];omega
theorem zqs:∀l:List Int,(eE l).length=2*l.length
 | []=>rfl
 |x::r=>by rw[eE,List.length_cons,List.length_cons,zqs r,List.length_cons];omega
theorem Mt:∀{l:List Int},bk l=true->∀y∈eF l,zm y
 | [],_,y,hy=>by simp [eF] at hy
 | [a],_,y,hy=>by simp [eF] at hy
 |a::b::r,h,y,hy=>by
  obtain⟨h1,h2⟩:=sF.1 h
  obtain⟨h2,h3⟩:=sF.1 h2
  rw[vY] at h1 h2
  rw[eF] at hy
  rcases List.mem_cons.1 hy with rfl|hy
  ·unfold zm;omega
  ·exact Mt h3 y hy
theorem AF:∀{l:List Int},l.length % 2=0->bk l=true->eE (eF l)=l
 | [],_,_=>by simp [eF,eE]
 | [a],h,_=>by simp at h
 |a::b::r,h,hd=>by
  obtain⟨h1,h2⟩:=sF.1 hd
  obtain⟨h2,h3⟩:=sF.1 h2
  rw[vY] at h1 h2
  rw[eF,eE,AF (by simp only[List.length_cons] at h;omega) h3,show 48+(16*(a-48)+(b-48))/16=a by omega,show 48+(16*(a-48)+(b-48))% 16=b by omega]
theorem AE(odd:Bool):∀{l:List Int} {i:Nat},l.length % 2=0->bk l=true->(i=0->odd=true->l.getD 0 48=48)->iw odd (eF l) i=none
 | [],_,_,_,_=>by simp [eF,iw]
 | [a],_,h,_,_=>by simp at h
 |a::b::r,i,h,hd,ho=>by
  obtain⟨h1,h2⟩:=sF.1 hd
  obtain⟨h2,h3⟩:=sF.1 h2
  rw[vY] at h1 h2
  rw[eF,iw,if_neg,if_neg (by omega)]
  ·exact AE odd (by simp only[List.length_cons] at h;omega) h3 fun hi=>by omega
  ·rintro⟨e1,e2,e3⟩
   have:a=48:=ho e1 e2
   omega
def iW(s:ByteArray):List Int:=if s.size % 2=1 then 48::bl s else bl s
theorem z130(s:ByteArray):(iW s).length % 2=0:=by
 unfold iW
 split
 ·rw[List.length_cons,zg];omega
 ·rw[zg];omega
theorem NW(s:ByteArray):(iW s).length/2=(s.size+1)/2:=by
 unfold iW
 split
 ·rw[List.length_cons,zg]
 ·rw[zg];omega
theorem zqu{s:ByteArray}(h:bk (bl s)=true):bk (iW s)=true:=by
 unfold iW
 split
 ·exact sF.2 ⟨rfl,h⟩
 ·exact h
theorem zht{s:ByteArray}(h:s.size<=999)(hd:bk (bl s)=true):rl s=(strOf (eF (iW s)),true):=by
 unfold rl iW
 rw[zT ⟨h,hd⟩,zC]
theorem QL{s:ByteArray}(h:s.size<=999)(hd:bk (bl s)=true):(rl s).1.size=(s.size+1)/2:=by
 rw[zht h hd]
 show(strOf _).size=_
 rw[n3,zqt,NW]
theorem zqv{s:ByteArray}(h:s.size<=999)(hd:bk (bl s)=true):kZ (rl s).1 (s.size:Int)=(s,0,0):=by
 have c9:=QL h hd
 have hb:bl (rl s).1=eF (iW s):=by rw[zht h hd];exact z21 (Mt (zqu hd))
 unfold kZ
 rw[if_neg (by omega),if_neg (by rw[c9];omega),hb,List.take_of_length_le (by rw[zqt,NW];omega),AE _ (z130 s) (zqu hd),AF (z130 s) (zqu hd)]
 ·dsimp only
  by_cases hp:s.size % 2=1
  ·rw[show((s.size:Int)% 2).toNat=1 by omega]
   unfold iW
   rw[if_pos hp,List.drop_succ_cons,List.drop_zero,vH]
  ·rw[show((s.size:Int)% 2).toNat=0 by omega]
   unfold iW
   rw[if_neg hp,List.drop_zero,vH]
 ·intro _ ho
  have ho:=of_decide_eq_true ho
  unfold iW
  rw[if_pos (by omega)];rfl
theorem Ms{odd:Bool}:∀{l:List Int} {i:Nat},iw odd l i=none->(∀x∈l,x/16<=9/\x % 16<=9)/\(i=0->odd=true->l.getD 0 0/16=0)
 | [],i,_=>⟨fun x hx=>(by cases hx),fun _ _=>rfl⟩
 |a::r,i,h=>by
  rw[iw] at h
  by_cases h1:i=0/\odd=true/\a/16≠0
  ·rw[if_pos h1] at h;cases h
  ·rw[if_neg h1] at h
   by_cases h2:9<a/16\/9<a % 16
   ·rw[if_pos h2] at h;cases h
   ·rw[if_neg h2] at h
    refine⟨fun x hx=> ?_,fun hi ho=> ?_⟩
    ·rcases List.mem_cons.1 hx with rfl|hx
     ·omega
     ·exact(Ms h).1 x hx
    ·show a/16=0
     by_cases h3:a/16=0
     ·exact h3
     ·exact absurd ⟨hi,ho,h3⟩ h1
theorem AG:∀{l:List Int},(∀x∈l,zm x)->eF (eE l)=l
 | [],_=>by simp [eE,eF]
 |x::r,h=>by
  have hx:=h x List.mem_cons_self
  unfold zm at hx
  rw[eE,eF,AG fun y hy=>h y (List.mem_cons_of_mem _ hy),show 16*(48+x/16-48)+(48+x % 16-48)=x by omega]
theorem NV:∀{l:List Int},(∀x∈l,zm x)->(∀x∈l,x/16<=9/\x % 16<=9)->bk (eE l)=true
 | [],_,_=>rfl
 |x::r,h,h9=>by
  have hx:=h x List.mem_cons_self
  have hy:=h9 x List.mem_cons_self
  unfold zm at hx
  rw[eE]
  exact sF.2 ⟨vY.2 (by omega),sF.2 ⟨vY.2 (by omega),NV (fun y hy=>h y (List.mem_cons_of_mem _ hy)) fun y hy=>h9 y (List.mem_cons_of_mem _ hy)⟩⟩
theorem MF{l:List Int}(h:bk l=true):∀x∈l,zm x:=fun x hx=>by
 have:=vY.1 (List.all_eq_true.1 h x hx)
 unfold zm;omega
theorem zhu{b t:ByteArray}{n i:Int}(h:kZ b n=(t,0,i))(hb:(b.size:Int)=(n+1)/2):rl t=(b,true)/\(t.size:Int)=n/\bk (bl t)=true:=by
 unfold kZ at h
 by_cases h0:n<0\/999<n
 ·rw[if_pos h0] at h;cases h
 ·rw[if_neg h0,if_neg (by omega),<-hb,Int.toNat_natCast,List.take_of_length_le (by rw[zg];exact Nat.le_refl _)] at h
  cases he:iw (decide (n % 2=1)) (bl b) 0 with
  |some e=>
   rw[he] at h
   dsimp only at h
   injection h with _ h
   injection h with h _
   exfalso
   have key:∀{l:List Int} {i:Nat} {odd:Bool} {e:Int×Int},iw odd l i=some e->e.1≠0:=by
    intro l
    induction l with
    |nil=>intro i odd e h;cases h
    |cons a r ih=>
     intro i odd e h
     rw[iw] at h
     split at h
     ·cases h;decide
     ·split at h
      ·cases h;simp
      ·exact ih h
   exact key he h
  |none=>
   rw[he] at h
   dsimp only at h
   obtain⟨g1,g2⟩:=Ms he
   have n9:∀x∈bl b,zm x:=fun x hx=>j8 hx
   have cW:=NV n9 g1
   have ht:t=strOf ((eE (bl b)).drop (n % 2).toNat):=(congrArg Prod.fst h).symm
   have AU:bk ((eE (bl b)).drop (n % 2).toNat)=true:=List.all_eq_true.2 fun x hx=>List.all_eq_true.1 cW x (List.mem_of_mem_drop hx)
   have dy:bl t=(eE (bl b)).drop (n % 2).toNat:=by rw[ht];exact z21 (MF AU)
   have lg:t.size=2*b.size-(n % 2).toNat:=by rw[<-zg,dy,List.length_drop,zqs,zg]
   have hX:iW t=eE (bl b):=by
    unfold iW
    by_cases hp:n % 2=1
    ·rw[if_pos (by omega),dy,show(n % 2).toNat=1 by omega]
     have h1:=g2 rfl (by rw[zT hp])
     cases hl:bl b with
     |nil=>
      have h9:b.size=0:=by rw[<-zg,hl];rfl
      omega
     |cons x r=>
      rw[hl] at h1
      have h1:x/16=0:=h1
      rw[eE,List.drop_succ_cons,List.drop_zero,h1];rfl
    ·rw[if_neg (by omega),dy,show(n % 2).toNat=0 by omega,List.drop_zero]
   have hd:bk (bl t)=true:=by rw[dy];exact AU
   refine⟨?_,by omega,hd⟩
   rw[zht (by omega) hd,hX,AG n9,vH]
def fg(style form:Int):Bool:=decide ((style=1\/style=2)/\(form=2\/form=3))
def j4(style form:Int):Nat:=if style=2 then(form.toNat+1)/2 else form.toNat
def nb(style form n:Int):ByteArray×Int:=
 bif fg style form then(bif(gN n form).2 then(if style=2 then(rl (gN n form).1).1 else(gN n form).1,0) else(bs [],5)) else(bs [],1)
def pq(style form:Int)(s:ByteArray):Option Int:=
 if style=2 then(if(kZ s form).2.1=0 then(if(dM (bl (kZ s form).1)).2=true then some (dM (bl (kZ s form).1)).1 else none) else none) else if(dM (bl s)).2=true then some (dM (bl s)).1 else none
def lm(style form:Int)(b:ByteArray)(at_:Int):Int×Int×Int:=
 bif fg style form&&decide (0<=at_/\at_<=b.size) then(if b.size<at_.toNat+j4 style form then(0,0,2) else
  match pq style form (b.extract at_.toNat (at_.toNat+j4 style form)) with
  |some n=>(n,((at_.toNat+j4 style form:Nat):Int),0)
  |none=>(0,0,3)) else(0,0,1)
theorem Nt(n w:Int):(gN n w).1.size<=18:=by
 by_cases h:0<=n/\1<=w/\w<=18/\n.toNat/10^w.toNat=0
 ·rw[ZR h];show(strOf _).size<=18;rw[n3,QR];omega
 ·rw[SP h];decide
theorem ahW(style form n:Int)(hn:n<=9223372036854775807):rL style form n=some (nb style form n):=by
 unfold rL VZ rM RJ kl RK nb fg
 by_cases h1:style=1<;>by_cases h2:style=2<;>by_cases h3:form=2<;>by_cases h4:form=3<;>(try(exfalso;omega))<;>simp [h1,h2,h3,h4,aog _ _ hn]
 all_goals
  cases hp:(gN n _).2<;>simp [hp]
 all_goals
  rw[zhr _ (by have:=Nt n;simp only[maxLen];first|(have:=this 2;omega)|(have:=this 3;omega))]
  rfl
theorem Gp{b:ByteArray}{i n:Nat}(h:i+n<=b.size):(b.extract i (i+n)).size=n:=by rw[ByteArray.size_extract];omega
theorem zar{b t:ByteArray}{n e i:Int}(h:kZ b n=(t,e,i)):t.size<=1998:=by
 unfold kZ at h
 split at h
 ·cases h;decide
 ·split at h
  ·cases h;decide
  ·split at h
   ·cases h;decide
   ·cases h
    rw[n3,List.length_drop,zqs,List.length_take]
    omega
theorem ahU(style form:Int)(b:ByteArray)(at_:Int)(hb:b.size<=1099511627776):tT style form b at_=some (lm style form b at_):=by
 unfold tT VW rM RJ kl RK lm fg
 by_cases cj:0<=at_/\at_<=b.size
 ·obtain⟨m,rfl⟩:∃m:Nat,at_=m:=⟨at_.toNat,by omega⟩
  have hm:m<=b.size:=by omega
  have w0:zW zI ((b.size:Int)-(m:Int))=(b.size:Int)-m:=zj (by omega) (by omega)
  have w1:∀k:Nat,k<=3->zW zI ((m:Int)+(k:Int))=((m+k:Nat):Int):=fun k hk=>by rw[zj (by omega) (by omega)];omega
  have z1:=QQ 2 (by decide) (by decide)
  have z2:=QQ 3 (by decide) (by decide)
  have v1:=w1 1 (by decide)
  have v2:=w1 2 (by decide)
  have v3:=w1 3 (by decide)
  rw[show((1:Nat):Int)=1 from rfl] at v1
  rw[show((2:Nat):Int)=2 from rfl] at v2
  rw[show((3:Nat):Int)=3 from rfl] at v3
  have t2:((m:Int)+2).toNat=m+2:=by omega
  have t3:((m:Int)+3).toNat=m+3:=by omega
  have a1:¬(m:Int)<0:=by omega
  have a2:¬(b.size:Int)<m:=by omega
  have a3:0<=((m:Int)):=by omega
  have a4:(m:Int)<=b.size:=by omega
  by_cases h1:style=1<;>by_cases h2:style=2<;>by_cases h3:form=2<;>by_cases h4:form=3<;>(try(exfalso;omega))<;>simp [h1,h2,h3,h4,a1,a2,w0,z1,z2,v1,v2,v3,j4]
  all_goals
   rw[zT hm,zC]
   split
   ·rename_i hc
    rw[zT (by omega),zC]
   ·rename_i hc
    rw[zF (by omega),zD,zT (by omega),zC,zT (by omega),zC,zT (by omega),zC]
    try rw[t2]
    try rw[t3]
    first
     |(rw[P8 _ (by rw[ByteArray.size_extract];simp only[maxLen];omega),zc]
       unfold pq
       rw[if_neg (by decide)]
       cases(dM _).2<;>rfl)
     |(rw[zhq _ _ (by rw[ByteArray.size_extract];omega),zc]
       unfold pq
       rw[if_pos rfl]
       generalize hg:kZ _ _=gg
       obtain⟨t,e,i⟩:=gg
       dsimp only
       by_cases he:e=0
       ·rw[zT he,zC,if_pos he,P8 _ (by have:=zar hg;simp only[maxLen];omega),zc]
        cases(dM _).2<;>rfl
       ·rw[zF he,if_neg he];rfl)
 ·rw[zF (p:=0<=at_/\at_<=(b.size:Int)) cj,Bool.and_false,zD]
  by_cases h1:style=1<;>by_cases h2:style=2<;>by_cases h3:form=2<;>by_cases h4:form=3<;>(try(exfalso;omega))<;>by_cases h5:at_<0<;>by_cases h6:(b.size:Int)<at_<;>(try(exfalso;omega))<;>simp [h1,h2,h3,h4,h5,h6]
theorem EE(n:Int):Q4 n=some (if n<0\/65535<n then 0 else if 255<n then 3 else if 127<n then 2 else 1):=by
 unfold Q4 pU
 by_cases h1:n<0
 ·rw[zT h1,if_pos (.inl h1)];rfl
 by_cases h2:(65535:Int)<n
 ·rw[zF h1,zT h2,if_pos (.inr h2)];rfl
 rw[zF h1,zF h2,if_neg (by omega)]
 by_cases h3:(255:Int)<n
 ·rw[zT h3,if_pos h3];rfl
 by_cases h4:(127:Int)<n
 ·rw[zF h3,zT h4,if_neg h3,if_pos h4];rfl
 ·rw[zF h3,zF h4,if_neg h3,if_neg h4];rfl
theorem AN:∃k,af=k+1+1+1:=⟨af-3,by rw[zu]⟩
theorem PQ{y:Int}(hy:zm y):aR .or .i64 (zW zI (0*2^min (8:Int).toNat 64)) (zW zI y)=y:=by
 obtain⟨k,rfl⟩:=m6 hy
 clear hy
 revert k
 decide+kernel
theorem agG(s:ByteArray)(hs:s.size<=9223372036854775000)(a:Int):Q3 s a=zH s a:=by
 unfold Q3 lF zH Sz
 by_cases h1:a<0
 ·rw[zT h1];rfl
 rw[zF h1,zD,zD]
 by_cases h2:(s.size:Int)<a
 ·rw[zT h2];rfl
 rw[zF h2,zD,zD]
 by_cases h3:a=(s.size:Int)
 ·rw[zT h3];rfl
 have wa:∀{R:Type} (x:Option R),zd a s.size x=x:=fun x=>zo (by omega) (by omega)
 rw[zF h3,zD,zD]
 simp only[wa]
 obtain⟨x,hx⟩:=m6 (z28 s a.toNat)
 have Bh:=x.2
 have w1:zW zI (a+1)=a+1:=zj (by omega) (by omega)
 have w2:zW zI (x.1:Int)=(x.1:Int):=zj (by omega) (by omega)
 have w4:zW zI ((s.size:Int)-a)=(s.size:Int)-a:=zj (by omega) (by omega)
 have w5:zW zI ((s.size:Int)-(a+1))=(s.size:Int)-(a+1):=zj (by omega) (by omega)
 have w6:zW zI ((x.1:Int)-128)=(x.1:Int)-128:=zj (by omega) (by omega)
 have w7:zW zI ((x.1:Int)-127)=(x.1:Int)-127:=zj (by omega) (by omega)
 obtain⟨k,hk⟩:=AN
 simp only[hx,w2,w1,w4,w5,w6,w7,hk]
 by_cases h4:(127:Int)<(x.1:Int)
 ·rw[zT h4,zC,zF (by omega:¬(x.1:Int)<128),zD]
  by_cases h5:(x.1:Int)=129
  ·have wn:zW zI (0+1)=1:=rfl
   simp only[h5]
   by_cases h6:(s.size:Int)-a<2
   ·have e1:((s.size:Int)-(a+1)<129-128):=by omega
    have e2:((s.size:Int)-a<129-127):=by omega
    rw[zT e1,zT e2];rfl
   ·have e1:¬((s.size:Int)-(a+1)<129-128):=by omega
    have e2:¬((s.size:Int)-a<129-127):=by omega
    have wb:∀{R:Type} (x:Option R),zd (a+1) s.size x=x:=fun x=>zo (by omega) (by omega)
    have wc:∀{R:Type} (x:Option R),zd (zW zI (a+1+0)) s.size x=x:=fun x=>by rw[Int.add_zero,w1];exact wb x
    obtain⟨y,hy⟩:=m6 (z28 s (a+1).toNat)
    have Tq:=y.2
    have w3:zW zI (y.1:Int)=(y.1:Int):=zj (by omega) (by omega)
    have oz:=PQ (y:=(y.1:Int)) ⟨by omega,by omega⟩
    rw[w3] at oz
    rw[zF e1,zF e2]
    have l1:fy (k+1+1+1) s (a+1) 0 (129-128) (129-128) 0=some (a+1,(y.1:Int),129-128):=by
     simp only[fy,lG]
     rw[show decide ((0:Int)<129-128)=true from rfl,zC,wc,wn,show decide ((1:Int)<129-128)=false from rfl,zD,Int.add_zero,w1,hy,w3,oz]
    simp only[wb,hy,w3]
    show(fy (k+1+1+1) s (a+1) 0 (129-128) (129-128) 0).bind _=_
    rw[l1,Option.bind_some]
    unfold lH
    dsimp only
    rw[EE,Option.bind_some]
    by_cases h7:(y.1:Int)<128
    ·rw[if_neg (by omega),if_neg (by omega),if_neg (by omega),zT h7];rfl
    ·rw[if_neg (by omega),if_neg (by omega),if_pos (by omega),zF h7]
     have:zW zI (a+1+(129-128))=zW zI (a+2):=by congr 1;omega
     simp only[this]
     rfl
  ·by_cases h6:(x.1:Int)=130
   ·have wn:zW zI (0+1)=1:=rfl
    have wm:zW zI (1+1)=2:=rfl
    simp only[h6]
    by_cases h7:(s.size:Int)-a<3
    ·have e1:((s.size:Int)-(a+1)<130-128):=by omega
     have e2:((s.size:Int)-a<130-127):=by omega
     rw[zT e1,zT e2];rfl
    ·have e1:¬((s.size:Int)-(a+1)<130-128):=by omega
     have e2:¬((s.size:Int)-a<130-127):=by omega
     have wb:∀{R:Type} (x:Option R),zd (a+1) s.size x=x:=fun x=>zo (by omega) (by omega)
     have w8:zW zI (a+2)=a+2:=zj (by omega) (by omega)
     have w9:zW zI (a+1+1)=a+2:=by rw[zj (by omega) (by omega)];omega
     have wd:∀{R:Type} (x:Option R),zd (a+2) s.size x=x:=fun x=>zo (by omega) (by omega)
     obtain⟨y,hy⟩:=m6 (z28 s (a+1).toNat)
     obtain⟨z,hz⟩:=m6 (z28 s (a+2).toNat)
     have Tq:=y.2
     have hz2:=z.2
     have w3:zW zI (y.1:Int)=(y.1:Int):=zj (by omega) (by omega)
     have Mj:zW zI (z.1:Int)=(z.1:Int):=zj (by omega) (by omega)
     have oz:=PQ (y:=(y.1:Int)) ⟨by omega,by omega⟩
     have ob:=zre (x:=(y.1:Int)) (y:=(z.1:Int)) ⟨by omega,by omega⟩ ⟨by omega,by omega⟩
     rw[w3] at oz
     rw[w3,Mj] at ob
     rw[zF e1,zF e2]
     have l1:fy (k+1+1+1) s (a+1) 0 (130-128) (130-128) 0=some (a+1,(y.1:Int)*256+(z.1:Int),130-128):=by
      simp only[fy,lG]
      rw[show decide ((0:Int)<130-128)=true from rfl,zC,wn,wm,show decide ((1:Int)<130-128)=true from rfl,zC,show decide ((2:Int)<130-128)=false from rfl,zD,Int.add_zero,w1,wb,w9,wd,hy,hz,w3,Mj,oz,ob]
     have w5':zW zI (256*(y.1:Int))=256*(y.1:Int):=zj (by omega) (by omega)
     have w6':zW zI (256*(y.1:Int)+(z.1:Int))=(y.1:Int)*256+(z.1:Int):=by rw[zj (by omega) (by omega)];omega
     simp only[wb,w8,wd,hy,hz,w3,Mj,w5',w6']
     show(fy (k+1+1+1) s (a+1) 0 (130-128) (130-128) 0).bind _=_
     rw[l1,Option.bind_some]
     unfold lH
     dsimp only
     rw[EE,Option.bind_some]
     by_cases h8:(y.1:Int)=0
     ·rw[if_neg (by omega),if_neg (by omega),zT h8]
      by_cases h9:(127:Int)<(y.1:Int)*256+(z.1:Int)
      ·rw[if_pos h9];rfl
      ·rw[if_neg h9];rfl
     ·rw[if_neg (by omega),if_pos (by omega),zF h8]
      have:zW zI (a+1+(130-128))=zW zI (a+3):=by congr 1;omega
      simp only[this]
      rfl
   ·rw[zF h5,zF h6]
    by_cases h7:(x.1:Int)=128
    ·rw[zT h7];rfl
    ·rw[zF h7,zT (by omega:(130:Int)<(x.1:Int))];rfl
 ·rw[zF h4,zD,zT (by omega:(x.1:Int)<128),zC,zF (by omega:¬(s.size:Int)-(a+1)<0),zD]
  have l1:fy (k+1+1+1) s (a+1) (x.1:Int) 0 0 0=some (a+1,(x.1:Int),0):=by
   simp only[fy,lG]
   rw[show decide ((0:Int)<0)=false from rfl,zD]
  show(fy (k+1+1+1) s (a+1) (x.1:Int) 0 0 0).bind _=_
  rw[l1,Option.bind_some]
  unfold lH
  dsimp only
  rw[EE,Option.bind_some,if_neg (by omega),if_neg (by omega),if_neg (by omega),Int.add_zero,w1]
  rfl
abbrev bg:=Int×ByteArray×Unit
theorem zw0(l:List bg)(hl:l.length<=9223372036854775807)(t:Int):∀(m j k:Nat),j+m=l.length->m<k->Hc k l (l.length:Int) t (j:Int)=some (if t∈(l.drop j).map (fun v=>v.1) then .inl true else .inr ())
 |m,j,0,_,hk=>by omega
 |0,j,k+1,hj,hk=>by
  unfold Hc SC
  rw[zF (by omega),List.drop_eq_nil_of_le (by omega)];rfl
 |m+1,j,k+1,hj,hk=>by
  have al:j<l.length:=by omega
  have hg:∀d,l.getD j d=l[j]:=fun d=>by rw[List.getD_eq_getElem?_getD,List.getElem?_eq_getElem al];rfl
  unfold Hc SC
  rw[zT (by omega),zC,zi al,Int.toNat_natCast,hg,List.drop_eq_getElem_cons al,List.map_cons]
  by_cases h:l[j].1=t
  ·rw[zT h,if_pos (by rw[h];exact List.mem_cons_self)];rfl
  ·rw[zF h,zD,zv (by omega)]
   dsimp only
   rw[zw0 l hl t m (j+1) k (by omega) (by omega)]
   by_cases h2:t∈(l.drop (j+1)).map (fun v=>v.1)
   ·rw[if_pos h2,if_pos (List.mem_cons_of_mem _ h2)]
   ·rw[if_neg h2,if_neg (fun h3=>(List.mem_cons.1 h3).elim (fun e=>h e.symm) h2)]
theorem z198(l:List bg)(hl:l.length<=maxLen)(t:Int):JJ l (l.length:Int) t=some (decide (t∈l.map fun v=>v.1)):=by
 rw[zh] at hl
 unfold JJ Zv
 dsimp only
 have:=zw0 l hl t l.length 0 af (by omega) (by rw[zu];omega)
 rw[show((0:Nat):Int)=(0:Int) from rfl,List.drop_zero] at this
 rw[this,Option.bind_some]
 by_cases h:t∈l.map fun v=>v.1
 ·rw[if_pos h,zT h];rfl
 ·rw[if_neg h,zF h];rfl
theorem OR(b:ByteArray)(hb:b.size<=9223372036854775000):∀(k:Nat) (t5:List bg) (t7:Int),t5.length<=5864062014805->Ig k b t5 t7 (dW (t5.map fun v=>v.1))=B3 k b t5 t7
 |0,_,_,_=>rfl
 |k+1,t5,t7,hl=>by
  unfold Ig WZ B3 SB
  rw[aif b hb]
  generalize decide (t7<(b.size:Int))=c0
  cases c0 with
  |false=>rfl
  |true=>
   simp only[zC]
   cases zG b t7 with
   |none=>rfl
   |some r1=>
    simp only[Option.bind_some]
    generalize(!decide (r1.2.2=0))=c1
    cases c1 with
    |true=>rfl
    |false=>
     simp only[zD]
     rw[agG b hb]
     cases zH b r1.2.1 with
     |none=>rfl
     |some r2=>
      simp only[Option.bind_some]
      generalize(!decide (r2.2.2=0))=c2
      cases c2 with
      |true=>rfl
      |false=>
       simp only[zD]
       generalize decide (zW zI ((b.size:Int)-r2.2.1)<r2.1)=c3
       cases c3 with
       |true=>rfl
       |false=>
        simp only[zD]
        rw[z198 t5 (by rw[zh];omega),Option.bind_some]
        have e1:=T9 (gD (.int .i64)) (fun _ _=>rfl) r1.1 (t5.map fun v=>v.1)
        have e2:=Ua (gD (.int .i64)) (fun _ _=>rfl) r1.1 (t5.map fun v=>v.1)
        by_cases hm:r1.1∈t5.map fun v=>v.1
        ·rw[e1.2 hm,zT hm];rfl
        ·rw[Gk e1 hm,Gk e2 hm,zF hm]
         simp only[zD]
         rw[za1]
         have hs:(t5.map fun v=>v.1)++ [r1.1]=(t5++ [((r1.1,(b.extract r2.2.1.toNat (zW zI (r2.2.1+r2.1)).toNat),()):bg)]).map fun v=>v.1:=by simp
         rw[hs]
         by_cases hn:(t5.length+1)*24<=140737488355328
         ·rw[OR b hb k _ _ (by simp;omega)]
         ·have:decide ((t5.length+(List.length ([(r1.1,(b.extract r2.2.1.toNat (zW zI (r2.2.1+r2.1)).toNat),())]:List bg)))*24<=140737488355328)=false:=zF (by simp;omega)
          simp only[this,zD]
theorem aij(b:ByteArray)(hb:b.size<=9223372036854775000):um b=zJ b:=by
 unfold um WY zJ SA
 dsimp only
 have:=OR b hb af [] 0 (by simp)
 rw[show dW (([]:List bg).map fun v=>v.1)=[] from rfl] at this
 rw[this]
 rfl
theorem akk(s:Spec)(x:ByteArray)(hx:x.size<=9223372036854775000):bX s x=np s x:=by
 unfold bX WE np Iy
 rw[QK,vV,aiA _ _ (by rw[zh];omega),zd5 _ _ (by rw[zh];omega),aij x hx]
theorem acY(a b:Spec):mj a b=vM a b:=by
 unfold mj WG vM Iz wP WH
 rw[QK,vV,QK,vV,akl,zdd]
 simp only[Option.bind_some]
 by_cases h1:bN a=0
 ·by_cases h2:bN b=0
  ·simp only[h1,h2,decide_true,zC,Bool.not_true,zD]
   by_cases h3:a.2.2.2.1<=b.2.2.2.1
   ·rw[zT h3,zF (by omega:¬b.2.2.2.1<a.2.2.2.1)]
    by_cases h4:b.2.2.2.2.1<=a.2.2.2.2.1
    ·rw[zT h4,zF (by omega:¬a.2.2.2.2.1<b.2.2.2.2.1)]
     simp only[zC,zD]
     by_cases h5:a.2.1=5
     ·simp [h5]
     ·by_cases h6:a.2.1=6
      ·simp [h6]
      ·by_cases h7:b.2.1=6
       ·simp [h5,h6,h7]
       ·simp [h5,h6,h7]
    ·rw[zF h4,zT (by omega:a.2.2.2.2.1<b.2.2.2.2.1)];rfl
   ·rw[zF h3,zT (by omega:b.2.2.2.1<a.2.2.2.1)];rfl
  ·simp [h1,h2]
 ·simp [h1]
theorem aih(s:ByteArray)(hs:s.size<=9223372036854775000)(a:Int)(h0:0<=a)(h1:a<s.size):∃r,zG s a=some r/\(r.2.2=0->a<r.2.1/\r.2.1<=s.size):=by
 unfold zG Sy
 have wa:∀{R:Type} (x:Option R),zd a s.size x=x:=fun x=>zo (by omega) (by omega)
 rw[zF (by omega:¬a<0),zF (by omega:¬(s.size:Int)<a),zF (by omega:¬a=(s.size:Int))]
 simp only[zD,wa]
 obtain⟨x,hx⟩:=m6 (z28 s a.toNat)
 have w1:zW zI (a+1)=a+1:=zj (by omega) (by omega)
 have w4:zW zI ((s.size:Int)-a)=(s.size:Int)-a:=zj (by omega) (by omega)
 rw[hx,w1,w4]
 rcases zdt x with h|⟨h,CB⟩|⟨h,CB⟩
 ·rw[h];exact⟨_,rfl,fun h=>by cases h⟩
 ·rw[h]
  exact⟨_,rfl,fun _=>⟨by show a<a+1;omega,by show a+1<=_;omega⟩⟩
 ·rw[h,Option.bind_some]
  simp only[show decide ((2:Int)=0)=false from rfl,show decide ((2:Int)=1)=false from rfl,zD]
  by_cases h4:(s.size:Int)-a<2
  ·rw[zT h4];exact⟨_,rfl,fun h=>by cases h⟩
  ·have wb:∀{R:Type} (x:Option R),zd (a+1) s.size x=x:=fun x=>zo (by omega) (by omega)
   have w2:zW zI (a+2)=a+2:=zj (by omega) (by omega)
   rw[zF h4]
   simp only[zD,wb]
   generalize decide (ze s (a+1).toNat=0)=c1
   generalize decide ((127:Int)<ze s (a+1).toNat)=c2
   cases c1
   ·cases c2
    ·exact⟨_,rfl,fun _=>⟨by show a<zW zI (a+2);rw[w2];omega,by show zW zI (a+2)<=_;rw[w2];omega⟩⟩
    ·exact⟨_,rfl,fun h=>by cases h⟩
   ·exact⟨_,rfl,fun h=>by cases h⟩
theorem agH(s:ByteArray)(hs:s.size<=9223372036854775000)(a:Int)(h0:0<=a)(h1:a<=s.size):∃r,zH s a=some r/\(r.2.2=0->a<r.2.1/\r.2.1<=s.size/\0<=r.1/\r.1<=65535):=by
 unfold zH Sz
 rw[zF (by omega:¬a<0),zF (by omega:¬(s.size:Int)<a)]
 simp only[zD]
 by_cases he:a=(s.size:Int)
 ·rw[zT he];exact⟨_,rfl,fun h=>by cases h⟩
 have wa:∀{R:Type} (x:Option R),zd a s.size x=x:=fun x=>zo (by omega) (by omega)
 rw[zF he]
 simp only[zD,wa]
 obtain⟨x,hx⟩:=m6 (z28 s a.toNat)
 have Bh:=x.2
 have w1:zW zI (a+1)=a+1:=zj (by omega) (by omega)
 have w2:zW zI (x.1:Int)=(x.1:Int):=zj (by omega) (by omega)
 have w4:zW zI ((s.size:Int)-a)=(s.size:Int)-a:=zj (by omega) (by omega)
 have w7:zW zI ((x.1:Int)-127)=(x.1:Int)-127:=zj (by omega) (by omega)
 simp only[hx,w2,w1,w4,w7]
 by_cases h4:(x.1:Int)<128
 ·rw[zT h4]
  exact⟨_,rfl,fun _=>⟨by show a<a+1;omega,by show a+1<=_;omega,by show(0:Int)<=(x.1:Int);omega,by show(x.1:Int)<=65535;omega⟩⟩
 rw[zF h4]
 have h08:∀i,zm (ze s i):=z28 s
 by_cases h5:(x.1:Int)=129
 ·have wb:(s.size:Int)-a<(x.1:Int)-127\/∀{R:Type} (x:Option R),zd (a+1) s.size x=x:=by
   by_cases h:(s.size:Int)-a<(x.1:Int)-127
   ·exact .inl h
   ·exact .inr fun x=>zo (by omega) (by omega)
  rw[zT h5]
  simp only[Bool.not_true,zD,zC]
  by_cases h6:(s.size:Int)-a<(x.1:Int)-127
  ·rw[zT h6];exact⟨_,rfl,fun h=>by cases h⟩
  ·have wb:∀{R:Type} (x:Option R),zd (a+1) s.size x=x:=fun x=>zo (by omega) (by omega)
   have w8:zW zI (a+2)=a+2:=zj (by omega) (by omega)
   obtain⟨y,hy⟩:=m6 (h08 (a+1).toNat)
   have Tq:=y.2
   have w3:zW zI (y.1:Int)=(y.1:Int):=zj (by omega) (by omega)
   rw[zF h6]
   simp only[zD,wb,hy,w3,w8]
   generalize decide ((y.1:Int)<128)=c
   cases c
   ·exact⟨_,rfl,fun _=>⟨by show a<a+2;omega,by show a+2<=_;omega,by show(0:Int)<=(y.1:Int);omega,by show(y.1:Int)<=65535;omega⟩⟩
   ·exact⟨_,rfl,fun h=>by cases h⟩
 ·rw[zF h5]
  simp only[Bool.not_false,zD,zC]
  by_cases h9:(x.1:Int)=130
  ·rw[zT h9]
   simp only[Bool.not_true,zD]
   by_cases h6:(s.size:Int)-a<(x.1:Int)-127
   ·rw[zT h6];exact⟨_,rfl,fun h=>by cases h⟩
   ·have wb:∀{R:Type} (x:Option R),zd (a+1) s.size x=x:=fun x=>zo (by omega) (by omega)
    have w8:zW zI (a+2)=a+2:=zj (by omega) (by omega)
    have w9:zW zI (a+3)=a+3:=zj (by omega) (by omega)
    have wd:∀{R:Type} (x:Option R),zd (a+2) s.size x=x:=fun x=>zo (by omega) (by omega)
    obtain⟨y,hy⟩:=m6 (h08 (a+1).toNat)
    obtain⟨z,hz⟩:=m6 (h08 (a+2).toNat)
    have Tq:=y.2
    have hz2:=z.2
    have w3:zW zI (y.1:Int)=(y.1:Int):=zj (by omega) (by omega)
    have Mj:zW zI (z.1:Int)=(z.1:Int):=zj (by omega) (by omega)
    have w5':zW zI (256*(y.1:Int))=256*(y.1:Int):=zj (by omega) (by omega)
    have w6':zW zI (256*(y.1:Int)+(z.1:Int))=256*(y.1:Int)+(z.1:Int):=zj (by omega) (by omega)
    rw[zF h6]
    simp only[zD,wb,w8,wd,hy,hz,w3,Mj,w5',w6',w9]
    generalize decide ((y.1:Int)=0)=c
    cases c
    ·exact⟨_,rfl,fun _=>⟨by show a<a+3;omega,by show a+3<=_;omega,by show(0:Int)<=256*(y.1:Int)+(z.1:Int);omega,by show 256*(y.1:Int)+(z.1:Int)<=65535;omega⟩⟩
    ·exact⟨_,rfl,fun h=>by cases h⟩
  ·rw[zF h9];exact⟨_,rfl,fun h=>by cases h⟩
theorem za4(b:ByteArray)(hb:b.size<=1099511627776):∀(n:Nat) (k:Nat) (t5:List bg) (a:Int),0<=a->a<=b.size->(b.size:Int)-a<=n->n<k->t5.length+n<=2199023255552->∃r,B3 k b t5 a=some r
 |n,0,_,_,_,_,_,h,_=>by omega
 |n,k+1,t5,a,h0,h1,h2,h3,h4=>by
  unfold B3 SB
  by_cases al:a<(b.size:Int)
  ·obtain⟨r1,e1,p1⟩:=aih b (by omega) a h0 al
   rw[zT al,e1,Option.bind_some,zC]
   by_cases z1:r1.2.2=0
   ·obtain⟨q1,q2⟩:=p1 z1
    obtain⟨r2,e2,p2⟩:=agH b (by omega) r1.2.1 (by omega) q2
    simp only[z1,decide_true,Bool.not_true,zD]
    rw[e2,Option.bind_some]
    by_cases z2:r2.2.2=0
    ·obtain⟨u1,u2,u3,u4⟩:=p2 z2
     simp only[z2,decide_true,Bool.not_true,zD]
     have w1:zW zI ((b.size:Int)-r2.2.1)=(b.size:Int)-r2.2.1:=zj (by omega) (by omega)
     have w2:zW zI (r2.2.1+r2.1)=r2.2.1+r2.1:=zj (by omega) (by omega)
     rw[w1,w2]
     by_cases z3:(b.size:Int)-r2.2.1<r2.1
     ·rw[zT z3];exact⟨_,rfl⟩
     ·rw[zF z3,zD,z198 t5 (by rw[zh];omega),Option.bind_some]
      generalize decide (r1.1∈t5.map fun v=>v.1)=c
      cases c with
      |true=>exact⟨_,rfl⟩
      |false=>
       rw[zD,zT (by omega:0<=r2.2.1+r2.1),zT (by omega:r2.2.1+r2.1<=(((b.size:Nat):Int))),zT (by omega:0<=r2.2.1),zT (by omega:r2.2.1<=(((r2.2.1+r2.1).toNat:Nat):Int)),zT (by simp;omega)]
       simp only[zC]
       obtain⟨n,rfl⟩:∃n',n=n'+1:=⟨n-1,by omega⟩
       exact za4 b hb n k _ _ (by omega) (by omega) (by omega) (by omega) (by simp;omega)
    ·simp only[z2,decide_false,Bool.not_false,zC];exact⟨_,rfl⟩
   ·simp only[z1,decide_false,Bool.not_false,zC];exact⟨_,rfl⟩
  ·rw[zF al];exact⟨_,rfl⟩
theorem zpe(b:ByteArray)(hb:b.size<=1099511627776):∃r,zJ b=some r:=by
 unfold zJ SA
 dsimp only
 obtain⟨r,hr⟩:=za4 b hb b.size af [] 0 (by omega) (by omega) (by omega) (by rw[zu];omega) (by simp;omega)
 rw[hr,Option.bind_some]
 cases r<;>exact⟨_,rfl⟩
@[irreducible] def bp (s:Spec) (x:ByteArray):Int:=(np s x).getD 0
theorem HN(s:Spec)(x:ByteArray)(hx:x.size<=1099511627776):np s x=some (bp s x):=by
 have:∃v,np s x=some v:=by
  unfold np Iy
  rw[vV,Option.bind_some,zd5 _ _ (by rw[zh];omega),Option.bind_some]
  obtain⟨r,hr⟩:=zpe x hx
  rw[hr,Option.bind_some]
  generalize(!decide (bN s=0))=c1
  generalize decide ((x.size:Int)<s.2.2.2.1)=c2
  generalize decide (s.2.2.2.2.1<(x.size:Int))=c3
  generalize decide ((0:Int)<=ru s.2.1 (bl x) 0)=c4
  generalize decide (s.2.1=6)=c5
  cases c1<;>cases c2<;>cases c3<;>cases c4<;>cases c5<;>first|exact⟨_,rfl⟩|skip
  cases r with
  |inl r=>simp only[zD,zC,Sum.elim_inl];cases(!decide (r.2.1=0))<;>exact⟨_,rfl⟩
  |inr r=>simp only[zD,zC,Sum.elim_inr];cases(!decide (r.2.1=0))<;>exact⟨_,rfl⟩
 obtain⟨v,hv⟩:=this
 unfold bp
 rw[hv];rfl
theorem yz(s:Spec)(x:ByteArray)(hx:x.size<=1099511627776):bX s x=some (bp s x):=by
 rw[akk s x (by omega),HN s x hx]
@[irreducible] def kY (a b:Spec):Bool:=(vM a b).getD false
theorem zde(a b:Spec):vM a b=some (kY a b):=by
 have:∃v,vM a b=some v:=by
  unfold vM Iz
  rw[vV,vV,zdd]
  simp only[Option.bind_some]
  generalize(!decide (bN a=0))=c1
  generalize(!decide (bN b=0))=c2
  generalize decide (b.2.2.2.1<a.2.2.2.1)=c3
  generalize decide (a.2.2.2.2.1<b.2.2.2.2.1)=c4
  generalize decide (a.2.1=5)=c5
  generalize decide (a.2.1=6)=c6
  generalize decide (b.2.1=6)=c7
  cases c1<;>cases c2<;>cases c3<;>cases c4<;>cases c5<;>cases c6<;>cases c7<;>exact⟨_,rfl⟩
 obtain⟨v,hv⟩:=this
 unfold kY
 rw[hv];rfl
theorem agx(a b:Spec):mj a b=some (kY a b):=by rw[acY,zde]
abbrev aO:=Int×Int×Int×ByteArray×List bq×Unit
def aJ(s:zf)(no:Int):Spec:=(gE s.2.2.1 no).getD di
def bm(s:zf)(no:Int):Bool:=(gE s.2.2.1 no).isSome
theorem BM(s:zf)(no:Int)(hl:s.2.2.1.length<=maxLen):gn s no=some (aJ s no,bm s no):=by
 rw[al1 s no hl]
 unfold aJ bm
 cases gE s.2.2.1 no<;>rfl
theorem T5(s:zf)(no:Int):(fG s.2.2.1 no 0= -1/\bm s no=false/\aJ s no=di)\/(0<=fG s.2.2.1 no 0/\fG s.2.2.1 no 0<s.2.2.1.length/\bm s no=true/\s.2.2.1.getD (fG s.2.2.1 no 0).toNat di=aJ s no):=by
 unfold bm aJ
 rcases aeg s.2.2.1 no 0 (Int.le_refl _) with⟨h1,h2⟩|⟨h1,h2,x,h3,h4⟩
 ·left;rw[h2];exact⟨h1,rfl,rfl⟩
 ·right;rw[h3];rw[Int.sub_zero] at h4;exact⟨h1,by omega,rfl,h4⟩
def cZ(r:aO)(a b:zf):Bool:=
 (bif decide (r.1=3) then !decide (r.2.1=0) else !bm a r.2.1)||(bif decide (r.1=2) then !decide (r.2.2.1=0) else !bm b r.2.2.1)
def ii(r:aO):Bool:=(!decide (r.2.2.2.1=bs [])&& !decide (r.1=3))||(decide (0<(r.2.2.2.2.1.length:Int))&& !decide (r.1=5))
def hD(s:Spec):Bool:=decide (s.2.1=1)&&decide (s.2.2.1=1)
def eO:List bq->Spec->Spec->Int
 | [],_,_=>0
 |p::r,x,y=>bif !decide (bp x p.1=0) then bp x p.1 else bif !decide (bp y p.2.1=0) then bp y p.2.1 else eO r x y
def IG(l:List bq)(x y:Spec):Int:=bif(!decide ((rB l).1=0)||decide ((l.length:Int)=0)) then 15 else eO l x y
def jh(r:aO)(x y:Spec):Int:=
 bif decide (r.1=1) then(bif kY y x then 0 else 6) else bif decide (r.1=3) then bp y r.2.2.2.1 else bif decide (r.1=4) then(bif hD x&&hD y then 0 else 6) else bif decide (r.1=5) then IG r.2.2.2.2.1 x y else 0
def dh(r:aO)(a b:zf):Int:=
 bif decide (r.1<1)||decide (5<r.1) then 1 else bif cZ r a b then 9 else bif ii r then 3 else jh r (aJ a r.2.1) (aJ b r.2.2.1)
structure eY(l:List bq):Prop where
 len:l.length<=1000000
 sz:∀p∈l,p.1.size<=1099511627776/\p.2.1.size<=1099511627776
structure fm(r:aO):Prop where
 text:r.2.2.2.1.size<=1099511627776
 ff:eY r.2.2.2.2.1
theorem anO(r:aO)(a b:zf)(ha:a.2.2.1.length<=maxLen)(hb:b.2.2.1.length<=maxLen):ub r a b=some (aJ a r.2.1,aJ b r.2.2.1,bif cZ r a b then 9 else 0):=by
 unfold ub Wm cZ
 rw[BM a _ ha,BM b _ hb]
 simp only[Option.bind_some]
 generalize decide (r.1=3)=k3
 generalize decide (r.1=2)=k2
 generalize decide (r.2.1=0)=z1
 generalize decide (r.2.2.1=0)=z2
 generalize bm a r.2.1=h1
 generalize bm b r.2.2.1=h2
 cases k3<;>cases k2<;>cases z1<;>cases z2<;>cases h1<;>cases h2<;>rfl
theorem ahR(s:Spec):jV s=some (hD s):=by
 unfold jV Wn hD
 generalize decide (s.2.1=1)=c1
 generalize decide (s.2.2.1=1)=c2
 cases c1<;>cases c2<;>rfl
def yr(v:Int):Sum Int Unit:=if v=0 then .inr () else .inl v
theorem NC(x y:Spec):∀(l:List bq) (i:Int),(∀p∈l,p.1.size<=1099511627776/\p.2.1.size<=1099511627776)->
 bB (fun i (p:bq) (s:Unit) K=>((bX x p.1).bind fun r2=>(bif(!decide (r2=0)) then some (Sum.inl r2) else((bX y p.2.1).bind fun r3=>(bif(!decide (r3=0)) then some (Sum.inl r3) else K s))))) (fun _=>some (Sum.inr ())) l i ()=some (yr (eO l x y))
 | [],i,_=>rfl
 |p::r,i,h=>by
  obtain⟨h1,h2⟩:=h p List.mem_cons_self
  simp only[bB,eO]
  rw[yz x p.1 h1,Option.bind_some]
  by_cases z1:bp x p.1=0
  ·rw[zT z1]
   simp only[Bool.not_true,zD]
   rw[yz y p.2.1 h2,Option.bind_some]
   by_cases z2:bp y p.2.1=0
   ·rw[zT z2]
    simp only[Bool.not_true,zD]
    exact NC x y r (i+1) fun q hq=>h q (List.mem_cons_of_mem _ hq)
   ·rw[zF z2]
    simp only[Bool.not_false,zC,yr,if_neg z2]
  ·rw[zF z1]
   simp only[Bool.not_false,zC,yr,if_neg z1]
theorem alO(l:List bq)(x y:Spec)(h:eY l):ni l x y=some (IG l x y):=by
 have hl:=h.len
 unfold ni Wp IG
 dsimp only
 rw[aci l (by rw[zh];omega),Option.bind_some]
 cases(!decide ((rB l).1=0)) with
 |true=>rfl
 |false=>
  cases decide ((l.length:Int)=0) with
  |true=>rfl
  |false=>
   simp only[zD,Bool.or_false]
   have:=cD l4 l (by rw[zh];omega) (fun i (p:bq) (s:Unit) K=>((bX x p.1).bind fun r2=>(bif(!decide (r2=0)) then some (Sum.inl r2) else((bX y p.2.1).bind fun r3=>(bif(!decide (r3=0)) then some (Sum.inl r3) else K s))))) (fun _=>some (Sum.inr ()))
    (fun k i s=>RP k l (l.length:Int) i x y) (fun k i s=>rfl) ()
   rw[this,NC x y l 0 h.sz,Option.bind_some]
   unfold yr
   by_cases z:eO l x y=0
   ·rw[if_pos z,z];rfl
   ·rw[if_neg z];rfl
theorem acW(r:aO)(a b:zf)(h:fm r)(ha:a.2.2.1.length<=maxLen)(hb:b.2.2.1.length<=maxLen):oK r a b=some (dh r a b):=by
 unfold oK Wl dh jh ii
 rw[anO r a b ha hb]
 simp only[Option.bind_some,agx,yz _ _ h.text,ahR,alO _ _ _ h.ff]
 generalize cZ r a b=e
 generalize decide (r.1<1)=c1
 generalize decide ((5:Int)<r.1)=c2
 generalize decide (r.2.2.2.1=bs [])=t
 generalize decide ((0:Int)<(r.2.2.2.2.1.length:Int))=p
 generalize decide (r.1=1)=k1
 generalize decide (r.1=3)=k3
 generalize decide (r.1=4)=k4
 generalize decide (r.1=5)=k5
 generalize hD (aJ a r.2.1)=p1
 generalize hD (aJ b r.2.2.1)=p2
 generalize kY (aJ b r.2.2.1) (aJ a r.2.1)=w
 cases c1<;>cases c2<;>first|rfl|skip
 cases e<;>first|rfl|skip
 cases t<;>cases p<;>cases k3<;>cases k5<;>first|rfl|skip
 all_goals(cases k1<;>cases k4<;>cases p1<;>cases p2<;>cases w<;>rfl)
def n0(v:Int):Sum Unit Int:=if v=0 then .inl () else .inr v
theorem zx0(x y:Spec):∀(l:List bq) (i:Int),(∀p∈l,p.1.size<=1099511627776/\p.2.1.size<=1099511627776)->
 bB (fun i (p:bq) (s:Unit) K=>((np x p.1).bind fun r2=>(bif(!decide (r2=0)) then some (Sum.inr r2) else((np y p.2.1).bind fun r3=>(bif(!decide (r3=0)) then some (Sum.inr r3) else K s))))) (fun _=>some (Sum.inl ())) l i ()=some (n0 (eO l x y))
 | [],i,_=>rfl
 |p::r,i,h=>by
  obtain⟨h1,h2⟩:=h p List.mem_cons_self
  simp only[bB,eO]
  rw[HN x p.1 h1,Option.bind_some]
  by_cases z1:bp x p.1=0
  ·rw[zT z1]
   simp only[Bool.not_true,zD]
   rw[HN y p.2.1 h2,Option.bind_some]
   by_cases z2:bp y p.2.1=0
   ·rw[zT z2]
    simp only[Bool.not_true,zD]
    exact zx0 x y r (i+1) fun q hq=>h q (List.mem_cons_of_mem _ hq)
   ·rw[zF z2]
    simp only[Bool.not_false,zC,n0,if_neg z2]
  ·rw[zF z1]
   simp only[Bool.not_false,zC,n0,if_neg z1]
theorem acD(r:aO)(a b:zf)(h:fm r)(i k:Int)(CQ:0<=i)(hi:i<a.2.2.1.length)(A3:0<=k)(hk:k<b.2.2.1.length):
 wo af i k 0 r a b=some (n0 (eO r.2.2.2.2.1 (a.2.2.1.getD i.toNat di) (b.2.2.1.getD k.toNat di))):=by
 have hl:=h.ff.len
 have:=Bn l4 r.2.2.2.2.1 (by rw[zh];omega) (fun j (p:bq) (s:Unit) K=>((np (a.2.2.1.getD i.toNat di) p.1).bind fun r2=>(bif(!decide (r2=0)) then some (Sum.inr r2) else((np (b.2.2.1.getD k.toNat di) p.2.1).bind fun r3=>(bif(!decide (r3=0)) then some (Sum.inr r3) else K s))))) (fun _=>some (Sum.inl ()))
  (fun f j s=>wo f i k j r a b) (fun f j s h0 h1=>by
    show wo (f+1) i k j r a b=_
    conv=>lhs;unfold wo Rg Ui Uj Uk
    have wi:∀{R:Type} (x:Option R),zd i a.2.2.1.length x=x:=fun x=>zo CQ hi
    have wk:∀{R:Type} (x:Option R),zd k b.2.2.1.length x=x:=fun x=>zo A3 hk
    have wj:∀{R:Type} (x:Option R),zd j r.2.2.2.2.1.length x=x:=fun x=>zo h0 h1
    rw[zT h1]
    simp only[zC,wi,wk,wj]
    rfl) (fun f s=>by
    show wo (f+1) i k r.2.2.2.2.1.length r a b=_
    conv=>lhs;unfold wo Rg
    rw[zF (by omega),zD]) ()
 rw[this]
 exact zx0 _ _ _ 0 h.ff.sz
theorem adH(r:aO)(a b:zf)(h:fm r)(ha:a.2.2.1.length<=maxLen)(hb:b.2.2.1.length<=maxLen):tv r a b=some (dh r a b):=by
 unfold tv H0
 have h0:∀t,zxe t r a b=bif t then some 1 else UJ r a b:=fun t=>by cases t<;>rfl
 simp only[h0]
 unfold dh
 by_cases c1:r.1<1
 ·rw[zT c1];rfl
 by_cases c2:(5:Int)<r.1
 ·rw[zF c1,zT c2];rfl
 rw[zF c1,zF c2]
 simp only[zD,Bool.or_false]
 have e2:∀i k t,BR i k t r a b=bif t then some 9 else Rs i k r a b:=fun i k t=>by cases t<;>rfl
 have e4:∀i k t,zxf i k t r a b=bif t then some 9 else Gv i k r a b:=fun i k t=>by cases t<;>rfl
 have e6:∀i k t,zxg i k t r a b=bif t then some 3 else Rt i k r a b:=fun i k t=>by cases t<;>rfl
 have e9:∀t,zxh t=some (bif t then 6 else 0):=fun t=>by cases t<;>rfl
 have hi:=T5 a r.2.1
 have hk:=T5 b r.2.2.1
 have ei:decide (fG a.2.2.1 r.2.1 0<0)= !bm a r.2.1:=by
  rcases hi with⟨h1,h2,_⟩|⟨h1,_,h2,_⟩
  ·rw[h1,h2];rfl
  ·rw[h2,zF (by omega)];rfl
 have ek:decide (fG b.2.2.1 r.2.2.1 0<0)= !bm b r.2.2.1:=by
  rcases hk with⟨h1,h2,_⟩|⟨h1,_,h2,_⟩
  ·rw[h1,h2];rfl
  ·rw[h2,zF (by omega)];rfl
 unfold UJ H2
 rw[TV a _ ha,Option.bind_some,TV b _ hb,Option.bind_some]
 generalize Lh:fG a.2.2.1 r.2.1 0=i at*
 generalize hkk:fG b.2.2.1 r.2.2.1 0=k at*
 have s3:Rs i k r a b=bif(bif decide (r.1=2) then !decide (r.2.2.1=0) else !bm b r.2.2.1) then some 9 else Gv i k r a b:=by
  unfold Rs H3
  simp only[e4,ek]
  generalize decide (r.1=2)=k2
  generalize decide (r.2.2.1=0)=z
  generalize bm b r.2.2.1=hh
  cases k2<;>cases z<;>cases hh<;>rfl
 have s1:(bif decide (r.1=3) then bif !decide (r.2.1=0) then BR i k true r a b else bif !decide (r.1=3) then BR i k (decide (i<0)) r a b else BR i k false r a b
  else bif !decide (r.1=3) then BR i k (decide (i<0)) r a b else BR i k false r a b)=bif cZ r a b then some 9 else Gv i k r a b:=by
  simp only[e2,s3,ei]
  unfold cZ
  generalize decide (r.1=3)=k3
  generalize decide (r.2.1=0)=z
  generalize bm a r.2.1=hh
  generalize(bif decide (r.1=2) then !decide (r.2.2.1=0) else !bm b r.2.2.1)=w
  cases k3<;>cases z<;>cases hh<;>cases w<;>rfl
 have s5:Gv i k r a b=bif ii r then some 3 else Rt i k r a b:=by
  unfold Gv H4 ii
  simp only[e6]
  generalize decide (r.2.2.2.1=bs [])=t
  generalize decide ((0:Int)<(r.2.2.2.2.1.length:Int))=p
  generalize decide (r.1=3)=k3
  generalize decide (r.1=5)=k5
  cases t<;>cases p<;>cases k3<;>cases k5<;>rfl
 refine Eq.trans s1 ?_
 cases hE:cZ r a b with
 |true=>rfl
 |false=>
  rw[zD,zD,s5]
  cases ii r with
  |true=>rfl
  |false=>
   rw[zD,zD]
   unfold Rt H5 jh
   have g1:r.1=1\/r.1=4\/r.1=5->bm a r.2.1=true:=fun hr=>by
    unfold cZ at hE
    rw[zF (by omega:¬r.1=3)] at hE
    cases hh:bm a r.2.1 with
    |true=>rfl
    |false=>rw[hh] at hE;simp at hE
   have g2:r.1≠2->bm b r.2.2.1=true:=fun hr=>by
    unfold cZ at hE
    rw[zF hr] at hE
    cases hh:bm b r.2.2.1 with
    |true=>rfl
    |false=>rw[hh] at hE;simp at hE
   have hA:bm a r.2.1=true->0<=i/\i<a.2.2.1.length/\a.2.2.1.getD i.toNat di=aJ a r.2.1:=fun hh=>by
    rcases hi with⟨_,h2,_⟩|⟨h1,h2,_,h3⟩
    ·rw[h2] at hh;cases hh
    ·exact⟨h1,h2,h3⟩
   have hB:bm b r.2.2.1=true->0<=k/\k<b.2.2.1.length/\b.2.2.1.getD k.toNat di=aJ b r.2.2.1:=fun hh=>by
    rcases hk with⟨_,h2,_⟩|⟨h1,h2,_,h3⟩
    ·rw[h2] at hh;cases hh
    ·exact⟨h1,h2,h3⟩
   by_cases k1:r.1=1
   ·obtain⟨a1,a2,a3⟩:=hA (g1 (.inl k1))
    obtain⟨b1,b2,b3⟩:=hB (g2 (by omega))
    rw[zT k1,zC,zC,zo b1 b2,zo a1 a2,a3,b3,zde,Option.bind_some]
    cases kY (aJ b r.2.2.1) (aJ a r.2.1)<;>rfl
   rw[zF k1,zD,zD]
   by_cases k3:r.1=3
   ·obtain⟨b1,b2,b3⟩:=hB (g2 (by omega))
    rw[zT k3,zC,zC,zo b1 b2,b3,HN _ _ h.text];rfl
   rw[zF k3,zD,zD]
   by_cases k4:r.1=4
   ·obtain⟨a1,a2,a3⟩:=hA (g1 (.inr (.inl k4)))
    obtain⟨b1,b2,b3⟩:=hB (g2 (by omega))
    rw[zT k4,zC,zC,zo a1 a2,zo b1 b2]
    simp only[a3,b3,e9]
    unfold hD
    generalize decide ((aJ a r.2.1).2.1=1)=d1
    generalize decide ((aJ a r.2.1).2.2.1=1)=d2
    generalize decide ((aJ b r.2.2.1).2.1=1)=d3
    generalize decide ((aJ b r.2.2.1).2.2.1=1)=d4
    cases d1<;>cases d2<;>cases d3<;>cases d4<;>rfl
   rw[zF k4,zD,zD]
   by_cases k5:r.1=5
   ·obtain⟨a1,a2,a3⟩:=hA (g1 (.inr (.inr k5)))
    obtain⟨b1,b2,b3⟩:=hB (g2 (by omega))
    have Hq:∀t,zph i k t r a b=bif t then some 15 else Rf i k r a b:=fun t=>by cases t<;>rfl
    have Hr:Rf i k r a b=some (eO r.2.2.2.2.1 (aJ a r.2.1) (aJ b r.2.2.1)):=by
     unfold Rf Uh
     dsimp only
     rw[acD r a b h i k a1 a2 b1 b2,Option.bind_some,a3,b3]
     unfold n0
     by_cases z:eO r.2.2.2.2.1 (aJ a r.2.1) (aJ b r.2.2.1)=0
     ·rw[if_pos z,z];rfl
     ·rw[if_neg z];rfl
    have hl:=h.ff.len
    rw[zT k5,zC,zC,adG _ (by rw[zh];omega),Option.bind_some]
    simp only[Hq,Hr]
    unfold IG
    generalize(!decide ((rB r.2.2.2.2.1).1=0))=d1
    generalize decide ((r.2.2.2.2.1.length:Int)=0)=d2
    cases d1<;>cases d2<;>rfl
   ·rw[zF k5];rfl
@[irreducible] def vz (x:ByteArray):Int:=((zJ x).map fun r=>Sum.elim (fun(w:ap×Int×Int)=>w.2.1) (fun(w:ap×Int×Int)=>w.2.1) r).getD 0
theorem BP(s:Spec)(x:ByteArray)(hx:x.size<=1099511627776):bp s x=0↔bN s=0/\s.2.2.2.1<=(x.size:Int)/\(x.size:Int)<=s.2.2.2.2.1/\(bl x).all (kd s.2.1)=true/\(s.2.1=6->vz x=0):=by
 have h:=HN s x hx
 unfold np Iy at h
 rw[vV,Option.bind_some,zd5 _ _ (by rw[zh];omega),Option.bind_some] at h
 obtain⟨r,hr⟩:=zpe x hx
 have ht:vz x=Sum.elim (fun(w:ap×Int×Int)=>w.2.1) (fun(w:ap×Int×Int)=>w.2.1) r:=by unfold vz;rw[hr];rfl
 rw[hr,Option.bind_some] at h
 by_cases c1:bN s=0
 ·rw[zT c1,Bool.not_true,zD] at h
  by_cases c2:(x.size:Int)<s.2.2.2.1
  ·rw[zT c2,zC] at h
   have:=Option.some.inj h
   exact⟨fun e=>by omega,fun e=>by omega⟩
  rw[zF c2,zD] at h
  by_cases c3:s.2.2.2.2.1<(x.size:Int)
  ·rw[zT c3,zC] at h
   have:=Option.some.inj h
   exact⟨fun e=>by omega,fun e=>by omega⟩
  rw[zF c3,zD] at h
  have hf:=zou s.2.1 (bl x) 0 (Int.le_refl _)
  by_cases c4:(0:Int)<=ru s.2.1 (bl x) 0
  ·rw[zT c4,zC] at h
   have:=Option.some.inj h
   exact⟨fun e=>by omega,fun e=>absurd e.2.2.2.1 (hf.1 c4)⟩
  rw[zF c4,zD] at h
  have cW:(bl x).all (kd s.2.1)=true:=by
   cases hq:(bl x).all (kd s.2.1) with
   |true=>rfl
   |false=>exact absurd (hf.2 (by rw[hq];decide)) c4
  by_cases c5:s.2.1=6
  ·rw[zT c5,zC] at h
   have key:(bif(!decide (vz x=0)) then some (13:Int) else some 0)=some (bp s x):=by
    rw[<-h]
    cases r with
    |inl r=>rw[Sum.elim_inl] at ht⊢;rw[<-ht]
    |inr r=>rw[Sum.elim_inr] at ht⊢;rw[<-ht]
   by_cases c6:vz x=0
   ·rw[zT c6] at key
    have:=Option.some.inj key
    exact⟨fun _=>⟨c1,by omega,by omega,cW,fun _=>c6⟩,fun _=>this.symm⟩
   ·rw[zF c6] at key
    have:=Option.some.inj key
    exact⟨fun e=>by omega,fun e=>absurd (e.2.2.2.2 c5) c6⟩
  ·rw[zF c5,zD] at h
   have:=Option.some.inj h
   exact⟨fun _=>⟨c1,by omega,by omega,cW,fun e=>absurd e c5⟩,fun _=>this.symm⟩
 ·rw[zF c1,Bool.not_false,zC] at h
  have:=Option.some.inj h
  exact⟨fun e=>by omega,fun e=>absurd e.1 c1⟩
theorem alX(a b:Spec):kY a b=true↔bN a=0/\bN b=0/\a.2.2.2.1<=b.2.2.2.1/\b.2.2.2.2.1<=a.2.2.2.2.1/\(a.2.1=5\/(a.2.1=6/\b.2.1=6)\/(a.2.1≠5/\a.2.1≠6/\b.2.1≠6/\yP a.2.1 b.2.1=true)):=by
 have h:=zde a b
 unfold vM Iz at h
 rw[vV,vV,zdd] at h
 simp only[Option.bind_some] at h
 by_cases c1:bN a=0
 ·rw[zT c1,Bool.not_true,zD] at h
  by_cases c2:bN b=0
  ·rw[zT c2,Bool.not_true,zD] at h
   by_cases c3:b.2.2.2.1<a.2.2.2.1
   ·rw[zT c3,zC] at h
    have:=Option.some.inj h
    exact⟨fun e=>(by rw[e] at this;cases this),fun e=>by omega⟩
   rw[zF c3,zD] at h
   by_cases c4:a.2.2.2.2.1<b.2.2.2.2.1
   ·rw[zT c4,zC] at h
    have:=Option.some.inj h
    exact⟨fun e=>(by rw[e] at this;cases this),fun e=>by omega⟩
   rw[zF c4,zD] at h
   by_cases c5:a.2.1=5
   ·rw[zT c5,zC] at h
    have:=Option.some.inj h
    exact⟨fun _=>⟨c1,c2,by omega,by omega,.inl c5⟩,fun _=>this.symm⟩
   rw[zF c5,zD] at h
   by_cases c6:a.2.1=6
   ·rw[zT c6,zC] at h
    have:=Option.some.inj h
    rw[<-this,decide_eq_true_eq]
    exact⟨fun e=>⟨c1,c2,by omega,by omega,.inr (.inl ⟨c6,by omega⟩)⟩,fun e=>by omega⟩
   rw[zF c6,zD] at h
   by_cases c7:b.2.1=6
   ·rw[zT c7,zC] at h
    have:=Option.some.inj h
    rw[<-this,decide_eq_true_eq]
    exact⟨fun e=>by omega,fun e=>by omega⟩
   rw[zF c7,zD] at h
   have:=Option.some.inj h
   rw[<-this]
   refine⟨fun e=>⟨c1,c2,by omega,by omega,.inr (.inr ⟨c5,c6,c7,e⟩)⟩,fun e=> ?_⟩
   rcases e.2.2.2.2 with e|e|e
   ·exact absurd e c5
   ·exact absurd e.1 c6
   ·exact e.2.2.2
  ·rw[zF c2,Bool.not_false,zC] at h
   have:=Option.some.inj h
   exact⟨fun e=>(by rw[e] at this;cases this),fun e=>absurd e.2.1 c2⟩
 ·rw[zF c1,Bool.not_false,zC] at h
  have:=Option.some.inj h
  exact⟨fun e=>(by rw[e] at this;cases this),fun e=>absurd e.1 c1⟩
theorem TK{s:Spec}(h:bN s=0):(2<=s.1/\s.1<=128)/\(1<=s.2.1/\s.2.1<=6)/\(1<=s.2.2.1/\s.2.2.1<=3)/\(1<=s.2.2.2.1/\s.2.2.2.1<=s.2.2.2.2.1/\s.2.2.2.2.1<=999)/\(s.2.2.1=1->s.2.2.2.1=s.2.2.2.2.1)/\¬(s.2.2.1=1/\s.2.1=6):=by
 unfold bN at h
 split at h
 ·omega
 split at h
 ·omega
 split at h
 ·omega
 split at h
 ·omega
 split at h
 ·omega
 ·omega
theorem aod:∀a b:Fin 7,yP (a.1:Int) (b.1:Int)=true->a.1≠5->a.1≠6->b.1≠6->(a.1=b.1\/(a.1=3/\(b.1=1\/b.1=2))\/(a.1=4/\(b.1=1\/b.1=2\/b.1=3))):=by decide+kernel
theorem ais{a b:Int}(h:yP a b=true)(h5:a≠5)(h6:a≠6)(h7:b≠6):a=b\/(a=3/\(b=1\/b=2))\/(a=4/\(b=1\/b=2\/b=3)):=by
 have hr:1<=a/\a<=6/\1<=b/\b<=6:=by
  unfold yP at h
  rw[Bool.and_eq_true,decide_eq_true_eq] at h
  exact h.1
 obtain⟨x,rfl⟩:=ZM ⟨hr.1,hr.2.1⟩
 obtain⟨y,rfl⟩:=ZM ⟨hr.2.2.1,hr.2.2.2⟩
 have:=aod x y h (by omega) (by omega) (by omega)
 omega
theorem ak8{a b x:Int}(h:a=b\/(a=3/\(b=1\/b=2))\/(a=4/\(b=1\/b=2\/b=3)))(hx:kd b x=true):kd a x=true:=by
 rcases h with rfl|⟨rfl,rfl|rfl⟩|⟨rfl,rfl|rfl|rfl⟩
 ·exact hx
 all_goals
  simp [kd] at hx⊢
  omega
theorem ak7(x:Int):kd 5 x=true:=by simp [kd]
theorem aeL{y x:Spec}{t:ByteArray}(ht:t.size<=1099511627776)(hw:kY y x=true)(hv:bp x t=0):bp y t=0:=by
 obtain⟨w1,w2,w3,w4,w5⟩:=(alX y x).1 hw
 obtain⟨v1,v2,v3,v4,v5⟩:=(BP x t ht).1 hv
 refine(BP y t ht).2 ⟨w1,by omega,by omega,?_,?_⟩
 ·rcases w5 with e|e|e
  ·rw[e,List.all_eq_true];exact fun b _=>ak7 b
  ·rw[e.1,<-e.2];exact v4
  ·rw[List.all_eq_true] at v4⊢
   exact fun b hb=>ak8 (ais e.2.2.2 e.1 e.2.1 e.2.2.1) (v4 b hb)
 ·intro e6
  rcases w5 with e|e|e
  ·omega
  ·exact v5 e.2
  ·exact absurd e6 e.2.1
theorem anW:kd 1=cK:=by funext b;simp [kd,cK]
theorem EF(l:List Int):l.all (kd 1)=bk l:=by rw[anW];rfl
theorem PU{t:ByteArray}{w:Int}(h:(dm t w).2=true):1<=w/\w<=999/\(((dm t w).1).size:Int)=w/\bk (bl (dm t w).1)=true:=by
 by_cases hc:1<=t.size/\t.size<=999/\bk (bl t)=true/\1<=w/\w<=999
 ·rw[ZQ hc] at h⊢
  by_cases h4:(t.size:Int)<=w
  ·rw[zT h4,zC]
   have hd:bk (List.replicate (w-t.size).toNat 48++bl t)=true:=by
    have e:bk (List.replicate (w-t.size).toNat 48++bl t)=(bk (List.replicate (w-t.size).toNat 48)&&bk (bl t)):=List.all_append ..
    have e2:bk (List.replicate (w-t.size).toNat 48)=true:=by
     rw[bk,List.all_eq_true]
     intro x hx
     rw[(List.mem_replicate.1 hx).2];rfl
    rw[e,e2,hc.2.2.1];rfl
   refine⟨hc.2.2.2.1,hc.2.2.2.2,?_,?_⟩
   ·rw[n3,List.length_append,List.length_replicate,zg];omega
   ·rw[z21 (Rj hd)];exact hd
  ·rw[zF h4,zD] at h⊢
   cases hz:fL ((bl t).take (t.size-w.toNat)) with
   |false=>rw[hz] at h;cases h
   |true=>
    rw[zC]
    have hd:bk ((bl t).drop (t.size-w.toNat))=true:=by
     rw[bk,List.all_eq_true]
     intro x hx
     exact List.all_eq_true.1 hc.2.2.1 x (List.mem_of_mem_drop hx)
    refine⟨hc.2.2.2.1,hc.2.2.2.2,?_,?_⟩
    ·rw[n3,List.length_drop,zg];omega
    ·rw[z21 (Rj hd)];exact hd
 ·rw[IF hc] at h;cases h
theorem zwk{s:Spec}(h:hD s=true):s.2.1=1/\s.2.2.1=1:=by
 unfold hD at h
 rw[Bool.and_eq_true,decide_eq_true_eq,decide_eq_true_eq] at h
 exact h
abbrev kW:bg:=(0,bs [],())
def zr(r:aO)(b:zf)(t:ByteArray):bg×Int:=
 bif decide (r.1=1) then((r.2.2.1,t,()),0) else bif decide (r.1=2) then(kW,0) else bif decide (r.1=3) then((r.2.2.1,r.2.2.2.1,()),0)
 else bif decide (r.1=4) then(bif !bm b r.2.2.1 then(kW,9) else bif !(dm t (aJ b r.2.2.1).2.2.2.1).2 then(kW,5) else((r.2.2.1,(dm t (aJ b r.2.2.1).2.2.2.1).1,()),0))
 else bif decide (r.1=5) then(bif !(zq r.2.2.2.2.1 t).2 then(kW,15) else((r.2.2.1,(zq r.2.2.2.2.1 t).1,()),0)) else(kW,1)
theorem acV(r:aO)(b:zf)(t:ByteArray)(hp:r.2.2.2.2.1.length<=maxLen)(hb:b.2.2.1.length<=maxLen)(ht:t.size<=maxLen):oJ r b t=some (zr r b t):=by
 unfold oJ Wk zr
 rw[BM b _ hb,Option.bind_some,aof t _ ht,Option.bind_some,ach _ _ hp,Option.bind_some]
 generalize decide (r.1=1)=k1
 generalize decide (r.1=2)=k2
 generalize decide (r.1=3)=k3
 generalize decide (r.1=4)=k4
 generalize decide (r.1=5)=k5
 generalize bm b r.2.2.1=h
 generalize dm t (aJ b r.2.2.1).2.2.2.1=p
 generalize zq r.2.2.2.2.1 t=q
 obtain⟨p1,p2⟩:=p
 obtain⟨q1,q2⟩:=q
 cases k1<;>cases k2<;>cases k3<;>cases k4<;>cases k5<;>cases h<;>cases p2<;>cases q2<;>rfl
theorem Uq{s:zf}{no:Int}(h:bm s no=true):aJ s no∈s.2.2.1/\(aJ s no).1=no:=by
 unfold bm at h
 unfold aJ
 cases hf:gE s.2.2.1 no with
 |none=>rw[hf] at h;cases h
 |some x=>
  unfold gE at hf
  exact⟨List.mem_of_find?_eq_some hf,by simpa using List.find?_some hf⟩
theorem Rd{s:zf}(h:gW s){no:Int}(hh:bm s no=true):bN (aJ s no)=0:=h.2.2.2.1 _ (Uq hh).1
theorem z85{l:List bq}{t:ByteArray}(h:(zq l t).2=true):∃p∈l,p.1=t/\(zq l t).1=p.2.1:=by
 unfold zq at h⊢
 cases hf:l.find? fun p=>decide (p.1=t) with
 |none=>rw[hf] at h;cases h
 |some p=>exact⟨p,List.mem_of_find?_eq_some hf,by simpa using List.find?_some hf,rfl⟩
theorem z159:∀{l:List bq} {x y:Spec},eO l x y=0->∀p∈l,bp x p.1=0/\bp y p.2.1=0
 | [],x,y,h,p,hp=>by cases hp
 |q::l,x,y,h,p,hp=>by
  unfold eO at h
  by_cases h1:bp x q.1=0
  ·rw[zT h1,Bool.not_true,zD] at h
   by_cases h2:bp y q.2.1=0
   ·rw[zT h2,Bool.not_true,zD] at h
    rcases List.mem_cons.1 hp with rfl|hp
    ·exact⟨h1,h2⟩
    ·exact z159 h p hp
   ·rw[zF h2,Bool.not_false,zC] at h;exact absurd h h2
  ·rw[zF h1,Bool.not_false,zC] at h;exact absurd h h1
theorem TR{r:aO}{a b:zf}(h:dh r a b=0):(1<=r.1/\r.1<=5)/\cZ r a b=false/\ii r=false/\jh r (aJ a r.2.1) (aJ b r.2.2.1)=0:=by
 unfold dh at h
 by_cases c1:r.1<1
 ·rw[zT c1] at h;cases h
 by_cases c2:5<r.1
 ·rw[zT c2,Bool.or_true] at h;cases h
 rw[zF c1,zF c2,Bool.or_false,zD] at h
 cases he:cZ r a b with
 |true=>rw[he] at h;cases h
 |false=>
  rw[he,zD] at h
  cases ht:ii r with
  |true=>rw[ht] at h;cases h
  |false=>rw[ht,zD] at h;exact⟨by omega,rfl,rfl,h⟩
theorem zi8{r:aO}{a b:zf}(h:cZ r a b=false):(r.1=3->r.2.1=0)/\(r.1≠3->bm a r.2.1=true)/\(r.1=2->r.2.2.1=0)/\(r.1≠2->bm b r.2.2.1=true):=by
 unfold cZ at h
 rw[Bool.or_eq_false_iff] at h
 obtain⟨h1,h2⟩:=h
 refine⟨fun e=> ?_,fun e=> ?_,fun e=> ?_,fun e=> ?_⟩
 ·rw[zT e,zC] at h1;simpa using h1
 ·rw[zF e,zD] at h1;simpa using h1
 ·rw[zT e,zC] at h2;simpa using h2
 ·rw[zF e,zD] at h2;simpa using h2
theorem ac8{r:aO}{a b:zf}{t:ByteArray}(ht:t.size<=1099511627776)(hr:fm r)(hc:dh r a b=0)(hb:gW b)(hv:bm a r.2.1=true->bp (aJ a r.2.1) t=0):
 ((zr r b t).2≠0->((r.1=4/\(zr r b t).2=5)\/(r.1=5/\(zr r b t).2=15))/\(zr r b t).1=kW)/\
 ((zr r b t).2=0->(r.1=2->(zr r b t).1=kW)/\(r.1≠2->(zr r b t).1.1=r.2.2.1/\bm b r.2.2.1=true/\bp (aJ b r.2.2.1) (zr r b t).1.2.1=0)):=by
 obtain⟨c1,c2,c3,c4⟩:=TR hc
 obtain⟨e1,e2,e3,e4⟩:=zi8 c2
 unfold jh at c4
 have hk:r.1=1\/r.1=2\/r.1=3\/r.1=4\/r.1=5:=by omega
 unfold zr
 rcases hk with k|k|k|k|k
 ·rw[zT k,zC] at c4⊢
  refine⟨fun h=>absurd rfl h,fun _=>⟨fun e=>by omega,fun _=>⟨rfl,e4 (by omega),?_⟩⟩⟩
  cases hw:kY (aJ b r.2.2.1) (aJ a r.2.1) with
  |false=>rw[hw] at c4;cases c4
  |true=>exact aeL ht hw (hv (e2 (by omega)))
 ·rw[zF (by omega:¬r.1=1),zT k,zD,zC]
  exact⟨fun h=>absurd rfl h,fun _=>⟨fun _=>rfl,fun e=>absurd k e⟩⟩
 ·rw[zF (by omega:¬r.1=1),zT k,zD,zC] at c4
  rw[zF (by omega:¬r.1=1),zF (by omega:¬r.1=2),zT k,zD,zD,zC]
  exact⟨fun h=>absurd rfl h,fun _=>⟨fun e=>by omega,fun _=>⟨rfl,e4 (by omega),c4⟩⟩⟩
 ·rw[zF (by omega:¬r.1=1),zF (by omega:¬r.1=3),zT k,zD,zD,zC] at c4
  rw[zF (by omega:¬r.1=1),zF (by omega:¬r.1=2),zF (by omega:¬r.1=3),zT k,zD,zD,zD,zC,e4 (by omega),Bool.not_true,zD]
  have hy:=Rd hb (e4 (by omega))
  have hpd:hD (aJ b r.2.2.1)=true:=by
   cases hp:(hD (aJ a r.2.1)&&hD (aJ b r.2.2.1)) with
   |false=>rw[hp] at c4;cases c4
   |true=>exact(Bool.and_eq_true_iff.1 hp).2
  obtain⟨y1,y2⟩:=zwk hpd
  obtain⟨_,_,_,f4,f5,_⟩:=TK hy
  cases hp:(dm t (aJ b r.2.2.1).2.2.2.1).2 with
  |false=>exact⟨fun _=>⟨.inl ⟨k,rfl⟩,rfl⟩,fun e=>by cases e⟩
  |true=>
   obtain⟨p1,p2,p3,p4⟩:=PU hp
   rw[Bool.not_true,zD]
   refine⟨fun h=>absurd rfl h,fun _=>⟨fun e=>by omega,fun _=>⟨rfl,rfl,?_⟩⟩⟩
   have:=f5 y2
   refine(BP _ _ (by show(dm t (aJ b r.2.2.1).2.2.2.1).1.size<=1099511627776;omega)).2 ⟨hy,?_,?_,?_,fun e=>by omega⟩
   ·show _<=((dm t (aJ b r.2.2.1).2.2.2.1).1.size:Int);omega
   ·show((dm t (aJ b r.2.2.1).2.2.2.1).1.size:Int)<=_;omega
   ·rw[y1,EF];exact p4
 ·rw[zF (by omega:¬r.1=1),zF (by omega:¬r.1=3),zF (by omega:¬r.1=4),zT k,zD,zD,zD,zC] at c4
  rw[zF (by omega:¬r.1=1),zF (by omega:¬r.1=2),zF (by omega:¬r.1=3),zF (by omega:¬r.1=4),zT k,zD,zD,zD,zD,zC]
  unfold IG at c4
  cases hp:(zq r.2.2.2.2.1 t).2 with
  |false=>exact⟨fun _=>⟨.inr ⟨k,rfl⟩,rfl⟩,fun e=>by cases e⟩
  |true=>
   rw[Bool.not_true,zD]
   refine⟨fun h=>absurd rfl h,fun _=>⟨fun e=>by omega,fun _=>⟨rfl,e4 (by omega),?_⟩⟩⟩
   obtain⟨p,hm,_,hq⟩:=z85 hp
   show bp _ (zq r.2.2.2.2.1 t).1=0
   rw[hq]
   cases hz:(!decide ((rB r.2.2.2.2.1).1=0)||decide ((r.2.2.2.2.1.length:Int)=0)) with
   |true=>rw[hz] at c4;cases c4
   |false=>rw[hz,zD] at c4;exact(z159 c4 p hm).2
end bj

set_option profiler true
set_option profiler.threshold 2000
namespace bj
open Go.IntKind renaming wrap->zW,i64->zI,u8->zU
open Go Go.Ref
def cF(style c:Int):Int:=if style=2/\c=1 then 1 else if style=1/\(c=5\/c=6) then 2 else 0
def iL(h:Int)(n:Nat):Nat:=if h=1 then(n+1)/2 else if h=2 then 2*n else n
def lq(h:Int)(t:ByteArray)(n:Int):Sum Int ByteArray:=if h=1 then(if(kZ t n).2.1=0 then .inr (kZ t n).1 else .inl (kZ t n).2.1) else if h=2 then(if(na t).2.2=true then .inr (na t).1 else .inl 3) else .inr t
def qU(s:Spec)(z:Int):Sum Int ByteArray->ByteArray×Int×Int
 | .inl e=>(bs [],0,e)
 | .inr t=>if bp s t=0 then(t,z,0) else(bs [],0,bp s t)
def s7(h:Int)(s:Spec)(b:ByteArray)(n a:Nat):ByteArray×Int×Int:=
 if b.size<a+iL h n then(bs [],0,2) else qU s ((a+iL h n:Nat):Int) (lq h (b.extract a (a+iL h n)) n)
def ZK(style:Int)(s:Spec)(b:ByteArray)(at_:Int):Sum Int (Nat×Nat):=
 if s.2.2.1=1 then .inr (s.2.2.2.1.toNat,at_.toNat) else if¬(lm style s.2.2.1 b at_).2.2=0 then .inl (lm style s.2.2.1 b at_).2.2 else
  if(lm style s.2.2.1 b at_).1<s.2.2.2.1\/s.2.2.2.2.1<(lm style s.2.2.1 b at_).1 then .inl 5 else .inr ((lm style s.2.2.1 b at_).1.toNat,(lm style s.2.2.1 b at_).2.1.toNat)
def uA(h:Int)(s:Spec)(b:ByteArray):Sum Int (Nat×Nat)->ByteArray×Int×Int
 | .inl e=>(bs [],0,e)
 | .inr q=>s7 h s b q.1 q.2
def n5(style:Int)(s:Spec)(b:ByteArray)(at_:Int):ByteArray×Int×Int:=
 if(style=1\/style=2)/\bN s=0/\0<=at_/\at_<=b.size then uA (cF style s.2.1) s b (ZK style s b at_) else(bs [],0,1)
theorem ZL(style c:Int):lD style c=some (cF style c):=by
 unfold lD XU cF
 by_cases h1:style=1<;>by_cases h2:style=2<;>by_cases h3:c=1<;>by_cases h4:c=5<;>by_cases h5:c=6<;>(try(exfalso;omega))<;>simp [h1,h2,h3,h4,h5]
theorem SM(style c:Int):cF style c=0\/cF style c=1\/cF style c=2:=by
 unfold cF
 split
 ·exact .inr (.inl rfl)
 ·split
  ·exact .inr (.inr rfl)
  ·exact .inl rfl
theorem Ip{s:Spec}(h:bN s=0):1<=s.2.1/\s.2.1<=6/\1<=s.2.2.1/\s.2.2.1<=3/\1<=s.2.2.2.1/\s.2.2.2.1<=s.2.2.2.2.1/\s.2.2.2.2.1<=999/\(s.2.2.1=2->s.2.2.2.2.1<=99)/\(s.2.2.1=1->s.2.2.2.1=s.2.2.2.2.1):=by
 unfold bN at h
 split at h
 ·cases h
 split at h
 ·cases h
 split at h
 ·cases h
 split at h
 ·cases h
 refine⟨by omega,by omega,by omega,by omega,by omega,by omega,by omega,fun e=>by omega,fun e=>by omega⟩
theorem Oe:∀l:List Int,(fN l).length<=l.length
 | []=>by simp [fN]
 | [a]=>by simp [fN]
 |a::b::r=>by rw[fN,List.length_cons,List.length_cons,List.length_cons];have:=Oe r;omega
theorem adr(s:ByteArray):(na s).1.size<=s.size:=by
 unfold na
 split
 ·exact Nat.zero_le _
 ·split
  ·exact Nat.zero_le _
  ·rw[n3,<-zg];exact Oe _
theorem ahV{style form:Int}{b:ByteArray}{at_:Int}(h:(lm style form b at_).2.2=0):0<=(lm style form b at_).2.1/\(lm style form b at_).2.1<=b.size:=by
 unfold lm at h⊢
 cases hk:(fg style form&&decide (0<=at_/\at_<=(b.size:Int))) with
 |false=>rw[hk] at h;cases h
 |true=>
  rw[hk] at h
  simp only[zC] at h⊢
  split
  ·exact⟨Int.le_refl _,Int.natCast_nonneg _⟩
  ·rename_i hs
   split
   ·dsimp only;exact⟨by omega,by omega⟩
   ·exact⟨Int.le_refl _,Int.natCast_nonneg _⟩
def kx(ke:Int)(j5:Spec)(mW:ByteArray)(n a:Int):Option KQ:=
 let K:ByteArray->Int->Int->Option KQ:=fun a0 a1 a2=>some (a0,a1,a2)
 ((lD ke j5.2.1).bind fun r4=>(bif(decide (r4=(1:Int))) then((Q2 n).bind fun r5=>(bif(decide ((zW zI (((mW).size:Int)-a))<r5)) then(K (bs []) (0:Int) (2:Int)) else(bif(decide ((0:Int)<=(zW zI (a+r5)))) then(bif(decide ((zW zI (a+r5))<=(((mW).size:Nat):Int))) then(bif(decide ((0:Int)<=a)) then(bif(decide (a<=((((zW zI (a+r5))).toNat:Nat):Int))) then((lD ke j5.2.1).bind fun r6=>(bif(decide (r6=(1:Int))) then((Q0 ((mW).extract (a).toNat ((zW zI (a+r5))).toNat) n).bind fun r7=>(bif(!(decide (r7.2.1=(0:Int)))) then(K (bs []) (0:Int) r7.2.1) else((bX j5 r7.1).bind fun r8=>(bif(!(decide (r8=(0:Int)))) then(K (bs []) (0:Int) r8) else(K r7.1 (zW zI (a+r5)) (0:Int)))))) else(bif(decide (r6=(2:Int))) then((im ((mW).extract (a).toNat ((zW zI (a+r5))).toNat)).bind fun r9=>(bif(!r9.2.2) then(K (bs []) (0:Int) (3:Int)) else((bX j5 r9.1).bind fun kR=>(bif(!(decide (kR=(0:Int)))) then(K (bs []) (0:Int) kR) else(K r9.1 (zW zI (a+r5)) (0:Int)))))) else((bX j5 ((mW).extract (a).toNat ((zW zI (a+r5))).toNat)).bind fun lz=>(bif(!(decide (lz=(0:Int)))) then(K (bs []) (0:Int) lz) else(K ((mW).extract (a).toNat ((zW zI (a+r5))).toNat) (zW zI (a+r5)) (0:Int))))))) else none) else none) else none) else none))) else(bif(decide (r4=(2:Int))) then(bif(decide ((zW zI (((mW).size:Int)-a))<(zW zI ((2:Int)*n)))) then(K (bs []) (0:Int) (2:Int)) else(bif(decide ((0:Int)<=(zW zI (a+(zW zI ((2:Int)*n)))))) then(bif(decide ((zW zI (a+(zW zI ((2:Int)*n))))<=(((mW).size:Nat):Int))) then(bif(decide ((0:Int)<=a)) then(bif(decide (a<=((((zW zI (a+(zW zI ((2:Int)*n))))).toNat:Nat):Int))) then((lD ke j5.2.1).bind fun lj=>(bif(decide (lj=(1:Int))) then((Q0 ((mW).extract (a).toNat ((zW zI (a+(zW zI ((2:Int)*n))))).toNat) n).bind fun mP=>(bif(!(decide (mP.2.1=(0:Int)))) then(K (bs []) (0:Int) mP.2.1) else((bX j5 mP.1).bind fun vU=>(bif(!(decide (vU=(0:Int)))) then(K (bs []) (0:Int) vU) else(K mP.1 (zW zI (a+(zW zI ((2:Int)*n)))) (0:Int)))))) else(bif(decide (lj=(2:Int))) then((im ((mW).extract (a).toNat ((zW zI (a+(zW zI ((2:Int)*n))))).toNat)).bind fun sZ=>(bif(!sZ.2.2) then(K (bs []) (0:Int) (3:Int)) else((bX j5 sZ.1).bind fun yi=>(bif(!(decide (yi=(0:Int)))) then(K (bs []) (0:Int) yi) else(K sZ.1 (zW zI (a+(zW zI ((2:Int)*n)))) (0:Int)))))) else((bX j5 ((mW).extract (a).toNat ((zW zI (a+(zW zI ((2:Int)*n))))).toNat)).bind fun Dk=>(bif(!(decide (Dk=(0:Int)))) then(K (bs []) (0:Int) Dk) else(K ((mW).extract (a).toNat ((zW zI (a+(zW zI ((2:Int)*n))))).toNat) (zW zI (a+(zW zI ((2:Int)*n)))) (0:Int))))))) else none) else none) else none) else none)) else(bif(decide ((zW zI (((mW).size:Int)-a))<n)) then(K (bs []) (0:Int) (2:Int)) else(bif(decide ((0:Int)<=(zW zI (a+n)))) then(bif(decide ((zW zI (a+n))<=(((mW).size:Nat):Int))) then(bif(decide ((0:Int)<=a)) then(bif(decide (a<=((((zW zI (a+n))).toNat:Nat):Int))) then((lD ke j5.2.1).bind fun Dl=>(bif(decide (Dl=(1:Int))) then((Q0 ((mW).extract (a).toNat ((zW zI (a+n))).toNat) n).bind fun vq=>(bif(!(decide (vq.2.1=(0:Int)))) then(K (bs []) (0:Int) vq.2.1) else((bX j5 vq.1).bind fun Dm=>(bif(!(decide (Dm=(0:Int)))) then(K (bs []) (0:Int) Dm) else(K vq.1 (zW zI (a+n)) (0:Int)))))) else(bif(decide (Dl=(2:Int))) then((im ((mW).extract (a).toNat ((zW zI (a+n))).toNat)).bind fun yj=>(bif(!yj.2.2) then(K (bs []) (0:Int) (3:Int)) else((bX j5 yj.1).bind fun L7=>(bif(!(decide (L7=(0:Int)))) then(K (bs []) (0:Int) L7) else(K yj.1 (zW zI (a+n)) (0:Int)))))) else((bX j5 ((mW).extract (a).toNat ((zW zI (a+n))).toNat)).bind fun L8=>(bif(!(decide (L8=(0:Int)))) then(K (bs []) (0:Int) L8) else(K ((mW).extract (a).toNat ((zW zI (a+n))).toNat) (zW zI (a+n)) (0:Int))))))) else none) else none) else none) else none)))))
theorem anF(style:Int)(s:Spec)(b:ByteArray)(n a:Nat)(hb:b.size<=1099511627776)(hn:n<=999)(ha:a<=b.size)(hh:cF style s.2.1=0):kx style s b n a=some (s7 (cF style s.2.1) s b n a):=by
 unfold kx
 simp only[ZL,zc]
 have w0:zW zI ((b.size:Int)-(a:Int))=(b.size:Int)-a:=zj (by omega) (by omega)
 have w1:∀z:Nat,z<=2000->zW zI ((a:Int)+(z:Int))=((a+z:Nat):Int):=fun z hz=>by rw[zj (by omega) (by omega)];omega
 have hx:∀z:Nat,((a+z:Nat):Int).toNat=a+z:=fun z=>Int.toNat_natCast _
 have Hw:∀z:Nat,(b.extract a (a+z)).size<=1099511627776:=fun z=>by rw[ByteArray.size_extract];omega
 rw[hh]
 simp only[Int.reduceEq,decide_true,decide_false,zC,zD,w0,w1 n (by omega),hx,Int.toNat_natCast]
 unfold s7 iL lq
 simp only[show¬((0:Int)=1) from by decide,show¬((0:Int)=2) from by decide,if_false]
 split
 ·rename_i hc
  rw[zT (by omega),zC]
 ·rename_i hc
  rw[zF (by omega),zD,zT (by omega),zC,zT (by omega),zC,zT (by omega),zC,zT (by omega),zC,yz _ _ (Hw n),zc]
  unfold qU
  by_cases hv:bp s (b.extract a (a+n))=0
  ·simp only[hv,decide_true,Bool.not_true,zD,if_true]
  ·simp only[hv,decide_false,Bool.not_false,zC,if_false]
theorem anG(style:Int)(s:Spec)(b:ByteArray)(n a:Nat)(hb:b.size<=1099511627776)(hn:n<=999)(ha:a<=b.size)(hh:cF style s.2.1=1):kx style s b n a=some (s7 (cF style s.2.1) s b n a):=by
 unfold kx
 simp only[ZL,zc]
 have w0:zW zI ((b.size:Int)-(a:Int))=(b.size:Int)-a:=zj (by omega) (by omega)
 have w1:∀z:Nat,z<=2000->zW zI ((a:Int)+(z:Int))=((a+z:Nat):Int):=fun z hz=>by rw[zj (by omega) (by omega)];omega
 have hx:∀z:Nat,((a+z:Nat):Int).toNat=a+z:=fun z=>Int.toNat_natCast _
 have Hw:∀z:Nat,(b.extract a (a+z)).size<=1099511627776:=fun z=>by rw[ByteArray.size_extract];omega
 rw[hh]
 have ez:((n:Int)+1)/2=(((n+1)/2:Nat):Int):=by omega
 simp only[Int.reduceEq,decide_true,decide_false,zC,zD,QQ (n:Int) (by omega) (by omega),zc,ez]
 simp only[w0,w1 ((n+1)/2) (by omega),hx,Int.toNat_natCast,Int.reduceEq,decide_true,decide_false,zC,zD]
 unfold s7 iL lq
 simp only[if_true]
 split
 ·rename_i hc
  rw[zT (by omega),zC]
 ·rename_i hc
  rw[zF (by omega),zD,zT (by omega),zC,zT (by omega),zC,zT (by omega),zC,zT (by omega),zC,zhq _ _ (Hw _),zc]
  generalize hg:kZ (b.extract a (a+(n+1)/2)) (n:Int)=g
  obtain⟨t,e,i⟩:=g
  have lg:=zar hg
  dsimp only
  by_cases he:e=0
  ·rw[zT he,Bool.not_true,zD,if_pos he,yz _ _ (by omega),zc]
   unfold qU
   by_cases hv:bp s t=0
   ·simp only[hv,decide_true,Bool.not_true,zD,if_true]
   ·simp only[hv,decide_false,Bool.not_false,zC,if_false]
  ·rw[zF he,Bool.not_false,zC,if_neg he];rfl
theorem anH(style:Int)(s:Spec)(b:ByteArray)(n a:Nat)(hb:b.size<=1099511627776)(hn:n<=999)(ha:a<=b.size)(hh:cF style s.2.1=2):kx style s b n a=some (s7 (cF style s.2.1) s b n a):=by
 unfold kx
 simp only[ZL,zc]
 have w0:zW zI ((b.size:Int)-(a:Int))=(b.size:Int)-a:=zj (by omega) (by omega)
 have w1:∀z:Nat,z<=2000->zW zI ((a:Int)+(z:Int))=((a+z:Nat):Int):=fun z hz=>by rw[zj (by omega) (by omega)];omega
 have hx:∀z:Nat,((a+z:Nat):Int).toNat=a+z:=fun z=>Int.toNat_natCast _
 have Hw:∀z:Nat,(b.extract a (a+z)).size<=1099511627776:=fun z=>by rw[ByteArray.size_extract];omega
 rw[hh]
 have ez:zW zI ((2:Int)*(n:Int))=((2*n:Nat):Int):=by rw[zj (by omega) (by omega)];omega
 simp only[Int.reduceEq,decide_true,decide_false,zD,zC]
 rw[ez]
 simp only[w0,w1 (2*n) (by omega),hx,Int.toNat_natCast,Int.reduceEq,decide_true,decide_false,zC,zD]
 unfold s7 iL lq
 simp only[show¬((2:Int)=1) from by decide,if_false,if_true]
 split
 ·rename_i hc
  rw[zT (by omega),zC]
 ·rename_i hc
  rw[zF (by omega),zD,zT (by omega),zC,zT (by omega),zC,zT (by omega),zC,zT (by omega),zC,zw2 _ (Hw _),zc]
  have lg:=adr (b.extract a (a+2*n))
  have h3:=Hw (2*n)
  generalize na (b.extract a (a+2*n))=g at lg
  obtain⟨t,i,ok⟩:=g
  dsimp only at lg⊢
  cases ok with
  |true=>
   rw[Bool.not_true,zD,if_pos rfl,yz _ _ (by omega),zc]
   unfold qU
   by_cases hv:bp s t=0
   ·simp only[hv,decide_true,Bool.not_true,zD,if_true]
   ·simp only[hv,decide_false,Bool.not_false,zC,if_false]
  |false=>rw[Bool.not_false,zC,if_neg (by decide)];rfl
theorem N2(style:Int)(s:Spec)(b:ByteArray)(n a:Nat)(hb:b.size<=1099511627776)(hn:n<=999)(ha:a<=b.size):kx style s b n a=some (s7 (cF style s.2.1) s b n a):=by
 rcases SM style s.2.1 with hh|hh|hh
 ·exact anF style s b n a hb hn ha hh
 ·exact anG style s b n a hb hn ha hh
 ·exact anH style s b n a hb hn ha hh
theorem adX(style:Int)(s:Spec)(b:ByteArray)(at_:Int)(hb:b.size<=1099511627776):IP style s b at_=some (n5 style s b at_):=by
 have hk:Cb style=some (decide (style=1\/style=2)):=by
  unfold Cb Si
  by_cases h1:style=1
  ·rw[zT (p:=style=1\/style=2) (.inl h1),zT h1];rfl
  ·rw[zF h1,zD]
   by_cases h2:style=2
   ·rw[zT (p:=style=1\/style=2) (.inr h2),zT h2]
   ·rw[zF (p:=style=1\/style=2) (fun h=>h.elim h1 h2),zF h2]
 unfold IP XL n5
 rw[hk,zc]
 by_cases h1:style=1\/style=2
 case neg=>rw[zF h1,if_neg (fun h=>h1 h.1)];rfl
 rw[zT h1,Bool.not_true,zD,QK,zc]
 by_cases h2:bN s=0
 case neg=>rw[zF h2,if_neg (fun h=>h2 h.2.1)];rfl
 rw[zT h2,Bool.not_true,zD]
 by_cases h3:at_<0
 ·rw[zT h3,if_neg (fun h=>by omega)];rfl
 rw[zF h3,zD]
 by_cases h4:(b.size:Int)<at_
 ·rw[zT h4,if_neg (fun h=>by omega)];rfl
 rw[zF h4,zD,if_pos ⟨h1,h2,by omega,by omega⟩]
 obtain⟨k1,k2,k3,k4,k5,k6,k7,k8,k9⟩:=Ip h2
 obtain⟨m,rfl⟩:∃m:Nat,at_=m:=⟨at_.toNat,by omega⟩
 unfold ZK
 by_cases h5:s.2.2.1=1
 ·rw[zT h5,Bool.not_true,zD,if_pos h5]
  have:=N2 style s b s.2.2.2.1.toNat m hb (by omega) (by omega)
  rw[Int.toNat_of_nonneg (by omega)] at this
  exact this
 ·rw[zF h5,Bool.not_false,zC,if_neg h5,ahU _ _ _ _ hb,zc]
  by_cases h6:(lm style s.2.2.1 b m).2.2=0
  case neg=>rw[zF h6,if_pos h6];rfl
  rw[zT h6,Bool.not_true,zD,if_neg (fun h=>h h6)]
  have hp:=ahV h6
  by_cases h7:(lm style s.2.2.1 b m).1<s.2.2.2.1
  ·rw[zT h7,if_pos (.inl h7)];rfl
  rw[zF h7,zD]
  by_cases h8:s.2.2.2.2.1<(lm style s.2.2.1 b m).1
  ·rw[zT h8,if_pos (.inr h8)];rfl
  rw[zF h8,zD,if_neg (fun h=>h.elim h7 h8)]
  have:=N2 style s b (lm style s.2.2.1 b m).1.toNat (lm style s.2.2.1 b m).2.1.toNat hb (by omega) (by omega)
  rw[Int.toNat_of_nonneg (by omega),Int.toNat_of_nonneg (by omega)] at this
  exact this
theorem Lx{style c:Int}(h:cF style c=1):style=2/\c=1:=by
 unfold cF at h
 split at h
 ·assumption
 ·split at h<;>cases h
def iz(h:Int)(t:ByteArray):ByteArray:=if h=1 then(rl t).1 else if h=2 then sN t else t
def hG(style form:Int)(n:Nat):ByteArray:=if form=1 then bs [] else(nb style form n).1
def ri(style:Int)(s:Spec)(t:ByteArray):ByteArray×Int:=
 if¬(style=1\/style=2) then(bs [],1) else if¬bp s t=0 then(bs [],bp s t) else(hG style s.2.2.1 t.size++iz (cF style s.2.1) t,0)
theorem zhs(t:ByteArray):(rl t).1.size<=500:=by
 by_cases h:t.size<=999/\bk (bl t)=true
 ·rw[QL h.1 h.2];omega
 ·unfold rl;rw[zF h];exact Nat.zero_le _
theorem Nq(style form:Int)(n:Nat):(hG style form n).size<=500:=by
 unfold hG nb
 split
 ·exact Nat.zero_le _
 ·cases fg style form with
  |false=>exact Nat.zero_le _
  |true=>
   cases(gN (n:Int) form).2 with
   |false=>exact Nat.zero_le _
   |true=>
    show(if style=2 then _ else _:ByteArray).size<=500
    split
    ·exact zhs _
    ·have:=Nt (n:Int) form;omega
theorem z138(h:Int)(t:ByteArray):(iz h t).size<=2*t.size+500:=by
 unfold iz
 split
 ·have:=zhs t;omega
 ·split
  ·rw[QM];omega
  ·omega
theorem ZJ(x:ByteArray):bs []++x=x:=by
 apply ByteArray.ext
 simp [ByteArray.data_append,bs]
theorem adY(style:Int)(s:Spec)(t:ByteArray)(ht:t.size<=1099511627776):B9 style s t=some (ri style s t):=by
 unfold B9 XP Cb Si ri
 have eU:=z138 (cF style s.2.1) t
 have jo:=Nq style s.2.2.1 t.size
 have main:style=1\/style=2->(bX s t).bind (fun r2=>(bif(!(decide (r2=(0:Int)))) then some (bs [],r2) else(bif(!(decide (s.2.2.1=(1:Int)))) then((rL style s.2.2.1 ((t).size:Int)).bind fun r3=>((lD style s.2.1).bind fun r4=>(bif(decide (r4=(1:Int))) then((Q1 t).bind fun r5=>(bif decide ((r3.1).size+(r5.1).size<=9223372036854775807) then some (r3.1++r5.1,(0:Int)) else none)) else(bif(decide (r4=(2:Int))) then((kj t).bind fun r6=>(bif decide ((r3.1).size+(r6).size<=9223372036854775807) then some (r3.1++r6,(0:Int)) else none)) else(bif decide ((r3.1).size+(t).size<=9223372036854775807) then some (r3.1++t,(0:Int)) else none))))) else((lD style s.2.1).bind fun r7=>(bif(decide (r7=(1:Int))) then((Q1 t).bind fun r8=>(bif decide (((bs [])).size+(r8.1).size<=9223372036854775807) then some ((bs [])++r8.1,(0:Int)) else none)) else(bif(decide (r7=(2:Int))) then((kj t).bind fun r9=>(bif decide (((bs [])).size+(r9).size<=9223372036854775807) then some ((bs [])++r9,(0:Int)) else none)) else(bif decide (((bs [])).size+(t).size<=9223372036854775807) then some ((bs [])++t,(0:Int)) else none)))))))=some (if¬bp s t=0 then(bs [],bp s t) else(hG style s.2.2.1 t.size++iz (cF style s.2.1) t,0)):=fun hs=>by
  rw[yz s t ht,zc]
  by_cases hv:bp s t=0
  case neg=>rw[zF hv,if_pos hv];rfl
  rw[zT hv,Bool.not_true,zD,if_neg (fun h=>h hv)]
  simp only[ZL,zc,ahW _ _ _ (show(t.size:Int)<=9223372036854775807 by omega),zhr t (by simp only[maxLen];omega),zw3 t ht]
  have hz:(bs []).size=0:=rfl
  by_cases h1:s.2.2.1=1
  ·rw[zT h1,Bool.not_true,zD]
   unfold hG
   rw[if_pos h1]
   unfold iz at eU⊢
   rcases SM style s.2.1 with hh|hh|hh<;>rw[hh] at eU⊢ <;>simp only[Int.reduceEq,decide_true,decide_false,zC,zD,if_true,if_false] at eU⊢
   all_goals rw[zT (by omega),zC]
  ·rw[zF h1,Bool.not_false,zC]
   unfold hG at jo⊢
   rw[if_neg h1] at jo⊢
   unfold iz at eU⊢
   rcases SM style s.2.1 with hh|hh|hh<;>rw[hh] at eU⊢ <;>simp only[Int.reduceEq,decide_true,decide_false,zC,zD,if_true,if_false] at eU⊢
   all_goals rw[zT (by omega),zC]
 by_cases h1:style=1
 ·rw[zT h1,zC,zc,Bool.not_true,zD,if_neg (fun h=>h (.inl h1))]
  exact main (.inl h1)
 ·rw[zF h1,zD,zc]
  by_cases h2:style=2
  ·rw[zT h2,Bool.not_true,zD,if_neg (fun h=>h (.inr h2))]
   exact main (.inr h2)
  ·rw[zF h2,if_pos (fun h=>h.elim h1 h2)];rfl
theorem Xs(x p y:ByteArray):(x++p++y).extract x.size (x.size+p.size)=p:=by
 apply wy
 rw[sD,oi,oi,List.append_assoc,<-zg,<-zg,List.take_append,List.drop_append_of_le_length (by simp),]
 simp
theorem j7(x y:ByteArray):(x++y).size=x.size+y.size:=ByteArray.size_append ..
theorem R7(b:ByteArray){i j k:Nat}(h:i<=j)(h2:j<=k):b.extract i j++b.extract j k=b.extract i k:=by
 apply wy
 rw[oi,sD,sD,sD]
 generalize bl b=l
 have e1:l.take j=(l.take k).take j:=by rw[List.take_take];congr 1;omega
 rw[e1]
 generalize l.take k=q
 rw[<-List.take_append_drop (j-i) (q.drop i),List.drop_take,List.drop_drop,show i+(j-i)=j by omega]
theorem alF{n w:Int}(h:0<=n/\1<=w/\w<=18/\n.toNat/10^w.toNat=0):dM (bl (gN n w).1)=(n,true)/\(gN n w).1.size=w.toNat/\bk (bl (gN n w).1)=true/\(gN n w).2=true:=by
 rw[ZR h]
 dsimp only
 have hb:bl (strOf (n7 w.toNat n.toNat))=n7 w.toNat n.toNat:=z21 (Rj (Xp _ _))
 refine⟨?_,by rw[n3,QR],by rw[hb];exact Xp _ _,rfl⟩
 rw[hb]
 unfold dM
 rw[QR,Xp,if_pos ⟨by omega,by omega,rfl⟩,OV _ _ h.2.2.2,Int.toNat_of_nonneg h.1]
theorem MZ{s:ByteArray}{n:Int}(h:dM (bl s)=(n,true)):gN n s.size=(s,true)/\0<=n:=by
 unfold dM at h
 split at h
 ·rename_i hc
  obtain⟨h1,h2,h3⟩:=hc
  have hv:fx (bl s) 0=n:=congrArg Prod.fst h
  have hn:=(zwz (bl s) 0 0 h3 (Int.le_refl _) (by simp) (by omega)).1
  rw[hv] at hn
  obtain⟨e1,e2⟩:=N5 (bl s).length n.toNat (bl s) h3 rfl (by rw[hv,Int.toNat_of_nonneg hn])
  rw[zg] at e1 e2 h1 h2
  refine⟨?_,hn⟩
  rw[ZR ⟨hn,by omega,by omega,by rw[Int.toNat_natCast];exact e2⟩,Int.toNat_natCast,e1,vH]
 ·cases h
theorem zit{style form:Int}:fg style form=true↔(style=1\/style=2)/\(form=2\/form=3):=by unfold fg;rw[decide_eq_true_eq]
theorem ahX{style form:Int}{n:Nat}(hk:fg style form=true)(hn:n/10^form.toNat=0):pq style form (nb style form n).1=some (n:Int)/\(nb style form n).1.size=j4 style form/\(nb style form n).2=0:=by
 have A4:=zit.1 hk
 obtain⟨p1,p2,p3,p4⟩:=alF (n:=(n:Int)) (w:=form) ⟨by omega,by omega,by omega,by rw[Int.toNat_natCast];exact hn⟩
 unfold pq j4 nb
 rw[hk,zC,p4,zC]
 dsimp only
 by_cases hs:style=2
 ·rw[if_pos hs,if_pos hs,if_pos hs]
  have hb:=zqv (s:=(gN n form).1) (by omega) p3
  rw[p2,Int.toNat_of_nonneg (by omega)] at hb
  rw[hb]
  dsimp only
  rw[if_pos rfl,p1]
  refine⟨rfl,?_,rfl⟩
  rw[QL (by omega) p3,p2]
 ·rw[if_neg hs,if_neg hs,if_neg hs,p1]
  exact⟨rfl,p2,rfl⟩
theorem aes{style form n:Int}{s:ByteArray}(hk:fg style form=true)(h:pq style form s=some n)(hs:s.size=j4 style form):nb style form n=(s,0)/\0<=n:=by
 have A4:=zit.1 hk
 unfold pq at h
 unfold j4 at hs
 unfold nb
 rw[hk,zC]
 by_cases h2:style=2
 ·rw[if_pos h2] at h hs⊢
  generalize hg:kZ s form=g at h
  obtain⟨t,e,i⟩:=g
  dsimp only at h
  split at h
  case isFalse=>cases h
  rename_i he
  subst he
  obtain⟨a1,a2,a3⟩:=zhu hg (by omega)
  split at h
  case isFalse=>cases h
  rename_i ho
  have hn:(dM (bl t)).1=n:=by simpa using h
  obtain⟨c1,c2⟩:=MZ (s:=t) (n:=n) (by rw[<-hn,<-ho])
  rw[a2] at c1
  rw[c1,zC]
  dsimp only
  rw[a1]
  exact⟨rfl,c2⟩
 ·rw[if_neg h2] at h hs⊢
  split at h
  case isFalse=>cases h
  rename_i ho
  have hn:(dM (bl s)).1=n:=by simpa using h
  obtain⟨c1,c2⟩:=MZ (s:=s) (n:=n) (by rw[<-hn,<-ho])
  rw[hs,Int.toNat_of_nonneg (by omega)] at c1
  rw[c1]
  exact⟨rfl,c2⟩
theorem alD{style form:Int}{n:Nat}(hk:fg style form=true)(hn:n/10^form.toNat=0)(x y:ByteArray):lm style form (x++(nb style form n).1++y) x.size=((n:Int),((x.size+(nb style form n).1.size:Nat):Int),0):=by
 obtain⟨h1,h2,h3⟩:=ahX hk hn
 unfold lm
 rw[hk,zT ⟨by omega,by rw[j7,j7];omega⟩,Bool.and_true,zC,Int.toNat_natCast,if_neg (by rw[j7,j7];omega),<-h2,Xs,h1]
theorem ahY{style form n z:Int}{b:ByteArray}{a:Nat}(h:lm style form b a=(n,z,0)):fg style form=true/\0<=n/\a<=b.size/\z=((a+j4 style form:Nat):Int)/\a+j4 style form<=b.size/\nb style form n=(b.extract a (a+j4 style form),0):=by
 unfold lm at h
 cases hk:(fg style form&&decide (0<=(a:Int)/\(a:Int)<=(b.size:Int))) with
 |false=>rw[hk] at h;cases h
 |true=>
  rw[hk,zC,Int.toNat_natCast] at h
  rw[Bool.and_eq_true,decide_eq_true_eq] at hk
  split at h
  ·cases h
  ·rename_i hs
   split at h
   ·rename_i m hm
    cases h
    obtain⟨c1,c2⟩:=aes hk.1 hm (Gp (by omega))
    exact⟨hk.1,c2,by omega,rfl,by omega,c1⟩
   ·cases h
theorem akD{style:Int}{s:Spec}{t:ByteArray}(ht:t.size<=1099511627776)(hv:bp s t=0):lq (cF style s.2.1) (iz (cF style s.2.1) t) t.size= .inr t/\(iz (cF style s.2.1) t).size=iL (cF style s.2.1) t.size:=by
 obtain⟨v1,v2,v3,v4,v5⟩:=(BP s t ht).1 hv
 have hk:=Ip v1
 unfold lq iz iL
 rcases SM style s.2.1 with hh|hh|hh<;>rw[hh]<;>simp only[Int.reduceEq,if_true,if_false]
 ·exact⟨trivial,trivial⟩
 ·have hc:=Lx hh
  rw[hc.2,EF] at v4
  rw[zqv (by omega) v4]
  exact⟨rfl,QL (by omega) v4⟩
 ·rw[Oh]
  exact⟨rfl,QM t⟩
theorem agY{style:Int}{s:Spec}{c t:ByteArray}{n:Nat}(hc:c.size=iL (cF style s.2.1) n)(hn:n<=999)(h:lq (cF style s.2.1) c n= .inr t):iz (cF style s.2.1) t=c/\t.size=n:=by
 unfold lq at h
 unfold iL at hc
 unfold iz
 rcases SM style s.2.1 with hh|hh|hh<;>rw[hh] at h hc⊢ <;>simp only[Int.reduceEq,if_true,if_false] at h hc⊢
 ·injection h with h
  exact⟨h.symm,by rw[<-h];exact hc⟩
 ·split at h
  case isFalse=>cases h
  rename_i he
  generalize hg:kZ c (n:Int)=g at h he
  obtain⟨t',e,i⟩:=g
  dsimp only at h he
  subst he
  injection h with h
  subst h
  obtain⟨a1,a2,a3⟩:=zhu hg (by omega)
  exact⟨by rw[a1],by omega⟩
 ·split at h
  case isFalse=>cases h
  rename_i he
  generalize hg:na c=g at h he
  obtain⟨t',i,ok⟩:=g
  dsimp only at h he
  subst he
  injection h with h
  subst h
  obtain⟨a1,a2⟩:=zih hg
  exact⟨a1,by omega⟩
theorem alC{n:Nat}{form:Int}(hf:form=2\/form=3)(h2:form=2->n<=99)(h3:n<=999):n/10^form.toNat=0:=by
 rcases hf with rfl|rfl
 ·show n/100=0
  have:=h2 rfl
  omega
 ·show n/1000=0
  omega
theorem agU{style:Int}{s:Spec}{t:ByteArray}(hs:style=1\/style=2)(ht:t.size<=1099511627776)(hv:bp s t=0)(x y:ByteArray):n5 style s (x++(ri style s t).1++y) x.size=(t,((x.size+(ri style s t).1.size:Nat):Int),0):=by
 obtain⟨v1,v2,v3,v4,v5⟩:=(BP s t ht).1 hv
 obtain⟨k1,k2,k3,k4,k5,k6,k7,k8,k9⟩:=Ip v1
 obtain⟨c1,c2⟩:=akD (style:=style) ht hv
 have hP:(ri style s t).1=hG style s.2.2.1 t.size++iz (cF style s.2.1) t:=by
  unfold ri
  rw[if_neg (fun h=>h hs),if_neg (fun h=>h hv)]
 rw[hP]
 generalize hC:iz (cF style s.2.1) t=C at c1 c2
 have body:∀(p:ByteArray),s7 (cF style s.2.1) s (p++C++y) t.size p.size=(t,((p.size+C.size:Nat):Int),0):=fun p=>by
  unfold s7
  rw[<-c2,if_neg (by rw[j7,j7];omega),Xs,c1]
  show(if bp s t=0 then _ else _)=_
  rw[if_pos hv]
 unfold n5
 rw[if_pos ⟨hs,v1,by omega,by simp only[j7];omega⟩]
 unfold ZK
 by_cases hf:s.2.2.1=1
 ·have hp:hG style s.2.2.1 t.size=bs []:=by unfold hG;rw[if_pos hf]
  rw[if_pos hf,hp,ZJ]
  have hn:s.2.2.2.1.toNat=t.size:=by have:=k9 hf;omega
  rw[hn,Int.toNat_natCast]
  exact body x
 ·rw[if_neg hf]
  have hp:hG style s.2.2.1 t.size=(nb style s.2.2.1 t.size).1:=by unfold hG;rw[if_neg hf]
  have fO:fg style s.2.2.1=true:=zit.2 ⟨hs,by omega⟩
  have hb:=alD fO (n:=t.size) (alC (by omega) (fun e=>by have:=k8 e;omega) (by omega)) x (C++y)
  have CD:x++(hG style s.2.2.1 t.size++C)++y=x++(nb style s.2.2.1 t.size).1++(C++y):=by rw[hp];simp [ByteArray.append_assoc]
  have xL:x++(nb style s.2.2.1 t.size).1++(C++y)=(x++(nb style s.2.2.1 t.size).1)++C++y:=by simp [ByteArray.append_assoc]
  rw[CD,hb]
  dsimp only
  rw[if_neg (fun h=>h rfl),if_neg (by omega)]
  unfold uA
  dsimp only
  rw[Int.toNat_natCast,Int.toNat_natCast,xL]
  have:=body (x++(nb style s.2.2.1 t.size).1)
  rw[j7] at this
  rw[this,hp,j7,Nat.add_assoc]
theorem zdn{style z:Int}{s:Spec}{b t:ByteArray}{a:Nat}(hb:b.size<=1099511627776)(h:n5 style s b a=(t,z,0)):(style=1\/style=2)/\bp s t=0/\(a:Int)<=z/\z<=b.size/\t.size<=999/\(ri style s t).1=b.extract a z.toNat:=by
 unfold n5 at h
 split at h
 case isFalse=>cases h
 rename_i hc
 obtain⟨hs,v1,ha0,ha1⟩:=hc
 obtain⟨k1,k2,k3,k4,k5,k6,k7,k8,k9⟩:=Ip v1
 have body:∀(n p:Nat),n<=999->s7 (cF style s.2.1) s b n p=(t,z,0)->bp s t=0/\z=((p+iL (cF style s.2.1) n:Nat):Int)/\p+iL (cF style s.2.1) n<=b.size/\t.size=n/\iz (cF style s.2.1) t=b.extract p (p+iL (cF style s.2.1) n):=by
  intro n p hn h
  unfold s7 at h
  split at h
  ·cases h
  ·rename_i al
   cases hg:lq (cF style s.2.1) (b.extract p (p+iL (cF style s.2.1) n)) (n:Int) with
   |inl e=>
    rw[hg] at h
    replace h:(bs [],(0:Int),e)=(t,z,0):=h
    injection h with _ h
    injection h with _ h
    exfalso
    subst h
    unfold lq at hg
    split at hg
    ·split at hg
     ·cases hg
     ·rename_i bK
      injection hg with hg
      exact bK hg
    ·split at hg
     ·split at hg<;>cases hg
     ·cases hg
   |inr t'=>
    rw[hg] at h
    replace h:(if bp s t'=0 then(t',((p+iL (cF style s.2.1) n:Nat):Int),(0:Int)) else(bs [],0,bp s t'))=(t,z,0):=h
    split at h
    ·rename_i hv
     cases h
     obtain⟨c1,c2⟩:=agY (Gp (by omega)) hn hg
     exact⟨hv,rfl,by omega,c2,c1⟩
    ·rename_i hv
     injection h with _ h
     injection h with _ h
     exact absurd h hv
 have fin:bp s t=0->(ri style s t).1=hG style s.2.2.1 t.size++iz (cF style s.2.1) t:=fun hv=>by
  unfold ri
  rw[if_neg (fun h=>h hs),if_neg (fun h=>h hv)]
 unfold ZK at h
 by_cases hf:s.2.2.1=1
 ·rw[if_pos hf] at h
  obtain⟨b1,b2,b3,b4,b5⟩:=body _ _ (by omega) h
  rw[Int.toNat_natCast] at b2 b3 b5
  refine⟨hs,b1,by omega,by omega,by omega,?_⟩
  rw[fin b1,b5,b2,Int.toNat_natCast]
  unfold hG
  rw[if_pos hf,ZJ]
 ·rw[if_neg hf] at h
  split at h
  ·rename_i he
   unfold uA at h
   injection h with _ h
   injection h with _ h
   exact absurd h he
  ·rename_i he
   split at h
   ·cases h
   ·rename_i hr
    generalize hg:lm style s.2.2.1 b (a:Int)=g at h he hr
    obtain⟨n,z',e⟩:=g
    dsimp only at h he hr
    have he:e=0:=by
     by_cases e0:e=0
     ·exact e0
     ·exact absurd e0 he
    subst he
    obtain⟨q1,q2,q3,q4,q5,q6⟩:=ahY hg
    obtain⟨b1,b2,b3,b4,b5⟩:=body _ _ (by omega) h
    dsimp only at b2 b3 b5
    subst q4
    rw[Int.toNat_natCast] at b2 b3 b5
    refine⟨hs,b1,by omega,by omega,by omega,?_⟩
    rw[fin b1,b5,b2,Int.toNat_natCast]
    have hpc:hG style s.2.2.1 t.size=b.extract a (a+j4 style s.2.2.1):=by
     unfold hG
     rw[if_neg hf,b4,Int.toNat_of_nonneg q2,q6]
    rw[hpc,R7 _ (by omega) (by omega)]
def pu(n:Nat)(l:List Int):Nat:=l.foldl (fun n c=>n*256+c.toNat) n
def kX(l:List Int):Nat:=pu 0 l
def lP(x:Nat):List Int:=[((x/72057594037927936 % 256:Nat):Int),((x/281474976710656 % 256:Nat):Int),((x/1099511627776 % 256:Nat):Int),((x/4294967296 % 256:Nat):Int),((x/16777216 % 256:Nat):Int),((x/65536 % 256:Nat):Int),((x/256 % 256:Nat):Int),((x % 256:Nat):Int)]
theorem R6{x:Nat}(h:x<18446744073709551616):kX (lP x)=x:=by
 simp only[kX,pu,lP,List.foldl,Int.toNat_natCast]
 omega
theorem eight{l:List Int}(h:l.length=8):∃a b c d e f g i,l=[a,b,c,d,e,f,g,i]:=by
 match l,h with
 | [a,b,c,d,e,f,g,i],_=>exact⟨a,b,c,d,e,f,g,i,rfl⟩
def SI:Nat->Nat->List Int
 |0,_=>[]
 |m+1,x=>SI m (x/256)++ [((x % 256:Nat):Int)]
theorem aip(l:List Int)(n:Nat)(c:Int):pu n (l++ [c])=pu n l*256+c.toNat:=by
 unfold pu;rw[List.foldl_append];rfl
theorem zvj:∀(m:Nat) (l:List Int),l.length=m->(∀y∈l,zm y)->SI m (kX l)=l/\kX l<256^m
 |0,l,h,_=>by
  have:=List.length_eq_zero_iff.1 h
  subst this
  exact⟨rfl,by decide⟩
 |m+1,l,h,hb=>by
  obtain⟨q,c,rfl⟩:∃q c,l=q++ [c]:=by
   rcases List.eq_nil_or_concat l with e|⟨q,c,e⟩
   ·rw[e] at h;cases h
   ·exact⟨q,c,by rw[e,List.concat_eq_append]⟩
  obtain⟨i1,i2⟩:=zvj m q (by rw[List.length_append,List.length_singleton] at h;omega) fun y hy=>hb y (List.mem_append_left _ hy)
  have hc:=hb c (List.mem_append_right _ (by simp))
  unfold zm at hc
  unfold kX at i1 i2⊢
  rw[aip]
  generalize pu 0 q=v at i1 i2
  refine⟨?_,by rw[Nat.pow_succ];omega⟩
  rw[SI,show(v*256+c.toNat)/256=v by omega,i1,show(v*256+c.toNat)% 256=c.toNat by omega,Int.toNat_of_nonneg hc.1]
theorem KT(x:Nat):lP x=SI 8 x:=by
 simp only[SI,lP,Nat.div_div_eq_div_mul,List.nil_append,List.cons_append]
theorem Sg{l:List Int}(h:l.length=8)(hb:∀y∈l,zm y):lP (kX l)=l/\kX l<18446744073709551616:=by
 obtain⟨h1,h2⟩:=zvj 8 l h hb
 rw[KT]
 exact⟨h1,by rw[show(256:Nat)^8=18446744073709551616 from by decide] at h2;exact h2⟩
theorem zr5(x:Nat):∀y∈lP x,zm y:=by
 intro y hy
 unfold lP at hy
 simp only[List.mem_cons,List.not_mem_nil,or_false] at hy
 unfold zm
 omega
theorem Px(x:Nat):(lP x).length=8:=rfl
theorem Un{x:Nat}(hx:x<18446744073709551616):lP x=[0,0,0,0,0,0,0,0]↔x=0:=by
 constructor
 ·intro h
  have:=R6 hx
  rw[h] at this
  rw[<-this];rfl
 ·rintro rfl;rfl
theorem apT(n:Nat):zW zU (n:Int)=((n % 256:Nat):Int):=by
 simp [IntKind.wrap,IntKind.signed,IntKind.bits]
theorem BF(k x:Nat)(j:Nat)(hj:j<8)(p q:List Int):iT (k+1) (x:Int) (j:Int) p q=iT k (x:Int) ((j+1:Nat):Int) p (q.set j ((x/2^(8*(7-j))% 256:Nat):Int)):=by
 have e1:zW zI ((7:Int)-(j:Int))=((7-j:Nat):Int):=by rw[zj (by omega) (by omega)];omega
 have e2:zW zI ((8:Int)*((7-j:Nat):Int))=((8*(7-j):Nat):Int):=by rw[zj (by omega) (by omega)];omega
 conv=>lhs;unfold iT nq
 rw[zT (by omega),zC,e1,e2,zF (by omega),zD,zi hj,Rk x _ (by omega),apT,zv (by omega),Int.toNat_natCast]
theorem agQ(k x:Nat)(p q:List Int):iT (k+1) (x:Int) ((8:Nat):Int) p q=some (p,q):=by
 unfold iT nq
 rw[zF (by omega)];rfl
theorem zr6(x:Nat):Q8 (x:Int)=some (lP x):=by
 obtain⟨k,hk⟩:∃k,af=k+9:=⟨af-9,by rw[zu]⟩
 unfold Q8 qg
 dsimp only
 rw[hk,show(0:Int)=((0:Nat):Int) from rfl,BF _ x 0 (by decide),BF _ x 1 (by decide),BF _ x 2 (by decide),BF _ x 3 (by decide),BF _ x 4 (by decide),BF _ x 5 (by decide),BF _ x 6 (by decide),BF _ x 7 (by decide),agQ,zc]
 unfold qh lP
 simp
theorem apL{n c:Nat}(hc:c<256):n*256|||c=n*256+c:=by
 have:=Nat.two_pow_add_eq_or_of_lt (i:=8) (b:=c) hc n
 rw[show(2:Nat)^8=256 from rfl,Nat.mul_comm 256 n] at this
 exact this.symm
theorem Mv(l:List Int)(hl:l.length=8)(hb:∀y∈l,zm y):∀(m j k n:Nat),j+m=8->m<k->n<256^j->kq k (n:Int) l (j:Int)=some ((pu n (l.drop j):Nat):Int)
 |m,j,0,n,_,hk,_=>by omega
 |0,j,k+1,n,hj,hk,_=>by
  unfold kq nm
  rw[zF (by omega),zD,List.drop_eq_nil_of_le (by omega)];rfl
 |m+1,j,k+1,n,hj,hk,hn=>by
  have al:j<l.length:=by omega
  have hc:=hb _ (List.getElem_mem al)
  unfold zm at hc
  have hg:l.getD j 0=l[j]:=by rw[List.getD_eq_getElem?_getD,List.getElem?_eq_getElem al];rfl
  have hp:(256:Nat)^j<=256^7:=Nat.pow_le_pow_right (by decide) (by omega)
  have hp7:(256:Nat)^7=72057594037927936:=by decide
  obtain⟨c,Hu⟩:∃c:Nat,l[j]=(c:Int):=⟨l[j].toNat,by omega⟩
  unfold kq nm
  rw[zT (by omega),zC,zi (by omega),Int.toNat_natCast,hg,Hu,zv (by omega)]
  have e1:IntKind.u64.wrap ((n:Int)*2^min ((8:Int)).toNat 64)=((n*256:Nat):Int):=by
   have:((n:Int)*2^min ((8:Int)).toNat 64)=((n*256:Nat):Int):=by
    rw[show min ((8:Int)).toNat 64=8 from rfl,show(2:Int)^8=256 from by decide];omega
   rw[this];exact Iq (by omega)
  rw[e1,Iq (by omega),yf (by omega) (by omega),apL (by omega)]
  dsimp only
  have Lu:n*256+c<256^(j+1):=by rw[Nat.pow_succ];omega
  rw[Mv l hl hb m (j+1) k _ (by omega) (by omega) Lu,List.drop_eq_getElem_cons al,Hu]
  rfl
theorem Pu(l:List Int)(hl:l.length=8)(hb:∀y∈l,zm y):Q7 l=some ((kX l:Nat):Int):=by
 unfold Q7 qa
 have:=Mv l hl hb 8 0 af 0 (by omega) (by rw[zu];omega) (by decide)
 rw[show((0:Nat):Int)=0 from rfl,List.drop_zero] at this
 dsimp only
 rw[this];rfl
def iO(style:Int):Nat:=if style=1 then 16 else 8
def mX(style:Int)(b:ByteArray)(a:Nat):Sum Int Nat:=
 if b.size<a+iO style then .inl 2 else if style=1 then(if(na (b.extract a (a+iO style))).2.2=true then .inr (kX (bl (na (b.extract a (a+iO style))).1)) else .inl 3) else .inr (kX (bl (b.extract a (a+iO style))))
def vw(a:Nat)(style:Int):Sum Int Nat->List Int×Int×Int
 | .inl e=>(List.replicate 8 0,0,e)
 | .inr x=>(lP x,((a+iO style:Nat):Int),0)
theorem AK{t:ByteArray}(h:t.size=8):bZ (List.replicate 8 (0:Int)) (List.take 8 (z31 t)) 0=lP (kX (bl t)):=by
 have hl:(bl t).length=8:=by rw[zg];exact h
 rw[(Sg hl fun y hy=>j8 hy).1]
 have dy:z31 t=bl t:=rfl
 rw[dy]
 obtain⟨a,b,c,d,e,f,g,i,hq⟩:=eight hl
 rw[hq]
 rfl
theorem uJ{s t:ByteArray}{i:Int}(h:na s=(t,i,true))(hs:s.size=16):t.size=8:=by have:=(zih h).2;omega
theorem P4(style:Int)(b:ByteArray)(a:Nat)(hb:b.size<=1099511627776)(ha:a<=b.size)(hs:style=1\/style=2):Hf style b a=some (vw a style (mX style b a)):=by
 have w0:zW zI ((b.size:Int)-(a:Int))=(b.size:Int)-a:=zj (by omega) (by omega)
 have w8:zW zI ((a:Int)+8)=((a+8:Nat):Int):=by rw[zj (by omega) (by omega)];omega
 have w16:zW zI ((a:Int)+16)=((a+16:Nat):Int):=by rw[zj (by omega) (by omega)];omega
 have wm:zW zI ((8:Int)*2)=16:=by decide
 unfold Hf XG mX iO
 rcases hs with rfl|rfl
 ·simp only[Int.reduceEq,decide_true,zC,wm,w0,w16,if_true,Int.toNat_natCast]
  split
  ·rename_i hc
   rw[zT (by omega)];rfl
  ·rename_i hc
   rw[zF (by omega),zD,zT (by omega),zC,zT (by omega),zC,zT (by omega),zC,zT (by omega),zC,zw2 _ (by rw[ByteArray.size_extract];omega),zc]
   generalize hg:na (b.extract a (a+16))=g
   obtain⟨t,i,ok⟩:=g
   cases ok with
   |false=>rfl
   |true=>
    have ht:=uJ hg (Gp (by omega))
    dsimp only
    rw[Bool.not_true,zD,if_pos rfl,AK ht]
    rfl
 ·simp only[Int.reduceEq,decide_false,zD,w0,w8,if_false,Int.toNat_natCast]
  split
  ·rename_i hc
   rw[zT (by omega)];rfl
  ·rename_i hc
   rw[zF (by omega),zD,zT (by omega),zC,zT (by omega),zC,zT (by omega),zC,zT (by omega),zC,AK (Gp (by omega))]
   rfl
theorem F1{style:Int}{b:ByteArray}{a x:Nat}(hs:style=1\/style=2)(h:mX style b a= .inr x):x<18446744073709551616/\a+iO style<=b.size:=by
 unfold mX iO at h
 unfold iO
 rcases hs with rfl|rfl
 ·simp only[if_true] at h⊢
  split at h
  ·cases h
  ·split at h
   case isFalse=>cases h
   rename_i hc ho
   injection h with h
   generalize hg:na (b.extract a (a+16))=g at h ho
   obtain⟨t,i,ok⟩:=g
   dsimp only at h ho
   subst ho
   have ht:=uJ hg (Gp (by omega))
   rw[<-h]
   exact⟨(Sg (by rw[zg];exact ht) fun y hy=>j8 hy).2,by omega⟩
 ·simp only[Int.reduceEq,if_false] at h⊢
  split at h
  ·cases h
  ·injection h with h
   rw[<-h]
   exact⟨(Sg (by rw[zg];exact Gp (by omega)) fun y hy=>j8 hy).2,by omega⟩
def S8(e:Int):Nat×Nat×Int×Int:=(0,0,0,e)
def cw(style:Int)(b:ByteArray)(at_:Int):Nat×Nat×Int×Int:=
 if(style=1\/style=2)/\0<=at_/\at_<=b.size then
  match mX style b at_.toNat with
  | .inl e=>S8 e
  | .inr x=>if x<9223372036854775808 then(x,0,((at_.toNat+iO style:Nat):Int),0) else
    match mX style b (at_.toNat+iO style) with
    | .inl e=>S8 e
    | .inr y=>if y=0 then S8 8 else(x-9223372036854775808,y,((at_.toNat+iO style+iO style:Nat):Int),0)
 else S8 1
def bmR(r:Nat×Nat×Int×Int):wD×Int×Int:=(((r.1:Int),(r.2.1:Int),()),r.2.2.1,r.2.2.2)
theorem aoa{x:Nat}(hx:x<18446744073709551616):decide (aR .and .u64 (x:Int) (9223372036854775808:Int)=0)=decide (x<9223372036854775808):=by
 rw[show(9223372036854775808:Int)=((9223372036854775808:Nat):Int) from rfl,nw hx (by decide)]
 apply decide_eq_decide.2
 have h:=z9l x 63
 rw[show(2:Nat)^63=9223372036854775808 from by decide] at h
 constructor
 ·intro e
  have e:x&&&9223372036854775808=0:=by omega
  have:=h.1 e
  rcases Nat.lt_or_ge x 9223372036854775808 with h1|h1
  ·exact h1
  ·have h2:x.testBit 63=true:=by
    rw[Nat.testBit_eq_decide_div_mod_eq]
    exact zT (by omega)
   rw[h2] at this;cases this
 ·intro e
  have:x.testBit 63=false:=Nat.testBit_lt_two_pow (by rw[show(2:Nat)^63=9223372036854775808 from by decide];exact e)
  have:=h.2 this
  omega
theorem aob{x:Nat}(hx:x<18446744073709551616)(h:¬x<9223372036854775808):aR .andNot .u64 (x:Int) (9223372036854775808:Int)=((x-9223372036854775808:Nat):Int):=by
 rw[show(9223372036854775808:Int)=((9223372036854775808:Nat):Int) from rfl,akq hx (by decide)]
 have:x&&&(18446744073709551615-9223372036854775808)=x-9223372036854775808:=by
  have:=Nat.and_two_pow_sub_one_eq_mod x 63
  rw[show(2:Nat)^63-1=18446744073709551615-9223372036854775808 from by decide,show(2:Nat)^63=9223372036854775808 from by decide] at this
  omega
 rw[this]
theorem akx(style:Int)(b:ByteArray)(at_:Int)(hb:b.size<=1099511627776):Q5 style b at_=some (bmR (cw style b at_)):=by
 have hk:Q9 style=some (decide (style=1\/style=2)):=by
  unfold Q9 nr
  by_cases h1:style=1
  ·rw[zT (p:=style=1\/style=2) (.inl h1),zT h1];rfl
  ·rw[zF h1,zD]
   by_cases h2:style=2
   ·rw[zT (p:=style=1\/style=2) (.inr h2),zT h2]
   ·rw[zF (p:=style=1\/style=2) (fun h=>h.elim h1 h2),zF h2]
 unfold Q5 pW cw
 rw[hk,zc]
 by_cases h1:style=1\/style=2
 case neg=>rw[zF h1,if_neg (fun h=>h1 h.1)];rfl
 rw[zT h1,Bool.not_true,zD]
 by_cases h3:at_<0
 ·rw[zT h3,if_neg (fun h=>by omega)];rfl
 rw[zF h3,zD]
 by_cases h4:(b.size:Int)<at_
 ·rw[zT h4,if_neg (fun h=>by omega)];rfl
 rw[zF h4,zD,if_pos ⟨h1,by omega,by omega⟩]
 obtain⟨m,rfl⟩:∃m:Nat,at_=m:=⟨at_.toNat,by omega⟩
 rw[Int.toNat_natCast,P4 style b m hb (by omega) h1,zc]
 cases hT:mX style b m with
 |inl e=>
  have he:¬e=0:=by
   unfold mX at hT
   split at hT
   ·cases hT;decide
   ·split at hT
    ·split at hT
     ·cases hT
     ·cases hT;decide
    ·cases hT
  show(bif(!(decide (e=0))) then _ else _)=_
  rw[zF he];rfl
 |inr x=>
  obtain⟨hx,c9⟩:=F1 h1 hT
  show(bif(!(decide ((0:Int)=0))) then _ else(Q7 (lP x)).bind _)=_
  rw[zT rfl,Bool.not_true,zD,Pu _ (Px x) (zr5 x),zc,R6 hx,aoa hx]
  by_cases al:x<9223372036854775808
  ·rw[zT al,zC]
   dsimp only
   rw[if_pos al];rfl
  ·rw[zF al,zD]
   dsimp only[vw]
   rw[P4 style b (m+iO style) hb (by omega) h1,zc,if_neg al]
   cases hU:mX style b (m+iO style) with
   |inl e=>
    have he:¬e=0:=by
     unfold mX at hU
     split at hU
     ·cases hU;decide
     ·split at hU
      ·split at hU
       ·cases hU
       ·cases hU;decide
      ·cases hU
    show(bif(!(decide (e=0))) then _ else _)=_
    rw[zF he];rfl
   |inr y=>
    obtain⟨hy,HE⟩:=F1 h1 hU
    rw[show vw (m+iO style) style (.inr y)=(lP y,((m+iO style+iO style:Nat):Int),(0:Int)) from rfl]
    dsimp only
    rw[zT rfl,Bool.not_true,zD]
    by_cases hz:y=0
    ·rw[zT ((Un hy).2 hz),zC]
     rw[if_pos hz];rfl
    ·rw[zF (fun h=>hz ((Un hy).1 h)),zD,Pu _ (Px y) (zr5 y),zc,R6 hy,aob hx al]
     rw[if_neg hz];rfl
def dt(style:Int)(t:ByteArray):ByteArray:=if style=1 then sN t else t
def wB(x:Nat):ByteArray:=strOf (lP x)
theorem BA(x:Nat):bl (wB x)=lP x:=z21 (zr5 x)
theorem G0(x:Nat):(wB x).size=8:=by unfold wB;rw[n3];rfl
theorem BK{style:Int}(x:Nat):(dt style (wB x)).size=iO style:=by
 unfold dt iO
 split
 ·rw[QM,G0]
 ·exact G0 x
def dA(style:Int)(h l:Nat):ByteArray×Int:=
 if(style=1\/style=2)/\h<9223372036854775808 then((if l=0 then dt style (wB h) else dt style (wB (h+9223372036854775808))++dt style (wB l)),0) else(bs [],1)
theorem zoy:∀a b:List Int,eH (a++b)=eH a++eH b
 | [],b=>rfl
 |x::r,b=>by rw[List.cons_append,eH,eH,zoy r b];rfl
theorem aco(a b:ByteArray):sN (a++b)=sN a++sN b:=by
 unfold sN
 rw[oi,zoy,ac1]
theorem adj(style:Int)(a b:ByteArray):dt style (a++b)=dt style a++dt style b:=by
 unfold dt
 split
 ·exact aco a b
 ·rfl
theorem PE{h l:Nat}(hh:h<dj):b8 h l 1= !decide (h<9223372036854775808):=by
 have e:b8 h l 1=h.testBit 63:=by
  unfold b8
  rw[if_pos (by decide)];rfl
 rw[e]
 rcases Nat.lt_or_ge h 9223372036854775808 with h1|h1
 ·rw[zT h1]
  exact Nat.testBit_lt_two_pow (by rw[show(2:Nat)^63=9223372036854775808 from by decide];exact h1)
 ·rw[zF (by omega),Nat.testBit_eq_decide_div_mod_eq]
  have hh:h<18446744073709551616:=hh
  exact zT (by omega)
theorem apM{h:Nat}(hh:h<9223372036854775808):h|||9223372036854775808=h+9223372036854775808:=by
 have:=Nat.two_pow_add_eq_or_of_lt (i:=63) (b:=h) (by rw[show(2:Nat)^63=9223372036854775808 from by decide];exact hh) 1
 rw[show(2:Nat)^63=9223372036854775808 from by decide,Nat.mul_one] at this
 rw[Nat.or_comm,<-this,Nat.add_comm]
theorem z124(x:ByteArray):x++bs []=x:=by
 apply ByteArray.ext
 simp [ByteArray.data_append,bs]
theorem akz(style:Int)(h l:Nat)(hh:h<dj)(hl:l<dj):Q6 style ((h:Int),(l:Int),())=some (dA style h l):=by
 have hk:Q9 style=some (decide (style=1\/style=2)):=by
  unfold Q9 nr
  by_cases h1:style=1
  ·rw[zT (p:=style=1\/style=2) (.inl h1),zT h1];rfl
  ·rw[zF h1,zD]
   by_cases h2:style=2
   ·rw[zT (p:=style=1\/style=2) (.inr h2),zT h2]
   ·rw[zF (p:=style=1\/style=2) (fun h=>h.elim h1 h2),zF h2]
 unfold Q6 pY dA
 rw[hk,zc]
 by_cases h1:style=1\/style=2
 case neg=>rw[zF h1,if_neg (fun h=>h1 h.1)];rfl
 rw[zT h1,Bool.not_true,zD,aoe h l hh hl,zc,PE hh]
 by_cases h2:h<9223372036854775808
 case neg=>rw[zF h2,if_neg (fun h=>h2 h.2)];rfl
 rw[zT h2,Bool.not_true,zD,if_pos ⟨h1,h2⟩]
 have hH:SY ((h:Int),(l:Int),())=some ((h:Int),(l:Int)):=rfl
 rw[hH,zc]
 dsimp only
 rw[zr6,zc]
 have z8:∀x:Nat,Nat.beq 8 (List.length (lP x))=true:=fun x=>rfl
 have fin:∀t:ByteArray,t.size<=16->(bif decide (style=1) then(kj t).bind fun r6=>some (r6,(0:Int)) else some (t,0))=some (dt style t,0):=fun t ht=>by
  unfold dt
  by_cases hs:style=1
  ·rw[zT hs,zC,zw3 t (by omega),if_pos hs];rfl
  ·rw[zF hs,if_neg hs];rfl
 by_cases hz:l=0
 ·rw[zT ((Un hl).2 hz),if_pos hz,Bool.not_true,zD,zr6,zc,z8,zC]
  have c9:(strOf (lP h)).size=8:=G0 h
  rw[zT (by rw[c9];decide),zC,z124]
  exact fin (wB h) (by rw[G0];decide)
 ·have hor:aR .or .u64 (h:Int) (9223372036854775808:Int)=((h+9223372036854775808:Nat):Int):=by
   rw[show(9223372036854775808:Int)=((9223372036854775808:Nat):Int) from rfl,yf hh (by decide),apM h2]
  rw[zF (fun e=>hz ((Un hl).1 e)),if_neg hz,Bool.not_false,zC,z8,zC,hor,zr6,zc,z8,zC]
  have c9:∀x,(strOf (lP x)).size=8:=fun x=>G0 x
  rw[zT (by rw[c9,c9];decide),zC,<-adj]
  exact fin (wB _++wB l) (by rw[j7,G0,G0];decide)
theorem anQ(b:ByteArray){a:Nat}{style:Int}(h:a+iO style<=b.size):(b.extract a (a+iO style)).size=iO style:=Gp h
theorem zr4{style:Int}{v:Nat}(hs:style=1\/style=2)(hv:v<18446744073709551616)(x y:ByteArray):mX style (x++dt style (wB v)++y) x.size= .inr v:=by
 have hz:=BK (style:=style) v
 unfold mX
 rw[if_neg (by rw[j7,j7];omega),<-hz,Xs]
 rcases hs with rfl|rfl
 ·rw[if_pos rfl]
  unfold dt
  rw[if_pos rfl,Oh]
  dsimp only
  rw[if_pos rfl,BA,R6 hv]
 ·rw[if_neg (by decide)]
  unfold dt
  rw[if_neg (by decide),BA,R6 hv]
theorem Mw{style:Int}{b:ByteArray}{a v:Nat}(hs:style=1\/style=2)(h:mX style b a= .inr v):dt style (wB v)=b.extract a (a+iO style)/\v<18446744073709551616/\a+iO style<=b.size:=by
 obtain⟨h1,h2⟩:=F1 hs h
 refine⟨?_,h1,h2⟩
 have hz:=anQ b h2
 unfold mX at h
 rw[if_neg (by omega)] at h
 unfold dt wB
 rcases hs with rfl|rfl
 ·rw[if_pos rfl] at h⊢
  split at h
  case isFalse=>cases h
  rename_i ho
  generalize hg:na (b.extract a (a+iO 1))=g at h ho
  obtain⟨t,i,ok⟩:=g
  dsimp only at h ho
  subst ho
  injection h with h
  have ht:=uJ hg hz
  obtain⟨e1,_⟩:=Sg (l:=bl t) (by rw[zg];exact ht) fun y hy=>j8 hy
  rw[<-h,e1,vH,(zih hg).1]
 ·rw[if_neg (by decide)] at h⊢
  injection h with h
  obtain⟨e1,_⟩:=Sg (l:=bl (b.extract a (a+iO 2))) (by rw[zg];exact hz) fun y hy=>j8 hy
  rw[<-h,e1,vH]
theorem zr3{style:Int}{h l:Nat}(hs:style=1\/style=2)(hh:h<9223372036854775808):dA style h l=((if l=0 then dt style (wB h) else dt style (wB (h+9223372036854775808))++dt style (wB l)),0):=by
 unfold dA
 rw[if_pos ⟨hs,hh⟩]
theorem anE{style:Int}{h l:Nat}(hs:style=1\/style=2)(hh:h<9223372036854775808)(hl:l<18446744073709551616)(x y:ByteArray):cw style (x++(dA style h l).1++y) x.size=(h,l,((x.size+(dA style h l).1.size:Nat):Int),0):=by
 rw[zr3 hs hh]
 dsimp only
 unfold cw
 rw[if_pos ⟨hs,by omega,by simp only[j7];omega⟩,Int.toNat_natCast]
 by_cases hz:l=0
 ·rw[if_pos hz,zr4 hs (by omega) x y]
  dsimp only
  rw[if_pos hh,BK,hz]
 ·rw[if_neg hz]
  have e1:x++(dt style (wB (h+9223372036854775808))++dt style (wB l))++y=x++dt style (wB (h+9223372036854775808))++(dt style (wB l)++y):=by simp [ByteArray.append_assoc]
  have e2:x++(dt style (wB (h+9223372036854775808))++dt style (wB l))++y=(x++dt style (wB (h+9223372036854775808)))++dt style (wB l)++y:=by simp [ByteArray.append_assoc]
  have t1:=zr4 hs (v:=h+9223372036854775808) (by omega) x (dt style (wB l)++y)
  have t2:=zr4 hs hl (x++dt style (wB (h+9223372036854775808))) y
  rw[<-e1] at t1
  rw[<-e2,j7,BK] at t2
  rw[t1]
  dsimp only
  rw[if_neg (by omega),t2]
  dsimp only
  rw[if_neg hz,j7,BK,BK,show h+9223372036854775808-9223372036854775808=h by omega,Nat.add_assoc]
theorem N0{style z:Int}{b:ByteArray}{a h l:Nat}(hg:cw style b a=(h,l,z,0)):(style=1\/style=2)/\h<9223372036854775808/\l<18446744073709551616/\(a:Int)<=z/\z<=b.size/\(dA style h l).1=b.extract a z.toNat:=by
 unfold cw at hg
 split at hg
 case isFalse=>cases hg
 rename_i hc
 obtain⟨hs,h0,h1⟩:=hc
 rw[Int.toNat_natCast] at hg
 cases hT:mX style b a with
 |inl e=>
  exfalso
  rw[hT] at hg
  have he:e=0:=by
   have:=congrArg (fun r:Nat×Nat×Int×Int=>r.2.2.2) hg
   exact this
  subst he
  unfold mX at hT
  split at hT
  ·cases hT
  ·split at hT
   ·split at hT<;>cases hT
   ·cases hT
 |inr x=>
  rw[hT] at hg
  obtain⟨e1,e2,e3⟩:=Mw hs hT
  dsimp only at hg
  split at hg
  ·rename_i al
   injection hg with g1 g2
   injection g2 with g2 g3
   injection g3 with g3 _
   subst g1 g2 g3
   refine⟨hs,al,by decide,by omega,by omega,?_⟩
   rw[zr3 hs al,if_pos rfl,e1,Int.toNat_natCast]
  ·rename_i Td
   cases hU:mX style b (a+iO style) with
   |inl e=>
    exfalso
    rw[hU] at hg
    have he:e=0:=by
     have:=congrArg (fun r:Nat×Nat×Int×Int=>r.2.2.2) hg
     exact this
    subst he
    unfold mX at hU
    split at hU
    ·cases hU
    ·split at hU
     ·split at hU<;>cases hU
     ·cases hU
   |inr y=>
    rw[hU] at hg
    obtain⟨f1,f2,f3⟩:=Mw hs hU
    dsimp only at hg
    split at hg
    ·exfalso
     have:=congrArg (fun r:Nat×Nat×Int×Int=>r.2.2.2) hg
     cases this
    ·rename_i hz
     injection hg with g1 g2
     injection g2 with g2 g3
     injection g3 with g3 _
     subst g1 g2 g3
     refine⟨hs,by omega,f2,by omega,by omega,?_⟩
     rw[zr3 hs (by omega),if_neg hz,show x-9223372036854775808+9223372036854775808=x by omega,e1,f1,Int.toNat_natCast]
     exact R7 _ (by omega) (by omega)
end bj

set_option maxRecDepth 10000
namespace bj
open Go.IntKind renaming wrap->zW,i64->zI,u8->zU
open Go Go.Ref
theorem Qr{α:Type}{p:Prop}[Decidable p](h:p){x y:α}:(bif !decide p then x else y)=y:=by rw[zT h];rfl
theorem Qq{α:Type}{p:Prop}[Decidable p](h:¬p){x y:α}:(bif !decide p then x else y)=x:=by rw[zF h];rfl
theorem apK(l:List Int):decide ((1:Int)∈l)= !decide (cR l<9223372036854775808):=by
 rw[<-PE (l:=cY l) (sJ l),GZ]
 unfold jy
 rw[zT (p:=(1:Int)<=1/\(1:Int)<=128) (by decide),Bool.and_true]
def gm(m:ByteArray):Bool:=decide ((m.size:Int)=4)&&bk (bl m)
theorem pA{m:ByteArray}:gm m=true↔m.size=4/\bk (bl m)=true:=by
 unfold gm
 rw[Bool.and_eq_true,decide_eq_true_eq]
 constructor<;>intro h<;>exact⟨by omega,h.2⟩
theorem zb1(m:ByteArray)(h:m.size<=maxLen):oI m=some (gm m):=by
 unfold oI VU gm
 cases decide ((m.size:Int)=4) with
 |false=>rfl
 |true=>rw[zC,XE m h];rfl
theorem adO(m:ByteArray)(h:m.size<=maxLen):tm m=some (gm m):=by
 unfold tm Uy gm
 cases decide ((m.size:Int)=4) with
 |false=>rfl
 |true=>rw[zC,NI m h];rfl
theorem yL{m:ByteArray}(h:gm m=true)(i:Nat)(hi:i<4):48<=ze m i/\ze m i<=57:=by
 obtain⟨h1,h2⟩:=pA.1 h
 have hl:i<(bl m).length:=by rw[zg];omega
 have:=List.all_eq_true.1 h2 _ (List.getElem_mem hl)
 rw[mc,List.getD_eq_getElem?_getD,List.getElem?_eq_getElem hl]
 exact of_decide_eq_true this
def gR(m:ByteArray):Int:=bif gm m then ze m 0-48 else 0
def dS(m:ByteArray):Bool:=gm m&&(decide (ze m 2=48)||decide (ze m 2=50))
theorem TL(m:ByteArray)(h:m.size<=maxLen):jU m=some (gR m,gm m):=by
 unfold jU VV gR
 rw[zb1 m h,Option.bind_some]
 cases hr:gm m with
 |false=>rfl
 |true=>
  obtain⟨h1,_⟩:=pA.1 hr
  have:=yL hr 0 (by omega)
  simp only[Bool.not_true,zD,zC]
  rw[zo (by omega) (by omega),show(0:Int).toNat=0 from rfl,vC (by omega) (by omega),zj (by omega) (by omega)]
theorem zdb(m:ByteArray)(h:m.size<=maxLen):oH m=some (dS m):=by
 unfold oH VS dS
 rw[zb1 m h,Option.bind_some]
 cases hr:gm m with
 |false=>rfl
 |true=>
  obtain⟨h1,_⟩:=pA.1 hr
  rw[zC,zo (by omega) (by omega),zo (by omega) (by omega),show(2:Int).toNat=2 from rfl]
  cases decide (ze m 2=48)<;>rfl
theorem zhh(m:ByteArray)(h:m.size<=maxLen):Ho m=some (dS m):=by
 unfold Ho ZG dS
 rw[aiB m h,Option.bind_some]
 unfold dM
 by_cases h4:m.size=4
 ·cases hd:bk (bl m) with
  |false=>
   rw[if_neg (by simp)]
   have:gm m=false:=by unfold gm;rw[hd,Bool.and_false]
   rw[this];rfl
  |true=>
   have hr:gm m=true:=pA.2 ⟨h4,hd⟩
   rw[if_pos ⟨by rw[zg];omega,by rw[zg];omega,rfl⟩,hr]
   dsimp only
   rw[zC,zT (by omega),zC,Bool.true_and]
   have hl:(bl m).length=4:=by rw[zg,h4]
   obtain⟨d0,d1,d2,d3,hb⟩:∃d0 d1 d2 d3,bl m=[d0,d1,d2,d3]:=by
    match hm:bl m,hl with
    | [d0,d1,d2,d3],_=>exact⟨d0,d1,d2,d3,rfl⟩
   have h0:=yL hr 0 (by omega)
   have h1:=yL hr 1 (by omega)
   have h2:=yL hr 2 (by omega)
   have h3:=yL hr 3 (by omega)
   rw[mc,hb] at h0 h1 h2 h3
   rw[mc,hb]
   simp only[List.getD_cons_zero,List.getD_cons_succ] at h0 h1 h2 h3⊢
   have hv:fx [d0,d1,d2,d3] 0=1000*(d0-48)+100*(d1-48)+10*(d2-48)+(d3-48):=by
    simp only[fx,List.foldl_cons,List.foldl_nil];omega
   have hq:Int.tmod (zW zI (Int.tdiv (fx [d0,d1,d2,d3] 0) 10)) 10=d2-48:=by
    rw[hv,Int.tdiv_eq_ediv_of_nonneg (by omega),zj (by omega) (by omega),Int.tmod_eq_emod_of_nonneg (by omega)]
    omega
   rw[hq]
   by_cases e1:d2=48
   ·rw[zT e1,zT (by omega:d2-48=0)];rfl
   ·rw[zF e1,zF (by omega:¬d2-48=0),zD,Bool.false_or]
    congr 1
    exact decide_eq_decide.2 (by omega)
 ·have:gm m=false:=by
   unfold gm
   rw[zF (by omega),Bool.false_and]
  rw[this]
  cases(if 1<=(bl m).length/\(bl m).length<=18/\bk (bl m)=true then(fx (bl m) 0,true) else((0:Int),false)).2 with
  |false=>rfl
  |true=>rw[zC,zF (by omega)];rfl
def jm(m:ByteArray)(v:Int):Bool:=gm m&&decide (ze m 0-48=v)
theorem zjc(m:ByteArray)(v:Int)(h:m.size<=maxLen):rE m v=some (jm m v):=by
 unfold rE U2 jm
 rw[adO m h,Option.bind_some]
 cases hr:gm m with
 |false=>rfl
 |true=>
  obtain⟨h1,_⟩:=pA.1 hr
  have:=yL hr 0 (by omega)
  have w1:zW zI (ze m 0)=ze m 0:=zj (by omega) (by omega)
  rw[zC,zo (by omega) (by omega),show(0:Int).toNat=0 from rfl,w1,zj (by omega) (by omega)]
  rfl
def mV(p:bq)(a b:zf):Bool:=jm p.1 a.2.1&&(jm p.2.1 b.2.1&&(dS p.1==dS p.2.1))
theorem alS(p:bq)(a b:zf)(h1:p.1.size<=maxLen)(h2:p.2.1.size<=maxLen):oO p a b=some (mV p a b):=by
 unfold oO Xl mV jm
 rw[TL _ h1,TL _ h2,zdb _ h1,zdb _ h2]
 simp only[Option.bind_some]
 unfold gR
 cases gm p.1 with
 |false=>rfl
 |true=>
  cases gm p.2.1 with
  |false=>simp
  |true=>
   simp only[zC,Bool.true_and]
   cases decide (ze p.1 0-48=a.2.1) with
   |false=>rfl
   |true=>
    cases decide (ze p.2.1 0-48=b.2.1) with
    |false=>rfl
    |true=>rfl
abbrev bI:=ByteArray×List bg×Unit
abbrev bL:=Int×Int×Unit
abbrev nZ:bg:=(0,bs [],())
abbrev hJ:bL:=(0,0,())
structure eC(m:bI):Prop where
 vl:m.1.size<=9223372036854775807
 len:m.2.1.length<=1000000
 q9:∀v∈m.2.1,v.2.1.size<=1099511627776
def fD(l:List bg)(no:Int):List bg:=l.filter fun v=> !decide (v.1=no)
theorem MI(l:List bg)(no:Int):(fD l no).length<=l.length:=List.length_filter_le _ _
theorem zb8(no:Int)(fin:bI×bI->Option (bI×bI)):∀(l:List bg) (i:Int) (s:bI×bI),s.2.2.1.length+l.length<=1000000000->
 bB (fun i (x:bg) (s:bI×bI) K=>(bif(!(decide (x.1=no))) then(bif(decide ((s.2.2.1.length+(List.length ([x]:List bg)))*24<=140737488355328)) then K (s.1,(s.2.1,(s.2.2.1++([x]:List bg)),())) else none) else K s)) fin l i s=fin (s.1,(s.2.1,s.2.2.1++fD l no,()))
 | [],i,s,_=>by
   show fin s=_
   simp [fD]
 |x::r,i,s,h=>by
  simp only[List.length_cons] at h
  rw[bB]
  by_cases hx:x.1=no
  ·rw[zT hx,Bool.not_true,zD]
   refine(zb8 no fin r (i+1) s (by omega)).trans ?_
   simp [fD,hx]
  ·rw[zF hx,Bool.not_false,zC,zT (by simp only[List.length_singleton];omega),zC]
   refine(zb8 no fin r (i+1) (s.1,(s.2.1,s.2.2.1++ [x],())) (by simp only[List.length_append,List.length_singleton];omega)).trans ?_
   simp [fD,hx]
theorem ac3(m:bI)(no:Int)(h:m.2.1.length<=1000000):tQ m no=some (m.1,fD m.2.1 no,()):=by
 unfold tQ VR
 dsimp only
 have:=cD nZ m.2.1 (by rw[zh];omega) (fun i (x:bg) (s:bI×bI) K=>(bif(!(decide (x.1=no))) then(bif(decide ((s.2.2.1.length+(List.length ([x]:List bg)))*24<=140737488355328)) then K (s.1,(s.2.1,(s.2.2.1++([x]:List bg)),())) else none) else K s)) (fun s=>some s)
  (fun k i s=>RI k no m.2.1 (m.2.1.length:Int) i s.1 s.2) (fun k i s=>rfl) ((bs [],[],()),(m.1,[],()))
 rw[this,zb8 no _ _ _ _ (by simp;omega)]
 rfl
def cn(no:Int):List bg->Int->Int
 | [],_=> -1
 |x::r,i=>if no<x.1 then i else cn no r (i+1)
theorem QN(no:Int):∀(l:List bg) (i:Int),0<=i->(cn no l i= -1/\∀x∈l,x.1<=no)\/(i<=cn no l i/\cn no l i<i+l.length)
 | [],i,h=> .inl ⟨rfl,fun x hx=>by cases hx⟩
 |x::r,i,h=>by
  unfold cn
  by_cases hx:no<x.1
  ·rw[if_pos hx];right;simp only[List.length_cons];omega
  ·rw[if_neg hx]
   rcases QN no r (i+1) (by omega) with⟨h1,h2⟩|h1
   ·left
    refine⟨h1,fun y hy=> ?_⟩
    rcases List.mem_cons.1 hy with rfl|hy
    ·omega
    ·exact h2 y hy
   ·right;simp only[List.length_cons];omega
def exV(r no:Int):Sum (Int×Int) Int:=bif decide (r<0) then .inr no else .inl (r,no)
theorem M6(no:Int):∀(l:List bg) (i:Int),0<=i->bB (fun i (x:bg) (s:Int) K=>((tP x s).bind fun r1=>(bif r1.1 then some (Sum.inl (i,r1.2)) else K r1.2))) (fun s=>some (Sum.inr s)) l i no=some (exV (cn no l i) no)
 | [],i,h=>rfl
 |x::r,i,h=>by
  rw[bB,cn]
  show(bif decide (no<x.1) then some (Sum.inl (i,no)) else bB _ _ r (i+1) no)=_
  by_cases hx:no<x.1
  ·rw[zT hx,zC,if_pos hx]
   unfold exV
   rw[zF (by omega)];rfl
  ·rw[zF hx,zD,if_neg hx]
   exact M6 no r (i+1) (by omega)
theorem adK(l:List bg)(no:Int)(h:l.length<=1000000):uf l no=some (cn no l 0,no):=by
 unfold uf WA
 dsimp only
 have:=cD nZ l (by rw[zh];omega) (fun i (x:bg) (s:Int) K=>((tP x s).bind fun r1=>(bif r1.1 then some (Sum.inl (i,r1.2)) else K r1.2))) (fun s=>some (Sum.inr s))
  (fun k i s=>RT k l (l.length:Int) i s) (fun k i s=>rfl) no
 rw[this,M6 no l 0 (Int.le_refl _),zc]
 unfold exV
 rcases QN no l 0 (Int.le_refl _) with⟨h1,_⟩|h1
 ·rw[h1];rfl
 ·rw[zF (by omega)];rfl
theorem ah0(old:List bg)(at_:Nat)(v d:bg)(h:at_<=old.length):
 bZ (List.set (bZ (List.replicate (old.length+1) d) (List.take (old.length+1) (List.drop 0 (List.take at_ old))) 0) at_ v) (List.take (old.length+1-(at_+1)) (List.drop at_ (List.take old.length old))) (at_+1)=old.take at_++v::old.drop at_:=by
 have e1:List.take (old.length+1) (List.drop 0 (List.take at_ old))=old.take at_:=by
  rw[List.drop_zero,List.take_take,Nat.min_eq_right (by omega)]
 have e2:List.take (old.length+1-(at_+1)) (List.drop at_ (List.take old.length old))=old.drop at_:=by
  rw[List.take_length,List.take_of_length_le (by rw[List.length_drop];omega)]
 rw[e1,e2]
 have hl:(old.take at_).length=at_:=by rw[List.length_take];omega
 have e3:bZ (List.replicate (old.length+1) d) (old.take at_) 0=old.take at_++List.replicate (old.length+1-at_) d:=by
  unfold bZ
  rw[List.take_zero,List.nil_append,hl,Nat.zero_add,List.drop_replicate]
 obtain⟨n,hn⟩:∃n,old.length+1-at_=n+1:=⟨old.length-at_,by omega⟩
 have e4:List.set (old.take at_++List.replicate (old.length+1-at_) d) at_ v=old.take at_++v::List.replicate n d:=by
  rw[hn,List.replicate_succ,List.set_append,if_neg (by omega),hl,Nat.sub_self,List.set_cons_zero]
 rw[e3,e4]
 unfold bZ
 have e5:(old.take at_++v::List.replicate n d).take (at_+1)=old.take at_++ [v]:=by
  rw[List.take_append,hl,show at_+1-at_=1 by omega,List.take_of_length_le (by omega)];rfl
 have e6:(old.take at_++v::List.replicate n d).drop (at_+1+(old.drop at_).length)=[]:=by
  apply List.drop_eq_nil_of_le
  rw[List.length_append,hl,List.length_cons,List.length_replicate,List.length_drop]
  omega
 rw[e5,e6,List.append_nil,List.append_assoc]
 rfl
theorem NG(q t:ByteArray)(no:Int)(old:List bg)(at_:Nat)(h:at_<=old.length)(hl:old.length<=1000000):
 (bif(decide ((zW zI (((List.length old):Int)+(1:Int)))=(zW zI (((List.length old):Int)+(1:Int))))) then(bif(decide ((0:Int)<=(zW zI (((List.length old):Int)+(1:Int))))) then(bif(decide ((zW zI (((List.length old):Int)+(1:Int)))*24<=140737488355328)) then(bif(decide ((0:Int)<=((at_:Nat):Int))) then(bif(decide (((at_:Nat):Int)<=(((List.length old):Nat):Int))) then(bif(Nat.beq ((zW zI (((List.length old):Int)+(1:Int)))).toNat (List.length (List.replicate ((zW zI (((List.length old):Int)+(1:Int)))).toNat ((0:Int),(bs []),())))) then(zd ((at_:Nat):Int) ((zW zI (((List.length old):Int)+(1:Int)))).toNat (bif(Nat.ble ((((at_:Nat):Int)).toNat+1) (List.length (bZ (List.replicate ((zW zI (((List.length old):Int)+(1:Int)))).toNat ((0:Int),(bs []),())) (List.take ((zW zI (((List.length old):Int)+(1:Int)))).toNat (List.drop 0 (List.take (((at_:Nat):Int)).toNat old))) 0))) then(bif(decide ((0:Int)<=(zW zI (((at_:Nat):Int)+(1:Int))))) then(bif(decide ((zW zI (((at_:Nat):Int)+(1:Int)))<=((((zW zI (((List.length old):Int)+(1:Int)))).toNat:Nat):Int))) then(bif(decide ((0:Int)<=((at_:Nat):Int))) then(bif(decide (((at_:Nat):Int)<=(((List.length old):Nat):Int))) then(bif(Nat.beq ((zW zI (((List.length old):Int)+(1:Int)))).toNat (List.length (List.set (bZ (List.replicate ((zW zI (((List.length old):Int)+(1:Int)))).toNat ((0:Int),(bs []),())) (List.take ((zW zI (((List.length old):Int)+(1:Int)))).toNat (List.drop 0 (List.take (((at_:Nat):Int)).toNat old))) 0) (((at_:Nat):Int)).toNat (no,t,())))) then(bif(Nat.ble ((zW zI (((at_:Nat):Int)+(1:Int)))).toNat ((zW zI (((List.length old):Int)+(1:Int)))).toNat) then(bif(Nat.beq ((zW zI (((List.length old):Int)+(1:Int)))).toNat (List.length (bZ (List.set (bZ (List.replicate ((zW zI (((List.length old):Int)+(1:Int)))).toNat ((0:Int),(bs []),())) (List.take ((zW zI (((List.length old):Int)+(1:Int)))).toNat (List.drop 0 (List.take (((at_:Nat):Int)).toNat old))) 0) (((at_:Nat):Int)).toNat (no,t,())) (List.take (((zW zI (((List.length old):Int)+(1:Int)))).toNat-((zW zI (((at_:Nat):Int)+(1:Int)))).toNat) (List.drop (((at_:Nat):Int)).toNat (List.take (List.length old) old))) ((zW zI (((at_:Nat):Int)+(1:Int)))).toNat))) then(some (q,(bZ (List.set (bZ (List.replicate ((zW zI (((List.length old):Int)+(1:Int)))).toNat ((0:Int),(bs []),())) (List.take ((zW zI (((List.length old):Int)+(1:Int)))).toNat (List.drop 0 (List.take (((at_:Nat):Int)).toNat old))) 0) (((at_:Nat):Int)).toNat (no,t,())) (List.take (((zW zI (((List.length old):Int)+(1:Int)))).toNat-((zW zI (((at_:Nat):Int)+(1:Int)))).toNat) (List.drop (((at_:Nat):Int)).toNat (List.take (List.length old) old))) ((zW zI (((at_:Nat):Int)+(1:Int)))).toNat),())) else none) else none) else none) else none) else none) else none) else none) else none)) else none) else none) else none) else none) else none) else none)=some (q,old.take at_++(no,t,())::old.drop at_,()):=by
 have w1:zW zI ((old.length:Int)+1)=((old.length+1:Nat):Int):=zv (by omega)
 have w2:zW zI ((at_:Int)+1)=((at_+1:Nat):Int):=zv (by omega)
 simp only[w1,w2,Int.toNat_natCast]
 have key:=ah0 old at_ (no,t,()) ((0:Int),bs [],()) h
 have l1:(bZ (List.replicate (old.length+1) ((0:Int),(bs []),())) (List.take (old.length+1) (List.drop 0 (List.take at_ old))) 0).length=old.length+1:=by
  unfold bZ;simp;omega
 have l2:(old.take at_++(no,t,())::old.drop at_).length=old.length+1:=by
  rw[List.length_append,List.length_take,List.length_cons,List.length_drop];omega
 have d2:decide ((0:Int)<=((old.length+1:Nat):Int))=true:=zT (by omega)
 have d3:decide (((old.length+1:Nat):Int)*24<=140737488355328)=true:=zT (by omega)
 have d4:decide ((0:Int)<=(at_:Int))=true:=zT (by omega)
 have d5:decide ((at_:Int)<=(old.length:Int))=true:=zT (by omega)
 have d9:decide ((0:Int)<=((at_+1:Nat):Int))=true:=zT (by omega)
 have d10:decide (((at_+1:Nat):Int)<=((old.length+1:Nat):Int))=true:=zT (by omega)
 have b1:Nat.ble (at_+1) (old.length+1)=true:=Nat.ble_eq_true_of_le (by omega)
 have hw:∀{R:Type} (x:Option R),zd (at_:Int) (old.length+1) x=x:=fun x=>zi (by omega)
 simp only[decide_true,zC,d2,d3,d4,d5,List.length_replicate,Nat.beq_refl,hw,l1,b1,d9,d10,List.length_set,key,l2]
def mN(l:List bg)(no:Int)(t:ByteArray):List bg:=
 bif decide (cn no l 0<0) then l++ [(no,t,())] else l.take (cn no l 0).toNat++(no,t,())::l.drop (cn no l 0).toNat
def eP(m:bI)(no:Int)(t:ByteArray):bI:=(m.1,mN (fD m.2.1 no) no t,())
theorem Ug(m:bI)(no:Int)(t:ByteArray)(h:m.2.1.length<=1000000):iS m no t=some (eP m no t):=by
 unfold iS VP eP
 have hl:=MI m.2.1 no
 rw[ac3 m no h,zc]
 dsimp only
 generalize fD m.2.1 no=old at*
 rw[adK old no (by omega),zc]
 dsimp only
 unfold mN
 rcases QN no old 0 (Int.le_refl _) with⟨h1,_⟩|h1
 ·rw[h1,zT (by omega:(-1:Int)<0),zC,zC]
  refine(NG m.1 t no old old.length (Nat.le_refl _) (by omega)).trans ?_
  rw[List.take_length,List.drop_length]
 ·rw[zF (by omega:¬cn no old 0<0),zD,zD]
  obtain⟨n,hn⟩:∃n:Nat,cn no old 0=n:=⟨(cn no old 0).toNat,by omega⟩
  rw[hn]
  refine(NG m.1 t no old n (by omega) (by omega)).trans ?_
  rw[Int.toNat_natCast]
def td(s:zf):List bg->Int->Option bL
 | [],_=>none
 |x::r,last=>bif decide (x.1<=last) then some (11,x.1,()) else bif !bm s x.1 then some (9,x.1,()) else bif !decide (bp (aJ s x.1) x.2.1=0) then some (bp (aJ s x.1) x.2.1,x.1,()) else td s r x.1
def PA(o:Option bL):Option (Sum bL bL):=some (match o with
 |some f=> .inl f
 |none=> .inr hJ)
theorem zvs(s:zf)(hs:s.2.2.1.length<=maxLen):∀(l:List bg) (i last:Int),(∀v∈l,v.2.1.size<=1099511627776)->
 bB (fun i (x:bg) (t9:Int) K=>(bif(decide (x.1<=t9)) then some (Sum.inl ((11:Int),x.1,())) else((gn s x.1).bind fun r3=>(bif(!r3.2) then some (Sum.inl ((9:Int),x.1,())) else((bX r3.1 x.2.1).bind fun r4=>(bif(!(decide (r4=(0:Int)))) then some (Sum.inl (r4,x.1,())) else K x.1)))))) (fun _=>some (Sum.inr hJ)) l i last=PA (td s l last)
 | [],i,last,_=>rfl
 |x::r,i,last,h=>by
  rw[bB,td,BM s _ hs,zc]
  cases decide (x.1<=last) with
  |true=>rfl
  |false=>
   rw[zD,zD]
   dsimp only
   cases bm s x.1 with
   |false=>rfl
   |true=>
    rw[Bool.not_true,zD,zD,yz _ _ (h x List.mem_cons_self),zc]
    cases decide (bp (aJ s x.1) x.2.1=0) with
    |false=>rfl
    |true=>
     rw[Bool.not_true,zD,zD]
     exact zvs s hs r (i+1) x.1 (fun v hv=>h v (List.mem_cons_of_mem _ hv))
def gZ(s:zf)(m:bI):bL:=
 bif !decide ((iM s).1=0) then(1,-1,()) else bif !gm m.1 then(7,0,()) else bif !decide (gR m.1=s.2.1) then(7,0,()) else match td s m.2.1 0 with
  |some f=>f
  |none=>hJ
theorem zp5(s:zf)(m:bI)(hs:s.2.2.1.length<=maxLen)(h:eC m):rJ s m=some (gZ s m):=by
 unfold rJ VK gZ
 rw[Re s hs,zc,TL m.1 (by rw[zh];exact h.vl),zc]
 cases decide ((iM s).1=0) with
 |false=>rfl
 |true=>
  rw[Bool.not_true,zD,zD]
  dsimp only
  cases gm m.1 with
  |false=>rfl
  |true=>
   rw[Bool.not_true,zD,zD]
   cases decide (gR m.1=s.2.1) with
   |false=>rfl
   |true=>
    rw[Bool.not_true,zD,zD]
    have hl:=h.len
    have:=cD nZ m.2.1 (by rw[zh];omega) (fun i (x:bg) (t9:Int) K=>(bif(decide (x.1<=t9)) then some (Sum.inl ((11:Int),x.1,())) else((gn s x.1).bind fun r3=>(bif(!r3.2) then some (Sum.inl ((9:Int),x.1,())) else((bX r3.1 x.2.1).bind fun r4=>(bif(!(decide (r4=(0:Int)))) then some (Sum.inl (r4,x.1,())) else K x.1)))))) (fun _=>some (Sum.inr hJ))
     (fun k i t9=>RF k t9 m.2.1 (m.2.1.length:Int) i s hJ) (fun k i t9=>rfl) 0
    rw[this,zvs s hs _ _ _ h.q9]
    unfold PA
    cases td s m.2.1 0<;>rfl
theorem an0{a b:bI}:a=b↔a.1=b.1/\a.2.1=b.2.1:=⟨fun h=>by rw[h];exact⟨rfl,rfl⟩,fun h=>Prod.ext h.1 (Prod.ext h.2 rfl)⟩
abbrev Map:=List bq×List aO×Unit
structure dz(m:Map):Prop where
 nT:eY m.1
 len:m.2.1.length<=1000000
 rules:∀r∈m.2.1,fm r
def fc(a b:zf):List ByteArray->List bq->Int->Option (Int×Int)
 |_,[],_=>none
 |seen,p::r,i=>if mV p a b=true then(if p.1∈seen then some (10,i) else fc a b (seen++ [p.1]) r (i+1)) else some (7,i)
abbrev Xr:=Sum (Int×Int×Int×Map×zf×zf) (Map×zf×zf)
def nU(m:Map)(a b:zf)(o:Option (Int×Int)):Option Xr:=some (match o with
 |some e=> .inl (e.1,2,e.2,m,a,b)
 |none=> .inr (m,a,b))
theorem Ov(m:Map)(a b:zf):∀(l:List bq) (i:Int) (seen:List ByteArray),(∀p∈l,p.1.size<=1099511627776/\p.2.1.size<=1099511627776)->
 bB (fun i (x:bq) (s:List kb) K=>((oO x a b).bind fun r2=>(bif(!r2) then some (Sum.inl ((7:Int),(2:Int),i,m,a,b)) else(bif fH (gD .str) false s x.1 then some (Sum.inl ((10:Int),(2:Int),i,m,a,b)) else(bif fI (gD .str) s x.1 then none else K (s++ [(x.1,true)])))))) (fun _=>some (Sum.inr (m,a,b))) l i (dW seen)=nU m a b (fc a b seen l i)
 | [],i,seen,_=>rfl
 |p::r,i,seen,h=>by
  obtain⟨h1,h2⟩:=h p List.mem_cons_self
  simp only[bB,fc]
  rw[alS p a b (by rw[zh];omega) (by rw[zh];omega),Option.bind_some]
  cases mV p a b with
  |false=>rw[if_neg (by simp)];rfl
  |true=>
   rw[if_pos rfl]
   simp only[Bool.not_true,zD]
   have e1:=T9 (gD .str) (fun _ _=>rfl) p.1 seen
   have e2:=Ua (gD .str) (fun _ _=>rfl) p.1 seen
   by_cases hm:p.1∈seen
   ·rw[e1.2 hm,if_pos hm];rfl
   ·rw[Gk e1 hm,Gk e2 hm,if_neg hm,zD,zD,za1]
    exact Ov m a b r (i+1) (seen++ [p.1]) fun q hq=>h q (List.mem_cons_of_mem _ hq)
theorem ahG(m:Map)(a b:zf)(h:eY m.1):Ii af m.1 (m.1.length:Int) 0 m a b []=nU m a b (fc a b [] m.1 0):=by
 have hl:=h.len
 have:=cD l4 m.1 (by rw[zh];omega) (fun i (x:bq) (s:List kb) K=>((oO x a b).bind fun r2=>(bif(!r2) then some (Sum.inl ((7:Int),(2:Int),i,m,a,b)) else(bif fH (gD .str) false s x.1 then some (Sum.inl ((10:Int),(2:Int),i,m,a,b)) else(bif fI (gD .str) s x.1 then none else K (s++ [(x.1,true)])))))) (fun _=>some (Sum.inr (m,a,b)))
  (fun k i s=>Ii k m.1 (m.1.length:Int) i m a b s) (fun k i s=>rfl) []
 rw[this]
 exact Ov m a b m.1 0 [] h.sz
theorem agB(f:ByteArray)(l:List bq):(zq l f).2=true↔f∈l.map fun p=>p.1:=by
 unfold zq
 induction l with
 |nil=>simp
 |cons p r ih=>
  rw[List.find?_cons,List.map_cons,List.mem_cons]
  by_cases h:p.1=f
  ·rw[zT h];exact⟨fun _=> .inl h.symm,fun _=>rfl⟩
  ·rw[zF h]
   exact ih.trans ⟨.inr,fun h'=>h'.resolve_left fun e=>h e.symm⟩
theorem zp6(m:Map)(a b:zf)(h:eY m.1):∀(n j k:Nat),j+n=m.1.length->n<k->Gx k (j:Int) m a b=nU m a b (fc a b ((m.1.take j).map fun p=>p.1) (m.1.drop j) j)
 |n,j,0,_,hk=>by omega
 |0,j,k+1,hj,hk=>by
  unfold Gx Ru
  rw[zF (by omega),show m.1.drop j=[] from List.drop_eq_nil_of_le (by omega)];rfl
 |n+1,j,k+1,hj,hk=>by
  have hl:=h.len
  have al:j<m.1.length:=by omega
  obtain⟨h1,h2⟩:=h.sz _ (List.getElem_mem al)
  have hg:∀d,m.1.getD j d=m.1[j]:=fun d=>by rw[List.getD_eq_getElem?_getD,List.getElem?_eq_getElem al];rfl
  unfold Gx Ru
  rw[zT (by omega),zC,zi al,Int.toNat_natCast,hg,zjc _ _ (by rw[zh];omega),Option.bind_some,List.drop_eq_getElem_cons al]
  simp only[fc]
  cases v1:jm m.1[j].1 a.2.1 with
  |false=>
   have:mV m.1[j] a b=false:=by unfold mV;rw[v1];rfl
   rw[this,if_neg (by simp)];rfl
  |true=>
   simp only[Bool.not_true,zD]
   rw[zjc _ _ (by rw[zh];omega),Option.bind_some]
   cases v2:jm m.1[j].2.1 b.2.1 with
   |false=>
    have:mV m.1[j] a b=false:=by unfold mV;rw[v1,v2];rfl
    rw[this,if_neg (by simp)];rfl
   |true=>
    simp only[Bool.not_true,zD]
    rw[zhh _ (by rw[zh];omega),Option.bind_some,zhh _ (by rw[zh];omega),Option.bind_some]
    cases v3:(dS m.1[j].1==dS m.1[j].2.1) with
    |false=>
     have:mV m.1[j] a b=false:=by unfold mV;rw[v1,v2,v3];rfl
     rw[this,if_neg (by simp)];rfl
    |true=>
     have:mV m.1[j] a b=true:=by unfold mV;rw[v1,v2,v3];rfl
     rw[this,if_pos rfl]
     simp only[Bool.not_true,zD]
     rw[zT (by omega:(0:Int)<=(j:Int)),zT (by omega:(j:Int)<=((m.1.length:Nat):Int)),zC,zC,List.drop_zero,adE _ _ (by rw[List.length_take,zh];omega),Option.bind_some]
     have hm:=agB m.1[j].1 (m.1.take j)
     by_cases dv:m.1[j].1∈(m.1.take j).map fun p=>p.1
     ·rw[hm.2 dv,if_pos dv];rfl
     ·rw[Gk hm dv,if_neg dv,zD,zv (by omega),zp6 m a b h n (j+1) k (by omega) (by omega)]
      congr 2
      rw[List.take_add_one,List.getElem?_eq_getElem al,List.map_append]
      rfl
def jr(x y:aO):Bool:=(!decide (x.2.1=0)&&decide (x.2.1=y.2.1))||(!decide (x.2.2.1=0)&&decide (x.2.2.1=y.2.2.1))
theorem alR(x y:aO):tA x y=some (jr x y):=by
 unfold tA U1 jr
 generalize decide (x.2.1=0)=c1
 generalize decide (x.2.1=y.2.1)=c2
 generalize decide (x.2.2.1=0)=c3
 generalize decide (x.2.2.1=y.2.2.1)=c4
 cases c1<;>cases c2<;>cases c3<;>cases c4<;>rfl
def pB(a b:zf):List aO->List aO->Int->Option (Int×Int)
 |_,[],_=>none
 |prev,r::l,i=>if dh r a b=0 then(if prev.any (fun q=>jr q r)=true then some (10,i) else pB a b (prev++ [r]) l (i+1)) else some (dh r a b,i)
def ZT(o:Option (Int×Int)):Option (Sum jW Unit):=some (match o with
 |some e=> .inl (e.1,3,e.2)
 |none=> .inr ())
def QH(m:Map)(a b:zf)(i:Int)(t:Bool):Sum (Int×Int×Int×Int×Map×zf×zf) (Int×Map×zf×zf):=bif t then .inl (10,3,i,i,m,a,b) else .inr (i,m,a,b)
theorem EV{m:Map}{j:Nat}(al:j<m.2.1.length)(d:aO):m.2.1.getD j d=m.2.1[j]:=by
 rw[List.getD_eq_getElem?_getD,List.getElem?_eq_getElem al];rfl
theorem zwy(m:Map)(a b:zf)(i:Nat)(hi:i<m.2.1.length)(hl:m.2.1.length<=1000000):∀(n j k:Nat),j+n=i->n<k->Gz k (i:Int) (j:Int) m a b=some (QH m a b i (((m.2.1.take i).drop j).any fun q=>jr q m.2.1[i]))
 |n,j,0,_,hk=>by omega
 |0,j,k+1,hj,hk=>by
  have:j=i:=by omega
  subst this
  unfold Gz Rw
  rw[zF (by omega),List.drop_eq_nil_of_le (by rw[List.length_take];omega)];rfl
 |n+1,j,k+1,hj,hk=>by
  have al:j<m.2.1.length:=by omega
  unfold Gz Rw
  have hd:(m.2.1.take i).drop j=m.2.1[j]::(m.2.1.take i).drop (j+1):=by
   rw[List.drop_eq_getElem_cons (by rw[List.length_take];omega)]
   congr 1
   rw[List.getElem_take]
  rw[zT (by omega),zC,zi al,zi hi,Int.toNat_natCast,Int.toNat_natCast,EV al,EV hi,alR,Option.bind_some,hd,List.any_cons]
  cases jr m.2.1[j] m.2.1[i] with
  |true=>rfl
  |false=>
   rw[zD,zv (by omega)]
   dsimp only
   rw[zwy m a b i hi hl n (j+1) k (by omega) (by omega),Bool.false_or]
theorem ziy(m:Map)(a b:zf)(h:dz m)(ha:a.2.2.1.length<=maxLen)(hb:b.2.2.1.length<=maxLen):∀(n j k:Nat),j+n=m.2.1.length->n<k->Gy k (j:Int) m a b=ZT (pB a b (m.2.1.take j) (m.2.1.drop j) j)
 |n,j,0,_,hk=>by omega
 |0,j,k+1,hj,hk=>by
  unfold Gy Rv
  rw[zF (by omega),List.drop_eq_nil_of_le (by omega)];rfl
 |n+1,j,k+1,hj,hk=>by
  have hl:=h.len
  have al:j<m.2.1.length:=by omega
  unfold Gy Rv
  rw[zT (by omega),zC,zi al,Int.toNat_natCast,EV al,adH _ a b (h.rules _ (List.getElem_mem al)) ha hb,Option.bind_some,List.drop_eq_getElem_cons al]
  simp only[pB]
  by_cases z:dh m.2.1[j] a b=0
  ·rw[zT z,if_pos z]
   simp only[Bool.not_true,zD]
   have ht:=zwy m a b j al hl j 0 af (by omega) (by rw[zu];omega)
   rw[show((0:Nat):Int)=(0:Int) from rfl,List.drop_zero] at ht
   rw[ht,Option.bind_some]
   cases(m.2.1.take j).any fun q=>jr q m.2.1[j] with
   |true=>rw[if_pos rfl];rfl
   |false=>
    rw[if_neg (by simp)]
    unfold QH UT
    simp only[zD,Sum.elim_inr]
    rw[zv (by omega),ziy m a b h ha hb n (j+1) k (by omega) (by omega)]
    congr 2
    rw[List.take_add_one,List.getElem?_eq_getElem al]
    rfl
  ·rw[zF z,if_neg z];rfl
def dG(m:Map)(a b:zf):Int×Int×Int:=
 if(iM a).1=0 then(if(iM b).1=0 then(if 256<m.1.length then(5,2,256) else match fc a b [] m.1 0 with
  |some e=>(e.1,2,e.2)
  |none=>if 256<m.2.1.length then(5,3,256) else match pB a b [] m.2.1 0 with
   |some e=>(e.1,3,e.2)
   |none=>(0,0,0)) else(1,1,1)) else(1,1,0)
theorem zru(m:Map)(a b:zf)(h:dz m)(ha:a.2.2.1.length<=maxLen)(hb:b.2.2.1.length<=maxLen):tw m a b=some (dG m a b):=by
 have h1:=h.nT.len
 have h2:=h.len
 unfold tw UR dG
 rw[zdc a ha,Option.bind_some]
 by_cases za:(iM a).1=0
 ·rw[zT za,if_pos za]
  simp only[Bool.not_true,zD]
  rw[zdc b hb,Option.bind_some]
  by_cases zb:(iM b).1=0
  ·rw[zT zb,if_pos zb]
   simp only[Bool.not_true,zD]
   by_cases hm:256<m.1.length
   ·rw[zT (by omega),if_pos hm];rfl
   ·rw[zF (by omega),if_neg hm,zD]
    have e1:=zp6 m a b h.nT m.1.length 0 af (by omega) (by rw[zu];omega)
    rw[show((0:Nat):Int)=(0:Int) from rfl,List.take_zero,List.drop_zero,List.map_nil] at e1
    rw[e1]
    unfold nU
    cases fc a b [] m.1 0 with
    |some e=>rfl
    |none=>
     simp only[Option.bind_some,Sum.elim_inr]
     unfold US
     by_cases hr:256<m.2.1.length
     ·rw[zT (by omega),if_pos hr];rfl
     ·rw[zF (by omega),if_neg hr,zD]
      have e2:=ziy m a b h ha hb m.2.1.length 0 af (by omega) (by rw[zu];omega)
      rw[show((0:Nat):Int)=(0:Int) from rfl,List.take_zero,List.drop_zero] at e2
      dsimp only
      rw[e2]
      unfold ZT
      cases pB a b [] m.2.1 0<;>rfl
  ·rw[zF zb,if_neg zb];rfl
 ·rw[zF za,if_neg za];rfl
theorem Ny(l:List Int)(f:Int):cR (l++ [f])=cR l|||cR [f]:=by simp [cR,List.foldl_append]
theorem Nz(l:List Int)(f:Int):cY (l++ [f])=cY l|||cY [f]:=by simp [cY,List.foldl_append]
theorem Mx(fs:List Int)(f:Int):(cR fs&&&cR [f]=0/\cY fs&&&cY [f]=0)↔¬(f∈fs/\jy f=true):=by
 constructor
 ·rintro⟨h1,h2⟩ ⟨h3,h4⟩
  have:=PC (cR fs) (cY fs) (cR [f]) (cY [f]) f
  rw[h1,h2,M0,GZ,GZ,h4] at this
  simp [h3] at this
 ·intro h
  refine PY (Ql (sJ fs)) (Ql (sK fs)) (by decide) (by decide) fun n _ _=> ?_
  rw[M0,PC,GZ,GZ]
  by_cases e:n=f
  ·subst e
   cases hr:jy n with
   |false=>simp
   |true=>
    have:n∉fs:=fun hm=>h ⟨hm,hr⟩
    simp [this]
  ·simp [e]
theorem OZ(x y:Nat):(decide (((x:Nat):Int)=0)&&(decide (((y:Nat):Int)=0)&&true))=decide (x=0/\y=0):=by
 rw[Bool.and_true,<-Bool.decide_and]
 exact decide_eq_decide.2 (by omega)
theorem zw1{s:zf}(h:gW s){no:Int}(hh:bm s no=true):jy no=true:=by
 unfold bm gE at hh
 obtain⟨x,hx⟩:=Option.isSome_iff_exists.1 hh
 have h1:=List.find?_some hx
 have h2:=List.mem_of_find?_eq_some hx
 have h3:=Uv (h.2.2.2.1 x h2)
 have h4:x.1=no:=of_decide_eq_true h1
 unfold jy
 exact zT (by omega)
theorem aeu{r:aO}{a b:zf}(h:dh r a b=0):cZ r a b=false:=by
 unfold dh at h
 cases hc:(decide (r.1<1)||decide ((5:Int)<r.1)) with
 |true=>rw[hc] at h;simp at h
 |false=>
  rw[hc] at h
  cases he:cZ r a b with
  |false=>rfl
  |true=>rw[he] at h;simp at h
theorem alI{r:aO}{a b:zf}(ha:gW a)(hb:gW b)(h:dh r a b=0):(r.2.1≠0->jy r.2.1=true)/\(r.2.2.1≠0->jy r.2.2.1=true):=by
 have he:=aeu h
 unfold cZ at he
 rw[Bool.or_eq_false_iff] at he
 refine⟨fun hz=> ?_,fun hz=> ?_⟩
 ·by_cases k:r.1=3
  ·rw[zT k,zF hz] at he;simp at he
  ·rw[zF k] at he
   exact zw1 ha (by simpa using he.1)
 ·by_cases k:r.1=2
  ·rw[zT k,zF hz] at he;simp at he
  ·rw[zF k] at he
   exact zw1 hb (by simpa using he.2)
def fW(l:List aO):List Int:=l.map fun q=>q.2.1
def sA(l:List aO):List Int:=l.map fun q=>q.2.2.1
theorem Ok:jy 0=false:=by decide
theorem ail(prev:List aO)(r:aO)(h1:r.2.1≠0->jy r.2.1=true)(h2:r.2.2.1≠0->jy r.2.2.1=true):
 prev.any (fun q=>jr q r)=(!decide (¬(r.2.1∈fW prev/\jy r.2.1=true))|| !decide (¬(r.2.2.1∈sA prev/\jy r.2.2.1=true))):=by
 have e:prev.any (fun q=>jr q r)=true↔((r.2.1∈fW prev/\jy r.2.1=true)\/(r.2.2.1∈sA prev/\jy r.2.2.1=true)):=by
  rw[List.any_eq_true]
  unfold jr fW sA
  simp only[List.mem_map]
  constructor
  ·rintro⟨q,hq,h⟩
   simp only[Bool.or_eq_true,Bool.and_eq_true,Bool.not_eq_true',decide_eq_false_iff_not,decide_eq_true_eq] at h
   rcases h with⟨g1,g2⟩|⟨g1,g2⟩
   ·exact .inl ⟨⟨q,hq,g2⟩,h1 (by rw[<-g2];exact g1)⟩
   ·exact .inr ⟨⟨q,hq,g2⟩,h2 (by rw[<-g2];exact g1)⟩
  ·rintro(⟨⟨q,hq,g⟩,hr⟩|⟨⟨q,hq,g⟩,hr⟩)
   ·refine⟨q,hq,?_⟩
    have:q.2.1≠0:=fun e=>by rw[<-g,e,Ok] at hr;cases hr
    rw[zF this,zT g];rfl
   ·refine⟨q,hq,?_⟩
    have:q.2.2.1≠0:=fun e=>by rw[<-g,e,Ok] at hr;cases hr
    rw[zF this,zT g];simp
 cases hb:prev.any (fun q=>jr q r) with
 |true=>
  rcases e.1 hb with h|h
  ·rw[zF (fun hn=>hn h)];rfl
  ·rw[show decide (¬(r.2.2.1∈sA prev/\jy r.2.2.1=true))=false from zF (fun hn=>hn h)];simp
 |false=>
  have hn:=fun h=>(by rw[hb] at e;exact absurd (e.2 h) (by simp):False)
  rw[zT (show¬(r.2.1∈fW prev/\jy r.2.1=true) from fun h=>hn (.inl h)),zT (show¬(r.2.2.1∈sA prev/\jy r.2.2.1=true) from fun h=>hn (.inr h))];rfl
abbrev S2:=Int×Int×Unit
def AM(l:List Int):S2:=((cR l:Int),(cY l:Int),())
theorem Nx(a b:zf)(ha:a.2.2.1.length<=maxLen)(hb:b.2.2.1.length<=maxLen)(oa:gW a)(ob:gW b):∀(l:List aO) (i:Int) (prev:List aO),(∀r∈l,fm r)->
 bB (fun i (x:aO) (s:S2×S2) K=>((oK x a b).bind fun r3=>(bif(!decide (r3=0)) then some (Sum.inl (r3,(3:Int),i)) else((vL ([x.2.1]:List Int)).bind fun r4=>((vL ([x.2.2.1]:List Int)).bind fun r5=>((sQ s.1 r4).bind fun r6=>(bif(!(decide (r6.1=0)&&(decide (r6.2.1=0)&&true))) then some (Sum.inl ((10:Int),(3:Int),i)) else((sQ s.2 r5).bind fun r7=>(bif(!(decide (r7.1=0)&&(decide (r7.2.1=0)&&true))) then some (Sum.inl ((10:Int),(3:Int),i)) else((ur s.1 r4).bind fun r8=>((ur s.2 r5).bind fun r9=>K (r8,r9)))))))))))) (fun _=>some (Sum.inr ())) l i (AM (fW prev),AM (sA prev))=ZT (pB a b prev l i)
 | [],i,prev,_=>rfl
 |r::l,i,prev,h=>by
  simp only[bB,pB]
  rw[acW r a b (h r List.mem_cons_self) ha hb,Option.bind_some]
  by_cases z:dh r a b=0
  ·rw[zT z,if_pos z]
   simp only[Bool.not_true,zD]
   obtain⟨i1,i2⟩:=alI oa ob z
   have oY:=ail prev r i1 i2
   rw[yR _ (by simp [zh]),Option.bind_some,yR _ (by simp [zh]),Option.bind_some]
   unfold AM
   rw[O0 _ _ _ _ (sJ _) (sK _) (sJ _) (sK _),Option.bind_some]
   dsimp only
   rw[OZ,decide_eq_decide.2 (Mx (fW prev) r.2.1)]
   by_cases c1:¬(r.2.1∈fW prev/\jy r.2.1=true)
   ·rw[zT c1] at oY⊢
    simp only[Bool.not_true,zD]
    rw[O0 _ _ _ _ (sJ _) (sK _) (sJ _) (sK _),Option.bind_some]
    dsimp only
    rw[OZ,decide_eq_decide.2 (Mx (sA prev) r.2.2.1)]
    by_cases c2:¬(r.2.2.1∈sA prev/\jy r.2.2.1=true)
    ·rw[zT c2] at oY⊢
     rw[oY]
     simp only[Bool.not_true,zD,Bool.or_false]
     rw[if_neg (by simp),ze7 _ _ _ _ (sJ _) (sK _) (sJ _) (sK _),Option.bind_some,ze7 _ _ _ _ (sJ _) (sK _) (sJ _) (sK _),Option.bind_some]
     have:=Nx a b ha hb oa ob l (i+1) (prev++ [r]) (fun q hq=>h q (List.mem_cons_of_mem _ hq))
     rw[show fW (prev++ [r])=fW prev++ [r.2.1] by simp [fW],show sA (prev++ [r])=sA prev++ [r.2.2.1] by simp [sA]] at this
     unfold AM at this
     rw[Ny,Nz,Ny,Nz] at this
     exact this
    ·rw[zF c2] at oY⊢
     rw[oY];rfl
   ·rw[zF c1] at oY⊢
    rw[oY];rfl
  ·rw[zF z,if_neg z];rfl
theorem acX(m:Map)(a b:zf)(ha:a.2.2.1.length<=maxLen)(hb:b.2.2.1.length<=maxLen):Ih af ([a,b]:List zf) ((List.length ([a,b]:List zf)):Int) 0 m a b=some (if(iM a).1=0 then(if(iM b).1=0 then .inr (m,a,b) else .inl (1,1,1,m,a,b)) else .inl (1,1,0,m,a,b)):=by
 obtain⟨k,hk⟩:=AN
 rw[hk]
 simp only[Ih,Xa]
 have w0:∀{R:Type} (x:Option R),zd 0 ([a,b]:List zf).length x=x:=fun x=>zo (by omega) (by simp)
 have w1:∀{R:Type} (x:Option R),zd 1 ([a,b]:List zf).length x=x:=fun x=>zo (by omega) (by simp)
 have e1:zW zI (0+1)=1:=rfl
 have e2:zW zI (1+1)=2:=rfl
 have d0:decide ((0:Int)<(([a,b]:List zf).length:Int))=true:=rfl
 have d1:decide ((1:Int)<(([a,b]:List zf).length:Int))=true:=rfl
 have d2:decide ((2:Int)<(([a,b]:List zf).length:Int))=false:=rfl
 rw[d0,zC,w0,show List.getD ([a,b]:List zf) (0:Int).toNat ((0:Int),(0:Int),([]:List Spec),())=a from rfl,Re a ha,Option.bind_some]
 by_cases za:(iM a).1=0
 ·rw[zT za,if_pos za]
  simp only[Bool.not_true,zD]
  rw[e1,d1,zC,w1,show List.getD ([a,b]:List zf) (1:Int).toNat ((0:Int),(0:Int),([]:List Spec),())=b from rfl,Re b hb,Option.bind_some]
  by_cases zb:(iM b).1=0
  ·rw[zT zb,if_pos zb]
   simp only[Bool.not_true,zD]
   rw[e2,d2,zD]
  ·rw[zF zb,if_neg zb];rfl
 ·rw[zF za,if_neg za];rfl
abbrev jj:aO:=(0,0,0,bs [],[],())
theorem z83(m:Map)(a b:zf)(h:dz m)(ha:a.2.2.1.length<=maxLen)(hb:b.2.2.1.length<=maxLen):rQ m a b=some (dG m a b):=by
 have h1:=h.nT.len
 have h2:=h.len
 unfold rQ W9 dG
 dsimp only
 rw[acX m a b ha hb,Option.bind_some]
 by_cases za:(iM a).1=0
 ·rw[if_pos za,if_pos za]
  by_cases zb:(iM b).1=0
  ·rw[if_pos zb,if_pos zb]
   simp only[Sum.elim_inr]
   unfold Xb
   by_cases hm:256<m.1.length
   ·rw[zT (by omega),if_pos hm];rfl
   ·rw[zF (by omega),if_neg hm,zD]
    dsimp only
    rw[ahG m a b h.nT]
    unfold nU
    cases fc a b [] m.1 0 with
    |some e=>rfl
    |none=>
     simp only[Option.bind_some,Sum.elim_inr]
     unfold Xc
     by_cases hr:256<m.2.1.length
     ·rw[zT (by omega),if_pos hr];rfl
     ·rw[zF (by omega),if_neg hr,zD]
      dsimp only
      have:=cD jj m.2.1 (by rw[zh];omega) (fun i (x:aO) (s:S2×S2) K=>((oK x a b).bind fun r3=>(bif(!decide (r3=0)) then some (Sum.inl (r3,(3:Int),i)) else((vL ([x.2.1]:List Int)).bind fun r4=>((vL ([x.2.2.1]:List Int)).bind fun r5=>((sQ s.1 r4).bind fun r6=>(bif(!(decide (r6.1=0)&&(decide (r6.2.1=0)&&true))) then some (Sum.inl ((10:Int),(3:Int),i)) else((sQ s.2 r5).bind fun r7=>(bif(!(decide (r7.1=0)&&(decide (r7.2.1=0)&&true))) then some (Sum.inl ((10:Int),(3:Int),i)) else((ur s.1 r4).bind fun r8=>((ur s.2 r5).bind fun r9=>K (r8,r9)))))))))))) (fun _=>some (Sum.inr ()))
       (fun k i s=>RX k m.2.1 (m.2.1.length:Int) i a b s.1 s.2) (fun k i s=>rfl) (AM (fW []),AM (sA []))
      have h3:=Nx a b ha hb ((vX a).1 za) ((vX b).1 zb) m.2.1 0 [] h.rules
      rw[h3] at this
      have h4:AM (fW [])=((0:Int),(0:Int),()):=rfl
      have h5:AM (sA [])=((0:Int),(0:Int),()):=rfl
      rw[h4,h5] at this
      rw[this]
      unfold ZT
      cases pB a b [] m.2.1 0<;>rfl
  ·rw[if_neg zb,if_neg zb];rfl
 ·rw[if_neg za,if_neg za];rfl
instance TA:DecidableEq aO:=fun x y=>decidable_of_iff ((decide (x.1=y.1)&&(decide (x.2.1=y.2.1)&&(decide (x.2.2.1=y.2.2.1)&&(decide (x.2.2.2.1=y.2.2.2.1)&&decide (x.2.2.2.2.1=y.2.2.2.2.1)))))=true) (by obtain⟨a1,a2,a3,a4,a5,u⟩:=x;obtain⟨b1,b2,b3,b4,b5,v⟩:=y;simp)
instance aaJ:DecidableEq Map:=fun x y=>decidable_of_iff ((decide (x.1=y.1)&&decide (x.2.1=y.2.1))=true) (by obtain⟨a1,a2,u⟩:=x;obtain⟨b1,b2,v⟩:=y;simp)
def cA(r:aO):aO:=(r.1,r.2.2.1,r.2.1,r.2.2.2.1,dX r.2.2.2.2.1,())
def dO(m:Map):Map:=(dX m.1,m.2.1.map cA,())
abbrev LX:Map:=([],[],())
theorem aeO(r:aO)(h:fm r):oE r=some r:=by
 unfold oE UL
 rw[Mm _ h.ff.len];rfl
theorem MA:∀(l:List aO) (i:Int) (s:Map×Map),(∀r∈l,fm r)->s.2.2.1.length+l.length<=1099511627776->
 bB (fun i (x:aO) (s:Map×Map) K=>((oE x).bind fun r2=>(bif(decide ((s.2.2.1.length+(List.length ([r2]:List aO)))*64<=140737488355328)) then K (s.1,(s.2.1,(s.2.2.1++([r2]:List aO)),())) else none))) (fun s=>some s) l i s=some (s.1,(s.2.1,s.2.2.1++l,()))
 | [],i,s,_,_=>by simp only[bB,List.append_nil]
 |r::l,i,s,h,hl=>by
  simp only[List.length_cons] at hl
  simp only[bB]
  rw[aeO r (h r List.mem_cons_self),Option.bind_some,zT (by simp;omega),zC]
  have:=MA l (i+1) (s.1,(s.2.1,(s.2.2.1++ [r]),())) (fun q hq=>h q (List.mem_cons_of_mem _ hq)) (by simp;omega)
  refine Eq.trans this ?_
  simp
theorem Mn(m:Map)(h:dz m):tz m=some m:=by
 have hl:=h.len
 unfold tz UW
 dsimp only
 rw[Mm _ h.nT.len,Option.bind_some]
 have:=cD jj m.2.1 (by rw[zh];omega) (fun i (x:aO) (s:Map×Map) K=>((oE x).bind fun r2=>(bif(decide ((s.2.2.1.length+(List.length ([r2]:List aO)))*64<=140737488355328)) then K (s.1,(s.2.1,(s.2.2.1++([r2]:List aO)),())) else none))) (fun s=>some s)
  (fun k i s=>Rx k i m s.1 s.2) (fun k i s=>rfl) (LX,(m.1,[],()))
 rw[MA _ _ _ h.rules (by simp;omega)] at this
 rw[this]
 rfl
def yH(r:aO)(a b:zf):Bool:=
 bif decide (r.1=1) then(kY (aJ a r.2.1) (aJ b r.2.2.1)&&kY (aJ b r.2.2.1) (aJ a r.2.1)) else bif decide (r.1=4) then decide ((aJ a r.2.1).2.2.2.1<=(aJ b r.2.2.1).2.2.2.1) else bif decide (r.1=5) then AH r.2.2.2.2.1 else false
def kH(m:Map)(a b:zf):Bool:=decide ((dG m a b).1=0)&&(AH m.1&&m.2.1.all fun r=>yH r a b)
structure gu(r:aO)(a b:zf):Prop where
 lo:¬r.1<1
 hi:¬(5:Int)<r.1
 ends:cZ r a b=false
 text:ii r=false
 kind:jh r (aJ a r.2.1) (aJ b r.2.2.1)=0
theorem zix{r:aO}{a b:zf}:dh r a b=0↔gu r a b:=by
 constructor
 ·intro h
  unfold dh at h
  by_cases c1:r.1<1
  ·rw[zT c1] at h;simp at h
  by_cases c2:(5:Int)<r.1
  ·rw[zT c2] at h;simp at h
  rw[zF c1,zF c2] at h
  simp only[Bool.or_self,zD] at h
  cases he:cZ r a b with
  |true=>rw[he] at h;simp at h
  |false=>
   rw[he,zD] at h
   cases ht:ii r with
   |true=>rw[ht] at h;simp at h
   |false=>rw[ht,zD] at h;exact⟨c1,c2,he,ht,h⟩
 ·intro h
  unfold dh
  rw[zF h.lo,zF h.hi,h.ends,h.text]
  exact h.kind
theorem gu.K3{r:aO}{a b:zf}(h:gu r a b)(k:r.1≠3):bm a r.2.1=true:=by
 have he:=h.ends
 unfold cZ at he
 rw[Bool.or_eq_false_iff,zF k] at he
 simpa using he.1
theorem gu.hasB{r:aO}{a b:zf}(h:gu r a b)(k:r.1≠2):bm b r.2.2.1=true:=by
 have he:=h.ends
 unfold cZ at he
 rw[Bool.or_eq_false_iff,zF k] at he
 simpa using he.2
theorem TP{a b:zf}:∀{l:List bq} {seen:List ByteArray} {i:Int},fc a b seen l i=none↔(∀p∈l,mV p a b=true)/\iA seen l i=none
 | [],seen,i=>by simp [fc,iA]
 |p::r,seen,i=>by
  simp only[fc,iA,List.mem_cons,forall_eq_or_imp]
  cases ht:mV p a b with
  |false=>simp
  |true=>
   rw[if_pos rfl]
   by_cases hm:p.1∈seen
   ·simp [hm]
   ·rw[if_neg hm,if_neg hm,TP]
    simp
def BQ:List aO->List aO->Prop
 |_,[]=>True
 |prev,r::l=>prev.any (fun q=>jr q r)=false/\BQ (prev++ [r]) l
theorem TI{a b:zf}:∀{l:List aO} {prev:List aO} {i:Int},pB a b prev l i=none↔(∀r∈l,dh r a b=0)/\BQ prev l
 | [],prev,i=>by simp [pB,BQ]
 |r::l,prev,i=>by
  simp only[pB,BQ,List.mem_cons,forall_eq_or_imp]
  by_cases z:dh r a b=0
  ·rw[if_pos z]
   cases hp:prev.any (fun q=>jr q r) with
   |true=>simp
   |false=>
    rw[if_neg (by simp),TI]
    simp [z]
  ·rw[if_neg z];simp [z]
theorem zwg{a b:zf}:∀{l:List bq} {seen:List ByteArray} {i:Int} {e:Int×Int},fc a b seen l i=some e->e.1≠0
 |p::r,seen,i,e,h=>by
  simp only[fc] at h
  split at h
  ·split at h
   ·cases h;simp
   ·exact zwg h
  ·cases h;simp
theorem zpb{a b:zf}:∀{l:List aO} {prev:List aO} {i:Int} {e:Int×Int},pB a b prev l i=some e->e.1≠0
 |r::l,prev,i,e,h=>by
  simp only[pB] at h
  split at h
  ·split at h
   ·cases h;simp
   ·exact zpb h
  ·rename_i hz
   cases h;exact hz
structure dY(m:Map)(a b:zf):Prop where
 sa:(iM a).1=0
 sb:(iM b).1=0
 LW:m.1.length<=256
 typed:∀p∈m.1,mV p a b=true
 dup:iA [] m.1 0=none
 C6:m.2.1.length<=256
 rules:∀r∈m.2.1,dh r a b=0
 q7:BQ [] m.2.1
theorem Rn{m:Map}{a b:zf}:(dG m a b).1=0↔dY m a b:=by
 constructor
 ·intro h
  unfold dG at h
  split at h
  ·split at h
   ·rename_i h1 h2
    split at h
    ·cases h
    ·rename_i h3
     split at h
     ·rename_i e he
      exact absurd h (zwg he)
     ·rename_i hm
      split at h
      ·cases h
      ·rename_i h4
       split at h
       ·rename_i e he
        exact absurd h (zpb he)
       ·rename_i hr
        obtain⟨g1,g2⟩:=TP.1 hm
        obtain⟨g3,g4⟩:=TI.1 hr
        exact⟨h1,h2,by omega,g1,g2,by omega,g3,g4⟩
   ·cases h
  ·cases h
 ·intro h
  unfold dG
  have e1:=TP.2 ⟨h.typed,h.dup⟩
  have e2:pB a b [] m.2.1 0=none:=TI.2 ⟨h.rules,h.q7⟩
  have l1:=h.LW
  have l2:=h.C6
  rw[if_pos h.sa,if_pos h.sb,if_neg (by omega),e1]
  simp only
  rw[if_neg (by omega),e2]
theorem dY.eq{m:Map}{a b:zf}(h:dY m a b):dG m a b=(0,0,0):=by
 unfold dG
 have e1:=TP.2 ⟨h.typed,h.dup⟩
 have e2:pB a b [] m.2.1 0=none:=TI.2 ⟨h.rules,h.q7⟩
 have l1:=h.LW
 have l2:=h.C6
 rw[if_pos h.sa,if_pos h.sb,if_neg (by omega),e1]
 simp only
 rw[if_neg (by omega),e2]
theorem eY.turn{l:List bq}(h:eY l):eY (dX l):=⟨by rw[zja];exact h.len,fun p hp=>by
 unfold dX at hp
 obtain⟨q,hq,rfl⟩:=List.mem_map.1 hp
 exact⟨(h.sz q hq).2,(h.sz q hq).1⟩⟩
theorem dz.turn{m:Map}(h:dz m):dz (dO m):=⟨h.nT.turn,by show(m.2.1.map cA).length<=_;rw[List.length_map];exact h.len,fun r hr=>by
 obtain⟨q,hq,rfl⟩:=List.mem_map.1 (show r∈m.2.1.map cA from hr)
 exact⟨(h.rules q hq).text,(h.rules q hq).ff.turn⟩⟩
theorem aeJ(p:bq)(a b:zf)(h:mV p a b=true):mV (p.2.1,p.1,()) b a=true:=by
 unfold mV at h⊢
 simp only[Bool.and_eq_true,beq_iff_eq] at h⊢
 exact⟨h.2.1,h.1,h.2.2.symm⟩
theorem aeI(x y:aO):jr (cA x) (cA y)=jr x y:=by
 unfold jr cA
 exact Bool.or_comm _ _
theorem ziq:∀(l prev:List aO),BQ prev l->BQ (prev.map cA) (l.map cA)
 | [],_,_=>trivial
 |r::l,prev,⟨h1,h2⟩=>by
  refine⟨?_,?_⟩
  ·rw[List.any_map]
   rw[<-h1]
   congr 1
   funext q
   exact aeI q r
  ·have:=ziq l (prev++ [r]) h2
   rw[List.map_append] at this
   exact this
theorem zwt{l:List bq}(h:(rB l).1=0):l.length<=256/\iA [] l 0=none:=by
 unfold rB at h
 split at h
 ·cases h
 ·rename_i h1
  split at h
  ·cases h
  ·rename_i h2;exact⟨by omega,h2⟩
theorem EG{l:List bq}:AH l=true↔(rB l).1=0/\(rB (dX l)).1=0:=by unfold AH;exact decide_eq_true_iff
theorem zx1{x y:Spec}:∀{l:List bq},eO l x y=0↔∀p∈l,bp x p.1=0/\bp y p.2.1=0
 | []=>by simp [eO]
 |p::r=>by
  simp only[eO,List.mem_cons,forall_eq_or_imp]
  by_cases h1:bp x p.1=0
  ·rw[zT h1]
   simp only[Bool.not_true,zD]
   by_cases h2:bp y p.2.1=0
   ·rw[zT h2]
    simp only[Bool.not_true,zD]
    rw[zx1]
    simp [h1,h2]
   ·rw[zF h2]
    simp [h1,h2]
  ·rw[zF h1]
   simp [h1]
theorem ah4{r:aO}{a b:zf}(h:gu r a b)(hu:yH r a b=true):gu (cA r) b a:=by
 have hk:r.1=1\/r.1=4\/r.1=5:=by
  unfold yH at hu
  by_cases k1:r.1=1
  ·exact .inl k1
  by_cases k4:r.1=4
  ·exact .inr (.inl k4)
  by_cases k5:r.1=5
  ·exact .inr (.inr k5)
  rw[zF k1,zF k4,zF k5] at hu
  cases hu
 have e1:(cA r).1=r.1:=rfl
 have e2:(cA r).2.1=r.2.2.1:=rfl
 have e3:(cA r).2.2.1=r.2.1:=rfl
 have e4:(cA r).2.2.2.1=r.2.2.2.1:=rfl
 have e5:(cA r).2.2.2.2.1=dX r.2.2.2.2.1:=rfl
 refine⟨h.lo,h.hi,?_,?_,?_⟩
 ·unfold cZ
  rw[e1,e2,e3,zF (by omega:¬r.1=3),zF (by omega:¬r.1=2),h.K3 (by omega),h.hasB (by omega)]
  rfl
 ·have ht:=h.text
  unfold ii at ht⊢
  rw[e1,e4,e5,zja]
  exact ht
 ·have oZ:=h.kind
  unfold jh at oZ⊢
  unfold yH at hu
  rw[e1,e2,e3,e4,e5]
  rcases hk with k|k|k
  ·rw[zT k,zC] at hu⊢
   rw[Bool.and_eq_true] at hu
   rw[hu.1];rfl
  ·rw[zF (by omega:¬r.1=1),zF (by omega:¬r.1=3),zT k] at oZ⊢
   simp only[zD,zC] at oZ⊢
   rw[Bool.and_comm]
   exact oZ
  ·rw[zF (by omega:¬r.1=1),zF (by omega:¬r.1=3),zF (by omega:¬r.1=4),zT k] at oZ⊢
   rw[zF (by omega:¬r.1=1),zF (by omega:¬r.1=4),zT k] at hu
   simp only[zD,zC] at oZ hu⊢
   have hb:=EG.1 hu
   unfold IG at oZ⊢
   rw[zja,hb.2]
   rw[hb.1] at oZ
   cases hz:decide ((r.2.2.2.2.1.length:Int)=0) with
   |true=>rw[hz] at oZ;simp at oZ
   |false=>
    rw[hz] at oZ
    simp only[decide_true,Bool.not_true,Bool.or_self,zD] at oZ⊢
    rw[zx1] at oZ⊢
    intro p hp
    unfold dX at hp
    obtain⟨q,hq,rfl⟩:=List.mem_map.1 hp
    exact⟨(oZ q hq).2,(oZ q hq).1⟩
theorem Ot{m:Map}{a b:zf}(h:kH m a b=true):dY (dO m) b a:=by
 unfold kH at h
 simp only[Bool.and_eq_true,decide_eq_true_eq,List.all_eq_true] at h
 obtain⟨h1,h2,h3⟩:=h
 have h0:=Rn.1 h1
 have hb:=EG.1 h2
 obtain⟨l1,d1⟩:=zwt hb.2
 refine⟨h0.sb,h0.sa,l1,fun p hp=> ?_,d1,by show(m.2.1.map cA).length<=_;rw[List.length_map];exact h0.C6,fun r hr=> ?_,?_⟩
 ·obtain⟨q,hq,rfl⟩:=List.mem_map.1 (show p∈m.1.map _ from hp)
  exact aeJ q a b (h0.typed q hq)
 ·obtain⟨q,hq,rfl⟩:=List.mem_map.1 (show r∈m.2.1.map cA from hr)
  exact zix.2 (ah4 (zix.1 (h0.rules q hq)) (h3 q hq))
 ·exact ziq m.2.1 [] h0.q7
theorem ak5(l:List bg)(no:Int)(t:ByteArray):(mN l no t).length=l.length+1:=by
 unfold mN
 rcases QN no l 0 (Int.le_refl _) with⟨h1,_⟩|h1
 ·rw[h1,zT (by omega:(-1:Int)<0),zC,List.length_append];rfl
 ·rw[zF (by omega:¬cn no l 0<0),zD,List.length_append,List.length_take,List.length_cons,List.length_drop]
  omega
theorem Ue(m:bI)(no:Int)(t:ByteArray):(eP m no t).2.1.length<=m.2.1.length+1:=by
 show(mN (fD m.2.1 no) no t).length<=_
 rw[ak5]
 have:=MI m.2.1 no
 omega
theorem al2(m:Map)(t:ByteArray)(h:m.1.length<=maxLen):uq m t=some (zq m.1 t):=by
 unfold uq Xk
 dsimp only
 have:=cD l4 m.1 h (fun i (x:bq) (s:Unit) K=>bif decide (x.1=t) then some (Sum.inl (x.2.1,true)) else K s) (fun _=>some (Sum.inr ()))
  (fun k i s=>R3 k t m.1 (m.1.length:Int) i) (fun k i s=>rfl) ()
 rw[this,zco]
 unfold zq
 cases m.1.find? fun p=>decide (p.1=t)<;>rfl
def cU(m:Map)(no:Int):Option aO:=m.2.1.find? fun r=>decide (r.2.1=no)
def AL(o:Option aO):Option (Sum (Bool×aO) aO):=some (match o with
 |some r=> .inl (true,r)
 |none=> .inr jj)
theorem Oc(no:Int):∀(l:List aO) (i:Int),bB (fun i (x:aO) (s:Unit) K=>(bif(decide (x.2.1=no)) then some (Sum.inl (true,x)) else K s)) (fun _=>some (Sum.inr jj)) l i ()=AL (l.find? fun r=>decide (r.2.1=no))
 | [],i=>rfl
 |x::r,i=>by
  rw[bB,List.find?_cons]
  cases hx:decide (x.2.1=no) with
  |true=>rfl
  |false=>rw[zD];exact Oc no r (i+1)
theorem aiz(m:Map)(no:Int)(h:m.2.1.length<=maxLen):oN m no=some (match cU m no with
 |some r=>(r,true)
 |none=>(jj,false)):=by
 unfold oN Xi cU
 dsimp only
 have:=cD jj m.2.1 h (fun i (x:aO) (s:Unit) K=>(bif(decide (x.2.1=no)) then some (Sum.inl (true,x)) else K s)) (fun _=>some (Sum.inr jj))
  (fun k i s=>R0 k no m.2.1 (m.2.1.length:Int) i jj) (fun k i s=>rfl) ()
 rw[this,Oc]
 unfold AL
 cases m.2.1.find? fun r=>decide (r.2.1=no)<;>rfl
def sI:List aO->bI->bI
 | [],out=>out
 |r::l,out=>sI l (bif decide (r.1=3) then eP out r.2.2.1 r.2.2.2.1 else out)
theorem zau:∀(l:List aO) (out:bI),(sI l out).2.1.length<=out.2.1.length+l.length
 | [],out=>Nat.le_refl _
 |r::l,out=>by
  rw[sI,List.length_cons]
  cases decide (r.1=3) with
  |true=>rw[zC];have:=zau l (eP out r.2.2.1 r.2.2.2.1);have:=Ue out r.2.2.1 r.2.2.2.1;omega
  |false=>rw[zD];have:=zau l out;omega
theorem zdo{ρ:Type}(fin:bI->Option ρ):∀(l:List aO) (i:Int) (out:bI),out.2.1.length+l.length<=1000000->
 bB (fun i (x:aO) (s:bI) K=>(bif(decide (x.1=(3:Int))) then((iS s x.2.2.1 x.2.2.2.1).bind fun r4=>K r4) else K s)) fin l i out=fin (sI l out)
 | [],i,out,_=>rfl
 |r::l,i,out,h=>by
  simp only[List.length_cons] at h
  rw[bB,sI]
  cases decide (r.1=3) with
  |true=>
   rw[zC,zC,Ug out _ _ (by omega),zc]
   have:=Ue out r.2.2.1 r.2.2.2.1
   exact zdo fin l (i+1) _ (by omega)
  |false=>
   rw[zD,zD]
   exact zdo fin l (i+1) out (by omega)
def BV(m:Map)(b:zf):List bg->bI->Sum (bL×bI) bI
 | [],out=> .inr out
 |v::r,out=>match cU m v.1 with
  |none=> .inl ((9,v.1,()),out)
  |some q=>bif !decide ((zr q b v.2.1).2=0) then .inl (((zr q b v.2.1).2,v.1,()),out) else BV m b r (bif !decide ((zr q b v.2.1).1.1=0) then eP out (zr q b v.2.1).1.1 (zr q b v.2.1).1.2.1 else out)
abbrev dH:bI:=(bs [],[],())
def N9(o:Sum (bL×bI) bI):Option (Sum (bI×bL×bI) (bI×bL×bI)):=some (match o with
 | .inl (f,out)=> .inl (dH,f,out)
 | .inr out=> .inr (dH,hJ,out))
theorem Gg{m:Map}{no:Int}{r:aO}(h:cU m no=some r):r∈m.2.1/\r.2.1=no:=⟨List.mem_of_find?_eq_some h,by simpa using List.find?_some h⟩
theorem zaz(m:Map)(b:zf)(hm:dz m)(hb:b.2.2.1.length<=maxLen):∀(l:List bg) (i:Int) (out:bI),out.2.1.length+l.length<=1000000->(∀v∈l,v.2.1.size<=1099511627776)->
 bB (fun i (x:bg) (s:bI) K=>((oN m x.1).bind fun r5=>(bif(!r5.2) then some (Sum.inl (dH,((9:Int),x.1,()),s)) else((oJ r5.1 b x.2.1).bind fun r6=>(bif(!(decide (r6.2=(0:Int)))) then some (Sum.inl (dH,(r6.2,x.1,()),s)) else(bif(!(decide (r6.1.1=(0:Int)))) then((iS s r6.1.1 r6.1.2.1).bind fun r7=>K r7) else K s)))))) (fun s=>some (Sum.inr (dH,hJ,s))) l i out=N9 (BV m b l out)
 | [],i,out,_,_=>rfl
 |v::r,i,out,h,ht=>by
  simp only[List.length_cons] at h
  have hl:=hm.len
  have hv:=ht v List.mem_cons_self
  rw[bB,aiz m v.1 (by rw[zh];omega),zc,BV]
  cases hf:cU m v.1 with
  |none=>rfl
  |some q=>
   dsimp only
   obtain⟨q1,_⟩:=Gg hf
   have qp:=(hm.rules q q1).ff.len
   rw[Bool.not_true,zD,acV q b v.2.1 (by rw[zh];omega) hb (by rw[zh];omega),zc]
   generalize zr q b v.2.1=y
   cases decide (y.2=0) with
   |false=>rfl
   |true=>
    rw[Bool.not_true,zD,zD]
    cases decide (y.1.1=0) with
    |true=>
     rw[Bool.not_true,zD,zD]
     exact zaz m b hm hb r (i+1) out (by omega) (fun w hw=>ht w (List.mem_cons_of_mem _ hw))
    |false=>
     rw[Bool.not_false,zC,zC,Ug out _ _ (by omega),zc]
     have:=Ue out y.1.1 y.1.2.1
     exact zaz m b hm hb r (i+1) _ (by omega) (fun w hw=>ht w (List.mem_cons_of_mem _ hw))
def mU(m:Map)(a b:zf)(x:bI):bI×bL:=
 bif !decide ((dG m a b).1=0) then(dH,(1,-1,())) else bif !decide ((gZ a x).1=0) then(dH,gZ a x) else bif !(zq m.1 x.1).2 then(dH,(7,0,()))
 else match BV m b x.2.1 (sI m.2.1 ((zq m.1 x.1).1,[],())) with
  | .inl (f,_)=>(dH,f)
  | .inr out=>(out,hJ)
theorem acA(m:Map)(a b:zf)(x:bI)(hm:dz m)(hm2:m.2.1.length<=900000)(hx:eC x)(Bh:x.2.1.length<=90000)(ha:a.2.2.1.length<=maxLen)(hb:b.2.2.1.length<=maxLen):rR m a b x=some (mU m a b x):=by
 have hl:=hm.nT.len
 unfold rR Xf mU
 rw[z83 m a b hm ha hb,zc]
 cases decide ((dG m a b).1=0) with
 |false=>rfl
 |true=>
  rw[Bool.not_true,zD,zD,zp5 a x ha hx,zc]
  cases decide ((gZ a x).1=0) with
  |false=>rfl
  |true=>
   rw[Bool.not_true,zD,zD,al2 m x.1 (by rw[zh];omega),zc]
   cases(zq m.1 x.1).2 with
   |false=>rfl
   |true=>
    rw[Bool.not_true,zD,zD]
    dsimp only
    have h1:=cD jj m.2.1 (by rw[zh];omega) (fun i (x:aO) (s:bI) K=>(bif(decide (x.1=(3:Int))) then((iS s x.2.2.1 x.2.2.2.1).bind fun r4=>K r4) else K s)) (fun s=>some (m,b,x,dH,hJ,s))
     (fun k i s=>RY k m.2.1 (m.2.1.length:Int) i m b x dH hJ s) (fun k i s=>rfl) ((zq m.1 x.1).1,[],())
    rw[h1,zdo _ _ _ _ (by simp;omega),zc]
    unfold Xg
    dsimp only
    have hc:=zau m.2.1 ((zq m.1 x.1).1,[],())
    have hc:(sI m.2.1 ((zq m.1 x.1).1,[],())).2.1.length<=m.2.1.length:=by simpa using hc
    have h2:=cD nZ x.2.1 (by rw[zh];omega) (fun i (x:bg) (s:bI) K=>((oN m x.1).bind fun r5=>(bif(!r5.2) then some (Sum.inl (dH,((9:Int),x.1,()),s)) else((oJ r5.1 b x.2.1).bind fun r6=>(bif(!(decide (r6.2=(0:Int)))) then some (Sum.inl (dH,(r6.2,x.1,()),s)) else(bif(!(decide (r6.1.1=(0:Int)))) then((iS s r6.1.1 r6.1.2.1).bind fun r7=>K r7) else K s)))))) (fun s=>some (Sum.inr (dH,hJ,s)))
     (fun k i s=>RZ k x.2.1 (x.2.1.length:Int) i m b dH hJ s) (fun k i s=>rfl) (sI m.2.1 ((zq m.1 x.1).1,[],()))
    rw[h2,zaz m b hm hb _ _ _ (by omega) hx.q9]
    unfold N9
    cases BV m b x.2.1 (sI m.2.1 ((zq m.1 x.1).1,[],())) with
    |inl p=>obtain⟨f,o⟩:=p;rfl
    |inr o=>rfl
end bj

