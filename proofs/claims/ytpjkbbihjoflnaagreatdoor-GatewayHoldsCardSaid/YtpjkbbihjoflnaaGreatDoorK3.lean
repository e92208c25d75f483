/- No condition. -/
import Derived.Test.YtpjkbbihjoflnaaGreatDoorK2
import Derived.KernelRfl
import Derived.Laws.RangeString
set_option linter.unusedVariables false
set_option linter.unusedSimpArgs false
set_option maxRecDepth 100000
namespace bE
open Go.IntKind renaming wrap->zW,i64->zI,u8->zU
theorem zT{p:Prop}[Decidable p](h:p):decide p=true:=_root_.decide_eq_true h
theorem zF{p:Prop}[Decidable p](h:¬p):decide p=false:=_root_.decide_eq_false h
theorem zC{α:Type}{a b:α}:(bif true then a else b)=a:=rfl
theorem zD{α:Type}{a b:α}:(bif false then a else b)=b:=rfl
open Go Go.Ref
theorem zr:ai=18446744073709551616:=by unfold ai;rfl
theorem zh:maxLen=9223372036854775807:=rfl
theorem zj{x:Int}(h1: -9223372036854775808<=x)(h2:x<=9223372036854775807):zW zI x=x:=DI h1 h2
theorem xK{n:Nat}(h:n<=9223372036854775807):zW zI (n:Int)=n:=DI (by omega) (by omega)
theorem zu{j:Nat}(h:j<9223372036854775807):zW zI ((j:Int)+1)=((j+1:Nat):Int):=by
 rw[DI (by omega) (by omega)];rfl
theorem Nn(x:Int):IntKind.u64.wrap x=x % 18446744073709551616:=by
 simp [IntKind.wrap,IntKind.signed,IntKind.bits]
theorem z183(x:Int):zW zU x=x % 256:=by
 simp [IntKind.wrap,IntKind.signed,IntKind.bits]
theorem am5{x:Int}(h1:0<=x)(h2:x<18446744073709551616):IntKind.u64.wrap x=x:=by rw[Nn];omega
theorem uu{x:Int}(h1:0<=x)(h2:x<256):zW zU x=x:=by rw[z183];omega
theorem zk{R:Type}{j n:Nat}{x:Option R}(h:j<n):zd (j:Int) n x=x:=afZ h
theorem zm{R:Type}{i:Int}{n:Nat}{x:Option R}(h0:0<=i)(h:i<n):zd i n x=x:=by
 unfold zd
 rw[zT h0,zT h];rfl
theorem akO{R:Type}{p:Prop}[Decidable p](x y:R):(bif decide p then x else y)=if p then x else y:=by
 by_cases h:p<;>simp [h]
def bl(s:ByteArray):List Int:=s.data.toList.map fun b=>(b.toNat:Int)
theorem EH{a b:ByteArray}(h:bl a=bl b):a=b:=by
 apply ByteArray.ext
 apply Array.ext'
 unfold bl at h
 have:Function.Injective (fun b:UInt8=>(b.toNat:Int)):=fun x y Am=>UInt8.toNat_inj.1 (Int.ofNat.inj Am)
 exact(List.map_inj_right (fun x y h=>this h)).1 h
theorem Io{a b:ByteArray}:a=b↔bl a=bl b:=⟨fun h=>by rw[h],EH⟩
theorem zg(s:ByteArray):(bl s).length=s.size:=by unfold bl;rw[List.length_map];rfl
theorem xB(a b:ByteArray):bl (a++b)=bl a++bl b:=by simp [bl,ByteArray.data_append]
theorem uT(s:ByteArray)(i j:Nat):bl (s.extract i j)=((bl s).take j).drop i:=by
 unfold bl
 rw[ByteArray.data_extract,Array.toList_extract,List.extract_eq_drop_take',List.map_drop,List.map_take]
theorem me(s:ByteArray)(i:Nat):ze s i=(bl s).getD i 0:=by
 unfold ze bl
 split
 ·rename_i h
  have h':i<s.data.toList.length:=h
  rw[List.getD_eq_getElem?_getD,List.getElem?_map,List.getElem?_eq_getElem h']
  rfl
 ·rename_i h
  have h':s.data.toList.length<=i:=Nat.le_of_not_lt h
  rw[List.getD_eq_getElem?_getD,List.getElem?_eq_none (by simpa using h')]
  rfl
def zn(n:Int):Prop:=0<=n/\n<256
theorem lq{s:ByteArray}{x:Int}(h:x∈bl s):zn x:=by
 unfold bl at h
 obtain⟨b,_,rfl⟩:=List.mem_map.1 h
 have:=b.toNat_lt
 unfold zn
 omega
theorem uB{xs:List Int}(h:∀x∈xs,zn x):bl (strOf xs)=xs:=by
 simp only[bl,strOf,List.map_map]
 conv=>rhs;rw[<-List.map_id xs]
 apply List.map_congr_left
 intro x hx
 have:=h x hx
 unfold zn at this
 simp only[Function.comp,id]
 rw[UInt8.toNat_ofNat_of_lt' (by show x.toNat<256;omega)]
 omega
theorem D1(s:ByteArray):strOf (bl s)=s:=EH (uB fun x hx=>lq hx)
theorem zH{l:List Nat}(h:∀x∈l,x<256):bl (bs l)=l.map (fun n:Nat=>(n:Int)):=by
 simp only[bl,bs,List.map_map]
 apply List.map_congr_left
 intro x hx
 have:=h x hx
 simp only[Function.comp]
 rw[UInt8.toNat_ofNat_of_lt' (by show x<256;omega)]
theorem Lw:bl (bs [])=[]:=rfl
theorem zcz{s:ByteArray}:s=bs []↔bl s=[]:=by rw[Io,Lw]
theorem z28(xs:List Int):(strOf xs).size=xs.length:=by rw[<-zg];unfold bl strOf;simp
section
variable {α σ ρ:Type}
end
end bE
namespace bE
open Go.IntKind renaming wrap->zW,i64->zI,u8->zU
open Go Go.Ref
section
variable {α σ ρ:Type}
def bm(g:Int->α->σ->(σ->Option ρ)->Option ρ)(fin:σ->Option ρ):List α->Int->σ->Option ρ
 | [],_,s=>fin s
 |x::r,i,s=>g i x s fun s'=>bm g fin r (i+1) s'
theorem NP(d:α)(xs:List α)(hlen:xs.length<=9223372036854775807)(g:Int->α->σ->(σ->Option ρ)->Option ρ)(fin:σ->Option ρ)(L:Nat->Int->σ->Option ρ)
 (step:∀k (i:Int) s,L (k+1) i s=bif decide (i<(xs.length:Int)) then zd i xs.length (g i (xs.getD i.toNat d) s fun s'=>L k (zW zI (i+1)) s') else fin s):
 ∀(m j k:Nat) (s:σ),j+m=xs.length->m<k->L k j s=bm g fin (xs.drop j) j s
 |0,j,k,s,hj,hk=>by
  obtain⟨k,rfl⟩:∃k',k=k'+1:=⟨k-1,by omega⟩
  rw[step,zF (by omega),List.drop_eq_nil_of_le (by omega)];rfl
 |m+1,j,k,s,hj,hk=>by
  obtain⟨k,rfl⟩:∃k',k=k'+1:=⟨k-1,by omega⟩
  have ar:j<xs.length:=by omega
  rw[step,zT (by omega),zC,zk ar,List.drop_eq_getElem_cons ar,bm]
  have hx:xs.getD ((j:Int)).toNat d=xs[j]:=by rw[Int.toNat_natCast,List.getD_eq_getElem?_getD,List.getElem?_eq_getElem ar];rfl
  rw[hx]
  congr 1
  funext s'
  rw[zu (by omega),NP d xs hlen g fin L step m (j+1) k s' (by omega) (by omega)]
  rfl
theorem ct(d:α)(xs:List α)(hlen:xs.length<=maxLen)(g:Int->α->σ->(σ->Option ρ)->Option ρ)(fin:σ->Option ρ)(L:Nat->Int->σ->Option ρ)
 (step:∀k (i:Int) s,L (k+1) i s=bif decide (i<(xs.length:Int)) then zd i xs.length (g i (xs.getD i.toNat d) s fun s'=>L k (zW zI (i+1)) s') else fin s) (s:σ):L ai 0 s=bm g fin xs 0 s:=by
 rw[zh] at hlen
 have:=NP d xs hlen g fin L step xs.length 0 ai s (by omega) (by rw[zr];omega)
 rw[List.drop_zero] at this
 exact this
theorem NQ(d:α)(xs:List α)(hlen:xs.length<=9223372036854775807)(g:Int->α->σ->(σ->Option ρ)->Option ρ)(fin:σ->Option ρ)(L:Nat->Int->σ->Option ρ)
 (step:∀k (i:Int) s,0<=i->i<(xs.length:Int)->L (k+1) i s=g i (xs.getD i.toNat d) s fun s'=>L k (zW zI (i+1)) s') (stop:∀k s,L (k+1) (xs.length:Int) s=fin s):
 ∀(m j k:Nat) (s:σ),j+m=xs.length->m<k->L k j s=bm g fin (xs.drop j) j s
 |0,j,k,s,hj,hk=>by
  obtain⟨k,rfl⟩:∃k',k=k'+1:=⟨k-1,by omega⟩
  have:j=xs.length:=by omega
  subst this
  rw[stop,List.drop_length];rfl
 |m+1,j,k,s,hj,hk=>by
  obtain⟨k,rfl⟩:∃k',k=k'+1:=⟨k-1,by omega⟩
  have ar:j<xs.length:=by omega
  rw[step k j s (by omega) (by omega),List.drop_eq_getElem_cons ar,bm]
  have hx:xs.getD ((j:Int)).toNat d=xs[j]:=by rw[Int.toNat_natCast,List.getD_eq_getElem?_getD,List.getElem?_eq_getElem ar];rfl
  rw[hx]
  congr 1
  funext s'
  rw[zu (by omega),NQ d xs hlen g fin L step stop m (j+1) k s' (by omega) (by omega)]
  rfl
theorem m5(d:α)(xs:List α)(hlen:xs.length<=maxLen)(g:Int->α->σ->(σ->Option ρ)->Option ρ)(fin:σ->Option ρ)(L:Nat->Int->σ->Option ρ)
 (step:∀k (i:Int) s,0<=i->i<(xs.length:Int)->L (k+1) i s=g i (xs.getD i.toNat d) s fun s'=>L k (zW zI (i+1)) s') (stop:∀k s,L (k+1) (xs.length:Int) s=fin s) (s:σ):L ai 0 s=bm g fin xs 0 s:=by
 rw[zh] at hlen
 have:=NQ d xs hlen g fin L step stop xs.length 0 ai s (by omega) (by rw[zr];omega)
 rw[List.drop_zero] at this
 exact this
end
end bE

namespace bE
open Go.IntKind renaming wrap->zW,i64->zI,u8->zU
open Go Go.Ref
theorem AF(n a:Nat)(h:a<2^n):(BitVec.ofInt n (a:Int)).toNat=a:=by
 rw[BitVec.toNat_ofInt]
 have h2:((a:Int)% ((2^n:Nat):Int))=((a % 2^n:Nat):Int):=by rfl
 rw[h2,Int.toNat_natCast,Nat.mod_eq_of_lt h]
theorem FQ{a:Nat}(h:a<18446744073709551616):IntKind.u64.wrap (a:Int)=a:=am5 (by omega) (by omega)
theorem mH{a b:Nat}(ha:a<18446744073709551616)(hb:b<18446744073709551616):aP .and .u64 a b=((a&&&b:Nat):Int):=by
 simp only[aP,BitVec.toNat_and,AF IntKind.u64.bits a ha,AF IntKind.u64.bits b hb]
 exact FQ (Nat.lt_of_le_of_lt Nat.and_le_left ha)
theorem xc{a b:Nat}(ha:a<18446744073709551616)(hb:b<18446744073709551616):aP .or .u64 a b=((a|||b:Nat):Int):=by
 simp only[aP,BitVec.toNat_or,AF IntKind.u64.bits a ha,AF IntKind.u64.bits b hb]
 exact FQ (Nat.or_lt_two_pow (n:=64) ha hb)
theorem ahT{a b:Nat}(ha:a<18446744073709551616)(hb:b<18446744073709551616):aP .andNot .u64 a b=((a&&&(18446744073709551615-b):Nat):Int):=by
 simp only[aP,BitVec.toNat_and,BitVec.toNat_not,AF IntKind.u64.bits a ha,AF IntKind.u64.bits b hb]
 have:2^IntKind.u64.bits-1-b=18446744073709551615-b:=rfl
 rw[this]
 exact FQ (Nat.lt_of_le_of_lt Nat.and_le_left ha)
theorem akL{a b:Nat}(ha:a<9223372036854775808)(hb:b<9223372036854775808):aP .and .i64 a b=((a&&&b:Nat):Int):=by
 simp only[aP,BitVec.toNat_and,AF IntKind.i64.bits a (Nat.lt_trans ha (by decide)),AF IntKind.i64.bits b (Nat.lt_trans hb (by decide))]
 have:=Nat.lt_of_le_of_lt (Nat.and_le_left (n:=a) (m:=b)) ha
 exact xK (by omega)
theorem Oo(a:Nat)(k:Nat)(hk:k<=64):Int.fdiv (a:Int) (2^min ((k:Int)).toNat 64)=((a/2^k:Nat):Int):=by
 rw[Int.fdiv_eq_ediv_of_nonneg _ (Int.pow_nonneg (by decide)),Int.toNat_natCast,Nat.min_eq_left hk]
 rfl
section
variable {c0 c1 c2 c3 c4 c5 c6 c7:Nat}
end
def zz(x:Nat):Nat:=if x=0 then 0 else x.log2+1
theorem QL(x:Nat):x<2^zz x/\(x≠0->2^(zz x-1)<=x/\1<=zz x):=by
 unfold zz
 split
 ·simp_all
 ·rename_i h
  exact⟨Nat.lt_log2_self,fun _=>⟨by simpa using Nat.log2_self_le h,by omega⟩⟩
theorem aae{x L:Nat}(h1:x<2^L)(h2:L≠0->2^(L-1)<=x):zz x=L:=by
 obtain⟨g1,g2⟩:=QL x
 by_cases hx:x=0
 ·subst hx
  by_cases hL:L=0
  ·rw[hL];rfl
  ·have:=h2 hL
   have:=Nat.two_pow_pos (L-1)
   omega
 ·obtain⟨g3,g4⟩:=g2 hx
  rcases Nat.lt_trichotomy (zz x) L with h|h|h
  ·have:=h2 (by omega)
   have:2^zz x<=2^(L-1):=Nat.pow_le_pow_right (by decide) (by omega)
   omega
  ·exact h
  ·have:2^L<=2^(zz x-1):=Nat.pow_le_pow_right (by decide) (by omega)
   omega
theorem z93{x k:Nat}(h:2^k<=x):zz x=zz (x/2^k)+k:=by
 have hp:=Nat.two_pow_pos k
 have hq:x/2^k≠0:=by
  have:=Nat.div_pos h hp
  omega
 obtain⟨g1,g2⟩:=QL (x/2^k)
 obtain⟨g3,g4⟩:=g2 hq
 apply aae
 ·rw[Nat.pow_add]
  exact(Nat.div_lt_iff_lt_mul hp).1 g1
 ·intro _
  have:zz (x/2^k)+k-1=(zz (x/2^k)-1)+k:=by omega
  rw[this,Nat.pow_add]
  exact(Nat.le_div_iff_mul_le hp).1 g3
def lu:List Nat:=[0,1,2,2,3,3,3,3,4,4,4,4,4,4,4,4,5,5,5,5,5,5,5,5,5,5,5,5,5,5,5,5]++List.replicate 32 6++List.replicate 64 7++List.replicate 128 8
theorem ai6:∀c:Fin 256,lu.getD c.1 0=zz c.1:=by decide+kernel
def Ap(x:Int):Option Int:=
 let t:Int->Int->Option Int:=fun n x=>zd (zW zU x) (bs lu).size (some (zW zI (n+zW zI (ze (bs lu) (zW zU x).toNat))))
 let c:Int->Int->Option Int:=fun n x=>bif decide ((256:Int)<=x) then t (zW zI (n+8)) (Int.fdiv x (2^min ((8:Int)).toNat 64)) else t n x
 let b:Int->Int->Option Int:=fun n x=>bif decide ((65536:Int)<=x) then c (zW zI (n+16)) (Int.fdiv x (2^min ((16:Int)).toNat 64)) else c n x
 bif decide ((4294967296:Int)<=x) then b 32 (Int.fdiv x (2^min ((32:Int)).toNat 64)) else b 0 x
theorem aaJ(x:Int):sA x=Ap x:=by kernel_rfl
theorem ae3(c:Nat)(h:c<256):ze (bs lu) c=((zz c:Nat):Int):=by
 rw[me,zH (by decide+kernel),<-ai6 ⟨c,h⟩,List.getD_eq_getElem?_getD,List.getElem?_map,List.getD_eq_getElem?_getD]
 cases lu[c]? <;>rfl
theorem J7{x k:Nat}(h:x<2^k):zz x<=k:=by
 by_cases hx:x=0
 ·subst hx;simp [zz]
 ·obtain⟨g3,g4⟩:=(QL x).2 hx
  rcases Nat.lt_or_ge k (zz x) with h1|h1
  ·have:2^k<=2^(zz x-1):=Nat.pow_le_pow_right (by decide) (by omega)
   omega
  ·exact h1
theorem af7(x:Nat)(hx:x<18446744073709551616):sA x=some ((zz x:Nat):Int):=by
 rw[aaJ]
 unfold Ap
 simp only
 have ht:∀(n:Nat) (c:Nat),n<=100->c<256->zd (zW zU (c:Int)) (bs lu).size (some (zW zI ((n:Int)+zW zI (ze (bs lu) (zW zU (c:Int)).toNat))))=some (((n+zz c:Nat):Int)):=by
  intro n c hn hc
  have hl:(bs lu).size=256:=by rw[<-zg,zH (by decide+kernel)];rfl
  have hb:=J7 (k:=8) hc
  rw[uu (by omega) (by omega),hl,zk hc,Int.toNat_natCast,ae3 c hc,xK (by omega),zj (by omega) (by omega)]
  rfl
 have f8:∀a:Nat,Int.fdiv (a:Int) (2^min ((8:Int)).toNat 64)=((a/2^8:Nat):Int):=fun a=>Oo a 8 (by omega)
 have f16:∀a:Nat,Int.fdiv (a:Int) (2^min ((16:Int)).toNat 64)=((a/2^16:Nat):Int):=fun a=>Oo a 16 (by omega)
 have f32:∀a:Nat,Int.fdiv (a:Int) (2^min ((32:Int)).toNat 64)=((a/2^32:Nat):Int):=fun a=>Oo a 32 (by omega)
 have hc:∀(n:Nat) (y:Nat),n<=48->y<65536->(bif decide ((256:Int)<=(y:Int)) then zd (zW zU (Int.fdiv (y:Int) (2^min ((8:Int)).toNat 64))) (bs lu).size (some (zW zI (zW zI ((n:Int)+8)+zW zI (ze (bs lu) (zW zU (Int.fdiv (y:Int) (2^min ((8:Int)).toNat 64))).toNat)))) else zd (zW zU (y:Int)) (bs lu).size (some (zW zI ((n:Int)+zW zI (ze (bs lu) (zW zU (y:Int)).toNat)))))=some (((n+zz y:Nat):Int)):=by
  intro n y hn hy
  by_cases h:256<=y
  ·rw[zT (by omega),zC,f8,zj (x:=(n:Int)+8) (by omega) (by omega)]
   have:=ht (n+8) (y/2^8) (by omega) (by omega)
   rw[show((n:Int)+8)=((n+8:Nat):Int) from rfl,this,z93 (k:=8) h]
   congr 2;omega
  ·rw[zF (by omega),zD]
   exact ht n y (by omega) (by omega)
 have hb:∀(n:Nat) (y:Nat),n<=32->y<4294967296->(bif decide ((65536:Int)<=(y:Int)) then(bif decide ((256:Int)<=Int.fdiv (y:Int) (2^min ((16:Int)).toNat 64)) then zd (zW zU (Int.fdiv (Int.fdiv (y:Int) (2^min ((16:Int)).toNat 64)) (2^min ((8:Int)).toNat 64))) (bs lu).size (some (zW zI (zW zI (zW zI ((n:Int)+16)+8)+zW zI (ze (bs lu) (zW zU (Int.fdiv (Int.fdiv (y:Int) (2^min ((16:Int)).toNat 64)) (2^min ((8:Int)).toNat 64))).toNat)))) else zd (zW zU (Int.fdiv (y:Int) (2^min ((16:Int)).toNat 64))) (bs lu).size (some (zW zI (zW zI ((n:Int)+16)+zW zI (ze (bs lu) (zW zU (Int.fdiv (y:Int) (2^min ((16:Int)).toNat 64))).toNat))))) else
  (bif decide ((256:Int)<=(y:Int)) then zd (zW zU (Int.fdiv (y:Int) (2^min ((8:Int)).toNat 64))) (bs lu).size (some (zW zI (zW zI ((n:Int)+8)+zW zI (ze (bs lu) (zW zU (Int.fdiv (y:Int) (2^min ((8:Int)).toNat 64))).toNat)))) else zd (zW zU (y:Int)) (bs lu).size (some (zW zI ((n:Int)+zW zI (ze (bs lu) (zW zU (y:Int)).toNat))))))=some (((n+zz y:Nat):Int)):=by
  intro n y hn hy
  by_cases h:65536<=y
  ·rw[zT (by omega),zC,f16,zj (x:=(n:Int)+16) (by omega) (by omega)]
   have:=hc (n+16) (y/2^16) (by omega) (by omega)
   rw[show((n:Int)+16)=((n+16:Nat):Int) from rfl,this,z93 (k:=16) h]
   congr 2;omega
  ·rw[zF (by omega),zD]
   exact hc n y (by omega) (by omega)
 by_cases h:4294967296<=x
 ·rw[zT (by omega),zC,f32]
  have:=hb 32 (x/2^32) (by omega) (by omega)
  rw[show((32:Nat):Int)=32 from rfl] at this
  rw[this,z93 (k:=32) h]
  congr 2;omega
 ·rw[zF (by omega),zD]
  have:=hb 0 x (by omega) (by omega)
  rw[show((0:Nat):Int)=0 from rfl] at this
  rw[this]
  congr 2;omega
theorem z9m(x:Nat)(hx:x<18446744073709551616):mu x=some (((64-zz x:Nat)):Int):=by
 unfold mu SF
 have:=J7 (k:=64) hx
 rw[af7 x hx,zc,zj (by omega) (by omega)]
 congr 1;omega
end bE

namespace bE
open Go.IntKind renaming wrap->zW,i64->zI,u8->zU
open Go Go.Ref
abbrev vg:=Int×Int×Unit
abbrev c8:Nat:=18446744073709551616
def b6(h l:Nat)(n:Int):Bool:=
 if 1<=n/\n<=64 then h.testBit (64-n).toNat else if 65<=n/\n<=128 then l.testBit (128-n).toNat else false
def iw(n:Int):Nat:=if 1<=n/\n<=64 then 2^(64-n).toNat else 0
def ix(n:Int):Nat:=if 65<=n/\n<=128 then 2^(128-n).toNat else 0
theorem zq2{k:Nat}(h:k<64):2^k<c8:=Nat.pow_lt_pow_right (by decide) h
theorem Uo(n:Int):iw n<c8:=by
 unfold iw;split
 ·exact zq2 (by omega)
 ·decide
theorem Up(n:Int):ix n<c8:=by
 unfold ix;split
 ·exact zq2 (by omega)
 ·decide
theorem Nj{k:Nat}(h:k<64):IntKind.u64.wrap ((1:Int)*2^min k 64)=((2^k:Nat):Int):=by
 rw[Nat.min_eq_left (by omega),Int.one_mul]
 have:=zq2 h
 have e:((2:Int)^k)=((2^k:Nat):Int):=by simp
 rw[e]
 exact FQ this
theorem NH(n:Int):EO n=some ((iw n:Int),(ix n:Int),()):=by
 unfold EO VJ iw ix
 by_cases h1:n<1
 ·rw[zT h1,if_neg (by omega),if_neg (by omega)];rfl
 rw[zF h1,zD]
 by_cases h2:128<n
 ·rw[zT h2,if_neg (by omega),if_neg (by omega)];rfl
 rw[zF h2,zD]
 by_cases h3:n<=64
 ·rw[zT h3,zC,zj (by omega) (by omega),zF (by omega),zD,Nj (by omega),if_pos (by omega),if_neg (by omega)];rfl
 ·rw[zF h3,zD,zj (by omega) (by omega),zF (by omega),zD,Nj (by omega),if_neg (by omega),if_pos (by omega)];rfl
theorem z90(h k:Nat):(h&&&2^k=0)↔h.testBit k=false:=by
 constructor
 ·intro e
  have:=congrArg (fun x=>x.testBit k) e
  simpa [Nat.testBit_and,Nat.testBit_two_pow] using this
 ·intro e
  apply Nat.eq_of_testBit_eq
  intro i
  rw[Nat.testBit_and,Nat.testBit_two_pow]
  by_cases hi:k=i
  ·subst hi;simp [e]
  ·simp [hi]
theorem aly(h l:Nat)(hh:h<c8)(hl:l<c8)(n:Int):GC ((h:Int),(l:Int),()) n=some (b6 h l n):=by
 unfold GC VG rE Py
 rw[NH,zc,mH hh (Uo n),mH hl (Up n),zc]
 congr 1
 simp only[Bool.and_true]
 have e:∀a:Nat,decide ((a:Int)=0)=decide (a=0):=fun a=>decide_eq_decide.2 (by omega)
 rw[e,e]
 unfold iw ix b6
 by_cases h1:1<=n/\n<=64
 ·rw[if_pos h1,if_pos h1,if_neg (by omega)]
  have:=z90 h (64-n).toNat
  cases hb:h.testBit (64-n).toNat with
  |false=>simp [this.2 hb]
  |true=>simp;intro hz;exact absurd (this.1 hz) (by simp [hb])
 ·rw[if_neg h1,if_neg h1]
  by_cases h2:65<=n/\n<=128
  ·rw[if_pos h2,if_pos h2]
   have:=z90 l (128-n).toNat
   cases hb:l.testBit (128-n).toNat with
   |false=>simp [this.2 hb]
   |true=>simp;intro hz;exact absurd (this.1 hz) (by simp [hb])
  ·rw[if_neg h2,if_neg h2];simp
theorem zdl(h l h' l':Nat)(hh:h<c8)(hl:l<c8)(BM:h'<c8)(ky:l'<c8):sY ((h:Int),(l:Int),()) ((h':Int),(l':Int),())=some (((h|||h':Nat):Int),((l|||l':Nat):Int),()):=by
 unfold sY VF
 rw[xc hh BM,xc hl ky]
theorem z198(h l h' l':Nat)(hh:h<c8)(hl:l<c8)(BM:h'<c8)(ky:l'<c8):rE ((h:Int),(l:Int),()) ((h':Int),(l':Int),())=some (((h&&&h':Nat):Int),((l&&&l':Nat):Int),()):=by
 unfold rE Py
 rw[mH hh BM,mH hl ky]
theorem ML(h l:Nat)(hh:h<c8)(hl:l<c8)(n:Int):x5 ((h:Int),(l:Int),()) n=some (((h|||iw n:Nat):Int),((l|||ix n:Nat):Int),()):=by
 unfold x5 VI
 rw[NH,zc,zdl h l _ _ hh hl (Uo n) (Up n)];rfl
theorem ua{a b:Nat}(ha:a<c8)(hb:b<c8):a|||b<c8:=Nat.or_lt_two_pow (n:=64) ha hb
theorem ND{a b:Nat}(ha:a<c8):a&&&b<c8:=Nat.lt_of_le_of_lt Nat.and_le_left ha
theorem amZ(h l h' l':Nat)(n:Int):b6 (h|||h') (l|||l') n=(b6 h l n||b6 h' l' n):=by
 unfold b6;split
 ·rw[Nat.testBit_or]
 ·split
  ·rw[Nat.testBit_or]
  ·rfl
theorem MX(h l h' l':Nat)(n:Int):b6 (h&&&h') (l&&&l') n=(b6 h l n&&b6 h' l' n):=by
 unfold b6;split
 ·rw[Nat.testBit_and]
 ·split
  ·rw[Nat.testBit_and]
  ·rfl
def ju(n:Int):Bool:=decide (1<=n/\n<=128)
theorem ak8(m n:Int):b6 (iw m) (ix m) n=(decide (m=n)&&ju n):=by
 unfold b6 iw ix ju
 by_cases h1:1<=n/\n<=64
 ·rw[if_pos h1]
  by_cases h2:1<=m/\m<=64
  ·rw[if_pos h2,Nat.testBit_two_pow,zT (p:=1<=n/\n<=128) (by omega),Bool.and_true]
   exact decide_eq_decide.2 (by omega)
  ·rw[if_neg h2,zF (by omega:¬m=n)];simp
 ·rw[if_neg h1]
  by_cases h3:65<=n/\n<=128
  ·rw[if_pos h3]
   by_cases h2:65<=m/\m<=128
   ·rw[if_pos h2,Nat.testBit_two_pow,zT (p:=1<=n/\n<=128) (by omega),Bool.and_true]
    exact decide_eq_decide.2 (by omega)
   ·rw[if_neg h2,zF (by omega:¬m=n)];simp
  ·rw[if_neg h3,zF (p:=1<=n/\n<=128) (by omega),Bool.and_false]
theorem aiw(h l:Nat)(m n:Int):b6 (h|||iw m) (l|||ix m) n=(b6 h l n||(decide (m=n)&&ju n)):=by rw[amZ,ak8]
theorem zhn{h l:Nat}{n:Int}(hh:b6 h l n=true):1<=n/\n<=128:=by
 unfold b6 at hh
 split at hh
 ·omega
 ·split at hh
  ·omega
  ·cases hh
theorem alq{h l h' l':Nat}(hh:h<c8)(hl:l<c8)(BM:h'<c8)(ky:l'<c8)(e:∀n:Int,1<=n->n<=128->b6 h l n=b6 h' l' n):h=h'/\l=l':=by
 constructor
 ·apply Nat.eq_of_testBit_eq
  intro i
  by_cases hi:i<64
  ·have:=e (64-i) (by omega) (by omega)
   unfold b6 at this
   rw[if_pos (by omega),if_pos (by omega)] at this
   have e2:(64-(64-(i:Int))).toNat=i:=by omega
   rwa [e2] at this
  ·rw[Nat.testBit_lt_two_pow (Nat.lt_of_lt_of_le hh (Nat.pow_le_pow_right (n:=2) (by decide) (by omega:64<=i))),Nat.testBit_lt_two_pow (Nat.lt_of_lt_of_le BM (Nat.pow_le_pow_right (n:=2) (by decide) (by omega:64<=i)))]
 ·apply Nat.eq_of_testBit_eq
  intro i
  by_cases hi:i<64
  ·have:=e (128-i) (by omega) (by omega)
   unfold b6 at this
   have h1:¬(1<=128-(i:Int)/\128-(i:Int)<=64):=by omega
   have h2:65<=128-(i:Int)/\128-(i:Int)<=128:=by omega
   rw[if_neg h1,if_pos h2,if_neg h1,if_pos h2] at this
   have e2:(128-(128-(i:Int))).toNat=i:=by omega
   rwa [e2] at this
  ·rw[Nat.testBit_lt_two_pow (Nat.lt_of_lt_of_le hl (Nat.pow_le_pow_right (n:=2) (by decide) (by omega:64<=i))),Nat.testBit_lt_two_pow (Nat.lt_of_lt_of_le ky (Nat.pow_le_pow_right (n:=2) (by decide) (by omega:64<=i)))]
def dB(l:List Int):Nat:=l.foldl (fun a n=>a|||iw n) 0
def dC(l:List Int):Nat:=l.foldl (fun a n=>a|||ix n) 0
theorem zuc(f:Int->Nat)(hf:∀n,f n<c8)(l:List Int):∀a,a<c8->l.foldl (fun a n=>a|||f n) a<c8:=by
 induction l with
 |nil=>intro a h;exact h
 |cons x r ih=>intro a h;exact ih _ (ua h (hf x))
theorem uD(l:List Int):dB l<c8:=zuc _ Uo l 0 (by decide)
theorem uE(l:List Int):dC l<c8:=zuc _ Up l 0 (by decide)
theorem aiq(l:List Int):∀(a b:Nat) (n:Int),b6 (l.foldl (fun a n=>a|||iw n) a) (l.foldl (fun a n=>a|||ix n) b) n=(b6 a b n||(decide (n∈l)&&ju n)):=by
 induction l with
 |nil=>intro a b n;simp
 |cons x r ih=>
  intro a b n
  rw[List.foldl_cons,List.foldl_cons,ih,aiw]
  by_cases h1:x=n
  ·subst h1;cases ju x<;>simp
  ·have:n≠x:=fun e=>h1 e.symm
   simp [h1,this]
theorem Ux(l:List Int)(n:Int):b6 (dB l) (dC l) n=(decide (n∈l)&&ju n):=by
 unfold dB dC
 rw[aiq]
 have:b6 0 0 n=false:=by unfold b6;simp
 rw[this];simp
theorem alg(xs:List Int)(hx:xs.length<=9223372036854775807)(b0:vg):∀(n j k:Nat) (a b:Nat),j+n=xs.length->n<k->a<c8->b<c8->
 AU k xs (xs.length:Int) j b0 ((a:Int),(b:Int),())=some (b0,((((xs.drop j).foldl (fun a n=>a|||iw n) a:Nat):Int),(((xs.drop j).foldl (fun a n=>a|||ix n) b:Nat):Int),())):=by
 intro n
 induction n with
 |zero=>
  intro j k a b hj hk ha hb
  obtain⟨k,rfl⟩:∃k',k=k'+1:=⟨k-1,by omega⟩
  rw[AU,Px,zF (by omega),List.drop_eq_nil_of_le (by omega)];rfl
 |succ n ih=>
  intro j k a b hj hk ha hb
  obtain⟨k,rfl⟩:∃k',k=k'+1:=⟨k-1,by omega⟩
  have ar:j<xs.length:=by omega
  have Jl:xs.getD ((j:Int)).toNat 0=xs[j]:=by rw[Int.toNat_natCast,List.getD_eq_getElem?_getD,List.getElem?_eq_getElem ar];rfl
  rw[AU,Px,zT (by omega),zC,zk ar,Jl,ML a b ha hb,zc,zu (by omega),ih (j+1) k _ _ (by omega) (by omega) (ua ha (Uo _)) (ua hb (Up _)),List.drop_eq_getElem_cons ar]
  rfl
theorem xW(xs:List Int)(hx:xs.length<=maxLen):uG xs=some ((dB xs:Int),(dC xs:Int),()):=by
 rw[zh] at hx
 unfold uG VD
 have:=alg xs hx (0,0,()) xs.length 0 ai 0 0 (by omega) (by rw[zr];omega) (by decide) (by decide)
 simp only[VE]
 have e:AU ai xs (xs.length:Int) 0 (0,0,()) (0,0,())=_:=this
 rw[e];rfl
def oe:List Int:=(List.range 128).map fun k:Nat=>((k+1:Nat):Int)
theorem aiM(n:Int):n∈oe↔1<=n/\n<=128:=by
 unfold oe
 constructor
 ·intro h
  obtain⟨k,hk,rfl⟩:=List.mem_map.1 h
  have:=List.mem_range.1 hk
  omega
 ·intro h
  exact List.mem_map.2 ⟨(n-1).toNat,List.mem_range.2 (by omega),by omega⟩
theorem z193:oe.Pairwise (· < ·):=by
 unfold oe
 exact List.Pairwise.map _ (fun a b h=>by omega) List.pairwise_lt_range
def elems(h l:Nat):List Int:=oe.filter (b6 h l)
theorem Oi(h l:Nat)(n:Int):n∈elems h l↔b6 h l n=true:=by
 unfold elems
 rw[List.mem_filter,aiM]
 exact⟨fun h=>h.2,fun h=>⟨zhn h,h⟩⟩
theorem zhe(h l:Nat):(elems h l).Pairwise (· < ·):=z193.filter _
def ib(h l:Nat)(n:Int):Int:=((elems h l).filter fun m=>decide (n<m)).headD 0
def UE(h l:Nat)(n r:Int):Prop:=(r=0/\∀m,n<m->b6 h l m=false)\/(n<r/\b6 h l r=true/\∀m,n<m->m<r->b6 h l m=false)
theorem aiO(h l:Nat)(n:Int):UE h l n (ib h l n):=by
 unfold ib
 cases hf:(elems h l).filter fun m=>decide (n<m) with
 |nil=>
  left
  refine⟨rfl,fun m hm=> ?_⟩
  cases hb:b6 h l m with
  |false=>rfl
  |true=>
   have:m∈(elems h l).filter fun m=>decide (n<m):=List.mem_filter.2 ⟨(Oi h l m).2 hb,by simpa using hm⟩
   rw[hf] at this;cases this
 |cons x r=>
  right
  have hx:x∈(elems h l).filter fun m=>decide (n<m):=by rw[hf];simp
  obtain⟨h1,h2⟩:=List.mem_filter.1 hx
  refine⟨by simpa using h2,(Oi h l x).1 h1,fun m hm hmx=> ?_⟩
  cases hb:b6 h l m with
  |false=>rfl
  |true=>
   have cC:m∈(elems h l).filter fun m=>decide (n<m):=List.mem_filter.2 ⟨(Oi h l m).2 hb,by simpa using hm⟩
   have hs:=(zhe h l).filter (fun m=>decide (n<m))
   rw[hf] at cC hs
   rcases List.mem_cons.1 cC with e|e
   ·simp only[List.headD_cons] at hmx;omega
   ·have:=(List.pairwise_cons.1 hs).1 m e
    simp only[List.headD_cons] at hmx;omega
theorem aak{h l:Nat}{n r q:Int}(h1:UE h l n r)(h2:UE h l n q):r=q:=by
 rcases h1 with⟨e,a⟩|⟨e,a,b⟩<;>rcases h2 with⟨e',a'⟩|⟨e',a',b'⟩
 ·rw[e,e']
 ·rw[a q e'] at a';cases a'
 ·rw[a' r e] at a;cases a
 ·rcases Int.lt_trichotomy r q with h|h|h
  ·rw[b' r e h] at a;cases a
  ·exact h
  ·rw[b q e' h] at a';cases a'
theorem Li(x n:Nat)(hx:x<c8)(hn:n<=64):
 (x*2^n % c8=0/\∀i,i<64-n->x.testBit i=false)\/
 (x*2^n % c8≠0/\zz (x*2^n % c8)<=64/\n<zz (x*2^n % c8)/\x.testBit (zz (x*2^n % c8)-1-n)=true/\∀i,zz (x*2^n % c8)-1-n<i->i<64-n->x.testBit i=false):=by
 have hb:∀i,(x*2^n % c8).testBit i=(decide (i<64)&&(decide (n<=i)&&x.testBit (i-n))):=by
  intro i
  rw[show c8=2^64 from rfl,Nat.testBit_mod_two_pow,Nat.testBit_mul_two_pow]
 generalize x*2^n % c8=r at hb
 have hr:∀i,i<64-n->x.testBit i=r.testBit (i+n):=by
  intro i hi
  rw[hb,zT (by omega),zT (by omega),Nat.add_sub_cancel];rfl
 by_cases h0:r=0
 ·left
  refine⟨h0,fun i hi=> ?_⟩
  rw[hr i hi,h0];simp
 ·right
  obtain⟨g1,g2⟩:=QL r
  obtain⟨g3,g4⟩:=g2 h0
  have Yf:r.testBit (zz r-1)=true:=by
   rw[Nat.testBit_eq_decide_div_mod_eq]
   have hp:=Nat.two_pow_pos (zz r-1)
   have:r/2^(zz r-1)=1:=by
    apply Nat.div_eq_of_lt_le
    ·omega
    ·have:2^zz r=2*2^(zz r-1):=by
      rw[<-Nat.pow_succ'];congr 1;omega
     omega
   rw[this];rfl
  have ar:=Yf
  rw[hb] at ar
  simp only[Bool.and_eq_true,decide_eq_true_eq] at ar
  refine⟨h0,by omega,by omega,?_,fun i h1 h2=> ?_⟩
  ·exact ar.2.2
  ·rw[hr i h2]
   exact Nat.testBit_lt_two_pow (Nat.lt_of_lt_of_le g1 (Nat.pow_le_pow_right (by decide) (by omega)))
theorem Ni(x n:Nat)(hn:n<=64):IntKind.u64.wrap ((x:Int)*2^min ((n:Int)).toNat 64)=((x*2^n % c8:Nat):Int):=by
 rw[Nn,Int.toNat_natCast,Nat.min_eq_left hn]
 have e:((x:Int)*2^n)=((x*2^n:Nat):Int):=by simp
 rw[e];rfl
theorem Mn(h l:Nat)(hh:h<c8)(hl:l<c8)(n:Int)(hn1: -9223372036854775808<=n)(hn2:n<=9223372036854775807):EN ((h:Int),(l:Int),()) n=some (ib h l n):=by
 have goal:∀r,UE h l n r->some r=some (ib h l n):=fun r hr=>by rw[aak hr (aiO h l n)]
 unfold EN VH
 obtain⟨m,hm,hmn⟩:∃m:Nat,(if n<(0:Int) then(0:Int) else n)=(m:Int)/\(n<=(m:Int)/\(0<=n->n=m)/\(n<0->m=0)):=by
  by_cases h0:n<0
  ·exact⟨0,by rw[if_pos h0];rfl,by omega,by omega,by omega⟩
  ·exact⟨n.toNat,by rw[if_neg h0];omega,by omega,by omega,by omega⟩
 have lP:∀k:Int,k<=0->b6 h l k=false:=fun k hk=>by unfold b6;rw[if_neg (by omega),if_neg (by omega)]
 have low:∀(km base:Nat),km<=64->(km<64->base=64+km)->(km=64->128<=base)->(m:Int)<=base->base<=9223372036854775807->(∀k,n<k->k<=base->k<=128->b6 h l k=false)->
  (bif !(decide (IntKind.u64.wrap ((l:Int)*2^min ((km:Int)).toNat 64)=0)) then(mu (IntKind.u64.wrap ((l:Int)*2^min ((km:Int)).toNat 64))).bind (fun r=>some (zW zI (zW zI ((base:Int)+r)+1))) else some 0)=some (ib h l n):=by
  intro km base h1 h2 h2' h3 ane h4
  rw[Ni l km h1]
  have ar:l*2^km % c8<c8:=Nat.mod_lt _ (by decide)
  rcases Li l km hl h1 with⟨e,w⟩|⟨e,w1,w2,w3,w4⟩
  ·rw[e,zT (by rfl)]
   refine goal 0 (.inl ⟨rfl,fun k hk=> ?_⟩)
   by_cases BP:k<=base/\k<=128
   ·exact h4 k hk BP.1 BP.2
   ·unfold b6
    by_cases E5:65<=k/\k<=128
    ·rw[if_neg (by omega),if_pos E5]
     exact w _ (by omega)
    ·by_cases hk4:1<=k/\k<=64
     ·omega
     ·rw[if_neg hk4,if_neg E5]
  ·have Yb:km<64:=by omega
   have am8:=h2 Yb
   rw[zF (by omega)]
   simp only[Bool.not_false,zC]
   rw[z9m _ ar,zc,zj (x:=(base:Int)+_) (by omega) (by omega),zj (by omega) (by omega)]
   refine goal _ (.inr ⟨by omega,?_,fun k Qm BP=> ?_⟩)
   ·unfold b6
    rw[if_neg (by omega),if_pos (by omega)]
    have:(128-((base:Int)+((64-zz (l*2^km % c8):Nat):Int)+1)).toNat=zz (l*2^km % c8)-1-km:=by omega
    rw[this];exact w3
   ·by_cases E5:k<=base
    ·exact h4 k Qm E5 (by omega)
    ·unfold b6
     rw[if_neg (by omega),if_pos (by omega)]
     exact w4 _ (by omega) (by omega)
 simp only[hm]
 by_cases c1:m<64
 ·rw[zT (by omega),zC,zF (by omega),zD,Ni h m (by omega)]
  have ar:h*2^m % c8<c8:=Nat.mod_lt _ (by decide)
  rcases Li h m hh (by omega) with⟨e,w⟩|⟨e,w1,w2,w3,w4⟩
  ·rw[e,zT (by rfl)]
   have:=low 0 64 (by omega) (by omega) (by omega) (by omega) (by omega) (fun k Qm BP _=>by
    by_cases E5:1<=k
    ·unfold b6
     rw[if_pos (by omega)]
     exact w _ (by omega)
    ·exact lP k (by omega))
   exact this
  ·rw[zF (by omega)]
   simp only[Bool.not_false,zC]
   rw[z9m _ ar,zc,zj (x:=(m:Int)+_) (by omega) (by omega),zj (by omega) (by omega)]
   refine goal _ (.inr ⟨by omega,?_,fun k Qm BP=> ?_⟩)
   ·unfold b6
    rw[if_pos (by omega)]
    have:(64-((m:Int)+((64-zz (h*2^m % c8):Nat):Int)+1)).toNat=zz (h*2^m % c8)-1-m:=by omega
    rw[this];exact w3
   ·by_cases E5:1<=k
    ·unfold b6
     rw[if_pos (by omega)]
     exact w4 _ (by omega) (by omega)
    ·exact lP k (by omega)
 ·rw[zF (by omega),zD,zj (x:=(m:Int)-64) (by omega) (by omega)]
  have anj:((m:Int)-64)=((m-64:Nat):Int):=by omega
  obtain⟨km,hs,BX⟩:∃km:Nat,(if(64:Int)<(m:Int)-64 then(64:Int) else(m:Int)-64)=(km:Int)/\km<=64/\(km<64->m=64+km)/\(km=64->128<=m):=by
   by_cases h0:(64:Int)<(m:Int)-64
   ·exact⟨64,by rw[if_pos h0];rfl,by omega,by omega,by omega⟩
   ·exact⟨m-64,by rw[if_neg h0];omega,by omega,by omega,by omega⟩
  simp only[hs]
  rw[zF (by omega),zD]
  exact low km m BX.1 BX.2.1 BX.2.2 (by omega) (by omega) (fun k Qm BP _=>by omega)
theorem KT(n a:Nat)(h:a<2^n):(BitVec.ofInt n (a:Int)).toNat=a:=by
 rw[BitVec.toNat_ofInt]
 have h2:((a:Int)% ((2^n:Nat):Int))=((a % 2^n:Nat):Int):=by rfl
 rw[h2,Int.toNat_natCast,Nat.mod_eq_of_lt h]
theorem aaH{k:IntKind}{a b:Nat}(ha:a<2^k.bits)(hb:b<2^k.bits):aP .or k a b=k.wrap ((a|||b:Nat):Int):=by
 simp only[aP,BitVec.toNat_or,KT _ _ ha,KT _ _ hb]
def kG(b:List Int):Int:=if b.length<2 then 0 else b.getD 0 0*256+b.getD 1 0
theorem zq1{x y:Int}(hx:zn x)(hy:zn y):aP .or .i64 (zW zI (zW zI x*2^min (8:Int).toNat 64)) (zW zI y)=x*256+y:=by
 unfold zn at hx hy
 obtain⟨x,rfl⟩:=Int.eq_ofNat_of_zero_le hx.1
 obtain⟨y,rfl⟩:=Int.eq_ofNat_of_zero_le hy.1
 rw[xK (by omega),xK (by omega)]
 have h1:((x:Int)*(2:Int)^min (8:Int).toNat 64)=((x<<<8:Nat):Int):=by
  rw[Nat.shiftLeft_eq];rfl
 have h3:x<<<8=x*256:=by rw[Nat.shiftLeft_eq]
 rw[h1,xK (by omega),aaH (by simp only[IntKind.bits];omega) (by simp only[IntKind.bits];omega),<-Nat.shiftLeft_add_eq_or_of_lt (by omega:y<2^8),h3,xK (by omega)]
 omega
theorem Oh{b:List Int}(hb:∀x∈b,zn x)(i:Nat):zn (b.getD i 0):=by
 rw[List.getD_eq_getElem?_getD]
 cases h:b[i]? with
 |none=>exact⟨by simp,by simp⟩
 |some x=>exact hb x (List.mem_of_getElem? h)
theorem La{b:List Int}(hb:∀x∈b,zn x):0<=kG b/\kG b<=65535:=by
 unfold kG
 have h0:=Oh hb 0
 have h1:=Oh hb 1
 unfold zn at h0 h1
 split<;>omega
abbrev Fr:=Int×Bool×List Int×Unit
theorem alr(m:Int)(d:Bool)(b:List Int)(hb:∀x∈b,zn x):GK (m,d,b,())=some (kG b,(m,d,b,())):=by
 unfold GK VO kG
 simp only
 by_cases h:b.length<2
 ·rw[zT (by omega:((b.length:Int)<2)),if_pos h];rfl
 ·rw[zF (by omega:¬((b.length:Int)<2)),if_neg h,zD,zm (by omega) (by omega),zm (by omega) (by omega)]
  exact congrArg some (Prod.ext (zq1 (Oh hb 0) (Oh hb 1)) rfl)
def aR(m:Int)(st:Bool×List Int×List ByteArray)(c:Int):Bool×List Int×List ByteArray:=
 if st.1=true then st
 else if(st.2.1++ [c]).length=2/\(kG (st.2.1++ [c])=0\/m<kG (st.2.1++ [c])) then(true,[],st.2.2)
 else if((st.2.1++ [c]).length:Int)=2+kG (st.2.1++ [c])/\0<kG (st.2.1++ [c]) then(false,[],st.2.2++ [strOf ((st.2.1++ [c]).drop 2)])
 else(false,st.2.1++ [c],st.2.2)
theorem Og(m:Int)(l:List Int)(b:List Int)(o:List ByteArray):l.foldl (aR m) (true,b,o)=(true,b,o):=by
 induction l with
 |nil=>rfl
 |cons c r ih=>rw[List.foldl_cons];have:aR m (true,b,o) c=(true,b,o):=by simp [aR]
               rw[this,ih]
def Pg(m:Int)(d:Bool)(r:Bool×List Int×List ByteArray):Sum (List ByteArray×Bool×List ByteArray×Fr) (List ByteArray×Fr):=
 if r.1=true/\d=false then .inl (r.2.2,true,r.2.2,(m,true,[],())) else .inr (r.2.2,(m,r.1,r.2.1,()))
theorem abY(m:Int)(l:List Int):∀(d:Bool) (b:List Int) (o:List ByteArray),d=false->(l.foldl (aR m) (d,b,o)).1=true->(l.foldl (aR m) (d,b,o)).2.1=[]:=by
 induction l with
 |nil=>intro d b o hd h;subst hd;cases h
 |cons c r ih=>
  intro d b o hd h
  subst hd
  rw[List.foldl_cons] at h⊢
  generalize bS:aR m (false,b,o) c=st at h⊢
  obtain⟨d',b',o'⟩:=st
  cases d' with
  |false=>exact ih false b' o' rfl h
  |true=>
   rw[Og]
   unfold aR at bS
   simp only[Bool.false_eq_true,if_false] at bS
   split at bS
   ·cases bS;rfl
   ·split at bS<;>cases bS
theorem Kr(s:ByteArray)(m:Int):∀(n j k:Nat) (o:List ByteArray) (d:Bool) (b:List Int),j+n=(bl s).length->n<k->(∀x∈b,zn x)->b.length+n<=4398046511104->o.length+n<=4398046511104->(bl s).length<=4398046511104->
 EB k s o j (m,d,b,())=some (Pg m d (((bl s).drop j).foldl (aR m) (d,b,o)))
 |0,j,k,o,d,b,hj,hk,hb,h1,h2,h3=>by
  obtain⟨k,rfl⟩:∃k',k=k'+1:=⟨k-1,by omega⟩
  rw[EB,Pz]
  have ar:¬((j:Int)<(s.size:Int)):=by rw[<-zg];omega
  rw[zF ar,List.drop_eq_nil_of_le (by omega)]
  cases d<;>rfl
 |n+1,j,k,o,d,b,hj,hk,hb,h1,h2,h3=>by
  obtain⟨k,rfl⟩:∃k',k=k'+1:=⟨k-1,by omega⟩
  rw[EB,Pz]
  have ar:j<(bl s).length:=by omega
  have fR:((j:Int)<(s.size:Int)):=by rw[<-zg];omega
  rw[zT fR,zC,List.drop_eq_getElem_cons ar,List.foldl_cons]
  cases d with
  |true=>
   have hs:aR m (true,b,o) (bl s)[j]=(true,b,o):=by simp [aR]
   rw[hs,Og]
   simp [Pg]
  |false=>
   have hc:ze s ((j:Int)).toNat=(bl s)[j]:=by
    rw[me,Int.toNat_natCast,List.getD_eq_getElem?_getD,List.getElem?_eq_getElem ar];rfl
   have hbc:zn (bl s)[j]:=lq (List.getElem_mem ar)
   generalize hcv:(bl s)[j]=c at hc hbc
   rw[hc]
   have qP:∀x∈b++ [c],zn x:=fun x hx=>by
    rcases List.mem_append.1 hx with h|h
    ·exact hb x h
    ·simp at h;subst h;exact hbc
   have du:=alr m false (b++ [c]) qP
   have hr:=La qP
   have hw:zW zI ((2:Int)+kG (b++ [c]))=2+kG (b++ [c]):=zj (by omega) (by omega)
   have hjw:zW zI ((j:Int)+1)=((j+1:Nat):Int):=zu (by omega)
   have hl:(b++ [c]).length=b.length+1:=by simp
   rw[zk (by rw[<-zg];exact ar)]
   simp only[Bool.not_false,zC]
   rw[zT (by simp;omega),zC,du]
   simp only[zc,hw,hjw]
   generalize hn:kG (b++ [c])=z at hr hw
   have ih:=fun o d b=>Kr s m n (j+1) k o d b (by omega) (by omega)
   have Qj:aR m (false,b,o) c=if(b++ [c]).length=2/\(z=0\/m<z) then(true,[],o) else if((b++ [c]).length:Int)=2+z/\0<z then(false,[],o++ [strOf ((b++ [c]).drop 2)]) else(false,b++ [c],o):=by
    unfold aR;simp only[Bool.false_eq_true,if_false,hn]
   have dead:∀(l:List Int),Pg m false (l.foldl (aR m) (true,[],o))= .inl (o,true,o,(m,true,[],())):=fun l=>by rw[Og];simp [Pg]
   have BO:=ih o false (b++ [c]) qP (by rw[hl];omega) (by omega) h3
   have XH:=ih (o++ [strOf ((b++ [c]).drop 2)]) false [] (by simp) (by simp;omega) (by simp;omega) h3
   have IF:List.drop ((2:Int)).toNat (List.take (b++ [c]).length (b++ [c]))=(b++ [c]).drop 2:=by rw[List.take_length];rfl
   simp only[IF]
   have XR:∀(x:Option (Sum (List ByteArray×Bool×List ByteArray×Fr) (List ByteArray×Fr))),(bif decide (((o.length+ [strOf ((b++ [c]).drop 2)].length)*16:Nat)<=140737488355328) then x else none)=x:=fun x=>by
    rw[zT (by simp;omega)];rfl
   by_cases c1:(b++ [c]).length=2
   ·by_cases c2:z=0
    ·rw[Qj,if_pos ⟨c1,.inl c2⟩,dead]
     simp [c1,c2]
    ·by_cases c3:m<z
     ·rw[Qj,if_pos ⟨c1,.inr c3⟩,dead]
      simp [c1,c2,c3]
     ·rw[Qj,if_neg (by simp [c2,c3])]
      have c4:¬(((b++ [c]).length:Int)=2+z):=by omega
      rw[if_neg (fun h=>c4 h.1),<-BO]
      have Xb:(((b++ [c]).length:Int)=2):=by omega
      rw[zT Xb,zF c2,zF c3,zF c4]
      rfl
   ·have Xb:¬(((b++ [c]).length:Int)=2):=by omega
    rw[Qj,if_neg (fun h=>c1 h.1),zF Xb]
    by_cases c4:((b++ [c]).length:Int)=2+z
    ·by_cases c5:0<z
     ·rw[if_pos ⟨c4,c5⟩,<-XH,zT c4,zT c5,zT (by omega:(2:Int)<=(((b++ [c]).length:Nat):Int))]
      simp only[zC,zD]
      rw[XR]
     ·rw[if_neg (fun h=>c5 h.2),<-BO,zT c4,zF c5]
      rfl
    ·rw[if_neg (fun h=>c4 h.1),<-BO,zF c4]
     rfl
def feed(f:Fr)(s:List Int):List ByteArray×Bool×Fr:=
 ((s.foldl (aR f.1) (f.2.1,f.2.2.1,[])).2.2,decide ((s.foldl (aR f.1) (f.2.1,f.2.2.1,[])).1=true/\f.2.1=false),(f.1,(s.foldl (aR f.1) (f.2.1,f.2.2.1,[])).1,(s.foldl (aR f.1) (f.2.1,f.2.2.1,[])).2.1,()))
theorem ak4(f:Fr)(s:ByteArray)(hb:∀x∈f.2.2.1,zn x)(h1:f.2.2.1.length+s.size<=4398046511104):Ba f s=some (feed f (bl s)):=by
 obtain⟨m,d,b,u⟩:=f
 cases u
 unfold Ba VL
 simp only at hb h1⊢
 have:=Kr s m (bl s).length 0 ai [] d b (by omega) (by rw[zr,zg];omega) hb (by rw[zg];omega) (by simp;rw[zg];omega) (by rw[zg];omega)
 rw[show((0:Nat):Int)=0 from rfl] at this
 rw[this,zc,List.drop_zero]
 unfold Pg feed
 simp only
 split
 ·rename_i h
  obtain⟨h4,h5⟩:=h
  subst h5
  have h3:=abY m (bl s) false b [] rfl h4
  simp [Sum.elim_inl,VM,h3,h4]
 ·rename_i h
  simp only[Sum.elim_inr,VN]
  rw[zF h]
section
variable {α:Type} [DecidableEq α]
end
end bE

namespace bE
open Go.IntKind renaming wrap->zW,i64->zI,u8->zU
open Go Go.Ref
theorem aiu{l:List Int}{j:Nat}(h:j<l.length):l.getD ((j:Int)).toNat 0=l[j]:=by
 rw[Int.toNat_natCast,List.getD_eq_getElem?_getD,List.getElem?_eq_getElem h];rfl
theorem ae1(l:List Int)(n:Int)(hl:l.length<=maxLen):∀(m j k:Nat),j+m=l.length->m<k->
 EF k l n j=some (if n∈l.drop j then .inl true else .inr ()):=by
 intro m
 rw[zh] at hl
 induction m with
 |zero=>
  intro j k hj hk
  obtain⟨k,rfl⟩:∃k',k=k'+1:=⟨k-1,by omega⟩
  rw[EF,PF,zF (by omega),List.drop_eq_nil_of_le (by omega)];simp
 |succ m ih=>
  intro j k hj hk
  obtain⟨k,rfl⟩:∃k',k=k'+1:=⟨k-1,by omega⟩
  have ar:j<l.length:=by omega
  rw[EF,PF,zT (by omega),zC,zk ar,aiu ar,zu (by omega),List.drop_eq_getElem_cons ar]
  by_cases h:l[j]=n
  ·rw[zT h,if_pos (by rw[h];simp)];rfl
  ·rw[zF h,zD,ih (j+1) k (by omega) (by omega)]
   have:n≠l[j]:=fun e=>h e.symm
   simp only[List.mem_cons,this,false_or]
theorem ajm(l:List Int)(n:Int)(hl:l.length<=maxLen):G8 l n=some (decide (n∈l)):=by
 unfold G8 Wo
 dsimp only
 have:=ae1 l n hl l.length 0 ai (by omega) (by rw[zr];rw[zh] at hl;omega)
 rw[show((0:Nat):Int)=0 from rfl,List.drop_zero] at this
 rw[this,zc]
 by_cases h:n∈l
 ·rw[if_pos h,zT h];rfl
 ·rw[if_neg h,zF h];rfl
theorem aiT:oe.length=128:=by unfold oe;simp
abbrev Spec:=Int×Int×Int×Int×Int×Unit
abbrev zf:=Int×Int×List Spec×Unit
abbrev cY:Spec:=(0,0,0,0,0,())
theorem Uy(c:Int):xX c=some (if c=1 then 1 else if c=2 then 2 else if c=3 then 3 else if c=4 then 7 else if c=5 then 15 else if c=6 then 15 else 0):=by
 unfold xX Vd
 simp only[akO]
 repeat' split
 all_goals rfl
theorem zo7(c:Int):A8 c=some (decide (1<=c/\c<=6)):=by
 unfold A8 U4
 rw[Uy,zc]
 congr 1
 by_cases h1:c=1
 ·subst h1;rfl
 by_cases h2:c=2
 ·subst h2;rfl
 by_cases h3:c=3
 ·subst h3;rfl
 by_cases h4:c=4
 ·subst h4;rfl
 by_cases h5:c=5
 ·subst h5;rfl
 by_cases h6:c=6
 ·subst h6;rfl
 rw[if_neg h1,if_neg h2,if_neg h3,if_neg h4,if_neg h5,if_neg h6,zF (p:=1<=c/\c<=6) (by omega)]
 rfl
theorem F9:qu 2=some 99:=by kernel_rfl
theorem Ga:qu 3=some 999:=by kernel_rfl
def bN(s:Spec):Int:=
 if s.1<2\/128<s.1 then 1 else if s.2.1<1\/6<s.2.1 then 6 else if s.2.2.1<1\/3<s.2.2.1 then 3
 else if s.2.2.2.1<1\/s.2.2.2.2.1<s.2.2.2.1\/(s.2.2.1=2/\99<s.2.2.2.2.1)\/999<s.2.2.2.2.1\/(s.2.2.1=1/\¬s.2.2.2.1=s.2.2.2.2.1) then 5
 else if s.2.2.1=1/\s.2.1=6 then 13 else 0
theorem N0(s:Spec):lz s=some (bN s):=by
 obtain⟨no,c,f,mn,mx,u⟩:=s
 unfold lz TF bN
 simp only[zo7,zc]
 by_cases h1:no<2\/128<no
 ·rw[if_pos h1]
  rcases h1 with h|h
  ·rw[zT h];rfl
  ·rw[zT h];cases decide (no<2)<;>rfl
 rw[if_neg h1,zF (by omega),zF (by omega)]
 by_cases h2:c<1\/6<c
 ·rw[if_pos h2,zF (p:=1<=c/\c<=6) (by omega)];rfl
 rw[if_neg h2,zT (p:=1<=c/\c<=6) (by omega)]
 simp only[zD,Bool.not_true]
 by_cases h3:f<1\/3<f
 ·rw[if_pos h3]
  rcases h3 with h|h
  ·rw[zT h];rfl
  ·rw[zT h];cases decide (f<1)<;>rfl
 rw[if_neg h3,zF (by omega),zF (by omega)]
 simp only[zD]
 by_cases h4:mn<1\/mx<mn\/999<mx
 ·rw[if_pos (by omega)]
  by_cases a:mn<1
  ·rw[zT a];rfl
  rw[zF a]
  by_cases b:mx<mn
  ·rw[zT b];rfl
  rw[zF b,zT (by omega)];rfl
 rw[zF (by omega),zF (by omega),zF (by omega)]
 simp only[zD]
 by_cases f1:f=1
 ·rw[zT f1]
  simp only[zC,Bool.not_true,zD]
  by_cases e:mn=mx
  ·rw[zT e,if_neg (by omega)]
   by_cases e6:c=6
   ·rw[zT e6,if_pos (by omega)];rfl
   ·rw[zF e6,if_neg (by omega)];rfl
  ·rw[zF e,if_pos (by omega)];rfl
 ·rw[zF f1]
  simp only[zD,Bool.not_false,zC]
  by_cases f2:f=2
  ·subst f2
   rw[F9,zc]
   by_cases h:99<mx
   ·rw[zT h,if_pos (by omega)];rfl
   ·rw[zF h,if_neg (by omega),if_neg (by omega)];rfl
  ·have f3:f=3:=by omega
   subst f3
   rw[Ga,zc,zF (by omega),if_neg (by omega),if_neg (by omega)];rfl
theorem uQ(s:Spec):yf s=some (bN s):=by
 obtain⟨no,c,f,mn,mx,u⟩:=s
 unfold yf Ws bN
 simp only
 by_cases h1:no<2\/128<no
 ·rw[if_pos h1]
  rcases h1 with h|h
  ·rw[zT h];rfl
  ·rw[zT h];cases decide (no<2)<;>rfl
 rw[if_neg h1,zF (by omega),zF (by omega)]
 by_cases h2:c<1\/6<c
 ·rw[if_pos h2]
  rcases h2 with h|h
  ·rw[zT h];rfl
  ·rw[zT h];cases decide (c<1)<;>rfl
 rw[if_neg h2,zF (by omega),zF (by omega)]
 by_cases h3:f<1\/3<f
 ·rw[if_pos h3]
  rcases h3 with h|h
  ·rw[zT h];rfl
  ·rw[zT h];cases decide (f<1)<;>rfl
 rw[if_neg h3,zF (by omega),zF (by omega)]
 simp only[zD]
 by_cases f1:f=1
 ·rw[zT f1,zF (by omega:¬f=2)]
  simp only[zC,zD]
  by_cases a:mn<1
  ·rw[zT a,if_pos (by omega)];rfl
  rw[zF a]
  by_cases b:mx<mn
  ·rw[zT b,if_pos (by omega)];rfl
  rw[zF b]
  by_cases d:999<mx
  ·rw[zT d,if_pos (by omega)];rfl
  rw[zF d]
  by_cases e:mn=mx
  ·rw[zT e,if_neg (by omega)]
   by_cases e6:c=6
   ·rw[zT e6,if_pos (by omega)];rfl
   ·rw[zF e6,if_neg (by omega)];rfl
  ·rw[zF e,if_pos (by omega)];rfl
 ·rw[zF f1]
  simp only[zD]
  by_cases f2:f=2
  ·rw[zT f2]
   simp only[zC]
   by_cases a:mn<1
   ·rw[zT a,if_pos (by omega)];rfl
   rw[zF a]
   by_cases b:mx<mn
   ·rw[zT b,if_pos (by omega)];rfl
   rw[zF b]
   by_cases d:99<mx
   ·rw[zT d,if_pos (by omega)];rfl
   rw[zF d,if_neg (by omega),if_neg (by omega)];rfl
  ·rw[zF f2]
   simp only[zD]
   by_cases a:mn<1
   ·rw[zT a,if_pos (by omega)];rfl
   rw[zF a]
   by_cases b:mx<mn
   ·rw[zT b,if_pos (by omega)];rfl
   rw[zF b]
   by_cases d:999<mx
   ·rw[zT d,if_pos (by omega)];rfl
   rw[zF d,if_neg (by omega),if_neg (by omega)];rfl
def gQ:List Spec->Int->Int->Int×Int
 | [],_,_=>(0,0)
 |x::r,i,last=>if bN x≠0 then(bN x,i) else if x.1<=last then(11,i) else gQ r (i+1) x.1
def gP(s:zf):Int×Int:=
 if¬(s.1=1\/s.1=2) then(1,-1) else if s.2.1<0\/9<s.2.1 then(7,-1) else gQ s.2.2.1 0 0
theorem RF{x:Spec}(h:bN x=0):2<=x.1/\x.1<=128:=by
 unfold bN at h
 split at h
 ·cases h
 ·omega
def Xi(e:Sum (Int×Int) Unit):Option (Int×Int):=Sum.elim (fun we=>some (we.1,we.2)) (fun _=>some (0,0)) e
theorem Kq(l:List Spec):∀(i:Int) (last:Int),Xi (if(gQ l i last).1=0 then .inr () else .inl (gQ l i last))=some (gQ l i last):=by
 intro i last
 by_cases h:(gQ l i last).1=0
 ·rw[if_pos h]
  have:gQ l i last=(0,0):=by
   induction l generalizing i last with
   |nil=>rfl
   |cons x r ih=>
    unfold gQ at h⊢
    split
    ·rename_i h1;rw[if_pos h1] at h;exact absurd h h1
    ·rename_i h1
     rw[if_neg h1] at h
     split
     ·rename_i h2;rw[if_pos h2] at h;cases h
     ·rename_i h2;rw[if_neg h2] at h;exact ih _ _ h
  rw[this];rfl
 ·rw[if_neg h];rfl
theorem aax(s:zf)(hl:s.2.2.1.length<=maxLen):xM ai 0 0 s=some (if(gQ s.2.2.1 0 0).1=0 then .inr () else .inl (gQ s.2.2.1 0 0)):=by
 have h:=m5 cY s.2.2.1 hl (fun i x (last:Int) K=>if bN x≠0 then some (.inl (bN x,i)) else if x.1<=last then some (.inl (11,i)) else K x.1) (fun _=>some (.inr ())) (fun k i last=>xM k last i s)
  (fun k i last h0 h1=>by
    rw[xM,PL,zT h1]
    simp only[zC,zm h0 h1,uQ,zc]
    by_cases hc:bN (s.2.2.1.getD i.toNat cY)=0
    ·rw[zT hc,if_neg (fun h=>h hc)]
     simp only[Bool.not_true,zD]
     by_cases hn:(s.2.2.1.getD i.toNat cY).1<=last
     ·rw[zT hn,if_pos hn];rfl
     ·rw[zF hn,if_neg hn];rfl
    ·rw[zF hc,if_pos hc];rfl)
  (fun k last=>by rw[xM,PL,zF (by omega)];rfl) 0
 rw[h]
 clear h hl
 generalize s.2.2.1=l
 suffices∀(i last:Int),bm (fun i (x:Spec) (last:Int) K=>if bN x≠0 then some (Sum.inl (bN x,i)) else if x.1<=last then some (.inl (11,i)) else K x.1) (fun _=>some (.inr ())) l i last=some (if(gQ l i last).1=0 then(.inr ():Sum (Int×Int) Unit) else .inl (gQ l i last)) from this 0 0
 induction l with
 |nil=>intro i last;rfl
 |cons x r ih=>
  intro i last
  rw[bm,gQ]
  by_cases hc:bN x≠0
  ·rw[if_pos hc,if_pos hc,if_neg hc]
  ·rw[if_neg hc,if_neg hc]
   by_cases hn:x.1<=last
   ·rw[if_pos hn,if_pos hn];rfl
   ·rw[if_neg hn,if_neg hn];exact ih _ _
theorem abp(s:zf)(hl:s.2.2.1.length<=maxLen):Hi s=some (gP s):=by
 unfold Hi F1 gP
 have hx:=Kq s.2.2.1 0 0
 have tD:(xM ai 0 0 s).bind (fun e=>Sum.elim (fun(we:Int×Int)=>Wu we.1 we.2 fun a0 a1=>some (a0,a1)) (fun(we:Unit)=>Wv fun a0 a1=>some (a0,a1)) e)=some (gQ s.2.2.1 0 0):=by
  rw[aax s hl,zc];exact hx
 dsimp only
 rw[tD]
 by_cases h1:s.1=1
 ·rw[zT h1,if_neg (by omega)]
  by_cases h2:s.2.1<0
  ·rw[zT h2,if_pos (.inl h2)];rfl
  ·rw[zF h2]
   by_cases h3:9<s.2.1
   ·rw[zT h3,if_pos (.inr h3)];rfl
   ·rw[zF h3,if_neg (by omega)];rfl
 ·rw[zF h1]
  by_cases h0:s.1=2
  ·rw[zT h0,if_neg (by omega)]
   by_cases h2:s.2.1<0
   ·rw[zT h2,if_pos (.inl h2)];rfl
   ·rw[zF h2]
    by_cases h3:9<s.2.1
    ·rw[zT h3,if_pos (.inr h3)];rfl
    ·rw[zF h3,if_neg (by omega)];rfl
  ·rw[zF h0,if_pos (by omega)];rfl
theorem aeY{l:List Spec}{j:Nat}(h:j<l.length):l.getD ((j:Int)).toNat ((0:Int),(0:Int),(0:Int),(0:Int),(0:Int),())=l[j]:=by
 rw[Int.toNat_natCast,List.getD_eq_getElem?_getD,List.getElem?_eq_getElem h];rfl
theorem gF(s:zf)(hl:s.2.2.1.length<=9223372036854775807):∀(m j k:Nat) (last:Int),j+m=s.2.2.1.length->m<k->(j=0->last=0)->(∀h:0<j,last=(s.2.2.1.getD (j-1) cY).1)->
 z59 k s.2.2.1 (s.2.2.1.length:Int) j s=some (if(gQ (s.2.2.1.drop j) j last).1=0 then .inr () else .inl (gQ (s.2.2.1.drop j) j last)):=by
 intro m
 induction m with
 |zero=>
  intro j k last hj hk h0 h1
  obtain⟨k,rfl⟩:∃k',k=k'+1:=⟨k-1,by omega⟩
  rw[z59,O2,zF (by omega),List.drop_eq_nil_of_le (by omega)];rfl
 |succ m ih=>
  intro j k last hj hk h0 h1
  obtain⟨k,rfl⟩:∃k',k=k'+1:=⟨k-1,by omega⟩
  have ar:j<s.2.2.1.length:=by omega
  have Yr:=ih (j+1) k (s.2.2.1[j]).1 (by omega) (by omega) (by omega) (fun _=>by
   rw[Nat.add_sub_cancel,List.getD_eq_getElem?_getD,List.getElem?_eq_getElem ar];rfl)
  rw[z59,O2,zT (by omega),zC,zk ar,aeY ar,N0,zc,zu (by omega),List.drop_eq_getElem_cons ar]
  rw[show((j+1:Nat):Int)=(j:Int)+1 from rfl] at Yr⊢
  by_cases hc:bN s.2.2.1[j]=0
  ·rw[zT hc]
   simp only[Bool.not_true,zD]
   have nv:=RF hc
   by_cases hz:j=0
   ·have mS:=h0 hz
    have e:gQ (s.2.2.1[j]::s.2.2.1.drop (j+1)) j last=gQ (s.2.2.1.drop (j+1)) ((j:Int)+1) (s.2.2.1[j]).1:=by
     rw[gQ,if_neg (fun h=>h hc),if_neg (by omega)]
    rw[zF (by omega),zD,e]
    exact Yr
   ·have mS:=h1 (by omega)
    have hi:zW zI ((j:Int)-1)=((j-1:Nat):Int):=by rw[zj (by omega) (by omega)];omega
    rw[zT (by omega),zC,hi,zk (by omega),Int.toNat_natCast]
    by_cases hn:(s.2.2.1[j]).1<=last
    ·have e:gQ (s.2.2.1[j]::s.2.2.1.drop (j+1)) j last=(11,(j:Int)):=by
      rw[gQ,if_neg (fun h=>h hc),if_pos hn]
     rw[e,zT (by rw[<-mS];exact hn)];rfl
    ·have e:gQ (s.2.2.1[j]::s.2.2.1.drop (j+1)) j last=gQ (s.2.2.1.drop (j+1)) ((j:Int)+1) (s.2.2.1[j]).1:=by
      rw[gQ,if_neg (fun h=>h hc),if_neg hn]
     rw[e,zF (by rw[<-mS];exact hn)]
     exact Yr
  ·have e:gQ (s.2.2.1[j]::s.2.2.1.drop (j+1)) j last=(bN s.2.2.1[j],(j:Int)):=by
    rw[gQ,if_pos hc]
   rw[zF hc,e,if_neg hc];rfl
theorem Ok(s:zf)(hl:s.2.2.1.length<=maxLen):my s=some (gP s):=by
 rw[zh] at hl
 unfold my z87 gP
 have hx:=Kq s.2.2.1 0 0
 have IV:=gF s hl s.2.2.1.length 0 ai 0 (by omega) (by rw[zr];omega) (fun _=>rfl) (fun h=>absurd h (by omega))
 rw[List.drop_zero,show((0:Nat):Int)=0 from rfl] at IV
 have tD:(z59 ai s.2.2.1 (s.2.2.1.length:Int) 0 s).bind (fun e=>Sum.elim (fun(we:Int×Int)=>Ts we.1 we.2 fun a0 a1=>some (a0,a1)) (fun(we:Unit)=>Tt fun a0 a1=>some (a0,a1)) e)=some (gQ s.2.2.1 0 0):=by
  rw[IV,zc];exact hx
 dsimp only
 rw[tD]
 by_cases h1:s.1=1
 ·rw[zT h1,if_neg (by omega)]
  by_cases h2:s.2.1<0
  ·rw[zT h2,if_pos (.inl h2)];rfl
  ·rw[zF h2]
   by_cases h3:9<s.2.1
   ·rw[zT h3,if_pos (.inr h3)];rfl
   ·rw[zF h3,if_neg (by omega)];rfl
 ·rw[zF h1]
  by_cases h0:s.1=2
  ·rw[zT h0,if_neg (by omega)]
   by_cases h2:s.2.1<0
   ·rw[zT h2,if_pos (.inl h2)];rfl
   ·rw[zF h2]
    by_cases h3:9<s.2.1
    ·rw[zT h3,if_pos (.inr h3)];rfl
    ·rw[zF h3,if_neg (by omega)];rfl
  ·rw[zF h0,if_pos (by omega)];rfl
def fP(l:List Spec)(no:Int):Option Spec:=l.find? fun x=>decide (x.1=no)
def eU:List Spec->Int->Int->Int
 | [],_,_=> -1
 |x::r,no,i=>if x.1=no then i else eU r no (i+1)
theorem ajk(s:zf)(no:Int)(hl:s.2.2.1.length<=maxLen):fF s no=some (match fP s.2.2.1 no with|some x=>(x,true)|none=>(cY,false)):=by
 unfold fF Tv fP
 dsimp only
 have h:=ct cY s.2.2.1 hl (fun i x (_:Unit) K=>bif decide (x.1=no) then some (Sum.inl (true,x)) else K ()) (fun _=>some (.inr cY)) (fun k i _=>O3 k no s.2.2.1 (s.2.2.1.length:Int) i cY) (fun k i _=>rfl) ()
 rw[h,]
 clear h hl
 generalize(0:Int)=i
 generalize s.2.2.1=l
 induction l generalizing i with
 |nil=>rfl
 |cons x r ih=>
  rw[bm,List.find?_cons]
  cases hx:decide (x.1=no) with
  |true=>rfl
  |false=>exact ih (i+1)
theorem ab1(l:List Spec)(no:Int):∀i:Int,0<=i->(eU l no i= -1/\fP l no=none)\/(i<=eU l no i/\eU l no i<i+l.length/\∃x,fP l no=some x/\l.getD (eU l no i-i).toNat cY=x):=by
 induction l with
 |nil=>intro i hi;left;exact⟨rfl,rfl⟩
 |cons x r ih=>
  intro i hi
  unfold eU fP
  by_cases h:x.1=no
  ·right
   rw[if_pos h,List.find?_cons,zT h]
   refine⟨by omega,by simp;omega,x,rfl,by simp⟩
  ·rw[if_neg h,List.find?_cons,zF h]
   rcases ih (i+1) (by omega) with⟨h1,h2⟩|⟨h1,h2,y,h3,h4⟩
   ·left;exact⟨h1,h2⟩
   ·right
    refine⟨by omega,by simp;omega,y,h3,?_⟩
    have:(eU r no (i+1)-i).toNat=(eU r no (i+1)-(i+1)).toNat+1:=by omega
    rw[this]
    simpa using h4
theorem QZ(s:zf)(no:Int)(hl:s.2.2.1.length<=maxLen):yh s no=some (eU s.2.2.1 no 0):=by
 unfold yh Wy
 dsimp only
 have h:=ct cY s.2.2.1 hl (fun i x (_:Unit) K=>bif decide (x.1=no) then some (Sum.inl i) else K ()) (fun _=>some (.inr ())) (fun k i _=>PM k no i s) (fun k i _=>rfl) ()
 rw[h]
 clear h hl
 generalize(0:Int)=i
 generalize s.2.2.1=l
 induction l generalizing i with
 |nil=>rfl
 |cons x r ih=>
  rw[bm,eU]
  by_cases hx:x.1=no
  ·rw[zT hx,if_pos hx];rfl
  ·rw[zF hx,if_neg hx];exact ih (i+1)
theorem KB(n:Int):b6 0 0 n=false:=by unfold b6;simp
theorem acg{a b:zf}:a=b↔a.1=b.1/\a.2.1=b.2.1/\a.2.2.1=b.2.2.1:=by
 obtain⟨x,y,z,u⟩:=a
 obtain⟨x',y',z',u'⟩:=b
 simp
instance:DecidableEq zf:=fun a b=>decidable_of_iff _ acg.symm
theorem acx(s:zf)(h:s.2.2.1.length<=1000000):Hj s=some s:=by
 unfold Hj Ww
 rw[zT (by simp;omega)];rfl
def Fw(l:List Spec)(last:Int):Prop:=(∀x∈l,bN x=0)/\(l.Pairwise fun x y=>x.1<y.1)/\∀x∈l,last<x.1
theorem afC(l:List Spec):∀(i last:Int),(gQ l i last).1=0↔Fw l last:=by
 induction l with
 |nil=>intro i last;simp [gQ,Fw]
 |cons x r ih=>
  intro i last
  unfold gQ
  by_cases hc:bN x=0
  ·rw[if_neg (fun h=>h hc)]
   by_cases hn:x.1<=last
   ·rw[if_pos hn]
    constructor
    ·intro h;cases h
    ·intro⟨_,_,h3⟩;have:=h3 x (by simp);omega
   ·rw[if_neg hn,ih]
    constructor
    ·intro⟨h1,h2,h3⟩
     refine⟨fun y hy=> ?_,List.pairwise_cons.2 ⟨h3,h2⟩,fun y hy=> ?_⟩
     ·rcases List.mem_cons.1 hy with rfl|hy
      ·exact hc
      ·exact h1 y hy
     ·rcases List.mem_cons.1 hy with rfl|hy
      ·omega
      ·have:=h3 y hy;omega
    ·intro⟨h1,h2,h3⟩
     obtain⟨h4,h5⟩:=List.pairwise_cons.1 h2
     exact⟨fun y hy=>h1 y (by simp [hy]),h5,h4⟩
  ·rw[if_pos hc]
   constructor
   ·intro h;exact absurd h hc
   ·intro⟨h1,_,_⟩;exact absurd (h1 x (by simp)) hc
def iu(s:zf):Prop:=(s.1=1\/s.1=2)/\0<=s.2.1/\s.2.1<=9/\Fw s.2.2.1 0
theorem AG(s:zf):(gP s).1=0↔iu s:=by
 unfold gP iu
 by_cases h1:s.1=1\/s.1=2
 ·rw[if_neg (fun h=>h h1)]
  by_cases h2:s.2.1<0\/9<s.2.1
  ·rw[if_pos h2]
   constructor
   ·intro h;cases h
   ·intro⟨_,a,b,_⟩;omega
  ·rw[if_neg h2,afC]
   constructor
   ·intro h;exact⟨h1,by omega,by omega,h⟩
   ·intro⟨_,_,_,h⟩;exact h
 ·rw[if_pos h1]
  constructor
  ·intro h;cases h
  ·intro⟨a,_⟩;exact absurd a h1
theorem Fw.filter{l:List Spec}{last:Int}(h:Fw l last)(p:Spec->Bool):Fw (l.filter p) last:=
 ⟨fun x hx=>h.1 x (List.mem_filter.1 hx).1,h.2.1.filter p,fun x hx=>h.2.2 x (List.mem_filter.1 hx).1⟩
theorem zcs(s:zf)(hl:s.2.2.1.length<=maxLen):Be s=some (decide ((gP s).1=0)):=by
 unfold Be Wz
 rw[abp s hl,zc]
abbrev bB:=ByteArray×ByteArray×Unit
def iV:bB:=(bs [],bs [],())
instance Yy (a:ByteArray) (l:List ByteArray):Decidable (a∈l):=decidable_of_iff (l.any (fun x=>decide (a=x))=true) (by
 rw[List.any_eq_true]
 exact⟨fun⟨x,hx,h⟩=>of_decide_eq_true h▸hx,fun h=>⟨a,h,zT rfl⟩⟩)
def Bv(r:Int):Sum Int Unit:=if r= -1 then .inr () else .inl r
theorem Cp(j:Nat):Bv (j:Int)= .inl (j:Int):=if_neg (by omega)
def dI{K:Type}(l:List K):List (K×Bool):=l.map fun k=>(k,true)
theorem Rk{K:Type}[DecidableEq K](eq:K->K->Bool)(heq:∀x y,eq x y=decide (x=y))(k:K):∀l:List K,eV eq false (dI l) k=true↔k∈l
 | []=>by simp [dI,eV]
 |x::l=>by
  simp only[dI,List.map_cons,eV,heq]
  by_cases h:k=x
  ·rw[zT h,zC];exact⟨fun _=>by rw[h];exact List.mem_cons_self,fun _=>rfl⟩
  ·rw[zF h,zD]
   have:=Rk eq heq k l
   simp only[dI] at this
   rw[this]
   exact⟨fun h'=>List.mem_cons_of_mem _ h',fun h'=>(List.mem_cons.1 h').resolve_left h⟩
theorem Rl{K:Type}[DecidableEq K](eq:K->K->Bool)(heq:∀x y,eq x y=decide (x=y))(k:K):∀l:List K,eW eq (dI l) k=true↔k∈l
 | []=>by simp [dI,eW]
 |x::l=>by
  simp only[dI,List.map_cons,eW,heq]
  by_cases h:k=x
  ·rw[zT h,zC];exact⟨fun _=>by rw[h];exact List.mem_cons_self,fun _=>rfl⟩
  ·rw[zF h,zD]
   have:=Rl eq heq k l
   simp only[dI] at this
   rw[this]
   exact⟨fun h'=>List.mem_cons_of_mem _ h',fun h'=>(List.mem_cons.1 h').resolve_left h⟩
theorem DT{b:Bool}{p:Prop}(h:b=true↔p)(hp:¬p):b=false:=by cases b with
 |false=>rfl
 |true=>exact absurd (h.1 rfl) hp
theorem z9f{K:Type}(l:List K)(k:K):dI l++ [(k,true)]=dI (l++ [k]):=by simp [dI]
def jh:List ByteArray->List bB->Int->Option Int
 |_,[],_=>none
 |seen,p::r,i=>if p.1∈seen then some i else jh (seen++ [p.1]) r (i+1)
def A3(l:List bB):Int×Int:=if 256<l.length then(5,256) else match jh [] l 0 with
 |some i=>(10,i)
 |none=>(0,0)
def wG(o:Option Int):Option (Sum (Int×Int) Unit):=some (match o with
 |some i=> .inl (10,i)
 |none=> .inr ())
theorem zzy(l:List bB):∀(i:Int) (seen:List ByteArray),
 bm (fun i (x:bB) (s:List js) K=>bif eV (fO .str) false s x.1 then some (Sum.inl ((10:Int),i)) else bif eW (fO .str) s x.1 then none else K (s++ [(x.1,true)])) (fun _=>some (Sum.inr ())) l i (dI seen)=wG (jh seen l i):=by
 induction l with
 |nil=>intro i seen;rfl
 |cons p r ih=>
  intro i seen
  simp only[bm,jh]
  have e1:=Rk (fO .str) (fun _ _=>rfl) p.1 seen
  have e2:=Rl (fO .str) (fun _ _=>rfl) p.1 seen
  by_cases h:p.1∈seen
  ·rw[e1.2 h,if_pos h];rfl
  ·rw[DT e1 h,DT e2 h,if_neg h,zD,zD,z9f]
   exact ih (i+1) (seen++ [p.1])
theorem aag(l:List bB)(h:l.length<=maxLen):Gr l=some (A3 l):=by
 unfold Gr Vo A3
 dsimp only
 by_cases hl:256<l.length
 ·rw[zT (by omega),zC,if_pos hl]
 ·rw[zF (by omega),zD,if_neg hl]
  have:=ct iV l h (fun i (x:bB) (s:List js) K=>bif eV (fO .str) false s x.1 then some (Sum.inl ((10:Int),i)) else bif eW (fO .str) s x.1 then none else K (s++ [(x.1,true)])) (fun _=>some (Sum.inr ()))
   (fun k i s=>Pv k l (l.length:Int) i s) (fun k i s=>rfl) []
  rw[this]
  have h2:=zzy l 0 []
  rw[show dI ([]:List ByteArray)=[] from rfl] at h2
  rw[h2]
  unfold wG
  cases jh [] l 0<;>rfl
def gK:List bB->ByteArray->Int->Int
 | [],_,_=> -1
 |p::r,f,i=>if p.1=f then i else gK r f (i+1)
theorem zng(l:List bB)(hl:l.length<=9223372036854775807)(n:Nat)(hn:n<=l.length)(f:ByteArray):∀(m j k:Nat),j+m=n->m<k->D3 k l (n:Int) f (j:Int)=some (Bv (gK ((l.take n).drop j) f j))
 |m,j,0,_,hk=>by omega
 |0,j,k+1,hj,hk=>by
  have:j=n:=by omega
  subst this
  unfold D3 Oz
  rw[zF (by omega),List.drop_eq_nil_of_le (by rw[List.length_take];omega)]
  rfl
 |m+1,j,k+1,hj,hk=>by
  have ar:j<l.length:=by omega
  unfold D3 Oz
  rw[zT (by omega),zC,zk ar,Int.toNat_natCast]
  have hd:(l.take n).drop j=l[j]::(l.take n).drop (j+1):=by
   rw[List.drop_eq_getElem_cons (by simp;omega)]
   congr 1
   rw[List.getElem_take]
  have hg:∀d,l.getD j d=l[j]:=fun d=>by rw[List.getD_eq_getElem?_getD,List.getElem?_eq_getElem ar];rfl
  rw[hd]
  simp only[hg,gK]
  by_cases h:l[j].1=f
  ·rw[zT h,if_pos h,Cp];rfl
  ·rw[zF h,if_neg h,zD,zu (by omega),zng l hl n hn f m (j+1) k (by omega) (by omega)]
   rfl
theorem Ku(l:List bB)(hl:l.length<=maxLen)(n:Nat)(hn:n<=l.length)(f:ByteArray):qo l (n:Int) f=some (gK (l.take n) f 0):=by
 rw[zh] at hl
 unfold qo RP
 dsimp only
 have:=zng l hl n hn f n 0 ai (by omega) (by rw[zr];omega)
 rw[show((0:Nat):Int)=(0:Int) from rfl,List.drop_zero] at this
 rw[this,Option.bind_some]
 unfold Bv
 by_cases h:gK (l.take n) f 0= -1
 ·rw[if_pos h,h];rfl
 ·rw[if_neg h];rfl
theorem KG(f:ByteArray):∀(l:List bB) (i:Int),0<=i->(0<=gK l f i↔f∈l.map fun p=>p.1)
 | [],i,_=>by simp [gK]
 |p::r,i,hi=>by
  simp only[gK,List.map_cons,List.mem_cons]
  by_cases h:p.1=f
  ·rw[if_pos h];exact⟨fun _=> .inl h.symm,fun _=>hi⟩
  ·rw[if_neg h,KG f r (i+1) (by omega)]
   exact⟨.inr,fun h'=>h'.resolve_left (fun e=>h e.symm)⟩
theorem zh5(l:List bB)(hl:l.length<=256):∀(m j k:Nat),j+m=l.length->m<k->D2 k l (j:Int)=wG (jh ((l.take j).map fun p=>p.1) (l.drop j) j)
 |m,j,0,_,hk=>by omega
 |0,j,k+1,hj,hk=>by
  unfold D2 Oy
  rw[zF (by omega),List.drop_eq_nil_of_le (by omega)]
  rfl
 |m+1,j,k+1,hj,hk=>by
  have ar:j<l.length:=by omega
  unfold D2 Oy
  have hg:∀d,l.getD j d=l[j]:=fun d=>by rw[List.getD_eq_getElem?_getD,List.getElem?_eq_getElem ar];rfl
  rw[zT (by omega),zC,zk ar,Int.toNat_natCast,hg,Ku l (by rw[zh];omega) j (by omega),Option.bind_some,List.drop_eq_getElem_cons ar]
  simp only[jh]
  have hm:=KG l[j].1 (l.take j) 0 (Int.le_refl _)
  by_cases h:l[j].1∈(l.take j).map fun p=>p.1
  ·rw[zT (hm.2 h),if_pos h];rfl
  ·rw[zF (fun h'=>h (hm.1 h')),if_neg h,zD,zu (by omega),zh5 l hl m (j+1) k (by omega) (by omega)]
   congr 2
   rw[List.take_add_one,List.getElem?_eq_getElem ar,List.map_append]
   rfl
theorem abq(l:List bB)(h:l.length<=maxLen):sc l=some (A3 l):=by
 unfold sc RK A3
 dsimp only
 by_cases hl:256<l.length
 ·rw[zT (by omega),zC,if_pos hl]
 ·rw[zF (by omega),zD,if_neg hl]
  have:=zh5 l (by omega) l.length 0 ai (by omega) (by rw[zr];omega)
  rw[show((0:Nat):Int)=(0:Int) from rfl,List.take_zero,List.drop_zero] at this
  rw[this]
  unfold wG
  simp only[List.map_nil]
  cases jh [] l 0<;>rfl
def zw(l:List bB)(f:ByteArray):ByteArray×Bool:=match l.find? fun p=>decide (p.1=f) with
 |some p=>(p.2.1,true)
 |none=>(bs [],false)
theorem zc5(f:ByteArray)(l:List bB):∀(i:Int),bm (fun i (x:bB) (s:Unit) K=>bif decide (x.1=f) then some (Sum.inl (x.2.1,true)) else K s) (fun _=>some (Sum.inr ())) l i ()=some (match l.find? fun p=>decide (p.1=f) with
 |some p=> .inl (p.2.1,true)
 |none=> .inr ()):=by
 induction l with
 |nil=>intro i;rfl
 |cons p r ih=>
  intro i
  simp only[bm,List.find?_cons]
  by_cases h:p.1=f
  ·rw[zT h];rfl
  ·rw[zF h,zD];exact ih (i+1)
theorem aaf(l:List bB)(f:ByteArray)(h:l.length<=maxLen):Gq l f=some (zw l f):=by
 unfold Gq Vj zw
 dsimp only
 have:=ct iV l h (fun i (x:bB) (s:Unit) K=>bif decide (x.1=f) then some (Sum.inl (x.2.1,true)) else K s) (fun _=>some (Sum.inr ()))
  (fun k i s=>Pu k f l (l.length:Int) i) (fun k i s=>rfl) ()
 rw[this,zc5]
 cases l.find? fun p=>decide (p.1=f)<;>rfl
theorem KE(f:ByteArray):∀(l:List bB) (i:Int),0<=i->(gK l f i= -1/\l.find? (fun p=>decide (p.1=f))=none)\/(i<=gK l f i/\gK l f i<i+l.length/\∃p,l.find? (fun p=>decide (p.1=f))=some p/\∀d,l.getD (gK l f i-i).toNat d=p)
 | [],i,_=> .inl ⟨rfl,rfl⟩
 |p::r,i,hi=>by
  simp only[gK,List.find?_cons,List.length_cons]
  by_cases h:p.1=f
  ·rw[if_pos h,zT h]
   exact .inr ⟨Int.le_refl _,by omega,p,rfl,fun d=>by simp⟩
  ·rw[if_neg h,zF h]
   rcases KE f r (i+1) (by omega) with⟨h1,h2⟩|⟨h1,h2,q,h3,h4⟩
   ·exact .inl ⟨h1,h2⟩
   ·refine .inr ⟨by omega,by omega,q,h3,fun d=> ?_⟩
    have:=h4 d
    rw[show(gK r f (i+1)-i).toNat=(gK r f (i+1)-(i+1)).toNat+1 by omega,List.getD_cons_succ]
    exact this
theorem abo(l:List bB)(f:ByteArray)(h:l.length<=maxLen):rZ l f=some (zw l f):=by
 unfold rZ RI zw
 dsimp only
 rw[Ku l h l.length (Nat.le_refl _),List.take_length,Option.bind_some]
 rcases KE f l 0 (Int.le_refl _) with⟨h1,h2⟩|⟨h1,h2,p,h3,h4⟩
 ·rw[h1,h2];rfl
 ·rw[zF (by omega),zD,zm h1 (by omega),h3]
  have:=h4 ((bs []),(bs []),())
  rw[Int.sub_zero] at this
  rw[this]
def ln(l:List bB):List bB:=l.map fun p=>(p.2.1,p.1,())
theorem afM(l:List bB):(ln l).length=l.length:=by simp [ln]
theorem JW(l:List bB)(h:l.length<=1000000):qn l=some l:=by
 unfold qn RL
 rw[zT (by simp;omega),zC,List.nil_append]
def jv(c b:Int):Bool:=
 if c=1 then decide (48<=b/\b<=57)
 else if c=2 then decide (65<=b/\b<=90\/97<=b/\b<=122)
 else if c=3 then decide (48<=b/\b<=57\/65<=b/\b<=90\/97<=b/\b<=122)
 else if c=4 then decide (32<=b/\b<=126)
 else decide (c=5\/c=6)
def ij(c:Int):Int:=if c=1 then 1 else if c=2 then 2 else if c=3 then 3 else if c=4 then 7 else if c=5 then 15 else if c=6 then 15 else 0
theorem am0:∀c:Fin 7,∀b:Fin 256,x9 (c.1:Int) (b.1:Int)=some (jv (c.1:Int) (b.1:Int)):=by decide+kernel
theorem NR:∀c:Fin 7,∀b:Fin 256,(A9 (b.1:Int)).map (fun r=>decide (aP .and .i64 (ij (c.1:Int)) r=0))=some (!jv (c.1:Int) (b.1:Int)):=by decide+kernel
theorem Kb(c:Int):(∃k:Fin 7,c=(k.1:Int))\/(c≠1/\c≠2/\c≠3/\c≠4/\c≠5/\c≠6):=by
 by_cases h:0<=c/\c<=6
 ·exact .inl ⟨⟨c.toNat,by omega⟩,by simp;omega⟩
 ·exact .inr ⟨by omega,by omega,by omega,by omega,by omega,by omega⟩
theorem mf{b:Int}(h:zn b):∃k:Fin 256,b=(k.1:Int):=by
 unfold zn at h
 exact⟨⟨b.toNat,by omega⟩,by simp;omega⟩
theorem ajn(c:Int){b:Int}(hb:zn b):x9 c b=some (jv c b):=by
 obtain⟨b,rfl⟩:=mf hb
 rcases Kb c with⟨k,rfl⟩|⟨h1,h2,h3,h4,h5,h6⟩
 ·exact am0 k b
 ·unfold x9 Wj jv
  simp only[h1,h2,h3,h4,h5,h6,decide_false,zD,if_false,or_self,Bool.cond_self]
theorem afi(c:Int){b:Int}(hb:zn b):∃r,A9 b=some r/\decide (aP .and .i64 (ij c) r=0)= !jv c b:=by
 obtain⟨b,rfl⟩:=mf hb
 rcases Kb c with⟨k,rfl⟩|⟨h1,h2,h3,h4,h5,h6⟩
 ·have:=NR k b
  cases hc:A9 (b.1:Int) with
  |none=>rw[hc] at this;cases this
  |some r=>rw[hc] at this;exact⟨r,rfl,by simpa using this⟩
 ·have:=NR 0 b
  cases hc:A9 (b.1:Int) with
  |none=>rw[hc] at this;cases this
  |some r=>
   rw[hc] at this
   refine⟨r,rfl,?_⟩
   have e1:ij c=ij ((0:Fin 7).1:Int):=by unfold ij;simp [h1,h2,h3,h4,h5,h6]
   have e2:jv c (b.1:Int)=jv ((0:Fin 7).1:Int) (b.1:Int):=by unfold jv;simp [h1,h2,h3,h4,h5,h6]
   rw[e1,e2]
   simpa using this
def qj(c:Int):List Int->Int->Int
 | [],_=> -1
 |b::r,i=>if jv c b=true then qj c r (i+1) else i
theorem znj(c:Int):∀(l:List Int) (i:Int),0<=i->(0<=qj c l i↔¬l.all (jv c)=true)
 | [],i,_=>by simp [qj]
 |b::r,i,hi=>by
  simp only[qj,List.all_cons]
  cases h:jv c b with
  |true=>rw[if_pos rfl,znj c r (i+1) (by omega),Bool.true_and]
  |false=>simp [hi]
theorem zub(c:Int)(s:ByteArray)(hs:s.size<=9223372036854775807):∀(n j k:Nat),j+n=s.size->n<k->Eu k s (ij c) (j:Int)=some (Bv (qj c ((bl s).drop j) j))
 |n,j,0,_,hk=>by omega
 |0,j,k+1,hj,hk=>by
  unfold Eu Pt
  rw[zF (by omega),List.drop_eq_nil_of_le (by rw[zg];omega)];rfl
 |n+1,j,k+1,hj,hk=>by
  have ar:j<s.size:=by omega
  have hl:j<(bl s).length:=by rw[zg];exact ar
  have hb:zn ((bl s)[j]):=lq (List.getElem_mem hl)
  have hg:(bl s).getD j 0=(bl s)[j]:=by rw[List.getD_eq_getElem?_getD,List.getElem?_eq_getElem hl];rfl
  unfold Eu Pt
  rw[zT (by omega),zC,zk ar,Int.toNat_natCast,me,hg,List.drop_eq_getElem_cons hl]
  obtain⟨r,h1,h2⟩:=afi c hb
  rw[h1,Option.bind_some,h2]
  simp only[qj]
  cases h:jv c (bl s)[j] with
  |true=>rw[if_pos rfl,Bool.not_true,zD,zu (by omega),zub c s hs n (j+1) k (by omega) (by omega)];rfl
  |false=>rw[if_neg (by simp),Bool.not_false,zC,Cp]
theorem af5(c:Int)(s:ByteArray)(h:s.size<=maxLen):Gi c s=some (qj c (bl s) 0):=by
 rw[zh] at h
 unfold Gi U0
 dsimp only
 rw[Uy,Option.bind_some]
 have:=zub c s h s.size 0 ai (by omega) (by rw[zr];omega)
 rw[show((0:Nat):Int)=(0:Int) from rfl,List.drop_zero] at this
 rw[show(if c=1 then 1 else if c=2 then 2 else if c=3 then 3 else if c=4 then 7 else if c=5 then 15 else if c=6 then 15 else 0:Int)=ij c from rfl,this,Option.bind_some]
 unfold Bv
 by_cases h:qj c (bl s) 0= -1
 ·rw[if_pos h,h];rfl
 ·rw[if_neg h];rfl
theorem zhl(c:Int)(s:ByteArray)(hs:s.size<=9223372036854775807):∀(n j k:Nat),j+n=s.size->n<k->EE k c s (j:Int)=some (Bv (qj c ((bl s).drop j) j))
 |n,j,0,_,hk=>by omega
 |0,j,k+1,hj,hk=>by
  unfold EE PE
  rw[zF (by omega),List.drop_eq_nil_of_le (by rw[zg];omega)];rfl
 |n+1,j,k+1,hj,hk=>by
  have ar:j<s.size:=by omega
  have hl:j<(bl s).length:=by rw[zg];exact ar
  have hb:zn ((bl s)[j]):=lq (List.getElem_mem hl)
  have hg:(bl s).getD j 0=(bl s)[j]:=by rw[List.getD_eq_getElem?_getD,List.getElem?_eq_getElem hl];rfl
  unfold EE PE
  rw[zT (by omega),zC,zk ar,Int.toNat_natCast,me,hg,List.drop_eq_getElem_cons hl,ajn c hb,Option.bind_some]
  simp only[qj]
  cases h:jv c (bl s)[j] with
  |true=>rw[if_pos rfl,Bool.not_true,zD,zu (by omega),zhl c s hs n (j+1) k (by omega) (by omega)];rfl
  |false=>rw[if_neg (by simp),Bool.not_false,zC,Cp]
theorem zcl(c:Int)(s:ByteArray)(h:s.size<=maxLen):G6 c s=some (qj c (bl s) 0):=by
 rw[zh] at h
 unfold G6 Wi
 dsimp only
 have:=zhl c s h s.size 0 ai (by omega) (by rw[zr];omega)
 rw[show((0:Nat):Int)=(0:Int) from rfl,List.drop_zero] at this
 rw[this,Option.bind_some]
 unfold Bv
 by_cases h:qj c (bl s) 0= -1
 ·rw[if_pos h,h];rfl
 ·rw[if_neg h];rfl
def xU(a b:Int):Bool:=decide (1<=a/\a<=6/\1<=b/\b<=6)&&decide (aP .andNot .i64 (ij b) (ij a)=0)
theorem ahQ(a b:Int):Gk a b=some (xU a b):=by
 unfold Gk U7 xU
 rw[zo7,Option.bind_some]
 by_cases ha:1<=a/\a<=6
 ·rw[zT ha,zC,zo7,Option.bind_some]
  by_cases hb:1<=b/\b<=6
  ·rw[zT hb,zC,Uy,Option.bind_some,Uy,Option.bind_some,zT (show 1<=a/\a<=6/\1<=b/\b<=6 from⟨ha.1,ha.2,hb.1,hb.2⟩),Bool.true_and]
   rfl
  ·rw[zF hb,zD,zF (fun h=>hb h.2.2)];rfl
 ·rw[zF ha,zD,zF (fun h=>ha ⟨h.1,h.2.1⟩)];rfl
theorem afY:∀a b:Fin 7,ES (a.1:Int) (b.1:Int)=some (xU (a.1:Int) (b.1:Int)):=by decide+kernel
theorem WJ{c:Int}(h:1<=c/\c<=6):∃k:Fin 7,c=(k.1:Int):=⟨⟨c.toNat,by omega⟩,by simp;omega⟩
theorem zct(a b:Int):ES a b=some (xU a b):=by
 by_cases h:(1<=a/\a<=6)/\(1<=b/\b<=6)
 ·obtain⟨k,rfl⟩:=WJ h.1
  obtain⟨m,rfl⟩:=WJ h.2
  exact afY k m
 ·unfold ES Wm xU
  rw[show decide (1<=a/\a<=6/\1<=b/\b<=6)=false from zF (fun h'=>h ⟨⟨h'.1,h'.2.1⟩,h'.2.2⟩),Bool.false_and]
  by_cases h1:a<1
  ·rw[zT h1];rfl
  ·by_cases h2:(6:Int)<a
   ·rw[zF h1,zT h2];rfl
   ·by_cases h3:b<1
    ·rw[zF h1,zF h2,zT h3];rfl
    ·have h4:(6:Int)<b:=by omega
     rw[zF h1,zF h2,zF h3,zT h4];rfl
theorem uw(s:ByteArray)(i:Nat):zn (ze s i):=by
 rw[me]
 exact Oh (fun x hx=>lq hx) i
theorem Kw:∀b:Fin 256,nP (b.1:Int)=some (decide (yb (b.1:Int)≠some 0)):=by decide+kernel
theorem zd9:∀b:Fin 256,yb (b.1:Int)=some 0\/(yb (b.1:Int)=some 1/\decide (aP .and .i64 (b.1:Int) 31=31)=false)\/(yb (b.1:Int)=some 2/\decide (aP .and .i64 (b.1:Int) 31=31)=true):=by decide+kernel
theorem amP(x y:Nat)(hx:x<256)(hy:y<256):aP .and .i64 (((x:Int)*256)+(y:Int)) 255=(y:Int):=by
 have:((x:Int)*256+(y:Int))=((x*256+y:Nat):Int):=by omega
 rw[this,show(255:Int)=((255:Nat):Int) from rfl,akL (by omega) (by omega)]
 congr 1
 rw[show(255:Nat)=2^8-1 from rfl,Nat.and_two_pow_sub_one_eq_mod]
 omega
theorem Z1(x y:Nat)(hx:x<256)(hy:y<256):Int.fdiv ((x:Int)*256+(y:Int)) (2^min ((8:Int)).toNat 64)=(x:Int):=by
 have:((x:Int)*256+(y:Int))=((x*256+y:Nat):Int):=by omega
 rw[this,show(8:Int)=((8:Nat):Int) from rfl,Oo _ 8 (by omega)]
 congr 1
 omega
theorem afw(x:Fin 256)(hx:yb (x.1:Int)=some 2)(y:Fin 256):sU ((x.1:Int)*256+(y.1:Int))=some (decide (1<=(y.1:Int)/\(y.1:Int)<=127)):=by
 have hx0:x.1≠0:=fun e=>by
  have:x=0:=Fin.ext e
  subst this
  revert hx
  decide+kernel
 have Bz:decide (aP .and .i64 (x.1:Int) 31=31)=true:=by
  rcases zd9 x with h|⟨h,_⟩|⟨_,h⟩
  ·rw[h] at hx;cases hx
  ·rw[h] at hx;cases hx
  ·exact h
 have hf:nP (x.1:Int)=some true:=by rw[Kw x,hx];rfl
 unfold sU TW
 rw[Z1 x.1 y.1 x.2 y.2,amP x.1 y.1 x.2 y.2,zF (by have:=x.2;have:=y.2;omega),zD,zT (by have:=x.2;have:=y.2;omega),zC,hf,Option.bind_some,zC,Bz,zC]
 by_cases h1:(1:Int)<=(y.1:Int)
 ·rw[zT h1,zC]
  congr 1
  exact decide_eq_decide.2 ⟨fun h=>⟨h1,h⟩,fun h=>h.2⟩
 ·rw[zF h1,zD]
  congr 1
  exact(zF fun h=>h1 h.1).symm
theorem afH(s:ByteArray)(hs:s.size<=9223372036854775000)(a:Int):sT s a=yc s a:=by
 unfold sT TV yc PG
 by_cases h1:a<0
 ·rw[zT h1];rfl
 rw[zF h1,zD,zD]
 by_cases h2:(s.size:Int)<a
 ·rw[zT h2];rfl
 rw[zF h2,zD,zD]
 by_cases h3:a=(s.size:Int)
 ·rw[zT h3];rfl
 have wa:∀{R:Type} (x:Option R),zd a s.size x=x:=fun x=>zm (by omega) (by omega)
 rw[zF h3,zD,zD]
 simp only[wa]
 obtain⟨x,hx⟩:=mf (uw s a.toNat)
 obtain⟨y,hy⟩:=mf (uw s (zW zI (a+1)).toNat)
 have Ak:=x.2
 have Qw:=y.2
 have ob:=zq1 (uw s a.toNat) (uw s (zW zI (a+1)).toNat)
 rw[hx,hy] at ob
 have w1:zW zI (a+1)=a+1:=zj (by omega) (by omega)
 have w2:zW zI (x.1:Int)=(x.1:Int):=zj (by omega) (by omega)
 have w3:zW zI (y.1:Int)=(y.1:Int):=zj (by omega) (by omega)
 have w4:zW zI ((s.size:Int)-a)=(s.size:Int)-a:=zj (by omega) (by omega)
 rw[hx,hy,w2,Kw x,Option.bind_some]
 rw[w2] at ob
 rcases zd9 x with h|⟨h,Bz⟩|⟨h,Bz⟩
 ·rw[h];rfl
 ·rw[h,Option.bind_some,Bz];rfl
 ·rw[h,Option.bind_some,Bz,ob,afw x h y,Option.bind_some,w1,w4,w3]
  by_cases h4:a+1=(s.size:Int)
  ·rw[zT h4,zT (by omega:(s.size:Int)-a<2)];rfl
  ·have w5:zW zI (256*(x.1:Int))=256*(x.1:Int):=zj (by omega) (by omega)
   have w6:zW zI (256*(x.1:Int)+(y.1:Int))=(x.1:Int)*256+(y.1:Int):=by rw[zj (by omega) (by omega)];omega
   rw[zF h4,zF (by omega:¬(s.size:Int)-a<2),w5,w6]
   have wb:∀{R:Type} (x:Option R),zd (a+1) s.size x=x:=fun x=>zm (by omega) (by omega)
   simp only[wb]
   by_cases h5:(y.1:Int)=0
   ·rw[zT h5,zF (by omega:¬(1<=(y.1:Int)/\(y.1:Int)<=127))];rfl
   ·by_cases h6:(127:Int)<(y.1:Int)
    ·rw[zF h5,zT h6,zF (by omega:¬(1<=(y.1:Int)/\(y.1:Int)<=127))];rfl
    ·rw[zF h5,zF h6,zT (by omega:1<=(y.1:Int)/\(y.1:Int)<=127)];rfl
def cJ(b:Int):Int:=if 48<=b/\b<=57 then b-48 else if 65<=b/\b<=70 then b-55 else-1
def hD(d:Int):Int:=if d<10 then 48+d else 55+d
def fw:List Int->List Int
 | []=>[]
 |x::r=>hD (x/16)::hD (x % 16)::fw r
def gk:List Int->List Int
 |a::b::r=>(16*cJ a+cJ b)::gk r
 |_=>[]
def jg:List Int->Int->Option Int
 | [],_=>none
 |a::r,i=>if cJ a<0 then some i else jg r (i+1)
def nC(s:ByteArray):ByteArray×Int×Bool:=match jg (bl s) 0 with
 |some i=>(bs [],i,false)
 |none=>if s.size % 2=1 then(bs [],(s.size:Int),false) else(strOf (gk (bl s)),0,true)
def rV(s:ByteArray):ByteArray:=strOf (fw (bl s))
abbrev P2:ByteArray:=bs [48,49,50,51,52,53,54,55,56,57,65,66,67,68,69,70]
theorem amT:∀b:Fin 256,sw (b.1:Int)=some (if cJ (b.1:Int)<0 then((0:Int),false) else(cJ (b.1:Int),true)):=by decide+kernel
theorem aiy:∀b:Fin 256,cJ (b.1:Int)<16/\(cJ (b.1:Int)<0\/0<=cJ (b.1:Int)):=by decide+kernel
theorem Uw:∀b:Fin 256,Int.fdiv (b.1:Int) (2^min ((4:Int)).toNat 8)=((b.1/16:Nat):Int)/\aP .and .u8 (b.1:Int) (15:Int)=((b.1 % 16:Nat):Int)/\zW zU (Int.tdiv (b.1:Int) (16:Int))=((b.1/16:Nat):Int)/\Int.tmod (b.1:Int) (16:Int)=((b.1 % 16:Nat):Int):=by decide+kernel
theorem M5:∀d:Fin 16,ze P2 d.1=hD (d.1:Int):=by decide+kernel
theorem aix:∀a b:Fin 16,zW zU (aP .or .i64 (zW zI ((a.1:Int)*2^min ((4:Int)).toNat 64)) (b.1:Int))=16*(a.1:Int)+(b.1:Int)/\zW zU (zW zI (zW zI ((16:Int)*(a.1:Int))+(b.1:Int)))=16*(a.1:Int)+(b.1:Int):=by decide+kernel
theorem XD{x y:Int}(h1:0<=x)(h2:x<16)(h3:0<=y)(h4:y<16):zW zU (aP .or .i64 (zW zI (x*2^min ((4:Int)).toNat 64)) y)=16*x+y/\zW zU (zW zI (zW zI ((16:Int)*x)+y))=16*x+y:=by
 have:=aix ⟨x.toNat,by omega⟩ ⟨y.toNat,by omega⟩
 simpa [Int.toNat_of_nonneg h1,Int.toNat_of_nonneg h3] using this
theorem Cq{b:Int}(h:zn b):cJ b<16:=by
 obtain⟨k,rfl⟩:=mf h
 exact(aiy k).1
theorem aie{b:Int}(h:zn b):sw b=some (if cJ b<0 then((0:Int),false) else(cJ b,true)):=by
 obtain⟨k,rfl⟩:=mf h
 exact amT k
theorem Lj:P2.size=16:=by decide
theorem nib{b:Int}(h:zn b):∃k:Fin 256,b=(k.1:Int)/\ze P2 (b.toNat/16)=hD (b/16)/\ze P2 (b.toNat % 16)=hD (b % 16):=by
 obtain⟨k,rfl⟩:=mf h
 have h1:=M5 ⟨k.1/16,by omega⟩
 have h2:=M5 ⟨k.1 % 16,by omega⟩
 exact⟨k,rfl,by simpa using h1,by simpa using h2⟩
theorem Pj{s:ByteArray}{j:Nat}(h:j<(bl s).length):ze s j=(bl s)[j]:=by rw[me,List.getD_eq_getElem?_getD,List.getElem?_eq_getElem h];rfl
theorem zno(s:ByteArray)(hs:s.size<=1099511627776):∀(n j k:Nat) (o:List Int),j+n=s.size->n<k->o.length+2*n<=35184372088832->Ef k s o (j:Int)=some (o++fw ((bl s).drop j))
 |n,j,0,o,_,hk,_=>by omega
 |0,j,k+1,o,hj,hk,_=>by
  unfold Ef OQ
  rw[zF (by omega),zD,List.drop_eq_nil_of_le (by rw[zg];omega),fw,List.append_nil]
 |n+1,j,k+1,o,hj,hk,ho=>by
  have ar:j<s.size:=by omega
  have hl:j<(bl s).length:=by rw[zg];exact ar
  obtain⟨b,hb,n1,n2⟩:=nib (lq (List.getElem_mem hl))
  have lN:=b.2
  unfold Ef OQ
  rw[zT (by omega),zC]
  simp only[Int.toNat_natCast,Pj hl,hb,(Uw b).1,(Uw b).2.1]
  rw[zk ar,zk (by rw[Lj];omega),zk ar,zk (by rw[Lj];omega),zT (by simp only[List.length_cons,List.length_nil];omega),zC]
  rw[hb] at n1 n2
  simp only[Int.toNat_natCast] at n1 n2
  rw[n1,n2,zu (by omega),zno s hs n (j+1) k _ (by omega) (by omega) (by rw[List.length_append];simp only[List.length_cons,List.length_nil];omega),List.drop_eq_getElem_cons hl,hb,fw,List.append_assoc]
  rfl
theorem zuj(s:ByteArray)(hs:s.size<=1099511627776):jB s=some (rV s):=by
 unfold jB SE
 rw[zj (by omega) (by omega),zT (by omega),zC,zT (by omega),zC]
 have:=zno s hs s.size 0 ai [] (by omega) (by rw[zr];omega) (by simp;omega)
 rw[show((0:Nat):Int)=0 from rfl,List.drop_zero,List.nil_append] at this
 dsimp only
 rw[this];rfl
def kx:List Int->Nat->List Int->Int->Sum Int (List Int)
 | [],_,o,_=> .inr o
 |a::r,i,o,high=>if cJ a<0 then .inl i else if i % 2=0 then kx r (i+1) o (cJ a) else kx r (i+1) (o++ [16*high+cJ a]) high
theorem MW:∀(l:List Int) (i:Nat) (o:List Int) (high:Int),i % 2=0->kx l i o high=(match jg l i with
 |some q=> .inl q
 |none=> .inr (o++gk l))
 | [],i,o,high,h=>by simp [kx,jg,gk]
 | [a],i,o,high,h=>by
   rw[kx,jg]
   by_cases ha:cJ a<0
   ·rw[if_pos ha,if_pos ha]
   ·rw[if_neg ha,if_neg ha,if_pos h]
    simp [kx,jg,gk]
 |a::b::r,i,o,high,h=>by
  rw[kx,jg]
  by_cases ha:cJ a<0
  ·rw[if_pos ha,if_pos ha]
  ·rw[if_neg ha,if_neg ha,if_pos h,kx,jg]
   by_cases hb:cJ b<0
   ·rw[if_pos hb,if_pos hb];rfl
   ·rw[if_neg hb,if_neg hb,if_neg (by omega),MW r (i+1+1) _ _ (by omega),gk,List.append_assoc]
    have:((i:Int)+1+1)=((i+1+1:Nat):Int):=by omega
    rw[this];rfl
theorem Fu(j:Nat):Int.tmod (j:Int) (2:Int)=((j % 2:Nat):Int):=rfl
theorem zag(s:ByteArray)(hs:s.size<=1099511627776):∀(n j k:Nat) (o:List Int) (high:Int),j+n=s.size->n<k->o.length+n<=35184372088832->0<=high/\high<16->∃o',Ee k s o high (j:Int)=some (match kx ((bl s).drop j) j o high with
 | .inl i=> .inl (s,bs [],i,false,o')
 | .inr r=> .inr (s,r))
 |n,j,0,o,high,_,hk,_,_=>by omega
 |0,j,k+1,o,high,hj,hk,_,_=>by
  unfold Ee OP
  rw[zF (by omega),zD,List.drop_eq_nil_of_le (by rw[zg];omega)]
  exact⟨o,rfl⟩
 |n+1,j,k+1,o,high,hj,hk,ho,hh=>by
  have ar:j<s.size:=by omega
  have hl:j<(bl s).length:=by rw[zg];exact ar
  have hb:=lq (List.getElem_mem hl)
  have h16:=Cq hb
  unfold Ee OP
  rw[zT (by omega),zC,zk ar,Int.toNat_natCast,Pj hl,aie hb,zc,List.drop_eq_getElem_cons hl,kx]
  by_cases ha:cJ (bl s)[j]<0
  ·rw[if_pos ha,if_pos ha]
   exact⟨o,rfl⟩
  ·rw[if_neg ha,if_neg ha]
   dsimp only
   rw[Bool.not_true,zD,Fu]
   by_cases hp:j % 2=0
   ·rw[if_pos hp,zT (by omega),zC,zu (by omega)]
    exact zag s hs n (j+1) k o _ (by omega) (by omega) (by omega) (by omega)
   ·rw[if_neg hp,zF (by omega),zD,zT (by simp only[List.length_singleton];omega),zC,zu (by omega),(XD hh.1 hh.2 (by omega) h16).1]
    exact zag s hs n (j+1) k _ high (by omega) (by omega) (by rw[List.length_append,List.length_singleton];omega) hh
theorem zui(s:ByteArray)(hs:s.size<=1099511627776):gA s=some (nC s):=by
 unfold gA SB nC
 have e:Int.tdiv (s.size:Int) 2=((s.size/2:Nat):Int):=rfl
 rw[e,zj (by omega) (by omega),zT (by omega),zC,zT (by omega),zC]
 obtain⟨o',h⟩:=zag s hs s.size 0 ai [] 0 (by omega) (by rw[zr];omega) (by simp;omega) (by omega)
 rw[show((0:Nat):Int)=0 from rfl,List.drop_zero,MW _ 0 _ _ rfl,List.nil_append,show((0:Nat):Int)=0 from rfl] at h
 dsimp only
 rw[h,zc]
 cases jg (bl s) 0 with
 |some i=>rfl
 |none=>
  dsimp only
  rw[Sum.elim_inr]
  unfold SC
  dsimp only
  rw[Fu]
  by_cases hp:s.size % 2=1
  ·rw[if_pos hp,zF (by omega)];rfl
  ·rw[if_neg hp,zT (by omega)];rfl
theorem ael{l:List Int}:∀{i:Int},jg l i=none->∀a∈l,0<=cJ a:=by
 induction l with
 |nil=>intro i _ a ha;cases ha
 |cons b r ih=>
  intro i h a ha
  rw[jg] at h
  by_cases hb:cJ b<0
  ·rw[if_pos hb] at h;cases h
  ·rw[if_neg hb] at h
   rcases List.mem_cons.1 ha with rfl|ha
   ·omega
   ·exact ih h a ha
theorem aiA:∀d:Fin 16,cJ (hD (d.1:Int))=(d.1:Int)/\zn (hD (d.1:Int)):=by
 have:∀d:Fin 16,cJ (hD (d.1:Int))=(d.1:Int)/\0<=hD (d.1:Int)/\hD (d.1:Int)<256:=by decide+kernel
 exact this
theorem M0{d:Int}(h:0<=d)(h2:d<16):cJ (hD d)=d/\zn (hD d):=by
 have:=aiA ⟨d.toNat,by omega⟩
 simpa [Int.toNat_of_nonneg h] using this
theorem KD:∀{l:List Int},(∀x∈l,zn x)->∀y∈fw l,zn y
 | [],_,y,hy=>by cases hy
 |x::r,h,y,hy=>by
  have hx:=h x List.mem_cons_self
  unfold zn at hx
  rw[fw] at hy
  rcases List.mem_cons.1 hy with rfl|hy
  ·exact(M0 (by omega) (by omega)).2
  ·rcases List.mem_cons.1 hy with rfl|hy
   ·exact(M0 (by omega) (by omega)).2
   ·exact KD (fun z hz=>h z (List.mem_cons_of_mem _ hz)) y hy
theorem LP:∀l:List Int,(fw l).length=2*l.length
 | []=>rfl
 |x::r=>by rw[fw,List.length_cons,List.length_cons,LP r,List.length_cons];omega
theorem ae0(s:ByteArray):bl (rV s)=fw (bl s):=uB (KD fun x hx=>lq hx)
theorem zah(s:ByteArray):(rV s).size=2*s.size:=by rw[<-zg,ae0,LP,zg]
theorem aiz:∀b:Fin 256,0<=cJ (b.1:Int)->hD (cJ (b.1:Int))=(b.1:Int):=by decide+kernel
theorem KC{b:Int}(h:zn b)(h0:0<=cJ b):hD (cJ b)=b:=by
 obtain⟨k,rfl⟩:=mf h
 exact aiz k h0
theorem zS:∀{l:List Int},l.length % 2=0->(∀x∈l,zn x/\0<=cJ x)->fw (gk l)=l/\∀y∈gk l,zn y
 | [],_,_=>⟨by simp [fw,gk],fun y hy=>by simp [gk] at hy⟩
 | [a],h,_=>by simp at h
 |a::b::r,h,hx=>by
  obtain⟨a1,a2⟩:=hx a (by simp)
  obtain⟨b1,b2⟩:=hx b (by simp)
  have a3:=Cq a1
  have b3:=Cq b1
  obtain⟨i1,i2⟩:=zS (l:=r) (by simp only[List.length_cons] at h;omega) fun y hy=>hx y (by simp [hy])
  rw[gk,fw]
  refine⟨?_,fun y hy=> ?_⟩
  ·rw[show(16*cJ a+cJ b)/16=cJ a by omega,show(16*cJ a+cJ b)% 16=cJ b by omega,KC a1 a2,KC b1 b2,i1]
  ·rcases List.mem_cons.1 hy with rfl|hy
   ·unfold zn;omega
   ·exact i2 y hy
theorem zho{s t:ByteArray}{i:Int}(h:nC s=(t,i,true)):rV t=s/\s.size=2*t.size:=by
 unfold nC at h
 cases hb:jg (bl s) 0 with
 |some q=>rw[hb] at h;cases h
 |none=>
  rw[hb] at h
  dsimp only at h
  by_cases hp:s.size % 2=1
  ·rw[if_pos hp] at h;cases h
  ·rw[if_neg hp] at h
   have ht:t=strOf (gk (bl s)):=(congrArg Prod.fst h).symm
   obtain⟨e1,e2⟩:=zS (l:=bl s) (by rw[zg];omega) fun x hx=>⟨lq hx,ael hb x hx⟩
   have e3:rV t=s:=by
    unfold rV
    rw[ht,uB e2,e1,D1]
   exact⟨e3,by rw[<-e3,zah]⟩
def cE(b:Int):Bool:=decide (48<=b/\b<=57)
def bF(l:List Int):Bool:=l.all cE
theorem zgr(b:Int)(l:List Int):bF (b::l)=(cE b&&bF l):=rfl
theorem alb{b:Int}(h:48<=b/\b<=57):cE b=true:=zT h
theorem z105{b:Int}(h:¬(48<=b/\b<=57)):cE b=false:=zF h
theorem PN{s:ByteArray}{j:Nat}(h:j<s.size):(bl s).getD j 0=((s[j]'h).toNat:Int):=by
 rw[<-me]
 unfold ze
 rw[dif_pos h]
theorem Uq{s:ByteArray}{j:Nat}(h:j<s.size):(bl s).drop j=((s[j]'h).toNat:Int)::(bl s).drop (j+1):=by
 have h':j<(bl s).length:=by rw[zg];exact h
 rw[List.drop_eq_getElem_cons h']
 congr 1
 have:=PN h
 rw[List.getD_eq_getElem?_getD,List.getElem?_eq_getElem h'] at this
 exact this
theorem aa1(s:ByteArray)(pos:Nat)(h:pos<s.size)(ha:128<=(s[pos]'h).toNat):128<=(Utf8.decode s pos).1:=by
 have e:s.get! (pos+0)=s[pos]'h:=by
  show s.get! pos=_
  simp [ByteArray.get!,getElem!_pos,h]
  rfl
 unfold Utf8.decode
 simp only[e]
 rw[if_neg (by omega)]
 have Qr:128<=Utf8.runeError:=by unfold Utf8.runeError;omega
 split
 ·split
  ·assumption
  ·exact Qr
 ·split
  ·split
   ·rename_i hc
    simp only[Bool.and_eq_true,decide_eq_true_eq] at hc
    have:=hc.1
    simp only
    omega
   ·exact Qr
  ·split
   ·split
    ·rename_i hc
     simp only[Bool.and_eq_true,decide_eq_true_eq] at hc
     have:=hc.1
     simp only
     omega
    ·exact Qr
   ·exact Qr
theorem Lp(s:ByteArray):∀(n j k:Nat),s.size-j<=n->j<=s.size->n<k->FR k (s,j)=some (bif bF ((bl s).drop j) then .inr () else .inl false)
 |n,j,0,_,_,hk=>by omega
 |n,j,k+1,hn,hj,hk=>by
  unfold FR Vu
  dsimp only
  by_cases ar:j<s.size
  ·rw[zT ar,zC,Uq ar,zgr]
   by_cases h1:(s[j]'ar).toNat<128
   ·rw[decode_ascii s j ar h1]
    dsimp only
    by_cases h2:((s[j]'ar).toNat:Int)<48
    ·rw[zT h2,zC,z105 (by omega)];rfl
    ·rw[zF h2,zD]
     by_cases h3:(57:Int)<((s[j]'ar).toNat:Int)
     ·rw[zT h3,zC,z105 (by omega)];rfl
     ·obtain⟨n,rfl⟩:∃n',n=n'+1:=⟨n-1,by omega⟩
      rw[zF h3,zD,alb (by omega),Bool.true_and,Lp s n (j+1) k (by omega) (by omega) (by omega)]
   ·have hd:=aa1 s j ar (by omega)
    rw[zF (by omega:¬((Utf8.decode s j).1:Int)<48),zD,zT (by omega:(57:Int)<((Utf8.decode s j).1:Int)),zC,z105 (by omega)];rfl
  ·rw[zF ar,zD,List.drop_eq_nil_of_le (by rw[zg];omega)];rfl
theorem UD(s:ByteArray)(h:s.size<=maxLen):xZ s=some (bF (bl s)):=by
 unfold xZ Vt
 dsimp only
 rw[zh] at h
 rw[Lp s s.size 0 ai (by omega) (by omega) (by rw[zr];omega),List.drop_zero]
 cases bF (bl s)<;>rfl
theorem abu(b:Int):G3 b=some (cE b):=by
 unfold G3 Wc cE
 by_cases h:(48:Int)<=b
 ·rw[zT h,zC];congr 1;apply decide_eq_decide.2;omega
 ·rw[zF h,zD];congr 1;symm;apply zF;omega
theorem ztv(s:ByteArray)(hs:s.size<=9223372036854775807):∀(n j k:Nat),s.size-j<=n->j<=s.size->n<k->FX k s (j:Int)=some (bif bF ((bl s).drop j) then .inr () else .inl false)
 |n,j,0,_,_,hk=>by omega
 |n,j,k+1,hn,hj,hk=>by
  unfold FX Wb
  dsimp only
  by_cases ar:j<s.size
  ·rw[zT (by omega),zC,zk ar,abu,Int.toNat_natCast,me,PN ar,Uq ar,zgr]
   rw[Option.bind_some]
   cases h1:cE ((s[j]'ar).toNat:Int) with
   |false=>rfl
   |true=>
    obtain⟨n,rfl⟩:∃n',n=n'+1:=⟨n-1,by omega⟩
    simp only[Bool.not_true,zD,Bool.true_and]
    rw[zu (by omega),ztv s hs n (j+1) k (by omega) (by omega) (by omega)]
  ·rw[zF (by omega),zD,List.drop_eq_nil_of_le (by rw[zg];omega)];rfl
theorem z138(s:ByteArray)(h:s.size<=maxLen):ER s=some (bF (bl s)):=by
 unfold ER Wa
 dsimp only
 rw[zh] at h
 have:=ztv s h s.size 0 ai (by omega) (by omega) (by rw[zr];omega)
 rw[show((0:Nat):Int)=(0:Int) from rfl] at this
 rw[this,List.drop_zero]
 cases bF (bl s)<;>rfl
def fh(l:List Int)(n:Int):Int:=l.foldl (fun n b=>10*n+(b-48)) n
theorem zvc:∀(l:List Int) (n:Int) (k:Nat),bF l=true->0<=n->n<((10^k:Nat):Int)->l.length+k<=18->0<=fh l n/\fh l n<((10^(l.length+k):Nat):Int)
 | [],n,k,_,h1,h2,_=>by simpa [fh] using⟨h1,h2⟩
 |b::l,n,k,hd,h1,h2,hl=>by
  simp only[bF,List.all_cons,Bool.and_eq_true,cE,decide_eq_true_eq] at hd
  have hp:((10^(k+1):Nat):Int)=10*((10^k:Nat):Int):=by rw[Nat.pow_succ];omega
  have:=zvc l (10*n+(b-48)) (k+1) hd.2 (by omega) (by rw[hp];omega) (by simp at hl;omega)
  simp only[fh,List.foldl_cons,List.length_cons] at this⊢
  rw[show l.length+1+k=l.length+(k+1) by omega]
  exact this
theorem As{k m:Nat}(h:k<=m):10^k<=10^m:=Nat.pow_le_pow_right (by decide) h
theorem NU(k:Nat):((10^(k+1):Nat):Int)=10*((10^k:Nat):Int):=by rw[Nat.pow_succ];omega
theorem At:(10:Nat)^17=100000000000000000:=by decide
theorem LM(s:ByteArray)(hs:s.size<=18)(hd:bF (bl s)=true):∀(n j k:Nat) (t:Int),s.size-j<=n->j<=s.size->n<k->0<=t->t<((10^j:Nat):Int)->FT k t (s,j)=some (fh ((bl s).drop j) t)
 |n,j,0,t,_,_,hk,_,_=>by omega
 |n,j,k+1,t,hn,hj,hk,h0,h1=>by
  unfold FT Vx
  dsimp only
  by_cases ar:j<s.size
  ·have IP:cE ((s[j]'ar).toNat:Int)=true:=by
    have:=List.all_eq_true.1 hd ((bl s).getD j 0) (by
     rw[List.getD_eq_getElem?_getD,List.getElem?_eq_getElem (by rw[zg];exact ar)]
     exact List.getElem_mem _)
    rw[PN ar] at this
    exact this
   simp only[cE,decide_eq_true_eq] at IP
   rw[zT ar,zC,decode_ascii s j ar (by omega),Uq ar]
   dsimp only
   have I7:=NU j
   have w32:IntKind.i32.wrap (((s[j]'ar).toNat:Int)-48)=((s[j]'ar).toNat:Int)-48:=by
    simp [IntKind.wrap,IntKind.signed,IntKind.bits];omega
   obtain⟨n,rfl⟩:∃n',n=n'+1:=⟨n-1,by omega⟩
   have ht:t<100000000000000000:=by
    have:=As (show j<=17 by omega)
    rw[At] at this
    omega
   have a1:zW zI (10*t)=10*t:=zj (by omega) (by omega)
   have a2:zW zI (((s[j]'ar).toNat:Int)-48)=((s[j]'ar).toNat:Int)-48:=zj (by omega) (by omega)
   rw[w32,a1,a2,zj (by omega) (by omega),LM s hs hd n (j+1) k _ (by omega) (by omega) (by omega) (by omega) (by omega)]
   rfl
  ·rw[zF ar,zD,List.drop_eq_nil_of_le (by rw[zg];omega)];rfl
def dT(l:List Int):Int×Bool:=if 1<=l.length/\l.length<=18/\bF l=true then(fh l 0,true) else(0,false)
theorem Nr(s:ByteArray)(h:s.size<=maxLen):x4 s=some (dT (bl s)):=by
 unfold x4 Vw dT
 dsimp only
 rw[zg]
 by_cases h0:s=bs []
 ·rw[zT h0,zC,if_neg]
  rw[h0]
  intro hh
  have:(bs []).size=0:=rfl
  omega
 ·have hz:s.size≠0:=fun e=>h0 (zcz.2 (List.eq_nil_of_length_eq_zero (by rw[zg];exact e)))
  rw[zF h0,zD]
  by_cases h1:(18:Int)<(s.size:Int)
  ·rw[zT h1,zC,if_neg (by omega)]
  ·rw[zF h1,zD,UD s h,Option.bind_some]
   cases hd:bF (bl s) with
   |false=>rw[if_neg (by simp)];rfl
   |true=>
    rw[if_pos ⟨by omega,by omega,rfl⟩]
    simp only[Bool.not_true,zD]
    rw[LM s (by omega) hd s.size 0 ai 0 (by omega) (by omega) (by rw[zr];omega) (by omega) (by decide),List.drop_zero,Option.bind_some]
    rfl
theorem zue(s:ByteArray)(hs:s.size<=18)(hd:bF (bl s)=true):∀(n j k:Nat) (t:Int),s.size-j<=n->j<=s.size->n<k->0<=t->t<((10^j:Nat):Int)->FY k s t (j:Int)=some (fh ((bl s).drop j) t)
 |n,j,0,t,_,_,hk,_,_=>by omega
 |n,j,k+1,t,hn,hj,hk,h0,h1=>by
  unfold FY Wg
  dsimp only
  by_cases ar:j<s.size
  ·have IP:cE ((s[j]'ar).toNat:Int)=true:=by
    have:=List.all_eq_true.1 hd ((bl s).getD j 0) (by
     rw[List.getD_eq_getElem?_getD,List.getElem?_eq_getElem (by rw[zg];exact ar)]
     exact List.getElem_mem _)
    rw[PN ar] at this
    exact this
   simp only[cE,decide_eq_true_eq] at IP
   rw[zT (by omega),zC,zk ar,Int.toNat_natCast,me,PN ar,Uq ar]
   have I7:=NU j
   obtain⟨n,rfl⟩:∃n',n=n'+1:=⟨n-1,by omega⟩
   have ht:t<100000000000000000:=by
    have:=As (show j<=17 by omega)
    rw[At] at this
    omega
   have a1:zW zI (10*t)=10*t:=zj (by omega) (by omega)
   have a2:zW zI ((s[j]'ar).toNat:Int)=((s[j]'ar).toNat:Int):=zj (by omega) (by omega)
   have a3:zW zI (10*t+((s[j]'ar).toNat:Int))=10*t+((s[j]'ar).toNat:Int):=zj (by omega) (by omega)
   rw[a1,a2,a3,zj (by omega) (by omega),zu (by omega),zue s hs hd n (j+1) k _ (by omega) (by omega) (by omega) (by omega) (by omega)]
   simp only[fh,List.foldl_cons]
   congr 2
   omega
  ·rw[zF (by omega),zD,List.drop_eq_nil_of_le (by rw[zg];omega)];rfl
theorem af6(s:ByteArray)(h:s.size<=maxLen):G5 s=some (dT (bl s)):=by
 unfold G5 We dT
 dsimp only
 rw[zg]
 by_cases h0:(s.size:Int)<1
 ·rw[zT h0,zC,if_neg (by omega)]
 ·rw[zF h0,zD]
  by_cases h1:(18:Int)<(s.size:Int)
  ·rw[zT h1,zC,if_neg (by omega)]
  ·rw[zF h1,zD,z138 s h,Option.bind_some]
   cases hd:bF (bl s) with
   |false=>rw[if_neg (by simp)];rfl
   |true=>
    rw[if_pos ⟨by omega,by omega,rfl⟩]
    simp only[Bool.not_true,zD]
    have:=zue s (by omega) hd s.size 0 ai 0 (by omega) (by omega) (by rw[zr];omega) (by omega) (by decide)
    rw[show((0:Nat):Int)=(0:Int) from rfl] at this
    rw[this,List.drop_zero,Option.bind_some]
    rfl
def uJ:Nat->Nat->List Int
 |0,_=>[]
 |w+1,n=>uJ w (n/10)++ [((48+n % 10:Nat):Int)]
theorem zd7:∀w n,(uJ w n).length=w
 |0,_=>rfl
 |w+1,n=>by rw[uJ,List.length_append,zd7 w];rfl
theorem z167{l:List Int}(h:bF l=true):∀x∈l,zn x:=fun x hx=>by
 have:=List.all_eq_true.1 h x hx
 simp only[cE,decide_eq_true_eq] at this
 unfold zn;omega
theorem aaQ(a b:List Int):strOf (a++b)=strOf a++strOf b:=by
 apply ByteArray.ext
 simp [strOf,ByteArray.data_append]
theorem am4(n:Nat):Int.tmod (n:Int) 10=((n % 10:Nat):Int):=by rw[Int.tmod_eq_emod_of_nonneg (by omega)];omega
theorem am3(n:Nat):Int.tdiv (n:Int) 10=((n/10:Nat):Int):=by rw[Int.tdiv_eq_ediv_of_nonneg (by omega)];omega
theorem aid(n:Nat):zW zU (zW zI ((48:Int)+((n % 10:Nat):Int)))=((48+n % 10:Nat):Int):=by
 rw[zj (by omega) (by omega),uu (by omega) (by omega)];omega
theorem MT(n w:Nat):n/10/10^w=n/10^(w+1):=by rw[Nat.div_div_eq_div_mul,Nat.pow_succ,Nat.mul_comm]
theorem fg(x:Int)(tail:List Int):∀j,(List.replicate (j+1) (0:Int)++tail).set j x=List.replicate j 0++x::tail
 |0=>rfl
 |j+1=>by
  show(0:Int)::((List.replicate (j+1) (0:Int)++tail).set j x)=0::(List.replicate j 0++x::tail)
  rw[fg x tail j]
theorem L5(nt YC:Nat)(hnt:nt<=18):∀(j k n:Nat) (tail:List Int),nt=j+tail.length->n<=9223372036854775807->j<k->
 EA k (n:Int) nt ((j:Int)-1) YC (List.replicate j 0++tail)=some (((n/10^j:Nat):Int),nt,YC,uJ j n++tail)
 |j,0,n,tail,_,_,hk=>by omega
 |0,k+1,n,tail,h,hn,hk=>by
  unfold EA Pw
  dsimp only
  rw[zF (by omega),zD]
  simp [uJ]
 |j+1,k+1,n,tail,h,hn,hk=>by
  unfold EA Pw
  dsimp only
  have e:(((j+1:Nat):Int)-1)=(j:Int):=by omega
  rw[e,zT (by omega:(0:Int)<=(j:Int)),zC,zk (by omega),Int.toNat_natCast,am4,am3,aid]
  have hb:Nat.ble (j+1) (List.replicate (j+1) (0:Int)++tail).length=true:=Nat.ble_eq_true_of_le (by simp)
  rw[hb,zC,xK (by omega),zj (by omega) (by omega)]
  rw[fg,L5 nt YC hnt j k (n/10) _ (by simp;omega) (by omega) (by omega),MT]
  simp [uJ]
def jq(n w:Int):ByteArray×Bool:=bif decide (0<=n/\1<=w/\w<=18/\n.toNat/10^w.toNat=0) then(strOf (uJ w.toNat n.toNat),true) else(bs [],false)
theorem DF{n w:Int}(h:0<=n/\1<=w/\w<=18/\n.toNat/10^w.toNat=0):jq n w=(strOf (uJ w.toNat n.toNat),true):=by unfold jq;rw[zT h];rfl
theorem PY{n w:Int}(h:¬(0<=n/\1<=w/\w<=18/\n.toNat/10^w.toNat=0)):jq n w=(bs [],false):=by unfold jq;rw[zF h];rfl
theorem alA(n w:Int)(hn:n<=9223372036854775807):Gu n w=some (jq n w):=by
 unfold Gu VA
 dsimp only
 by_cases h1:n<0
 ·rw[zT h1,zC,PY (by omega)]
 rw[zF h1,zD]
 by_cases h2:w<1
 ·rw[zT h2,zC,PY (by omega)]
 rw[zF h2,zD]
 by_cases h3:(18:Int)<w
 ·rw[zT h3,zC,PY (by omega)]
 rw[zF h3,zD,zT (rfl:w=w),zC,zT (by omega:(0:Int)<=w),zC,zT (by omega:w*1<=140737488355328),zC]
 obtain⟨m,rfl⟩:∃m:Nat,n=m:=⟨n.toNat,by omega⟩
 obtain⟨v,rfl⟩:∃v:Nat,w=v:=⟨w.toNat,by omega⟩
 simp only[Int.toNat_natCast]
 have:=L5 v v (by omega) v ai m [] (by simp) (by omega) (by rw[zr];omega)
 simp only[List.append_nil] at this
 rw[zj (by omega) (by omega),this,zc]
 unfold VB
 dsimp only
 by_cases h4:(0:Int)<((m/10^v:Nat):Int)
 ·rw[zT h4,zC,PY (by simp only[Int.toNat_natCast];generalize m/10^v=q at h4⊢;omega)]
 ·rw[zF h4,zD,zd7,Nat.beq_refl,zC,DF (by simp only[Int.toNat_natCast];generalize m/10^v=q at h4⊢;omega)]
  simp only[Int.toNat_natCast]
theorem z196(l r:List Int)(n:Int):fh (l++r) n=fh r (fh l n):=by unfold fh;rw[List.foldl_append]
theorem LB:∀(w n:Nat) (l:List Int),bF l=true->w=l.length->fh l 0=(n:Int)->uJ w n=l/\n/10^w=0
 |0,n,l,hd,hw,hv=>by
  obtain rfl:=List.eq_nil_of_length_eq_zero hw.symm
  have:(0:Int)=n:=hv
  obtain rfl:n=0:=by omega
  exact⟨rfl,rfl⟩
 |w+1,n,l,hd,hw,hv=>by
  have bK:l≠ []:=by intro e;subst e;simp at hw
  obtain⟨r,b,rfl⟩:∃r b,l=r++ [b]:=⟨l.dropLast,l.getLast bK,(List.dropLast_concat_getLast bK).symm⟩
  rw[bF,List.all_append,Bool.and_eq_true,List.all_cons,List.all_nil,Bool.and_true] at hd
  have hb:=hd.2
  simp only[cE,decide_eq_true_eq] at hb
  rw[z196] at hv
  have iQ:10*fh r 0+(b-48)=n:=hv
  obtain⟨i1,i2⟩:=LB w (n/10) r hd.1 (by simpa using hw) (by omega)
  refine⟨?_,by rw[<-MT];exact i2⟩
  rw[uJ,i1]
  congr 2
  omega
def fG(l:List Int):Bool:=l.all fun b=>decide (b=48)
theorem Rc(b:Int)(l:List Int):fG (b::l)=(decide (b=48)&&fG l):=rfl
theorem za5(a b:List Int):fG (a++b)=(fG a&&fG b):=List.all_append ..
theorem abG(s:ByteArray)(x:Int)(l:List Int)(h:bl s=x::l):ze s 0=x:=by rw[me,h];rfl
theorem JR(k:Nat):∀(s:ByteArray),s.size<k->s.size<=9223372036854775807->∃r,FG k s 48=some r/\fG (bl r)=fG (bl s)/\(fG (bl s)=true->bl r=[])/\r.size<=s.size:=by
 induction k with
 |zero=>intro s h;omega
 |succ k ih=>
  intro s h hs
  unfold FG TT
  dsimp only
  by_cases h0:(0:Int)<(s.size:Int)
  ·have hm:zW zI ((s.size:Int)-1)=((s.size-1:Nat):Int):=by rw[zj (by omega) (by omega)];omega
   rw[zT h0,zC,hm,zk (by omega),Int.toNat_natCast]
   have hl:(bl s).length=s.size:=zg s
   have bK:bl s≠ []:=by intro e;rw[e] at hl;simp at hl;omega
   obtain⟨r,b,hb⟩:∃r b,bl s=r++ [b]:=⟨(bl s).dropLast,(bl s).getLast bK,(List.dropLast_concat_getLast bK).symm⟩
   have hr:r.length=s.size-1:=by rw[hb] at hl;simp at hl;omega
   have hx:ze s (s.size-1)=b:=by
    rw[me,hb,<-hr,List.getD_eq_getElem?_getD];simp
   rw[hx]
   by_cases hz:b=48
   ·rw[zT hz,zC,zT (by omega:(0:Int)<=((s.size-1:Nat):Int)),zC,zT (by omega:((s.size-1:Nat):Int)<=((s.size:Nat):Int)),zC]
    have he:bl (s.extract 0 (s.size-1))=r:=by rw[uT,hb,List.drop_zero,<-hr,List.take_left'];rfl
    have du:(s.extract 0 (s.size-1)).size=s.size-1:=by rw[<-zg,he,hr]
    obtain⟨q,q1,q2,q3,q4⟩:=ih (s.extract 0 (s.size-1)) (by omega) (by omega)
    refine⟨q,q1,?_,fun ha=>q3 ?_,by omega⟩
    ·rw[q2,he,hb,za5,Rc,zT hz];simp [fG]
    ·rw[hb,za5,Bool.and_eq_true] at ha
     rw[he];exact ha.1
   ·rw[zF hz,zD]
    refine⟨s,rfl,rfl,fun ha=> ?_,Nat.le_refl _⟩
    rw[hb,za5,Rc,zF hz] at ha
    simp at ha
  ·rw[zF h0,zD]
   refine⟨s,rfl,rfl,fun _=>List.eq_nil_of_length_eq_zero (by rw[zg];omega),Nat.le_refl _⟩
theorem Iu{s:ByteArray}{x:Int}{l:List Int}(h:bl s=x::l):bl (s.extract 1 s.size)=l:=by
 rw[uT,<-zg,List.take_length,h];rfl
theorem JQ(k:Nat):∀(s:ByteArray),s.size<k->s.size<=9223372036854775807->∃r,FF k s 48=some r/\((bl r=[])↔fG (bl s)=true):=by
 induction k with
 |zero=>intro s h;omega
 |succ k ih=>
  intro s h hs
  unfold FF TP
  dsimp only
  have hl:(bl s).length=s.size:=zg s
  by_cases h0:(0:Int)<(s.size:Int)
  ·rw[zT h0,zC,zm (by omega) h0]
   cases hb:bl s with
   |nil=>rw[hb] at hl;simp at hl;omega
   |cons x l=>
    rw[show((0:Int)).toNat=0 from rfl,show((1:Int)).toNat=1 from rfl,abG s x l hb]
    by_cases hz:x=48
    ·rw[zT hz,zC,zT (by omega:(1:Int)<=((s.size:Nat):Int)),zC]
     have he:=Iu hb
     have du:(s.extract 1 s.size).size=s.size-1:=by rw[<-zg,he,<-hl,hb];simp
     obtain⟨q,q1,q2⟩:=ih (s.extract 1 s.size) (by omega) (by omega)
     refine⟨q,q1,q2.trans ?_⟩
     rw[he,Rc,zT hz];simp
    ·rw[zF hz,zD]
     refine⟨s,rfl,?_⟩
     rw[hb,Rc,zF hz];simp
  ·rw[zF h0,zD]
   have:bl s=[]:=List.eq_nil_of_length_eq_zero (by omega)
   refine⟨s,rfl,?_⟩
   rw[this];simp [fG]
theorem akJ(s:ByteArray)(h:s.size<=9223372036854775807):∃r,sS s (bs [48])=some r/\(r=bs []↔fG (bl s)=true):=by
 unfold sS TM
 by_cases h0:s=bs []
 ·rw[zT h0,zC]
  refine⟨s,rfl,?_⟩
  rw[h0];simp [Lw,fG]
 rw[zF h0,zD,zF (show¬bs [48]=bs [] from fun e=>absurd (congrArg ByteArray.size e) (by decide)),zD,zT (by rfl:(((bs [48]).size:Nat):Int)=1),zC]
 have hb:ze (bs [48]) ((0:Int)).toNat=48:=by rw[me];rfl
 have hw {R:Type} (x:Option R):zd (0:Int) (bs [48]).size x=x:=zm (by omega) (by decide)
 rw[hw,hb,zT (by decide:(48:Int)<128),zC,hw]
 unfold vu TS
 dsimp only
 obtain⟨r,r1,r2,r3,r4⟩:=JR ai s (by rw[zr];omega) h
 rw[r1,zc]
 unfold TU
 rw[zc,hw]
 unfold vr TO
 dsimp only
 obtain⟨q,q1,q2⟩:=JQ ai r (by rw[zr];omega) (by omega)
 rw[q1,zc]
 unfold TQ
 rw[zc]
 refine⟨q,rfl,?_⟩
 rw[zcz,q2,r2]
theorem zi0:∀(c:Nat),bl ⟨(Go.Lib.repeatL (bs [48]).data.toList c).toArray⟩=List.replicate c 48
 |0=>rfl
 |c+1=>by
  rw[List.replicate_succ,<-zi0 c]
  simp only[bl,Go.Lib.repeatL,List.map_append]
  rfl
def fy(s:ByteArray)(w:Int):ByteArray×Bool:=
 bif decide (1<=s.size/\s.size<=999/\bF (bl s)=true/\1<=w/\w<=999) then
  (bif decide ((s.size:Int)<=w) then(strOf (List.replicate (w-s.size).toNat 48++bl s),true)
   else bif fG ((bl s).take (s.size-w.toNat)) then(strOf ((bl s).drop (s.size-w.toNat)),true) else(bs [],false))
 else(bs [],false)
theorem F7{s:ByteArray}{w:Int}(h:¬(1<=s.size/\s.size<=999/\bF (bl s)=true/\1<=w/\w<=999)):fy s w=(bs [],false):=by unfold fy;rw[zF h];rfl
theorem NT{s:ByteArray}{w:Int}(h:1<=s.size/\s.size<=999/\bF (bl s)=true/\1<=w/\w<=999):fy s w=(bif decide ((s.size:Int)<=w) then(strOf (List.replicate (w-s.size).toNat 48++bl s),true)
 else bif fG ((bl s).take (s.size-w.toNat)) then(strOf ((bl s).drop (s.size-w.toNat)),true) else(bs [],false)):=by unfold fy;rw[zT h];rfl
theorem alz(s:ByteArray)(w:Int)(h:s.size<=maxLen):Gs s w=some (fy s w):=by
 unfold Gs Vy
 dsimp only
 by_cases h0:s=bs []
 ·rw[zT h0,zC,F7]
  intro hh
  rw[h0] at hh
  exact absurd hh.1 (by decide)
 have hz:s.size≠0:=fun e=>h0 (zcz.2 (List.eq_nil_of_length_eq_zero (by rw[zg];exact e)))
 rw[zF h0,zD]
 by_cases h1:(999:Int)<(s.size:Int)
 ·rw[zT h1,zC,F7 (by omega)]
 rw[zF h1,zD,UD s h,zc]
 cases hd:bF (bl s) with
 |false=>rw[F7 (by rw[hd];simp)];rfl
 |true=>
  rw[Bool.not_true,zD]
  by_cases h2:w<1
  ·rw[zT h2,zC,F7 (by omega)]
  rw[zF h2,zD]
  by_cases h3:(999:Int)<w
  ·rw[zT h3,zC,F7 (by omega)]
  rw[zF h3,zD,NT ⟨by omega,by omega,hd,by omega,by omega⟩]
  obtain⟨v,rfl⟩:∃v:Nat,w=v:=⟨w.toNat,by omega⟩
  by_cases h4:(s.size:Int)<=(v:Int)
  ·rw[zT h4,zC,zC]
   obtain⟨c,hc⟩:∃c:Nat,(v:Int)-(s.size:Int)=(c:Int):=⟨v-s.size,by omega⟩
   rw[hc,xK (by omega)]
   have hR:strings_Repeat (bs [48]) (c:Int)=some ⟨(Go.Lib.repeatL (bs [48]).data.toList c).toArray⟩:=by
    unfold strings_Repeat
    rw[zT (by omega:(0:Int)<=(c:Int)),zT (by omega:(c:Int)<=9223372036854775807),zT (by rw[show(((bs [48]).size:Nat):Int)=1 from rfl];omega),Int.toNat_natCast]
    rfl
   rw[hR,zc]
   have du:((⟨(Go.Lib.repeatL (bs [48]).data.toList c).toArray⟩:ByteArray)).size=c:=by rw[<-zg,zi0,List.length_replicate]
   rw[du,zT (by omega),zC,Int.toNat_natCast]
   congr 2
   apply EH
   rw[xB,zi0,uB]
   intro x hx
   rcases List.mem_append.1 hx with hx|hx
   ·rw[(List.mem_replicate.1 hx).2];unfold zn;omega
   ·exact lq hx
  ·rw[zF h4,zD,zD]
   obtain⟨c,hc⟩:∃c:Nat,(s.size:Int)-(v:Int)=(c:Int):=⟨s.size-v,by omega⟩
   have hcv:s.size-((v:Int)).toNat=c:=by omega
   rw[hc,xK (by omega),zT (by omega:(0:Int)<=(c:Int)),zC,zT (by omega:(c:Int)<=((s.size:Nat):Int)),zC,Int.toNat_natCast,hcv]
   have hx:bl (s.extract 0 c)=(bl s).take c:=by rw[uT,List.drop_zero]
   have rL:(s.extract 0 c).size=c:=by rw[<-zg,hx,List.length_take,zg];omega
   obtain⟨r,r1,r2⟩:=akJ (s.extract 0 c) (by omega)
   rw[r1,zc]
   rw[hx] at r2
   cases ha:fG ((bl s).take c) with
   |true=>
    rw[zT (r2.2 ha),Bool.not_true,zD,zC,zC]
    congr 2
    apply EH
    rw[uT,<-zg,List.take_length,uB]
    exact fun x hx=>lq (List.mem_of_mem_drop hx)
   |false=>
    rw[zF (fun e=>by rw[r2.1 e] at ha;cases ha),Bool.not_false,zC];rfl
def dR:List Int->List Int
 |a::b::r=>(16*(a-48)+(b-48))::dR r
 |_=>[]
def qi(s:ByteArray):ByteArray×Bool:=
 bif decide (s.size<=999/\bF (bl s)=true) then(strOf (dR (if s.size % 2=1 then 48::bl s else bl s)),true) else(bs [],false)
def gD(odd:Bool):List Int->Nat->Option (Int×Int)
 | [],_=>none
 |x::r,i=>if i=0/\odd=true/\x/16≠0 then some (4,0) else if 9<x/16\/9<x % 16 then some (3,i) else gD odd r (i+1)
def dQ:List Int->List Int
 | []=>[]
 |x::r=>(48+x/16)::(48+x % 16)::dQ r
def kH(b:ByteArray)(n:Int):ByteArray×Int×Int:=
 if n<0\/999<n then(bs [],1,0) else if(b.size:Int)<(n+1)/2 then(bs [],2,(b.size:Int)) else
 match gD (decide (n % 2=1)) ((bl b).take ((n+1)/2).toNat) 0 with
 |some e=>(bs [],e.1,e.2)
 |none=>(strOf ((dQ ((bl b).take ((n+1)/2).toNat)).drop (n % 2).toNat),0,0)
theorem ahW:∀a b:Fin 10,aP .or .u8 (zW zU ((zW zU ((48+(a.1:Int))-48))*2^min ((4:Int)).toNat 8)) (zW zU ((48+(b.1:Int))-48))=16*(a.1:Int)+(b.1:Int):=by decide+kernel
theorem MS{x:Int}(h:cE x=true):∃k:Fin 10,x=48+(k.1:Int):=by
 unfold cE at h
 simp only[Bool.and_eq_true,decide_eq_true_eq] at h
 exact⟨⟨(x-48).toNat,by omega⟩,by simp;omega⟩
theorem W8{x y:Int}(hx:cE x=true)(hy:cE y=true):aP .or .u8 (zW zU ((zW zU (x-48))*2^min ((4:Int)).toNat 8)) (zW zU (y-48))=16*(x-48)+(y-48):=by
 obtain⟨a,rfl⟩:=MS hx
 obtain⟨b,rfl⟩:=MS hy
 have:=ahW a b
 rw[this];omega
theorem za7(s:ByteArray)(hs:s.size<=1099511627776)(hev:s.size % 2=0)(hd:bF (bl s)=true):∀(n j k:Nat) (o:List Int),j+2*n=s.size->n<k->o.length+n<=35184372088832->jD k s o (j:Int)=some (o++dR ((bl s).drop j))
 |n,j,0,o,_,hk,_=>by omega
 |0,j,k+1,o,hj,hk,_=>by
  unfold jD mz
  rw[zF (by omega),zD,List.drop_eq_nil_of_le (by rw[zg];omega),dR,List.append_nil]
  exact fun _ _ _ h=>by cases h
 |n+1,j,k+1,o,hj,hk,ho=>by
  have ar:j<s.size:=by omega
  have wP:j+1<s.size:=by omega
  have hl:j<(bl s).length:=by rw[zg];exact ar
  have Aa:j+1<(bl s).length:=by rw[zg];exact wP
  have d1:=List.all_eq_true.1 hd _ (List.getElem_mem hl)
  have d2:=List.all_eq_true.1 hd _ (List.getElem_mem Aa)
  have e:zW zI ((j:Int)+2)=((j+2:Nat):Int):=by rw[zj (by omega) (by omega)];omega
  unfold jD mz
  rw[zT (by omega),zC,zk ar,zu (by omega),zk wP,Int.toNat_natCast,Int.toNat_natCast,Pj hl,Pj Aa,W8 d1 d2,zT (by simp only[List.length_singleton];omega),zC,e]
  dsimp only
  rw[za7 s hs hev hd n (j+2) k _ (by omega) (by omega) (by rw[List.length_append,List.length_singleton];omega),List.drop_eq_getElem_cons hl,List.drop_eq_getElem_cons Aa,dR,List.append_assoc]
  rfl
theorem W9:bl (bs [48])=[48]:=by decide
theorem zgy(s:ByteArray)(hs:s.size<=maxLen):Q1 s=some (qi s):=by
 unfold Q1 kJ qi
 by_cases h1:(999:Int)<(s.size:Int)
 ·rw[zT h1,zC,zF (by omega)];rfl
 ·rw[zF h1,zD,UD s hs,zc]
  cases hd:bF (bl s) with
  |false=>rw[zF (p:=s.size<=999/\false=true) (fun h=>by cases h.2)];rfl
  |true=>
   rw[Bool.not_true,zD,zT (⟨by omega,rfl⟩:s.size<=999/\true=true),zC,Fu]
   by_cases hp:s.size % 2=1
   ·have du:(bs [48]++s).size=s.size+1:=by rw[ByteArray.size_append];show 1+s.size=_;omega
    have hb:bl (bs [48]++s)=48::bl s:=by rw[xB,W9];rfl
    rw[if_pos hp,zF (by omega),Bool.not_false,zC,zT (by show 1+s.size<=_;omega),zC,du]
    have e:Int.tdiv ((s.size+1:Nat):Int) 2=(((s.size+1)/2:Nat):Int):=rfl
    rw[e,zj (by omega) (by omega),zT (by omega),zC,zT (by omega),zC]
    have:=za7 (bs [48]++s) (by omega) (by omega) (by rw[hb];show(cE 48&&bF (bl s))=true;rw[hd];rfl) ((s.size+1)/2) 0 ai [] (by omega) (by rw[zr];omega) (by simp;omega)
    rw[show((0:Nat):Int)=0 from rfl,List.drop_zero,List.nil_append,hb] at this
    dsimp only
    rw[this];rfl
   ·rw[if_neg hp,zT (by omega),Bool.not_true,zD]
    have e:Int.tdiv ((s.size:Nat):Int) 2=((s.size/2:Nat):Int):=rfl
    rw[e,zj (by omega) (by omega),zT (by omega),zC,zT (by omega),zC]
    have:=za7 s (by omega) (by omega) hd (s.size/2) 0 ai [] (by omega) (by rw[zr];omega) (by simp;omega)
    rw[show((0:Nat):Int)=0 from rfl,List.drop_zero,List.nil_append] at this
    dsimp only
    rw[this];rfl
theorem N5(n:Int)(h0:0<=n)(h1:n<=999):Q2 n=some ((n+1)/2):=by
 unfold Q2 oI
 obtain⟨m,rfl⟩:∃m:Nat,n=m:=⟨n.toNat,by omega⟩
 by_cases h:(m:Int)<1
 ·rw[zT h,zC]
  congr 1
  omega
 ·rw[zF h,zD,Fu]
  have e:Int.tdiv (m:Int) 2=((m/2:Nat):Int):=rfl
  have e2:zW zI ((m/2:Nat):Int)=((m/2:Nat):Int):=zj (by omega) (by omega)
  rw[e,e2,zj (by omega) (by omega)]
  congr 1
  omega
theorem aiP:∀d:Fin 16,d.1<=9->zW zU ((48:Int)+(d.1:Int))=48+(d.1:Int):=by decide+kernel
theorem Jv{d:Nat}(h:d<=9):zW zU ((48:Int)+(d:Int))=48+(d:Int):=aiP ⟨d,by omega⟩ h
theorem zna(b:ByteArray)(hb0:b.size<=1099511627776)(nn:Nat)(hn:nn<=999)(m:Nat)(hm:m<=b.size):∀(n j k:Nat) (o:List Int),j+n=m->n<k->o.length+2*n<=35184372088832->∃o',iK k b (nn:Int) o (m:Int) (j:Int)=some (match gD (decide (nn % 2=1)) (((bl b).take m).drop j) j with
 |some e=> .inl ((nn:Int),bs [],e.1,e.2,o')
 |none=> .inr ((nn:Int),o++dQ (((bl b).take m).drop j)))
 |n,j,0,o,_,hk,_=>by omega
 |0,j,k+1,o,hj,hk,_=>by
  unfold iK mm
  rw[zF (by omega),zD,List.drop_eq_nil_of_le (by rw[List.length_take,zg];omega)]
  exact⟨o,by simp [gD,dQ]⟩
 |n+1,j,k+1,o,hj,hk,ho=>by
  have ar:j<b.size:=by omega
  have hl:j<(bl b).length:=by rw[zg];exact ar
  have hl2:j<((bl b).take m).length:=by rw[List.length_take];omega
  obtain⟨x,hx,_,_⟩:=nib (lq (List.getElem_mem hl))
  have Ak:=x.2
  have ih:=zna b hb0 nn hn m hm n (j+1) k (o++ [48+((x.1/16:Nat):Int),48+((x.1 % 16:Nat):Int)]) (by omega) (by omega) (by rw[List.length_append];simp only[List.length_cons,List.length_nil];omega)
  have hw:∀{R:Type} (z:Option R),zd (j:Int) b.size z=z:=fun z=>zk ar
  have iz:((bl b).take m).drop j=(x.1:Int)::((bl b).take m).drop (j+1):=by rw[List.drop_eq_getElem_cons hl2,List.getElem_take,hx]
  rw[iz,gD,dQ]
  unfold iK mm
  simp only[hw,Int.toNat_natCast,Pj hl,hx,(Uw x).1,(Uw x).2.1,Fu]
  rw[zT (by omega:(j:Int)<(m:Int)),zC]
  have e16:(x.1:Int)/16=((x.1/16:Nat):Int):=by omega
  have e17:(x.1:Int)% 16=((x.1 % 16:Nat):Int):=by omega
  rw[e16,e17]
  have plain:∀(Z:Option (Sum (Int×ByteArray×Int×Int×List Int) (Int×List Int))),Z=(bif decide ((9:Int)<((x.1/16:Nat):Int)) then some (.inl ((nn:Int),bs [],(3:Int),(j:Int),o)) else bif decide ((9:Int)<((x.1 % 16:Nat):Int)) then some (.inl ((nn:Int),bs [],(3:Int),(j:Int),o)) else(bif decide ((o.length+(List.length ([zW zU (48+((x.1/16:Nat):Int)),zW zU (48+((x.1 % 16:Nat):Int))]:List Int)))*1<=140737488355328) then iK k b (nn:Int) (o++ [zW zU (48+((x.1/16:Nat):Int)),zW zU (48+((x.1 % 16:Nat):Int))]) (m:Int) (zW zI ((j:Int)+1)) else none))->
   ∃o',Z=some (match(if 9<((x.1/16:Nat):Int)\/9<((x.1 % 16:Nat):Int) then some ((3:Int),(j:Int)) else gD (decide (nn % 2=1)) (((bl b).take m).drop (j+1)) (j+1)) with
    |some e=> .inl ((nn:Int),bs [],e.1,e.2,o')
    |none=> .inr ((nn:Int),o++(48+((x.1/16:Nat):Int))::(48+((x.1 % 16:Nat):Int))::dQ (((bl b).take m).drop (j+1)))):=fun Z hZ=>by
   rw[hZ]
   by_cases c1:(9:Int)<((x.1/16:Nat):Int)
   ·rw[zT c1,if_pos (.inl c1)]
    exact⟨o,rfl⟩
   ·by_cases c2:(9:Int)<((x.1 % 16:Nat):Int)
    ·rw[zF c1,zD,zT c2,if_pos (.inr c2)]
     exact⟨o,rfl⟩
    ·rw[zF c1,zD,zF c2,zD,if_neg (fun h=>h.elim c1 c2),Jv (by omega),Jv (by omega),zT (by simp only[List.length_cons,List.length_nil];omega),zC,zu (by omega)]
     obtain⟨o',h⟩:=ih
     refine⟨o',h.trans ?_⟩
     rw[List.append_assoc]
     rfl
  by_cases j0:j=0
  ·subst j0
   rw[zT (by omega:((0:Nat):Int)=0),zC]
   by_cases hp:nn % 2=1
   ·rw[zT hp,zF (by omega:¬((nn % 2:Nat):Int)=0),Bool.not_false,zC]
    by_cases hz:x.1/16=0
    ·rw[if_neg (by omega),zT (by omega),Bool.not_true,zD]
     have:=plain _ rfl
     rw[zT hp] at this
     exact this
    ·rw[if_pos (by simp;omega),zF (by omega),Bool.not_false,zC]
     exact⟨o,rfl⟩
   ·rw[zF hp,zT (by omega:((nn % 2:Nat):Int)=0),Bool.not_true,zD,if_neg (by simp)]
    have:=plain _ rfl
    rw[zF hp] at this
    exact this
  ·rw[zF (by omega:¬(j:Int)=0),zD,if_neg (by omega)]
   exact plain _ rfl
theorem zgx(b:ByteArray)(n:Int)(hb:b.size<=1099511627776):Q0 b n=some (kH b n):=by
 unfold Q0 oo kH
 by_cases h0:n<0
 ·rw[zT h0,if_pos (.inl h0)];rfl
 ·rw[zF h0,zD]
  by_cases h1:999<n
  ·rw[zT h1,if_pos (.inr h1)];rfl
  ·rw[zF h1,zD,if_neg (fun h=>h.elim h0 h1),N5 n (by omega) (by omega),zc]
   by_cases h2:(b.size:Int)<(n+1)/2
   ·rw[zT h2,if_pos h2];rfl
   ·rw[zF h2,zD,if_neg h2,zj (by omega) (by omega),zT (by omega),zC,zT (by omega),zC,zc]
    obtain⟨nn,rfl⟩:∃nn:Nat,n=nn:=⟨n.toNat,by omega⟩
    have em:((nn:Int)+1)/2=(((nn+1)/2:Nat):Int):=by omega
    have ep:((nn:Int)% 2).toNat=nn % 2:=by omega
    have eo:decide ((nn:Int)% 2=1)=decide (nn % 2=1):=decide_eq_decide.2 (by omega)
    rw[em,Int.toNat_natCast,eo,ep]
    obtain⟨o',h⟩:=zna b hb nn (by omega) ((nn+1)/2) (by omega) ((nn+1)/2) 0 ai [] (by omega) (by rw[zr];omega) (by simp;omega)
    rw[show((0:Nat):Int)=0 from rfl,List.drop_zero,List.nil_append] at h
    dsimp only
    rw[h,zc]
    cases gD (decide (nn % 2=1)) ((bl b).take ((nn+1)/2)) 0 with
    |some e=>rfl
    |none=>
     dsimp only
     rw[Sum.elim_inr]
     unfold oq
     dsimp only
     rw[Fu,zT (by omega),zC]
     have hlen:∀l:List Int,(dQ l).length=2*l.length:=fun l=>by
      induction l with
      |nil=>rfl
      |cons x r ih=>rw[dQ,List.length_cons,List.length_cons,ih,List.length_cons];omega
     rw[zT (by rw[hlen,List.length_take,zg];omega),zC,Int.toNat_natCast,List.take_length]
theorem rf{a:Int}{l:List Int}:bF (a::l)=true↔cE a=true/\bF l=true:=by
 rw[zgr,Bool.and_eq_true]
theorem uU{a:Int}:cE a=true↔48<=a/\a<=57:=by
 unfold cE
 rw[decide_eq_true_eq]
theorem zpk:∀l:List Int,(dR l).length=l.length/2
 | []=>rfl
 | [a]=>by simp [dR]
 |a::b::r=>by rw[dR,List.length_cons,zpk r,List.length_cons,List.length_cons];omega
theorem zpj:∀l:List Int,(dQ l).length=2*l.length
 | []=>rfl
 |x::r=>by rw[dQ,List.length_cons,List.length_cons,zpj r,List.length_cons];omega
theorem J3:∀{l:List Int},bF l=true->∀y∈dR l,zn y
 | [],_,y,hy=>by simp [dR] at hy
 | [a],_,y,hy=>by simp [dR] at hy
 |a::b::r,h,y,hy=>by
  obtain⟨h1,h2⟩:=rf.1 h
  obtain⟨h2,h3⟩:=rf.1 h2
  rw[uU] at h1 h2
  rw[dR] at hy
  rcases List.mem_cons.1 hy with rfl|hy
  ·unfold zn;omega
  ·exact J3 h3 y hy
theorem zE:∀{l:List Int},l.length % 2=0->bF l=true->dQ (dR l)=l
 | [],_,_=>by simp [dR,dQ]
 | [a],h,_=>by simp at h
 |a::b::r,h,hd=>by
  obtain⟨h1,h2⟩:=rf.1 hd
  obtain⟨h2,h3⟩:=rf.1 h2
  rw[uU] at h1 h2
  rw[dR,dQ,zE (by simp only[List.length_cons] at h;omega) h3,show 48+(16*(a-48)+(b-48))/16=a by omega,show 48+(16*(a-48)+(b-48))% 16=b by omega]
theorem zB(odd:Bool):∀{l:List Int} {i:Nat},l.length % 2=0->bF l=true->(i=0->odd=true->l.getD 0 48=48)->gD odd (dR l) i=none
 | [],_,_,_,_=>by simp [dR,gD]
 | [a],_,h,_,_=>by simp at h
 |a::b::r,i,h,hd,ho=>by
  obtain⟨h1,h2⟩:=rf.1 hd
  obtain⟨h2,h3⟩:=rf.1 h2
  rw[uU] at h1 h2
  rw[dR,gD,if_neg,if_neg (by omega)]
  ·exact zB odd (by simp only[List.length_cons] at h;omega) h3 fun hi=>by omega
  ·rintro⟨e1,e2,e3⟩
   have:a=48:=ho e1 e2
   omega
def gW(s:ByteArray):List Int:=if s.size % 2=1 then 48::bl s else bl s
theorem J4(s:ByteArray):(gW s).length % 2=0:=by
 unfold gW
 split
 ·rw[List.length_cons,zg];omega
 ·rw[zg];omega
theorem Lu(s:ByteArray):(gW s).length/2=(s.size+1)/2:=by
 unfold gW
 split
 ·rw[List.length_cons,zg]
 ·rw[zg];omega
theorem zpl{s:ByteArray}(h:bF (bl s)=true):bF (gW s)=true:=by
 unfold gW
 split
 ·exact rf.2 ⟨rfl,h⟩
 ·exact h
theorem zh0{s:ByteArray}(h:s.size<=999)(hd:bF (bl s)=true):qi s=(strOf (dR (gW s)),true):=by
 unfold qi gW
 rw[zT ⟨h,hd⟩,zC]
theorem za8{s:ByteArray}(h:s.size<=999)(hd:bF (bl s)=true):(qi s).1.size=(s.size+1)/2:=by
 rw[zh0 h hd]
 show(strOf _).size=_
 rw[z28,zpk,Lu]
theorem ahX{s:ByteArray}(h:s.size<=999)(hd:bF (bl s)=true):kH (qi s).1 (s.size:Int)=(s,0,0):=by
 have du:=za8 h hd
 have hb:bl (qi s).1=dR (gW s):=by rw[zh0 h hd];exact uB (J3 (zpl hd))
 unfold kH
 rw[if_neg (by omega),if_neg (by rw[du];omega),hb,List.take_of_length_le (by rw[zpk,Lu];omega),zB _ (J4 s) (zpl hd),zE (J4 s) (zpl hd)]
 ·dsimp only
  by_cases hp:s.size % 2=1
  ·rw[show((s.size:Int)% 2).toNat=1 by omega]
   unfold gW
   rw[if_pos hp,List.drop_succ_cons,List.drop_zero,D1]
  ·rw[show((s.size:Int)% 2).toNat=0 by omega]
   unfold gW
   rw[if_neg hp,List.drop_zero,D1]
 ·intro _ ho
  have ho:=of_decide_eq_true ho
  unfold gW
  rw[if_pos (by omega)];rfl
theorem J2{odd:Bool}:∀{l:List Int} {i:Nat},gD odd l i=none->(∀x∈l,x/16<=9/\x % 16<=9)/\(i=0->odd=true->l.getD 0 0/16=0)
 | [],i,_=>⟨fun x hx=>(by cases hx),fun _ _=>rfl⟩
 |a::r,i,h=>by
  rw[gD] at h
  by_cases h1:i=0/\odd=true/\a/16≠0
  ·rw[if_pos h1] at h;cases h
  ·rw[if_neg h1] at h
   by_cases h2:9<a/16\/9<a % 16
   ·rw[if_pos h2] at h;cases h
   ·rw[if_neg h2] at h
    refine⟨fun x hx=> ?_,fun hi ho=> ?_⟩
    ·rcases List.mem_cons.1 hx with rfl|hx
     ·omega
     ·exact(J2 h).1 x hx
    ·show a/16=0
     by_cases h3:a/16=0
     ·exact h3
     ·exact absurd ⟨hi,ho,h3⟩ h1
theorem zG:∀{l:List Int},(∀x∈l,zn x)->dR (dQ l)=l
 | [],_=>by simp [dQ,dR]
 |x::r,h=>by
  have hx:=h x List.mem_cons_self
  unfold zn at hx
  rw[dQ,dR,zG fun y hy=>h y (List.mem_cons_of_mem _ hy),show 16*(48+x/16-48)+(48+x % 16-48)=x by omega]
theorem Lt:∀{l:List Int},(∀x∈l,zn x)->(∀x∈l,x/16<=9/\x % 16<=9)->bF (dQ l)=true
 | [],_,_=>rfl
 |x::r,h,h9=>by
  have hx:=h x List.mem_cons_self
  have hy:=h9 x List.mem_cons_self
  unfold zn at hx
  rw[dQ]
  exact rf.2 ⟨uU.2 (by omega),rf.2 ⟨uU.2 (by omega),Lt (fun y hy=>h y (List.mem_cons_of_mem _ hy)) fun y hy=>h9 y (List.mem_cons_of_mem _ hy)⟩⟩
theorem Kj{l:List Int}(h:bF l=true):∀x∈l,zn x:=fun x hx=>by
 have:=uU.1 (List.all_eq_true.1 h x hx)
 unfold zn;omega
theorem J5{b t:ByteArray}{n i:Int}(h:kH b n=(t,0,i))(hb:(b.size:Int)=(n+1)/2):qi t=(b,true)/\(t.size:Int)=n/\bF (bl t)=true:=by
 unfold kH at h
 by_cases h0:n<0\/999<n
 ·rw[if_pos h0] at h;cases h
 ·rw[if_neg h0,if_neg (by omega),<-hb,Int.toNat_natCast,List.take_of_length_le (by rw[zg];exact Nat.le_refl _)] at h
  cases he:gD (decide (n % 2=1)) (bl b) 0 with
  |some e=>
   rw[he] at h
   dsimp only at h
   injection h with _ h
   injection h with h _
   exfalso
   have key:∀{l:List Int} {i:Nat} {odd:Bool} {e:Int×Int},gD odd l i=some e->e.1≠0:=by
    intro l
    induction l with
    |nil=>intro i odd e h;cases h
    |cons a r ih=>
     intro i odd e h
     rw[gD] at h
     split at h
     ·cases h;decide
     ·split at h
      ·cases h;simp
      ·exact ih h
   exact key he h
  |none=>
   rw[he] at h
   dsimp only at h
   obtain⟨g1,g2⟩:=J2 he
   have nr:∀x∈bl b,zn x:=fun x hx=>lq hx
   have cO:=Lt nr g1
   have ht:t=strOf ((dQ (bl b)).drop (n % 2).toNat):=(congrArg Prod.fst h).symm
   have zR:bF ((dQ (bl b)).drop (n % 2).toNat)=true:=List.all_eq_true.2 fun x hx=>List.all_eq_true.1 cO x (List.mem_of_mem_drop hx)
   have df:bl t=(dQ (bl b)).drop (n % 2).toNat:=by rw[ht];exact uB (Kj zR)
   have kj:t.size=2*b.size-(n % 2).toNat:=by rw[<-zg,df,List.length_drop,zpj,zg]
   have hX:gW t=dQ (bl b):=by
    unfold gW
    by_cases hp:n % 2=1
    ·rw[if_pos (by omega),df,show(n % 2).toNat=1 by omega]
     have h1:=g2 rfl (by rw[zT hp])
     cases hl:bl b with
     |nil=>
      have h9:b.size=0:=by rw[<-zg,hl];rfl
      omega
     |cons x r=>
      rw[hl] at h1
      have h1:x/16=0:=h1
      rw[dQ,List.drop_succ_cons,List.drop_zero,h1];rfl
    ·rw[if_neg (by omega),df,show(n % 2).toNat=0 by omega,List.drop_zero]
   have hd:bF (bl t)=true:=by rw[df];exact zR
   refine⟨?_,by omega,hd⟩
   rw[zh0 (by omega) hd,hX,zG nr,D1]
def fX(ae form:Int):Bool:=decide ((ae=1\/ae=2)/\(form=2\/form=3))
def kD(ae form:Int):Nat:=if ae=2 then(form.toNat+1)/2 else form.toNat
def EK(ae form n:Int):ByteArray×Int:=
 bif fX ae form then(bif(jq n form).2 then(if ae=2 then(qi (jq n form).1).1 else(jq n form).1,0) else(bs [],5)) else(bs [],1)
def ud(ae form:Int)(s:ByteArray):Option Int:=
 if ae=2 then(if(kH s form).2.1=0 then(if(dT (bl (kH s form).1)).2=true then some (dT (bl (kH s form).1)).1 else none) else none) else if(dT (bl s)).2=true then some (dT (bl s)).1 else none
def z24(ae form:Int)(b:ByteArray)(at_:Int):Int×Int×Int:=
 bif fX ae form&&decide (0<=at_/\at_<=b.size) then(if b.size<at_.toNat+kD ae form then(0,0,2) else
  match ud ae form (b.extract at_.toNat (at_.toNat+kD ae form)) with
  |some n=>(n,((at_.toNat+kD ae form:Nat):Int),0)
  |none=>(0,0,3)) else(0,0,1)
theorem K0(n w:Int):(jq n w).1.size<=18:=by
 by_cases h:0<=n/\1<=w/\w<=18/\n.toNat/10^w.toNat=0
 ·rw[DF h];show(strOf _).size<=18;rw[z28,zd7];omega
 ·rw[PY h];decide
theorem afr(ae form n:Int)(hn:n<=9223372036854775807):qv ae form n=some (EK ae form n):=by
 unfold qv SY qw OV jC OW EK fX
 by_cases h1:ae=1<;>by_cases h2:ae=2<;>by_cases h3:form=2<;>by_cases h4:form=3<;>(try(exfalso;omega))<;>simp [h1,h2,h3,h4,alA _ _ hn]
 all_goals
  cases hp:(jq n _).2<;>simp [hp]
 all_goals
  rw[zgy _ (by have:=K0 n;simp only[maxLen];first|(have:=this 2;omega)|(have:=this 3;omega))]
  rfl
theorem DX{b:ByteArray}{i n:Nat}(h:i+n<=b.size):(b.extract i (i+n)).size=n:=by rw[ByteArray.size_extract];omega
theorem za6{b t:ByteArray}{n e i:Int}(h:kH b n=(t,e,i)):t.size<=1998:=by
 unfold kH at h
 split at h
 ·cases h;decide
 ·split at h
  ·cases h;decide
  ·split at h
   ·cases h;decide
   ·cases h
    rw[z28,List.length_drop,zpj,List.length_take]
    omega
theorem afo(ae form:Int)(b:ByteArray)(at_:Int)(hb:b.size<=1099511627776):sF ae form b at_=some (z24 ae form b at_):=by
 unfold sF SU qw OV jC OW z24 fX
 by_cases cc:0<=at_/\at_<=b.size
 ·obtain⟨m,rfl⟩:∃m:Nat,at_=m:=⟨at_.toNat,by omega⟩
  have hm:m<=b.size:=by omega
  have w0:zW zI ((b.size:Int)-(m:Int))=(b.size:Int)-m:=zj (by omega) (by omega)
  have w1:∀k:Nat,k<=3->zW zI ((m:Int)+(k:Int))=((m+k:Nat):Int):=fun k hk=>by rw[zj (by omega) (by omega)];omega
  have z1:=N5 2 (by decide) (by decide)
  have z2:=N5 3 (by decide) (by decide)
  have v1:=w1 1 (by decide)
  have v2:=w1 2 (by decide)
  have v3:=w1 3 (by decide)
  rw[show((1:Nat):Int)=1 from rfl] at v1
  rw[show((2:Nat):Int)=2 from rfl] at v2
  rw[show((3:Nat):Int)=3 from rfl] at v3
  have t2:((m:Int)+2).toNat=m+2:=by omega
  have t3:((m:Int)+3).toNat=m+3:=by omega
  have a1:¬(m:Int)<0:=by omega
  have a2:¬(b.size:Int)<m:=by omega
  have a3:0<=((m:Int)):=by omega
  have a4:(m:Int)<=b.size:=by omega
  by_cases h1:ae=1<;>by_cases h2:ae=2<;>by_cases h3:form=2<;>by_cases h4:form=3<;>(try(exfalso;omega))<;>simp [h1,h2,h3,h4,a1,a2,w0,z1,z2,v1,v2,v3,kD]
  all_goals
   rw[zT hm,zC]
   split
   ·rename_i hc
    rw[zT (by omega),zC]
   ·rename_i hc
    rw[zF (by omega),zD,zT (by omega),zC,zT (by omega),zC,zT (by omega),zC]
    try rw[t2]
    try rw[t3]
    first
     |(rw[Nr _ (by rw[ByteArray.size_extract];simp only[maxLen];omega),zc]
       unfold ud
       rw[if_neg (by decide)]
       cases(dT _).2<;>rfl)
     |(rw[zgx _ _ (by rw[ByteArray.size_extract];omega),zc]
       unfold ud
       rw[if_pos rfl]
       generalize hg:kH _ _=gg
       obtain⟨t,e,i⟩:=gg
       dsimp only
       by_cases he:e=0
       ·rw[zT he,zC,if_pos he,Nr _ (by have:=za6 hg;simp only[maxLen];omega),zc]
        cases(dT _).2<;>rfl
       ·rw[zF he,if_neg he];rfl)
 ·rw[zF (p:=0<=at_/\at_<=(b.size:Int)) cc,Bool.and_false,zD]
  by_cases h1:ae=1<;>by_cases h2:ae=2<;>by_cases h3:form=2<;>by_cases h4:form=3<;>(try(exfalso;omega))<;>by_cases h5:at_<0<;>by_cases h6:(b.size:Int)<at_<;>(try(exfalso;omega))<;>simp [h1,h2,h3,h4,h5,h6]
theorem zzv(n:Int):Q4 n=some (if n<0\/65535<n then 0 else if 255<n then 3 else if 127<n then 2 else 1):=by
 unfold Q4 oP
 by_cases h1:n<0
 ·rw[zT h1,if_pos (.inl h1)];rfl
 by_cases h2:(65535:Int)<n
 ·rw[zF h1,zT h2,if_pos (.inr h2)];rfl
 rw[zF h1,zF h2,if_neg (by omega)]
 by_cases h3:(255:Int)<n
 ·rw[zT h3,if_pos h3];rfl
 by_cases h4:(127:Int)<n
 ·rw[zF h3,zT h4,if_neg h3,if_pos h4];rfl
 ·rw[zF h3,zF h4,if_neg h3,if_neg h4];rfl
theorem zN:∃k,ai=k+1+1+1:=⟨ai-3,by rw[zr]⟩
theorem Na{y:Int}(hy:zn y):aP .or .i64 (zW zI (0*2^min (8:Int).toNat 64)) (zW zI y)=y:=by
 obtain⟨k,rfl⟩:=mf hy
 clear hy
 revert k
 decide+kernel
theorem aem(s:ByteArray)(hs:s.size<=9223372036854775000)(a:Int):Q3 s a=yd s a:=by
 unfold Q3 kK yd PH
 by_cases h1:a<0
 ·rw[zT h1];rfl
 rw[zF h1,zD,zD]
 by_cases h2:(s.size:Int)<a
 ·rw[zT h2];rfl
 rw[zF h2,zD,zD]
 by_cases h3:a=(s.size:Int)
 ·rw[zT h3];rfl
 have wa:∀{R:Type} (x:Option R),zd a s.size x=x:=fun x=>zm (by omega) (by omega)
 rw[zF h3,zD,zD]
 simp only[wa]
 obtain⟨x,hx⟩:=mf (uw s a.toNat)
 have Ak:=x.2
 have w1:zW zI (a+1)=a+1:=zj (by omega) (by omega)
 have w2:zW zI (x.1:Int)=(x.1:Int):=zj (by omega) (by omega)
 have w4:zW zI ((s.size:Int)-a)=(s.size:Int)-a:=zj (by omega) (by omega)
 have w5:zW zI ((s.size:Int)-(a+1))=(s.size:Int)-(a+1):=zj (by omega) (by omega)
 have w6:zW zI ((x.1:Int)-128)=(x.1:Int)-128:=zj (by omega) (by omega)
 have w7:zW zI ((x.1:Int)-127)=(x.1:Int)-127:=zj (by omega) (by omega)
 obtain⟨k,hk⟩:=zN
 simp only[hx,w2,w1,w4,w5,w6,w7,hk]
 by_cases h4:(127:Int)<(x.1:Int)
 ·rw[zT h4,zC,zF (by omega:¬(x.1:Int)<128),zD]
  by_cases h5:(x.1:Int)=129
  ·have wn:zW zI (0+1)=1:=rfl
   simp only[h5]
   by_cases h6:(s.size:Int)-a<2
   ·have e1:((s.size:Int)-(a+1)<129-128):=by omega
    have e2:((s.size:Int)-a<129-127):=by omega
    rw[zT e1,zT e2];rfl
   ·have e1:¬((s.size:Int)-(a+1)<129-128):=by omega
    have e2:¬((s.size:Int)-a<129-127):=by omega
    have wb:∀{R:Type} (x:Option R),zd (a+1) s.size x=x:=fun x=>zm (by omega) (by omega)
    have wc:∀{R:Type} (x:Option R),zd (zW zI (a+1+0)) s.size x=x:=fun x=>by rw[Int.add_zero,w1];exact wb x
    obtain⟨y,hy⟩:=mf (uw s (a+1).toNat)
    have Qw:=y.2
    have w3:zW zI (y.1:Int)=(y.1:Int):=zj (by omega) (by omega)
    have oz:=Na (y:=(y.1:Int)) ⟨by omega,by omega⟩
    rw[w3] at oz
    rw[zF e1,zF e2]
    have l1:eK (k+1+1+1) s (a+1) 0 (129-128) (129-128) 0=some (a+1,(y.1:Int),129-128):=by
     simp only[eK,kL]
     rw[show decide ((0:Int)<129-128)=true from rfl,zC,wc,wn,show decide ((1:Int)<129-128)=false from rfl,zD,Int.add_zero,w1,hy,w3,oz]
    simp only[wb,hy,w3]
    show(eK (k+1+1+1) s (a+1) 0 (129-128) (129-128) 0).bind _=_
    rw[l1,Option.bind_some]
    unfold kM
    dsimp only
    rw[zzv,Option.bind_some]
    by_cases h7:(y.1:Int)<128
    ·rw[if_neg (by omega),if_neg (by omega),if_neg (by omega),zT h7];rfl
    ·rw[if_neg (by omega),if_neg (by omega),if_pos (by omega),zF h7]
     have:zW zI (a+1+(129-128))=zW zI (a+2):=by congr 1;omega
     simp only[this]
     rfl
  ·by_cases h6:(x.1:Int)=130
   ·have wn:zW zI (0+1)=1:=rfl
    have wm:zW zI (1+1)=2:=rfl
    simp only[h6]
    by_cases h7:(s.size:Int)-a<3
    ·have e1:((s.size:Int)-(a+1)<130-128):=by omega
     have e2:((s.size:Int)-a<130-127):=by omega
     rw[zT e1,zT e2];rfl
    ·have e1:¬((s.size:Int)-(a+1)<130-128):=by omega
     have e2:¬((s.size:Int)-a<130-127):=by omega
     have wb:∀{R:Type} (x:Option R),zd (a+1) s.size x=x:=fun x=>zm (by omega) (by omega)
     have w8:zW zI (a+2)=a+2:=zj (by omega) (by omega)
     have w9:zW zI (a+1+1)=a+2:=by rw[zj (by omega) (by omega)];omega
     have wd:∀{R:Type} (x:Option R),zd (a+2) s.size x=x:=fun x=>zm (by omega) (by omega)
     obtain⟨y,hy⟩:=mf (uw s (a+1).toNat)
     obtain⟨z,hz⟩:=mf (uw s (a+2).toNat)
     have Qw:=y.2
     have Yp:=z.2
     have w3:zW zI (y.1:Int)=(y.1:Int):=zj (by omega) (by omega)
     have JU:zW zI (z.1:Int)=(z.1:Int):=zj (by omega) (by omega)
     have oz:=Na (y:=(y.1:Int)) ⟨by omega,by omega⟩
     have ob:=zq1 (x:=(y.1:Int)) (y:=(z.1:Int)) ⟨by omega,by omega⟩ ⟨by omega,by omega⟩
     rw[w3] at oz
     rw[w3,JU] at ob
     rw[zF e1,zF e2]
     have l1:eK (k+1+1+1) s (a+1) 0 (130-128) (130-128) 0=some (a+1,(y.1:Int)*256+(z.1:Int),130-128):=by
      simp only[eK,kL]
      rw[show decide ((0:Int)<130-128)=true from rfl,zC,wn,wm,show decide ((1:Int)<130-128)=true from rfl,zC,show decide ((2:Int)<130-128)=false from rfl,zD,Int.add_zero,w1,wb,w9,wd,hy,hz,w3,JU,oz,ob]
     have Z8:zW zI (256*(y.1:Int))=256*(y.1:Int):=zj (by omega) (by omega)
     have Z9:zW zI (256*(y.1:Int)+(z.1:Int))=(y.1:Int)*256+(z.1:Int):=by rw[zj (by omega) (by omega)];omega
     simp only[wb,w8,wd,hy,hz,w3,JU,Z8,Z9]
     show(eK (k+1+1+1) s (a+1) 0 (130-128) (130-128) 0).bind _=_
     rw[l1,Option.bind_some]
     unfold kM
     dsimp only
     rw[zzv,Option.bind_some]
     by_cases h8:(y.1:Int)=0
     ·rw[if_neg (by omega),if_neg (by omega),zT h8]
      by_cases h9:(127:Int)<(y.1:Int)*256+(z.1:Int)
      ·rw[if_pos h9];rfl
      ·rw[if_neg h9];rfl
     ·rw[if_neg (by omega),if_pos (by omega),zF h8]
      have:zW zI (a+1+(130-128))=zW zI (a+3):=by congr 1;omega
      simp only[this]
      rfl
   ·rw[zF h5,zF h6]
    by_cases h7:(x.1:Int)=128
    ·rw[zT h7];rfl
    ·rw[zF h7,zT (by omega:(130:Int)<(x.1:Int))];rfl
 ·rw[zF h4,zD,zT (by omega:(x.1:Int)<128),zC,zF (by omega:¬(s.size:Int)-(a+1)<0),zD]
  have l1:eK (k+1+1+1) s (a+1) (x.1:Int) 0 0 0=some (a+1,(x.1:Int),0):=by
   simp only[eK,kL]
   rw[show decide ((0:Int)<0)=false from rfl,zD]
  show(eK (k+1+1+1) s (a+1) (x.1:Int) 0 0 0).bind _=_
  rw[l1,Option.bind_some]
  unfold kM
  dsimp only
  rw[zzv,Option.bind_some,if_neg (by omega),if_neg (by omega),if_neg (by omega),Int.add_zero,w1]
  rfl
abbrev bg:=Int×ByteArray×Unit
theorem zug(l:List bg)(hl:l.length<=9223372036854775807)(t:Int):∀(m j k:Nat),j+m=l.length->m<k->EG k l (l.length:Int) t (j:Int)=some (if t∈(l.drop j).map (fun v=>v.1) then .inl true else .inr ())
 |m,j,0,_,hk=>by omega
 |0,j,k+1,hj,hk=>by
  unfold EG PK
  rw[zF (by omega),List.drop_eq_nil_of_le (by omega)];rfl
 |m+1,j,k+1,hj,hk=>by
  have ar:j<l.length:=by omega
  have hg:∀d,l.getD j d=l[j]:=fun d=>by rw[List.getD_eq_getElem?_getD,List.getElem?_eq_getElem ar];rfl
  unfold EG PK
  rw[zT (by omega),zC,zk ar,Int.toNat_natCast,hg,List.drop_eq_getElem_cons ar,List.map_cons]
  by_cases h:l[j].1=t
  ·rw[zT h,if_pos (by rw[h];exact List.mem_cons_self)];rfl
  ·rw[zF h,zD,zu (by omega)]
   dsimp only
   rw[zug l hl t m (j+1) k (by omega) (by omega)]
   by_cases h2:t∈(l.drop (j+1)).map (fun v=>v.1)
   ·rw[if_pos h2,if_pos (List.mem_cons_of_mem _ h2)]
   ·rw[if_neg h2,if_neg (fun h3=>(List.mem_cons.1 h3).elim (fun e=>h e.symm) h2)]
theorem LN(l:List bg)(hl:l.length<=maxLen)(t:Int):Hd l (l.length:Int) t=some (decide (t∈l.map fun v=>v.1)):=by
 rw[zh] at hl
 unfold Hd Wr
 dsimp only
 have:=zug l hl t l.length 0 ai (by omega) (by rw[zr];omega)
 rw[show((0:Nat):Int)=(0:Int) from rfl,List.drop_zero] at this
 rw[this,Option.bind_some]
 by_cases h:t∈l.map fun v=>v.1
 ·rw[if_pos h,zT h];rfl
 ·rw[if_neg h,zF h];rfl
theorem Mf(b:ByteArray)(hb:b.size<=9223372036854775000):∀(k:Nat) (t5:List bg) (t7:Int),t5.length<=5864062014805->FH k b t5 t7 (dI (t5.map fun v=>v.1))=AW k b t5 t7
 |0,_,_,_=>rfl
 |k+1,t5,t7,hl=>by
  unfold FH TZ AW PJ
  rw[afH b hb]
  generalize decide (t7<(b.size:Int))=c0
  cases c0 with
  |false=>rfl
  |true=>
   simp only[zC]
   cases yc b t7 with
   |none=>rfl
   |some r1=>
    simp only[Option.bind_some]
    generalize(!decide (r1.2.2=0))=c1
    cases c1 with
    |true=>rfl
    |false=>
     simp only[zD]
     rw[aem b hb]
     cases yd b r1.2.1 with
     |none=>rfl
     |some r2=>
      simp only[Option.bind_some]
      generalize(!decide (r2.2.2=0))=c2
      cases c2 with
      |true=>rfl
      |false=>
       simp only[zD]
       generalize decide (zW zI ((b.size:Int)-r2.2.1)<r2.1)=c3
       cases c3 with
       |true=>rfl
       |false=>
        simp only[zD]
        rw[LN t5 (by rw[zh];omega),Option.bind_some]
        have e1:=Rk (fO (.int .i64)) (fun _ _=>rfl) r1.1 (t5.map fun v=>v.1)
        have e2:=Rl (fO (.int .i64)) (fun _ _=>rfl) r1.1 (t5.map fun v=>v.1)
        by_cases hm:r1.1∈t5.map fun v=>v.1
        ·rw[e1.2 hm,zT hm];rfl
        ·rw[DT e1 hm,DT e2 hm,zF hm]
         simp only[zD]
         rw[z9f]
         have hs:(t5.map fun v=>v.1)++ [r1.1]=(t5++ [((r1.1,(b.extract r2.2.1.toNat (zW zI (r2.2.1+r2.1)).toNat),()):bg)]).map fun v=>v.1:=by simp
         rw[hs]
         by_cases hn:(t5.length+1)*24<=140737488355328
         ·rw[Mf b hb k _ _ (by simp;omega)]
         ·have:decide ((t5.length+(List.length ([(r1.1,(b.extract r2.2.1.toNat (zW zI (r2.2.1+r2.1)).toNat),())]:List bg)))*24<=140737488355328)=false:=zF (by simp;omega)
          simp only[this,zD]
theorem afK(b:ByteArray)(hb:b.size<=9223372036854775000):sV b=ye b:=by
 unfold sV TY ye PI
 dsimp only
 have:=Mf b hb ai [] 0 (by simp)
 rw[show dI (([]:List bg).map fun v=>v.1)=[] from rfl] at this
 rw[this]
 rfl
theorem ahP(s:Spec)(x:ByteArray)(hx:x.size<=9223372036854775000):bW s x=mB s x:=by
 unfold bW TG mB FZ
 rw[N0,uQ,af5 _ _ (by rw[zh];omega),zcl _ _ (by rw[zh];omega),afK x hx]
theorem aaN(a b:Spec):lA a b=uH a b:=by
 unfold lA TH uH F0 vq TI
 rw[N0,uQ,N0,uQ,ahQ,zct]
 simp only[Option.bind_some]
 by_cases h1:bN a=0
 ·by_cases h2:bN b=0
  ·simp only[h1,h2,decide_true,zC,Bool.not_true,zD]
   by_cases h3:a.2.2.2.1<=b.2.2.2.1
   ·rw[zT h3,zF (by omega:¬b.2.2.2.1<a.2.2.2.1)]
    by_cases h4:b.2.2.2.2.1<=a.2.2.2.2.1
    ·rw[zT h4,zF (by omega:¬a.2.2.2.2.1<b.2.2.2.2.1)]
     simp only[zC,zD]
     by_cases h5:a.2.1=5
     ·simp [h5]
     ·by_cases h6:a.2.1=6
      ·simp [h6]
      ·by_cases h7:b.2.1=6
       ·simp [h5,h6,h7]
       ·simp [h5,h6,h7]
    ·rw[zF h4,zT (by omega:a.2.2.2.2.1<b.2.2.2.2.1)];rfl
   ·rw[zF h3,zT (by omega:b.2.2.2.1<a.2.2.2.1)];rfl
  ·simp [h1,h2]
 ·simp [h1]
theorem afI(s:ByteArray)(hs:s.size<=9223372036854775000)(a:Int)(h0:0<=a)(h1:a<s.size):∃r,yc s a=some r/\(r.2.2=0->a<r.2.1/\r.2.1<=s.size):=by
 unfold yc PG
 have wa:∀{R:Type} (x:Option R),zd a s.size x=x:=fun x=>zm (by omega) (by omega)
 rw[zF (by omega:¬a<0),zF (by omega:¬(s.size:Int)<a),zF (by omega:¬a=(s.size:Int))]
 simp only[zD,wa]
 obtain⟨x,hx⟩:=mf (uw s a.toNat)
 have w1:zW zI (a+1)=a+1:=zj (by omega) (by omega)
 have w4:zW zI ((s.size:Int)-a)=(s.size:Int)-a:=zj (by omega) (by omega)
 rw[hx,w1,w4]
 rcases zd9 x with h|⟨h,Bz⟩|⟨h,Bz⟩
 ·rw[h];exact⟨_,rfl,fun h=>by cases h⟩
 ·rw[h]
  exact⟨_,rfl,fun _=>⟨by show a<a+1;omega,by show a+1<=_;omega⟩⟩
 ·rw[h,Option.bind_some]
  simp only[show decide ((2:Int)=0)=false from rfl,show decide ((2:Int)=1)=false from rfl,zD]
  by_cases h4:(s.size:Int)-a<2
  ·rw[zT h4];exact⟨_,rfl,fun h=>by cases h⟩
  ·have wb:∀{R:Type} (x:Option R),zd (a+1) s.size x=x:=fun x=>zm (by omega) (by omega)
   have w2:zW zI (a+2)=a+2:=zj (by omega) (by omega)
   rw[zF h4]
   simp only[zD,wb]
   generalize decide (ze s (a+1).toNat=0)=c1
   generalize decide ((127:Int)<ze s (a+1).toNat)=c2
   cases c1
   ·cases c2
    ·exact⟨_,rfl,fun _=>⟨by show a<zW zI (a+2);rw[w2];omega,by show zW zI (a+2)<=_;rw[w2];omega⟩⟩
    ·exact⟨_,rfl,fun h=>by cases h⟩
   ·exact⟨_,rfl,fun h=>by cases h⟩
theorem aen(s:ByteArray)(hs:s.size<=9223372036854775000)(a:Int)(h0:0<=a)(h1:a<=s.size):∃r,yd s a=some r/\(r.2.2=0->a<r.2.1/\r.2.1<=s.size/\0<=r.1/\r.1<=65535):=by
 unfold yd PH
 rw[zF (by omega:¬a<0),zF (by omega:¬(s.size:Int)<a)]
 simp only[zD]
 by_cases he:a=(s.size:Int)
 ·rw[zT he];exact⟨_,rfl,fun h=>by cases h⟩
 have wa:∀{R:Type} (x:Option R),zd a s.size x=x:=fun x=>zm (by omega) (by omega)
 rw[zF he]
 simp only[zD,wa]
 obtain⟨x,hx⟩:=mf (uw s a.toNat)
 have Ak:=x.2
 have w1:zW zI (a+1)=a+1:=zj (by omega) (by omega)
 have w2:zW zI (x.1:Int)=(x.1:Int):=zj (by omega) (by omega)
 have w4:zW zI ((s.size:Int)-a)=(s.size:Int)-a:=zj (by omega) (by omega)
 have w7:zW zI ((x.1:Int)-127)=(x.1:Int)-127:=zj (by omega) (by omega)
 simp only[hx,w2,w1,w4,w7]
 by_cases h4:(x.1:Int)<128
 ·rw[zT h4]
  exact⟨_,rfl,fun _=>⟨by show a<a+1;omega,by show a+1<=_;omega,by show(0:Int)<=(x.1:Int);omega,by show(x.1:Int)<=65535;omega⟩⟩
 rw[zF h4]
 have Xo:∀i,zn (ze s i):=uw s
 by_cases h5:(x.1:Int)=129
 ·have wb:(s.size:Int)-a<(x.1:Int)-127\/∀{R:Type} (x:Option R),zd (a+1) s.size x=x:=by
   by_cases h:(s.size:Int)-a<(x.1:Int)-127
   ·exact .inl h
   ·exact .inr fun x=>zm (by omega) (by omega)
  rw[zT h5]
  simp only[Bool.not_true,zD,zC]
  by_cases h6:(s.size:Int)-a<(x.1:Int)-127
  ·rw[zT h6];exact⟨_,rfl,fun h=>by cases h⟩
  ·have wb:∀{R:Type} (x:Option R),zd (a+1) s.size x=x:=fun x=>zm (by omega) (by omega)
   have w8:zW zI (a+2)=a+2:=zj (by omega) (by omega)
   obtain⟨y,hy⟩:=mf (Xo (a+1).toNat)
   have Qw:=y.2
   have w3:zW zI (y.1:Int)=(y.1:Int):=zj (by omega) (by omega)
   rw[zF h6]
   simp only[zD,wb,hy,w3,w8]
   generalize decide ((y.1:Int)<128)=c
   cases c
   ·exact⟨_,rfl,fun _=>⟨by show a<a+2;omega,by show a+2<=_;omega,by show(0:Int)<=(y.1:Int);omega,by show(y.1:Int)<=65535;omega⟩⟩
   ·exact⟨_,rfl,fun h=>by cases h⟩
 ·rw[zF h5]
  simp only[Bool.not_false,zD,zC]
  by_cases h9:(x.1:Int)=130
  ·rw[zT h9]
   simp only[Bool.not_true,zD]
   by_cases h6:(s.size:Int)-a<(x.1:Int)-127
   ·rw[zT h6];exact⟨_,rfl,fun h=>by cases h⟩
   ·have wb:∀{R:Type} (x:Option R),zd (a+1) s.size x=x:=fun x=>zm (by omega) (by omega)
    have w8:zW zI (a+2)=a+2:=zj (by omega) (by omega)
    have w9:zW zI (a+3)=a+3:=zj (by omega) (by omega)
    have wd:∀{R:Type} (x:Option R),zd (a+2) s.size x=x:=fun x=>zm (by omega) (by omega)
    obtain⟨y,hy⟩:=mf (Xo (a+1).toNat)
    obtain⟨z,hz⟩:=mf (Xo (a+2).toNat)
    have Qw:=y.2
    have Yp:=z.2
    have w3:zW zI (y.1:Int)=(y.1:Int):=zj (by omega) (by omega)
    have JU:zW zI (z.1:Int)=(z.1:Int):=zj (by omega) (by omega)
    have Z8:zW zI (256*(y.1:Int))=256*(y.1:Int):=zj (by omega) (by omega)
    have Z9:zW zI (256*(y.1:Int)+(z.1:Int))=256*(y.1:Int)+(z.1:Int):=zj (by omega) (by omega)
    rw[zF h6]
    simp only[zD,wb,w8,wd,hy,hz,w3,JU,Z8,Z9,w9]
    generalize decide ((y.1:Int)=0)=c
    cases c
    ·exact⟨_,rfl,fun _=>⟨by show a<a+3;omega,by show a+3<=_;omega,by show(0:Int)<=256*(y.1:Int)+(z.1:Int);omega,by show 256*(y.1:Int)+(z.1:Int)<=65535;omega⟩⟩
    ·exact⟨_,rfl,fun h=>by cases h⟩
  ·rw[zF h9];exact⟨_,rfl,fun h=>by cases h⟩
theorem z9j(b:ByteArray)(hb:b.size<=1099511627776):∀(n:Nat) (k:Nat) (t5:List bg) (a:Int),0<=a->a<=b.size->(b.size:Int)-a<=n->n<k->t5.length+n<=2199023255552->∃r,AW k b t5 a=some r
 |n,0,_,_,_,_,_,h,_=>by omega
 |n,k+1,t5,a,h0,h1,h2,h3,h4=>by
  unfold AW PJ
  by_cases ar:a<(b.size:Int)
  ·obtain⟨r1,e1,p1⟩:=afI b (by omega) a h0 ar
   rw[zT ar,e1,Option.bind_some,zC]
   by_cases z1:r1.2.2=0
   ·obtain⟨q1,q2⟩:=p1 z1
    obtain⟨r2,e2,p2⟩:=aen b (by omega) r1.2.1 (by omega) q2
    simp only[z1,decide_true,Bool.not_true,zD]
    rw[e2,Option.bind_some]
    by_cases z2:r2.2.2=0
    ·obtain⟨u1,u2,u3,u4⟩:=p2 z2
     simp only[z2,decide_true,Bool.not_true,zD]
     have w1:zW zI ((b.size:Int)-r2.2.1)=(b.size:Int)-r2.2.1:=zj (by omega) (by omega)
     have w2:zW zI (r2.2.1+r2.1)=r2.2.1+r2.1:=zj (by omega) (by omega)
     rw[w1,w2]
     by_cases z3:(b.size:Int)-r2.2.1<r2.1
     ·rw[zT z3];exact⟨_,rfl⟩
     ·rw[zF z3,zD,LN t5 (by rw[zh];omega),Option.bind_some]
      generalize decide (r1.1∈t5.map fun v=>v.1)=c
      cases c with
      |true=>exact⟨_,rfl⟩
      |false=>
       rw[zD,zT (by omega:0<=r2.2.1+r2.1),zT (by omega:r2.2.1+r2.1<=(((b.size:Nat):Int))),zT (by omega:0<=r2.2.1),zT (by omega:r2.2.1<=(((r2.2.1+r2.1).toNat:Nat):Int)),zT (by simp;omega)]
       simp only[zC]
       obtain⟨n,rfl⟩:∃n',n=n'+1:=⟨n-1,by omega⟩
       exact z9j b hb n k _ _ (by omega) (by omega) (by omega) (by omega) (by simp;omega)
    ·simp only[z2,decide_false,Bool.not_false,zC];exact⟨_,rfl⟩
   ·simp only[z1,decide_false,Bool.not_false,zC];exact⟨_,rfl⟩
  ·rw[zF ar];exact⟨_,rfl⟩
theorem zo6(b:ByteArray)(hb:b.size<=1099511627776):∃r,ye b=some r:=by
 unfold ye PI
 dsimp only
 obtain⟨r,hr⟩:=z9j b hb b.size ai [] 0 (by omega) (by omega) (by omega) (by rw[zr];omega) (by simp;omega)
 rw[hr,Option.bind_some]
 cases r<;>exact⟨_,rfl⟩
@[irreducible] def bJ (s:Spec) (x:ByteArray):Int:=(mB s x).getD 0
theorem Fh(s:Spec)(x:ByteArray)(hx:x.size<=1099511627776):mB s x=some (bJ s x):=by
 have:∃v,mB s x=some v:=by
  unfold mB FZ
  rw[uQ,Option.bind_some,zcl _ _ (by rw[zh];omega),Option.bind_some]
  obtain⟨r,hr⟩:=zo6 x hx
  rw[hr,Option.bind_some]
  generalize(!decide (bN s=0))=c1
  generalize decide ((x.size:Int)<s.2.2.2.1)=c2
  generalize decide (s.2.2.2.2.1<(x.size:Int))=c3
  generalize decide ((0:Int)<=qj s.2.1 (bl x) 0)=c4
  generalize decide (s.2.1=6)=c5
  cases c1<;>cases c2<;>cases c3<;>cases c4<;>cases c5<;>first|exact⟨_,rfl⟩|skip
  cases r with
  |inl r=>simp only[zD,zC,Sum.elim_inl];cases(!decide (r.2.1=0))<;>exact⟨_,rfl⟩
  |inr r=>simp only[zD,zC,Sum.elim_inr];cases(!decide (r.2.1=0))<;>exact⟨_,rfl⟩
 obtain⟨v,hv⟩:=this
 unfold bJ
 rw[hv];rfl
theorem xA(s:Spec)(x:ByteArray)(hx:x.size<=1099511627776):bW s x=some (bJ s x):=by
 rw[ahP s x (by omega),Fh s x hx]
@[irreducible] def l6 (a b:Spec):Bool:=(uH a b).getD false
theorem zcu(a b:Spec):uH a b=some (l6 a b):=by
 have:∃v,uH a b=some v:=by
  unfold uH F0
  rw[uQ,uQ,zct]
  simp only[Option.bind_some]
  generalize(!decide (bN a=0))=c1
  generalize(!decide (bN b=0))=c2
  generalize decide (b.2.2.2.1<a.2.2.2.1)=c3
  generalize decide (a.2.2.2.2.1<b.2.2.2.2.1)=c4
  generalize decide (a.2.1=5)=c5
  generalize decide (a.2.1=6)=c6
  generalize decide (b.2.1=6)=c7
  cases c1<;>cases c2<;>cases c3<;>cases c4<;>cases c5<;>cases c6<;>cases c7<;>exact⟨_,rfl⟩
 obtain⟨v,hv⟩:=this
 unfold l6
 rw[hv];rfl
theorem aed(a b:Spec):lA a b=some (l6 a b):=by rw[aaN,zcu]
abbrev aV:=Int×Int×Int×ByteArray×List bB×Unit
def aX(s:zf)(no:Int):Spec:=(fP s.2.2.1 no).getD cY
def bp(s:zf)(no:Int):Bool:=(fP s.2.2.1 no).isSome
theorem AJ(s:zf)(no:Int)(hl:s.2.2.1.length<=maxLen):fF s no=some (aX s no,bp s no):=by
 rw[ajk s no hl]
 unfold aX bp
 cases fP s.2.2.1 no<;>rfl
theorem Rh(s:zf)(no:Int):(eU s.2.2.1 no 0= -1/\bp s no=false/\aX s no=cY)\/(0<=eU s.2.2.1 no 0/\eU s.2.2.1 no 0<s.2.2.1.length/\bp s no=true/\s.2.2.1.getD (eU s.2.2.1 no 0).toNat cY=aX s no):=by
 unfold bp aX
 rcases ab1 s.2.2.1 no 0 (Int.le_refl _) with⟨h1,h2⟩|⟨h1,h2,x,h3,h4⟩
 ·left;rw[h2];exact⟨h1,rfl,rfl⟩
 ·right;rw[h3];rw[Int.sub_zero] at h4;exact⟨h1,by omega,rfl,h4⟩
def dp(r:aV)(a b:zf):Bool:=
 (bif decide (r.1=3) then !decide (r.2.1=0) else !bp a r.2.1)||(bif decide (r.1=2) then !decide (r.2.2.1=0) else !bp b r.2.2.1)
def iY(r:aV):Bool:=(!decide (r.2.2.2.1=bs [])&& !decide (r.1=3))||(decide (0<(r.2.2.2.2.1.length:Int))&& !decide (r.1=5))
def jo(s:Spec):Bool:=decide (s.2.1=1)&&decide (s.2.2.1=1)
def fu:List bB->Spec->Spec->Int
 | [],_,_=>0
 |p::r,x,y=>bif !decide (bJ x p.1=0) then bJ x p.1 else bif !decide (bJ y p.2.1=0) then bJ y p.2.1 else fu r x y
def P1(l:List bB)(x y:Spec):Int:=bif(!decide ((A3 l).1=0)||decide ((l.length:Int)=0)) then 15 else fu l x y
def jZ(r:aV)(x y:Spec):Int:=
 bif decide (r.1=1) then(bif l6 y x then 0 else 6) else bif decide (r.1=3) then bJ y r.2.2.2.1 else bif decide (r.1=4) then(bif jo x&&jo y then 0 else 6) else bif decide (r.1=5) then P1 r.2.2.2.2.1 x y else 0
def dt(r:aV)(a b:zf):Int:=
 bif decide (r.1<1)||decide (5<r.1) then 1 else bif dp r a b then 9 else bif iY r then 3 else jZ r (aX a r.2.1) (aX b r.2.2.1)
structure ew(l:List bB):Prop where
 len:l.length<=1000000
 sz:∀p∈l,p.1.size<=1099511627776/\p.2.1.size<=1099511627776
structure dO(r:aV):Prop where
 text:r.2.2.2.1.size<=1099511627776
 eY:ew r.2.2.2.2.1
theorem ak0(r:aV)(a b:zf)(ha:a.2.2.1.length<=maxLen)(hb:b.2.2.1.length<=maxLen):sM r a b=some (aX a r.2.1,aX b r.2.2.1,bif dp r a b then 9 else 0):=by
 unfold sM Tm dp
 rw[AJ a _ ha,AJ b _ hb]
 simp only[Option.bind_some]
 generalize decide (r.1=3)=k3
 generalize decide (r.1=2)=k2
 generalize decide (r.2.1=0)=z1
 generalize decide (r.2.2.1=0)=z2
 generalize bp a r.2.1=h1
 generalize bp b r.2.2.1=h2
 cases k3<;>cases k2<;>cases z1<;>cases z2<;>cases h1<;>cases h2<;>rfl
theorem afl(s:Spec):jd s=some (jo s):=by
 unfold jd Tn jo
 generalize decide (s.2.1=1)=c1
 generalize decide (s.2.2.1=1)=c2
 cases c1<;>cases c2<;>rfl
def xq(v:Int):Sum Int Unit:=if v=0 then .inr () else .inl v
theorem Lb(x y:Spec):∀(l:List bB) (i:Int),(∀p∈l,p.1.size<=1099511627776/\p.2.1.size<=1099511627776)->
 bm (fun i (p:bB) (s:Unit) K=>((bW x p.1).bind fun r2=>(bif(!decide (r2=0)) then some (Sum.inl r2) else((bW y p.2.1).bind fun r3=>(bif(!decide (r3=0)) then some (Sum.inl r3) else K s))))) (fun _=>some (Sum.inr ())) l i ()=some (xq (fu l x y))
 | [],i,_=>rfl
 |p::r,i,h=>by
  obtain⟨h1,h2⟩:=h p List.mem_cons_self
  simp only[bm,fu]
  rw[xA x p.1 h1,Option.bind_some]
  by_cases z1:bJ x p.1=0
  ·rw[zT z1]
   simp only[Bool.not_true,zD]
   rw[xA y p.2.1 h2,Option.bind_some]
   by_cases z2:bJ y p.2.1=0
   ·rw[zT z2]
    simp only[Bool.not_true,zD]
    exact Lb x y r (i+1) fun q hq=>h q (List.mem_cons_of_mem _ hq)
   ·rw[zF z2]
    simp only[Bool.not_false,zC,xq,if_neg z2]
  ·rw[zF z1]
   simp only[Bool.not_false,zC,xq,if_neg z1]
theorem ai7(l:List bB)(x y:Spec)(h:ew l):mw l x y=some (P1 l x y):=by
 have hl:=h.len
 unfold mw Tq P1
 dsimp only
 rw[aag l (by rw[zh];omega),Option.bind_some]
 cases(!decide ((A3 l).1=0)) with
 |true=>rfl
 |false=>
  cases decide ((l.length:Int)=0) with
  |true=>rfl
  |false=>
   simp only[zD,Bool.or_false]
   have:=ct iV l (by rw[zh];omega) (fun i (p:bB) (s:Unit) K=>((bW x p.1).bind fun r2=>(bif(!decide (r2=0)) then some (Sum.inl r2) else((bW y p.2.1).bind fun r3=>(bif(!decide (r3=0)) then some (Sum.inl r3) else K s))))) (fun _=>some (Sum.inr ()))
    (fun k i s=>O1 k l (l.length:Int) i x y) (fun k i s=>rfl) ()
   rw[this,Lb x y l 0 h.sz,Option.bind_some]
   unfold xq
   by_cases z:fu l x y=0
   ·rw[if_pos z,z];rfl
   ·rw[if_neg z];rfl
theorem aaL(r:aV)(a b:zf)(h:dO r)(ha:a.2.2.1.length<=maxLen)(hb:b.2.2.1.length<=maxLen):nO r a b=some (dt r a b):=by
 unfold nO Tl dt jZ iY
 rw[ak0 r a b ha hb]
 simp only[Option.bind_some,aed,xA _ _ h.text,afl,ai7 _ _ _ h.eY]
 generalize dp r a b=e
 generalize decide (r.1<1)=c1
 generalize decide ((5:Int)<r.1)=c2
 generalize decide (r.2.2.2.1=bs [])=t
 generalize decide ((0:Int)<(r.2.2.2.2.1.length:Int))=p
 generalize decide (r.1=1)=k1
 generalize decide (r.1=3)=k3
 generalize decide (r.1=4)=k4
 generalize decide (r.1=5)=k5
 generalize jo (aX a r.2.1)=p1
 generalize jo (aX b r.2.2.1)=p2
 generalize l6 (aX b r.2.2.1) (aX a r.2.1)=w
 cases c1<;>cases c2<;>first|rfl|skip
 cases e<;>first|rfl|skip
 cases t<;>cases p<;>cases k3<;>cases k5<;>first|rfl|skip
 all_goals(cases k1<;>cases k4<;>cases p1<;>cases p2<;>cases w<;>rfl)
def nj(v:Int):Sum Unit Int:=if v=0 then .inl () else .inr v
theorem zvd(x y:Spec):∀(l:List bB) (i:Int),(∀p∈l,p.1.size<=1099511627776/\p.2.1.size<=1099511627776)->
 bm (fun i (p:bB) (s:Unit) K=>((mB x p.1).bind fun r2=>(bif(!decide (r2=0)) then some (Sum.inr r2) else((mB y p.2.1).bind fun r3=>(bif(!decide (r3=0)) then some (Sum.inr r3) else K s))))) (fun _=>some (Sum.inl ())) l i ()=some (nj (fu l x y))
 | [],i,_=>rfl
 |p::r,i,h=>by
  obtain⟨h1,h2⟩:=h p List.mem_cons_self
  simp only[bm,fu]
  rw[Fh x p.1 h1,Option.bind_some]
  by_cases z1:bJ x p.1=0
  ·rw[zT z1]
   simp only[Bool.not_true,zD]
   rw[Fh y p.2.1 h2,Option.bind_some]
   by_cases z2:bJ y p.2.1=0
   ·rw[zT z2]
    simp only[Bool.not_true,zD]
    exact zvd x y r (i+1) fun q hq=>h q (List.mem_cons_of_mem _ hq)
   ·rw[zF z2]
    simp only[Bool.not_false,zC,nj,if_neg z2]
  ·rw[zF z1]
   simp only[Bool.not_false,zC,nj,if_neg z1]
theorem z162(r:aV)(a b:zf)(h:dO r)(i k:Int)(BN:0<=i)(hi:i<a.2.2.1.length)(zZ:0<=k)(hk:k<b.2.2.1.length):
 u6 ai i k 0 r a b=some (nj (fu r.2.2.2.2.1 (a.2.2.1.getD i.toNat cY) (b.2.2.1.getD k.toNat cY))):=by
 have hl:=h.eY.len
 have:=m5 iV r.2.2.2.2.1 (by rw[zh];omega) (fun j (p:bB) (s:Unit) K=>((mB (a.2.2.1.getD i.toNat cY) p.1).bind fun r2=>(bif(!decide (r2=0)) then some (Sum.inr r2) else((mB (b.2.2.1.getD k.toNat cY) p.2.1).bind fun r3=>(bif(!decide (r3=0)) then some (Sum.inr r3) else K s))))) (fun _=>some (Sum.inl ()))
  (fun f j s=>u6 f i k j r a b) (fun f j s h0 h1=>by
    show u6 (f+1) i k j r a b=_
    conv=>lhs;unfold u6 Om Rt Ru Rv
    have wi:∀{R:Type} (x:Option R),zd i a.2.2.1.length x=x:=fun x=>zm BN hi
    have wk:∀{R:Type} (x:Option R),zd k b.2.2.1.length x=x:=fun x=>zm zZ hk
    have wj:∀{R:Type} (x:Option R),zd j r.2.2.2.2.1.length x=x:=fun x=>zm h0 h1
    rw[zT h1]
    simp only[zC,wi,wk,wj]
    rfl) (fun f s=>by
    show u6 (f+1) i k r.2.2.2.2.1.length r a b=_
    conv=>lhs;unfold u6 Om
    rw[zF (by omega),zD]) ()
 rw[this]
 exact zvd _ _ _ 0 h.eY.sz
theorem abr(r:aV)(a b:zf)(h:dO r)(ha:a.2.2.1.length<=maxLen)(hb:b.2.2.1.length<=maxLen):se r a b=some (dt r a b):=by
 unfold se Fx
 have h0:∀t,zvq t r a b=bif t then some 1 else RR r a b:=fun t=>by cases t<;>rfl
 simp only[h0]
 unfold dt
 by_cases c1:r.1<1
 ·rw[zT c1];rfl
 by_cases c2:(5:Int)<r.1
 ·rw[zF c1,zT c2];rfl
 rw[zF c1,zF c2]
 simp only[zD,Bool.or_false]
 have e2:∀i k t,AM i k t r a b=bif t then some 9 else OA i k r a b:=fun i k t=>by cases t<;>rfl
 have e4:∀i k t,zvr i k t r a b=bif t then some 9 else D4 i k r a b:=fun i k t=>by cases t<;>rfl
 have e6:∀i k t,zvs i k t r a b=bif t then some 3 else OB i k r a b:=fun i k t=>by cases t<;>rfl
 have e9:∀t,zvt t=some (bif t then 6 else 0):=fun t=>by cases t<;>rfl
 have hi:=Rh a r.2.1
 have hk:=Rh b r.2.2.1
 have ei:decide (eU a.2.2.1 r.2.1 0<0)= !bp a r.2.1:=by
  rcases hi with⟨h1,h2,_⟩|⟨h1,_,h2,_⟩
  ·rw[h1,h2];rfl
  ·rw[h2,zF (by omega)];rfl
 have ek:decide (eU b.2.2.1 r.2.2.1 0<0)= !bp b r.2.2.1:=by
  rcases hk with⟨h1,h2,_⟩|⟨h1,_,h2,_⟩
  ·rw[h1,h2];rfl
  ·rw[h2,zF (by omega)];rfl
 unfold RR Fy
 rw[QZ a _ ha,Option.bind_some,QZ b _ hb,Option.bind_some]
 generalize IM:eU a.2.2.1 r.2.1 0=i at*
 generalize hkk:eU b.2.2.1 r.2.2.1 0=k at*
 have s3:OA i k r a b=bif(bif decide (r.1=2) then !decide (r.2.2.1=0) else !bp b r.2.2.1) then some 9 else D4 i k r a b:=by
  unfold OA Fz
  simp only[e4,ek]
  generalize decide (r.1=2)=k2
  generalize decide (r.2.2.1=0)=z
  generalize bp b r.2.2.1=hh
  cases k2<;>cases z<;>cases hh<;>rfl
 have s1:(bif decide (r.1=3) then bif !decide (r.2.1=0) then AM i k true r a b else bif !decide (r.1=3) then AM i k (decide (i<0)) r a b else AM i k false r a b
  else bif !decide (r.1=3) then AM i k (decide (i<0)) r a b else AM i k false r a b)=bif dp r a b then some 9 else D4 i k r a b:=by
  simp only[e2,s3,ei]
  unfold dp
  generalize decide (r.1=3)=k3
  generalize decide (r.2.1=0)=z
  generalize bp a r.2.1=hh
  generalize(bif decide (r.1=2) then !decide (r.2.2.1=0) else !bp b r.2.2.1)=w
  cases k3<;>cases z<;>cases hh<;>cases w<;>rfl
 have s5:D4 i k r a b=bif iY r then some 3 else OB i k r a b:=by
  unfold D4 FA iY
  simp only[e6]
  generalize decide (r.2.2.2.1=bs [])=t
  generalize decide ((0:Int)<(r.2.2.2.2.1.length:Int))=p
  generalize decide (r.1=3)=k3
  generalize decide (r.1=5)=k5
  cases t<;>cases p<;>cases k3<;>cases k5<;>rfl
 refine Eq.trans s1 ?_
 cases hE:dp r a b with
 |true=>rfl
 |false=>
  rw[zD,zD,s5]
  cases iY r with
  |true=>rfl
  |false=>
   rw[zD,zD]
   unfold OB FB jZ
   have g1:r.1=1\/r.1=4\/r.1=5->bp a r.2.1=true:=fun hr=>by
    unfold dp at hE
    rw[zF (by omega:¬r.1=3)] at hE
    cases hh:bp a r.2.1 with
    |true=>rfl
    |false=>rw[hh] at hE;simp at hE
   have g2:r.1≠2->bp b r.2.2.1=true:=fun hr=>by
    unfold dp at hE
    rw[zF hr] at hE
    cases hh:bp b r.2.2.1 with
    |true=>rfl
    |false=>rw[hh] at hE;simp at hE
   have hA:bp a r.2.1=true->0<=i/\i<a.2.2.1.length/\a.2.2.1.getD i.toNat cY=aX a r.2.1:=fun hh=>by
    rcases hi with⟨_,h2,_⟩|⟨h1,h2,_,h3⟩
    ·rw[h2] at hh;cases hh
    ·exact⟨h1,h2,h3⟩
   have hB:bp b r.2.2.1=true->0<=k/\k<b.2.2.1.length/\b.2.2.1.getD k.toNat cY=aX b r.2.2.1:=fun hh=>by
    rcases hk with⟨_,h2,_⟩|⟨h1,h2,_,h3⟩
    ·rw[h2] at hh;cases hh
    ·exact⟨h1,h2,h3⟩
   by_cases k1:r.1=1
   ·obtain⟨a1,a2,a3⟩:=hA (g1 (.inl k1))
    obtain⟨b1,b2,b3⟩:=hB (g2 (by omega))
    rw[zT k1,zC,zC,zm b1 b2,zm a1 a2,a3,b3,zcu,Option.bind_some]
    cases l6 (aX b r.2.2.1) (aX a r.2.1)<;>rfl
   rw[zF k1,zD,zD]
   by_cases k3:r.1=3
   ·obtain⟨b1,b2,b3⟩:=hB (g2 (by omega))
    rw[zT k3,zC,zC,zm b1 b2,b3,Fh _ _ h.text];rfl
   rw[zF k3,zD,zD]
   by_cases k4:r.1=4
   ·obtain⟨a1,a2,a3⟩:=hA (g1 (.inr (.inl k4)))
    obtain⟨b1,b2,b3⟩:=hB (g2 (by omega))
    rw[zT k4,zC,zC,zm a1 a2,zm b1 b2]
    simp only[a3,b3,e9]
    unfold jo
    generalize decide ((aX a r.2.1).2.1=1)=d1
    generalize decide ((aX a r.2.1).2.2.1=1)=d2
    generalize decide ((aX b r.2.2.1).2.1=1)=d3
    generalize decide ((aX b r.2.2.1).2.2.1=1)=d4
    cases d1<;>cases d2<;>cases d3<;>cases d4<;>rfl
   rw[zF k4,zD,zD]
   by_cases k5:r.1=5
   ·obtain⟨a1,a2,a3⟩:=hA (g1 (.inr (.inr k5)))
    obtain⟨b1,b2,b3⟩:=hB (g2 (by omega))
    have EV:∀t,zo8 i k t r a b=bif t then some 15 else Ol i k r a b:=fun t=>by cases t<;>rfl
    have EW:Ol i k r a b=some (fu r.2.2.2.2.1 (aX a r.2.1) (aX b r.2.2.1)):=by
     unfold Ol Rs
     dsimp only
     rw[z162 r a b h i k a1 a2 b1 b2,Option.bind_some,a3,b3]
     unfold nj
     by_cases z:fu r.2.2.2.2.1 (aX a r.2.1) (aX b r.2.2.1)=0
     ·rw[if_pos z,z];rfl
     ·rw[if_neg z];rfl
    have hl:=h.eY.len
    rw[zT k5,zC,zC,abq _ (by rw[zh];omega),Option.bind_some]
    simp only[EV,EW]
    unfold P1
    generalize(!decide ((A3 r.2.2.2.2.1).1=0))=d1
    generalize decide ((r.2.2.2.2.1.length:Int)=0)=d2
    cases d1<;>cases d2<;>rfl
   ·rw[zF k5];rfl
@[irreducible] def uk (x:ByteArray):Int:=((ye x).map fun r=>Sum.elim (fun(w:ap×Int×Int)=>w.2.1) (fun(w:ap×Int×Int)=>w.2.1) r).getD 0
theorem Ox(s:Spec)(x:ByteArray)(hx:x.size<=1099511627776):bJ s x=0↔bN s=0/\s.2.2.2.1<=(x.size:Int)/\(x.size:Int)<=s.2.2.2.2.1/\(bl x).all (jv s.2.1)=true/\(s.2.1=6->uk x=0):=by
 have h:=Fh s x hx
 unfold mB FZ at h
 rw[uQ,Option.bind_some,zcl _ _ (by rw[zh];omega),Option.bind_some] at h
 obtain⟨r,hr⟩:=zo6 x hx
 have ht:uk x=Sum.elim (fun(w:ap×Int×Int)=>w.2.1) (fun(w:ap×Int×Int)=>w.2.1) r:=by unfold uk;rw[hr];rfl
 rw[hr,Option.bind_some] at h
 by_cases c1:bN s=0
 ·rw[zT c1,Bool.not_true,zD] at h
  by_cases c2:(x.size:Int)<s.2.2.2.1
  ·rw[zT c2,zC] at h
   have:=Option.some.inj h
   exact⟨fun e=>by omega,fun e=>by omega⟩
  rw[zF c2,zD] at h
  by_cases c3:s.2.2.2.2.1<(x.size:Int)
  ·rw[zT c3,zC] at h
   have:=Option.some.inj h
   exact⟨fun e=>by omega,fun e=>by omega⟩
  rw[zF c3,zD] at h
  have hf:=znj s.2.1 (bl x) 0 (Int.le_refl _)
  by_cases c4:(0:Int)<=qj s.2.1 (bl x) 0
  ·rw[zT c4,zC] at h
   have:=Option.some.inj h
   exact⟨fun e=>by omega,fun e=>absurd e.2.2.2.1 (hf.1 c4)⟩
  rw[zF c4,zD] at h
  have cO:(bl x).all (jv s.2.1)=true:=by
   cases hq:(bl x).all (jv s.2.1) with
   |true=>rfl
   |false=>exact absurd (hf.2 (by rw[hq];decide)) c4
  by_cases c5:s.2.1=6
  ·rw[zT c5,zC] at h
   have key:(bif(!decide (uk x=0)) then some (13:Int) else some 0)=some (bJ s x):=by
    rw[<-h]
    cases r with
    |inl r=>rw[Sum.elim_inl] at ht⊢;rw[<-ht]
    |inr r=>rw[Sum.elim_inr] at ht⊢;rw[<-ht]
   by_cases c6:uk x=0
   ·rw[zT c6] at key
    have:=Option.some.inj key
    exact⟨fun _=>⟨c1,by omega,by omega,cO,fun _=>c6⟩,fun _=>this.symm⟩
   ·rw[zF c6] at key
    have:=Option.some.inj key
    exact⟨fun e=>by omega,fun e=>absurd (e.2.2.2.2 c5) c6⟩
  ·rw[zF c5,zD] at h
   have:=Option.some.inj h
   exact⟨fun _=>⟨c1,by omega,by omega,cO,fun e=>absurd e c5⟩,fun _=>this.symm⟩
 ·rw[zF c1,Bool.not_false,zC] at h
  have:=Option.some.inj h
  exact⟨fun e=>by omega,fun e=>absurd e.1 c1⟩
theorem ajg(a b:Spec):l6 a b=true↔bN a=0/\bN b=0/\a.2.2.2.1<=b.2.2.2.1/\b.2.2.2.2.1<=a.2.2.2.2.1/\(a.2.1=5\/(a.2.1=6/\b.2.1=6)\/(a.2.1≠5/\a.2.1≠6/\b.2.1≠6/\xU a.2.1 b.2.1=true)):=by
 have h:=zcu a b
 unfold uH F0 at h
 rw[uQ,uQ,zct] at h
 simp only[Option.bind_some] at h
 by_cases c1:bN a=0
 ·rw[zT c1,Bool.not_true,zD] at h
  by_cases c2:bN b=0
  ·rw[zT c2,Bool.not_true,zD] at h
   by_cases c3:b.2.2.2.1<a.2.2.2.1
   ·rw[zT c3,zC] at h
    have:=Option.some.inj h
    exact⟨fun e=>(by rw[e] at this;cases this),fun e=>by omega⟩
   rw[zF c3,zD] at h
   by_cases c4:a.2.2.2.2.1<b.2.2.2.2.1
   ·rw[zT c4,zC] at h
    have:=Option.some.inj h
    exact⟨fun e=>(by rw[e] at this;cases this),fun e=>by omega⟩
   rw[zF c4,zD] at h
   by_cases c5:a.2.1=5
   ·rw[zT c5,zC] at h
    have:=Option.some.inj h
    exact⟨fun _=>⟨c1,c2,by omega,by omega,.inl c5⟩,fun _=>this.symm⟩
   rw[zF c5,zD] at h
   by_cases c6:a.2.1=6
   ·rw[zT c6,zC] at h
    have:=Option.some.inj h
    rw[<-this,decide_eq_true_eq]
    exact⟨fun e=>⟨c1,c2,by omega,by omega,.inr (.inl ⟨c6,by omega⟩)⟩,fun e=>by omega⟩
   rw[zF c6,zD] at h
   by_cases c7:b.2.1=6
   ·rw[zT c7,zC] at h
    have:=Option.some.inj h
    rw[<-this,decide_eq_true_eq]
    exact⟨fun e=>by omega,fun e=>by omega⟩
   rw[zF c7,zD] at h
   have:=Option.some.inj h
   rw[<-this]
   refine⟨fun e=>⟨c1,c2,by omega,by omega,.inr (.inr ⟨c5,c6,c7,e⟩)⟩,fun e=> ?_⟩
   rcases e.2.2.2.2 with e|e|e
   ·exact absurd e c5
   ·exact absurd e.1 c6
   ·exact e.2.2.2
  ·rw[zF c2,Bool.not_false,zC] at h
   have:=Option.some.inj h
   exact⟨fun e=>(by rw[e] at this;cases this),fun e=>absurd e.2.1 c2⟩
 ·rw[zF c1,Bool.not_false,zC] at h
  have:=Option.some.inj h
  exact⟨fun e=>(by rw[e] at this;cases this),fun e=>absurd e.1 c1⟩
theorem zo3{s:Spec}(h:bN s=0):(2<=s.1/\s.1<=128)/\(1<=s.2.1/\s.2.1<=6)/\(1<=s.2.2.1/\s.2.2.1<=3)/\(1<=s.2.2.2.1/\s.2.2.2.1<=s.2.2.2.2.1/\s.2.2.2.2.1<=999)/\(s.2.2.1=1->s.2.2.2.1=s.2.2.2.2.1)/\¬(s.2.2.1=1/\s.2.1=6):=by
 unfold bN at h
 split at h
 ·omega
 split at h
 ·omega
 split at h
 ·omega
 split at h
 ·omega
 split at h
 ·omega
 ·omega
theorem alx:∀a b:Fin 7,xU (a.1:Int) (b.1:Int)=true->a.1≠5->a.1≠6->b.1≠6->(a.1=b.1\/(a.1=3/\(b.1=1\/b.1=2))\/(a.1=4/\(b.1=1\/b.1=2\/b.1=3))):=by decide+kernel
theorem afX{a b:Int}(h:xU a b=true)(h5:a≠5)(h6:a≠6)(h7:b≠6):a=b\/(a=3/\(b=1\/b=2))\/(a=4/\(b=1\/b=2\/b=3)):=by
 have hr:1<=a/\a<=6/\1<=b/\b<=6:=by
  unfold xU at h
  rw[Bool.and_eq_true,decide_eq_true_eq] at h
  exact h.1
 obtain⟨x,rfl⟩:=WJ ⟨hr.1,hr.2.1⟩
 obtain⟨y,rfl⟩:=WJ ⟨hr.2.2.1,hr.2.2.2⟩
 have:=alx x y h (by omega) (by omega) (by omega)
 omega
theorem aiE{a b x:Int}(h:a=b\/(a=3/\(b=1\/b=2))\/(a=4/\(b=1\/b=2\/b=3)))(hx:jv b x=true):jv a x=true:=by
 rcases h with rfl|⟨rfl,rfl|rfl⟩|⟨rfl,rfl|rfl|rfl⟩
 ·exact hx
 all_goals
  simp [jv] at hx⊢
  omega
theorem aiD(x:Int):jv 5 x=true:=by simp [jv]
theorem acv{y x:Spec}{t:ByteArray}(ht:t.size<=1099511627776)(hw:l6 y x=true)(hv:bJ x t=0):bJ y t=0:=by
 obtain⟨w1,w2,w3,w4,w5⟩:=(ajg y x).1 hw
 obtain⟨v1,v2,v3,v4,v5⟩:=(Ox x t ht).1 hv
 refine(Ox y t ht).2 ⟨w1,by omega,by omega,?_,?_⟩
 ·rcases w5 with e|e|e
  ·rw[e,List.all_eq_true];exact fun b _=>aiD b
  ·rw[e.1,<-e.2];exact v4
  ·rw[List.all_eq_true] at v4⊢
   exact fun b hb=>aiE (afX e.2.2.2 e.1 e.2.1 e.2.2.1) (v4 b hb)
 ·intro e6
  rcases w5 with e|e|e
  ·omega
  ·exact v5 e.2
  ·exact absurd e6 e.2.1
theorem ala:jv 1=cE:=by funext b;simp [jv,cE]
theorem akK(l:List Int):l.all (jv 1)=bF l:=by rw[ala];rfl
theorem Nf{t:ByteArray}{w:Int}(h:(fy t w).2=true):1<=w/\w<=999/\(((fy t w).1).size:Int)=w/\bF (bl (fy t w).1)=true:=by
 by_cases hc:1<=t.size/\t.size<=999/\bF (bl t)=true/\1<=w/\w<=999
 ·rw[NT hc] at h⊢
  by_cases h4:(t.size:Int)<=w
  ·rw[zT h4,zC]
   have hd:bF (List.replicate (w-t.size).toNat 48++bl t)=true:=by
    have e:bF (List.replicate (w-t.size).toNat 48++bl t)=(bF (List.replicate (w-t.size).toNat 48)&&bF (bl t)):=List.all_append ..
    have e2:bF (List.replicate (w-t.size).toNat 48)=true:=by
     rw[bF,List.all_eq_true]
     intro x hx
     rw[(List.mem_replicate.1 hx).2];rfl
    rw[e,e2,hc.2.2.1];rfl
   refine⟨hc.2.2.2.1,hc.2.2.2.2,?_,?_⟩
   ·rw[z28,List.length_append,List.length_replicate,zg];omega
   ·rw[uB (z167 hd)];exact hd
  ·rw[zF h4,zD] at h⊢
   cases hz:fG ((bl t).take (t.size-w.toNat)) with
   |false=>rw[hz] at h;cases h
   |true=>
    rw[zC]
    have hd:bF ((bl t).drop (t.size-w.toNat))=true:=by
     rw[bF,List.all_eq_true]
     intro x hx
     exact List.all_eq_true.1 hc.2.2.1 x (List.mem_of_mem_drop hx)
    refine⟨hc.2.2.2.1,hc.2.2.2.2,?_,?_⟩
    ·rw[z28,List.length_drop,zg];omega
    ·rw[uB (z167 hd)];exact hd
 ·rw[F7 hc] at h;cases h
theorem ab9{s:Spec}(h:jo s=true):s.2.1=1/\s.2.2.1=1:=by
 unfold jo at h
 rw[Bool.and_eq_true,decide_eq_true_eq,decide_eq_true_eq] at h
 exact h
abbrev oi:bg:=(0,bs [],())
def gd(r:aV)(b:zf)(t:ByteArray):bg×Int:=
 bif decide (r.1=1) then((r.2.2.1,t,()),0) else bif decide (r.1=2) then(oi,0) else bif decide (r.1=3) then((r.2.2.1,r.2.2.2.1,()),0)
 else bif decide (r.1=4) then(bif !bp b r.2.2.1 then(oi,9) else bif !(fy t (aX b r.2.2.1).2.2.2.1).2 then(oi,5) else((r.2.2.1,(fy t (aX b r.2.2.1).2.2.2.1).1,()),0))
 else bif decide (r.1=5) then(bif !(zw r.2.2.2.2.1 t).2 then(oi,15) else((r.2.2.1,(zw r.2.2.2.2.1 t).1,()),0)) else(oi,1)
theorem aaK(r:aV)(b:zf)(t:ByteArray)(hp:r.2.2.2.2.1.length<=maxLen)(hb:b.2.2.1.length<=maxLen)(ht:t.size<=maxLen):nN r b t=some (gd r b t):=by
 unfold nN Tk gd
 rw[AJ b _ hb,Option.bind_some,alz t _ ht,Option.bind_some,aaf _ _ hp,Option.bind_some]
 generalize decide (r.1=1)=k1
 generalize decide (r.1=2)=k2
 generalize decide (r.1=3)=k3
 generalize decide (r.1=4)=k4
 generalize decide (r.1=5)=k5
 generalize bp b r.2.2.1=h
 generalize fy t (aX b r.2.2.1).2.2.2.1=p
 generalize zw r.2.2.2.2.1 t=q
 obtain⟨p1,p2⟩:=p
 obtain⟨q1,q2⟩:=q
 cases k1<;>cases k2<;>cases k3<;>cases k4<;>cases k5<;>cases h<;>cases p2<;>cases q2<;>rfl
theorem RB{s:zf}{no:Int}(h:bp s no=true):aX s no∈s.2.2.1/\(aX s no).1=no:=by
 unfold bp at h
 unfold aX
 cases hf:fP s.2.2.1 no with
 |none=>rw[hf] at h;cases h
 |some x=>
  unfold fP at hf
  exact⟨List.mem_of_find?_eq_some hf,by simpa using List.find?_some hf⟩
theorem Rn{s:zf}(h:iu s){no:Int}(hh:bp s no=true):bN (aX s no)=0:=h.2.2.2.1 _ (RB hh).1
theorem zcw{l:List bB}{t:ByteArray}(h:(zw l t).2=true):∃p∈l,p.1=t/\(zw l t).1=p.2.1:=by
 unfold zw at h⊢
 cases hf:l.find? fun p=>decide (p.1=t) with
 |none=>rw[hf] at h;cases h
 |some p=>exact⟨p,List.mem_of_find?_eq_some hf,by simpa using List.find?_some hf,rfl⟩
theorem Lf:∀{l:List bB} {x y:Spec},fu l x y=0->∀p∈l,bJ x p.1=0/\bJ y p.2.1=0
 | [],x,y,h,p,hp=>by cases hp
 |q::l,x,y,h,p,hp=>by
  unfold fu at h
  by_cases h1:bJ x q.1=0
  ·rw[zT h1,Bool.not_true,zD] at h
   by_cases h2:bJ y q.2.1=0
   ·rw[zT h2,Bool.not_true,zD] at h
    rcases List.mem_cons.1 hp with rfl|hp
    ·exact⟨h1,h2⟩
    ·exact Lf h p hp
   ·rw[zF h2,Bool.not_false,zC] at h;exact absurd h h2
  ·rw[zF h1,Bool.not_false,zC] at h;exact absurd h h1
theorem QW{r:aV}{a b:zf}(h:dt r a b=0):(1<=r.1/\r.1<=5)/\dp r a b=false/\iY r=false/\jZ r (aX a r.2.1) (aX b r.2.2.1)=0:=by
 unfold dt at h
 by_cases c1:r.1<1
 ·rw[zT c1] at h;cases h
 by_cases c2:5<r.1
 ·rw[zT c2,Bool.or_true] at h;cases h
 rw[zF c1,zF c2,Bool.or_false,zD] at h
 cases he:dp r a b with
 |true=>rw[he] at h;cases h
 |false=>
  rw[he,zD] at h
  cases ht:iY r with
  |true=>rw[ht] at h;cases h
  |false=>rw[ht,zD] at h;exact⟨by omega,rfl,rfl,h⟩
theorem zhg{r:aV}{a b:zf}(h:dp r a b=false):(r.1=3->r.2.1=0)/\(r.1≠3->bp a r.2.1=true)/\(r.1=2->r.2.2.1=0)/\(r.1≠2->bp b r.2.2.1=true):=by
 unfold dp at h
 rw[Bool.or_eq_false_iff] at h
 obtain⟨h1,h2⟩:=h
 refine⟨fun e=> ?_,fun e=> ?_,fun e=> ?_,fun e=> ?_⟩
 ·rw[zT e,zC] at h1;simpa using h1
 ·rw[zF e,zD] at h1;simpa using h1
 ·rw[zT e,zC] at h2;simpa using h2
 ·rw[zF e,zD] at h2;simpa using h2
theorem aaX{r:aV}{a b:zf}{t:ByteArray}(ht:t.size<=1099511627776)(hr:dO r)(hc:dt r a b=0)(hb:iu b)(hv:bp a r.2.1=true->bJ (aX a r.2.1) t=0):
 ((gd r b t).2≠0->((r.1=4/\(gd r b t).2=5)\/(r.1=5/\(gd r b t).2=15))/\(gd r b t).1=oi)/\
 ((gd r b t).2=0->(r.1=2->(gd r b t).1=oi)/\(r.1≠2->(gd r b t).1.1=r.2.2.1/\bp b r.2.2.1=true/\bJ (aX b r.2.2.1) (gd r b t).1.2.1=0)):=by
 obtain⟨c1,c2,c3,c4⟩:=QW hc
 obtain⟨e1,e2,e3,e4⟩:=zhg c2
 unfold jZ at c4
 have hk:r.1=1\/r.1=2\/r.1=3\/r.1=4\/r.1=5:=by omega
 unfold gd
 rcases hk with k|k|k|k|k
 ·rw[zT k,zC] at c4⊢
  refine⟨fun h=>absurd rfl h,fun _=>⟨fun e=>by omega,fun _=>⟨rfl,e4 (by omega),?_⟩⟩⟩
  cases hw:l6 (aX b r.2.2.1) (aX a r.2.1) with
  |false=>rw[hw] at c4;cases c4
  |true=>exact acv ht hw (hv (e2 (by omega)))
 ·rw[zF (by omega:¬r.1=1),zT k,zD,zC]
  exact⟨fun h=>absurd rfl h,fun _=>⟨fun _=>rfl,fun e=>absurd k e⟩⟩
 ·rw[zF (by omega:¬r.1=1),zT k,zD,zC] at c4
  rw[zF (by omega:¬r.1=1),zF (by omega:¬r.1=2),zT k,zD,zD,zC]
  exact⟨fun h=>absurd rfl h,fun _=>⟨fun e=>by omega,fun _=>⟨rfl,e4 (by omega),c4⟩⟩⟩
 ·rw[zF (by omega:¬r.1=1),zF (by omega:¬r.1=3),zT k,zD,zD,zC] at c4
  rw[zF (by omega:¬r.1=1),zF (by omega:¬r.1=2),zF (by omega:¬r.1=3),zT k,zD,zD,zD,zC,e4 (by omega),Bool.not_true,zD]
  have hy:=Rn hb (e4 (by omega))
  have hpd:jo (aX b r.2.2.1)=true:=by
   cases hp:(jo (aX a r.2.1)&&jo (aX b r.2.2.1)) with
   |false=>rw[hp] at c4;cases c4
   |true=>exact(Bool.and_eq_true_iff.1 hp).2
  obtain⟨y1,y2⟩:=ab9 hpd
  obtain⟨_,_,_,f4,f5,_⟩:=zo3 hy
  cases hp:(fy t (aX b r.2.2.1).2.2.2.1).2 with
  |false=>exact⟨fun _=>⟨.inl ⟨k,rfl⟩,rfl⟩,fun e=>by cases e⟩
  |true=>
   obtain⟨p1,p2,p3,p4⟩:=Nf hp
   rw[Bool.not_true,zD]
   refine⟨fun h=>absurd rfl h,fun _=>⟨fun e=>by omega,fun _=>⟨rfl,rfl,?_⟩⟩⟩
   have:=f5 y2
   refine(Ox _ _ (by show(fy t (aX b r.2.2.1).2.2.2.1).1.size<=1099511627776;omega)).2 ⟨hy,?_,?_,?_,fun e=>by omega⟩
   ·show _<=((fy t (aX b r.2.2.1).2.2.2.1).1.size:Int);omega
   ·show((fy t (aX b r.2.2.1).2.2.2.1).1.size:Int)<=_;omega
   ·rw[y1,akK];exact p4
 ·rw[zF (by omega:¬r.1=1),zF (by omega:¬r.1=3),zF (by omega:¬r.1=4),zT k,zD,zD,zD,zC] at c4
  rw[zF (by omega:¬r.1=1),zF (by omega:¬r.1=2),zF (by omega:¬r.1=3),zF (by omega:¬r.1=4),zT k,zD,zD,zD,zD,zC]
  unfold P1 at c4
  cases hp:(zw r.2.2.2.2.1 t).2 with
  |false=>exact⟨fun _=>⟨.inr ⟨k,rfl⟩,rfl⟩,fun e=>by cases e⟩
  |true=>
   rw[Bool.not_true,zD]
   refine⟨fun h=>absurd rfl h,fun _=>⟨fun e=>by omega,fun _=>⟨rfl,e4 (by omega),?_⟩⟩⟩
   obtain⟨p,hm,_,hq⟩:=zcw hp
   show bJ _ (zw r.2.2.2.2.1 t).1=0
   rw[hq]
   cases hz:(!decide ((A3 r.2.2.2.2.1).1=0)||decide ((r.2.2.2.2.1.length:Int)=0)) with
   |true=>rw[hz] at c4;cases c4
   |false=>rw[hz,zD] at c4;exact(Lf c4 p hm).2
end bE

set_option profiler true
set_option profiler.threshold 2000
namespace bE
open Go.IntKind renaming wrap->zW,i64->zI,u8->zU
open Go Go.Ref
def cZ(ae c:Int):Int:=if ae=2/\c=1 then 1 else if ae=1/\(c=5\/c=6) then 2 else 0
def iG(h:Int)(n:Nat):Nat:=if h=1 then(n+1)/2 else if h=2 then 2*n else n
def mK(h:Int)(t:ByteArray)(n:Int):Sum Int ByteArray:=if h=1 then(if(kH t n).2.1=0 then .inr (kH t n).1 else .inl (kH t n).2.1) else if h=2 then(if(nC t).2.2=true then .inr (nC t).1 else .inl 3) else .inr t
def pX(s:Spec)(z:Int):Sum Int ByteArray->ByteArray×Int×Int
 | .inl e=>(bs [],0,e)
 | .inr t=>if bJ s t=0 then(t,z,0) else(bs [],0,bJ s t)
def uW(h:Int)(s:Spec)(b:ByteArray)(n a:Nat):ByteArray×Int×Int:=
 if b.size<a+iG h n then(bs [],0,2) else pX s ((a+iG h n:Nat):Int) (mK h (b.extract a (a+iG h n)) n)
def DC(ae:Int)(s:Spec)(b:ByteArray)(at_:Int):Sum Int (Nat×Nat):=
 if s.2.2.1=1 then .inr (s.2.2.2.1.toNat,at_.toNat) else if¬(z24 ae s.2.2.1 b at_).2.2=0 then .inl (z24 ae s.2.2.1 b at_).2.2 else
  if(z24 ae s.2.2.1 b at_).1<s.2.2.2.1\/s.2.2.2.2.1<(z24 ae s.2.2.1 b at_).1 then .inl 5 else .inr ((z24 ae s.2.2.1 b at_).1.toNat,(z24 ae s.2.2.1 b at_).2.1.toNat)
def zJ(h:Int)(s:Spec)(b:ByteArray):Sum Int (Nat×Nat)->ByteArray×Int×Int
 | .inl e=>(bs [],0,e)
 | .inr q=>uW h s b q.1 q.2
def qg(ae:Int)(s:Spec)(b:ByteArray)(at_:Int):ByteArray×Int×Int:=
 if(ae=1\/ae=2)/\bN s=0/\0<=at_/\at_<=b.size then zJ (cZ ae s.2.1) s b (DC ae s b at_) else(bs [],0,1)
theorem WH(ae c:Int):kI ae c=some (cZ ae c):=by
 unfold kI UR cZ
 by_cases h1:ae=1<;>by_cases h2:ae=2<;>by_cases h3:c=1<;>by_cases h4:c=5<;>by_cases h5:c=6<;>(try(exfalso;omega))<;>simp [h1,h2,h3,h4,h5]
theorem WI(ae c:Int):cZ ae c=0\/cZ ae c=1\/cZ ae c=2:=by
 unfold cZ
 split
 ·exact .inr (.inl rfl)
 ·split
  ·exact .inr (.inr rfl)
  ·exact .inl rfl
theorem Uz{s:Spec}(h:bN s=0):1<=s.2.1/\s.2.1<=6/\1<=s.2.2.1/\s.2.2.1<=3/\1<=s.2.2.2.1/\s.2.2.2.1<=s.2.2.2.2.1/\s.2.2.2.2.1<=999/\(s.2.2.1=2->s.2.2.2.2.1<=99)/\(s.2.2.1=1->s.2.2.2.1=s.2.2.2.2.1):=by
 unfold bN at h
 split at h
 ·cases h
 split at h
 ·cases h
 split at h
 ·cases h
 split at h
 ·cases h
 refine⟨by omega,by omega,by omega,by omega,by omega,by omega,by omega,fun e=>by omega,fun e=>by omega⟩
theorem LO:∀l:List Int,(gk l).length<=l.length
 | []=>by simp [gk]
 | [a]=>by simp [gk]
 |a::b::r=>by rw[gk,List.length_cons,List.length_cons,List.length_cons];have:=LO r;omega
theorem abe(s:ByteArray):(nC s).1.size<=s.size:=by
 unfold nC
 split
 ·exact Nat.zero_le _
 ·split
  ·exact Nat.zero_le _
  ·rw[z28,<-zg];exact LO _
theorem afp{ae form:Int}{b:ByteArray}{at_:Int}(h:(z24 ae form b at_).2.2=0):0<=(z24 ae form b at_).2.1/\(z24 ae form b at_).2.1<=b.size:=by
 unfold z24 at h⊢
 cases hk:(fX ae form&&decide (0<=at_/\at_<=(b.size:Int))) with
 |false=>rw[hk] at h;cases h
 |true=>
  rw[hk] at h
  simp only[zC] at h⊢
  split
  ·exact⟨Int.le_refl _,Int.natCast_nonneg _⟩
  ·rename_i hs
   split
   ·dsimp only;exact⟨by omega,by omega⟩
   ·exact⟨Int.le_refl _,Int.natCast_nonneg _⟩
def jO(jw:Int)(kF:Spec)(l7:ByteArray)(n a:Int):Option Il:=
 let K:ByteArray->Int->Int->Option Il:=fun a0 a1 a2=>some (a0,a1,a2)
 ((kI jw kF.2.1).bind fun r4=>(bif(decide (r4=(1:Int))) then((Q2 n).bind fun r5=>(bif(decide ((zW zI (((l7).size:Int)-a))<r5)) then(K (bs []) (0:Int) (2:Int)) else(bif(decide ((0:Int)<=(zW zI (a+r5)))) then(bif(decide ((zW zI (a+r5))<=(((l7).size:Nat):Int))) then(bif(decide ((0:Int)<=a)) then(bif(decide (a<=((((zW zI (a+r5))).toNat:Nat):Int))) then((kI jw kF.2.1).bind fun r6=>(bif(decide (r6=(1:Int))) then((Q0 ((l7).extract (a).toNat ((zW zI (a+r5))).toNat) n).bind fun r7=>(bif(!(decide (r7.2.1=(0:Int)))) then(K (bs []) (0:Int) r7.2.1) else((bW kF r7.1).bind fun r8=>(bif(!(decide (r8=(0:Int)))) then(K (bs []) (0:Int) r8) else(K r7.1 (zW zI (a+r5)) (0:Int)))))) else(bif(decide (r6=(2:Int))) then((gA ((l7).extract (a).toNat ((zW zI (a+r5))).toNat)).bind fun r9=>(bif(!r9.2.2) then(K (bs []) (0:Int) (3:Int)) else((bW kF r9.1).bind fun kl=>(bif(!(decide (kl=(0:Int)))) then(K (bs []) (0:Int) kl) else(K r9.1 (zW zI (a+r5)) (0:Int)))))) else((bW kF ((l7).extract (a).toNat ((zW zI (a+r5))).toNat)).bind fun kE=>(bif(!(decide (kE=(0:Int)))) then(K (bs []) (0:Int) kE) else(K ((l7).extract (a).toNat ((zW zI (a+r5))).toNat) (zW zI (a+r5)) (0:Int))))))) else none) else none) else none) else none))) else(bif(decide (r4=(2:Int))) then(bif(decide ((zW zI (((l7).size:Int)-a))<(zW zI ((2:Int)*n)))) then(K (bs []) (0:Int) (2:Int)) else(bif(decide ((0:Int)<=(zW zI (a+(zW zI ((2:Int)*n)))))) then(bif(decide ((zW zI (a+(zW zI ((2:Int)*n))))<=(((l7).size:Nat):Int))) then(bif(decide ((0:Int)<=a)) then(bif(decide (a<=((((zW zI (a+(zW zI ((2:Int)*n))))).toNat:Nat):Int))) then((kI jw kF.2.1).bind fun nf=>(bif(decide (nf=(1:Int))) then((Q0 ((l7).extract (a).toNat ((zW zI (a+(zW zI ((2:Int)*n))))).toNat) n).bind fun lX=>(bif(!(decide (lX.2.1=(0:Int)))) then(K (bs []) (0:Int) lX.2.1) else((bW kF lX.1).bind fun nw=>(bif(!(decide (nw=(0:Int)))) then(K (bs []) (0:Int) nw) else(K lX.1 (zW zI (a+(zW zI ((2:Int)*n)))) (0:Int)))))) else(bif(decide (nf=(2:Int))) then((gA ((l7).extract (a).toNat ((zW zI (a+(zW zI ((2:Int)*n))))).toNat)).bind fun rM=>(bif(!rM.2.2) then(K (bs []) (0:Int) (3:Int)) else((bW kF rM.1).bind fun xh=>(bif(!(decide (xh=(0:Int)))) then(K (bs []) (0:Int) xh) else(K rM.1 (zW zI (a+(zW zI ((2:Int)*n)))) (0:Int)))))) else((bW kF ((l7).extract (a).toNat ((zW zI (a+(zW zI ((2:Int)*n))))).toNat)).bind fun Ci=>(bif(!(decide (Ci=(0:Int)))) then(K (bs []) (0:Int) Ci) else(K ((l7).extract (a).toNat ((zW zI (a+(zW zI ((2:Int)*n))))).toNat) (zW zI (a+(zW zI ((2:Int)*n)))) (0:Int))))))) else none) else none) else none) else none)) else(bif(decide ((zW zI (((l7).size:Int)-a))<n)) then(K (bs []) (0:Int) (2:Int)) else(bif(decide ((0:Int)<=(zW zI (a+n)))) then(bif(decide ((zW zI (a+n))<=(((l7).size:Nat):Int))) then(bif(decide ((0:Int)<=a)) then(bif(decide (a<=((((zW zI (a+n))).toNat:Nat):Int))) then((kI jw kF.2.1).bind fun Cj=>(bif(decide (Cj=(1:Int))) then((Q0 ((l7).extract (a).toNat ((zW zI (a+n))).toNat) n).bind fun ue=>(bif(!(decide (ue.2.1=(0:Int)))) then(K (bs []) (0:Int) ue.2.1) else((bW kF ue.1).bind fun Ck=>(bif(!(decide (Ck=(0:Int)))) then(K (bs []) (0:Int) Ck) else(K ue.1 (zW zI (a+n)) (0:Int)))))) else(bif(decide (Cj=(2:Int))) then((gA ((l7).extract (a).toNat ((zW zI (a+n))).toNat)).bind fun xi=>(bif(!xi.2.2) then(K (bs []) (0:Int) (3:Int)) else((bW kF xi.1).bind fun JE=>(bif(!(decide (JE=(0:Int)))) then(K (bs []) (0:Int) JE) else(K xi.1 (zW zI (a+n)) (0:Int)))))) else((bW kF ((l7).extract (a).toNat ((zW zI (a+n))).toNat)).bind fun JF=>(bif(!(decide (JF=(0:Int)))) then(K (bs []) (0:Int) JF) else(K ((l7).extract (a).toNat ((zW zI (a+n))).toNat) (zW zI (a+n)) (0:Int))))))) else none) else none) else none) else none)))))
theorem akR(ae:Int)(s:Spec)(b:ByteArray)(n a:Nat)(hb:b.size<=1099511627776)(hn:n<=999)(ha:a<=b.size)(hh:cZ ae s.2.1=0):jO ae s b n a=some (uW (cZ ae s.2.1) s b n a):=by
 unfold jO
 simp only[WH,zc]
 have w0:zW zI ((b.size:Int)-(a:Int))=(b.size:Int)-a:=zj (by omega) (by omega)
 have w1:∀z:Nat,z<=2000->zW zI ((a:Int)+(z:Int))=((a+z:Nat):Int):=fun z hz=>by rw[zj (by omega) (by omega)];omega
 have hx:∀z:Nat,((a+z:Nat):Int).toNat=a+z:=fun z=>Int.toNat_natCast _
 have E0:∀z:Nat,(b.extract a (a+z)).size<=1099511627776:=fun z=>by rw[ByteArray.size_extract];omega
 rw[hh]
 simp only[Int.reduceEq,decide_true,decide_false,zC,zD,w0,w1 n (by omega),hx,Int.toNat_natCast]
 unfold uW iG mK
 simp only[show¬((0:Int)=1) from by decide,show¬((0:Int)=2) from by decide,if_false]
 split
 ·rename_i hc
  rw[zT (by omega),zC]
 ·rename_i hc
  rw[zF (by omega),zD,zT (by omega),zC,zT (by omega),zC,zT (by omega),zC,zT (by omega),zC,xA _ _ (E0 n),zc]
  unfold pX
  by_cases hv:bJ s (b.extract a (a+n))=0
  ·simp only[hv,decide_true,Bool.not_true,zD,if_true]
  ·simp only[hv,decide_false,Bool.not_false,zC,if_false]
theorem akS(ae:Int)(s:Spec)(b:ByteArray)(n a:Nat)(hb:b.size<=1099511627776)(hn:n<=999)(ha:a<=b.size)(hh:cZ ae s.2.1=1):jO ae s b n a=some (uW (cZ ae s.2.1) s b n a):=by
 unfold jO
 simp only[WH,zc]
 have w0:zW zI ((b.size:Int)-(a:Int))=(b.size:Int)-a:=zj (by omega) (by omega)
 have w1:∀z:Nat,z<=2000->zW zI ((a:Int)+(z:Int))=((a+z:Nat):Int):=fun z hz=>by rw[zj (by omega) (by omega)];omega
 have hx:∀z:Nat,((a+z:Nat):Int).toNat=a+z:=fun z=>Int.toNat_natCast _
 have E0:∀z:Nat,(b.extract a (a+z)).size<=1099511627776:=fun z=>by rw[ByteArray.size_extract];omega
 rw[hh]
 have ez:((n:Int)+1)/2=(((n+1)/2:Nat):Int):=by omega
 simp only[Int.reduceEq,decide_true,decide_false,zC,zD,N5 (n:Int) (by omega) (by omega),zc,ez]
 simp only[w0,w1 ((n+1)/2) (by omega),hx,Int.toNat_natCast,Int.reduceEq,decide_true,decide_false,zC,zD]
 unfold uW iG mK
 simp only[if_true]
 split
 ·rename_i hc
  rw[zT (by omega),zC]
 ·rename_i hc
  rw[zF (by omega),zD,zT (by omega),zC,zT (by omega),zC,zT (by omega),zC,zT (by omega),zC,zgx _ _ (E0 _),zc]
  generalize hg:kH (b.extract a (a+(n+1)/2)) (n:Int)=g
  obtain⟨t,e,i⟩:=g
  have kj:=za6 hg
  dsimp only
  by_cases he:e=0
  ·rw[zT he,Bool.not_true,zD,if_pos he,xA _ _ (by omega),zc]
   unfold pX
   by_cases hv:bJ s t=0
   ·simp only[hv,decide_true,Bool.not_true,zD,if_true]
   ·simp only[hv,decide_false,Bool.not_false,zC,if_false]
  ·rw[zF he,Bool.not_false,zC,if_neg he];rfl
theorem akT(ae:Int)(s:Spec)(b:ByteArray)(n a:Nat)(hb:b.size<=1099511627776)(hn:n<=999)(ha:a<=b.size)(hh:cZ ae s.2.1=2):jO ae s b n a=some (uW (cZ ae s.2.1) s b n a):=by
 unfold jO
 simp only[WH,zc]
 have w0:zW zI ((b.size:Int)-(a:Int))=(b.size:Int)-a:=zj (by omega) (by omega)
 have w1:∀z:Nat,z<=2000->zW zI ((a:Int)+(z:Int))=((a+z:Nat):Int):=fun z hz=>by rw[zj (by omega) (by omega)];omega
 have hx:∀z:Nat,((a+z:Nat):Int).toNat=a+z:=fun z=>Int.toNat_natCast _
 have E0:∀z:Nat,(b.extract a (a+z)).size<=1099511627776:=fun z=>by rw[ByteArray.size_extract];omega
 rw[hh]
 have ez:zW zI ((2:Int)*(n:Int))=((2*n:Nat):Int):=by rw[zj (by omega) (by omega)];omega
 simp only[Int.reduceEq,decide_true,decide_false,zD,zC]
 rw[ez]
 simp only[w0,w1 (2*n) (by omega),hx,Int.toNat_natCast,Int.reduceEq,decide_true,decide_false,zC,zD]
 unfold uW iG mK
 simp only[show¬((2:Int)=1) from by decide,if_false,if_true]
 split
 ·rename_i hc
  rw[zT (by omega),zC]
 ·rename_i hc
  rw[zF (by omega),zD,zT (by omega),zC,zT (by omega),zC,zT (by omega),zC,zT (by omega),zC,zui _ (E0 _),zc]
  have kj:=abe (b.extract a (a+2*n))
  have h3:=E0 (2*n)
  generalize nC (b.extract a (a+2*n))=g at kj
  obtain⟨t,i,ok⟩:=g
  dsimp only at kj⊢
  cases ok with
  |true=>
   rw[Bool.not_true,zD,if_pos rfl,xA _ _ (by omega),zc]
   unfold pX
   by_cases hv:bJ s t=0
   ·simp only[hv,decide_true,Bool.not_true,zD,if_true]
   ·simp only[hv,decide_false,Bool.not_false,zC,if_false]
  |false=>rw[Bool.not_false,zC,if_neg (by decide)];rfl
theorem Lz(ae:Int)(s:Spec)(b:ByteArray)(n a:Nat)(hb:b.size<=1099511627776)(hn:n<=999)(ha:a<=b.size):jO ae s b n a=some (uW (cZ ae s.2.1) s b n a):=by
 rcases WI ae s.2.1 with hh|hh|hh
 ·exact akR ae s b n a hb hn ha hh
 ·exact akS ae s b n a hb hn ha hh
 ·exact akT ae s b n a hb hn ha hh
theorem abI(ae:Int)(s:Spec)(b:ByteArray)(at_:Int)(hb:b.size<=1099511627776):Gd ae s b at_=some (qg ae s b at_):=by
 have hk:A7 ae=some (decide (ae=1\/ae=2)):=by
  unfold A7 Ps
  by_cases h1:ae=1
  ·rw[zT (p:=ae=1\/ae=2) (.inl h1),zT h1];rfl
  ·rw[zF h1,zD]
   by_cases h2:ae=2
   ·rw[zT (p:=ae=1\/ae=2) (.inr h2),zT h2]
   ·rw[zF (p:=ae=1\/ae=2) (fun h=>h.elim h1 h2),zF h2]
 unfold Gd UK qg
 rw[hk,zc]
 by_cases h1:ae=1\/ae=2
 case neg=>rw[zF h1,if_neg (fun h=>h1 h.1)];rfl
 rw[zT h1,Bool.not_true,zD,N0,zc]
 by_cases h2:bN s=0
 case neg=>rw[zF h2,if_neg (fun h=>h2 h.2.1)];rfl
 rw[zT h2,Bool.not_true,zD]
 by_cases h3:at_<0
 ·rw[zT h3,if_neg (fun h=>by omega)];rfl
 rw[zF h3,zD]
 by_cases h4:(b.size:Int)<at_
 ·rw[zT h4,if_neg (fun h=>by omega)];rfl
 rw[zF h4,zD,if_pos ⟨h1,h2,by omega,by omega⟩]
 obtain⟨k1,k2,k3,k4,k5,k6,k7,k8,k9⟩:=Uz h2
 obtain⟨m,rfl⟩:∃m:Nat,at_=m:=⟨at_.toNat,by omega⟩
 unfold DC
 by_cases h5:s.2.2.1=1
 ·rw[zT h5,Bool.not_true,zD,if_pos h5]
  have:=Lz ae s b s.2.2.2.1.toNat m hb (by omega) (by omega)
  rw[Int.toNat_of_nonneg (by omega)] at this
  exact this
 ·rw[zF h5,Bool.not_false,zC,if_neg h5,afo _ _ _ _ hb,zc]
  by_cases h6:(z24 ae s.2.2.1 b m).2.2=0
  case neg=>rw[zF h6,if_pos h6];rfl
  rw[zT h6,Bool.not_true,zD,if_neg (fun h=>h h6)]
  have hp:=afp h6
  by_cases h7:(z24 ae s.2.2.1 b m).1<s.2.2.2.1
  ·rw[zT h7,if_pos (.inl h7)];rfl
  rw[zF h7,zD]
  by_cases h8:s.2.2.2.2.1<(z24 ae s.2.2.1 b m).1
  ·rw[zT h8,if_pos (.inr h8)];rfl
  rw[zF h8,zD,if_neg (fun h=>h.elim h7 h8)]
  have:=Lz ae s b (z24 ae s.2.2.1 b m).1.toNat (z24 ae s.2.2.1 b m).2.1.toNat hb (by omega) (by omega)
  rw[Int.toNat_of_nonneg (by omega),Int.toNat_of_nonneg (by omega)] at this
  exact this
def ku(h:Int)(t:ByteArray):ByteArray:=if h=1 then(qi t).1 else if h=2 then rV t else t
def kC(ae form:Int)(n:Nat):ByteArray:=if form=1 then bs [] else(EK ae form n).1
def AO(ae:Int)(s:Spec)(t:ByteArray):ByteArray×Int:=
 if¬(ae=1\/ae=2) then(bs [],1) else if¬bJ s t=0 then(bs [],bJ s t) else(kC ae s.2.2.1 t.size++ku (cZ ae s.2.1) t,0)
theorem zgz(t:ByteArray):(qi t).1.size<=500:=by
 by_cases h:t.size<=999/\bF (bl t)=true
 ·rw[za8 h.1 h.2];omega
 ·unfold qi;rw[zF h];exact Nat.zero_le _
theorem KY(ae form:Int)(n:Nat):(kC ae form n).size<=500:=by
 unfold kC EK
 split
 ·exact Nat.zero_le _
 ·cases fX ae form with
  |false=>exact Nat.zero_le _
  |true=>
   cases(jq (n:Int) form).2 with
   |false=>exact Nat.zero_le _
   |true=>
    show(if ae=2 then _ else _:ByteArray).size<=500
    split
    ·exact zgz _
    ·have:=K0 (n:Int) form;omega
theorem Kd(h:Int)(t:ByteArray):(ku h t).size<=2*t.size+500:=by
 unfold ku
 split
 ·have:=zgz t;omega
 ·split
  ·rw[zah];omega
  ·omega
theorem Dz(x:ByteArray):bs []++x=x:=by
 apply ByteArray.ext
 simp [ByteArray.data_append,bs]
theorem abJ(ae:Int)(s:Spec)(t:ByteArray)(ht:t.size<=1099511627776):A5 ae s t=some (AO ae s t):=by
 unfold A5 UM A7 Ps AO
 have eh:=Kd (cZ ae s.2.1) t
 have iO:=KY ae s.2.2.1 t.size
 have main:ae=1\/ae=2->(bW s t).bind (fun r2=>(bif(!(decide (r2=(0:Int)))) then some (bs [],r2) else(bif(!(decide (s.2.2.1=(1:Int)))) then((qv ae s.2.2.1 ((t).size:Int)).bind fun r3=>((kI ae s.2.1).bind fun r4=>(bif(decide (r4=(1:Int))) then((Q1 t).bind fun r5=>(bif decide ((r3.1).size+(r5.1).size<=9223372036854775807) then some (r3.1++r5.1,(0:Int)) else none)) else(bif(decide (r4=(2:Int))) then((jB t).bind fun r6=>(bif decide ((r3.1).size+(r6).size<=9223372036854775807) then some (r3.1++r6,(0:Int)) else none)) else(bif decide ((r3.1).size+(t).size<=9223372036854775807) then some (r3.1++t,(0:Int)) else none))))) else((kI ae s.2.1).bind fun r7=>(bif(decide (r7=(1:Int))) then((Q1 t).bind fun r8=>(bif decide (((bs [])).size+(r8.1).size<=9223372036854775807) then some ((bs [])++r8.1,(0:Int)) else none)) else(bif(decide (r7=(2:Int))) then((jB t).bind fun r9=>(bif decide (((bs [])).size+(r9).size<=9223372036854775807) then some ((bs [])++r9,(0:Int)) else none)) else(bif decide (((bs [])).size+(t).size<=9223372036854775807) then some ((bs [])++t,(0:Int)) else none)))))))=some (if¬bJ s t=0 then(bs [],bJ s t) else(kC ae s.2.2.1 t.size++ku (cZ ae s.2.1) t,0)):=fun hs=>by
  rw[xA s t ht,zc]
  by_cases hv:bJ s t=0
  case neg=>rw[zF hv,if_pos hv];rfl
  rw[zT hv,Bool.not_true,zD,if_neg (fun h=>h hv)]
  simp only[WH,zc,afr _ _ _ (show(t.size:Int)<=9223372036854775807 by omega),zgy t (by simp only[maxLen];omega),zuj t ht]
  have hz:(bs []).size=0:=rfl
  by_cases h1:s.2.2.1=1
  ·rw[zT h1,Bool.not_true,zD]
   unfold kC
   rw[if_pos h1]
   unfold ku at eh⊢
   rcases WI ae s.2.1 with hh|hh|hh<;>rw[hh] at eh⊢ <;>simp only[Int.reduceEq,decide_true,decide_false,zC,zD,if_true,if_false] at eh⊢
   all_goals rw[zT (by omega),zC]
  ·rw[zF h1,Bool.not_false,zC]
   unfold kC at iO⊢
   rw[if_neg h1] at iO⊢
   unfold ku at eh⊢
   rcases WI ae s.2.1 with hh|hh|hh<;>rw[hh] at eh⊢ <;>simp only[Int.reduceEq,decide_true,decide_false,zC,zD,if_true,if_false] at eh⊢
   all_goals rw[zT (by omega),zC]
 by_cases h1:ae=1
 ·rw[zT h1,zC,zc,Bool.not_true,zD,if_neg (fun h=>h (.inl h1))]
  exact main (.inl h1)
 ·rw[zF h1,zD,zc]
  by_cases h2:ae=2
  ·rw[zT h2,Bool.not_true,zD,if_neg (fun h=>h (.inr h2))]
   exact main (.inr h2)
  ·rw[zF h2,if_pos (fun h=>h.elim h1 h2)];rfl
theorem ak2(x p y:ByteArray):(x++p++y).extract x.size (x.size+p.size)=p:=by
 apply EH
 rw[uT,xB,xB,List.append_assoc,<-zg,<-zg,List.take_append,List.drop_append_of_le_length (by simp),]
 simp
theorem z49(x y:ByteArray):(x++y).size=x.size+y.size:=ByteArray.size_append ..
theorem MU(b:ByteArray){i j k:Nat}(h:i<=j)(h2:j<=k):b.extract i j++b.extract j k=b.extract i k:=by
 apply EH
 rw[xB,uT,uT,uT]
 generalize bl b=l
 have e1:l.take j=(l.take k).take j:=by rw[List.take_take];congr 1;omega
 rw[e1]
 generalize l.take k=q
 rw[<-List.take_append_drop (j-i) (q.drop i),List.drop_take,List.drop_drop,show i+(j-i)=j by omega]
theorem Kx{s:ByteArray}{n:Int}(h:dT (bl s)=(n,true)):jq n s.size=(s,true)/\0<=n:=by
 unfold dT at h
 split at h
 ·rename_i hc
  obtain⟨h1,h2,h3⟩:=hc
  have hv:fh (bl s) 0=n:=congrArg Prod.fst h
  have hn:=(zvc (bl s) 0 0 h3 (Int.le_refl _) (by simp) (by omega)).1
  rw[hv] at hn
  obtain⟨e1,e2⟩:=LB (bl s).length n.toNat (bl s) h3 rfl (by rw[hv,Int.toNat_of_nonneg hn])
  rw[zg] at e1 e2 h1 h2
  refine⟨?_,hn⟩
  rw[DF ⟨hn,by omega,by omega,by rw[Int.toNat_natCast];exact e2⟩,Int.toNat_natCast,e1,D1]
 ·cases h
theorem afq{ae form:Int}:fX ae form=true↔(ae=1\/ae=2)/\(form=2\/form=3):=by unfold fX;rw[decide_eq_true_eq]
theorem acb{ae form n:Int}{s:ByteArray}(hk:fX ae form=true)(h:ud ae form s=some n)(hs:s.size=kD ae form):EK ae form n=(s,0)/\0<=n:=by
 have BP:=afq.1 hk
 unfold ud at h
 unfold kD at hs
 unfold EK
 rw[hk,zC]
 by_cases h2:ae=2
 ·rw[if_pos h2] at h hs⊢
  generalize hg:kH s form=g at h
  obtain⟨t,e,i⟩:=g
  dsimp only at h
  split at h
  case isFalse=>cases h
  rename_i he
  subst he
  obtain⟨a1,a2,a3⟩:=J5 hg (by omega)
  split at h
  case isFalse=>cases h
  rename_i ho
  have hn:(dT (bl t)).1=n:=by simpa using h
  obtain⟨c1,c2⟩:=Kx (s:=t) (n:=n) (by rw[<-hn,<-ho])
  rw[a2] at c1
  rw[c1,zC]
  dsimp only
  rw[a1]
  exact⟨rfl,c2⟩
 ·rw[if_neg h2] at h hs⊢
  split at h
  case isFalse=>cases h
  rename_i ho
  have hn:(dT (bl s)).1=n:=by simpa using h
  obtain⟨c1,c2⟩:=Kx (s:=s) (n:=n) (by rw[<-hn,<-ho])
  rw[hs,Int.toNat_of_nonneg (by omega)] at c1
  rw[c1]
  exact⟨rfl,c2⟩
theorem afs{ae form n z:Int}{b:ByteArray}{a:Nat}(h:z24 ae form b a=(n,z,0)):fX ae form=true/\0<=n/\a<=b.size/\z=((a+kD ae form:Nat):Int)/\a+kD ae form<=b.size/\EK ae form n=(b.extract a (a+kD ae form),0):=by
 unfold z24 at h
 cases hk:(fX ae form&&decide (0<=(a:Int)/\(a:Int)<=(b.size:Int))) with
 |false=>rw[hk] at h;cases h
 |true=>
  rw[hk,zC,Int.toNat_natCast] at h
  rw[Bool.and_eq_true,decide_eq_true_eq] at hk
  split at h
  ·cases h
  ·rename_i hs
   split at h
   ·rename_i m hm
    cases h
    obtain⟨c1,c2⟩:=acb hk.1 hm (DX (by omega))
    exact⟨hk.1,c2,by omega,rfl,by omega,c1⟩
   ·cases h
theorem aeC{ae:Int}{s:Spec}{c t:ByteArray}{n:Nat}(hc:c.size=iG (cZ ae s.2.1) n)(hn:n<=999)(h:mK (cZ ae s.2.1) c n= .inr t):ku (cZ ae s.2.1) t=c/\t.size=n:=by
 unfold mK at h
 unfold iG at hc
 unfold ku
 rcases WI ae s.2.1 with hh|hh|hh<;>rw[hh] at h hc⊢ <;>simp only[Int.reduceEq,if_true,if_false] at h hc⊢
 ·injection h with h
  exact⟨h.symm,by rw[<-h];exact hc⟩
 ·split at h
  case isFalse=>cases h
  rename_i he
  generalize hg:kH c (n:Int)=g at h he
  obtain⟨t',e,i⟩:=g
  dsimp only at h he
  subst he
  injection h with h
  subst h
  obtain⟨a1,a2,a3⟩:=J5 hg (by omega)
  exact⟨by rw[a1],by omega⟩
 ·split at h
  case isFalse=>cases h
  rename_i he
  generalize hg:nC c=g at h he
  obtain⟨t',i,ok⟩:=g
  dsimp only at h he
  subst he
  injection h with h
  subst h
  obtain⟨a1,a2⟩:=zho hg
  exact⟨a1,by omega⟩
theorem zu0{ae z:Int}{s:Spec}{b t:ByteArray}{a:Nat}(hb:b.size<=1099511627776)(h:qg ae s b a=(t,z,0)):(ae=1\/ae=2)/\bJ s t=0/\(a:Int)<=z/\z<=b.size/\t.size<=999/\(AO ae s t).1=b.extract a z.toNat:=by
 unfold qg at h
 split at h
 case isFalse=>cases h
 rename_i hc
 obtain⟨hs,v1,ha0,ha1⟩:=hc
 obtain⟨k1,k2,k3,k4,k5,k6,k7,k8,k9⟩:=Uz v1
 have body:∀(n p:Nat),n<=999->uW (cZ ae s.2.1) s b n p=(t,z,0)->bJ s t=0/\z=((p+iG (cZ ae s.2.1) n:Nat):Int)/\p+iG (cZ ae s.2.1) n<=b.size/\t.size=n/\ku (cZ ae s.2.1) t=b.extract p (p+iG (cZ ae s.2.1) n):=by
  intro n p hn h
  unfold uW at h
  split at h
  ·cases h
  ·rename_i ar
   cases hg:mK (cZ ae s.2.1) (b.extract p (p+iG (cZ ae s.2.1) n)) (n:Int) with
   |inl e=>
    rw[hg] at h
    replace h:(bs [],(0:Int),e)=(t,z,0):=h
    injection h with _ h
    injection h with _ h
    exfalso
    subst h
    unfold mK at hg
    split at hg
    ·split at hg
     ·cases hg
     ·rename_i bK
      injection hg with hg
      exact bK hg
    ·split at hg
     ·split at hg<;>cases hg
     ·cases hg
   |inr t'=>
    rw[hg] at h
    replace h:(if bJ s t'=0 then(t',((p+iG (cZ ae s.2.1) n:Nat):Int),(0:Int)) else(bs [],0,bJ s t'))=(t,z,0):=h
    split at h
    ·rename_i hv
     cases h
     obtain⟨c1,c2⟩:=aeC (DX (by omega)) hn hg
     exact⟨hv,rfl,by omega,c2,c1⟩
    ·rename_i hv
     injection h with _ h
     injection h with _ h
     exact absurd h hv
 have fin:bJ s t=0->(AO ae s t).1=kC ae s.2.2.1 t.size++ku (cZ ae s.2.1) t:=fun hv=>by
  unfold AO
  rw[if_neg (fun h=>h hs),if_neg (fun h=>h hv)]
 unfold DC at h
 by_cases hf:s.2.2.1=1
 ·rw[if_pos hf] at h
  obtain⟨b1,b2,b3,b4,b5⟩:=body _ _ (by omega) h
  rw[Int.toNat_natCast] at b2 b3 b5
  refine⟨hs,b1,by omega,by omega,by omega,?_⟩
  rw[fin b1,b5,b2,Int.toNat_natCast]
  unfold kC
  rw[if_pos hf,Dz]
 ·rw[if_neg hf] at h
  split at h
  ·rename_i he
   unfold zJ at h
   injection h with _ h
   injection h with _ h
   exact absurd h he
  ·rename_i he
   split at h
   ·cases h
   ·rename_i hr
    generalize hg:z24 ae s.2.2.1 b (a:Int)=g at h he hr
    obtain⟨n,z',e⟩:=g
    dsimp only at h he hr
    have he:e=0:=by
     by_cases e0:e=0
     ·exact e0
     ·exact absurd e0 he
    subst he
    obtain⟨q1,q2,q3,q4,q5,q6⟩:=afs hg
    obtain⟨b1,b2,b3,b4,b5⟩:=body _ _ (by omega) h
    dsimp only at b2 b3 b5
    subst q4
    rw[Int.toNat_natCast] at b2 b3 b5
    refine⟨hs,b1,by omega,by omega,by omega,?_⟩
    rw[fin b1,b5,b2,Int.toNat_natCast]
    have hpc:kC ae s.2.2.1 t.size=b.extract a (a+kD ae s.2.2.1):=by
     unfold kC
     rw[if_neg hf,b4,Int.toNat_of_nonneg q2,q6]
    rw[hpc,MU _ (by omega) (by omega)]
def oj(n:Nat)(l:List Int):Nat:=l.foldl (fun n c=>n*256+c.toNat) n
def ke(l:List Int):Nat:=oj 0 l
def lI(x:Nat):List Int:=[((x/72057594037927936 % 256:Nat):Int),((x/281474976710656 % 256:Nat):Int),((x/1099511627776 % 256:Nat):Int),((x/4294967296 % 256:Nat):Int),((x/16777216 % 256:Nat):Int),((x/65536 % 256:Nat):Int),((x/256 % 256:Nat):Int),((x % 256:Nat):Int)]
theorem zzw{x:Nat}(h:x<18446744073709551616):ke (lI x)=x:=by
 simp only[ke,oj,lI,List.foldl,Int.toNat_natCast]
 omega
theorem eight{l:List Int}(h:l.length=8):∃a b c d e f g i,l=[a,b,c,d,e,f,g,i]:=by
 match l,h with
 | [a,b,c,d,e,f,g,i],_=>exact⟨a,b,c,d,e,f,g,i,rfl⟩
def PR:Nat->Nat->List Int
 |0,_=>[]
 |m+1,x=>PR m (x/256)++ [((x % 256:Nat):Int)]
theorem afU(l:List Int)(n:Nat)(c:Int):oj n (l++ [c])=oj n l*256+c.toNat:=by
 unfold oj;rw[List.foldl_append];rfl
theorem ztz:∀(m:Nat) (l:List Int),l.length=m->(∀y∈l,zn y)->PR m (ke l)=l/\ke l<256^m
 |0,l,h,_=>by
  have:=List.length_eq_zero_iff.1 h
  subst this
  exact⟨rfl,by decide⟩
 |m+1,l,h,hb=>by
  obtain⟨q,c,rfl⟩:∃q c,l=q++ [c]:=by
   rcases List.eq_nil_or_concat l with e|⟨q,c,e⟩
   ·rw[e] at h;cases h
   ·exact⟨q,c,by rw[e,List.concat_eq_append]⟩
  obtain⟨i1,i2⟩:=ztz m q (by rw[List.length_append,List.length_singleton] at h;omega) fun y hy=>hb y (List.mem_append_left _ hy)
  have hc:=hb c (List.mem_append_right _ (by simp))
  unfold zn at hc
  unfold ke at i1 i2⊢
  rw[afU]
  generalize oj 0 q=v at i1 i2
  refine⟨?_,by rw[Nat.pow_succ];omega⟩
  rw[PR,show(v*256+c.toNat)/256=v by omega,i1,show(v*256+c.toNat)% 256=c.toNat by omega,Int.toNat_of_nonneg hc.1]
theorem Ip(x:Nat):lI x=PR 8 x:=by
 simp only[PR,lI,Nat.div_div_eq_div_mul,List.nil_append,List.cons_append]
theorem Pq{l:List Int}(h:l.length=8)(hb:∀y∈l,zn y):lI (ke l)=l/\ke l<18446744073709551616:=by
 obtain⟨h1,h2⟩:=ztz 8 l h hb
 rw[Ip]
 exact⟨h1,by rw[show(256:Nat)^8=18446744073709551616 from by decide] at h2;exact h2⟩
theorem Ly(x:Nat):∀y∈lI x,zn y:=by
 intro y hy
 unfold lI at hy
 simp only[List.mem_cons,List.not_mem_nil,or_false] at hy
 unfold zn
 omega
theorem MQ(x:Nat):(lI x).length=8:=rfl
theorem Ry{x:Nat}(hx:x<18446744073709551616):lI x=[0,0,0,0,0,0,0,0]↔x=0:=by
 constructor
 ·intro h
  have:=zzw hx
  rw[h] at this
  rw[<-this];rfl
 ·rintro rfl;rfl
theorem am6(n:Nat):zW zU (n:Int)=((n % 256:Nat):Int):=by
 simp [IntKind.wrap,IntKind.signed,IntKind.bits]
theorem AB(k x:Nat)(j:Nat)(hj:j<8)(p q:List Int):gU (k+1) (x:Int) (j:Int) p q=gU k (x:Int) ((j+1:Nat):Int) p (q.set j ((x/2^(8*(7-j))% 256:Nat):Int)):=by
 have e1:zW zI ((7:Int)-(j:Int))=((7-j:Nat):Int):=by rw[zj (by omega) (by omega)];omega
 have e2:zW zI ((8:Int)*((7-j:Nat):Int))=((8*(7-j):Nat):Int):=by rw[zj (by omega) (by omega)];omega
 conv=>lhs;unfold gU mC
 rw[zT (by omega),zC,e1,e2,zF (by omega),zD,zk hj,Oo x _ (by omega),am6,zu (by omega),Int.toNat_natCast]
theorem aew(k x:Nat)(p q:List Int):gU (k+1) (x:Int) ((8:Nat):Int) p q=some (p,q):=by
 unfold gU mC
 rw[zF (by omega)];rfl
theorem zpr(x:Nat):Q8 (x:Int)=some (lI x):=by
 obtain⟨k,hk⟩:∃k,ai=k+9:=⟨ai-9,by rw[zr]⟩
 unfold Q8 pg
 dsimp only
 rw[hk,show(0:Int)=((0:Nat):Int) from rfl,AB _ x 0 (by decide),AB _ x 1 (by decide),AB _ x 2 (by decide),AB _ x 3 (by decide),AB _ x 4 (by decide),AB _ x 5 (by decide),AB _ x 6 (by decide),AB _ x 7 (by decide),aew,zc]
 unfold ph lI
 simp
theorem am1{n c:Nat}(hc:c<256):n*256|||c=n*256+c:=by
 have:=Nat.two_pow_add_eq_or_of_lt (i:=8) (b:=c) hc n
 rw[show(2:Nat)^8=256 from rfl,Nat.mul_comm 256 n] at this
 exact this.symm
theorem J8(l:List Int)(hl:l.length=8)(hb:∀y∈l,zn y):∀(m j k n:Nat),j+m=8->m<k->n<256^j->jG k (n:Int) l (j:Int)=some ((oj n (l.drop j):Nat):Int)
 |m,j,0,n,_,hk,_=>by omega
 |0,j,k+1,n,hj,hk,_=>by
  unfold jG mA
  rw[zF (by omega),zD,List.drop_eq_nil_of_le (by omega)];rfl
 |m+1,j,k+1,n,hj,hk,hn=>by
  have ar:j<l.length:=by omega
  have hc:=hb _ (List.getElem_mem ar)
  unfold zn at hc
  have hg:l.getD j 0=l[j]:=by rw[List.getD_eq_getElem?_getD,List.getElem?_eq_getElem ar];rfl
  have hp:(256:Nat)^j<=256^7:=Nat.pow_le_pow_right (by decide) (by omega)
  have hp7:(256:Nat)^7=72057594037927936:=by decide
  obtain⟨c,hcc⟩:∃c:Nat,l[j]=(c:Int):=⟨l[j].toNat,by omega⟩
  unfold jG mA
  rw[zT (by omega),zC,zk (by omega),Int.toNat_natCast,hg,hcc,zu (by omega)]
  have e1:IntKind.u64.wrap ((n:Int)*2^min ((8:Int)).toNat 64)=((n*256:Nat):Int):=by
   have:((n:Int)*2^min ((8:Int)).toNat 64)=((n*256:Nat):Int):=by
    rw[show min ((8:Int)).toNat 64=8 from rfl,show(2:Int)^8=256 from by decide];omega
   rw[this];exact FQ (by omega)
  rw[e1,FQ (by omega),xc (by omega) (by omega),am1 (by omega)]
  dsimp only
  have I4:n*256+c<256^(j+1):=by rw[Nat.pow_succ];omega
  rw[J8 l hl hb m (j+1) k _ (by omega) (by omega) I4,List.drop_eq_getElem_cons ar,hcc]
  rfl
theorem MN(l:List Int)(hl:l.length=8)(hb:∀y∈l,zn y):Q7 l=some ((ke l:Nat):Int):=by
 unfold Q7 pa
 have:=J8 l hl hb 8 0 ai 0 (by omega) (by rw[zr];omega) (by decide)
 rw[show((0:Nat):Int)=0 from rfl,List.drop_zero] at this
 dsimp only
 rw[this];rfl
def gO(ae:Int):Nat:=if ae=1 then 16 else 8
def np(ae:Int)(b:ByteArray)(a:Nat):Sum Int Nat:=
 if b.size<a+gO ae then .inl 2 else if ae=1 then(if(nC (b.extract a (a+gO ae))).2.2=true then .inr (ke (bl (nC (b.extract a (a+gO ae))).1)) else .inl 3) else .inr (ke (bl (b.extract a (a+gO ae))))
def ui(a:Nat)(ae:Int):Sum Int Nat->List Int×Int×Int
 | .inl e=>(List.replicate 8 0,0,e)
 | .inr x=>(lI x,((a+gO ae:Nat):Int),0)
theorem zK{t:ByteArray}(h:t.size=8):bX (List.replicate 8 (0:Int)) (List.take 8 (nA t)) 0=lI (ke (bl t)):=by
 have hl:(bl t).length=8:=by rw[zg];exact h
 rw[(Pq hl fun y hy=>lq hy).1]
 have df:nA t=bl t:=rfl
 rw[df]
 obtain⟨a,b,c,d,e,f,g,i,hq⟩:=eight hl
 rw[hq]
 rfl
theorem tn{s t:ByteArray}{i:Int}(h:nC s=(t,i,true))(hs:s.size=16):t.size=8:=by have:=(zho h).2;omega
theorem Nl(ae:Int)(b:ByteArray)(a:Nat)(hb:b.size<=1099511627776)(ha:a<=b.size)(hs:ae=1\/ae=2):EM ae b a=some (ui a ae (np ae b a)):=by
 have w0:zW zI ((b.size:Int)-(a:Int))=(b.size:Int)-a:=zj (by omega) (by omega)
 have w8:zW zI ((a:Int)+8)=((a+8:Nat):Int):=by rw[zj (by omega) (by omega)];omega
 have w16:zW zI ((a:Int)+16)=((a+16:Nat):Int):=by rw[zj (by omega) (by omega)];omega
 have wm:zW zI ((8:Int)*2)=16:=by decide
 unfold EM UF np gO
 rcases hs with rfl|rfl
 ·simp only[Int.reduceEq,decide_true,zC,wm,w0,w16,if_true,Int.toNat_natCast]
  split
  ·rename_i hc
   rw[zT (by omega)];rfl
  ·rename_i hc
   rw[zF (by omega),zD,zT (by omega),zC,zT (by omega),zC,zT (by omega),zC,zT (by omega),zC,zui _ (by rw[ByteArray.size_extract];omega),zc]
   generalize hg:nC (b.extract a (a+16))=g
   obtain⟨t,i,ok⟩:=g
   cases ok with
   |false=>rfl
   |true=>
    have ht:=tn hg (DX (by omega))
    dsimp only
    rw[Bool.not_true,zD,if_pos rfl,zK ht]
    rfl
 ·simp only[Int.reduceEq,decide_false,zD,w0,w8,if_false,Int.toNat_natCast]
  split
  ·rename_i hc
   rw[zT (by omega)];rfl
  ·rename_i hc
   rw[zF (by omega),zD,zT (by omega),zC,zT (by omega),zC,zT (by omega),zC,zT (by omega),zC,zK (DX (by omega))]
   rfl
theorem Dy{ae:Int}{b:ByteArray}{a x:Nat}(hs:ae=1\/ae=2)(h:np ae b a= .inr x):x<18446744073709551616/\a+gO ae<=b.size:=by
 unfold np gO at h
 unfold gO
 rcases hs with rfl|rfl
 ·simp only[if_true] at h⊢
  split at h
  ·cases h
  ·split at h
   case isFalse=>cases h
   rename_i hc ho
   injection h with h
   generalize hg:nC (b.extract a (a+16))=g at h ho
   obtain⟨t,i,ok⟩:=g
   dsimp only at h ho
   subst ho
   have ht:=tn hg (DX (by omega))
   rw[<-h]
   exact⟨(Pq (by rw[zg];exact ht) fun y hy=>lq hy).2,by omega⟩
 ·simp only[Int.reduceEq,if_false] at h⊢
  split at h
  ·cases h
  ·injection h with h
   rw[<-h]
   exact⟨(Pq (by rw[zg];exact DX (by omega)) fun y hy=>lq hy).2,by omega⟩
def Qf(e:Int):Nat×Nat×Int×Int:=(0,0,0,e)
def cQ(ae:Int)(b:ByteArray)(at_:Int):Nat×Nat×Int×Int:=
 if(ae=1\/ae=2)/\0<=at_/\at_<=b.size then
  match np ae b at_.toNat with
  | .inl e=>Qf e
  | .inr x=>if x<9223372036854775808 then(x,0,((at_.toNat+gO ae:Nat):Int),0) else
    match np ae b (at_.toNat+gO ae) with
    | .inl e=>Qf e
    | .inr y=>if y=0 then Qf 8 else(x-9223372036854775808,y,((at_.toNat+gO ae+gO ae:Nat):Int),0)
 else Qf 1
def bmR(r:Nat×Nat×Int×Int):vg×Int×Int:=(((r.1:Int),(r.2.1:Int),()),r.2.2.1,r.2.2.2)
theorem alu{x:Nat}(hx:x<18446744073709551616):decide (aP .and .u64 (x:Int) (9223372036854775808:Int)=0)=decide (x<9223372036854775808):=by
 rw[show(9223372036854775808:Int)=((9223372036854775808:Nat):Int) from rfl,mH hx (by decide)]
 apply decide_eq_decide.2
 have h:=z90 x 63
 rw[show(2:Nat)^63=9223372036854775808 from by decide] at h
 constructor
 ·intro e
  have e:x&&&9223372036854775808=0:=by omega
  have:=h.1 e
  rcases Nat.lt_or_ge x 9223372036854775808 with h1|h1
  ·exact h1
  ·have h2:x.testBit 63=true:=by
    rw[Nat.testBit_eq_decide_div_mod_eq]
    exact zT (by omega)
   rw[h2] at this;cases this
 ·intro e
  have:x.testBit 63=false:=Nat.testBit_lt_two_pow (by rw[show(2:Nat)^63=9223372036854775808 from by decide];exact e)
  have:=h.2 this
  omega
theorem alv{x:Nat}(hx:x<18446744073709551616)(h:¬x<9223372036854775808):aP .andNot .u64 (x:Int) (9223372036854775808:Int)=((x-9223372036854775808:Nat):Int):=by
 rw[show(9223372036854775808:Int)=((9223372036854775808:Nat):Int) from rfl,ahT hx (by decide)]
 have:x&&&(18446744073709551615-9223372036854775808)=x-9223372036854775808:=by
  have:=Nat.and_two_pow_sub_one_eq_mod x 63
  rw[show(2:Nat)^63-1=18446744073709551615-9223372036854775808 from by decide,show(2:Nat)^63=9223372036854775808 from by decide] at this
  omega
 rw[this]
theorem ah1(ae:Int)(b:ByteArray)(at_:Int)(hb:b.size<=1099511627776):Q5 ae b at_=some (bmR (cQ ae b at_)):=by
 have hk:Q9 ae=some (decide (ae=1\/ae=2)):=by
  unfold Q9 mD
  by_cases h1:ae=1
  ·rw[zT (p:=ae=1\/ae=2) (.inl h1),zT h1];rfl
  ·rw[zF h1,zD]
   by_cases h2:ae=2
   ·rw[zT (p:=ae=1\/ae=2) (.inr h2),zT h2]
   ·rw[zF (p:=ae=1\/ae=2) (fun h=>h.elim h1 h2),zF h2]
 unfold Q5 oR cQ
 rw[hk,zc]
 by_cases h1:ae=1\/ae=2
 case neg=>rw[zF h1,if_neg (fun h=>h1 h.1)];rfl
 rw[zT h1,Bool.not_true,zD]
 by_cases h3:at_<0
 ·rw[zT h3,if_neg (fun h=>by omega)];rfl
 rw[zF h3,zD]
 by_cases h4:(b.size:Int)<at_
 ·rw[zT h4,if_neg (fun h=>by omega)];rfl
 rw[zF h4,zD,if_pos ⟨h1,by omega,by omega⟩]
 obtain⟨m,rfl⟩:∃m:Nat,at_=m:=⟨at_.toNat,by omega⟩
 rw[Int.toNat_natCast,Nl ae b m hb (by omega) h1,zc]
 cases hT:np ae b m with
 |inl e=>
  have he:¬e=0:=by
   unfold np at hT
   split at hT
   ·cases hT;decide
   ·split at hT
    ·split at hT
     ·cases hT
     ·cases hT;decide
    ·cases hT
  show(bif(!(decide (e=0))) then _ else _)=_
  rw[zF he];rfl
 |inr x=>
  obtain⟨hx,du⟩:=Dy h1 hT
  show(bif(!(decide ((0:Int)=0))) then _ else(Q7 (lI x)).bind _)=_
  rw[zT rfl,Bool.not_true,zD,MN _ (MQ x) (Ly x),zc,zzw hx,alu hx]
  by_cases ar:x<9223372036854775808
  ·rw[zT ar,zC]
   dsimp only
   rw[if_pos ar];rfl
  ·rw[zF ar,zD]
   dsimp only[ui]
   rw[Nl ae b (m+gO ae) hb (by omega) h1,zc,if_neg ar]
   cases hU:np ae b (m+gO ae) with
   |inl e=>
    have he:¬e=0:=by
     unfold np at hU
     split at hU
     ·cases hU;decide
     ·split at hU
      ·split at hU
       ·cases hU
       ·cases hU;decide
      ·cases hU
    show(bif(!(decide (e=0))) then _ else _)=_
    rw[zF he];rfl
   |inr y=>
    obtain⟨hy,E9⟩:=Dy h1 hU
    rw[show ui (m+gO ae) ae (.inr y)=(lI y,((m+gO ae+gO ae:Nat):Int),(0:Int)) from rfl]
    dsimp only
    rw[zT rfl,Bool.not_true,zD]
    by_cases hz:y=0
    ·rw[zT ((Ry hy).2 hz),zC]
     rw[if_pos hz];rfl
    ·rw[zF (fun h=>hz ((Ry hy).1 h)),zD,MN _ (MQ y) (Ly y),zc,zzw hy,alv hx ar]
     rw[if_neg hz];rfl
def gj(ae:Int)(t:ByteArray):ByteArray:=if ae=1 then rV t else t
def wB(x:Nat):ByteArray:=strOf (lI x)
theorem Er(x:Nat):(wB x).size=8:=by unfold wB;rw[z28];rfl
theorem zhf{ae:Int}(x:Nat):(gj ae (wB x)).size=gO ae:=by
 unfold gj gO
 split
 ·rw[zah,Er]
 ·exact Er x
def fJ(ae:Int)(h l:Nat):ByteArray×Int:=
 if(ae=1\/ae=2)/\h<9223372036854775808 then((if l=0 then gj ae (wB h) else gj ae (wB (h+9223372036854775808))++gj ae (wB l)),0) else(bs [],1)
theorem znn:∀a b:List Int,fw (a++b)=fw a++fw b
 | [],b=>rfl
 |x::r,b=>by rw[List.cons_append,fw,fw,znn r b];rfl
theorem aaj(a b:ByteArray):rV (a++b)=rV a++rV b:=by
 unfold rV
 rw[xB,znn,aaQ]
theorem aa6(ae:Int)(a b:ByteArray):gj ae (a++b)=gj ae a++gj ae b:=by
 unfold gj
 split
 ·exact aaj a b
 ·rfl
theorem ak9{h l:Nat}(hh:h<c8):b6 h l 1= !decide (h<9223372036854775808):=by
 have e:b6 h l 1=h.testBit 63:=by
  unfold b6
  rw[if_pos (by decide)];rfl
 rw[e]
 rcases Nat.lt_or_ge h 9223372036854775808 with h1|h1
 ·rw[zT h1]
  exact Nat.testBit_lt_two_pow (by rw[show(2:Nat)^63=9223372036854775808 from by decide];exact h1)
 ·rw[zF (by omega),Nat.testBit_eq_decide_div_mod_eq]
  have hh:h<18446744073709551616:=hh
  exact zT (by omega)
theorem am2{h:Nat}(hh:h<9223372036854775808):h|||9223372036854775808=h+9223372036854775808:=by
 have:=Nat.two_pow_add_eq_or_of_lt (i:=63) (b:=h) (by rw[show(2:Nat)^63=9223372036854775808 from by decide];exact hh) 1
 rw[show(2:Nat)^63=9223372036854775808 from by decide,Nat.mul_one] at this
 rw[Nat.or_comm,<-this,Nat.add_comm]
theorem MP(x:ByteArray):x++bs []=x:=by
 apply ByteArray.ext
 simp [ByteArray.data_append,bs]
theorem ah3(ae:Int)(h l:Nat)(hh:h<c8)(hl:l<c8):Q6 ae ((h:Int),(l:Int),())=some (fJ ae h l):=by
 have hk:Q9 ae=some (decide (ae=1\/ae=2)):=by
  unfold Q9 mD
  by_cases h1:ae=1
  ·rw[zT (p:=ae=1\/ae=2) (.inl h1),zT h1];rfl
  ·rw[zF h1,zD]
   by_cases h2:ae=2
   ·rw[zT (p:=ae=1\/ae=2) (.inr h2),zT h2]
   ·rw[zF (p:=ae=1\/ae=2) (fun h=>h.elim h1 h2),zF h2]
 unfold Q6 oU fJ
 rw[hk,zc]
 by_cases h1:ae=1\/ae=2
 case neg=>rw[zF h1,if_neg (fun h=>h1 h.1)];rfl
 rw[zT h1,Bool.not_true,zD,aly h l hh hl,zc,ak9 hh]
 by_cases h2:h<9223372036854775808
 case neg=>rw[zF h2,if_neg (fun h=>h2 h.2)];rfl
 rw[zT h2,Bool.not_true,zD,if_pos ⟨h1,h2⟩]
 have hH:P4 ((h:Int),(l:Int),())=some ((h:Int),(l:Int)):=rfl
 rw[hH,zc]
 dsimp only
 rw[zpr,zc]
 have z8:∀x:Nat,Nat.beq 8 (List.length (lI x))=true:=fun x=>rfl
 have fin:∀t:ByteArray,t.size<=16->(bif decide (ae=1) then(jB t).bind fun r6=>some (r6,(0:Int)) else some (t,0))=some (gj ae t,0):=fun t ht=>by
  unfold gj
  by_cases hs:ae=1
  ·rw[zT hs,zC,zuj t (by omega),if_pos hs];rfl
  ·rw[zF hs,if_neg hs];rfl
 by_cases hz:l=0
 ·rw[zT ((Ry hl).2 hz),if_pos hz,Bool.not_true,zD,zpr,zc,z8,zC]
  have du:(strOf (lI h)).size=8:=Er h
  rw[zT (by rw[du];decide),zC,MP]
  exact fin (wB h) (by rw[Er];decide)
 ·have hor:aP .or .u64 (h:Int) (9223372036854775808:Int)=((h+9223372036854775808:Nat):Int):=by
   rw[show(9223372036854775808:Int)=((9223372036854775808:Nat):Int) from rfl,xc hh (by decide),am2 h2]
  rw[zF (fun e=>hz ((Ry hl).1 e)),if_neg hz,Bool.not_false,zC,z8,zC,hor,zpr,zc,z8,zC]
  have du:∀x,(strOf (lI x)).size=8:=fun x=>Er x
  rw[zT (by rw[du,du];decide),zC,<-aa6]
  exact fin (wB _++wB l) (by rw[z49,Er,Er];decide)
theorem ak3(b:ByteArray){a:Nat}{ae:Int}(h:a+gO ae<=b.size):(b.extract a (a+gO ae)).size=gO ae:=DX h
theorem J9{ae:Int}{b:ByteArray}{a v:Nat}(hs:ae=1\/ae=2)(h:np ae b a= .inr v):gj ae (wB v)=b.extract a (a+gO ae)/\v<18446744073709551616/\a+gO ae<=b.size:=by
 obtain⟨h1,h2⟩:=Dy hs h
 refine⟨?_,h1,h2⟩
 have hz:=ak3 b h2
 unfold np at h
 rw[if_neg (by omega)] at h
 unfold gj wB
 rcases hs with rfl|rfl
 ·rw[if_pos rfl] at h⊢
  split at h
  case isFalse=>cases h
  rename_i ho
  generalize hg:nC (b.extract a (a+gO 1))=g at h ho
  obtain⟨t,i,ok⟩:=g
  dsimp only at h ho
  subst ho
  injection h with h
  have ht:=tn hg hz
  obtain⟨e1,_⟩:=Pq (l:=bl t) (by rw[zg];exact ht) fun y hy=>lq hy
  rw[<-h,e1,D1,(zho hg).1]
 ·rw[if_neg (by decide)] at h⊢
  injection h with h
  obtain⟨e1,_⟩:=Pq (l:=bl (b.extract a (a+gO 2))) (by rw[zg];exact hz) fun y hy=>lq hy
  rw[<-h,e1,D1]
theorem Lx{ae:Int}{h l:Nat}(hs:ae=1\/ae=2)(hh:h<9223372036854775808):fJ ae h l=((if l=0 then gj ae (wB h) else gj ae (wB (h+9223372036854775808))++gj ae (wB l)),0):=by
 unfold fJ
 rw[if_pos ⟨hs,hh⟩]
theorem ah4{ae z:Int}{b:ByteArray}{a h l:Nat}(hg:cQ ae b a=(h,l,z,0)):(ae=1\/ae=2)/\h<9223372036854775808/\l<18446744073709551616/\(a:Int)<=z/\z<=b.size/\(fJ ae h l).1=b.extract a z.toNat:=by
 unfold cQ at hg
 split at hg
 case isFalse=>cases hg
 rename_i hc
 obtain⟨hs,h0,h1⟩:=hc
 rw[Int.toNat_natCast] at hg
 cases hT:np ae b a with
 |inl e=>
  exfalso
  rw[hT] at hg
  have he:e=0:=by
   have:=congrArg (fun r:Nat×Nat×Int×Int=>r.2.2.2) hg
   exact this
  subst he
  unfold np at hT
  split at hT
  ·cases hT
  ·split at hT
   ·split at hT<;>cases hT
   ·cases hT
 |inr x=>
  rw[hT] at hg
  obtain⟨e1,e2,e3⟩:=J9 hs hT
  dsimp only at hg
  split at hg
  ·rename_i ar
   injection hg with g1 g2
   injection g2 with g2 g3
   injection g3 with g3 _
   subst g1 g2 g3
   refine⟨hs,ar,by decide,by omega,by omega,?_⟩
   rw[Lx hs ar,if_pos rfl,e1,Int.toNat_natCast]
  ·rename_i Qk
   cases hU:np ae b (a+gO ae) with
   |inl e=>
    exfalso
    rw[hU] at hg
    have he:e=0:=by
     have:=congrArg (fun r:Nat×Nat×Int×Int=>r.2.2.2) hg
     exact this
    subst he
    unfold np at hU
    split at hU
    ·cases hU
    ·split at hU
     ·split at hU<;>cases hU
     ·cases hU
   |inr y=>
    rw[hU] at hg
    obtain⟨f1,f2,f3⟩:=J9 hs hU
    dsimp only at hg
    split at hg
    ·exfalso
     have:=congrArg (fun r:Nat×Nat×Int×Int=>r.2.2.2) hg
     cases this
    ·rename_i hz
     injection hg with g1 g2
     injection g2 with g2 g3
     injection g3 with g3 _
     subst g1 g2 g3
     refine⟨hs,by omega,f2,by omega,by omega,?_⟩
     rw[Lx hs (by omega),if_neg hz,show x-9223372036854775808+9223372036854775808=x by omega,e1,f1,Int.toNat_natCast]
     exact MU _ (by omega) (by omega)
end bE

set_option maxRecDepth 10000
namespace bE
open Go.IntKind renaming wrap->zW,i64->zI,u8->zU
open Go Go.Ref
theorem NG{α:Type}{p:Prop}[Decidable p](h:p){x y:α}:(bif !decide p then x else y)=y:=by rw[zT h];rfl
theorem NF{α:Type}{p:Prop}[Decidable p](h:¬p){x y:α}:(bif !decide p then x else y)=x:=by rw[zF h];rfl
def fE(m:ByteArray):Bool:=decide ((m.size:Int)=4)&&bF (bl m)
theorem q9{m:ByteArray}:fE m=true↔m.size=4/\bF (bl m)=true:=by
 unfold fE
 rw[Bool.and_eq_true,decide_eq_true_eq]
 constructor<;>intro h<;>exact⟨by omega,h.2⟩
theorem zai(m:ByteArray)(h:m.size<=maxLen):nM m=some (fE m):=by
 unfold nM SR fE
 cases decide ((m.size:Int)=4) with
 |false=>rfl
 |true=>rw[zC,UD m h];rfl
theorem abB(m:ByteArray)(h:m.size<=maxLen):rY m=some (fE m):=by
 unfold rY RH fE
 cases decide ((m.size:Int)=4) with
 |false=>rfl
 |true=>rw[zC,z138 m h];rfl
theorem xP{m:ByteArray}(h:fE m=true)(i:Nat)(hi:i<4):48<=ze m i/\ze m i<=57:=by
 obtain⟨h1,h2⟩:=q9.1 h
 have hl:i<(bl m).length:=by rw[zg];omega
 have:=List.all_eq_true.1 h2 _ (List.getElem_mem hl)
 rw[me,List.getD_eq_getElem?_getD,List.getElem?_eq_getElem hl]
 exact of_decide_eq_true this
def gb(m:ByteArray):Int:=bif fE m then ze m 0-48 else 0
def er(m:ByteArray):Bool:=fE m&&(decide (ze m 2=48)||decide (ze m 2=50))
theorem QO(m:ByteArray)(h:m.size<=maxLen):jc m=some (gb m,fE m):=by
 unfold jc SS gb
 rw[zai m h,Option.bind_some]
 cases hr:fE m with
 |false=>rfl
 |true=>
  obtain⟨h1,_⟩:=q9.1 hr
  have:=xP hr 0 (by omega)
  simp only[Bool.not_true,zD,zC]
  rw[zm (by omega) (by omega),show(0:Int).toNat=0 from rfl,uu (by omega) (by omega),zj (by omega) (by omega)]
theorem zcr(m:ByteArray)(h:m.size<=maxLen):nL m=some (er m):=by
 unfold nL SP er
 rw[zai m h,Option.bind_some]
 cases hr:fE m with
 |false=>rfl
 |true=>
  obtain⟨h1,_⟩:=q9.1 hr
  rw[zC,zm (by omega) (by omega),zm (by omega) (by omega),show(2:Int).toNat=2 from rfl]
  cases decide (ze m 2=48)<;>rfl
theorem zgp(m:ByteArray)(h:m.size<=maxLen):ET m=some (er m):=by
 unfold ET WC er
 rw[af6 m h,Option.bind_some]
 unfold dT
 by_cases h4:m.size=4
 ·cases hd:bF (bl m) with
  |false=>
   rw[if_neg (by simp)]
   have:fE m=false:=by unfold fE;rw[hd,Bool.and_false]
   rw[this];rfl
  |true=>
   have hr:fE m=true:=q9.2 ⟨h4,hd⟩
   rw[if_pos ⟨by rw[zg];omega,by rw[zg];omega,rfl⟩,hr]
   dsimp only
   rw[zC,zT (by omega),zC,Bool.true_and]
   have hl:(bl m).length=4:=by rw[zg,h4]
   obtain⟨d0,d1,d2,d3,hb⟩:∃d0 d1 d2 d3,bl m=[d0,d1,d2,d3]:=by
    match hm:bl m,hl with
    | [d0,d1,d2,d3],_=>exact⟨d0,d1,d2,d3,rfl⟩
   have h0:=xP hr 0 (by omega)
   have h1:=xP hr 1 (by omega)
   have h2:=xP hr 2 (by omega)
   have h3:=xP hr 3 (by omega)
   rw[me,hb] at h0 h1 h2 h3
   rw[me,hb]
   simp only[List.getD_cons_zero,List.getD_cons_succ] at h0 h1 h2 h3⊢
   have hv:fh [d0,d1,d2,d3] 0=1000*(d0-48)+100*(d1-48)+10*(d2-48)+(d3-48):=by
    simp only[fh,List.foldl_cons,List.foldl_nil];omega
   have hq:Int.tmod (zW zI (Int.tdiv (fh [d0,d1,d2,d3] 0) 10)) 10=d2-48:=by
    rw[hv,Int.tdiv_eq_ediv_of_nonneg (by omega),zj (by omega) (by omega),Int.tmod_eq_emod_of_nonneg (by omega)]
    omega
   rw[hq]
   by_cases e1:d2=48
   ·rw[zT e1,zT (by omega:d2-48=0)];rfl
   ·rw[zF e1,zF (by omega:¬d2-48=0),zD,Bool.false_or]
    congr 1
    exact decide_eq_decide.2 (by omega)
 ·have:fE m=false:=by
   unfold fE
   rw[zF (by omega),Bool.false_and]
  rw[this]
  cases(if 1<=(bl m).length/\(bl m).length<=18/\bF (bl m)=true then(fh (bl m) 0,true) else((0:Int),false)).2 with
  |false=>rfl
  |true=>rw[zC,zF (by omega)];rfl
def im(m:ByteArray)(v:Int):Bool:=fE m&&decide (ze m 0-48=v)
theorem zie(m:ByteArray)(v:Int)(h:m.size<=maxLen):qq m v=some (im m v):=by
 unfold qq Sb im
 rw[abB m h,Option.bind_some]
 cases hr:fE m with
 |false=>rfl
 |true=>
  obtain⟨h1,_⟩:=q9.1 hr
  have:=xP hr 0 (by omega)
  have w1:zW zI (ze m 0)=ze m 0:=zj (by omega) (by omega)
  rw[zC,zm (by omega) (by omega),show(0:Int).toNat=0 from rfl,w1,zj (by omega) (by omega)]
  rfl
def nE(p:bB)(a b:zf):Bool:=im p.1 a.2.1&&(im p.2.1 b.2.1&&(er p.1==er p.2.1))
theorem ajb(p:bB)(a b:zf)(h1:p.1.size<=maxLen)(h2:p.2.1.size<=maxLen):nT p a b=some (nE p a b):=by
 unfold nT Ul nE im
 rw[QO _ h1,QO _ h2,zcr _ h1,zcr _ h2]
 simp only[Option.bind_some]
 unfold gb
 cases fE p.1 with
 |false=>rfl
 |true=>
  cases fE p.2.1 with
  |false=>simp
  |true=>
   simp only[zC,Bool.true_and]
   cases decide (ze p.1 0-48=a.2.1) with
   |false=>rfl
   |true=>
    cases decide (ze p.2.1 0-48=b.2.1) with
    |false=>rfl
    |true=>rfl
abbrev bL:=ByteArray×List bg×Unit
abbrev bY:=Int×Int×Unit
abbrev ni:bg:=(0,bs [],())
abbrev kg:bY:=(0,0,())
structure eJ(m:bL):Prop where
 tZ:m.1.size<=9223372036854775807
 len:m.2.1.length<=1000000
 rN:∀v∈m.2.1,v.2.1.size<=1099511627776
def eO(l:List bg)(no:Int):List bg:=l.filter fun v=> !decide (v.1=no)
theorem z117(l:List bg)(no:Int):(eO l no).length<=l.length:=List.length_filter_le _ _
theorem zam(no:Int)(fin:bL×bL->Option (bL×bL)):∀(l:List bg) (i:Int) (s:bL×bL),s.2.2.1.length+l.length<=1000000000->
 bm (fun i (x:bg) (s:bL×bL) K=>(bif(!(decide (x.1=no))) then(bif(decide ((s.2.2.1.length+(List.length ([x]:List bg)))*24<=140737488355328)) then K (s.1,(s.2.1,(s.2.2.1++([x]:List bg)),())) else none) else K s)) fin l i s=fin (s.1,(s.2.1,s.2.2.1++eO l no,()))
 | [],i,s,_=>by
   show fin s=_
   simp [eO]
 |x::r,i,s,h=>by
  simp only[List.length_cons] at h
  rw[bm]
  by_cases hx:x.1=no
  ·rw[zT hx,Bool.not_true,zD]
   refine(zam no fin r (i+1) s (by omega)).trans ?_
   simp [eO,hx]
  ·rw[zF hx,Bool.not_false,zC,zT (by simp only[List.length_singleton];omega),zC]
   refine(zam no fin r (i+1) (s.1,(s.2.1,s.2.2.1++ [x],())) (by simp only[List.length_append,List.length_singleton];omega)).trans ?_
   simp [eO,hx]
theorem aaS(m:bL)(no:Int)(h:m.2.1.length<=1000000):sD m no=some (m.1,eO m.2.1 no,()):=by
 unfold sD SO
 dsimp only
 have:=ct ni m.2.1 (by rw[zh];omega) (fun i (x:bg) (s:bL×bL) K=>(bif(!(decide (x.1=no))) then(bif(decide ((s.2.2.1.length+(List.length ([x]:List bg)))*24<=140737488355328)) then K (s.1,(s.2.1,(s.2.2.1++([x]:List bg)),())) else none) else K s)) (fun s=>some s)
  (fun k i s=>OU k no m.2.1 (m.2.1.length:Int) i s.1 s.2) (fun k i s=>rfl) ((bs [],[],()),(m.1,[],()))
 rw[this,zam no _ _ _ _ (by simp;omega)]
 rfl
def cg(no:Int):List bg->Int->Int
 | [],_=> -1
 |x::r,i=>if no<x.1 then i else cg no r (i+1)
theorem N2(no:Int):∀(l:List bg) (i:Int),0<=i->(cg no l i= -1/\∀x∈l,x.1<=no)\/(i<=cg no l i/\cg no l i<i+l.length)
 | [],i,h=> .inl ⟨rfl,fun x hx=>by cases hx⟩
 |x::r,i,h=>by
  unfold cg
  by_cases hx:no<x.1
  ·rw[if_pos hx];right;simp only[List.length_cons];omega
  ·rw[if_neg hx]
   rcases N2 no r (i+1) (by omega) with⟨h1,h2⟩|h1
   ·left
    refine⟨h1,fun y hy=> ?_⟩
    rcases List.mem_cons.1 hy with rfl|hy
    ·omega
    ·exact h2 y hy
   ·right;simp only[List.length_cons];omega
def Xh(r no:Int):Sum (Int×Int) Int:=bif decide (r<0) then .inr no else .inl (r,no)
theorem KI(no:Int):∀(l:List bg) (i:Int),0<=i->bm (fun i (x:bg) (s:Int) K=>((sC x s).bind fun r1=>(bif r1.1 then some (Sum.inl (i,r1.2)) else K r1.2))) (fun s=>some (Sum.inr s)) l i no=some (Xh (cg no l i) no)
 | [],i,h=>rfl
 |x::r,i,h=>by
  rw[bm,cg]
  show(bif decide (no<x.1) then some (Sum.inl (i,no)) else bm _ _ r (i+1) no)=_
  by_cases hx:no<x.1
  ·rw[zT hx,zC,if_pos hx]
   unfold Xh
   rw[zF (by omega)];rfl
  ·rw[zF hx,zD,if_neg hx]
   exact KI no r (i+1) (by omega)
theorem abx(l:List bg)(no:Int)(h:l.length<=1000000):sQ l no=some (cg no l 0,no):=by
 unfold sQ TC
 dsimp only
 have:=ct ni l (by rw[zh];omega) (fun i (x:bg) (s:Int) K=>((sC x s).bind fun r1=>(bif r1.1 then some (Sum.inl (i,r1.2)) else K r1.2))) (fun s=>some (Sum.inr s))
  (fun k i s=>O5 k l (l.length:Int) i s) (fun k i s=>rfl) no
 rw[this,KI no l 0 (Int.le_refl _),zc]
 unfold Xh
 rcases N2 no l 0 (Int.le_refl _) with⟨h1,_⟩|h1
 ·rw[h1];rfl
 ·rw[zF (by omega)];rfl
theorem afv(old:List bg)(at_:Nat)(v d:bg)(h:at_<=old.length):
 bX (List.set (bX (List.replicate (old.length+1) d) (List.take (old.length+1) (List.drop 0 (List.take at_ old))) 0) at_ v) (List.take (old.length+1-(at_+1)) (List.drop at_ (List.take old.length old))) (at_+1)=old.take at_++v::old.drop at_:=by
 have e1:List.take (old.length+1) (List.drop 0 (List.take at_ old))=old.take at_:=by
  rw[List.drop_zero,List.take_take,Nat.min_eq_right (by omega)]
 have e2:List.take (old.length+1-(at_+1)) (List.drop at_ (List.take old.length old))=old.drop at_:=by
  rw[List.take_length,List.take_of_length_le (by rw[List.length_drop];omega)]
 rw[e1,e2]
 have hl:(old.take at_).length=at_:=by rw[List.length_take];omega
 have e3:bX (List.replicate (old.length+1) d) (old.take at_) 0=old.take at_++List.replicate (old.length+1-at_) d:=by
  unfold bX
  rw[List.take_zero,List.nil_append,hl,Nat.zero_add,List.drop_replicate]
 obtain⟨n,hn⟩:∃n,old.length+1-at_=n+1:=⟨old.length-at_,by omega⟩
 have e4:List.set (old.take at_++List.replicate (old.length+1-at_) d) at_ v=old.take at_++v::List.replicate n d:=by
  rw[hn,List.replicate_succ,List.set_append,if_neg (by omega),hl,Nat.sub_self,List.set_cons_zero]
 rw[e3,e4]
 unfold bX
 have e5:(old.take at_++v::List.replicate n d).take (at_+1)=old.take at_++ [v]:=by
  rw[List.take_append,hl,show at_+1-at_=1 by omega,List.take_of_length_le (by omega)];rfl
 have e6:(old.take at_++v::List.replicate n d).drop (at_+1+(old.drop at_).length)=[]:=by
  apply List.drop_eq_nil_of_le
  rw[List.length_append,hl,List.length_cons,List.length_replicate,List.length_drop]
  omega
 rw[e5,e6,List.append_nil,List.append_assoc]
 rfl
theorem Lh(q t:ByteArray)(no:Int)(old:List bg)(at_:Nat)(h:at_<=old.length)(hl:old.length<=1000000):
 (bif(decide ((zW zI (((List.length old):Int)+(1:Int)))=(zW zI (((List.length old):Int)+(1:Int))))) then(bif(decide ((0:Int)<=(zW zI (((List.length old):Int)+(1:Int))))) then(bif(decide ((zW zI (((List.length old):Int)+(1:Int)))*24<=140737488355328)) then(bif(decide ((0:Int)<=((at_:Nat):Int))) then(bif(decide (((at_:Nat):Int)<=(((List.length old):Nat):Int))) then(bif(Nat.beq ((zW zI (((List.length old):Int)+(1:Int)))).toNat (List.length (List.replicate ((zW zI (((List.length old):Int)+(1:Int)))).toNat ((0:Int),(bs []),())))) then(zd ((at_:Nat):Int) ((zW zI (((List.length old):Int)+(1:Int)))).toNat (bif(Nat.ble ((((at_:Nat):Int)).toNat+1) (List.length (bX (List.replicate ((zW zI (((List.length old):Int)+(1:Int)))).toNat ((0:Int),(bs []),())) (List.take ((zW zI (((List.length old):Int)+(1:Int)))).toNat (List.drop 0 (List.take (((at_:Nat):Int)).toNat old))) 0))) then(bif(decide ((0:Int)<=(zW zI (((at_:Nat):Int)+(1:Int))))) then(bif(decide ((zW zI (((at_:Nat):Int)+(1:Int)))<=((((zW zI (((List.length old):Int)+(1:Int)))).toNat:Nat):Int))) then(bif(decide ((0:Int)<=((at_:Nat):Int))) then(bif(decide (((at_:Nat):Int)<=(((List.length old):Nat):Int))) then(bif(Nat.beq ((zW zI (((List.length old):Int)+(1:Int)))).toNat (List.length (List.set (bX (List.replicate ((zW zI (((List.length old):Int)+(1:Int)))).toNat ((0:Int),(bs []),())) (List.take ((zW zI (((List.length old):Int)+(1:Int)))).toNat (List.drop 0 (List.take (((at_:Nat):Int)).toNat old))) 0) (((at_:Nat):Int)).toNat (no,t,())))) then(bif(Nat.ble ((zW zI (((at_:Nat):Int)+(1:Int)))).toNat ((zW zI (((List.length old):Int)+(1:Int)))).toNat) then(bif(Nat.beq ((zW zI (((List.length old):Int)+(1:Int)))).toNat (List.length (bX (List.set (bX (List.replicate ((zW zI (((List.length old):Int)+(1:Int)))).toNat ((0:Int),(bs []),())) (List.take ((zW zI (((List.length old):Int)+(1:Int)))).toNat (List.drop 0 (List.take (((at_:Nat):Int)).toNat old))) 0) (((at_:Nat):Int)).toNat (no,t,())) (List.take (((zW zI (((List.length old):Int)+(1:Int)))).toNat-((zW zI (((at_:Nat):Int)+(1:Int)))).toNat) (List.drop (((at_:Nat):Int)).toNat (List.take (List.length old) old))) ((zW zI (((at_:Nat):Int)+(1:Int)))).toNat))) then(some (q,(bX (List.set (bX (List.replicate ((zW zI (((List.length old):Int)+(1:Int)))).toNat ((0:Int),(bs []),())) (List.take ((zW zI (((List.length old):Int)+(1:Int)))).toNat (List.drop 0 (List.take (((at_:Nat):Int)).toNat old))) 0) (((at_:Nat):Int)).toNat (no,t,())) (List.take (((zW zI (((List.length old):Int)+(1:Int)))).toNat-((zW zI (((at_:Nat):Int)+(1:Int)))).toNat) (List.drop (((at_:Nat):Int)).toNat (List.take (List.length old) old))) ((zW zI (((at_:Nat):Int)+(1:Int)))).toNat),())) else none) else none) else none) else none) else none) else none) else none) else none)) else none) else none) else none) else none) else none) else none)=some (q,old.take at_++(no,t,())::old.drop at_,()):=by
 have w1:zW zI ((old.length:Int)+1)=((old.length+1:Nat):Int):=zu (by omega)
 have w2:zW zI ((at_:Int)+1)=((at_+1:Nat):Int):=zu (by omega)
 simp only[w1,w2,Int.toNat_natCast]
 have key:=afv old at_ (no,t,()) ((0:Int),bs [],()) h
 have l1:(bX (List.replicate (old.length+1) ((0:Int),(bs []),())) (List.take (old.length+1) (List.drop 0 (List.take at_ old))) 0).length=old.length+1:=by
  unfold bX;simp;omega
 have l2:(old.take at_++(no,t,())::old.drop at_).length=old.length+1:=by
  rw[List.length_append,List.length_take,List.length_cons,List.length_drop];omega
 have d2:decide ((0:Int)<=((old.length+1:Nat):Int))=true:=zT (by omega)
 have d3:decide (((old.length+1:Nat):Int)*24<=140737488355328)=true:=zT (by omega)
 have d4:decide ((0:Int)<=(at_:Int))=true:=zT (by omega)
 have d5:decide ((at_:Int)<=(old.length:Int))=true:=zT (by omega)
 have d9:decide ((0:Int)<=((at_+1:Nat):Int))=true:=zT (by omega)
 have d10:decide (((at_+1:Nat):Int)<=((old.length+1:Nat):Int))=true:=zT (by omega)
 have b1:Nat.ble (at_+1) (old.length+1)=true:=Nat.ble_eq_true_of_le (by omega)
 have hw:∀{R:Type} (x:Option R),zd (at_:Int) (old.length+1) x=x:=fun x=>zk (by omega)
 simp only[decide_true,zC,d2,d3,d4,d5,List.length_replicate,Nat.beq_refl,hw,l1,b1,d9,d10,List.length_set,key,l2]
def lV(l:List bg)(no:Int)(t:ByteArray):List bg:=
 bif decide (cg no l 0<0) then l++ [(no,t,())] else l.take (cg no l 0).toNat++(no,t,())::l.drop (cg no l 0).toNat
def ea(m:bL)(no:Int)(t:ByteArray):bL:=(m.1,lV (eO m.2.1 no) no t,())
theorem Rr(m:bL)(no:Int)(t:ByteArray)(h:m.2.1.length<=1000000):gT m no t=some (ea m no t):=by
 unfold gT SM ea
 have hl:=z117 m.2.1 no
 rw[aaS m no h,zc]
 dsimp only
 generalize eO m.2.1 no=old at*
 rw[abx old no (by omega),zc]
 dsimp only
 unfold lV
 rcases N2 no old 0 (Int.le_refl _) with⟨h1,_⟩|h1
 ·rw[h1,zT (by omega:(-1:Int)<0),zC,zC]
  refine(Lh m.1 t no old old.length (Nat.le_refl _) (by omega)).trans ?_
  rw[List.take_length,List.drop_length]
 ·rw[zF (by omega:¬cg no old 0<0),zD,zD]
  obtain⟨n,hn⟩:∃n:Nat,cg no old 0=n:=⟨(cg no old 0).toNat,by omega⟩
  rw[hn]
  refine(Lh m.1 t no old n (by omega) (by omega)).trans ?_
  rw[Int.toNat_natCast]
def rS(s:zf):List bg->Int->Option bY
 | [],_=>none
 |x::r,last=>bif decide (x.1<=last) then some (11,x.1,()) else bif !bp s x.1 then some (9,x.1,()) else bif !decide (bJ (aX s x.1) x.2.1=0) then some (bJ (aX s x.1) x.2.1,x.1,()) else rS s r x.1
def MV(o:Option bY):Option (Sum bY bY):=some (match o with
 |some f=> .inl f
 |none=> .inr kg)
theorem zu7(s:zf)(hs:s.2.2.1.length<=maxLen):∀(l:List bg) (i last:Int),(∀v∈l,v.2.1.size<=1099511627776)->
 bm (fun i (x:bg) (t9:Int) K=>(bif(decide (x.1<=t9)) then some (Sum.inl ((11:Int),x.1,())) else((fF s x.1).bind fun r3=>(bif(!r3.2) then some (Sum.inl ((9:Int),x.1,())) else((bW r3.1 x.2.1).bind fun r4=>(bif(!(decide (r4=(0:Int)))) then some (Sum.inl (r4,x.1,())) else K x.1)))))) (fun _=>some (Sum.inr kg)) l i last=MV (rS s l last)
 | [],i,last,_=>rfl
 |x::r,i,last,h=>by
  rw[bm,rS,AJ s _ hs,zc]
  cases decide (x.1<=last) with
  |true=>rfl
  |false=>
   rw[zD,zD]
   dsimp only
   cases bp s x.1 with
   |false=>rfl
   |true=>
    rw[Bool.not_true,zD,zD,xA _ _ (h x List.mem_cons_self),zc]
    cases decide (bJ (aX s x.1) x.2.1=0) with
    |false=>rfl
    |true=>
     rw[Bool.not_true,zD,zD]
     exact zu7 s hs r (i+1) x.1 (fun v hv=>h v (List.mem_cons_of_mem _ hv))
def gl(s:zf)(m:bL):bY:=
 bif !decide ((gP s).1=0) then(1,-1,()) else bif !fE m.1 then(7,0,()) else bif !decide (gb m.1=s.2.1) then(7,0,()) else match rS s m.2.1 0 with
  |some f=>f
  |none=>kg
theorem znu(s:zf)(m:bL)(hs:s.2.2.1.length<=maxLen)(h:eJ m):qt s m=some (gl s m):=by
 unfold qt SH gl
 rw[Ok s hs,zc,QO m.1 (by rw[zh];exact h.tZ),zc]
 cases decide ((gP s).1=0) with
 |false=>rfl
 |true=>
  rw[Bool.not_true,zD,zD]
  dsimp only
  cases fE m.1 with
  |false=>rfl
  |true=>
   rw[Bool.not_true,zD,zD]
   cases decide (gb m.1=s.2.1) with
   |false=>rfl
   |true=>
    rw[Bool.not_true,zD,zD]
    have hl:=h.len
    have:=ct ni m.2.1 (by rw[zh];omega) (fun i (x:bg) (t9:Int) K=>(bif(decide (x.1<=t9)) then some (Sum.inl ((11:Int),x.1,())) else((fF s x.1).bind fun r3=>(bif(!r3.2) then some (Sum.inl ((9:Int),x.1,())) else((bW r3.1 x.2.1).bind fun r4=>(bif(!(decide (r4=(0:Int)))) then some (Sum.inl (r4,x.1,())) else K x.1)))))) (fun _=>some (Sum.inr kg))
     (fun k i t9=>OR k t9 m.2.1 (m.2.1.length:Int) i s kg) (fun k i t9=>rfl) 0
    rw[this,zu7 s hs _ _ _ h.rN]
    unfold MV
    cases rS s m.2.1 0<;>rfl
theorem alf{a b:bL}:a=b↔a.1=b.1/\a.2.1=b.2.1:=⟨fun h=>by rw[h];exact⟨rfl,rfl⟩,fun h=>Prod.ext h.1 (Prod.ext h.2 rfl)⟩
abbrev Map:=List bB×List aV×Unit
structure dE(m:Map):Prop where
 m8:ew m.1
 len:m.2.1.length<=1000000
 rules:∀r∈m.2.1,dO r
def eC(a b:zf):List ByteArray->List bB->Int->Option (Int×Int)
 |_,[],_=>none
 |seen,p::r,i=>if nE p a b=true then(if p.1∈seen then some (10,i) else eC a b (seen++ [p.1]) r (i+1)) else some (7,i)
abbrev Xr:=Sum (Int×Int×Int×Map×zf×zf) (Map×zf×zf)
def m9(m:Map)(a b:zf)(o:Option (Int×Int)):Option Xr:=some (match o with
 |some e=> .inl (e.1,2,e.2,m,a,b)
 |none=> .inr (m,a,b))
theorem LX(m:Map)(a b:zf):∀(l:List bB) (i:Int) (seen:List ByteArray),(∀p∈l,p.1.size<=1099511627776/\p.2.1.size<=1099511627776)->
 bm (fun i (x:bB) (s:List js) K=>((nT x a b).bind fun r2=>(bif(!r2) then some (Sum.inl ((7:Int),(2:Int),i,m,a,b)) else(bif eV (fO .str) false s x.1 then some (Sum.inl ((10:Int),(2:Int),i,m,a,b)) else(bif eW (fO .str) s x.1 then none else K (s++ [(x.1,true)])))))) (fun _=>some (Sum.inr (m,a,b))) l i (dI seen)=m9 m a b (eC a b seen l i)
 | [],i,seen,_=>rfl
 |p::r,i,seen,h=>by
  obtain⟨h1,h2⟩:=h p List.mem_cons_self
  simp only[bm,eC]
  rw[ajb p a b (by rw[zh];omega) (by rw[zh];omega),Option.bind_some]
  cases nE p a b with
  |false=>rw[if_neg (by simp)];rfl
  |true=>
   rw[if_pos rfl]
   simp only[Bool.not_true,zD]
   have e1:=Rk (fO .str) (fun _ _=>rfl) p.1 seen
   have e2:=Rl (fO .str) (fun _ _=>rfl) p.1 seen
   by_cases hm:p.1∈seen
   ·rw[e1.2 hm,if_pos hm];rfl
   ·rw[DT e1 hm,DT e2 hm,if_neg hm,zD,zD,z9f]
    exact LX m a b r (i+1) (seen++ [p.1]) fun q hq=>h q (List.mem_cons_of_mem _ hq)
theorem afb(m:Map)(a b:zf)(h:ew m.1):FJ ai m.1 (m.1.length:Int) 0 m a b []=m9 m a b (eC a b [] m.1 0):=by
 have hl:=h.len
 have:=ct iV m.1 (by rw[zh];omega) (fun i (x:bB) (s:List js) K=>((nT x a b).bind fun r2=>(bif(!r2) then some (Sum.inl ((7:Int),(2:Int),i,m,a,b)) else(bif eV (fO .str) false s x.1 then some (Sum.inl ((10:Int),(2:Int),i,m,a,b)) else(bif eW (fO .str) s x.1 then none else K (s++ [(x.1,true)])))))) (fun _=>some (Sum.inr (m,a,b)))
  (fun k i s=>FJ k m.1 (m.1.length:Int) i m a b s) (fun k i s=>rfl) []
 rw[this]
 exact LX m a b m.1 0 [] h.sz
theorem aeh(f:ByteArray)(l:List bB):(zw l f).2=true↔f∈l.map fun p=>p.1:=by
 unfold zw
 induction l with
 |nil=>simp
 |cons p r ih=>
  rw[List.find?_cons,List.map_cons,List.mem_cons]
  by_cases h:p.1=f
  ·rw[zT h];exact⟨fun _=> .inl h.symm,fun _=>rfl⟩
  ·rw[zF h]
   exact ih.trans ⟨.inr,fun h'=>h'.resolve_left fun e=>h e.symm⟩
theorem znv(m:Map)(a b:zf)(h:ew m.1):∀(n j k:Nat),j+n=m.1.length->n<k->D5 k (j:Int) m a b=m9 m a b (eC a b ((m.1.take j).map fun p=>p.1) (m.1.drop j) j)
 |n,j,0,_,hk=>by omega
 |0,j,k+1,hj,hk=>by
  unfold D5 OD
  rw[zF (by omega),show m.1.drop j=[] from List.drop_eq_nil_of_le (by omega)];rfl
 |n+1,j,k+1,hj,hk=>by
  have hl:=h.len
  have ar:j<m.1.length:=by omega
  obtain⟨h1,h2⟩:=h.sz _ (List.getElem_mem ar)
  have hg:∀d,m.1.getD j d=m.1[j]:=fun d=>by rw[List.getD_eq_getElem?_getD,List.getElem?_eq_getElem ar];rfl
  unfold D5 OD
  rw[zT (by omega),zC,zk ar,Int.toNat_natCast,hg,zie _ _ (by rw[zh];omega),Option.bind_some,List.drop_eq_getElem_cons ar]
  simp only[eC]
  cases v1:im m.1[j].1 a.2.1 with
  |false=>
   have:nE m.1[j] a b=false:=by unfold nE;rw[v1];rfl
   rw[this,if_neg (by simp)];rfl
  |true=>
   simp only[Bool.not_true,zD]
   rw[zie _ _ (by rw[zh];omega),Option.bind_some]
   cases v2:im m.1[j].2.1 b.2.1 with
   |false=>
    have:nE m.1[j] a b=false:=by unfold nE;rw[v1,v2];rfl
    rw[this,if_neg (by simp)];rfl
   |true=>
    simp only[Bool.not_true,zD]
    rw[zgp _ (by rw[zh];omega),Option.bind_some,zgp _ (by rw[zh];omega),Option.bind_some]
    cases v3:(er m.1[j].1==er m.1[j].2.1) with
    |false=>
     have:nE m.1[j] a b=false:=by unfold nE;rw[v1,v2,v3];rfl
     rw[this,if_neg (by simp)];rfl
    |true=>
     have:nE m.1[j] a b=true:=by unfold nE;rw[v1,v2,v3];rfl
     rw[this,if_pos rfl]
     simp only[Bool.not_true,zD]
     rw[zT (by omega:(0:Int)<=(j:Int)),zT (by omega:(j:Int)<=((m.1.length:Nat):Int)),zC,zC,List.drop_zero,abo _ _ (by rw[List.length_take,zh];omega),Option.bind_some]
     have hm:=aeh m.1[j].1 (m.1.take j)
     by_cases dg:m.1[j].1∈(m.1.take j).map fun p=>p.1
     ·rw[hm.2 dg,if_pos dg];rfl
     ·rw[DT hm dg,if_neg dg,zD,zu (by omega),znv m a b h n (j+1) k (by omega) (by omega)]
      congr 2
      rw[List.take_add_one,List.getElem?_eq_getElem ar,List.map_append]
      rfl
def kh(x y:aV):Bool:=(!decide (x.2.1=0)&&decide (x.2.1=y.2.1))||(!decide (x.2.2.1=0)&&decide (x.2.2.1=y.2.2.1))
theorem aja(x y:aV):sj x y=some (kh x y):=by
 unfold sj Sa kh
 generalize decide (x.2.1=0)=c1
 generalize decide (x.2.1=y.2.1)=c2
 generalize decide (x.2.2.1=0)=c3
 generalize decide (x.2.2.1=y.2.2.1)=c4
 cases c1<;>cases c2<;>cases c3<;>cases c4<;>rfl
def z31(a b:zf):List aV->List aV->Int->Option (Int×Int)
 |_,[],_=>none
 |prev,r::l,i=>if dt r a b=0 then(if prev.any (fun q=>kh q r)=true then some (10,i) else z31 a b (prev++ [r]) l (i+1)) else some (dt r a b,i)
def WO(o:Option (Int×Int)):Option (Sum je Unit):=some (match o with
 |some e=> .inl (e.1,3,e.2)
 |none=> .inr ())
def NY(m:Map)(a b:zf)(i:Int)(t:Bool):Sum (Int×Int×Int×Int×Map×zf×zf) (Int×Map×zf×zf):=bif t then .inl (10,3,i,i,m,a,b) else .inr (i,m,a,b)
theorem Cy{m:Map}{j:Nat}(ar:j<m.2.1.length)(d:aV):m.2.1.getD j d=m.2.1[j]:=by
 rw[List.getD_eq_getElem?_getD,List.getElem?_eq_getElem ar];rfl
theorem zvb(m:Map)(a b:zf)(i:Nat)(hi:i<m.2.1.length)(hl:m.2.1.length<=1000000):∀(n j k:Nat),j+n=i->n<k->D7 k (i:Int) (j:Int) m a b=some (NY m a b i (((m.2.1.take i).drop j).any fun q=>kh q m.2.1[i]))
 |n,j,0,_,hk=>by omega
 |0,j,k+1,hj,hk=>by
  have:j=i:=by omega
  subst this
  unfold D7 OG
  rw[zF (by omega),List.drop_eq_nil_of_le (by rw[List.length_take];omega)];rfl
 |n+1,j,k+1,hj,hk=>by
  have ar:j<m.2.1.length:=by omega
  unfold D7 OG
  have hd:(m.2.1.take i).drop j=m.2.1[j]::(m.2.1.take i).drop (j+1):=by
   rw[List.drop_eq_getElem_cons (by rw[List.length_take];omega)]
   congr 1
   rw[List.getElem_take]
  rw[zT (by omega),zC,zk ar,zk hi,Int.toNat_natCast,Int.toNat_natCast,Cy ar,Cy hi,aja,Option.bind_some,hd,List.any_cons]
  cases kh m.2.1[j] m.2.1[i] with
  |true=>rfl
  |false=>
   rw[zD,zu (by omega)]
   dsimp only
   rw[zvb m a b i hi hl n (j+1) k (by omega) (by omega),Bool.false_or]
theorem zi2(m:Map)(a b:zf)(h:dE m)(ha:a.2.2.1.length<=maxLen)(hb:b.2.2.1.length<=maxLen):∀(n j k:Nat),j+n=m.2.1.length->n<k->D6 k (j:Int) m a b=WO (z31 a b (m.2.1.take j) (m.2.1.drop j) j)
 |n,j,0,_,hk=>by omega
 |0,j,k+1,hj,hk=>by
  unfold D6 OE
  rw[zF (by omega),List.drop_eq_nil_of_le (by omega)];rfl
 |n+1,j,k+1,hj,hk=>by
  have hl:=h.len
  have ar:j<m.2.1.length:=by omega
  unfold D6 OE
  rw[zT (by omega),zC,zk ar,Int.toNat_natCast,Cy ar,abr _ a b (h.rules _ (List.getElem_mem ar)) ha hb,Option.bind_some,List.drop_eq_getElem_cons ar]
  simp only[z31]
  by_cases z:dt m.2.1[j] a b=0
  ·rw[zT z,if_pos z]
   simp only[Bool.not_true,zD]
   have ht:=zvb m a b j ar hl j 0 ai (by omega) (by rw[zr];omega)
   rw[show((0:Nat):Int)=(0:Int) from rfl,List.drop_zero] at ht
   rw[ht,Option.bind_some]
   cases(m.2.1.take j).any fun q=>kh q m.2.1[j] with
   |true=>rw[if_pos rfl];rfl
   |false=>
    rw[if_neg (by simp)]
    unfold NY R3
    simp only[zD,Sum.elim_inr]
    rw[zu (by omega),zi2 m a b h ha hb n (j+1) k (by omega) (by omega)]
    congr 2
    rw[List.take_add_one,List.getElem?_eq_getElem ar]
    rfl
  ·rw[zF z,if_neg z];rfl
def dq(m:Map)(a b:zf):Int×Int×Int:=
 if(gP a).1=0 then(if(gP b).1=0 then(if 256<m.1.length then(5,2,256) else match eC a b [] m.1 0 with
  |some e=>(e.1,2,e.2)
  |none=>if 256<m.2.1.length then(5,3,256) else match z31 a b [] m.2.1 0 with
   |some e=>(e.1,3,e.2)
   |none=>(0,0,0)) else(1,1,1)) else(1,1,0)
theorem zqe(m:Map)(a b:zf)(h:dE m)(ha:a.2.2.1.length<=maxLen)(hb:b.2.2.1.length<=maxLen):sf m a b=some (dq m a b):=by
 have h1:=h.m8.len
 have h2:=h.len
 unfold sf RZ dq
 rw[zcs a ha,Option.bind_some]
 by_cases za:(gP a).1=0
 ·rw[zT za,if_pos za]
  simp only[Bool.not_true,zD]
  rw[zcs b hb,Option.bind_some]
  by_cases zb:(gP b).1=0
  ·rw[zT zb,if_pos zb]
   simp only[Bool.not_true,zD]
   by_cases hm:256<m.1.length
   ·rw[zT (by omega),if_pos hm];rfl
   ·rw[zF (by omega),if_neg hm,zD]
    have e1:=znv m a b h.m8 m.1.length 0 ai (by omega) (by rw[zr];omega)
    rw[show((0:Nat):Int)=(0:Int) from rfl,List.take_zero,List.drop_zero,List.map_nil] at e1
    rw[e1]
    unfold m9
    cases eC a b [] m.1 0 with
    |some e=>rfl
    |none=>
     simp only[Option.bind_some,Sum.elim_inr]
     unfold R0
     by_cases hr:256<m.2.1.length
     ·rw[zT (by omega),if_pos hr];rfl
     ·rw[zF (by omega),if_neg hr,zD]
      have e2:=zi2 m a b h ha hb m.2.1.length 0 ai (by omega) (by rw[zr];omega)
      rw[show((0:Nat):Int)=(0:Int) from rfl,List.take_zero,List.drop_zero] at e2
      dsimp only
      rw[e2]
      unfold WO
      cases z31 a b [] m.2.1 0<;>rfl
  ·rw[zF zb,if_neg zb];rfl
 ·rw[zF za,if_neg za];rfl
theorem K5(l:List Int)(f:Int):dB (l++ [f])=dB l|||dB [f]:=by simp [dB,List.foldl_append]
theorem K6(l:List Int)(f:Int):dC (l++ [f])=dC l|||dC [f]:=by simp [dC,List.foldl_append]
theorem Ka(fs:List Int)(f:Int):(dB fs&&&dB [f]=0/\dC fs&&&dC [f]=0)↔¬(f∈fs/\ju f=true):=by
 constructor
 ·rintro⟨h1,h2⟩ ⟨h3,h4⟩
  have:=MX (dB fs) (dC fs) (dB [f]) (dC [f]) f
  rw[h1,h2,KB,Ux,Ux,h4] at this
  simp [h3] at this
 ·intro h
  refine alq (ND (uD fs)) (ND (uE fs)) (by decide) (by decide) fun n _ _=> ?_
  rw[KB,MX,Ux,Ux]
  by_cases e:n=f
  ·subst e
   cases hr:ju n with
   |false=>simp
   |true=>
    have:n∉fs:=fun hm=>h ⟨hm,hr⟩
    simp [this]
  ·simp [e]
theorem Mm(x y:Nat):(decide (((x:Nat):Int)=0)&&(decide (((y:Nat):Int)=0)&&true))=decide (x=0/\y=0):=by
 rw[Bool.and_true,<-Bool.decide_and]
 exact decide_eq_decide.2 (by omega)
theorem zuh{s:zf}(h:iu s){no:Int}(hh:bp s no=true):ju no=true:=by
 unfold bp fP at hh
 obtain⟨x,hx⟩:=Option.isSome_iff_exists.1 hh
 have h1:=List.find?_some hx
 have h2:=List.mem_of_find?_eq_some hx
 have h3:=RF (h.2.2.2.1 x h2)
 have h4:x.1=no:=of_decide_eq_true h1
 unfold ju
 exact zT (by omega)
theorem ace{r:aV}{a b:zf}(h:dt r a b=0):dp r a b=false:=by
 unfold dt at h
 cases hc:(decide (r.1<1)||decide ((5:Int)<r.1)) with
 |true=>rw[hc] at h;simp at h
 |false=>
  rw[hc] at h
  cases he:dp r a b with
  |false=>rfl
  |true=>rw[he] at h;simp at h
theorem ai1{r:aV}{a b:zf}(ha:iu a)(hb:iu b)(h:dt r a b=0):(r.2.1≠0->ju r.2.1=true)/\(r.2.2.1≠0->ju r.2.2.1=true):=by
 have he:=ace h
 unfold dp at he
 rw[Bool.or_eq_false_iff] at he
 refine⟨fun hz=> ?_,fun hz=> ?_⟩
 ·by_cases k:r.1=3
  ·rw[zT k,zF hz] at he;simp at he
  ·rw[zF k] at he
   exact zuh ha (by simpa using he.1)
 ·by_cases k:r.1=2
  ·rw[zT k,zF hz] at he;simp at he
  ·rw[zF k] at he
   exact zuh hb (by simpa using he.2)
def fm(l:List aV):List Int:=l.map fun q=>q.2.1
def qY(l:List aV):List Int:=l.map fun q=>q.2.2.1
theorem LS:ju 0=false:=by decide
theorem afO(prev:List aV)(r:aV)(h1:r.2.1≠0->ju r.2.1=true)(h2:r.2.2.1≠0->ju r.2.2.1=true):
 prev.any (fun q=>kh q r)=(!decide (¬(r.2.1∈fm prev/\ju r.2.1=true))|| !decide (¬(r.2.2.1∈qY prev/\ju r.2.2.1=true))):=by
 have e:prev.any (fun q=>kh q r)=true↔((r.2.1∈fm prev/\ju r.2.1=true)\/(r.2.2.1∈qY prev/\ju r.2.2.1=true)):=by
  rw[List.any_eq_true]
  unfold kh fm qY
  simp only[List.mem_map]
  constructor
  ·rintro⟨q,hq,h⟩
   simp only[Bool.or_eq_true,Bool.and_eq_true,Bool.not_eq_true',decide_eq_false_iff_not,decide_eq_true_eq] at h
   rcases h with⟨g1,g2⟩|⟨g1,g2⟩
   ·exact .inl ⟨⟨q,hq,g2⟩,h1 (by rw[<-g2];exact g1)⟩
   ·exact .inr ⟨⟨q,hq,g2⟩,h2 (by rw[<-g2];exact g1)⟩
  ·rintro(⟨⟨q,hq,g⟩,hr⟩|⟨⟨q,hq,g⟩,hr⟩)
   ·refine⟨q,hq,?_⟩
    have:q.2.1≠0:=fun e=>by rw[<-g,e,LS] at hr;cases hr
    rw[zF this,zT g];rfl
   ·refine⟨q,hq,?_⟩
    have:q.2.2.1≠0:=fun e=>by rw[<-g,e,LS] at hr;cases hr
    rw[zF this,zT g];simp
 cases hb:prev.any (fun q=>kh q r) with
 |true=>
  rcases e.1 hb with h|h
  ·rw[zF (fun hn=>hn h)];rfl
  ·rw[show decide (¬(r.2.2.1∈qY prev/\ju r.2.2.1=true))=false from zF (fun hn=>hn h)];simp
 |false=>
  have hn:=fun h=>(by rw[hb] at e;exact absurd (e.2 h) (by simp):False)
  rw[zT (show¬(r.2.1∈fm prev/\ju r.2.1=true) from fun h=>hn (.inl h)),zT (show¬(r.2.2.1∈qY prev/\ju r.2.2.1=true) from fun h=>hn (.inr h))];rfl
abbrev S2:=Int×Int×Unit
def zM(l:List Int):S2:=((dB l:Int),(dC l:Int),())
theorem K4(a b:zf)(ha:a.2.2.1.length<=maxLen)(hb:b.2.2.1.length<=maxLen)(oa:iu a)(ob:iu b):∀(l:List aV) (i:Int) (prev:List aV),(∀r∈l,dO r)->
 bm (fun i (x:aV) (s:S2×S2) K=>((nO x a b).bind fun r3=>(bif(!decide (r3=0)) then some (Sum.inl (r3,(3:Int),i)) else((uG ([x.2.1]:List Int)).bind fun r4=>((uG ([x.2.2.1]:List Int)).bind fun r5=>((rE s.1 r4).bind fun r6=>(bif(!(decide (r6.1=0)&&(decide (r6.2.1=0)&&true))) then some (Sum.inl ((10:Int),(3:Int),i)) else((rE s.2 r5).bind fun r7=>(bif(!(decide (r7.1=0)&&(decide (r7.2.1=0)&&true))) then some (Sum.inl ((10:Int),(3:Int),i)) else((sY s.1 r4).bind fun r8=>((sY s.2 r5).bind fun r9=>K (r8,r9)))))))))))) (fun _=>some (Sum.inr ())) l i (zM (fm prev),zM (qY prev))=WO (z31 a b prev l i)
 | [],i,prev,_=>rfl
 |r::l,i,prev,h=>by
  simp only[bm,z31]
  rw[aaL r a b (h r List.mem_cons_self) ha hb,Option.bind_some]
  by_cases z:dt r a b=0
  ·rw[zT z,if_pos z]
   simp only[Bool.not_true,zD]
   obtain⟨i1,i2⟩:=ai1 oa ob z
   have n3:=afO prev r i1 i2
   rw[xW _ (by simp [zh]),Option.bind_some,xW _ (by simp [zh]),Option.bind_some]
   unfold zM
   rw[z198 _ _ _ _ (uD _) (uE _) (uD _) (uE _),Option.bind_some]
   dsimp only
   rw[Mm,decide_eq_decide.2 (Ka (fm prev) r.2.1)]
   by_cases c1:¬(r.2.1∈fm prev/\ju r.2.1=true)
   ·rw[zT c1] at n3⊢
    simp only[Bool.not_true,zD]
    rw[z198 _ _ _ _ (uD _) (uE _) (uD _) (uE _),Option.bind_some]
    dsimp only
    rw[Mm,decide_eq_decide.2 (Ka (qY prev) r.2.2.1)]
    by_cases c2:¬(r.2.2.1∈qY prev/\ju r.2.2.1=true)
    ·rw[zT c2] at n3⊢
     rw[n3]
     simp only[Bool.not_true,zD,Bool.or_false]
     rw[if_neg (by simp),zdl _ _ _ _ (uD _) (uE _) (uD _) (uE _),Option.bind_some,zdl _ _ _ _ (uD _) (uE _) (uD _) (uE _),Option.bind_some]
     have:=K4 a b ha hb oa ob l (i+1) (prev++ [r]) (fun q hq=>h q (List.mem_cons_of_mem _ hq))
     rw[show fm (prev++ [r])=fm prev++ [r.2.1] by simp [fm],show qY (prev++ [r])=qY prev++ [r.2.2.1] by simp [qY]] at this
     unfold zM at this
     rw[K5,K6,K5,K6] at this
     exact this
    ·rw[zF c2] at n3⊢
     rw[n3];rfl
   ·rw[zF c1] at n3⊢
    rw[n3];rfl
  ·rw[zF z,if_neg z];rfl
theorem aaM(m:Map)(a b:zf)(ha:a.2.2.1.length<=maxLen)(hb:b.2.2.1.length<=maxLen):FI ai ([a,b]:List zf) ((List.length ([a,b]:List zf)):Int) 0 m a b=some (if(gP a).1=0 then(if(gP b).1=0 then .inr (m,a,b) else .inl (1,1,1,m,a,b)) else .inl (1,1,0,m,a,b)):=by
 obtain⟨k,hk⟩:=zN
 rw[hk]
 simp only[FI,Ua]
 have w0:∀{R:Type} (x:Option R),zd 0 ([a,b]:List zf).length x=x:=fun x=>zm (by omega) (by simp)
 have w1:∀{R:Type} (x:Option R),zd 1 ([a,b]:List zf).length x=x:=fun x=>zm (by omega) (by simp)
 have e1:zW zI (0+1)=1:=rfl
 have e2:zW zI (1+1)=2:=rfl
 have d0:decide ((0:Int)<(([a,b]:List zf).length:Int))=true:=rfl
 have d1:decide ((1:Int)<(([a,b]:List zf).length:Int))=true:=rfl
 have d2:decide ((2:Int)<(([a,b]:List zf).length:Int))=false:=rfl
 rw[d0,zC,w0,show List.getD ([a,b]:List zf) (0:Int).toNat ((0:Int),(0:Int),([]:List Spec),())=a from rfl,Ok a ha,Option.bind_some]
 by_cases za:(gP a).1=0
 ·rw[zT za,if_pos za]
  simp only[Bool.not_true,zD]
  rw[e1,d1,zC,w1,show List.getD ([a,b]:List zf) (1:Int).toNat ((0:Int),(0:Int),([]:List Spec),())=b from rfl,Ok b hb,Option.bind_some]
  by_cases zb:(gP b).1=0
  ·rw[zT zb,if_pos zb]
   simp only[Bool.not_true,zD]
   rw[e2,d2,zD]
  ·rw[zF zb,if_neg zb];rfl
 ·rw[zF za,if_neg za];rfl
abbrev gx:aV:=(0,0,0,bs [],[],())
theorem z7k(m:Map)(a b:zf)(h:dE m)(ha:a.2.2.1.length<=maxLen)(hb:b.2.2.1.length<=maxLen):qA m a b=some (dq m a b):=by
 have h1:=h.m8.len
 have h2:=h.len
 unfold qA T9 dq
 dsimp only
 rw[aaM m a b ha hb,Option.bind_some]
 by_cases za:(gP a).1=0
 ·rw[if_pos za,if_pos za]
  by_cases zb:(gP b).1=0
  ·rw[if_pos zb,if_pos zb]
   simp only[Sum.elim_inr]
   unfold Ub
   by_cases hm:256<m.1.length
   ·rw[zT (by omega),if_pos hm];rfl
   ·rw[zF (by omega),if_neg hm,zD]
    dsimp only
    rw[afb m a b h.m8]
    unfold m9
    cases eC a b [] m.1 0 with
    |some e=>rfl
    |none=>
     simp only[Option.bind_some,Sum.elim_inr]
     unfold Uc
     by_cases hr:256<m.2.1.length
     ·rw[zT (by omega),if_pos hr];rfl
     ·rw[zF (by omega),if_neg hr,zD]
      dsimp only
      have:=ct gx m.2.1 (by rw[zh];omega) (fun i (x:aV) (s:S2×S2) K=>((nO x a b).bind fun r3=>(bif(!decide (r3=0)) then some (Sum.inl (r3,(3:Int),i)) else((uG ([x.2.1]:List Int)).bind fun r4=>((uG ([x.2.2.1]:List Int)).bind fun r5=>((rE s.1 r4).bind fun r6=>(bif(!(decide (r6.1=0)&&(decide (r6.2.1=0)&&true))) then some (Sum.inl ((10:Int),(3:Int),i)) else((rE s.2 r5).bind fun r7=>(bif(!(decide (r7.1=0)&&(decide (r7.2.1=0)&&true))) then some (Sum.inl ((10:Int),(3:Int),i)) else((sY s.1 r4).bind fun r8=>((sY s.2 r5).bind fun r9=>K (r8,r9)))))))))))) (fun _=>some (Sum.inr ()))
       (fun k i s=>O9 k m.2.1 (m.2.1.length:Int) i a b s.1 s.2) (fun k i s=>rfl) (zM (fm []),zM (qY []))
      have h3:=K4 a b ha hb ((AG a).1 za) ((AG b).1 zb) m.2.1 0 [] h.rules
      rw[h3] at this
      have h4:zM (fm [])=((0:Int),(0:Int),()):=rfl
      have h5:zM (qY [])=((0:Int),(0:Int),()):=rfl
      rw[h4,h5] at this
      rw[this]
      unfold WO
      cases z31 a b [] m.2.1 0<;>rfl
  ·rw[if_neg zb,if_neg zb];rfl
 ·rw[if_neg za,if_neg za];rfl
instance QE:DecidableEq aV:=fun x y=>decidable_of_iff ((decide (x.1=y.1)&&(decide (x.2.1=y.2.1)&&(decide (x.2.2.1=y.2.2.1)&&(decide (x.2.2.2.1=y.2.2.2.1)&&decide (x.2.2.2.2.1=y.2.2.2.2.1)))))=true) (by obtain⟨a1,a2,a3,a4,a5,u⟩:=x;obtain⟨b1,b2,b3,b4,b5,v⟩:=y;simp)
instance Yx:DecidableEq Map:=fun x y=>decidable_of_iff ((decide (x.1=y.1)&&decide (x.2.1=y.2.1))=true) (by obtain⟨a1,a2,u⟩:=x;obtain⟨b1,b2,v⟩:=y;simp)
def uo(r:aV):aV:=(r.1,r.2.2.1,r.2.1,r.2.2.2.1,ln r.2.2.2.2.1,())
def JS(m:Map):Map:=(ln m.1,m.2.1.map uo,())
abbrev Ju:Map:=([],[],())
theorem acy(r:aV)(h:dO r):nH r=some r:=by
 unfold nH RT
 rw[JW _ h.eY.len];rfl
theorem Kf:∀(l:List aV) (i:Int) (s:Map×Map),(∀r∈l,dO r)->s.2.2.1.length+l.length<=1099511627776->
 bm (fun i (x:aV) (s:Map×Map) K=>((nH x).bind fun r2=>(bif(decide ((s.2.2.1.length+(List.length ([r2]:List aV)))*64<=140737488355328)) then K (s.1,(s.2.1,(s.2.2.1++([r2]:List aV)),())) else none))) (fun s=>some s) l i s=some (s.1,(s.2.1,s.2.2.1++l,()))
 | [],i,s,_,_=>by simp only[bm,List.append_nil]
 |r::l,i,s,h,hl=>by
  simp only[List.length_cons] at hl
  simp only[bm]
  rw[acy r (h r List.mem_cons_self),Option.bind_some,zT (by simp;omega),zC]
  have:=Kf l (i+1) (s.1,(s.2.1,(s.2.2.1++ [r]),())) (fun q hq=>h q (List.mem_cons_of_mem _ hq)) (by simp;omega)
  refine Eq.trans this ?_
  simp
theorem JX(m:Map)(h:dE m):si m=some m:=by
 have hl:=h.len
 unfold si R5
 dsimp only
 rw[JW _ h.m8.len,Option.bind_some]
 have:=ct gx m.2.1 (by rw[zh];omega) (fun i (x:aV) (s:Map×Map) K=>((nH x).bind fun r2=>(bif(decide ((s.2.2.1.length+(List.length ([r2]:List aV)))*64<=140737488355328)) then K (s.1,(s.2.1,(s.2.2.1++([r2]:List aV)),())) else none))) (fun s=>some s)
  (fun k i s=>OH k i m s.1 s.2) (fun k i s=>rfl) (Ju,(m.1,[],()))
 rw[Kf _ _ _ h.rules (by simp;omega)] at this
 rw[this]
 rfl
structure am7(r:aV)(a b:zf):Prop where
 lo:¬r.1<1
 hi:¬(5:Int)<r.1
 ends:dp r a b=false
 text:iY r=false
 kind:jZ r (aX a r.2.1) (aX b r.2.2.1)=0
theorem QU{a b:zf}:∀{l:List bB} {seen:List ByteArray} {i:Int},eC a b seen l i=none↔(∀p∈l,nE p a b=true)/\jh seen l i=none
 | [],seen,i=>by simp [eC,jh]
 |p::r,seen,i=>by
  simp only[eC,jh,List.mem_cons,forall_eq_or_imp]
  cases ht:nE p a b with
  |false=>simp
  |true=>
   rw[if_pos rfl]
   by_cases hm:p.1∈seen
   ·simp [hm]
   ·rw[if_neg hm,if_neg hm,QU]
    simp
def Fv:List aV->List aV->Prop
 |_,[]=>True
 |prev,r::l=>prev.any (fun q=>kh q r)=false/\Fv (prev++ [r]) l
theorem QM{a b:zf}:∀{l:List aV} {prev:List aV} {i:Int},z31 a b prev l i=none↔(∀r∈l,dt r a b=0)/\Fv prev l
 | [],prev,i=>by simp [z31,Fv]
 |r::l,prev,i=>by
  simp only[z31,Fv,List.mem_cons,forall_eq_or_imp]
  by_cases z:dt r a b=0
  ·rw[if_pos z]
   cases hp:prev.any (fun q=>kh q r) with
   |true=>simp
   |false=>
    rw[if_neg (by simp),QM]
    simp [z]
  ·rw[if_neg z];simp [z]
theorem zuw{a b:zf}:∀{l:List bB} {seen:List ByteArray} {i:Int} {e:Int×Int},eC a b seen l i=some e->e.1≠0
 |p::r,seen,i,e,h=>by
  simp only[eC] at h
  split at h
  ·split at h
   ·cases h;simp
   ·exact zuw h
  ·cases h;simp
theorem zo0{a b:zf}:∀{l:List aV} {prev:List aV} {i:Int} {e:Int×Int},z31 a b prev l i=some e->e.1≠0
 |r::l,prev,i,e,h=>by
  simp only[z31] at h
  split at h
  ·split at h
   ·cases h;simp
   ·exact zo0 h
  ·rename_i hz
   cases h;exact hz
structure eG(m:Map)(a b:zf):Prop where
 sa:(gP a).1=0
 sb:(gP b).1=0
 Js:m.1.length<=256
 typed:∀p∈m.1,nE p a b=true
 dup:jh [] m.1 0=none
 Jt:m.2.1.length<=256
 rules:∀r∈m.2.1,dt r a b=0
 uq:Fv [] m.2.1
theorem zpx{m:Map}{a b:zf}:(dq m a b).1=0↔eG m a b:=by
 constructor
 ·intro h
  unfold dq at h
  split at h
  ·split at h
   ·rename_i h1 h2
    split at h
    ·cases h
    ·rename_i h3
     split at h
     ·rename_i e he
      exact absurd h (zuw he)
     ·rename_i hm
      split at h
      ·cases h
      ·rename_i h4
       split at h
       ·rename_i e he
        exact absurd h (zo0 he)
       ·rename_i hr
        obtain⟨g1,g2⟩:=QU.1 hm
        obtain⟨g3,g4⟩:=QM.1 hr
        exact⟨h1,h2,by omega,g1,g2,by omega,g3,g4⟩
   ·cases h
  ·cases h
 ·intro h
  unfold dq
  have e1:=QU.2 ⟨h.typed,h.dup⟩
  have e2:z31 a b [] m.2.1 0=none:=QM.2 ⟨h.rules,h.uq⟩
  have l1:=h.Js
  have l2:=h.Jt
  rw[if_pos h.sa,if_pos h.sb,if_neg (by omega),e1]
  simp only
  rw[if_neg (by omega),e2]
theorem eG.eq{m:Map}{a b:zf}(h:eG m a b):dq m a b=(0,0,0):=by
 unfold dq
 have e1:=QU.2 ⟨h.typed,h.dup⟩
 have e2:z31 a b [] m.2.1 0=none:=QM.2 ⟨h.rules,h.uq⟩
 have l1:=h.Js
 have l2:=h.Jt
 rw[if_pos h.sa,if_pos h.sb,if_neg (by omega),e1]
 simp only
 rw[if_neg (by omega),e2]
theorem ew.turn{l:List bB}(h:ew l):ew (ln l):=⟨by rw[afM];exact h.len,fun p hp=>by
 unfold ln at hp
 obtain⟨q,hq,rfl⟩:=List.mem_map.1 hp
 exact⟨(h.sz q hq).2,(h.sz q hq).1⟩⟩
theorem dE.turn{m:Map}(h:dE m):dE (JS m):=⟨h.m8.turn,by show(m.2.1.map uo).length<=_;rw[List.length_map];exact h.len,fun r hr=>by
 obtain⟨q,hq,rfl⟩:=List.mem_map.1 (show r∈m.2.1.map uo from hr)
 exact⟨(h.rules q hq).text,(h.rules q hq).eY.turn⟩⟩
theorem aiC(l:List bg)(no:Int)(t:ByteArray):(lV l no t).length=l.length+1:=by
 unfold lV
 rcases N2 no l 0 (Int.le_refl _) with⟨h1,_⟩|h1
 ·rw[h1,zT (by omega:(-1:Int)<0),zC,List.length_append];rfl
 ·rw[zF (by omega:¬cg no l 0<0),zD,List.length_append,List.length_take,List.length_cons,List.length_drop]
  omega
theorem Rp(m:bL)(no:Int)(t:ByteArray):(ea m no t).2.1.length<=m.2.1.length+1:=by
 show(lV (eO m.2.1 no) no t).length<=_
 rw[aiC]
 have:=z117 m.2.1 no
 omega
theorem ajl(m:Map)(t:ByteArray)(h:m.1.length<=maxLen):sX m t=some (zw m.1 t):=by
 unfold sX Uk
 dsimp only
 have:=ct iV m.1 h (fun i (x:bB) (s:Unit) K=>bif decide (x.1=t) then some (Sum.inl (x.2.1,true)) else K s) (fun _=>some (Sum.inr ()))
  (fun k i s=>Pd k t m.1 (m.1.length:Int) i) (fun k i s=>rfl) ()
 rw[this,zc5]
 unfold zw
 cases m.1.find? fun p=>decide (p.1=t)<;>rfl
def eP(m:Map)(no:Int):Option aV:=m.2.1.find? fun r=>decide (r.2.1=no)
def zL(o:Option aV):Option (Sum (Bool×aV) aV):=some (match o with
 |some r=> .inl (true,r)
 |none=> .inr gx)
theorem LJ(no:Int):∀(l:List aV) (i:Int),bm (fun i (x:aV) (s:Unit) K=>(bif(decide (x.2.1=no)) then some (Sum.inl (true,x)) else K s)) (fun _=>some (Sum.inr gx)) l i ()=zL (l.find? fun r=>decide (r.2.1=no))
 | [],i=>rfl
 |x::r,i=>by
  rw[bm,List.find?_cons]
  cases hx:decide (x.2.1=no) with
  |true=>rfl
  |false=>rw[zD];exact LJ no r (i+1)
theorem af4(m:Map)(no:Int)(h:m.2.1.length<=maxLen):nR m no=some (match eP m no with
 |some r=>(r,true)
 |none=>(gx,false)):=by
 unfold nR Ui eP
 dsimp only
 have:=ct gx m.2.1 h (fun i (x:aV) (s:Unit) K=>(bif(decide (x.2.1=no)) then some (Sum.inl (true,x)) else K s)) (fun _=>some (Sum.inr gx))
  (fun k i s=>Pc k no m.2.1 (m.2.1.length:Int) i gx) (fun k i s=>rfl) ()
 rw[this,LJ]
 unfold zL
 cases m.2.1.find? fun r=>decide (r.2.1=no)<;>rfl
def rj:List aV->bL->bL
 | [],out=>out
 |r::l,out=>rj l (bif decide (r.1=3) then ea out r.2.2.1 r.2.2.2.1 else out)
theorem zaa:∀(l:List aV) (out:bL),(rj l out).2.1.length<=out.2.1.length+l.length
 | [],out=>Nat.le_refl _
 |r::l,out=>by
  rw[rj,List.length_cons]
  cases decide (r.1=3) with
  |true=>rw[zC];have:=zaa l (ea out r.2.2.1 r.2.2.2.1);have:=Rp out r.2.2.1 r.2.2.2.1;omega
  |false=>rw[zD];have:=zaa l out;omega
theorem zd5{ρ:Type}(fin:bL->Option ρ):∀(l:List aV) (i:Int) (out:bL),out.2.1.length+l.length<=1000000->
 bm (fun i (x:aV) (s:bL) K=>(bif(decide (x.1=(3:Int))) then((gT s x.2.2.1 x.2.2.2.1).bind fun r4=>K r4) else K s)) fin l i out=fin (rj l out)
 | [],i,out,_=>rfl
 |r::l,i,out,h=>by
  simp only[List.length_cons] at h
  rw[bm,rj]
  cases decide (r.1=3) with
  |true=>
   rw[zC,zC,Rr out _ _ (by omega),zc]
   have:=Rp out r.2.2.1 r.2.2.2.1
   exact zd5 fin l (i+1) _ (by omega)
  |false=>
   rw[zD,zD]
   exact zd5 fin l (i+1) out (by omega)
def AQ(m:Map)(b:zf):List bg->bL->Sum (bY×bL) bL
 | [],out=> .inr out
 |v::r,out=>match eP m v.1 with
  |none=> .inl ((9,v.1,()),out)
  |some q=>bif !decide ((gd q b v.2.1).2=0) then .inl (((gd q b v.2.1).2,v.1,()),out) else AQ m b r (bif !decide ((gd q b v.2.1).1.1=0) then ea out (gd q b v.2.1).1.1 (gd q b v.2.1).1.2.1 else out)
abbrev dk:bL:=(bs [],[],())
def LG(o:Sum (bY×bL) bL):Option (Sum (bL×bY×bL) (bL×bY×bL)):=some (match o with
 | .inl (f,out)=> .inl (dk,f,out)
 | .inr out=> .inr (dk,kg,out))
theorem Fm{m:Map}{no:Int}{r:aV}(h:eP m no=some r):r∈m.2.1/\r.2.1=no:=⟨List.mem_of_find?_eq_some h,by simpa using List.find?_some h⟩
theorem zaf(m:Map)(b:zf)(hm:dE m)(hb:b.2.2.1.length<=maxLen):∀(l:List bg) (i:Int) (out:bL),out.2.1.length+l.length<=1000000->(∀v∈l,v.2.1.size<=1099511627776)->
 bm (fun i (x:bg) (s:bL) K=>((nR m x.1).bind fun r5=>(bif(!r5.2) then some (Sum.inl (dk,((9:Int),x.1,()),s)) else((nN r5.1 b x.2.1).bind fun r6=>(bif(!(decide (r6.2=(0:Int)))) then some (Sum.inl (dk,(r6.2,x.1,()),s)) else(bif(!(decide (r6.1.1=(0:Int)))) then((gT s r6.1.1 r6.1.2.1).bind fun r7=>K r7) else K s)))))) (fun s=>some (Sum.inr (dk,kg,s))) l i out=LG (AQ m b l out)
 | [],i,out,_,_=>rfl
 |v::r,i,out,h,ht=>by
  simp only[List.length_cons] at h
  have hl:=hm.len
  have hv:=ht v List.mem_cons_self
  rw[bm,af4 m v.1 (by rw[zh];omega),zc,AQ]
  cases hf:eP m v.1 with
  |none=>rfl
  |some q=>
   dsimp only
   obtain⟨q1,_⟩:=Fm hf
   have qp:=(hm.rules q q1).eY.len
   rw[Bool.not_true,zD,aaK q b v.2.1 (by rw[zh];omega) hb (by rw[zh];omega),zc]
   generalize gd q b v.2.1=y
   cases decide (y.2=0) with
   |false=>rfl
   |true=>
    rw[Bool.not_true,zD,zD]
    cases decide (y.1.1=0) with
    |true=>
     rw[Bool.not_true,zD,zD]
     exact zaf m b hm hb r (i+1) out (by omega) (fun w hw=>ht w (List.mem_cons_of_mem _ hw))
    |false=>
     rw[Bool.not_false,zC,zC,Rr out _ _ (by omega),zc]
     have:=Rp out y.1.1 y.1.2.1
     exact zaf m b hm hb r (i+1) _ (by omega) (fun w hw=>ht w (List.mem_cons_of_mem _ hw))
def rB(m:Map)(a b:zf)(x:bL):bL×bY:=
 bif !decide ((dq m a b).1=0) then(dk,(1,-1,())) else bif !decide ((gl a x).1=0) then(dk,gl a x) else bif !(zw m.1 x.1).2 then(dk,(7,0,()))
 else match AQ m b x.2.1 (rj m.2.1 ((zw m.1 x.1).1,[],())) with
  | .inl (f,_)=>(dk,f)
  | .inr out=>(out,kg)
theorem aav(m:Map)(a b:zf)(x:bL)(hm:dE m)(hm2:m.2.1.length<=900000)(hx:eJ x)(Ak:x.2.1.length<=90000)(ha:a.2.2.1.length<=maxLen)(hb:b.2.2.1.length<=maxLen):qB m a b x=some (rB m a b x):=by
 have hl:=hm.m8.len
 unfold qB Uf rB
 rw[z7k m a b hm ha hb,zc]
 cases decide ((dq m a b).1=0) with
 |false=>rfl
 |true=>
  rw[Bool.not_true,zD,zD,znu a x ha hx,zc]
  cases decide ((gl a x).1=0) with
  |false=>rfl
  |true=>
   rw[Bool.not_true,zD,zD,ajl m x.1 (by rw[zh];omega),zc]
   cases(zw m.1 x.1).2 with
   |false=>rfl
   |true=>
    rw[Bool.not_true,zD,zD]
    dsimp only
    have h1:=ct gx m.2.1 (by rw[zh];omega) (fun i (x:aV) (s:bL) K=>(bif(decide (x.1=(3:Int))) then((gT s x.2.2.1 x.2.2.2.1).bind fun r4=>K r4) else K s)) (fun s=>some (m,b,x,dk,kg,s))
     (fun k i s=>Pa k m.2.1 (m.2.1.length:Int) i m b x dk kg s) (fun k i s=>rfl) ((zw m.1 x.1).1,[],())
    rw[h1,zd5 _ _ _ _ (by simp;omega),zc]
    unfold Ug
    dsimp only
    have hc:=zaa m.2.1 ((zw m.1 x.1).1,[],())
    have hc:(rj m.2.1 ((zw m.1 x.1).1,[],())).2.1.length<=m.2.1.length:=by simpa using hc
    have h2:=ct ni x.2.1 (by rw[zh];omega) (fun i (x:bg) (s:bL) K=>((nR m x.1).bind fun r5=>(bif(!r5.2) then some (Sum.inl (dk,((9:Int),x.1,()),s)) else((nN r5.1 b x.2.1).bind fun r6=>(bif(!(decide (r6.2=(0:Int)))) then some (Sum.inl (dk,(r6.2,x.1,()),s)) else(bif(!(decide (r6.1.1=(0:Int)))) then((gT s r6.1.1 r6.1.2.1).bind fun r7=>K r7) else K s)))))) (fun s=>some (Sum.inr (dk,kg,s)))
     (fun k i s=>Pb k x.2.1 (x.2.1.length:Int) i m b dk kg s) (fun k i s=>rfl) (rj m.2.1 ((zw m.1 x.1).1,[],()))
    rw[h2,zaf m b hm hb _ _ _ (by omega) hx.rN]
    unfold LG
    cases AQ m b x.2.1 (rj m.2.1 ((zw m.1 x.1).1,[],())) with
    |inl p=>obtain⟨f,o⟩:=p;rfl
    |inr o=>rfl
abbrev jH(l:List bg):Prop:=l.Pairwise fun x y=>x.1<y.1
def lU(no:Int)(t:ByteArray):List bg->List bg
 | []=>[(no,t,())]
 |x::r=>if no<x.1 then(no,t,())::x::r else x::lU no t r
theorem znp(no:Int):∀(l:List bg) (i d:Int),0<=i->0<=d->cg no l (i+d)=if cg no l i<0 then-1 else cg no l i+d
 | [],i,d,_,_=>by unfold cg;rw[if_pos (by omega)]
 |x::r,i,d,hi,hd=>by
  unfold cg
  by_cases hx:no<x.1
  ·rw[if_pos hx,if_pos hx,if_neg (by omega)]
  ·rw[if_neg hx,if_neg hx,show i+d+1=(i+1)+d by omega]
   exact znp no r (i+1) d (by omega) hd
theorem Cr(no:Int)(t:ByteArray):∀l:List bg,lV l no t=lU no t l
 | []=>rfl
 |x::r=>by
  have ih:=Cr no t r
  unfold lV at ih⊢
  unfold lU
  by_cases hx:no<x.1
  ·have:cg no (x::r) 0=0:=by unfold cg;rw[if_pos hx]
   rw[this,if_pos hx];rfl
  ·rw[if_neg hx,<-ih]
   have h0:cg no (x::r) 0=cg no r (0+1):=by
    show(if no<x.1 then(0:Int) else cg no r (0+1))=_
    rw[if_neg hx]
   rw[h0,znp no r 0 1 (by omega) (by omega)]
   rcases N2 no r 0 (Int.le_refl _) with⟨h1,_⟩|h1
   ·rw[h1,if_pos (by omega)];rfl
   ·rw[if_neg (by omega),zF (by omega:¬cg no r 0+1<0),zF (by omega:¬cg no r 0<0),zD,zD]
    have:(cg no r 0+1).toNat=(cg no r 0).toNat+1:=by omega
    rw[this];rfl
theorem zpw(no:Int)(t:ByteArray)(v:bg):∀l:List bg,v∈lU no t l↔v=(no,t,())\/v∈l
 | []=>by simp [lU]
 |x::r=>by
  unfold lU
  split
  ·simp
  ·rw[List.mem_cons,zpw no t v r,List.mem_cons]
   constructor
   ·rintro(h|h|h)
    ·exact .inr (.inl h)
    ·exact .inl h
    ·exact .inr (.inr h)
   ·rintro(h|h|h)
    ·exact .inr (.inl h)
    ·exact .inl h
    ·exact .inr (.inr h)
theorem LU(no:Int)(t:ByteArray):∀{l:List bg},jH l->(∀x∈l,x.1≠no)->jH (lU no t l)
 | [],_,_=>by simp [lU,jH]
 |x::r,h,hn=>by
  have hx:=hn x List.mem_cons_self
  rw[jH,List.pairwise_cons] at h
  unfold lU
  split
  ·rename_i ar
   refine List.pairwise_cons.2 ⟨fun y hy=> ?_,List.pairwise_cons.2 h⟩
   rcases List.mem_cons.1 hy with rfl|hy
   ·exact ar
   ·have:=h.1 y hy
    show no<y.1
    omega
  ·rename_i ar
   refine List.pairwise_cons.2 ⟨fun y hy=> ?_,LU no t h.2 (fun z hz=>hn z (List.mem_cons_of_mem _ hz))⟩
   rcases(zpw no t y r).1 hy with rfl|hy
   ·show x.1<no
    omega
   ·exact h.1 y hy
theorem Kl{l:List bg}{no:Int}{v:bg}:v∈eO l no↔v∈l/\v.1≠no:=by
 unfold eO
 rw[List.mem_filter]
 simp
theorem Rq(m:bL)(no:Int)(t:ByteArray)(v:bg):v∈(ea m no t).2.1↔v=(no,t,())\/(v∈m.2.1/\v.1≠no):=by
 show v∈lV (eO m.2.1 no) no t↔_
 rw[Cr,zpw,Kl]
theorem zif{m:bL}(h:jH m.2.1)(no:Int)(t:ByteArray):jH (ea m no t).2.1:=by
 show jH (lV (eO m.2.1 no) no t)
 rw[Cr]
 exact LU no t (h.filter _) (fun x hx=>(Kl.1 hx).2)
theorem Nh:∀{l r:List bg},jH l->jH r->(∀v,v∈l↔v∈r)->l=r
 | [],[],_,_,_=>rfl
 | [],y::r,_,_,h=>by have:=(h y).2 List.mem_cons_self;cases this
 |x::l,[],_,_,h=>by have:=(h x).1 List.mem_cons_self;cases this
 |x::l,y::r,hl,hr,h=>by
  have ky:=List.pairwise_cons.1 hl
  have X5:=List.pairwise_cons.1 hr
  have e:x=y:=by
   rcases List.mem_cons.1 ((h x).1 List.mem_cons_self) with e|e
   ·exact e
   ·rcases List.mem_cons.1 ((h y).2 List.mem_cons_self) with e2|e2
    ·exact e2.symm
    ·have a1:=X5.1 x e
     have a2:=ky.1 y e2
     omega
  subst e
  congr 1
  refine Nh ky.2 X5.2 fun v=>⟨fun hv=> ?_,fun hv=> ?_⟩
  ·rcases List.mem_cons.1 ((h v).1 (List.mem_cons_of_mem _ hv)) with e|e
   ·subst e;have:=ky.1 _ hv;omega
   ·exact e
  ·rcases List.mem_cons.1 ((h v).2 (List.mem_cons_of_mem _ hv)) with e|e
   ·subst e;have:=X5.1 _ hv;omega
   ·exact e
def z40:List bg->bL->bL
 | [],out=>out
 |v::l,out=>z40 l (ea out v.1 v.2.1)
def jz(l:List bg):Prop:=l.Pairwise fun x y=>x.1≠y.1
theorem znx:∀(l:List bg) (out:bL),(z40 l out).1=out.1
 | [],out=>rfl
 |v::l,out=>znx l _
theorem zv0:∀(l:List bg) {out:bL},jH out.2.1->jH (z40 l out).2.1
 | [],out,h=>h
 |v::l,out,h=>zv0 l (zif h v.1 v.2.1)
theorem zuz:∀(l:List bg) (out:bL),jz l->(∀v∈l,∀w∈out.2.1,v.1≠w.1)->∀v,v∈(z40 l out).2.1↔v∈out.2.1\/v∈l
 | [],out,_,_,v=>by simp [z40]
 |x::l,out,ha,hd,v=>by
  have zP:=List.pairwise_cons.1 ha
  have hx:(x.1,x.2.1,())=x:=rfl
  rw[z40,zuz l _ zP.2 (fun y hy w hw=> ?_) v,Rq,hx,List.mem_cons]
  ·constructor
   ·rintro((h|h)|h)
    ·exact .inr (.inl h)
    ·exact .inl h.1
    ·exact .inr (.inr h)
   ·rintro(h|h|h)
    ·exact .inl (.inr ⟨h,fun e=>hd x List.mem_cons_self v h e.symm⟩)
    ·exact .inl (.inl h)
    ·exact .inr h
  ·rcases(Rq out x.1 x.2.1 w).1 hw with e|e
   ·rw[e];exact fun h=>zP.1 y hy h.symm
   ·exact hd y (List.mem_cons_of_mem _ hy) w e.1
theorem zdi:∀(l r:List bg) (out:bL),z40 (l++r) out=z40 r (z40 l out)
 | [],r,out=>rfl
 |v::l,r,out=>zdi l r _
def jy(l:List aV):List bg:=(l.filter fun r=>decide (r.1=3)).map fun r=>(r.2.2.1,r.2.2.2.1,())
theorem zab:∀(l:List aV) (out:bL),rj l out=z40 (jy l) out
 | [],out=>rfl
 |r::l,out=>by
  rw[rj]
  unfold jy
  rw[List.filter_cons]
  cases decide (r.1=3) with
  |true=>exact zab l _
  |false=>exact zab l _
def kf(m:Map)(b:zf):List bg->Sum bY (List bg)
 | []=> .inr []
 |v::r=>match eP m v.1 with
  |none=> .inl (9,v.1,())
  |some q=>bif !decide ((gd q b v.2.1).2=0) then .inl ((gd q b v.2.1).2,v.1,()) else match kf m b r with
   | .inl f=> .inl f
   | .inr ys=> .inr ((gd q b v.2.1).1::ys)
def cu(l:List bg):List bg:=l.filter fun v=> !decide (v.1=0)
theorem zae(m:Map)(b:zf):∀(l:List bg) (out:bL),(∃f o,AQ m b l out= .inl (f,o)/\kf m b l= .inl f)\/(∃ys,AQ m b l out= .inr (z40 (cu ys) out)/\kf m b l= .inr ys)
 | [],out=> .inr ⟨[],rfl,rfl⟩
 |v::r,out=>by
  rw[AQ,kf]
  cases eP m v.1 with
  |none=>exact .inl ⟨_,_,rfl,rfl⟩
  |some q=>
   dsimp only
   generalize gd q b v.2.1=y
   cases decide (y.2=0) with
   |false=>exact .inl ⟨_,_,rfl,rfl⟩
   |true=>
    rw[Bool.not_true,zD,zD]
    cases hz:decide (y.1.1=0) with
    |true=>
     rw[Bool.not_true,zD]
     rcases zae m b r out with⟨f,o,h1,h2⟩|⟨ys,h1,h2⟩
     ·exact .inl ⟨f,o,h1,by rw[h2]⟩
     ·refine .inr ⟨y.1::ys,?_,by rw[h2]⟩
      rw[h1]
      have:cu (y.1::ys)=cu ys:=by unfold cu;rw[List.filter_cons,hz];rfl
      rw[this]
    |false=>
     rw[Bool.not_false,zC]
     rcases zae m b r (ea out y.1.1 y.1.2.1) with⟨f,o,h1,h2⟩|⟨ys,h1,h2⟩
     ·exact .inl ⟨f,o,h1,by rw[h2]⟩
     ·refine .inr ⟨y.1::ys,?_,by rw[h2]⟩
      rw[h1]
      have:cu (y.1::ys)=y.1::cu ys:=by unfold cu;rw[List.filter_cons,hz];rfl
      rw[this]
      rfl
theorem N1{m:Map}{b:zf}:∀{l ys:List bg},kf m b l= .inr ys->∀y∈ys,∃v∈l,∃q,eP m v.1=some q/\(gd q b v.2.1).2=0/\y=(gd q b v.2.1).1
 | [],ys,h,y,hy=>by cases h;cases hy
 |v::r,ys,h,y,hy=>by
  rw[kf] at h
  cases hf:eP m v.1 with
  |none=>rw[hf] at h;cases h
  |some q=>
   rw[hf] at h
   dsimp only at h
   cases hz:decide ((gd q b v.2.1).2=0) with
   |false=>rw[hz] at h;cases h
   |true=>
    rw[hz,Bool.not_true,zD] at h
    cases hr:kf m b r with
    |inl f=>rw[hr] at h;cases h
    |inr zs=>
     rw[hr] at h
     cases h
     rcases List.mem_cons.1 hy with rfl|hy
     ·exact⟨v,List.mem_cons_self,q,hf,of_decide_eq_true hz,rfl⟩
     ·obtain⟨w,hw,q',g⟩:=N1 hr y hy
      exact⟨w,List.mem_cons_of_mem _ hw,q',g⟩
theorem acs(x y:aV):kh x y=kh y x:=by
 unfold kh
 have e1:(!decide (x.2.1=0)&&decide (x.2.1=y.2.1))=(!decide (y.2.1=0)&&decide (y.2.1=x.2.1)):=by
  by_cases h:x.2.1=y.2.1
  ·rw[h]
  ·rw[zF h,zF (show¬y.2.1=x.2.1 from fun e=>h e.symm),Bool.and_false,Bool.and_false]
 have e2:(!decide (x.2.2.1=0)&&decide (x.2.2.1=y.2.2.1))=(!decide (y.2.2.1=0)&&decide (y.2.2.1=x.2.2.1)):=by
  by_cases h:x.2.2.1=y.2.2.1
  ·rw[h]
  ·rw[zF h,zF (show¬y.2.2.1=x.2.2.1 from fun e=>h e.symm),Bool.and_false,Bool.and_false]
 rw[e1,e2]
theorem zhv:∀{l prev:List aV},Fv prev l->l.Pairwise (fun x y=>kh x y=false)/\∀p∈prev,∀x∈l,kh p x=false
 | [],prev,h=>⟨List.Pairwise.nil,fun _ _ x hx=>by cases hx⟩
 |r::l,prev,h=>by
  obtain⟨h1,h2⟩:=h
  obtain⟨i1,i2⟩:=zhv h2
  have hp:∀p∈prev,kh p r=false:=fun p hp=>by
   have:=List.any_eq_false.1 h1 p hp
   simpa using this
  refine⟨List.pairwise_cons.2 ⟨fun y hy=>i2 r (by simp) y hy,i1⟩,fun p hp' x hx=> ?_⟩
  rcases List.mem_cons.1 hx with rfl|hx
  ·exact hp p hp'
  ·exact i2 p (by simp [hp']) x hx
theorem zic{x y:aV}(h:kh x y=false)(hx:x.2.2.1≠0):x.2.2.1≠y.2.2.1:=by
 intro e
 unfold kh at h
 rw[Bool.or_eq_false_iff] at h
 have:=h.2
 rw[zF hx,zT e] at this
 cases this
theorem L2{l:List aV}(h:l.Pairwise fun x y=>kh x y=false):∀x∈l,∀y∈l,x≠y->kh x y=false:=by
 induction l with
 |nil=>intro x hx;cases hx
 |cons r l ih=>
  obtain⟨h1,h2⟩:=List.pairwise_cons.1 h
  intro x hx y hy bK
  rcases List.mem_cons.1 hx with e1|hx1
  ·rcases List.mem_cons.1 hy with e2|Yn
   ·exact absurd (e1.trans e2.symm) bK
   ·rw[e1];exact h1 y Yn
  ·rcases List.mem_cons.1 hy with e2|Yn
   ·rw[acs,e2];exact h1 x hx1
   ·exact ih h2 x hx1 y Yn bK
theorem DK{s:zf}:∀{l:List bg} {last:Int},rS s l last=none↔(∀v∈l,bp s v.1=true/\bJ (aX s v.1) v.2.1=0)/\jH l/\∀v∈l,last<v.1
 | [],last=>by simp [rS,jH]
 |x::r,last=>by
  rw[rS]
  by_cases h1:x.1<=last
  ·rw[zT h1,zC]
   refine⟨fun h=>(by cases h),fun h=> ?_⟩
   have:=h.2.2 x List.mem_cons_self
   omega
  rw[zF h1,zD]
  cases h2:bp s x.1 with
  |false=>
   refine⟨fun h=>(by cases h),fun h=> ?_⟩
   have:=(h.1 x List.mem_cons_self).1
   rw[h2] at this;cases this
  |true=>
   rw[Bool.not_true,zD]
   by_cases h3:bJ (aX s x.1) x.2.1=0
   ·rw[zT h3,Bool.not_true,zD,DK]
    constructor
    ·rintro⟨g1,g2,g3⟩
     refine⟨fun v hv=> ?_,List.pairwise_cons.2 ⟨g3,g2⟩,fun v hv=> ?_⟩
     ·rcases List.mem_cons.1 hv with rfl|hv
      ·exact⟨h2,h3⟩
      ·exact g1 v hv
     ·rcases List.mem_cons.1 hv with rfl|hv
      ·omega
      ·have:=g3 v hv;omega
    ·rintro⟨g1,g2,g3⟩
     have g2:=List.pairwise_cons.1 g2
     exact⟨fun v hv=>g1 v (List.mem_cons_of_mem _ hv),g2.2,g2.1⟩
   ·rw[zF h3,Bool.not_false,zC]
    refine⟨fun h=>(by cases h),fun h=> ?_⟩
    exact absurd (h.1 x List.mem_cons_self).2 h3
theorem zhj{s:zf}:∀{l:List bg} {last:Int} {f:bY},rS s l last=some f->f.1≠0
 | [],last,f,h=>by cases h
 |x::r,last,f,h=>by
  rw[rS] at h
  cases h1:decide (x.1<=last) with
  |true=>rw[h1] at h;cases h;exact(by decide:(11:Int)≠0)
  |false=>
   rw[h1,zD] at h
   cases h2:bp s x.1 with
   |false=>rw[h2] at h;cases h;exact(by decide:(9:Int)≠0)
   |true=>
    rw[h2,Bool.not_true,zD] at h
    by_cases h3:bJ (aX s x.1) x.2.1=0
    ·rw[zT h3,Bool.not_true,zD] at h
     exact zhj h
    ·rw[zF h3,Bool.not_false,zC] at h
     cases h
     exact h3
structure kq(s:zf)(m:bL):Prop where
 ig:(gP s).1=0
 right:fE m.1=true
 Z6:gb m.1=s.2.1
 jk:rS s m.2.1 0=none
theorem Ou{s:zf}{m:bL}:(gl s m).1=0↔kq s m:=by
 unfold gl
 by_cases h1:(gP s).1=0
 ·rw[zT h1,Bool.not_true,zD]
  cases h2:fE m.1 with
  |false=>exact⟨fun h=>absurd h (show¬(7:Int)=0 by decide),fun h=>by have:=h.right;rw[h2] at this;cases this⟩
  |true=>
   rw[Bool.not_true,zD]
   by_cases h3:gb m.1=s.2.1
   ·rw[zT h3,Bool.not_true,zD]
    cases h4:rS s m.2.1 0 with
    |none=>exact⟨fun _=>⟨h1,h2,h3,h4⟩,fun _=>rfl⟩
    |some f=>exact⟨fun h=>absurd h (zhj h4),fun h=>by have:=h.jk;rw[h4] at this;cases this⟩
   ·rw[zF h3]
    exact⟨fun h=>absurd h (show¬(7:Int)=0 by decide),fun h=>absurd h.Z6 h3⟩
 ·rw[zF h1]
  exact⟨fun h=>absurd h (show¬(1:Int)=0 by decide),fun h=>absurd h.ig h1⟩
theorem kq.eq{s:zf}{m:bL}(h:kq s m):gl s m=kg:=by
 unfold gl
 rw[zT h.ig,h.right,zT h.Z6,h.jk];rfl
theorem DO{s:zf}(h:iu s){no:Int}(hh:bp s no=true):2<=no/\no<=128:=by
 have:=(zo3 (Rn h hh)).1
 rw[(RB hh).2] at this
 exact this
theorem Oc{q:aV}{b:zf}{t:ByteArray}(h:(gd q b t).2=0)(hz:(gd q b t).1.1≠0):q.1≠2/\(gd q b t).1.1=q.2.2.1:=by
 unfold gd at h hz⊢
 by_cases k1:q.1=1
 ·rw[zT k1,zC];exact⟨by omega,rfl⟩
 rw[zF k1,zD] at h hz⊢
 by_cases k2:q.1=2
 ·rw[zT k2,zC] at hz;exact absurd rfl hz
 rw[zF k2,zD] at h hz⊢
 refine⟨k2,?_⟩
 by_cases k3:q.1=3
 ·rw[zT k3,zC]
 rw[zF k3,zD] at h hz⊢
 by_cases k4:q.1=4
 ·rw[zT k4,zC] at h hz⊢
  cases hs:bp b q.2.2.1 with
  |false=>rw[hs] at h;cases h
  |true=>
   rw[hs] at h
   rw[Bool.not_true,zD] at h⊢
   cases hp:(fy t (aX b q.2.2.1).2.2.2.1).2 with
   |false=>rw[hp] at h;cases h
   |true=>rfl
 rw[zF k4,zD] at h hz⊢
 by_cases k5:q.1=5
 ·rw[zT k5,zC] at h hz⊢
  cases hp:(zw q.2.2.2.2.1 t).2 with
  |false=>rw[hp] at h;cases h
  |true=>rfl
 ·rw[zF k5,zD] at hz;exact absurd rfl hz
theorem Fq{l:List bg}{v:bg}:v∈cu l↔v∈l/\v.1≠0:=by
 unfold cu
 rw[List.mem_filter]
 simp
section
variable {m:Map} {a b:zf}
theorem eG.eY(h:eG m a b):m.2.1.Pairwise fun x y=>kh x y=false:=(zhv h.uq).1
theorem eG.okA(h:eG m a b):iu a:=(AG a).1 h.sa
theorem eG.okB(h:eG m a b):iu b:=(AG b).1 h.sb
theorem eG.to(h:eG m a b){r:aV}(hr:r∈m.2.1)(k:r.1≠2):bp b r.2.2.1=true:=(zhg (QW (h.rules r hr)).2.1).2.2.2 k
theorem eG.QG(h:eG m a b){r:aV}(hr:r∈m.2.1)(k:r.1≠2):r.2.2.1≠0:=by
 have:=DO h.okB (h.to hr k)
 omega
theorem Mk(h:eG m a b):∀{l ys:List bg},jH l->kf m b l= .inr ys->jz (cu ys)
 | [],ys,_,hy=>by cases hy;exact List.Pairwise.nil
 |v::r,ys,hr,hy=>by
  rw[kf] at hy
  have hr:=List.pairwise_cons.1 hr
  cases hf:eP m v.1 with
  |none=>rw[hf] at hy;cases hy
  |some q=>
   rw[hf] at hy
   dsimp only at hy
   cases hz:decide ((gd q b v.2.1).2=0) with
   |false=>rw[hz] at hy;cases hy
   |true=>
    rw[hz,Bool.not_true,zD] at hy
    cases hv:kf m b r with
    |inl f=>rw[hv] at hy;cases hy
    |inr zs=>
     rw[hv] at hy
     cases hy
     have ih:=Mk h hr.2 hv
     unfold cu at ih⊢
     rw[List.filter_cons]
     split
     ·rename_i XU
      have XU:(gd q b v.2.1).1.1≠0:=by simpa using XU
      refine List.pairwise_cons.2 ⟨fun z hzm=> ?_,ih⟩
      obtain⟨z1,z2⟩:=Fq.1 hzm
      obtain⟨w,hw,q',hf',h0',rfl⟩:=N1 hv z z1
      obtain⟨a1,a2⟩:=Oc (of_decide_eq_true hz) XU
      obtain⟨b1,b2⟩:=Oc h0' z2
      rw[a2,b2]
      obtain⟨qm,qf⟩:=Fm hf
      obtain⟨qm',qf'⟩:=Fm hf'
      have ar:=hr.1 w hw
      have bK:q≠q':=fun e=>by subst e;omega
      exact zic (L2 h.eY q qm q' qm' bK) (h.QG qm a1)
     ·exact ih
theorem QS{l:List aV}{v:bg}:v∈jy l↔∃r∈l,r.1=3/\v=(r.2.2.1,r.2.2.2.1,()):=by
 unfold jy
 rw[List.mem_map]
 constructor
 ·rintro⟨r,hr,rfl⟩
  rw[List.mem_filter] at hr
  exact⟨r,hr.1,of_decide_eq_true hr.2,rfl⟩
 ·rintro⟨r,hr,k,rfl⟩
  exact⟨r,List.mem_filter.2 ⟨hr,zT k⟩,rfl⟩
theorem aay(h:eG m a b):jz (jy m.2.1):=by
 unfold jy
 refine List.pairwise_map.2 ?_
 refine List.Pairwise.imp_of_mem ?_ (h.eY.filter _)
 intro x y hx hy Am
 have hx:=List.mem_filter.1 hx
 have k:x.1=3:=of_decide_eq_true hx.2
 exact zic Am (h.QG hx.1 (by omega))
theorem aa0(h:eG m a b){l ys:List bg}(hl:∀v∈l,bp a v.1=true)(hy:kf m b l= .inr ys):∀c∈jy m.2.1,∀y∈cu ys,c.1≠y.1:=by
 intro c hc y hym
 obtain⟨r,hr,k,rfl⟩:=QS.1 hc
 obtain⟨y1,y2⟩:=Fq.1 hym
 obtain⟨w,hw,q,hf,h0,rfl⟩:=N1 hy y y1
 obtain⟨b1,b2⟩:=Oc h0 y2
 rw[b2]
 obtain⟨qm,qf⟩:=Fm hf
 have hwr:=DO h.okA (hl w hw)
 have hz:=(zhg (QW (h.rules r hr)).2.1).1 k
 have bK:r≠q:=fun e=>by subst e;omega
 exact zic (L2 h.eY r hr q qm bK) (h.QG hr (by omega))
theorem J0(h:eG m a b){l ys:List bg}(hr:jH l)(hl:∀v∈l,bp a v.1=true)(hy:kf m b l= .inr ys):jz (jy m.2.1++cu ys):=
 List.pairwise_append.2 ⟨aay h,Mk h hr hy,aa0 h hl hy⟩
theorem J1(h:eG m a b){l ys:List bg}(hy:kf m b l= .inr ys):∀v∈jy m.2.1++cu ys,bp b v.1=true:=by
 intro v hv
 rcases List.mem_append.1 hv with hv|hv
 ·obtain⟨r,hr,k,rfl⟩:=QS.1 hv
  exact h.to hr (by omega)
 ·obtain⟨y1,y2⟩:=Fq.1 hv
  obtain⟨w,hw,q,hf,h0,rfl⟩:=N1 hy v y1
  obtain⟨b1,b2⟩:=Oc h0 y2
  rw[b2]
  exact h.to (Fm hf).1 b1
end
def nz(vs:List bg):Nat->Nat->List bg
 |0,_=>[]
 |n+1,k=>(vs.filter fun v=>decide (v.1=(k:Int)))++nz vs n (k+1)
theorem QP{vs:List bg}{v:bg}:∀{n k:Nat},v∈nz vs n k↔v∈vs/\(k:Int)<=v.1/\v.1<((k+n:Nat):Int)
 |0,k=>by simp only[nz,List.not_mem_nil,false_iff];omega
 |n+1,k=>by
  rw[nz,List.mem_append,List.mem_filter,decide_eq_true_eq,QP]
  constructor
  ·rintro(⟨h1,h2⟩|⟨h1,h2,h3⟩)
   ·exact⟨h1,by omega,by omega⟩
   ·exact⟨h1,by omega,by omega⟩
  ·rintro⟨h1,h2,h3⟩
   by_cases e:v.1=(k:Int)
   ·exact .inl ⟨h1,e⟩
   ·exact .inr ⟨h1,by omega,by omega⟩
theorem zd2{vs:List bg}(h:jz (cu vs)):∀(n k:Nat),1<=k->jH (nz vs n k)
 |0,k,_=>List.Pairwise.nil
 |n+1,k,hk=>by
  rw[nz]
  refine List.pairwise_append.2 ⟨?_,zd2 h n (k+1) (by omega),fun x hx y hy=> ?_⟩
  ·have e:(vs.filter fun v=>decide (v.1=(k:Int)))=(cu vs).filter fun v=>decide (v.1=(k:Int)):=by
    unfold cu
    rw[List.filter_filter]
    congr 1
    funext v
    by_cases hv:v.1=(k:Int)
    ·rw[zT hv,zF (by omega:¬v.1=0)];rfl
    ·rw[zF hv];rfl
   rw[e]
   refine List.Pairwise.imp_of_mem ?_ (h.filter _)
   intro x y hx hy bK
   have h1:=of_decide_eq_true (List.mem_filter.1 hx).2
   have h2:=of_decide_eq_true (List.mem_filter.1 hy).2
   omega
  ·have h1:=of_decide_eq_true (List.mem_filter.1 hx).2
   have h2:=(QP.1 hy).2.1
   omega
def WS(m:Map)(a b:zf)(x:bL):bL×bY:=
 bif !decide ((dq m a b).1=0) then(dk,(1,-1,())) else bif !decide ((gl a x).1=0) then(dk,gl a x) else bif !(zw m.1 x.1).2 then(dk,(7,0,()))
 else match kf m b x.2.1 with
  | .inl f=>(dk,f)
  | .inr ys=>(((zw m.1 x.1).1,nz (ys++jy m.2.1) 127 2,()),kg)
theorem zi7(l r:List bg):cu (l++r)=cu l++cu r:=by unfold cu;rw[List.filter_append]
theorem zi8{m:Map}{a b:zf}(h:eG m a b):cu (jy m.2.1)=jy m.2.1:=by
 unfold cu
 refine List.filter_eq_self.2 fun v hv=> ?_
 obtain⟨r,hr,k,rfl⟩:=QS.1 hv
 have:=h.QG hr (by omega)
 simpa using this
theorem ztw{l r:List bg}(h:jz (l++r)):jz (r++l):=by
 obtain⟨h1,h2,h3⟩:=List.pairwise_append.1 h
 exact List.pairwise_append.2 ⟨h2,h1,fun x hx y hy e=>h3 y hy x hx e.symm⟩
theorem aet{m:Map}{a b:zf}(h:eG m a b){l ys:List bg}(hr:jH l)(hl:∀v∈l,bp a v.1=true)(hy:kf m b l= .inr ys)(t:ByteArray):
 z40 (cu ys) (rj m.2.1 (t,[],()))=(t,nz (ys++jy m.2.1) 127 2,()):=by
 rw[zab,<-zdi]
 have zQ:=J0 h hr hl hy
 have hs:cu (ys++jy m.2.1)=cu ys++jy m.2.1:=by rw[zi7,zi8 h]
 refine alf.2 ⟨znx _ _,?_⟩
 refine Nh (zv0 _ List.Pairwise.nil) (zd2 (by rw[hs];exact ztw zQ) 127 2 (by omega)) fun v=> ?_
 rw[zuz _ _ zQ (fun _ _ w hw=>by cases hw) v,QP]
 constructor
 ·rintro(hv|hv)
  ·cases hv
  ·have hb:=DO h.okB (J1 h hy v hv)
   refine⟨?_,by omega,by omega⟩
   rcases List.mem_append.1 hv with hv|hv
   ·exact List.mem_append_right _ hv
   ·exact List.mem_append_left _ (Fq.1 hv).1
 ·rintro⟨hv,h1,h2⟩
  right
  rcases List.mem_append.1 hv with hv|hv
  ·exact List.mem_append_right _ (Fq.2 ⟨hv,by omega⟩)
  ·exact List.mem_append_left _ hv
theorem zv9(m:Map)(a b:zf)(x:bL):rB m a b x=WS m a b x:=by
 unfold rB WS
 by_cases h1:(dq m a b).1=0
 ·rw[zT h1,Bool.not_true,zD,zD]
  by_cases h2:(gl a x).1=0
  ·rw[zT h2,Bool.not_true,zD,zD]
   cases(zw m.1 x.1).2 with
   |false=>rfl
   |true=>
    rw[Bool.not_true,zD,zD]
    obtain⟨g1,g2,g3⟩:=DK.1 (Ou.1 h2).jk
    rcases zae m b x.2.1 (rj m.2.1 ((zw m.1 x.1).1,[],())) with⟨f,o,e1,e2⟩|⟨ys,e1,e2⟩
    ·rw[e1,e2]
    ·rw[e1,e2]
     dsimp only
     rw[aet (zpx.1 h1) g2 (fun v hv=>(g1 v hv).1) e2]
  ·rw[zF h2];rfl
 ·rw[zF h1];rfl
end bE

namespace bE
open Go.IntKind renaming wrap->zW,i64->zI,u8->zU
open Go Go.Ref
abbrev JP:Ty:= .pair (.int .i64) (.pair (.int .i64) (.pair (.int .i64) (.pair (.int .i64) (.pair (.int .i64) .unit))))
abbrev als:Ty:= .pair (.int .i64) (.pair (.int .i64) (.pair (.sl 0 JP) .unit))
end bE

