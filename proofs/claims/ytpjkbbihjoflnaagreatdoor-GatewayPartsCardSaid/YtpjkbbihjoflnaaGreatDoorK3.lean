/- No condition. -/
import Derived.Test.YtpjkbbihjoflnaaGreatDoorK2
import Derived.KernelRfl
import Derived.Laws.RangeString
set_option linter.unusedVariables false
set_option linter.unusedSimpArgs false
set_option maxRecDepth 100000
namespace bn
open Go.IntKind renaming wrap->zW,i64->zI,u8->zU
theorem zT{p:Prop}[Decidable p](h:p):decide p=true:=_root_.decide_eq_true h
theorem zF{p:Prop}[Decidable p](h:¬p):decide p=false:=_root_.decide_eq_false h
theorem zC{α:Type}{a b:α}:(bif true then a else b)=a:=rfl
theorem zD{α:Type}{a b:α}:(bif false then a else b)=b:=rfl
open Go Go.Ref
theorem zq:ag=18446744073709551616:=by unfold ag;rfl
theorem zh:maxLen=9223372036854775807:=rfl
theorem zk{x:Int}(h1: -9223372036854775808<=x)(h2:x<=9223372036854775807):zW zI x=x:=Eb h1 h2
theorem xX{n:Nat}(h:n<=9223372036854775807):zW zI (n:Int)=n:=Eb (by omega) (by omega)
theorem zr{j:Nat}(h:j<9223372036854775807):zW zI ((j:Int)+1)=((j+1:Nat):Int):=by
 rw[Eb (by omega) (by omega)];rfl
theorem N2(x:Int):IntKind.u64.wrap x=x % 18446744073709551616:=by
 simp [IntKind.wrap,IntKind.signed,IntKind.bits]
theorem Ea(x:Int):zW zU x=x % 256:=by
 simp [IntKind.wrap,IntKind.signed,IntKind.bits]
theorem aoc{x:Int}(h1:0<=x)(h2:x<18446744073709551616):IntKind.u64.wrap x=x:=by rw[N2];omega
theorem uI{x:Int}(h1:0<=x)(h2:x<256):zW zU x=x:=by rw[Ea];omega
theorem zi{R:Type}{j n:Nat}{x:Option R}(h:j<n):zd (j:Int) n x=x:=ag7 h
theorem zm{R:Type}{i:Int}{n:Nat}{x:Option R}(h0:0<=i)(h:i<n):zd i n x=x:=by
 unfold zd
 rw[zT h0,zT h];rfl
theorem alW{R:Type}{p:Prop}[Decidable p](x y:R):(bif decide p then x else y)=if p then x else y:=by
 by_cases h:p<;>simp [h]
def bl(s:ByteArray):List Int:=s.data.toList.map fun b=>(b.toNat:Int)
theorem Fa{a b:ByteArray}(h:bl a=bl b):a=b:=by
 apply ByteArray.ext
 apply Array.ext'
 unfold bl at h
 have:Function.Injective (fun b:UInt8=>(b.toNat:Int)):=fun x y Aw=>UInt8.toNat_inj.1 (Int.ofNat.inj Aw)
 exact(List.map_inj_right (fun x y h=>this h)).1 h
theorem I4{a b:ByteArray}:a=b↔bl a=bl b:=⟨fun h=>by rw[h],Fa⟩
theorem zg(s:ByteArray):(bl s).length=s.size:=by unfold bl;rw[List.length_map];rfl
theorem rX(a b:ByteArray):bl (a++b)=bl a++bl b:=by simp [bl,ByteArray.data_append]
theorem uO(s:ByteArray)(i j:Nat):bl (s.extract i j)=((bl s).take j).drop i:=by
 unfold bl
 rw[ByteArray.data_extract,Array.toList_extract,List.extract_eq_drop_take',List.map_drop,List.map_take]
theorem mo(s:ByteArray)(i:Nat):ze s i=(bl s).getD i 0:=by
 unfold ze bl
 split
 ·rename_i h
  have h':i<s.data.toList.length:=h
  rw[List.getD_eq_getElem?_getD,List.getElem?_map,List.getElem?_eq_getElem h']
  rfl
 ·rename_i h
  have h':s.data.toList.length<=i:=Nat.le_of_not_lt h
  rw[List.getD_eq_getElem?_getD,List.getElem?_eq_none (by simpa using h')]
  rfl
def zo(n:Int):Prop:=0<=n/\n<256
theorem mh{s:ByteArray}{x:Int}(h:x∈bl s):zo x:=by
 unfold bl at h
 obtain⟨b,_,rfl⟩:=List.mem_map.1 h
 have:=b.toNat_lt
 unfold zo
 omega
theorem uT{xs:List Int}(h:∀x∈xs,zo x):bl (strOf xs)=xs:=by
 simp only[bl,strOf,List.map_map]
 conv=>rhs;rw[<-List.map_id xs]
 apply List.map_congr_left
 intro x hx
 have:=h x hx
 unfold zo at this
 simp only[Function.comp,id]
 rw[UInt8.toNat_ofNat_of_lt' (by show x.toNat<256;omega)]
 omega
theorem z59(s:ByteArray):strOf (bl s)=s:=Fa (uT fun x hx=>mh hx)
theorem zS{l:List Nat}(h:∀x∈l,x<256):bl (bs l)=l.map (fun n:Nat=>(n:Int)):=by
 simp only[bl,bs,List.map_map]
 apply List.map_congr_left
 intro x hx
 have:=h x hx
 simp only[Function.comp]
 rw[UInt8.toNat_ofNat_of_lt' (by show x<256;omega)]
theorem zq6:bl (bs [])=[]:=rfl
theorem zda{s:ByteArray}:s=bs []↔bl s=[]:=by rw[I4,zq6]
theorem vk(xs:List Int):(strOf xs).size=xs.length:=by rw[<-zg];unfold bl strOf;simp
section
variable {α σ ρ:Type}
end
end bn
namespace bn
open Go.IntKind renaming wrap->zW,i64->zI,u8->zU
open Go Go.Ref
section
variable {α σ ρ:Type}
def bj(g:Int->α->σ->(σ->Option ρ)->Option ρ)(fin:σ->Option ρ):List α->Int->σ->Option ρ
 | [],_,s=>fin s
 |x::r,i,s=>g i x s fun s'=>bj g fin r (i+1) s'
theorem OA(d:α)(xs:List α)(hlen:xs.length<=9223372036854775807)(g:Int->α->σ->(σ->Option ρ)->Option ρ)(fin:σ->Option ρ)(L:Nat->Int->σ->Option ρ)
 (step:∀k (i:Int) s,L (k+1) i s=bif decide (i<(xs.length:Int)) then zd i xs.length (g i (xs.getD i.toNat d) s fun s'=>L k (zW zI (i+1)) s') else fin s):
 ∀(m j k:Nat) (s:σ),j+m=xs.length->m<k->L k j s=bj g fin (xs.drop j) j s
 |0,j,k,s,hj,hk=>by
  obtain⟨k,rfl⟩:∃k',k=k'+1:=⟨k-1,by omega⟩
  rw[step,zF (by omega),List.drop_eq_nil_of_le (by omega)];rfl
 |m+1,j,k,s,hj,hk=>by
  obtain⟨k,rfl⟩:∃k',k=k'+1:=⟨k-1,by omega⟩
  have aq:j<xs.length:=by omega
  rw[step,zT (by omega),zC,zi aq,List.drop_eq_getElem_cons aq,bj]
  have hx:xs.getD ((j:Int)).toNat d=xs[j]:=by rw[Int.toNat_natCast,List.getD_eq_getElem?_getD,List.getElem?_eq_getElem aq];rfl
  rw[hx]
  congr 1
  funext s'
  rw[zr (by omega),OA d xs hlen g fin L step m (j+1) k s' (by omega) (by omega)]
  rfl
theorem cu(d:α)(xs:List α)(hlen:xs.length<=maxLen)(g:Int->α->σ->(σ->Option ρ)->Option ρ)(fin:σ->Option ρ)(L:Nat->Int->σ->Option ρ)
 (step:∀k (i:Int) s,L (k+1) i s=bif decide (i<(xs.length:Int)) then zd i xs.length (g i (xs.getD i.toNat d) s fun s'=>L k (zW zI (i+1)) s') else fin s) (s:σ):L ag 0 s=bj g fin xs 0 s:=by
 rw[zh] at hlen
 have:=OA d xs hlen g fin L step xs.length 0 ag s (by omega) (by rw[zq];omega)
 rw[List.drop_zero] at this
 exact this
theorem OB(d:α)(xs:List α)(hlen:xs.length<=9223372036854775807)(g:Int->α->σ->(σ->Option ρ)->Option ρ)(fin:σ->Option ρ)(L:Nat->Int->σ->Option ρ)
 (step:∀k (i:Int) s,0<=i->i<(xs.length:Int)->L (k+1) i s=g i (xs.getD i.toNat d) s fun s'=>L k (zW zI (i+1)) s') (stop:∀k s,L (k+1) (xs.length:Int) s=fin s):
 ∀(m j k:Nat) (s:σ),j+m=xs.length->m<k->L k j s=bj g fin (xs.drop j) j s
 |0,j,k,s,hj,hk=>by
  obtain⟨k,rfl⟩:∃k',k=k'+1:=⟨k-1,by omega⟩
  have:j=xs.length:=by omega
  subst this
  rw[stop,List.drop_length];rfl
 |m+1,j,k,s,hj,hk=>by
  obtain⟨k,rfl⟩:∃k',k=k'+1:=⟨k-1,by omega⟩
  have aq:j<xs.length:=by omega
  rw[step k j s (by omega) (by omega),List.drop_eq_getElem_cons aq,bj]
  have hx:xs.getD ((j:Int)).toNat d=xs[j]:=by rw[Int.toNat_natCast,List.getD_eq_getElem?_getD,List.getElem?_eq_getElem aq];rfl
  rw[hx]
  congr 1
  funext s'
  rw[zr (by omega),OB d xs hlen g fin L step stop m (j+1) k s' (by omega) (by omega)]
  rfl
theorem ng(d:α)(xs:List α)(hlen:xs.length<=maxLen)(g:Int->α->σ->(σ->Option ρ)->Option ρ)(fin:σ->Option ρ)(L:Nat->Int->σ->Option ρ)
 (step:∀k (i:Int) s,0<=i->i<(xs.length:Int)->L (k+1) i s=g i (xs.getD i.toNat d) s fun s'=>L k (zW zI (i+1)) s') (stop:∀k s,L (k+1) (xs.length:Int) s=fin s) (s:σ):L ag 0 s=bj g fin xs 0 s:=by
 rw[zh] at hlen
 have:=OB d xs hlen g fin L step stop xs.length 0 ag s (by omega) (by rw[zq];omega)
 rw[List.drop_zero] at this
 exact this
end
end bn

namespace bn
open Go.IntKind renaming wrap->zW,i64->zI,u8->zU
open Go Go.Ref
theorem AU(n a:Nat)(h:a<2^n):(BitVec.ofInt n (a:Int)).toNat=a:=by
 rw[BitVec.toNat_ofInt]
 have h2:((a:Int)% ((2^n:Nat):Int))=((a % 2^n:Nat):Int):=by rfl
 rw[h2,Int.toNat_natCast,Nat.mod_eq_of_lt h]
theorem Gr{a:Nat}(h:a<18446744073709551616):IntKind.u64.wrap (a:Int)=a:=aoc (by omega) (by omega)
theorem mP{a b:Nat}(ha:a<18446744073709551616)(hb:b<18446744073709551616):aP .and .u64 a b=((a&&&b:Nat):Int):=by
 simp only[aP,BitVec.toNat_and,AU IntKind.u64.bits a ha,AU IntKind.u64.bits b hb]
 exact Gr (Nat.lt_of_le_of_lt Nat.and_le_left ha)
theorem xt{a b:Nat}(ha:a<18446744073709551616)(hb:b<18446744073709551616):aP .or .u64 a b=((a|||b:Nat):Int):=by
 simp only[aP,BitVec.toNat_or,AU IntKind.u64.bits a ha,AU IntKind.u64.bits b hb]
 exact Gr (Nat.or_lt_two_pow (n:=64) ha hb)
theorem aiZ{a b:Nat}(ha:a<18446744073709551616)(hb:b<18446744073709551616):aP .andNot .u64 a b=((a&&&(18446744073709551615-b):Nat):Int):=by
 simp only[aP,BitVec.toNat_and,BitVec.toNat_not,AU IntKind.u64.bits a ha,AU IntKind.u64.bits b hb]
 have:2^IntKind.u64.bits-1-b=18446744073709551615-b:=rfl
 rw[this]
 exact Gr (Nat.lt_of_le_of_lt Nat.and_le_left ha)
theorem alU{a b:Nat}(ha:a<9223372036854775808)(hb:b<9223372036854775808):aP .and .i64 a b=((a&&&b:Nat):Int):=by
 simp only[aP,BitVec.toNat_and,AU IntKind.i64.bits a (Nat.lt_trans ha (by decide)),AU IntKind.i64.bits b (Nat.lt_trans hb (by decide))]
 have:=Nat.lt_of_le_of_lt (Nat.and_le_left (n:=a) (m:=b)) ha
 exact xX (by omega)
theorem Pa(a:Nat)(k:Nat)(hk:k<=64):Int.fdiv (a:Int) (2^min ((k:Int)).toNat 64)=((a/2^k:Nat):Int):=by
 rw[Int.fdiv_eq_ediv_of_nonneg _ (Int.pow_nonneg (by decide)),Int.toNat_natCast,Nat.min_eq_left hk]
 rfl
section
variable {c0 c1 c2 c3 c4 c5 c6 c7:Nat}
end
def zz(x:Nat):Nat:=if x=0 then 0 else x.log2+1
theorem RO(x:Nat):x<2^zz x/\(x≠0->2^(zz x-1)<=x/\1<=zz x):=by
 unfold zz
 split
 ·simp_all
 ·rename_i h
  exact⟨Nat.lt_log2_self,fun _=>⟨by simpa using Nat.log2_self_le h,by omega⟩⟩
theorem aa8{x L:Nat}(h1:x<2^L)(h2:L≠0->2^(L-1)<=x):zz x=L:=by
 obtain⟨g1,g2⟩:=RO x
 by_cases hx:x=0
 ·subst hx
  by_cases hL:L=0
  ·rw[hL];rfl
  ·have:=h2 hL
   have:=Nat.two_pow_pos (L-1)
   omega
 ·obtain⟨g3,g4⟩:=g2 hx
  rcases Nat.lt_trichotomy (zz x) L with h|h|h
  ·have:=h2 (by omega)
   have:2^zz x<=2^(L-1):=Nat.pow_le_pow_right (by decide) (by omega)
   omega
  ·exact h
  ·have:2^L<=2^(zz x-1):=Nat.pow_le_pow_right (by decide) (by omega)
   omega
theorem z99{x k:Nat}(h:2^k<=x):zz x=zz (x/2^k)+k:=by
 have hp:=Nat.two_pow_pos k
 have hq:x/2^k≠0:=by
  have:=Nat.div_pos h hp
  omega
 obtain⟨g1,g2⟩:=RO (x/2^k)
 obtain⟨g3,g4⟩:=g2 hq
 apply aa8
 ·rw[Nat.pow_add]
  exact(Nat.div_lt_iff_lt_mul hp).1 g1
 ·intro _
  have:zz (x/2^k)+k-1=(zz (x/2^k)-1)+k:=by omega
  rw[this,Nat.pow_add]
  exact(Nat.le_div_iff_mul_le hp).1 g3
def lC:List Nat:=[0,1,2,2,3,3,3,3,4,4,4,4,4,4,4,4,5,5,5,5,5,5,5,5,5,5,5,5,5,5,5,5]++List.replicate 32 6++List.replicate 64 7++List.replicate 128 8
theorem aka:∀c:Fin 256,lC.getD c.1 0=zz c.1:=by decide+kernel
def Az(x:Int):Option Int:=
 let t:Int->Int->Option Int:=fun n x=>zd (zW zU x) (bs lC).size (some (zW zI (n+zW zI (ze (bs lC) (zW zU x).toNat))))
 let c:Int->Int->Option Int:=fun n x=>bif decide ((256:Int)<=x) then t (zW zI (n+8)) (Int.fdiv x (2^min ((8:Int)).toNat 64)) else t n x
 let b:Int->Int->Option Int:=fun n x=>bif decide ((65536:Int)<=x) then c (zW zI (n+16)) (Int.fdiv x (2^min ((16:Int)).toNat 64)) else c n x
 bif decide ((4294967296:Int)<=x) then b 32 (Int.fdiv x (2^min ((32:Int)).toNat 64)) else b 0 x
theorem abK(x:Int):sK x=Az x:=by kernel_rfl
theorem af7(c:Nat)(h:c<256):ze (bs lC) c=((zz c:Nat):Int):=by
 rw[mo,zS (by decide+kernel),<-aka ⟨c,h⟩,List.getD_eq_getElem?_getD,List.getElem?_map,List.getD_eq_getElem?_getD]
 cases lC[c]? <;>rfl
theorem KK{x k:Nat}(h:x<2^k):zz x<=k:=by
 by_cases hx:x=0
 ·subst hx;simp [zz]
 ·obtain⟨g3,g4⟩:=(RO x).2 hx
  rcases Nat.lt_or_ge k (zz x) with h1|h1
  ·have:2^k<=2^(zz x-1):=Nat.pow_le_pow_right (by decide) (by omega)
   omega
  ·exact h1
theorem ahf(x:Nat)(hx:x<18446744073709551616):sK x=some ((zz x:Nat):Int):=by
 rw[abK]
 unfold Az
 simp only
 have ht:∀(n:Nat) (c:Nat),n<=100->c<256->zd (zW zU (c:Int)) (bs lC).size (some (zW zI ((n:Int)+zW zI (ze (bs lC) (zW zU (c:Int)).toNat))))=some (((n+zz c:Nat):Int)):=by
  intro n c hn hc
  have hl:(bs lC).size=256:=by rw[<-zg,zS (by decide+kernel)];rfl
  have hb:=KK (k:=8) hc
  rw[uI (by omega) (by omega),hl,zi hc,Int.toNat_natCast,af7 c hc,xX (by omega),zk (by omega) (by omega)]
  rfl
 have f8:∀a:Nat,Int.fdiv (a:Int) (2^min ((8:Int)).toNat 64)=((a/2^8:Nat):Int):=fun a=>Pa a 8 (by omega)
 have f16:∀a:Nat,Int.fdiv (a:Int) (2^min ((16:Int)).toNat 64)=((a/2^16:Nat):Int):=fun a=>Pa a 16 (by omega)
 have f32:∀a:Nat,Int.fdiv (a:Int) (2^min ((32:Int)).toNat 64)=((a/2^32:Nat):Int):=fun a=>Pa a 32 (by omega)
 have hc:∀(n:Nat) (y:Nat),n<=48->y<65536->(bif decide ((256:Int)<=(y:Int)) then zd (zW zU (Int.fdiv (y:Int) (2^min ((8:Int)).toNat 64))) (bs lC).size (some (zW zI (zW zI ((n:Int)+8)+zW zI (ze (bs lC) (zW zU (Int.fdiv (y:Int) (2^min ((8:Int)).toNat 64))).toNat)))) else zd (zW zU (y:Int)) (bs lC).size (some (zW zI ((n:Int)+zW zI (ze (bs lC) (zW zU (y:Int)).toNat)))))=some (((n+zz y:Nat):Int)):=by
  intro n y hn hy
  by_cases h:256<=y
  ·rw[zT (by omega),zC,f8,zk (x:=(n:Int)+8) (by omega) (by omega)]
   have:=ht (n+8) (y/2^8) (by omega) (by omega)
   rw[show((n:Int)+8)=((n+8:Nat):Int) from rfl,this,z99 (k:=8) h]
   congr 2;omega
  ·rw[zF (by omega),zD]
   exact ht n y (by omega) (by omega)
 have hb:∀(n:Nat) (y:Nat),n<=32->y<4294967296->(bif decide ((65536:Int)<=(y:Int)) then(bif decide ((256:Int)<=Int.fdiv (y:Int) (2^min ((16:Int)).toNat 64)) then zd (zW zU (Int.fdiv (Int.fdiv (y:Int) (2^min ((16:Int)).toNat 64)) (2^min ((8:Int)).toNat 64))) (bs lC).size (some (zW zI (zW zI (zW zI ((n:Int)+16)+8)+zW zI (ze (bs lC) (zW zU (Int.fdiv (Int.fdiv (y:Int) (2^min ((16:Int)).toNat 64)) (2^min ((8:Int)).toNat 64))).toNat)))) else zd (zW zU (Int.fdiv (y:Int) (2^min ((16:Int)).toNat 64))) (bs lC).size (some (zW zI (zW zI ((n:Int)+16)+zW zI (ze (bs lC) (zW zU (Int.fdiv (y:Int) (2^min ((16:Int)).toNat 64))).toNat))))) else
  (bif decide ((256:Int)<=(y:Int)) then zd (zW zU (Int.fdiv (y:Int) (2^min ((8:Int)).toNat 64))) (bs lC).size (some (zW zI (zW zI ((n:Int)+8)+zW zI (ze (bs lC) (zW zU (Int.fdiv (y:Int) (2^min ((8:Int)).toNat 64))).toNat)))) else zd (zW zU (y:Int)) (bs lC).size (some (zW zI ((n:Int)+zW zI (ze (bs lC) (zW zU (y:Int)).toNat))))))=some (((n+zz y:Nat):Int)):=by
  intro n y hn hy
  by_cases h:65536<=y
  ·rw[zT (by omega),zC,f16,zk (x:=(n:Int)+16) (by omega) (by omega)]
   have:=hc (n+16) (y/2^16) (by omega) (by omega)
   rw[show((n:Int)+16)=((n+16:Nat):Int) from rfl,this,z99 (k:=16) h]
   congr 2;omega
  ·rw[zF (by omega),zD]
   exact hc n y (by omega) (by omega)
 by_cases h:4294967296<=x
 ·rw[zT (by omega),zC,f32]
  have:=hb 32 (x/2^32) (by omega) (by omega)
  rw[show((32:Nat):Int)=32 from rfl] at this
  rw[this,z99 (k:=32) h]
  congr 2;omega
 ·rw[zF (by omega),zD]
  have:=hb 0 x (by omega) (by omega)
  rw[show((0:Nat):Int)=0 from rfl] at this
  rw[this]
  congr 2;omega
theorem z9t(x:Nat)(hx:x<18446744073709551616):mE x=some (((64-zz x:Nat)):Int):=by
 unfold mE TL
 have:=KK (k:=64) hx
 rw[ahf x hx,zc,zk (by omega) (by omega)]
 congr 1;omega
end bn

namespace bn
open Go.IntKind renaming wrap->zW,i64->zI,u8->zU
open Go Go.Ref
abbrev vC:=Int×Int×Unit
abbrev c9:Nat:=18446744073709551616
def cc(h l:Nat)(n:Int):Bool:=
 if 1<=n/\n<=64 then h.testBit (64-n).toNat else if 65<=n/\n<=128 then l.testBit (128-n).toNat else false
def iE(n:Int):Nat:=if 1<=n/\n<=64 then 2^(64-n).toNat else 0
def iF(n:Int):Nat:=if 65<=n/\n<=128 then 2^(128-n).toNat else 0
theorem zqk{k:Nat}(h:k<64):2^k<c9:=Nat.pow_lt_pow_right (by decide) h
theorem Vp(n:Int):iE n<c9:=by
 unfold iE;split
 ·exact zqk (by omega)
 ·decide
theorem Vq(n:Int):iF n<c9:=by
 unfold iF;split
 ·exact zqk (by omega)
 ·decide
theorem NZ{k:Nat}(h:k<64):IntKind.u64.wrap ((1:Int)*2^min k 64)=((2^k:Nat):Int):=by
 rw[Nat.min_eq_left (by omega),Int.one_mul]
 have:=zqk h
 have e:((2:Int)^k)=((2^k:Nat):Int):=by simp
 rw[e]
 exact Gr this
theorem Oo(n:Int):Fi n=some ((iE n:Int),(iF n:Int),()):=by
 unfold Fi WM iE iF
 by_cases h1:n<1
 ·rw[zT h1,if_neg (by omega),if_neg (by omega)];rfl
 rw[zF h1,zD]
 by_cases h2:128<n
 ·rw[zT h2,if_neg (by omega),if_neg (by omega)];rfl
 rw[zF h2,zD]
 by_cases h3:n<=64
 ·rw[zT h3,zC,zk (by omega) (by omega),zF (by omega),zD,NZ (by omega),if_pos (by omega),if_neg (by omega)];rfl
 ·rw[zF h3,zD,zk (by omega) (by omega),zF (by omega),zD,NZ (by omega),if_neg (by omega),if_pos (by omega)];rfl
theorem z96(h k:Nat):(h&&&2^k=0)↔h.testBit k=false:=by
 constructor
 ·intro e
  have:=congrArg (fun x=>x.testBit k) e
  simpa [Nat.testBit_and,Nat.testBit_two_pow] using this
 ·intro e
  apply Nat.eq_of_testBit_eq
  intro i
  rw[Nat.testBit_and,Nat.testBit_two_pow]
  by_cases hi:k=i
  ·subst hi;simp [e]
  ·simp [hi]
theorem amD(h l:Nat)(hh:h<c9)(hl:l<c9)(n:Int):Hf ((h:Int),(l:Int),()) n=some (cc h l n):=by
 unfold Hf WJ rL Ql
 rw[Oo,zc,mP hh (Vp n),mP hl (Vq n),zc]
 congr 1
 simp only[Bool.and_true]
 have e:∀a:Nat,decide ((a:Int)=0)=decide (a=0):=fun a=>decide_eq_decide.2 (by omega)
 rw[e,e]
 unfold iE iF cc
 by_cases h1:1<=n/\n<=64
 ·rw[if_pos h1,if_pos h1,if_neg (by omega)]
  have:=z96 h (64-n).toNat
  cases hb:h.testBit (64-n).toNat with
  |false=>simp [this.2 hb]
  |true=>simp;intro hz;exact absurd (this.1 hz) (by simp [hb])
 ·rw[if_neg h1,if_neg h1]
  by_cases h2:65<=n/\n<=128
  ·rw[if_pos h2,if_pos h2]
   have:=z96 l (128-n).toNat
   cases hb:l.testBit (128-n).toNat with
   |false=>simp [this.2 hb]
   |true=>simp;intro hz;exact absurd (this.1 hz) (by simp [hb])
  ·rw[if_neg h2,if_neg h2];simp
theorem zdw(h l h' l':Nat)(hh:h<c9)(hl:l<c9)(BW:h'<c9)(kC:l'<c9):tf ((h:Int),(l:Int),()) ((h':Int),(l':Int),())=some (((h|||h':Nat):Int),((l|||l':Nat):Int),()):=by
 unfold tf WI
 rw[xt hh BW,xt hl kC]
theorem MZ(h l h' l':Nat)(hh:h<c9)(hl:l<c9)(BW:h'<c9)(kC:l'<c9):rL ((h:Int),(l:Int),()) ((h':Int),(l':Int),())=some (((h&&&h':Nat):Int),((l&&&l':Nat):Int),()):=by
 unfold rL Ql
 rw[mP hh BW,mP hl kC]
theorem Nt(h l:Nat)(hh:h<c9)(hl:l<c9)(n:Int):yj ((h:Int),(l:Int),()) n=some (((h|||iE n:Nat):Int),((l|||iF n:Nat):Int),()):=by
 unfold yj WL
 rw[Oo,zc,zdw h l _ _ hh hl (Vp n) (Vq n)];rfl
theorem ur{a b:Nat}(ha:a<c9)(hb:b<c9):a|||b<c9:=Nat.or_lt_two_pow (n:=64) ha hb
theorem Ok{a b:Nat}(ha:a<c9):a&&&b<c9:=Nat.lt_of_le_of_lt Nat.and_le_left ha
theorem an6(h l h' l':Nat)(n:Int):cc (h|||h') (l|||l') n=(cc h l n||cc h' l' n):=by
 unfold cc;split
 ·rw[Nat.testBit_or]
 ·split
  ·rw[Nat.testBit_or]
  ·rfl
theorem NE(h l h' l':Nat)(n:Int):cc (h&&&h') (l&&&l') n=(cc h l n&&cc h' l' n):=by
 unfold cc;split
 ·rw[Nat.testBit_and]
 ·split
  ·rw[Nat.testBit_and]
  ·rfl
def jA(n:Int):Bool:=decide (1<=n/\n<=128)
theorem amg(m n:Int):cc (iE m) (iF m) n=(decide (m=n)&&jA n):=by
 unfold cc iE iF jA
 by_cases h1:1<=n/\n<=64
 ·rw[if_pos h1]
  by_cases h2:1<=m/\m<=64
  ·rw[if_pos h2,Nat.testBit_two_pow,zT (p:=1<=n/\n<=128) (by omega),Bool.and_true]
   exact decide_eq_decide.2 (by omega)
  ·rw[if_neg h2,zF (by omega:¬m=n)];simp
 ·rw[if_neg h1]
  by_cases h3:65<=n/\n<=128
  ·rw[if_pos h3]
   by_cases h2:65<=m/\m<=128
   ·rw[if_pos h2,Nat.testBit_two_pow,zT (p:=1<=n/\n<=128) (by omega),Bool.and_true]
    exact decide_eq_decide.2 (by omega)
   ·rw[if_neg h2,zF (by omega:¬m=n)];simp
  ·rw[if_neg h3,zF (p:=1<=n/\n<=128) (by omega),Bool.and_false]
theorem ajA(h l:Nat)(m n:Int):cc (h|||iE m) (l|||iF m) n=(cc h l n||(decide (m=n)&&jA n)):=by rw[an6,amg]
theorem zi1{h l:Nat}{n:Int}(hh:cc h l n=true):1<=n/\n<=128:=by
 unfold cc at hh
 split at hh
 ·omega
 ·split at hh
  ·omega
  ·cases hh
theorem amw{h l h' l':Nat}(hh:h<c9)(hl:l<c9)(BW:h'<c9)(kC:l'<c9)(e:∀n:Int,1<=n->n<=128->cc h l n=cc h' l' n):h=h'/\l=l':=by
 constructor
 ·apply Nat.eq_of_testBit_eq
  intro i
  by_cases hi:i<64
  ·have:=e (64-i) (by omega) (by omega)
   unfold cc at this
   rw[if_pos (by omega),if_pos (by omega)] at this
   have e2:(64-(64-(i:Int))).toNat=i:=by omega
   rwa [e2] at this
  ·rw[Nat.testBit_lt_two_pow (Nat.lt_of_lt_of_le hh (Nat.pow_le_pow_right (n:=2) (by decide) (by omega:64<=i))),Nat.testBit_lt_two_pow (Nat.lt_of_lt_of_le BW (Nat.pow_le_pow_right (n:=2) (by decide) (by omega:64<=i)))]
 ·apply Nat.eq_of_testBit_eq
  intro i
  by_cases hi:i<64
  ·have:=e (128-i) (by omega) (by omega)
   unfold cc at this
   have h1:¬(1<=128-(i:Int)/\128-(i:Int)<=64):=by omega
   have h2:65<=128-(i:Int)/\128-(i:Int)<=128:=by omega
   rw[if_neg h1,if_pos h2,if_neg h1,if_pos h2] at this
   have e2:(128-(128-(i:Int))).toNat=i:=by omega
   rwa [e2] at this
  ·rw[Nat.testBit_lt_two_pow (Nat.lt_of_lt_of_le hl (Nat.pow_le_pow_right (n:=2) (by decide) (by omega:64<=i))),Nat.testBit_lt_two_pow (Nat.lt_of_lt_of_le kC (Nat.pow_le_pow_right (n:=2) (by decide) (by omega:64<=i)))]
def dE(l:List Int):Nat:=l.foldl (fun a n=>a|||iE n) 0
def dF(l:List Int):Nat:=l.foldl (fun a n=>a|||iF n) 0
theorem zux(f:Int->Nat)(hf:∀n,f n<c9)(l:List Int):∀a,a<c9->l.foldl (fun a n=>a|||f n) a<c9:=by
 induction l with
 |nil=>intro a h;exact h
 |cons x r ih=>intro a h;exact ih _ (ur h (hf x))
theorem uV(l:List Int):dE l<c9:=zux _ Vp l 0 (by decide)
theorem uW(l:List Int):dF l<c9:=zux _ Vq l 0 (by decide)
theorem ajv(l:List Int):∀(a b:Nat) (n:Int),cc (l.foldl (fun a n=>a|||iE n) a) (l.foldl (fun a n=>a|||iF n) b) n=(cc a b n||(decide (n∈l)&&jA n)):=by
 induction l with
 |nil=>intro a b n;simp
 |cons x r ih=>
  intro a b n
  rw[List.foldl_cons,List.foldl_cons,ih,ajA]
  by_cases h1:x=n
  ·subst h1;cases jA x<;>simp
  ·have:n≠x:=fun e=>h1 e.symm
   simp [h1,this]
theorem Vy(l:List Int)(n:Int):cc (dE l) (dF l) n=(decide (n∈l)&&jA n):=by
 unfold dE dF
 rw[ajv]
 have:cc 0 0 n=false:=by unfold cc;simp
 rw[this];simp
theorem amn(xs:List Int)(hx:xs.length<=9223372036854775807)(b0:vC):∀(n j k:Nat) (a b:Nat),j+n=xs.length->n<k->a<c9->b<c9->
 A9 k xs (xs.length:Int) j b0 ((a:Int),(b:Int),())=some (b0,((((xs.drop j).foldl (fun a n=>a|||iE n) a:Nat):Int),(((xs.drop j).foldl (fun a n=>a|||iF n) b:Nat):Int),())):=by
 intro n
 induction n with
 |zero=>
  intro j k a b hj hk ha hb
  obtain⟨k,rfl⟩:∃k',k=k'+1:=⟨k-1,by omega⟩
  rw[A9,Qk,zF (by omega),List.drop_eq_nil_of_le (by omega)];rfl
 |succ n ih=>
  intro j k a b hj hk ha hb
  obtain⟨k,rfl⟩:∃k',k=k'+1:=⟨k-1,by omega⟩
  have aq:j<xs.length:=by omega
  have JU:xs.getD ((j:Int)).toNat 0=xs[j]:=by rw[Int.toNat_natCast,List.getD_eq_getElem?_getD,List.getElem?_eq_getElem aq];rfl
  rw[A9,Qk,zT (by omega),zC,zi aq,JU,Nt a b ha hb,zc,zr (by omega),ih (j+1) k _ _ (by omega) (by omega) (ur ha (Vp _)) (ur hb (Vq _)),List.drop_eq_getElem_cons aq]
  rfl
theorem ye(xs:List Int)(hx:xs.length<=maxLen):uY xs=some ((dE xs:Int),(dF xs:Int),()):=by
 rw[zh] at hx
 unfold uY WG
 have:=amn xs hx (0,0,()) xs.length 0 ag 0 0 (by omega) (by rw[zq];omega) (by decide) (by decide)
 simp only[WH]
 have e:A9 ag xs (xs.length:Int) 0 (0,0,()) (0,0,())=_:=this
 rw[e];rfl
def oo:List Int:=(List.range 128).map fun k:Nat=>((k+1:Nat):Int)
theorem ajP(n:Int):n∈oo↔1<=n/\n<=128:=by
 unfold oo
 constructor
 ·intro h
  obtain⟨k,hk,rfl⟩:=List.mem_map.1 h
  have:=List.mem_range.1 hk
  omega
 ·intro h
  exact List.mem_map.2 ⟨(n-1).toNat,List.mem_range.2 (by omega),by omega⟩
theorem acj:oo.Pairwise (· < ·):=by
 unfold oo
 exact List.Pairwise.map _ (fun a b h=>by omega) List.pairwise_lt_range
def elems(h l:Nat):List Int:=oo.filter (cc h l)
theorem O3(h l:Nat)(n:Int):n∈elems h l↔cc h l n=true:=by
 unfold elems
 rw[List.mem_filter,ajP]
 exact⟨fun h=>h.2,fun h=>⟨zi1 h,h⟩⟩
theorem zhs(h l:Nat):(elems h l).Pairwise (· < ·):=acj.filter _
def iu(h l:Nat)(n:Int):Int:=((elems h l).filter fun m=>decide (n<m)).headD 0
def VE(h l:Nat)(n r:Int):Prop:=(r=0/\∀m,n<m->cc h l m=false)\/(n<r/\cc h l r=true/\∀m,n<m->m<r->cc h l m=false)
theorem ajS(h l:Nat)(n:Int):VE h l n (iu h l n):=by
 unfold iu
 cases hf:(elems h l).filter fun m=>decide (n<m) with
 |nil=>
  left
  refine⟨rfl,fun m hm=> ?_⟩
  cases hb:cc h l m with
  |false=>rfl
  |true=>
   have:m∈(elems h l).filter fun m=>decide (n<m):=List.mem_filter.2 ⟨(O3 h l m).2 hb,by simpa using hm⟩
   rw[hf] at this;cases this
 |cons x r=>
  right
  have hx:x∈(elems h l).filter fun m=>decide (n<m):=by rw[hf];simp
  obtain⟨h1,h2⟩:=List.mem_filter.1 hx
  refine⟨by simpa using h2,(O3 h l x).1 h1,fun m hm hmx=> ?_⟩
  cases hb:cc h l m with
  |false=>rfl
  |true=>
   have cE:m∈(elems h l).filter fun m=>decide (n<m):=List.mem_filter.2 ⟨(O3 h l m).2 hb,by simpa using hm⟩
   have hs:=(zhs h l).filter (fun m=>decide (n<m))
   rw[hf] at cE hs
   rcases List.mem_cons.1 cE with e|e
   ·simp only[List.headD_cons] at hmx;omega
   ·have:=(List.pairwise_cons.1 hs).1 m e
    simp only[List.headD_cons] at hmx;omega
theorem abj{h l:Nat}{n r q:Int}(h1:VE h l n r)(h2:VE h l n q):r=q:=by
 rcases h1 with⟨e,a⟩|⟨e,a,b⟩<;>rcases h2 with⟨e',a'⟩|⟨e',a',b'⟩
 ·rw[e,e']
 ·rw[a q e'] at a';cases a'
 ·rw[a' r e] at a;cases a
 ·rcases Int.lt_trichotomy r q with h|h|h
  ·rw[b' r e h] at a;cases a
  ·exact h
  ·rw[b q e' h] at a';cases a'
theorem LX(x n:Nat)(hx:x<c9)(hn:n<=64):
 (x*2^n % c9=0/\∀i,i<64-n->x.testBit i=false)\/
 (x*2^n % c9≠0/\zz (x*2^n % c9)<=64/\n<zz (x*2^n % c9)/\x.testBit (zz (x*2^n % c9)-1-n)=true/\∀i,zz (x*2^n % c9)-1-n<i->i<64-n->x.testBit i=false):=by
 have hb:∀i,(x*2^n % c9).testBit i=(decide (i<64)&&(decide (n<=i)&&x.testBit (i-n))):=by
  intro i
  rw[show c9=2^64 from rfl,Nat.testBit_mod_two_pow,Nat.testBit_mul_two_pow]
 generalize x*2^n % c9=r at hb
 have hr:∀i,i<64-n->x.testBit i=r.testBit (i+n):=by
  intro i hi
  rw[hb,zT (by omega),zT (by omega),Nat.add_sub_cancel];rfl
 by_cases h0:r=0
 ·left
  refine⟨h0,fun i hi=> ?_⟩
  rw[hr i hi,h0];simp
 ·right
  obtain⟨g1,g2⟩:=RO r
  obtain⟨g3,g4⟩:=g2 h0
  have Zf:r.testBit (zz r-1)=true:=by
   rw[Nat.testBit_eq_decide_div_mod_eq]
   have hp:=Nat.two_pow_pos (zz r-1)
   have:r/2^(zz r-1)=1:=by
    apply Nat.div_eq_of_lt_le
    ·omega
    ·have:2^zz r=2*2^(zz r-1):=by
      rw[<-Nat.pow_succ'];congr 1;omega
     omega
   rw[this];rfl
  have aq:=Zf
  rw[hb] at aq
  simp only[Bool.and_eq_true,decide_eq_true_eq] at aq
  refine⟨h0,by omega,by omega,?_,fun i h1 h2=> ?_⟩
  ·exact aq.2.2
  ·rw[hr i h2]
   exact Nat.testBit_lt_two_pow (Nat.lt_of_lt_of_le g1 (Nat.pow_le_pow_right (by decide) (by omega)))
theorem NY(x n:Nat)(hn:n<=64):IntKind.u64.wrap ((x:Int)*2^min ((n:Int)).toNat 64)=((x*2^n % c9:Nat):Int):=by
 rw[N2,Int.toNat_natCast,Nat.min_eq_left hn]
 have e:((x:Int)*2^n)=((x*2^n:Nat):Int):=by simp
 rw[e];rfl
theorem M0(h l:Nat)(hh:h<c9)(hl:l<c9)(n:Int)(hn1: -9223372036854775808<=n)(hn2:n<=9223372036854775807):Fh ((h:Int),(l:Int),()) n=some (iu h l n):=by
 have goal:∀r,VE h l n r->some r=some (iu h l n):=fun r hr=>by rw[abj hr (ajS h l n)]
 unfold Fh WK
 obtain⟨m,hm,hmn⟩:∃m:Nat,(if n<(0:Int) then(0:Int) else n)=(m:Int)/\(n<=(m:Int)/\(0<=n->n=m)/\(n<0->m=0)):=by
  by_cases h0:n<0
  ·exact⟨0,by rw[if_pos h0];rfl,by omega,by omega,by omega⟩
  ·exact⟨n.toNat,by rw[if_neg h0];omega,by omega,by omega,by omega⟩
 have lV:∀k:Int,k<=0->cc h l k=false:=fun k hk=>by unfold cc;rw[if_neg (by omega),if_neg (by omega)]
 have low:∀(kr base:Nat),kr<=64->(kr<64->base=64+kr)->(kr=64->128<=base)->(m:Int)<=base->base<=9223372036854775807->(∀k,n<k->k<=base->k<=128->cc h l k=false)->
  (bif !(decide (IntKind.u64.wrap ((l:Int)*2^min ((kr:Int)).toNat 64)=0)) then(mE (IntKind.u64.wrap ((l:Int)*2^min ((kr:Int)).toNat 64))).bind (fun r=>some (zW zI (zW zI ((base:Int)+r)+1))) else some 0)=some (iu h l n):=by
  intro kr base h1 h2 h2' h3 aok h4
  rw[NY l kr h1]
  have aq:l*2^kr % c9<c9:=Nat.mod_lt _ (by decide)
  rcases LX l kr hl h1 with⟨e,w⟩|⟨e,w1,w2,w3,w4⟩
  ·rw[e,zT (by rfl)]
   refine goal 0 (.inl ⟨rfl,fun k hk=> ?_⟩)
   by_cases B3:k<=base/\k<=128
   ·exact h4 k hk B3.1 B3.2
   ·unfold cc
    by_cases FB:65<=k/\k<=128
    ·rw[if_neg (by omega),if_pos FB]
     exact w _ (by omega)
    ·by_cases hk4:1<=k/\k<=64
     ·omega
     ·rw[if_neg hk4,if_neg FB]
  ·have Zb:kr<64:=by omega
   have aof:=h2 Zb
   rw[zF (by omega)]
   simp only[Bool.not_false,zC]
   rw[z9t _ aq,zc,zk (x:=(base:Int)+_) (by omega) (by omega),zk (by omega) (by omega)]
   refine goal _ (.inr ⟨by omega,?_,fun k Ri B3=> ?_⟩)
   ·unfold cc
    rw[if_neg (by omega),if_pos (by omega)]
    have:(128-((base:Int)+((64-zz (l*2^kr % c9):Nat):Int)+1)).toNat=zz (l*2^kr % c9)-1-kr:=by omega
    rw[this];exact w3
   ·by_cases FB:k<=base
    ·exact h4 k Ri FB (by omega)
    ·unfold cc
     rw[if_neg (by omega),if_pos (by omega)]
     exact w4 _ (by omega) (by omega)
 simp only[hm]
 by_cases c1:m<64
 ·rw[zT (by omega),zC,zF (by omega),zD,NY h m (by omega)]
  have aq:h*2^m % c9<c9:=Nat.mod_lt _ (by decide)
  rcases LX h m hh (by omega) with⟨e,w⟩|⟨e,w1,w2,w3,w4⟩
  ·rw[e,zT (by rfl)]
   have:=low 0 64 (by omega) (by omega) (by omega) (by omega) (by omega) (fun k Ri B3 _=>by
    by_cases FB:1<=k
    ·unfold cc
     rw[if_pos (by omega)]
     exact w _ (by omega)
    ·exact lV k (by omega))
   exact this
  ·rw[zF (by omega)]
   simp only[Bool.not_false,zC]
   rw[z9t _ aq,zc,zk (x:=(m:Int)+_) (by omega) (by omega),zk (by omega) (by omega)]
   refine goal _ (.inr ⟨by omega,?_,fun k Ri B3=> ?_⟩)
   ·unfold cc
    rw[if_pos (by omega)]
    have:(64-((m:Int)+((64-zz (h*2^m % c9):Nat):Int)+1)).toNat=zz (h*2^m % c9)-1-m:=by omega
    rw[this];exact w3
   ·by_cases FB:1<=k
    ·unfold cc
     rw[if_pos (by omega)]
     exact w4 _ (by omega) (by omega)
    ·exact lV k (by omega)
 ·rw[zF (by omega),zD,zk (x:=(m:Int)-64) (by omega) (by omega)]
  have aop:((m:Int)-64)=((m-64:Nat):Int):=by omega
  obtain⟨kr,hs,Cb⟩:∃kr:Nat,(if(64:Int)<(m:Int)-64 then(64:Int) else(m:Int)-64)=(kr:Int)/\kr<=64/\(kr<64->m=64+kr)/\(kr=64->128<=m):=by
   by_cases h0:(64:Int)<(m:Int)-64
   ·exact⟨64,by rw[if_pos h0];rfl,by omega,by omega,by omega⟩
   ·exact⟨m-64,by rw[if_neg h0];omega,by omega,by omega,by omega⟩
  simp only[hs]
  rw[zF (by omega),zD]
  exact low kr m Cb.1 Cb.2.1 Cb.2.2 (by omega) (by omega) (fun k Ri B3 _=>by omega)
theorem LC(n a:Nat)(h:a<2^n):(BitVec.ofInt n (a:Int)).toNat=a:=by
 rw[BitVec.toNat_ofInt]
 have h2:((a:Int)% ((2^n:Nat):Int))=((a % 2^n:Nat):Int):=by rfl
 rw[h2,Int.toNat_natCast,Nat.mod_eq_of_lt h]
theorem abI{k:IntKind}{a b:Nat}(ha:a<2^k.bits)(hb:b<2^k.bits):aP .or k a b=k.wrap ((a|||b:Nat):Int):=by
 simp only[aP,BitVec.toNat_or,LC _ _ ha,LC _ _ hb]
def rU(b:List Int):Int:=if b.length<2 then 0 else b.getD 0 0*256+b.getD 1 0
theorem zqj{x y:Int}(hx:zo x)(hy:zo y):aP .or .i64 (zW zI (zW zI x*2^min (8:Int).toNat 64)) (zW zI y)=x*256+y:=by
 unfold zo at hx hy
 obtain⟨x,rfl⟩:=Int.eq_ofNat_of_zero_le hx.1
 obtain⟨y,rfl⟩:=Int.eq_ofNat_of_zero_le hy.1
 rw[xX (by omega),xX (by omega)]
 have h1:((x:Int)*(2:Int)^min (8:Int).toNat 64)=((x<<<8:Nat):Int):=by
  rw[Nat.shiftLeft_eq];rfl
 have h3:x<<<8=x*256:=by rw[Nat.shiftLeft_eq]
 rw[h1,xX (by omega),abI (by simp only[IntKind.bits];omega) (by simp only[IntKind.bits];omega),<-Nat.shiftLeft_add_eq_or_of_lt (by omega:y<2^8),h3,xX (by omega)]
 omega
theorem O2{b:List Int}(hb:∀x∈b,zo x)(i:Nat):zo (b.getD i 0):=by
 rw[List.getD_eq_getElem?_getD]
 cases h:b[i]? with
 |none=>exact⟨by simp,by simp⟩
 |some x=>exact hb x (List.mem_of_getElem? h)
theorem agM{b:List Int}(hb:∀x∈b,zo x):0<=rU b/\rU b<=65535:=by
 unfold rU
 have h0:=O2 hb 0
 have h1:=O2 hb 1
 unfold zo at h0 h1
 split<;>omega
abbrev Fr:=Int×Bool×List Int×Unit
theorem amx(m:Int)(d:Bool)(b:List Int)(hb:∀x∈b,zo x):Hm (m,d,b,())=some (rU b,(m,d,b,())):=by
 unfold Hm WS rU
 simp only
 by_cases h:b.length<2
 ·rw[zT (by omega:((b.length:Int)<2)),if_pos h];rfl
 ·rw[zF (by omega:¬((b.length:Int)<2)),if_neg h,zD,zm (by omega) (by omega),zm (by omega) (by omega)]
  exact congrArg some (Prod.ext (zqj (O2 hb 0) (O2 hb 1)) rfl)
def aW(m:Int)(st:Bool×List Int×List ByteArray)(c:Int):Bool×List Int×List ByteArray:=
 if st.1=true then st
 else if(st.2.1++ [c]).length=2/\(rU (st.2.1++ [c])=0\/m<rU (st.2.1++ [c])) then(true,[],st.2.2)
 else if((st.2.1++ [c]).length:Int)=2+rU (st.2.1++ [c])/\0<rU (st.2.1++ [c]) then(false,[],st.2.2++ [strOf ((st.2.1++ [c]).drop 2)])
 else(false,st.2.1++ [c],st.2.2)
theorem O1(m:Int)(l:List Int)(b:List Int)(o:List ByteArray):l.foldl (aW m) (true,b,o)=(true,b,o):=by
 induction l with
 |nil=>rfl
 |cons c r ih=>rw[List.foldl_cons];have:aW m (true,b,o) c=(true,b,o):=by simp [aW]
               rw[this,ih]
def P4(m:Int)(d:Bool)(r:Bool×List Int×List ByteArray):Sum (List ByteArray×Bool×List ByteArray×Fr) (List ByteArray×Fr):=
 if r.1=true/\d=false then .inl (r.2.2,true,r.2.2,(m,true,[],())) else .inr (r.2.2,(m,r.1,r.2.1,()))
theorem acZ(m:Int)(l:List Int):∀(d:Bool) (b:List Int) (o:List ByteArray),d=false->(l.foldl (aW m) (d,b,o)).1=true->(l.foldl (aW m) (d,b,o)).2.1=[]:=by
 induction l with
 |nil=>intro d b o hd h;subst hd;cases h
 |cons c r ih=>
  intro d b o hd h
  subst hd
  rw[List.foldl_cons] at h⊢
  generalize bS:aW m (false,b,o) c=st at h⊢
  obtain⟨d',b',o'⟩:=st
  cases d' with
  |false=>exact ih false b' o' rfl h
  |true=>
   rw[O1]
   unfold aW at bS
   simp only[Bool.false_eq_true,if_false] at bS
   split at bS
   ·cases bS;rfl
   ·split at bS<;>cases bS
theorem K8(s:ByteArray)(m:Int):∀(n j k:Nat) (o:List ByteArray) (d:Bool) (b:List Int),j+n=(bl s).length->n<k->(∀x∈b,zo x)->b.length+n<=4398046511104->o.length+n<=4398046511104->(bl s).length<=4398046511104->
 E5 k s o j (m,d,b,())=some (P4 m d (((bl s).drop j).foldl (aW m) (d,b,o)))
 |0,j,k,o,d,b,hj,hk,hb,h1,h2,h3=>by
  obtain⟨k,rfl⟩:∃k',k=k'+1:=⟨k-1,by omega⟩
  rw[E5,Qm]
  have aq:¬((j:Int)<(s.size:Int)):=by rw[<-zg];omega
  rw[zF aq,List.drop_eq_nil_of_le (by omega)]
  cases d<;>rfl
 |n+1,j,k,o,d,b,hj,hk,hb,h1,h2,h3=>by
  obtain⟨k,rfl⟩:∃k',k=k'+1:=⟨k-1,by omega⟩
  rw[E5,Qm]
  have aq:j<(bl s).length:=by omega
  have fW:((j:Int)<(s.size:Int)):=by rw[<-zg];omega
  rw[zT fW,zC,List.drop_eq_getElem_cons aq,List.foldl_cons]
  cases d with
  |true=>
   have hs:aW m (true,b,o) (bl s)[j]=(true,b,o):=by simp [aW]
   rw[hs,O1]
   simp [P4]
  |false=>
   have hc:ze s ((j:Int)).toNat=(bl s)[j]:=by
    rw[mo,Int.toNat_natCast,List.getD_eq_getElem?_getD,List.getElem?_eq_getElem aq];rfl
   have hbc:zo (bl s)[j]:=mh (List.getElem_mem aq)
   generalize hcv:(bl s)[j]=c at hc hbc
   rw[hc]
   have tH:∀x∈b++ [c],zo x:=fun x hx=>by
    rcases List.mem_append.1 hx with h|h
    ·exact hb x h
    ·simp at h;subst h;exact hbc
   have dx:=amx m false (b++ [c]) tH
   have hr:=agM tH
   have hw:zW zI ((2:Int)+rU (b++ [c]))=2+rU (b++ [c]):=zk (by omega) (by omega)
   have hjw:zW zI ((j:Int)+1)=((j+1:Nat):Int):=zr (by omega)
   have hl:(b++ [c]).length=b.length+1:=by simp
   rw[zi (by rw[<-zg];exact aq)]
   simp only[Bool.not_false,zC]
   rw[zT (by simp;omega),zC,dx]
   simp only[zc,hw,hjw]
   generalize hn:rU (b++ [c])=z at hr hw
   have ih:=fun o d b=>K8 s m n (j+1) k o d b (by omega) (by omega)
   have Rf:aW m (false,b,o) c=if(b++ [c]).length=2/\(z=0\/m<z) then(true,[],o) else if((b++ [c]).length:Int)=2+z/\0<z then(false,[],o++ [strOf ((b++ [c]).drop 2)]) else(false,b++ [c],o):=by
    unfold aW;simp only[Bool.false_eq_true,if_false,hn]
   have dead:∀(l:List Int),P4 m false (l.foldl (aW m) (true,[],o))= .inl (o,true,o,(m,true,[],())):=fun l=>by rw[O1];simp [P4]
   have BZ:=ih o false (b++ [c]) tH (by rw[hl];omega) (by omega) h3
   have YK:=ih (o++ [strOf ((b++ [c]).drop 2)]) false [] (by simp) (by simp;omega) (by simp;omega) h3
   have Jk:List.drop ((2:Int)).toNat (List.take (b++ [c]).length (b++ [c]))=(b++ [c]).drop 2:=by rw[List.take_length];rfl
   simp only[Jk]
   have YT:∀(x:Option (Sum (List ByteArray×Bool×List ByteArray×Fr) (List ByteArray×Fr))),(bif decide (((o.length+ [strOf ((b++ [c]).drop 2)].length)*16:Nat)<=140737488355328) then x else none)=x:=fun x=>by
    rw[zT (by simp;omega)];rfl
   by_cases c1:(b++ [c]).length=2
   ·by_cases c2:z=0
    ·rw[Rf,if_pos ⟨c1,.inl c2⟩,dead]
     simp [c1,c2]
    ·by_cases c3:m<z
     ·rw[Rf,if_pos ⟨c1,.inr c3⟩,dead]
      simp [c1,c2,c3]
     ·rw[Rf,if_neg (by simp [c2,c3])]
      have c4:¬(((b++ [c]).length:Int)=2+z):=by omega
      rw[if_neg (fun h=>c4 h.1),<-BZ]
      have Yf:(((b++ [c]).length:Int)=2):=by omega
      rw[zT Yf,zF c2,zF c3,zF c4]
      rfl
   ·have Yf:¬(((b++ [c]).length:Int)=2):=by omega
    rw[Rf,if_neg (fun h=>c1 h.1),zF Yf]
    by_cases c4:((b++ [c]).length:Int)=2+z
    ·by_cases c5:0<z
     ·rw[if_pos ⟨c4,c5⟩,<-YK,zT c4,zT c5,zT (by omega:(2:Int)<=(((b++ [c]).length:Nat):Int))]
      simp only[zC,zD]
      rw[YT]
     ·rw[if_neg (fun h=>c5 h.2),<-BZ,zT c4,zF c5]
      rfl
    ·rw[if_neg (fun h=>c4 h.1),<-BZ,zF c4]
     rfl
def feed(f:Fr)(s:List Int):List ByteArray×Bool×Fr:=
 ((s.foldl (aW f.1) (f.2.1,f.2.2.1,[])).2.2,decide ((s.foldl (aW f.1) (f.2.1,f.2.2.1,[])).1=true/\f.2.1=false),(f.1,(s.foldl (aW f.1) (f.2.1,f.2.2.1,[])).1,(s.foldl (aW f.1) (f.2.1,f.2.2.1,[])).2.1,()))
theorem amb(f:Fr)(s:ByteArray)(hb:∀x∈f.2.2.1,zo x)(h1:f.2.2.1.length+s.size<=4398046511104):Bm f s=some (feed f (bl s)):=by
 obtain⟨m,d,b,u⟩:=f
 cases u
 unfold Bm WO
 simp only at hb h1⊢
 have:=K8 s m (bl s).length 0 ag [] d b (by omega) (by rw[zq,zg];omega) hb (by rw[zg];omega) (by simp;rw[zg];omega) (by rw[zg];omega)
 rw[show((0:Nat):Int)=0 from rfl] at this
 rw[this,zc,List.drop_zero]
 unfold P4 feed
 simp only
 split
 ·rename_i h
  obtain⟨h4,h5⟩:=h
  subst h5
  have h3:=acZ m (bl s) false b [] rfl h4
  simp [Sum.elim_inl,WQ,h3,h4]
 ·rename_i h
  simp only[Sum.elim_inr,WR]
  rw[zF h]
section
variable {α:Type} [DecidableEq α]
theorem zvo(d:α)(eq:α->α->Bool)(heq:∀x y,eq x y=true↔x=y)(a b:List α)(hl:a.length=b.length)(h:a.length<=9223372036854775807)(L:Nat->Int->Option (Sum Bool Unit))
 (step:∀k (i:Int),L (k+1) i=bif decide (i<(a.length:Int)) then zd i a.length (zd i b.length (bif !(eq (a.getD i.toNat d) (b.getD i.toNat d)) then some (.inl false) else L k (zW zI (i+1)))) else some (.inr ())):
 ∀(m j k:Nat),j+m=a.length->m<k->L k j=some (if a.drop j=b.drop j then .inr () else .inl false)
 |0,j,k,hj,hk=>by
  obtain⟨k,rfl⟩:∃k',k=k'+1:=⟨k-1,by omega⟩
  rw[step,zF (by omega),List.drop_eq_nil_of_le (by omega),List.drop_eq_nil_of_le (by omega)]
  simp
 |m+1,j,k,hj,hk=>by
  obtain⟨k,rfl⟩:∃k',k=k'+1:=⟨k-1,by omega⟩
  have ha:j<a.length:=by omega
  have hb:j<b.length:=by omega
  rw[step,zT (by omega),zC,zi ha,zi hb,zr (by omega),zvo d eq heq a b hl h L step m (j+1) k (by omega) (by omega),List.drop_eq_getElem_cons ha,List.drop_eq_getElem_cons hb,Int.toNat_natCast]
  have h1:a.getD j d=a[j]:=by rw[List.getD_eq_getElem?_getD,List.getElem?_eq_getElem ha];rfl
  have h2:b.getD j d=b[j]:=by rw[List.getD_eq_getElem?_getD,List.getElem?_eq_getElem hb];rfl
  rw[h1,h2]
  by_cases e:a[j]=b[j]
  ·rw[(heq _ _).2 e,e]
   simp only[List.cons.injEq,true_and,Bool.not_true,zD]
  ·have:eq a[j] b[j]=false:=by
    cases hh:eq a[j] b[j] with
    |false=>rfl
    |true=>exact absurd ((heq _ _).1 hh) e
   rw[this]
   simp only[List.cons.injEq,e,false_and,if_false,Bool.not_false,zC]
theorem agD(d:α)(eq:α->α->Bool)(heq:∀x y,eq x y=true↔x=y)(a b:List α)(hl:a.length=b.length)(h:a.length<=maxLen)(L:Nat->Int->Option (Sum Bool Unit))
 (step:∀k (i:Int),L (k+1) i=bif decide (i<(a.length:Int)) then zd i a.length (zd i b.length (bif !(eq (a.getD i.toNat d) (b.getD i.toNat d)) then some (.inl false) else L k (zW zI (i+1)))) else some (.inr ())):
 L ag 0=some (if a=b then .inr () else .inl false):=by
 have:=zvo d eq heq a b hl (by rw[zh] at h;exact h) L step a.length 0 ag (by omega) (by rw[zq];rw[zh] at h;omega)
 simpa using this
end
end bn

namespace bn
open Go.IntKind renaming wrap->zW,i64->zI,u8->zU
open Go Go.Ref
theorem ajy{l:List Int}{j:Nat}(h:j<l.length):l.getD ((j:Int)).toNat 0=l[j]:=by
 rw[Int.toNat_natCast,List.getD_eq_getElem?_getD,List.getElem?_eq_getElem h];rfl
theorem af4(l:List Int)(n:Int)(hl:l.length<=maxLen):∀(m j k:Nat),j+m=l.length->m<k->
 E8 k l n j=some (if n∈l.drop j then .inl true else .inr ()):=by
 intro m
 rw[zh] at hl
 induction m with
 |zero=>
  intro j k hj hk
  obtain⟨k,rfl⟩:∃k',k=k'+1:=⟨k-1,by omega⟩
  rw[E8,Qt,zF (by omega),List.drop_eq_nil_of_le (by omega)];simp
 |succ m ih=>
  intro j k hj hk
  obtain⟨k,rfl⟩:∃k',k=k'+1:=⟨k-1,by omega⟩
  have aq:j<l.length:=by omega
  rw[E8,Qt,zT (by omega),zC,zi aq,ajy aq,zr (by omega),List.drop_eq_getElem_cons aq]
  by_cases h:l[j]=n
  ·rw[zT h,if_pos (by rw[h];simp)];rfl
  ·rw[zF h,zD,ih (j+1) k (by omega) (by omega)]
   have:n≠l[j]:=fun e=>h e.symm
   simp only[List.mem_cons,this,false_or]
theorem akq(l:List Int)(n:Int)(hl:l.length<=maxLen):HG l n=some (decide (n∈l)):=by
 unfold HG Xt
 dsimp only
 have:=af4 l n hl l.length 0 ag (by omega) (by rw[zq];rw[zh] at hl;omega)
 rw[show((0:Nat):Int)=0 from rfl,List.drop_zero] at this
 rw[this,zc]
 by_cases h:n∈l
 ·rw[if_pos h,zT h];rfl
 ·rw[if_neg h,zF h];rfl
theorem ajX:oo.length=128:=by unfold oo;simp
abbrev Spec:=Int×Int×Int×Int×Int×Unit
abbrev zf:=Int×Int×List Spec×Unit
abbrev cZ:Spec:=(0,0,0,0,0,())
theorem Vz(c:Int):yf c=some (if c=1 then 1 else if c=2 then 2 else if c=3 then 3 else if c=4 then 7 else if c=5 then 15 else if c=6 then 15 else 0):=by
 unfold yf We
 simp only[alW]
 repeat' split
 all_goals rfl
theorem zon(c:Int):Bk c=some (decide (1<=c/\c<=6)):=by
 unfold Bk V5
 rw[Vz,zc]
 congr 1
 by_cases h1:c=1
 ·subst h1;rfl
 by_cases h2:c=2
 ·subst h2;rfl
 by_cases h3:c=3
 ·subst h3;rfl
 by_cases h4:c=4
 ·subst h4;rfl
 by_cases h5:c=5
 ·subst h5;rfl
 by_cases h6:c=6
 ·subst h6;rfl
 rw[if_neg h1,if_neg h2,if_neg h3,if_neg h4,if_neg h5,if_neg h6,zF (p:=1<=c/\c<=6) (by omega)]
 rfl
theorem GM:qC 2=some 99:=by kernel_rfl
theorem GN:qC 3=some 999:=by kernel_rfl
def bL(s:Spec):Int:=
 if s.1<2\/128<s.1 then 1 else if s.2.1<1\/6<s.2.1 then 6 else if s.2.2.1<1\/3<s.2.2.1 then 3
 else if s.2.2.2.1<1\/s.2.2.2.2.1<s.2.2.2.1\/(s.2.2.1=2/\99<s.2.2.2.2.1)\/999<s.2.2.2.2.1\/(s.2.2.1=1/\¬s.2.2.2.1=s.2.2.2.2.1) then 5
 else if s.2.2.1=1/\s.2.1=6 then 13 else 0
theorem OL(s:Spec):lF s=some (bL s):=by
 obtain⟨no,c,f,mn,mx,u⟩:=s
 unfold lF UH bL
 simp only[zon,zc]
 by_cases h1:no<2\/128<no
 ·rw[if_pos h1]
  rcases h1 with h|h
  ·rw[zT h];rfl
  ·rw[zT h];cases decide (no<2)<;>rfl
 rw[if_neg h1,zF (by omega),zF (by omega)]
 by_cases h2:c<1\/6<c
 ·rw[if_pos h2,zF (p:=1<=c/\c<=6) (by omega)];rfl
 rw[if_neg h2,zT (p:=1<=c/\c<=6) (by omega)]
 simp only[zD,Bool.not_true]
 by_cases h3:f<1\/3<f
 ·rw[if_pos h3]
  rcases h3 with h|h
  ·rw[zT h];rfl
  ·rw[zT h];cases decide (f<1)<;>rfl
 rw[if_neg h3,zF (by omega),zF (by omega)]
 simp only[zD]
 by_cases h4:mn<1\/mx<mn\/999<mx
 ·rw[if_pos (by omega)]
  by_cases a:mn<1
  ·rw[zT a];rfl
  rw[zF a]
  by_cases b:mx<mn
  ·rw[zT b];rfl
  rw[zF b,zT (by omega)];rfl
 rw[zF (by omega),zF (by omega),zF (by omega)]
 simp only[zD]
 by_cases f1:f=1
 ·rw[zT f1]
  simp only[zC,Bool.not_true,zD]
  by_cases e:mn=mx
  ·rw[zT e,if_neg (by omega)]
   by_cases e6:c=6
   ·rw[zT e6,if_pos (by omega)];rfl
   ·rw[zF e6,if_neg (by omega)];rfl
  ·rw[zF e,if_pos (by omega)];rfl
 ·rw[zF f1]
  simp only[zD,Bool.not_false,zC]
  by_cases f2:f=2
  ·subst f2
   rw[GM,zc]
   by_cases h:99<mx
   ·rw[zT h,if_pos (by omega)];rfl
   ·rw[zF h,if_neg (by omega),if_neg (by omega)];rfl
  ·have f3:f=3:=by omega
   subst f3
   rw[GN,zc,zF (by omega),if_neg (by omega),if_neg (by omega)];rfl
theorem vi(s:Spec):yu s=some (bL s):=by
 obtain⟨no,c,f,mn,mx,u⟩:=s
 unfold yu Xx bL
 simp only
 by_cases h1:no<2\/128<no
 ·rw[if_pos h1]
  rcases h1 with h|h
  ·rw[zT h];rfl
  ·rw[zT h];cases decide (no<2)<;>rfl
 rw[if_neg h1,zF (by omega),zF (by omega)]
 by_cases h2:c<1\/6<c
 ·rw[if_pos h2]
  rcases h2 with h|h
  ·rw[zT h];rfl
  ·rw[zT h];cases decide (c<1)<;>rfl
 rw[if_neg h2,zF (by omega),zF (by omega)]
 by_cases h3:f<1\/3<f
 ·rw[if_pos h3]
  rcases h3 with h|h
  ·rw[zT h];rfl
  ·rw[zT h];cases decide (f<1)<;>rfl
 rw[if_neg h3,zF (by omega),zF (by omega)]
 simp only[zD]
 by_cases f1:f=1
 ·rw[zT f1,zF (by omega:¬f=2)]
  simp only[zC,zD]
  by_cases a:mn<1
  ·rw[zT a,if_pos (by omega)];rfl
  rw[zF a]
  by_cases b:mx<mn
  ·rw[zT b,if_pos (by omega)];rfl
  rw[zF b]
  by_cases d:999<mx
  ·rw[zT d,if_pos (by omega)];rfl
  rw[zF d]
  by_cases e:mn=mx
  ·rw[zT e,if_neg (by omega)]
   by_cases e6:c=6
   ·rw[zT e6,if_pos (by omega)];rfl
   ·rw[zF e6,if_neg (by omega)];rfl
  ·rw[zF e,if_pos (by omega)];rfl
 ·rw[zF f1]
  simp only[zD]
  by_cases f2:f=2
  ·rw[zT f2]
   simp only[zC]
   by_cases a:mn<1
   ·rw[zT a,if_pos (by omega)];rfl
   rw[zF a]
   by_cases b:mx<mn
   ·rw[zT b,if_pos (by omega)];rfl
   rw[zF b]
   by_cases d:99<mx
   ·rw[zT d,if_pos (by omega)];rfl
   rw[zF d,if_neg (by omega),if_neg (by omega)];rfl
  ·rw[zF f2]
   simp only[zD]
   by_cases a:mn<1
   ·rw[zT a,if_pos (by omega)];rfl
   rw[zF a]
   by_cases b:mx<mn
   ·rw[zT b,if_pos (by omega)];rfl
   rw[zF b]
   by_cases d:999<mx
   ·rw[zT d,if_pos (by omega)];rfl
   rw[zF d,if_neg (by omega),if_neg (by omega)];rfl
def gY:List Spec->Int->Int->Int×Int
 | [],_,_=>(0,0)
 |x::r,i,last=>if bL x≠0 then(bL x,i) else if x.1<=last then(11,i) else gY r (i+1) x.1
def gX(s:zf):Int×Int:=
 if¬(s.1=1\/s.1=2) then(1,-1) else if s.2.1<0\/9<s.2.1 then(7,-1) else gY s.2.2.1 0 0
theorem Sz{x:Spec}(h:bL x=0):2<=x.1/\x.1<=128:=by
 unfold bL at h
 split at h
 ·cases h
 ·omega
def Ym(e:Sum (Int×Int) Unit):Option (Int×Int):=Sum.elim (fun we=>some (we.1,we.2)) (fun _=>some (0,0)) e
theorem K7(l:List Spec):∀(i:Int) (last:Int),Ym (if(gY l i last).1=0 then .inr () else .inl (gY l i last))=some (gY l i last):=by
 intro i last
 by_cases h:(gY l i last).1=0
 ·rw[if_pos h]
  have:gY l i last=(0,0):=by
   induction l generalizing i last with
   |nil=>rfl
   |cons x r ih=>
    unfold gY at h⊢
    split
    ·rename_i h1;rw[if_pos h1] at h;exact absurd h h1
    ·rename_i h1
     rw[if_neg h1] at h
     split
     ·rename_i h2;rw[if_pos h2] at h;cases h
     ·rename_i h2;rw[if_neg h2] at h;exact ih _ _ h
  rw[this];rfl
 ·rw[if_neg h];rfl
theorem abw(s:zf)(hl:s.2.2.1.length<=maxLen):xY ag 0 0 s=some (if(gY s.2.2.1 0 0).1=0 then .inr () else .inl (gY s.2.2.1 0 0)):=by
 have h:=ng cZ s.2.2.1 hl (fun i x (last:Int) K=>if bL x≠0 then some (.inl (bL x,i)) else if x.1<=last then some (.inl (11,i)) else K x.1) (fun _=>some (.inr ())) (fun k i last=>xY k last i s)
  (fun k i last h0 h1=>by
    rw[xY,Qz,zT h1]
    simp only[zC,zm h0 h1,vi,zc]
    by_cases hc:bL (s.2.2.1.getD i.toNat cZ)=0
    ·rw[zT hc,if_neg (fun h=>h hc)]
     simp only[Bool.not_true,zD]
     by_cases hn:(s.2.2.1.getD i.toNat cZ).1<=last
     ·rw[zT hn,if_pos hn];rfl
     ·rw[zF hn,if_neg hn];rfl
    ·rw[zF hc,if_pos hc];rfl)
  (fun k last=>by rw[xY,Qz,zF (by omega)];rfl) 0
 rw[h]
 clear h hl
 generalize s.2.2.1=l
 suffices∀(i last:Int),bj (fun i (x:Spec) (last:Int) K=>if bL x≠0 then some (Sum.inl (bL x,i)) else if x.1<=last then some (.inl (11,i)) else K x.1) (fun _=>some (.inr ())) l i last=some (if(gY l i last).1=0 then(.inr ():Sum (Int×Int) Unit) else .inl (gY l i last)) from this 0 0
 induction l with
 |nil=>intro i last;rfl
 |cons x r ih=>
  intro i last
  rw[bj,gY]
  by_cases hc:bL x≠0
  ·rw[if_pos hc,if_pos hc,if_neg hc]
  ·rw[if_neg hc,if_neg hc]
   by_cases hn:x.1<=last
   ·rw[if_pos hn,if_pos hn];rfl
   ·rw[if_neg hn,if_neg hn];exact ih _ _
theorem acq(s:zf)(hl:s.2.2.1.length<=maxLen):HQ s=some (gX s):=by
 unfold HQ GD gX
 have hx:=K7 s.2.2.1 0 0
 have tR:(xY ag 0 0 s).bind (fun e=>Sum.elim (fun(we:Int×Int)=>Xz we.1 we.2 fun a0 a1=>some (a0,a1)) (fun(we:Unit)=>XA fun a0 a1=>some (a0,a1)) e)=some (gY s.2.2.1 0 0):=by
  rw[abw s hl,zc];exact hx
 dsimp only
 rw[tR]
 by_cases h1:s.1=1
 ·rw[zT h1,if_neg (by omega)]
  by_cases h2:s.2.1<0
  ·rw[zT h2,if_pos (.inl h2)];rfl
  ·rw[zF h2]
   by_cases h3:9<s.2.1
   ·rw[zT h3,if_pos (.inr h3)];rfl
   ·rw[zF h3,if_neg (by omega)];rfl
 ·rw[zF h1]
  by_cases h0:s.1=2
  ·rw[zT h0,if_neg (by omega)]
   by_cases h2:s.2.1<0
   ·rw[zT h2,if_pos (.inl h2)];rfl
   ·rw[zF h2]
    by_cases h3:9<s.2.1
    ·rw[zT h3,if_pos (.inr h3)];rfl
    ·rw[zF h3,if_neg (by omega)];rfl
  ·rw[zF h0,if_pos (by omega)];rfl
theorem af1{l:List Spec}{j:Nat}(h:j<l.length):l.getD ((j:Int)).toNat ((0:Int),(0:Int),(0:Int),(0:Int),(0:Int),())=l[j]:=by
 rw[Int.toNat_natCast,List.getD_eq_getElem?_getD,List.getElem?_eq_getElem h];rfl
theorem gL(s:zf)(hl:s.2.2.1.length<=9223372036854775807):∀(m j k:Nat) (last:Int),j+m=s.2.2.1.length->m<k->(j=0->last=0)->(∀h:0<j,last=(s.2.2.1.getD (j-1) cZ).1)->
 A4 k s.2.2.1 (s.2.2.1.length:Int) j s=some (if(gY (s.2.2.1.drop j) j last).1=0 then .inr () else .inl (gY (s.2.2.1.drop j) j last)):=by
 intro m
 induction m with
 |zero=>
  intro j k last hj hk h0 h1
  obtain⟨k,rfl⟩:∃k',k=k'+1:=⟨k-1,by omega⟩
  rw[A4,PQ,zF (by omega),List.drop_eq_nil_of_le (by omega)];rfl
 |succ m ih=>
  intro j k last hj hk h0 h1
  obtain⟨k,rfl⟩:∃k',k=k'+1:=⟨k-1,by omega⟩
  have aq:j<s.2.2.1.length:=by omega
  have Zr:=ih (j+1) k (s.2.2.1[j]).1 (by omega) (by omega) (by omega) (fun _=>by
   rw[Nat.add_sub_cancel,List.getD_eq_getElem?_getD,List.getElem?_eq_getElem aq];rfl)
  rw[A4,PQ,zT (by omega),zC,zi aq,af1 aq,OL,zc,zr (by omega),List.drop_eq_getElem_cons aq]
  rw[show((j+1:Nat):Int)=(j:Int)+1 from rfl] at Zr⊢
  by_cases hc:bL s.2.2.1[j]=0
  ·rw[zT hc]
   simp only[Bool.not_true,zD]
   have nD:=Sz hc
   by_cases hz:j=0
   ·have m3:=h0 hz
    have e:gY (s.2.2.1[j]::s.2.2.1.drop (j+1)) j last=gY (s.2.2.1.drop (j+1)) ((j:Int)+1) (s.2.2.1[j]).1:=by
     rw[gY,if_neg (fun h=>h hc),if_neg (by omega)]
    rw[zF (by omega),zD,e]
    exact Zr
   ·have m3:=h1 (by omega)
    have hi:zW zI ((j:Int)-1)=((j-1:Nat):Int):=by rw[zk (by omega) (by omega)];omega
    rw[zT (by omega),zC,hi,zi (by omega),Int.toNat_natCast]
    by_cases hn:(s.2.2.1[j]).1<=last
    ·have e:gY (s.2.2.1[j]::s.2.2.1.drop (j+1)) j last=(11,(j:Int)):=by
      rw[gY,if_neg (fun h=>h hc),if_pos hn]
     rw[e,zT (by rw[<-m3];exact hn)];rfl
    ·have e:gY (s.2.2.1[j]::s.2.2.1.drop (j+1)) j last=gY (s.2.2.1.drop (j+1)) ((j:Int)+1) (s.2.2.1[j]).1:=by
      rw[gY,if_neg (fun h=>h hc),if_neg hn]
     rw[e,zF (by rw[<-m3];exact hn)]
     exact Zr
  ·have e:gY (s.2.2.1[j]::s.2.2.1.drop (j+1)) j last=(bL s.2.2.1[j],(j:Int)):=by
    rw[gY,if_pos hc]
   rw[zF hc,e,if_neg hc];rfl
theorem O5(s:zf)(hl:s.2.2.1.length<=maxLen):mG s=some (gX s):=by
 rw[zh] at hl
 unfold mG Ge gX
 have hx:=K7 s.2.2.1 0 0
 have Ju:=gL s hl s.2.2.1.length 0 ag 0 (by omega) (by rw[zq];omega) (fun _=>rfl) (fun h=>absurd h (by omega))
 rw[List.drop_zero,show((0:Nat):Int)=0 from rfl] at Ju
 have tR:(A4 ag s.2.2.1 (s.2.2.1.length:Int) 0 s).bind (fun e=>Sum.elim (fun(we:Int×Int)=>Uv we.1 we.2 fun a0 a1=>some (a0,a1)) (fun(we:Unit)=>Uw fun a0 a1=>some (a0,a1)) e)=some (gY s.2.2.1 0 0):=by
  rw[Ju,zc];exact hx
 dsimp only
 rw[tR]
 by_cases h1:s.1=1
 ·rw[zT h1,if_neg (by omega)]
  by_cases h2:s.2.1<0
  ·rw[zT h2,if_pos (.inl h2)];rfl
  ·rw[zF h2]
   by_cases h3:9<s.2.1
   ·rw[zT h3,if_pos (.inr h3)];rfl
   ·rw[zF h3,if_neg (by omega)];rfl
 ·rw[zF h1]
  by_cases h0:s.1=2
  ·rw[zT h0,if_neg (by omega)]
   by_cases h2:s.2.1<0
   ·rw[zT h2,if_pos (.inl h2)];rfl
   ·rw[zF h2]
    by_cases h3:9<s.2.1
    ·rw[zT h3,if_pos (.inr h3)];rfl
    ·rw[zF h3,if_neg (by omega)];rfl
  ·rw[zF h0,if_pos (by omega)];rfl
def fU(l:List Spec)(no:Int):Option Spec:=l.find? fun x=>decide (x.1=no)
def eY:List Spec->Int->Int->Int
 | [],_,_=> -1
 |x::r,no,i=>if x.1=no then i else eY r no (i+1)
theorem ako(s:zf)(no:Int)(hl:s.2.2.1.length<=maxLen):fK s no=some (match fU s.2.2.1 no with|some x=>(x,true)|none=>(cZ,false)):=by
 unfold fK Uy fU
 dsimp only
 have h:=cu cZ s.2.2.1 hl (fun i x (_:Unit) K=>bif decide (x.1=no) then some (Sum.inl (true,x)) else K ()) (fun _=>some (.inr cZ)) (fun k i _=>PR k no s.2.2.1 (s.2.2.1.length:Int) i cZ) (fun k i _=>rfl) ()
 rw[h,]
 clear h hl
 generalize(0:Int)=i
 generalize s.2.2.1=l
 induction l generalizing i with
 |nil=>rfl
 |cons x r ih=>
  rw[bj,List.find?_cons]
  cases hx:decide (x.1=no) with
  |true=>rfl
  |false=>exact ih (i+1)
theorem ac3(l:List Spec)(no:Int):∀i:Int,0<=i->(eY l no i= -1/\fU l no=none)\/(i<=eY l no i/\eY l no i<i+l.length/\∃x,fU l no=some x/\l.getD (eY l no i-i).toNat cZ=x):=by
 induction l with
 |nil=>intro i hi;left;exact⟨rfl,rfl⟩
 |cons x r ih=>
  intro i hi
  unfold eY fU
  by_cases h:x.1=no
  ·right
   rw[if_pos h,List.find?_cons,zT h]
   refine⟨by omega,by simp;omega,x,rfl,by simp⟩
  ·rw[if_neg h,List.find?_cons,zF h]
   rcases ih (i+1) (by omega) with⟨h1,h2⟩|⟨h1,h2,y,h3,h4⟩
   ·left;exact⟨h1,h2⟩
   ·right
    refine⟨by omega,by simp;omega,y,h3,?_⟩
    have:(eY r no (i+1)-i).toNat=(eY r no (i+1)-(i+1)).toNat+1:=by omega
    rw[this]
    simpa using h4
theorem R4(s:zf)(no:Int)(hl:s.2.2.1.length<=maxLen):yx s no=some (eY s.2.2.1 no 0):=by
 unfold yx XD
 dsimp only
 have h:=cu cZ s.2.2.1 hl (fun i x (_:Unit) K=>bif decide (x.1=no) then some (Sum.inl i) else K ()) (fun _=>some (.inr ())) (fun k i _=>QA k no i s) (fun k i _=>rfl) ()
 rw[h]
 clear h hl
 generalize(0:Int)=i
 generalize s.2.2.1=l
 induction l generalizing i with
 |nil=>rfl
 |cons x r ih=>
  rw[bj,eY]
  by_cases hx:x.1=no
  ·rw[zT hx,if_pos hx];rfl
  ·rw[zF hx,if_neg hx];exact ih (i+1)
theorem Li(n:Int):cc 0 0 n=false:=by unfold cc;simp
theorem adk{a b:zf}:a=b↔a.1=b.1/\a.2.1=b.2.1/\a.2.2.1=b.2.2.1:=by
 obtain⟨x,y,z,u⟩:=a
 obtain⟨x',y',z',u'⟩:=b
 simp
instance:DecidableEq zf:=fun a b=>decidable_of_iff _ adk.symm
theorem adA(s:zf)(h:s.2.2.1.length<=1000000):HR s=some s:=by
 unfold HR XB
 rw[zT (by simp;omega)];rfl
def F6(l:List Spec)(last:Int):Prop:=(∀x∈l,bL x=0)/\(l.Pairwise fun x y=>x.1<y.1)/\∀x∈l,last<x.1
theorem agH(l:List Spec):∀(i last:Int),(gY l i last).1=0↔F6 l last:=by
 induction l with
 |nil=>intro i last;simp [gY,F6]
 |cons x r ih=>
  intro i last
  unfold gY
  by_cases hc:bL x=0
  ·rw[if_neg (fun h=>h hc)]
   by_cases hn:x.1<=last
   ·rw[if_pos hn]
    constructor
    ·intro h;cases h
    ·intro⟨_,_,h3⟩;have:=h3 x (by simp);omega
   ·rw[if_neg hn,ih]
    constructor
    ·intro⟨h1,h2,h3⟩
     refine⟨fun y hy=> ?_,List.pairwise_cons.2 ⟨h3,h2⟩,fun y hy=> ?_⟩
     ·rcases List.mem_cons.1 hy with rfl|hy
      ·exact hc
      ·exact h1 y hy
     ·rcases List.mem_cons.1 hy with rfl|hy
      ·omega
      ·have:=h3 y hy;omega
    ·intro⟨h1,h2,h3⟩
     obtain⟨h4,h5⟩:=List.pairwise_cons.1 h2
     exact⟨fun y hy=>h1 y (by simp [hy]),h5,h4⟩
  ·rw[if_pos hc]
   constructor
   ·intro h;exact absurd h hc
   ·intro⟨h1,_,_⟩;exact absurd (h1 x (by simp)) hc
def iD(s:zf):Prop:=(s.1=1\/s.1=2)/\0<=s.2.1/\s.2.1<=9/\F6 s.2.2.1 0
theorem AV(s:zf):(gX s).1=0↔iD s:=by
 unfold gX iD
 by_cases h1:s.1=1\/s.1=2
 ·rw[if_neg (fun h=>h h1)]
  by_cases h2:s.2.1<0\/9<s.2.1
  ·rw[if_pos h2]
   constructor
   ·intro h;cases h
   ·intro⟨_,a,b,_⟩;omega
  ·rw[if_neg h2,agH]
   constructor
   ·intro h;exact⟨h1,by omega,by omega,h⟩
   ·intro⟨_,_,_,h⟩;exact h
 ·rw[if_pos h1]
  constructor
  ·intro h;cases h
  ·intro⟨a,_⟩;exact absurd a h1
theorem F6.filter{l:List Spec}{last:Int}(h:F6 l last)(p:Spec->Bool):F6 (l.filter p) last:=
 ⟨fun x hx=>h.1 x (List.mem_filter.1 hx).1,h.2.1.filter p,fun x hx=>h.2.2 x (List.mem_filter.1 hx).1⟩
theorem zd3(s:zf)(hl:s.2.2.1.length<=maxLen):Bq s=some (decide ((gX s).1=0)):=by
 unfold Bq XE
 rw[acq s hl,zc]
abbrev bA:=ByteArray×ByteArray×Unit
def jc:bA:=(bs [],bs [],())
instance Zy (a:ByteArray) (l:List ByteArray):Decidable (a∈l):=decidable_of_iff (l.any (fun x=>decide (a=x))=true) (by
 rw[List.any_eq_true]
 exact⟨fun⟨x,hx,h⟩=>of_decide_eq_true h▸hx,fun h=>⟨a,h,zT rfl⟩⟩)
def BH(r:Int):Sum Int Unit:=if r= -1 then .inr () else .inl r
theorem CQ(j:Nat):BH (j:Int)= .inl (j:Int):=if_neg (by omega)
def dK{K:Type}(l:List K):List (K×Bool):=l.map fun k=>(k,true)
theorem Sf{K:Type}[DecidableEq K](eq:K->K->Bool)(heq:∀x y,eq x y=decide (x=y))(k:K):∀l:List K,eZ eq false (dK l) k=true↔k∈l
 | []=>by simp [dK,eZ]
 |x::l=>by
  simp only[dK,List.map_cons,eZ,heq]
  by_cases h:k=x
  ·rw[zT h,zC];exact⟨fun _=>by rw[h];exact List.mem_cons_self,fun _=>rfl⟩
  ·rw[zF h,zD]
   have:=Sf eq heq k l
   simp only[dK] at this
   rw[this]
   exact⟨fun h'=>List.mem_cons_of_mem _ h',fun h'=>(List.mem_cons.1 h').resolve_left h⟩
theorem Sg{K:Type}[DecidableEq K](eq:K->K->Bool)(heq:∀x y,eq x y=decide (x=y))(k:K):∀l:List K,fa eq (dK l) k=true↔k∈l
 | []=>by simp [dK,fa]
 |x::l=>by
  simp only[dK,List.map_cons,fa,heq]
  by_cases h:k=x
  ·rw[zT h,zC];exact⟨fun _=>by rw[h];exact List.mem_cons_self,fun _=>rfl⟩
  ·rw[zF h,zD]
   have:=Sg eq heq k l
   simp only[dK] at this
   rw[this]
   exact⟨fun h'=>List.mem_cons_of_mem _ h',fun h'=>(List.mem_cons.1 h').resolve_left h⟩
theorem Em{b:Bool}{p:Prop}(h:b=true↔p)(hp:¬p):b=false:=by cases b with
 |false=>rfl
 |true=>exact absurd (h.1 rfl) hp
theorem z9n{K:Type}(l:List K)(k:K):dK l++ [(k,true)]=dK (l++ [k]):=by simp [dK]
def jo:List ByteArray->List bA->Int->Option Int
 |_,[],_=>none
 |seen,p::r,i=>if p.1∈seen then some i else jo (seen++ [p.1]) r (i+1)
def Bf(l:List bA):Int×Int:=if 256<l.length then(5,256) else match jo [] l 0 with
 |some i=>(10,i)
 |none=>(0,0)
def wV(o:Option Int):Option (Sum (Int×Int) Unit):=some (match o with
 |some i=> .inl (10,i)
 |none=> .inr ())
theorem aa4(l:List bA):∀(i:Int) (seen:List ByteArray),
 bj (fun i (x:bA) (s:List jy) K=>bif eZ (fT .str) false s x.1 then some (Sum.inl ((10:Int),i)) else bif fa (fT .str) s x.1 then none else K (s++ [(x.1,true)])) (fun _=>some (Sum.inr ())) l i (dK seen)=wV (jo seen l i):=by
 induction l with
 |nil=>intro i seen;rfl
 |cons p r ih=>
  intro i seen
  simp only[bj,jo]
  have e1:=Sf (fT .str) (fun _ _=>rfl) p.1 seen
  have e2:=Sg (fT .str) (fun _ _=>rfl) p.1 seen
  by_cases h:p.1∈seen
  ·rw[e1.2 h,if_pos h];rfl
  ·rw[Em e1 h,Em e2 h,if_neg h,zD,zD,z9n]
   exact ih (i+1) (seen++ [p.1])
theorem abb(l:List bA)(h:l.length<=maxLen):G7 l=some (Bf l):=by
 unfold G7 Wq Bf
 dsimp only
 by_cases hl:256<l.length
 ·rw[zT (by omega),zC,if_pos hl]
 ·rw[zF (by omega),zD,if_neg hl]
  have:=cu jc l h (fun i (x:bA) (s:List jy) K=>bif eZ (fT .str) false s x.1 then some (Sum.inl ((10:Int),i)) else bif fa (fT .str) s x.1 then none else K (s++ [(x.1,true)])) (fun _=>some (Sum.inr ()))
   (fun k i s=>Qi k l (l.length:Int) i s) (fun k i s=>rfl) []
  rw[this]
  have h2:=aa4 l 0 []
  rw[show dK ([]:List ByteArray)=[] from rfl] at h2
  rw[h2]
  unfold wV
  cases jo [] l 0<;>rfl
def gQ:List bA->ByteArray->Int->Int
 | [],_,_=> -1
 |p::r,f,i=>if p.1=f then i else gQ r f (i+1)
theorem znx(l:List bA)(hl:l.length<=9223372036854775807)(n:Nat)(hn:n<=l.length)(f:ByteArray):∀(m j k:Nat),j+m=n->m<k->Ey k l (n:Int) f (j:Int)=some (BH (gQ ((l.take n).drop j) f j))
 |m,j,0,_,hk=>by omega
 |0,j,k+1,hj,hk=>by
  have:j=n:=by omega
  subst this
  unfold Ey Ph
  rw[zF (by omega),List.drop_eq_nil_of_le (by rw[List.length_take];omega)]
  rfl
 |m+1,j,k+1,hj,hk=>by
  have aq:j<l.length:=by omega
  unfold Ey Ph
  rw[zT (by omega),zC,zi aq,Int.toNat_natCast]
  have hd:(l.take n).drop j=l[j]::(l.take n).drop (j+1):=by
   rw[List.drop_eq_getElem_cons (by simp;omega)]
   congr 1
   rw[List.getElem_take]
  have hg:∀d,l.getD j d=l[j]:=fun d=>by rw[List.getD_eq_getElem?_getD,List.getElem?_eq_getElem aq];rfl
  rw[hd]
  simp only[hg,gQ]
  by_cases h:l[j].1=f
  ·rw[zT h,if_pos h,CQ];rfl
  ·rw[zF h,if_neg h,zD,zr (by omega),znx l hl n hn f m (j+1) k (by omega) (by omega)]
   rfl
theorem La(l:List bA)(hl:l.length<=maxLen)(n:Nat)(hn:n<=l.length)(f:ByteArray):qy l (n:Int) f=some (gQ (l.take n) f 0):=by
 rw[zh] at hl
 unfold qy SJ
 dsimp only
 have:=znx l hl n hn f n 0 ag (by omega) (by rw[zq];omega)
 rw[show((0:Nat):Int)=(0:Int) from rfl,List.drop_zero] at this
 rw[this,Option.bind_some]
 unfold BH
 by_cases h:gQ (l.take n) f 0= -1
 ·rw[if_pos h,h];rfl
 ·rw[if_neg h];rfl
theorem Lm(f:ByteArray):∀(l:List bA) (i:Int),0<=i->(0<=gQ l f i↔f∈l.map fun p=>p.1)
 | [],i,_=>by simp [gQ]
 |p::r,i,hi=>by
  simp only[gQ,List.map_cons,List.mem_cons]
  by_cases h:p.1=f
  ·rw[if_pos h];exact⟨fun _=> .inl h.symm,fun _=>hi⟩
  ·rw[if_neg h,Lm f r (i+1) (by omega)]
   exact⟨.inr,fun h'=>h'.resolve_left (fun e=>h e.symm)⟩
theorem zhj(l:List bA)(hl:l.length<=256):∀(m j k:Nat),j+m=l.length->m<k->Ew k l (j:Int)=wV (jo ((l.take j).map fun p=>p.1) (l.drop j) j)
 |m,j,0,_,hk=>by omega
 |0,j,k+1,hj,hk=>by
  unfold Ew Pg
  rw[zF (by omega),List.drop_eq_nil_of_le (by omega)]
  rfl
 |m+1,j,k+1,hj,hk=>by
  have aq:j<l.length:=by omega
  unfold Ew Pg
  have hg:∀d,l.getD j d=l[j]:=fun d=>by rw[List.getD_eq_getElem?_getD,List.getElem?_eq_getElem aq];rfl
  rw[zT (by omega),zC,zi aq,Int.toNat_natCast,hg,La l (by rw[zh];omega) j (by omega),Option.bind_some,List.drop_eq_getElem_cons aq]
  simp only[jo]
  have hm:=Lm l[j].1 (l.take j) 0 (Int.le_refl _)
  by_cases h:l[j].1∈(l.take j).map fun p=>p.1
  ·rw[zT (hm.2 h),if_pos h];rfl
  ·rw[zF (fun h'=>h (hm.1 h')),if_neg h,zD,zr (by omega),zhj l hl m (j+1) k (by omega) (by omega)]
   congr 2
   rw[List.take_add_one,List.getElem?_eq_getElem aq,List.map_append]
   rfl
theorem acr(l:List bA)(h:l.length<=maxLen):sr l=some (Bf l):=by
 unfold sr SE Bf
 dsimp only
 by_cases hl:256<l.length
 ·rw[zT (by omega),zC,if_pos hl]
 ·rw[zF (by omega),zD,if_neg hl]
  have:=zhj l (by omega) l.length 0 ag (by omega) (by rw[zq];omega)
  rw[show((0:Nat):Int)=(0:Int) from rfl,List.take_zero,List.drop_zero] at this
  rw[this]
  unfold wV
  simp only[List.map_nil]
  cases jo [] l 0<;>rfl
def zw(l:List bA)(f:ByteArray):ByteArray×Bool:=match l.find? fun p=>decide (p.1=f) with
 |some p=>(p.2.1,true)
 |none=>(bs [],false)
theorem zcf(f:ByteArray)(l:List bA):∀(i:Int),bj (fun i (x:bA) (s:Unit) K=>bif decide (x.1=f) then some (Sum.inl (x.2.1,true)) else K s) (fun _=>some (Sum.inr ())) l i ()=some (match l.find? fun p=>decide (p.1=f) with
 |some p=> .inl (p.2.1,true)
 |none=> .inr ()):=by
 induction l with
 |nil=>intro i;rfl
 |cons p r ih=>
  intro i
  simp only[bj,List.find?_cons]
  by_cases h:p.1=f
  ·rw[zT h];rfl
  ·rw[zF h,zD];exact ih (i+1)
theorem aa9(l:List bA)(f:ByteArray)(h:l.length<=maxLen):G6 l f=some (zw l f):=by
 unfold G6 Wl zw
 dsimp only
 have:=cu jc l h (fun i (x:bA) (s:Unit) K=>bif decide (x.1=f) then some (Sum.inl (x.2.1,true)) else K s) (fun _=>some (Sum.inr ()))
  (fun k i s=>Qh k f l (l.length:Int) i) (fun k i s=>rfl) ()
 rw[this,zcf]
 cases l.find? fun p=>decide (p.1=f)<;>rfl
theorem Ll(f:ByteArray):∀(l:List bA) (i:Int),0<=i->(gQ l f i= -1/\l.find? (fun p=>decide (p.1=f))=none)\/(i<=gQ l f i/\gQ l f i<i+l.length/\∃p,l.find? (fun p=>decide (p.1=f))=some p/\∀d,l.getD (gQ l f i-i).toNat d=p)
 | [],i,_=> .inl ⟨rfl,rfl⟩
 |p::r,i,hi=>by
  simp only[gQ,List.find?_cons,List.length_cons]
  by_cases h:p.1=f
  ·rw[if_pos h,zT h]
   exact .inr ⟨Int.le_refl _,by omega,p,rfl,fun d=>by simp⟩
  ·rw[if_neg h,zF h]
   rcases Ll f r (i+1) (by omega) with⟨h1,h2⟩|⟨h1,h2,q,h3,h4⟩
   ·exact .inl ⟨h1,h2⟩
   ·refine .inr ⟨by omega,by omega,q,h3,fun d=> ?_⟩
    have:=h4 d
    rw[show(gQ r f (i+1)-i).toNat=(gQ r f (i+1)-(i+1)).toNat+1 by omega,List.getD_cons_succ]
    exact this
theorem acp(l:List bA)(f:ByteArray)(h:l.length<=maxLen):sn l f=some (zw l f):=by
 unfold sn SC zw
 dsimp only
 rw[La l h l.length (Nat.le_refl _),List.take_length,Option.bind_some]
 rcases Ll f l 0 (Int.le_refl _) with⟨h1,h2⟩|⟨h1,h2,p,h3,h4⟩
 ·rw[h1,h2];rfl
 ·rw[zF (by omega),zD,zm h1 (by omega),h3]
  have:=h4 ((bs []),(bs []),())
  rw[Int.sub_zero] at this
  rw[this]
def lz(l:List bA):List bA:=l.map fun p=>(p.2.1,p.1,())
theorem agS(l:List bA):(lz l).length=l.length:=by simp [lz]
theorem KA(l:List bA)(h:l.length<=1000000):qx l=some l:=by
 unfold qx SF
 rw[zT (by simp;omega),zC,List.nil_append]
def jB(c b:Int):Bool:=
 if c=1 then decide (48<=b/\b<=57)
 else if c=2 then decide (65<=b/\b<=90\/97<=b/\b<=122)
 else if c=3 then decide (48<=b/\b<=57\/65<=b/\b<=90\/97<=b/\b<=122)
 else if c=4 then decide (32<=b/\b<=126)
 else decide (c=5\/c=6)
def iy(c:Int):Int:=if c=1 then 1 else if c=2 then 2 else if c=3 then 3 else if c=4 then 7 else if c=5 then 15 else if c=6 then 15 else 0
theorem an7:∀c:Fin 7,∀b:Fin 256,ym (c.1:Int) (b.1:Int)=some (jB (c.1:Int) (b.1:Int)):=by decide+kernel
theorem OC:∀c:Fin 7,∀b:Fin 256,(Bl (b.1:Int)).map (fun r=>decide (aP .and .i64 (iy (c.1:Int)) r=0))=some (!jB (c.1:Int) (b.1:Int)):=by decide+kernel
theorem KO(c:Int):(∃k:Fin 7,c=(k.1:Int))\/(c≠1/\c≠2/\c≠3/\c≠4/\c≠5/\c≠6):=by
 by_cases h:0<=c/\c<=6
 ·exact .inl ⟨⟨c.toNat,by omega⟩,by simp;omega⟩
 ·exact .inr ⟨by omega,by omega,by omega,by omega,by omega,by omega⟩
theorem mr{b:Int}(h:zo b):∃k:Fin 256,b=(k.1:Int):=by
 unfold zo at h
 exact⟨⟨b.toNat,by omega⟩,by simp;omega⟩
theorem akr(c:Int){b:Int}(hb:zo b):ym c b=some (jB c b):=by
 obtain⟨b,rfl⟩:=mr hb
 rcases KO c with⟨k,rfl⟩|⟨h1,h2,h3,h4,h5,h6⟩
 ·exact an7 k b
 ·unfold ym Xn jB
  simp only[h1,h2,h3,h4,h5,h6,decide_false,zD,if_false,or_self,Bool.cond_self]
theorem agm(c:Int){b:Int}(hb:zo b):∃r,Bl b=some r/\decide (aP .and .i64 (iy c) r=0)= !jB c b:=by
 obtain⟨b,rfl⟩:=mr hb
 rcases KO c with⟨k,rfl⟩|⟨h1,h2,h3,h4,h5,h6⟩
 ·have:=OC k b
  cases hc:Bl (b.1:Int) with
  |none=>rw[hc] at this;cases this
  |some r=>rw[hc] at this;exact⟨r,rfl,by simpa using this⟩
 ·have:=OC 0 b
  cases hc:Bl (b.1:Int) with
  |none=>rw[hc] at this;cases this
  |some r=>
   rw[hc] at this
   refine⟨r,rfl,?_⟩
   have e1:iy c=iy ((0:Fin 7).1:Int):=by unfold iy;simp [h1,h2,h3,h4,h5,h6]
   have e2:jB c (b.1:Int)=jB ((0:Fin 7).1:Int) (b.1:Int):=by unfold jB;simp [h1,h2,h3,h4,h5,h6]
   rw[e1,e2]
   simpa using this
def qv(c:Int):List Int->Int->Int
 | [],_=> -1
 |b::r,i=>if jB c b=true then qv c r (i+1) else i
theorem zo0(c:Int):∀(l:List Int) (i:Int),0<=i->(0<=qv c l i↔¬l.all (jB c)=true)
 | [],i,_=>by simp [qv]
 |b::r,i,hi=>by
  simp only[qv,List.all_cons]
  cases h:jB c b with
  |true=>rw[if_pos rfl,zo0 c r (i+1) (by omega),Bool.true_and]
  |false=>simp [hi]
theorem zuw(c:Int)(s:ByteArray)(hs:s.size<=9223372036854775807):∀(n j k:Nat),j+n=s.size->n<k->E0 k s (iy c) (j:Int)=some (BH (qv c ((bl s).drop j) j))
 |n,j,0,_,hk=>by omega
 |0,j,k+1,hj,hk=>by
  unfold E0 Qg
  rw[zF (by omega),List.drop_eq_nil_of_le (by rw[zg];omega)];rfl
 |n+1,j,k+1,hj,hk=>by
  have aq:j<s.size:=by omega
  have hl:j<(bl s).length:=by rw[zg];exact aq
  have hb:zo ((bl s)[j]):=mh (List.getElem_mem hl)
  have hg:(bl s).getD j 0=(bl s)[j]:=by rw[List.getD_eq_getElem?_getD,List.getElem?_eq_getElem hl];rfl
  unfold E0 Qg
  rw[zT (by omega),zC,zi aq,Int.toNat_natCast,mo,hg,List.drop_eq_getElem_cons hl]
  obtain⟨r,h1,h2⟩:=agm c hb
  rw[h1,Option.bind_some,h2]
  simp only[qv]
  cases h:jB c (bl s)[j] with
  |true=>rw[if_pos rfl,Bool.not_true,zD,zr (by omega),zuw c s hs n (j+1) k (by omega) (by omega)];rfl
  |false=>rw[if_neg (by simp),Bool.not_false,zC,CQ]
theorem ahd(c:Int)(s:ByteArray)(h:s.size<=maxLen):GZ c s=some (qv c (bl s) 0):=by
 rw[zh] at h
 unfold GZ V1
 dsimp only
 rw[Vz,Option.bind_some]
 have:=zuw c s h s.size 0 ag (by omega) (by rw[zq];omega)
 rw[show((0:Nat):Int)=(0:Int) from rfl,List.drop_zero] at this
 rw[show(if c=1 then 1 else if c=2 then 2 else if c=3 then 3 else if c=4 then 7 else if c=5 then 15 else if c=6 then 15 else 0:Int)=iy c from rfl,this,Option.bind_some]
 unfold BH
 by_cases h:qv c (bl s) 0= -1
 ·rw[if_pos h,h];rfl
 ·rw[if_neg h];rfl
theorem zhz(c:Int)(s:ByteArray)(hs:s.size<=9223372036854775807):∀(n j k:Nat),j+n=s.size->n<k->z93 k c s (j:Int)=some (BH (qv c ((bl s).drop j) j))
 |n,j,0,_,hk=>by omega
 |0,j,k+1,hj,hk=>by
  unfold z93 Qs
  rw[zF (by omega),List.drop_eq_nil_of_le (by rw[zg];omega)];rfl
 |n+1,j,k+1,hj,hk=>by
  have aq:j<s.size:=by omega
  have hl:j<(bl s).length:=by rw[zg];exact aq
  have hb:zo ((bl s)[j]):=mh (List.getElem_mem hl)
  have hg:(bl s).getD j 0=(bl s)[j]:=by rw[List.getD_eq_getElem?_getD,List.getElem?_eq_getElem hl];rfl
  unfold z93 Qs
  rw[zT (by omega),zC,zi aq,Int.toNat_natCast,mo,hg,List.drop_eq_getElem_cons hl,akr c hb,Option.bind_some]
  simp only[qv]
  cases h:jB c (bl s)[j] with
  |true=>rw[if_pos rfl,Bool.not_true,zD,zr (by omega),zhz c s hs n (j+1) k (by omega) (by omega)];rfl
  |false=>rw[if_neg (by simp),Bool.not_false,zC,CQ]
theorem zcw(c:Int)(s:ByteArray)(h:s.size<=maxLen):HE c s=some (qv c (bl s) 0):=by
 rw[zh] at h
 unfold HE Xm
 dsimp only
 have:=zhz c s h s.size 0 ag (by omega) (by rw[zq];omega)
 rw[show((0:Nat):Int)=(0:Int) from rfl,List.drop_zero] at this
 rw[this,Option.bind_some]
 unfold BH
 by_cases h:qv c (bl s) 0= -1
 ·rw[if_pos h,h];rfl
 ·rw[if_neg h];rfl
def yc(a b:Int):Bool:=decide (1<=a/\a<=6/\1<=b/\b<=6)&&decide (aP .andNot .i64 (iy b) (iy a)=0)
theorem aiW(a b:Int):G1 a b=some (yc a b):=by
 unfold G1 V8 yc
 rw[zon,Option.bind_some]
 by_cases ha:1<=a/\a<=6
 ·rw[zT ha,zC,zon,Option.bind_some]
  by_cases hb:1<=b/\b<=6
  ·rw[zT hb,zC,Vz,Option.bind_some,Vz,Option.bind_some,zT (show 1<=a/\a<=6/\1<=b/\b<=6 from⟨ha.1,ha.2,hb.1,hb.2⟩),Bool.true_and]
   rfl
  ·rw[zF hb,zD,zF (fun h=>hb h.2.2)];rfl
 ·rw[zF ha,zD,zF (fun h=>ha ⟨h.1,h.2.1⟩)];rfl
theorem ag6:∀a b:Fin 7,Fo (a.1:Int) (b.1:Int)=some (yc (a.1:Int) (b.1:Int)):=by decide+kernel
theorem XO{c:Int}(h:1<=c/\c<=6):∃k:Fin 7,c=(k.1:Int):=⟨⟨c.toNat,by omega⟩,by simp;omega⟩
theorem zd4(a b:Int):Fo a b=some (yc a b):=by
 by_cases h:(1<=a/\a<=6)/\(1<=b/\b<=6)
 ·obtain⟨k,rfl⟩:=XO h.1
  obtain⟨m,rfl⟩:=XO h.2
  exact ag6 k m
 ·unfold Fo Xq yc
  rw[show decide (1<=a/\a<=6/\1<=b/\b<=6)=false from zF (fun h'=>h ⟨⟨h'.1,h'.2.1⟩,h'.2.2⟩),Bool.false_and]
  by_cases h1:a<1
  ·rw[zT h1];rfl
  ·by_cases h2:(6:Int)<a
   ·rw[zF h1,zT h2];rfl
   ·by_cases h3:b<1
    ·rw[zF h1,zF h2,zT h3];rfl
    ·have h4:(6:Int)<b:=by omega
     rw[zF h1,zF h2,zF h3,zT h4];rfl
theorem uM(s:ByteArray)(i:Nat):zo (ze s i):=by
 rw[mo]
 exact O2 (fun x hx=>mh hx) i
theorem Lc:∀b:Fin 256,nX (b.1:Int)=some (decide (yp (b.1:Int)≠some 0)):=by decide+kernel
theorem zdj:∀b:Fin 256,yp (b.1:Int)=some 0\/(yp (b.1:Int)=some 1/\decide (aP .and .i64 (b.1:Int) 31=31)=false)\/(yp (b.1:Int)=some 2/\decide (aP .and .i64 (b.1:Int) 31=31)=true):=by decide+kernel
theorem anW(x y:Nat)(hx:x<256)(hy:y<256):aP .and .i64 (((x:Int)*256)+(y:Int)) 255=(y:Int):=by
 have:((x:Int)*256+(y:Int))=((x*256+y:Nat):Int):=by omega
 rw[this,show(255:Int)=((255:Nat):Int) from rfl,alU (by omega) (by omega)]
 congr 1
 rw[show(255:Nat)=2^8-1 from rfl,Nat.and_two_pow_sub_one_eq_mod]
 omega
theorem aa1(x y:Nat)(hx:x<256)(hy:y<256):Int.fdiv ((x:Int)*256+(y:Int)) (2^min ((8:Int)).toNat 64)=(x:Int):=by
 have:((x:Int)*256+(y:Int))=((x*256+y:Nat):Int):=by omega
 rw[this,show(8:Int)=((8:Nat):Int) from rfl,Pa _ 8 (by omega)]
 congr 1
 omega
theorem agA(x:Fin 256)(hx:yp (x.1:Int)=some 2)(y:Fin 256):s9 ((x.1:Int)*256+(y.1:Int))=some (decide (1<=(y.1:Int)/\(y.1:Int)<=127)):=by
 have hx0:x.1≠0:=fun e=>by
  have:x=0:=Fin.ext e
  subst this
  revert hx
  decide+kernel
 have BJ:decide (aP .and .i64 (x.1:Int) 31=31)=true:=by
  rcases zdj x with h|⟨h,_⟩|⟨_,h⟩
  ·rw[h] at hx;cases hx
  ·rw[h] at hx;cases hx
  ·exact h
 have hf:nX (x.1:Int)=some true:=by rw[Lc x,hx];rfl
 unfold s9 UZ
 rw[aa1 x.1 y.1 x.2 y.2,anW x.1 y.1 x.2 y.2,zF (by have:=x.2;have:=y.2;omega),zD,zT (by have:=x.2;have:=y.2;omega),zC,hf,Option.bind_some,zC,BJ,zC]
 by_cases h1:(1:Int)<=(y.1:Int)
 ·rw[zT h1,zC]
  congr 1
  exact decide_eq_decide.2 ⟨fun h=>⟨h1,h⟩,fun h=>h.2⟩
 ·rw[zF h1,zD]
  congr 1
  exact(zF fun h=>h1 h.1).symm
theorem agN(s:ByteArray)(hs:s.size<=9223372036854775000)(a:Int):s8 s a=yq s a:=by
 unfold s8 UY yq Qu
 by_cases h1:a<0
 ·rw[zT h1];rfl
 rw[zF h1,zD,zD]
 by_cases h2:(s.size:Int)<a
 ·rw[zT h2];rfl
 rw[zF h2,zD,zD]
 by_cases h3:a=(s.size:Int)
 ·rw[zT h3];rfl
 have wa:∀{R:Type} (x:Option R),zd a s.size x=x:=fun x=>zm (by omega) (by omega)
 rw[zF h3,zD,zD]
 simp only[wa]
 obtain⟨x,hx⟩:=mr (uM s a.toNat)
 obtain⟨y,hy⟩:=mr (uM s (zW zI (a+1)).toNat)
 have Au:=x.2
 have Rs:=y.2
 have ob:=zqj (uM s a.toNat) (uM s (zW zI (a+1)).toNat)
 rw[hx,hy] at ob
 have w1:zW zI (a+1)=a+1:=zk (by omega) (by omega)
 have w2:zW zI (x.1:Int)=(x.1:Int):=zk (by omega) (by omega)
 have w3:zW zI (y.1:Int)=(y.1:Int):=zk (by omega) (by omega)
 have w4:zW zI ((s.size:Int)-a)=(s.size:Int)-a:=zk (by omega) (by omega)
 rw[hx,hy,w2,Lc x,Option.bind_some]
 rw[w2] at ob
 rcases zdj x with h|⟨h,BJ⟩|⟨h,BJ⟩
 ·rw[h];rfl
 ·rw[h,Option.bind_some,BJ];rfl
 ·rw[h,Option.bind_some,BJ,ob,agA x h y,Option.bind_some,w1,w4,w3]
  by_cases h4:a+1=(s.size:Int)
  ·rw[zT h4,zT (by omega:(s.size:Int)-a<2)];rfl
  ·have w5:zW zI (256*(x.1:Int))=256*(x.1:Int):=zk (by omega) (by omega)
   have w6:zW zI (256*(x.1:Int)+(y.1:Int))=(x.1:Int)*256+(y.1:Int):=by rw[zk (by omega) (by omega)];omega
   rw[zF h4,zF (by omega:¬(s.size:Int)-a<2),w5,w6]
   have wb:∀{R:Type} (x:Option R),zd (a+1) s.size x=x:=fun x=>zm (by omega) (by omega)
   simp only[wb]
   by_cases h5:(y.1:Int)=0
   ·rw[zT h5,zF (by omega:¬(1<=(y.1:Int)/\(y.1:Int)<=127))];rfl
   ·by_cases h6:(127:Int)<(y.1:Int)
    ·rw[zF h5,zT h6,zF (by omega:¬(1<=(y.1:Int)/\(y.1:Int)<=127))];rfl
    ·rw[zF h5,zF h6,zT (by omega:1<=(y.1:Int)/\(y.1:Int)<=127)];rfl
def cM(b:Int):Int:=if 48<=b/\b<=57 then b-48 else if 65<=b/\b<=70 then b-55 else-1
def ic(d:Int):Int:=if d<10 then 48+d else 55+d
def fC:List Int->List Int
 | []=>[]
 |x::r=>ic (x/16)::ic (x % 16)::fC r
def gx:List Int->List Int
 |a::b::r=>(16*cM a+cM b)::gx r
 |_=>[]
def jn:List Int->Int->Option Int
 | [],_=>none
 |a::r,i=>if cM a<0 then some i else jn r (i+1)
def nJ(s:ByteArray):ByteArray×Int×Bool:=match jn (bl s) 0 with
 |some i=>(bs [],i,false)
 |none=>if s.size % 2=1 then(bs [],(s.size:Int),false) else(strOf (gx (bl s)),0,true)
def z40(s:ByteArray):ByteArray:=strOf (fC (bl s))
abbrev QO:ByteArray:=bs [48,49,50,51,52,53,54,55,56,57,65,66,67,68,69,70]
theorem an0:∀b:Fin 256,sJ (b.1:Int)=some (if cM (b.1:Int)<0 then((0:Int),false) else(cM (b.1:Int),true)):=by decide+kernel
theorem ajC:∀b:Fin 256,cM (b.1:Int)<16/\(cM (b.1:Int)<0\/0<=cM (b.1:Int)):=by decide+kernel
theorem Vx:∀b:Fin 256,Int.fdiv (b.1:Int) (2^min ((4:Int)).toNat 8)=((b.1/16:Nat):Int)/\aP .and .u8 (b.1:Int) (15:Int)=((b.1 % 16:Nat):Int)/\zW zU (Int.tdiv (b.1:Int) (16:Int))=((b.1/16:Nat):Int)/\Int.tmod (b.1:Int) (16:Int)=((b.1 % 16:Nat):Int):=by decide+kernel
theorem NK:∀d:Fin 16,ze QO d.1=ic (d.1:Int):=by decide+kernel
theorem ajB:∀a b:Fin 16,zW zU (aP .or .i64 (zW zI ((a.1:Int)*2^min ((4:Int)).toNat 64)) (b.1:Int))=16*(a.1:Int)+(b.1:Int)/\zW zU (zW zI (zW zI ((16:Int)*(a.1:Int))+(b.1:Int)))=16*(a.1:Int)+(b.1:Int):=by decide+kernel
theorem YG{x y:Int}(h1:0<=x)(h2:x<16)(h3:0<=y)(h4:y<16):zW zU (aP .or .i64 (zW zI (x*2^min ((4:Int)).toNat 64)) y)=16*x+y/\zW zU (zW zI (zW zI ((16:Int)*x)+y))=16*x+y:=by
 have:=ajB ⟨x.toNat,by omega⟩ ⟨y.toNat,by omega⟩
 simpa [Int.toNat_of_nonneg h1,Int.toNat_of_nonneg h3] using this
theorem CR{b:Int}(h:zo b):cM b<16:=by
 obtain⟨k,rfl⟩:=mr h
 exact(ajC k).1
theorem ajk{b:Int}(h:zo b):sJ b=some (if cM b<0 then((0:Int),false) else(cM b,true)):=by
 obtain⟨k,rfl⟩:=mr h
 exact an0 k
theorem L0:QO.size=16:=by decide
theorem nib{b:Int}(h:zo b):∃k:Fin 256,b=(k.1:Int)/\ze QO (b.toNat/16)=ic (b/16)/\ze QO (b.toNat % 16)=ic (b % 16):=by
 obtain⟨k,rfl⟩:=mr h
 have h1:=NK ⟨k.1/16,by omega⟩
 have h2:=NK ⟨k.1 % 16,by omega⟩
 exact⟨k,rfl,by simpa using h1,by simpa using h2⟩
theorem P6{s:ByteArray}{j:Nat}(h:j<(bl s).length):ze s j=(bl s)[j]:=by rw[mo,List.getD_eq_getElem?_getD,List.getElem?_eq_getElem h];rfl
theorem zo5(s:ByteArray)(hs:s.size<=1099511627776):∀(n j k:Nat) (o:List Int),j+n=s.size->n<k->o.length+2*n<=35184372088832->EM k s o (j:Int)=some (o++fC ((bl s).drop j))
 |n,j,0,o,_,hk,_=>by omega
 |0,j,k+1,o,hj,hk,_=>by
  unfold EM PD
  rw[zF (by omega),zD,List.drop_eq_nil_of_le (by rw[zg];omega),fC,List.append_nil]
 |n+1,j,k+1,o,hj,hk,ho=>by
  have aq:j<s.size:=by omega
  have hl:j<(bl s).length:=by rw[zg];exact aq
  obtain⟨b,hb,n1,n2⟩:=nib (mh (List.getElem_mem hl))
  have lT:=b.2
  unfold EM PD
  rw[zT (by omega),zC]
  simp only[Int.toNat_natCast,P6 hl,hb,(Vx b).1,(Vx b).2.1]
  rw[zi aq,zi (by rw[L0];omega),zi aq,zi (by rw[L0];omega),zT (by simp only[List.length_cons,List.length_nil];omega),zC]
  rw[hb] at n1 n2
  simp only[Int.toNat_natCast] at n1 n2
  rw[n1,n2,zr (by omega),zo5 s hs n (j+1) k _ (by omega) (by omega) (by rw[List.length_append];simp only[List.length_cons,List.length_nil];omega),List.drop_eq_getElem_cons hl,hb,fC,List.append_assoc]
  rfl
theorem zv3(s:ByteArray)(hs:s.size<=1099511627776):jH s=some (z40 s):=by
 unfold jH TK
 rw[zk (by omega) (by omega),zT (by omega),zC,zT (by omega),zC]
 have:=zo5 s hs s.size 0 ag [] (by omega) (by rw[zq];omega) (by simp;omega)
 rw[show((0:Nat):Int)=0 from rfl,List.drop_zero,List.nil_append] at this
 dsimp only
 rw[this];rfl
def kB:List Int->Nat->List Int->Int->Sum Int (List Int)
 | [],_,o,_=> .inr o
 |a::r,i,o,high=>if cM a<0 then .inl i else if i % 2=0 then kB r (i+1) o (cM a) else kB r (i+1) (o++ [16*high+cM a]) high
theorem ND:∀(l:List Int) (i:Nat) (o:List Int) (high:Int),i % 2=0->kB l i o high=(match jn l i with
 |some q=> .inl q
 |none=> .inr (o++gx l))
 | [],i,o,high,h=>by simp [kB,jn,gx]
 | [a],i,o,high,h=>by
   rw[kB,jn]
   by_cases ha:cM a<0
   ·rw[if_pos ha,if_pos ha]
   ·rw[if_neg ha,if_neg ha,if_pos h]
    simp [kB,jn,gx]
 |a::b::r,i,o,high,h=>by
  rw[kB,jn]
  by_cases ha:cM a<0
  ·rw[if_pos ha,if_pos ha]
  ·rw[if_neg ha,if_neg ha,if_pos h,kB,jn]
   by_cases hb:cM b<0
   ·rw[if_pos hb,if_pos hb];rfl
   ·rw[if_neg hb,if_neg hb,if_neg (by omega),ND r (i+1+1) _ _ (by omega),gx,List.append_assoc]
    have:((i:Int)+1+1)=((i+1+1:Nat):Int):=by omega
    rw[this];rfl
theorem F4(j:Nat):Int.tmod (j:Int) (2:Int)=((j % 2:Nat):Int):=rfl
theorem zan(s:ByteArray)(hs:s.size<=1099511627776):∀(n j k:Nat) (o:List Int) (high:Int),j+n=s.size->n<k->o.length+n<=35184372088832->0<=high/\high<16->∃o',EL k s o high (j:Int)=some (match kB ((bl s).drop j) j o high with
 | .inl i=> .inl (s,bs [],i,false,o')
 | .inr r=> .inr (s,r))
 |n,j,0,o,high,_,hk,_,_=>by omega
 |0,j,k+1,o,high,hj,hk,_,_=>by
  unfold EL PC
  rw[zF (by omega),zD,List.drop_eq_nil_of_le (by rw[zg];omega)]
  exact⟨o,rfl⟩
 |n+1,j,k+1,o,high,hj,hk,ho,hh=>by
  have aq:j<s.size:=by omega
  have hl:j<(bl s).length:=by rw[zg];exact aq
  have hb:=mh (List.getElem_mem hl)
  have h16:=CR hb
  unfold EL PC
  rw[zT (by omega),zC,zi aq,Int.toNat_natCast,P6 hl,ajk hb,zc,List.drop_eq_getElem_cons hl,kB]
  by_cases ha:cM (bl s)[j]<0
  ·rw[if_pos ha,if_pos ha]
   exact⟨o,rfl⟩
  ·rw[if_neg ha,if_neg ha]
   dsimp only
   rw[Bool.not_true,zD,F4]
   by_cases hp:j % 2=0
   ·rw[if_pos hp,zT (by omega),zC,zr (by omega)]
    exact zan s hs n (j+1) k o _ (by omega) (by omega) (by omega) (by omega)
   ·rw[if_neg hp,zF (by omega),zD,zT (by simp only[List.length_singleton];omega),zC,zr (by omega),(YG hh.1 hh.2 (by omega) h16).1]
    exact zan s hs n (j+1) k _ high (by omega) (by omega) (by rw[List.length_append,List.length_singleton];omega) hh
theorem zv2(s:ByteArray)(hs:s.size<=1099511627776):gG s=some (nJ s):=by
 unfold gG TH nJ
 have e:Int.tdiv (s.size:Int) 2=((s.size/2:Nat):Int):=rfl
 rw[e,zk (by omega) (by omega),zT (by omega),zC,zT (by omega),zC]
 obtain⟨o',h⟩:=zan s hs s.size 0 ag [] 0 (by omega) (by rw[zq];omega) (by simp;omega) (by omega)
 rw[show((0:Nat):Int)=0 from rfl,List.drop_zero,ND _ 0 _ _ rfl,List.nil_append,show((0:Nat):Int)=0 from rfl] at h
 dsimp only
 rw[h,zc]
 cases jn (bl s) 0 with
 |some i=>rfl
 |none=>
  dsimp only
  rw[Sum.elim_inr]
  unfold TI
  dsimp only
  rw[F4]
  by_cases hp:s.size % 2=1
  ·rw[if_pos hp,zF (by omega)];rfl
  ·rw[if_neg hp,zT (by omega)];rfl
theorem afn{l:List Int}:∀{i:Int},jn l i=none->∀a∈l,0<=cM a:=by
 induction l with
 |nil=>intro i _ a ha;cases ha
 |cons b r ih=>
  intro i h a ha
  rw[jn] at h
  by_cases hb:cM b<0
  ·rw[if_pos hb] at h;cases h
  ·rw[if_neg hb] at h
   rcases List.mem_cons.1 ha with rfl|ha
   ·omega
   ·exact ih h a ha
theorem ajE:∀d:Fin 16,cM (ic (d.1:Int))=(d.1:Int)/\zo (ic (d.1:Int)):=by
 have:∀d:Fin 16,cM (ic (d.1:Int))=(d.1:Int)/\0<=ic (d.1:Int)/\ic (d.1:Int)<256:=by decide+kernel
 exact this
theorem NG{d:Int}(h:0<=d)(h2:d<16):cM (ic d)=d/\zo (ic d):=by
 have:=ajE ⟨d.toNat,by omega⟩
 simpa [Int.toNat_of_nonneg h] using this
theorem Lk:∀{l:List Int},(∀x∈l,zo x)->∀y∈fC l,zo y
 | [],_,y,hy=>by cases hy
 |x::r,h,y,hy=>by
  have hx:=h x List.mem_cons_self
  unfold zo at hx
  rw[fC] at hy
  rcases List.mem_cons.1 hy with rfl|hy
  ·exact(NG (by omega) (by omega)).2
  ·rcases List.mem_cons.1 hy with rfl|hy
   ·exact(NG (by omega) (by omega)).2
   ·exact Lk (fun z hz=>h z (List.mem_cons_of_mem _ hz)) y hy
theorem Mq:∀l:List Int,(fC l).length=2*l.length
 | []=>rfl
 |x::r=>by rw[fC,List.length_cons,List.length_cons,Mq r,List.length_cons];omega
theorem af3(s:ByteArray):bl (z40 s)=fC (bl s):=uT (Lk fun x hx=>mh hx)
theorem zao(s:ByteArray):(z40 s).size=2*s.size:=by rw[<-zg,af3,Mq,zg]
theorem ajD:∀b:Fin 256,0<=cM (b.1:Int)->ic (cM (b.1:Int))=(b.1:Int):=by decide+kernel
theorem Lj{b:Int}(h:zo b)(h0:0<=cM b):ic (cM b)=b:=by
 obtain⟨k,rfl⟩:=mr h
 exact ajD k h0
theorem Af:∀{l:List Int},l.length % 2=0->(∀x∈l,zo x/\0<=cM x)->fC (gx l)=l/\∀y∈gx l,zo y
 | [],_,_=>⟨by simp [fC,gx],fun y hy=>by simp [gx] at hy⟩
 | [a],h,_=>by simp at h
 |a::b::r,h,hx=>by
  obtain⟨a1,a2⟩:=hx a (by simp)
  obtain⟨b1,b2⟩:=hx b (by simp)
  have a3:=CR a1
  have b3:=CR b1
  obtain⟨i1,i2⟩:=Af (l:=r) (by simp only[List.length_cons] at h;omega) fun y hy=>hx y (by simp [hy])
  rw[gx,fC]
  refine⟨?_,fun y hy=> ?_⟩
  ·rw[show(16*cM a+cM b)/16=cM a by omega,show(16*cM a+cM b)% 16=cM b by omega,Lj a1 a2,Lj b1 b2,i1]
  ·rcases List.mem_cons.1 hy with rfl|hy
   ·unfold zo;omega
   ·exact i2 y hy
theorem zi2{s t:ByteArray}{i:Int}(h:nJ s=(t,i,true)):z40 t=s/\s.size=2*t.size:=by
 unfold nJ at h
 cases hb:jn (bl s) 0 with
 |some q=>rw[hb] at h;cases h
 |none=>
  rw[hb] at h
  dsimp only at h
  by_cases hp:s.size % 2=1
  ·rw[if_pos hp] at h;cases h
  ·rw[if_neg hp] at h
   have ht:t=strOf (gx (bl s)):=(congrArg Prod.fst h).symm
   obtain⟨e1,e2⟩:=Af (l:=bl s) (by rw[zg];omega) fun x hx=>⟨mh hx,afn hb x hx⟩
   have e3:z40 t=s:=by
    unfold z40
    rw[ht,uT e2,e1,z59]
   exact⟨e3,by rw[<-e3,zao]⟩
def cG(b:Int):Bool:=decide (48<=b/\b<=57)
def bD(l:List Int):Bool:=l.all cG
theorem zh5(b:Int)(l:List Int):bD (b::l)=(cG b&&bD l):=rfl
theorem amj{b:Int}(h:48<=b/\b<=57):cG b=true:=zT h
theorem CT{b:Int}(h:¬(48<=b/\b<=57)):cG b=false:=zF h
theorem QB{s:ByteArray}{j:Nat}(h:j<s.size):(bl s).getD j 0=((s[j]'h).toNat:Int):=by
 rw[<-mo]
 unfold ze
 rw[dif_pos h]
theorem Vr{s:ByteArray}{j:Nat}(h:j<s.size):(bl s).drop j=((s[j]'h).toNat:Int)::(bl s).drop (j+1):=by
 have h':j<(bl s).length:=by rw[zg];exact h
 rw[List.drop_eq_getElem_cons h']
 congr 1
 have:=QB h
 rw[List.getD_eq_getElem?_getD,List.getElem?_eq_getElem h'] at this
 exact this
theorem z196(s:ByteArray)(pos:Nat)(h:pos<s.size)(ha:128<=(s[pos]'h).toNat):128<=(Utf8.decode s pos).1:=by
 have e:s.get! (pos+0)=s[pos]'h:=by
  show s.get! pos=_
  simp [ByteArray.get!,getElem!_pos,h]
  rfl
 unfold Utf8.decode
 simp only[e]
 rw[if_neg (by omega)]
 have Rn:128<=Utf8.runeError:=by unfold Utf8.runeError;omega
 split
 ·split
  ·assumption
  ·exact Rn
 ·split
  ·split
   ·rename_i hc
    simp only[Bool.and_eq_true,decide_eq_true_eq] at hc
    have:=hc.1
    simp only
    omega
   ·exact Rn
  ·split
   ·split
    ·rename_i hc
     simp only[Bool.and_eq_true,decide_eq_true_eq] at hc
     have:=hc.1
     simp only
     omega
    ·exact Rn
   ·exact Rn
theorem L4(s:ByteArray):∀(n j k:Nat),s.size-j<=n->j<=s.size->n<k->Gs k (s,j)=some (bif bD ((bl s).drop j) then .inr () else .inl false)
 |n,j,0,_,_,hk=>by omega
 |n,j,k+1,hn,hj,hk=>by
  unfold Gs Ww
  dsimp only
  by_cases aq:j<s.size
  ·rw[zT aq,zC,Vr aq,zh5]
   by_cases h1:(s[j]'aq).toNat<128
   ·rw[decode_ascii s j aq h1]
    dsimp only
    by_cases h2:((s[j]'aq).toNat:Int)<48
    ·rw[zT h2,zC,CT (by omega)];rfl
    ·rw[zF h2,zD]
     by_cases h3:(57:Int)<((s[j]'aq).toNat:Int)
     ·rw[zT h3,zC,CT (by omega)];rfl
     ·obtain⟨n,rfl⟩:∃n',n=n'+1:=⟨n-1,by omega⟩
      rw[zF h3,zD,amj (by omega),Bool.true_and,L4 s n (j+1) k (by omega) (by omega) (by omega)]
   ·have hd:=z196 s j aq (by omega)
    rw[zF (by omega:¬((Utf8.decode s j).1:Int)<48),zD,zT (by omega:(57:Int)<((Utf8.decode s j).1:Int)),zC,CT (by omega)];rfl
  ·rw[zF aq,zD,List.drop_eq_nil_of_le (by rw[zg];omega)];rfl
theorem VD(s:ByteArray)(h:s.size<=maxLen):yh s=some (bD (bl s)):=by
 unfold yh Wv
 dsimp only
 rw[zh] at h
 rw[L4 s s.size 0 ag (by omega) (by omega) (by rw[zq];omega),List.drop_zero]
 cases bD (bl s)<;>rfl
theorem acv(b:Int):HB b=some (cG b):=by
 unfold HB Xh cG
 by_cases h:(48:Int)<=b
 ·rw[zT h,zC];congr 1;apply decide_eq_decide.2;omega
 ·rw[zF h,zD];congr 1;symm;apply zF;omega
theorem zue(s:ByteArray)(hs:s.size<=9223372036854775807):∀(n j k:Nat),s.size-j<=n->j<=s.size->n<k->Gx k s (j:Int)=some (bif bD ((bl s).drop j) then .inr () else .inl false)
 |n,j,0,_,_,hk=>by omega
 |n,j,k+1,hn,hj,hk=>by
  unfold Gx Xg
  dsimp only
  by_cases aq:j<s.size
  ·rw[zT (by omega),zC,zi aq,acv,Int.toNat_natCast,mo,QB aq,Vr aq,zh5]
   rw[Option.bind_some]
   cases h1:cG ((s[j]'aq).toNat:Int) with
   |false=>rfl
   |true=>
    obtain⟨n,rfl⟩:∃n',n=n'+1:=⟨n-1,by omega⟩
    simp only[Bool.not_true,zD,Bool.true_and]
    rw[zr (by omega),zue s hs n (j+1) k (by omega) (by omega) (by omega)]
  ·rw[zF (by omega),zD,List.drop_eq_nil_of_le (by rw[zg];omega)];rfl
theorem LY(s:ByteArray)(h:s.size<=maxLen):Fm s=some (bD (bl s)):=by
 unfold Fm Xf
 dsimp only
 rw[zh] at h
 have:=zue s h s.size 0 ag (by omega) (by omega) (by rw[zq];omega)
 rw[show((0:Nat):Int)=(0:Int) from rfl] at this
 rw[this,List.drop_zero]
 cases bD (bl s)<;>rfl
def fo(l:List Int)(n:Int):Int:=l.foldl (fun n b=>10*n+(b-48)) n
theorem zvx:∀(l:List Int) (n:Int) (k:Nat),bD l=true->0<=n->n<((10^k:Nat):Int)->l.length+k<=18->0<=fo l n/\fo l n<((10^(l.length+k):Nat):Int)
 | [],n,k,_,h1,h2,_=>by simpa [fo] using⟨h1,h2⟩
 |b::l,n,k,hd,h1,h2,hl=>by
  simp only[bD,List.all_cons,Bool.and_eq_true,cG,decide_eq_true_eq] at hd
  have hp:((10^(k+1):Nat):Int)=10*((10^k:Nat):Int):=by rw[Nat.pow_succ];omega
  have:=zvx l (10*n+(b-48)) (k+1) hd.2 (by omega) (by rw[hp];omega) (by simp at hl;omega)
  simp only[fo,List.foldl_cons,List.length_cons] at this⊢
  rw[show l.length+1+k=l.length+(k+1) by omega]
  exact this
theorem AD{k m:Nat}(h:k<=m):10^k<=10^m:=Nat.pow_le_pow_right (by decide) h
theorem OG(k:Nat):((10^(k+1):Nat):Int)=10*((10^k:Nat):Int):=by rw[Nat.pow_succ];omega
theorem AE:(10:Nat)^17=100000000000000000:=by decide
theorem Mn(s:ByteArray)(hs:s.size<=18)(hd:bD (bl s)=true):∀(n j k:Nat) (t:Int),s.size-j<=n->j<=s.size->n<k->0<=t->t<((10^j:Nat):Int)->Gt k t (s,j)=some (fo ((bl s).drop j) t)
 |n,j,0,t,_,_,hk,_,_=>by omega
 |n,j,k+1,t,hn,hj,hk,h0,h1=>by
  unfold Gt Wz
  dsimp only
  by_cases aq:j<s.size
  ·have Jr:cG ((s[j]'aq).toNat:Int)=true:=by
    have:=List.all_eq_true.1 hd ((bl s).getD j 0) (by
     rw[List.getD_eq_getElem?_getD,List.getElem?_eq_getElem (by rw[zg];exact aq)]
     exact List.getElem_mem _)
    rw[QB aq] at this
    exact this
   simp only[cG,decide_eq_true_eq] at Jr
   rw[zT aq,zC,decode_ascii s j aq (by omega),Vr aq]
   dsimp only
   have JG:=OG j
   have w32:IntKind.i32.wrap (((s[j]'aq).toNat:Int)-48)=((s[j]'aq).toNat:Int)-48:=by
    simp [IntKind.wrap,IntKind.signed,IntKind.bits];omega
   obtain⟨n,rfl⟩:∃n',n=n'+1:=⟨n-1,by omega⟩
   have ht:t<100000000000000000:=by
    have:=AD (show j<=17 by omega)
    rw[AE] at this
    omega
   have a1:zW zI (10*t)=10*t:=zk (by omega) (by omega)
   have a2:zW zI (((s[j]'aq).toNat:Int)-48)=((s[j]'aq).toNat:Int)-48:=zk (by omega) (by omega)
   rw[w32,a1,a2,zk (by omega) (by omega),Mn s hs hd n (j+1) k _ (by omega) (by omega) (by omega) (by omega) (by omega)]
   rfl
  ·rw[zF aq,zD,List.drop_eq_nil_of_le (by rw[zg];omega)];rfl
def dX(l:List Int):Int×Bool:=if 1<=l.length/\l.length<=18/\bD l=true then(fo l 0,true) else(0,false)
theorem N5(s:ByteArray)(h:s.size<=maxLen):yi s=some (dX (bl s)):=by
 unfold yi Wy dX
 dsimp only
 rw[zg]
 by_cases h0:s=bs []
 ·rw[zT h0,zC,if_neg]
  rw[h0]
  intro hh
  have:(bs []).size=0:=rfl
  omega
 ·have hz:s.size≠0:=fun e=>h0 (zda.2 (List.eq_nil_of_length_eq_zero (by rw[zg];exact e)))
  rw[zF h0,zD]
  by_cases h1:(18:Int)<(s.size:Int)
  ·rw[zT h1,zC,if_neg (by omega)]
  ·rw[zF h1,zD,VD s h,Option.bind_some]
   cases hd:bD (bl s) with
   |false=>rw[if_neg (by simp)];rfl
   |true=>
    rw[if_pos ⟨by omega,by omega,rfl⟩]
    simp only[Bool.not_true,zD]
    rw[Mn s (by omega) hd s.size 0 ag 0 (by omega) (by omega) (by rw[zq];omega) (by omega) (by decide),List.drop_zero,Option.bind_some]
    rfl
theorem zuy(s:ByteArray)(hs:s.size<=18)(hd:bD (bl s)=true):∀(n j k:Nat) (t:Int),s.size-j<=n->j<=s.size->n<k->0<=t->t<((10^j:Nat):Int)->Gy k s t (j:Int)=some (fo ((bl s).drop j) t)
 |n,j,0,t,_,_,hk,_,_=>by omega
 |n,j,k+1,t,hn,hj,hk,h0,h1=>by
  unfold Gy Xk
  dsimp only
  by_cases aq:j<s.size
  ·have Jr:cG ((s[j]'aq).toNat:Int)=true:=by
    have:=List.all_eq_true.1 hd ((bl s).getD j 0) (by
     rw[List.getD_eq_getElem?_getD,List.getElem?_eq_getElem (by rw[zg];exact aq)]
     exact List.getElem_mem _)
    rw[QB aq] at this
    exact this
   simp only[cG,decide_eq_true_eq] at Jr
   rw[zT (by omega),zC,zi aq,Int.toNat_natCast,mo,QB aq,Vr aq]
   have JG:=OG j
   obtain⟨n,rfl⟩:∃n',n=n'+1:=⟨n-1,by omega⟩
   have ht:t<100000000000000000:=by
    have:=AD (show j<=17 by omega)
    rw[AE] at this
    omega
   have a1:zW zI (10*t)=10*t:=zk (by omega) (by omega)
   have a2:zW zI ((s[j]'aq).toNat:Int)=((s[j]'aq).toNat:Int):=zk (by omega) (by omega)
   have a3:zW zI (10*t+((s[j]'aq).toNat:Int))=10*t+((s[j]'aq).toNat:Int):=zk (by omega) (by omega)
   rw[a1,a2,a3,zk (by omega) (by omega),zr (by omega),zuy s hs hd n (j+1) k _ (by omega) (by omega) (by omega) (by omega) (by omega)]
   simp only[fo,List.foldl_cons]
   congr 2
   omega
  ·rw[zF (by omega),zD,List.drop_eq_nil_of_le (by rw[zg];omega)];rfl
theorem ahe(s:ByteArray)(h:s.size<=maxLen):HD s=some (dX (bl s)):=by
 unfold HD Xj dX
 dsimp only
 rw[zg]
 by_cases h0:(s.size:Int)<1
 ·rw[zT h0,zC,if_neg (by omega)]
 ·rw[zF h0,zD]
  by_cases h1:(18:Int)<(s.size:Int)
  ·rw[zT h1,zC,if_neg (by omega)]
  ·rw[zF h1,zD,LY s h,Option.bind_some]
   cases hd:bD (bl s) with
   |false=>rw[if_neg (by simp)];rfl
   |true=>
    rw[if_pos ⟨by omega,by omega,rfl⟩]
    simp only[Bool.not_true,zD]
    have:=zuy s (by omega) hd s.size 0 ag 0 (by omega) (by omega) (by rw[zq];omega) (by omega) (by decide)
    rw[show((0:Nat):Int)=(0:Int) from rfl] at this
    rw[this,List.drop_zero,Option.bind_some]
    rfl
def u7:Nat->Nat->List Int
 |0,_=>[]
 |w+1,n=>u7 w (n/10)++ [((48+n % 10:Nat):Int)]
theorem zdh:∀w n,(u7 w n).length=w
 |0,_=>rfl
 |w+1,n=>by rw[u7,List.length_append,zdh w];rfl
theorem Mg{l:List Int}(h:bD l=true):∀x∈l,zo x:=fun x hx=>by
 have:=List.all_eq_true.1 h x hx
 simp only[cG,decide_eq_true_eq] at this
 unfold zo;omega
theorem abR(a b:List Int):strOf (a++b)=strOf a++strOf b:=by
 apply ByteArray.ext
 simp [strOf,ByteArray.data_append]
theorem aob(n:Nat):Int.tmod (n:Int) 10=((n % 10:Nat):Int):=by rw[Int.tmod_eq_emod_of_nonneg (by omega)];omega
theorem aoa(n:Nat):Int.tdiv (n:Int) 10=((n/10:Nat):Int):=by rw[Int.tdiv_eq_ediv_of_nonneg (by omega)];omega
theorem ajj(n:Nat):zW zU (zW zI ((48:Int)+((n % 10:Nat):Int)))=((48+n % 10:Nat):Int):=by
 rw[zk (by omega) (by omega),uI (by omega) (by omega)];omega
theorem NA(n w:Nat):n/10/10^w=n/10^(w+1):=by rw[Nat.div_div_eq_div_mul,Nat.pow_succ,Nat.mul_comm]
theorem fm(x:Int)(tail:List Int):∀j,(List.replicate (j+1) (0:Int)++tail).set j x=List.replicate j 0++x::tail
 |0=>rfl
 |j+1=>by
  show(0:Int)::((List.replicate (j+1) (0:Int)++tail).set j x)=0::(List.replicate j 0++x::tail)
  rw[fm x tail j]
theorem z183(nt ZC:Nat)(hnt:nt<=18):∀(j k n:Nat) (tail:List Int),nt=j+tail.length->n<=9223372036854775807->j<k->
 E4 k (n:Int) nt ((j:Int)-1) ZC (List.replicate j 0++tail)=some (((n/10^j:Nat):Int),nt,ZC,u7 j n++tail)
 |j,0,n,tail,_,_,hk=>by omega
 |0,k+1,n,tail,h,hn,hk=>by
  unfold E4 Qj
  dsimp only
  rw[zF (by omega),zD]
  simp [u7]
 |j+1,k+1,n,tail,h,hn,hk=>by
  unfold E4 Qj
  dsimp only
  have e:(((j+1:Nat):Int)-1)=(j:Int):=by omega
  rw[e,zT (by omega:(0:Int)<=(j:Int)),zC,zi (by omega),Int.toNat_natCast,aob,aoa,ajj]
  have hb:Nat.ble (j+1) (List.replicate (j+1) (0:Int)++tail).length=true:=Nat.ble_eq_true_of_le (by simp)
  rw[hb,zC,xX (by omega),zk (by omega) (by omega)]
  rw[fm,z183 nt ZC hnt j k (n/10) _ (by simp;omega) (by omega) (by omega),NA]
  simp [u7]
def jw(n w:Int):ByteArray×Bool:=bif decide (0<=n/\1<=w/\w<=18/\n.toNat/10^w.toNat=0) then(strOf (u7 w.toNat n.toNat),true) else(bs [],false)
theorem D7{n w:Int}(h:0<=n/\1<=w/\w<=18/\n.toNat/10^w.toNat=0):jw n w=(strOf (u7 w.toNat n.toNat),true):=by unfold jw;rw[zT h];rfl
theorem QK{n w:Int}(h:¬(0<=n/\1<=w/\w<=18/\n.toNat/10^w.toNat=0)):jw n w=(bs [],false):=by unfold jw;rw[zF h];rfl
theorem amF(n w:Int)(hn:n<=9223372036854775807):Ha n w=some (jw n w):=by
 unfold Ha WC
 dsimp only
 by_cases h1:n<0
 ·rw[zT h1,zC,QK (by omega)]
 rw[zF h1,zD]
 by_cases h2:w<1
 ·rw[zT h2,zC,QK (by omega)]
 rw[zF h2,zD]
 by_cases h3:(18:Int)<w
 ·rw[zT h3,zC,QK (by omega)]
 rw[zF h3,zD,zT (rfl:w=w),zC,zT (by omega:(0:Int)<=w),zC,zT (by omega:w*1<=140737488355328),zC]
 obtain⟨m,rfl⟩:∃m:Nat,n=m:=⟨n.toNat,by omega⟩
 obtain⟨v,rfl⟩:∃v:Nat,w=v:=⟨w.toNat,by omega⟩
 simp only[Int.toNat_natCast]
 have:=z183 v v (by omega) v ag m [] (by simp) (by omega) (by rw[zq];omega)
 simp only[List.append_nil] at this
 rw[zk (by omega) (by omega),this,zc]
 unfold WD
 dsimp only
 by_cases h4:(0:Int)<((m/10^v:Nat):Int)
 ·rw[zT h4,zC,QK (by simp only[Int.toNat_natCast];generalize m/10^v=q at h4⊢;omega)]
 ·rw[zF h4,zD,zdh,Nat.beq_refl,zC,D7 (by simp only[Int.toNat_natCast];generalize m/10^v=q at h4⊢;omega)]
  simp only[Int.toNat_natCast]
theorem acn(l r:List Int)(n:Int):fo (l++r) n=fo r (fo l n):=by unfold fo;rw[List.foldl_append]
theorem Mf:∀(w n:Nat) (l:List Int),bD l=true->w=l.length->fo l 0=(n:Int)->u7 w n=l/\n/10^w=0
 |0,n,l,hd,hw,hv=>by
  obtain rfl:=List.eq_nil_of_length_eq_zero hw.symm
  have:(0:Int)=n:=hv
  obtain rfl:n=0:=by omega
  exact⟨rfl,rfl⟩
 |w+1,n,l,hd,hw,hv=>by
  have bI:l≠ []:=by intro e;subst e;simp at hw
  obtain⟨r,b,rfl⟩:∃r b,l=r++ [b]:=⟨l.dropLast,l.getLast bI,(List.dropLast_concat_getLast bI).symm⟩
  rw[bD,List.all_append,Bool.and_eq_true,List.all_cons,List.all_nil,Bool.and_true] at hd
  have hb:=hd.2
  simp only[cG,decide_eq_true_eq] at hb
  rw[acn] at hv
  have iX:10*fo r 0+(b-48)=n:=hv
  obtain⟨i1,i2⟩:=Mf w (n/10) r hd.1 (by simpa using hw) (by omega)
  refine⟨?_,by rw[<-NA];exact i2⟩
  rw[u7,i1]
  congr 2
  omega
def fL(l:List Int):Bool:=l.all fun b=>decide (b=48)
theorem R7(b:Int)(l:List Int):fL (b::l)=(decide (b=48)&&fL l):=rfl
theorem zac(a b:List Int):fL (a++b)=(fL a&&fL b):=List.all_append ..
theorem acH(s:ByteArray)(x:Int)(l:List Int)(h:bl s=x::l):ze s 0=x:=by rw[mo,h];rfl
theorem Kt(k:Nat):∀(s:ByteArray),s.size<k->s.size<=9223372036854775807->∃r,Gg k s 48=some r/\fL (bl r)=fL (bl s)/\(fL (bl s)=true->bl r=[])/\r.size<=s.size:=by
 induction k with
 |zero=>intro s h;omega
 |succ k ih=>
  intro s h hs
  unfold Gg UW
  dsimp only
  by_cases h0:(0:Int)<(s.size:Int)
  ·have hm:zW zI ((s.size:Int)-1)=((s.size-1:Nat):Int):=by rw[zk (by omega) (by omega)];omega
   rw[zT h0,zC,hm,zi (by omega),Int.toNat_natCast]
   have hl:(bl s).length=s.size:=zg s
   have bI:bl s≠ []:=by intro e;rw[e] at hl;simp at hl;omega
   obtain⟨r,b,hb⟩:∃r b,bl s=r++ [b]:=⟨(bl s).dropLast,(bl s).getLast bI,(List.dropLast_concat_getLast bI).symm⟩
   have hr:r.length=s.size-1:=by rw[hb] at hl;simp at hl;omega
   have hx:ze s (s.size-1)=b:=by
    rw[mo,hb,<-hr,List.getD_eq_getElem?_getD];simp
   rw[hx]
   by_cases hz:b=48
   ·rw[zT hz,zC,zT (by omega:(0:Int)<=((s.size-1:Nat):Int)),zC,zT (by omega:((s.size-1:Nat):Int)<=((s.size:Nat):Int)),zC]
    have he:bl (s.extract 0 (s.size-1))=r:=by rw[uO,hb,List.drop_zero,<-hr,List.take_left'];rfl
    have dx:(s.extract 0 (s.size-1)).size=s.size-1:=by rw[<-zg,he,hr]
    obtain⟨q,q1,q2,q3,q4⟩:=ih (s.extract 0 (s.size-1)) (by omega) (by omega)
    refine⟨q,q1,?_,fun ha=>q3 ?_,by omega⟩
    ·rw[q2,he,hb,zac,R7,zT hz];simp [fL]
    ·rw[hb,zac,Bool.and_eq_true] at ha
     rw[he];exact ha.1
   ·rw[zF hz,zD]
    refine⟨s,rfl,rfl,fun ha=> ?_,Nat.le_refl _⟩
    rw[hb,zac,R7,zF hz] at ha
    simp at ha
  ·rw[zF h0,zD]
   refine⟨s,rfl,rfl,fun _=>List.eq_nil_of_length_eq_zero (by rw[zg];omega),Nat.le_refl _⟩
theorem I9{s:ByteArray}{x:Int}{l:List Int}(h:bl s=x::l):bl (s.extract 1 s.size)=l:=by
 rw[uO,<-zg,List.take_length,h];rfl
theorem Ks(k:Nat):∀(s:ByteArray),s.size<k->s.size<=9223372036854775807->∃r,Gf k s 48=some r/\((bl r=[])↔fL (bl s)=true):=by
 induction k with
 |zero=>intro s h;omega
 |succ k ih=>
  intro s h hs
  unfold Gf UR
  dsimp only
  have hl:(bl s).length=s.size:=zg s
  by_cases h0:(0:Int)<(s.size:Int)
  ·rw[zT h0,zC,zm (by omega) h0]
   cases hb:bl s with
   |nil=>rw[hb] at hl;simp at hl;omega
   |cons x l=>
    rw[show((0:Int)).toNat=0 from rfl,show((1:Int)).toNat=1 from rfl,acH s x l hb]
    by_cases hz:x=48
    ·rw[zT hz,zC,zT (by omega:(1:Int)<=((s.size:Nat):Int)),zC]
     have he:=I9 hb
     have dx:(s.extract 1 s.size).size=s.size-1:=by rw[<-zg,he,<-hl,hb];simp
     obtain⟨q,q1,q2⟩:=ih (s.extract 1 s.size) (by omega) (by omega)
     refine⟨q,q1,q2.trans ?_⟩
     rw[he,R7,zT hz];simp
    ·rw[zF hz,zD]
     refine⟨s,rfl,?_⟩
     rw[hb,R7,zF hz];simp
  ·rw[zF h0,zD]
   have:bl s=[]:=List.eq_nil_of_length_eq_zero (by omega)
   refine⟨s,rfl,?_⟩
   rw[this];simp [fL]
theorem alS(s:ByteArray)(h:s.size<=9223372036854775807):∃r,s7 s (bs [48])=some r/\(r=bs []↔fL (bl s)=true):=by
 unfold s7 UO
 by_cases h0:s=bs []
 ·rw[zT h0,zC]
  refine⟨s,rfl,?_⟩
  rw[h0];simp [zq6,fL]
 rw[zF h0,zD,zF (show¬bs [48]=bs [] from fun e=>absurd (congrArg ByteArray.size e) (by decide)),zD,zT (by rfl:(((bs [48]).size:Nat):Int)=1),zC]
 have hb:ze (bs [48]) ((0:Int)).toNat=48:=by rw[mo];rfl
 have hw {R:Type} (x:Option R):zd (0:Int) (bs [48]).size x=x:=zm (by omega) (by decide)
 rw[hw,hb,zT (by decide:(48:Int)<128),zC,hw]
 unfold vN UU
 dsimp only
 obtain⟨r,r1,r2,r3,r4⟩:=Kt ag s (by rw[zq];omega) h
 rw[r1,zc]
 unfold UX
 rw[zc,hw]
 unfold vM UQ
 dsimp only
 obtain⟨q,q1,q2⟩:=Ks ag r (by rw[zq];omega) (by omega)
 rw[q1,zc]
 unfold US
 rw[zc]
 refine⟨q,rfl,?_⟩
 rw[zda,q2,r2]
theorem zib:∀(c:Nat),bl ⟨(Go.Lib.repeatL (bs [48]).data.toList c).toArray⟩=List.replicate c 48
 |0=>rfl
 |c+1=>by
  rw[List.replicate_succ,<-zib c]
  simp only[bl,Go.Lib.repeatL,List.map_append]
  rfl
def fE(s:ByteArray)(w:Int):ByteArray×Bool:=
 bif decide (1<=s.size/\s.size<=999/\bD (bl s)=true/\1<=w/\w<=999) then
  (bif decide ((s.size:Int)<=w) then(strOf (List.replicate (w-s.size).toNat 48++bl s),true)
   else bif fL ((bl s).take (s.size-w.toNat)) then(strOf ((bl s).drop (s.size-w.toNat)),true) else(bs [],false))
 else(bs [],false)
theorem GK{s:ByteArray}{w:Int}(h:¬(1<=s.size/\s.size<=999/\bD (bl s)=true/\1<=w/\w<=999)):fE s w=(bs [],false):=by unfold fE;rw[zF h];rfl
theorem OE{s:ByteArray}{w:Int}(h:1<=s.size/\s.size<=999/\bD (bl s)=true/\1<=w/\w<=999):fE s w=(bif decide ((s.size:Int)<=w) then(strOf (List.replicate (w-s.size).toNat 48++bl s),true)
 else bif fL ((bl s).take (s.size-w.toNat)) then(strOf ((bl s).drop (s.size-w.toNat)),true) else(bs [],false)):=by unfold fE;rw[zT h];rfl
theorem amE(s:ByteArray)(w:Int)(h:s.size<=maxLen):G8 s w=some (fE s w):=by
 unfold G8 WA
 dsimp only
 by_cases h0:s=bs []
 ·rw[zT h0,zC,GK]
  intro hh
  rw[h0] at hh
  exact absurd hh.1 (by decide)
 have hz:s.size≠0:=fun e=>h0 (zda.2 (List.eq_nil_of_length_eq_zero (by rw[zg];exact e)))
 rw[zF h0,zD]
 by_cases h1:(999:Int)<(s.size:Int)
 ·rw[zT h1,zC,GK (by omega)]
 rw[zF h1,zD,VD s h,zc]
 cases hd:bD (bl s) with
 |false=>rw[GK (by rw[hd];simp)];rfl
 |true=>
  rw[Bool.not_true,zD]
  by_cases h2:w<1
  ·rw[zT h2,zC,GK (by omega)]
  rw[zF h2,zD]
  by_cases h3:(999:Int)<w
  ·rw[zT h3,zC,GK (by omega)]
  rw[zF h3,zD,OE ⟨by omega,by omega,hd,by omega,by omega⟩]
  obtain⟨v,rfl⟩:∃v:Nat,w=v:=⟨w.toNat,by omega⟩
  by_cases h4:(s.size:Int)<=(v:Int)
  ·rw[zT h4,zC,zC]
   obtain⟨c,hc⟩:∃c:Nat,(v:Int)-(s.size:Int)=(c:Int):=⟨v-s.size,by omega⟩
   rw[hc,xX (by omega)]
   have hR:strings_Repeat (bs [48]) (c:Int)=some ⟨(Go.Lib.repeatL (bs [48]).data.toList c).toArray⟩:=by
    unfold strings_Repeat
    rw[zT (by omega:(0:Int)<=(c:Int)),zT (by omega:(c:Int)<=9223372036854775807),zT (by rw[show(((bs [48]).size:Nat):Int)=1 from rfl];omega),Int.toNat_natCast]
    rfl
   rw[hR,zc]
   have dx:((⟨(Go.Lib.repeatL (bs [48]).data.toList c).toArray⟩:ByteArray)).size=c:=by rw[<-zg,zib,List.length_replicate]
   rw[dx,zT (by omega),zC,Int.toNat_natCast]
   congr 2
   apply Fa
   rw[rX,zib,uT]
   intro x hx
   rcases List.mem_append.1 hx with hx|hx
   ·rw[(List.mem_replicate.1 hx).2];unfold zo;omega
   ·exact mh hx
  ·rw[zF h4,zD,zD]
   obtain⟨c,hc⟩:∃c:Nat,(s.size:Int)-(v:Int)=(c:Int):=⟨s.size-v,by omega⟩
   have hcv:s.size-((v:Int)).toNat=c:=by omega
   rw[hc,xX (by omega),zT (by omega:(0:Int)<=(c:Int)),zC,zT (by omega:(c:Int)<=((s.size:Nat):Int)),zC,Int.toNat_natCast,hcv]
   have hx:bl (s.extract 0 c)=(bl s).take c:=by rw[uO,List.drop_zero]
   have rS:(s.extract 0 c).size=c:=by rw[<-zg,hx,List.length_take,zg];omega
   obtain⟨r,r1,r2⟩:=alS (s.extract 0 c) (by omega)
   rw[r1,zc]
   rw[hx] at r2
   cases ha:fL ((bl s).take c) with
   |true=>
    rw[zT (r2.2 ha),Bool.not_true,zD,zC,zC]
    congr 2
    apply Fa
    rw[uO,<-zg,List.take_length,uT]
    exact fun x hx=>mh (List.mem_of_mem_drop hx)
   |false=>
    rw[zF (fun e=>by rw[r2.1 e] at ha;cases ha),Bool.not_false,zC];rfl
def dU:List Int->List Int
 |a::b::r=>(16*(a-48)+(b-48))::dU r
 |_=>[]
def qu(s:ByteArray):ByteArray×Bool:=
 bif decide (s.size<=999/\bD (bl s)=true) then(strOf (dU (if s.size % 2=1 then 48::bl s else bl s)),true) else(bs [],false)
def gK(odd:Bool):List Int->Nat->Option (Int×Int)
 | [],_=>none
 |x::r,i=>if i=0/\odd=true/\x/16≠0 then some (4,0) else if 9<x/16\/9<x % 16 then some (3,i) else gK odd r (i+1)
def dT:List Int->List Int
 | []=>[]
 |x::r=>(48+x/16)::(48+x % 16)::dT r
def kK(b:ByteArray)(n:Int):ByteArray×Int×Int:=
 if n<0\/999<n then(bs [],1,0) else if(b.size:Int)<(n+1)/2 then(bs [],2,(b.size:Int)) else
 match gK (decide (n % 2=1)) ((bl b).take ((n+1)/2).toNat) 0 with
 |some e=>(bs [],e.1,e.2)
 |none=>(strOf ((dT ((bl b).take ((n+1)/2).toNat)).drop (n % 2).toNat),0,0)
theorem ai2:∀a b:Fin 10,aP .or .u8 (zW zU ((zW zU ((48+(a.1:Int))-48))*2^min ((4:Int)).toNat 8)) (zW zU ((48+(b.1:Int))-48))=16*(a.1:Int)+(b.1:Int):=by decide+kernel
theorem Nz{x:Int}(h:cG x=true):∃k:Fin 10,x=48+(k.1:Int):=by
 unfold cG at h
 simp only[Bool.and_eq_true,decide_eq_true_eq] at h
 exact⟨⟨(x-48).toNat,by omega⟩,by simp;omega⟩
theorem Yc{x y:Int}(hx:cG x=true)(hy:cG y=true):aP .or .u8 (zW zU ((zW zU (x-48))*2^min ((4:Int)).toNat 8)) (zW zU (y-48))=16*(x-48)+(y-48):=by
 obtain⟨a,rfl⟩:=Nz hx
 obtain⟨b,rfl⟩:=Nz hy
 have:=ai2 a b
 rw[this];omega
theorem zae(s:ByteArray)(hs:s.size<=1099511627776)(hev:s.size % 2=0)(hd:bD (bl s)=true):∀(n j k:Nat) (o:List Int),j+2*n=s.size->n<k->o.length+n<=35184372088832->jJ k s o (j:Int)=some (o++dU ((bl s).drop j))
 |n,j,0,o,_,hk,_=>by omega
 |0,j,k+1,o,hj,hk,_=>by
  unfold jJ mH
  rw[zF (by omega),zD,List.drop_eq_nil_of_le (by rw[zg];omega),dU,List.append_nil]
  exact fun _ _ _ h=>by cases h
 |n+1,j,k+1,o,hj,hk,ho=>by
  have aq:j<s.size:=by omega
  have xe:j+1<s.size:=by omega
  have hl:j<(bl s).length:=by rw[zg];exact aq
  have Ak:j+1<(bl s).length:=by rw[zg];exact xe
  have d1:=List.all_eq_true.1 hd _ (List.getElem_mem hl)
  have d2:=List.all_eq_true.1 hd _ (List.getElem_mem Ak)
  have e:zW zI ((j:Int)+2)=((j+2:Nat):Int):=by rw[zk (by omega) (by omega)];omega
  unfold jJ mH
  rw[zT (by omega),zC,zi aq,zr (by omega),zi xe,Int.toNat_natCast,Int.toNat_natCast,P6 hl,P6 Ak,Yc d1 d2,zT (by simp only[List.length_singleton];omega),zC,e]
  dsimp only
  rw[zae s hs hev hd n (j+2) k _ (by omega) (by omega) (by rw[List.length_append,List.length_singleton];omega),List.drop_eq_getElem_cons hl,List.drop_eq_getElem_cons Ak,dU,List.append_assoc]
  rfl
theorem Yd:bl (bs [48])=[48]:=by decide
theorem zhc(s:ByteArray)(hs:s.size<=maxLen):Q1 s=some (qu s):=by
 unfold Q1 kM qu
 by_cases h1:(999:Int)<(s.size:Int)
 ·rw[zT h1,zC,zF (by omega)];rfl
 ·rw[zF h1,zD,VD s hs,zc]
  cases hd:bD (bl s) with
  |false=>rw[zF (p:=s.size<=999/\false=true) (fun h=>by cases h.2)];rfl
  |true=>
   rw[Bool.not_true,zD,zT (⟨by omega,rfl⟩:s.size<=999/\true=true),zC,F4]
   by_cases hp:s.size % 2=1
   ·have dx:(bs [48]++s).size=s.size+1:=by rw[ByteArray.size_append];show 1+s.size=_;omega
    have hb:bl (bs [48]++s)=48::bl s:=by rw[rX,Yd];rfl
    rw[if_pos hp,zF (by omega),Bool.not_false,zC,zT (by show 1+s.size<=_;omega),zC,dx]
    have e:Int.tdiv ((s.size+1:Nat):Int) 2=(((s.size+1)/2:Nat):Int):=rfl
    rw[e,zk (by omega) (by omega),zT (by omega),zC,zT (by omega),zC]
    have:=zae (bs [48]++s) (by omega) (by omega) (by rw[hb];show(cG 48&&bD (bl s))=true;rw[hd];rfl) ((s.size+1)/2) 0 ag [] (by omega) (by rw[zq];omega) (by simp;omega)
    rw[show((0:Nat):Int)=0 from rfl,List.drop_zero,List.nil_append,hb] at this
    dsimp only
    rw[this];rfl
   ·rw[if_neg hp,zT (by omega),Bool.not_true,zD]
    have e:Int.tdiv ((s.size:Nat):Int) 2=((s.size/2:Nat):Int):=rfl
    rw[e,zk (by omega) (by omega),zT (by omega),zC,zT (by omega),zC]
    have:=zae s (by omega) (by omega) hd (s.size/2) 0 ag [] (by omega) (by rw[zq];omega) (by simp;omega)
    rw[show((0:Nat):Int)=0 from rfl,List.drop_zero,List.nil_append] at this
    dsimp only
    rw[this];rfl
theorem OR(n:Int)(h0:0<=n)(h1:n<=999):Q2 n=some ((n+1)/2):=by
 unfold Q2 oP
 obtain⟨m,rfl⟩:∃m:Nat,n=m:=⟨n.toNat,by omega⟩
 by_cases h:(m:Int)<1
 ·rw[zT h,zC]
  congr 1
  omega
 ·rw[zF h,zD,F4]
  have e:Int.tdiv (m:Int) 2=((m/2:Nat):Int):=rfl
  have e2:zW zI ((m/2:Nat):Int)=((m/2:Nat):Int):=zk (by omega) (by omega)
  rw[e,e2,zk (by omega) (by omega)]
  congr 1
  omega
theorem ajT:∀d:Fin 16,d.1<=9->zW zU ((48:Int)+(d.1:Int))=48+(d.1:Int):=by decide+kernel
theorem J5{d:Nat}(h:d<=9):zW zU ((48:Int)+(d:Int))=48+(d:Int):=ajT ⟨d,by omega⟩ h
theorem znr(b:ByteArray)(hb0:b.size<=1099511627776)(nn:Nat)(hn:nn<=999)(m:Nat)(hm:m<=b.size):∀(n j k:Nat) (o:List Int),j+n=m->n<k->o.length+2*n<=35184372088832->∃o',iR k b (nn:Int) o (m:Int) (j:Int)=some (match gK (decide (nn % 2=1)) (((bl b).take m).drop j) j with
 |some e=> .inl ((nn:Int),bs [],e.1,e.2,o')
 |none=> .inr ((nn:Int),o++dT (((bl b).take m).drop j)))
 |n,j,0,o,_,hk,_=>by omega
 |0,j,k+1,o,hj,hk,_=>by
  unfold iR mA
  rw[zF (by omega),zD,List.drop_eq_nil_of_le (by rw[List.length_take,zg];omega)]
  exact⟨o,by simp [gK,dT]⟩
 |n+1,j,k+1,o,hj,hk,ho=>by
  have aq:j<b.size:=by omega
  have hl:j<(bl b).length:=by rw[zg];exact aq
  have hl2:j<((bl b).take m).length:=by rw[List.length_take];omega
  obtain⟨x,hx,_,_⟩:=nib (mh (List.getElem_mem hl))
  have Au:=x.2
  have ih:=znr b hb0 nn hn m hm n (j+1) k (o++ [48+((x.1/16:Nat):Int),48+((x.1 % 16:Nat):Int)]) (by omega) (by omega) (by rw[List.length_append];simp only[List.length_cons,List.length_nil];omega)
  have hw:∀{R:Type} (z:Option R),zd (j:Int) b.size z=z:=fun z=>zi aq
  have iG:((bl b).take m).drop j=(x.1:Int)::((bl b).take m).drop (j+1):=by rw[List.drop_eq_getElem_cons hl2,List.getElem_take,hx]
  rw[iG,gK,dT]
  unfold iR mA
  simp only[hw,Int.toNat_natCast,P6 hl,hx,(Vx x).1,(Vx x).2.1,F4]
  rw[zT (by omega:(j:Int)<(m:Int)),zC]
  have e16:(x.1:Int)/16=((x.1/16:Nat):Int):=by omega
  have e17:(x.1:Int)% 16=((x.1 % 16:Nat):Int):=by omega
  rw[e16,e17]
  have plain:∀(Z:Option (Sum (Int×ByteArray×Int×Int×List Int) (Int×List Int))),Z=(bif decide ((9:Int)<((x.1/16:Nat):Int)) then some (.inl ((nn:Int),bs [],(3:Int),(j:Int),o)) else bif decide ((9:Int)<((x.1 % 16:Nat):Int)) then some (.inl ((nn:Int),bs [],(3:Int),(j:Int),o)) else(bif decide ((o.length+(List.length ([zW zU (48+((x.1/16:Nat):Int)),zW zU (48+((x.1 % 16:Nat):Int))]:List Int)))*1<=140737488355328) then iR k b (nn:Int) (o++ [zW zU (48+((x.1/16:Nat):Int)),zW zU (48+((x.1 % 16:Nat):Int))]) (m:Int) (zW zI ((j:Int)+1)) else none))->
   ∃o',Z=some (match(if 9<((x.1/16:Nat):Int)\/9<((x.1 % 16:Nat):Int) then some ((3:Int),(j:Int)) else gK (decide (nn % 2=1)) (((bl b).take m).drop (j+1)) (j+1)) with
    |some e=> .inl ((nn:Int),bs [],e.1,e.2,o')
    |none=> .inr ((nn:Int),o++(48+((x.1/16:Nat):Int))::(48+((x.1 % 16:Nat):Int))::dT (((bl b).take m).drop (j+1)))):=fun Z hZ=>by
   rw[hZ]
   by_cases c1:(9:Int)<((x.1/16:Nat):Int)
   ·rw[zT c1,if_pos (.inl c1)]
    exact⟨o,rfl⟩
   ·by_cases c2:(9:Int)<((x.1 % 16:Nat):Int)
    ·rw[zF c1,zD,zT c2,if_pos (.inr c2)]
     exact⟨o,rfl⟩
    ·rw[zF c1,zD,zF c2,zD,if_neg (fun h=>h.elim c1 c2),J5 (by omega),J5 (by omega),zT (by simp only[List.length_cons,List.length_nil];omega),zC,zr (by omega)]
     obtain⟨o',h⟩:=ih
     refine⟨o',h.trans ?_⟩
     rw[List.append_assoc]
     rfl
  by_cases j0:j=0
  ·subst j0
   rw[zT (by omega:((0:Nat):Int)=0),zC]
   by_cases hp:nn % 2=1
   ·rw[zT hp,zF (by omega:¬((nn % 2:Nat):Int)=0),Bool.not_false,zC]
    by_cases hz:x.1/16=0
    ·rw[if_neg (by omega),zT (by omega),Bool.not_true,zD]
     have:=plain _ rfl
     rw[zT hp] at this
     exact this
    ·rw[if_pos (by simp;omega),zF (by omega),Bool.not_false,zC]
     exact⟨o,rfl⟩
   ·rw[zF hp,zT (by omega:((nn % 2:Nat):Int)=0),Bool.not_true,zD,if_neg (by simp)]
    have:=plain _ rfl
    rw[zF hp] at this
    exact this
  ·rw[zF (by omega:¬(j:Int)=0),zD,if_neg (by omega)]
   exact plain _ rfl
theorem zhb(b:ByteArray)(n:Int)(hb:b.size<=1099511627776):Q0 b n=some (kK b n):=by
 unfold Q0 oF kK
 by_cases h0:n<0
 ·rw[zT h0,if_pos (.inl h0)];rfl
 ·rw[zF h0,zD]
  by_cases h1:999<n
  ·rw[zT h1,if_pos (.inr h1)];rfl
  ·rw[zF h1,zD,if_neg (fun h=>h.elim h0 h1),OR n (by omega) (by omega),zc]
   by_cases h2:(b.size:Int)<(n+1)/2
   ·rw[zT h2,if_pos h2];rfl
   ·rw[zF h2,zD,if_neg h2,zk (by omega) (by omega),zT (by omega),zC,zT (by omega),zC,zc]
    obtain⟨nn,rfl⟩:∃nn:Nat,n=nn:=⟨n.toNat,by omega⟩
    have em:((nn:Int)+1)/2=(((nn+1)/2:Nat):Int):=by omega
    have ep:((nn:Int)% 2).toNat=nn % 2:=by omega
    have eo:decide ((nn:Int)% 2=1)=decide (nn % 2=1):=decide_eq_decide.2 (by omega)
    rw[em,Int.toNat_natCast,eo,ep]
    obtain⟨o',h⟩:=znr b hb nn (by omega) ((nn+1)/2) (by omega) ((nn+1)/2) 0 ag [] (by omega) (by rw[zq];omega) (by simp;omega)
    rw[show((0:Nat):Int)=0 from rfl,List.drop_zero,List.nil_append] at h
    dsimp only
    rw[h,zc]
    cases gK (decide (nn % 2=1)) ((bl b).take ((nn+1)/2)) 0 with
    |some e=>rfl
    |none=>
     dsimp only
     rw[Sum.elim_inr]
     unfold oG
     dsimp only
     rw[F4,zT (by omega),zC]
     have hlen:∀l:List Int,(dT l).length=2*l.length:=fun l=>by
      induction l with
      |nil=>rfl
      |cons x r ih=>rw[dT,List.length_cons,List.length_cons,ih,List.length_cons];omega
     rw[zT (by rw[hlen,List.length_take,zg];omega),zC,Int.toNat_natCast,List.take_length]
theorem rB{a:Int}{l:List Int}:bD (a::l)=true↔cG a=true/\bD l=true:=by
 rw[zh5,Bool.and_eq_true]
theorem vl{a:Int}:cG a=true↔48<=a/\a<=57:=by
 unfold cG
 rw[decide_eq_true_eq]
theorem zpz:∀l:List Int,(dU l).length=l.length/2
 | []=>rfl
 | [a]=>by simp [dU]
 |a::b::r=>by rw[dU,List.length_cons,zpz r,List.length_cons,List.length_cons];omega
theorem zpy:∀l:List Int,(dT l).length=2*l.length
 | []=>rfl
 |x::r=>by rw[dT,List.length_cons,List.length_cons,zpy r,List.length_cons];omega
theorem KG:∀{l:List Int},bD l=true->∀y∈dU l,zo y
 | [],_,y,hy=>by simp [dU] at hy
 | [a],_,y,hy=>by simp [dU] at hy
 |a::b::r,h,y,hy=>by
  obtain⟨h1,h2⟩:=rB.1 h
  obtain⟨h2,h3⟩:=rB.1 h2
  rw[vl] at h1 h2
  rw[dU] at hy
  rcases List.mem_cons.1 hy with rfl|hy
  ·unfold zo;omega
  ·exact KG h3 y hy
theorem zQ:∀{l:List Int},l.length % 2=0->bD l=true->dT (dU l)=l
 | [],_,_=>by simp [dU,dT]
 | [a],h,_=>by simp at h
 |a::b::r,h,hd=>by
  obtain⟨h1,h2⟩:=rB.1 hd
  obtain⟨h2,h3⟩:=rB.1 h2
  rw[vl] at h1 h2
  rw[dU,dT,zQ (by simp only[List.length_cons] at h;omega) h3,show 48+(16*(a-48)+(b-48))/16=a by omega,show 48+(16*(a-48)+(b-48))% 16=b by omega]
theorem zP(odd:Bool):∀{l:List Int} {i:Nat},l.length % 2=0->bD l=true->(i=0->odd=true->l.getD 0 48=48)->gK odd (dU l) i=none
 | [],_,_,_,_=>by simp [dU,gK]
 | [a],_,h,_,_=>by simp at h
 |a::b::r,i,h,hd,ho=>by
  obtain⟨h1,h2⟩:=rB.1 hd
  obtain⟨h2,h3⟩:=rB.1 h2
  rw[vl] at h1 h2
  rw[dU,gK,if_neg,if_neg (by omega)]
  ·exact zP odd (by simp only[List.length_cons] at h;omega) h3 fun hi=>by omega
  ·rintro⟨e1,e2,e3⟩
   have:a=48:=ho e1 e2
   omega
def hN(s:ByteArray):List Int:=if s.size % 2=1 then 48::bl s else bl s
theorem KH(s:ByteArray):(hN s).length % 2=0:=by
 unfold hN
 split
 ·rw[List.length_cons,zg];omega
 ·rw[zg];omega
theorem L8(s:ByteArray):(hN s).length/2=(s.size+1)/2:=by
 unfold hN
 split
 ·rw[List.length_cons,zg]
 ·rw[zg];omega
theorem zq0{s:ByteArray}(h:bD (bl s)=true):bD (hN s)=true:=by
 unfold hN
 split
 ·exact rB.2 ⟨rfl,h⟩
 ·exact h
theorem zhe{s:ByteArray}(h:s.size<=999)(hd:bD (bl s)=true):qu s=(strOf (dU (hN s)),true):=by
 unfold qu hN
 rw[zT ⟨h,hd⟩,zC]
theorem zaf{s:ByteArray}(h:s.size<=999)(hd:bD (bl s)=true):(qu s).1.size=(s.size+1)/2:=by
 rw[zhe h hd]
 show(strOf _).size=_
 rw[vk,zpz,L8]
theorem ai3{s:ByteArray}(h:s.size<=999)(hd:bD (bl s)=true):kK (qu s).1 (s.size:Int)=(s,0,0):=by
 have dx:=zaf h hd
 have hb:bl (qu s).1=dU (hN s):=by rw[zhe h hd];exact uT (KG (zq0 hd))
 unfold kK
 rw[if_neg (by omega),if_neg (by rw[dx];omega),hb,List.take_of_length_le (by rw[zpz,L8];omega),zP _ (KH s) (zq0 hd),zQ (KH s) (zq0 hd)]
 ·dsimp only
  by_cases hp:s.size % 2=1
  ·rw[show((s.size:Int)% 2).toNat=1 by omega]
   unfold hN
   rw[if_pos hp,List.drop_succ_cons,List.drop_zero,z59]
  ·rw[show((s.size:Int)% 2).toNat=0 by omega]
   unfold hN
   rw[if_neg hp,List.drop_zero,z59]
 ·intro _ ho
  have ho:=of_decide_eq_true ho
  unfold hN
  rw[if_pos (by omega)];rfl
theorem KE{odd:Bool}:∀{l:List Int} {i:Nat},gK odd l i=none->(∀x∈l,x/16<=9/\x % 16<=9)/\(i=0->odd=true->l.getD 0 0/16=0)
 | [],i,_=>⟨fun x hx=>(by cases hx),fun _ _=>rfl⟩
 |a::r,i,h=>by
  rw[gK] at h
  by_cases h1:i=0/\odd=true/\a/16≠0
  ·rw[if_pos h1] at h;cases h
  ·rw[if_neg h1] at h
   by_cases h2:9<a/16\/9<a % 16
   ·rw[if_pos h2] at h;cases h
   ·rw[if_neg h2] at h
    refine⟨fun x hx=> ?_,fun hi ho=> ?_⟩
    ·rcases List.mem_cons.1 hx with rfl|hx
     ·omega
     ·exact(KE h).1 x hx
    ·show a/16=0
     by_cases h3:a/16=0
     ·exact h3
     ·exact absurd ⟨hi,ho,h3⟩ h1
theorem zR:∀{l:List Int},(∀x∈l,zo x)->dU (dT l)=l
 | [],_=>by simp [dT,dU]
 |x::r,h=>by
  have hx:=h x List.mem_cons_self
  unfold zo at hx
  rw[dT,dU,zR fun y hy=>h y (List.mem_cons_of_mem _ hy),show 16*(48+x/16-48)+(48+x % 16-48)=x by omega]
theorem L7:∀{l:List Int},(∀x∈l,zo x)->(∀x∈l,x/16<=9/\x % 16<=9)->bD (dT l)=true
 | [],_,_=>rfl
 |x::r,h,h9=>by
  have hx:=h x List.mem_cons_self
  have hy:=h9 x List.mem_cons_self
  unfold zo at hx
  rw[dT]
  exact rB.2 ⟨vl.2 (by omega),rB.2 ⟨vl.2 (by omega),L7 (fun y hy=>h y (List.mem_cons_of_mem _ hy)) fun y hy=>h9 y (List.mem_cons_of_mem _ hy)⟩⟩
theorem KW{l:List Int}(h:bD l=true):∀x∈l,zo x:=fun x hx=>by
 have:=vl.1 (List.all_eq_true.1 h x hx)
 unfold zo;omega
theorem KI{b t:ByteArray}{n i:Int}(h:kK b n=(t,0,i))(hb:(b.size:Int)=(n+1)/2):qu t=(b,true)/\(t.size:Int)=n/\bD (bl t)=true:=by
 unfold kK at h
 by_cases h0:n<0\/999<n
 ·rw[if_pos h0] at h;cases h
 ·rw[if_neg h0,if_neg (by omega),<-hb,Int.toNat_natCast,List.take_of_length_le (by rw[zg];exact Nat.le_refl _)] at h
  cases he:gK (decide (n % 2=1)) (bl b) 0 with
  |some e=>
   rw[he] at h
   dsimp only at h
   injection h with _ h
   injection h with h _
   exfalso
   have key:∀{l:List Int} {i:Nat} {odd:Bool} {e:Int×Int},gK odd l i=some e->e.1≠0:=by
    intro l
    induction l with
    |nil=>intro i odd e h;cases h
    |cons a r ih=>
     intro i odd e h
     rw[gK] at h
     split at h
     ·cases h;decide
     ·split at h
      ·cases h;simp
      ·exact ih h
   exact key he h
  |none=>
   rw[he] at h
   dsimp only at h
   obtain⟨g1,g2⟩:=KE he
   have nA:∀x∈bl b,zo x:=fun x hx=>mh hx
   have cQ:=L7 nA g1
   have ht:t=strOf ((dT (bl b)).drop (n % 2).toNat):=(congrArg Prod.fst h).symm
   have Ae:bD ((dT (bl b)).drop (n % 2).toNat)=true:=List.all_eq_true.2 fun x hx=>List.all_eq_true.1 cQ x (List.mem_of_mem_drop hx)
   have dg:bl t=(dT (bl b)).drop (n % 2).toNat:=by rw[ht];exact uT (KW Ae)
   have kq:t.size=2*b.size-(n % 2).toNat:=by rw[<-zg,dg,List.length_drop,zpy,zg]
   have hX:hN t=dT (bl b):=by
    unfold hN
    by_cases hp:n % 2=1
    ·rw[if_pos (by omega),dg,show(n % 2).toNat=1 by omega]
     have h1:=g2 rfl (by rw[zT hp])
     cases hl:bl b with
     |nil=>
      have h9:b.size=0:=by rw[<-zg,hl];rfl
      omega
     |cons x r=>
      rw[hl] at h1
      have h1:x/16=0:=h1
      rw[dT,List.drop_succ_cons,List.drop_zero,h1];rfl
    ·rw[if_neg (by omega),dg,show(n % 2).toNat=0 by omega,List.drop_zero]
   have hd:bD (bl t)=true:=by rw[dg];exact Ae
   refine⟨?_,by omega,hd⟩
   rw[zhe (by omega) hd,hX,zR nA,z59]
def gf(ae form:Int):Bool:=decide ((ae=1\/ae=2)/\(form=2\/form=3))
def kH(ae form:Int):Nat:=if ae=2 then(form.toNat+1)/2 else form.toNat
def Ff(ae form n:Int):ByteArray×Int:=
 bif gf ae form then(bif(jw n form).2 then(if ae=2 then(qu (jw n form).1).1 else(jw n form).1,0) else(bs [],5)) else(bs [],1)
def uw(ae form:Int)(s:ByteArray):Option Int:=
 if ae=2 then(if(kK s form).2.1=0 then(if(dX (bl (kK s form).1)).2=true then some (dX (bl (kK s form).1)).1 else none) else none) else if(dX (bl s)).2=true then some (dX (bl s)).1 else none
def z24(ae form:Int)(b:ByteArray)(at_:Int):Int×Int×Int:=
 bif gf ae form&&decide (0<=at_/\at_<=b.size) then(if b.size<at_.toNat+kH ae form then(0,0,2) else
  match uw ae form (b.extract at_.toNat (at_.toNat+kH ae form)) with
  |some n=>(n,((at_.toNat+kH ae form:Nat):Int),0)
  |none=>(0,0,3)) else(0,0,1)
theorem LH(n w:Int):(jw n w).1.size<=18:=by
 by_cases h:0<=n/\1<=w/\w<=18/\n.toNat/10^w.toNat=0
 ·rw[D7 h];show(strOf _).size<=18;rw[vk,zdh];omega
 ·rw[QK h];decide
theorem agw(ae form n:Int)(hn:n<=9223372036854775807):qD ae form n=some (Ff ae form n):=by
 unfold qD T4 qE PI jI PJ Ff gf
 by_cases h1:ae=1<;>by_cases h2:ae=2<;>by_cases h3:form=2<;>by_cases h4:form=3<;>(try(exfalso;omega))<;>simp [h1,h2,h3,h4,amF _ _ hn]
 all_goals
  cases hp:(jw n _).2<;>simp [hp]
 all_goals
  rw[zhc _ (by have:=LH n;simp only[maxLen];first|(have:=this 2;omega)|(have:=this 3;omega))]
  rfl
theorem Er{b:ByteArray}{i n:Nat}(h:i+n<=b.size):(b.extract i (i+n)).size=n:=by rw[ByteArray.size_extract];omega
theorem zad{b t:ByteArray}{n e i:Int}(h:kK b n=(t,e,i)):t.size<=1998:=by
 unfold kK at h
 split at h
 ·cases h;decide
 ·split at h
  ·cases h;decide
  ·split at h
   ·cases h;decide
   ·cases h
    rw[vk,List.length_drop,zpy,List.length_take]
    omega
theorem agt(ae form:Int)(b:ByteArray)(at_:Int)(hb:b.size<=1099511627776):sP ae form b at_=some (z24 ae form b at_):=by
 unfold sP TZ qE PI jI PJ z24 gf
 by_cases ci:0<=at_/\at_<=b.size
 ·obtain⟨m,rfl⟩:∃m:Nat,at_=m:=⟨at_.toNat,by omega⟩
  have hm:m<=b.size:=by omega
  have w0:zW zI ((b.size:Int)-(m:Int))=(b.size:Int)-m:=zk (by omega) (by omega)
  have w1:∀k:Nat,k<=3->zW zI ((m:Int)+(k:Int))=((m+k:Nat):Int):=fun k hk=>by rw[zk (by omega) (by omega)];omega
  have z1:=OR 2 (by decide) (by decide)
  have z2:=OR 3 (by decide) (by decide)
  have v1:=w1 1 (by decide)
  have v2:=w1 2 (by decide)
  have v3:=w1 3 (by decide)
  rw[show((1:Nat):Int)=1 from rfl] at v1
  rw[show((2:Nat):Int)=2 from rfl] at v2
  rw[show((3:Nat):Int)=3 from rfl] at v3
  have t2:((m:Int)+2).toNat=m+2:=by omega
  have t3:((m:Int)+3).toNat=m+3:=by omega
  have a1:¬(m:Int)<0:=by omega
  have a2:¬(b.size:Int)<m:=by omega
  have a3:0<=((m:Int)):=by omega
  have a4:(m:Int)<=b.size:=by omega
  by_cases h1:ae=1<;>by_cases h2:ae=2<;>by_cases h3:form=2<;>by_cases h4:form=3<;>(try(exfalso;omega))<;>simp [h1,h2,h3,h4,a1,a2,w0,z1,z2,v1,v2,v3,kH]
  all_goals
   rw[zT hm,zC]
   split
   ·rename_i hc
    rw[zT (by omega),zC]
   ·rename_i hc
    rw[zF (by omega),zD,zT (by omega),zC,zT (by omega),zC,zT (by omega),zC]
    try rw[t2]
    try rw[t3]
    first
     |(rw[N5 _ (by rw[ByteArray.size_extract];simp only[maxLen];omega),zc]
       unfold uw
       rw[if_neg (by decide)]
       cases(dX _).2<;>rfl)
     |(rw[zhb _ _ (by rw[ByteArray.size_extract];omega),zc]
       unfold uw
       rw[if_pos rfl]
       generalize hg:kK _ _=gg
       obtain⟨t,e,i⟩:=gg
       dsimp only
       by_cases he:e=0
       ·rw[zT he,zC,if_pos he,N5 _ (by have:=zad hg;simp only[maxLen];omega),zc]
        cases(dX _).2<;>rfl
       ·rw[zF he,if_neg he];rfl)
 ·rw[zF (p:=0<=at_/\at_<=(b.size:Int)) ci,Bool.and_false,zD]
  by_cases h1:ae=1<;>by_cases h2:ae=2<;>by_cases h3:form=2<;>by_cases h4:form=3<;>(try(exfalso;omega))<;>by_cases h5:at_<0<;>by_cases h6:(b.size:Int)<at_<;>(try(exfalso;omega))<;>simp [h1,h2,h3,h4,h5,h6]
theorem CN(n:Int):Q4 n=some (if n<0\/65535<n then 0 else if 255<n then 3 else if 127<n then 2 else 1):=by
 unfold Q4 oY
 by_cases h1:n<0
 ·rw[zT h1,if_pos (.inl h1)];rfl
 by_cases h2:(65535:Int)<n
 ·rw[zF h1,zT h2,if_pos (.inr h2)];rfl
 rw[zF h1,zF h2,if_neg (by omega)]
 by_cases h3:(255:Int)<n
 ·rw[zT h3,if_pos h3];rfl
 by_cases h4:(127:Int)<n
 ·rw[zF h3,zT h4,if_neg h3,if_pos h4];rfl
 ·rw[zF h3,zF h4,if_neg h3,if_neg h4];rfl
theorem Aa:∃k,ag=k+1+1+1:=⟨ag-3,by rw[zq]⟩
theorem NP{y:Int}(hy:zo y):aP .or .i64 (zW zI (0*2^min (8:Int).toNat 64)) (zW zI y)=y:=by
 obtain⟨k,rfl⟩:=mr hy
 clear hy
 revert k
 decide+kernel
theorem afo(s:ByteArray)(hs:s.size<=9223372036854775000)(a:Int):Q3 s a=yr s a:=by
 unfold Q3 kN yr Qv
 by_cases h1:a<0
 ·rw[zT h1];rfl
 rw[zF h1,zD,zD]
 by_cases h2:(s.size:Int)<a
 ·rw[zT h2];rfl
 rw[zF h2,zD,zD]
 by_cases h3:a=(s.size:Int)
 ·rw[zT h3];rfl
 have wa:∀{R:Type} (x:Option R),zd a s.size x=x:=fun x=>zm (by omega) (by omega)
 rw[zF h3,zD,zD]
 simp only[wa]
 obtain⟨x,hx⟩:=mr (uM s a.toNat)
 have Au:=x.2
 have w1:zW zI (a+1)=a+1:=zk (by omega) (by omega)
 have w2:zW zI (x.1:Int)=(x.1:Int):=zk (by omega) (by omega)
 have w4:zW zI ((s.size:Int)-a)=(s.size:Int)-a:=zk (by omega) (by omega)
 have w5:zW zI ((s.size:Int)-(a+1))=(s.size:Int)-(a+1):=zk (by omega) (by omega)
 have w6:zW zI ((x.1:Int)-128)=(x.1:Int)-128:=zk (by omega) (by omega)
 have w7:zW zI ((x.1:Int)-127)=(x.1:Int)-127:=zk (by omega) (by omega)
 obtain⟨k,hk⟩:=Aa
 simp only[hx,w2,w1,w4,w5,w6,w7,hk]
 by_cases h4:(127:Int)<(x.1:Int)
 ·rw[zT h4,zC,zF (by omega:¬(x.1:Int)<128),zD]
  by_cases h5:(x.1:Int)=129
  ·have wn:zW zI (0+1)=1:=rfl
   simp only[h5]
   by_cases h6:(s.size:Int)-a<2
   ·have e1:((s.size:Int)-(a+1)<129-128):=by omega
    have e2:((s.size:Int)-a<129-127):=by omega
    rw[zT e1,zT e2];rfl
   ·have e1:¬((s.size:Int)-(a+1)<129-128):=by omega
    have e2:¬((s.size:Int)-a<129-127):=by omega
    have wb:∀{R:Type} (x:Option R),zd (a+1) s.size x=x:=fun x=>zm (by omega) (by omega)
    have wc:∀{R:Type} (x:Option R),zd (zW zI (a+1+0)) s.size x=x:=fun x=>by rw[Int.add_zero,w1];exact wb x
    obtain⟨y,hy⟩:=mr (uM s (a+1).toNat)
    have Rs:=y.2
    have w3:zW zI (y.1:Int)=(y.1:Int):=zk (by omega) (by omega)
    have oz:=NP (y:=(y.1:Int)) ⟨by omega,by omega⟩
    rw[w3] at oz
    rw[zF e1,zF e2]
    have l1:eO (k+1+1+1) s (a+1) 0 (129-128) (129-128) 0=some (a+1,(y.1:Int),129-128):=by
     simp only[eO,kO]
     rw[show decide ((0:Int)<129-128)=true from rfl,zC,wc,wn,show decide ((1:Int)<129-128)=false from rfl,zD,Int.add_zero,w1,hy,w3,oz]
    simp only[wb,hy,w3]
    show(eO (k+1+1+1) s (a+1) 0 (129-128) (129-128) 0).bind _=_
    rw[l1,Option.bind_some]
    unfold kP
    dsimp only
    rw[CN,Option.bind_some]
    by_cases h7:(y.1:Int)<128
    ·rw[if_neg (by omega),if_neg (by omega),if_neg (by omega),zT h7];rfl
    ·rw[if_neg (by omega),if_neg (by omega),if_pos (by omega),zF h7]
     have:zW zI (a+1+(129-128))=zW zI (a+2):=by congr 1;omega
     simp only[this]
     rfl
  ·by_cases h6:(x.1:Int)=130
   ·have wn:zW zI (0+1)=1:=rfl
    have wm:zW zI (1+1)=2:=rfl
    simp only[h6]
    by_cases h7:(s.size:Int)-a<3
    ·have e1:((s.size:Int)-(a+1)<130-128):=by omega
     have e2:((s.size:Int)-a<130-127):=by omega
     rw[zT e1,zT e2];rfl
    ·have e1:¬((s.size:Int)-(a+1)<130-128):=by omega
     have e2:¬((s.size:Int)-a<130-127):=by omega
     have wb:∀{R:Type} (x:Option R),zd (a+1) s.size x=x:=fun x=>zm (by omega) (by omega)
     have w8:zW zI (a+2)=a+2:=zk (by omega) (by omega)
     have w9:zW zI (a+1+1)=a+2:=by rw[zk (by omega) (by omega)];omega
     have wd:∀{R:Type} (x:Option R),zd (a+2) s.size x=x:=fun x=>zm (by omega) (by omega)
     obtain⟨y,hy⟩:=mr (uM s (a+1).toNat)
     obtain⟨z,hz⟩:=mr (uM s (a+2).toNat)
     have Rs:=y.2
     have Zp:=z.2
     have w3:zW zI (y.1:Int)=(y.1:Int):=zk (by omega) (by omega)
     have Kw:zW zI (z.1:Int)=(z.1:Int):=zk (by omega) (by omega)
     have oz:=NP (y:=(y.1:Int)) ⟨by omega,by omega⟩
     have ob:=zqj (x:=(y.1:Int)) (y:=(z.1:Int)) ⟨by omega,by omega⟩ ⟨by omega,by omega⟩
     rw[w3] at oz
     rw[w3,Kw] at ob
     rw[zF e1,zF e2]
     have l1:eO (k+1+1+1) s (a+1) 0 (130-128) (130-128) 0=some (a+1,(y.1:Int)*256+(z.1:Int),130-128):=by
      simp only[eO,kO]
      rw[show decide ((0:Int)<130-128)=true from rfl,zC,wn,wm,show decide ((1:Int)<130-128)=true from rfl,zC,show decide ((2:Int)<130-128)=false from rfl,zD,Int.add_zero,w1,wb,w9,wd,hy,hz,w3,Kw,oz,ob]
     have w5':zW zI (256*(y.1:Int))=256*(y.1:Int):=zk (by omega) (by omega)
     have w6':zW zI (256*(y.1:Int)+(z.1:Int))=(y.1:Int)*256+(z.1:Int):=by rw[zk (by omega) (by omega)];omega
     simp only[wb,w8,wd,hy,hz,w3,Kw,w5',w6']
     show(eO (k+1+1+1) s (a+1) 0 (130-128) (130-128) 0).bind _=_
     rw[l1,Option.bind_some]
     unfold kP
     dsimp only
     rw[CN,Option.bind_some]
     by_cases h8:(y.1:Int)=0
     ·rw[if_neg (by omega),if_neg (by omega),zT h8]
      by_cases h9:(127:Int)<(y.1:Int)*256+(z.1:Int)
      ·rw[if_pos h9];rfl
      ·rw[if_neg h9];rfl
     ·rw[if_neg (by omega),if_pos (by omega),zF h8]
      have:zW zI (a+1+(130-128))=zW zI (a+3):=by congr 1;omega
      simp only[this]
      rfl
   ·rw[zF h5,zF h6]
    by_cases h7:(x.1:Int)=128
    ·rw[zT h7];rfl
    ·rw[zF h7,zT (by omega:(130:Int)<(x.1:Int))];rfl
 ·rw[zF h4,zD,zT (by omega:(x.1:Int)<128),zC,zF (by omega:¬(s.size:Int)-(a+1)<0),zD]
  have l1:eO (k+1+1+1) s (a+1) (x.1:Int) 0 0 0=some (a+1,(x.1:Int),0):=by
   simp only[eO,kO]
   rw[show decide ((0:Int)<0)=false from rfl,zD]
  show(eO (k+1+1+1) s (a+1) (x.1:Int) 0 0 0).bind _=_
  rw[l1,Option.bind_some]
  unfold kP
  dsimp only
  rw[CN,Option.bind_some,if_neg (by omega),if_neg (by omega),if_neg (by omega),Int.add_zero,w1]
  rfl
abbrev bh:=Int×ByteArray×Unit
theorem zv0(l:List bh)(hl:l.length<=9223372036854775807)(t:Int):∀(m j k:Nat),j+m=l.length->m<k->E9 k l (l.length:Int) t (j:Int)=some (if t∈(l.drop j).map (fun v=>v.1) then .inl true else .inr ())
 |m,j,0,_,hk=>by omega
 |0,j,k+1,hj,hk=>by
  unfold E9 Qy
  rw[zF (by omega),List.drop_eq_nil_of_le (by omega)];rfl
 |m+1,j,k+1,hj,hk=>by
  have aq:j<l.length:=by omega
  have hg:∀d,l.getD j d=l[j]:=fun d=>by rw[List.getD_eq_getElem?_getD,List.getElem?_eq_getElem aq];rfl
  unfold E9 Qy
  rw[zT (by omega),zC,zi aq,Int.toNat_natCast,hg,List.drop_eq_getElem_cons aq,List.map_cons]
  by_cases h:l[j].1=t
  ·rw[zT h,if_pos (by rw[h];exact List.mem_cons_self)];rfl
  ·rw[zF h,zD,zr (by omega)]
   dsimp only
   rw[zv0 l hl t m (j+1) k (by omega) (by omega)]
   by_cases h2:t∈(l.drop (j+1)).map (fun v=>v.1)
   ·rw[if_pos h2,if_pos (List.mem_cons_of_mem _ h2)]
   ·rw[if_neg h2,if_neg (fun h3=>(List.mem_cons.1 h3).elim (fun e=>h e.symm) h2)]
theorem Mo(l:List bh)(hl:l.length<=maxLen)(t:Int):HL l (l.length:Int) t=some (decide (t∈l.map fun v=>v.1)):=by
 rw[zh] at hl
 unfold HL Xw
 dsimp only
 have:=zv0 l hl t l.length 0 ag (by omega) (by rw[zq];omega)
 rw[show((0:Nat):Int)=(0:Int) from rfl,List.drop_zero] at this
 rw[this,Option.bind_some]
 by_cases h:t∈l.map fun v=>v.1
 ·rw[if_pos h,zT h];rfl
 ·rw[if_neg h,zF h];rfl
theorem MR(b:ByteArray)(hb:b.size<=9223372036854775000):∀(k:Nat) (t5:List bh) (t7:Int),t5.length<=5864062014805->Gh k b t5 t7 (dK (t5.map fun v=>v.1))=Ba k b t5 t7
 |0,_,_,_=>rfl
 |k+1,t5,t7,hl=>by
  unfold Gh U2 Ba Qx
  rw[agN b hb]
  generalize decide (t7<(b.size:Int))=c0
  cases c0 with
  |false=>rfl
  |true=>
   simp only[zC]
   cases yq b t7 with
   |none=>rfl
   |some r1=>
    simp only[Option.bind_some]
    generalize(!decide (r1.2.2=0))=c1
    cases c1 with
    |true=>rfl
    |false=>
     simp only[zD]
     rw[afo b hb]
     cases yr b r1.2.1 with
     |none=>rfl
     |some r2=>
      simp only[Option.bind_some]
      generalize(!decide (r2.2.2=0))=c2
      cases c2 with
      |true=>rfl
      |false=>
       simp only[zD]
       generalize decide (zW zI ((b.size:Int)-r2.2.1)<r2.1)=c3
       cases c3 with
       |true=>rfl
       |false=>
        simp only[zD]
        rw[Mo t5 (by rw[zh];omega),Option.bind_some]
        have e1:=Sf (fT (.int .i64)) (fun _ _=>rfl) r1.1 (t5.map fun v=>v.1)
        have e2:=Sg (fT (.int .i64)) (fun _ _=>rfl) r1.1 (t5.map fun v=>v.1)
        by_cases hm:r1.1∈t5.map fun v=>v.1
        ·rw[e1.2 hm,zT hm];rfl
        ·rw[Em e1 hm,Em e2 hm,zF hm]
         simp only[zD]
         rw[z9n]
         have hs:(t5.map fun v=>v.1)++ [r1.1]=(t5++ [((r1.1,(b.extract r2.2.1.toNat (zW zI (r2.2.1+r2.1)).toNat),()):bh)]).map fun v=>v.1:=by simp
         rw[hs]
         by_cases hn:(t5.length+1)*24<=140737488355328
         ·rw[MR b hb k _ _ (by simp;omega)]
         ·have:decide ((t5.length+(List.length ([(r1.1,(b.extract r2.2.1.toNat (zW zI (r2.2.1+r2.1)).toNat),())]:List bh)))*24<=140737488355328)=false:=zF (by simp;omega)
          simp only[this,zD]
theorem agQ(b:ByteArray)(hb:b.size<=9223372036854775000):tc b=yt b:=by
 unfold tc U1 yt Qw
 dsimp only
 have:=MR b hb ag [] 0 (by simp)
 rw[show dK (([]:List bh).map fun v=>v.1)=[] from rfl] at this
 rw[this]
 rfl
theorem aiV(s:Spec)(x:ByteArray)(hx:x.size<=9223372036854775000):bW s x=mJ s x:=by
 unfold bW UI mJ Gz
 rw[OL,vi,ahd _ _ (by rw[zh];omega),zcw _ _ (by rw[zh];omega),agQ x hx]
theorem abO(a b:Spec):lG a b=uZ a b:=by
 unfold lG UJ uZ GC vL UK
 rw[OL,vi,OL,vi,aiW,zd4]
 simp only[Option.bind_some]
 by_cases h1:bL a=0
 ·by_cases h2:bL b=0
  ·simp only[h1,h2,decide_true,zC,Bool.not_true,zD]
   by_cases h3:a.2.2.2.1<=b.2.2.2.1
   ·rw[zT h3,zF (by omega:¬b.2.2.2.1<a.2.2.2.1)]
    by_cases h4:b.2.2.2.2.1<=a.2.2.2.2.1
    ·rw[zT h4,zF (by omega:¬a.2.2.2.2.1<b.2.2.2.2.1)]
     simp only[zC,zD]
     by_cases h5:a.2.1=5
     ·simp [h5]
     ·by_cases h6:a.2.1=6
      ·simp [h6]
      ·by_cases h7:b.2.1=6
       ·simp [h5,h6,h7]
       ·simp [h5,h6,h7]
    ·rw[zF h4,zT (by omega:a.2.2.2.2.1<b.2.2.2.2.1)];rfl
   ·rw[zF h3,zT (by omega:b.2.2.2.1<a.2.2.2.1)];rfl
  ·simp [h1,h2]
 ·simp [h1]
theorem agO(s:ByteArray)(hs:s.size<=9223372036854775000)(a:Int)(h0:0<=a)(h1:a<s.size):∃r,yq s a=some r/\(r.2.2=0->a<r.2.1/\r.2.1<=s.size):=by
 unfold yq Qu
 have wa:∀{R:Type} (x:Option R),zd a s.size x=x:=fun x=>zm (by omega) (by omega)
 rw[zF (by omega:¬a<0),zF (by omega:¬(s.size:Int)<a),zF (by omega:¬a=(s.size:Int))]
 simp only[zD,wa]
 obtain⟨x,hx⟩:=mr (uM s a.toNat)
 have w1:zW zI (a+1)=a+1:=zk (by omega) (by omega)
 have w4:zW zI ((s.size:Int)-a)=(s.size:Int)-a:=zk (by omega) (by omega)
 rw[hx,w1,w4]
 rcases zdj x with h|⟨h,BJ⟩|⟨h,BJ⟩
 ·rw[h];exact⟨_,rfl,fun h=>by cases h⟩
 ·rw[h]
  exact⟨_,rfl,fun _=>⟨by show a<a+1;omega,by show a+1<=_;omega⟩⟩
 ·rw[h,Option.bind_some]
  simp only[show decide ((2:Int)=0)=false from rfl,show decide ((2:Int)=1)=false from rfl,zD]
  by_cases h4:(s.size:Int)-a<2
  ·rw[zT h4];exact⟨_,rfl,fun h=>by cases h⟩
  ·have wb:∀{R:Type} (x:Option R),zd (a+1) s.size x=x:=fun x=>zm (by omega) (by omega)
   have w2:zW zI (a+2)=a+2:=zk (by omega) (by omega)
   rw[zF h4]
   simp only[zD,wb]
   generalize decide (ze s (a+1).toNat=0)=c1
   generalize decide ((127:Int)<ze s (a+1).toNat)=c2
   cases c1
   ·cases c2
    ·exact⟨_,rfl,fun _=>⟨by show a<zW zI (a+2);rw[w2];omega,by show zW zI (a+2)<=_;rw[w2];omega⟩⟩
    ·exact⟨_,rfl,fun h=>by cases h⟩
   ·exact⟨_,rfl,fun h=>by cases h⟩
theorem afp(s:ByteArray)(hs:s.size<=9223372036854775000)(a:Int)(h0:0<=a)(h1:a<=s.size):∃r,yr s a=some r/\(r.2.2=0->a<r.2.1/\r.2.1<=s.size/\0<=r.1/\r.1<=65535):=by
 unfold yr Qv
 rw[zF (by omega:¬a<0),zF (by omega:¬(s.size:Int)<a)]
 simp only[zD]
 by_cases he:a=(s.size:Int)
 ·rw[zT he];exact⟨_,rfl,fun h=>by cases h⟩
 have wa:∀{R:Type} (x:Option R),zd a s.size x=x:=fun x=>zm (by omega) (by omega)
 rw[zF he]
 simp only[zD,wa]
 obtain⟨x,hx⟩:=mr (uM s a.toNat)
 have Au:=x.2
 have w1:zW zI (a+1)=a+1:=zk (by omega) (by omega)
 have w2:zW zI (x.1:Int)=(x.1:Int):=zk (by omega) (by omega)
 have w4:zW zI ((s.size:Int)-a)=(s.size:Int)-a:=zk (by omega) (by omega)
 have w7:zW zI ((x.1:Int)-127)=(x.1:Int)-127:=zk (by omega) (by omega)
 simp only[hx,w2,w1,w4,w7]
 by_cases h4:(x.1:Int)<128
 ·rw[zT h4]
  exact⟨_,rfl,fun _=>⟨by show a<a+1;omega,by show a+1<=_;omega,by show(0:Int)<=(x.1:Int);omega,by show(x.1:Int)<=65535;omega⟩⟩
 rw[zF h4]
 have Ys:∀i,zo (ze s i):=uM s
 by_cases h5:(x.1:Int)=129
 ·have wb:(s.size:Int)-a<(x.1:Int)-127\/∀{R:Type} (x:Option R),zd (a+1) s.size x=x:=by
   by_cases h:(s.size:Int)-a<(x.1:Int)-127
   ·exact .inl h
   ·exact .inr fun x=>zm (by omega) (by omega)
  rw[zT h5]
  simp only[Bool.not_true,zD,zC]
  by_cases h6:(s.size:Int)-a<(x.1:Int)-127
  ·rw[zT h6];exact⟨_,rfl,fun h=>by cases h⟩
  ·have wb:∀{R:Type} (x:Option R),zd (a+1) s.size x=x:=fun x=>zm (by omega) (by omega)
   have w8:zW zI (a+2)=a+2:=zk (by omega) (by omega)
   obtain⟨y,hy⟩:=mr (Ys (a+1).toNat)
   have Rs:=y.2
   have w3:zW zI (y.1:Int)=(y.1:Int):=zk (by omega) (by omega)
   rw[zF h6]
   simp only[zD,wb,hy,w3,w8]
   generalize decide ((y.1:Int)<128)=c
   cases c
   ·exact⟨_,rfl,fun _=>⟨by show a<a+2;omega,by show a+2<=_;omega,by show(0:Int)<=(y.1:Int);omega,by show(y.1:Int)<=65535;omega⟩⟩
   ·exact⟨_,rfl,fun h=>by cases h⟩
 ·rw[zF h5]
  simp only[Bool.not_false,zD,zC]
  by_cases h9:(x.1:Int)=130
  ·rw[zT h9]
   simp only[Bool.not_true,zD]
   by_cases h6:(s.size:Int)-a<(x.1:Int)-127
   ·rw[zT h6];exact⟨_,rfl,fun h=>by cases h⟩
   ·have wb:∀{R:Type} (x:Option R),zd (a+1) s.size x=x:=fun x=>zm (by omega) (by omega)
    have w8:zW zI (a+2)=a+2:=zk (by omega) (by omega)
    have w9:zW zI (a+3)=a+3:=zk (by omega) (by omega)
    have wd:∀{R:Type} (x:Option R),zd (a+2) s.size x=x:=fun x=>zm (by omega) (by omega)
    obtain⟨y,hy⟩:=mr (Ys (a+1).toNat)
    obtain⟨z,hz⟩:=mr (Ys (a+2).toNat)
    have Rs:=y.2
    have Zp:=z.2
    have w3:zW zI (y.1:Int)=(y.1:Int):=zk (by omega) (by omega)
    have Kw:zW zI (z.1:Int)=(z.1:Int):=zk (by omega) (by omega)
    have w5':zW zI (256*(y.1:Int))=256*(y.1:Int):=zk (by omega) (by omega)
    have w6':zW zI (256*(y.1:Int)+(z.1:Int))=256*(y.1:Int)+(z.1:Int):=zk (by omega) (by omega)
    rw[zF h6]
    simp only[zD,wb,w8,wd,hy,hz,w3,Kw,w5',w6',w9]
    generalize decide ((y.1:Int)=0)=c
    cases c
    ·exact⟨_,rfl,fun _=>⟨by show a<a+3;omega,by show a+3<=_;omega,by show(0:Int)<=256*(y.1:Int)+(z.1:Int);omega,by show 256*(y.1:Int)+(z.1:Int)<=65535;omega⟩⟩
    ·exact⟨_,rfl,fun h=>by cases h⟩
  ·rw[zF h9];exact⟨_,rfl,fun h=>by cases h⟩
theorem z9q(b:ByteArray)(hb:b.size<=1099511627776):∀(n:Nat) (k:Nat) (t5:List bh) (a:Int),0<=a->a<=b.size->(b.size:Int)-a<=n->n<k->t5.length+n<=2199023255552->∃r,Ba k b t5 a=some r
 |n,0,_,_,_,_,_,h,_=>by omega
 |n,k+1,t5,a,h0,h1,h2,h3,h4=>by
  unfold Ba Qx
  by_cases aq:a<(b.size:Int)
  ·obtain⟨r1,e1,p1⟩:=agO b (by omega) a h0 aq
   rw[zT aq,e1,Option.bind_some,zC]
   by_cases z1:r1.2.2=0
   ·obtain⟨q1,q2⟩:=p1 z1
    obtain⟨r2,e2,p2⟩:=afp b (by omega) r1.2.1 (by omega) q2
    simp only[z1,decide_true,Bool.not_true,zD]
    rw[e2,Option.bind_some]
    by_cases z2:r2.2.2=0
    ·obtain⟨u1,u2,u3,u4⟩:=p2 z2
     simp only[z2,decide_true,Bool.not_true,zD]
     have w1:zW zI ((b.size:Int)-r2.2.1)=(b.size:Int)-r2.2.1:=zk (by omega) (by omega)
     have w2:zW zI (r2.2.1+r2.1)=r2.2.1+r2.1:=zk (by omega) (by omega)
     rw[w1,w2]
     by_cases z3:(b.size:Int)-r2.2.1<r2.1
     ·rw[zT z3];exact⟨_,rfl⟩
     ·rw[zF z3,zD,Mo t5 (by rw[zh];omega),Option.bind_some]
      generalize decide (r1.1∈t5.map fun v=>v.1)=c
      cases c with
      |true=>exact⟨_,rfl⟩
      |false=>
       rw[zD,zT (by omega:0<=r2.2.1+r2.1),zT (by omega:r2.2.1+r2.1<=(((b.size:Nat):Int))),zT (by omega:0<=r2.2.1),zT (by omega:r2.2.1<=(((r2.2.1+r2.1).toNat:Nat):Int)),zT (by simp;omega)]
       simp only[zC]
       obtain⟨n,rfl⟩:∃n',n=n'+1:=⟨n-1,by omega⟩
       exact z9q b hb n k _ _ (by omega) (by omega) (by omega) (by omega) (by simp;omega)
    ·simp only[z2,decide_false,Bool.not_false,zC];exact⟨_,rfl⟩
   ·simp only[z1,decide_false,Bool.not_false,zC];exact⟨_,rfl⟩
  ·rw[zF aq];exact⟨_,rfl⟩
theorem zom(b:ByteArray)(hb:b.size<=1099511627776):∃r,yt b=some r:=by
 unfold yt Qw
 dsimp only
 obtain⟨r,hr⟩:=z9q b hb b.size ag [] 0 (by omega) (by omega) (by omega) (by rw[zq];omega) (by simp;omega)
 rw[hr,Option.bind_some]
 cases r<;>exact⟨_,rfl⟩
@[irreducible] def bH (s:Spec) (x:ByteArray):Int:=(mJ s x).getD 0
theorem FR(s:Spec)(x:ByteArray)(hx:x.size<=1099511627776):mJ s x=some (bH s x):=by
 have:∃v,mJ s x=some v:=by
  unfold mJ Gz
  rw[vi,Option.bind_some,zcw _ _ (by rw[zh];omega),Option.bind_some]
  obtain⟨r,hr⟩:=zom x hx
  rw[hr,Option.bind_some]
  generalize(!decide (bL s=0))=c1
  generalize decide ((x.size:Int)<s.2.2.2.1)=c2
  generalize decide (s.2.2.2.2.1<(x.size:Int))=c3
  generalize decide ((0:Int)<=qv s.2.1 (bl x) 0)=c4
  generalize decide (s.2.1=6)=c5
  cases c1<;>cases c2<;>cases c3<;>cases c4<;>cases c5<;>first|exact⟨_,rfl⟩|skip
  cases r with
  |inl r=>simp only[zD,zC,Sum.elim_inl];cases(!decide (r.2.1=0))<;>exact⟨_,rfl⟩
  |inr r=>simp only[zD,zC,Sum.elim_inr];cases(!decide (r.2.1=0))<;>exact⟨_,rfl⟩
 obtain⟨v,hv⟩:=this
 unfold bH
 rw[hv];rfl
theorem xO(s:Spec)(x:ByteArray)(hx:x.size<=1099511627776):bW s x=some (bH s x):=by
 rw[aiV s x (by omega),FR s x hx]
@[irreducible] def mf (a b:Spec):Bool:=(uZ a b).getD false
theorem zd5(a b:Spec):uZ a b=some (mf a b):=by
 have:∃v,uZ a b=some v:=by
  unfold uZ GC
  rw[vi,vi,zd4]
  simp only[Option.bind_some]
  generalize(!decide (bL a=0))=c1
  generalize(!decide (bL b=0))=c2
  generalize decide (b.2.2.2.1<a.2.2.2.1)=c3
  generalize decide (a.2.2.2.2.1<b.2.2.2.2.1)=c4
  generalize decide (a.2.1=5)=c5
  generalize decide (a.2.1=6)=c6
  generalize decide (b.2.1=6)=c7
  cases c1<;>cases c2<;>cases c3<;>cases c4<;>cases c5<;>cases c6<;>cases c7<;>exact⟨_,rfl⟩
 obtain⟨v,hv⟩:=this
 unfold mf
 rw[hv];rfl
theorem aff(a b:Spec):lG a b=some (mf a b):=by rw[abO,zd5]
abbrev aU:=Int×Int×Int×ByteArray×List bA×Unit
def aY(s:zf)(no:Int):Spec:=(fU s.2.2.1 no).getD cZ
def bq(s:zf)(no:Int):Bool:=(fU s.2.2.1 no).isSome
theorem z49(s:zf)(no:Int)(hl:s.2.2.1.length<=maxLen):fK s no=some (aY s no,bq s no):=by
 rw[ako s no hl]
 unfold aY bq
 cases fU s.2.2.1 no<;>rfl
theorem Sc(s:zf)(no:Int):(eY s.2.2.1 no 0= -1/\bq s no=false/\aY s no=cZ)\/(0<=eY s.2.2.1 no 0/\eY s.2.2.1 no 0<s.2.2.1.length/\bq s no=true/\s.2.2.1.getD (eY s.2.2.1 no 0).toNat cZ=aY s no):=by
 unfold bq aY
 rcases ac3 s.2.2.1 no 0 (Int.le_refl _) with⟨h1,h2⟩|⟨h1,h2,x,h3,h4⟩
 ·left;rw[h2];exact⟨h1,rfl,rfl⟩
 ·right;rw[h3];rw[Int.sub_zero] at h4;exact⟨h1,by omega,rfl,h4⟩
def dt(r:aU)(a b:zf):Bool:=
 (bif decide (r.1=3) then !decide (r.2.1=0) else !bq a r.2.1)||(bif decide (r.1=2) then !decide (r.2.2.1=0) else !bq b r.2.2.1)
def jf(r:aU):Bool:=(!decide (r.2.2.2.1=bs [])&& !decide (r.1=3))||(decide (0<(r.2.2.2.2.1.length:Int))&& !decide (r.1=5))
def jv(s:Spec):Bool:=decide (s.2.1=1)&&decide (s.2.2.1=1)
def fB:List bA->Spec->Spec->Int
 | [],_,_=>0
 |p::r,x,y=>bif !decide (bH x p.1=0) then bH x p.1 else bif !decide (bH y p.2.1=0) then bH y p.2.1 else fB r x y
def QN(l:List bA)(x y:Spec):Int:=bif(!decide ((Bf l).1=0)||decide ((l.length:Int)=0)) then 15 else fB l x y
def j9(r:aU)(x y:Spec):Int:=
 bif decide (r.1=1) then(bif mf y x then 0 else 6) else bif decide (r.1=3) then bH y r.2.2.2.1 else bif decide (r.1=4) then(bif jv x&&jv y then 0 else 6) else bif decide (r.1=5) then QN r.2.2.2.2.1 x y else 0
def dw(r:aU)(a b:zf):Int:=
 bif decide (r.1<1)||decide (5<r.1) then 1 else bif dt r a b then 9 else bif jf r then 3 else j9 r (aY a r.2.1) (aY b r.2.2.1)
structure eC(l:List bA):Prop where
 len:l.length<=1000000
 sz:∀p∈l,p.1.size<=1099511627776/\p.2.1.size<=1099511627776
structure dR(r:aU):Prop where
 text:r.2.2.2.1.size<=1099511627776
 fc:eC r.2.2.2.2.1
theorem al8(r:aU)(a b:zf)(ha:a.2.2.1.length<=maxLen)(hb:b.2.2.1.length<=maxLen):sW r a b=some (aY a r.2.1,aY b r.2.2.1,bif dt r a b then 9 else 0):=by
 unfold sW Uq dt
 rw[z49 a _ ha,z49 b _ hb]
 simp only[Option.bind_some]
 generalize decide (r.1=3)=k3
 generalize decide (r.1=2)=k2
 generalize decide (r.2.1=0)=z1
 generalize decide (r.2.2.1=0)=z2
 generalize bq a r.2.1=h1
 generalize bq b r.2.2.1=h2
 cases k3<;>cases k2<;>cases z1<;>cases z2<;>cases h1<;>cases h2<;>rfl
theorem agp(s:Spec):jk s=some (jv s):=by
 unfold jk Ur jv
 generalize decide (s.2.1=1)=c1
 generalize decide (s.2.2.1=1)=c2
 cases c1<;>cases c2<;>rfl
def xJ(v:Int):Sum Int Unit:=if v=0 then .inr () else .inl v
theorem LP(x y:Spec):∀(l:List bA) (i:Int),(∀p∈l,p.1.size<=1099511627776/\p.2.1.size<=1099511627776)->
 bj (fun i (p:bA) (s:Unit) K=>((bW x p.1).bind fun r2=>(bif(!decide (r2=0)) then some (Sum.inl r2) else((bW y p.2.1).bind fun r3=>(bif(!decide (r3=0)) then some (Sum.inl r3) else K s))))) (fun _=>some (Sum.inr ())) l i ()=some (xJ (fB l x y))
 | [],i,_=>rfl
 |p::r,i,h=>by
  obtain⟨h1,h2⟩:=h p List.mem_cons_self
  simp only[bj,fB]
  rw[xO x p.1 h1,Option.bind_some]
  by_cases z1:bH x p.1=0
  ·rw[zT z1]
   simp only[Bool.not_true,zD]
   rw[xO y p.2.1 h2,Option.bind_some]
   by_cases z2:bH y p.2.1=0
   ·rw[zT z2]
    simp only[Bool.not_true,zD]
    exact LP x y r (i+1) fun q hq=>h q (List.mem_cons_of_mem _ hq)
   ·rw[zF z2]
    simp only[Bool.not_false,zC,xJ,if_neg z2]
  ·rw[zF z1]
   simp only[Bool.not_false,zC,xJ,if_neg z1]
theorem akb(l:List bA)(x y:Spec)(h:eC l):mF l x y=some (QN l x y):=by
 have hl:=h.len
 unfold mF Ut QN
 dsimp only
 rw[abb l (by rw[zh];omega),Option.bind_some]
 cases(!decide ((Bf l).1=0)) with
 |true=>rfl
 |false=>
  cases decide ((l.length:Int)=0) with
  |true=>rfl
  |false=>
   simp only[zD,Bool.or_false]
   have:=cu jc l (by rw[zh];omega) (fun i (p:bA) (s:Unit) K=>((bW x p.1).bind fun r2=>(bif(!decide (r2=0)) then some (Sum.inl r2) else((bW y p.2.1).bind fun r3=>(bif(!decide (r3=0)) then some (Sum.inl r3) else K s))))) (fun _=>some (Sum.inr ()))
    (fun k i s=>PO k l (l.length:Int) i x y) (fun k i s=>rfl) ()
   rw[this,LP x y l 0 h.sz,Option.bind_some]
   unfold xJ
   by_cases z:fB l x y=0
   ·rw[if_pos z,z];rfl
   ·rw[if_neg z];rfl
theorem abM(r:aU)(a b:zf)(h:dR r)(ha:a.2.2.1.length<=maxLen)(hb:b.2.2.1.length<=maxLen):nW r a b=some (dw r a b):=by
 unfold nW Up dw j9 jf
 rw[al8 r a b ha hb]
 simp only[Option.bind_some,aff,xO _ _ h.text,agp,akb _ _ _ h.fc]
 generalize dt r a b=e
 generalize decide (r.1<1)=c1
 generalize decide ((5:Int)<r.1)=c2
 generalize decide (r.2.2.2.1=bs [])=t
 generalize decide ((0:Int)<(r.2.2.2.2.1.length:Int))=p
 generalize decide (r.1=1)=k1
 generalize decide (r.1=3)=k3
 generalize decide (r.1=4)=k4
 generalize decide (r.1=5)=k5
 generalize jv (aY a r.2.1)=p1
 generalize jv (aY b r.2.2.1)=p2
 generalize mf (aY b r.2.2.1) (aY a r.2.1)=w
 cases c1<;>cases c2<;>first|rfl|skip
 cases e<;>first|rfl|skip
 cases t<;>cases p<;>cases k3<;>cases k5<;>first|rfl|skip
 all_goals(cases k1<;>cases k4<;>cases p1<;>cases p2<;>cases w<;>rfl)
def nu(v:Int):Sum Unit Int:=if v=0 then .inl () else .inr v
theorem zvy(x y:Spec):∀(l:List bA) (i:Int),(∀p∈l,p.1.size<=1099511627776/\p.2.1.size<=1099511627776)->
 bj (fun i (p:bA) (s:Unit) K=>((mJ x p.1).bind fun r2=>(bif(!decide (r2=0)) then some (Sum.inr r2) else((mJ y p.2.1).bind fun r3=>(bif(!decide (r3=0)) then some (Sum.inr r3) else K s))))) (fun _=>some (Sum.inl ())) l i ()=some (nu (fB l x y))
 | [],i,_=>rfl
 |p::r,i,h=>by
  obtain⟨h1,h2⟩:=h p List.mem_cons_self
  simp only[bj,fB]
  rw[FR x p.1 h1,Option.bind_some]
  by_cases z1:bH x p.1=0
  ·rw[zT z1]
   simp only[Bool.not_true,zD]
   rw[FR y p.2.1 h2,Option.bind_some]
   by_cases z2:bH y p.2.1=0
   ·rw[zT z2]
    simp only[Bool.not_true,zD]
    exact zvy x y r (i+1) fun q hq=>h q (List.mem_cons_of_mem _ hq)
   ·rw[zF z2]
    simp only[Bool.not_false,zC,nu,if_neg z2]
  ·rw[zF z1]
   simp only[Bool.not_false,zC,nu,if_neg z1]
theorem abx(r:aU)(a b:zf)(h:dR r)(i k:Int)(BX:0<=i)(hi:i<a.2.2.1.length)(Aj:0<=k)(hk:k<b.2.2.1.length):
 vu ag i k 0 r a b=some (nu (fB r.2.2.2.2.1 (a.2.2.1.getD i.toNat cZ) (b.2.2.1.getD k.toNat cZ))):=by
 have hl:=h.fc.len
 have:=ng jc r.2.2.2.2.1 (by rw[zh];omega) (fun j (p:bA) (s:Unit) K=>((mJ (a.2.2.1.getD i.toNat cZ) p.1).bind fun r2=>(bif(!decide (r2=0)) then some (Sum.inr r2) else((mJ (b.2.2.1.getD k.toNat cZ) p.2.1).bind fun r3=>(bif(!decide (r3=0)) then some (Sum.inr r3) else K s))))) (fun _=>some (Sum.inl ()))
  (fun f j s=>vu f i k j r a b) (fun f j s h0 h1=>by
    show vu (f+1) i k j r a b=_
    conv=>lhs;unfold vu O7 So Sp Sq
    have wi:∀{R:Type} (x:Option R),zd i a.2.2.1.length x=x:=fun x=>zm BX hi
    have wk:∀{R:Type} (x:Option R),zd k b.2.2.1.length x=x:=fun x=>zm Aj hk
    have wj:∀{R:Type} (x:Option R),zd j r.2.2.2.2.1.length x=x:=fun x=>zm h0 h1
    rw[zT h1]
    simp only[zC,wi,wk,wj]
    rfl) (fun f s=>by
    show vu (f+1) i k r.2.2.2.2.1.length r a b=_
    conv=>lhs;unfold vu O7
    rw[zF (by omega),zD]) ()
 rw[this]
 exact zvy _ _ _ 0 h.fc.sz
theorem acs(r:aU)(a b:zf)(h:dR r)(ha:a.2.2.1.length<=maxLen)(hb:b.2.2.1.length<=maxLen):su r a b=some (dw r a b):=by
 unfold su F7
 have h0:∀t,zwb t r a b=bif t then some 1 else SM r a b:=fun t=>by cases t<;>rfl
 simp only[h0]
 unfold dw
 by_cases c1:r.1<1
 ·rw[zT c1];rfl
 by_cases c2:(5:Int)<r.1
 ·rw[zF c1,zT c2];rfl
 rw[zF c1,zF c2]
 simp only[zD,Bool.or_false]
 have e2:∀i k t,A0 i k t r a b=bif t then some 9 else Pj i k r a b:=fun i k t=>by cases t<;>rfl
 have e4:∀i k t,zwc i k t r a b=bif t then some 9 else Ez i k r a b:=fun i k t=>by cases t<;>rfl
 have e6:∀i k t,zwd i k t r a b=bif t then some 3 else Pk i k r a b:=fun i k t=>by cases t<;>rfl
 have e9:∀t,zwe t=some (bif t then 6 else 0):=fun t=>by cases t<;>rfl
 have hi:=Sc a r.2.1
 have hk:=Sc b r.2.2.1
 have ei:decide (eY a.2.2.1 r.2.1 0<0)= !bq a r.2.1:=by
  rcases hi with⟨h1,h2,_⟩|⟨h1,_,h2,_⟩
  ·rw[h1,h2];rfl
  ·rw[h2,zF (by omega)];rfl
 have ek:decide (eY b.2.2.1 r.2.2.1 0<0)= !bq b r.2.2.1:=by
  rcases hk with⟨h1,h2,_⟩|⟨h1,_,h2,_⟩
  ·rw[h1,h2];rfl
  ·rw[h2,zF (by omega)];rfl
 unfold SM F8
 rw[R4 a _ ha,Option.bind_some,R4 b _ hb,Option.bind_some]
 generalize Jq:eY a.2.2.1 r.2.1 0=i at*
 generalize hkk:eY b.2.2.1 r.2.2.1 0=k at*
 have s3:Pj i k r a b=bif(bif decide (r.1=2) then !decide (r.2.2.1=0) else !bq b r.2.2.1) then some 9 else Ez i k r a b:=by
  unfold Pj F9
  simp only[e4,ek]
  generalize decide (r.1=2)=k2
  generalize decide (r.2.2.1=0)=z
  generalize bq b r.2.2.1=hh
  cases k2<;>cases z<;>cases hh<;>rfl
 have s1:(bif decide (r.1=3) then bif !decide (r.2.1=0) then A0 i k true r a b else bif !decide (r.1=3) then A0 i k (decide (i<0)) r a b else A0 i k false r a b
  else bif !decide (r.1=3) then A0 i k (decide (i<0)) r a b else A0 i k false r a b)=bif dt r a b then some 9 else Ez i k r a b:=by
  simp only[e2,s3,ei]
  unfold dt
  generalize decide (r.1=3)=k3
  generalize decide (r.2.1=0)=z
  generalize bq a r.2.1=hh
  generalize(bif decide (r.1=2) then !decide (r.2.2.1=0) else !bq b r.2.2.1)=w
  cases k3<;>cases z<;>cases hh<;>cases w<;>rfl
 have s5:Ez i k r a b=bif jf r then some 3 else Pk i k r a b:=by
  unfold Ez z85 jf
  simp only[e6]
  generalize decide (r.2.2.2.1=bs [])=t
  generalize decide ((0:Int)<(r.2.2.2.2.1.length:Int))=p
  generalize decide (r.1=3)=k3
  generalize decide (r.1=5)=k5
  cases t<;>cases p<;>cases k3<;>cases k5<;>rfl
 refine Eq.trans s1 ?_
 cases hE:dt r a b with
 |true=>rfl
 |false=>
  rw[zD,zD,s5]
  cases jf r with
  |true=>rfl
  |false=>
   rw[zD,zD]
   unfold Pk Ga j9
   have g1:r.1=1\/r.1=4\/r.1=5->bq a r.2.1=true:=fun hr=>by
    unfold dt at hE
    rw[zF (by omega:¬r.1=3)] at hE
    cases hh:bq a r.2.1 with
    |true=>rfl
    |false=>rw[hh] at hE;simp at hE
   have g2:r.1≠2->bq b r.2.2.1=true:=fun hr=>by
    unfold dt at hE
    rw[zF hr] at hE
    cases hh:bq b r.2.2.1 with
    |true=>rfl
    |false=>rw[hh] at hE;simp at hE
   have hA:bq a r.2.1=true->0<=i/\i<a.2.2.1.length/\a.2.2.1.getD i.toNat cZ=aY a r.2.1:=fun hh=>by
    rcases hi with⟨_,h2,_⟩|⟨h1,h2,_,h3⟩
    ·rw[h2] at hh;cases hh
    ·exact⟨h1,h2,h3⟩
   have hB:bq b r.2.2.1=true->0<=k/\k<b.2.2.1.length/\b.2.2.1.getD k.toNat cZ=aY b r.2.2.1:=fun hh=>by
    rcases hk with⟨_,h2,_⟩|⟨h1,h2,_,h3⟩
    ·rw[h2] at hh;cases hh
    ·exact⟨h1,h2,h3⟩
   by_cases k1:r.1=1
   ·obtain⟨a1,a2,a3⟩:=hA (g1 (.inl k1))
    obtain⟨b1,b2,b3⟩:=hB (g2 (by omega))
    rw[zT k1,zC,zC,zm b1 b2,zm a1 a2,a3,b3,zd5,Option.bind_some]
    cases mf (aY b r.2.2.1) (aY a r.2.1)<;>rfl
   rw[zF k1,zD,zD]
   by_cases k3:r.1=3
   ·obtain⟨b1,b2,b3⟩:=hB (g2 (by omega))
    rw[zT k3,zC,zC,zm b1 b2,b3,FR _ _ h.text];rfl
   rw[zF k3,zD,zD]
   by_cases k4:r.1=4
   ·obtain⟨a1,a2,a3⟩:=hA (g1 (.inr (.inl k4)))
    obtain⟨b1,b2,b3⟩:=hB (g2 (by omega))
    rw[zT k4,zC,zC,zm a1 a2,zm b1 b2]
    simp only[a3,b3,e9]
    unfold jv
    generalize decide ((aY a r.2.1).2.1=1)=d1
    generalize decide ((aY a r.2.1).2.2.1=1)=d2
    generalize decide ((aY b r.2.2.1).2.1=1)=d3
    generalize decide ((aY b r.2.2.1).2.2.1=1)=d4
    cases d1<;>cases d2<;>cases d3<;>cases d4<;>rfl
   rw[zF k4,zD,zD]
   by_cases k5:r.1=5
   ·obtain⟨a1,a2,a3⟩:=hA (g1 (.inr (.inr k5)))
    obtain⟨b1,b2,b3⟩:=hB (g2 (by omega))
    have Fq:∀t,zoo i k t r a b=bif t then some 15 else O6 i k r a b:=fun t=>by cases t<;>rfl
    have Fs:O6 i k r a b=some (fB r.2.2.2.2.1 (aY a r.2.1) (aY b r.2.2.1)):=by
     unfold O6 Sn
     dsimp only
     rw[abx r a b h i k a1 a2 b1 b2,Option.bind_some,a3,b3]
     unfold nu
     by_cases z:fB r.2.2.2.2.1 (aY a r.2.1) (aY b r.2.2.1)=0
     ·rw[if_pos z,z];rfl
     ·rw[if_neg z];rfl
    have hl:=h.fc.len
    rw[zT k5,zC,zC,acr _ (by rw[zh];omega),Option.bind_some]
    simp only[Fq,Fs]
    unfold QN
    generalize(!decide ((Bf r.2.2.2.2.1).1=0))=d1
    generalize decide ((r.2.2.2.2.1.length:Int)=0)=d2
    cases d1<;>cases d2<;>rfl
   ·rw[zF k5];rfl
@[irreducible] def uD (x:ByteArray):Int:=((yt x).map fun r=>Sum.elim (fun(w:ak×Int×Int)=>w.2.1) (fun(w:ak×Int×Int)=>w.2.1) r).getD 0
theorem Pf(s:Spec)(x:ByteArray)(hx:x.size<=1099511627776):bH s x=0↔bL s=0/\s.2.2.2.1<=(x.size:Int)/\(x.size:Int)<=s.2.2.2.2.1/\(bl x).all (jB s.2.1)=true/\(s.2.1=6->uD x=0):=by
 have h:=FR s x hx
 unfold mJ Gz at h
 rw[vi,Option.bind_some,zcw _ _ (by rw[zh];omega),Option.bind_some] at h
 obtain⟨r,hr⟩:=zom x hx
 have ht:uD x=Sum.elim (fun(w:ak×Int×Int)=>w.2.1) (fun(w:ak×Int×Int)=>w.2.1) r:=by unfold uD;rw[hr];rfl
 rw[hr,Option.bind_some] at h
 by_cases c1:bL s=0
 ·rw[zT c1,Bool.not_true,zD] at h
  by_cases c2:(x.size:Int)<s.2.2.2.1
  ·rw[zT c2,zC] at h
   have:=Option.some.inj h
   exact⟨fun e=>by omega,fun e=>by omega⟩
  rw[zF c2,zD] at h
  by_cases c3:s.2.2.2.2.1<(x.size:Int)
  ·rw[zT c3,zC] at h
   have:=Option.some.inj h
   exact⟨fun e=>by omega,fun e=>by omega⟩
  rw[zF c3,zD] at h
  have hf:=zo0 s.2.1 (bl x) 0 (Int.le_refl _)
  by_cases c4:(0:Int)<=qv s.2.1 (bl x) 0
  ·rw[zT c4,zC] at h
   have:=Option.some.inj h
   exact⟨fun e=>by omega,fun e=>absurd e.2.2.2.1 (hf.1 c4)⟩
  rw[zF c4,zD] at h
  have cQ:(bl x).all (jB s.2.1)=true:=by
   cases hq:(bl x).all (jB s.2.1) with
   |true=>rfl
   |false=>exact absurd (hf.2 (by rw[hq];decide)) c4
  by_cases c5:s.2.1=6
  ·rw[zT c5,zC] at h
   have key:(bif(!decide (uD x=0)) then some (13:Int) else some 0)=some (bH s x):=by
    rw[<-h]
    cases r with
    |inl r=>rw[Sum.elim_inl] at ht⊢;rw[<-ht]
    |inr r=>rw[Sum.elim_inr] at ht⊢;rw[<-ht]
   by_cases c6:uD x=0
   ·rw[zT c6] at key
    have:=Option.some.inj key
    exact⟨fun _=>⟨c1,by omega,by omega,cQ,fun _=>c6⟩,fun _=>this.symm⟩
   ·rw[zF c6] at key
    have:=Option.some.inj key
    exact⟨fun e=>by omega,fun e=>absurd (e.2.2.2.2 c5) c6⟩
  ·rw[zF c5,zD] at h
   have:=Option.some.inj h
   exact⟨fun _=>⟨c1,by omega,by omega,cQ,fun e=>absurd e c5⟩,fun _=>this.symm⟩
 ·rw[zF c1,Bool.not_false,zC] at h
  have:=Option.some.inj h
  exact⟨fun e=>by omega,fun e=>absurd e.1 c1⟩
theorem akk(a b:Spec):mf a b=true↔bL a=0/\bL b=0/\a.2.2.2.1<=b.2.2.2.1/\b.2.2.2.2.1<=a.2.2.2.2.1/\(a.2.1=5\/(a.2.1=6/\b.2.1=6)\/(a.2.1≠5/\a.2.1≠6/\b.2.1≠6/\yc a.2.1 b.2.1=true)):=by
 have h:=zd5 a b
 unfold uZ GC at h
 rw[vi,vi,zd4] at h
 simp only[Option.bind_some] at h
 by_cases c1:bL a=0
 ·rw[zT c1,Bool.not_true,zD] at h
  by_cases c2:bL b=0
  ·rw[zT c2,Bool.not_true,zD] at h
   by_cases c3:b.2.2.2.1<a.2.2.2.1
   ·rw[zT c3,zC] at h
    have:=Option.some.inj h
    exact⟨fun e=>(by rw[e] at this;cases this),fun e=>by omega⟩
   rw[zF c3,zD] at h
   by_cases c4:a.2.2.2.2.1<b.2.2.2.2.1
   ·rw[zT c4,zC] at h
    have:=Option.some.inj h
    exact⟨fun e=>(by rw[e] at this;cases this),fun e=>by omega⟩
   rw[zF c4,zD] at h
   by_cases c5:a.2.1=5
   ·rw[zT c5,zC] at h
    have:=Option.some.inj h
    exact⟨fun _=>⟨c1,c2,by omega,by omega,.inl c5⟩,fun _=>this.symm⟩
   rw[zF c5,zD] at h
   by_cases c6:a.2.1=6
   ·rw[zT c6,zC] at h
    have:=Option.some.inj h
    rw[<-this,decide_eq_true_eq]
    exact⟨fun e=>⟨c1,c2,by omega,by omega,.inr (.inl ⟨c6,by omega⟩)⟩,fun e=>by omega⟩
   rw[zF c6,zD] at h
   by_cases c7:b.2.1=6
   ·rw[zT c7,zC] at h
    have:=Option.some.inj h
    rw[<-this,decide_eq_true_eq]
    exact⟨fun e=>by omega,fun e=>by omega⟩
   rw[zF c7,zD] at h
   have:=Option.some.inj h
   rw[<-this]
   refine⟨fun e=>⟨c1,c2,by omega,by omega,.inr (.inr ⟨c5,c6,c7,e⟩)⟩,fun e=> ?_⟩
   rcases e.2.2.2.2 with e|e|e
   ·exact absurd e c5
   ·exact absurd e.1 c6
   ·exact e.2.2.2
  ·rw[zF c2,Bool.not_false,zC] at h
   have:=Option.some.inj h
   exact⟨fun e=>(by rw[e] at this;cases this),fun e=>absurd e.2.1 c2⟩
 ·rw[zF c1,Bool.not_false,zC] at h
  have:=Option.some.inj h
  exact⟨fun e=>(by rw[e] at this;cases this),fun e=>absurd e.1 c1⟩
theorem zoj{s:Spec}(h:bL s=0):(2<=s.1/\s.1<=128)/\(1<=s.2.1/\s.2.1<=6)/\(1<=s.2.2.1/\s.2.2.1<=3)/\(1<=s.2.2.2.1/\s.2.2.2.1<=s.2.2.2.2.1/\s.2.2.2.2.1<=999)/\(s.2.2.1=1->s.2.2.2.1=s.2.2.2.2.1)/\¬(s.2.2.1=1/\s.2.1=6):=by
 unfold bL at h
 split at h
 ·omega
 split at h
 ·omega
 split at h
 ·omega
 split at h
 ·omega
 split at h
 ·omega
 ·omega
theorem amC:∀a b:Fin 7,yc (a.1:Int) (b.1:Int)=true->a.1≠5->a.1≠6->b.1≠6->(a.1=b.1\/(a.1=3/\(b.1=1\/b.1=2))\/(a.1=4/\(b.1=1\/b.1=2\/b.1=3))):=by decide+kernel
theorem ag5{a b:Int}(h:yc a b=true)(h5:a≠5)(h6:a≠6)(h7:b≠6):a=b\/(a=3/\(b=1\/b=2))\/(a=4/\(b=1\/b=2\/b=3)):=by
 have hr:1<=a/\a<=6/\1<=b/\b<=6:=by
  unfold yc at h
  rw[Bool.and_eq_true,decide_eq_true_eq] at h
  exact h.1
 obtain⟨x,rfl⟩:=XO ⟨hr.1,hr.2.1⟩
 obtain⟨y,rfl⟩:=XO ⟨hr.2.2.1,hr.2.2.2⟩
 have:=amC x y h (by omega) (by omega) (by omega)
 omega
theorem ajH{a b x:Int}(h:a=b\/(a=3/\(b=1\/b=2))\/(a=4/\(b=1\/b=2\/b=3)))(hx:jB b x=true):jB a x=true:=by
 rcases h with rfl|⟨rfl,rfl|rfl⟩|⟨rfl,rfl|rfl|rfl⟩
 ·exact hx
 all_goals
  simp [jB] at hx⊢
  omega
theorem ajG(x:Int):jB 5 x=true:=by simp [jB]
theorem ady{y x:Spec}{t:ByteArray}(ht:t.size<=1099511627776)(hw:mf y x=true)(hv:bH x t=0):bH y t=0:=by
 obtain⟨w1,w2,w3,w4,w5⟩:=(akk y x).1 hw
 obtain⟨v1,v2,v3,v4,v5⟩:=(Pf x t ht).1 hv
 refine(Pf y t ht).2 ⟨w1,by omega,by omega,?_,?_⟩
 ·rcases w5 with e|e|e
  ·rw[e,List.all_eq_true];exact fun b _=>ajG b
  ·rw[e.1,<-e.2];exact v4
  ·rw[List.all_eq_true] at v4⊢
   exact fun b hb=>ajH (ag5 e.2.2.2 e.1 e.2.1 e.2.2.1) (v4 b hb)
 ·intro e6
  rcases w5 with e|e|e
  ·omega
  ·exact v5 e.2
  ·exact absurd e6 e.2.1
theorem ami:jB 1=cG:=by funext b;simp [jB,cG]
theorem alT(l:List Int):l.all (jB 1)=bD l:=by rw[ami];rfl
theorem NT{t:ByteArray}{w:Int}(h:(fE t w).2=true):1<=w/\w<=999/\(((fE t w).1).size:Int)=w/\bD (bl (fE t w).1)=true:=by
 by_cases hc:1<=t.size/\t.size<=999/\bD (bl t)=true/\1<=w/\w<=999
 ·rw[OE hc] at h⊢
  by_cases h4:(t.size:Int)<=w
  ·rw[zT h4,zC]
   have hd:bD (List.replicate (w-t.size).toNat 48++bl t)=true:=by
    have e:bD (List.replicate (w-t.size).toNat 48++bl t)=(bD (List.replicate (w-t.size).toNat 48)&&bD (bl t)):=List.all_append ..
    have e2:bD (List.replicate (w-t.size).toNat 48)=true:=by
     rw[bD,List.all_eq_true]
     intro x hx
     rw[(List.mem_replicate.1 hx).2];rfl
    rw[e,e2,hc.2.2.1];rfl
   refine⟨hc.2.2.2.1,hc.2.2.2.2,?_,?_⟩
   ·rw[vk,List.length_append,List.length_replicate,zg];omega
   ·rw[uT (Mg hd)];exact hd
  ·rw[zF h4,zD] at h⊢
   cases hz:fL ((bl t).take (t.size-w.toNat)) with
   |false=>rw[hz] at h;cases h
   |true=>
    rw[zC]
    have hd:bD ((bl t).drop (t.size-w.toNat))=true:=by
     rw[bD,List.all_eq_true]
     intro x hx
     exact List.all_eq_true.1 hc.2.2.1 x (List.mem_of_mem_drop hx)
    refine⟨hc.2.2.2.1,hc.2.2.2.2,?_,?_⟩
    ·rw[vk,List.length_drop,zg];omega
    ·rw[uT (Mg hd)];exact hd
 ·rw[GK hc] at h;cases h
theorem ade{s:Spec}(h:jv s=true):s.2.1=1/\s.2.2.1=1:=by
 unfold jv at h
 rw[Bool.and_eq_true,decide_eq_true_eq,decide_eq_true_eq] at h
 exact h
abbrev ou:bh:=(0,bs [],())
def gk(r:aU)(b:zf)(t:ByteArray):bh×Int:=
 bif decide (r.1=1) then((r.2.2.1,t,()),0) else bif decide (r.1=2) then(ou,0) else bif decide (r.1=3) then((r.2.2.1,r.2.2.2.1,()),0)
 else bif decide (r.1=4) then(bif !bq b r.2.2.1 then(ou,9) else bif !(fE t (aY b r.2.2.1).2.2.2.1).2 then(ou,5) else((r.2.2.1,(fE t (aY b r.2.2.1).2.2.2.1).1,()),0))
 else bif decide (r.1=5) then(bif !(zw r.2.2.2.2.1 t).2 then(ou,15) else((r.2.2.1,(zw r.2.2.2.2.1 t).1,()),0)) else(ou,1)
theorem abL(r:aU)(b:zf)(t:ByteArray)(hp:r.2.2.2.2.1.length<=maxLen)(hb:b.2.2.1.length<=maxLen)(ht:t.size<=maxLen):nV r b t=some (gk r b t):=by
 unfold nV Uo gk
 rw[z49 b _ hb,Option.bind_some,amE t _ ht,Option.bind_some,aa9 _ _ hp,Option.bind_some]
 generalize decide (r.1=1)=k1
 generalize decide (r.1=2)=k2
 generalize decide (r.1=3)=k3
 generalize decide (r.1=4)=k4
 generalize decide (r.1=5)=k5
 generalize bq b r.2.2.1=h
 generalize fE t (aY b r.2.2.1).2.2.2.1=p
 generalize zw r.2.2.2.2.1 t=q
 obtain⟨p1,p2⟩:=p
 obtain⟨q1,q2⟩:=q
 cases k1<;>cases k2<;>cases k3<;>cases k4<;>cases k5<;>cases h<;>cases p2<;>cases q2<;>rfl
theorem Sv{s:zf}{no:Int}(h:bq s no=true):aY s no∈s.2.2.1/\(aY s no).1=no:=by
 unfold bq at h
 unfold aY
 cases hf:fU s.2.2.1 no with
 |none=>rw[hf] at h;cases h
 |some x=>
  unfold fU at hf
  exact⟨List.mem_of_find?_eq_some hf,by simpa using List.find?_some hf⟩
theorem Si{s:zf}(h:iD s){no:Int}(hh:bq s no=true):bL (aY s no)=0:=h.2.2.2.1 _ (Sv hh).1
theorem zd7{l:List bA}{t:ByteArray}(h:(zw l t).2=true):∃p∈l,p.1=t/\(zw l t).1=p.2.1:=by
 unfold zw at h⊢
 cases hf:l.find? fun p=>decide (p.1=t) with
 |none=>rw[hf] at h;cases h
 |some p=>exact⟨p,List.mem_of_find?_eq_some hf,by simpa using List.find?_some hf,rfl⟩
theorem LU:∀{l:List bA} {x y:Spec},fB l x y=0->∀p∈l,bH x p.1=0/\bH y p.2.1=0
 | [],x,y,h,p,hp=>by cases hp
 |q::l,x,y,h,p,hp=>by
  unfold fB at h
  by_cases h1:bH x q.1=0
  ·rw[zT h1,Bool.not_true,zD] at h
   by_cases h2:bH y q.2.1=0
   ·rw[zT h2,Bool.not_true,zD] at h
    rcases List.mem_cons.1 hp with rfl|hp
    ·exact⟨h1,h2⟩
    ·exact LU h p hp
   ·rw[zF h2,Bool.not_false,zC] at h;exact absurd h h2
  ·rw[zF h1,Bool.not_false,zC] at h;exact absurd h h1
theorem RZ{r:aU}{a b:zf}(h:dw r a b=0):(1<=r.1/\r.1<=5)/\dt r a b=false/\jf r=false/\j9 r (aY a r.2.1) (aY b r.2.2.1)=0:=by
 unfold dw at h
 by_cases c1:r.1<1
 ·rw[zT c1] at h;cases h
 by_cases c2:5<r.1
 ·rw[zT c2,Bool.or_true] at h;cases h
 rw[zF c1,zF c2,Bool.or_false,zD] at h
 cases he:dt r a b with
 |true=>rw[he] at h;cases h
 |false=>
  rw[he,zD] at h
  cases ht:jf r with
  |true=>rw[ht] at h;cases h
  |false=>rw[ht,zD] at h;exact⟨by omega,rfl,rfl,h⟩
theorem zhu{r:aU}{a b:zf}(h:dt r a b=false):(r.1=3->r.2.1=0)/\(r.1≠3->bq a r.2.1=true)/\(r.1=2->r.2.2.1=0)/\(r.1≠2->bq b r.2.2.1=true):=by
 unfold dt at h
 rw[Bool.or_eq_false_iff] at h
 obtain⟨h1,h2⟩:=h
 refine⟨fun e=> ?_,fun e=> ?_,fun e=> ?_,fun e=> ?_⟩
 ·rw[zT e,zC] at h1;simpa using h1
 ·rw[zF e,zD] at h1;simpa using h1
 ·rw[zT e,zC] at h2;simpa using h2
 ·rw[zF e,zD] at h2;simpa using h2
theorem abY{r:aU}{a b:zf}{t:ByteArray}(ht:t.size<=1099511627776)(hr:dR r)(hc:dw r a b=0)(hb:iD b)(hv:bq a r.2.1=true->bH (aY a r.2.1) t=0):
 ((gk r b t).2≠0->((r.1=4/\(gk r b t).2=5)\/(r.1=5/\(gk r b t).2=15))/\(gk r b t).1=ou)/\
 ((gk r b t).2=0->(r.1=2->(gk r b t).1=ou)/\(r.1≠2->(gk r b t).1.1=r.2.2.1/\bq b r.2.2.1=true/\bH (aY b r.2.2.1) (gk r b t).1.2.1=0)):=by
 obtain⟨c1,c2,c3,c4⟩:=RZ hc
 obtain⟨e1,e2,e3,e4⟩:=zhu c2
 unfold j9 at c4
 have hk:r.1=1\/r.1=2\/r.1=3\/r.1=4\/r.1=5:=by omega
 unfold gk
 rcases hk with k|k|k|k|k
 ·rw[zT k,zC] at c4⊢
  refine⟨fun h=>absurd rfl h,fun _=>⟨fun e=>by omega,fun _=>⟨rfl,e4 (by omega),?_⟩⟩⟩
  cases hw:mf (aY b r.2.2.1) (aY a r.2.1) with
  |false=>rw[hw] at c4;cases c4
  |true=>exact ady ht hw (hv (e2 (by omega)))
 ·rw[zF (by omega:¬r.1=1),zT k,zD,zC]
  exact⟨fun h=>absurd rfl h,fun _=>⟨fun _=>rfl,fun e=>absurd k e⟩⟩
 ·rw[zF (by omega:¬r.1=1),zT k,zD,zC] at c4
  rw[zF (by omega:¬r.1=1),zF (by omega:¬r.1=2),zT k,zD,zD,zC]
  exact⟨fun h=>absurd rfl h,fun _=>⟨fun e=>by omega,fun _=>⟨rfl,e4 (by omega),c4⟩⟩⟩
 ·rw[zF (by omega:¬r.1=1),zF (by omega:¬r.1=3),zT k,zD,zD,zC] at c4
  rw[zF (by omega:¬r.1=1),zF (by omega:¬r.1=2),zF (by omega:¬r.1=3),zT k,zD,zD,zD,zC,e4 (by omega),Bool.not_true,zD]
  have hy:=Si hb (e4 (by omega))
  have hpd:jv (aY b r.2.2.1)=true:=by
   cases hp:(jv (aY a r.2.1)&&jv (aY b r.2.2.1)) with
   |false=>rw[hp] at c4;cases c4
   |true=>exact(Bool.and_eq_true_iff.1 hp).2
  obtain⟨y1,y2⟩:=ade hpd
  obtain⟨_,_,_,f4,f5,_⟩:=zoj hy
  cases hp:(fE t (aY b r.2.2.1).2.2.2.1).2 with
  |false=>exact⟨fun _=>⟨.inl ⟨k,rfl⟩,rfl⟩,fun e=>by cases e⟩
  |true=>
   obtain⟨p1,p2,p3,p4⟩:=NT hp
   rw[Bool.not_true,zD]
   refine⟨fun h=>absurd rfl h,fun _=>⟨fun e=>by omega,fun _=>⟨rfl,rfl,?_⟩⟩⟩
   have:=f5 y2
   refine(Pf _ _ (by show(fE t (aY b r.2.2.1).2.2.2.1).1.size<=1099511627776;omega)).2 ⟨hy,?_,?_,?_,fun e=>by omega⟩
   ·show _<=((fE t (aY b r.2.2.1).2.2.2.1).1.size:Int);omega
   ·show((fE t (aY b r.2.2.1).2.2.2.1).1.size:Int)<=_;omega
   ·rw[y1,alT];exact p4
 ·rw[zF (by omega:¬r.1=1),zF (by omega:¬r.1=3),zF (by omega:¬r.1=4),zT k,zD,zD,zD,zC] at c4
  rw[zF (by omega:¬r.1=1),zF (by omega:¬r.1=2),zF (by omega:¬r.1=3),zF (by omega:¬r.1=4),zT k,zD,zD,zD,zD,zC]
  unfold QN at c4
  cases hp:(zw r.2.2.2.2.1 t).2 with
  |false=>exact⟨fun _=>⟨.inr ⟨k,rfl⟩,rfl⟩,fun e=>by cases e⟩
  |true=>
   rw[Bool.not_true,zD]
   refine⟨fun h=>absurd rfl h,fun _=>⟨fun e=>by omega,fun _=>⟨rfl,e4 (by omega),?_⟩⟩⟩
   obtain⟨p,hm,_,hq⟩:=zd7 hp
   show bH _ (zw r.2.2.2.2.1 t).1=0
   rw[hq]
   cases hz:(!decide ((Bf r.2.2.2.2.1).1=0)||decide ((r.2.2.2.2.1.length:Int)=0)) with
   |true=>rw[hz] at c4;cases c4
   |false=>rw[hz,zD] at c4;exact(LU c4 p hm).2
end bn

set_option profiler true
set_option profiler.threshold 2000
namespace bn
open Go.IntKind renaming wrap->zW,i64->zI,u8->zU
open Go Go.Ref
def c8(ae c:Int):Int:=if ae=2/\c=1 then 1 else if ae=1/\(c=5\/c=6) then 2 else 0
def iN(h:Int)(n:Nat):Nat:=if h=1 then(n+1)/2 else if h=2 then 2*n else n
def mS(h:Int)(t:ByteArray)(n:Int):Sum Int ByteArray:=if h=1 then(if(kK t n).2.1=0 then .inr (kK t n).1 else .inl (kK t n).2.1) else if h=2 then(if(nJ t).2.2=true then .inr (nJ t).1 else .inl 3) else .inr t
def qc(s:Spec)(z:Int):Sum Int ByteArray->ByteArray×Int×Int
 | .inl e=>(bs [],0,e)
 | .inr t=>if bH s t=0 then(t,z,0) else(bs [],0,bH s t)
def vn(h:Int)(s:Spec)(b:ByteArray)(n a:Nat):ByteArray×Int×Int:=
 if b.size<a+iN h n then(bs [],0,2) else qc s ((a+iN h n:Nat):Int) (mS h (b.extract a (a+iN h n)) n)
def D5(ae:Int)(s:Spec)(b:ByteArray)(at_:Int):Sum Int (Nat×Nat):=
 if s.2.2.1=1 then .inr (s.2.2.2.1.toNat,at_.toNat) else if¬(z24 ae s.2.2.1 b at_).2.2=0 then .inl (z24 ae s.2.2.1 b at_).2.2 else
  if(z24 ae s.2.2.1 b at_).1<s.2.2.2.1\/s.2.2.2.2.1<(z24 ae s.2.2.1 b at_).1 then .inl 5 else .inr ((z24 ae s.2.2.1 b at_).1.toNat,(z24 ae s.2.2.1 b at_).2.1.toNat)
def zV(h:Int)(s:Spec)(b:ByteArray):Sum Int (Nat×Nat)->ByteArray×Int×Int
 | .inl e=>(bs [],0,e)
 | .inr q=>vn h s b q.1 q.2
def qs(ae:Int)(s:Spec)(b:ByteArray)(at_:Int):ByteArray×Int×Int:=
 if(ae=1\/ae=2)/\bL s=0/\0<=at_/\at_<=b.size then zV (c8 ae s.2.1) s b (D5 ae s b at_) else(bs [],0,1)
theorem XL(ae c:Int):kL ae c=some (c8 ae c):=by
 unfold kL VR c8
 by_cases h1:ae=1<;>by_cases h2:ae=2<;>by_cases h3:c=1<;>by_cases h4:c=5<;>by_cases h5:c=6<;>(try(exfalso;omega))<;>simp [h1,h2,h3,h4,h5]
theorem XM(ae c:Int):c8 ae c=0\/c8 ae c=1\/c8 ae c=2:=by
 unfold c8
 split
 ·exact .inr (.inl rfl)
 ·split
  ·exact .inr (.inr rfl)
  ·exact .inl rfl
theorem VA{s:Spec}(h:bL s=0):1<=s.2.1/\s.2.1<=6/\1<=s.2.2.1/\s.2.2.1<=3/\1<=s.2.2.2.1/\s.2.2.2.1<=s.2.2.2.2.1/\s.2.2.2.2.1<=999/\(s.2.2.1=2->s.2.2.2.2.1<=99)/\(s.2.2.1=1->s.2.2.2.1=s.2.2.2.2.1):=by
 unfold bL at h
 split at h
 ·cases h
 split at h
 ·cases h
 split at h
 ·cases h
 split at h
 ·cases h
 refine⟨by omega,by omega,by omega,by omega,by omega,by omega,by omega,fun e=>by omega,fun e=>by omega⟩
theorem Mp:∀l:List Int,(gx l).length<=l.length
 | []=>by simp [gx]
 | [a]=>by simp [gx]
 |a::b::r=>by rw[gx,List.length_cons,List.length_cons,List.length_cons];have:=Mp r;omega
theorem aca(s:ByteArray):(nJ s).1.size<=s.size:=by
 unfold nJ
 split
 ·exact Nat.zero_le _
 ·split
  ·exact Nat.zero_le _
  ·rw[vk,<-zg];exact Mp _
theorem agu{ae form:Int}{b:ByteArray}{at_:Int}(h:(z24 ae form b at_).2.2=0):0<=(z24 ae form b at_).2.1/\(z24 ae form b at_).2.1<=b.size:=by
 unfold z24 at h⊢
 cases hk:(gf ae form&&decide (0<=at_/\at_<=(b.size:Int))) with
 |false=>rw[hk] at h;cases h
 |true=>
  rw[hk] at h
  simp only[zC] at h⊢
  split
  ·exact⟨Int.le_refl _,Int.natCast_nonneg _⟩
  ·rename_i hs
   split
   ·dsimp only;exact⟨by omega,by omega⟩
   ·exact⟨Int.le_refl _,Int.natCast_nonneg _⟩
def jU(jC:Int)(kJ:Spec)(mi:ByteArray)(n a:Int):Option I2:=
 let K:ByteArray->Int->Int->Option I2:=fun a0 a1 a2=>some (a0,a1,a2)
 ((kL jC kJ.2.1).bind fun r4=>(bif(decide (r4=(1:Int))) then((Q2 n).bind fun r5=>(bif(decide ((zW zI (((mi).size:Int)-a))<r5)) then(K (bs []) (0:Int) (2:Int)) else(bif(decide ((0:Int)<=(zW zI (a+r5)))) then(bif(decide ((zW zI (a+r5))<=(((mi).size:Nat):Int))) then(bif(decide ((0:Int)<=a)) then(bif(decide (a<=((((zW zI (a+r5))).toNat:Nat):Int))) then((kL jC kJ.2.1).bind fun r6=>(bif(decide (r6=(1:Int))) then((Q0 ((mi).extract (a).toNat ((zW zI (a+r5))).toNat) n).bind fun r7=>(bif(!(decide (r7.2.1=(0:Int)))) then(K (bs []) (0:Int) r7.2.1) else((bW kJ r7.1).bind fun r8=>(bif(!(decide (r8=(0:Int)))) then(K (bs []) (0:Int) r8) else(K r7.1 (zW zI (a+r5)) (0:Int)))))) else(bif(decide (r6=(2:Int))) then((gG ((mi).extract (a).toNat ((zW zI (a+r5))).toNat)).bind fun r9=>(bif(!r9.2.2) then(K (bs []) (0:Int) (3:Int)) else((bW kJ r9.1).bind fun kI=>(bif(!(decide (kI=(0:Int)))) then(K (bs []) (0:Int) kI) else(K r9.1 (zW zI (a+r5)) (0:Int)))))) else((bW kJ ((mi).extract (a).toNat ((zW zI (a+r5))).toNat)).bind fun lr=>(bif(!(decide (lr=(0:Int)))) then(K (bs []) (0:Int) lr) else(K ((mi).extract (a).toNat ((zW zI (a+r5))).toNat) (zW zI (a+r5)) (0:Int))))))) else none) else none) else none) else none))) else(bif(decide (r4=(2:Int))) then(bif(decide ((zW zI (((mi).size:Int)-a))<(zW zI ((2:Int)*n)))) then(K (bs []) (0:Int) (2:Int)) else(bif(decide ((0:Int)<=(zW zI (a+(zW zI ((2:Int)*n)))))) then(bif(decide ((zW zI (a+(zW zI ((2:Int)*n))))<=(((mi).size:Nat):Int))) then(bif(decide ((0:Int)<=a)) then(bif(decide (a<=((((zW zI (a+(zW zI ((2:Int)*n))))).toNat:Nat):Int))) then((kL jC kJ.2.1).bind fun nE=>(bif(decide (nE=(1:Int))) then((Q0 ((mi).extract (a).toNat ((zW zI (a+(zW zI ((2:Int)*n))))).toNat) n).bind fun l7=>(bif(!(decide (l7.2.1=(0:Int)))) then(K (bs []) (0:Int) l7.2.1) else((bW kJ l7.1).bind fun rT=>(bif(!(decide (rT=(0:Int)))) then(K (bs []) (0:Int) rT) else(K l7.1 (zW zI (a+(zW zI ((2:Int)*n)))) (0:Int)))))) else(bif(decide (nE=(2:Int))) then((gG ((mi).extract (a).toNat ((zW zI (a+(zW zI ((2:Int)*n))))).toNat)).bind fun qh=>(bif(!qh.2.2) then(K (bs []) (0:Int) (3:Int)) else((bW kJ qh.1).bind fun ux=>(bif(!(decide (ux=(0:Int)))) then(K (bs []) (0:Int) ux) else(K qh.1 (zW zI (a+(zW zI ((2:Int)*n)))) (0:Int)))))) else((bW kJ ((mi).extract (a).toNat ((zW zI (a+(zW zI ((2:Int)*n))))).toNat)).bind fun xA=>(bif(!(decide (xA=(0:Int)))) then(K (bs []) (0:Int) xA) else(K ((mi).extract (a).toNat ((zW zI (a+(zW zI ((2:Int)*n))))).toNat) (zW zI (a+(zW zI ((2:Int)*n)))) (0:Int))))))) else none) else none) else none) else none)) else(bif(decide ((zW zI (((mi).size:Int)-a))<n)) then(K (bs []) (0:Int) (2:Int)) else(bif(decide ((0:Int)<=(zW zI (a+n)))) then(bif(decide ((zW zI (a+n))<=(((mi).size:Nat):Int))) then(bif(decide ((0:Int)<=a)) then(bif(decide (a<=((((zW zI (a+n))).toNat:Nat):Int))) then((kL jC kJ.2.1).bind fun xB=>(bif(decide (xB=(1:Int))) then((Q0 ((mi).extract (a).toNat ((zW zI (a+n))).toNat) n).bind fun rf=>(bif(!(decide (rf.2.1=(0:Int)))) then(K (bs []) (0:Int) rf.2.1) else((bW kJ rf.1).bind fun xC=>(bif(!(decide (xC=(0:Int)))) then(K (bs []) (0:Int) xC) else(K rf.1 (zW zI (a+n)) (0:Int)))))) else(bif(decide (xB=(2:Int))) then((gG ((mi).extract (a).toNat ((zW zI (a+n))).toNat)).bind fun uy=>(bif(!uy.2.2) then(K (bs []) (0:Int) (3:Int)) else((bW kJ uy.1).bind fun Cr=>(bif(!(decide (Cr=(0:Int)))) then(K (bs []) (0:Int) Cr) else(K uy.1 (zW zI (a+n)) (0:Int)))))) else((bW kJ ((mi).extract (a).toNat ((zW zI (a+n))).toNat)).bind fun Ct=>(bif(!(decide (Ct=(0:Int)))) then(K (bs []) (0:Int) Ct) else(K ((mi).extract (a).toNat ((zW zI (a+n))).toNat) (zW zI (a+n)) (0:Int))))))) else none) else none) else none) else none)))))
theorem alZ(ae:Int)(s:Spec)(b:ByteArray)(n a:Nat)(hb:b.size<=1099511627776)(hn:n<=999)(ha:a<=b.size)(hh:c8 ae s.2.1=0):jU ae s b n a=some (vn (c8 ae s.2.1) s b n a):=by
 unfold jU
 simp only[XL,zc]
 have w0:zW zI ((b.size:Int)-(a:Int))=(b.size:Int)-a:=zk (by omega) (by omega)
 have w1:∀z:Nat,z<=2000->zW zI ((a:Int)+(z:Int))=((a+z:Nat):Int):=fun z hz=>by rw[zk (by omega) (by omega)];omega
 have hx:∀z:Nat,((a+z:Nat):Int).toNat=a+z:=fun z=>Int.toNat_natCast _
 have Fw:∀z:Nat,(b.extract a (a+z)).size<=1099511627776:=fun z=>by rw[ByteArray.size_extract];omega
 rw[hh]
 simp only[Int.reduceEq,decide_true,decide_false,zC,zD,w0,w1 n (by omega),hx,Int.toNat_natCast]
 unfold vn iN mS
 simp only[show¬((0:Int)=1) from by decide,show¬((0:Int)=2) from by decide,if_false]
 split
 ·rename_i hc
  rw[zT (by omega),zC]
 ·rename_i hc
  rw[zF (by omega),zD,zT (by omega),zC,zT (by omega),zC,zT (by omega),zC,zT (by omega),zC,xO _ _ (Fw n),zc]
  unfold qc
  by_cases hv:bH s (b.extract a (a+n))=0
  ·simp only[hv,decide_true,Bool.not_true,zD,if_true]
  ·simp only[hv,decide_false,Bool.not_false,zC,if_false]
theorem al0(ae:Int)(s:Spec)(b:ByteArray)(n a:Nat)(hb:b.size<=1099511627776)(hn:n<=999)(ha:a<=b.size)(hh:c8 ae s.2.1=1):jU ae s b n a=some (vn (c8 ae s.2.1) s b n a):=by
 unfold jU
 simp only[XL,zc]
 have w0:zW zI ((b.size:Int)-(a:Int))=(b.size:Int)-a:=zk (by omega) (by omega)
 have w1:∀z:Nat,z<=2000->zW zI ((a:Int)+(z:Int))=((a+z:Nat):Int):=fun z hz=>by rw[zk (by omega) (by omega)];omega
 have hx:∀z:Nat,((a+z:Nat):Int).toNat=a+z:=fun z=>Int.toNat_natCast _
 have Fw:∀z:Nat,(b.extract a (a+z)).size<=1099511627776:=fun z=>by rw[ByteArray.size_extract];omega
 rw[hh]
 have ez:((n:Int)+1)/2=(((n+1)/2:Nat):Int):=by omega
 simp only[Int.reduceEq,decide_true,decide_false,zC,zD,OR (n:Int) (by omega) (by omega),zc,ez]
 simp only[w0,w1 ((n+1)/2) (by omega),hx,Int.toNat_natCast,Int.reduceEq,decide_true,decide_false,zC,zD]
 unfold vn iN mS
 simp only[if_true]
 split
 ·rename_i hc
  rw[zT (by omega),zC]
 ·rename_i hc
  rw[zF (by omega),zD,zT (by omega),zC,zT (by omega),zC,zT (by omega),zC,zT (by omega),zC,zhb _ _ (Fw _),zc]
  generalize hg:kK (b.extract a (a+(n+1)/2)) (n:Int)=g
  obtain⟨t,e,i⟩:=g
  have kq:=zad hg
  dsimp only
  by_cases he:e=0
  ·rw[zT he,Bool.not_true,zD,if_pos he,xO _ _ (by omega),zc]
   unfold qc
   by_cases hv:bH s t=0
   ·simp only[hv,decide_true,Bool.not_true,zD,if_true]
   ·simp only[hv,decide_false,Bool.not_false,zC,if_false]
  ·rw[zF he,Bool.not_false,zC,if_neg he];rfl
theorem al1(ae:Int)(s:Spec)(b:ByteArray)(n a:Nat)(hb:b.size<=1099511627776)(hn:n<=999)(ha:a<=b.size)(hh:c8 ae s.2.1=2):jU ae s b n a=some (vn (c8 ae s.2.1) s b n a):=by
 unfold jU
 simp only[XL,zc]
 have w0:zW zI ((b.size:Int)-(a:Int))=(b.size:Int)-a:=zk (by omega) (by omega)
 have w1:∀z:Nat,z<=2000->zW zI ((a:Int)+(z:Int))=((a+z:Nat):Int):=fun z hz=>by rw[zk (by omega) (by omega)];omega
 have hx:∀z:Nat,((a+z:Nat):Int).toNat=a+z:=fun z=>Int.toNat_natCast _
 have Fw:∀z:Nat,(b.extract a (a+z)).size<=1099511627776:=fun z=>by rw[ByteArray.size_extract];omega
 rw[hh]
 have ez:zW zI ((2:Int)*(n:Int))=((2*n:Nat):Int):=by rw[zk (by omega) (by omega)];omega
 simp only[Int.reduceEq,decide_true,decide_false,zD,zC]
 rw[ez]
 simp only[w0,w1 (2*n) (by omega),hx,Int.toNat_natCast,Int.reduceEq,decide_true,decide_false,zC,zD]
 unfold vn iN mS
 simp only[show¬((2:Int)=1) from by decide,if_false,if_true]
 split
 ·rename_i hc
  rw[zT (by omega),zC]
 ·rename_i hc
  rw[zF (by omega),zD,zT (by omega),zC,zT (by omega),zC,zT (by omega),zC,zT (by omega),zC,zv2 _ (Fw _),zc]
  have kq:=aca (b.extract a (a+2*n))
  have h3:=Fw (2*n)
  generalize nJ (b.extract a (a+2*n))=g at kq
  obtain⟨t,i,ok⟩:=g
  dsimp only at kq⊢
  cases ok with
  |true=>
   rw[Bool.not_true,zD,if_pos rfl,xO _ _ (by omega),zc]
   unfold qc
   by_cases hv:bH s t=0
   ·simp only[hv,decide_true,Bool.not_true,zD,if_true]
   ·simp only[hv,decide_false,Bool.not_false,zC,if_false]
  |false=>rw[Bool.not_false,zC,if_neg (by decide)];rfl
theorem Md(ae:Int)(s:Spec)(b:ByteArray)(n a:Nat)(hb:b.size<=1099511627776)(hn:n<=999)(ha:a<=b.size):jU ae s b n a=some (vn (c8 ae s.2.1) s b n a):=by
 rcases XM ae s.2.1 with hh|hh|hh
 ·exact alZ ae s b n a hb hn ha hh
 ·exact al0 ae s b n a hb hn ha hh
 ·exact al1 ae s b n a hb hn ha hh
theorem acJ(ae:Int)(s:Spec)(b:ByteArray)(at_:Int)(hb:b.size<=1099511627776):GR ae s b at_=some (qs ae s b at_):=by
 have hk:Bj ae=some (decide (ae=1\/ae=2)):=by
  unfold Bj Qf
  by_cases h1:ae=1
  ·rw[zT (p:=ae=1\/ae=2) (.inl h1),zT h1];rfl
  ·rw[zF h1,zD]
   by_cases h2:ae=2
   ·rw[zT (p:=ae=1\/ae=2) (.inr h2),zT h2]
   ·rw[zF (p:=ae=1\/ae=2) (fun h=>h.elim h1 h2),zF h2]
 unfold GR VK qs
 rw[hk,zc]
 by_cases h1:ae=1\/ae=2
 case neg=>rw[zF h1,if_neg (fun h=>h1 h.1)];rfl
 rw[zT h1,Bool.not_true,zD,OL,zc]
 by_cases h2:bL s=0
 case neg=>rw[zF h2,if_neg (fun h=>h2 h.2.1)];rfl
 rw[zT h2,Bool.not_true,zD]
 by_cases h3:at_<0
 ·rw[zT h3,if_neg (fun h=>by omega)];rfl
 rw[zF h3,zD]
 by_cases h4:(b.size:Int)<at_
 ·rw[zT h4,if_neg (fun h=>by omega)];rfl
 rw[zF h4,zD,if_pos ⟨h1,h2,by omega,by omega⟩]
 obtain⟨k1,k2,k3,k4,k5,k6,k7,k8,k9⟩:=VA h2
 obtain⟨m,rfl⟩:∃m:Nat,at_=m:=⟨at_.toNat,by omega⟩
 unfold D5
 by_cases h5:s.2.2.1=1
 ·rw[zT h5,Bool.not_true,zD,if_pos h5]
  have:=Md ae s b s.2.2.2.1.toNat m hb (by omega) (by omega)
  rw[Int.toNat_of_nonneg (by omega)] at this
  exact this
 ·rw[zF h5,Bool.not_false,zC,if_neg h5,agt _ _ _ _ hb,zc]
  by_cases h6:(z24 ae s.2.2.1 b m).2.2=0
  case neg=>rw[zF h6,if_pos h6];rfl
  rw[zT h6,Bool.not_true,zD,if_neg (fun h=>h h6)]
  have hp:=agu h6
  by_cases h7:(z24 ae s.2.2.1 b m).1<s.2.2.2.1
  ·rw[zT h7,if_pos (.inl h7)];rfl
  rw[zF h7,zD]
  by_cases h8:s.2.2.2.2.1<(z24 ae s.2.2.1 b m).1
  ·rw[zT h8,if_pos (.inr h8)];rfl
  rw[zF h8,zD,if_neg (fun h=>h.elim h7 h8)]
  have:=Md ae s b (z24 ae s.2.2.1 b m).1.toNat (z24 ae s.2.2.1 b m).2.1.toNat hb (by omega) (by omega)
  rw[Int.toNat_of_nonneg (by omega),Int.toNat_of_nonneg (by omega)] at this
  exact this
def kz(h:Int)(t:ByteArray):ByteArray:=if h=1 then(qu t).1 else if h=2 then z40 t else t
def kG(ae form:Int)(n:Nat):ByteArray:=if form=1 then bs [] else(Ff ae form n).1
def A5(ae:Int)(s:Spec)(t:ByteArray):ByteArray×Int:=
 if¬(ae=1\/ae=2) then(bs [],1) else if¬bH s t=0 then(bs [],bH s t) else(kG ae s.2.2.1 t.size++kz (c8 ae s.2.1) t,0)
theorem zhd(t:ByteArray):(qu t).1.size<=500:=by
 by_cases h:t.size<=999/\bD (bl t)=true
 ·rw[zaf h.1 h.2];omega
 ·unfold qu;rw[zF h];exact Nat.zero_le _
theorem LF(ae form:Int)(n:Nat):(kG ae form n).size<=500:=by
 unfold kG Ff
 split
 ·exact Nat.zero_le _
 ·cases gf ae form with
  |false=>exact Nat.zero_le _
  |true=>
   cases(jw (n:Int) form).2 with
   |false=>exact Nat.zero_le _
   |true=>
    show(if ae=2 then _ else _:ByteArray).size<=500
    split
    ·exact zhd _
    ·have:=LH (n:Int) form;omega
theorem KQ(h:Int)(t:ByteArray):(kz h t).size<=2*t.size+500:=by
 unfold kz
 split
 ·have:=zhd t;omega
 ·split
  ·rw[zao];omega
  ·omega
theorem D2(x:ByteArray):bs []++x=x:=by
 apply ByteArray.ext
 simp [ByteArray.data_append,bs]
theorem acK(ae:Int)(s:Spec)(t:ByteArray)(ht:t.size<=1099511627776):Bh ae s t=some (A5 ae s t):=by
 unfold Bh VM Bj Qf A5
 have ey:=KQ (c8 ae s.2.1) t
 have iV:=LF ae s.2.2.1 t.size
 have main:ae=1\/ae=2->(bW s t).bind (fun r2=>(bif(!(decide (r2=(0:Int)))) then some (bs [],r2) else(bif(!(decide (s.2.2.1=(1:Int)))) then((qD ae s.2.2.1 ((t).size:Int)).bind fun r3=>((kL ae s.2.1).bind fun r4=>(bif(decide (r4=(1:Int))) then((Q1 t).bind fun r5=>(bif decide ((r3.1).size+(r5.1).size<=9223372036854775807) then some (r3.1++r5.1,(0:Int)) else none)) else(bif(decide (r4=(2:Int))) then((jH t).bind fun r6=>(bif decide ((r3.1).size+(r6).size<=9223372036854775807) then some (r3.1++r6,(0:Int)) else none)) else(bif decide ((r3.1).size+(t).size<=9223372036854775807) then some (r3.1++t,(0:Int)) else none))))) else((kL ae s.2.1).bind fun r7=>(bif(decide (r7=(1:Int))) then((Q1 t).bind fun r8=>(bif decide (((bs [])).size+(r8.1).size<=9223372036854775807) then some ((bs [])++r8.1,(0:Int)) else none)) else(bif(decide (r7=(2:Int))) then((jH t).bind fun r9=>(bif decide (((bs [])).size+(r9).size<=9223372036854775807) then some ((bs [])++r9,(0:Int)) else none)) else(bif decide (((bs [])).size+(t).size<=9223372036854775807) then some ((bs [])++t,(0:Int)) else none)))))))=some (if¬bH s t=0 then(bs [],bH s t) else(kG ae s.2.2.1 t.size++kz (c8 ae s.2.1) t,0)):=fun hs=>by
  rw[xO s t ht,zc]
  by_cases hv:bH s t=0
  case neg=>rw[zF hv,if_pos hv];rfl
  rw[zT hv,Bool.not_true,zD,if_neg (fun h=>h hv)]
  simp only[XL,zc,agw _ _ _ (show(t.size:Int)<=9223372036854775807 by omega),zhc t (by simp only[maxLen];omega),zv3 t ht]
  have hz:(bs []).size=0:=rfl
  by_cases h1:s.2.2.1=1
  ·rw[zT h1,Bool.not_true,zD]
   unfold kG
   rw[if_pos h1]
   unfold kz at ey⊢
   rcases XM ae s.2.1 with hh|hh|hh<;>rw[hh] at ey⊢ <;>simp only[Int.reduceEq,decide_true,decide_false,zC,zD,if_true,if_false] at ey⊢
   all_goals rw[zT (by omega),zC]
  ·rw[zF h1,Bool.not_false,zC]
   unfold kG at iV⊢
   rw[if_neg h1] at iV⊢
   unfold kz at ey⊢
   rcases XM ae s.2.1 with hh|hh|hh<;>rw[hh] at ey⊢ <;>simp only[Int.reduceEq,decide_true,decide_false,zC,zD,if_true,if_false] at ey⊢
   all_goals rw[zT (by omega),zC]
 by_cases h1:ae=1
 ·rw[zT h1,zC,zc,Bool.not_true,zD,if_neg (fun h=>h (.inl h1))]
  exact main (.inl h1)
 ·rw[zF h1,zD,zc]
  by_cases h2:ae=2
  ·rw[zT h2,Bool.not_true,zD,if_neg (fun h=>h (.inr h2))]
   exact main (.inr h2)
  ·rw[zF h2,if_pos (fun h=>h.elim h1 h2)];rfl
theorem al9(x p y:ByteArray):(x++p++y).extract x.size (x.size+p.size)=p:=by
 apply Fa
 rw[uO,rX,rX,List.append_assoc,<-zg,<-zg,List.take_append,List.drop_append_of_le_length (by simp),]
 simp
theorem AY(x y:ByteArray):(x++y).size=x.size+y.size:=ByteArray.size_append ..
theorem NB(b:ByteArray){i j k:Nat}(h:i<=j)(h2:j<=k):b.extract i j++b.extract j k=b.extract i k:=by
 apply Fa
 rw[rX,uO,uO,uO]
 generalize bl b=l
 have e1:l.take j=(l.take k).take j:=by rw[List.take_take];congr 1;omega
 rw[e1]
 generalize l.take k=q
 rw[<-List.take_append_drop (j-i) (q.drop i),List.drop_take,List.drop_drop,show i+(j-i)=j by omega]
theorem Le{s:ByteArray}{n:Int}(h:dX (bl s)=(n,true)):jw n s.size=(s,true)/\0<=n:=by
 unfold dX at h
 split at h
 ·rename_i hc
  obtain⟨h1,h2,h3⟩:=hc
  have hv:fo (bl s) 0=n:=congrArg Prod.fst h
  have hn:=(zvx (bl s) 0 0 h3 (Int.le_refl _) (by simp) (by omega)).1
  rw[hv] at hn
  obtain⟨e1,e2⟩:=Mf (bl s).length n.toNat (bl s) h3 rfl (by rw[hv,Int.toNat_of_nonneg hn])
  rw[zg] at e1 e2 h1 h2
  refine⟨?_,hn⟩
  rw[D7 ⟨hn,by omega,by omega,by rw[Int.toNat_natCast];exact e2⟩,Int.toNat_natCast,e1,z59]
 ·cases h
theorem agv{ae form:Int}:gf ae form=true↔(ae=1\/ae=2)/\(form=2\/form=3):=by unfold gf;rw[decide_eq_true_eq]
theorem adg{ae form n:Int}{s:ByteArray}(hk:gf ae form=true)(h:uw ae form s=some n)(hs:s.size=kH ae form):Ff ae form n=(s,0)/\0<=n:=by
 have B3:=agv.1 hk
 unfold uw at h
 unfold kH at hs
 unfold Ff
 rw[hk,zC]
 by_cases h2:ae=2
 ·rw[if_pos h2] at h hs⊢
  generalize hg:kK s form=g at h
  obtain⟨t,e,i⟩:=g
  dsimp only at h
  split at h
  case isFalse=>cases h
  rename_i he
  subst he
  obtain⟨a1,a2,a3⟩:=KI hg (by omega)
  split at h
  case isFalse=>cases h
  rename_i ho
  have hn:(dX (bl t)).1=n:=by simpa using h
  obtain⟨c1,c2⟩:=Le (s:=t) (n:=n) (by rw[<-hn,<-ho])
  rw[a2] at c1
  rw[c1,zC]
  dsimp only
  rw[a1]
  exact⟨rfl,c2⟩
 ·rw[if_neg h2] at h hs⊢
  split at h
  case isFalse=>cases h
  rename_i ho
  have hn:(dX (bl s)).1=n:=by simpa using h
  obtain⟨c1,c2⟩:=Le (s:=s) (n:=n) (by rw[<-hn,<-ho])
  rw[hs,Int.toNat_of_nonneg (by omega)] at c1
  rw[c1]
  exact⟨rfl,c2⟩
theorem agx{ae form n z:Int}{b:ByteArray}{a:Nat}(h:z24 ae form b a=(n,z,0)):gf ae form=true/\0<=n/\a<=b.size/\z=((a+kH ae form:Nat):Int)/\a+kH ae form<=b.size/\Ff ae form n=(b.extract a (a+kH ae form),0):=by
 unfold z24 at h
 cases hk:(gf ae form&&decide (0<=(a:Int)/\(a:Int)<=(b.size:Int))) with
 |false=>rw[hk] at h;cases h
 |true=>
  rw[hk,zC,Int.toNat_natCast] at h
  rw[Bool.and_eq_true,decide_eq_true_eq] at hk
  split at h
  ·cases h
  ·rename_i hs
   split at h
   ·rename_i m hm
    cases h
    obtain⟨c1,c2⟩:=adg hk.1 hm (Er (by omega))
    exact⟨hk.1,c2,by omega,rfl,by omega,c1⟩
   ·cases h
theorem afF{ae:Int}{s:Spec}{c t:ByteArray}{n:Nat}(hc:c.size=iN (c8 ae s.2.1) n)(hn:n<=999)(h:mS (c8 ae s.2.1) c n= .inr t):kz (c8 ae s.2.1) t=c/\t.size=n:=by
 unfold mS at h
 unfold iN at hc
 unfold kz
 rcases XM ae s.2.1 with hh|hh|hh<;>rw[hh] at h hc⊢ <;>simp only[Int.reduceEq,if_true,if_false] at h hc⊢
 ·injection h with h
  exact⟨h.symm,by rw[<-h];exact hc⟩
 ·split at h
  case isFalse=>cases h
  rename_i he
  generalize hg:kK c (n:Int)=g at h he
  obtain⟨t',e,i⟩:=g
  dsimp only at h he
  subst he
  injection h with h
  subst h
  obtain⟨a1,a2,a3⟩:=KI hg (by omega)
  exact⟨by rw[a1],by omega⟩
 ·split at h
  case isFalse=>cases h
  rename_i he
  generalize hg:nJ c=g at h he
  obtain⟨t',i,ok⟩:=g
  dsimp only at h he
  subst he
  injection h with h
  subst h
  obtain⟨a1,a2⟩:=zi2 hg
  exact⟨a1,by omega⟩
theorem zul{ae z:Int}{s:Spec}{b t:ByteArray}{a:Nat}(hb:b.size<=1099511627776)(h:qs ae s b a=(t,z,0)):(ae=1\/ae=2)/\bH s t=0/\(a:Int)<=z/\z<=b.size/\t.size<=999/\(A5 ae s t).1=b.extract a z.toNat:=by
 unfold qs at h
 split at h
 case isFalse=>cases h
 rename_i hc
 obtain⟨hs,v1,ha0,ha1⟩:=hc
 obtain⟨k1,k2,k3,k4,k5,k6,k7,k8,k9⟩:=VA v1
 have body:∀(n p:Nat),n<=999->vn (c8 ae s.2.1) s b n p=(t,z,0)->bH s t=0/\z=((p+iN (c8 ae s.2.1) n:Nat):Int)/\p+iN (c8 ae s.2.1) n<=b.size/\t.size=n/\kz (c8 ae s.2.1) t=b.extract p (p+iN (c8 ae s.2.1) n):=by
  intro n p hn h
  unfold vn at h
  split at h
  ·cases h
  ·rename_i aq
   cases hg:mS (c8 ae s.2.1) (b.extract p (p+iN (c8 ae s.2.1) n)) (n:Int) with
   |inl e=>
    rw[hg] at h
    replace h:(bs [],(0:Int),e)=(t,z,0):=h
    injection h with _ h
    injection h with _ h
    exfalso
    subst h
    unfold mS at hg
    split at hg
    ·split at hg
     ·cases hg
     ·rename_i bI
      injection hg with hg
      exact bI hg
    ·split at hg
     ·split at hg<;>cases hg
     ·cases hg
   |inr t'=>
    rw[hg] at h
    replace h:(if bH s t'=0 then(t',((p+iN (c8 ae s.2.1) n:Nat):Int),(0:Int)) else(bs [],0,bH s t'))=(t,z,0):=h
    split at h
    ·rename_i hv
     cases h
     obtain⟨c1,c2⟩:=afF (Er (by omega)) hn hg
     exact⟨hv,rfl,by omega,c2,c1⟩
    ·rename_i hv
     injection h with _ h
     injection h with _ h
     exact absurd h hv
 have fin:bH s t=0->(A5 ae s t).1=kG ae s.2.2.1 t.size++kz (c8 ae s.2.1) t:=fun hv=>by
  unfold A5
  rw[if_neg (fun h=>h hs),if_neg (fun h=>h hv)]
 unfold D5 at h
 by_cases hf:s.2.2.1=1
 ·rw[if_pos hf] at h
  obtain⟨b1,b2,b3,b4,b5⟩:=body _ _ (by omega) h
  rw[Int.toNat_natCast] at b2 b3 b5
  refine⟨hs,b1,by omega,by omega,by omega,?_⟩
  rw[fin b1,b5,b2,Int.toNat_natCast]
  unfold kG
  rw[if_pos hf,D2]
 ·rw[if_neg hf] at h
  split at h
  ·rename_i he
   unfold zV at h
   injection h with _ h
   injection h with _ h
   exact absurd h he
  ·rename_i he
   split at h
   ·cases h
   ·rename_i hr
    generalize hg:z24 ae s.2.2.1 b (a:Int)=g at h he hr
    obtain⟨n,z',e⟩:=g
    dsimp only at h he hr
    have he:e=0:=by
     by_cases e0:e=0
     ·exact e0
     ·exact absurd e0 he
    subst he
    obtain⟨q1,q2,q3,q4,q5,q6⟩:=agx hg
    obtain⟨b1,b2,b3,b4,b5⟩:=body _ _ (by omega) h
    dsimp only at b2 b3 b5
    subst q4
    rw[Int.toNat_natCast] at b2 b3 b5
    refine⟨hs,b1,by omega,by omega,by omega,?_⟩
    rw[fin b1,b5,b2,Int.toNat_natCast]
    have hpc:kG ae s.2.2.1 t.size=b.extract a (a+kH ae s.2.2.1):=by
     unfold kG
     rw[if_neg hf,b4,Int.toNat_of_nonneg q2,q6]
    rw[hpc,NB _ (by omega) (by omega)]
def ox(n:Nat)(l:List Int):Nat:=l.foldl (fun n c=>n*256+c.toNat) n
def kj(l:List Int):Nat:=ox 0 l
def lO(x:Nat):List Int:=[((x/72057594037927936 % 256:Nat):Int),((x/281474976710656 % 256:Nat):Int),((x/1099511627776 % 256:Nat):Int),((x/4294967296 % 256:Nat):Int),((x/16777216 % 256:Nat):Int),((x/65536 % 256:Nat):Int),((x/256 % 256:Nat):Int),((x % 256:Nat):Int)]
theorem CO{x:Nat}(h:x<18446744073709551616):kj (lO x)=x:=by
 simp only[kj,ox,lO,List.foldl,Int.toNat_natCast]
 omega
theorem eight{l:List Int}(h:l.length=8):∃a b c d e f g i,l=[a,b,c,d,e,f,g,i]:=by
 match l,h with
 | [a,b,c,d,e,f,g,i],_=>exact⟨a,b,c,d,e,f,g,i,rfl⟩
def QE:Nat->Nat->List Int
 |0,_=>[]
 |m+1,x=>QE m (x/256)++ [((x % 256:Nat):Int)]
theorem ag0(l:List Int)(n:Nat)(c:Int):ox n (l++ [c])=ox n l*256+c.toNat:=by
 unfold ox;rw[List.foldl_append];rfl
theorem zuk:∀(m:Nat) (l:List Int),l.length=m->(∀y∈l,zo y)->QE m (kj l)=l/\kj l<256^m
 |0,l,h,_=>by
  have:=List.length_eq_zero_iff.1 h
  subst this
  exact⟨rfl,by decide⟩
 |m+1,l,h,hb=>by
  obtain⟨q,c,rfl⟩:∃q c,l=q++ [c]:=by
   rcases List.eq_nil_or_concat l with e|⟨q,c,e⟩
   ·rw[e] at h;cases h
   ·exact⟨q,c,by rw[e,List.concat_eq_append]⟩
  obtain⟨i1,i2⟩:=zuk m q (by rw[List.length_append,List.length_singleton] at h;omega) fun y hy=>hb y (List.mem_append_left _ hy)
  have hc:=hb c (List.mem_append_right _ (by simp))
  unfold zo at hc
  unfold kj at i1 i2⊢
  rw[ag0]
  generalize ox 0 q=v at i1 i2
  refine⟨?_,by rw[Nat.pow_succ];omega⟩
  rw[QE,show(v*256+c.toNat)/256=v by omega,i1,show(v*256+c.toNat)% 256=c.toNat by omega,Int.toNat_of_nonneg hc.1]
theorem I5(x:Nat):lO x=QE 8 x:=by
 simp only[QE,lO,Nat.div_div_eq_div_mul,List.nil_append,List.cons_append]
theorem Qd{l:List Int}(h:l.length=8)(hb:∀y∈l,zo y):lO (kj l)=l/\kj l<18446744073709551616:=by
 obtain⟨h1,h2⟩:=zuk 8 l h hb
 rw[I5]
 exact⟨h1,by rw[show(256:Nat)^8=18446744073709551616 from by decide] at h2;exact h2⟩
theorem Mc(x:Nat):∀y∈lO x,zo y:=by
 intro y hy
 unfold lO at hy
 simp only[List.mem_cons,List.not_mem_nil,or_false] at hy
 unfold zo
 omega
theorem Nx(x:Nat):(lO x).length=8:=rfl
theorem St{x:Nat}(hx:x<18446744073709551616):lO x=[0,0,0,0,0,0,0,0]↔x=0:=by
 constructor
 ·intro h
  have:=CO hx
  rw[h] at this
  rw[<-this];rfl
 ·rintro rfl;rfl
theorem aod(n:Nat):zW zU (n:Int)=((n % 256:Nat):Int):=by
 simp [IntKind.wrap,IntKind.signed,IntKind.bits]
theorem AP(k x:Nat)(j:Nat)(hj:j<8)(p q:List Int):hI (k+1) (x:Int) (j:Int) p q=hI k (x:Int) ((j+1:Nat):Int) p (q.set j ((x/2^(8*(7-j))% 256:Nat):Int)):=by
 have e1:zW zI ((7:Int)-(j:Int))=((7-j:Nat):Int):=by rw[zk (by omega) (by omega)];omega
 have e2:zW zI ((8:Int)*((7-j:Nat):Int))=((8*(7-j):Nat):Int):=by rw[zk (by omega) (by omega)];omega
 conv=>lhs;unfold hI mK
 rw[zT (by omega),zC,e1,e2,zF (by omega),zD,zi hj,Pa x _ (by omega),aod,zr (by omega),Int.toNat_natCast]
theorem afz(k x:Nat)(p q:List Int):hI (k+1) (x:Int) ((8:Nat):Int) p q=some (p,q):=by
 unfold hI mK
 rw[zF (by omega)];rfl
theorem zq7(x:Nat):Q8 (x:Int)=some (lO x):=by
 obtain⟨k,hk⟩:∃k,ag=k+9:=⟨ag-9,by rw[zq]⟩
 unfold Q8 pr
 dsimp only
 rw[hk,show(0:Int)=((0:Nat):Int) from rfl,AP _ x 0 (by decide),AP _ x 1 (by decide),AP _ x 2 (by decide),AP _ x 3 (by decide),AP _ x 4 (by decide),AP _ x 5 (by decide),AP _ x 6 (by decide),AP _ x 7 (by decide),afz,zc]
 unfold pu lO
 simp
theorem an8{n c:Nat}(hc:c<256):n*256|||c=n*256+c:=by
 have:=Nat.two_pow_add_eq_or_of_lt (i:=8) (b:=c) hc n
 rw[show(2:Nat)^8=256 from rfl,Nat.mul_comm 256 n] at this
 exact this.symm
theorem KL(l:List Int)(hl:l.length=8)(hb:∀y∈l,zo y):∀(m j k n:Nat),j+m=8->m<k->n<256^j->jM k (n:Int) l (j:Int)=some ((ox n (l.drop j):Nat):Int)
 |m,j,0,n,_,hk,_=>by omega
 |0,j,k+1,n,hj,hk,_=>by
  unfold jM mI
  rw[zF (by omega),zD,List.drop_eq_nil_of_le (by omega)];rfl
 |m+1,j,k+1,n,hj,hk,hn=>by
  have aq:j<l.length:=by omega
  have hc:=hb _ (List.getElem_mem aq)
  unfold zo at hc
  have hg:l.getD j 0=l[j]:=by rw[List.getD_eq_getElem?_getD,List.getElem?_eq_getElem aq];rfl
  have hp:(256:Nat)^j<=256^7:=Nat.pow_le_pow_right (by decide) (by omega)
  have hp7:(256:Nat)^7=72057594037927936:=by decide
  obtain⟨c,hcc⟩:∃c:Nat,l[j]=(c:Int):=⟨l[j].toNat,by omega⟩
  unfold jM mI
  rw[zT (by omega),zC,zi (by omega),Int.toNat_natCast,hg,hcc,zr (by omega)]
  have e1:IntKind.u64.wrap ((n:Int)*2^min ((8:Int)).toNat 64)=((n*256:Nat):Int):=by
   have:((n:Int)*2^min ((8:Int)).toNat 64)=((n*256:Nat):Int):=by
    rw[show min ((8:Int)).toNat 64=8 from rfl,show(2:Int)^8=256 from by decide];omega
   rw[this];exact Gr (by omega)
  rw[e1,Gr (by omega),xt (by omega) (by omega),an8 (by omega)]
  dsimp only
  have JD:n*256+c<256^(j+1):=by rw[Nat.pow_succ];omega
  rw[KL l hl hb m (j+1) k _ (by omega) (by omega) JD,List.drop_eq_getElem_cons aq,hcc]
  rfl
theorem Nu(l:List Int)(hl:l.length=8)(hb:∀y∈l,zo y):Q7 l=some ((kj l:Nat):Int):=by
 unfold Q7 pk
 have:=KL l hl hb 8 0 ag 0 (by omega) (by rw[zq];omega) (by decide)
 rw[show((0:Nat):Int)=0 from rfl,List.drop_zero] at this
 dsimp only
 rw[this];rfl
def gW(ae:Int):Nat:=if ae=1 then 16 else 8
def nx(ae:Int)(b:ByteArray)(a:Nat):Sum Int Nat:=
 if b.size<a+gW ae then .inl 2 else if ae=1 then(if(nJ (b.extract a (a+gW ae))).2.2=true then .inr (kj (bl (nJ (b.extract a (a+gW ae))).1)) else .inl 3) else .inr (kj (bl (b.extract a (a+gW ae))))
def uC(a:Nat)(ae:Int):Sum Int Nat->List Int×Int×Int
 | .inl e=>(List.replicate 8 0,0,e)
 | .inr x=>(lO x,((a+gW ae:Nat):Int),0)
theorem zX{t:ByteArray}(h:t.size=8):bX (List.replicate 8 (0:Int)) (List.take 8 (nH t)) 0=lO (kj (bl t)):=by
 have hl:(bl t).length=8:=by rw[zg];exact h
 rw[(Qd hl fun y hy=>mh hy).1]
 have dg:nH t=bl t:=rfl
 rw[dg]
 obtain⟨a,b,c,d,e,f,g,i,hq⟩:=eight hl
 rw[hq]
 rfl
theorem tK{s t:ByteArray}{i:Int}(h:nJ s=(t,i,true))(hs:s.size=16):t.size=8:=by have:=(zi2 h).2;omega
theorem N1(ae:Int)(b:ByteArray)(a:Nat)(hb:b.size<=1099511627776)(ha:a<=b.size)(hs:ae=1\/ae=2):Fg ae b a=some (uC a ae (nx ae b a)):=by
 have w0:zW zI ((b.size:Int)-(a:Int))=(b.size:Int)-a:=zk (by omega) (by omega)
 have w8:zW zI ((a:Int)+8)=((a+8:Nat):Int):=by rw[zk (by omega) (by omega)];omega
 have w16:zW zI ((a:Int)+16)=((a+16:Nat):Int):=by rw[zk (by omega) (by omega)];omega
 have wm:zW zI ((8:Int)*2)=16:=by decide
 unfold Fg VF nx gW
 rcases hs with rfl|rfl
 ·simp only[Int.reduceEq,decide_true,zC,wm,w0,w16,if_true,Int.toNat_natCast]
  split
  ·rename_i hc
   rw[zT (by omega)];rfl
  ·rename_i hc
   rw[zF (by omega),zD,zT (by omega),zC,zT (by omega),zC,zT (by omega),zC,zT (by omega),zC,zv2 _ (by rw[ByteArray.size_extract];omega),zc]
   generalize hg:nJ (b.extract a (a+16))=g
   obtain⟨t,i,ok⟩:=g
   cases ok with
   |false=>rfl
   |true=>
    have ht:=tK hg (Er (by omega))
    dsimp only
    rw[Bool.not_true,zD,if_pos rfl,zX ht]
    rfl
 ·simp only[Int.reduceEq,decide_false,zD,w0,w8,if_false,Int.toNat_natCast]
  split
  ·rename_i hc
   rw[zT (by omega)];rfl
  ·rename_i hc
   rw[zF (by omega),zD,zT (by omega),zC,zT (by omega),zC,zT (by omega),zC,zT (by omega),zC,zX (Er (by omega))]
   rfl
theorem D1{ae:Int}{b:ByteArray}{a x:Nat}(hs:ae=1\/ae=2)(h:nx ae b a= .inr x):x<18446744073709551616/\a+gW ae<=b.size:=by
 unfold nx gW at h
 unfold gW
 rcases hs with rfl|rfl
 ·simp only[if_true] at h⊢
  split at h
  ·cases h
  ·split at h
   case isFalse=>cases h
   rename_i hc ho
   injection h with h
   generalize hg:nJ (b.extract a (a+16))=g at h ho
   obtain⟨t,i,ok⟩:=g
   dsimp only at h ho
   subst ho
   have ht:=tK hg (Er (by omega))
   rw[<-h]
   exact⟨(Qd (by rw[zg];exact ht) fun y hy=>mh hy).2,by omega⟩
 ·simp only[Int.reduceEq,if_false] at h⊢
  split at h
  ·cases h
  ·injection h with h
   rw[<-h]
   exact⟨(Qd (by rw[zg];exact Er (by omega)) fun y hy=>mh hy).2,by omega⟩
def Rb(e:Int):Nat×Nat×Int×Int:=(0,0,0,e)
def cS(ae:Int)(b:ByteArray)(at_:Int):Nat×Nat×Int×Int:=
 if(ae=1\/ae=2)/\0<=at_/\at_<=b.size then
  match nx ae b at_.toNat with
  | .inl e=>Rb e
  | .inr x=>if x<9223372036854775808 then(x,0,((at_.toNat+gW ae:Nat):Int),0) else
    match nx ae b (at_.toNat+gW ae) with
    | .inl e=>Rb e
    | .inr y=>if y=0 then Rb 8 else(x-9223372036854775808,y,((at_.toNat+gW ae+gW ae:Nat):Int),0)
 else Rb 1
def bmR(r:Nat×Nat×Int×Int):vC×Int×Int:=(((r.1:Int),(r.2.1:Int),()),r.2.2.1,r.2.2.2)
theorem amz{x:Nat}(hx:x<18446744073709551616):decide (aP .and .u64 (x:Int) (9223372036854775808:Int)=0)=decide (x<9223372036854775808):=by
 rw[show(9223372036854775808:Int)=((9223372036854775808:Nat):Int) from rfl,mP hx (by decide)]
 apply decide_eq_decide.2
 have h:=z96 x 63
 rw[show(2:Nat)^63=9223372036854775808 from by decide] at h
 constructor
 ·intro e
  have e:x&&&9223372036854775808=0:=by omega
  have:=h.1 e
  rcases Nat.lt_or_ge x 9223372036854775808 with h1|h1
  ·exact h1
  ·have h2:x.testBit 63=true:=by
    rw[Nat.testBit_eq_decide_div_mod_eq]
    exact zT (by omega)
   rw[h2] at this;cases this
 ·intro e
  have:x.testBit 63=false:=Nat.testBit_lt_two_pow (by rw[show(2:Nat)^63=9223372036854775808 from by decide];exact e)
  have:=h.2 this
  omega
theorem amA{x:Nat}(hx:x<18446744073709551616)(h:¬x<9223372036854775808):aP .andNot .u64 (x:Int) (9223372036854775808:Int)=((x-9223372036854775808:Nat):Int):=by
 rw[show(9223372036854775808:Int)=((9223372036854775808:Nat):Int) from rfl,aiZ hx (by decide)]
 have:x&&&(18446744073709551615-9223372036854775808)=x-9223372036854775808:=by
  have:=Nat.and_two_pow_sub_one_eq_mod x 63
  rw[show(2:Nat)^63-1=18446744073709551615-9223372036854775808 from by decide,show(2:Nat)^63=9223372036854775808 from by decide] at this
  omega
 rw[this]
theorem ai7(ae:Int)(b:ByteArray)(at_:Int)(hb:b.size<=1099511627776):Q5 ae b at_=some (bmR (cS ae b at_)):=by
 have hk:Q9 ae=some (decide (ae=1\/ae=2)):=by
  unfold Q9 mL
  by_cases h1:ae=1
  ·rw[zT (p:=ae=1\/ae=2) (.inl h1),zT h1];rfl
  ·rw[zF h1,zD]
   by_cases h2:ae=2
   ·rw[zT (p:=ae=1\/ae=2) (.inr h2),zT h2]
   ·rw[zF (p:=ae=1\/ae=2) (fun h=>h.elim h1 h2),zF h2]
 unfold Q5 pa cS
 rw[hk,zc]
 by_cases h1:ae=1\/ae=2
 case neg=>rw[zF h1,if_neg (fun h=>h1 h.1)];rfl
 rw[zT h1,Bool.not_true,zD]
 by_cases h3:at_<0
 ·rw[zT h3,if_neg (fun h=>by omega)];rfl
 rw[zF h3,zD]
 by_cases h4:(b.size:Int)<at_
 ·rw[zT h4,if_neg (fun h=>by omega)];rfl
 rw[zF h4,zD,if_pos ⟨h1,by omega,by omega⟩]
 obtain⟨m,rfl⟩:∃m:Nat,at_=m:=⟨at_.toNat,by omega⟩
 rw[Int.toNat_natCast,N1 ae b m hb (by omega) h1,zc]
 cases hT:nx ae b m with
 |inl e=>
  have he:¬e=0:=by
   unfold nx at hT
   split at hT
   ·cases hT;decide
   ·split at hT
    ·split at hT
     ·cases hT
     ·cases hT;decide
    ·cases hT
  show(bif(!(decide (e=0))) then _ else _)=_
  rw[zF he];rfl
 |inr x=>
  obtain⟨hx,dx⟩:=D1 h1 hT
  show(bif(!(decide ((0:Int)=0))) then _ else(Q7 (lO x)).bind _)=_
  rw[zT rfl,Bool.not_true,zD,Nu _ (Nx x) (Mc x),zc,CO hx,amz hx]
  by_cases aq:x<9223372036854775808
  ·rw[zT aq,zC]
   dsimp only
   rw[if_pos aq];rfl
  ·rw[zF aq,zD]
   dsimp only[uC]
   rw[N1 ae b (m+gW ae) hb (by omega) h1,zc,if_neg aq]
   cases hU:nx ae b (m+gW ae) with
   |inl e=>
    have he:¬e=0:=by
     unfold nx at hU
     split at hU
     ·cases hU;decide
     ·split at hU
      ·split at hU
       ·cases hU
       ·cases hU;decide
      ·cases hU
    show(bif(!(decide (e=0))) then _ else _)=_
    rw[zF he];rfl
   |inr y=>
    obtain⟨hy,FF⟩:=D1 h1 hU
    rw[show uC (m+gW ae) ae (.inr y)=(lO y,((m+gW ae+gW ae:Nat):Int),(0:Int)) from rfl]
    dsimp only
    rw[zT rfl,Bool.not_true,zD]
    by_cases hz:y=0
    ·rw[zT ((St hy).2 hz),zC]
     rw[if_pos hz];rfl
    ·rw[zF (fun h=>hz ((St hy).1 h)),zD,Nu _ (Nx y) (Mc y),zc,CO hy,amA hx aq]
     rw[if_neg hz];rfl
def gv(ae:Int)(t:ByteArray):ByteArray:=if ae=1 then z40 t else t
def wB(x:Nat):ByteArray:=strOf (lO x)
theorem EW(x:Nat):(wB x).size=8:=by unfold wB;rw[vk];rfl
theorem zht{ae:Int}(x:Nat):(gv ae (wB x)).size=gW ae:=by
 unfold gv gW
 split
 ·rw[zao,EW]
 ·exact EW x
def fO(ae:Int)(h l:Nat):ByteArray×Int:=
 if(ae=1\/ae=2)/\h<9223372036854775808 then((if l=0 then gv ae (wB h) else gv ae (wB (h+9223372036854775808))++gv ae (wB l)),0) else(bs [],1)
theorem zo4:∀a b:List Int,fC (a++b)=fC a++fC b
 | [],b=>rfl
 |x::r,b=>by rw[List.cons_append,fC,fC,zo4 r b];rfl
theorem abh(a b:ByteArray):z40 (a++b)=z40 a++z40 b:=by
 unfold z40
 rw[rX,zo4,abR]
theorem ab3(ae:Int)(a b:ByteArray):gv ae (a++b)=gv ae a++gv ae b:=by
 unfold gv
 split
 ·exact abh a b
 ·rfl
theorem amh{h l:Nat}(hh:h<c9):cc h l 1= !decide (h<9223372036854775808):=by
 have e:cc h l 1=h.testBit 63:=by
  unfold cc
  rw[if_pos (by decide)];rfl
 rw[e]
 rcases Nat.lt_or_ge h 9223372036854775808 with h1|h1
 ·rw[zT h1]
  exact Nat.testBit_lt_two_pow (by rw[show(2:Nat)^63=9223372036854775808 from by decide];exact h1)
 ·rw[zF (by omega),Nat.testBit_eq_decide_div_mod_eq]
  have hh:h<18446744073709551616:=hh
  exact zT (by omega)
theorem an9{h:Nat}(hh:h<9223372036854775808):h|||9223372036854775808=h+9223372036854775808:=by
 have:=Nat.two_pow_add_eq_or_of_lt (i:=63) (b:=h) (by rw[show(2:Nat)^63=9223372036854775808 from by decide];exact hh) 1
 rw[show(2:Nat)^63=9223372036854775808 from by decide,Nat.mul_one] at this
 rw[Nat.or_comm,<-this,Nat.add_comm]
theorem Nw(x:ByteArray):x++bs []=x:=by
 apply ByteArray.ext
 simp [ByteArray.data_append,bs]
theorem ai9(ae:Int)(h l:Nat)(hh:h<c9)(hl:l<c9):Q6 ae ((h:Int),(l:Int),())=some (fO ae h l):=by
 have hk:Q9 ae=some (decide (ae=1\/ae=2)):=by
  unfold Q9 mL
  by_cases h1:ae=1
  ·rw[zT (p:=ae=1\/ae=2) (.inl h1),zT h1];rfl
  ·rw[zF h1,zD]
   by_cases h2:ae=2
   ·rw[zT (p:=ae=1\/ae=2) (.inr h2),zT h2]
   ·rw[zF (p:=ae=1\/ae=2) (fun h=>h.elim h1 h2),zF h2]
 unfold Q6 pd fO
 rw[hk,zc]
 by_cases h1:ae=1\/ae=2
 case neg=>rw[zF h1,if_neg (fun h=>h1 h.1)];rfl
 rw[zT h1,Bool.not_true,zD,amD h l hh hl,zc,amh hh]
 by_cases h2:h<9223372036854775808
 case neg=>rw[zF h2,if_neg (fun h=>h2 h.2)];rfl
 rw[zT h2,Bool.not_true,zD,if_pos ⟨h1,h2⟩]
 have hH:QQ ((h:Int),(l:Int),())=some ((h:Int),(l:Int)):=rfl
 rw[hH,zc]
 dsimp only
 rw[zq7,zc]
 have z8:∀x:Nat,Nat.beq 8 (List.length (lO x))=true:=fun x=>rfl
 have fin:∀t:ByteArray,t.size<=16->(bif decide (ae=1) then(jH t).bind fun r6=>some (r6,(0:Int)) else some (t,0))=some (gv ae t,0):=fun t ht=>by
  unfold gv
  by_cases hs:ae=1
  ·rw[zT hs,zC,zv3 t (by omega),if_pos hs];rfl
  ·rw[zF hs,if_neg hs];rfl
 by_cases hz:l=0
 ·rw[zT ((St hl).2 hz),if_pos hz,Bool.not_true,zD,zq7,zc,z8,zC]
  have dx:(strOf (lO h)).size=8:=EW h
  rw[zT (by rw[dx];decide),zC,Nw]
  exact fin (wB h) (by rw[EW];decide)
 ·have hor:aP .or .u64 (h:Int) (9223372036854775808:Int)=((h+9223372036854775808:Nat):Int):=by
   rw[show(9223372036854775808:Int)=((9223372036854775808:Nat):Int) from rfl,xt hh (by decide),an9 h2]
  rw[zF (fun e=>hz ((St hl).1 e)),if_neg hz,Bool.not_false,zC,z8,zC,hor,zq7,zc,z8,zC]
  have dx:∀x,(strOf (lO x)).size=8:=fun x=>EW x
  rw[zT (by rw[dx,dx];decide),zC,<-ab3]
  exact fin (wB _++wB l) (by rw[AY,EW,EW];decide)
theorem ama(b:ByteArray){a:Nat}{ae:Int}(h:a+gW ae<=b.size):(b.extract a (a+gW ae)).size=gW ae:=Er h
theorem KM{ae:Int}{b:ByteArray}{a v:Nat}(hs:ae=1\/ae=2)(h:nx ae b a= .inr v):gv ae (wB v)=b.extract a (a+gW ae)/\v<18446744073709551616/\a+gW ae<=b.size:=by
 obtain⟨h1,h2⟩:=D1 hs h
 refine⟨?_,h1,h2⟩
 have hz:=ama b h2
 unfold nx at h
 rw[if_neg (by omega)] at h
 unfold gv wB
 rcases hs with rfl|rfl
 ·rw[if_pos rfl] at h⊢
  split at h
  case isFalse=>cases h
  rename_i ho
  generalize hg:nJ (b.extract a (a+gW 1))=g at h ho
  obtain⟨t,i,ok⟩:=g
  dsimp only at h ho
  subst ho
  injection h with h
  have ht:=tK hg hz
  obtain⟨e1,_⟩:=Qd (l:=bl t) (by rw[zg];exact ht) fun y hy=>mh hy
  rw[<-h,e1,z59,(zi2 hg).1]
 ·rw[if_neg (by decide)] at h⊢
  injection h with h
  obtain⟨e1,_⟩:=Qd (l:=bl (b.extract a (a+gW 2))) (by rw[zg];exact hz) fun y hy=>mh hy
  rw[<-h,e1,z59]
theorem Mb{ae:Int}{h l:Nat}(hs:ae=1\/ae=2)(hh:h<9223372036854775808):fO ae h l=((if l=0 then gv ae (wB h) else gv ae (wB (h+9223372036854775808))++gv ae (wB l)),0):=by
 unfold fO
 rw[if_pos ⟨hs,hh⟩]
theorem aja{ae z:Int}{b:ByteArray}{a h l:Nat}(hg:cS ae b a=(h,l,z,0)):(ae=1\/ae=2)/\h<9223372036854775808/\l<18446744073709551616/\(a:Int)<=z/\z<=b.size/\(fO ae h l).1=b.extract a z.toNat:=by
 unfold cS at hg
 split at hg
 case isFalse=>cases hg
 rename_i hc
 obtain⟨hs,h0,h1⟩:=hc
 rw[Int.toNat_natCast] at hg
 cases hT:nx ae b a with
 |inl e=>
  exfalso
  rw[hT] at hg
  have he:e=0:=by
   have:=congrArg (fun r:Nat×Nat×Int×Int=>r.2.2.2) hg
   exact this
  subst he
  unfold nx at hT
  split at hT
  ·cases hT
  ·split at hT
   ·split at hT<;>cases hT
   ·cases hT
 |inr x=>
  rw[hT] at hg
  obtain⟨e1,e2,e3⟩:=KM hs hT
  dsimp only at hg
  split at hg
  ·rename_i aq
   injection hg with g1 g2
   injection g2 with g2 g3
   injection g3 with g3 _
   subst g1 g2 g3
   refine⟨hs,aq,by decide,by omega,by omega,?_⟩
   rw[Mb hs aq,if_pos rfl,e1,Int.toNat_natCast]
  ·rename_i Rg
   cases hU:nx ae b (a+gW ae) with
   |inl e=>
    exfalso
    rw[hU] at hg
    have he:e=0:=by
     have:=congrArg (fun r:Nat×Nat×Int×Int=>r.2.2.2) hg
     exact this
    subst he
    unfold nx at hU
    split at hU
    ·cases hU
    ·split at hU
     ·split at hU<;>cases hU
     ·cases hU
   |inr y=>
    rw[hU] at hg
    obtain⟨f1,f2,f3⟩:=KM hs hU
    dsimp only at hg
    split at hg
    ·exfalso
     have:=congrArg (fun r:Nat×Nat×Int×Int=>r.2.2.2) hg
     cases this
    ·rename_i hz
     injection hg with g1 g2
     injection g2 with g2 g3
     injection g3 with g3 _
     subst g1 g2 g3
     refine⟨hs,by omega,f2,by omega,by omega,?_⟩
     rw[Mb hs (by omega),if_neg hz,show x-9223372036854775808+9223372036854775808=x by omega,e1,f1,Int.toNat_natCast]
     exact NB _ (by omega) (by omega)
end bn

set_option maxRecDepth 10000
namespace bn
open Go.IntKind renaming wrap->zW,i64->zI,u8->zU
open Go Go.Ref
theorem On{α:Type}{p:Prop}[Decidable p](h:p){x y:α}:(bif !decide p then x else y)=y:=by rw[zT h];rfl
theorem Om{α:Type}{p:Prop}[Decidable p](h:¬p){x y:α}:(bif !decide p then x else y)=x:=by rw[zF h];rfl
def fJ(m:ByteArray):Bool:=decide ((m.size:Int)=4)&&bD (bl m)
theorem ru{m:ByteArray}:fJ m=true↔m.size=4/\bD (bl m)=true:=by
 unfold fJ
 rw[Bool.and_eq_true,decide_eq_true_eq]
 constructor<;>intro h<;>exact⟨by omega,h.2⟩
theorem zap(m:ByteArray)(h:m.size<=maxLen):nU m=some (fJ m):=by
 unfold nU TX fJ
 cases decide ((m.size:Int)=4) with
 |false=>rfl
 |true=>rw[zC,VD m h];rfl
theorem acC(m:ByteArray)(h:m.size<=maxLen):sm m=some (fJ m):=by
 unfold sm SB fJ
 cases decide ((m.size:Int)=4) with
 |false=>rfl
 |true=>rw[zC,LY m h];rfl
theorem x7{m:ByteArray}(h:fJ m=true)(i:Nat)(hi:i<4):48<=ze m i/\ze m i<=57:=by
 obtain⟨h1,h2⟩:=ru.1 h
 have hl:i<(bl m).length:=by rw[zg];omega
 have:=List.all_eq_true.1 h2 _ (List.getElem_mem hl)
 rw[mo,List.getD_eq_getElem?_getD,List.getElem?_eq_getElem hl]
 exact of_decide_eq_true this
def gj(m:ByteArray):Int:=bif fJ m then ze m 0-48 else 0
def eB(m:ByteArray):Bool:=fJ m&&(decide (ze m 2=48)||decide (ze m 2=50))
theorem RR(m:ByteArray)(h:m.size<=maxLen):jj m=some (gj m,fJ m):=by
 unfold jj TY gj
 rw[zap m h,Option.bind_some]
 cases hr:fJ m with
 |false=>rfl
 |true=>
  obtain⟨h1,_⟩:=ru.1 hr
  have:=x7 hr 0 (by omega)
  simp only[Bool.not_true,zD,zC]
  rw[zm (by omega) (by omega),show(0:Int).toNat=0 from rfl,uI (by omega) (by omega),zk (by omega) (by omega)]
theorem zd2(m:ByteArray)(h:m.size<=maxLen):nT m=some (eB m):=by
 unfold nT TV eB
 rw[zap m h,Option.bind_some]
 cases hr:fJ m with
 |false=>rfl
 |true=>
  obtain⟨h1,_⟩:=ru.1 hr
  rw[zC,zm (by omega) (by omega),zm (by omega) (by omega),show(2:Int).toNat=2 from rfl]
  cases decide (ze m 2=48)<;>rfl
theorem zh3(m:ByteArray)(h:m.size<=maxLen):Fp m=some (eB m):=by
 unfold Fp XH eB
 rw[ahe m h,Option.bind_some]
 unfold dX
 by_cases h4:m.size=4
 ·cases hd:bD (bl m) with
  |false=>
   rw[if_neg (by simp)]
   have:fJ m=false:=by unfold fJ;rw[hd,Bool.and_false]
   rw[this];rfl
  |true=>
   have hr:fJ m=true:=ru.2 ⟨h4,hd⟩
   rw[if_pos ⟨by rw[zg];omega,by rw[zg];omega,rfl⟩,hr]
   dsimp only
   rw[zC,zT (by omega),zC,Bool.true_and]
   have hl:(bl m).length=4:=by rw[zg,h4]
   obtain⟨d0,d1,d2,d3,hb⟩:∃d0 d1 d2 d3,bl m=[d0,d1,d2,d3]:=by
    match hm:bl m,hl with
    | [d0,d1,d2,d3],_=>exact⟨d0,d1,d2,d3,rfl⟩
   have h0:=x7 hr 0 (by omega)
   have h1:=x7 hr 1 (by omega)
   have h2:=x7 hr 2 (by omega)
   have h3:=x7 hr 3 (by omega)
   rw[mo,hb] at h0 h1 h2 h3
   rw[mo,hb]
   simp only[List.getD_cons_zero,List.getD_cons_succ] at h0 h1 h2 h3⊢
   have hv:fo [d0,d1,d2,d3] 0=1000*(d0-48)+100*(d1-48)+10*(d2-48)+(d3-48):=by
    simp only[fo,List.foldl_cons,List.foldl_nil];omega
   have hq:Int.tmod (zW zI (Int.tdiv (fo [d0,d1,d2,d3] 0) 10)) 10=d2-48:=by
    rw[hv,Int.tdiv_eq_ediv_of_nonneg (by omega),zk (by omega) (by omega),Int.tmod_eq_emod_of_nonneg (by omega)]
    omega
   rw[hq]
   by_cases e1:d2=48
   ·rw[zT e1,zT (by omega:d2-48=0)];rfl
   ·rw[zF e1,zF (by omega:¬d2-48=0),zD,Bool.false_or]
    congr 1
    exact decide_eq_decide.2 (by omega)
 ·have:fJ m=false:=by
   unfold fJ
   rw[zF (by omega),Bool.false_and]
  rw[this]
  cases(if 1<=(bl m).length/\(bl m).length<=18/\bD (bl m)=true then(fo (bl m) 0,true) else((0:Int),false)).2 with
  |false=>rfl
  |true=>rw[zC,zF (by omega)];rfl
def iA(m:ByteArray)(v:Int):Bool:=fJ m&&decide (ze m 0-48=v)
theorem zip(m:ByteArray)(v:Int)(h:m.size<=maxLen):qz m v=some (iA m v):=by
 unfold qz S7 iA
 rw[acC m h,Option.bind_some]
 cases hr:fJ m with
 |false=>rfl
 |true=>
  obtain⟨h1,_⟩:=ru.1 hr
  have:=x7 hr 0 (by omega)
  have w1:zW zI (ze m 0)=ze m 0:=zk (by omega) (by omega)
  rw[zC,zm (by omega) (by omega),show(0:Int).toNat=0 from rfl,w1,zk (by omega) (by omega)]
  rfl
def nL(p:bA)(a b:zf):Bool:=iA p.1 a.2.1&&(iA p.2.1 b.2.1&&(eB p.1==eB p.2.1))
theorem akf(p:bA)(a b:zf)(h1:p.1.size<=maxLen)(h2:p.2.1.size<=maxLen):n0 p a b=some (nL p a b):=by
 unfold n0 Vm nL iA
 rw[RR _ h1,RR _ h2,zd2 _ h1,zd2 _ h2]
 simp only[Option.bind_some]
 unfold gj
 cases fJ p.1 with
 |false=>rfl
 |true=>
  cases fJ p.2.1 with
  |false=>simp
  |true=>
   simp only[zC,Bool.true_and]
   cases decide (ze p.1 0-48=a.2.1) with
   |false=>rfl
   |true=>
    cases decide (ze p.2.1 0-48=b.2.1) with
    |false=>rfl
    |true=>rfl
abbrev bJ:=ByteArray×List bh×Unit
abbrev bY:=Int×Int×Unit
abbrev ns:bh:=(0,bs [],())
abbrev km:bY:=(0,0,())
structure eN(m:bJ):Prop where
 uq:m.1.size<=9223372036854775807
 len:m.2.1.length<=1000000
 rV:∀v∈m.2.1,v.2.1.size<=1099511627776
def eS(l:List bh)(no:Int):List bh:=l.filter fun v=> !decide (v.1=no)
theorem K0(l:List bh)(no:Int):(eS l no).length<=l.length:=List.length_filter_le _ _
theorem zat(no:Int)(fin:bJ×bJ->Option (bJ×bJ)):∀(l:List bh) (i:Int) (s:bJ×bJ),s.2.2.1.length+l.length<=1000000000->
 bj (fun i (x:bh) (s:bJ×bJ) K=>(bif(!(decide (x.1=no))) then(bif(decide ((s.2.2.1.length+(List.length ([x]:List bh)))*24<=140737488355328)) then K (s.1,(s.2.1,(s.2.2.1++([x]:List bh)),())) else none) else K s)) fin l i s=fin (s.1,(s.2.1,s.2.2.1++eS l no,()))
 | [],i,s,_=>by
   show fin s=_
   simp [eS]
 |x::r,i,s,h=>by
  simp only[List.length_cons] at h
  rw[bj]
  by_cases hx:x.1=no
  ·rw[zT hx,Bool.not_true,zD]
   refine(zat no fin r (i+1) s (by omega)).trans ?_
   simp [eS,hx]
  ·rw[zF hx,Bool.not_false,zC,zT (by simp only[List.length_singleton];omega),zC]
   refine(zat no fin r (i+1) (s.1,(s.2.1,s.2.2.1++ [x],())) (by simp only[List.length_append,List.length_singleton];omega)).trans ?_
   simp [eS,hx]
theorem abT(m:bJ)(no:Int)(h:m.2.1.length<=1000000):sN m no=some (m.1,eS m.2.1 no,()):=by
 unfold sN TU
 dsimp only
 have:=cu ns m.2.1 (by rw[zh];omega) (fun i (x:bh) (s:bJ×bJ) K=>(bif(!(decide (x.1=no))) then(bif(decide ((s.2.2.1.length+(List.length ([x]:List bh)))*24<=140737488355328)) then K (s.1,(s.2.1,(s.2.2.1++([x]:List bh)),())) else none) else K s)) (fun s=>some s)
  (fun k i s=>PH k no m.2.1 (m.2.1.length:Int) i s.1 s.2) (fun k i s=>rfl) ((bs [],[],()),(m.1,[],()))
 rw[this,zat no _ _ _ _ (by simp;omega)]
 rfl
def cm(no:Int):List bh->Int->Int
 | [],_=> -1
 |x::r,i=>if no<x.1 then i else cm no r (i+1)
theorem ON(no:Int):∀(l:List bh) (i:Int),0<=i->(cm no l i= -1/\∀x∈l,x.1<=no)\/(i<=cm no l i/\cm no l i<i+l.length)
 | [],i,h=> .inl ⟨rfl,fun x hx=>by cases hx⟩
 |x::r,i,h=>by
  unfold cm
  by_cases hx:no<x.1
  ·rw[if_pos hx];right;simp only[List.length_cons];omega
  ·rw[if_neg hx]
   rcases ON no r (i+1) (by omega) with⟨h1,h2⟩|h1
   ·left
    refine⟨h1,fun y hy=> ?_⟩
    rcases List.mem_cons.1 hy with rfl|hy
    ·omega
    ·exact h2 y hy
   ·right;simp only[List.length_cons];omega
def Yl(r no:Int):Sum (Int×Int) Int:=bif decide (r<0) then .inr no else .inl (r,no)
theorem Lo(no:Int):∀(l:List bh) (i:Int),0<=i->bj (fun i (x:bh) (s:Int) K=>((sM x s).bind fun r1=>(bif r1.1 then some (Sum.inl (i,r1.2)) else K r1.2))) (fun s=>some (Sum.inr s)) l i no=some (Yl (cm no l i) no)
 | [],i,h=>rfl
 |x::r,i,h=>by
  rw[bj,cm]
  show(bif decide (no<x.1) then some (Sum.inl (i,no)) else bj _ _ r (i+1) no)=_
  by_cases hx:no<x.1
  ·rw[zT hx,zC,if_pos hx]
   unfold Yl
   rw[zF (by omega)];rfl
  ·rw[zF hx,zD,if_neg hx]
   exact Lo no r (i+1) (by omega)
theorem acy(l:List bh)(no:Int)(h:l.length<=1000000):s4 l no=some (cm no l 0,no):=by
 unfold s4 UE
 dsimp only
 have:=cu ns l (by rw[zh];omega) (fun i (x:bh) (s:Int) K=>((sM x s).bind fun r1=>(bif r1.1 then some (Sum.inl (i,r1.2)) else K r1.2))) (fun s=>some (Sum.inr s))
  (fun k i s=>PT k l (l.length:Int) i s) (fun k i s=>rfl) no
 rw[this,Lo no l 0 (Int.le_refl _),zc]
 unfold Yl
 rcases ON no l 0 (Int.le_refl _) with⟨h1,_⟩|h1
 ·rw[h1];rfl
 ·rw[zF (by omega)];rfl
theorem agz(old:List bh)(at_:Nat)(v d:bh)(h:at_<=old.length):
 bX (List.set (bX (List.replicate (old.length+1) d) (List.take (old.length+1) (List.drop 0 (List.take at_ old))) 0) at_ v) (List.take (old.length+1-(at_+1)) (List.drop at_ (List.take old.length old))) (at_+1)=old.take at_++v::old.drop at_:=by
 have e1:List.take (old.length+1) (List.drop 0 (List.take at_ old))=old.take at_:=by
  rw[List.drop_zero,List.take_take,Nat.min_eq_right (by omega)]
 have e2:List.take (old.length+1-(at_+1)) (List.drop at_ (List.take old.length old))=old.drop at_:=by
  rw[List.take_length,List.take_of_length_le (by rw[List.length_drop];omega)]
 rw[e1,e2]
 have hl:(old.take at_).length=at_:=by rw[List.length_take];omega
 have e3:bX (List.replicate (old.length+1) d) (old.take at_) 0=old.take at_++List.replicate (old.length+1-at_) d:=by
  unfold bX
  rw[List.take_zero,List.nil_append,hl,Nat.zero_add,List.drop_replicate]
 obtain⟨n,hn⟩:∃n,old.length+1-at_=n+1:=⟨old.length-at_,by omega⟩
 have e4:List.set (old.take at_++List.replicate (old.length+1-at_) d) at_ v=old.take at_++v::List.replicate n d:=by
  rw[hn,List.replicate_succ,List.set_append,if_neg (by omega),hl,Nat.sub_self,List.set_cons_zero]
 rw[e3,e4]
 unfold bX
 have e5:(old.take at_++v::List.replicate n d).take (at_+1)=old.take at_++ [v]:=by
  rw[List.take_append,hl,show at_+1-at_=1 by omega,List.take_of_length_le (by omega)];rfl
 have e6:(old.take at_++v::List.replicate n d).drop (at_+1+(old.drop at_).length)=[]:=by
  apply List.drop_eq_nil_of_le
  rw[List.length_append,hl,List.length_cons,List.length_replicate,List.length_drop]
  omega
 rw[e5,e6,List.append_nil,List.append_assoc]
 rfl
theorem LW(q t:ByteArray)(no:Int)(old:List bh)(at_:Nat)(h:at_<=old.length)(hl:old.length<=1000000):
 (bif(decide ((zW zI (((List.length old):Int)+(1:Int)))=(zW zI (((List.length old):Int)+(1:Int))))) then(bif(decide ((0:Int)<=(zW zI (((List.length old):Int)+(1:Int))))) then(bif(decide ((zW zI (((List.length old):Int)+(1:Int)))*24<=140737488355328)) then(bif(decide ((0:Int)<=((at_:Nat):Int))) then(bif(decide (((at_:Nat):Int)<=(((List.length old):Nat):Int))) then(bif(Nat.beq ((zW zI (((List.length old):Int)+(1:Int)))).toNat (List.length (List.replicate ((zW zI (((List.length old):Int)+(1:Int)))).toNat ((0:Int),(bs []),())))) then(zd ((at_:Nat):Int) ((zW zI (((List.length old):Int)+(1:Int)))).toNat (bif(Nat.ble ((((at_:Nat):Int)).toNat+1) (List.length (bX (List.replicate ((zW zI (((List.length old):Int)+(1:Int)))).toNat ((0:Int),(bs []),())) (List.take ((zW zI (((List.length old):Int)+(1:Int)))).toNat (List.drop 0 (List.take (((at_:Nat):Int)).toNat old))) 0))) then(bif(decide ((0:Int)<=(zW zI (((at_:Nat):Int)+(1:Int))))) then(bif(decide ((zW zI (((at_:Nat):Int)+(1:Int)))<=((((zW zI (((List.length old):Int)+(1:Int)))).toNat:Nat):Int))) then(bif(decide ((0:Int)<=((at_:Nat):Int))) then(bif(decide (((at_:Nat):Int)<=(((List.length old):Nat):Int))) then(bif(Nat.beq ((zW zI (((List.length old):Int)+(1:Int)))).toNat (List.length (List.set (bX (List.replicate ((zW zI (((List.length old):Int)+(1:Int)))).toNat ((0:Int),(bs []),())) (List.take ((zW zI (((List.length old):Int)+(1:Int)))).toNat (List.drop 0 (List.take (((at_:Nat):Int)).toNat old))) 0) (((at_:Nat):Int)).toNat (no,t,())))) then(bif(Nat.ble ((zW zI (((at_:Nat):Int)+(1:Int)))).toNat ((zW zI (((List.length old):Int)+(1:Int)))).toNat) then(bif(Nat.beq ((zW zI (((List.length old):Int)+(1:Int)))).toNat (List.length (bX (List.set (bX (List.replicate ((zW zI (((List.length old):Int)+(1:Int)))).toNat ((0:Int),(bs []),())) (List.take ((zW zI (((List.length old):Int)+(1:Int)))).toNat (List.drop 0 (List.take (((at_:Nat):Int)).toNat old))) 0) (((at_:Nat):Int)).toNat (no,t,())) (List.take (((zW zI (((List.length old):Int)+(1:Int)))).toNat-((zW zI (((at_:Nat):Int)+(1:Int)))).toNat) (List.drop (((at_:Nat):Int)).toNat (List.take (List.length old) old))) ((zW zI (((at_:Nat):Int)+(1:Int)))).toNat))) then(some (q,(bX (List.set (bX (List.replicate ((zW zI (((List.length old):Int)+(1:Int)))).toNat ((0:Int),(bs []),())) (List.take ((zW zI (((List.length old):Int)+(1:Int)))).toNat (List.drop 0 (List.take (((at_:Nat):Int)).toNat old))) 0) (((at_:Nat):Int)).toNat (no,t,())) (List.take (((zW zI (((List.length old):Int)+(1:Int)))).toNat-((zW zI (((at_:Nat):Int)+(1:Int)))).toNat) (List.drop (((at_:Nat):Int)).toNat (List.take (List.length old) old))) ((zW zI (((at_:Nat):Int)+(1:Int)))).toNat),())) else none) else none) else none) else none) else none) else none) else none) else none)) else none) else none) else none) else none) else none) else none)=some (q,old.take at_++(no,t,())::old.drop at_,()):=by
 have w1:zW zI ((old.length:Int)+1)=((old.length+1:Nat):Int):=zr (by omega)
 have w2:zW zI ((at_:Int)+1)=((at_+1:Nat):Int):=zr (by omega)
 simp only[w1,w2,Int.toNat_natCast]
 have key:=agz old at_ (no,t,()) ((0:Int),bs [],()) h
 have l1:(bX (List.replicate (old.length+1) ((0:Int),(bs []),())) (List.take (old.length+1) (List.drop 0 (List.take at_ old))) 0).length=old.length+1:=by
  unfold bX;simp;omega
 have l2:(old.take at_++(no,t,())::old.drop at_).length=old.length+1:=by
  rw[List.length_append,List.length_take,List.length_cons,List.length_drop];omega
 have d2:decide ((0:Int)<=((old.length+1:Nat):Int))=true:=zT (by omega)
 have d3:decide (((old.length+1:Nat):Int)*24<=140737488355328)=true:=zT (by omega)
 have d4:decide ((0:Int)<=(at_:Int))=true:=zT (by omega)
 have d5:decide ((at_:Int)<=(old.length:Int))=true:=zT (by omega)
 have d9:decide ((0:Int)<=((at_+1:Nat):Int))=true:=zT (by omega)
 have d10:decide (((at_+1:Nat):Int)<=((old.length+1:Nat):Int))=true:=zT (by omega)
 have b1:Nat.ble (at_+1) (old.length+1)=true:=Nat.ble_eq_true_of_le (by omega)
 have hw:∀{R:Type} (x:Option R),zd (at_:Int) (old.length+1) x=x:=fun x=>zi (by omega)
 simp only[decide_true,zC,d2,d3,d4,d5,List.length_replicate,Nat.beq_refl,hw,l1,b1,d9,d10,List.length_set,key,l2]
def l5(l:List bh)(no:Int)(t:ByteArray):List bh:=
 bif decide (cm no l 0<0) then l++ [(no,t,())] else l.take (cm no l 0).toNat++(no,t,())::l.drop (cm no l 0).toNat
def ej(m:bJ)(no:Int)(t:ByteArray):bJ:=(m.1,l5 (eS m.2.1 no) no t,())
theorem Sm(m:bJ)(no:Int)(t:ByteArray)(h:m.2.1.length<=1000000):hG m no t=some (ej m no t):=by
 unfold hG TS ej
 have hl:=K0 m.2.1 no
 rw[abT m no h,zc]
 dsimp only
 generalize eS m.2.1 no=old at*
 rw[acy old no (by omega),zc]
 dsimp only
 unfold l5
 rcases ON no old 0 (Int.le_refl _) with⟨h1,_⟩|h1
 ·rw[h1,zT (by omega:(-1:Int)<0),zC,zC]
  refine(LW m.1 t no old old.length (Nat.le_refl _) (by omega)).trans ?_
  rw[List.take_length,List.drop_length]
 ·rw[zF (by omega:¬cm no old 0<0),zD,zD]
  obtain⟨n,hn⟩:∃n:Nat,cm no old 0=n:=⟨(cm no old 0).toNat,by omega⟩
  rw[hn]
  refine(LW m.1 t no old n (by omega) (by omega)).trans ?_
  rw[Int.toNat_natCast]
def sc(s:zf):List bh->Int->Option bY
 | [],_=>none
 |x::r,last=>bif decide (x.1<=last) then some (11,x.1,()) else bif !bq s x.1 then some (9,x.1,()) else bif !decide (bH (aY s x.1) x.2.1=0) then some (bH (aY s x.1) x.2.1,x.1,()) else sc s r x.1
def NC(o:Option bY):Option (Sum bY bY):=some (match o with
 |some f=> .inl f
 |none=> .inr km)
theorem zus(s:zf)(hs:s.2.2.1.length<=maxLen):∀(l:List bh) (i last:Int),(∀v∈l,v.2.1.size<=1099511627776)->
 bj (fun i (x:bh) (t9:Int) K=>(bif(decide (x.1<=t9)) then some (Sum.inl ((11:Int),x.1,())) else((fK s x.1).bind fun r3=>(bif(!r3.2) then some (Sum.inl ((9:Int),x.1,())) else((bW r3.1 x.2.1).bind fun r4=>(bif(!(decide (r4=(0:Int)))) then some (Sum.inl (r4,x.1,())) else K x.1)))))) (fun _=>some (Sum.inr km)) l i last=NC (sc s l last)
 | [],i,last,_=>rfl
 |x::r,i,last,h=>by
  rw[bj,sc,z49 s _ hs,zc]
  cases decide (x.1<=last) with
  |true=>rfl
  |false=>
   rw[zD,zD]
   dsimp only
   cases bq s x.1 with
   |false=>rfl
   |true=>
    rw[Bool.not_true,zD,zD,xO _ _ (h x List.mem_cons_self),zc]
    cases decide (bH (aY s x.1) x.2.1=0) with
    |false=>rfl
    |true=>
     rw[Bool.not_true,zD,zD]
     exact zus s hs r (i+1) x.1 (fun v hv=>h v (List.mem_cons_of_mem _ hv))
def gy(s:zf)(m:bJ):bY:=
 bif !decide ((gX s).1=0) then(1,-1,()) else bif !fJ m.1 then(7,0,()) else bif !decide (gj m.1=s.2.1) then(7,0,()) else match sc s m.2.1 0 with
  |some f=>f
  |none=>km
theorem zob(s:zf)(m:bJ)(hs:s.2.2.1.length<=maxLen)(h:eN m):qB s m=some (gy s m):=by
 unfold qB TN gy
 rw[O5 s hs,zc,RR m.1 (by rw[zh];exact h.uq),zc]
 cases decide ((gX s).1=0) with
 |false=>rfl
 |true=>
  rw[Bool.not_true,zD,zD]
  dsimp only
  cases fJ m.1 with
  |false=>rfl
  |true=>
   rw[Bool.not_true,zD,zD]
   cases decide (gj m.1=s.2.1) with
   |false=>rfl
   |true=>
    rw[Bool.not_true,zD,zD]
    have hl:=h.len
    have:=cu ns m.2.1 (by rw[zh];omega) (fun i (x:bh) (t9:Int) K=>(bif(decide (x.1<=t9)) then some (Sum.inl ((11:Int),x.1,())) else((fK s x.1).bind fun r3=>(bif(!r3.2) then some (Sum.inl ((9:Int),x.1,())) else((bW r3.1 x.2.1).bind fun r4=>(bif(!(decide (r4=(0:Int)))) then some (Sum.inl (r4,x.1,())) else K x.1)))))) (fun _=>some (Sum.inr km))
     (fun k i t9=>PE k t9 m.2.1 (m.2.1.length:Int) i s km) (fun k i t9=>rfl) 0
    rw[this,zus s hs _ _ _ h.rV]
    unfold NC
    cases sc s m.2.1 0<;>rfl
theorem amm{a b:bJ}:a=b↔a.1=b.1/\a.2.1=b.2.1:=⟨fun h=>by rw[h];exact⟨rfl,rfl⟩,fun h=>Prod.ext h.1 (Prod.ext h.2 rfl)⟩
abbrev Map:=List bA×List aU×Unit
structure dG(m:Map):Prop where
 nj:eC m.1
 len:m.2.1.length<=1000000
 rules:∀r∈m.2.1,dR r
def eG(a b:zf):List ByteArray->List bA->Int->Option (Int×Int)
 |_,[],_=>none
 |seen,p::r,i=>if nL p a b=true then(if p.1∈seen then some (10,i) else eG a b (seen++ [p.1]) r (i+1)) else some (7,i)
abbrev Xr:=Sum (Int×Int×Int×Map×zf×zf) (Map×zf×zf)
def nk(m:Map)(a b:zf)(o:Option (Int×Int)):Option Xr:=some (match o with
 |some e=> .inl (e.1,2,e.2,m,a,b)
 |none=> .inr (m,a,b))
theorem MB(m:Map)(a b:zf):∀(l:List bA) (i:Int) (seen:List ByteArray),(∀p∈l,p.1.size<=1099511627776/\p.2.1.size<=1099511627776)->
 bj (fun i (x:bA) (s:List jy) K=>((n0 x a b).bind fun r2=>(bif(!r2) then some (Sum.inl ((7:Int),(2:Int),i,m,a,b)) else(bif eZ (fT .str) false s x.1 then some (Sum.inl ((10:Int),(2:Int),i,m,a,b)) else(bif fa (fT .str) s x.1 then none else K (s++ [(x.1,true)])))))) (fun _=>some (Sum.inr (m,a,b))) l i (dK seen)=nk m a b (eG a b seen l i)
 | [],i,seen,_=>rfl
 |p::r,i,seen,h=>by
  obtain⟨h1,h2⟩:=h p List.mem_cons_self
  simp only[bj,eG]
  rw[akf p a b (by rw[zh];omega) (by rw[zh];omega),Option.bind_some]
  cases nL p a b with
  |false=>rw[if_neg (by simp)];rfl
  |true=>
   rw[if_pos rfl]
   simp only[Bool.not_true,zD]
   have e1:=Sf (fT .str) (fun _ _=>rfl) p.1 seen
   have e2:=Sg (fT .str) (fun _ _=>rfl) p.1 seen
   by_cases hm:p.1∈seen
   ·rw[e1.2 hm,if_pos hm];rfl
   ·rw[Em e1 hm,Em e2 hm,if_neg hm,zD,zD,z9n]
    exact MB m a b r (i+1) (seen++ [p.1]) fun q hq=>h q (List.mem_cons_of_mem _ hq)
theorem agf(m:Map)(a b:zf)(h:eC m.1):Gj ag m.1 (m.1.length:Int) 0 m a b []=nk m a b (eG a b [] m.1 0):=by
 have hl:=h.len
 have:=cu jc m.1 (by rw[zh];omega) (fun i (x:bA) (s:List jy) K=>((n0 x a b).bind fun r2=>(bif(!r2) then some (Sum.inl ((7:Int),(2:Int),i,m,a,b)) else(bif eZ (fT .str) false s x.1 then some (Sum.inl ((10:Int),(2:Int),i,m,a,b)) else(bif fa (fT .str) s x.1 then none else K (s++ [(x.1,true)])))))) (fun _=>some (Sum.inr (m,a,b)))
  (fun k i s=>Gj k m.1 (m.1.length:Int) i m a b s) (fun k i s=>rfl) []
 rw[this]
 exact MB m a b m.1 0 [] h.sz
theorem afj(f:ByteArray)(l:List bA):(zw l f).2=true↔f∈l.map fun p=>p.1:=by
 unfold zw
 induction l with
 |nil=>simp
 |cons p r ih=>
  rw[List.find?_cons,List.map_cons,List.mem_cons]
  by_cases h:p.1=f
  ·rw[zT h];exact⟨fun _=> .inl h.symm,fun _=>rfl⟩
  ·rw[zF h]
   exact ih.trans ⟨.inr,fun h'=>h'.resolve_left fun e=>h e.symm⟩
theorem zoc(m:Map)(a b:zf)(h:eC m.1):∀(n j k:Nat),j+n=m.1.length->n<k->EA k (j:Int) m a b=nk m a b (eG a b ((m.1.take j).map fun p=>p.1) (m.1.drop j) j)
 |n,j,0,_,hk=>by omega
 |0,j,k+1,hj,hk=>by
  unfold EA Pn
  rw[zF (by omega),show m.1.drop j=[] from List.drop_eq_nil_of_le (by omega)];rfl
 |n+1,j,k+1,hj,hk=>by
  have hl:=h.len
  have aq:j<m.1.length:=by omega
  obtain⟨h1,h2⟩:=h.sz _ (List.getElem_mem aq)
  have hg:∀d,m.1.getD j d=m.1[j]:=fun d=>by rw[List.getD_eq_getElem?_getD,List.getElem?_eq_getElem aq];rfl
  unfold EA Pn
  rw[zT (by omega),zC,zi aq,Int.toNat_natCast,hg,zip _ _ (by rw[zh];omega),Option.bind_some,List.drop_eq_getElem_cons aq]
  simp only[eG]
  cases v1:iA m.1[j].1 a.2.1 with
  |false=>
   have:nL m.1[j] a b=false:=by unfold nL;rw[v1];rfl
   rw[this,if_neg (by simp)];rfl
  |true=>
   simp only[Bool.not_true,zD]
   rw[zip _ _ (by rw[zh];omega),Option.bind_some]
   cases v2:iA m.1[j].2.1 b.2.1 with
   |false=>
    have:nL m.1[j] a b=false:=by unfold nL;rw[v1,v2];rfl
    rw[this,if_neg (by simp)];rfl
   |true=>
    simp only[Bool.not_true,zD]
    rw[zh3 _ (by rw[zh];omega),Option.bind_some,zh3 _ (by rw[zh];omega),Option.bind_some]
    cases v3:(eB m.1[j].1==eB m.1[j].2.1) with
    |false=>
     have:nL m.1[j] a b=false:=by unfold nL;rw[v1,v2,v3];rfl
     rw[this,if_neg (by simp)];rfl
    |true=>
     have:nL m.1[j] a b=true:=by unfold nL;rw[v1,v2,v3];rfl
     rw[this,if_pos rfl]
     simp only[Bool.not_true,zD]
     rw[zT (by omega:(0:Int)<=(j:Int)),zT (by omega:(j:Int)<=((m.1.length:Nat):Int)),zC,zC,List.drop_zero,acp _ _ (by rw[List.length_take,zh];omega),Option.bind_some]
     have hm:=afj m.1[j].1 (m.1.take j)
     by_cases dh:m.1[j].1∈(m.1.take j).map fun p=>p.1
     ·rw[hm.2 dh,if_pos dh];rfl
     ·rw[Em hm dh,if_neg dh,zD,zr (by omega),zoc m a b h n (j+1) k (by omega) (by omega)]
      congr 2
      rw[List.take_add_one,List.getElem?_eq_getElem aq,List.map_append]
      rfl
def ko(x y:aU):Bool:=(!decide (x.2.1=0)&&decide (x.2.1=y.2.1))||(!decide (x.2.2.1=0)&&decide (x.2.2.1=y.2.2.1))
theorem ake(x y:aU):sB x y=some (ko x y):=by
 unfold sB S6 ko
 generalize decide (x.2.1=0)=c1
 generalize decide (x.2.1=y.2.1)=c2
 generalize decide (x.2.2.1=0)=c3
 generalize decide (x.2.2.1=y.2.2.1)=c4
 cases c1<;>cases c2<;>cases c3<;>cases c4<;>rfl
def oC(a b:zf):List aU->List aU->Int->Option (Int×Int)
 |_,[],_=>none
 |prev,r::l,i=>if dw r a b=0 then(if prev.any (fun q=>ko q r)=true then some (10,i) else oC a b (prev++ [r]) l (i+1)) else some (dw r a b,i)
def XT(o:Option (Int×Int)):Option (Sum jl Unit):=some (match o with
 |some e=> .inl (e.1,3,e.2)
 |none=> .inr ())
def OJ(m:Map)(a b:zf)(i:Int)(t:Bool):Sum (Int×Int×Int×Int×Map×zf×zf) (Int×Map×zf×zf):=bif t then .inl (10,3,i,i,m,a,b) else .inr (i,m,a,b)
theorem C2{m:Map}{j:Nat}(aq:j<m.2.1.length)(d:aU):m.2.1.getD j d=m.2.1[j]:=by
 rw[List.getD_eq_getElem?_getD,List.getElem?_eq_getElem aq];rfl
theorem zvw(m:Map)(a b:zf)(i:Nat)(hi:i<m.2.1.length)(hl:m.2.1.length<=1000000):∀(n j k:Nat),j+n=i->n<k->EC k (i:Int) (j:Int) m a b=some (OJ m a b i (((m.2.1.take i).drop j).any fun q=>ko q m.2.1[i]))
 |n,j,0,_,hk=>by omega
 |0,j,k+1,hj,hk=>by
  have:j=i:=by omega
  subst this
  unfold EC Pp
  rw[zF (by omega),List.drop_eq_nil_of_le (by rw[List.length_take];omega)];rfl
 |n+1,j,k+1,hj,hk=>by
  have aq:j<m.2.1.length:=by omega
  unfold EC Pp
  have hd:(m.2.1.take i).drop j=m.2.1[j]::(m.2.1.take i).drop (j+1):=by
   rw[List.drop_eq_getElem_cons (by rw[List.length_take];omega)]
   congr 1
   rw[List.getElem_take]
  rw[zT (by omega),zC,zi aq,zi hi,Int.toNat_natCast,Int.toNat_natCast,C2 aq,C2 hi,ake,Option.bind_some,hd,List.any_cons]
  cases ko m.2.1[j] m.2.1[i] with
  |true=>rfl
  |false=>
   rw[zD,zr (by omega)]
   dsimp only
   rw[zvw m a b i hi hl n (j+1) k (by omega) (by omega),Bool.false_or]
theorem zid(m:Map)(a b:zf)(h:dG m)(ha:a.2.2.1.length<=maxLen)(hb:b.2.2.1.length<=maxLen):∀(n j k:Nat),j+n=m.2.1.length->n<k->EB k (j:Int) m a b=XT (oC a b (m.2.1.take j) (m.2.1.drop j) j)
 |n,j,0,_,hk=>by omega
 |0,j,k+1,hj,hk=>by
  unfold EB Po
  rw[zF (by omega),List.drop_eq_nil_of_le (by omega)];rfl
 |n+1,j,k+1,hj,hk=>by
  have hl:=h.len
  have aq:j<m.2.1.length:=by omega
  unfold EB Po
  rw[zT (by omega),zC,zi aq,Int.toNat_natCast,C2 aq,acs _ a b (h.rules _ (List.getElem_mem aq)) ha hb,Option.bind_some,List.drop_eq_getElem_cons aq]
  simp only[oC]
  by_cases z:dw m.2.1[j] a b=0
  ·rw[zT z,if_pos z]
   simp only[Bool.not_true,zD]
   have ht:=zvw m a b j aq hl j 0 ag (by omega) (by rw[zq];omega)
   rw[show((0:Nat):Int)=(0:Int) from rfl,List.drop_zero] at ht
   rw[ht,Option.bind_some]
   cases(m.2.1.take j).any fun q=>ko q m.2.1[j] with
   |true=>rw[if_pos rfl];rfl
   |false=>
    rw[if_neg (by simp)]
    unfold OJ SY
    simp only[zD,Sum.elim_inr]
    rw[zr (by omega),zid m a b h ha hb n (j+1) k (by omega) (by omega)]
    congr 2
    rw[List.take_add_one,List.getElem?_eq_getElem aq]
    rfl
  ·rw[zF z,if_neg z];rfl
def du(m:Map)(a b:zf):Int×Int×Int:=
 if(gX a).1=0 then(if(gX b).1=0 then(if 256<m.1.length then(5,2,256) else match eG a b [] m.1 0 with
  |some e=>(e.1,2,e.2)
  |none=>if 256<m.2.1.length then(5,3,256) else match oC a b [] m.2.1 0 with
   |some e=>(e.1,3,e.2)
   |none=>(0,0,0)) else(1,1,1)) else(1,1,0)
theorem zqw(m:Map)(a b:zf)(h:dG m)(ha:a.2.2.1.length<=maxLen)(hb:b.2.2.1.length<=maxLen):sw m a b=some (du m a b):=by
 have h1:=h.nj.len
 have h2:=h.len
 unfold sw SW du
 rw[zd3 a ha,Option.bind_some]
 by_cases za:(gX a).1=0
 ·rw[zT za,if_pos za]
  simp only[Bool.not_true,zD]
  rw[zd3 b hb,Option.bind_some]
  by_cases zb:(gX b).1=0
  ·rw[zT zb,if_pos zb]
   simp only[Bool.not_true,zD]
   by_cases hm:256<m.1.length
   ·rw[zT (by omega),if_pos hm];rfl
   ·rw[zF (by omega),if_neg hm,zD]
    have e1:=zoc m a b h.nj m.1.length 0 ag (by omega) (by rw[zq];omega)
    rw[show((0:Nat):Int)=(0:Int) from rfl,List.take_zero,List.drop_zero,List.map_nil] at e1
    rw[e1]
    unfold nk
    cases eG a b [] m.1 0 with
    |some e=>rfl
    |none=>
     simp only[Option.bind_some,Sum.elim_inr]
     unfold SX
     by_cases hr:256<m.2.1.length
     ·rw[zT (by omega),if_pos hr];rfl
     ·rw[zF (by omega),if_neg hr,zD]
      have e2:=zid m a b h ha hb m.2.1.length 0 ag (by omega) (by rw[zq];omega)
      rw[show((0:Nat):Int)=(0:Int) from rfl,List.take_zero,List.drop_zero] at e2
      dsimp only
      rw[e2]
      unfold XT
      cases oC a b [] m.2.1 0<;>rfl
  ·rw[zF zb,if_neg zb];rfl
 ·rw[zF za,if_neg za];rfl
theorem z139(l:List Int)(f:Int):dE (l++ [f])=dE l|||dE [f]:=by simp [dE,List.foldl_append]
theorem LL(l:List Int)(f:Int):dF (l++ [f])=dF l|||dF [f]:=by simp [dF,List.foldl_append]
theorem KN(fs:List Int)(f:Int):(dE fs&&&dE [f]=0/\dF fs&&&dF [f]=0)↔¬(f∈fs/\jA f=true):=by
 constructor
 ·rintro⟨h1,h2⟩ ⟨h3,h4⟩
  have:=NE (dE fs) (dF fs) (dE [f]) (dF [f]) f
  rw[h1,h2,Li,Vy,Vy,h4] at this
  simp [h3] at this
 ·intro h
  refine amw (Ok (uV fs)) (Ok (uW fs)) (by decide) (by decide) fun n _ _=> ?_
  rw[Li,NE,Vy,Vy]
  by_cases e:n=f
  ·subst e
   cases hr:jA n with
   |false=>simp
   |true=>
    have:n∉fs:=fun hm=>h ⟨hm,hr⟩
    simp [this]
  ·simp [e]
theorem MY(x y:Nat):(decide (((x:Nat):Int)=0)&&(decide (((y:Nat):Int)=0)&&true))=decide (x=0/\y=0):=by
 rw[Bool.and_true,<-Bool.decide_and]
 exact decide_eq_decide.2 (by omega)
theorem zv1{s:zf}(h:iD s){no:Int}(hh:bq s no=true):jA no=true:=by
 unfold bq fU at hh
 obtain⟨x,hx⟩:=Option.isSome_iff_exists.1 hh
 have h1:=List.find?_some hx
 have h2:=List.mem_of_find?_eq_some hx
 have h3:=Sz (h.2.2.2.1 x h2)
 have h4:x.1=no:=of_decide_eq_true h1
 unfold jA
 exact zT (by omega)
theorem adi{r:aU}{a b:zf}(h:dw r a b=0):dt r a b=false:=by
 unfold dw at h
 cases hc:(decide (r.1<1)||decide ((5:Int)<r.1)) with
 |true=>rw[hc] at h;simp at h
 |false=>
  rw[hc] at h
  cases he:dt r a b with
  |false=>rfl
  |true=>rw[he] at h;simp at h
theorem aj6{r:aU}{a b:zf}(ha:iD a)(hb:iD b)(h:dw r a b=0):(r.2.1≠0->jA r.2.1=true)/\(r.2.2.1≠0->jA r.2.2.1=true):=by
 have he:=adi h
 unfold dt at he
 rw[Bool.or_eq_false_iff] at he
 refine⟨fun hz=> ?_,fun hz=> ?_⟩
 ·by_cases k:r.1=3
  ·rw[zT k,zF hz] at he;simp at he
  ·rw[zF k] at he
   exact zv1 ha (by simpa using he.1)
 ·by_cases k:r.1=2
  ·rw[zT k,zF hz] at he;simp at he
  ·rw[zF k] at he
   exact zv1 hb (by simpa using he.2)
def fu(l:List aU):List Int:=l.map fun q=>q.2.1
def rl(l:List aU):List Int:=l.map fun q=>q.2.2.1
theorem Mt:jA 0=false:=by decide
theorem agU(prev:List aU)(r:aU)(h1:r.2.1≠0->jA r.2.1=true)(h2:r.2.2.1≠0->jA r.2.2.1=true):
 prev.any (fun q=>ko q r)=(!decide (¬(r.2.1∈fu prev/\jA r.2.1=true))|| !decide (¬(r.2.2.1∈rl prev/\jA r.2.2.1=true))):=by
 have e:prev.any (fun q=>ko q r)=true↔((r.2.1∈fu prev/\jA r.2.1=true)\/(r.2.2.1∈rl prev/\jA r.2.2.1=true)):=by
  rw[List.any_eq_true]
  unfold ko fu rl
  simp only[List.mem_map]
  constructor
  ·rintro⟨q,hq,h⟩
   simp only[Bool.or_eq_true,Bool.and_eq_true,Bool.not_eq_true',decide_eq_false_iff_not,decide_eq_true_eq] at h
   rcases h with⟨g1,g2⟩|⟨g1,g2⟩
   ·exact .inl ⟨⟨q,hq,g2⟩,h1 (by rw[<-g2];exact g1)⟩
   ·exact .inr ⟨⟨q,hq,g2⟩,h2 (by rw[<-g2];exact g1)⟩
  ·rintro(⟨⟨q,hq,g⟩,hr⟩|⟨⟨q,hq,g⟩,hr⟩)
   ·refine⟨q,hq,?_⟩
    have:q.2.1≠0:=fun e=>by rw[<-g,e,Mt] at hr;cases hr
    rw[zF this,zT g];rfl
   ·refine⟨q,hq,?_⟩
    have:q.2.2.1≠0:=fun e=>by rw[<-g,e,Mt] at hr;cases hr
    rw[zF this,zT g];simp
 cases hb:prev.any (fun q=>ko q r) with
 |true=>
  rcases e.1 hb with h|h
  ·rw[zF (fun hn=>hn h)];rfl
  ·rw[show decide (¬(r.2.2.1∈rl prev/\jA r.2.2.1=true))=false from zF (fun hn=>hn h)];simp
 |false=>
  have hn:=fun h=>(by rw[hb] at e;exact absurd (e.2 h) (by simp):False)
  rw[zT (show¬(r.2.1∈fu prev/\jA r.2.1=true) from fun h=>hn (.inl h)),zT (show¬(r.2.2.1∈rl prev/\jA r.2.2.1=true) from fun h=>hn (.inr h))];rfl
abbrev S2:=Int×Int×Unit
def zZ(l:List Int):S2:=((dE l:Int),(dF l:Int),())
theorem z138(a b:zf)(ha:a.2.2.1.length<=maxLen)(hb:b.2.2.1.length<=maxLen)(oa:iD a)(ob:iD b):∀(l:List aU) (i:Int) (prev:List aU),(∀r∈l,dR r)->
 bj (fun i (x:aU) (s:S2×S2) K=>((nW x a b).bind fun r3=>(bif(!decide (r3=0)) then some (Sum.inl (r3,(3:Int),i)) else((uY ([x.2.1]:List Int)).bind fun r4=>((uY ([x.2.2.1]:List Int)).bind fun r5=>((rL s.1 r4).bind fun r6=>(bif(!(decide (r6.1=0)&&(decide (r6.2.1=0)&&true))) then some (Sum.inl ((10:Int),(3:Int),i)) else((rL s.2 r5).bind fun r7=>(bif(!(decide (r7.1=0)&&(decide (r7.2.1=0)&&true))) then some (Sum.inl ((10:Int),(3:Int),i)) else((tf s.1 r4).bind fun r8=>((tf s.2 r5).bind fun r9=>K (r8,r9)))))))))))) (fun _=>some (Sum.inr ())) l i (zZ (fu prev),zZ (rl prev))=XT (oC a b prev l i)
 | [],i,prev,_=>rfl
 |r::l,i,prev,h=>by
  simp only[bj,oC]
  rw[abM r a b (h r List.mem_cons_self) ha hb,Option.bind_some]
  by_cases z:dw r a b=0
  ·rw[zT z,if_pos z]
   simp only[Bool.not_true,zD]
   obtain⟨i1,i2⟩:=aj6 oa ob z
   have od:=agU prev r i1 i2
   rw[ye _ (by simp [zh]),Option.bind_some,ye _ (by simp [zh]),Option.bind_some]
   unfold zZ
   rw[MZ _ _ _ _ (uV _) (uW _) (uV _) (uW _),Option.bind_some]
   dsimp only
   rw[MY,decide_eq_decide.2 (KN (fu prev) r.2.1)]
   by_cases c1:¬(r.2.1∈fu prev/\jA r.2.1=true)
   ·rw[zT c1] at od⊢
    simp only[Bool.not_true,zD]
    rw[MZ _ _ _ _ (uV _) (uW _) (uV _) (uW _),Option.bind_some]
    dsimp only
    rw[MY,decide_eq_decide.2 (KN (rl prev) r.2.2.1)]
    by_cases c2:¬(r.2.2.1∈rl prev/\jA r.2.2.1=true)
    ·rw[zT c2] at od⊢
     rw[od]
     simp only[Bool.not_true,zD,Bool.or_false]
     rw[if_neg (by simp),zdw _ _ _ _ (uV _) (uW _) (uV _) (uW _),Option.bind_some,zdw _ _ _ _ (uV _) (uW _) (uV _) (uW _),Option.bind_some]
     have:=z138 a b ha hb oa ob l (i+1) (prev++ [r]) (fun q hq=>h q (List.mem_cons_of_mem _ hq))
     rw[show fu (prev++ [r])=fu prev++ [r.2.1] by simp [fu],show rl (prev++ [r])=rl prev++ [r.2.2.1] by simp [rl]] at this
     unfold zZ at this
     rw[z139,LL,z139,LL] at this
     exact this
    ·rw[zF c2] at od⊢
     rw[od];rfl
   ·rw[zF c1] at od⊢
    rw[od];rfl
  ·rw[zF z,if_neg z];rfl
theorem abN(m:Map)(a b:zf)(ha:a.2.2.1.length<=maxLen)(hb:b.2.2.1.length<=maxLen):Gi ag ([a,b]:List zf) ((List.length ([a,b]:List zf)):Int) 0 m a b=some (if(gX a).1=0 then(if(gX b).1=0 then .inr (m,a,b) else .inl (1,1,1,m,a,b)) else .inl (1,1,0,m,a,b)):=by
 obtain⟨k,hk⟩:=Aa
 rw[hk]
 simp only[Gi,Vb]
 have w0:∀{R:Type} (x:Option R),zd 0 ([a,b]:List zf).length x=x:=fun x=>zm (by omega) (by simp)
 have w1:∀{R:Type} (x:Option R),zd 1 ([a,b]:List zf).length x=x:=fun x=>zm (by omega) (by simp)
 have e1:zW zI (0+1)=1:=rfl
 have e2:zW zI (1+1)=2:=rfl
 have d0:decide ((0:Int)<(([a,b]:List zf).length:Int))=true:=rfl
 have d1:decide ((1:Int)<(([a,b]:List zf).length:Int))=true:=rfl
 have d2:decide ((2:Int)<(([a,b]:List zf).length:Int))=false:=rfl
 rw[d0,zC,w0,show List.getD ([a,b]:List zf) (0:Int).toNat ((0:Int),(0:Int),([]:List Spec),())=a from rfl,O5 a ha,Option.bind_some]
 by_cases za:(gX a).1=0
 ·rw[zT za,if_pos za]
  simp only[Bool.not_true,zD]
  rw[e1,d1,zC,w1,show List.getD ([a,b]:List zf) (1:Int).toNat ((0:Int),(0:Int),([]:List Spec),())=b from rfl,O5 b hb,Option.bind_some]
  by_cases zb:(gX b).1=0
  ·rw[zT zb,if_pos zb]
   simp only[Bool.not_true,zD]
   rw[e2,d2,zD]
  ·rw[zF zb,if_neg zb];rfl
 ·rw[zF za,if_neg za];rfl
abbrev gE:aU:=(0,0,0,bs [],[],())
theorem z7o(m:Map)(a b:zf)(h:dG m)(ha:a.2.2.1.length<=maxLen)(hb:b.2.2.1.length<=maxLen):qI m a b=some (du m a b):=by
 have h1:=h.nj.len
 have h2:=h.len
 unfold qI Va du
 dsimp only
 rw[abN m a b ha hb,Option.bind_some]
 by_cases za:(gX a).1=0
 ·rw[if_pos za,if_pos za]
  by_cases zb:(gX b).1=0
  ·rw[if_pos zb,if_pos zb]
   simp only[Sum.elim_inr]
   unfold Vc
   by_cases hm:256<m.1.length
   ·rw[zT (by omega),if_pos hm];rfl
   ·rw[zF (by omega),if_neg hm,zD]
    dsimp only
    rw[agf m a b h.nj]
    unfold nk
    cases eG a b [] m.1 0 with
    |some e=>rfl
    |none=>
     simp only[Option.bind_some,Sum.elim_inr]
     unfold Vd
     by_cases hr:256<m.2.1.length
     ·rw[zT (by omega),if_pos hr];rfl
     ·rw[zF (by omega),if_neg hr,zD]
      dsimp only
      have:=cu gE m.2.1 (by rw[zh];omega) (fun i (x:aU) (s:S2×S2) K=>((nW x a b).bind fun r3=>(bif(!decide (r3=0)) then some (Sum.inl (r3,(3:Int),i)) else((uY ([x.2.1]:List Int)).bind fun r4=>((uY ([x.2.2.1]:List Int)).bind fun r5=>((rL s.1 r4).bind fun r6=>(bif(!(decide (r6.1=0)&&(decide (r6.2.1=0)&&true))) then some (Sum.inl ((10:Int),(3:Int),i)) else((rL s.2 r5).bind fun r7=>(bif(!(decide (r7.1=0)&&(decide (r7.2.1=0)&&true))) then some (Sum.inl ((10:Int),(3:Int),i)) else((tf s.1 r4).bind fun r8=>((tf s.2 r5).bind fun r9=>K (r8,r9)))))))))))) (fun _=>some (Sum.inr ()))
       (fun k i s=>PX k m.2.1 (m.2.1.length:Int) i a b s.1 s.2) (fun k i s=>rfl) (zZ (fu []),zZ (rl []))
      have h3:=z138 a b ha hb ((AV a).1 za) ((AV b).1 zb) m.2.1 0 [] h.rules
      rw[h3] at this
      have h4:zZ (fu [])=((0:Int),(0:Int),()):=rfl
      have h5:zZ (rl [])=((0:Int),(0:Int),()):=rfl
      rw[h4,h5] at this
      rw[this]
      unfold XT
      cases oC a b [] m.2.1 0<;>rfl
  ·rw[if_neg zb,if_neg zb];rfl
 ·rw[if_neg za,if_neg za];rfl
instance RI:DecidableEq aU:=fun x y=>decidable_of_iff ((decide (x.1=y.1)&&(decide (x.2.1=y.2.1)&&(decide (x.2.2.1=y.2.2.1)&&(decide (x.2.2.2.1=y.2.2.2.1)&&decide (x.2.2.2.2.1=y.2.2.2.2.1)))))=true) (by obtain⟨a1,a2,a3,a4,a5,u⟩:=x;obtain⟨b1,b2,b3,b4,b5,v⟩:=y;simp)
instance Zx:DecidableEq Map:=fun x y=>decidable_of_iff ((decide (x.1=y.1)&&decide (x.2.1=y.2.1))=true) (by obtain⟨a1,a2,u⟩:=x;obtain⟨b1,b2,v⟩:=y;simp)
def uF(r:aU):aU:=(r.1,r.2.2.1,r.2.1,r.2.2.2.1,lz r.2.2.2.2.1,())
def Ku(m:Map):Map:=(lz m.1,m.2.1.map uF,())
abbrev J4:Map:=([],[],())
theorem adB(r:aU)(h:dR r):nO r=some r:=by
 unfold nO SO
 rw[KA _ h.fc.len];rfl
theorem KS:∀(l:List aU) (i:Int) (s:Map×Map),(∀r∈l,dR r)->s.2.2.1.length+l.length<=1099511627776->
 bj (fun i (x:aU) (s:Map×Map) K=>((nO x).bind fun r2=>(bif(decide ((s.2.2.1.length+(List.length ([r2]:List aU)))*64<=140737488355328)) then K (s.1,(s.2.1,(s.2.2.1++([r2]:List aU)),())) else none))) (fun s=>some s) l i s=some (s.1,(s.2.1,s.2.2.1++l,()))
 | [],i,s,_,_=>by simp only[bj,List.append_nil]
 |r::l,i,s,h,hl=>by
  simp only[List.length_cons] at hl
  simp only[bj]
  rw[adB r (h r List.mem_cons_self),Option.bind_some,zT (by simp;omega),zC]
  have:=KS l (i+1) (s.1,(s.2.1,(s.2.2.1++ [r]),())) (fun q hq=>h q (List.mem_cons_of_mem _ hq)) (by simp;omega)
  refine Eq.trans this ?_
  simp
theorem KB(m:Map)(h:dG m):sA m=some m:=by
 have hl:=h.len
 unfold sA S0
 dsimp only
 rw[KA _ h.nj.len,Option.bind_some]
 have:=cu gE m.2.1 (by rw[zh];omega) (fun i (x:aU) (s:Map×Map) K=>((nO x).bind fun r2=>(bif(decide ((s.2.2.1.length+(List.length ([r2]:List aU)))*64<=140737488355328)) then K (s.1,(s.2.1,(s.2.2.1++([r2]:List aU)),())) else none))) (fun s=>some s)
  (fun k i s=>Pq k i m s.1 s.2) (fun k i s=>rfl) (J4,(m.1,[],()))
 rw[KS _ _ _ h.rules (by simp;omega)] at this
 rw[this]
 rfl
structure aoe(r:aU)(a b:zf):Prop where
 lo:¬r.1<1
 hi:¬(5:Int)<r.1
 ends:dt r a b=false
 text:jf r=false
 kind:j9 r (aY a r.2.1) (aY b r.2.2.1)=0
theorem RX{a b:zf}:∀{l:List bA} {seen:List ByteArray} {i:Int},eG a b seen l i=none↔(∀p∈l,nL p a b=true)/\jo seen l i=none
 | [],seen,i=>by simp [eG,jo]
 |p::r,seen,i=>by
  simp only[eG,jo,List.mem_cons,forall_eq_or_imp]
  cases ht:nL p a b with
  |false=>simp
  |true=>
   rw[if_pos rfl]
   by_cases hm:p.1∈seen
   ·simp [hm]
   ·rw[if_neg hm,if_neg hm,RX]
    simp
def F5:List aU->List aU->Prop
 |_,[]=>True
 |prev,r::l=>prev.any (fun q=>ko q r)=false/\F5 (prev++ [r]) l
theorem RP{a b:zf}:∀{l:List aU} {prev:List aU} {i:Int},oC a b prev l i=none↔(∀r∈l,dw r a b=0)/\F5 prev l
 | [],prev,i=>by simp [oC,F5]
 |r::l,prev,i=>by
  simp only[oC,F5,List.mem_cons,forall_eq_or_imp]
  by_cases z:dw r a b=0
  ·rw[if_pos z]
   cases hp:prev.any (fun q=>ko q r) with
   |true=>simp
   |false=>
    rw[if_neg (by simp),RP]
    simp [z]
  ·rw[if_neg z];simp [z]
theorem zvg{a b:zf}:∀{l:List bA} {seen:List ByteArray} {i:Int} {e:Int×Int},eG a b seen l i=some e->e.1≠0
 |p::r,seen,i,e,h=>by
  simp only[eG] at h
  split at h
  ·split at h
   ·cases h;simp
   ·exact zvg h
  ·cases h;simp
theorem zoh{a b:zf}:∀{l:List aU} {prev:List aU} {i:Int} {e:Int×Int},oC a b prev l i=some e->e.1≠0
 |r::l,prev,i,e,h=>by
  simp only[oC] at h
  split at h
  ·split at h
   ·cases h;simp
   ·exact zoh h
  ·rename_i hz
   cases h;exact hz
structure eK(m:Map)(a b:zf):Prop where
 sa:(gX a).1=0
 sb:(gX b).1=0
 J2:m.1.length<=256
 typed:∀p∈m.1,nL p a b=true
 dup:jo [] m.1 0=none
 J3:m.2.1.length<=256
 rules:∀r∈m.2.1,dw r a b=0
 uG:F5 [] m.2.1
theorem zqf{m:Map}{a b:zf}:(du m a b).1=0↔eK m a b:=by
 constructor
 ·intro h
  unfold du at h
  split at h
  ·split at h
   ·rename_i h1 h2
    split at h
    ·cases h
    ·rename_i h3
     split at h
     ·rename_i e he
      exact absurd h (zvg he)
     ·rename_i hm
      split at h
      ·cases h
      ·rename_i h4
       split at h
       ·rename_i e he
        exact absurd h (zoh he)
       ·rename_i hr
        obtain⟨g1,g2⟩:=RX.1 hm
        obtain⟨g3,g4⟩:=RP.1 hr
        exact⟨h1,h2,by omega,g1,g2,by omega,g3,g4⟩
   ·cases h
  ·cases h
 ·intro h
  unfold du
  have e1:=RX.2 ⟨h.typed,h.dup⟩
  have e2:oC a b [] m.2.1 0=none:=RP.2 ⟨h.rules,h.uG⟩
  have l1:=h.J2
  have l2:=h.J3
  rw[if_pos h.sa,if_pos h.sb,if_neg (by omega),e1]
  simp only
  rw[if_neg (by omega),e2]
theorem eK.eq{m:Map}{a b:zf}(h:eK m a b):du m a b=(0,0,0):=by
 unfold du
 have e1:=RX.2 ⟨h.typed,h.dup⟩
 have e2:oC a b [] m.2.1 0=none:=RP.2 ⟨h.rules,h.uG⟩
 have l1:=h.J2
 have l2:=h.J3
 rw[if_pos h.sa,if_pos h.sb,if_neg (by omega),e1]
 simp only
 rw[if_neg (by omega),e2]
theorem eC.turn{l:List bA}(h:eC l):eC (lz l):=⟨by rw[agS];exact h.len,fun p hp=>by
 unfold lz at hp
 obtain⟨q,hq,rfl⟩:=List.mem_map.1 hp
 exact⟨(h.sz q hq).2,(h.sz q hq).1⟩⟩
theorem dG.turn{m:Map}(h:dG m):dG (Ku m):=⟨h.nj.turn,by show(m.2.1.map uF).length<=_;rw[List.length_map];exact h.len,fun r hr=>by
 obtain⟨q,hq,rfl⟩:=List.mem_map.1 (show r∈m.2.1.map uF from hr)
 exact⟨(h.rules q hq).text,(h.rules q hq).fc.turn⟩⟩
theorem ajF(l:List bh)(no:Int)(t:ByteArray):(l5 l no t).length=l.length+1:=by
 unfold l5
 rcases ON no l 0 (Int.le_refl _) with⟨h1,_⟩|h1
 ·rw[h1,zT (by omega:(-1:Int)<0),zC,List.length_append];rfl
 ·rw[zF (by omega:¬cm no l 0<0),zD,List.length_append,List.length_take,List.length_cons,List.length_drop]
  omega
theorem Sk(m:bJ)(no:Int)(t:ByteArray):(ej m no t).2.1.length<=m.2.1.length+1:=by
 show(l5 (eS m.2.1 no) no t).length<=_
 rw[ajF]
 have:=K0 m.2.1 no
 omega
theorem akp(m:Map)(t:ByteArray)(h:m.1.length<=maxLen):te m t=some (zw m.1 t):=by
 unfold te Vl
 dsimp only
 have:=cu jc m.1 h (fun i (x:bA) (s:Unit) K=>bif decide (x.1=t) then some (Sum.inl (x.2.1,true)) else K s) (fun _=>some (Sum.inr ()))
  (fun k i s=>P1 k t m.1 (m.1.length:Int) i) (fun k i s=>rfl) ()
 rw[this,zcf]
 unfold zw
 cases m.1.find? fun p=>decide (p.1=t)<;>rfl
def eU(m:Map)(no:Int):Option aU:=m.2.1.find? fun r=>decide (r.2.1=no)
def zY(o:Option aU):Option (Sum (Bool×aU) aU):=some (match o with
 |some r=> .inl (true,r)
 |none=> .inr gE)
theorem Mk(no:Int):∀(l:List aU) (i:Int),bj (fun i (x:aU) (s:Unit) K=>(bif(decide (x.2.1=no)) then some (Sum.inl (true,x)) else K s)) (fun _=>some (Sum.inr gE)) l i ()=zY (l.find? fun r=>decide (r.2.1=no))
 | [],i=>rfl
 |x::r,i=>by
  rw[bj,List.find?_cons]
  cases hx:decide (x.2.1=no) with
  |true=>rfl
  |false=>rw[zD];exact Mk no r (i+1)
theorem ahc(m:Map)(no:Int)(h:m.2.1.length<=maxLen):nZ m no=some (match eU m no with
 |some r=>(r,true)
 |none=>(gE,false)):=by
 unfold nZ Vj eU
 dsimp only
 have:=cu gE m.2.1 h (fun i (x:aU) (s:Unit) K=>(bif(decide (x.2.1=no)) then some (Sum.inl (true,x)) else K s)) (fun _=>some (Sum.inr gE))
  (fun k i s=>P0 k no m.2.1 (m.2.1.length:Int) i gE) (fun k i s=>rfl) ()
 rw[this,Mk]
 unfold zY
 cases m.2.1.find? fun r=>decide (r.2.1=no)<;>rfl
def rE:List aU->bJ->bJ
 | [],out=>out
 |r::l,out=>rE l (bif decide (r.1=3) then ej out r.2.2.1 r.2.2.2.1 else out)
theorem zah:∀(l:List aU) (out:bJ),(rE l out).2.1.length<=out.2.1.length+l.length
 | [],out=>Nat.le_refl _
 |r::l,out=>by
  rw[rE,List.length_cons]
  cases decide (r.1=3) with
  |true=>rw[zC];have:=zah l (ej out r.2.2.1 r.2.2.2.1);have:=Sk out r.2.2.1 r.2.2.2.1;omega
  |false=>rw[zD];have:=zah l out;omega
theorem zdf{ρ:Type}(fin:bJ->Option ρ):∀(l:List aU) (i:Int) (out:bJ),out.2.1.length+l.length<=1000000->
 bj (fun i (x:aU) (s:bJ) K=>(bif(decide (x.1=(3:Int))) then((hG s x.2.2.1 x.2.2.2.1).bind fun r4=>K r4) else K s)) fin l i out=fin (rE l out)
 | [],i,out,_=>rfl
 |r::l,i,out,h=>by
  simp only[List.length_cons] at h
  rw[bj,rE]
  cases decide (r.1=3) with
  |true=>
   rw[zC,zC,Sm out _ _ (by omega),zc]
   have:=Sk out r.2.2.1 r.2.2.2.1
   exact zdf fin l (i+1) _ (by omega)
  |false=>
   rw[zD,zD]
   exact zdf fin l (i+1) out (by omega)
def A7(m:Map)(b:zf):List bh->bJ->Sum (bY×bJ) bJ
 | [],out=> .inr out
 |v::r,out=>match eU m v.1 with
  |none=> .inl ((9,v.1,()),out)
  |some q=>bif !decide ((gk q b v.2.1).2=0) then .inl (((gk q b v.2.1).2,v.1,()),out) else A7 m b r (bif !decide ((gk q b v.2.1).1.1=0) then ej out (gk q b v.2.1).1.1 (gk q b v.2.1).1.2.1 else out)
abbrev dn:bJ:=(bs [],[],())
def Mi(o:Sum (bY×bJ) bJ):Option (Sum (bJ×bY×bJ) (bJ×bY×bJ)):=some (match o with
 | .inl (f,out)=> .inl (dn,f,out)
 | .inr out=> .inr (dn,km,out))
theorem FX{m:Map}{no:Int}{r:aU}(h:eU m no=some r):r∈m.2.1/\r.2.1=no:=⟨List.mem_of_find?_eq_some h,by simpa using List.find?_some h⟩
theorem zam(m:Map)(b:zf)(hm:dG m)(hb:b.2.2.1.length<=maxLen):∀(l:List bh) (i:Int) (out:bJ),out.2.1.length+l.length<=1000000->(∀v∈l,v.2.1.size<=1099511627776)->
 bj (fun i (x:bh) (s:bJ) K=>((nZ m x.1).bind fun r5=>(bif(!r5.2) then some (Sum.inl (dn,((9:Int),x.1,()),s)) else((nV r5.1 b x.2.1).bind fun r6=>(bif(!(decide (r6.2=(0:Int)))) then some (Sum.inl (dn,(r6.2,x.1,()),s)) else(bif(!(decide (r6.1.1=(0:Int)))) then((hG s r6.1.1 r6.1.2.1).bind fun r7=>K r7) else K s)))))) (fun s=>some (Sum.inr (dn,km,s))) l i out=Mi (A7 m b l out)
 | [],i,out,_,_=>rfl
 |v::r,i,out,h,ht=>by
  simp only[List.length_cons] at h
  have hl:=hm.len
  have hv:=ht v List.mem_cons_self
  rw[bj,ahc m v.1 (by rw[zh];omega),zc,A7]
  cases hf:eU m v.1 with
  |none=>rfl
  |some q=>
   dsimp only
   obtain⟨q1,_⟩:=FX hf
   have qp:=(hm.rules q q1).fc.len
   rw[Bool.not_true,zD,abL q b v.2.1 (by rw[zh];omega) hb (by rw[zh];omega),zc]
   generalize gk q b v.2.1=y
   cases decide (y.2=0) with
   |false=>rfl
   |true=>
    rw[Bool.not_true,zD,zD]
    cases decide (y.1.1=0) with
    |true=>
     rw[Bool.not_true,zD,zD]
     exact zam m b hm hb r (i+1) out (by omega) (fun w hw=>ht w (List.mem_cons_of_mem _ hw))
    |false=>
     rw[Bool.not_false,zC,zC,Sm out _ _ (by omega),zc]
     have:=Sk out y.1.1 y.1.2.1
     exact zam m b hm hb r (i+1) _ (by omega) (fun w hw=>ht w (List.mem_cons_of_mem _ hw))
def rI(m:Map)(a b:zf)(x:bJ):bJ×bY:=
 bif !decide ((du m a b).1=0) then(dn,(1,-1,())) else bif !decide ((gy a x).1=0) then(dn,gy a x) else bif !(zw m.1 x.1).2 then(dn,(7,0,()))
 else match A7 m b x.2.1 (rE m.2.1 ((zw m.1 x.1).1,[],())) with
  | .inl (f,_)=>(dn,f)
  | .inr out=>(out,km)
theorem abu(m:Map)(a b:zf)(x:bJ)(hm:dG m)(hm2:m.2.1.length<=900000)(hx:eN x)(Au:x.2.1.length<=90000)(ha:a.2.2.1.length<=maxLen)(hb:b.2.2.1.length<=maxLen):qJ m a b x=some (rI m a b x):=by
 have hl:=hm.nj.len
 unfold qJ Vg rI
 rw[z7o m a b hm ha hb,zc]
 cases decide ((du m a b).1=0) with
 |false=>rfl
 |true=>
  rw[Bool.not_true,zD,zD,zob a x ha hx,zc]
  cases decide ((gy a x).1=0) with
  |false=>rfl
  |true=>
   rw[Bool.not_true,zD,zD,akp m x.1 (by rw[zh];omega),zc]
   cases(zw m.1 x.1).2 with
   |false=>rfl
   |true=>
    rw[Bool.not_true,zD,zD]
    dsimp only
    have h1:=cu gE m.2.1 (by rw[zh];omega) (fun i (x:aU) (s:bJ) K=>(bif(decide (x.1=(3:Int))) then((hG s x.2.2.1 x.2.2.2.1).bind fun r4=>K r4) else K s)) (fun s=>some (m,b,x,dn,km,s))
     (fun k i s=>PY k m.2.1 (m.2.1.length:Int) i m b x dn km s) (fun k i s=>rfl) ((zw m.1 x.1).1,[],())
    rw[h1,zdf _ _ _ _ (by simp;omega),zc]
    unfold Vh
    dsimp only
    have hc:=zah m.2.1 ((zw m.1 x.1).1,[],())
    have hc:(rE m.2.1 ((zw m.1 x.1).1,[],())).2.1.length<=m.2.1.length:=by simpa using hc
    have h2:=cu ns x.2.1 (by rw[zh];omega) (fun i (x:bh) (s:bJ) K=>((nZ m x.1).bind fun r5=>(bif(!r5.2) then some (Sum.inl (dn,((9:Int),x.1,()),s)) else((nV r5.1 b x.2.1).bind fun r6=>(bif(!(decide (r6.2=(0:Int)))) then some (Sum.inl (dn,(r6.2,x.1,()),s)) else(bif(!(decide (r6.1.1=(0:Int)))) then((hG s r6.1.1 r6.1.2.1).bind fun r7=>K r7) else K s)))))) (fun s=>some (Sum.inr (dn,km,s)))
     (fun k i s=>PZ k x.2.1 (x.2.1.length:Int) i m b dn km s) (fun k i s=>rfl) (rE m.2.1 ((zw m.1 x.1).1,[],()))
    rw[h2,zam m b hm hb _ _ _ (by omega) hx.rV]
    unfold Mi
    cases A7 m b x.2.1 (rE m.2.1 ((zw m.1 x.1).1,[],())) with
    |inl p=>obtain⟨f,o⟩:=p;rfl
    |inr o=>rfl
abbrev jN(l:List bh):Prop:=l.Pairwise fun x y=>x.1<y.1
def l4(no:Int)(t:ByteArray):List bh->List bh
 | []=>[(no,t,())]
 |x::r=>if no<x.1 then(no,t,())::x::r else x::l4 no t r
theorem zo6(no:Int):∀(l:List bh) (i d:Int),0<=i->0<=d->cm no l (i+d)=if cm no l i<0 then-1 else cm no l i+d
 | [],i,d,_,_=>by unfold cm;rw[if_pos (by omega)]
 |x::r,i,d,hi,hd=>by
  unfold cm
  by_cases hx:no<x.1
  ·rw[if_pos hx,if_pos hx,if_neg (by omega)]
  ·rw[if_neg hx,if_neg hx,show i+d+1=(i+1)+d by omega]
   exact zo6 no r (i+1) d (by omega) hd
theorem CS(no:Int)(t:ByteArray):∀l:List bh,l5 l no t=l4 no t l
 | []=>rfl
 |x::r=>by
  have ih:=CS no t r
  unfold l5 at ih⊢
  unfold l4
  by_cases hx:no<x.1
  ·have:cm no (x::r) 0=0:=by unfold cm;rw[if_pos hx]
   rw[this,if_pos hx];rfl
  ·rw[if_neg hx,<-ih]
   have h0:cm no (x::r) 0=cm no r (0+1):=by
    show(if no<x.1 then(0:Int) else cm no r (0+1))=_
    rw[if_neg hx]
   rw[h0,zo6 no r 0 1 (by omega) (by omega)]
   rcases ON no r 0 (Int.le_refl _) with⟨h1,_⟩|h1
   ·rw[h1,if_pos (by omega)];rfl
   ·rw[if_neg (by omega),zF (by omega:¬cm no r 0+1<0),zF (by omega:¬cm no r 0<0),zD,zD]
    have:(cm no r 0+1).toNat=(cm no r 0).toNat+1:=by omega
    rw[this];rfl
theorem zqd(no:Int)(t:ByteArray)(v:bh):∀l:List bh,v∈l4 no t l↔v=(no,t,())\/v∈l
 | []=>by simp [l4]
 |x::r=>by
  unfold l4
  split
  ·simp
  ·rw[List.mem_cons,zqd no t v r,List.mem_cons]
   constructor
   ·rintro(h|h|h)
    ·exact .inr (.inl h)
    ·exact .inl h
    ·exact .inr (.inr h)
   ·rintro(h|h|h)
    ·exact .inr (.inl h)
    ·exact .inl h
    ·exact .inr (.inr h)
theorem Mu(no:Int)(t:ByteArray):∀{l:List bh},jN l->(∀x∈l,x.1≠no)->jN (l4 no t l)
 | [],_,_=>by simp [l4,jN]
 |x::r,h,hn=>by
  have hx:=hn x List.mem_cons_self
  rw[jN,List.pairwise_cons] at h
  unfold l4
  split
  ·rename_i aq
   refine List.pairwise_cons.2 ⟨fun y hy=> ?_,List.pairwise_cons.2 h⟩
   rcases List.mem_cons.1 hy with rfl|hy
   ·exact aq
   ·have:=h.1 y hy
    show no<y.1
    omega
  ·rename_i aq
   refine List.pairwise_cons.2 ⟨fun y hy=> ?_,Mu no t h.2 (fun z hz=>hn z (List.mem_cons_of_mem _ hz))⟩
   rcases(zqd no t y r).1 hy with rfl|hy
   ·show x.1<no
    omega
   ·exact h.1 y hy
theorem K1{l:List bh}{no:Int}{v:bh}:v∈eS l no↔v∈l/\v.1≠no:=by
 unfold eS
 rw[List.mem_filter]
 simp
theorem Sl(m:bJ)(no:Int)(t:ByteArray)(v:bh):v∈(ej m no t).2.1↔v=(no,t,())\/(v∈m.2.1/\v.1≠no):=by
 show v∈l5 (eS m.2.1 no) no t↔_
 rw[CS,zqd,K1]
theorem ziq{m:bJ}(h:jN m.2.1)(no:Int)(t:ByteArray):jN (ej m no t).2.1:=by
 show jN (l5 (eS m.2.1 no) no t)
 rw[CS]
 exact Mu no t (h.filter _) (fun x hx=>(K1.1 hx).2)
theorem NV:∀{l r:List bh},jN l->jN r->(∀v,v∈l↔v∈r)->l=r
 | [],[],_,_,_=>rfl
 | [],y::r,_,_,h=>by have:=(h y).2 List.mem_cons_self;cases this
 |x::l,[],_,_,h=>by have:=(h x).1 List.mem_cons_self;cases this
 |x::l,y::r,hl,hr,h=>by
  have kC:=List.pairwise_cons.1 hl
  have Y5:=List.pairwise_cons.1 hr
  have e:x=y:=by
   rcases List.mem_cons.1 ((h x).1 List.mem_cons_self) with e|e
   ·exact e
   ·rcases List.mem_cons.1 ((h y).2 List.mem_cons_self) with e2|e2
    ·exact e2.symm
    ·have a1:=Y5.1 x e
     have a2:=kC.1 y e2
     omega
  subst e
  congr 1
  refine NV kC.2 Y5.2 fun v=>⟨fun hv=> ?_,fun hv=> ?_⟩
  ·rcases List.mem_cons.1 ((h v).1 (List.mem_cons_of_mem _ hv)) with e|e
   ·subst e;have:=kC.1 _ hv;omega
   ·exact e
  ·rcases List.mem_cons.1 ((h v).2 (List.mem_cons_of_mem _ hv)) with e|e
   ·subst e;have:=Y5.1 _ hv;omega
   ·exact e
def sf:List bh->bJ->bJ
 | [],out=>out
 |v::l,out=>sf l (ej out v.1 v.2.1)
def jF(l:List bh):Prop:=l.Pairwise fun x y=>x.1≠y.1
theorem zoe:∀(l:List bh) (out:bJ),(sf l out).1=out.1
 | [],out=>rfl
 |v::l,out=>zoe l _
theorem zvk:∀(l:List bh) {out:bJ},jN out.2.1->jN (sf l out).2.1
 | [],out,h=>h
 |v::l,out,h=>zvk l (ziq h v.1 v.2.1)
theorem zvj:∀(l:List bh) (out:bJ),jF l->(∀v∈l,∀w∈out.2.1,v.1≠w.1)->∀v,v∈(sf l out).2.1↔v∈out.2.1\/v∈l
 | [],out,_,_,v=>by simp [sf]
 |x::l,out,ha,hd,v=>by
  have Ac:=List.pairwise_cons.1 ha
  have hx:(x.1,x.2.1,())=x:=rfl
  rw[sf,zvj l _ Ac.2 (fun y hy w hw=> ?_) v,Sl,hx,List.mem_cons]
  ·constructor
   ·rintro((h|h)|h)
    ·exact .inr (.inl h)
    ·exact .inl h.1
    ·exact .inr (.inr h)
   ·rintro(h|h|h)
    ·exact .inl (.inr ⟨h,fun e=>hd x List.mem_cons_self v h e.symm⟩)
    ·exact .inl (.inl h)
    ·exact .inr h
  ·rcases(Sl out x.1 x.2.1 w).1 hw with e|e
   ·rw[e];exact fun h=>Ac.1 y hy h.symm
   ·exact hd y (List.mem_cons_of_mem _ hy) w e.1
theorem zdu:∀(l r:List bh) (out:bJ),sf (l++r) out=sf r (sf l out)
 | [],r,out=>rfl
 |v::l,r,out=>zdu l r _
def jE(l:List aU):List bh:=(l.filter fun r=>decide (r.1=3)).map fun r=>(r.2.2.1,r.2.2.2.1,())
theorem zai:∀(l:List aU) (out:bJ),rE l out=sf (jE l) out
 | [],out=>rfl
 |r::l,out=>by
  rw[rE]
  unfold jE
  rw[List.filter_cons]
  cases decide (r.1=3) with
  |true=>exact zai l _
  |false=>exact zai l _
def kl(m:Map)(b:zf):List bh->Sum bY (List bh)
 | []=> .inr []
 |v::r=>match eU m v.1 with
  |none=> .inl (9,v.1,())
  |some q=>bif !decide ((gk q b v.2.1).2=0) then .inl ((gk q b v.2.1).2,v.1,()) else match kl m b r with
   | .inl f=> .inl f
   | .inr ys=> .inr ((gk q b v.2.1).1::ys)
def cz(l:List bh):List bh:=l.filter fun v=> !decide (v.1=0)
theorem zal(m:Map)(b:zf):∀(l:List bh) (out:bJ),(∃f o,A7 m b l out= .inl (f,o)/\kl m b l= .inl f)\/(∃ys,A7 m b l out= .inr (sf (cz ys) out)/\kl m b l= .inr ys)
 | [],out=> .inr ⟨[],rfl,rfl⟩
 |v::r,out=>by
  rw[A7,kl]
  cases eU m v.1 with
  |none=>exact .inl ⟨_,_,rfl,rfl⟩
  |some q=>
   dsimp only
   generalize gk q b v.2.1=y
   cases decide (y.2=0) with
   |false=>exact .inl ⟨_,_,rfl,rfl⟩
   |true=>
    rw[Bool.not_true,zD,zD]
    cases hz:decide (y.1.1=0) with
    |true=>
     rw[Bool.not_true,zD]
     rcases zal m b r out with⟨f,o,h1,h2⟩|⟨ys,h1,h2⟩
     ·exact .inl ⟨f,o,h1,by rw[h2]⟩
     ·refine .inr ⟨y.1::ys,?_,by rw[h2]⟩
      rw[h1]
      have:cz (y.1::ys)=cz ys:=by unfold cz;rw[List.filter_cons,hz];rfl
      rw[this]
    |false=>
     rw[Bool.not_false,zC]
     rcases zal m b r (ej out y.1.1 y.1.2.1) with⟨f,o,h1,h2⟩|⟨ys,h1,h2⟩
     ·exact .inl ⟨f,o,h1,by rw[h2]⟩
     ·refine .inr ⟨y.1::ys,?_,by rw[h2]⟩
      rw[h1]
      have:cz (y.1::ys)=y.1::cz ys:=by unfold cz;rw[List.filter_cons,hz];rfl
      rw[this]
      rfl
theorem OM{m:Map}{b:zf}:∀{l ys:List bh},kl m b l= .inr ys->∀y∈ys,∃v∈l,∃q,eU m v.1=some q/\(gk q b v.2.1).2=0/\y=(gk q b v.2.1).1
 | [],ys,h,y,hy=>by cases h;cases hy
 |v::r,ys,h,y,hy=>by
  rw[kl] at h
  cases hf:eU m v.1 with
  |none=>rw[hf] at h;cases h
  |some q=>
   rw[hf] at h
   dsimp only at h
   cases hz:decide ((gk q b v.2.1).2=0) with
   |false=>rw[hz] at h;cases h
   |true=>
    rw[hz,Bool.not_true,zD] at h
    cases hr:kl m b r with
    |inl f=>rw[hr] at h;cases h
    |inr zs=>
     rw[hr] at h
     cases h
     rcases List.mem_cons.1 hy with rfl|hy
     ·exact⟨v,List.mem_cons_self,q,hf,of_decide_eq_true hz,rfl⟩
     ·obtain⟨w,hw,q',g⟩:=OM hr y hy
      exact⟨w,List.mem_cons_of_mem _ hw,q',g⟩
theorem adw(x y:aU):ko x y=ko y x:=by
 unfold ko
 have e1:(!decide (x.2.1=0)&&decide (x.2.1=y.2.1))=(!decide (y.2.1=0)&&decide (y.2.1=x.2.1)):=by
  by_cases h:x.2.1=y.2.1
  ·rw[h]
  ·rw[zF h,zF (show¬y.2.1=x.2.1 from fun e=>h e.symm),Bool.and_false,Bool.and_false]
 have e2:(!decide (x.2.2.1=0)&&decide (x.2.2.1=y.2.2.1))=(!decide (y.2.2.1=0)&&decide (y.2.2.1=x.2.2.1)):=by
  by_cases h:x.2.2.1=y.2.2.1
  ·rw[h]
  ·rw[zF h,zF (show¬y.2.2.1=x.2.2.1 from fun e=>h e.symm),Bool.and_false,Bool.and_false]
 rw[e1,e2]
theorem zi8:∀{l prev:List aU},F5 prev l->l.Pairwise (fun x y=>ko x y=false)/\∀p∈prev,∀x∈l,ko p x=false
 | [],prev,h=>⟨List.Pairwise.nil,fun _ _ x hx=>by cases hx⟩
 |r::l,prev,h=>by
  obtain⟨h1,h2⟩:=h
  obtain⟨i1,i2⟩:=zi8 h2
  have hp:∀p∈prev,ko p r=false:=fun p hp=>by
   have:=List.any_eq_false.1 h1 p hp
   simpa using this
  refine⟨List.pairwise_cons.2 ⟨fun y hy=>i2 r (by simp) y hy,i1⟩,fun p hp' x hx=> ?_⟩
  rcases List.mem_cons.1 hx with rfl|hx
  ·exact hp p hp'
  ·exact i2 p (by simp [hp']) x hx
theorem zin{x y:aU}(h:ko x y=false)(hx:x.2.2.1≠0):x.2.2.1≠y.2.2.1:=by
 intro e
 unfold ko at h
 rw[Bool.or_eq_false_iff] at h
 have:=h.2
 rw[zF hx,zT e] at this
 cases this
theorem MG{l:List aU}(h:l.Pairwise fun x y=>ko x y=false):∀x∈l,∀y∈l,x≠y->ko x y=false:=by
 induction l with
 |nil=>intro x hx;cases hx
 |cons r l ih=>
  obtain⟨h1,h2⟩:=List.pairwise_cons.1 h
  intro x hx y hy bI
  rcases List.mem_cons.1 hx with e1|hx1
  ·rcases List.mem_cons.1 hy with e2|Zn
   ·exact absurd (e1.trans e2.symm) bI
   ·rw[e1];exact h1 y Zn
  ·rcases List.mem_cons.1 hy with e2|Zn
   ·rw[adw,e2];exact h1 x hx1
   ·exact ih h2 x hx1 y Zn bI
theorem z31{s:zf}:∀{l:List bh} {last:Int},sc s l last=none↔(∀v∈l,bq s v.1=true/\bH (aY s v.1) v.2.1=0)/\jN l/\∀v∈l,last<v.1
 | [],last=>by simp [sc,jN]
 |x::r,last=>by
  rw[sc]
  by_cases h1:x.1<=last
  ·rw[zT h1,zC]
   refine⟨fun h=>(by cases h),fun h=> ?_⟩
   have:=h.2.2 x List.mem_cons_self
   omega
  rw[zF h1,zD]
  cases h2:bq s x.1 with
  |false=>
   refine⟨fun h=>(by cases h),fun h=> ?_⟩
   have:=(h.1 x List.mem_cons_self).1
   rw[h2] at this;cases this
  |true=>
   rw[Bool.not_true,zD]
   by_cases h3:bH (aY s x.1) x.2.1=0
   ·rw[zT h3,Bool.not_true,zD,z31]
    constructor
    ·rintro⟨g1,g2,g3⟩
     refine⟨fun v hv=> ?_,List.pairwise_cons.2 ⟨g3,g2⟩,fun v hv=> ?_⟩
     ·rcases List.mem_cons.1 hv with rfl|hv
      ·exact⟨h2,h3⟩
      ·exact g1 v hv
     ·rcases List.mem_cons.1 hv with rfl|hv
      ·omega
      ·have:=g3 v hv;omega
    ·rintro⟨g1,g2,g3⟩
     have g2:=List.pairwise_cons.1 g2
     exact⟨fun v hv=>g1 v (List.mem_cons_of_mem _ hv),g2.2,g2.1⟩
   ·rw[zF h3,Bool.not_false,zC]
    refine⟨fun h=>(by cases h),fun h=> ?_⟩
    exact absurd (h.1 x List.mem_cons_self).2 h3
theorem zhx{s:zf}:∀{l:List bh} {last:Int} {f:bY},sc s l last=some f->f.1≠0
 | [],last,f,h=>by cases h
 |x::r,last,f,h=>by
  rw[sc] at h
  cases h1:decide (x.1<=last) with
  |true=>rw[h1] at h;cases h;exact(by decide:(11:Int)≠0)
  |false=>
   rw[h1,zD] at h
   cases h2:bq s x.1 with
   |false=>rw[h2] at h;cases h;exact(by decide:(9:Int)≠0)
   |true=>
    rw[h2,Bool.not_true,zD] at h
    by_cases h3:bH (aY s x.1) x.2.1=0
    ·rw[zT h3,Bool.not_true,zD] at h
     exact zhx h
    ·rw[zF h3,Bool.not_false,zC] at h
     cases h
     exact h3
structure kx(s:zf)(m:bJ):Prop where
 iw:(gX s).1=0
 right:fJ m.1=true
 ver:gj m.1=s.2.1
 js:sc s m.2.1 0=none
theorem Pd{s:zf}{m:bJ}:(gy s m).1=0↔kx s m:=by
 unfold gy
 by_cases h1:(gX s).1=0
 ·rw[zT h1,Bool.not_true,zD]
  cases h2:fJ m.1 with
  |false=>exact⟨fun h=>absurd h (show¬(7:Int)=0 by decide),fun h=>by have:=h.right;rw[h2] at this;cases this⟩
  |true=>
   rw[Bool.not_true,zD]
   by_cases h3:gj m.1=s.2.1
   ·rw[zT h3,Bool.not_true,zD]
    cases h4:sc s m.2.1 0 with
    |none=>exact⟨fun _=>⟨h1,h2,h3,h4⟩,fun _=>rfl⟩
    |some f=>exact⟨fun h=>absurd h (zhx h4),fun h=>by have:=h.js;rw[h4] at this;cases this⟩
   ·rw[zF h3]
    exact⟨fun h=>absurd h (show¬(7:Int)=0 by decide),fun h=>absurd h.ver h3⟩
 ·rw[zF h1]
  exact⟨fun h=>absurd h (show¬(1:Int)=0 by decide),fun h=>absurd h.iw h1⟩
theorem kx.eq{s:zf}{m:bJ}(h:kx s m):gy s m=km:=by
 unfold gy
 rw[zT h.iw,h.right,zT h.ver,h.js];rfl
theorem Eg{s:zf}(h:iD s){no:Int}(hh:bq s no=true):2<=no/\no<=128:=by
 have:=(zoj (Si h hh)).1
 rw[(Sv hh).2] at this
 exact this
theorem OY{q:aU}{b:zf}{t:ByteArray}(h:(gk q b t).2=0)(hz:(gk q b t).1.1≠0):q.1≠2/\(gk q b t).1.1=q.2.2.1:=by
 unfold gk at h hz⊢
 by_cases k1:q.1=1
 ·rw[zT k1,zC];exact⟨by omega,rfl⟩
 rw[zF k1,zD] at h hz⊢
 by_cases k2:q.1=2
 ·rw[zT k2,zC] at hz;exact absurd rfl hz
 rw[zF k2,zD] at h hz⊢
 refine⟨k2,?_⟩
 by_cases k3:q.1=3
 ·rw[zT k3,zC]
 rw[zF k3,zD] at h hz⊢
 by_cases k4:q.1=4
 ·rw[zT k4,zC] at h hz⊢
  cases hs:bq b q.2.2.1 with
  |false=>rw[hs] at h;cases h
  |true=>
   rw[hs] at h
   rw[Bool.not_true,zD] at h⊢
   cases hp:(fE t (aY b q.2.2.1).2.2.2.1).2 with
   |false=>rw[hp] at h;cases h
   |true=>rfl
 rw[zF k4,zD] at h hz⊢
 by_cases k5:q.1=5
 ·rw[zT k5,zC] at h hz⊢
  cases hp:(zw q.2.2.2.2.1 t).2 with
  |false=>rw[hp] at h;cases h
  |true=>rfl
 ·rw[zF k5,zD] at hz;exact absurd rfl hz
theorem F0{l:List bh}{v:bh}:v∈cz l↔v∈l/\v.1≠0:=by
 unfold cz
 rw[List.mem_filter]
 simp
section
variable {m:Map} {a b:zf}
theorem eK.fc(h:eK m a b):m.2.1.Pairwise fun x y=>ko x y=false:=(zi8 h.uG).1
theorem eK.okA(h:eK m a b):iD a:=(AV a).1 h.sa
theorem eK.okB(h:eK m a b):iD b:=(AV b).1 h.sb
theorem eK.to(h:eK m a b){r:aU}(hr:r∈m.2.1)(k:r.1≠2):bq b r.2.2.1=true:=(zhu (RZ (h.rules r hr)).2.1).2.2.2 k
theorem eK.RK(h:eK m a b){r:aU}(hr:r∈m.2.1)(k:r.1≠2):r.2.2.1≠0:=by
 have:=Eg h.okB (h.to hr k)
 omega
theorem MW(h:eK m a b):∀{l ys:List bh},jN l->kl m b l= .inr ys->jF (cz ys)
 | [],ys,_,hy=>by cases hy;exact List.Pairwise.nil
 |v::r,ys,hr,hy=>by
  rw[kl] at hy
  have hr:=List.pairwise_cons.1 hr
  cases hf:eU m v.1 with
  |none=>rw[hf] at hy;cases hy
  |some q=>
   rw[hf] at hy
   dsimp only at hy
   cases hz:decide ((gk q b v.2.1).2=0) with
   |false=>rw[hz] at hy;cases hy
   |true=>
    rw[hz,Bool.not_true,zD] at hy
    cases hv:kl m b r with
    |inl f=>rw[hv] at hy;cases hy
    |inr zs=>
     rw[hv] at hy
     cases hy
     have ih:=MW h hr.2 hv
     unfold cz at ih⊢
     rw[List.filter_cons]
     split
     ·rename_i YW
      have YW:(gk q b v.2.1).1.1≠0:=by simpa using YW
      refine List.pairwise_cons.2 ⟨fun z hzm=> ?_,ih⟩
      obtain⟨z1,z2⟩:=F0.1 hzm
      obtain⟨w,hw,q',hf',h0',rfl⟩:=OM hv z z1
      obtain⟨a1,a2⟩:=OY (of_decide_eq_true hz) YW
      obtain⟨b1,b2⟩:=OY h0' z2
      rw[a2,b2]
      obtain⟨qm,qf⟩:=FX hf
      obtain⟨qm',qf'⟩:=FX hf'
      have aq:=hr.1 w hw
      have bI:q≠q':=fun e=>by subst e;omega
      exact zin (MG h.fc q qm q' qm' bI) (h.RK qm a1)
     ·exact ih
theorem RV{l:List aU}{v:bh}:v∈jE l↔∃r∈l,r.1=3/\v=(r.2.2.1,r.2.2.2.1,()):=by
 unfold jE
 rw[List.mem_map]
 constructor
 ·rintro⟨r,hr,rfl⟩
  rw[List.mem_filter] at hr
  exact⟨r,hr.1,of_decide_eq_true hr.2,rfl⟩
 ·rintro⟨r,hr,k,rfl⟩
  exact⟨r,List.mem_filter.2 ⟨hr,zT k⟩,rfl⟩
theorem aby(h:eK m a b):jF (jE m.2.1):=by
 unfold jE
 refine List.pairwise_map.2 ?_
 refine List.Pairwise.imp_of_mem ?_ (h.fc.filter _)
 intro x y hx hy Aw
 have hx:=List.mem_filter.1 hx
 have k:x.1=3:=of_decide_eq_true hx.2
 exact zin Aw (h.RK hx.1 (by omega))
theorem abZ(h:eK m a b){l ys:List bh}(hl:∀v∈l,bq a v.1=true)(hy:kl m b l= .inr ys):∀c∈jE m.2.1,∀y∈cz ys,c.1≠y.1:=by
 intro c hc y hym
 obtain⟨r,hr,k,rfl⟩:=RV.1 hc
 obtain⟨y1,y2⟩:=F0.1 hym
 obtain⟨w,hw,q,hf,h0,rfl⟩:=OM hy y y1
 obtain⟨b1,b2⟩:=OY h0 y2
 rw[b2]
 obtain⟨qm,qf⟩:=FX hf
 have hwr:=Eg h.okA (hl w hw)
 have hz:=(zhu (RZ (h.rules r hr)).2.1).1 k
 have bI:r≠q:=fun e=>by subst e;omega
 exact zin (MG h.fc r hr q qm bI) (h.RK hr (by omega))
theorem KD(h:eK m a b){l ys:List bh}(hr:jN l)(hl:∀v∈l,bq a v.1=true)(hy:kl m b l= .inr ys):jF (jE m.2.1++cz ys):=
 List.pairwise_append.2 ⟨aby h,MW h hr hy,abZ h hl hy⟩
theorem z119(h:eK m a b){l ys:List bh}(hy:kl m b l= .inr ys):∀v∈jE m.2.1++cz ys,bq b v.1=true:=by
 intro v hv
 rcases List.mem_append.1 hv with hv|hv
 ·obtain⟨r,hr,k,rfl⟩:=RV.1 hv
  exact h.to hr (by omega)
 ·obtain⟨y1,y2⟩:=F0.1 hv
  obtain⟨w,hw,q,hf,h0,rfl⟩:=OM hy v y1
  obtain⟨b1,b2⟩:=OY h0 y2
  rw[b2]
  exact h.to (FX hf).1 b1
end
def nG(vs:List bh):Nat->Nat->List bh
 |0,_=>[]
 |n+1,k=>(vs.filter fun v=>decide (v.1=(k:Int)))++nG vs n (k+1)
theorem RS{vs:List bh}{v:bh}:∀{n k:Nat},v∈nG vs n k↔v∈vs/\(k:Int)<=v.1/\v.1<((k+n:Nat):Int)
 |0,k=>by simp only[nG,List.not_mem_nil,false_iff];omega
 |n+1,k=>by
  rw[nG,List.mem_append,List.mem_filter,decide_eq_true_eq,RS]
  constructor
  ·rintro(⟨h1,h2⟩|⟨h1,h2,h3⟩)
   ·exact⟨h1,by omega,by omega⟩
   ·exact⟨h1,by omega,by omega⟩
  ·rintro⟨h1,h2,h3⟩
   by_cases e:v.1=(k:Int)
   ·exact .inl ⟨h1,e⟩
   ·exact .inr ⟨h1,by omega,by omega⟩
theorem zdd{vs:List bh}(h:jF (cz vs)):∀(n k:Nat),1<=k->jN (nG vs n k)
 |0,k,_=>List.Pairwise.nil
 |n+1,k,hk=>by
  rw[nG]
  refine List.pairwise_append.2 ⟨?_,zdd h n (k+1) (by omega),fun x hx y hy=> ?_⟩
  ·have e:(vs.filter fun v=>decide (v.1=(k:Int)))=(cz vs).filter fun v=>decide (v.1=(k:Int)):=by
    unfold cz
    rw[List.filter_filter]
    congr 1
    funext v
    by_cases hv:v.1=(k:Int)
    ·rw[zT hv,zF (by omega:¬v.1=0)];rfl
    ·rw[zF hv];rfl
   rw[e]
   refine List.Pairwise.imp_of_mem ?_ (h.filter _)
   intro x y hx hy bI
   have h1:=of_decide_eq_true (List.mem_filter.1 hx).2
   have h2:=of_decide_eq_true (List.mem_filter.1 hy).2
   omega
  ·have h1:=of_decide_eq_true (List.mem_filter.1 hx).2
   have h2:=(RS.1 hy).2.1
   omega
def XW(m:Map)(a b:zf)(x:bJ):bJ×bY:=
 bif !decide ((du m a b).1=0) then(dn,(1,-1,())) else bif !decide ((gy a x).1=0) then(dn,gy a x) else bif !(zw m.1 x.1).2 then(dn,(7,0,()))
 else match kl m b x.2.1 with
  | .inl f=>(dn,f)
  | .inr ys=>(((zw m.1 x.1).1,nG (ys++jE m.2.1) 127 2,()),km)
theorem zii(l r:List bh):cz (l++r)=cz l++cz r:=by unfold cz;rw[List.filter_append]
theorem zij{m:Map}{a b:zf}(h:eK m a b):cz (jE m.2.1)=jE m.2.1:=by
 unfold cz
 refine List.filter_eq_self.2 fun v hv=> ?_
 obtain⟨r,hr,k,rfl⟩:=RV.1 hv
 have:=h.RK hr (by omega)
 simpa using this
theorem zuf{l r:List bh}(h:jF (l++r)):jF (r++l):=by
 obtain⟨h1,h2,h3⟩:=List.pairwise_append.1 h
 exact List.pairwise_append.2 ⟨h2,h1,fun x hx y hy e=>h3 y hy x hx e.symm⟩
theorem afw{m:Map}{a b:zf}(h:eK m a b){l ys:List bh}(hr:jN l)(hl:∀v∈l,bq a v.1=true)(hy:kl m b l= .inr ys)(t:ByteArray):
 sf (cz ys) (rE m.2.1 (t,[],()))=(t,nG (ys++jE m.2.1) 127 2,()):=by
 rw[zai,<-zdu]
 have Ad:=KD h hr hl hy
 have hs:cz (ys++jE m.2.1)=cz ys++jE m.2.1:=by rw[zii,zij h]
 refine amm.2 ⟨zoe _ _,?_⟩
 refine NV (zvk _ List.Pairwise.nil) (zdd (by rw[hs];exact zuf Ad) 127 2 (by omega)) fun v=> ?_
 rw[zvj _ _ Ad (fun _ _ w hw=>by cases hw) v,RS]
 constructor
 ·rintro(hv|hv)
  ·cases hv
  ·have hb:=Eg h.okB (z119 h hy v hv)
   refine⟨?_,by omega,by omega⟩
   rcases List.mem_append.1 hv with hv|hv
   ·exact List.mem_append_right _ hv
   ·exact List.mem_append_left _ (F0.1 hv).1
 ·rintro⟨hv,h1,h2⟩
  right
  rcases List.mem_append.1 hv with hv|hv
  ·exact List.mem_append_right _ (F0.2 ⟨hv,by omega⟩)
  ·exact List.mem_append_left _ hv
theorem zvu(m:Map)(a b:zf)(x:bJ):rI m a b x=XW m a b x:=by
 unfold rI XW
 by_cases h1:(du m a b).1=0
 ·rw[zT h1,Bool.not_true,zD,zD]
  by_cases h2:(gy a x).1=0
  ·rw[zT h2,Bool.not_true,zD,zD]
   cases(zw m.1 x.1).2 with
   |false=>rfl
   |true=>
    rw[Bool.not_true,zD,zD]
    obtain⟨g1,g2,g3⟩:=z31.1 (Pd.1 h2).js
    rcases zal m b x.2.1 (rE m.2.1 ((zw m.1 x.1).1,[],())) with⟨f,o,e1,e2⟩|⟨ys,e1,e2⟩
    ·rw[e1,e2]
    ·rw[e1,e2]
     dsimp only
     rw[afw (zqf.1 h1) g2 (fun v hv=>(g1 v hv).1) e2]
  ·rw[zF h2];rfl
 ·rw[zF h1];rfl
end bn

namespace bn
open Go.IntKind renaming wrap->zW,i64->zI,u8->zU
open Go Go.Ref
abbrev Kr:Ty:= .pair (.int .i64) (.pair (.int .i64) (.pair (.int .i64) (.pair (.int .i64) (.pair (.int .i64) .unit))))
abbrev amy:Ty:= .pair (.int .i64) (.pair (.int .i64) (.pair (.sl 0 Kr) .unit))
end bn

